/- Texts of the law FnSharedPrice, part 2: what it uses. -/
import Derived.Test.YtnnkbpcfjjijbaaSp1
set_option linter.unusedVariables false
set_option linter.unusedSimpArgs false
namespace Go.Proofs.Ytnnkbpcfjjijbaa
open Go.RowKit Go.ChangeShapes
open Go.RowKit
open Go.Maps
set_option maxHeartbeats 4000000 in
theorem specRouteNodeOk_any (d : Dev) (n : Int) (w : World) :
    Calls Try.prog 96 #[.agg #[.int .i64 d.W, .int .i64 d.H, .int .i64 d.T, .int .i64 d.R], .int .i64 n] w fun e w' => e = .returned (.bool (nodeOkI d n)) ∧ Below w.heap.size w w' := by
  by_cases hneg : n < 0
  · have hf : Hid (nodeOkI d n = false) := nodeOk_out (inR_false (.inl hneg))
    have hS0 := devS_start w d
    have HS0 := Lib.hid hS0
    go_enter Try.func96, Try.ntmps96
    go_wp2
    go_ret
    exact ⟨rt_bool hf.out.symm, devS_end HS0.out⟩
  rcases Bool.eq_false_or_eq_true (devB d) with hv | hv
  rotate_left
  · have hf := Lib.hid (nodeOk_dev (n := n) hv)
    have hS0 := devS_start w d
    have HS0 := Lib.hid hS0
    go_enter Try.func96, Try.ntmps96
    go_wp2_with fail
    refine (specRouteNodes_no d hv _).mono ?_
    rintro e w1 ⟨rfl, hb1⟩
    have hS1 := devS_step HS0.out hb1
    have HS1 := Lib.hid hS1
    clear hS0
    obtain ⟨c0, c1, c2, c3, -⟩ := hS1
    clear hb1
    have hz1 : w.heap.size < w1.heap.size := World.block_lt_of_cell? _ _ c0
    go_wp2
    go_ret
    exact ⟨rt_bool hf.out.symm, devS_end HS1.out⟩
  obtain ⟨m1, m2⟩ := all_rng hv
  by_cases hbig : allI d ≤ n
  · have hf : Hid (nodeOkI d n = false) := nodeOk_out (inR_false (.inr (by omega)))
    have hS0 := devS_start w d
    have HS0 := Lib.hid hS0
    go_enter Try.func96, Try.ntmps96
    go_wp2_with fail
    refine (specRouteNodes_yes d hv _).mono ?_
    rintro e w1 ⟨rfl, hb1⟩
    have hS1 := devS_step HS0.out hb1
    have HS1 := Lib.hid hS1
    clear hS0
    obtain ⟨c0, c1, c2, c3, -⟩ := hS1
    clear hb1
    have hz1 : w.heap.size < w1.heap.size := World.block_lt_of_cell? _ _ c0
    go_wp2
    go_ret
    exact ⟨rt_bool hf.out.symm, devS_end HS1.out⟩
  have n0 : 0 ≤ n := by omega
  have n1 : n ≤ allI d - 1 := by omega
  have hf0 := nodeOk_in hv (inR_true n0 n1)
  obtain ⟨h1, h2⟩ := per_rng hv
  obtain ⟨p0, p1, p2, p3, p4⟩ := place_rng hv n0 n1
  obtain ⟨-, -, ⟨t1, t2⟩, -⟩ := (devB_iff d).1 hv
  have q1 : ¬ perI d = 0 := by omega
  by_cases k5 : n % perI d < 5
  · have hf := Lib.hid (hf0.trans (nodeB_in k5))
    clear hf0
    have kc := kind_cases d (n / perI d)
    have ke := Lib.hid (tileKind_eq p4)
    have hS0 := devS_start w d
    have HS0 := Lib.hid hS0
    go_enter Try.func96, Try.ntmps96
    go_wp2_with fail
    refine (specRouteNodes_yes d hv _).mono ?_
    rintro e w1 ⟨rfl, hb1⟩
    have hS1 := devS_step HS0.out hb1
    have HS1 := Lib.hid hS1
    clear hS0
    obtain ⟨c0, c1, c2, c3, -⟩ := hS1
    clear hb1
    have hz1 : w.heap.size < w1.heap.size := World.block_lt_of_cell? _ _ c0
    go_wp2_with fail
    refine (specPer_any d hv _).mono ?_
    rintro e w2 ⟨rfl, hb2⟩
    have hS2 := devS_step HS1.out hb2
    have HS2 := Lib.hid hS2
    clear c0 c1 c2 c3
    obtain ⟨c0, c1, c2, c3, -⟩ := hS2
    clear hb2
    have hz2 : w.heap.size < w2.heap.size := World.block_lt_of_cell? _ _ c0
    go_wp2_with fail
    refine (specPer_any d hv _).mono ?_
    rintro e w3 ⟨rfl, hb3⟩
    have hS3 := devS_step HS2.out hb3
    have HS3 := Lib.hid hS3
    clear c0 c1 c2 c3
    obtain ⟨c0, c1, c2, c3, -⟩ := hS3
    clear hb3
    have hz3 : w.heap.size < w3.heap.size := World.block_lt_of_cell? _ _ c0
    go_wp2_with fail
    refine (specTileKind_any d _ _).mono ?_
    rintro e w4 ⟨rfl, hb4⟩
    have hS4 := devS_step HS3.out hb4
    have HS4 := Lib.hid hS4
    clear c0 c1 c2 c3
    obtain ⟨c0, c1, c2, c3, -⟩ := hS4
    clear hb4
    have hz4 : w.heap.size < w4.heap.size := World.block_lt_of_cell? _ _ c0
    rw [ke.out]
    go_wp2_with fail
    refine (specInPins_any _ kc _).mono ?_
    rintro e w' ⟨rfl, rfl⟩
    go_wp2
    go_ret
    exact ⟨rt_bool hf.out.symm, devS_end HS4.out⟩
  by_cases k7 : n % perI d < 7
  · have hf := Lib.hid (hf0.trans (nodeB_out (by omega) k7))
    clear hf0
    have kc := kind_cases d (n / perI d)
    have ke := Lib.hid (tileKind_eq p4)
    have hS0 := devS_start w d
    have HS0 := Lib.hid hS0
    go_enter Try.func96, Try.ntmps96
    go_wp2_with fail
    refine (specRouteNodes_yes d hv _).mono ?_
    rintro e w1 ⟨rfl, hb1⟩
    have hS1 := devS_step HS0.out hb1
    have HS1 := Lib.hid hS1
    clear hS0
    obtain ⟨c0, c1, c2, c3, -⟩ := hS1
    clear hb1
    have hz1 : w.heap.size < w1.heap.size := World.block_lt_of_cell? _ _ c0
    go_wp2_with fail
    refine (specPer_any d hv _).mono ?_
    rintro e w2 ⟨rfl, hb2⟩
    have hS2 := devS_step HS1.out hb2
    have HS2 := Lib.hid hS2
    clear c0 c1 c2 c3
    obtain ⟨c0, c1, c2, c3, -⟩ := hS2
    clear hb2
    have hz2 : w.heap.size < w2.heap.size := World.block_lt_of_cell? _ _ c0
    go_wp2_with fail
    refine (specPer_any d hv _).mono ?_
    rintro e w3 ⟨rfl, hb3⟩
    have hS3 := devS_step HS2.out hb3
    have HS3 := Lib.hid hS3
    clear c0 c1 c2 c3
    obtain ⟨c0, c1, c2, c3, -⟩ := hS3
    clear hb3
    have hz3 : w.heap.size < w3.heap.size := World.block_lt_of_cell? _ _ c0
    go_wp2_with fail
    refine (specTileKind_any d _ _).mono ?_
    rintro e w4 ⟨rfl, hb4⟩
    have hS4 := devS_step HS3.out hb4
    have HS4 := Lib.hid hS4
    clear c0 c1 c2 c3
    obtain ⟨c0, c1, c2, c3, -⟩ := hS4
    clear hb4
    have hz4 : w.heap.size < w4.heap.size := World.block_lt_of_cell? _ _ c0
    rw [ke.out]
    go_wp2_with fail
    refine (specOutPins_any _ kc _).mono ?_
    rintro e w' ⟨rfl, rfl⟩
    go_wp2
    go_ret
    exact ⟨rt_bool hf.out.symm, devS_end HS4.out⟩
  · have hf := Lib.hid (hf0.trans (nodeB_wire (by omega)))
    clear hf0
    obtain ⟨g0, g1, g2, g3⟩ := wire_rng hv (by omega) p3
    have z : 0 ≤ 1 + (n % perI d - 7) % d.T % 2 ∧ 1 + (n % perI d - 7) % d.T % 2 ≤ 2 := by omega
    have se := Lib.hid (tileStep_eq p4 g0 g1 z.1 (by omega))
    have hS0 := devS_start w d
    have HS0 := Lib.hid hS0
    go_enter Try.func96, Try.ntmps96
    go_wp2_with fail
    refine (specRouteNodes_yes d hv _).mono ?_
    rintro e w1 ⟨rfl, hb1⟩
    have hS1 := devS_step HS0.out hb1
    have HS1 := Lib.hid hS1
    clear hS0
    obtain ⟨c0, c1, c2, c3, -⟩ := hS1
    clear hb1
    have hz1 : w.heap.size < w1.heap.size := World.block_lt_of_cell? _ _ c0
    go_wp2_with fail
    refine (specPer_any d hv _).mono ?_
    rintro e w2 ⟨rfl, hb2⟩
    have hS2 := devS_step HS1.out hb2
    have HS2 := Lib.hid hS2
    clear c0 c1 c2 c3
    obtain ⟨c0, c1, c2, c3, -⟩ := hS2
    clear hb2
    have hz2 : w.heap.size < w2.heap.size := World.block_lt_of_cell? _ _ c0
    go_wp2_with fail
    refine (specPer_any d hv _).mono ?_
    rintro e w3 ⟨rfl, hb3⟩
    have hS3 := devS_step HS2.out hb3
    have HS3 := Lib.hid hS3
    clear c0 c1 c2 c3
    obtain ⟨c0, c1, c2, c3, -⟩ := hS3
    clear hb3
    have hz3 : w.heap.size < w3.heap.size := World.block_lt_of_cell? _ _ c0
    go_wp2_with fail
    refine (specWire_any d n hv n0 n1 (by omega) _).mono ?_
    rintro e w4 ⟨rfl, hb4⟩
    have hS4 := devS_step HS3.out hb4
    have HS4 := Lib.hid hS4
    clear c0 c1 c2 c3
    obtain ⟨c0, c1, c2, c3, -⟩ := hS4
    clear hb4
    have hz4 : w.heap.size < w4.heap.size := World.block_lt_of_cell? _ _ c0
    go_wp2_with fail
    refine (specTileStep_any d _ _ _ _).mono ?_
    rintro e w5 ⟨rfl, hb5⟩
    have hS5 := devS_step HS4.out hb5
    have HS5 := Lib.hid hS5
    clear c0 c1 c2 c3
    obtain ⟨c0, c1, c2, c3, -⟩ := hS5
    clear hb5
    have hz5 : w.heap.size < w5.heap.size := World.block_lt_of_cell? _ _ c0
    rw [se.out]
    go_wp2
    go_ret
    exact ⟨rt_bool hf.out.symm, devS_end HS5.out⟩
open Go.RowKit
theorem tk_pos {d : Dev} {t : Int} (h : 0 ≤ tileKindI d t) : devB d = true ∧ (0 ≤ t ∧ t ≤ d.W * d.H - 1) ∧ tOk d t = true := by
  unfold tileKindI at h
  split at h
  · rename_i ht; obtain ⟨a, b, c⟩ := (tOk_iff _ _).1 ht; exact ⟨a, ⟨b, c⟩, ht⟩
  · omega
theorem tk_neg {d : Dev} {t : Int} (h : tileKindI d t < 0) : tOk d t ≠ true := by
  intro ht
  unfold tileKindI at h
  rw [if_pos ht] at h
  rcases kind_cases d t with e | e | e <;> omega
def wireNodeS (d : Dev) (t dir k : Int) : Int := if tOk d t = true ∧ 0 ≤ k ∧ k < d.T ∧ 0 ≤ tileStepI d t dir (1 + k % 2) then wireN d t dir k else -1
theorem dirT_rng {d : Dev} {dir : Int} (hv : devB d = true) (r0 : 0 ≤ dir) (r1 : dir ≤ 3) : 0 ≤ dir * d.T ∧ dir * d.T ≤ 12 := by
  obtain ⟨-, -, ⟨l1, l2⟩, -⟩ := (devB_iff d).1 hv
  exact ⟨Int.mul_nonneg r0 (by omega), Int.le_trans (Int.mul_le_mul r1 l2 (by omega) (by omega)) (by omega)⟩
set_option maxHeartbeats 4000000 in
set_option maxRecDepth 100000 in
theorem specWireNode_ans (d : Dev) (t dir k : Int) (w : World) (r0 : 0 ≤ dir) (r1 : dir ≤ 3) (k0 : -1000 ≤ k) (k1_o : k ≤ 1000) :
  Calls Try.prog 124 #[.agg #[.int .i64 d.W, .int .i64 d.H, .int .i64 d.T, .int .i64 d.R], .int .i64 t, .int .i64 dir, .int .i64 k] w (Ans w (.int .i64 (wireNodeS d t dir k))) := by
 refine calls_hc (N := 45) (args := [.agg #[.int .i64 d.W, .int .i64 d.H, .int .i64 d.T, .int .i64 d.R], .int .i64 t, .int .i64 dir, .int .i64 k]) Try.func124 rfl rfl ?_
 refine hc_less _ (sx 0 rfl (sx 1 rfl (sx 2 rfl (sx 3 rfl (sub_nil _))))) (.refl _) ?_
 refine hc_seq ?_
 refine hc_region ?_
 refine hl_box rfl rfl rfl (rq_box rfl rfl) ?_
 intro b1
 refine hl_v rfl rfl rfl (rv_ev rfl) ?_
 refine hl_less (sx 0 rfl (sx 1 rfl (sx 2 rfl (sx 3 rfl (sx 4 rfl (sx 8 rfl (sub_nil _))))))) (.refl _) ?_
 refine hl_nil ?_
 refine hq_then ?_
 refine hc_seq ?_
 refine hc_seq ?_
 refine hc_region ?_
 refine hl_v rfl rfl rfl (rv_loadN (cs := [.int .i64 d.W, .int .i64 d.H, .int .i64 d.T, .int .i64 d.R]) rfl (by kernel_rfl) (by kernel_rfl) rfl rfl (box_part 0 rfl 0 rfl)) ?_
 refine hl_v rfl rfl rfl (rv_ev rfl) ?_
 refine hl_callV rfl rfl rfl (rq_call (by kernel_rfl) rfl (fun w hm => ret_ans (specTileKind_any d _ w))) ?_
 refine hl_lss rfl rfl rfl rfl rfl rfl (fun h2 => ?_) (fun h2 => ?_)
 ·
  refine hl_v rfl rfl rfl (rv_ev rfl) ?_
  refine hl_skip rfl rfl rfl ?_
  refine hl_skip rfl rfl rfl ?_
  refine hl_v rfl rfl rfl (rv_ev rfl) ?_
  refine hl_v rfl rfl rfl (rv_ev rfl) ?_
  refine hl_skip rfl rfl rfl ?_
  refine hl_skip rfl rfl rfl ?_
  refine hl_skip rfl rfl rfl ?_
  refine hl_skip rfl rfl rfl ?_
  refine hl_v rfl rfl rfl (rv_ev rfl) ?_
  refine hl_v rfl rfl rfl (rv_ev rfl) ?_
  refine hl_skip rfl rfl rfl ?_
  refine hl_skip rfl rfl rfl ?_
  refine hl_skip rfl rfl rfl ?_
  refine hl_skip rfl rfl rfl ?_
  refine hl_skip rfl rfl rfl ?_
  refine hl_skip rfl rfl rfl ?_
  refine hl_skip rfl rfl rfl ?_
  refine hl_skip rfl rfl rfl ?_
  refine hl_v rfl rfl rfl (rv_ev rfl) ?_
  refine hl_less (sx 0 rfl (sx 1 rfl (sx 2 rfl (sx 3 rfl (sx 4 rfl (sx 8 rfl (sx 32 rfl (sub_nil _)))))))) (.refl _) ?_
  refine hl_nil ?_
  refine hq_then ?_
  refine hc_true rfl ?_
  refine hc_seq ?_
  refine hc_region ?_
  refine hl_v rfl rfl rfl (rv_ev rfl) ?_
  refine hl_less (sx 0 rfl (sx 1 rfl (sx 2 rfl (sx 3 rfl (sx 4 rfl (sx 8 rfl (sx 32 rfl (sub_nil _)))))))) (.refl _) ?_
  refine hl_nil ?_
  refine hq_then ?_
  refine hc_ret ?_
  refine hq_then_ret ?_
  exact hq_ans rfl rfl (by unfold wireNodeS; rw [if_neg (by rintro ⟨q1, q2, q3, q4⟩; first | omega | exact tk_neg (by assumption) q1)])
 ·
  refine hl_v rfl rfl rfl (rv_ev rfl) ?_
  refine hl_v rfl rfl rfl (rv_ev rfl) ?_
  refine hl_lss rfl rfl rfl rfl rfl rfl (fun h3 => ?_) (fun h3 => ?_)
  ·
   refine hl_v rfl rfl rfl (rv_ev rfl) ?_
   refine hl_v rfl rfl rfl (rv_ev rfl) ?_
   refine hl_skip rfl rfl rfl ?_
   refine hl_skip rfl rfl rfl ?_
   refine hl_skip rfl rfl rfl ?_
   refine hl_skip rfl rfl rfl ?_
   refine hl_v rfl rfl rfl (rv_ev rfl) ?_
   refine hl_v rfl rfl rfl (rv_ev rfl) ?_
   refine hl_skip rfl rfl rfl ?_
   refine hl_skip rfl rfl rfl ?_
   refine hl_skip rfl rfl rfl ?_
   refine hl_skip rfl rfl rfl ?_
   refine hl_skip rfl rfl rfl ?_
   refine hl_skip rfl rfl rfl ?_
   refine hl_skip rfl rfl rfl ?_
   refine hl_skip rfl rfl rfl ?_
   refine hl_v rfl rfl rfl (rv_ev rfl) ?_
   refine hl_less (sx 0 rfl (sx 1 rfl (sx 2 rfl (sx 3 rfl (sx 4 rfl (sx 8 rfl (sx 32 rfl (sub_nil _)))))))) (.refl _) ?_
   refine hl_nil ?_
   refine hq_then ?_
   refine hc_true rfl ?_
   refine hc_seq ?_
   refine hc_region ?_
   refine hl_v rfl rfl rfl (rv_ev rfl) ?_
   refine hl_less (sx 0 rfl (sx 1 rfl (sx 2 rfl (sx 3 rfl (sx 4 rfl (sx 8 rfl (sx 32 rfl (sub_nil _)))))))) (.refl _) ?_
   refine hl_nil ?_
   refine hq_then ?_
   refine hc_ret ?_
   refine hq_then_ret ?_
   exact hq_ans rfl rfl (by unfold wireNodeS; rw [if_neg (by rintro ⟨q1, q2, q3, q4⟩; first | omega | exact tk_neg (by assumption) q1)])
  ·
   refine hl_v rfl rfl rfl (rv_ev rfl) ?_
   refine hl_v rfl rfl rfl (rv_ev rfl) ?_
   refine hl_v rfl rfl rfl (rv_ev rfl) ?_
   refine hl_v rfl rfl rfl (rv_field (k0 := 2) rfl (by kernel_rfl) rfl) ?_
   refine hl_v rfl rfl rfl (rv_load rfl (by kernel_rfl) rfl (box_cell 0 rfl rfl)) ?_
   refine hl_geq rfl rfl rfl rfl rfl rfl (fun h4 => ?_) (fun h4 => ?_)
   ·
    refine hl_v rfl rfl rfl (rv_ev rfl) ?_
    refine hl_v rfl rfl rfl (rv_ev rfl) ?_
    refine hl_skip rfl rfl rfl ?_
    refine hl_skip rfl rfl rfl ?_
    refine hl_skip rfl rfl rfl ?_
    refine hl_skip rfl rfl rfl ?_
    refine hl_skip rfl rfl rfl ?_
    refine hl_skip rfl rfl rfl ?_
    refine hl_skip rfl rfl rfl ?_
    refine hl_skip rfl rfl rfl ?_
    refine hl_v rfl rfl rfl (rv_ev rfl) ?_
    refine hl_less (sx 0 rfl (sx 1 rfl (sx 2 rfl (sx 3 rfl (sx 4 rfl (sx 8 rfl (sx 32 rfl (sub_nil _)))))))) (.refl _) ?_
    refine hl_nil ?_
    refine hq_then ?_
    refine hc_true rfl ?_
    refine hc_seq ?_
    refine hc_region ?_
    refine hl_v rfl rfl rfl (rv_ev rfl) ?_
    refine hl_less (sx 0 rfl (sx 1 rfl (sx 2 rfl (sx 3 rfl (sx 4 rfl (sx 8 rfl (sx 32 rfl (sub_nil _)))))))) (.refl _) ?_
    refine hl_nil ?_
    refine hq_then ?_
    refine hc_ret ?_
    refine hq_then_ret ?_
    exact hq_ans rfl rfl (by unfold wireNodeS; rw [if_neg (by rintro ⟨q1, q2, q3, q4⟩; first | omega | exact tk_neg (by assumption) q1)])
   ·
    refine hl_v rfl rfl rfl (rv_ev rfl) ?_
    refine hl_v rfl rfl rfl (rv_ev rfl) ?_
    refine hl_v rfl rfl rfl (rv_loadN (cs := [.int .i64 d.W, .int .i64 d.H, .int .i64 d.T, .int .i64 d.R]) rfl (by kernel_rfl) (by kernel_rfl) rfl rfl (box_part 0 rfl 0 rfl)) ?_
    refine hl_v rfl rfl rfl (rv_ev rfl) ?_
    refine hl_v rfl rfl rfl (rv_ev rfl) ?_
    refine hl_v rfl rfl rfl (rv_ev rfl) ?_
    refine hl_v rfl rfl rfl (rv_rem rfl rfl rfl (by constructor <;> omega)) ?_
    refine hl_v rfl rfl rfl (rv_add rfl rfl rfl (by constructor <;> omega)) ?_
    refine hl_callV rfl rfl rfl (rq_call (by kernel_rfl) rfl (fun w hm => ret_ans (specTileStep_any d _ _ _ w))) ?_
    refine hl_lss rfl rfl rfl rfl rfl rfl (fun h5 => ?_) (fun h5 => ?_)
    ·
     refine hl_v rfl rfl rfl (rv_ev rfl) ?_
     refine hl_less (sx 0 rfl (sx 1 rfl (sx 2 rfl (sx 3 rfl (sx 4 rfl (sx 8 rfl (sx 32 rfl (sub_nil _)))))))) (.refl _) ?_
     refine hl_nil ?_
     refine hq_then ?_
     refine hc_true rfl ?_
     refine hc_seq ?_
     refine hc_region ?_
     refine hl_v rfl rfl rfl (rv_ev rfl) ?_
     refine hl_less (sx 0 rfl (sx 1 rfl (sx 2 rfl (sx 3 rfl (sx 4 rfl (sx 8 rfl (sx 32 rfl (sub_nil _)))))))) (.refl _) ?_
     refine hl_nil ?_
     refine hq_then ?_
     refine hc_ret ?_
     refine hq_then_ret ?_
     exact hq_ans rfl rfl (by unfold wireNodeS; rw [if_neg (by rintro ⟨q1, q2, q3, q4⟩; first | omega | exact tk_neg (by assumption) q1)])
    ·
     refine hl_v rfl rfl rfl (rv_ev rfl) ?_
     refine hl_less (sx 0 rfl (sx 1 rfl (sx 2 rfl (sx 3 rfl (sx 4 rfl (sx 8 rfl (sx 32 rfl (sub_nil _)))))))) (.refl _) ?_
     refine hl_nil ?_
     refine hq_then ?_
     refine hc_false rfl ?_
     refine hc_skip ?_
     refine hq_then ?_
     refine hc_seq ?_
     obtain ⟨hv, ⟨ht0, ht1⟩, hto⟩ := tk_pos (by assumption)
     have hpm := per_mul hv ht0 ht1
     have hdm := dirT_rng hv r0 r1
     refine hc_draw (by kernel_rfl) 12 [0, 1, 2, 3, 4, 5, 6, 7, 8, 9, 10, 11] (List.take 12 _) (List.drop 12 _) [[], [], [1], [0, 2], [3], [], [], [6], [5, 7], [4, 8], [], [9, 10]] [33, 34, 35, 36, 37, 38, 39, 40, 41, 42, 43, 44] (fun i vs_ v_ p_ => match i with | 0 => v_ = .int .i64 t ∧ p_ = [] | 1 => v_ = .agg #[.int .i64 d.W, .int .i64 d.H, .int .i64 d.T, .int .i64 d.R] ∧ p_ = [] | 2 => v_ = .int .i64 (perI d) ∧ p_ = [] | 3 => v_ = .int .i64 (t * (perI d)) ∧ p_ = [] | 4 => v_ = .int .i64 ((t * (perI d)) + 7) ∧ p_ = [] | 5 => v_ = .int .i64 dir ∧ p_ = [] | 6 => v_ = .pointer (some ⟨b1, 0 + 2, none⟩) ∧ p_ = [] | 7 => v_ = .int .i64 d.T ∧ p_ = [] | 8 => v_ = .int .i64 (dir * d.T) ∧ p_ = [] | 9 => v_ = .int .i64 (((t * (perI d)) + 7) + (dir * d.T)) ∧ p_ = [] | 10 => v_ = .int .i64 k ∧ p_ = [] | 11 => v_ = .int .i64 ((((t * (perI d)) + 7) + (dir * d.T)) + k) ∧ p_ = [] | _ => True) (List.take_append_drop 12 _).symm (by kernel_rfl) (by kernel_rfl) rfl rfl ?_ ?_
     ·
      refine ⟨?_, ?_, ?_, ?_, ?_, ?_, ?_, ?_, ?_, ?_, ?_, ?_, trivial⟩
      ·
       intro vf pf hR
       refine Or.inl ⟨rfl, ?_⟩
       refine rq_less (sx 1 rfl (sub_nil _)) (List.sublist_append_right _ _) ?_
       exact rq_v (rv_ev rfl)
      ·
       intro vf pf hR
       refine Or.inl ⟨rfl, ?_⟩
       refine rq_less (sx 4 rfl (sub_nil _)) (List.sublist_append_right _ _) ?_
       exact rq_v (rv_loadN (cs := [.int .i64 d.W, .int .i64 d.H, .int .i64 d.T, .int .i64 d.R]) rfl (by kernel_rfl) (by kernel_rfl) rfl rfl (box_part 0 rfl 0 rfl))
      ·
       intro vf pf hR
       have e1 : (vf 1) = .agg #[.int .i64 d.W, .int .i64 d.H, .int .i64 d.T, .int .i64 d.R] ∧ (pf 1) = [] := hR 1 (by decide)
       refine Or.inl ⟨rfl, ?_⟩
       refine rq_less (sx 34 (congrArg some e1.1) (sub_nil _)) (List.sublist_append_right _ _) ?_
       exact (rq_call (by kernel_rfl) rfl (fun w hm => ret_ans (specPer_any d hv w)))
      ·
       intro vf pf hR
       have e0 : (vf 0) = .int .i64 t ∧ (pf 0) = [] := hR 0 (by decide)
       have e2 : (vf 2) = .int .i64 (perI d) ∧ (pf 2) = [] := hR 2 (by decide)
       refine Or.inl ⟨rfl, ?_⟩
       refine rq_less (sx 33 (congrArg some e0.1) (sx 35 (congrArg some e2.1) (sub_nil _))) (List.sublist_append_right _ _) ?_
       exact rq_v (rv_mul rfl rfl rfl (by constructor <;> omega))
      ·
       intro vf pf hR
       have e3 : (vf 3) = .int .i64 (t * (perI d)) ∧ (pf 3) = [] := hR 3 (by decide)
       refine Or.inl ⟨rfl, ?_⟩
       refine rq_less (sx 36 (congrArg some e3.1) (sub_nil _)) (List.sublist_append_right _ _) ?_
       exact rq_v (rv_add rfl rfl rfl (by constructor <;> omega))
      ·
       intro vf pf hR
       refine Or.inl ⟨rfl, ?_⟩
       refine rq_less (sx 2 rfl (sub_nil _)) (List.sublist_append_right _ _) ?_
       exact rq_v (rv_ev rfl)
      ·
       intro vf pf hR
       refine Or.inl ⟨rfl, ?_⟩
       refine rq_less (sx 4 rfl (sub_nil _)) (List.sublist_append_right _ _) ?_
       exact rq_v (rv_field (k0 := 2) rfl (by kernel_rfl) rfl)
      ·
       intro vf pf hR
       have e6 : (vf 6) = .pointer (some ⟨b1, 0 + 2, none⟩) ∧ (pf 6) = [] := hR 6 (by decide)
       refine Or.inl ⟨rfl, ?_⟩
       refine rq_less (sx 39 (congrArg some e6.1) (sub_nil _)) (List.sublist_append_right _ _) ?_
       exact rq_v (rv_load rfl (by kernel_rfl) rfl (box_cell 0 rfl rfl))
      ·
       intro vf pf hR
       have e5 : (vf 5) = .int .i64 dir ∧ (pf 5) = [] := hR 5 (by decide)
       have e7 : (vf 7) = .int .i64 d.T ∧ (pf 7) = [] := hR 7 (by decide)
       refine Or.inl ⟨rfl, ?_⟩
       refine rq_less (sx 38 (congrArg some e5.1) (sx 40 (congrArg some e7.1) (sub_nil _))) (List.sublist_append_right _ _) ?_
       exact rq_v (rv_mul rfl rfl rfl (by constructor <;> omega))
      ·
       intro vf pf hR
       have e4 : (vf 4) = .int .i64 ((t * (perI d)) + 7) ∧ (pf 4) = [] := hR 4 (by decide)
       have e8 : (vf 8) = .int .i64 (dir * d.T) ∧ (pf 8) = [] := hR 8 (by decide)
       refine Or.inl ⟨rfl, ?_⟩
       refine rq_less (sx 37 (congrArg some e4.1) (sx 41 (congrArg some e8.1) (sub_nil _))) (List.sublist_append_right _ _) ?_
       exact rq_v (rv_add rfl rfl rfl (by constructor <;> omega))
      ·
       intro vf pf hR
       refine Or.inl ⟨rfl, ?_⟩
       refine rq_less (sx 3 rfl (sub_nil _)) (List.sublist_append_right _ _) ?_
       exact rq_v (rv_ev rfl)
      ·
       intro vf pf hR
       have e9 : (vf 9) = .int .i64 (((t * (perI d)) + 7) + (dir * d.T)) ∧ (pf 9) = [] := hR 9 (by decide)
       have e10 : (vf 10) = .int .i64 k ∧ (pf 10) = [] := hR 10 (by decide)
       refine Or.inl ⟨rfl, ?_⟩
       refine rq_less (sx 42 (congrArg some e9.1) (sx 43 (congrArg some e10.1) (sub_nil _))) (List.sublist_append_right _ _) ?_
       exact rq_v (rv_add rfl rfl rfl (by constructor <;> omega))
     ·
      intro vf pf hR
      have e11 : (vf 11) = .int .i64 ((((t * (perI d)) + 7) + (dir * d.T)) + k) ∧ (pf 11) = [] := hR 11 (by decide)
      refine hl_less (l' := [boxE b1 #[.int .i64 d.W, .int .i64 d.H, .int .i64 d.T, .int .i64 d.R] 25]) (sx 0 rfl (sx 1 rfl (sx 2 rfl (sx 3 rfl (sx 4 rfl (sx 8 rfl (sx 32 rfl (sx 44 (congrArg some e11.1) (sub_nil _))))))))) (List.sublist_append_right _ _) ?_
      simp only [List.drop_succ_cons, List.drop_zero]
      refine hl_v rfl rfl rfl (rv_ev rfl) ?_
      refine hl_less (sx 0 rfl (sx 1 rfl (sx 2 rfl (sx 3 rfl (sx 4 rfl (sx 8 rfl (sx 32 rfl (sub_nil _)))))))) (.refl _) ?_
      refine hl_nil ?_
      refine hq_then ?_
      refine hc_ret ?_
      exact hq_ans rfl rfl (by unfold wireNodeS; rw [if_pos ⟨hto, by omega, by omega, by omega⟩]; unfold wireN; rfl)
set_option maxHeartbeats 4000000 in
set_option maxRecDepth 100000 in
theorem specOutPin_ans (d : Dev) (t p : Int) (w : World) (ht : tOk d t = true) (p0 : -1000 ≤ p) (p1 : p ≤ 1000) :
  Calls Try.prog 109 #[.agg #[.int .i64 d.W, .int .i64 d.H, .int .i64 d.T, .int .i64 d.R], .int .i64 t, .int .i64 p] w (Ans w (.int .i64 (outPinI d t p))) := by
 obtain ⟨hv, t0, t1⟩ := (tOk_iff _ _).1 ht
 have hpm := per_mul hv t0 t1
 have h35 := tile_35 hv t1
 refine calls_hc (N := 24) (args := [.agg #[.int .i64 d.W, .int .i64 d.H, .int .i64 d.T, .int .i64 d.R], .int .i64 t, .int .i64 p]) Try.func109 rfl rfl ?_
 refine hc_less _ (sx 0 rfl (sx 1 rfl (sx 2 rfl (sub_nil _)))) (.refl _) ?_
 refine hc_seq ?_
 refine hc_region ?_
 refine hl_box rfl rfl rfl (rq_box rfl rfl) ?_
 intro b1
 refine hl_v rfl rfl rfl (rv_ev rfl) ?_
 refine hl_less (sx 0 rfl (sx 1 rfl (sx 2 rfl (sx 3 rfl (sx 6 rfl (sub_nil _)))))) (.refl _) ?_
 refine hl_nil ?_
 refine hq_then ?_
 refine hc_seq ?_
 refine hc_seq ?_
 refine hc_region ?_
 refine hl_v rfl rfl rfl (rv_ev rfl) ?_
 refine hl_lss rfl rfl rfl rfl rfl rfl (fun h2 => ?_) (fun h2 => ?_)
 ·
  refine hl_v rfl rfl rfl (rv_ev rfl) ?_
  refine hl_skip rfl rfl rfl ?_
  refine hl_skip rfl rfl rfl ?_
  refine hl_skip rfl rfl rfl ?_
  refine hl_skip rfl rfl rfl ?_
  refine hl_skip rfl rfl rfl ?_
  refine hl_skip rfl rfl rfl ?_
  refine hl_v rfl rfl rfl (rv_ev rfl) ?_
  refine hl_less (sx 0 rfl (sx 1 rfl (sx 2 rfl (sx 3 rfl (sx 6 rfl (sx 16 rfl (sub_nil _))))))) (.refl _) ?_
  refine hl_nil ?_
  refine hq_then ?_
  refine hc_true rfl ?_
  refine hc_seq ?_
  refine hc_region ?_
  refine hl_v rfl rfl rfl (rv_ev rfl) ?_
  refine hl_less (sx 0 rfl (sx 1 rfl (sx 2 rfl (sx 3 rfl (sx 6 rfl (sx 16 rfl (sub_nil _))))))) (.refl _) ?_
  refine hl_nil ?_
  refine hq_then ?_
  refine hc_ret ?_
  refine hq_then_ret ?_
  exact hq_ans rfl rfl (by (try rw [tileKind_eq ht] at *); unfold outPinI; first | rw [if_pos ⟨ht, by omega, by omega⟩] | rw [if_neg (by rintro ⟨q1, q2, q3⟩; omega)])
 ·
  refine hl_v rfl rfl rfl (rv_ev rfl) ?_
  refine hl_v rfl rfl rfl (rv_ev rfl) ?_
  refine hl_v rfl rfl rfl (rv_loadN (cs := [.int .i64 d.W, .int .i64 d.H, .int .i64 d.T, .int .i64 d.R]) rfl (by kernel_rfl) (by kernel_rfl) rfl rfl (box_part 0 rfl 0 rfl)) ?_
  refine hl_v rfl rfl rfl (rv_ev rfl) ?_
  refine hl_callV rfl rfl rfl (rq_call (by kernel_rfl) rfl (fun w hm => ret_ans (specTileKind_any d _ w))) ?_
  refine hl_callV rfl rfl rfl (rq_call (by kernel_rfl) rfl (fun w hm => ret_ans (ans_of (specOutPins_any _ (by rw [tileKind_eq ht]; exact kind_cases d t) w)))) ?_
  refine hl_geq rfl rfl rfl rfl rfl rfl (fun h3 => ?_) (fun h3 => ?_)
  ·
   refine hl_v rfl rfl rfl (rv_ev rfl) ?_
   refine hl_less (sx 0 rfl (sx 1 rfl (sx 2 rfl (sx 3 rfl (sx 6 rfl (sx 16 rfl (sub_nil _))))))) (.refl _) ?_
   refine hl_nil ?_
   refine hq_then ?_
   refine hc_true rfl ?_
   refine hc_seq ?_
   refine hc_region ?_
   refine hl_v rfl rfl rfl (rv_ev rfl) ?_
   refine hl_less (sx 0 rfl (sx 1 rfl (sx 2 rfl (sx 3 rfl (sx 6 rfl (sx 16 rfl (sub_nil _))))))) (.refl _) ?_
   refine hl_nil ?_
   refine hq_then ?_
   refine hc_ret ?_
   refine hq_then_ret ?_
   exact hq_ans rfl rfl (by (try rw [tileKind_eq ht] at *); unfold outPinI; first | rw [if_pos ⟨ht, by omega, by omega⟩] | rw [if_neg (by rintro ⟨q1, q2, q3⟩; omega)])
  ·
   refine hl_v rfl rfl rfl (rv_ev rfl) ?_
   refine hl_less (sx 0 rfl (sx 1 rfl (sx 2 rfl (sx 3 rfl (sx 6 rfl (sx 16 rfl (sub_nil _))))))) (.refl _) ?_
   refine hl_nil ?_
   refine hq_then ?_
   refine hc_false rfl ?_
   refine hc_skip ?_
   refine hq_then ?_
   refine hc_seq ?_
   refine hc_region ?_
   refine hl_v rfl rfl rfl (rv_ev rfl) ?_
   refine hl_v rfl rfl rfl (rv_loadN (cs := [.int .i64 d.W, .int .i64 d.H, .int .i64 d.T, .int .i64 d.R]) rfl (by kernel_rfl) (by kernel_rfl) rfl rfl (box_part 0 rfl 0 rfl)) ?_
   refine hl_callV rfl rfl rfl (rq_call (by kernel_rfl) rfl (fun w hm => ret_ans (specPer_any d hv w))) ?_
   refine hl_v rfl rfl rfl (rv_mul rfl rfl rfl (by constructor <;> omega)) ?_
   refine hl_v rfl rfl rfl (rv_add rfl rfl rfl (by constructor <;> omega)) ?_
   refine hl_v rfl rfl rfl (rv_ev rfl) ?_
   refine hl_v rfl rfl rfl (rv_add rfl rfl rfl (by constructor <;> omega)) ?_
   refine hl_v rfl rfl rfl (rv_ev rfl) ?_
   refine hl_less (sx 0 rfl (sx 1 rfl (sx 2 rfl (sx 3 rfl (sx 6 rfl (sx 16 rfl (sub_nil _))))))) (.refl _) ?_
   refine hl_nil ?_
   refine hq_then ?_
   refine hc_ret ?_
   exact hq_ans rfl rfl (by (try rw [tileKind_eq ht] at *); unfold outPinI; first | rw [if_pos ⟨ht, by omega, by omega⟩] | rw [if_neg (by rintro ⟨q1, q2, q3⟩; omega)])
def dirI (d : Dev) (p : Int) : Int := if 7 ≤ p then (p - 7) / d.T else 0
def trackI (d : Dev) (p : Int) : Int := if 7 ≤ p then (p - 7) % d.T else 0
def baseS (d : Dev) (t p : Int) : List Int := if 7 ≤ p then (if 1 < outPinsI (kindI d t) then [outPinI d t 0, outPinI d t 1] else [outPinI d t 0]) else []
def sS (d : Dev) (t p r k : Int) (xs : List Int) (s : Nat) : List Int :=
  if 7 ≤ p ∧ (s : Int) + 1 < 1 + k % 2 then xs else if 0 ≤ wireNodeS d (tileStepI d t ((r + 2) % 4) ((s : Int) + 1)) r k then xs ++ [wireNodeS d (tileStepI d t ((r + 2) % 4) ((s : Int) + 1)) r k] else xs
def sK (d : Dev) (t p r k : Int) (xs : List Int) (j : Nat) : List Int := (List.range j).foldl (sS d t p r k) xs
theorem sK_succ (d : Dev) (t p r k : Int) (xs : List Int) (j : Nat) : sK d t p r k xs (j + 1) = sS d t p r k (sK d t p r k xs j) j := by unfold sK; rw [List.range_succ, List.foldl_append]; rfl
/-- (r, k) is passed over -/
def Skip (T p dir track r k : Int) : Prop := (7 ≤ p ∧ (r = (dir + 2) % 4 ∨ (k ≠ track ∧ k ≠ (track + 1) % T))) ∨ (p < 7 ∧ 1 < T ∧ (k + p) % 2 = 1)
instance (T p dir track r k : Int) : Decidable (Skip T p dir track r k) := by unfold Skip; exact inferInstance
def sR (d : Dev) (t p dir track r : Int) (xs : List Int) (j : Nat) : List Int := (List.range j).foldl (fun xs (k : Nat) => if Skip d.T p dir track r k then xs else sK d t p r k xs (1 + k % 2)) xs
theorem sR_succ (d : Dev) (t p dir track r : Int) (xs : List Int) (j : Nat) : sR d t p dir track r xs (j + 1) = if Skip d.T p dir track r j then sR d t p dir track r xs j else sK d t p r j (sR d t p dir track r xs j) (1 + j % 2) := by unfold sR; rw [List.range_succ, List.foldl_append]; rfl
def sO (d : Dev) (t p dir track : Int) (j : Nat) : List Int := (List.range j).foldl (fun xs (r : Nat) => sR d t p dir track r xs d.T.toNat) (baseS d t p)
theorem sO_succ (d : Dev) (t p dir track : Int) (j : Nat) : sO d t p dir track (j + 1) = sR d t p dir track j (sO d t p dir track j) d.T.toNat := by unfold sO; rw [List.range_succ, List.foldl_append]; rfl
def srcS (d : Dev) (n : Int) : List Int := if nodeOkI d n = true ∧ n % perI d ≠ 5 ∧ n % perI d ≠ 6 then sortR (sO d (n / perI d) (n % perI d) (dirI d (n % perI d)) (trackI d (n % perI d)) 4) else []
theorem dir_rng {d : Dev} {p : Int} (hv : devB d = true) (p0 : 0 ≤ p) (p1 : p ≤ perI d - 1) : 0 ≤ dirI d p ∧ dirI d p ≤ 3 ∧ 0 ≤ trackI d p ∧ trackI d p ≤ d.T - 1 := by
  obtain ⟨-, -, ⟨l1, l2⟩, -⟩ := (devB_iff d).1 hv
  unfold dirI trackI
  split
  · exact wire_rng hv (by assumption) p1
  · omega
set_option maxHeartbeats 4000000 in
set_option maxRecDepth 100000 in
theorem specSources_ret (d : Dev) (n : Int) (w : World)  :
  Calls Try.prog 68 #[.agg #[.int .i64 d.W, .int .i64 d.H, .int .i64 d.T, .int .i64 d.R], .int .i64 n] w (Ret w (fun v' post => post = [rowE 3 1 v' (srcS d n).length ((srcS d n).map (Value.int .i64))])) := by
 refine calls_hc (N := 144) (args := [.agg #[.int .i64 d.W, .int .i64 d.H, .int .i64 d.T, .int .i64 d.R], .int .i64 n]) Try.func68 rfl rfl ?_
 refine hc_less _ (sx 0 rfl (sx 1 rfl (sub_nil _))) (.refl _) ?_
 refine hc_seq ?_
 refine hc_region ?_
 refine hl_box rfl rfl rfl (rq_box rfl rfl) ?_
 intro b1
 refine hl_v rfl rfl rfl (rv_ev rfl) ?_
 refine hl_less (sx 0 rfl (sx 1 rfl (sx 2 rfl (sx 4 rfl (sub_nil _))))) (.refl _) ?_
 refine hl_nil ?_
 refine hq_then ?_
 refine hc_seq ?_
 refine hc_region ?_
 refine hl_row rfl rfl rfl (rq_slice0 (s := 1) rfl Try.underlying30 (by kernel_rfl)) ?_
 intro g2
 refine hl_v rfl rfl rfl (rv_ev rfl) ?_
 refine hl_less (sx 0 rfl (sx 1 rfl (sx 2 rfl (sx 4 rfl (sx 5 rfl (sub_nil _)))))) (.refl _) ?_
 refine hl_nil ?_
 refine hq_then ?_
 refine hc_seq ?_
 refine hc_seq ?_
 refine hc_region ?_
 refine hl_v rfl rfl rfl (rv_loadN (cs := [.int .i64 d.W, .int .i64 d.H, .int .i64 d.T, .int .i64 d.R]) rfl (by kernel_rfl) (by kernel_rfl) rfl rfl (box_part 1 rfl 0 rfl)) ?_
 refine hl_v rfl rfl rfl (rv_ev rfl) ?_
 refine hl_callV rfl rfl rfl (rq_call (by kernel_rfl) rfl (fun w hm => ret_ans (specRouteNodeOk_any d _ w))) ?_
 refine hl_bool (fun h3 => ?_) (fun h3 => ?_)
 ·
  obtain ⟨hv, n0, n1⟩ := nodeOk_rng h3
  obtain ⟨p0, p1, p2, p3, p4⟩ := place_rng hv n0 n1
  obtain ⟨m1, m2⟩ := all_rng hv
  obtain ⟨q1, q2⟩ := per_rng hv
  obtain ⟨-, -, ⟨l1, l2⟩, -⟩ := (devB_iff d).1 hv
  obtain ⟨dg0, dg1, dg2, dg3⟩ := dir_rng hv p2 p3
  have hto := outPins_rng d (n / perI d)
  refine hl_v rfl rfl rfl (rv_ev rfl) ?_
  refine hl_less (sx 0 rfl (sx 1 rfl (sx 2 rfl (sx 4 rfl (sx 5 rfl (sx 18 rfl (sub_nil _))))))) (.refl _) ?_
  refine hl_nil ?_
  refine hq_then ?_
  refine hc_false rfl ?_
  refine hc_skip ?_
  refine hq_then ?_
  refine hc_seq ?_
  refine hc_region ?_
  refine hl_v rfl rfl rfl (rv_ev rfl) ?_
  refine hl_v rfl rfl rfl (rv_loadN (cs := [.int .i64 d.W, .int .i64 d.H, .int .i64 d.T, .int .i64 d.R]) rfl (by kernel_rfl) (by kernel_rfl) rfl rfl (box_part 1 rfl 0 rfl)) ?_
  refine hl_callV rfl rfl rfl (rq_call (by kernel_rfl) rfl (fun w hm => ret_ans (specPer_any d hv w))) ?_
  refine hl_v rfl rfl rfl (rv_quo rfl rfl rfl (by refine ⟨?_, ?_, ?_⟩ <;> omega)) ?_
  refine hl_v rfl rfl rfl (rv_ev rfl) ?_
  refine hl_less (sx 0 rfl (sx 1 rfl (sx 2 rfl (sx 4 rfl (sx 5 rfl (sx 6 rfl (sx 18 rfl (sub_nil _)))))))) (.refl _) ?_
  refine hl_nil ?_
  refine hq_then ?_
  refine hc_seq ?_
  refine hc_region ?_
  refine hl_v rfl rfl rfl (rv_ev rfl) ?_
  refine hl_v rfl rfl rfl (rv_loadN (cs := [.int .i64 d.W, .int .i64 d.H, .int .i64 d.T, .int .i64 d.R]) rfl (by kernel_rfl) (by kernel_rfl) rfl rfl (box_part 1 rfl 0 rfl)) ?_
  refine hl_callV rfl rfl rfl (rq_call (by kernel_rfl) rfl (fun w hm => ret_ans (specPer_any d hv w))) ?_
  refine hl_v rfl rfl rfl (rv_rem rfl rfl rfl (by constructor <;> omega)) ?_
  refine hl_v rfl rfl rfl (rv_ev rfl) ?_
  refine hl_less (sx 0 rfl (sx 1 rfl (sx 2 rfl (sx 4 rfl (sx 5 rfl (sx 6 rfl (sx 7 rfl (sx 18 rfl (sub_nil _))))))))) (.refl _) ?_
  refine hl_nil ?_
  refine hq_then ?_
  refine hc_seq ?_
  refine hc_seq ?_
  refine hc_region ?_
  refine hl_v rfl rfl rfl (rv_ev rfl) ?_
  refine hl_eql rfl rfl rfl rfl rfl rfl (fun h4 => ?_) (fun h4 => ?_)
  ·
   refine hl_v rfl rfl rfl (rv_ev rfl) ?_
   refine hl_skip rfl rfl rfl ?_
   refine hl_skip rfl rfl rfl ?_
   refine hl_v rfl rfl rfl (rv_ev rfl) ?_
   refine hl_less (sx 0 rfl (sx 1 rfl (sx 2 rfl (sx 4 rfl (sx 5 rfl (sx 6 rfl (sx 7 rfl (sx 18 rfl (sx 33 rfl (sub_nil _)))))))))) (.refl _) ?_
   refine hl_nil ?_
   refine hq_then ?_
   refine hc_true rfl ?_
   refine hc_seq ?_
   refine hc_region ?_
   refine hl_v rfl rfl rfl (rv_ev rfl) ?_
   refine hl_v rfl rfl rfl (rv_ev rfl) ?_
   refine hl_less (sx 0 rfl (sx 1 rfl (sx 2 rfl (sx 4 rfl (sx 5 rfl (sx 6 rfl (sx 7 rfl (sx 18 rfl (sx 33 rfl (sub_nil _)))))))))) (.refl _) ?_
   refine hl_nil ?_
   refine hq_then ?_
   refine hc_ret ?_
   refine hq_then_ret ?_
   exact hq_retR (post := [rowE 3 1 (.slice (some ⟨g2, 0, none⟩) 0 0) 0 ([])]) rfl rfl ((.cons_cons _ (.cons _ .slnil))) (by unfold srcS; first | rw [if_pos ⟨by assumption, by omega, by omega⟩, hy, show r = 4 by omega, hd1, hd2] | (rw [if_neg (by rintro ⟨q1, q2, q3⟩; first | omega | simp_all)]; rfl))
  ·
   refine hl_v rfl rfl rfl (rv_ev rfl) ?_
   refine hl_v rfl rfl rfl (rv_ev rfl) ?_
   refine hl_eql rfl rfl rfl rfl rfl rfl (fun h5 => ?_) (fun h5 => ?_)
   ·
    refine hl_v rfl rfl rfl (rv_ev rfl) ?_
    refine hl_less (sx 0 rfl (sx 1 rfl (sx 2 rfl (sx 4 rfl (sx 5 rfl (sx 6 rfl (sx 7 rfl (sx 18 rfl (sx 33 rfl (sub_nil _)))))))))) (.refl _) ?_
    refine hl_nil ?_
    refine hq_then ?_
    refine hc_true rfl ?_
    refine hc_seq ?_
    refine hc_region ?_
    refine hl_v rfl rfl rfl (rv_ev rfl) ?_
    refine hl_v rfl rfl rfl (rv_ev rfl) ?_
    refine hl_less (sx 0 rfl (sx 1 rfl (sx 2 rfl (sx 4 rfl (sx 5 rfl (sx 6 rfl (sx 7 rfl (sx 18 rfl (sx 33 rfl (sub_nil _)))))))))) (.refl _) ?_
    refine hl_nil ?_
    refine hq_then ?_
    refine hc_ret ?_
    refine hq_then_ret ?_
    exact hq_retR (post := [rowE 3 1 (.slice (some ⟨g2, 0, none⟩) 0 0) 0 ([])]) rfl rfl ((.cons_cons _ (.cons _ .slnil))) (by unfold srcS; first | rw [if_pos ⟨by assumption, by omega, by omega⟩, hy, show r = 4 by omega, hd1, hd2] | (rw [if_neg (by rintro ⟨q1, q2, q3⟩; first | omega | simp_all)]; rfl))
   ·
    refine hl_v rfl rfl rfl (rv_ev rfl) ?_
    refine hl_less (sx 0 rfl (sx 1 rfl (sx 2 rfl (sx 4 rfl (sx 5 rfl (sx 6 rfl (sx 7 rfl (sx 18 rfl (sx 33 rfl (sub_nil _)))))))))) (.refl _) ?_
    refine hl_nil ?_
    refine hq_then ?_
    refine hc_false rfl ?_
    refine hc_skip ?_
    refine hq_then ?_
    refine hc_seq ?_
    refine hc_region ?_
    refine hl_v rfl rfl rfl (rv_ev rfl) ?_
    refine hl_less (sx 0 rfl (sx 1 rfl (sx 2 rfl (sx 4 rfl (sx 5 rfl (sx 6 rfl (sx 7 rfl (sx 8 rfl (sx 18 rfl (sx 33 rfl (sub_nil _))))))))))) (.refl _) ?_
    refine hl_nil ?_
    refine hq_then ?_
    refine hc_seq ?_
    refine hc_region ?_
    refine hl_v rfl rfl rfl (rv_ev rfl) ?_
    refine hl_less (sx 0 rfl (sx 1 rfl (sx 2 rfl (sx 4 rfl (sx 5 rfl (sx 6 rfl (sx 7 rfl (sx 8 rfl (sx 9 rfl (sx 18 rfl (sx 33 rfl (sub_nil _)))))))))))) (.refl _) ?_
    refine hl_nil ?_
    refine hq_then ?_
    refine hc_meet4 (α := Int) (β := Int) (γ := Value) (δ := List Int) (fun dir track v xs => [rowE 3 1 v xs.length (xs.map (Value.int .i64)), boxE b1 #[.int .i64 d.W, .int .i64 d.H, .int .i64 d.T, .int .i64 d.R] 25]) (fun dir track v xs => [(0, .agg #[.int .i64 d.W, .int .i64 d.H, .int .i64 d.T, .int .i64 d.R]), (1, .int .i64 n), (2, .pointer (some ⟨b1, 0, none⟩)), (4, .slice none 0 0), (5, v), (6, .int .i64 (n / (perI d))), (7, .int .i64 (n % (perI d))), (8, .int .i64 dir), (9, .int .i64 track), (18, .bool false), (33, .bool false)]) (fun dir track v xs => dir = dirI d (n % perI d) ∧ track = trackI d (n % perI d) ∧ xs = baseS d (n / perI d) (n % perI d) ∧ xs.length ≤ 2) ?_ ?_
    ·
     refine hc_seq ?_
     refine hc_region ?_
     refine hl_v rfl rfl rfl (rv_ev rfl) ?_
     refine hl_geq rfl rfl rfl rfl rfl rfl (fun h6 => ?_) (fun h6 => ?_)
     ·
      refine hl_less (sx 0 rfl (sx 1 rfl (sx 2 rfl (sx 4 rfl (sx 5 rfl (sx 6 rfl (sx 7 rfl (sx 8 rfl (sx 9 rfl (sx 18 rfl (sx 33 rfl (sx 36 rfl (sub_nil _))))))))))))) (.refl _) ?_
      refine hl_nil ?_
      refine hq_then ?_
      refine hc_true rfl ?_
      refine hc_seq ?_
      refine hc_region ?_
      refine hl_v rfl rfl rfl (rv_loadN (cs := [.int .i64 d.W, .int .i64 d.H, .int .i64 d.T, .int .i64 d.R]) rfl (by kernel_rfl) (by kernel_rfl) rfl rfl (box_part 1 rfl 0 rfl)) ?_
      refine hl_v rfl rfl rfl (rv_ev rfl) ?_
      refine hl_callV rfl rfl rfl (rq_call (by kernel_rfl) rfl (fun w hm => ret_ans (specWire_any d _ hv n0 n1 (by omega) w))) ?_
      refine hl_v rfl rfl rfl (rv_ev rfl) ?_
      refine hl_v rfl rfl rfl (rv_ev rfl) ?_
      refine hl_v rfl rfl rfl (rv_ev rfl) ?_
      refine hl_v rfl rfl rfl (rv_ev rfl) ?_
      refine hl_v rfl rfl rfl (rv_ev rfl) ?_
      refine hl_less (sx 0 rfl (sx 1 rfl (sx 2 rfl (sx 4 rfl (sx 5 rfl (sx 6 rfl (sx 7 rfl (sx 8 rfl (sx 9 rfl (sx 18 rfl (sx 33 rfl (sx 36 rfl (sub_nil _))))))))))))) (.refl _) ?_
      refine hl_nil ?_
      refine hq_then ?_
      refine hc_seq ?_
      refine hc_region ?_
      refine hl_v rfl rfl rfl (rv_ev rfl) ?_
      refine hl_v rfl rfl rfl (rv_loadN (cs := [.int .i64 d.W, .int .i64 d.H, .int .i64 d.T, .int .i64 d.R]) rfl (by kernel_rfl) (by kernel_rfl) rfl rfl (box_part 1 rfl 0 rfl)) ?_
      refine hl_v rfl rfl rfl (rv_ev rfl) ?_
      refine hl_callV rfl rfl rfl (rq_call (by kernel_rfl) rfl (fun w hm => ret_ans (specOutPin_ans d _ _ w p4 (by omega) (by omega)))) ?_
      refine hl_row rfl rfl rfl (rq_buildSlice (z := .int .i64 0) (s := 1) (cs := ([outPinI d (n / (perI d)) 0].map (Value.int .i64))) rfl Try.underlying30 (by kernel_rfl) (by decide) rfl (by kernel_rfl) rfl) ?_
      intro g7
      refine hl_append (i := 1) (z := .int .i64 0) (bytes := 8) (n' := ([outPinI d (n / (perI d)) 0]).length) (xs' := (([outPinI d (n / (perI d)) 0]).map (Value.int .i64))) (L := fun v8 => [rowE 3 1 (.slice (some ⟨g7, 0, none⟩) 1 1) 1 ([outPinI d (n / (perI d)) 0].map (Value.int .i64)), rowE 3 1 v8 (([outPinI d (n / (perI d)) 0]).length) (([outPinI d (n / (perI d)) 0]).map (Value.int .i64)), boxE b1 #[.int .i64 d.W, .int .i64 d.H, .int .i64 d.T, .int .i64 d.R] 25]) rfl rfl rfl rfl Try.underlying30 (by kernel_rfl) (by kernel_rfl) rfl rfl rfl (rd_row 0 rfl) (ints_one _) (by simp) ((Nat.zero_add _)) ((List.nil_append _)) (fun _ => rfl) ?_
      intro v8
      refine hl_v rfl rfl rfl (rv_ev rfl) ?_
      refine hl_less (sx 0 rfl (sx 1 rfl (sx 2 rfl (sx 4 rfl (sx 5 rfl (sx 6 rfl (sx 7 rfl (sx 8 rfl (sx 9 rfl (sx 18 rfl (sx 33 rfl (sx 36 rfl (sub_nil _))))))))))))) (.refl _) ?_
      refine hl_nil ?_
      refine hq_then ?_
      refine hc_seq ?_
      refine hc_region ?_
      refine hl_v rfl rfl rfl (rv_loadN (cs := [.int .i64 d.W, .int .i64 d.H, .int .i64 d.T, .int .i64 d.R]) rfl (by kernel_rfl) (by kernel_rfl) rfl rfl (box_part 2 rfl 0 rfl)) ?_
      refine hl_v rfl rfl rfl (rv_ev rfl) ?_
      refine hl_callV rfl rfl rfl (rq_call (by kernel_rfl) rfl (fun w hm => ret_ans (specTileKind_any d _ w))) ?_
      refine hl_callV rfl rfl rfl (rq_call (by kernel_rfl) rfl (fun w hm => ret_ans (ans_of (specOutPins_any _ (by rw [tileKind_eq p4]; exact kind_cases d _) w)))) ?_
      refine hl_gtr rfl rfl rfl rfl rfl rfl (fun h9 => ?_) (fun h9 => ?_)
      ·
       refine hl_less (sx 0 rfl (sx 1 rfl (sx 2 rfl (sx 4 rfl (sx 5 rfl (sx 6 rfl (sx 7 rfl (sx 8 rfl (sx 9 rfl (sx 18 rfl (sx 33 rfl (sx 36 rfl (sx 53 rfl (sub_nil _)))))))))))))) (.refl _) ?_
       refine hl_nil ?_
       refine hq_then ?_
       refine hc_true rfl ?_
       refine hc_region ?_
       refine hl_v rfl rfl rfl (rv_ev rfl) ?_
       refine hl_v rfl rfl rfl (rv_loadN (cs := [.int .i64 d.W, .int .i64 d.H, .int .i64 d.T, .int .i64 d.R]) rfl (by kernel_rfl) (by kernel_rfl) rfl rfl (box_part 2 rfl 0 rfl)) ?_
       refine hl_v rfl rfl rfl (rv_ev rfl) ?_
       refine hl_callV rfl rfl rfl (rq_call (by kernel_rfl) rfl (fun w hm => ret_ans (specOutPin_ans d _ _ w p4 (by omega) (by omega)))) ?_
       refine hl_row rfl rfl rfl (rq_buildSlice (z := .int .i64 0) (s := 1) (cs := ([outPinI d (n / (perI d)) 1].map (Value.int .i64))) rfl Try.underlying30 (by kernel_rfl) (by decide) rfl (by kernel_rfl) rfl) ?_
       intro g10
       refine hl_append (i := 2) (z := .int .i64 0) (bytes := 8) (n' := (([outPinI d (n / (perI d)) 0]) ++ ([outPinI d (n / (perI d)) 1])).length) (xs' := ((([outPinI d (n / (perI d)) 0]) ++ ([outPinI d (n / (perI d)) 1])).map (Value.int .i64))) (L := fun v11 => [rowE 3 1 (.slice (some ⟨g10, 0, none⟩) 1 1) 1 ([outPinI d (n / (perI d)) 1].map (Value.int .i64)), rowE 3 1 (.slice (some ⟨g7, 0, none⟩) 1 1) 1 ([outPinI d (n / (perI d)) 0].map (Value.int .i64)), rowE 3 1 v11 ((([outPinI d (n / (perI d)) 0]) ++ ([outPinI d (n / (perI d)) 1])).length) ((([outPinI d (n / (perI d)) 0]) ++ ([outPinI d (n / (perI d)) 1])).map (Value.int .i64)), boxE b1 #[.int .i64 d.W, .int .i64 d.H, .int .i64 d.T, .int .i64 d.R] 25]) rfl rfl rfl rfl Try.underlying30 (by kernel_rfl) (by kernel_rfl) rfl rfl rfl (rd_row 0 rfl) (ints_one _) (by simp) (len_app ([outPinI d (n / (perI d)) 0]) ([outPinI d (n / (perI d)) 1])) (ints_app ([outPinI d (n / (perI d)) 0]) ([outPinI d (n / (perI d)) 1])) (fun _ => rfl) ?_
       intro v11
       refine hl_v rfl rfl rfl (rv_ev rfl) ?_
       refine hl_less (sx 0 rfl (sx 1 rfl (sx 2 rfl (sx 4 rfl (sx 5 rfl (sx 6 rfl (sx 7 rfl (sx 8 rfl (sx 9 rfl (sx 18 rfl (sx 33 rfl (sx 36 rfl (sx 53 rfl (sub_nil _)))))))))))))) (.refl _) ?_
       refine hl_nil ?_
       exact hq_meet4 ((n % perI d - 7) / d.T) ((n % perI d - 7) % d.T) _ (([outPinI d (n / (perI d)) 0]) ++ ([outPinI d (n / (perI d)) 1])) ⟨by unfold dirI; rw [if_pos (by omega)], by unfold trackI; rw [if_pos (by omega)], by unfold baseS; rw [if_pos (by omega)]; rw [tileKind_eq p4] at *; (first | rw [if_pos (by omega)] | rw [if_neg (by omega)]) <;> rfl, by simp⟩ (sx 0 rfl (sx 1 rfl (sx 2 rfl (sx 4 rfl (sx 5 rfl (sx 6 rfl (sx 7 rfl (sx 8 rfl (sx 9 rfl (sx 18 rfl (sx 33 rfl (sub_nil _)))))))))))) ((.cons _ (.cons _ (.cons_cons _ (.cons_cons _ .slnil)))))
      ·
       refine hl_less (sx 0 rfl (sx 1 rfl (sx 2 rfl (sx 4 rfl (sx 5 rfl (sx 6 rfl (sx 7 rfl (sx 8 rfl (sx 9 rfl (sx 18 rfl (sx 33 rfl (sx 36 rfl (sx 53 rfl (sub_nil _)))))))))))))) (.refl _) ?_
       refine hl_nil ?_
       refine hq_then ?_
       refine hc_false rfl ?_
       refine hc_skip ?_
       exact hq_meet4 ((n % perI d - 7) / d.T) ((n % perI d - 7) % d.T) _ ([outPinI d (n / (perI d)) 0]) ⟨by unfold dirI; rw [if_pos (by omega)], by unfold trackI; rw [if_pos (by omega)], by unfold baseS; rw [if_pos (by omega)]; rw [tileKind_eq p4] at *; (first | rw [if_pos (by omega)] | rw [if_neg (by omega)]) <;> rfl, by simp⟩ (sx 0 rfl (sx 1 rfl (sx 2 rfl (sx 4 rfl (sx 5 rfl (sx 6 rfl (sx 7 rfl (sx 8 rfl (sx 9 rfl (sx 18 rfl (sx 33 rfl (sub_nil _)))))))))))) ((.cons _ (.cons_cons _ (.cons_cons _ .slnil))))
     ·
      refine hl_less (sx 0 rfl (sx 1 rfl (sx 2 rfl (sx 4 rfl (sx 5 rfl (sx 6 rfl (sx 7 rfl (sx 8 rfl (sx 9 rfl (sx 18 rfl (sx 33 rfl (sx 36 rfl (sub_nil _))))))))))))) (.refl _) ?_
      refine hl_nil ?_
      refine hq_then ?_
      refine hc_false rfl ?_
      refine hc_skip ?_
      exact hq_meet4 0 0 _ ([]) ⟨by unfold dirI; rw [if_neg (by omega)], by unfold trackI; rw [if_neg (by omega)], by unfold baseS; rw [if_neg (by omega)], by simp⟩ (sx 0 rfl (sx 1 rfl (sx 2 rfl (sx 4 rfl (sx 5 rfl (sx 6 rfl (sx 7 rfl (sx 8 rfl (sx 9 rfl (sx 18 rfl (sx 33 rfl (sub_nil _)))))))))))) ((.cons_cons _ (.cons_cons _ .slnil)))
    intro dir track v xs hm12
    obtain ⟨hd1, hd2, hx, hxl⟩ := hm12
    refine hc_seq ?_
    refine hc_seq ?_
    refine hc_region ?_
    refine hl_v rfl rfl rfl (rv_ev rfl) ?_
    refine hl_less (sx 0 rfl (sx 1 rfl (sx 2 rfl (sx 4 rfl (sx 5 rfl (sx 6 rfl (sx 7 rfl (sx 8 rfl (sx 9 rfl (sx 10 rfl (sx 18 rfl (sx 33 rfl (sub_nil _))))))))))))) (.refl _) ?_
    refine hl_nil ?_
    refine hq_then ?_
    refine hc_block ?_
    refine hc_loop3 (α := Nat) (β := Value) (γ := List Int) (fun r u ys => [rowE 3 1 u ys.length (ys.map (Value.int .i64)), boxE b1 #[.int .i64 d.W, .int .i64 d.H, .int .i64 d.T, .int .i64 d.R] 25]) (fun r u ys => [(0, .agg #[.int .i64 d.W, .int .i64 d.H, .int .i64 d.T, .int .i64 d.R]), (1, .int .i64 n), (2, .pointer (some ⟨b1, 0, none⟩)), (4, .slice none 0 0), (5, u), (6, .int .i64 (n / (perI d))), (7, .int .i64 (n % (perI d))), (8, .int .i64 dir), (9, .int .i64 track), (10, .int .i64 (r : Int)), (18, .bool false), (33, .bool false)]) (fun r u ys => r ≤ 4 ∧ ys = sO d (n / perI d) (n % perI d) dir track r ∧ ys.length ≤ 2 + 8 * r) (fun r u ys => 5 - r) 0 _ xs ⟨by omega, by rw [hx]; rfl, by omega⟩ (sx 0 rfl (sx 1 rfl (sx 2 rfl (sx 4 rfl (sx 5 rfl (sx 6 rfl (sx 7 rfl (sx 8 rfl (sx 9 rfl (sx 10 rfl (sx 18 rfl (sx 33 rfl (sub_nil _))))))))))))) ((.cons_cons _ (.cons_cons _ .slnil))) ?_
    intro r u ys hi13
    obtain ⟨hr, hy, hyl⟩ := hi13
    refine hc_seq ?_
    refine hc_seq ?_
    refine hc_region ?_
    refine hl_v rfl rfl rfl (rv_ev rfl) ?_
    refine hl_lss rfl rfl rfl rfl rfl rfl (fun h14 => ?_) (fun h14 => ?_)
    ·
     refine hl_less (sx 0 rfl (sx 1 rfl (sx 2 rfl (sx 4 rfl (sx 5 rfl (sx 6 rfl (sx 7 rfl (sx 8 rfl (sx 9 rfl (sx 10 rfl (sx 18 rfl (sx 33 rfl (sx 61 rfl (sub_nil _)))))))))))))) (.refl _) ?_
     refine hl_nil ?_
     refine hq_then ?_
     refine hc_true rfl ?_
     refine hc_skip ?_
     refine hq_then ?_
     refine hc_seq ?_
     refine hc_block ?_
     refine hc_seq ?_
     refine hc_region ?_
     refine hl_v rfl rfl rfl (rv_ev rfl) ?_
     refine hl_less (sx 0 rfl (sx 1 rfl (sx 2 rfl (sx 4 rfl (sx 5 rfl (sx 6 rfl (sx 7 rfl (sx 8 rfl (sx 9 rfl (sx 10 rfl (sx 11 rfl (sx 18 rfl (sx 33 rfl (sx 61 rfl (sub_nil _))))))))))))))) (.refl _) ?_
     refine hl_nil ?_
     refine hq_then ?_
     refine hc_block ?_
     refine hc_loop3 (α := Nat) (β := Value) (γ := List Int) (fun k q zs => [rowE 3 1 q zs.length (zs.map (Value.int .i64)), boxE b1 #[.int .i64 d.W, .int .i64 d.H, .int .i64 d.T, .int .i64 d.R] 25]) (fun k q zs => [(0, .agg #[.int .i64 d.W, .int .i64 d.H, .int .i64 d.T, .int .i64 d.R]), (1, .int .i64 n), (2, .pointer (some ⟨b1, 0, none⟩)), (4, .slice none 0 0), (5, q), (6, .int .i64 (n / (perI d))), (7, .int .i64 (n % (perI d))), (8, .int .i64 dir), (9, .int .i64 track), (10, .int .i64 (r : Int)), (11, .int .i64 (k : Int)), (18, .bool false), (33, .bool false), (61, .bool true)]) (fun k q zs => (k : Int) ≤ d.T ∧ zs = sR d (n / perI d) (n % perI d) dir track r ys k ∧ zs.length ≤ ys.length + 2 * k) (fun k q zs => 5 - k) 0 _ ys ⟨by omega, rfl, by simp⟩ (sx 0 rfl (sx 1 rfl (sx 2 rfl (sx 4 rfl (sx 5 rfl (sx 6 rfl (sx 7 rfl (sx 8 rfl (sx 9 rfl (sx 10 rfl (sx 11 rfl (sx 18 rfl (sx 33 rfl (sx 61 rfl (sub_nil _))))))))))))))) ((.cons_cons _ (.cons_cons _ .slnil))) ?_
     intro k q zs hi15
     obtain ⟨hk, hz, hzl⟩ := hi15
     refine hc_seq ?_
     refine hc_seq ?_
     refine hc_region ?_
     refine hl_v rfl rfl rfl (rv_ev rfl) ?_
     refine hl_v rfl rfl rfl (rv_field (k0 := 2) rfl (by kernel_rfl) rfl) ?_
     refine hl_v rfl rfl rfl (rv_load rfl (by kernel_rfl) rfl (box_cell 1 rfl rfl)) ?_
     refine hl_lss rfl rfl rfl rfl rfl rfl (fun h16 => ?_) (fun h16 => ?_)
     ·
      refine hl_less (sx 0 rfl (sx 1 rfl (sx 2 rfl (sx 4 rfl (sx 5 rfl (sx 6 rfl (sx 7 rfl (sx 8 rfl (sx 9 rfl (sx 10 rfl (sx 11 rfl (sx 18 rfl (sx 33 rfl (sx 61 rfl (sx 67 rfl (sub_nil _)))))))))))))))) (.refl _) ?_
      refine hl_nil ?_
      refine hq_then ?_
      refine hc_true rfl ?_
      refine hc_skip ?_
      refine hq_then ?_
      refine hc_seq ?_
      refine hc_block ?_
      refine hc_meet1 (α := Unit) (fun u0 => [rowE 3 1 q zs.length (zs.map (Value.int .i64)), boxE b1 #[.int .i64 d.W, .int .i64 d.H, .int .i64 d.T, .int .i64 d.R] 25]) (fun u0 => [(0, .agg #[.int .i64 d.W, .int .i64 d.H, .int .i64 d.T, .int .i64 d.R]), (1, .int .i64 n), (2, .pointer (some ⟨b1, 0, none⟩)), (4, .slice none 0 0), (5, q), (6, .int .i64 (n / (perI d))), (7, .int .i64 (n % (perI d))), (8, .int .i64 dir), (9, .int .i64 track), (10, .int .i64 (r : Int)), (11, .int .i64 (k : Int)), (18, .bool false), (33, .bool false), (61, .bool true), (67, .bool true)]) (fun u0 => ¬ Skip d.T (n % perI d) dir track r k) ?_ ?_
      ·
       refine hc_seq ?_
       refine hc_region ?_
       refine hl_v rfl rfl rfl (rv_ev rfl) ?_
       refine hl_geq rfl rfl rfl rfl rfl rfl (fun h17 => ?_) (fun h17 => ?_)
       ·
        refine hl_v rfl rfl rfl (rv_ev rfl) ?_
        refine hl_v rfl rfl rfl (rv_ev rfl) ?_
        refine hl_v rfl rfl rfl (rv_ev rfl) ?_
        refine hl_v rfl rfl rfl (rv_add rfl rfl rfl (by constructor <;> omega)) ?_
        refine hl_v rfl rfl rfl (rv_rem rfl rfl rfl (by constructor <;> omega)) ?_
        refine hl_eql rfl rfl rfl rfl rfl rfl (fun h18 => ?_) (fun h18 => ?_)
        ·
         refine hl_v rfl rfl rfl (rv_ev rfl) ?_
         refine hl_skip rfl rfl rfl ?_
         refine hl_skip rfl rfl rfl ?_
         refine hl_skip rfl rfl rfl ?_
         refine hl_skip rfl rfl rfl ?_
         refine hl_skip rfl rfl rfl ?_
         refine hl_skip rfl rfl rfl ?_
         refine hl_skip rfl rfl rfl ?_
         refine hl_skip rfl rfl rfl ?_
         refine hl_skip rfl rfl rfl ?_
         refine hl_skip rfl rfl rfl ?_
         refine hl_skip rfl rfl rfl ?_
         refine hl_skip rfl rfl rfl ?_
         refine hl_v rfl rfl rfl (rv_ev rfl) ?_
         refine hl_v rfl rfl rfl (rv_ev rfl) ?_
         refine hl_v rfl rfl rfl (rv_ev rfl) ?_
         refine hl_skip rfl rfl rfl ?_
         refine hl_skip rfl rfl rfl ?_
         refine hl_skip rfl rfl rfl ?_
         refine hl_skip rfl rfl rfl ?_
         refine hl_skip rfl rfl rfl ?_
         refine hl_skip rfl rfl rfl ?_
         refine hl_skip rfl rfl rfl ?_
         refine hl_skip rfl rfl rfl ?_
         refine hl_skip rfl rfl rfl ?_
         refine hl_skip rfl rfl rfl ?_
         refine hl_skip rfl rfl rfl ?_
         refine hl_skip rfl rfl rfl ?_
         refine hl_skip rfl rfl rfl ?_
         refine hl_skip rfl rfl rfl ?_
         refine hl_v rfl rfl rfl (rv_ev rfl) ?_
         refine hl_less (sx 0 rfl (sx 1 rfl (sx 2 rfl (sx 4 rfl (sx 5 rfl (sx 6 rfl (sx 7 rfl (sx 8 rfl (sx 9 rfl (sx 10 rfl (sx 11 rfl (sx 18 rfl (sx 33 rfl (sx 61 rfl (sx 67 rfl (sx 108 rfl (sub_nil _))))))))))))))))) (.refl _) ?_
         refine hl_nil ?_
         refine hq_then ?_
         refine hc_true rfl ?_
         refine hc_exit ?_
         refine hq_then_exit ?_
         refine hq_block_exit ?_
         refine hq_then ?_
         refine hc_region ?_
         refine hl_v rfl rfl rfl (rv_ev rfl) ?_
         refine hl_v rfl rfl rfl (rv_add rfl rfl rfl (by constructor <;> omega)) ?_
         refine hl_v rfl rfl rfl (rv_ev rfl) ?_
         refine hl_less (sx 0 rfl (sx 1 rfl (sx 2 rfl (sx 4 rfl (sx 5 rfl (sx 6 rfl (sx 7 rfl (sx 8 rfl (sx 9 rfl (sx 10 rfl (sx 11 rfl (sx 18 rfl (sx 33 rfl (sx 61 rfl (sx 67 rfl (sx 108 rfl (sub_nil _))))))))))))))))) (.refl _) ?_
         refine hl_nil ?_
         exact hq_round3 (k + 1) _ _ ⟨by omega, by rw [sR_succ]; rw [if_pos (by unfold Skip; omega)]; exact hz, by omega⟩ (by omega) (sx 0 rfl (sx 1 rfl (sx 2 rfl (sx 4 rfl (sx 5 rfl (sx 6 rfl (sx 7 rfl (sx 8 rfl (sx 9 rfl (sx 10 rfl (sx 11 rfl (sx 18 rfl (sx 33 rfl (sx 61 rfl (sub_nil _))))))))))))))) ((.cons_cons _ (.cons_cons _ .slnil)))
        ·
         refine hl_v rfl rfl rfl (rv_ev rfl) ?_
         refine hl_v rfl rfl rfl (rv_ev rfl) ?_
         refine hl_v rfl rfl rfl (rv_ev rfl) ?_
         refine hl_neq rfl rfl rfl rfl rfl rfl (fun h19 => ?_) (fun h19 => ?_)
         ·
          refine hl_v rfl rfl rfl (rv_ev rfl) ?_
          refine hl_v rfl rfl rfl (rv_ev rfl) ?_
          refine hl_v rfl rfl rfl (rv_ev rfl) ?_
          refine hl_v rfl rfl rfl (rv_add rfl rfl rfl (by constructor <;> omega)) ?_
          refine hl_v rfl rfl rfl (rv_field (k0 := 2) rfl (by kernel_rfl) rfl) ?_
          refine hl_v rfl rfl rfl (rv_load rfl (by kernel_rfl) rfl (box_cell 1 rfl rfl)) ?_
          refine hl_v rfl rfl rfl (rv_rem rfl rfl rfl (by constructor <;> omega)) ?_
          refine hl_neq rfl rfl rfl rfl rfl rfl (fun h20 => ?_) (fun h20 => ?_)
          ·
           refine hl_v rfl rfl rfl (rv_ev rfl) ?_
           refine hl_v rfl rfl rfl (rv_ev rfl) ?_
           refine hl_v rfl rfl rfl (rv_ev rfl) ?_
           refine hl_v rfl rfl rfl (rv_ev rfl) ?_
           refine hl_skip rfl rfl rfl ?_
           refine hl_skip rfl rfl rfl ?_
           refine hl_skip rfl rfl rfl ?_
           refine hl_skip rfl rfl rfl ?_
           refine hl_skip rfl rfl rfl ?_
           refine hl_skip rfl rfl rfl ?_
           refine hl_skip rfl rfl rfl ?_
           refine hl_skip rfl rfl rfl ?_
           refine hl_skip rfl rfl rfl ?_
           refine hl_skip rfl rfl rfl ?_
           refine hl_skip rfl rfl rfl ?_
           refine hl_skip rfl rfl rfl ?_
           refine hl_skip rfl rfl rfl ?_
           refine hl_skip rfl rfl rfl ?_
           refine hl_v rfl rfl rfl (rv_ev rfl) ?_
           refine hl_less (sx 0 rfl (sx 1 rfl (sx 2 rfl (sx 4 rfl (sx 5 rfl (sx 6 rfl (sx 7 rfl (sx 8 rfl (sx 9 rfl (sx 10 rfl (sx 11 rfl (sx 18 rfl (sx 33 rfl (sx 61 rfl (sx 67 rfl (sx 108 rfl (sub_nil _))))))))))))))))) (.refl _) ?_
           refine hl_nil ?_
           refine hq_then ?_
           refine hc_true rfl ?_
           refine hc_exit ?_
           refine hq_then_exit ?_
           refine hq_block_exit ?_
           refine hq_then ?_
           refine hc_region ?_
           refine hl_v rfl rfl rfl (rv_ev rfl) ?_
           refine hl_v rfl rfl rfl (rv_add rfl rfl rfl (by constructor <;> omega)) ?_
           refine hl_v rfl rfl rfl (rv_ev rfl) ?_
           refine hl_less (sx 0 rfl (sx 1 rfl (sx 2 rfl (sx 4 rfl (sx 5 rfl (sx 6 rfl (sx 7 rfl (sx 8 rfl (sx 9 rfl (sx 10 rfl (sx 11 rfl (sx 18 rfl (sx 33 rfl (sx 61 rfl (sx 67 rfl (sx 108 rfl (sub_nil _))))))))))))))))) (.refl _) ?_
           refine hl_nil ?_
           exact hq_round3 (k + 1) _ _ ⟨by omega, by rw [sR_succ]; rw [if_pos (by unfold Skip; omega)]; exact hz, by omega⟩ (by omega) (sx 0 rfl (sx 1 rfl (sx 2 rfl (sx 4 rfl (sx 5 rfl (sx 6 rfl (sx 7 rfl (sx 8 rfl (sx 9 rfl (sx 10 rfl (sx 11 rfl (sx 18 rfl (sx 33 rfl (sx 61 rfl (sub_nil _))))))))))))))) ((.cons_cons _ (.cons_cons _ .slnil)))
          ·
           refine hl_v rfl rfl rfl (rv_ev rfl) ?_
           refine hl_v rfl rfl rfl (rv_ev rfl) ?_
           refine hl_v rfl rfl rfl (rv_ev rfl) ?_
           refine hl_v rfl rfl rfl (rv_ev rfl) ?_
           refine hl_v rfl rfl rfl (rv_ev rfl) ?_
           refine hl_lss rfl rfl rfl rfl rfl rfl (fun h21 => ?_) (fun h21 => ?_)
           ·
            refine hl_v rfl rfl rfl (rv_ev rfl) ?_
            refine hl_v rfl rfl rfl (rv_field (k0 := 2) rfl (by kernel_rfl) rfl) ?_
            refine hl_v rfl rfl rfl (rv_load rfl (by kernel_rfl) rfl (box_cell 1 rfl rfl)) ?_
            refine hl_gtr rfl rfl rfl rfl rfl rfl (fun h22 => ?_) (fun h22 => ?_)
            ·
             refine hl_v rfl rfl rfl (rv_ev rfl) ?_
             refine hl_v rfl rfl rfl (rv_ev rfl) ?_
             refine hl_v rfl rfl rfl (rv_ev rfl) ?_
             refine hl_v rfl rfl rfl (rv_ev rfl) ?_
             refine hl_v rfl rfl rfl (rv_add rfl rfl rfl (by constructor <;> omega)) ?_
             refine hl_v rfl rfl rfl (rv_rem rfl rfl rfl (by constructor <;> omega)) ?_
             refine hl_eql rfl rfl rfl rfl rfl rfl (fun h23 => ?_) (fun h23 => ?_)
             ·
              refine hl_v rfl rfl rfl (rv_ev rfl) ?_
              refine hl_v rfl rfl rfl (rv_ev rfl) ?_
              refine hl_less (sx 0 rfl (sx 1 rfl (sx 2 rfl (sx 4 rfl (sx 5 rfl (sx 6 rfl (sx 7 rfl (sx 8 rfl (sx 9 rfl (sx 10 rfl (sx 11 rfl (sx 18 rfl (sx 33 rfl (sx 61 rfl (sx 67 rfl (sx 108 rfl (sub_nil _))))))))))))))))) (.refl _) ?_
              refine hl_nil ?_
              refine hq_then ?_
              refine hc_true rfl ?_
              refine hc_exit ?_
              refine hq_then_exit ?_
              refine hq_block_exit ?_
              refine hq_then ?_
              refine hc_region ?_
              refine hl_v rfl rfl rfl (rv_ev rfl) ?_
              refine hl_v rfl rfl rfl (rv_add rfl rfl rfl (by constructor <;> omega)) ?_
              refine hl_v rfl rfl rfl (rv_ev rfl) ?_
              refine hl_less (sx 0 rfl (sx 1 rfl (sx 2 rfl (sx 4 rfl (sx 5 rfl (sx 6 rfl (sx 7 rfl (sx 8 rfl (sx 9 rfl (sx 10 rfl (sx 11 rfl (sx 18 rfl (sx 33 rfl (sx 61 rfl (sx 67 rfl (sx 108 rfl (sub_nil _))))))))))))))))) (.refl _) ?_
              refine hl_nil ?_
              exact hq_round3 (k + 1) _ _ ⟨by omega, by rw [sR_succ]; rw [if_pos (by unfold Skip; omega)]; exact hz, by omega⟩ (by omega) (sx 0 rfl (sx 1 rfl (sx 2 rfl (sx 4 rfl (sx 5 rfl (sx 6 rfl (sx 7 rfl (sx 8 rfl (sx 9 rfl (sx 10 rfl (sx 11 rfl (sx 18 rfl (sx 33 rfl (sx 61 rfl (sub_nil _))))))))))))))) ((.cons_cons _ (.cons_cons _ .slnil)))
             ·
              refine hl_v rfl rfl rfl (rv_ev rfl) ?_
              refine hl_v rfl rfl rfl (rv_ev rfl) ?_
              refine hl_less (sx 0 rfl (sx 1 rfl (sx 2 rfl (sx 4 rfl (sx 5 rfl (sx 6 rfl (sx 7 rfl (sx 8 rfl (sx 9 rfl (sx 10 rfl (sx 11 rfl (sx 18 rfl (sx 33 rfl (sx 61 rfl (sx 67 rfl (sx 108 rfl (sub_nil _))))))))))))))))) (.refl _) ?_
              refine hl_nil ?_
              refine hq_then ?_
              refine hc_false rfl ?_
              refine hc_skip ?_
              exact hq_meet1 () (by unfold Skip; omega) (sx 0 rfl (sx 1 rfl (sx 2 rfl (sx 4 rfl (sx 5 rfl (sx 6 rfl (sx 7 rfl (sx 8 rfl (sx 9 rfl (sx 10 rfl (sx 11 rfl (sx 18 rfl (sx 33 rfl (sx 61 rfl (sx 67 rfl (sub_nil _)))))))))))))))) ((.cons_cons _ (.cons_cons _ .slnil)))
            ·
             refine hl_v rfl rfl rfl (rv_ev rfl) ?_
             refine hl_v rfl rfl rfl (rv_ev rfl) ?_
             refine hl_skip rfl rfl rfl ?_
             refine hl_skip rfl rfl rfl ?_
             refine hl_skip rfl rfl rfl ?_
             refine hl_skip rfl rfl rfl ?_
             refine hl_skip rfl rfl rfl ?_
             refine hl_v rfl rfl rfl (rv_ev rfl) ?_
             refine hl_v rfl rfl rfl (rv_ev rfl) ?_
             refine hl_less (sx 0 rfl (sx 1 rfl (sx 2 rfl (sx 4 rfl (sx 5 rfl (sx 6 rfl (sx 7 rfl (sx 8 rfl (sx 9 rfl (sx 10 rfl (sx 11 rfl (sx 18 rfl (sx 33 rfl (sx 61 rfl (sx 67 rfl (sx 108 rfl (sub_nil _))))))))))))))))) (.refl _) ?_
             refine hl_nil ?_
             refine hq_then ?_
             refine hc_false rfl ?_
             refine hc_skip ?_
             exact hq_meet1 () (by unfold Skip; omega) (sx 0 rfl (sx 1 rfl (sx 2 rfl (sx 4 rfl (sx 5 rfl (sx 6 rfl (sx 7 rfl (sx 8 rfl (sx 9 rfl (sx 10 rfl (sx 11 rfl (sx 18 rfl (sx 33 rfl (sx 61 rfl (sx 67 rfl (sub_nil _)))))))))))))))) ((.cons_cons _ (.cons_cons _ .slnil)))
           ·
            refine hl_v rfl rfl rfl (rv_ev rfl) ?_
            refine hl_skip rfl rfl rfl ?_
            refine hl_skip rfl rfl rfl ?_
            refine hl_skip rfl rfl rfl ?_
            refine hl_v rfl rfl rfl (rv_ev rfl) ?_
            refine hl_v rfl rfl rfl (rv_ev rfl) ?_
            refine hl_skip rfl rfl rfl ?_
            refine hl_skip rfl rfl rfl ?_
            refine hl_skip rfl rfl rfl ?_
            refine hl_skip rfl rfl rfl ?_
            refine hl_skip rfl rfl rfl ?_
            refine hl_v rfl rfl rfl (rv_ev rfl) ?_
            refine hl_v rfl rfl rfl (rv_ev rfl) ?_
            refine hl_less (sx 0 rfl (sx 1 rfl (sx 2 rfl (sx 4 rfl (sx 5 rfl (sx 6 rfl (sx 7 rfl (sx 8 rfl (sx 9 rfl (sx 10 rfl (sx 11 rfl (sx 18 rfl (sx 33 rfl (sx 61 rfl (sx 67 rfl (sx 108 rfl (sub_nil _))))))))))))))))) (.refl _) ?_
            refine hl_nil ?_
            refine hq_then ?_
            refine hc_false rfl ?_
            refine hc_skip ?_
            exact hq_meet1 () (by unfold Skip; omega) (sx 0 rfl (sx 1 rfl (sx 2 rfl (sx 4 rfl (sx 5 rfl (sx 6 rfl (sx 7 rfl (sx 8 rfl (sx 9 rfl (sx 10 rfl (sx 11 rfl (sx 18 rfl (sx 33 rfl (sx 61 rfl (sx 67 rfl (sub_nil _)))))))))))))))) ((.cons_cons _ (.cons_cons _ .slnil)))
         ·
          refine hl_v rfl rfl rfl (rv_ev rfl) ?_
          refine hl_skip rfl rfl rfl ?_
          refine hl_skip rfl rfl rfl ?_
          refine hl_skip rfl rfl rfl ?_
          refine hl_skip rfl rfl rfl ?_
          refine hl_skip rfl rfl rfl ?_
          refine hl_skip rfl rfl rfl ?_
          refine hl_skip rfl rfl rfl ?_
          refine hl_v rfl rfl rfl (rv_ev rfl) ?_
          refine hl_v rfl rfl rfl (rv_ev rfl) ?_
          refine hl_v rfl rfl rfl (rv_ev rfl) ?_
          refine hl_v rfl rfl rfl (rv_ev rfl) ?_
          refine hl_v rfl rfl rfl (rv_ev rfl) ?_
          refine hl_lss rfl rfl rfl rfl rfl rfl (fun h24 => ?_) (fun h24 => ?_)
          ·
           refine hl_v rfl rfl rfl (rv_ev rfl) ?_
           refine hl_v rfl rfl rfl (rv_field (k0 := 2) rfl (by kernel_rfl) rfl) ?_
           refine hl_v rfl rfl rfl (rv_load rfl (by kernel_rfl) rfl (box_cell 1 rfl rfl)) ?_
           refine hl_gtr rfl rfl rfl rfl rfl rfl (fun h25 => ?_) (fun h25 => ?_)
           ·
            refine hl_v rfl rfl rfl (rv_ev rfl) ?_
            refine hl_v rfl rfl rfl (rv_ev rfl) ?_
            refine hl_v rfl rfl rfl (rv_ev rfl) ?_
            refine hl_v rfl rfl rfl (rv_ev rfl) ?_
            refine hl_v rfl rfl rfl (rv_add rfl rfl rfl (by constructor <;> omega)) ?_
            refine hl_v rfl rfl rfl (rv_rem rfl rfl rfl (by constructor <;> omega)) ?_
            refine hl_eql rfl rfl rfl rfl rfl rfl (fun h26 => ?_) (fun h26 => ?_)
            ·
             refine hl_v rfl rfl rfl (rv_ev rfl) ?_
             refine hl_v rfl rfl rfl (rv_ev rfl) ?_
             refine hl_less (sx 0 rfl (sx 1 rfl (sx 2 rfl (sx 4 rfl (sx 5 rfl (sx 6 rfl (sx 7 rfl (sx 8 rfl (sx 9 rfl (sx 10 rfl (sx 11 rfl (sx 18 rfl (sx 33 rfl (sx 61 rfl (sx 67 rfl (sx 108 rfl (sub_nil _))))))))))))))))) (.refl _) ?_
             refine hl_nil ?_
             refine hq_then ?_
             refine hc_true rfl ?_
             refine hc_exit ?_
             refine hq_then_exit ?_
             refine hq_block_exit ?_
             refine hq_then ?_
             refine hc_region ?_
             refine hl_v rfl rfl rfl (rv_ev rfl) ?_
             refine hl_v rfl rfl rfl (rv_add rfl rfl rfl (by constructor <;> omega)) ?_
             refine hl_v rfl rfl rfl (rv_ev rfl) ?_
             refine hl_less (sx 0 rfl (sx 1 rfl (sx 2 rfl (sx 4 rfl (sx 5 rfl (sx 6 rfl (sx 7 rfl (sx 8 rfl (sx 9 rfl (sx 10 rfl (sx 11 rfl (sx 18 rfl (sx 33 rfl (sx 61 rfl (sx 67 rfl (sx 108 rfl (sub_nil _))))))))))))))))) (.refl _) ?_
             refine hl_nil ?_
             exact hq_round3 (k + 1) _ _ ⟨by omega, by rw [sR_succ]; rw [if_pos (by unfold Skip; omega)]; exact hz, by omega⟩ (by omega) (sx 0 rfl (sx 1 rfl (sx 2 rfl (sx 4 rfl (sx 5 rfl (sx 6 rfl (sx 7 rfl (sx 8 rfl (sx 9 rfl (sx 10 rfl (sx 11 rfl (sx 18 rfl (sx 33 rfl (sx 61 rfl (sub_nil _))))))))))))))) ((.cons_cons _ (.cons_cons _ .slnil)))
            ·
             refine hl_v rfl rfl rfl (rv_ev rfl) ?_
             refine hl_v rfl rfl rfl (rv_ev rfl) ?_
             refine hl_less (sx 0 rfl (sx 1 rfl (sx 2 rfl (sx 4 rfl (sx 5 rfl (sx 6 rfl (sx 7 rfl (sx 8 rfl (sx 9 rfl (sx 10 rfl (sx 11 rfl (sx 18 rfl (sx 33 rfl (sx 61 rfl (sx 67 rfl (sx 108 rfl (sub_nil _))))))))))))))))) (.refl _) ?_
             refine hl_nil ?_
             refine hq_then ?_
             refine hc_false rfl ?_
             refine hc_skip ?_
             exact hq_meet1 () (by unfold Skip; omega) (sx 0 rfl (sx 1 rfl (sx 2 rfl (sx 4 rfl (sx 5 rfl (sx 6 rfl (sx 7 rfl (sx 8 rfl (sx 9 rfl (sx 10 rfl (sx 11 rfl (sx 18 rfl (sx 33 rfl (sx 61 rfl (sx 67 rfl (sub_nil _)))))))))))))))) ((.cons_cons _ (.cons_cons _ .slnil)))
           ·
            refine hl_v rfl rfl rfl (rv_ev rfl) ?_
            refine hl_v rfl rfl rfl (rv_ev rfl) ?_
            refine hl_skip rfl rfl rfl ?_
            refine hl_skip rfl rfl rfl ?_
            refine hl_skip rfl rfl rfl ?_
            refine hl_skip rfl rfl rfl ?_
            refine hl_skip rfl rfl rfl ?_
            refine hl_v rfl rfl rfl (rv_ev rfl) ?_
            refine hl_v rfl rfl rfl (rv_ev rfl) ?_
            refine hl_less (sx 0 rfl (sx 1 rfl (sx 2 rfl (sx 4 rfl (sx 5 rfl (sx 6 rfl (sx 7 rfl (sx 8 rfl (sx 9 rfl (sx 10 rfl (sx 11 rfl (sx 18 rfl (sx 33 rfl (sx 61 rfl (sx 67 rfl (sx 108 rfl (sub_nil _))))))))))))))))) (.refl _) ?_
            refine hl_nil ?_
            refine hq_then ?_
            refine hc_false rfl ?_
            refine hc_skip ?_
            exact hq_meet1 () (by unfold Skip; omega) (sx 0 rfl (sx 1 rfl (sx 2 rfl (sx 4 rfl (sx 5 rfl (sx 6 rfl (sx 7 rfl (sx 8 rfl (sx 9 rfl (sx 10 rfl (sx 11 rfl (sx 18 rfl (sx 33 rfl (sx 61 rfl (sx 67 rfl (sub_nil _)))))))))))))))) ((.cons_cons _ (.cons_cons _ .slnil)))
          ·
           refine hl_v rfl rfl rfl (rv_ev rfl) ?_
           refine hl_skip rfl rfl rfl ?_
           refine hl_skip rfl rfl rfl ?_
           refine hl_skip rfl rfl rfl ?_
           refine hl_v rfl rfl rfl (rv_ev rfl) ?_
           refine hl_v rfl rfl rfl (rv_ev rfl) ?_
           refine hl_skip rfl rfl rfl ?_
           refine hl_skip rfl rfl rfl ?_
           refine hl_skip rfl rfl rfl ?_
           refine hl_skip rfl rfl rfl ?_
           refine hl_skip rfl rfl rfl ?_
           refine hl_v rfl rfl rfl (rv_ev rfl) ?_
           refine hl_v rfl rfl rfl (rv_ev rfl) ?_
           refine hl_less (sx 0 rfl (sx 1 rfl (sx 2 rfl (sx 4 rfl (sx 5 rfl (sx 6 rfl (sx 7 rfl (sx 8 rfl (sx 9 rfl (sx 10 rfl (sx 11 rfl (sx 18 rfl (sx 33 rfl (sx 61 rfl (sx 67 rfl (sx 108 rfl (sub_nil _))))))))))))))))) (.refl _) ?_
           refine hl_nil ?_
           refine hq_then ?_
           refine hc_false rfl ?_
           refine hc_skip ?_
           exact hq_meet1 () (by unfold Skip; omega) (sx 0 rfl (sx 1 rfl (sx 2 rfl (sx 4 rfl (sx 5 rfl (sx 6 rfl (sx 7 rfl (sx 8 rfl (sx 9 rfl (sx 10 rfl (sx 11 rfl (sx 18 rfl (sx 33 rfl (sx 61 rfl (sx 67 rfl (sub_nil _)))))))))))))))) ((.cons_cons _ (.cons_cons _ .slnil)))
       ·
        refine hl_v rfl rfl rfl (rv_ev rfl) ?_
        refine hl_skip rfl rfl rfl ?_
        refine hl_skip rfl rfl rfl ?_
        refine hl_skip rfl rfl rfl ?_
        refine hl_skip rfl rfl rfl ?_
        refine hl_skip rfl rfl rfl ?_
        refine hl_skip rfl rfl rfl ?_
        refine hl_skip rfl rfl rfl ?_
        refine hl_skip rfl rfl rfl ?_
        refine hl_skip rfl rfl rfl ?_
        refine hl_skip rfl rfl rfl ?_
        refine hl_skip rfl rfl rfl ?_
        refine hl_skip rfl rfl rfl ?_
        refine hl_skip rfl rfl rfl ?_
        refine hl_skip rfl rfl rfl ?_
        refine hl_skip rfl rfl rfl ?_
        refine hl_skip rfl rfl rfl ?_
        refine hl_skip rfl rfl rfl ?_
        refine hl_skip rfl rfl rfl ?_
        refine hl_skip rfl rfl rfl ?_
        refine hl_v rfl rfl rfl (rv_ev rfl) ?_
        refine hl_v rfl rfl rfl (rv_ev rfl) ?_
        refine hl_v rfl rfl rfl (rv_ev rfl) ?_
        refine hl_lss rfl rfl rfl rfl rfl rfl (fun h27 => ?_) (fun h27 => ?_)
        ·
         refine hl_v rfl rfl rfl (rv_ev rfl) ?_
         refine hl_v rfl rfl rfl (rv_field (k0 := 2) rfl (by kernel_rfl) rfl) ?_
         refine hl_v rfl rfl rfl (rv_load rfl (by kernel_rfl) rfl (box_cell 1 rfl rfl)) ?_
         refine hl_gtr rfl rfl rfl rfl rfl rfl (fun h28 => ?_) (fun h28 => ?_)
         ·
          refine hl_v rfl rfl rfl (rv_ev rfl) ?_
          refine hl_v rfl rfl rfl (rv_ev rfl) ?_
          refine hl_v rfl rfl rfl (rv_ev rfl) ?_
          refine hl_v rfl rfl rfl (rv_ev rfl) ?_
          refine hl_v rfl rfl rfl (rv_add rfl rfl rfl (by constructor <;> omega)) ?_
          refine hl_v rfl rfl rfl (rv_rem rfl rfl rfl (by constructor <;> omega)) ?_
          refine hl_eql rfl rfl rfl rfl rfl rfl (fun h29 => ?_) (fun h29 => ?_)
          ·
           refine hl_v rfl rfl rfl (rv_ev rfl) ?_
           refine hl_v rfl rfl rfl (rv_ev rfl) ?_
           refine hl_less (sx 0 rfl (sx 1 rfl (sx 2 rfl (sx 4 rfl (sx 5 rfl (sx 6 rfl (sx 7 rfl (sx 8 rfl (sx 9 rfl (sx 10 rfl (sx 11 rfl (sx 18 rfl (sx 33 rfl (sx 61 rfl (sx 67 rfl (sx 108 rfl (sub_nil _))))))))))))))))) (.refl _) ?_
           refine hl_nil ?_
           refine hq_then ?_
           refine hc_true rfl ?_
           refine hc_exit ?_
           refine hq_then_exit ?_
           refine hq_block_exit ?_
           refine hq_then ?_
           refine hc_region ?_
           refine hl_v rfl rfl rfl (rv_ev rfl) ?_
           refine hl_v rfl rfl rfl (rv_add rfl rfl rfl (by constructor <;> omega)) ?_
           refine hl_v rfl rfl rfl (rv_ev rfl) ?_
           refine hl_less (sx 0 rfl (sx 1 rfl (sx 2 rfl (sx 4 rfl (sx 5 rfl (sx 6 rfl (sx 7 rfl (sx 8 rfl (sx 9 rfl (sx 10 rfl (sx 11 rfl (sx 18 rfl (sx 33 rfl (sx 61 rfl (sx 67 rfl (sx 108 rfl (sub_nil _))))))))))))))))) (.refl _) ?_
           refine hl_nil ?_
           exact hq_round3 (k + 1) _ _ ⟨by omega, by rw [sR_succ]; rw [if_pos (by unfold Skip; omega)]; exact hz, by omega⟩ (by omega) (sx 0 rfl (sx 1 rfl (sx 2 rfl (sx 4 rfl (sx 5 rfl (sx 6 rfl (sx 7 rfl (sx 8 rfl (sx 9 rfl (sx 10 rfl (sx 11 rfl (sx 18 rfl (sx 33 rfl (sx 61 rfl (sub_nil _))))))))))))))) ((.cons_cons _ (.cons_cons _ .slnil)))
          ·
           refine hl_v rfl rfl rfl (rv_ev rfl) ?_
           refine hl_v rfl rfl rfl (rv_ev rfl) ?_
           refine hl_less (sx 0 rfl (sx 1 rfl (sx 2 rfl (sx 4 rfl (sx 5 rfl (sx 6 rfl (sx 7 rfl (sx 8 rfl (sx 9 rfl (sx 10 rfl (sx 11 rfl (sx 18 rfl (sx 33 rfl (sx 61 rfl (sx 67 rfl (sx 108 rfl (sub_nil _))))))))))))))))) (.refl _) ?_
           refine hl_nil ?_
           refine hq_then ?_
           refine hc_false rfl ?_
           refine hc_skip ?_
           exact hq_meet1 () (by unfold Skip; omega) (sx 0 rfl (sx 1 rfl (sx 2 rfl (sx 4 rfl (sx 5 rfl (sx 6 rfl (sx 7 rfl (sx 8 rfl (sx 9 rfl (sx 10 rfl (sx 11 rfl (sx 18 rfl (sx 33 rfl (sx 61 rfl (sx 67 rfl (sub_nil _)))))))))))))))) ((.cons_cons _ (.cons_cons _ .slnil)))
         ·
          refine hl_v rfl rfl rfl (rv_ev rfl) ?_
          refine hl_v rfl rfl rfl (rv_ev rfl) ?_
          refine hl_skip rfl rfl rfl ?_
          refine hl_skip rfl rfl rfl ?_
          refine hl_skip rfl rfl rfl ?_
          refine hl_skip rfl rfl rfl ?_
          refine hl_skip rfl rfl rfl ?_
          refine hl_v rfl rfl rfl (rv_ev rfl) ?_
          refine hl_v rfl rfl rfl (rv_ev rfl) ?_
          refine hl_less (sx 0 rfl (sx 1 rfl (sx 2 rfl (sx 4 rfl (sx 5 rfl (sx 6 rfl (sx 7 rfl (sx 8 rfl (sx 9 rfl (sx 10 rfl (sx 11 rfl (sx 18 rfl (sx 33 rfl (sx 61 rfl (sx 67 rfl (sx 108 rfl (sub_nil _))))))))))))))))) (.refl _) ?_
          refine hl_nil ?_
          refine hq_then ?_
          refine hc_false rfl ?_
          refine hc_skip ?_
          exact hq_meet1 () (by unfold Skip; omega) (sx 0 rfl (sx 1 rfl (sx 2 rfl (sx 4 rfl (sx 5 rfl (sx 6 rfl (sx 7 rfl (sx 8 rfl (sx 9 rfl (sx 10 rfl (sx 11 rfl (sx 18 rfl (sx 33 rfl (sx 61 rfl (sx 67 rfl (sub_nil _)))))))))))))))) ((.cons_cons _ (.cons_cons _ .slnil)))
        ·
         refine hl_v rfl rfl rfl (rv_ev rfl) ?_
         refine hl_skip rfl rfl rfl ?_
         refine hl_skip rfl rfl rfl ?_
         refine hl_skip rfl rfl rfl ?_
         refine hl_v rfl rfl rfl (rv_ev rfl) ?_
         refine hl_v rfl rfl rfl (rv_ev rfl) ?_
         refine hl_skip rfl rfl rfl ?_
         refine hl_skip rfl rfl rfl ?_
         refine hl_skip rfl rfl rfl ?_
         refine hl_skip rfl rfl rfl ?_
         refine hl_skip rfl rfl rfl ?_
         refine hl_v rfl rfl rfl (rv_ev rfl) ?_
         refine hl_v rfl rfl rfl (rv_ev rfl) ?_
         refine hl_less (sx 0 rfl (sx 1 rfl (sx 2 rfl (sx 4 rfl (sx 5 rfl (sx 6 rfl (sx 7 rfl (sx 8 rfl (sx 9 rfl (sx 10 rfl (sx 11 rfl (sx 18 rfl (sx 33 rfl (sx 61 rfl (sx 67 rfl (sx 108 rfl (sub_nil _))))))))))))))))) (.refl _) ?_
         refine hl_nil ?_
         refine hq_then ?_
         refine hc_false rfl ?_
         refine hc_skip ?_
         exact hq_meet1 () (by unfold Skip; omega) (sx 0 rfl (sx 1 rfl (sx 2 rfl (sx 4 rfl (sx 5 rfl (sx 6 rfl (sx 7 rfl (sx 8 rfl (sx 9 rfl (sx 10 rfl (sx 11 rfl (sx 18 rfl (sx 33 rfl (sx 61 rfl (sx 67 rfl (sub_nil _)))))))))))))))) ((.cons_cons _ (.cons_cons _ .slnil)))
      intro u0 hm30
      have hskip := hm30
      refine hc_seq ?_
      refine hc_region ?_
      refine hl_v rfl rfl rfl (rv_ev rfl) ?_
      refine hl_less (sx 0 rfl (sx 1 rfl (sx 2 rfl (sx 4 rfl (sx 5 rfl (sx 6 rfl (sx 7 rfl (sx 8 rfl (sx 9 rfl (sx 10 rfl (sx 11 rfl (sx 12 rfl (sx 18 rfl (sx 33 rfl (sx 61 rfl (sx 67 rfl (sub_nil _))))))))))))))))) (.refl _) ?_
      refine hl_nil ?_
      refine hq_then ?_
      refine hc_block ?_
      refine hc_loop3 (α := Nat) (β := Value) (γ := List Int) (fun j b cs => [rowE 3 1 b cs.length (cs.map (Value.int .i64)), boxE b1 #[.int .i64 d.W, .int .i64 d.H, .int .i64 d.T, .int .i64 d.R] 25]) (fun j b cs => [(0, .agg #[.int .i64 d.W, .int .i64 d.H, .int .i64 d.T, .int .i64 d.R]), (1, .int .i64 n), (2, .pointer (some ⟨b1, 0, none⟩)), (4, .slice none 0 0), (5, b), (6, .int .i64 (n / (perI d))), (7, .int .i64 (n % (perI d))), (8, .int .i64 dir), (9, .int .i64 track), (10, .int .i64 (r : Int)), (11, .int .i64 (k : Int)), (12, .int .i64 ((j : Int) + 1)), (18, .bool false), (33, .bool false), (61, .bool true), (67, .bool true)]) (fun j b cs => j ≤ 1 + k % 2 ∧ cs = sK d (n / perI d) (n % perI d) r k zs j ∧ cs.length ≤ zs.length + j) (fun j b cs => 3 - j) 0 _ zs ⟨by omega, rfl, by simp⟩ (sx 0 rfl (sx 1 rfl (sx 2 rfl (sx 4 rfl (sx 5 rfl (sx 6 rfl (sx 7 rfl (sx 8 rfl (sx 9 rfl (sx 10 rfl (sx 11 rfl (sx 12 rfl (sx 18 rfl (sx 33 rfl (sx 61 rfl (sx 67 rfl (sub_nil _))))))))))))))))) ((.cons_cons _ (.cons_cons _ .slnil))) ?_
      intro j b cs hi31
      obtain ⟨hj, ha, hal⟩ := hi31
      refine hc_seq ?_
      refine hc_seq ?_
      refine hc_region ?_
      refine hl_v rfl rfl rfl (rv_ev rfl) ?_
      refine hl_v rfl rfl rfl (rv_ev rfl) ?_
      refine hl_v rfl rfl rfl (rv_rem rfl rfl rfl (by constructor <;> omega)) ?_
      refine hl_v rfl rfl rfl (rv_add rfl rfl rfl (by constructor <;> omega)) ?_
      refine hl_leq rfl rfl rfl rfl rfl rfl (fun h32 => ?_) (fun h32 => ?_)
      ·
       refine hl_less (sx 0 rfl (sx 1 rfl (sx 2 rfl (sx 4 rfl (sx 5 rfl (sx 6 rfl (sx 7 rfl (sx 8 rfl (sx 9 rfl (sx 10 rfl (sx 11 rfl (sx 12 rfl (sx 18 rfl (sx 33 rfl (sx 61 rfl (sx 67 rfl (sx 113 rfl (sub_nil _)))))))))))))))))) (.refl _) ?_
       refine hl_nil ?_
       refine hq_then ?_
       refine hc_true rfl ?_
       refine hc_skip ?_
       refine hq_then ?_
       refine hc_seq ?_
       refine hc_block ?_
       refine hc_seq ?_
       refine hc_seq ?_
       refine hc_region ?_
       refine hl_v rfl rfl rfl (rv_ev rfl) ?_
       refine hl_geq rfl rfl rfl rfl rfl rfl (fun h33 => ?_) (fun h33 => ?_)
       ·
        refine hl_v rfl rfl rfl (rv_ev rfl) ?_
        refine hl_v rfl rfl rfl (rv_ev rfl) ?_
        refine hl_v rfl rfl rfl (rv_ev rfl) ?_
        refine hl_v rfl rfl rfl (rv_rem rfl rfl rfl (by constructor <;> omega)) ?_
        refine hl_v rfl rfl rfl (rv_add rfl rfl rfl (by constructor <;> omega)) ?_
        refine hl_lss rfl rfl rfl rfl rfl rfl (fun h34 => ?_) (fun h34 => ?_)
        ·
         refine hl_v rfl rfl rfl (rv_ev rfl) ?_
         refine hl_less (sx 0 rfl (sx 1 rfl (sx 2 rfl (sx 4 rfl (sx 5 rfl (sx 6 rfl (sx 7 rfl (sx 8 rfl (sx 9 rfl (sx 10 rfl (sx 11 rfl (sx 12 rfl (sx 18 rfl (sx 33 rfl (sx 61 rfl (sx 67 rfl (sx 113 rfl (sx 124 rfl (sub_nil _))))))))))))))))))) (.refl _) ?_
         refine hl_nil ?_
         refine hq_then ?_
         refine hc_true rfl ?_
         refine hc_exit ?_
         refine hq_then_exit ?_
         refine hq_block_exit ?_
         refine hq_then ?_
         refine hc_region ?_
         refine hl_v rfl rfl rfl (rv_ev rfl) ?_
         refine hl_v rfl rfl rfl (rv_add rfl rfl rfl (by constructor <;> omega)) ?_
         refine hl_v rfl rfl rfl (rv_ev rfl) ?_
         refine hl_less (sx 0 rfl (sx 1 rfl (sx 2 rfl (sx 4 rfl (sx 5 rfl (sx 6 rfl (sx 7 rfl (sx 8 rfl (sx 9 rfl (sx 10 rfl (sx 11 rfl (sx 12 rfl (sx 18 rfl (sx 33 rfl (sx 61 rfl (sx 67 rfl (sx 113 rfl (sx 124 rfl (sub_nil _))))))))))))))))))) (.refl _) ?_
         refine hl_nil ?_
         exact hq_round3 (j + 1) _ _ ⟨by omega, by rw [sK_succ, ← ha]; unfold sS; first | rw [if_pos (by omega)] | rw [if_neg (by omega), if_pos (by assumption)] | rw [if_neg (by omega), if_neg (by omega)], by first | omega | (simp; omega)⟩ (by omega) (sx 0 rfl (sx 1 rfl (sx 2 rfl (sx 4 rfl (sx 5 rfl (sx 6 rfl (sx 7 rfl (sx 8 rfl (sx 9 rfl (sx 10 rfl (sx 11 rfl (sx 12 rfl (sx 18 rfl (sx 33 rfl (sx 61 rfl (sx 67 rfl (sub_nil _))))))))))))))))) ((.cons_cons _ (.cons_cons _ .slnil)))
        ·
         refine hl_v rfl rfl rfl (rv_ev rfl) ?_
         refine hl_less (sx 0 rfl (sx 1 rfl (sx 2 rfl (sx 4 rfl (sx 5 rfl (sx 6 rfl (sx 7 rfl (sx 8 rfl (sx 9 rfl (sx 10 rfl (sx 11 rfl (sx 12 rfl (sx 18 rfl (sx 33 rfl (sx 61 rfl (sx 67 rfl (sx 113 rfl (sx 124 rfl (sub_nil _))))))))))))))))))) (.refl _) ?_
         refine hl_nil ?_
         refine hq_then ?_
         refine hc_false rfl ?_
         refine hc_skip ?_
         refine hq_then ?_
         refine hc_seq ?_
         refine hc_draw (by kernel_rfl) 11 [0, 1, 2, 3, 4, 5, 6, 7, 8, 9, 10] (List.take 11 _) (List.drop 11 _) [[], [], [], [], [3], [4], [], [1, 2, 5, 6], [], [], [0, 7, 8, 9]] [125, 126, 127, 128, 129, 130, 131, 132, 133, 134, 135] (fun i vs_ v_ p_ => match i with | 0 => v_ = .agg #[.int .i64 d.W, .int .i64 d.H, .int .i64 d.T, .int .i64 d.R] ∧ p_ = [] | 1 => v_ = .agg #[.int .i64 d.W, .int .i64 d.H, .int .i64 d.T, .int .i64 d.R] ∧ p_ = [] | 2 => v_ = .int .i64 (n / (perI d)) ∧ p_ = [] | 3 => v_ = .int .i64 (r : Int) ∧ p_ = [] | 4 => v_ = .int .i64 ((r : Int) + 2) ∧ p_ = [] | 5 => v_ = .int .i64 (((r : Int) + 2) % 4) ∧ p_ = [] | 6 => v_ = .int .i64 ((j : Int) + 1) ∧ p_ = [] | 7 => v_ = .int .i64 (tileStepI d (n / (perI d)) (((r : Int) + 2) % 4) ((j : Int) + 1)) ∧ p_ = [] | 8 => v_ = .int .i64 (r : Int) ∧ p_ = [] | 9 => v_ = .int .i64 (k : Int) ∧ p_ = [] | 10 => v_ = .int .i64 (wireNodeS d (tileStepI d (n / (perI d)) (((r : Int) + 2) % 4) ((j : Int) + 1)) (r : Int) (k : Int)) ∧ p_ = [] | _ => True) (List.take_append_drop 11 _).symm (by kernel_rfl) (by kernel_rfl) rfl rfl ?_ ?_
         ·
          refine ⟨?_, ?_, ?_, ?_, ?_, ?_, ?_, ?_, ?_, ?_, ?_, trivial⟩
          ·
           intro vf pf hR
           refine Or.inl ⟨rfl, ?_⟩
           refine rq_less (sx 2 rfl (sub_nil _)) (List.sublist_append_right _ _) ?_
           exact rq_v (rv_loadN (cs := [.int .i64 d.W, .int .i64 d.H, .int .i64 d.T, .int .i64 d.R]) rfl (by kernel_rfl) (by kernel_rfl) rfl rfl (box_part 1 rfl 0 rfl))
          ·
           intro vf pf hR
           refine Or.inl ⟨rfl, ?_⟩
           refine rq_less (sx 2 rfl (sub_nil _)) (List.sublist_append_right _ _) ?_
           exact rq_v (rv_loadN (cs := [.int .i64 d.W, .int .i64 d.H, .int .i64 d.T, .int .i64 d.R]) rfl (by kernel_rfl) (by kernel_rfl) rfl rfl (box_part 1 rfl 0 rfl))
          ·
           intro vf pf hR
           refine Or.inl ⟨rfl, ?_⟩
           refine rq_less (sx 6 rfl (sub_nil _)) (List.sublist_append_right _ _) ?_
           exact rq_v (rv_ev rfl)
          ·
           intro vf pf hR
           refine Or.inl ⟨rfl, ?_⟩
           refine rq_less (sx 10 rfl (sub_nil _)) (List.sublist_append_right _ _) ?_
           exact rq_v (rv_ev rfl)
          ·
           intro vf pf hR
           have e3 : (vf 3) = .int .i64 (r : Int) ∧ (pf 3) = [] := hR 3 (by decide)
           refine Or.inl ⟨rfl, ?_⟩
           refine rq_less (sx 128 (congrArg some e3.1) (sub_nil _)) (List.sublist_append_right _ _) ?_
           exact rq_v (rv_add rfl rfl rfl (by constructor <;> omega))
          ·
           intro vf pf hR
           have e4 : (vf 4) = .int .i64 ((r : Int) + 2) ∧ (pf 4) = [] := hR 4 (by decide)
           refine Or.inl ⟨rfl, ?_⟩
           refine rq_less (sx 129 (congrArg some e4.1) (sub_nil _)) (List.sublist_append_right _ _) ?_
           exact rq_v (rv_rem rfl rfl rfl (by constructor <;> omega))
          ·
           intro vf pf hR
           refine Or.inl ⟨rfl, ?_⟩
           refine rq_less (sx 12 rfl (sub_nil _)) (List.sublist_append_right _ _) ?_
           exact rq_v (rv_ev rfl)
          ·
           intro vf pf hR
           have e1 : (vf 1) = .agg #[.int .i64 d.W, .int .i64 d.H, .int .i64 d.T, .int .i64 d.R] ∧ (pf 1) = [] := hR 1 (by decide)
           have e2 : (vf 2) = .int .i64 (n / (perI d)) ∧ (pf 2) = [] := hR 2 (by decide)
           have e5 : (vf 5) = .int .i64 (((r : Int) + 2) % 4) ∧ (pf 5) = [] := hR 5 (by decide)
           have e6 : (vf 6) = .int .i64 ((j : Int) + 1) ∧ (pf 6) = [] := hR 6 (by decide)
           refine Or.inl ⟨rfl, ?_⟩
           refine rq_less (sx 126 (congrArg some e1.1) (sx 127 (congrArg some e2.1) (sx 130 (congrArg some e5.1) (sx 131 (congrArg some e6.1) (sub_nil _))))) (List.sublist_append_right _ _) ?_
           exact (rq_call (by kernel_rfl) rfl (fun w hm => ret_ans (specTileStep_any d _ _ _ w)))
          ·
           intro vf pf hR
           refine Or.inl ⟨rfl, ?_⟩
           refine rq_less (sx 10 rfl (sub_nil _)) (List.sublist_append_right _ _) ?_
           exact rq_v (rv_ev rfl)
          ·
           intro vf pf hR
           refine Or.inl ⟨rfl, ?_⟩
           refine rq_less (sx 11 rfl (sub_nil _)) (List.sublist_append_right _ _) ?_
           exact rq_v (rv_ev rfl)
          ·
           intro vf pf hR
           have e0 : (vf 0) = .agg #[.int .i64 d.W, .int .i64 d.H, .int .i64 d.T, .int .i64 d.R] ∧ (pf 0) = [] := hR 0 (by decide)
           have e7 : (vf 7) = .int .i64 (tileStepI d (n / (perI d)) (((r : Int) + 2) % 4) ((j : Int) + 1)) ∧ (pf 7) = [] := hR 7 (by decide)
           have e8 : (vf 8) = .int .i64 (r : Int) ∧ (pf 8) = [] := hR 8 (by decide)
           have e9 : (vf 9) = .int .i64 (k : Int) ∧ (pf 9) = [] := hR 9 (by decide)
           refine Or.inl ⟨rfl, ?_⟩
           refine rq_less (sx 125 (congrArg some e0.1) (sx 132 (congrArg some e7.1) (sx 133 (congrArg some e8.1) (sx 134 (congrArg some e9.1) (sub_nil _))))) (List.sublist_append_right _ _) ?_
           exact (rq_call (by kernel_rfl) rfl (fun w hm => ret_ans (specWireNode_ans d _ _ _ w (by omega) (by omega) (by omega) (by omega))))
         ·
          intro vf pf hR
          have e10 : (vf 10) = .int .i64 (wireNodeS d (tileStepI d (n / (perI d)) (((r : Int) + 2) % 4) ((j : Int) + 1)) (r : Int) (k : Int)) ∧ (pf 10) = [] := hR 10 (by decide)
          refine hl_less (l' := [rowE 3 1 b cs.length (cs.map (Value.int .i64)), boxE b1 #[.int .i64 d.W, .int .i64 d.H, .int .i64 d.T, .int .i64 d.R] 25]) (sx 0 rfl (sx 1 rfl (sx 2 rfl (sx 4 rfl (sx 5 rfl (sx 6 rfl (sx 7 rfl (sx 8 rfl (sx 9 rfl (sx 10 rfl (sx 11 rfl (sx 12 rfl (sx 18 rfl (sx 33 rfl (sx 61 rfl (sx 67 rfl (sx 113 rfl (sx 124 rfl (sx 135 (congrArg some e10.1) (sub_nil _)))))))))))))))))))) (List.sublist_append_right _ _) ?_
          simp only [List.drop_succ_cons, List.drop_zero]
          refine hl_v rfl rfl rfl (rv_ev rfl) ?_
          refine hl_less (sx 0 rfl (sx 1 rfl (sx 2 rfl (sx 4 rfl (sx 5 rfl (sx 6 rfl (sx 7 rfl (sx 8 rfl (sx 9 rfl (sx 10 rfl (sx 11 rfl (sx 12 rfl (sx 13 rfl (sx 18 rfl (sx 33 rfl (sx 61 rfl (sx 67 rfl (sx 113 rfl (sx 124 rfl (sub_nil _)))))))))))))))))))) (.refl _) ?_
          refine hl_nil ?_
          refine hq_then ?_
          refine hc_seq ?_
          refine hc_region ?_
          refine hl_v rfl rfl rfl (rv_ev rfl) ?_
          refine hl_geq rfl rfl rfl rfl rfl rfl (fun h35 => ?_) (fun h35 => ?_)
          ·
           refine hl_less (sx 0 rfl (sx 1 rfl (sx 2 rfl (sx 4 rfl (sx 5 rfl (sx 6 rfl (sx 7 rfl (sx 8 rfl (sx 9 rfl (sx 10 rfl (sx 11 rfl (sx 12 rfl (sx 13 rfl (sx 18 rfl (sx 33 rfl (sx 61 rfl (sx 67 rfl (sx 113 rfl (sx 124 rfl (sx 137 rfl (sub_nil _))))))))))))))))))))) (.refl _) ?_
           refine hl_nil ?_
           refine hq_then ?_
           refine hc_true rfl ?_
           refine hc_region ?_
           refine hl_v rfl rfl rfl (rv_ev rfl) ?_
           refine hl_v rfl rfl rfl (rv_ev rfl) ?_
           refine hl_row rfl rfl rfl (rq_buildSlice (z := .int .i64 0) (s := 1) (cs := ([wireNodeS d (tileStepI d (n / (perI d)) (((r : Int) + 2) % 4) ((j : Int) + 1)) (r : Int) (k : Int)].map (Value.int .i64))) rfl Try.underlying30 (by kernel_rfl) (by decide) rfl (by kernel_rfl) rfl) ?_
           intro g36
           refine hl_append (i := 1) (z := .int .i64 0) (bytes := 8) (n' := (cs ++ ([wireNodeS d (tileStepI d (n / (perI d)) (((r : Int) + 2) % 4) ((j : Int) + 1)) (r : Int) (k : Int)])).length) (xs' := ((cs ++ ([wireNodeS d (tileStepI d (n / (perI d)) (((r : Int) + 2) % 4) ((j : Int) + 1)) (r : Int) (k : Int)])).map (Value.int .i64))) (L := fun v37 => [rowE 3 1 (.slice (some ⟨g36, 0, none⟩) 1 1) 1 ([wireNodeS d (tileStepI d (n / (perI d)) (((r : Int) + 2) % 4) ((j : Int) + 1)) (r : Int) (k : Int)].map (Value.int .i64)), rowE 3 1 v37 ((cs ++ ([wireNodeS d (tileStepI d (n / (perI d)) (((r : Int) + 2) % 4) ((j : Int) + 1)) (r : Int) (k : Int)])).length) ((cs ++ ([wireNodeS d (tileStepI d (n / (perI d)) (((r : Int) + 2) % 4) ((j : Int) + 1)) (r : Int) (k : Int)])).map (Value.int .i64)), boxE b1 #[.int .i64 d.W, .int .i64 d.H, .int .i64 d.T, .int .i64 d.R] 25]) rfl rfl rfl rfl Try.underlying30 (by kernel_rfl) (by kernel_rfl) rfl rfl rfl (rd_row 0 rfl) (ints_one _) (by simp; omega) (len_app cs ([wireNodeS d (tileStepI d (n / (perI d)) (((r : Int) + 2) % 4) ((j : Int) + 1)) (r : Int) (k : Int)])) (ints_app cs ([wireNodeS d (tileStepI d (n / (perI d)) (((r : Int) + 2) % 4) ((j : Int) + 1)) (r : Int) (k : Int)])) (fun _ => rfl) ?_
           intro v37
           refine hl_v rfl rfl rfl (rv_ev rfl) ?_
           refine hl_less (sx 0 rfl (sx 1 rfl (sx 2 rfl (sx 4 rfl (sx 5 rfl (sx 6 rfl (sx 7 rfl (sx 8 rfl (sx 9 rfl (sx 10 rfl (sx 11 rfl (sx 12 rfl (sx 13 rfl (sx 18 rfl (sx 33 rfl (sx 61 rfl (sx 67 rfl (sx 113 rfl (sx 124 rfl (sx 137 rfl (sub_nil _))))))))))))))))))))) (.refl _) ?_
           refine hl_nil ?_
           refine hq_block_normal ?_
           refine hq_then ?_
           refine hc_region ?_
           refine hl_v rfl rfl rfl (rv_ev rfl) ?_
           refine hl_v rfl rfl rfl (rv_add rfl rfl rfl (by constructor <;> omega)) ?_
           refine hl_v rfl rfl rfl (rv_ev rfl) ?_
           refine hl_less (sx 0 rfl (sx 1 rfl (sx 2 rfl (sx 4 rfl (sx 5 rfl (sx 6 rfl (sx 7 rfl (sx 8 rfl (sx 9 rfl (sx 10 rfl (sx 11 rfl (sx 12 rfl (sx 13 rfl (sx 18 rfl (sx 33 rfl (sx 61 rfl (sx 67 rfl (sx 113 rfl (sx 124 rfl (sx 137 rfl (sub_nil _))))))))))))))))))))) (.refl _) ?_
           refine hl_nil ?_
           exact hq_round3 (j + 1) _ _ ⟨by omega, by rw [sK_succ, ← ha]; unfold sS; first | rw [if_pos (by omega)] | rw [if_neg (by omega), if_pos (by assumption)] | rw [if_neg (by omega), if_neg (by omega)], by first | omega | (simp; omega)⟩ (by omega) (sx 0 rfl (sx 1 rfl (sx 2 rfl (sx 4 rfl (sx 5 rfl (sx 6 rfl (sx 7 rfl (sx 8 rfl (sx 9 rfl (sx 10 rfl (sx 11 rfl (sx 12 rfl (sx 18 rfl (sx 33 rfl (sx 61 rfl (sx 67 rfl (sub_nil _))))))))))))))))) ((.cons _ (.cons_cons _ (.cons_cons _ .slnil))))
          ·
           refine hl_less (sx 0 rfl (sx 1 rfl (sx 2 rfl (sx 4 rfl (sx 5 rfl (sx 6 rfl (sx 7 rfl (sx 8 rfl (sx 9 rfl (sx 10 rfl (sx 11 rfl (sx 12 rfl (sx 13 rfl (sx 18 rfl (sx 33 rfl (sx 61 rfl (sx 67 rfl (sx 113 rfl (sx 124 rfl (sx 137 rfl (sub_nil _))))))))))))))))))))) (.refl _) ?_
           refine hl_nil ?_
           refine hq_then ?_
           refine hc_false rfl ?_
           refine hc_skip ?_
           refine hq_block_normal ?_
           refine hq_then ?_
           refine hc_region ?_
           refine hl_v rfl rfl rfl (rv_ev rfl) ?_
           refine hl_v rfl rfl rfl (rv_add rfl rfl rfl (by constructor <;> omega)) ?_
           refine hl_v rfl rfl rfl (rv_ev rfl) ?_
           refine hl_less (sx 0 rfl (sx 1 rfl (sx 2 rfl (sx 4 rfl (sx 5 rfl (sx 6 rfl (sx 7 rfl (sx 8 rfl (sx 9 rfl (sx 10 rfl (sx 11 rfl (sx 12 rfl (sx 13 rfl (sx 18 rfl (sx 33 rfl (sx 61 rfl (sx 67 rfl (sx 113 rfl (sx 124 rfl (sx 137 rfl (sub_nil _))))))))))))))))))))) (.refl _) ?_
           refine hl_nil ?_
           exact hq_round3 (j + 1) _ _ ⟨by omega, by rw [sK_succ, ← ha]; unfold sS; first | rw [if_pos (by omega)] | rw [if_neg (by omega), if_pos (by assumption)] | rw [if_neg (by omega), if_neg (by omega)], by first | omega | (simp; omega)⟩ (by omega) (sx 0 rfl (sx 1 rfl (sx 2 rfl (sx 4 rfl (sx 5 rfl (sx 6 rfl (sx 7 rfl (sx 8 rfl (sx 9 rfl (sx 10 rfl (sx 11 rfl (sx 12 rfl (sx 18 rfl (sx 33 rfl (sx 61 rfl (sx 67 rfl (sub_nil _))))))))))))))))) ((.cons_cons _ (.cons_cons _ .slnil)))
       ·
        refine hl_v rfl rfl rfl (rv_ev rfl) ?_
        refine hl_skip rfl rfl rfl ?_
        refine hl_skip rfl rfl rfl ?_
        refine hl_skip rfl rfl rfl ?_
        refine hl_skip rfl rfl rfl ?_
        refine hl_skip rfl rfl rfl ?_
        refine hl_v rfl rfl rfl (rv_ev rfl) ?_
        refine hl_less (sx 0 rfl (sx 1 rfl (sx 2 rfl (sx 4 rfl (sx 5 rfl (sx 6 rfl (sx 7 rfl (sx 8 rfl (sx 9 rfl (sx 10 rfl (sx 11 rfl (sx 12 rfl (sx 18 rfl (sx 33 rfl (sx 61 rfl (sx 67 rfl (sx 113 rfl (sx 124 rfl (sub_nil _))))))))))))))))))) (.refl _) ?_
        refine hl_nil ?_
        refine hq_then ?_
        refine hc_false rfl ?_
        refine hc_skip ?_
        refine hq_then ?_
        refine hc_seq ?_
        refine hc_draw (by kernel_rfl) 11 [0, 1, 2, 3, 4, 5, 6, 7, 8, 9, 10] (List.take 11 _) (List.drop 11 _) [[], [], [], [], [3], [4], [], [1, 2, 5, 6], [], [], [0, 7, 8, 9]] [125, 126, 127, 128, 129, 130, 131, 132, 133, 134, 135] (fun i vs_ v_ p_ => match i with | 0 => v_ = .agg #[.int .i64 d.W, .int .i64 d.H, .int .i64 d.T, .int .i64 d.R] ∧ p_ = [] | 1 => v_ = .agg #[.int .i64 d.W, .int .i64 d.H, .int .i64 d.T, .int .i64 d.R] ∧ p_ = [] | 2 => v_ = .int .i64 (n / (perI d)) ∧ p_ = [] | 3 => v_ = .int .i64 (r : Int) ∧ p_ = [] | 4 => v_ = .int .i64 ((r : Int) + 2) ∧ p_ = [] | 5 => v_ = .int .i64 (((r : Int) + 2) % 4) ∧ p_ = [] | 6 => v_ = .int .i64 ((j : Int) + 1) ∧ p_ = [] | 7 => v_ = .int .i64 (tileStepI d (n / (perI d)) (((r : Int) + 2) % 4) ((j : Int) + 1)) ∧ p_ = [] | 8 => v_ = .int .i64 (r : Int) ∧ p_ = [] | 9 => v_ = .int .i64 (k : Int) ∧ p_ = [] | 10 => v_ = .int .i64 (wireNodeS d (tileStepI d (n / (perI d)) (((r : Int) + 2) % 4) ((j : Int) + 1)) (r : Int) (k : Int)) ∧ p_ = [] | _ => True) (List.take_append_drop 11 _).symm (by kernel_rfl) (by kernel_rfl) rfl rfl ?_ ?_
        ·
         refine ⟨?_, ?_, ?_, ?_, ?_, ?_, ?_, ?_, ?_, ?_, ?_, trivial⟩
         ·
          intro vf pf hR
          refine Or.inl ⟨rfl, ?_⟩
          refine rq_less (sx 2 rfl (sub_nil _)) (List.sublist_append_right _ _) ?_
          exact rq_v (rv_loadN (cs := [.int .i64 d.W, .int .i64 d.H, .int .i64 d.T, .int .i64 d.R]) rfl (by kernel_rfl) (by kernel_rfl) rfl rfl (box_part 1 rfl 0 rfl))
         ·
          intro vf pf hR
          refine Or.inl ⟨rfl, ?_⟩
          refine rq_less (sx 2 rfl (sub_nil _)) (List.sublist_append_right _ _) ?_
          exact rq_v (rv_loadN (cs := [.int .i64 d.W, .int .i64 d.H, .int .i64 d.T, .int .i64 d.R]) rfl (by kernel_rfl) (by kernel_rfl) rfl rfl (box_part 1 rfl 0 rfl))
         ·
          intro vf pf hR
          refine Or.inl ⟨rfl, ?_⟩
          refine rq_less (sx 6 rfl (sub_nil _)) (List.sublist_append_right _ _) ?_
          exact rq_v (rv_ev rfl)
         ·
          intro vf pf hR
          refine Or.inl ⟨rfl, ?_⟩
          refine rq_less (sx 10 rfl (sub_nil _)) (List.sublist_append_right _ _) ?_
          exact rq_v (rv_ev rfl)
         ·
          intro vf pf hR
          have e3 : (vf 3) = .int .i64 (r : Int) ∧ (pf 3) = [] := hR 3 (by decide)
          refine Or.inl ⟨rfl, ?_⟩
          refine rq_less (sx 128 (congrArg some e3.1) (sub_nil _)) (List.sublist_append_right _ _) ?_
          exact rq_v (rv_add rfl rfl rfl (by constructor <;> omega))
         ·
          intro vf pf hR
          have e4 : (vf 4) = .int .i64 ((r : Int) + 2) ∧ (pf 4) = [] := hR 4 (by decide)
          refine Or.inl ⟨rfl, ?_⟩
          refine rq_less (sx 129 (congrArg some e4.1) (sub_nil _)) (List.sublist_append_right _ _) ?_
          exact rq_v (rv_rem rfl rfl rfl (by constructor <;> omega))
         ·
          intro vf pf hR
          refine Or.inl ⟨rfl, ?_⟩
          refine rq_less (sx 12 rfl (sub_nil _)) (List.sublist_append_right _ _) ?_
          exact rq_v (rv_ev rfl)
         ·
          intro vf pf hR
          have e1 : (vf 1) = .agg #[.int .i64 d.W, .int .i64 d.H, .int .i64 d.T, .int .i64 d.R] ∧ (pf 1) = [] := hR 1 (by decide)
          have e2 : (vf 2) = .int .i64 (n / (perI d)) ∧ (pf 2) = [] := hR 2 (by decide)
          have e5 : (vf 5) = .int .i64 (((r : Int) + 2) % 4) ∧ (pf 5) = [] := hR 5 (by decide)
          have e6 : (vf 6) = .int .i64 ((j : Int) + 1) ∧ (pf 6) = [] := hR 6 (by decide)
          refine Or.inl ⟨rfl, ?_⟩
          refine rq_less (sx 126 (congrArg some e1.1) (sx 127 (congrArg some e2.1) (sx 130 (congrArg some e5.1) (sx 131 (congrArg some e6.1) (sub_nil _))))) (List.sublist_append_right _ _) ?_
          exact (rq_call (by kernel_rfl) rfl (fun w hm => ret_ans (specTileStep_any d _ _ _ w)))
         ·
          intro vf pf hR
          refine Or.inl ⟨rfl, ?_⟩
          refine rq_less (sx 10 rfl (sub_nil _)) (List.sublist_append_right _ _) ?_
          exact rq_v (rv_ev rfl)
         ·
          intro vf pf hR
          refine Or.inl ⟨rfl, ?_⟩
          refine rq_less (sx 11 rfl (sub_nil _)) (List.sublist_append_right _ _) ?_
          exact rq_v (rv_ev rfl)
         ·
          intro vf pf hR
          have e0 : (vf 0) = .agg #[.int .i64 d.W, .int .i64 d.H, .int .i64 d.T, .int .i64 d.R] ∧ (pf 0) = [] := hR 0 (by decide)
          have e7 : (vf 7) = .int .i64 (tileStepI d (n / (perI d)) (((r : Int) + 2) % 4) ((j : Int) + 1)) ∧ (pf 7) = [] := hR 7 (by decide)
          have e8 : (vf 8) = .int .i64 (r : Int) ∧ (pf 8) = [] := hR 8 (by decide)
          have e9 : (vf 9) = .int .i64 (k : Int) ∧ (pf 9) = [] := hR 9 (by decide)
          refine Or.inl ⟨rfl, ?_⟩
          refine rq_less (sx 125 (congrArg some e0.1) (sx 132 (congrArg some e7.1) (sx 133 (congrArg some e8.1) (sx 134 (congrArg some e9.1) (sub_nil _))))) (List.sublist_append_right _ _) ?_
          exact (rq_call (by kernel_rfl) rfl (fun w hm => ret_ans (specWireNode_ans d _ _ _ w (by omega) (by omega) (by omega) (by omega))))
        ·
         intro vf pf hR
         have e10 : (vf 10) = .int .i64 (wireNodeS d (tileStepI d (n / (perI d)) (((r : Int) + 2) % 4) ((j : Int) + 1)) (r : Int) (k : Int)) ∧ (pf 10) = [] := hR 10 (by decide)
         refine hl_less (l' := [rowE 3 1 b cs.length (cs.map (Value.int .i64)), boxE b1 #[.int .i64 d.W, .int .i64 d.H, .int .i64 d.T, .int .i64 d.R] 25]) (sx 0 rfl (sx 1 rfl (sx 2 rfl (sx 4 rfl (sx 5 rfl (sx 6 rfl (sx 7 rfl (sx 8 rfl (sx 9 rfl (sx 10 rfl (sx 11 rfl (sx 12 rfl (sx 18 rfl (sx 33 rfl (sx 61 rfl (sx 67 rfl (sx 113 rfl (sx 124 rfl (sx 135 (congrArg some e10.1) (sub_nil _)))))))))))))))))))) (List.sublist_append_right _ _) ?_
         simp only [List.drop_succ_cons, List.drop_zero]
         refine hl_v rfl rfl rfl (rv_ev rfl) ?_
         refine hl_less (sx 0 rfl (sx 1 rfl (sx 2 rfl (sx 4 rfl (sx 5 rfl (sx 6 rfl (sx 7 rfl (sx 8 rfl (sx 9 rfl (sx 10 rfl (sx 11 rfl (sx 12 rfl (sx 13 rfl (sx 18 rfl (sx 33 rfl (sx 61 rfl (sx 67 rfl (sx 113 rfl (sx 124 rfl (sub_nil _)))))))))))))))))))) (.refl _) ?_
         refine hl_nil ?_
         refine hq_then ?_
         refine hc_seq ?_
         refine hc_region ?_
         refine hl_v rfl rfl rfl (rv_ev rfl) ?_
         refine hl_geq rfl rfl rfl rfl rfl rfl (fun h38 => ?_) (fun h38 => ?_)
         ·
          refine hl_less (sx 0 rfl (sx 1 rfl (sx 2 rfl (sx 4 rfl (sx 5 rfl (sx 6 rfl (sx 7 rfl (sx 8 rfl (sx 9 rfl (sx 10 rfl (sx 11 rfl (sx 12 rfl (sx 13 rfl (sx 18 rfl (sx 33 rfl (sx 61 rfl (sx 67 rfl (sx 113 rfl (sx 124 rfl (sx 137 rfl (sub_nil _))))))))))))))))))))) (.refl _) ?_
          refine hl_nil ?_
          refine hq_then ?_
          refine hc_true rfl ?_
          refine hc_region ?_
          refine hl_v rfl rfl rfl (rv_ev rfl) ?_
          refine hl_v rfl rfl rfl (rv_ev rfl) ?_
          refine hl_row rfl rfl rfl (rq_buildSlice (z := .int .i64 0) (s := 1) (cs := ([wireNodeS d (tileStepI d (n / (perI d)) (((r : Int) + 2) % 4) ((j : Int) + 1)) (r : Int) (k : Int)].map (Value.int .i64))) rfl Try.underlying30 (by kernel_rfl) (by decide) rfl (by kernel_rfl) rfl) ?_
          intro g39
          refine hl_append (i := 1) (z := .int .i64 0) (bytes := 8) (n' := (cs ++ ([wireNodeS d (tileStepI d (n / (perI d)) (((r : Int) + 2) % 4) ((j : Int) + 1)) (r : Int) (k : Int)])).length) (xs' := ((cs ++ ([wireNodeS d (tileStepI d (n / (perI d)) (((r : Int) + 2) % 4) ((j : Int) + 1)) (r : Int) (k : Int)])).map (Value.int .i64))) (L := fun v40 => [rowE 3 1 (.slice (some ⟨g39, 0, none⟩) 1 1) 1 ([wireNodeS d (tileStepI d (n / (perI d)) (((r : Int) + 2) % 4) ((j : Int) + 1)) (r : Int) (k : Int)].map (Value.int .i64)), rowE 3 1 v40 ((cs ++ ([wireNodeS d (tileStepI d (n / (perI d)) (((r : Int) + 2) % 4) ((j : Int) + 1)) (r : Int) (k : Int)])).length) ((cs ++ ([wireNodeS d (tileStepI d (n / (perI d)) (((r : Int) + 2) % 4) ((j : Int) + 1)) (r : Int) (k : Int)])).map (Value.int .i64)), boxE b1 #[.int .i64 d.W, .int .i64 d.H, .int .i64 d.T, .int .i64 d.R] 25]) rfl rfl rfl rfl Try.underlying30 (by kernel_rfl) (by kernel_rfl) rfl rfl rfl (rd_row 0 rfl) (ints_one _) (by simp; omega) (len_app cs ([wireNodeS d (tileStepI d (n / (perI d)) (((r : Int) + 2) % 4) ((j : Int) + 1)) (r : Int) (k : Int)])) (ints_app cs ([wireNodeS d (tileStepI d (n / (perI d)) (((r : Int) + 2) % 4) ((j : Int) + 1)) (r : Int) (k : Int)])) (fun _ => rfl) ?_
          intro v40
          refine hl_v rfl rfl rfl (rv_ev rfl) ?_
          refine hl_less (sx 0 rfl (sx 1 rfl (sx 2 rfl (sx 4 rfl (sx 5 rfl (sx 6 rfl (sx 7 rfl (sx 8 rfl (sx 9 rfl (sx 10 rfl (sx 11 rfl (sx 12 rfl (sx 13 rfl (sx 18 rfl (sx 33 rfl (sx 61 rfl (sx 67 rfl (sx 113 rfl (sx 124 rfl (sx 137 rfl (sub_nil _))))))))))))))))))))) (.refl _) ?_
          refine hl_nil ?_
          refine hq_block_normal ?_
          refine hq_then ?_
          refine hc_region ?_
          refine hl_v rfl rfl rfl (rv_ev rfl) ?_
          refine hl_v rfl rfl rfl (rv_add rfl rfl rfl (by constructor <;> omega)) ?_
          refine hl_v rfl rfl rfl (rv_ev rfl) ?_
          refine hl_less (sx 0 rfl (sx 1 rfl (sx 2 rfl (sx 4 rfl (sx 5 rfl (sx 6 rfl (sx 7 rfl (sx 8 rfl (sx 9 rfl (sx 10 rfl (sx 11 rfl (sx 12 rfl (sx 13 rfl (sx 18 rfl (sx 33 rfl (sx 61 rfl (sx 67 rfl (sx 113 rfl (sx 124 rfl (sx 137 rfl (sub_nil _))))))))))))))))))))) (.refl _) ?_
          refine hl_nil ?_
          exact hq_round3 (j + 1) _ _ ⟨by omega, by rw [sK_succ, ← ha]; unfold sS; first | rw [if_pos (by omega)] | rw [if_neg (by omega), if_pos (by assumption)] | rw [if_neg (by omega), if_neg (by omega)], by first | omega | (simp; omega)⟩ (by omega) (sx 0 rfl (sx 1 rfl (sx 2 rfl (sx 4 rfl (sx 5 rfl (sx 6 rfl (sx 7 rfl (sx 8 rfl (sx 9 rfl (sx 10 rfl (sx 11 rfl (sx 12 rfl (sx 18 rfl (sx 33 rfl (sx 61 rfl (sx 67 rfl (sub_nil _))))))))))))))))) ((.cons _ (.cons_cons _ (.cons_cons _ .slnil))))
         ·
          refine hl_less (sx 0 rfl (sx 1 rfl (sx 2 rfl (sx 4 rfl (sx 5 rfl (sx 6 rfl (sx 7 rfl (sx 8 rfl (sx 9 rfl (sx 10 rfl (sx 11 rfl (sx 12 rfl (sx 13 rfl (sx 18 rfl (sx 33 rfl (sx 61 rfl (sx 67 rfl (sx 113 rfl (sx 124 rfl (sx 137 rfl (sub_nil _))))))))))))))))))))) (.refl _) ?_
          refine hl_nil ?_
          refine hq_then ?_
          refine hc_false rfl ?_
          refine hc_skip ?_
          refine hq_block_normal ?_
          refine hq_then ?_
          refine hc_region ?_
          refine hl_v rfl rfl rfl (rv_ev rfl) ?_
          refine hl_v rfl rfl rfl (rv_add rfl rfl rfl (by constructor <;> omega)) ?_
          refine hl_v rfl rfl rfl (rv_ev rfl) ?_
          refine hl_less (sx 0 rfl (sx 1 rfl (sx 2 rfl (sx 4 rfl (sx 5 rfl (sx 6 rfl (sx 7 rfl (sx 8 rfl (sx 9 rfl (sx 10 rfl (sx 11 rfl (sx 12 rfl (sx 13 rfl (sx 18 rfl (sx 33 rfl (sx 61 rfl (sx 67 rfl (sx 113 rfl (sx 124 rfl (sx 137 rfl (sub_nil _))))))))))))))))))))) (.refl _) ?_
          refine hl_nil ?_
          exact hq_round3 (j + 1) _ _ ⟨by omega, by rw [sK_succ, ← ha]; unfold sS; first | rw [if_pos (by omega)] | rw [if_neg (by omega), if_pos (by assumption)] | rw [if_neg (by omega), if_neg (by omega)], by first | omega | (simp; omega)⟩ (by omega) (sx 0 rfl (sx 1 rfl (sx 2 rfl (sx 4 rfl (sx 5 rfl (sx 6 rfl (sx 7 rfl (sx 8 rfl (sx 9 rfl (sx 10 rfl (sx 11 rfl (sx 12 rfl (sx 18 rfl (sx 33 rfl (sx 61 rfl (sx 67 rfl (sub_nil _))))))))))))))))) ((.cons_cons _ (.cons_cons _ .slnil)))
      ·
       refine hl_less (sx 0 rfl (sx 1 rfl (sx 2 rfl (sx 4 rfl (sx 5 rfl (sx 6 rfl (sx 7 rfl (sx 8 rfl (sx 9 rfl (sx 10 rfl (sx 11 rfl (sx 12 rfl (sx 18 rfl (sx 33 rfl (sx 61 rfl (sx 67 rfl (sx 113 rfl (sub_nil _)))))))))))))))))) (.refl _) ?_
       refine hl_nil ?_
       refine hq_then ?_
       refine hc_false rfl ?_
       refine hc_exit ?_
       refine hq_then_exit ?_
       refine hq_then_exit ?_
       refine hq_block_exit ?_
       refine hq_block_normal ?_
       refine hq_then ?_
       refine hc_region ?_
       refine hl_v rfl rfl rfl (rv_ev rfl) ?_
       refine hl_v rfl rfl rfl (rv_add rfl rfl rfl (by constructor <;> omega)) ?_
       refine hl_v rfl rfl rfl (rv_ev rfl) ?_
       refine hl_less (sx 0 rfl (sx 1 rfl (sx 2 rfl (sx 4 rfl (sx 5 rfl (sx 6 rfl (sx 7 rfl (sx 8 rfl (sx 9 rfl (sx 10 rfl (sx 11 rfl (sx 12 rfl (sx 18 rfl (sx 33 rfl (sx 61 rfl (sx 67 rfl (sx 113 rfl (sub_nil _)))))))))))))))))) (.refl _) ?_
       refine hl_nil ?_
       exact hq_round3 (k + 1) _ _ ⟨by omega, by rw [sR_succ]; rw [if_neg hskip, ← hz, ha]; congr 1; omega, by omega⟩ (by omega) (sx 0 rfl (sx 1 rfl (sx 2 rfl (sx 4 rfl (sx 5 rfl (sx 6 rfl (sx 7 rfl (sx 8 rfl (sx 9 rfl (sx 10 rfl (sx 11 rfl (sx 18 rfl (sx 33 rfl (sx 61 rfl (sub_nil _))))))))))))))) ((.cons_cons _ (.cons_cons _ .slnil)))
     ·
      refine hl_less (sx 0 rfl (sx 1 rfl (sx 2 rfl (sx 4 rfl (sx 5 rfl (sx 6 rfl (sx 7 rfl (sx 8 rfl (sx 9 rfl (sx 10 rfl (sx 11 rfl (sx 18 rfl (sx 33 rfl (sx 61 rfl (sx 67 rfl (sub_nil _)))))))))))))))) (.refl _) ?_
      refine hl_nil ?_
      refine hq_then ?_
      refine hc_false rfl ?_
      refine hc_exit ?_
      refine hq_then_exit ?_
      refine hq_then_exit ?_
      refine hq_block_exit ?_
      refine hq_block_normal ?_
      refine hq_then ?_
      refine hc_region ?_
      refine hl_v rfl rfl rfl (rv_ev rfl) ?_
      refine hl_v rfl rfl rfl (rv_add rfl rfl rfl (by constructor <;> omega)) ?_
      refine hl_v rfl rfl rfl (rv_ev rfl) ?_
      refine hl_less (sx 0 rfl (sx 1 rfl (sx 2 rfl (sx 4 rfl (sx 5 rfl (sx 6 rfl (sx 7 rfl (sx 8 rfl (sx 9 rfl (sx 10 rfl (sx 11 rfl (sx 18 rfl (sx 33 rfl (sx 61 rfl (sx 67 rfl (sub_nil _)))))))))))))))) (.refl _) ?_
      refine hl_nil ?_
      exact hq_round3 (r + 1) _ _ ⟨by omega, by rw [sO_succ, ← hy, hz]; congr 1; omega, by omega⟩ (by omega) (sx 0 rfl (sx 1 rfl (sx 2 rfl (sx 4 rfl (sx 5 rfl (sx 6 rfl (sx 7 rfl (sx 8 rfl (sx 9 rfl (sx 10 rfl (sx 18 rfl (sx 33 rfl (sub_nil _))))))))))))) ((.cons_cons _ (.cons_cons _ .slnil)))
    ·
     refine hl_less (sx 0 rfl (sx 1 rfl (sx 2 rfl (sx 4 rfl (sx 5 rfl (sx 6 rfl (sx 7 rfl (sx 8 rfl (sx 9 rfl (sx 10 rfl (sx 18 rfl (sx 33 rfl (sx 61 rfl (sub_nil _)))))))))))))) (.refl _) ?_
     refine hl_nil ?_
     refine hq_then ?_
     refine hc_false rfl ?_
     refine hc_exit ?_
     refine hq_then_exit ?_
     refine hq_then_exit ?_
     refine hq_block_exit ?_
     refine hq_then ?_
     refine hc_seq ?_
     refine hc_region ?_
     refine hl_v rfl rfl rfl (rv_ev rfl) ?_
     refine hl_q rfl rfl rfl (rq_call (by kernel_rfl) rfl (fun w hm => l27Sort_ret _ ys w (rdsW_own (hm.holds _ (mem_at (i := 0) rfl))) (by omega))) ?_
     intro v41 p42 hR43
     subst hR43
     refine hl_v rfl rfl rfl (rv_ev rfl) ?_
     refine hl_less (sx 0 rfl (sx 1 rfl (sx 2 rfl (sx 4 rfl (sx 5 rfl (sx 6 rfl (sx 7 rfl (sx 8 rfl (sx 9 rfl (sx 10 rfl (sx 18 rfl (sx 33 rfl (sx 61 rfl (sub_nil _)))))))))))))) (.refl _) ?_
     refine hl_nil ?_
     refine hq_then ?_
     refine hc_ret ?_
     exact hq_retR (post := [rowE 3 1 v41 ((sortR ys).length) ((sortR ys).map (Value.int .i64))]) rfl rfl ((.cons_cons _ (.cons _ (.cons _ .slnil)))) (by unfold srcS; first | rw [if_pos ⟨by assumption, by omega, by omega⟩, hy, show r = 4 by omega, hd1, hd2] | (rw [if_neg (by rintro ⟨q1, q2, q3⟩; first | omega | simp_all)]; rfl))
 ·
  refine hl_v rfl rfl rfl (rv_ev rfl) ?_
  refine hl_less (sx 0 rfl (sx 1 rfl (sx 2 rfl (sx 4 rfl (sx 5 rfl (sx 18 rfl (sub_nil _))))))) (.refl _) ?_
  refine hl_nil ?_
  refine hq_then ?_
  refine hc_true rfl ?_
  refine hc_seq ?_
  refine hc_region ?_
  refine hl_v rfl rfl rfl (rv_ev rfl) ?_
  refine hl_v rfl rfl rfl (rv_ev rfl) ?_
  refine hl_less (sx 0 rfl (sx 1 rfl (sx 2 rfl (sx 4 rfl (sx 5 rfl (sx 18 rfl (sub_nil _))))))) (.refl _) ?_
  refine hl_nil ?_
  refine hq_then ?_
  refine hc_ret ?_
  refine hq_then_ret ?_
  exact hq_retR (post := [rowE 3 1 (.slice (some ⟨g2, 0, none⟩) 0 0) 0 ([])]) rfl rfl ((.cons_cons _ (.cons _ .slnil))) (by unfold srcS; first | rw [if_pos ⟨by assumption, by omega, by omega⟩, hy, show r = 4 by omega, hd1, hd2] | (rw [if_neg (by rintro ⟨q1, q2, q3⟩; first | omega | simp_all)]; rfl))
theorem insI_mem (xs : List Int) (x y : Int) : y ∈ insI xs x ↔ y = x ∨ y ∈ xs := by
  induction xs with
  | nil => simp [insI]
  | cons z zs ih =>
    simp only [insI]
    split
    · rw [List.mem_cons, ih, List.mem_cons]
      constructor
      · rintro (h | h | h)
        · exact .inr (.inl h)
        · exact .inl h
        · exact .inr (.inr h)
      · rintro (h | h | h)
        · exact .inr (.inl h)
        · exact .inl h
        · exact .inr (.inr h)
    · split
      · rename_i h; subst h; simp
      · simp
theorem insI_sorted (xs : List Int) (x : Int) (h : xs.Pairwise (· < ·)) : (insI xs x).Pairwise (· < ·) := by
  induction xs with
  | nil => simp [insI]
  | cons z zs ih =>
    rw [List.pairwise_cons] at h
    simp only [insI]
    split
    · rw [List.pairwise_cons]
      refine ⟨fun y hy => ?_, ih h.2⟩
      rcases (insI_mem _ _ _).1 hy with rfl | hy
      · assumption
      · exact h.1 y hy
    · split
      · exact List.pairwise_cons.2 h
      · rw [List.pairwise_cons]
        refine ⟨fun y hy => ?_, List.pairwise_cons.2 h⟩
        rcases List.mem_cons.1 hy with rfl | hy
        · omega
        · have := h.1 y hy; omega
theorem sorted_ext : ∀ (a b : List Int), a.Pairwise (· < ·) → b.Pairwise (· < ·) → (∀ x, x ∈ a ↔ x ∈ b) → a = b
  | [], [], _, _, _ => rfl
  | [], y :: b, _, _, h => by have := (h y).2 (by simp); simp at this
  | x :: a, [], _, _, h => by have := (h x).1 (by simp); simp at this
  | x :: a, y :: b, ha, hb, h => by
    rw [List.pairwise_cons] at ha hb
    have hxy : x = y := by
      rcases List.mem_cons.1 ((h x).1 (by simp)) with e | e
      · exact e
      · rcases List.mem_cons.1 ((h y).2 (by simp)) with e2 | e2
        · exact e2.symm
        · have h1 := hb.1 x e
          have h2 := ha.1 y e2
          omega
    subst hxy
    congr 1
    refine sorted_ext a b ha.2 hb.2 fun z => ?_
    constructor
    · intro hz
      have h1 := ha.1 z hz
      rcases List.mem_cons.1 ((h z).1 (by simp [hz])) with e | e
      · omega
      · exact e
    · intro hz
      have h1 := hb.1 z hz
      rcases List.mem_cons.1 ((h z).2 (by simp [hz])) with e | e
      · omega
      · exact e
theorem insR_perm (P : List Int) (x : Int) : (insR P x).Perm (x :: P) := by
  unfold insR
  refine (List.perm_middle).trans ?_
  rw [List.take_append_drop]
theorem sortR_perm (xs : List Int) : (sortR xs).Perm xs := by
  have : ∀ (xs acc : List Int), (xs.foldl insR acc).Perm (xs ++ acc) := by
    intro xs
    induction xs with
    | nil => intro acc; exact .refl _
    | cons x xs ih =>
      intro acc
      rw [List.foldl_cons]
      exact (ih _).trans (((insR_perm acc x).append_left xs).trans List.perm_middle)
  simpa [sortR] using this xs []
theorem insR_sorted (P : List Int) (x : Int) (h : P.Pairwise (· ≤ ·)) : (insR P x).Pairwise (· ≤ ·) := by
  have hc : ∃ k, k ≤ P.length ∧ (∀ j, k ≤ j → j < P.length → x < P.getD j 0) ∧ (k = 0 ∨ P.getD (k - 1) 0 ≤ x) := by
    have : ∀ n, n ≤ P.length → (∀ j, n ≤ j → j < P.length → x < P.getD j 0) → ∃ k, k ≤ P.length ∧ (∀ j, k ≤ j → j < P.length → x < P.getD j 0) ∧ (k = 0 ∨ P.getD (k - 1) 0 ≤ x) := by
      intro n
      induction n with
      | zero => intro hn h1; exact ⟨0, hn, h1, .inl rfl⟩
      | succ n ih =>
        intro hn h1
        by_cases hx : P.getD n 0 ≤ x
        · exact ⟨n + 1, hn, h1, .inr hx⟩
        · refine ih (by omega) fun j hj hl => ?_
          by_cases e : j = n
          · subst e; omega
          · exact h1 j (by omega) hl
    exact this P.length (Nat.le_refl _) (fun j h1 h2 => by omega)
  obtain ⟨k, hk, h1, h2⟩ := hc
  rw [insR_at P x k hk h1 h2]
  have hlt : ∀ i j, i < j → j < P.length → P.getD i 0 ≤ P.getD j 0 := by
    intro i j hij hj
    have := List.pairwise_iff_getElem.1 h i j (by omega) hj hij
    rw [List.getD_eq_getElem?_getD, List.getElem?_eq_getElem (by omega), List.getD_eq_getElem?_getD, List.getElem?_eq_getElem hj]; exact this
  rw [List.pairwise_append]
  refine ⟨h.sublist (List.take_sublist _ _), List.pairwise_cons.2 ⟨fun y hy => ?_, h.sublist (List.drop_sublist _ _)⟩, fun y hy z hz => ?_⟩
  · obtain ⟨j, hj, rfl⟩ := List.mem_iff_getElem.1 hy
    rw [List.length_drop] at hj
    have := h1 (k + j) (by omega) (by omega)
    rw [List.getD_eq_getElem?_getD, List.getElem?_eq_getElem (by omega)] at this
    have e : (P.drop k)[j]'(by simpa using hj) = P[k + j]'(by omega) := by simp
    rw [e]; simp at this; omega
  · obtain ⟨j, hj, rfl⟩ := List.mem_iff_getElem.1 hy
    have hj' : j < k ∧ j < P.length := by rw [List.length_take] at hj; omega
    have ey : (P.take k)[j] = P.getD j 0 := by rw [List.getElem_take, List.getD_eq_getElem?_getD, List.getElem?_eq_getElem hj'.2]; rfl
    have hyx : P.getD j 0 ≤ x := by
      rcases h2 with rfl | h2
      · omega
      · by_cases e : j = k - 1
        · subst e; exact h2
        · have := hlt j (k - 1) (by omega) (by omega); omega
    rw [ey]
    rcases List.mem_cons.1 hz with rfl | hz
    · exact hyx
    · obtain ⟨i, hi, rfl⟩ := List.mem_iff_getElem.1 hz
      rw [List.length_drop] at hi
      have := h1 (k + i) (by omega) (by omega)
      rw [List.getD_eq_getElem?_getD, List.getElem?_eq_getElem (by omega)] at this
      have e : (P.drop k)[i]'(by simpa using hi) = P[k + i]'(by omega) := by simp
      rw [e]; simp at this; omega
theorem sortR_sorted (xs : List Int) : (sortR xs).Pairwise (· ≤ ·) := by
  have : ∀ (xs acc : List Int), acc.Pairwise (· ≤ ·) → (xs.foldl insR acc).Pairwise (· ≤ ·) := by
    intro xs
    induction xs with
    | nil => intro acc h; exact h
    | cons x xs ih => intro acc h; exact ih _ (insR_sorted acc x h)
  exact this xs [] .nil
theorem sortR_strict (xs : List Int) (h : xs.Nodup) : (sortR xs).Pairwise (· < ·) := by
  have h1 := sortR_sorted xs
  have h2 : (sortR xs).Pairwise (· ≠ ·) := (sortR_perm xs).nodup_iff.2 h
  exact (h1.and h2).imp fun ⟨a, b⟩ => by omega
theorem fold_ins {α : Type} (f : List Int → α → List Int) (P : α → Int → Prop) (hf : ∀ xs i y, y ∈ f xs i ↔ y ∈ xs ∨ P i y) : ∀ (l : List α) (xs : List Int) (y : Int), y ∈ l.foldl f xs ↔ y ∈ xs ∨ ∃ i ∈ l, P i y
  | [], xs, y => by simp
  | i :: l, xs, y => by
    rw [List.foldl_cons, fold_ins f P hf l, hf]
    constructor
    · rintro ((h | h) | ⟨j, hj, h⟩)
      · exact .inl h
      · exact .inr ⟨i, by simp, h⟩
      · exact .inr ⟨j, by simp [hj], h⟩
    · rintro (h | ⟨j, hj, h⟩)
      · exact .inl (.inl h)
      · rcases List.mem_cons.1 hj with rfl | hj
        · exact .inl (.inr h)
        · exact .inr ⟨j, hj, h⟩
theorem fold_sorted {α : Type} (f : List Int → α → List Int) (hf : ∀ xs i, xs.Pairwise (· < ·) → (f xs i).Pairwise (· < ·)) : ∀ (l : List α) (xs : List Int), xs.Pairwise (· < ·) → (l.foldl f xs).Pairwise (· < ·)
  | [], xs, h => h
  | i :: l, xs, h => fold_sorted f hf l _ (hf xs i h)
theorem fold_app {α : Type} (f : List Int → α → List Int) (g : α → List Int) (hf : ∀ xs i, f xs i = xs ++ g i) : ∀ (l : List α) (xs : List Int), l.foldl f xs = xs ++ l.flatMap g
  | [], xs => by simp
  | i :: l, xs => by rw [List.foldl_cons, fold_app f g hf l, hf]; simp
/-- y is the wire that begins s steps back from t in direction r, on track k -/
def Cand (d : Dev) (t r k s y : Int) : Prop := 0 ≤ stepI d t ((r + 2) % 4) s ∧ 0 ≤ wireNodeI d (stepI d t ((r + 2) % 4) s) r k ∧ y = wireNodeI d (stepI d t ((r + 2) % 4) s) r k
theorem pinS_mem (d : Dev) (t r k : Int) (xs : List Int) (s : Nat) (y : Int) : y ∈ pinS d t r k xs s ↔ y ∈ xs ∨ Cand d t r k ((s : Int) + 1) y := by
  unfold pinS Cand
  split
  · constructor
    · exact .inl
    · rintro (h | ⟨h, _⟩)
      · exact h
      · omega
  · split
    · rw [insI_mem]
      constructor
      · rintro (h | h)
        · exact .inr ⟨by omega, by assumption, h⟩
        · exact .inl h
      · rintro (h | ⟨_, _, h⟩)
        · exact .inr h
        · exact .inl h
    · constructor
      · exact .inl
      · rintro (h | ⟨_, h, _⟩)
        · exact h
        · omega
theorem pinS_sorted (d : Dev) (t r k : Int) (xs : List Int) (s : Nat) (h : xs.Pairwise (· < ·)) : (pinS d t r k xs s).Pairwise (· < ·) := by
  unfold pinS
  split
  · exact h
  · split
    · exact insI_sorted _ _ h
    · exact h
theorem pinO_sorted (d : Dev) (t p : Int) (j : Nat) : (pinO d t p j).Pairwise (· < ·) := by
  refine fold_sorted _ (fun xs r h => fold_sorted _ (fun xs k h => ?_) _ _ h) _ _ .nil
  split
  · exact h
  · exact fold_sorted _ (fun xs s h => pinS_sorted d t _ _ xs s h) _ _ h
theorem pinO_mem (d : Dev) (t p : Int) (j : Nat) (y : Int) : y ∈ pinO d t p j ↔ ∃ r ∈ List.range j, ∃ k ∈ List.range d.T.toNat, ¬ (1 < d.T ∧ ((k : Int) + p) % 2 ≠ 0) ∧ ∃ s ∈ List.range (1 + k % 2), Cand d t r k ((s : Int) + 1) y := by
  unfold pinO
  rw [fold_ins (P := fun (r : Nat) y => ∃ k ∈ List.range d.T.toNat, ¬ (1 < d.T ∧ ((k : Int) + p) % 2 ≠ 0) ∧ ∃ s ∈ List.range (1 + k % 2), Cand d t r k ((s : Int) + 1) y)]
  · simp
  · intro xs r y
    unfold pinR
    rw [fold_ins (P := fun (k : Nat) y => ¬ (1 < d.T ∧ ((k : Int) + p) % 2 ≠ 0) ∧ ∃ s ∈ List.range (1 + k % 2), Cand d t r k ((s : Int) + 1) y)]
    intro xs k y
    split
    · rename_i h; simp [h]
    · rename_i h
      unfold pinK
      rw [fold_ins (P := fun (s : Nat) y => Cand d t r k ((s : Int) + 1) y) _ (fun xs s y => pinS_mem d t r k xs s y)]
      simp only [h, not_false_eq_true, true_and]
theorem wireN_inj {d : Dev} (hv : devB d = true) {f r k f' r' k' : Int} (r0 : 0 ≤ r) (r1 : r ≤ 3) (k0 : 0 ≤ k) (k1_o : k ≤ d.T - 1) (r0' : 0 ≤ r') (r1' : r' ≤ 3) (k0' : 0 ≤ k') (k1' : k' ≤ d.T - 1) (h : wireN d f r k = wireN d f' r' k') : f = f' ∧ r = r' ∧ k = k' := by
  obtain ⟨-, -, ⟨l1, l2⟩, -⟩ := (devB_iff d).1 hv
  have a1 := dirT_rng hv r0 r1
  have a2 := dirT_rng hv r0' r1'
  unfold wireN perI at h
  have b1 : r * d.T ≤ 3 * d.T := Int.mul_le_mul_of_nonneg_right r1 (by omega)
  have b2 : r' * d.T ≤ 3 * d.T := Int.mul_le_mul_of_nonneg_right r1' (by omega)
  have hf : f = f' := by
    have e1 : (f * (7 + 4 * d.T) + (7 + r * d.T + k)) / (7 + 4 * d.T) = f := by
      rw [Int.add_comm, Int.add_mul_ediv_right _ _ (by omega), Int.ediv_eq_zero_of_lt (by omega) (by omega)]; omega
    have e2 : (f' * (7 + 4 * d.T) + (7 + r' * d.T + k')) / (7 + 4 * d.T) = f' := by
      rw [Int.add_comm, Int.add_mul_ediv_right _ _ (by omega), Int.ediv_eq_zero_of_lt (by omega) (by omega)]; omega
    rw [← e1, ← e2]; congr 1; omega
  subst hf
  have h2 : r * d.T + k = r' * d.T + k' := by omega
  have hr : r = r' := by
    have e1 : (r * d.T + k) / d.T = r := by rw [Int.add_comm, Int.add_mul_ediv_right _ _ (by omega), Int.ediv_eq_zero_of_lt (by omega) (by omega)]; omega
    have e2 : (r' * d.T + k') / d.T = r' := by rw [Int.add_comm, Int.add_mul_ediv_right _ _ (by omega), Int.ediv_eq_zero_of_lt (by omega) (by omega)]; omega
    rw [← e1, ← e2, h2]
  subst hr
  exact ⟨rfl, rfl, by omega⟩
theorem wireNodeI_nonneg {d : Dev} {f r k : Int} (h : 0 ≤ wireNodeI d f r k) : wireNodeI d f r k = wireN d f r k := by
  unfold wireNodeI at *
  split
  · rfl
  · rename_i hh; rw [if_neg hh] at h; omega
theorem wS_eq {d : Dev} {t r k s : Int} (ht : tOk d t = true) (r0 : 0 ≤ r) (r1 : r ≤ 3) (k0 : 0 ≤ k) (k1_o : k ≤ d.T - 1) (s0 : 0 ≤ s) (s1 : s ≤ 2) :
    wireNodeS d (tileStepI d t ((r + 2) % 4) s) r k = if 0 ≤ stepI d t ((r + 2) % 4) s then wireNodeI d (stepI d t ((r + 2) % 4) s) r k else -1 := by
  obtain ⟨hv, _, _⟩ := (tOk_iff d t).1 ht
  rw [tileStep_eq ht (by omega) (by omega) s0 (by omega)]
  split
  · rename_i h
    have hto := step_tOk hv (show ¬ stepI d t ((r + 2) % 4) s < 0 by omega)
    unfold wireNodeS wireNodeI
    rw [tileStep_eq hto r0 r1 (by omega) (by omega)]
    by_cases h2 : 0 ≤ stepI d (stepI d t ((r + 2) % 4) s) r (1 + k % 2)
    · rw [if_pos h2, if_pos ⟨hto, k0, by omega, h2⟩]
    · rw [if_neg h2, if_neg (fun hh => h2 hh.2.2.2)]
  · rename_i h
    unfold wireNodeS
    rw [if_neg]
    rintro ⟨h1, _⟩
    have := (tOk_iff _ _).1 h1
    omega
def gS (d : Dev) (t p r k : Int) (s : Nat) : List Int := if 7 ≤ p ∧ (s : Int) + 1 < 1 + k % 2 then [] else if 0 ≤ wireNodeS d (tileStepI d t ((r + 2) % 4) ((s : Int) + 1)) r k then [wireNodeS d (tileStepI d t ((r + 2) % 4) ((s : Int) + 1)) r k] else []
theorem sS_app (d : Dev) (t p r k : Int) (xs : List Int) (s : Nat) : sS d t p r k xs s = xs ++ gS d t p r k s := by
  unfold sS gS; split
  · simp
  · split <;> simp
def gK (d : Dev) (t p dir track r : Int) (k : Nat) : List Int := if Skip d.T p dir track r k then [] else (List.range (1 + k % 2)).flatMap (gS d t p r k)
theorem sO_app (d : Dev) (t p dir track : Int) (j : Nat) : sO d t p dir track j = baseS d t p ++ (List.range j).flatMap (fun (r : Nat) => (List.range d.T.toNat).flatMap (gK d t p dir track r)) := by
  unfold sO
  rw [fold_app _ (fun (r : Nat) => (List.range d.T.toNat).flatMap (gK d t p dir track r))]
  intro xs r
  unfold sR
  rw [fold_app _ (gK d t p dir track r)]
  intro xs k
  unfold gK
  split
  · simp
  · unfold sK; rw [fold_app _ (gS d t p r k) (fun xs s => sS_app d t p r k xs s)]
theorem gS_mem {d : Dev} {t p r k : Int} {s : Nat} {y : Int} (ht : tOk d t = true) (r0 : 0 ≤ r) (r1 : r ≤ 3) (k0 : 0 ≤ k) (k1_o : k ≤ d.T - 1) (s1 : s ≤ 1) : y ∈ gS d t p r k s ↔ ¬ (7 ≤ p ∧ (s : Int) + 1 < 1 + k % 2) ∧ Cand d t r k ((s : Int) + 1) y := by
  unfold gS Cand
  rw [wS_eq ht r0 r1 k0 k1_o (by omega) (by omega)]
  by_cases h1 : 7 ≤ p ∧ (s : Int) + 1 < 1 + k % 2
  · simp [h1]
  · rw [if_neg h1]
    by_cases h2 : 0 ≤ stepI d t ((r + 2) % 4) ((s : Int) + 1)
    · rw [if_pos h2]
      by_cases h3 : 0 ≤ wireNodeI d (stepI d t ((r + 2) % 4) ((s : Int) + 1)) r k
      · rw [if_pos h3]; simp [h1, h2, h3]
      · rw [if_neg h3]; simp [h3]
    · rw [if_neg h2, if_neg (by omega)]; simp [h2]
theorem sO_mem {d : Dev} {t p dir track : Int} {y : Int} (ht : tOk d t = true) : y ∈ sO d t p dir track 4 ↔ y ∈ baseS d t p ∨ ∃ r ∈ List.range 4, ∃ k ∈ List.range d.T.toNat, ¬ Skip d.T p dir track r k ∧ ∃ s ∈ List.range (1 + k % 2), ¬ (7 ≤ p ∧ (s : Int) + 1 < 1 + (k : Int) % 2) ∧ Cand d t r k ((s : Int) + 1) y := by
  rw [sO_app, List.mem_append]
  have key : ∀ r ∈ List.range 4, ∀ k ∈ List.range d.T.toNat, (y ∈ gK d t p dir track (r : Int) k ↔ ¬ Skip d.T p dir track r k ∧ ∃ s ∈ List.range (1 + k % 2), ¬ (7 ≤ p ∧ (s : Int) + 1 < 1 + (k : Int) % 2) ∧ Cand d t r k ((s : Int) + 1) y) := by
    intro r hr k hk
    rw [List.mem_range] at hr hk
    unfold gK
    split
    · rename_i h; simp [h]
    · rename_i h
      simp only [h, not_false_eq_true, true_and]
      rw [List.mem_flatMap]
      constructor
      · rintro ⟨s, hs, hy⟩
        have := List.mem_range.1 hs
        exact ⟨s, hs, (gS_mem ht (by omega) (by omega) (by omega) (by omega) (by omega)).1 hy⟩
      · rintro ⟨s, hs, hy⟩
        have := List.mem_range.1 hs
        exact ⟨s, hs, (gS_mem ht (by omega) (by omega) (by omega) (by omega) (by omega)).2 hy⟩
  constructor
  · rintro (h | h)
    · exact .inl h
    · obtain ⟨r, hr, h⟩ := List.mem_flatMap.1 h
      obtain ⟨k, hk, h⟩ := List.mem_flatMap.1 h
      exact .inr ⟨r, hr, k, hk, (key r hr k hk).1 h⟩
  · rintro (h | ⟨r, hr, k, hk, h⟩)
    · exact .inl h
    · exact .inr (List.mem_flatMap.2 ⟨r, hr, List.mem_flatMap.2 ⟨k, hk, (key r hr k hk).2 h⟩⟩)
theorem wireN_mod {d : Dev} (hv : devB d = true) {f r k : Int} (r0 : 0 ≤ r) (r1 : r ≤ 3) (k0 : 0 ≤ k) (k1_o : k ≤ d.T - 1) : 7 ≤ wireN d f r k % perI d := by
  obtain ⟨-, -, ⟨l1, l2⟩, -⟩ := (devB_iff d).1 hv
  have a1 := dirT_rng hv r0 r1
  have b1 : r * d.T ≤ 3 * d.T := Int.mul_le_mul_of_nonneg_right r1 (by omega)
  unfold wireN perI
  rw [show f * (7 + 4 * d.T) + 7 + r * d.T + k = (7 + r * d.T + k) + f * (7 + 4 * d.T) by omega, Int.add_mul_emod_self_right, Int.emod_eq_of_lt (by omega) (by omega)]
  omega
theorem out_mod {d : Dev} (hv : devB d = true) {t p : Int} (p0 : 0 ≤ p) (p1 : p ≤ 1) : (t * perI d + 5 + p) % perI d = 5 + p := by
  obtain ⟨h1, h2⟩ := per_rng hv
  rw [show t * perI d + 5 + p = (5 + p) + t * perI d by omega, Int.add_mul_emod_self_right, Int.emod_eq_of_lt (by omega) (by omega)]
theorem base_mem {d : Dev} {t p y : Int} (ht : tOk d t = true) (h : y ∈ baseS d t p) : ∃ q, 0 ≤ q ∧ q ≤ 1 ∧ y = t * perI d + 5 + q := by
  have ho := outPins_rng d t
  unfold baseS at h
  split at h
  · split at h
    · simp only [List.mem_cons, List.not_mem_nil, or_false] at h
      rcases h with rfl | rfl
      · exact ⟨0, by omega, by omega, by unfold outPinI; rw [if_pos ⟨ht, by omega, by omega⟩]⟩
      · exact ⟨1, by omega, by omega, by unfold outPinI; rw [if_pos ⟨ht, by omega, by omega⟩]⟩
    · simp only [List.mem_cons, List.not_mem_nil, or_false] at h
      subst h
      exact ⟨0, by omega, by omega, by unfold outPinI; rw [if_pos ⟨ht, by omega, by omega⟩]⟩
  · simp at h
theorem base_nodup {d : Dev} {t p : Int} (ht : tOk d t = true) : (baseS d t p).Nodup := by
  have ho := outPins_rng d t
  unfold baseS
  split
  · split
    · rename_i h
      have e0 : outPinI d t 0 = t * perI d + 5 + 0 := by unfold outPinI; rw [if_pos ⟨ht, by omega, by omega⟩]
      have e1 : outPinI d t 1 = t * perI d + 5 + 1 := by unfold outPinI; rw [if_pos ⟨ht, by omega, by omega⟩]
      rw [e0, e1, List.nodup_cons]
      exact ⟨by simp; omega, by simp⟩
    · simp
  · exact List.nodup_nil
theorem step_inj {d : Dev} {t r s s' : Int} (ht : tOk d t = true) (r0 : 0 ≤ r) (r1 : r ≤ 3) (s0 : 0 ≤ s) (s1 : s ≤ 6) (s0' : 0 ≤ s') (s1' : s' ≤ 6) (h : 0 ≤ stepI d t r s) (e : stepI d t r s = stepI d t r s') : s = s' := by
  have e1 := tileStep_eq ht r0 r1 s0 s1
  have e2 := tileStep_eq ht r0 r1 s0' s1'
  have h1 := (step_back d t r s ht r0 r1 s0 s1 (by omega)).2.1
  have h2 := (step_back d t r s' ht r0 r1 s0' s1' (by omega)).2.1
  rw [e1] at h1
  rw [e2] at h2
  rw [← h1, ← h2, e]
theorem sO_nodup {d : Dev} {t p dir track : Int} (ht : tOk d t = true) : (sO d t p dir track 4).Nodup := by
  obtain ⟨hv, _, _⟩ := (tOk_iff d t).1 ht
  have memK : ∀ (r : Nat), r < 4 → ∀ (k : Nat), k < d.T.toNat → ∀ y, y ∈ gK d t p dir track r k → ∃ s : Nat, s < 1 + k % 2 ∧ y ∈ gS d t p r k s := by
    intro r hr k hk y hy
    unfold gK at hy
    split at hy
    · simp at hy
    · obtain ⟨s, hs, h⟩ := List.mem_flatMap.1 hy
      exact ⟨s, List.mem_range.1 hs, h⟩
  have val : ∀ (r : Nat), r < 4 → ∀ (k : Nat), k < d.T.toNat → ∀ (s : Nat), s < 1 + k % 2 → ∀ y, y ∈ gS d t p r k s → y = wireN d (stepI d t (((r : Int) + 2) % 4) ((s : Int) + 1)) r k ∧ 0 ≤ stepI d t (((r : Int) + 2) % 4) ((s : Int) + 1) := by
    intro r hr k hk s hs y hy
    obtain ⟨_, c1, c2, c3⟩ := (gS_mem ht (by omega) (by omega) (by omega) (by omega) (by omega)).1 hy
    exact ⟨c3.trans (wireNodeI_nonneg c2), c1⟩
  rw [sO_app]
  refine List.nodup_append.2 ⟨base_nodup ht, ?_, ?_⟩
  · refine List.pairwise_flatMap.2 ⟨fun r hr => ?_, ?_⟩
    · rw [List.mem_range] at hr
      refine List.pairwise_flatMap.2 ⟨fun k hk => ?_, ?_⟩
      · rw [List.mem_range] at hk
        unfold gK
        split
        · exact .nil
        · refine List.pairwise_flatMap.2 ⟨fun s hs => ?_, ?_⟩
          · unfold gS; split
            · exact .nil
            · split
              · simp
              · exact .nil
          · refine (List.pairwise_lt_range).imp_of_mem fun {s s'} hs hs' hlt x hx y hy hxy => ?_
            rw [List.mem_range] at hs hs'
            obtain ⟨a1, a2⟩ := val r hr k hk s hs x hx
            obtain ⟨b1, b2⟩ := val r hr k hk s' hs' y hy
            obtain ⟨c1, _, _⟩ := wireN_inj hv (by omega) (by omega) (by omega) (by omega) (by omega) (by omega) (by omega) (by omega) (a1.symm.trans (hxy.trans b1))
            have := step_inj ht (by omega) (by omega) (by omega) (by omega) (by omega) (by omega) a2 c1
            omega
      · refine (List.pairwise_lt_range).imp_of_mem fun {k k'} hk hk' hlt x hx y hy hxy => ?_
        rw [List.mem_range] at hk hk'
        obtain ⟨s, hs, hx⟩ := memK r hr k hk x hx
        obtain ⟨s', hs', hy⟩ := memK r hr k' hk' y hy
        obtain ⟨a1, a2⟩ := val r hr k hk s hs x hx
        obtain ⟨b1, b2⟩ := val r hr k' hk' s' hs' y hy
        obtain ⟨_, _, c1⟩ := wireN_inj hv (by omega) (by omega) (by omega) (by omega) (by omega) (by omega) (by omega) (by omega) (a1.symm.trans (hxy.trans b1))
        omega
    · refine (List.pairwise_lt_range).imp_of_mem fun {r r'} hr hr' hlt x hx y hy hxy => ?_
      rw [List.mem_range] at hr hr'
      obtain ⟨k, hk, hx⟩ := List.mem_flatMap.1 hx
      obtain ⟨k', hk', hy⟩ := List.mem_flatMap.1 hy
      rw [List.mem_range] at hk hk'
      obtain ⟨s, hs, hx⟩ := memK r hr k hk x hx
      obtain ⟨s', hs', hy⟩ := memK r' hr' k' hk' y hy
      obtain ⟨a1, a2⟩ := val r hr k hk s hs x hx
      obtain ⟨b1, b2⟩ := val r' hr' k' hk' s' hs' y hy
      obtain ⟨_, c1, _⟩ := wireN_inj hv (by omega) (by omega) (by omega) (by omega) (by omega) (by omega) (by omega) (by omega) (a1.symm.trans (hxy.trans b1))
      omega
  · intro x hx y hy hxy
    obtain ⟨q, q0, q1, rfl⟩ := base_mem ht hx
    obtain ⟨r, hr, hy⟩ := List.mem_flatMap.1 hy
    obtain ⟨k, hk, hy⟩ := List.mem_flatMap.1 hy
    rw [List.mem_range] at hr hk
    obtain ⟨s, hs, hy⟩ := memK r hr k hk y hy
    obtain ⟨a1, _⟩ := val r hr k hk s hs y hy
    have e1 := out_mod hv (t := t) q0 q1
    have e2 := wireN_mod hv (f := stepI d t (((r : Int) + 2) % 4) ((s : Int) + 1)) (r := (r : Int)) (k := (k : Int)) (by omega) (by omega) (by omega) (by omega)
    rw [← a1, ← hxy, e1] at e2
    omega
theorem wireO_sorted (d : Dev) (t dir track : Int) (j : Nat) : (wireO d t dir track j).Pairwise (· < ·) := by
  refine fold_sorted _ (fun xs r h => ?_) _ _ (fold_sorted _ (fun xs p h => ?_) _ _ .nil)
  · unfold wireR
    split
    · exact h
    · refine fold_sorted _ (fun xs k h => ?_) _ _ h
      unfold wireW
      split
      · exact insI_sorted _ _ h
      · exact h
  · unfold outS
    split
    · exact insI_sorted _ _ h
    · exact h
theorem wireO_mem (d : Dev) (t dir track : Int) (y : Int) : y ∈ wireO d t dir track 4 ↔ (∃ p ∈ List.range 2, 0 ≤ outPinI d t (p : Nat) ∧ y = outPinI d t (p : Nat)) ∨ ∃ r ∈ List.range 4, ¬ ((r : Nat) : Int) = (dir + 2) % 4 ∧ ∃ k ∈ [track, (track + 1) % d.T], 0 ≤ stepI d t (((r : Nat) + 2) % 4) (1 + k % 2) ∧ y = wireNodeI d (stepI d t (((r : Nat) + 2) % 4) (1 + k % 2)) (r : Nat) k := by
  unfold wireO
  rw [fold_ins (P := fun (r : Nat) y => ¬ ((r : Nat) : Int) = (dir + 2) % 4 ∧ ∃ k ∈ [track, (track + 1) % d.T], 0 ≤ stepI d t (((r : Nat) + 2) % 4) (1 + k % 2) ∧ y = wireNodeI d (stepI d t (((r : Nat) + 2) % 4) (1 + k % 2)) (r : Nat) k)]
  · unfold outO
    rw [fold_ins (P := fun (p : Nat) y => 0 ≤ outPinI d t (p : Nat) ∧ y = outPinI d t (p : Nat))]
    · simp
    · intro xs p y
      unfold outS
      split
      · rename_i h; rw [insI_mem]; simp only [h, true_and]; exact Or.comm
      · rename_i h; simp [h]
  · intro xs r y
    unfold wireR
    split
    · rename_i h; simp [h]
    · rename_i h
      unfold wireK
      rw [fold_ins (P := fun (k : Int) y => 0 ≤ stepI d t (((r : Nat) + 2) % 4) (1 + k % 2) ∧ y = wireNodeI d (stepI d t (((r : Nat) + 2) % 4) (1 + k % 2)) (r : Nat) k)]
      · simp only [h, not_false_eq_true, true_and]; rfl
      · intro xs k y
        unfold wireW
        split
        · rename_i h; rw [insI_mem]; simp only [h, true_and]; exact Or.comm
        · rename_i h; simp [h]
theorem src_eq (d : Dev) (n : Int) : srcS d n = srcI d n := by
  unfold srcS srcI
  cases hn : nodeOkI d n with
  | false => simp
  | true =>
    obtain ⟨hv, n0, n1⟩ := nodeOk_rng hn
    obtain ⟨p0, p1, p2, p3, ht⟩ := place_rng hv n0 n1
    obtain ⟨-, -, ⟨l1, l2⟩, -⟩ := (devB_iff d).1 hv
    obtain ⟨dg0, dg1, dg2, dg3⟩ := dir_rng hv p2 p3
    generalize n % perI d = p at *
    generalize n / perI d = t at *
    simp only [true_and, if_true]
    by_cases h5 : p < 5
    · rw [if_pos ⟨by omega, by omega⟩, if_pos h5]
      refine sorted_ext _ _ (sortR_strict _ (sO_nodup ht)) (pinO_sorted d t p 4) fun y => ?_
      rw [(sortR_perm _).mem_iff, sO_mem ht, pinO_mem]
      have hb : baseS d t p = [] := if_neg (by omega)
      rw [hb]
      constructor
      · rintro (h | ⟨r, hr, k, hk, hs, s, hs2, _, hc⟩)
        · simp at h
        · rw [List.mem_range] at hk
          exact ⟨r, hr, k, by simpa using hk, fun hh => hs (.inr ⟨by omega, hh.1, by omega⟩), s, hs2, hc⟩
      · rintro ⟨r, hr, k, hk, hs, s, hs2, hc⟩
        refine .inr ⟨r, hr, k, hk, fun hh => ?_, s, hs2, by omega, hc⟩
        rcases hh with hh | hh
        · omega
        · exact hs ⟨hh.2.1, by omega⟩
    · by_cases h7 : p < 7
      · rw [if_neg (by omega), if_neg h5, if_pos h7]
      · rw [if_pos ⟨by omega, by omega⟩, if_neg h5, if_neg h7]
        have hd : dirI d p = (p - 7) / d.T := if_pos (by omega)
        have hk : trackI d p = (p - 7) % d.T := if_pos (by omega)
        rw [hd] at dg0 dg1 ⊢
        rw [hk] at dg2 dg3 ⊢
        generalize (p - 7) / d.T = dir at *
        generalize (p - 7) % d.T = track at *
        have hmr := mod_rng (a := track + 1) l1
        have ho := outPins_rng d t
        refine sorted_ext _ _ (sortR_strict _ (sO_nodup ht)) (wireO_sorted d t dir track 4) fun y => ?_
        rw [(sortR_perm _).mem_iff, sO_mem ht, wireO_mem]
        have e0 : outPinI d t 0 = t * perI d + 5 + 0 := by unfold outPinI; rw [if_pos ⟨ht, by omega, by omega⟩]
        have hpm := per_mul hv (by omega) p1
        have hbase : y ∈ baseS d t p ↔ ∃ q ∈ List.range 2, 0 ≤ outPinI d t ((q : Nat) : Int) ∧ y = outPinI d t ((q : Nat) : Int) := by
          unfold baseS
          rw [if_pos (by omega)]
          have e2 : List.range 2 = [0, 1] := rfl
          rw [e2]
          by_cases h1 : 1 < outPinsI (kindI d t)
          · have e1 : outPinI d t 1 = t * perI d + 5 + 1 := by unfold outPinI; rw [if_pos ⟨ht, by omega, by omega⟩]
            rw [if_pos h1]
            simp only [List.mem_cons, List.not_mem_nil, or_false, exists_eq_or_imp, exists_eq_left, Int.natCast_zero, Int.natCast_one]
            constructor
            · rintro (h | h)
              · exact .inl ⟨by omega, h⟩
              · exact .inr ⟨by omega, h⟩
            · rintro (h | h)
              · exact .inl h.2
              · exact .inr h.2
          · have e1 : outPinI d t 1 = -1 := by unfold outPinI; rw [if_neg (by rintro ⟨_, _, _⟩; omega)]
            rw [if_neg h1]
            simp only [List.mem_cons, List.not_mem_nil, or_false, exists_eq_or_imp, exists_eq_left, Int.natCast_zero, Int.natCast_one]
            constructor
            · intro h; exact .inl ⟨by omega, h⟩
            · rintro (h | h)
              · exact h.2
              · omega
        rw [hbase]
        constructor
        · rintro (h | ⟨r, hr, k, hk, hs, s, hs2, hs3, hc⟩)
          · exact .inl h
          · rw [List.mem_range] at hk hs2
            refine .inr ⟨r, hr, fun e => hs (.inl ⟨by omega, .inl e⟩), (k : Int), ?_, ?_⟩
            · have : (k : Int) = track ∨ (k : Int) = (track + 1) % d.T := by
                by_cases e : (k : Int) = track
                · exact .inl e
                · by_cases e2 : (k : Int) = (track + 1) % d.T
                  · exact .inr e2
                  · exact absurd (.inl ⟨by omega, .inr ⟨e, e2⟩⟩) hs
              rcases this with e | e <;> simp [← e]
            · have es : (s : Int) + 1 = 1 + (k : Int) % 2 := by omega
              rw [es] at hc
              exact ⟨hc.1, hc.2.2⟩
        · rintro (h | ⟨r, hr, hne, k, hk, h1, h2⟩)
          · exact .inl h
          · rw [List.mem_range] at hr
            have hkr : (k = track ∨ k = (track + 1) % d.T) := by simpa using hk
            have hk0 : 0 ≤ k ∧ k ≤ d.T - 1 := by rcases hkr with e | e <;> omega
            obtain ⟨m, rfl⟩ := Int.eq_ofNat_of_zero_le hk0.1
            refine .inr ⟨r, List.mem_range.2 hr, m, List.mem_range.2 (by omega), ?_, m % 2, List.mem_range.2 (by omega), by omega, ?_⟩
            · rintro (⟨_, hh | hh⟩ | hh)
              · exact hne hh
              · rcases hkr with e | e
                · exact hh.1 e
                · exact hh.2 e
              · omega
            · have es : ((m % 2 : Nat) : Int) + 1 = 1 + (m : Int) % 2 := by omega
              unfold Cand
              rw [es]
              refine ⟨h1, ?_, h2⟩
              have e1 := tileStep_eq ht (dir := ((r : Int) + 2) % 4) (s := 1 + (m : Int) % 2) (by omega) (by omega) (by omega) (by omega)
              have hb := step_back d t (((r : Int) + 2) % 4) (1 + (m : Int) % 2) ht (by omega) (by omega) (by omega) (by omega) (by omega)
              rw [e1] at hb
              have hto := hb.2.2
              have e2 := tileStep_eq hto (dir := ((((r : Int) + 2) % 4) + 2) % 4) (s := 1 + (m : Int) % 2) (by omega) (by omega) (by omega) (by omega)
              have er : ((((r : Int) + 2) % 4) + 2) % 4 = (r : Int) := by omega
              rw [e2, er] at hb
              unfold wireNodeI
              rw [if_pos (by rw [hb.1]; omega)]
              obtain ⟨hv2, f0, f1⟩ := (tOk_iff _ _).1 hto
              have g1 := per_mul hv2 f0 f1
              have g2 := dirT_rng hv (dir := (r : Int)) (by omega) (by omega)
              unfold wireN
              omega
open Go.RowKit
theorem fold_bound {α : Type} (f : List Int → α → List Int) (c : Nat) (hf : ∀ xs a, (f xs a).length ≤ xs.length + c) : ∀ (l : List α) (xs : List Int), (l.foldl f xs).length ≤ xs.length + l.length * c
  | [], xs => by simp
  | a :: l, xs => by
    have h1 := fold_bound f c hf l (f xs a)
    have h2 := hf xs a
    have h3 : (l.length + 1) * c = l.length * c + c := by rw [Nat.add_mul, Nat.one_mul]
    simp only [List.foldl_cons, List.length_cons]
    omega
theorem BRow.drew {k : IntKind} {w : World} {a : Option Addr} {len cap : Nat} {zs : List Int} (h : BRow k w a len cap zs) : BRow k w.drew a len cap zs := h.below (bel_drew (Below.refl _ _))
set_option maxHeartbeats 1000000 in
theorem implRouteNodes_yes (d : Dev) (hv : devB d = true) (w : World) :
    Calls Try.prog 33 #[.agg #[.int .i64 d.W, .int .i64 d.H, .int .i64 d.T, .int .i64 d.R]] w fun e w' => e = .returned (.int .i64 (allI d)) ∧ Below w.heap.size w w' := by
  have hS0 := devS_start w d
  have HS0 := Lib.hid hS0
  go_enter Try.func33, Try.ntmps33
  go_wp2_with fail
  refine (implDeviceOk_any d _).mono ?_
  rintro e w1 ⟨rfl, hb1⟩
  have hS1 := devS_step HS0.out hb1
  have HS1 := Lib.hid hS1
  clear hS0
  obtain ⟨c0, c1, c2, c3, -⟩ := hS1
  clear hb1
  have hz1 : w.heap.size < w1.heap.size := World.block_lt_of_cell? _ _ c0
  go_wp2_with fail
  refine (implAll_any d hv _).mono ?_
  rintro e w2 ⟨rfl, hb2⟩
  have hS2 := devS_step HS1.out hb2
  have HS2 := Lib.hid hS2
  clear c0 c1 c2 c3
  obtain ⟨c0, c1, c2, c3, -⟩ := hS2
  clear hb2
  have hz2 : w.heap.size < w2.heap.size := World.block_lt_of_cell? _ _ c0
  go_wp2
  go_ret
  exact ⟨rfl, devS_end HS2.out⟩
theorem fold_sum {α : Type} (f : List Int → α → List Int) (c : α → Nat) (hf : ∀ xs a, (f xs a).length ≤ xs.length + c a) : ∀ (l : List α) (xs : List Int), (l.foldl f xs).length ≤ xs.length + (l.map c).sum
  | [], xs => by simp
  | a :: l, xs => by
    have h1 := fold_sum f c hf l (f xs a)
    have h2 := hf xs a
    simp only [List.foldl_cons, List.map_cons, List.sum_cons]
    omega
theorem pinR_len (d : Dev) (t p r : Int) (xs : List Int) (l1 : 1 ≤ d.T) (l2 : d.T ≤ 4) : (pinR d t p r xs d.T.toNat).length ≤ xs.length + 4 := by
  have h := fold_sum (fun xs (k : Nat) => if 1 < d.T ∧ ((k : Int) + p) % 2 ≠ 0 then xs else pinK d t r k xs (1 + k % 2)) (fun k => if 1 < d.T ∧ ((k : Int) + p) % 2 ≠ 0 then 0 else 1 + k % 2) (fun xs k => by
    split
    · omega
    · have := fold_bound (pinS d t r k) 1 (fun xs s => by
        unfold pinS
        split
        · omega
        · split
          · exact insI_len _ _
          · omega) (List.range (1 + k % 2)) xs
      rw [List.length_range] at this
      unfold pinK; omega) (List.range d.T.toNat) xs
  have h2 : ((List.range d.T.toNat).map (fun (k : Nat) => if 1 < d.T ∧ ((k : Int) + p) % 2 ≠ 0 then 0 else 1 + k % 2)).sum ≤ 4 := by
    obtain e | e | e | e : d.T = 1 ∨ d.T = 2 ∨ d.T = 3 ∨ d.T = 4 := by omega
    · rw [show List.range d.T.toNat = [0] by rw [e]; rfl]
      simp only [List.map_cons, List.map_nil, List.sum_cons, List.sum_nil]
      (repeat' split) <;> omega
    · rw [show List.range d.T.toNat = [0, 1] by rw [e]; rfl]
      simp only [List.map_cons, List.map_nil, List.sum_cons, List.sum_nil]
      (repeat' split) <;> omega
    · rw [show List.range d.T.toNat = [0, 1, 2] by rw [e]; rfl]
      simp only [List.map_cons, List.map_nil, List.sum_cons, List.sum_nil]
      (repeat' split) <;> omega
    · rw [show List.range d.T.toNat = [0, 1, 2, 3] by rw [e]; rfl]
      simp only [List.map_cons, List.map_nil, List.sum_cons, List.sum_nil]
      (repeat' split) <;> omega
  exact Nat.le_trans h (by omega)
theorem src_len16 (d : Dev) (k : Int) : (srcI d k).length ≤ 16 := by
  unfold srcI
  split
  · rename_i h
    obtain ⟨hv, -, -⟩ := nodeOk_rng h
    obtain ⟨-, -, ⟨l1, l2⟩, -⟩ := (devB_iff d).1 hv
    split
    · have := fold_bound (fun xs (r : Nat) => pinR d (k / perI d) (k % perI d) r xs d.T.toNat) 4 (fun xs r => pinR_len d _ _ _ xs l1 l2) (List.range 4) []
      simpa [pinO] using this
    · split
      · simp
      · have h1 := fold_bound (wireR d (k / perI d) ((k % perI d - 7) / d.T) ((k % perI d - 7) % d.T)) 2 (fun xs r => by
          unfold wireR
          split
          · omega
          · have := fold_bound (wireW d (k / perI d) r) 1 (fun xs q => by
              unfold wireW
              split
              · exact insI_len _ _
              · omega) ([(k % perI d - 7) % d.T, ((k % perI d - 7) % d.T + 1) % d.T].take 2) xs
            unfold wireK
            simpa using this) (List.range 4) (outO d (k / perI d) 2)
        have h2 := fold_bound (outS d (k / perI d)) 1 (fun xs q => by
          unfold outS
          split
          · exact insI_len _ _
          · omega) (List.range 2) []
        have h2' : (outO d (k / perI d) 2).length ≤ 2 := by simpa [outO] using h2
        have h1' : (wireO d (k / perI d) ((k % perI d - 7) / d.T) ((k % perI d - 7) % d.T) 4).length ≤ (outO d (k / perI d) 2).length + 8 := by simpa [wireO] using h1
        omega
  · simp
open Go.RowKit
def Seg (bs : List Int) (p : Nat) (ys : List Int) : Prop := ∃ us cs, bs = us ++ (ys ++ cs) ∧ us.length = p
theorem Seg.left {bs ys zs : List Int} {p : Nat} (h : Seg bs p (ys ++ zs)) : Seg bs p ys := by
  obtain ⟨us, cs, h, hl⟩ := h; exact ⟨us, zs ++ cs, by rw [h, List.append_assoc], hl⟩
theorem Seg.right {bs ys zs : List Int} {p q : Nat} (h : Seg bs p (ys ++ zs)) (hq : q = p + ys.length) : Seg bs q zs := by
  obtain ⟨us, cs, h, hl⟩ := h; exact ⟨us ++ ys, cs, by rw [h, List.append_assoc, List.append_assoc], by rw [List.length_append, hl, hq]⟩
theorem Seg.at {bs ys : List Int} {p : Nat} (h : Seg bs p ys) (i : Nat) (hi : i < ys.length) : bs.getD (p + i) 0 = ys.getD i 0 := by
  obtain ⟨us, cs, rfl, rfl⟩ := h
  rw [List.getD_eq_getElem?_getD, List.getElem?_append_right (by omega), Nat.add_sub_cancel_left, List.getElem?_append_left hi, ← List.getD_eq_getElem?_getD]
theorem Seg.len {bs ys : List Int} {p : Nat} (h : Seg bs p ys) : p + ys.length ≤ bs.length := by
  obtain ⟨us, cs, rfl, rfl⟩ := h
  simp only [List.length_append]; omega
/-- block g is a cursor -/
def curE (g : Nat) (a : Option Addr) (len cap : Nat) : HP := ⟨fun k => k = g, fun w => (∃ i : Nat, i ≤ len ∧ w.cell? ⟨g, 1, none⟩ = some (.int .i64 (i : Int))) ∧ (∃ h : Int, w.cell? ⟨g, 2, none⟩ = some (.int .i64 h)) ∧
  w.cell? ⟨g, 0, none⟩ = some (.slice a len cap) ∧ w.frozen? ⟨g, 1, none⟩ = false ∧ w.frozen? ⟨g, 2, none⟩ = false⟩
theorem cell_heap {w w' : World} {g o : Nat} (h : w'.heap[g]? = w.heap[g]?) : w'.cell? ⟨g, o, none⟩ = w.cell? ⟨g, o, none⟩ := by simp [World.cell?, h]
theorem frozen_heap {w w' : World} {g o : Nat} (h : w'.heap[g]? = w.heap[g]?) : w'.frozen? ⟨g, o, none⟩ = w.frozen? ⟨g, o, none⟩ := by simp [World.frozen?, h]
theorem curE_ok (g : Nat) (a : Option Addr) (len cap : Nat) : (curE g a len cap).Ok := fun w w' _ hb h => by
  have e := hb g rfl
  have c := fun o => cell_heap (o := o) e
  have f := fun o => frozen_heap (o := o) e
  simp only [curE] at h ⊢
  rw [c 0, c 1, c 2, f 1, f 2]; exact h
theorem cur_of {w0 w : World} {l : List HP} {g : Nat} {a : Option Addr} {len cap : Nat} {z : List Int} (hm : Mem w0 (curE g a len cap :: l) w) (hb : BRow .u8 w0 a len cap z) : Cur w w0.heap.size g a len cap z := by
  obtain ⟨h1, h2, h3, h4, h5⟩ := hm.holds _ List.mem_cons_self
  exact ⟨h1, h2, h3, h4, h5, hb.below hm.bel, (hm.new _ List.mem_cons_self g rfl).1, hb.old⟩
theorem cur_turn {w0 w w' : World} {l : List HP} {B g : Nat} {a : Option Addr} {len cap : Nat} {z : List Int} (hm : Mem w0 (curE g a len cap :: l) w) (hc : Cur w' B g a len cap z) (hg : w.grownBy w' (some g)) : Mem w0 (curE g a len cap :: l) w' :=
  hm.turn hg.os hg.tape hg.output hg.size (fun b hb hf => hg.block b hb (fun e => hf (by cases e; rfl))) (curE_ok g a len cap) (fun b hb => .inl hb) (fun b hb => by cases hb; exact hc.lt) ⟨hc.1, hc.2.1, hc.2.2.1, hc.2.2.2.1, hc.2.2.2.2.1⟩
/-- an old contract over a cursor, as one that turns the caller's memory -/
theorem cur_mut {f : FuncId} {vs : Array Value} {R : Ending → Prop} {R' : Value → Prop} {w0 : World} {l : List HP} {w : World} {g : Nat} {a : Option Addr} {len cap : Nat} {z : List Int} (hm : Mem w0 (curE g a len cap :: l) w) (hb : BRow .u8 w0 a len cap z)
    (h : ∀ w B, Cur w B g a len cap z → Calls Try.prog f vs w fun e w' => R e ∧ Cur w' B g a len cap z ∧ w.grownBy w' (some g)) (hR : ∀ e, R e → ∃ v, e = .returned v ∧ R' v) :
    Calls Try.prog f vs w (fun e_ w_ => ∃ v_ p_, e_ = .returned v_ ∧ (R' v_ ∧ p_ = curE g a len cap) ∧ Mem w0 (p_ :: l) w_) :=
  (h w _ (cur_of hm hb)).mono fun e w' ⟨he, hc, hg⟩ => by
    obtain ⟨v, hv, hr⟩ := hR e he
    exact ⟨v, _, hv, ⟨hr, rfl⟩, cur_turn hm hc hg⟩
theorem device_mut {w0 : World} {l : List HP} {w : World} {g : Nat} {a : Option Addr} {len cap : Nat} {z : List Int} (hm : Mem w0 (curE g a len cap :: l) w) (hb : BRow .u8 w0 a len cap z) :
    Calls Try.prog 72 #[.pointer (some ⟨g, 0, none⟩)] w (fun e_ w_ => ∃ v_ p_, e_ = .returned v_ ∧ ((∃ d : Dev, Drawn d ∧ v_ = .agg #[.int .i64 d.W, .int .i64 d.H, .int .i64 d.T, .int .i64 d.R]) ∧ p_ = curE g a len cap) ∧ Mem w0 (p_ :: l) w_) :=
  cur_mut (R' := fun v => ∃ d : Dev, Drawn d ∧ v = .agg #[.int .i64 d.W, .int .i64 d.H, .int .i64 d.T, .int .i64 d.R]) hm hb (fun w B hc => l26Device_any B g a len cap z w hc) (fun e ⟨d, hd, he⟩ => ⟨_, he, d, hd, rfl⟩)
/-- a new cursor -/
theorem new_ret {w : World} {a : Option Addr} {len cap : Nat} {z : List Int} (hb : BRow .u8 w a len cap z) (hlen : len ≤ 1048576) :
    Calls Try.prog 73 #[.slice a len cap] w (Ret w (fun v post => ∃ g, v = .pointer (some ⟨g, 0, none⟩) ∧ post = [curE g a len cap])) :=
  (l01New_any a len cap z w hlen hb).mono fun e w' ⟨g, he, hc, hbel⟩ => by
    refine ⟨_, [curE g a len cap], he, ⟨g, rfl, rfl⟩, hbel, ?_, ?_, ?_, by simp⟩
    · intro p hp; rw [List.mem_singleton] at hp; subst hp; exact ⟨hc.1, hc.2.1, hc.2.2.1, hc.2.2.2.1, hc.2.2.2.2.1⟩
    · intro p hp; rw [List.mem_singleton] at hp; subst hp; exact curE_ok g a len cap
    · intro p hp b hf; rw [List.mem_singleton] at hp; subst hp; cases hf; exact ⟨hc.base, hc.lt⟩
open Go.RowKit
theorem byte_mut {w0 : World} {l : List HP} {w : World} {g : Nat} {a : Option Addr} {len cap : Nat} {z : List Int} (hm : Mem w0 (curE g a len cap :: l) w) (hb : BRow .u8 w0 a len cap z) :
    Calls Try.prog 134 #[.pointer (some ⟨g, 0, none⟩)] w (fun e_ w_ => ∃ v_ p_, e_ = .returned v_ ∧ ((∃ x : Int, v_ = .int .i64 x ∧ 0 ≤ x ∧ x < 256) ∧ p_ = curE g a len cap) ∧ Mem w0 (p_ :: l) w_) :=
  cur_mut (R' := fun v => ∃ x : Int, v = .int .i64 x ∧ 0 ≤ x ∧ x < 256) hm hb (fun w B hc => l01Byte_any B g a len cap z w hc) (fun e ⟨x, hx, he⟩ => ⟨_, he, (x : Int), rfl, by omega, by omega⟩)
set_option maxHeartbeats 4000000 in
set_option maxRecDepth 100000 in
theorem belowN_mut (g : Nat) (a : Option Addr) (len cap : Nat) (z : List Int) (n : Int) (w0 : World) (l : List HP) (w : World) (hm0 : Mem w0 (curE g a len cap :: l) w) (hb : BRow .u8 w0 a len cap z) (hn : 1 ≤ n ∧ n ≤ 4294967296) :
  Calls Try.prog 110 #[.pointer (some ⟨g, 0, none⟩), .int .i64 n] w (fun e_ w_ => ∃ v_ p_, e_ = .returned v_ ∧ (fun u_ p_ => (∃ x : Int, u_ = .int .i64 x ∧ 0 ≤ x ∧ x < n) ∧ p_ = curE g a len cap) v_ p_ ∧ Mem w0 (p_ :: l) w_) := by
 refine calls_hcM (N := 37) (args := [.pointer (some ⟨g, 0, none⟩), .int .i64 n]) Try.func110 rfl rfl hm0 ?_
 refine hc_less _ (sx 0 rfl (sx 1 rfl (sub_nil _))) (.refl _) ?_
 refine hc_seq ?_
 refine hc_region ?_
 refine hl_v rfl rfl rfl (rv_ev rfl) ?_
 refine hl_less (sx 0 rfl (sx 1 rfl (sx 4 rfl (sub_nil _)))) (.refl _) ?_
 refine hl_nil ?_
 refine hq_then ?_
 refine hc_seq ?_
 refine hc_seq ?_
 refine hc_region ?_
 refine hl_v rfl rfl rfl (rv_ev rfl) ?_
 refine hl_leq rfl rfl rfl rfl rfl rfl (fun h1 => absurd h1 (by omega)) (fun h1 => ?_)
 refine hl_less (sx 0 rfl (sx 1 rfl (sx 4 rfl (sx 10 rfl (sub_nil _))))) (.refl _) ?_
 refine hl_nil ?_
 refine hq_then ?_
 refine hc_false rfl ?_
 refine hc_skip ?_
 refine hq_then ?_
 refine hc_seq ?_
 refine hc_seq ?_
 refine hc_region ?_
 refine hl_v rfl rfl rfl (rv_ev rfl) ?_
 refine hl_leq rfl rfl rfl rfl rfl rfl (fun h2 => ?_) (fun h2 => ?_)
 ·
  refine hl_less (sx 0 rfl (sx 1 rfl (sx 4 rfl (sx 10 rfl (sx 12 rfl (sub_nil _)))))) (.refl _) ?_
  refine hl_nil ?_
  refine hq_then ?_
  refine hc_true rfl ?_
  refine hc_seq ?_
  refine hc_region ?_
  refine hl_v rfl rfl rfl (rv_ev rfl) ?_
  refine hl_callM (R := (fun u_ p_ => (∃ x : Int, u_ = .int .i64 x ∧ 0 ≤ x ∧ x < 256) ∧ p_ = curE g a len cap)) 0 rfl rfl (by kernel_rfl) rfl rfl (fun l' w hm => byte_mut hm hb) ?_
  intro v3 p4 hR5
  obtain ⟨⟨xhR5, rfl, xhR50, xhR51⟩, rfl⟩ := hR5
  refine hl_eqL (l' := (curE g a len cap :: l)) rfl ?_
  refine hl_v rfl rfl rfl (rv_ev rfl) ?_
  refine hl_v rfl rfl rfl (rv_rem rfl rfl rfl (by constructor <;> omega)) ?_
  refine hl_v rfl rfl rfl (rv_ev rfl) ?_
  refine hl_less (sx 0 rfl (sx 1 rfl (sx 4 rfl (sx 10 rfl (sx 12 rfl (sub_nil _)))))) (.refl _) ?_
  refine hl_nil ?_
  refine hq_then ?_
  refine hc_ret ?_
  refine hq_then_ret ?_
  exact hq_retMut (p' := curE g a len cap) rfl rfl (.refl _) ⟨⟨_, rfl, Int.emod_nonneg _ (by omega), Int.emod_lt_of_pos _ (by omega)⟩, rfl⟩
 ·
  refine hl_less (sx 0 rfl (sx 1 rfl (sx 4 rfl (sx 10 rfl (sx 12 rfl (sub_nil _)))))) (.refl _) ?_
  refine hl_nil ?_
  refine hq_then ?_
  refine hc_false rfl ?_
  refine hc_skip ?_
  refine hq_then ?_
  refine hc_seq ?_
  refine hc_region ?_
  refine hl_v rfl rfl rfl (rv_ev rfl) ?_
  refine hl_callM (R := (fun u_ p_ => (∃ x : Int, u_ = .int .i64 x ∧ 0 ≤ x ∧ x < 256) ∧ p_ = curE g a len cap)) 0 rfl rfl (by kernel_rfl) rfl rfl (fun l' w hm => byte_mut hm hb) ?_
  intro v6 p7 hR8
  obtain ⟨⟨xhR8, rfl, xhR80, xhR81⟩, rfl⟩ := hR8
  refine hl_eqL (l' := (curE g a len cap :: l)) rfl ?_
  refine hl_v rfl rfl rfl (rv_ev rfl) ?_
  refine hl_less (sx 0 rfl (sx 1 rfl (sx 4 rfl (sx 5 rfl (sx 10 rfl (sx 12 rfl (sub_nil _))))))) (.refl _) ?_
  refine hl_nil ?_
  refine hq_then ?_
  refine hc_seq ?_
  refine hc_region ?_
  refine hl_v rfl rfl rfl (rv_ev rfl) ?_
  refine hl_callM (R := (fun u_ p_ => (∃ x : Int, u_ = .int .i64 x ∧ 0 ≤ x ∧ x < 256) ∧ p_ = curE g a len cap)) 0 rfl rfl (by kernel_rfl) rfl rfl (fun l' w hm => byte_mut hm hb) ?_
  intro v9 p10 hR11
  obtain ⟨⟨xhR11, rfl, xhR110, xhR111⟩, rfl⟩ := hR11
  refine hl_eqL (l' := (curE g a len cap :: l)) rfl ?_
  refine hl_v rfl rfl rfl (rv_ev rfl) ?_
  refine hl_less (sx 0 rfl (sx 1 rfl (sx 4 rfl (sx 5 rfl (sx 6 rfl (sx 10 rfl (sx 12 rfl (sub_nil _)))))))) (.refl _) ?_
  refine hl_nil ?_
  refine hq_then ?_
  refine hc_seq ?_
  refine hc_region ?_
  refine hl_v rfl rfl rfl (rv_ev rfl) ?_
  refine hl_callM (R := (fun u_ p_ => (∃ x : Int, u_ = .int .i64 x ∧ 0 ≤ x ∧ x < 256) ∧ p_ = curE g a len cap)) 0 rfl rfl (by kernel_rfl) rfl rfl (fun l' w hm => byte_mut hm hb) ?_
  intro v12 p13 hR14
  obtain ⟨⟨xhR14, rfl, xhR140, xhR141⟩, rfl⟩ := hR14
  refine hl_eqL (l' := (curE g a len cap :: l)) rfl ?_
  refine hl_v rfl rfl rfl (rv_ev rfl) ?_
  refine hl_less (sx 0 rfl (sx 1 rfl (sx 4 rfl (sx 5 rfl (sx 6 rfl (sx 7 rfl (sx 10 rfl (sx 12 rfl (sub_nil _))))))))) (.refl _) ?_
  refine hl_nil ?_
  refine hq_then ?_
  refine hc_seq ?_
  refine hc_region ?_
  refine hl_v rfl rfl rfl (rv_ev rfl) ?_
  refine hl_callM (R := (fun u_ p_ => (∃ x : Int, u_ = .int .i64 x ∧ 0 ≤ x ∧ x < 256) ∧ p_ = curE g a len cap)) 0 rfl rfl (by kernel_rfl) rfl rfl (fun l' w hm => byte_mut hm hb) ?_
  intro v15 p16 hR17
  obtain ⟨⟨xhR17, rfl, xhR170, xhR171⟩, rfl⟩ := hR17
  refine hl_eqL (l' := (curE g a len cap :: l)) rfl ?_
  refine hl_v rfl rfl rfl (rv_ev rfl) ?_
  refine hl_less (sx 0 rfl (sx 1 rfl (sx 4 rfl (sx 5 rfl (sx 6 rfl (sx 7 rfl (sx 8 rfl (sx 10 rfl (sx 12 rfl (sub_nil _)))))))))) (.refl _) ?_
  refine hl_nil ?_
  refine hq_then ?_
  refine hc_seq ?_
  refine hc_region ?_
  refine hl_v rfl rfl rfl (rv_ev rfl) ?_
  refine hl_v rfl rfl rfl (rv_mul rfl rfl rfl (by constructor <;> omega)) ?_
  refine hl_v rfl rfl rfl (rv_ev rfl) ?_
  refine hl_v rfl rfl rfl (rv_mul rfl rfl rfl (by constructor <;> omega)) ?_
  refine hl_v rfl rfl rfl (rv_add rfl rfl rfl (by constructor <;> omega)) ?_
  refine hl_v rfl rfl rfl (rv_ev rfl) ?_
  refine hl_v rfl rfl rfl (rv_mul rfl rfl rfl (by constructor <;> omega)) ?_
  refine hl_v rfl rfl rfl (rv_add rfl rfl rfl (by constructor <;> omega)) ?_
  refine hl_v rfl rfl rfl (rv_ev rfl) ?_
  refine hl_v rfl rfl rfl (rv_add rfl rfl rfl (by constructor <;> omega)) ?_
  refine hl_v rfl rfl rfl (rv_ev rfl) ?_
  refine hl_v rfl rfl rfl (rv_rem rfl rfl rfl (by constructor <;> omega)) ?_
  refine hl_v rfl rfl rfl (rv_ev rfl) ?_
  refine hl_less (sx 0 rfl (sx 1 rfl (sx 4 rfl (sx 5 rfl (sx 6 rfl (sx 7 rfl (sx 8 rfl (sx 10 rfl (sx 12 rfl (sub_nil _)))))))))) (.refl _) ?_
  refine hl_nil ?_
  refine hq_then ?_
  refine hc_ret ?_
  exact hq_retMut (p' := curE g a len cap) rfl rfl (.refl _) ⟨⟨_, rfl, Int.emod_nonneg _ (by omega), Int.emod_lt_of_pos _ (by omega)⟩, rfl⟩
/-- the number in a value -/
def intOf_o : Value → Int
  | .int _ n => n
  | _ => 0
open Go.RowKit
theorem nodup_shift (n k : Nat) : ((List.range k).map (n + ·)).Nodup := by
  rw [List.Nodup, List.pairwise_map]
  exact List.nodup_range.imp (fun h e => h (by omega))
theorem range_getD {α : Type} (P0 : List (List α)) : (List.range P0.length).map (fun a => P0.getD a []) = P0 := by
  apply List.ext_getElem (by simp)
  intro i h1 h2
  simp [List.getD_eq_getElem?_getD, List.getElem?_eq_getElem h2]
def tauOk3 (os : List Oper) (m K : Nat) (dps qd : List (List Nat)) (tau : List (Option Nat)) (fl : List Nat) : Bool :=
  (List.range m).all (fun i => (qd.getD i []).all (fun j => (dps.getD i []).contains j && (List.range m).all (fun k => tau.getD k none != some j)) && decide ((qd.getD i []).Nodup)) &&
  (List.range m).all (fun i => match tau.getD i none with | none => true | some h => ((Nat.ble os.length h && Nat.blt h (os.length + K)) || (dps.getD i []).contains h) && (List.range m).all (fun k => k == i || tau.getD k none != some h)) &&
  fl.all (fun j => (Nat.blt j m || (Nat.ble os.length j && Nat.blt j (os.length + K))) && (List.range m).all (fun k => tau.getD k none != some j)) && decide fl.Nodup
def envOf3 (dsts : List (Option Nat)) (vf : Nat → Value) (is : List Nat) : List (Nat × Value) := is.filterMap fun i => (dsts.getD i none).map fun d => (d, vf i)
def drawOk3 (os : List Oper) (m : Nat) (dps : List (List Nat)) (dsts : List (Option Nat)) : Bool :=
  Nat.ble m os.length &&
  (List.range os.length).all (fun i => (depsOf os i).all (fun j => Nat.blt j i)) &&
  (List.range os.length).all (fun k => Nat.blt k m || (List.range m).all (fun j => ((msk ((List.range os.length).map (depsOf os)) []).getD k 0).testBit j)) &&
  (List.range (os.length - m)).all (fun t => Region.ready .any os.toArray (List.replicate (m + t) true ++ List.replicate (os.length - (m + t)) false).toArray == [m + t]) &&
  (os.take m).map (·.dst) == dsts && (List.range m).all (fun i => (List.range m).all (fun j => i == j || dsts.getD i none == none || dsts.getD i none != dsts.getD j none)) &&
  (List.range m).all (fun i => (dps.getD i []).all (fun j => ((msk ((List.range os.length).map (depsOf os)) []).getD i 0).testBit j) && decide ((dps.getD i []).Nodup))
section
variable {P : Program} {N : Nat} {w0 : World} {l : List HP} {env : List (Nat × Value)} {Q : Post} {os : List Oper} {m : Nat} {dps : List (List Nat)} {dsts : List (Option Nat)} {R : Nat → List Value → Value → List HP → Prop}
/-- where the quiet part stands -/
structure Mid3 (N : Nat) (w0 : World) (l : List HP) (env : List (Nat × Value)) (os : List Oper) (m : Nat) (dps : List (List Nat)) (dsts : List (Option Nat)) (R : Nat → List Value → Value → List HP → Prop) (tau : List (Option Nat)) (P0 : List (List HP)) (listed : Array Bool) (ord held : List Nat) (vf : Nat → Value) (pf : Nat → List HP) (a : Act) (w : World) : Prop where
  size : listed.size = os.length
  iff : ∀ i, i < os.length → (listed.getD i true = true ↔ i ∈ ord)
  low : ∀ i ∈ ord, i < m
  closed : ∀ i ∈ ord, ∀ j ∈ depsOf os i, j ∈ ord
  nodup : ord.Nodup
  dcl : ∀ i ∈ ord, ∀ j ∈ dps.getD i [], j ∈ ord
  rel : ∀ i ∈ ord, R i ((dps.getD i []).map vf) (vf i) (pf i)
  hn : held.Nodup
  hin : ∀ i ∈ held, i ∈ ord ∨ (os.length ≤ i ∧ i < os.length + P0.length)
  hall : ∀ i, (i ∈ ord ∨ (os.length ≤ i ∧ i < os.length + P0.length)) → (∀ j ∈ ord, tau.getD j none ≠ some i) → i ∈ held
  hP : ∀ k, k < P0.length → pf (os.length + k) = P0.getD k []
  mem : Mem w0 (held.flatMap pf ++ l) w
  asize : a.tmps.size = N
  defers : a.defers = []
  env : ∀ d v, lk env d = some v → a.tmps[d]? = some v
  slots : ∀ i ∈ ord, ∀ d, dsts[i]? = some (some d) → a.tmps[d]? = some (vf i)
theorem Mid3.st {tau P0 listed ord held vf pf a w} (h : Mid3 N w0 l env os m dps dsts R tau P0 listed ord held vf pf a w) (hm : m ≤ dsts.length) {is : List Nat} (hs : ∀ j ∈ is, j ∈ ord) {L : List HP} (hM : Mem w0 L w) : St N w0 L (envOf3 dsts vf is ++ env) a w := by
  refine ⟨hM, h.asize, h.defers, fun d v hd => ?_⟩
  rcases lk_append _ _ _ _ hd with h1 | h1
  · unfold envOf3 at h1
    rw [List.mem_filterMap] at h1
    obtain ⟨i, hi, he⟩ := h1
    rw [Option.map_eq_some_iff] at he
    obtain ⟨d', hd', he⟩ := he
    simp only [Prod.mk.injEq] at he
    obtain ⟨rfl, rfl⟩ := he
    have : dsts[i]? = some (some d') := by
      rw [List.getD_eq_getElem?_getD] at hd'
      cases hx : dsts[i]? with
      | none => rw [hx] at hd'; cases hd'
      | some y => rw [hx] at hd'; exact congrArg some hd'
    exact h.slots i (hs i hi) _ this
  · exact h.env d v h1
theorem hc_drawn3 {id : Nat} (hmix : P.follows .mixedOrders = true) (m : Nat) (dps : List (List Nat)) (dsts : List (Option Nat)) (R : Nat → List Value → Value → List HP → Prop) (qd : List (List Nat)) (tau : List (Option Nat)) (P0 : List (List HP)) (fl : List Nat) (hok : drawOk3 os m dps dsts = true) (htau : tauOk3 os m P0.length dps qd tau fl = true) (hfresh : dsts.all (fun d => match d with | some d => (lk env d).isNone | none => true) = true) (hN : dsts.all (fun d => match d with | some d => Nat.blt d N | none => true) = true)
    (due : ∀ i o, os[i]? = some o → i < m → ∀ vf pf, (∀ k, k < P0.length → pf (os.length + k) = P0.getD k []) → (∀ j ∈ dps.getD i [], R j ((dps.getD j []).map vf) (vf j) (pf j)) → Obl2 P os.toArray N w0 (tau.getD i none) pf ((qd.getD i []).flatMap pf ++ l) (envOf3 dsts vf (dps.getD i []) ++ env) o (R i ((dps.getD i []).map vf)))
    (fin : ∀ vf pf, (∀ k, k < P0.length → pf (os.length + k) = P0.getD k []) → (∀ i, i < m → R i ((dps.getD i []).map vf) (vf i) (pf i)) → HL P N os.toArray w0 (fl.flatMap pf ++ l) (envOf3 dsts vf (List.range m) ++ env) (os.drop m) Q) : HC P N w0 (P0.flatten ++ l) env (.region id os.toArray true) Q := by
  intro a w st
  refine wp_region_any hmix ?_
  simp only [drawOk3, Bool.and_eq_true, Nat.ble_eq, List.all_eq_true, List.mem_range, Bool.or_eq_true, Nat.blt_eq, beq_iff_eq, decide_eq_true_eq, Array.all_eq_true', bne_iff_ne] at hok
  obtain ⟨⟨⟨⟨⟨⟨hml, hback⟩, hcov⟩, hready⟩, hdst⟩, hdn⟩, hdp⟩ := hok
  simp only [tauOk3, Bool.and_eq_true, List.all_eq_true, List.mem_range, Bool.or_eq_true, Nat.blt_eq, Nat.ble_eq, beq_iff_eq, bne_iff_ne, decide_eq_true_eq, List.contains_iff_mem] at htau
  obtain ⟨⟨⟨hqd, hth⟩, hfl⟩, hfn⟩ := htau
  have hml' : m ≤ dsts.length := by have := congrArg List.length hdst; simp at this; omega
  have hlen : dsts.length = m := by have := congrArg List.length hdst; simp at this; omega
  have hrdy : ∀ k, m ≤ k → k < os.length → Region.ready .any os.toArray (preT os.length k) = [k] := fun k h1 h2 => by
    have := hready (k - m) (by omega)
    rw [show m + (k - m) = k by omega] at this
    exact this
  have hmsk : ∀ i j, ((msk ((List.range os.length).map (depsOf os)) []).getD i 0).testBit j = true → Dep os i j := msk_dep os _ _ (fun t ds ht d hd => by
    rw [List.getElem?_map] at ht
    by_cases h : t < os.length
    · rw [List.getElem?_range h] at ht; simp at ht; subst ht; simpa using hd
    · rw [List.getElem?_eq_none (by simp; omega)] at ht; cases ht) (fun i j h => by simp at h)
  have dstAt : ∀ i, i < m → ∀ o, os[i]? = some o → o.dst = dsts.getD i none := fun i hi o ho => by
    have h1 : ((os.take m).map (·.dst))[i]? = some o.dst := by rw [List.getElem?_map, List.getElem?_take, if_pos hi, ho]; rfl
    rw [hdst] at h1
    rw [List.getD_eq_getElem?_getD, h1]; rfl
  -- what may come up
  have key : ∀ (f : Nat) (listed : Array Bool) (ord held : List Nat) (vf : Nat → Value) (pf : Nat → List HP) (a : Act) (w : World), f + ord.length = os.length → Mid3 N w0 l env os m dps dsts R tau P0 listed ord held vf pf a w → wpAny P .any os.toArray Q f listed a w := by
    intro f
    induction f with
    | zero =>
      intro listed ord held vf pf a w hf h
      -- all are listed: m = the length
      have hall : ∀ i, i < os.length → i ∈ ord := by
        intro i hi
        have hsub : ord.Perm (List.range os.length) ∨ True := .inr trivial
        obtain ⟨r, hr⟩ := pick_perm ord (List.range os.length) h.nodup (fun j hj => by have := h.low j hj; simp; omega)
        have hl := hr.length_eq
        simp at hl
        have : r = [] := List.length_eq_zero_iff.1 (by omega)
        subst this
        have := hr.mem_iff.1 (List.mem_range.2 hi)
        simpa using this
      have hm2 : m = os.length := by
        by_cases hc : m < os.length
        · have := h.low m (hall m hc); omega
        · omega
      have hp : listed = preT os.length m := by
        apply Array.ext
        · rw [h.size, preT_size _ _ hml]
        · intro i h1 h2
          have hi : i < os.length := by rw [h.size] at h1; exact h1
          have e1 := (h.iff i hi).2 (hall i hi)
          have e2 := preT_get os.length m i hml hi
          rw [Array.getD_eq_getD_getElem?, Array.getElem?_eq_getElem h1] at e1
          rw [Array.getD_eq_getD_getElem?, Array.getElem?_eq_getElem h2] at e2
          simp only [Option.getD_some] at e1 e2
          rw [e1, e2]; simp; omega
      rw [hp]
      refine tail_any hrdy 0 m (Nat.le_refl _) (by omega) a w ?_
      exact fin vf pf h.hP (fun i hi => h.rel i (hall i (by omega))) a w (h.st hml' (fun j hj => hall j (by rw [List.mem_range] at hj; omega)) (h.mem.pick hfn (fun j hj => h.hall j ((hfl j hj).1.imp (fun hlt => hall j (by omega)) (fun x => x)) (fun k hk => (hfl j hj).2 k (h.low k hk)))))
    | succ f ih =>
      intro listed ord held vf pf a w hf h
      by_cases hall : ∀ i, i < m → i ∈ ord
      · -- the tail's turn
        have hp : listed = preT os.length m := by
          apply Array.ext
          · rw [h.size, preT_size _ _ hml]
          · intro i h1 h2
            have hi : i < os.length := by rw [h.size] at h1; exact h1
            have e1 := h.iff i hi
            have e2 := preT_get os.length m i hml hi
            rw [Array.getD_eq_getD_getElem?, Array.getElem?_eq_getElem h1] at e1
            rw [Array.getD_eq_getD_getElem?, Array.getElem?_eq_getElem h2] at e2
            simp only [Option.getD_some] at e1 e2
            rw [e2, Bool.eq_iff_iff, e1, decide_eq_true_eq]
            exact ⟨fun hx => h.low i hx, fun hx => hall i hx⟩
        have hord : ord.length = m := by
          obtain ⟨r, hr⟩ := pick_perm ord (List.range m) h.nodup (fun j hj => by have := h.low j hj; simpa using this)
          obtain ⟨r', hr'⟩ := pick_perm (List.range m) ord List.nodup_range (fun j hj => hall j (by simpa using hj))
          have h1 := hr.length_eq
          have h2 := hr'.length_eq
          simp at h1 h2
          omega
        rw [hp]
        refine tail_any hrdy (f + 1) m (Nat.le_refl _) (by omega) a w ?_
        exact fin vf pf h.hP (fun i hi => h.rel i (hall i hi)) a w (h.st hml' (fun j hj => hall j (by simpa using hj)) (h.mem.pick hfn (fun j hj => h.hall j ((hfl j hj).1.imp (fun hlt => hall j hlt) (fun x => x)) (fun k hk => (hfl j hj).2 k (h.low k hk)))))
      · -- some quiet one is not done yet
        have hsome : ∃ i, i < m ∧ i ∉ ord := by
          by_cases hx : ∃ i, i < m ∧ i ∉ ord
          · exact hx
          · exact absurd (fun i hi => Decidable.byContradiction fun hn => hx ⟨i, hi, hn⟩) hall
        have mem_rdy : ∀ i, i ∈ Region.ready .any os.toArray listed ↔ i < os.length ∧ i ∉ ord ∧ ∀ j ∈ depsOf os i, j ∈ ord := by
          intro i
          unfold Region.ready
          rw [List.mem_filter, List.mem_range]
          simp only [List.size_toArray]
          constructor
          · rintro ⟨hi, hb⟩
            rw [Bool.and_eq_true] at hb
            have hno : i ∉ ord := fun hx => by rw [(h.iff i hi).2 hx] at hb; simp at hb
            refine ⟨hi, hno, fun j hj => ?_⟩
            have ho : os.toArray[i]? = some os[i] := by simp [hi]
            rw [ho] at hb
            simp only [Option.map_some, Option.getD_some, Array.all_eq_true'] at hb
            unfold depsOf at hj
            rw [List.getElem?_eq_getElem hi] at hj
            simp only [List.mem_map, List.mem_filter] at hj
            obtain ⟨e, ⟨he, hbd⟩, rfl⟩ := hj
            have hb2 := hb.2 e (by simpa using he)
            rw [hbd] at hb2
            simp at hb2
            have hlt := hback i hi e.on (by unfold depsOf; rw [List.getElem?_eq_getElem hi]; exact List.mem_map.2 ⟨e, List.mem_filter.2 ⟨he, hbd⟩, rfl⟩)
            refine (h.iff e.on (by omega)).1 ?_
            have hs : e.on < listed.size := by rw [h.size]; omega
            rw [Array.getD_eq_getD_getElem?, Array.getElem?_eq_getElem hs] 
            simp only [Option.getD_some]
            rw [Array.getElem?_eq_getElem hs] at hb2
            simpa using hb2
          · rintro ⟨hi, hno, hd⟩
            refine ⟨hi, ?_⟩
            have ho : os.toArray[i]? = some os[i] := by simp [hi]
            rw [ho]
            simp only [Option.map_some, Option.getD_some, Bool.and_eq_true, Array.all_eq_true']
            refine ⟨?_, fun e he => ?_⟩
            · cases hb : listed.getD i true with
              | true => exact absurd ((h.iff i hi).1 hb) hno
              | false => rfl
            · rw [Bool.or_eq_true]
              by_cases hbd : Region.binds .any e = true
              rotate_left
              · left; simpa using hbd
              right
              have hon : e.on ∈ depsOf os i := by unfold depsOf; rw [List.getElem?_eq_getElem hi]; exact List.mem_map.2 ⟨e, List.mem_filter.2 ⟨by simpa using he, hbd⟩, rfl⟩
              have hlt := hback i hi e.on hon
              have := (h.iff e.on (by omega)).2 (hd e.on hon)
              have hs : e.on < listed.size := by rw [h.size]; omega
              rw [Array.getD_eq_getD_getElem?, Array.getElem?_eq_getElem hs] at this
              simp only [Option.getD_some] at this
              rw [Array.getD_eq_getD_getElem?, Array.getElem?_eq_getElem hs]
              simpa using this
        have hdep : ∀ k j, Dep os k j → (∀ d ∈ depsOf os k, d ∈ ord) → j ∈ ord := by
          intro k j hd
          induction hd with
          | one hj => intro hx; exact hx _ hj
          | more hk _ ih2 => intro hx; exact ih2 (fun d hd => h.closed _ (hx _ hk) d hd)
        have hlow : ∀ i ∈ Region.ready .any os.toArray listed, i < m := by
          intro i hi
          obtain ⟨h1, h2, h3⟩ := (mem_rdy i).1 hi
          by_cases hc : i < m
          · exact hc
          · exfalso
            obtain ⟨q, hq, hqn⟩ := hsome
            rcases hcov i h1 with h4 | h4
            · exact hc h4
            · exact hqn (hdep i q (hmsk i q (h4 q hq)) h3)
        refine ⟨fun h0 => ?_, fun i hi => ?_⟩
        · -- the least one that is not done may come up
          exfalso
          obtain ⟨q, hq, hqn⟩ := hsome
          obtain ⟨p, hp, hmin⟩ := exists_least (p := fun i => i < m ∧ i ∉ ord) ⟨q, hq, hqn⟩
          have : p ∈ Region.ready .any os.toArray listed := by
            rw [mem_rdy]
            refine ⟨by omega, hp.2, fun j hj => ?_⟩
            have hlt := hback p (by omega) j hj
            apply Decidable.byContradiction
            intro hn
            have := hmin j ⟨by omega, hn⟩
            omega
          rw [h0] at this
          cases this
        · have him := hlow i hi
          obtain ⟨h1, h2, h3⟩ := (mem_rdy i).1 hi
          have ho : os[i]? = some os[i] := List.getElem?_eq_getElem h1
          have hdps := hdp i him
          have hsub : ∀ j ∈ dps.getD i [], j ∈ ord := fun j hj => hdep i j (hmsk i j (hdps.1 j hj)) h3
          have hqi := hqd i him
          have hqheld : ∀ j ∈ qd.getD i [], j ∈ held := fun j hj => h.hall j (.inl (hsub j ((hqi.1 j hj).1))) (fun k hk => (hqi.1 j hj).2 k (h.low k hk))
          have hobl := due i os[i] ho him vf pf h.hP (fun j hj => h.rel j (hsub j hj))
          have hdd := dstAt i him _ ho
          have hdlt : ∀ d, dsts.getD i none = some d → d < N := fun d hd => by
            have := List.all_eq_true.1 hN (some d) (by rw [← hd, List.getD_eq_getElem?_getD, List.getElem?_eq_getElem (by omega)]; exact List.getElem_mem _)
            simpa [Nat.blt_eq] using this
          have hdnone : ∀ d, dsts.getD i none = some d → lk env d = none := fun d hd => by
            have := List.all_eq_true.1 hfresh (some d) (by rw [← hd, List.getD_eq_getElem?_getD, List.getElem?_eq_getElem (by omega)]; exact List.getElem_mem _)
            simpa using this
          have hne : ∀ j ∈ ord, j ≠ i := fun j hj e => h2 (e ▸ hj)
          have hneh : ∀ j ∈ held, j ≠ i := fun j hj e => by
            rcases h.hin j hj with h5 | h5
            · exact hne j h5 e
            · omega
          have next : ∀ (held' : List Nat) v post w', held'.Nodup → (∀ k ∈ held', k ∈ i :: ord ∨ (os.length ≤ k ∧ k < os.length + P0.length)) → (∀ k, (k ∈ i :: ord ∨ (os.length ≤ k ∧ k < os.length + P0.length)) → (∀ j ∈ i :: ord, tau.getD j none ≠ some k) → k ∈ held') → R i ((dps.getD i []).map vf) v post →
              Mem w0 (held'.flatMap (fun k => if k = i then post else pf k) ++ l) w' → wpAny P .any os.toArray Q f (listed.setIfInBounds i true) (a.put (dsts.getD i none) v) w' := by
            intro held' v post w' hh1 hh2 hh3 hv hm
            refine ih (listed.setIfInBounds i true) (i :: ord) held' (fun k => if k = i then v else vf k) (fun k => if k = i then post else pf k) _ w' (by simp; omega) ⟨?_, ?_, ?_, ?_, ?_, ?_, ?_, hh1, hh2, hh3, ?_, hm, ?_, ?_, ?_, ?_⟩
            · simp [h.size]
            · intro k hk
              by_cases hki : k = i
              · subst hki
                have hs : k < listed.size := by rw [h.size]; exact hk
                simp [Array.getD_eq_getD_getElem?, hs]
              · rw [getD_set_ne true (fun e => hki e.symm), h.iff k hk]
                simp [hki]
            · intro k hk; rcases List.mem_cons.1 hk with rfl | hk; exact him; exact h.low k hk
            · intro k hk j hj
              rcases List.mem_cons.1 hk with rfl | hk
              · exact List.mem_cons_of_mem _ (h3 j hj)
              · exact List.mem_cons_of_mem _ (h.closed k hk j hj)
            · exact List.nodup_cons.2 ⟨h2, h.nodup⟩
            · intro k hk j hj
              rcases List.mem_cons.1 hk with rfl | hk
              · exact List.mem_cons_of_mem _ (hsub j hj)
              · exact List.mem_cons_of_mem _ (h.dcl k hk j hj)
            · intro k hk
              rcases List.mem_cons.1 hk with rfl | hk
              · have e : (dps.getD k []).map (fun j => if j = k then v else vf j) = (dps.getD k []).map vf := List.map_congr_left fun j hj => if_neg (hne j (hsub j hj))
                rw [e, if_pos rfl, if_pos rfl]; exact hv
              · have e : (dps.getD k []).map (fun j => if j = i then v else vf j) = (dps.getD k []).map vf := List.map_congr_left fun j hj => if_neg (hne j (h.dcl k hk j hj))
                rw [e, if_neg (hne k hk), if_neg (hne k hk)]; exact h.rel k hk
            · intro k hk; rw [if_neg (by omega)]; exact h.hP k hk
            · cases hdi : dsts.getD i none <;> simp [Act.put, h.asize]
            · cases hdi : dsts.getD i none <;> exact h.defers
            · intro d u hd
              cases hdi : dsts.getD i none with
              | none => exact h.env d u hd
              | some d0 =>
                have hdne : d0 ≠ d := fun e => by rw [← e, hdnone _ hdi] at hd; cases hd
                simp only [Act.put]
                rw [Array.getElem?_setIfInBounds_ne hdne]
                exact h.env d u hd
            · intro k hk d hd
              cases hdi : dsts.getD i none with
              | none =>
                rcases List.mem_cons.1 hk with rfl | hk
                · rw [List.getD_eq_getElem?_getD, hd] at hdi; cases hdi
                · show a.tmps[d]? = _
                  rw [if_neg (hne k hk)]; exact h.slots k hk d hd
              | some d0 =>
                have hlt : d0 < a.tmps.size := by rw [h.asize]; exact hdlt _ hdi
                rcases List.mem_cons.1 hk with rfl | hk
                · have : d = d0 := by rw [List.getD_eq_getElem?_getD, hd] at hdi; exact Option.some.inj hdi
                  subst this
                  simp only [Act.put, if_true]
                  simp only [Array.getElem?_setIfInBounds_self_of_lt hlt]
                · have hdne : d0 ≠ d := by
                    intro e
                    have hk2 : k < dsts.length := (List.getElem?_eq_some_iff.1 hd).1
                    have hdk : dsts.getD k none = some d := by rw [List.getD_eq_getElem?_getD, hd]; rfl
                    rcases hdn i him k (by omega) with (hx | hx) | hx
                    · exact hne k hk hx.symm
                    · rw [hdi] at hx; cases hx
                    · exact hx (by rw [hdi, hdk, e])
                  simp only [Act.put]
                  rw [Array.getElem?_setIfInBounds_ne hdne, if_neg (hne k hk)]
                  exact h.slots k hk d hd
          unfold wpOp
          have hoa : os.toArray[i]? = some os[i] := by simp [h1]
          rw [hoa]
          simp only
          have hpost : ∀ (hs : List Nat) (post : List HP), (∀ k ∈ hs, k ≠ i) → (i :: hs).flatMap (fun k => if k = i then post else pf k) = post ++ hs.flatMap pf := fun hs post hx => by
            rw [List.flatMap_cons, if_pos rfl]
            congr 1
            rw [List.flatMap_def, List.flatMap_def]
            congr 1
            exact List.map_congr_left fun k hk => if_neg (hx k hk)
          cases ht : tau.getD i none with
          | none =>
            rw [ht] at hobl
            have hst := h.st hml' hsub (h.mem.pick hqi.2 hqheld)
            have next1 : ∀ v post w', R i ((dps.getD i []).map vf) v post → Mem w post w' → wpAny P .any os.toArray Q f (listed.setIfInBounds i true) (a.put (dsts.getD i none) v) w' := fun v post w' hv hm => by
              refine next (i :: held) v post w' (List.nodup_cons.2 ⟨fun hx => hneh i hx rfl, h.hn⟩) (fun k hk => ?_) (fun k hk hk2 => ?_) hv ?_
              · rcases List.mem_cons.1 hk with rfl | hk
                · exact .inl List.mem_cons_self
                · exact (h.hin k hk).imp (List.mem_cons_of_mem _) (fun x => x)
              · by_cases hki : k = i
                · rw [hki]; exact List.mem_cons_self
                · refine List.mem_cons_of_mem _ (h.hall k (hk.imp (fun hx => by rcases List.mem_cons.1 hx with hx | hx; exact absurd hx hki; exact hx) (fun x => x)) (fun j hj => hk2 j (List.mem_cons_of_mem _ hj)))
              · rw [hpost held post hneh, List.append_assoc]; exact h.mem.app hm
            rcases hobl with ⟨hw, hq⟩ | ⟨hw, hq⟩
            · rw [if_pos (hst.wanted hw)]
              refine .inl (hq a w hst Q _ fun v post w' hv hm => ?_)
              rw [hdd]
              exact next1 v post w' hv hm
            · rw [if_neg (by rw [hst.wanted hw]; decide), hdd]
              exact next1 undef [] w hq (Mem.refl w)
          | some hh =>
            rw [ht] at hobl
            have hth2 := hth i him
            rw [ht] at hth2
            simp only [Bool.and_eq_true, Bool.or_eq_true, Nat.ble_eq, Nat.blt_eq, beq_iff_eq, List.all_eq_true, List.mem_range, bne_iff_ne, List.contains_iff_mem] at hth2
            have hheld : hh ∈ held := h.hall hh (hth2.1.symm.imp (fun hx => hsub hh hx) (fun x => x)) (fun k hk => (hth2.2 k (h.low k hk)).resolve_left (hne k hk))
            have hperm := List.perm_cons_erase hheld
            have hmem : Mem w0 (pf hh ++ ((held.erase hh).flatMap pf ++ l)) w := by
              have := h.mem.perm ((hperm.flatMap_right pf).append_right l)
              rwa [List.flatMap_cons, List.append_assoc] at this
            have hnin : hh ∉ qd.getD i [] := fun hx => (hqi.1 hh hx).2 i him ht
            have hconv : ∀ w, Mem w0 ((held.erase hh).flatMap pf ++ l) w → Mem w0 ((qd.getD i []).flatMap pf ++ l) w := fun w hm => hm.pick hqi.2 (fun j hj => (List.mem_erase_of_ne (fun (e : j = hh) => hnin (by rw [← e]; exact hj))).2 (hqheld j hj))
            have hst := h.st hml' hsub hmem
            have hneh2 : ∀ k ∈ held.erase hh, k ≠ i := fun k hk => hneh k (List.mem_of_mem_erase hk)
            have next2 : ∀ v post w', R i ((dps.getD i []).map vf) v post → Mem w0 (post ++ ((held.erase hh).flatMap pf ++ l)) w' → wpAny P .any os.toArray Q f (listed.setIfInBounds i true) (a.put (dsts.getD i none) v) w' := fun v post w' hv hm => by
              refine next (i :: held.erase hh) v post w' (List.nodup_cons.2 ⟨fun hx => hneh2 i hx rfl, h.hn.erase hh⟩) (fun k hk => ?_) (fun k hk hk2 => ?_) hv ?_
              · rcases List.mem_cons.1 hk with rfl | hk
                · exact .inl List.mem_cons_self
                · exact (h.hin k (List.mem_of_mem_erase hk)).imp (List.mem_cons_of_mem _) (fun x => x)
              · by_cases hki : k = i
                · rw [hki]; exact List.mem_cons_self
                · have hkh : k ≠ hh := fun e => hk2 i List.mem_cons_self (by rw [ht, e])
                  exact List.mem_cons_of_mem _ ((List.mem_erase_of_ne hkh).2 (h.hall k (hk.imp (fun hx => by rcases List.mem_cons.1 hx with hx | hx; exact absurd hx hki; exact hx) (fun x => x)) (fun j hj => hk2 j (List.mem_cons_of_mem _ hj))))
              · rw [hpost _ post hneh2, List.append_assoc]; exact hm
            rcases hobl with ⟨hw, hq⟩ | ⟨hw, hq⟩
            · rw [if_pos (hst.wanted hw)]
              refine .inl (hq _ hconv a w hst Q _ fun v post w' hv hm => ?_)
              rw [hdd]
              exact next2 v post w' hv hm
            · rw [if_neg (by rw [hst.wanted hw]; decide), hdd]
              exact next2 undef (pf hh) w hq hmem
  refine key os.length (Array.replicate os.length false) [] ((List.range P0.length).map (os.length + ·)) (fun _ => undef) (fun k => if os.length ≤ k then P0.getD (k - os.length) [] else []) a _ (by simp) ⟨by simp, ?_, by simp, by simp, by simp, by simp, by simp, ?_, ?_, ?_, ?_, ?_, st.size, st.defers, st.env, by simp⟩
  · intro i hi; simp [hi]
  · exact nodup_shift _ _
  · intro i hi
    simp only [List.mem_map, List.mem_range] at hi
    obtain ⟨k, hk, rfl⟩ := hi
    exact .inr ⟨by omega, by omega⟩
  · rintro i (hi | ⟨h1, h2⟩) _
    · cases hi
    · simp only [List.mem_map, List.mem_range]; exact ⟨i - os.length, by omega, by omega⟩
  · intro k hk; rw [if_pos (by omega), Nat.add_sub_cancel_left]
  · have e : ((List.range P0.length).map (os.length + ·)).flatMap (fun k => if os.length ≤ k then P0.getD (k - os.length) [] else []) = P0.flatten := by
      rw [List.flatMap_map]
      have : (fun a : Nat => (if os.length ≤ os.length + a then P0.getD (os.length + a - os.length) [] else [])) = fun a => P0.getD a [] := by
        funext a; rw [if_pos (by omega), Nat.add_sub_cancel_left]
      rw [List.flatMap_def]
      rw [show (List.map (fun a : Nat => (if os.length ≤ os.length + a then P0.getD (os.length + a - os.length) [] else [])) (List.range P0.length)) = P0 from by rw [this]; exact range_getD P0]
    rw [e]; exact st.mem.drawn _
/-- each quiet operation's due, in the order of the text -/
def Dues3 (P : Program) (ops : Array Oper) (N : Nat) (w0 : World) (l : List HP) (env : List (Nat × Value)) (P0 : List (List HP)) (mu : Nat) (dsts : List (Option Nat)) (all qall : List (List Nat)) (tau : List (Option Nat)) (R : Nat → List Value → Value → List HP → Prop) : Nat → List (List Nat) → List Oper → Prop
  | _, _, [] => True
  | k, dss, o :: os => (∀ (vf : Nat → Value) (pf : Nat → List HP), (∀ k, k < P0.length → pf (mu + k) = P0.getD k []) → (∀ j ∈ all.getD k [], R j ((all.getD j []).map vf) (vf j) (pf j)) → Obl2 P ops N w0 (tau.getD k none) pf ((qall.getD k []).flatMap pf ++ l) (envOf3 dsts vf (all.getD k []) ++ env) o (R k ((all.getD k []).map vf))) ∧ Dues3 P ops N w0 l env P0 mu dsts all qall tau R (k + 1) dss os
theorem dues3_at {P : Program} {ops : Array Oper} {N : Nat} {w0 : World} {l : List HP} {env : List (Nat × Value)} {P0 : List (List HP)} {mu : Nat} {dsts : List (Option Nat)} {all qall : List (List Nat)} {tau : List (Option Nat)} {R : Nat → List Value → Value → List HP → Prop} : ∀ (os : List Oper) (dss : List (List Nat)) (k : Nat), Dues3 P ops N w0 l env P0 mu dsts all qall tau R k dss os → ∀ i o, os[i]? = some o → ∀ vf pf, (∀ k, k < P0.length → pf (mu + k) = P0.getD k []) → (∀ j ∈ all.getD (k + i) [], R j ((all.getD j []).map vf) (vf j) (pf j)) → Obl2 P ops N w0 (tau.getD (k + i) none) pf ((qall.getD (k + i) []).flatMap pf ++ l) (envOf3 dsts vf (all.getD (k + i) []) ++ env) o (R (k + i) ((all.getD (k + i) []).map vf))
  | [], _, _, _, i, o, ho, _, _, _, _ => by simp at ho
  | o' :: os, dss, k, h, 0, o, ho, vf, pf, hP, hR => by simp at ho; subst ho; exact h.1 vf pf hP hR
  | o' :: os, dss, k, h, i + 1, o, ho, vf, pf, hP, hR => by
    have e : k + 1 + i = k + (i + 1) := by omega
    have := dues3_at os dss (k + 1) h.2 i o (by simpa using ho) vf pf hP (by rw [e]; exact hR)
    rwa [e] at this
theorem hc_draw3 {id : Nat} (hmix : P.follows .mixedOrders = true) (m : Nat) (qs : List Nat) (quiet tail : List Oper) (dps : List (List Nat)) (dsts : List (Option Nat)) (R : Nat → List Value → Value → List HP → Prop) (qd : List (List Nat)) (tau : List (Option Nat)) (P0 : List (List HP)) (fl : List Nat) (mu : Nat)
    (hos : os = quiet ++ tail) (hq : (Nat.beq quiet.length m && (List.range m == qs) && Nat.beq os.length mu) = true) (hok : drawOk3 os m dps dsts = true) (htau : tauOk3 os m P0.length dps qd tau fl = true) (hfresh : dsts.all (fun d => match d with | some d => (lk env d).isNone | none => true) = true) (hN : dsts.all (fun d => match d with | some d => Nat.blt d N | none => true) = true)
    (due : Dues3 P os.toArray N w0 l env P0 mu dsts dps qd tau R 0 [] quiet)
    (fin : ∀ vf pf, (∀ k, k < P0.length → pf (mu + k) = P0.getD k []) → (∀ i, i < m → R i ((dps.getD i []).map vf) (vf i) (pf i)) → HL P N os.toArray w0 (fl.flatMap pf ++ l) (envOf3 dsts vf qs ++ env) tail Q) : HC P N w0 (P0.flatten ++ l) env (.region id os.toArray true) Q := by
  simp only [Bool.and_eq_true, Nat.beq_eq, beq_iff_eq] at hq
  obtain ⟨⟨hq1, hq2⟩, hq3⟩ := hq
  refine hc_drawn3 hmix m dps dsts R qd tau P0 fl hok htau hfresh hN (fun i o ho hi vf pf hP hR => ?_) (fun vf pf hP hR => ?_)
  · have ho' : quiet[i]? = some o := by rw [hos, List.getElem?_append_left (by omega)] at ho; exact ho
    have := dues3_at quiet [] 0 due i o ho' vf pf (by rw [← hq3]; exact hP) (by rw [Nat.zero_add]; exact hR)
    rwa [Nat.zero_add] at this
  · rw [hq2, hos, List.drop_left' hq1, ← hos]; exact fin vf pf (by rw [← hq3]; exact hP) hR
/-- a whole struct stored into a variable -/
theorem rm_storeBoxN {P0 X : List HP} {o : Oper} {t b off : Nat} {x y : Operand} {cs cs' : Array Value} {tb : TypeId} {us : List Value} (i : Nat) (hd : o.dst = none) (ho : o.op = .store t x y) (hs : (P.info? t).map (·.size) = some us.length)
    (hx : ev env x = some (.pointer (some ⟨b, off, none⟩))) (hy : ev env y = some (.agg us.toArray)) (hi : P0[i]? = some (boxE b cs tb)) (h1 : ∀ u ∈ us, u.oneCell' = true) (hlt : Nat.ble (off + us.length) cs.size = true) (hcs : putN cs off us = cs') :
    RunM P N w0 P0 X env o (fun v post => post = P0.set i (boxE b cs' tb)) := fun L hL a w st Q K hK => by
  subst hcs
  rw [Nat.ble_eq] at hlt
  have hil : i < P0.length := (List.getElem?_eq_some_iff.1 hi).1
  obtain ⟨w', hr, hm⟩ := run_storeN (P := P) (off := off) us 0 cs (P0 ++ L) w st.mem (by rw [List.getElem?_append_left hil]; exact hi) h1 (by omega)
  have hce : (Value.agg us.toArray).cells = us.toArray := rfl
  have hrun : (execOp a.eval o).run P w = .ok .skip w' := by simp [execOp, ho, st.eval hx, st.eval hy, Instr.storeAt, Instr.sureAddr, storeVar, hce, run_size hs, hr]
  unfold Oper.wp
  rw [hrun, Oper.upon_skip]
  exact hK undef _ w' rfl (by rw [List.set_append_left _ _ hil] at hm; exact hm)
end
open Go.RowKit
open Go.RowKit
theorem hasB_no (xs : List Int) (x : Int) (h : ∀ i, i < xs.length → xs.getD i 0 ≠ x) : hasB xs x = false := by
  unfold hasB
  rw [Bool.eq_false_iff]
  intro hc
  rw [List.contains_iff_mem] at hc
  obtain ⟨i, hi, he⟩ := List.mem_iff_getElem.1 hc
  have := h i hi
  rw [List.getD_eq_getElem?_getD, List.getElem?_eq_getElem hi] at this
  exact this he
theorem hasB_at (xs : List Int) (x : Int) (i : Nat) (hi : i < xs.length) (h : xs.getD i 0 = x) : hasB xs x = true := by
  unfold hasB
  rw [List.contains_iff_mem]
  rw [List.getD_eq_getElem?_getD, List.getElem?_eq_getElem hi] at h
  rw [← h]; exact List.getElem_mem hi
set_option maxHeartbeats 4000000 in
set_option maxRecDepth 100000 in
theorem lawsHas_ans (xs : List Int) (x : Int) (v : Value) (w : World) (hv : RdsW w v 1 xs.length (xs.map (Value.int .i64))) (hlen : xs.length ≤ 1000000000) :
  Calls Try.prog 21 #[v, .int .i64 x] w (Ans w (.bool (hasB xs x))) := by
 refine calls_hc (N := 18) (args := [v, .int .i64 x]) Try.func21 rfl rfl ?_
 refine hc_less _ (sx 0 rfl (sx 1 rfl (sub_nil _))) (.refl _) ?_
 refine hc_seq ?_
 refine hc_region ?_
 refine hl_v rfl rfl rfl (rv_ev rfl) ?_
 refine hl_less (sx 0 rfl (sx 1 rfl (sx 4 rfl (sub_nil _)))) (.refl _) ?_
 refine hl_nil ?_
 refine hq_then ?_
 refine hc_seq ?_
 refine hc_seq ?_
 refine hc_region ?_
 refine hl_v rfl rfl rfl (rv_ev rfl) ?_
 refine hl_less (sx 0 rfl (sx 1 rfl (sx 4 rfl (sx 5 rfl (sub_nil _))))) (.refl _) ?_
 refine hl_nil ?_
 refine hq_then ?_
 refine hc_block ?_
 refine hc_loop1 (α := Nat) (fun j => []) (fun j => [(0, v), (1, .int .i64 x), (4, .bool false), (5, .int .i64 (j : Int))]) (fun j => j ≤ xs.length ∧ ∀ i, i < j → xs.getD i 0 ≠ x) (fun j => xs.length - j) 0 ⟨by omega, fun i hi => absurd hi (by omega)⟩ (sx 0 rfl (sx 1 rfl (sx 4 rfl (sx 5 rfl (sub_nil _))))) (.slnil) ?_
 intro j hi1
 obtain ⟨hk1, hk2⟩ := hi1
 refine hc_seq ?_
 refine hc_seq ?_
 refine hc_region ?_
 refine hl_v rfl rfl rfl (rv_ev rfl) ?_
 refine hl_v rfl rfl rfl (rv_ev rfl) ?_
 refine hl_v rfl rfl rfl (rv_len rfl Try.underlying30 rfl (rd_old hv)) ?_
 refine hl_lss rfl rfl rfl rfl rfl rfl (fun h2 => ?_) (fun h2 => ?_)
 ·
  refine hl_less (sx 0 rfl (sx 1 rfl (sx 4 rfl (sx 5 rfl (sx 9 rfl (sub_nil _)))))) (.refl _) ?_
  refine hl_nil ?_
  refine hq_then ?_
  refine hc_true rfl ?_
  refine hc_skip ?_
  refine hq_then ?_
  refine hc_seq ?_
  refine hc_block ?_
  refine hc_seq ?_
  refine hc_region ?_
  refine hl_v rfl rfl rfl (rv_ev rfl) ?_
  refine hl_v rfl rfl rfl (rv_ev rfl) ?_
  refine hl_v rfl rfl rfl (rv_index (s := 1) rfl Try.underlying30 (by kernel_rfl) rfl rfl (rd_old hv) (by omega) (by first | omega | (simp only [List.length_set]; omega))) ?_
  refine hl_v rfl rfl rfl (rv_loadEl (u := .int .i64 (xs.getD j 0)) rfl (by kernel_rfl) rfl (rd_old hv) (ints_at1 (show _ < xs.length by first | omega | (simp only [List.length_set]; omega)))) ?_
  refine hl_v rfl rfl rfl (rv_ev rfl) ?_
  refine hl_eql rfl rfl rfl rfl rfl rfl (fun h3 => ?_) (fun h3 => ?_)
  ·
   refine hl_less (sx 0 rfl (sx 1 rfl (sx 4 rfl (sx 5 rfl (sx 9 rfl (sx 17 rfl (sub_nil _))))))) (.refl _) ?_
   refine hl_nil ?_
   refine hq_then ?_
   refine hc_true rfl ?_
   refine hc_seq ?_
   refine hc_region ?_
   refine hl_v rfl rfl rfl (rv_ev rfl) ?_
   refine hl_less (sx 0 rfl (sx 1 rfl (sx 4 rfl (sx 5 rfl (sx 9 rfl (sx 17 rfl (sub_nil _))))))) (.refl _) ?_
   refine hl_nil ?_
   refine hq_then ?_
   refine hc_ret ?_
   refine hq_block_ret ?_
   refine hq_then_ret ?_
   refine hq_then_ret ?_
   refine hq_block_ret ?_
   refine hq_then_ret ?_
   exact hq_ans rfl rfl (congrArg _ (hasB_at xs x j (by omega) (by assumption)).symm)
  ·
   refine hl_less (sx 0 rfl (sx 1 rfl (sx 4 rfl (sx 5 rfl (sx 9 rfl (sx 17 rfl (sub_nil _))))))) (.refl _) ?_
   refine hl_nil ?_
   refine hq_then ?_
   refine hc_false rfl ?_
   refine hc_skip ?_
   refine hq_block_normal ?_
   refine hq_then ?_
   refine hc_region ?_
   refine hl_v rfl rfl rfl (rv_ev rfl) ?_
   refine hl_v rfl rfl rfl (rv_add rfl rfl rfl (by constructor <;> omega)) ?_
   refine hl_v rfl rfl rfl (rv_ev rfl) ?_
   refine hl_less (sx 0 rfl (sx 1 rfl (sx 4 rfl (sx 5 rfl (sx 9 rfl (sx 17 rfl (sub_nil _))))))) (.refl _) ?_
   refine hl_nil ?_
   exact hq_round1 (j + 1) ⟨by omega, fun i hi => by by_cases hij : i = j; (subst hij; assumption); exact hk2 i (by omega)⟩ (by omega) (sx 0 rfl (sx 1 rfl (sx 4 rfl (sx 5 rfl (sub_nil _))))) (.slnil)
 ·
  refine hl_less (sx 0 rfl (sx 1 rfl (sx 4 rfl (sx 5 rfl (sx 9 rfl (sub_nil _)))))) (.refl _) ?_
  refine hl_nil ?_
  refine hq_then ?_
  refine hc_false rfl ?_
  refine hc_exit ?_
  refine hq_then_exit ?_
  refine hq_then_exit ?_
  refine hq_block_exit ?_
  refine hq_then ?_
  refine hc_seq ?_
  refine hc_region ?_
  refine hl_v rfl rfl rfl (rv_ev rfl) ?_
  refine hl_less (sx 0 rfl (sx 1 rfl (sx 4 rfl (sx 5 rfl (sx 9 rfl (sub_nil _)))))) (.refl _) ?_
  refine hl_nil ?_
  refine hq_then ?_
  refine hc_ret ?_
  exact hq_ans rfl rfl (congrArg _ (hasB_no xs x (fun i hi => hk2 i (by omega))).symm)
open Go.RowKit
open Go.RowKit
theorem loc_mod {x m : Int} (h : 0 < m) : 0 ≤ x % m ∧ x % m ≤ m - 1 := ⟨Int.emod_nonneg _ (by omega), by have := Int.emod_lt_of_pos x h; omega⟩
section
variable {P : Program} {N : Nat} {w0 : World} {l : List HP} {env : List (Nat × Value)} {o : Oper}
theorem rv_min {t : Array TypeId} {x y : Operand} {m n : Int} (ho : o.op = .call { callee := .builtin .min, args := #[x, y], argTypes := t }) (hx : ev env x = some (.int .i64 m)) (hy : ev env y = some (.int .i64 n)) : RunV P N w0 l env o (.int .i64 (if n < m then n else m)) := fun a w st => by
  have bm : ∀ (ats : Array TypeId) (ty : TypeId) (cs : Array Bool) (args : Array Value), builtin .min ats ty cs args = (do pure (.value (← Builtin.min_ ats ty args))) := fun _ _ _ _ => rfl
  have h := run_min_int2 (P := P) w t o.type .i64 .i64 m n
  simp only [execOp, ho, resolve, invoke, bm, Sem.run_bind, Sem.run_pure, Result.andThen_ok, List.map_toArray, List.map_cons, List.map_nil, st.eval hx, st.eval hy, h, GT.gt]
end
structure Rt where
  nv : Value
  fv : Value
  ns : List Int
  fs : List Int
abbrev rt0 : Rt := ⟨.slice none 0 0, .slice none 0 0, [], []⟩
def Rt.cells (r : Rt) : List Value := [r.nv, r.fv]
abbrev Rt.agg (r : Rt) : Value := .agg #[r.nv, r.fv]
abbrev rtE (r : Rt) : HP := bigE [rowE 3 1 r.nv r.ns.length (r.ns.map (Value.int .i64)), rowE 3 1 r.fv r.fs.length (r.fs.map (Value.int .i64))]
structure RdsRt (w : World) (v : Value) (rs : List Rt) : Prop where
  row : RdsW w v 2 rs.length (rs.flatMap Rt.cells)
  ns : ∀ r ∈ rs, RdsW w r.nv 1 r.ns.length (r.ns.map (Value.int .i64))
  fs : ∀ r ∈ rs, RdsW w r.fv 1 r.fs.length (r.fs.map (Value.int .i64))
theorem RdsRt.below {w w' : World} {v : Value} {rs : List Rt} (h : RdsRt w v rs) (hb : Below w.heap.size w w') : RdsRt w' v rs := ⟨h.row.below hb, fun r hr => (h.ns r hr).below hb, fun r hr => (h.fs r hr).below hb⟩
theorem RdsRt.nat {w : World} {v : Value} {rs : List Rt} (h : RdsRt w v rs) {k : Nat} (hk : k < rs.length) : RdsW w (rs.getD k rt0).nv 1 (rs.getD k rt0).ns.length ((rs.getD k rt0).ns.map (Value.int .i64)) := by
  apply h.ns
  rw [List.getD_eq_getElem?_getD, List.getElem?_eq_getElem hk]; exact List.getElem_mem hk
theorem RdsRt.fat {w : World} {v : Value} {rs : List Rt} (h : RdsRt w v rs) {k : Nat} (hk : k < rs.length) : RdsW w (rs.getD k rt0).fv 1 (rs.getD k rt0).fs.length ((rs.getD k rt0).fs.map (Value.int .i64)) := by
  apply h.fs
  rw [List.getD_eq_getElem?_getD, List.getElem?_eq_getElem hk]; exact List.getElem_mem hk
theorem rt_rds {w0 : World} {l : List HP} {r : Rt} (i : Nat) (hi : l[i]? = some (rtE r)) (w : World) (hm : Mem w0 l w) : RdsW w r.nv 1 r.ns.length (r.ns.map (Value.int .i64)) ∧ RdsW w r.fv 1 r.fs.length (r.fs.map (Value.int .i64)) := by
  obtain ⟨b1, -⟩ := hm.holds _ (mem_at hi)
  exact ⟨rdsW_own (b1 _ (List.mem_cons_self)).2, rdsW_own (b1 _ (List.mem_cons_of_mem _ List.mem_cons_self)).2⟩
theorem rdsrt_of {w : World} {v : Value} {rs : List Rt} {r : Rt} (h1 : RdsW w v 2 rs.length (rs.flatMap Rt.cells)) (h2 : RdsW w r.nv 1 r.ns.length (r.ns.map (Value.int .i64)) ∧ RdsW w r.fv 1 r.fs.length (r.fs.map (Value.int .i64))) (h3 : ∀ x ∈ rs, x = r) : RdsRt w v rs :=
  ⟨h1, fun x hx => by rw [h3 x hx]; exact h2.1, fun x hx => by rw [h3 x hx]; exact h2.2⟩
/-- how often a node is used -/
def cntI (rs : List Rt) (k : Nat) : Int := ((rs.filter fun r => r.ns.contains (k : Int)).length : Int)
def useL (N : Nat) (rs : List Rt) : List Int := (List.range N).map (cntI rs)
def useJ (N : Nat) (rs : List Rt) (ns : List Int) (j : Nat) : List Int := (List.range N).map fun k => cntI rs k + if (ns.take j).contains (k : Int) = true then 1 else 0
structure NsOk (N : Nat) (ns : List Int) : Prop where
  nd : ns.Nodup
  rng : ∀ x ∈ ns, 0 ≤ x ∧ x < N
  len : ns.length ≤ 1000000
theorem getD_ofmap {α : Type} (f : Nat → α) (d : α) {N k : Nat} (h : k < N) : ((List.range N).map f).getD k d = f k := by
  rw [List.getD_eq_getElem?_getD, List.getElem?_map, List.getElem?_range h]; rfl
theorem use_len (N : Nat) (rs : List Rt) : (useL N rs).length = N := by simp [useL]
theorem usej_len (N : Nat) (rs : List Rt) (ns : List Int) (j : Nat) : (useJ N rs ns j).length = N := by simp [useJ]
theorem use_at {N : Nat} (rs : List Rt) {k : Nat} (h : k < N) : (useL N rs).getD k 0 = cntI rs k := getD_ofmap _ _ h
theorem cnt_bnd (rs : List Rt) (k : Nat) : 0 ≤ cntI rs k ∧ cntI rs k ≤ rs.length := by
  unfold cntI
  have := List.length_filter_le (fun r : Rt => r.ns.contains (k : Int)) rs
  omega
theorem use_bnd (N : Nat) (rs : List Rt) : ∀ i, i < (useL N rs).length → 0 ≤ (useL N rs).getD i 0 ∧ (useL N rs).getD i 0 ≤ rs.length := fun i hi => by
  rw [use_len] at hi; rw [use_at rs hi]; exact cnt_bnd rs i
theorem use_nil (N : Nat) : List.replicate N (0 : Int) = useL N [] := by
  unfold useL
  apply List.ext_getElem (by simp)
  intro i h1 h2
  simp [cntI]
theorem usej_nil (N : Nat) (rs : List Rt) (ns : List Int) : useJ N rs ns 0 = useL N rs := by
  unfold useJ useL; simp
theorem usej_end (N : Nat) (rs : List Rt) (r : Rt) : useJ N rs r.ns r.ns.length = useL N (rs ++ [r]) := by
  unfold useJ useL
  congr 1; funext k
  unfold cntI
  rw [List.take_length, List.filter_append, List.length_append]
  by_cases h : r.ns.contains (k : Int) = true
  · rw [if_pos h, List.filter_cons_of_pos (p := fun r : Rt => r.ns.contains (k : Int)) h]; rfl
  · rw [if_neg h, List.filter_cons_of_neg (p := fun r : Rt => r.ns.contains (k : Int)) h]; simp
theorem take_snocI (ns : List Int) {j : Nat} (h : j < ns.length) : ns.take (j + 1) = ns.take j ++ [ns.getD j 0] := by
  rw [List.take_succ_eq_append_getElem h, List.getD_eq_getElem?_getD, List.getElem?_eq_getElem h]; rfl
theorem usej_step {N : Nat} (rs : List Rt) {ns : List Int} (h : NsOk N ns) {j : Nat} (hj : j < ns.length) :
    (useJ N rs ns j).set (ns.getD j 0).toNat ((useJ N rs ns j).getD (ns.getD j 0).toNat 0 + 1) = useJ N rs ns (j + 1) := by
  have hr := h.rng (ns.getD j 0) (getD_mem' hj)
  have hnd : ¬ ns.getD j 0 ∈ ns.take j := by
    have h1 := h.nd
    rw [← List.take_append_drop (j + 1) ns, take_snocI ns hj, List.append_assoc, List.nodup_append] at h1
    intro hc
    exact h1.2.2 _ hc _ (by simp) rfl
  generalize hx : ns.getD j 0 = x at *
  apply List.ext_getElem (by simp [useJ])
  intro i h1 h2
  have e1 : ∀ (q i : Nat) (h : i < (useJ N rs ns q).length), (useJ N rs ns q)[i] = cntI rs i + if (ns.take q).contains (i : Int) = true then 1 else 0 := by
    intro q i h; simp only [useJ, List.getElem_map, List.getElem_range]
  rw [List.length_set, usej_len] at h1
  rw [List.getElem_set, e1, e1, take_snocI ns hj, hx]
  by_cases hi : x.toNat = i
  · rw [if_pos hi, show (useJ N rs ns j).getD x.toNat 0 = _ from getD_ofmap _ _ (by omega)]
    have e : (i : Int) = x := by omega
    have e2 : ((x.toNat : Nat) : Int) = x := by omega
    subst hi
    rw [e, if_neg (by rw [List.contains_iff_mem]; exact hnd), if_pos (by rw [List.contains_iff_mem]; simp)]
    omega
  · rw [if_neg hi]
    have e : ¬ (i : Int) = x := by omega
    congr 1
    simp only [List.contains_iff_mem, List.mem_append, List.mem_singleton, e, or_false]
theorem seen_no {N : Nat} {ns : List Int} (h : NsOk N ns) {j : Nat} (hj : j < ns.length) : (ns.take j).reverse.contains (ns.getD j 0) = false := by
  rw [Bool.eq_false_iff]
  intro hc
  rw [List.contains_iff_mem, List.mem_reverse] at hc
  have h1 := h.nd
  rw [← List.take_append_drop (j + 1) ns, take_snocI ns hj, List.append_assoc, List.nodup_append] at h1
  exact h1.2.2 _ hc _ (by simp) rfl
theorem seen_rev (ns : List Int) {j : Nat} (h : j < ns.length) : ns.getD j 0 :: (ns.take j).reverse = (ns.take (j + 1)).reverse := by rw [take_snocI ns h, List.reverse_append]; rfl
/-- overused nodes -/
def ovL (us : List Int) (k : Nat) : List Int := ((List.range k).filter fun i : Nat => decide (1 < us.getD i 0)).map fun i : Nat => (i : Int)
theorem ov_yes {us : List Int} {k : Nat} (h : 1 < us.getD k 0) : ovL us k ++ [(k : Int)] = ovL us (k + 1) := by
  unfold ovL; rw [List.range_succ, List.filter_append, List.map_append, List.filter_cons_of_pos (p := fun i : Nat => decide (1 < us.getD i 0)) (decide_eq_true h)]; rfl
theorem ov_no {us : List Int} {k : Nat} (h : ¬ 1 < us.getD k 0) : ovL us k = ovL us (k + 1) := by
  unfold ovL; rw [List.range_succ, List.filter_append, List.map_append, List.filter_cons_of_neg (p := fun i : Nat => decide (1 < us.getD i 0)) (by simpa using h)]; simp
theorem ov_len (us : List Int) (k : Nat) : (ovL us k).length ≤ k := by
  unfold ovL; rw [List.length_map]; have := List.length_filter_le (fun i => decide (1 < us.getD i 0)) (List.range k); simpa using this
theorem ov_one {N : Nat} (r : Rt) : ovL (useL N [r]) N = [] := by
  unfold ovL
  rw [List.map_eq_nil_iff, List.filter_eq_nil_iff]
  intro k hk
  rw [List.mem_range] at hk
  rw [use_at _ hk]
  have := cnt_bnd [r] k
  simp only [List.length_singleton] at this
  simp only [decide_eq_true_eq]; omega
theorem countP_mem : ∀ (ns : List Int) (N : Nat), ns.Nodup → (∀ x ∈ ns, 0 ≤ x ∧ x < N) → (List.range N).countP (fun k => ns.contains ((k : Nat) : Int)) = ns.length
  | [], N, _, _ => by simp
  | a :: ns, N, hn, hr => by
    rw [List.nodup_cons] at hn
    have ih := countP_mem ns N hn.2 (fun x hx => hr x (List.mem_cons_of_mem _ hx))
    have ha := hr a List.mem_cons_self
    have key : ∀ M : Nat, (List.range M).countP (fun k => (a :: ns).contains ((k : Nat) : Int)) = (List.range M).countP (fun k => ns.contains ((k : Nat) : Int)) + if a < (M : Int) then 1 else 0 := by
      intro M
      induction M with
      | zero => simp; omega
      | succ M ihM =>
        rw [List.range_succ, List.countP_append, List.countP_append, ihM]
        simp only [List.countP_cons, List.countP_nil, List.contains_iff_mem, List.mem_cons]
        by_cases hM : (M : Int) = a
        · have h1 : ¬ a < (M : Int) := by omega
          have h2 : a < ((M + 1 : Nat) : Int) := by omega
          have h3 : ¬ (M : Int) ∈ ns := by rw [hM]; exact hn.1
          simp only [h1, h2, h3, hM, hn.1, if_true, if_false, true_or]; simp
        · by_cases hc : a < (M : Int)
          · have h2 : a < ((M + 1 : Nat) : Int) := by omega
            simp only [hc, h2, hM, if_true, false_or]; simp; omega
          · have h2 : ¬ a < ((M + 1 : Nat) : Int) := by omega
            simp only [hc, h2, hM, if_false, false_or]; simp
    rw [key N, ih, if_pos ha.2, List.length_cons]
theorem ov_two {N : Nat} (r : Rt) (h : NsOk N r.ns) : (ovL (useL N [r, r]) N).length = r.ns.length := by
  unfold ovL
  rw [List.length_map, ← List.countP_eq_length_filter, ← countP_mem r.ns N h.nd h.rng]
  apply List.countP_congr
  intro k hk
  rw [List.mem_range] at hk
  rw [use_at _ hk]
  unfold cntI
  by_cases hc : r.ns.contains (k : Int) = true
  · rw [List.filter_cons_of_pos (p := fun r : Rt => r.ns.contains (k : Int)) hc, List.filter_cons_of_pos (p := fun r : Rt => r.ns.contains (k : Int)) hc, hc]; rfl
  · rw [List.filter_cons_of_neg (p := fun r : Rt => r.ns.contains (k : Int)) hc, List.filter_cons_of_neg (p := fun r : Rt => r.ns.contains (k : Int)) hc, Bool.eq_false_iff.2 hc]; rfl
/-- the shared costs -/
def shI (h u p : Int) : Int := if 10 + h + p * u < 100000 then 10 + h + p * u else 100000
def shL (hs us : List Int) (p : Int) (k : Nat) : List Int := (List.range k).map fun i => shI (hs.getD i 0) (us.getD i 0) p
theorem sh_step (hs us : List Int) (p : Int) (k : Nat) {x : Int} (h : x = shI (hs.getD k 0) (us.getD k 0) p) : shL hs us p k ++ [x] = shL hs us p (k + 1) := by
  unfold shL; rw [List.range_succ, List.map_append, h]; rfl
theorem sh_len (hs us : List Int) (p : Int) (k : Nat) : (shL hs us p k).length = k := by simp [shL]
theorem sh_at (hs us : List Int) (p : Int) {i k : Nat} (h : i < k) : (shL hs us p k).getD i 0 = shI (hs.getD i 0) (us.getD i 0) p := getD_ofmap _ _ h
theorem cnt_one (r : Rt) (k : Nat) : cntI [r] k = if hasB r.ns (k : Int) = true then 1 else 0 := by
  unfold cntI hasB
  by_cases h : r.ns.contains (k : Int) = true
  · rw [if_pos h, List.filter_cons_of_pos (p := fun r : Rt => r.ns.contains (k : Int)) h]; rfl
  · rw [if_neg h, List.filter_cons_of_neg (p := fun r : Rt => r.ns.contains (k : Int)) h]; rfl
/-- a tree that grew along sources -/
structure Tree (d : Dev) (s : Int) (ns fs ks : List Int) : Prop where
  len : ns.length = fs.length
  l0 : 1 ≤ ns.length
  l1 : ns.length ≤ 7
  root : ns.getD 0 0 = s
  from0 : fs.getD 0 0 = 0
  rng : ∀ x ∈ ns, 0 ≤ x ∧ x < allI d
  nd : ns.Nodup
  step : ∀ k, 0 < k → k < ns.length → 0 ≤ fs.getD k 0 ∧ fs.getD k 0 < k ∧ hasB (srcI d (ns.getD k 0)) (ns.getD (fs.getD k 0).toNat 0) = true
  sinks : ks = (ns.drop 1).filter fun x => decide (x % perI d < 5)
theorem tree_one {d : Dev} {s : Int} (h : 0 ≤ s ∧ s < allI d) : Tree d s [s] [0] [] := ⟨rfl, by simp, by simp, rfl, rfl, by simpa using h, by simp, fun k h0 h1 => by simp at h1; omega, rfl⟩
theorem tree_app {d : Dev} {s x f : Int} {ns fs ks : List Int} (h : Tree d s ns fs ks) (hl : ns.length ≤ 6) (hx : 0 ≤ x ∧ x < allI d) (hn : hasB ns x = false) (hf : 0 ≤ f ∧ f < ns.length) (hs : hasB (srcI d x) (ns.getD f.toNat 0) = true) :
    Tree d s (ns ++ [x]) (fs ++ [f]) (if x % perI d < 5 then ks ++ [x] else ks) := by
  have hlen := h.len
  have hl0 := h.l0
  have gl : ∀ (xs : List Int) (y : Int) (k : Nat), k < xs.length → (xs ++ [y]).getD k 0 = xs.getD k 0 := fun xs y k hk => by rw [List.getD_eq_getElem?_getD, List.getElem?_append_left hk, ← List.getD_eq_getElem?_getD]
  have ge : ∀ (xs : List Int) (y : Int) (k : Nat), k = xs.length → (xs ++ [y]).getD k 0 = y := fun xs y k hk => by rw [hk, List.getD_eq_getElem?_getD, List.getElem?_append_right (Nat.le_refl _), Nat.sub_self]; rfl
  refine ⟨by simp [hlen], by simp, by simp; omega, by rw [gl _ _ _ (by omega)]; exact h.root, by rw [gl _ _ _ (by omega)]; exact h.from0, fun y hy => ?_, ?_, fun k k0 k1_o => ?_, ?_⟩
  · rcases List.mem_append.1 hy with hy | hy
    · exact h.rng y hy
    · rw [List.mem_singleton] at hy; subst hy; exact hx
  · rw [List.nodup_append]
    refine ⟨h.nd, by simp, fun a ha b hb => ?_⟩
    rw [List.mem_singleton] at hb; subst hb
    intro e; subst e
    unfold hasB at hn
    rw [Bool.eq_false_iff] at hn
    exact hn (List.contains_iff_mem.2 ha)
  · rw [List.length_append, List.length_singleton] at k1_o
    by_cases hk : k = ns.length
    · rw [ge fs f k (by omega), ge ns x k hk, gl ns x _ (by omega)]
      exact ⟨hf.1, by omega, hs⟩
    · have := h.step k k0 (by omega)
      rw [gl fs f k (by omega), gl ns x k (by omega), gl ns x _ (by omega)]
      exact this
  · rw [List.drop_append_of_le_length (by omega), List.filter_append, ← h.sinks]
    by_cases hc : x % perI d < 5
    · rw [if_pos hc]; simp [List.filter_cons, hc]
    · rw [if_neg hc]; simp [List.filter_cons, hc]
theorem Tree.nsok {d : Dev} {s : Int} {ns fs ks : List Int} (h : Tree d s ns fs ks) (hd : 0 ≤ allI d) : NsOk (allI d).toNat ns := ⟨h.nd, fun x hx => by have := h.rng x hx; omega, by have := h.l1; omega⟩
theorem take_snocR (rs : List Rt) {k : Nat} (h : k < rs.length) : rs.take (k + 1) = rs.take k ++ [rs.getD k rt0] := by
  rw [List.take_succ_eq_append_getElem h, List.getD_eq_getElem?_getD, List.getElem?_eq_getElem h]; rfl
theorem usej_bnd {N : Nat} {rs : List Rt} (hl : rs.length ≤ 1000) {ns : List Int} {j : Nat} (k : Nat) (h : k < N) : 0 ≤ (useJ N rs ns j).getD k 0 ∧ (useJ N rs ns j).getD k 0 ≤ 1001 := by
  unfold useJ
  rw [getD_ofmap _ _ h]
  have := cnt_bnd rs k
  split <;> omega
theorem inr_in {x lo hi : Int} (h : lo ≤ x ∧ x ≤ hi) : inR x lo hi = true := (inR_iff _ _ _).2 h
set_option maxHeartbeats 4000000 in
set_option maxRecDepth 100000 in
theorem usage_ret (n : Int) (rs : List Rt) (v : Value) (w : World) (hn : 0 ≤ n ∧ n ≤ 100000) (hv : RdsRt w v rs) (hl : rs.length ≤ 1000) (hr : ∀ k, k < rs.length → NsOk n.toNat (rs.getD k rt0).ns) :
  Calls Try.prog 113 #[.int .i64 n, v] w (Ret w (fun v' post => post = [rowE 3 1 v' (useL n.toNat rs).length ((useL n.toNat rs).map (Value.int .i64))])) := by
 refine calls_hc (N := 48) (args := [.int .i64 n, v]) Try.func113 rfl rfl ?_
 refine hc_less _ (sx 0 rfl (sx 1 rfl (sub_nil _))) (.refl _) ?_
 refine hc_seq ?_
 refine hc_region ?_
 refine hl_v rfl rfl rfl (rv_ev rfl) ?_
 refine hl_less (sx 0 rfl (sx 1 rfl (sx 4 rfl (sub_nil _)))) (.refl _) ?_
 refine hl_nil ?_
 refine hq_then ?_
 refine hc_seq ?_
 refine hc_region ?_
 refine hl_v rfl rfl rfl (rv_ev rfl) ?_
 refine hl_row rfl rfl rfl (rq_make (z := .int .i64 0) (s := 1) (bytes := 8) (n := (List.replicate (n).toNat (0 : Int)).length) (cs := ((List.replicate (n).toNat (0 : Int)).map (Value.int .i64))) rfl Try.underlying30 (by kernel_rfl) (by decide) rfl rfl (by first | (rw [List.length_replicate]; done) | (rw [List.length_replicate]; omega)) (by first | (rw [List.length_replicate]; done) | (rw [List.length_replicate]; omega)) (by rw [List.length_replicate]; omega) (ints_make _)) ?_
 intro g1
 refine hl_v rfl rfl rfl (rv_ev rfl) ?_
 refine hl_less (sx 0 rfl (sx 1 rfl (sx 4 rfl (sx 5 rfl (sub_nil _))))) (.refl _) ?_
 refine hl_nil ?_
 refine hq_then ?_
 refine hc_seq ?_
 refine hc_seq ?_
 refine hc_region ?_
 refine hl_v rfl rfl rfl (rv_ev rfl) ?_
 refine hl_v rfl rfl rfl (rv_len rfl Try.underlying68 rfl (rd_old hv.row)) ?_
 refine hl_v rfl rfl rfl (rv_ev rfl) ?_
 refine hl_less (sx 0 rfl (sx 1 rfl (sx 4 rfl (sx 5 rfl (sx 13 rfl (sx 14 rfl (sx 15 rfl (sub_nil _)))))))) (.refl _) ?_
 refine hl_nil ?_
 refine hq_then ?_
 refine hc_block ?_
 refine hc_loop2 (α := Nat) (β := List Int) (fun k zs => [rowE 3 1 (.slice (some ⟨g1, 0, none⟩) ((List.replicate (n).toNat (0 : Int)).length) ((List.replicate (n).toNat (0 : Int)).length)) zs.length (zs.map (Value.int .i64))]) (fun k zs => [(0, .int .i64 n), (1, v), (4, .slice none 0 0), (5, .slice (some ⟨g1, 0, none⟩) ((List.replicate (n).toNat (0 : Int)).length) ((List.replicate (n).toNat (0 : Int)).length)), (13, v), (14, .int .i64 (rs.length : Int)), (15, .int .i64 (k : Int))]) (fun k zs => k ≤ rs.length ∧ zs = useL n.toNat (rs.take k)) (fun k zs => rs.length - k) 0 (List.replicate n.toNat (0 : Int)) ⟨by omega, use_nil _⟩ (sx 0 rfl (sx 1 rfl (sx 4 rfl (sx 5 rfl (sx 13 rfl (sx 14 rfl (sx 15 rfl (sub_nil _)))))))) ((.cons_cons _ .slnil)) ?_
 intro k zs hi2
 obtain ⟨hk, hz⟩ := hi2
 refine hc_seq ?_
 refine hc_region ?_
 refine hl_lss rfl rfl rfl rfl rfl rfl (fun h3 => ?_) (fun h3 => ?_)
 ·
  refine hl_less (sx 0 rfl (sx 1 rfl (sx 4 rfl (sx 5 rfl (sx 13 rfl (sx 14 rfl (sx 15 rfl (sx 16 rfl (sub_nil _))))))))) (.refl _) ?_
  refine hl_nil ?_
  refine hq_then ?_
  refine hc_seq ?_
  refine hc_true rfl ?_
  refine hc_skip ?_
  refine hq_then ?_
  refine hc_seq ?_
  refine hc_block ?_
  refine hc_seq ?_
  refine hc_region ?_
  refine hl_v rfl rfl rfl (rv_index (s := 2) rfl Try.underlying68 (by kernel_rfl) rfl rfl (rd_old hv.row) (by omega) (by first | omega | (simp only [List.length_set]; omega))) ?_
  have hok : NsOk n.toNat (rs.getD k rt0).ns := hr k (by omega)
  have hnl := hok.len
  refine hl_v rfl rfl rfl (rv_loadElN (us := [(rs.getD k rt0).nv, (rs.getD k rt0).fv]) rfl (by kernel_rfl) (by kernel_rfl) rfl (rd_old hv.row) (by omega) rfl (flat_atN Rt.cells 2 (fun _ => rfl) rs rt0 (show k < _ by first | omega | (simp only [List.length_set]; omega)) rfl)) ?_
  refine hl_box rfl rfl rfl (rq_alloc (z := .agg #[.slice none 0 0, .slice none 0 0]) rfl (by kernel_rfl)) ?_
  intro b4
  refine hl_storeBoxN (i := 0) (off := 0) (us := [(rs.getD k rt0).nv, (rs.getD k rt0).fv]) (l' := [boxE b4 #[(rs.getD k rt0).nv, (rs.getD k rt0).fv] 64, rowE 3 1 (.slice (some ⟨g1, 0, none⟩) ((List.replicate (n).toNat (0 : Int)).length) ((List.replicate (n).toNat (0 : Int)).length)) zs.length (zs.map (Value.int .i64))]) rfl rfl rfl (by kernel_rfl) rfl rfl rfl (all_cons (hv.nat (k := k) (by omega)).one (all_cons (hv.fat (k := k) (by omega)).one all_nil)) rfl rfl rfl ?_
  refine hl_less (sx 0 rfl (sx 1 rfl (sx 4 rfl (sx 5 rfl (sx 7 rfl (sx 13 rfl (sx 14 rfl (sx 15 rfl (sx 16 rfl (sub_nil _)))))))))) (.refl _) ?_
  refine hl_nil ?_
  refine hq_then ?_
  refine hc_seq ?_
  refine hc_region ?_
  refine hl_q rfl rfl rfl (rq_makeSet rfl) ?_
  intro v5 p6 hR7
  obtain ⟨mhR7, rfl, rfl⟩ := hR7
  refine hl_v rfl rfl rfl (rv_ev rfl) ?_
  refine hl_less (sx 0 rfl (sx 1 rfl (sx 4 rfl (sx 5 rfl (sx 7 rfl (sx 8 rfl (sx 13 rfl (sx 14 rfl (sx 15 rfl (sx 16 rfl (sub_nil _))))))))))) (.refl _) ?_
  refine hl_nil ?_
  refine hq_then ?_
  refine hc_seq ?_
  refine hc_region ?_
  refine hl_v rfl rfl rfl (rv_field (k0 := 0) rfl (by kernel_rfl) rfl) ?_
  refine hl_v rfl rfl rfl (rv_load rfl (by kernel_rfl) rfl (box_cell 1 rfl rfl)) ?_
  refine hl_v rfl rfl rfl (rv_len rfl Try.underlying30 rfl (fun w hm => (hv.nat (k := k) (by omega)).below hm.bel)) ?_
  refine hl_v rfl rfl rfl (rv_ev rfl) ?_
  refine hl_less (sx 0 rfl (sx 1 rfl (sx 4 rfl (sx 5 rfl (sx 7 rfl (sx 8 rfl (sx 13 rfl (sx 14 rfl (sx 15 rfl (sx 16 rfl (sx 21 rfl (sx 22 rfl (sx 23 rfl (sub_nil _)))))))))))))) (.refl _) ?_
  refine hl_nil ?_
  refine hq_then ?_
  refine hc_block ?_
  refine hc_loop3 (α := Nat) (β := List Int) (γ := List Int) (fun j sn ys => [setE mhR7 sn, boxE b4 #[(rs.getD k rt0).nv, (rs.getD k rt0).fv] 64, rowE 3 1 (.slice (some ⟨g1, 0, none⟩) ((List.replicate (n).toNat (0 : Int)).length) ((List.replicate (n).toNat (0 : Int)).length)) ys.length (ys.map (Value.int .i64))]) (fun j sn ys => [(0, .int .i64 n), (1, v), (4, .slice none 0 0), (5, .slice (some ⟨g1, 0, none⟩) ((List.replicate (n).toNat (0 : Int)).length) ((List.replicate (n).toNat (0 : Int)).length)), (7, .pointer (some ⟨b4, 0, none⟩)), (8, .map (some mhR7)), (13, v), (14, .int .i64 (rs.length : Int)), (15, .int .i64 (k : Int)), (16, .bool true), (21, (rs.getD k rt0).nv), (22, .int .i64 (((rs.getD k rt0).ns).length : Int)), (23, .int .i64 (j : Int))]) (fun j sn ys => j ≤ (rs.getD k rt0).ns.length ∧ sn = ((rs.getD k rt0).ns.take j).reverse ∧ ys = useJ n.toNat (rs.take k) (rs.getD k rt0).ns j) (fun j sn ys => (rs.getD k rt0).ns.length - j) 0 [] zs ⟨by omega, rfl, by rw [hz, usej_nil]⟩ (sx 0 rfl (sx 1 rfl (sx 4 rfl (sx 5 rfl (sx 7 rfl (sx 8 rfl (sx 13 rfl (sx 14 rfl (sx 15 rfl (sx 16 rfl (sx 21 rfl (sx 22 rfl (sx 23 rfl (sub_nil _)))))))))))))) ((.cons_cons _ (.cons_cons _ (.cons_cons _ .slnil)))) ?_
  intro j sn ys hi8
  obtain ⟨hj, hS, hys⟩ := hi8
  have hyl : ys.length = n.toNat := by rw [hys, usej_len]
  refine hc_seq ?_
  refine hc_region ?_
  refine hl_lss rfl rfl rfl rfl rfl rfl (fun h9 => ?_) (fun h9 => ?_)
  ·
   refine hl_less (sx 0 rfl (sx 1 rfl (sx 4 rfl (sx 5 rfl (sx 7 rfl (sx 8 rfl (sx 13 rfl (sx 14 rfl (sx 15 rfl (sx 16 rfl (sx 21 rfl (sx 22 rfl (sx 23 rfl (sx 24 rfl (sub_nil _))))))))))))))) (.refl _) ?_
   refine hl_nil ?_
   refine hq_then ?_
   refine hc_seq ?_
   refine hc_true rfl ?_
   refine hc_skip ?_
   refine hq_then ?_
   refine hc_seq ?_
   refine hc_block ?_
   refine hc_seq ?_
   refine hc_region ?_
   refine hl_v rfl rfl rfl (rv_index (s := 1) rfl Try.underlying30 (by kernel_rfl) rfl rfl (fun w hm => (hv.nat (k := k) (by omega)).below hm.bel) (by omega) (by first | omega | (simp only [List.length_set]; omega))) ?_
   refine hl_v rfl rfl rfl (rv_loadEl (u := .int .i64 (((rs.getD k rt0).ns).getD j 0)) rfl (by kernel_rfl) rfl (fun w hm => (hv.nat (k := k) (by omega)).below hm.bel) (ints_at1 (show _ < ((rs.getD k rt0).ns).length by first | omega | (simp only [List.length_set]; omega)))) ?_
   refine hl_v rfl rfl rfl (rv_ev rfl) ?_
   refine hl_less (sx 0 rfl (sx 1 rfl (sx 4 rfl (sx 5 rfl (sx 7 rfl (sx 8 rfl (sx 10 rfl (sx 13 rfl (sx 14 rfl (sx 15 rfl (sx 16 rfl (sx 21 rfl (sx 22 rfl (sx 23 rfl (sx 24 rfl (sub_nil _)))))))))))))))) (.refl _) ?_
   refine hl_nil ?_
   refine hq_then ?_
   refine hc_seq ?_
   refine hc_region ?_
   refine hl_v rfl rfl rfl (rv_ev rfl) ?_
   refine hl_v rfl rfl rfl (rv_ev rfl) ?_
   refine hl_v rfl rfl rfl (rv_sub rfl rfl rfl (by constructor <;> omega)) ?_
   have hxr : 0 ≤ (rs.getD k rt0).ns.getD j 0 ∧ (rs.getD k rt0).ns.getD j 0 < n.toNat := hok.rng _ (getD_mem' (by omega))
   have hno : List.contains sn ((rs.getD k rt0).ns.getD j 0) = false := by rw [hS]; exact seen_no hok (by omega)
   have hyj : 0 ≤ ys.getD ((rs.getD k rt0).ns.getD j 0).toNat 0 ∧ ys.getD ((rs.getD k rt0).ns.getD j 0).toNat 0 ≤ 1001 := by rw [hys]; exact usej_bnd (by rw [List.length_take]; omega) _ (by omega)
   have hsl : sn.length = j := by rw [hS, List.length_reverse, List.length_take]; omega
   refine hl_callV rfl rfl rfl (rq_call (by kernel_rfl) rfl (fun w hm => ret_ans (ans_of (inRange_any _ _ _ w)))) ?_
   refine hl_bool (fun h10 => ?_) (fun h10 => absurd (((inr_in (by omega))).symm.trans h10) (by decide))
   refine hl_v rfl rfl rfl (rv_ev rfl) ?_
   refine hl_v rfl rfl rfl (rv_ev rfl) ?_
   refine hl_v rfl rfl rfl (rv_ev rfl) ?_
   refine hl_v rfl rfl rfl (rv_inSet (i := 0) (S := sn) (k := ((rs.getD k rt0).ns).getD j 0) rfl Try.underlying132 rfl rfl (wf_small (by omega)) rfl) ?_
   refine hl_bool (fun h11 => absurd ((hno).symm.trans h11) (by decide)) (fun h11 => ?_)
   refine hl_v rfl rfl rfl (rv_ev rfl) ?_
   refine hl_v rfl rfl rfl (rv_ev rfl) ?_
   refine hl_less (sx 0 rfl (sx 1 rfl (sx 4 rfl (sx 5 rfl (sx 7 rfl (sx 8 rfl (sx 10 rfl (sx 13 rfl (sx 14 rfl (sx 15 rfl (sx 16 rfl (sx 21 rfl (sx 22 rfl (sx 23 rfl (sx 24 rfl (sx 36 rfl (sub_nil _))))))))))))))))) (.refl _) ?_
   refine hl_nil ?_
   refine hq_then ?_
   refine hc_true rfl ?_
   refine hc_seq ?_
   refine hc_region ?_
   refine hl_v rfl rfl rfl (rv_ev rfl) ?_
   refine hl_v rfl rfl rfl (rv_ev rfl) ?_
   refine hl_intoSet (i := 0) (k := ((rs.getD k rt0).ns).getD j 0) (l' := [setE mhR7 ((((rs.getD k rt0).ns).getD j 0) :: sn), boxE b4 #[(rs.getD k rt0).nv, (rs.getD k rt0).fv] 64, rowE 3 1 (.slice (some ⟨g1, 0, none⟩) ((List.replicate (n).toNat (0 : Int)).length) ((List.replicate (n).toNat (0 : Int)).length)) ys.length (ys.map (Value.int .i64))]) rfl rfl rfl Try.underlying132 rfl rfl rfl (wf_small (by omega)) rfl (by first | omega | (simp; omega)) rfl ?_
   refine hl_less (sx 0 rfl (sx 1 rfl (sx 4 rfl (sx 5 rfl (sx 7 rfl (sx 8 rfl (sx 10 rfl (sx 13 rfl (sx 14 rfl (sx 15 rfl (sx 16 rfl (sx 21 rfl (sx 22 rfl (sx 23 rfl (sx 24 rfl (sx 36 rfl (sub_nil _))))))))))))))))) (.refl _) ?_
   refine hl_nil ?_
   refine hq_then ?_
   refine hc_region ?_
   refine hl_v rfl rfl rfl (rv_ev rfl) ?_
   refine hl_v rfl rfl rfl (rv_ev rfl) ?_
   refine hl_v rfl rfl rfl (rv_index (s := 1) rfl Try.underlying30 (by kernel_rfl) rfl rfl (rd_row 2 rfl) (by omega) (by first | omega | (simp only [List.length_set]; omega))) ?_
   refine hl_v rfl rfl rfl (rv_loadEl (u := .int .i64 (ys.getD ((((rs.getD k rt0).ns).getD j 0).toNat) 0)) rfl (by kernel_rfl) rfl (rd_row 2 rfl) (ints_at1 (show _ < ys.length by first | omega | (simp only [List.length_set]; omega)))) ?_
   refine hl_v rfl rfl rfl (rv_add rfl rfl rfl (by constructor <;> omega)) ?_
   refine hl_v rfl rfl rfl (rv_index (s := 1) rfl Try.underlying30 (by kernel_rfl) rfl rfl (rd_row 2 rfl) (by omega) (by first | omega | (simp only [List.length_set]; omega))) ?_
   refine hl_storeEl (i := 2) (n' := (ys.set ((((rs.getD k rt0).ns).getD j 0).toNat) ((ys.getD ((((rs.getD k rt0).ns).getD j 0).toNat) 0) + 1)).length) (xs' := ((ys.set ((((rs.getD k rt0).ns).getD j 0).toNat) ((ys.getD ((((rs.getD k rt0).ns).getD j 0).toNat) 0) + 1)).map (Value.int .i64))) (l' := [setE mhR7 ((((rs.getD k rt0).ns).getD j 0) :: sn), boxE b4 #[(rs.getD k rt0).nv, (rs.getD k rt0).fv] 64, rowE 3 1 (.slice (some ⟨g1, 0, none⟩) ((List.replicate (n).toNat (0 : Int)).length) ((List.replicate (n).toNat (0 : Int)).length)) ((ys.set ((((rs.getD k rt0).ns).getD j 0).toNat) ((ys.getD ((((rs.getD k rt0).ns).getD j 0).toNat) 0) + 1)).length) ((ys.set ((((rs.getD k rt0).ns).getD j 0).toNat) ((ys.getD ((((rs.getD k rt0).ns).getD j 0).toNat) 0) + 1)).map (Value.int .i64))]) rfl rfl rfl (by kernel_rfl) rfl rfl rfl rfl (by first | omega | (simp only [List.length_set]; omega)) List.length_set.symm (ints_set _ _ _) rfl ?_
   refine hl_less (sx 0 rfl (sx 1 rfl (sx 4 rfl (sx 5 rfl (sx 7 rfl (sx 8 rfl (sx 10 rfl (sx 13 rfl (sx 14 rfl (sx 15 rfl (sx 16 rfl (sx 21 rfl (sx 22 rfl (sx 23 rfl (sx 24 rfl (sx 36 rfl (sub_nil _))))))))))))))))) (.refl _) ?_
   refine hl_nil ?_
   refine hq_block_normal ?_
   refine hq_then ?_
   refine hc_region ?_
   refine hl_v rfl rfl rfl (rv_add rfl rfl rfl (by constructor <;> omega)) ?_
   refine hl_v rfl rfl rfl (rv_ev rfl) ?_
   refine hl_less (sx 0 rfl (sx 1 rfl (sx 4 rfl (sx 5 rfl (sx 7 rfl (sx 8 rfl (sx 10 rfl (sx 13 rfl (sx 14 rfl (sx 15 rfl (sx 16 rfl (sx 21 rfl (sx 22 rfl (sx 23 rfl (sx 24 rfl (sx 36 rfl (sub_nil _))))))))))))))))) (.refl _) ?_
   refine hl_nil ?_
   exact hq_round3 (j + 1) ((((rs.getD k rt0).ns).getD j 0) :: sn) (ys.set ((((rs.getD k rt0).ns).getD j 0).toNat) ((ys.getD ((((rs.getD k rt0).ns).getD j 0).toNat) 0) + 1)) ⟨by omega, by rw [hS]; exact seen_rev _ (by omega), by rw [hys]; exact usej_step _ hok (by omega)⟩ (by omega) (sx 0 rfl (sx 1 rfl (sx 4 rfl (sx 5 rfl (sx 7 rfl (sx 8 rfl (sx 13 rfl (sx 14 rfl (sx 15 rfl (sx 16 rfl (sx 21 rfl (sx 22 rfl (sx 23 rfl (sub_nil _)))))))))))))) ((.cons_cons _ (.cons_cons _ (.cons_cons _ .slnil))))
  ·
   refine hl_less (sx 0 rfl (sx 1 rfl (sx 4 rfl (sx 5 rfl (sx 7 rfl (sx 8 rfl (sx 13 rfl (sx 14 rfl (sx 15 rfl (sx 16 rfl (sx 21 rfl (sx 22 rfl (sx 23 rfl (sx 24 rfl (sub_nil _))))))))))))))) (.refl _) ?_
   refine hl_nil ?_
   refine hq_then ?_
   refine hc_seq ?_
   refine hc_false rfl ?_
   refine hc_exit ?_
   refine hq_then_exit ?_
   refine hq_then_exit ?_
   refine hq_block_exit ?_
   refine hq_block_normal ?_
   refine hq_then ?_
   refine hc_region ?_
   refine hl_v rfl rfl rfl (rv_add rfl rfl rfl (by constructor <;> omega)) ?_
   refine hl_v rfl rfl rfl (rv_ev rfl) ?_
   refine hl_less (sx 0 rfl (sx 1 rfl (sx 4 rfl (sx 5 rfl (sx 7 rfl (sx 8 rfl (sx 13 rfl (sx 14 rfl (sx 15 rfl (sx 16 rfl (sx 21 rfl (sx 22 rfl (sx 23 rfl (sx 24 rfl (sub_nil _))))))))))))))) (.refl _) ?_
   refine hl_nil ?_
   exact hq_round2 (k + 1) ys ⟨by omega, by rw [hys, show j = (rs.getD k rt0).ns.length by omega, usej_end, take_snocR rs (by omega)]⟩ (by omega) (sx 0 rfl (sx 1 rfl (sx 4 rfl (sx 5 rfl (sx 13 rfl (sx 14 rfl (sx 15 rfl (sub_nil _)))))))) ((.cons _ (.cons _ (.cons_cons _ .slnil))))
 ·
  refine hl_less (sx 0 rfl (sx 1 rfl (sx 4 rfl (sx 5 rfl (sx 13 rfl (sx 14 rfl (sx 15 rfl (sx 16 rfl (sub_nil _))))))))) (.refl _) ?_
  refine hl_nil ?_
  refine hq_then ?_
  refine hc_seq ?_
  refine hc_false rfl ?_
  refine hc_exit ?_
  refine hq_then_exit ?_
  refine hq_then_exit ?_
  refine hq_block_exit ?_
  refine hq_then ?_
  refine hc_seq ?_
  refine hc_region ?_
  refine hl_v rfl rfl rfl (rv_ev rfl) ?_
  refine hl_v rfl rfl rfl (rv_ev rfl) ?_
  refine hl_less (sx 0 rfl (sx 1 rfl (sx 4 rfl (sx 5 rfl (sx 13 rfl (sx 14 rfl (sx 15 rfl (sx 16 rfl (sub_nil _))))))))) (.refl _) ?_
  refine hl_nil ?_
  refine hq_then ?_
  refine hc_ret ?_
  exact hq_retR (post := [rowE 3 1 (.slice (some ⟨g1, 0, none⟩) ((List.replicate (n).toNat (0 : Int)).length) ((List.replicate (n).toNat (0 : Int)).length)) zs.length (zs.map (Value.int .i64))]) rfl rfl ((.cons_cons _ .slnil)) (by rw [hz, show k = rs.length by omega, List.take_length])
set_option maxHeartbeats 4000000 in
set_option maxRecDepth 100000 in
theorem Overused_ret (d : Dev) (rs : List Rt) (v : Value) (w : World) (hd : devB d = true) (hv : RdsRt w v rs) (hl : rs.length ≤ 1000) (hr : ∀ k, k < rs.length → NsOk (allI d).toNat (rs.getD k rt0).ns) :
  Calls Try.prog 59 #[.agg #[.int .i64 d.W, .int .i64 d.H, .int .i64 d.T, .int .i64 d.R], v] w (Ret w (fun v' post => post = [rowE 3 1 v' (ovL (useL (allI d).toNat rs) (allI d).toNat).length ((ovL (useL (allI d).toNat rs) (allI d).toNat).map (Value.int .i64))])) := by
 obtain ⟨ra1, ra2⟩ := all_rng hd
 have hul := use_len (allI d).toNat rs
 have hub := use_bnd (allI d).toNat rs
 refine calls_hc (N := 26) (args := [.agg #[.int .i64 d.W, .int .i64 d.H, .int .i64 d.T, .int .i64 d.R], v]) Try.func59 rfl rfl ?_
 refine hc_less _ (sx 0 rfl (sx 1 rfl (sub_nil _))) (.refl _) ?_
 refine hc_seq ?_
 refine hc_region ?_
 refine hl_box rfl rfl rfl (rq_box rfl rfl) ?_
 intro b1
 refine hl_v rfl rfl rfl (rv_ev rfl) ?_
 refine hl_less (sx 0 rfl (sx 1 rfl (sx 2 rfl (sx 4 rfl (sub_nil _))))) (.refl _) ?_
 refine hl_nil ?_
 refine hq_then ?_
 refine hc_seq ?_
 refine hc_region ?_
 refine hl_nilRow 3 1 ?_
 refine hl_v rfl rfl rfl (rv_ev rfl) ?_
 refine hl_less (sx 0 rfl (sx 1 rfl (sx 2 rfl (sx 4 rfl (sx 5 rfl (sub_nil _)))))) (.refl _) ?_
 refine hl_nil ?_
 refine hq_then ?_
 refine hc_seq ?_
 refine hc_seq ?_
 refine hc_region ?_
 refine hl_v rfl rfl rfl (rv_loadN (cs := [.int .i64 d.W, .int .i64 d.H, .int .i64 d.T, .int .i64 d.R]) rfl (by kernel_rfl) (by kernel_rfl) rfl rfl (box_part 1 rfl 0 rfl)) ?_
 refine hl_callV rfl rfl rfl (rq_call (by kernel_rfl) rfl (fun w hm => ret_ans (implRouteNodes_yes d hd w))) ?_
 refine hl_v rfl rfl rfl (rv_ev rfl) ?_
 refine hl_q rfl rfl rfl (rq_call (by kernel_rfl) rfl (fun w hm => usage_ret (allI d) rs v w (by omega) (hv.below hm.bel) hl hr)) ?_
 intro v3 p4 hR5
 subst hR5
 refine hl_v rfl rfl rfl (rv_len rfl Try.underlying30 rfl (rd_row 0 rfl)) ?_
 refine hl_v rfl rfl rfl (rv_ev rfl) ?_
 refine hl_less (sx 0 rfl (sx 1 rfl (sx 2 rfl (sx 4 rfl (sx 5 rfl (sx 11 rfl (sx 12 rfl (sx 13 rfl (sub_nil _))))))))) (.refl _) ?_
 refine hl_nil ?_
 refine hq_then ?_
 refine hc_block ?_
 refine hc_loop3 (α := Nat) (β := Value) (γ := List Int) (fun k u zs => [rowE 3 1 v3 ((useL (allI d).toNat rs).length) ((useL (allI d).toNat rs).map (Value.int .i64)), rowE 3 1 u zs.length (zs.map (Value.int .i64)), boxE b1 #[.int .i64 d.W, .int .i64 d.H, .int .i64 d.T, .int .i64 d.R] 25]) (fun k u zs => [(0, .agg #[.int .i64 d.W, .int .i64 d.H, .int .i64 d.T, .int .i64 d.R]), (1, v), (2, .pointer (some ⟨b1, 0, none⟩)), (4, .slice none 0 0), (5, u), (11, v3), (12, .int .i64 ((useL (allI d).toNat rs).length : Int)), (13, .int .i64 (k : Int))]) (fun k u zs => k ≤ (useL (allI d).toNat rs).length ∧ zs = ovL (useL (allI d).toNat rs) k) (fun k u zs => (useL (allI d).toNat rs).length - k) 0 _ [] ⟨by omega, rfl⟩ (sx 0 rfl (sx 1 rfl (sx 2 rfl (sx 4 rfl (sx 5 rfl (sx 11 rfl (sx 12 rfl (sx 13 rfl (sub_nil _))))))))) ((.cons_cons _ (.cons_cons _ (.cons_cons _ .slnil)))) ?_
 intro k u zs hi6
 obtain ⟨hk, hz⟩ := hi6
 have hzl : zs.length ≤ k := by rw [hz]; exact ov_len _ _
 refine hc_seq ?_
 refine hc_region ?_
 refine hl_lss rfl rfl rfl rfl rfl rfl (fun h7 => ?_) (fun h7 => ?_)
 ·
  refine hl_less (sx 0 rfl (sx 1 rfl (sx 2 rfl (sx 4 rfl (sx 5 rfl (sx 11 rfl (sx 12 rfl (sx 13 rfl (sx 14 rfl (sub_nil _)))))))))) (.refl _) ?_
  refine hl_nil ?_
  refine hq_then ?_
  refine hc_seq ?_
  refine hc_true rfl ?_
  refine hc_skip ?_
  refine hq_then ?_
  refine hc_seq ?_
  refine hc_block ?_
  refine hc_seq ?_
  refine hc_region ?_
  refine hl_v rfl rfl rfl (rv_ev rfl) ?_
  refine hl_v rfl rfl rfl (rv_index (s := 1) rfl Try.underlying30 (by kernel_rfl) rfl rfl (rd_row 0 rfl) (by omega) (by first | omega | (simp only [List.length_set]; omega))) ?_
  refine hl_v rfl rfl rfl (rv_loadEl (u := .int .i64 ((useL (allI d).toNat rs).getD k 0)) rfl (by kernel_rfl) rfl (rd_row 0 rfl) (ints_at1 (show _ < (useL (allI d).toNat rs).length by first | omega | (simp only [List.length_set]; omega)))) ?_
  refine hl_v rfl rfl rfl (rv_ev rfl) ?_
  refine hl_v rfl rfl rfl (rv_ev rfl) ?_
  refine hl_less (sx 0 rfl (sx 1 rfl (sx 2 rfl (sx 4 rfl (sx 5 rfl (sx 6 rfl (sx 7 rfl (sx 11 rfl (sx 12 rfl (sx 13 rfl (sx 14 rfl (sub_nil _)))))))))))) (.refl _) ?_
  refine hl_nil ?_
  refine hq_then ?_
  refine hc_seq ?_
  refine hc_region ?_
  refine hl_v rfl rfl rfl (rv_ev rfl) ?_
  refine hl_gtr rfl rfl rfl rfl rfl rfl (fun h8 => ?_) (fun h8 => ?_)
  ·
   refine hl_less (sx 0 rfl (sx 1 rfl (sx 2 rfl (sx 4 rfl (sx 5 rfl (sx 6 rfl (sx 7 rfl (sx 11 rfl (sx 12 rfl (sx 13 rfl (sx 14 rfl (sx 19 rfl (sub_nil _))))))))))))) (.refl _) ?_
   refine hl_nil ?_
   refine hq_then ?_
   refine hc_true rfl ?_
   refine hc_region ?_
   refine hl_v rfl rfl rfl (rv_ev rfl) ?_
   refine hl_v rfl rfl rfl (rv_ev rfl) ?_
   refine hl_row rfl rfl rfl (rq_buildSlice (z := .int .i64 0) (s := 1) (cs := ([(k : Int)].map (Value.int .i64))) rfl Try.underlying30 (by kernel_rfl) (by decide) rfl (by kernel_rfl) rfl) ?_
   intro g9
   refine hl_append (i := 2) (z := .int .i64 0) (bytes := 8) (n' := (zs ++ ([(k : Int)])).length) (xs' := ((zs ++ ([(k : Int)])).map (Value.int .i64))) (L := fun v10 => [rowE 3 1 (.slice (some ⟨g9, 0, none⟩) 1 1) 1 ([(k : Int)].map (Value.int .i64)), rowE 3 1 v3 ((useL (allI d).toNat rs).length) ((useL (allI d).toNat rs).map (Value.int .i64)), rowE 3 1 v10 ((zs ++ ([(k : Int)])).length) ((zs ++ ([(k : Int)])).map (Value.int .i64)), boxE b1 #[.int .i64 d.W, .int .i64 d.H, .int .i64 d.T, .int .i64 d.R] 25]) rfl rfl rfl rfl Try.underlying30 (by kernel_rfl) (by kernel_rfl) rfl rfl rfl (rd_row 0 rfl) (ints_one _) (by first | omega | (simp; omega)) (len_app zs ([(k : Int)])) (ints_app zs ([(k : Int)])) (fun _ => rfl) ?_
   intro v10
   refine hl_v rfl rfl rfl (rv_ev rfl) ?_
   refine hl_less (sx 0 rfl (sx 1 rfl (sx 2 rfl (sx 4 rfl (sx 5 rfl (sx 6 rfl (sx 7 rfl (sx 11 rfl (sx 12 rfl (sx 13 rfl (sx 14 rfl (sx 19 rfl (sub_nil _))))))))))))) (.refl _) ?_
   refine hl_nil ?_
   refine hq_block_normal ?_
   refine hq_then ?_
   refine hc_region ?_
   refine hl_v rfl rfl rfl (rv_add rfl rfl rfl (by constructor <;> omega)) ?_
   refine hl_v rfl rfl rfl (rv_ev rfl) ?_
   refine hl_less (sx 0 rfl (sx 1 rfl (sx 2 rfl (sx 4 rfl (sx 5 rfl (sx 6 rfl (sx 7 rfl (sx 11 rfl (sx 12 rfl (sx 13 rfl (sx 14 rfl (sx 19 rfl (sub_nil _))))))))))))) (.refl _) ?_
   refine hl_nil ?_
   exact hq_round3 (k + 1) v10 (zs ++ ([(k : Int)])) ⟨by omega, by rw [hz]; exact ov_yes (by omega)⟩ (by omega) (sx 0 rfl (sx 1 rfl (sx 2 rfl (sx 4 rfl (sx 5 rfl (sx 11 rfl (sx 12 rfl (sx 13 rfl (sub_nil _))))))))) ((.cons _ (.cons_cons _ (.cons_cons _ (.cons_cons _ .slnil)))))
  ·
   refine hl_less (sx 0 rfl (sx 1 rfl (sx 2 rfl (sx 4 rfl (sx 5 rfl (sx 6 rfl (sx 7 rfl (sx 11 rfl (sx 12 rfl (sx 13 rfl (sx 14 rfl (sx 19 rfl (sub_nil _))))))))))))) (.refl _) ?_
   refine hl_nil ?_
   refine hq_then ?_
   refine hc_false rfl ?_
   refine hc_skip ?_
   refine hq_block_normal ?_
   refine hq_then ?_
   refine hc_region ?_
   refine hl_v rfl rfl rfl (rv_add rfl rfl rfl (by constructor <;> omega)) ?_
   refine hl_v rfl rfl rfl (rv_ev rfl) ?_
   refine hl_less (sx 0 rfl (sx 1 rfl (sx 2 rfl (sx 4 rfl (sx 5 rfl (sx 6 rfl (sx 7 rfl (sx 11 rfl (sx 12 rfl (sx 13 rfl (sx 14 rfl (sx 19 rfl (sub_nil _))))))))))))) (.refl _) ?_
   refine hl_nil ?_
   exact hq_round3 (k + 1) u zs ⟨by omega, by rw [hz]; exact ov_no (by omega)⟩ (by omega) (sx 0 rfl (sx 1 rfl (sx 2 rfl (sx 4 rfl (sx 5 rfl (sx 11 rfl (sx 12 rfl (sx 13 rfl (sub_nil _))))))))) ((.cons_cons _ (.cons_cons _ (.cons_cons _ .slnil))))
 ·
  refine hl_less (sx 0 rfl (sx 1 rfl (sx 2 rfl (sx 4 rfl (sx 5 rfl (sx 11 rfl (sx 12 rfl (sx 13 rfl (sx 14 rfl (sub_nil _)))))))))) (.refl _) ?_
  refine hl_nil ?_
  refine hq_then ?_
  refine hc_seq ?_
  refine hc_false rfl ?_
  refine hc_exit ?_
  refine hq_then_exit ?_
  refine hq_then_exit ?_
  refine hq_block_exit ?_
  refine hq_then ?_
  refine hc_seq ?_
  refine hc_region ?_
  refine hl_v rfl rfl rfl (rv_ev rfl) ?_
  refine hl_v rfl rfl rfl (rv_ev rfl) ?_
  refine hl_less (sx 0 rfl (sx 1 rfl (sx 2 rfl (sx 4 rfl (sx 5 rfl (sx 11 rfl (sx 12 rfl (sx 13 rfl (sx 14 rfl (sub_nil _)))))))))) (.refl _) ?_
  refine hl_nil ?_
  refine hq_then ?_
  refine hc_ret ?_
  exact hq_retR (post := [rowE 3 1 u zs.length (zs.map (Value.int .i64))]) rfl rfl ((.cons _ (.cons_cons _ (.cons _ .slnil)))) (by rw [hz, show k = (allI d).toNat by omega])
set_option maxHeartbeats 4000000 in
set_option maxRecDepth 100000 in
theorem sharedCosts_ret (hs us : List Int) (hv uv : Value) (p : Int) (w : World) (hh : RdsW w hv 1 hs.length (hs.map (Value.int .i64))) (hlen : hs.length ≤ 100000) (hrg : ∀ i, i < hs.length → 0 ≤ hs.getD i 0 ∧ hs.getD i 0 ≤ 100000) (hu : RdsW w uv 1 us.length (us.map (Value.int .i64))) (hul : us.length = hs.length) (hur : ∀ i, i < us.length → 0 ≤ us.getD i 0 ∧ us.getD i 0 ≤ 1000) (hp : 0 ≤ p ∧ p ≤ 100000) :
  Calls Try.prog 112 #[hv, uv, .int .i64 p] w (Ret w (fun v' post => post = [rowE 3 1 v' (shL hs us p hs.length).length ((shL hs us p hs.length).map (Value.int .i64))])) := by
 refine calls_hc (N := 32) (args := [hv, uv, .int .i64 p]) Try.func112 rfl rfl ?_
 refine hc_less _ (sx 0 rfl (sx 1 rfl (sx 2 rfl (sub_nil _)))) (.refl _) ?_
 refine hc_seq ?_
 refine hc_region ?_
 refine hl_v rfl rfl rfl (rv_ev rfl) ?_
 refine hl_less (sx 0 rfl (sx 1 rfl (sx 2 rfl (sx 6 rfl (sub_nil _))))) (.refl _) ?_
 refine hl_nil ?_
 refine hq_then ?_
 refine hc_seq ?_
 refine hc_region ?_
 refine hl_nilRow 3 1 ?_
 refine hl_v rfl rfl rfl (rv_ev rfl) ?_
 refine hl_less (sx 0 rfl (sx 1 rfl (sx 2 rfl (sx 6 rfl (sx 7 rfl (sub_nil _)))))) (.refl _) ?_
 refine hl_nil ?_
 refine hq_then ?_
 refine hc_seq ?_
 refine hc_seq ?_
 refine hc_region ?_
 refine hl_v rfl rfl rfl (rv_ev rfl) ?_
 refine hl_v rfl rfl rfl (rv_len rfl Try.underlying30 rfl (rd_old hh)) ?_
 refine hl_v rfl rfl rfl (rv_ev rfl) ?_
 refine hl_less (sx 0 rfl (sx 1 rfl (sx 2 rfl (sx 6 rfl (sx 7 rfl (sx 10 rfl (sx 11 rfl (sx 12 rfl (sub_nil _))))))))) (.refl _) ?_
 refine hl_nil ?_
 refine hq_then ?_
 refine hc_block ?_
 refine hc_loop3 (α := Nat) (β := Value) (γ := List Int) (fun k u zs => [rowE 3 1 u zs.length (zs.map (Value.int .i64))]) (fun k u zs => [(0, hv), (1, uv), (2, .int .i64 p), (6, .slice none 0 0), (7, u), (10, hv), (11, .int .i64 (hs.length : Int)), (12, .int .i64 (k : Int))]) (fun k u zs => k ≤ hs.length ∧ zs = shL hs us p k) (fun k u zs => hs.length - k) 0 _ [] ⟨by omega, rfl⟩ (sx 0 rfl (sx 1 rfl (sx 2 rfl (sx 6 rfl (sx 7 rfl (sx 10 rfl (sx 11 rfl (sx 12 rfl (sub_nil _))))))))) ((.cons_cons _ .slnil)) ?_
 intro k u zs hi2
 obtain ⟨hk, hz⟩ := hi2
 have hzl : zs.length = k := by rw [hz, sh_len]
 refine hc_seq ?_
 refine hc_region ?_
 refine hl_lss rfl rfl rfl rfl rfl rfl (fun h3 => ?_) (fun h3 => ?_)
 ·
  refine hl_less (sx 0 rfl (sx 1 rfl (sx 2 rfl (sx 6 rfl (sx 7 rfl (sx 10 rfl (sx 11 rfl (sx 12 rfl (sx 13 rfl (sub_nil _)))))))))) (.refl _) ?_
  refine hl_nil ?_
  refine hq_then ?_
  refine hc_seq ?_
  refine hc_true rfl ?_
  refine hc_skip ?_
  refine hq_then ?_
  refine hc_seq ?_
  refine hc_block ?_
  refine hc_seq ?_
  refine hc_region ?_
  refine hl_v rfl rfl rfl (rv_ev rfl) ?_
  refine hl_v rfl rfl rfl (rv_index (s := 1) rfl Try.underlying30 (by kernel_rfl) rfl rfl (rd_old hh) (by omega) (by first | omega | (simp only [List.length_set]; omega))) ?_
  refine hl_v rfl rfl rfl (rv_loadEl (u := .int .i64 (hs.getD k 0)) rfl (by kernel_rfl) rfl (rd_old hh) (ints_at1 (show _ < hs.length by first | omega | (simp only [List.length_set]; omega)))) ?_
  refine hl_v rfl rfl rfl (rv_ev rfl) ?_
  refine hl_v rfl rfl rfl (rv_ev rfl) ?_
  refine hl_less (sx 0 rfl (sx 1 rfl (sx 2 rfl (sx 6 rfl (sx 7 rfl (sx 8 rfl (sx 9 rfl (sx 10 rfl (sx 11 rfl (sx 12 rfl (sx 13 rfl (sub_nil _)))))))))))) (.refl _) ?_
  refine hl_nil ?_
  refine hq_then ?_
  refine hc_region ?_
  refine hl_v rfl rfl rfl (rv_ev rfl) ?_
  refine hl_v rfl rfl rfl (rv_ev rfl) ?_
  have hr1 := hrg k (by omega)
  have hr2 := hur k (by omega)
  have hr3 : 0 ≤ p * us.getD k 0 ∧ p * us.getD k 0 ≤ 100000000 := ⟨Int.mul_nonneg hp.1 hr2.1, Int.le_trans (Int.mul_le_mul hp.2 hr2.2 hr2.1 (by omega)) (by omega)⟩
  refine hl_v rfl rfl rfl (rv_add rfl rfl rfl (by constructor <;> omega)) ?_
  refine hl_v rfl rfl rfl (rv_ev rfl) ?_
  refine hl_v rfl rfl rfl (rv_ev rfl) ?_
  refine hl_v rfl rfl rfl (rv_ev rfl) ?_
  refine hl_v rfl rfl rfl (rv_index (s := 1) rfl Try.underlying30 (by kernel_rfl) rfl rfl (rd_old hu) (by omega) (by first | omega | (simp only [List.length_set]; omega))) ?_
  refine hl_v rfl rfl rfl (rv_loadEl (u := .int .i64 (us.getD k 0)) rfl (by kernel_rfl) rfl (rd_old hu) (ints_at1 (show _ < us.length by first | omega | (simp only [List.length_set]; omega)))) ?_
  refine hl_v rfl rfl rfl (rv_mul rfl rfl rfl (by constructor <;> omega)) ?_
  refine hl_v rfl rfl rfl (rv_add rfl rfl rfl (by constructor <;> omega)) ?_
  refine hl_v rfl rfl rfl (rv_min rfl rfl rfl) ?_
  refine hl_row rfl rfl rfl (rq_buildSlice (z := .int .i64 0) (s := 1) (cs := ([if (10 + (hs.getD k 0)) + (p * (us.getD k 0)) < 100000 then (10 + (hs.getD k 0)) + (p * (us.getD k 0)) else 100000].map (Value.int .i64))) rfl Try.underlying30 (by kernel_rfl) (by decide) rfl (by kernel_rfl) rfl) ?_
  intro g4
  refine hl_append (i := 1) (z := .int .i64 0) (bytes := 8) (n' := (zs ++ ([if (10 + (hs.getD k 0)) + (p * (us.getD k 0)) < 100000 then (10 + (hs.getD k 0)) + (p * (us.getD k 0)) else 100000])).length) (xs' := ((zs ++ ([if (10 + (hs.getD k 0)) + (p * (us.getD k 0)) < 100000 then (10 + (hs.getD k 0)) + (p * (us.getD k 0)) else 100000])).map (Value.int .i64))) (L := fun v5 => [rowE 3 1 (.slice (some ⟨g4, 0, none⟩) 1 1) 1 ([if (10 + (hs.getD k 0)) + (p * (us.getD k 0)) < 100000 then (10 + (hs.getD k 0)) + (p * (us.getD k 0)) else 100000].map (Value.int .i64)), rowE 3 1 v5 ((zs ++ ([if (10 + (hs.getD k 0)) + (p * (us.getD k 0)) < 100000 then (10 + (hs.getD k 0)) + (p * (us.getD k 0)) else 100000])).length) ((zs ++ ([if (10 + (hs.getD k 0)) + (p * (us.getD k 0)) < 100000 then (10 + (hs.getD k 0)) + (p * (us.getD k 0)) else 100000])).map (Value.int .i64))]) rfl rfl rfl rfl Try.underlying30 (by kernel_rfl) (by kernel_rfl) rfl rfl rfl (rd_row 0 rfl) (ints_one _) (by first | omega | (simp; omega)) (len_app zs ([if (10 + (hs.getD k 0)) + (p * (us.getD k 0)) < 100000 then (10 + (hs.getD k 0)) + (p * (us.getD k 0)) else 100000])) (ints_app zs ([if (10 + (hs.getD k 0)) + (p * (us.getD k 0)) < 100000 then (10 + (hs.getD k 0)) + (p * (us.getD k 0)) else 100000])) (fun _ => rfl) ?_
  intro v5
  refine hl_v rfl rfl rfl (rv_ev rfl) ?_
  refine hl_less (sx 0 rfl (sx 1 rfl (sx 2 rfl (sx 6 rfl (sx 7 rfl (sx 8 rfl (sx 9 rfl (sx 10 rfl (sx 11 rfl (sx 12 rfl (sx 13 rfl (sub_nil _)))))))))))) (.refl _) ?_
  refine hl_nil ?_
  refine hq_block_normal ?_
  refine hq_then ?_
  refine hc_region ?_
  refine hl_v rfl rfl rfl (rv_add rfl rfl rfl (by constructor <;> omega)) ?_
  refine hl_v rfl rfl rfl (rv_ev rfl) ?_
  refine hl_less (sx 0 rfl (sx 1 rfl (sx 2 rfl (sx 6 rfl (sx 7 rfl (sx 8 rfl (sx 9 rfl (sx 10 rfl (sx 11 rfl (sx 12 rfl (sx 13 rfl (sub_nil _)))))))))))) (.refl _) ?_
  refine hl_nil ?_
  exact hq_round3 (k + 1) v5 (zs ++ ([if (10 + (hs.getD k 0)) + (p * (us.getD k 0)) < 100000 then (10 + (hs.getD k 0)) + (p * (us.getD k 0)) else 100000])) ⟨by omega, by rw [hz]; exact sh_step _ _ _ _ rfl⟩ (by omega) (sx 0 rfl (sx 1 rfl (sx 2 rfl (sx 6 rfl (sx 7 rfl (sx 10 rfl (sx 11 rfl (sx 12 rfl (sub_nil _))))))))) ((.cons _ (.cons_cons _ .slnil)))
 ·
  refine hl_less (sx 0 rfl (sx 1 rfl (sx 2 rfl (sx 6 rfl (sx 7 rfl (sx 10 rfl (sx 11 rfl (sx 12 rfl (sx 13 rfl (sub_nil _)))))))))) (.refl _) ?_
  refine hl_nil ?_
  refine hq_then ?_
  refine hc_seq ?_
  refine hc_false rfl ?_
  refine hc_exit ?_
  refine hq_then_exit ?_
  refine hq_then_exit ?_
  refine hq_block_exit ?_
  refine hq_then ?_
  refine hc_seq ?_
  refine hc_region ?_
  refine hl_v rfl rfl rfl (rv_ev rfl) ?_
  refine hl_v rfl rfl rfl (rv_ev rfl) ?_
  refine hl_less (sx 0 rfl (sx 1 rfl (sx 2 rfl (sx 6 rfl (sx 7 rfl (sx 10 rfl (sx 11 rfl (sx 12 rfl (sx 13 rfl (sub_nil _)))))))))) (.refl _) ?_
  refine hl_nil ?_
  refine hq_then ?_
  refine hc_ret ?_
  exact hq_retR (post := [rowE 3 1 u zs.length (zs.map (Value.int .i64))]) rfl rfl ((.cons_cons _ .slnil)) (by rw [hz, show k = hs.length by omega])
set_option maxHeartbeats 4000000 in
set_option maxRecDepth 100000 in
theorem implrouteNodes_yes (d : Dev) (w : World) (hd : devB d = true) :
  Calls Try.prog 89 #[.agg #[.int .i64 d.W, .int .i64 d.H, .int .i64 d.T, .int .i64 d.R]] w (Ans w (.int .i64 (allI d))) := by
 obtain ⟨q1, q2⟩ := per_rng hd
 obtain ⟨ra1, ra2⟩ := all_rng hd
 obtain ⟨ar1, ar2⟩ := area_le hd
 obtain ⟨⟨dw1, dw2⟩, ⟨dh1, dh2⟩, ⟨l1, l2⟩, -⟩ := (devB_iff d).1 hd
 have hall : allI d = d.W * d.H * perI d := rfl
 rw [hall] at ra1 ra2
 refine calls_hc (N := 11) (args := [.agg #[.int .i64 d.W, .int .i64 d.H, .int .i64 d.T, .int .i64 d.R]]) Try.func89 rfl rfl ?_
 refine hc_less _ (sx 0 rfl (sub_nil _)) (.refl _) ?_
 refine hc_seq ?_
 refine hc_region ?_
 refine hl_box rfl rfl rfl (rq_box rfl rfl) ?_
 intro b1
 refine hl_v rfl rfl rfl (rv_ev rfl) ?_
 refine hl_less (sx 0 rfl (sx 1 rfl (sx 2 rfl (sub_nil _)))) (.refl _) ?_
 refine hl_nil ?_
 refine hq_then ?_
 refine hc_seq ?_
 refine hc_draw (by kernel_rfl) 8 [0, 1, 2, 3, 4, 5, 6, 7] (List.take 8 _) (List.drop 8 _) [[], [0], [], [2], [1, 3], [], [5], [4, 6]] [3, 4, 5, 6, 7, 8, 9, 10] (fun i_ vs_ v_ p_ => match i_ with | 0 => v_ = .pointer (some ⟨b1, 0 + 0, none⟩) ∧ p_ = [] | 1 => v_ = .int .i64 d.W ∧ p_ = [] | 2 => v_ = .pointer (some ⟨b1, 0 + 1, none⟩) ∧ p_ = [] | 3 => v_ = .int .i64 d.H ∧ p_ = [] | 4 => v_ = .int .i64 (d.W * d.H) ∧ p_ = [] | 5 => v_ = .agg #[.int .i64 d.W, .int .i64 d.H, .int .i64 d.T, .int .i64 d.R] ∧ p_ = [] | 6 => v_ = .int .i64 (perI d) ∧ p_ = [] | 7 => v_ = .int .i64 ((d.W * d.H) * (perI d)) ∧ p_ = [] | _ => True) (List.take_append_drop 8 _).symm (by kernel_rfl) (by kernel_rfl) rfl rfl ?_ ?_
 ·
  refine ⟨?_, ?_, ?_, ?_, ?_, ?_, ?_, ?_, trivial⟩
  ·
   intro vf pf hR
   refine Or.inl ⟨rfl, ?_⟩
   refine rq_less (sx 1 rfl (sub_nil _)) (List.sublist_append_right _ _) ?_
   exact rq_v (rv_field (k0 := 0) rfl (by kernel_rfl) rfl)
  ·
   intro vf pf hR
   have e0 : (vf 0) = .pointer (some ⟨b1, 0 + 0, none⟩) ∧ (pf 0) = [] := hR 0 (by decide)
   refine Or.inl ⟨rfl, ?_⟩
   refine rq_less (sx 3 (congrArg some e0.1) (sub_nil _)) (List.sublist_append_right _ _) ?_
   exact rq_v (rv_load rfl (by kernel_rfl) rfl (box_cell 0 rfl rfl))
  ·
   intro vf pf hR
   refine Or.inl ⟨rfl, ?_⟩
   refine rq_less (sx 1 rfl (sub_nil _)) (List.sublist_append_right _ _) ?_
   exact rq_v (rv_field (k0 := 1) rfl (by kernel_rfl) rfl)
  ·
   intro vf pf hR
   have e2 : (vf 2) = .pointer (some ⟨b1, 0 + 1, none⟩) ∧ (pf 2) = [] := hR 2 (by decide)
   refine Or.inl ⟨rfl, ?_⟩
   refine rq_less (sx 5 (congrArg some e2.1) (sub_nil _)) (List.sublist_append_right _ _) ?_
   exact rq_v (rv_load rfl (by kernel_rfl) rfl (box_cell 0 rfl rfl))
  ·
   intro vf pf hR
   have e1 : (vf 1) = .int .i64 d.W ∧ (pf 1) = [] := hR 1 (by decide)
   have e3 : (vf 3) = .int .i64 d.H ∧ (pf 3) = [] := hR 3 (by decide)
   refine Or.inl ⟨rfl, ?_⟩
   refine rq_less (sx 4 (congrArg some e1.1) (sx 6 (congrArg some e3.1) (sub_nil _))) (List.sublist_append_right _ _) ?_
   exact rq_v (rv_mul rfl rfl rfl (by constructor <;> omega))
  ·
   intro vf pf hR
   refine Or.inl ⟨rfl, ?_⟩
   refine rq_less (sx 1 rfl (sub_nil _)) (List.sublist_append_right _ _) ?_
   exact rq_v (rv_loadN (cs := [.int .i64 d.W, .int .i64 d.H, .int .i64 d.T, .int .i64 d.R]) rfl (by kernel_rfl) (by kernel_rfl) rfl rfl (box_part 0 rfl 0 rfl))
  ·
   intro vf pf hR
   have e5 : (vf 5) = .agg #[.int .i64 d.W, .int .i64 d.H, .int .i64 d.T, .int .i64 d.R] ∧ (pf 5) = [] := hR 5 (by decide)
   refine Or.inl ⟨rfl, ?_⟩
   refine rq_less (sx 8 (congrArg some e5.1) (sub_nil _)) (List.sublist_append_right _ _) ?_
   exact (rq_call (by kernel_rfl) rfl (fun w hm => ret_ans (implPer_any d hd w)))
  ·
   intro vf pf hR
   have e4 : (vf 4) = .int .i64 (d.W * d.H) ∧ (pf 4) = [] := hR 4 (by decide)
   have e6 : (vf 6) = .int .i64 (perI d) ∧ (pf 6) = [] := hR 6 (by decide)
   refine Or.inl ⟨rfl, ?_⟩
   refine rq_less (sx 7 (congrArg some e4.1) (sx 9 (congrArg some e6.1) (sub_nil _))) (List.sublist_append_right _ _) ?_
   exact rq_v (rv_mul rfl rfl rfl (by constructor <;> omega))
 ·
  intro vf pf hR
  have e7 : (vf 7) = .int .i64 ((d.W * d.H) * (perI d)) ∧ (pf 7) = [] := hR 7 (by decide)
  refine hl_less (l' := [boxE b1 #[.int .i64 d.W, .int .i64 d.H, .int .i64 d.T, .int .i64 d.R] 25]) (sx 0 rfl (sx 1 rfl (sx 2 rfl (sx 10 (congrArg some e7.1) (sub_nil _))))) (List.sublist_append_right _ _) ?_
  simp only [List.drop_succ_cons, List.drop_zero]
  refine hl_v rfl rfl rfl (rv_ev rfl) ?_
  refine hl_less (sx 0 rfl (sx 1 rfl (sx 2 rfl (sub_nil _)))) (.refl _) ?_
  refine hl_nil ?_
  refine hq_then ?_
  refine hc_ret ?_
  exact hq_ans rfl rfl rfl
set_option maxHeartbeats 4000000 in
set_option maxRecDepth 100000 in
theorem SharedCosts_ret (d : Dev) (hs : List Int) (hv : Value) (rs : List Rt) (v : Value) (p : Int) (w : World) (hd : devB d = true) (hh : RdsW w hv 1 hs.length (hs.map (Value.int .i64))) (hln : (hs.length : Int) = allI d) (hrg : ∀ i, i < hs.length → 0 ≤ hs.getD i 0 ∧ hs.getD i 0 ≤ 100000) (hv2 : RdsRt w v rs) (hl : rs.length ≤ 100) (hr : ∀ k, k < rs.length → NsOk (allI d).toNat (rs.getD k rt0).ns) (hp : 0 ≤ p ∧ p ≤ 100000) :
  Calls Try.prog 57 #[.agg #[.int .i64 d.W, .int .i64 d.H, .int .i64 d.T, .int .i64 d.R], hv, v, .int .i64 p] w (Ret w (fun v' post => post = [rowE 3 1 v' (shL hs (useL (allI d).toNat rs) p hs.length).length ((shL hs (useL (allI d).toNat rs) p hs.length).map (Value.int .i64))])) := by
 obtain ⟨ra1, ra2⟩ := all_rng hd
 have hul := use_len (allI d).toNat rs
 have hub := use_bnd (allI d).toNat rs
 have hlen : hs.length ≤ 100000 := by omega
 refine calls_hc (N := 48) (args := [.agg #[.int .i64 d.W, .int .i64 d.H, .int .i64 d.T, .int .i64 d.R], hv, v, .int .i64 p]) Try.func57 rfl rfl ?_
 refine hc_less _ (sx 0 rfl (sx 1 rfl (sx 2 rfl (sx 3 rfl (sub_nil _))))) (.refl _) ?_
 refine hc_seq ?_
 refine hc_region ?_
 refine hl_box rfl rfl rfl (rq_box rfl rfl) ?_
 intro b1
 refine hl_v rfl rfl rfl (rv_ev rfl) ?_
 refine hl_less (sx 0 rfl (sx 1 rfl (sx 2 rfl (sx 3 rfl (sx 4 rfl (sx 8 rfl (sub_nil _))))))) (.refl _) ?_
 refine hl_nil ?_
 refine hq_then ?_
 refine hc_seq ?_
 refine hc_seq ?_
 refine hc_region ?_
 refine hl_v rfl rfl rfl (rv_loadN (cs := [.int .i64 d.W, .int .i64 d.H, .int .i64 d.T, .int .i64 d.R]) rfl (by kernel_rfl) (by kernel_rfl) rfl rfl (box_part 0 rfl 0 rfl)) ?_
 refine hl_callV rfl rfl rfl (rq_call (by kernel_rfl) rfl (fun w hm => ret_ans (implDeviceOk_any d w))) ?_
 refine hl_bool (fun h2 => ?_) (fun h2 => absurd ((hd).symm.trans h2) (by decide))
 refine hl_v rfl rfl rfl (rv_ev rfl) ?_
 refine hl_v rfl rfl rfl (rv_ev rfl) ?_
 refine hl_v rfl rfl rfl (rv_ev rfl) ?_
 refine hl_v rfl rfl rfl (rv_len rfl Try.underlying68 rfl (rd_old hv2.row)) ?_
 refine hl_gtr rfl rfl rfl rfl rfl rfl (fun h3 => absurd h3 (by omega)) (fun h3 => ?_)
 refine hl_v rfl rfl rfl (rv_ev rfl) ?_
 refine hl_v rfl rfl rfl (rv_ev rfl) ?_
 refine hl_v rfl rfl rfl (rv_ev rfl) ?_
 refine hl_v rfl rfl rfl (rv_len rfl Try.underlying30 rfl (rd_old hh)) ?_
 refine hl_v rfl rfl rfl (rv_loadN (cs := [.int .i64 d.W, .int .i64 d.H, .int .i64 d.T, .int .i64 d.R]) rfl (by kernel_rfl) (by kernel_rfl) rfl rfl (box_part 0 rfl 0 rfl)) ?_
 refine hl_callV rfl rfl rfl (rq_call (by kernel_rfl) rfl (fun w hm => ret_ans (implrouteNodes_yes d w hd))) ?_
 refine hl_neq rfl rfl rfl rfl rfl rfl (fun h4 => absurd h4 (by omega)) (fun h4 => ?_)
 refine hl_v rfl rfl rfl (rv_ev rfl) ?_
 refine hl_v rfl rfl rfl (rv_ev rfl) ?_
 refine hl_v rfl rfl rfl (rv_ev rfl) ?_
 refine hl_callV rfl rfl rfl (rq_call (by kernel_rfl) rfl (fun w hm => ret_ans (ans_of (inRange_any _ _ _ w)))) ?_
 refine hl_bool (fun h5 => ?_) (fun h5 => absurd (((inr_in (by first | omega | exact hrg k (by omega)))).symm.trans h5) (by decide))
 refine hl_v rfl rfl rfl (rv_ev rfl) ?_
 refine hl_v rfl rfl rfl (rv_ev rfl) ?_
 refine hl_less (sx 0 rfl (sx 1 rfl (sx 2 rfl (sx 3 rfl (sx 4 rfl (sx 8 rfl (sx 30 rfl (sub_nil _)))))))) (.refl _) ?_
 refine hl_nil ?_
 refine hq_then ?_
 refine hc_false rfl ?_
 refine hc_skip ?_
 refine hq_then ?_
 refine hc_seq ?_
 refine hc_seq ?_
 refine hc_region ?_
 refine hl_v rfl rfl rfl (rv_ev rfl) ?_
 refine hl_v rfl rfl rfl (rv_len rfl Try.underlying30 rfl (rd_old hh)) ?_
 refine hl_v rfl rfl rfl (rv_ev rfl) ?_
 refine hl_less (sx 0 rfl (sx 1 rfl (sx 2 rfl (sx 3 rfl (sx 4 rfl (sx 8 rfl (sx 30 rfl (sx 31 rfl (sx 32 rfl (sx 33 rfl (sub_nil _))))))))))) (.refl _) ?_
 refine hl_nil ?_
 refine hq_then ?_
 refine hc_block ?_
 refine hc_loop1 (α := Nat) (fun k => [boxE b1 #[.int .i64 d.W, .int .i64 d.H, .int .i64 d.T, .int .i64 d.R] 25]) (fun k => [(0, .agg #[.int .i64 d.W, .int .i64 d.H, .int .i64 d.T, .int .i64 d.R]), (1, hv), (2, v), (3, .int .i64 p), (4, .pointer (some ⟨b1, 0, none⟩)), (8, .slice none 0 0), (30, .bool false), (31, hv), (32, .int .i64 (hs.length : Int)), (33, .int .i64 (k : Int))]) (fun k => k ≤ hs.length) (fun k => hs.length - k) 0 (by omega) (sx 0 rfl (sx 1 rfl (sx 2 rfl (sx 3 rfl (sx 4 rfl (sx 8 rfl (sx 30 rfl (sx 31 rfl (sx 32 rfl (sx 33 rfl (sub_nil _))))))))))) ((.cons_cons _ .slnil)) ?_
 intro k hi6
 have hk := hi6
 refine hc_seq ?_
 refine hc_region ?_
 refine hl_lss rfl rfl rfl rfl rfl rfl (fun h7 => ?_) (fun h7 => ?_)
 ·
  refine hl_less (sx 0 rfl (sx 1 rfl (sx 2 rfl (sx 3 rfl (sx 4 rfl (sx 8 rfl (sx 30 rfl (sx 31 rfl (sx 32 rfl (sx 33 rfl (sx 34 rfl (sub_nil _)))))))))))) (.refl _) ?_
  refine hl_nil ?_
  refine hq_then ?_
  refine hc_seq ?_
  refine hc_true rfl ?_
  refine hc_skip ?_
  refine hq_then ?_
  refine hc_seq ?_
  refine hc_block ?_
  refine hc_seq ?_
  refine hc_region ?_
  refine hl_v rfl rfl rfl (rv_index (s := 1) rfl Try.underlying30 (by kernel_rfl) rfl rfl (rd_old hh) (by omega) (by first | omega | (simp only [List.length_set]; omega))) ?_
  refine hl_v rfl rfl rfl (rv_loadEl (u := .int .i64 (hs.getD k 0)) rfl (by kernel_rfl) rfl (rd_old hh) (ints_at1 (show _ < hs.length by first | omega | (simp only [List.length_set]; omega)))) ?_
  refine hl_v rfl rfl rfl (rv_ev rfl) ?_
  refine hl_less (sx 0 rfl (sx 1 rfl (sx 2 rfl (sx 3 rfl (sx 4 rfl (sx 8 rfl (sx 10 rfl (sx 30 rfl (sx 31 rfl (sx 32 rfl (sx 33 rfl (sx 34 rfl (sub_nil _))))))))))))) (.refl _) ?_
  refine hl_nil ?_
  refine hq_then ?_
  refine hc_seq ?_
  refine hc_region ?_
  refine hl_v rfl rfl rfl (rv_ev rfl) ?_
  refine hl_callV rfl rfl rfl (rq_call (by kernel_rfl) rfl (fun w hm => ret_ans (ans_of (inRange_any _ _ _ w)))) ?_
  refine hl_bool (fun h8 => ?_) (fun h8 => absurd (((inr_in (by first | omega | exact hrg k (by omega)))).symm.trans h8) (by decide))
  refine hl_v rfl rfl rfl (rv_ev rfl) ?_
  refine hl_less (sx 0 rfl (sx 1 rfl (sx 2 rfl (sx 3 rfl (sx 4 rfl (sx 8 rfl (sx 10 rfl (sx 30 rfl (sx 31 rfl (sx 32 rfl (sx 33 rfl (sx 34 rfl (sx 39 rfl (sub_nil _)))))))))))))) (.refl _) ?_
  refine hl_nil ?_
  refine hq_then ?_
  refine hc_false rfl ?_
  refine hc_skip ?_
  refine hq_block_normal ?_
  refine hq_then ?_
  refine hc_region ?_
  refine hl_v rfl rfl rfl (rv_add rfl rfl rfl (by constructor <;> omega)) ?_
  refine hl_v rfl rfl rfl (rv_ev rfl) ?_
  refine hl_less (sx 0 rfl (sx 1 rfl (sx 2 rfl (sx 3 rfl (sx 4 rfl (sx 8 rfl (sx 10 rfl (sx 30 rfl (sx 31 rfl (sx 32 rfl (sx 33 rfl (sx 34 rfl (sx 39 rfl (sub_nil _)))))))))))))) (.refl _) ?_
  refine hl_nil ?_
  exact hq_round1 (k + 1) (by omega) (by omega) (sx 0 rfl (sx 1 rfl (sx 2 rfl (sx 3 rfl (sx 4 rfl (sx 8 rfl (sx 30 rfl (sx 31 rfl (sx 32 rfl (sx 33 rfl (sub_nil _))))))))))) ((.cons_cons _ .slnil))
 ·
  refine hl_less (sx 0 rfl (sx 1 rfl (sx 2 rfl (sx 3 rfl (sx 4 rfl (sx 8 rfl (sx 30 rfl (sx 31 rfl (sx 32 rfl (sx 33 rfl (sx 34 rfl (sub_nil _)))))))))))) (.refl _) ?_
  refine hl_nil ?_
  refine hq_then ?_
  refine hc_seq ?_
  refine hc_false rfl ?_
  refine hc_exit ?_
  refine hq_then_exit ?_
  refine hq_then_exit ?_
  refine hq_block_exit ?_
  refine hq_then ?_
  refine hc_seq ?_
  refine hc_region ?_
  refine hl_v rfl rfl rfl (rv_ev rfl) ?_
  refine hl_v rfl rfl rfl (rv_loadN (cs := [.int .i64 d.W, .int .i64 d.H, .int .i64 d.T, .int .i64 d.R]) rfl (by kernel_rfl) (by kernel_rfl) rfl rfl (box_part 0 rfl 0 rfl)) ?_
  refine hl_callV rfl rfl rfl (rq_call (by kernel_rfl) rfl (fun w hm => ret_ans (implrouteNodes_yes d w hd))) ?_
  refine hl_v rfl rfl rfl (rv_ev rfl) ?_
  refine hl_q rfl rfl rfl (rq_call (by kernel_rfl) rfl (fun w hm => usage_ret (allI d) rs v w (by omega) (hv2.below hm.bel) (by omega) hr)) ?_
  intro v9 p10 hR11
  subst hR11
  refine hl_v rfl rfl rfl (rv_ev rfl) ?_
  refine hl_q rfl rfl rfl (rq_call (by kernel_rfl) rfl (fun w hm => sharedCosts_ret hs _ _ _ p w (hh.below hm.bel) hlen hrg (rd_row 0 rfl w hm) (by rw [use_len]; omega) (fun i hi => by have := use_bnd _ rs i hi; omega) hp)) ?_
  intro v12 p13 hR14
  subst hR14
  refine hl_v rfl rfl rfl (rv_ev rfl) ?_
  refine hl_less (sx 0 rfl (sx 1 rfl (sx 2 rfl (sx 3 rfl (sx 4 rfl (sx 8 rfl (sx 30 rfl (sx 31 rfl (sx 32 rfl (sx 33 rfl (sx 34 rfl (sub_nil _)))))))))))) (.refl _) ?_
  refine hl_nil ?_
  refine hq_then ?_
  refine hc_ret ?_
  exact hq_retR (post := [rowE 3 1 v12 ((shL hs (useL (allI d).toNat rs) p hs.length).length) ((shL hs (useL (allI d).toNat rs) p hs.length).map (Value.int .i64))]) rfl rfl ((.cons_cons _ (.cons _ (.cons _ .slnil)))) rfl
theorem hq_one {N : Nat} {w0 : World} {l : List HP} {env : List (Nat × Value)} {Q : Post} {ex : Exit} {i e s n : Nat} {v : Value} {xs : List Value} (hi : l[i]? = some (rowE e s v n xs)) (k : v.oneCell' = true → HQ N w0 l env ex Q) : HQ N w0 l env ex Q := fun a w st => k (rdsW_own (st.mem.holds _ (mem_at hi))).one a w st
set_option maxHeartbeats 4000000 in
set_option maxRecDepth 100000 in
theorem l13Has_ans (xs : List Int) (x : Int) (v : Value) (w : World) (hv : RdsW w v 1 xs.length (xs.map (Value.int .i64))) (hlen : xs.length ≤ 1000000000) :
  Calls Try.prog 135 #[v, .int .i64 x] w (Ans w (.bool (hasB xs x))) := by
 refine calls_hc (N := 18) (args := [v, .int .i64 x]) Try.func135 rfl rfl ?_
 refine hc_less _ (sx 0 rfl (sx 1 rfl (sub_nil _))) (.refl _) ?_
 refine hc_seq ?_
 refine hc_region ?_
 refine hl_v rfl rfl rfl (rv_ev rfl) ?_
 refine hl_less (sx 0 rfl (sx 1 rfl (sx 4 rfl (sub_nil _)))) (.refl _) ?_
 refine hl_nil ?_
 refine hq_then ?_
 refine hc_seq ?_
 refine hc_seq ?_
 refine hc_region ?_
 refine hl_v rfl rfl rfl (rv_ev rfl) ?_
 refine hl_less (sx 0 rfl (sx 1 rfl (sx 4 rfl (sx 5 rfl (sub_nil _))))) (.refl _) ?_
 refine hl_nil ?_
 refine hq_then ?_
 refine hc_block ?_
 refine hc_loop1 (α := Nat) (fun j => []) (fun j => [(0, v), (1, .int .i64 x), (4, .bool false), (5, .int .i64 (j : Int))]) (fun j => j ≤ xs.length ∧ ∀ i, i < j → xs.getD i 0 ≠ x) (fun j => xs.length - j) 0 ⟨by omega, fun i hi => absurd hi (by omega)⟩ (sx 0 rfl (sx 1 rfl (sx 4 rfl (sx 5 rfl (sub_nil _))))) (.slnil) ?_
 intro j hi1
 obtain ⟨hk1, hk2⟩ := hi1
 refine hc_seq ?_
 refine hc_seq ?_
 refine hc_region ?_
 refine hl_v rfl rfl rfl (rv_ev rfl) ?_
 refine hl_v rfl rfl rfl (rv_ev rfl) ?_
 refine hl_v rfl rfl rfl (rv_len rfl Try.underlying30 rfl (rd_old hv)) ?_
 refine hl_lss rfl rfl rfl rfl rfl rfl (fun h2 => ?_) (fun h2 => ?_)
 ·
  refine hl_less (sx 0 rfl (sx 1 rfl (sx 4 rfl (sx 5 rfl (sx 9 rfl (sub_nil _)))))) (.refl _) ?_
  refine hl_nil ?_
  refine hq_then ?_
  refine hc_true rfl ?_
  refine hc_skip ?_
  refine hq_then ?_
  refine hc_seq ?_
  refine hc_block ?_
  refine hc_seq ?_
  refine hc_region ?_
  refine hl_v rfl rfl rfl (rv_ev rfl) ?_
  refine hl_v rfl rfl rfl (rv_ev rfl) ?_
  refine hl_v rfl rfl rfl (rv_index (s := 1) rfl Try.underlying30 (by kernel_rfl) rfl rfl (rd_old hv) (by omega) (by first | omega | (simp only [List.length_set]; omega))) ?_
  refine hl_v rfl rfl rfl (rv_loadEl (u := .int .i64 (xs.getD j 0)) rfl (by kernel_rfl) rfl (rd_old hv) (ints_at1 (show _ < xs.length by first | omega | (simp only [List.length_set]; omega)))) ?_
  refine hl_v rfl rfl rfl (rv_ev rfl) ?_
  refine hl_eql rfl rfl rfl rfl rfl rfl (fun h3 => ?_) (fun h3 => ?_)
  ·
   refine hl_less (sx 0 rfl (sx 1 rfl (sx 4 rfl (sx 5 rfl (sx 9 rfl (sx 17 rfl (sub_nil _))))))) (.refl _) ?_
   refine hl_nil ?_
   refine hq_then ?_
   refine hc_true rfl ?_
   refine hc_seq ?_
   refine hc_region ?_
   refine hl_v rfl rfl rfl (rv_ev rfl) ?_
   refine hl_less (sx 0 rfl (sx 1 rfl (sx 4 rfl (sx 5 rfl (sx 9 rfl (sx 17 rfl (sub_nil _))))))) (.refl _) ?_
   refine hl_nil ?_
   refine hq_then ?_
   refine hc_ret ?_
   refine hq_block_ret ?_
   refine hq_then_ret ?_
   refine hq_then_ret ?_
   refine hq_block_ret ?_
   refine hq_then_ret ?_
   exact hq_ans rfl rfl (congrArg _ (hasB_at xs x j (by omega) (by assumption)).symm)
  ·
   refine hl_less (sx 0 rfl (sx 1 rfl (sx 4 rfl (sx 5 rfl (sx 9 rfl (sx 17 rfl (sub_nil _))))))) (.refl _) ?_
   refine hl_nil ?_
   refine hq_then ?_
   refine hc_false rfl ?_
   refine hc_skip ?_
   refine hq_block_normal ?_
   refine hq_then ?_
   refine hc_region ?_
   refine hl_v rfl rfl rfl (rv_ev rfl) ?_
   refine hl_v rfl rfl rfl (rv_add rfl rfl rfl (by constructor <;> omega)) ?_
   refine hl_v rfl rfl rfl (rv_ev rfl) ?_
   refine hl_less (sx 0 rfl (sx 1 rfl (sx 4 rfl (sx 5 rfl (sx 9 rfl (sx 17 rfl (sub_nil _))))))) (.refl _) ?_
   refine hl_nil ?_
   exact hq_round1 (j + 1) ⟨by omega, fun i hi => by by_cases hij : i = j; (subst hij; assumption); exact hk2 i (by omega)⟩ (by omega) (sx 0 rfl (sx 1 rfl (sx 4 rfl (sx 5 rfl (sub_nil _))))) (.slnil)
 ·
  refine hl_less (sx 0 rfl (sx 1 rfl (sx 4 rfl (sx 5 rfl (sx 9 rfl (sub_nil _)))))) (.refl _) ?_
  refine hl_nil ?_
  refine hq_then ?_
  refine hc_false rfl ?_
  refine hc_exit ?_
  refine hq_then_exit ?_
  refine hq_then_exit ?_
  refine hq_block_exit ?_
  refine hq_then ?_
  refine hc_seq ?_
  refine hc_region ?_
  refine hl_v rfl rfl rfl (rv_ev rfl) ?_
  refine hl_less (sx 0 rfl (sx 1 rfl (sx 4 rfl (sx 5 rfl (sx 9 rfl (sub_nil _)))))) (.refl _) ?_
  refine hl_nil ?_
  refine hq_then ?_
  refine hc_ret ?_
  exact hq_ans rfl rfl (congrArg _ (hasB_no xs x (fun i hi => hk2 i (by omega))).symm)
end Go.Proofs.Ytnnkbpcfjjijbaa
