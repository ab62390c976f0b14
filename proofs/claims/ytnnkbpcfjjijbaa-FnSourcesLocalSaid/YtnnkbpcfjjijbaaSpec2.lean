/- The multiplexers' nodes, in the program and in the reference: the walks. -/
import Derived.Test.YtnnkbpcfjjijbaaSpec1
import Derived.Test.YtnnkbpcfjjijbaaMux
set_option linter.unusedVariables false
set_option linter.unusedSimpArgs false
namespace Go.Proofs.Ytnnkbpcfjjijbaa
open Go.RowKit
theorem tileStep_eq {d : Dev} {t dir s : Int} (h : tOk d t = true) (r0 : 0 ≤ dir) (r1 : dir ≤ 3) (s0 : 0 ≤ s) (s1 : s ≤ 6) : tileStepI d t dir s = stepI d t dir s := if_pos ⟨h, inR_true r0 r1, inR_true s0 s1⟩
theorem tileKind_eq {d : Dev} {t : Int} (h : tOk d t = true) : tileKindI d t = kindI d t := if_pos h
set_option maxHeartbeats 4000000 in
theorem specRouteNodeOk_any (d : Dev) (n : Int) (w : World) :
    Calls Try.prog 96 #[.agg #[.int .i64 d.W, .int .i64 d.H, .int .i64 d.T, .int .i64 d.R], .int .i64 n] w fun e w' => e = .returned (.bool (nodeOkI d n)) ∧ Below w.heap.size w w' := by
  by_cases hneg : n < 0
  · have hf : Hid (nodeOkI d n = false) := nodeOk_out (inR_false (.inl hneg))
    have hS0 := devS_start w d
    have HS0 := Lib.hid hS0
    go_enter Try.func96, Try.ntmps96
    go_wp2
    go_ret
    exact ⟨rt_bool hf.out.symm, devS_end HS0.out⟩
  rcases Bool.eq_false_or_eq_true (devB d) with hv | hv
  rotate_left
  · have hf := Lib.hid (nodeOk_dev (n := n) hv)
    have hS0 := devS_start w d
    have HS0 := Lib.hid hS0
    go_enter Try.func96, Try.ntmps96
    go_wp2_with fail
    refine (specRouteNodes_no d hv _).mono ?_
    rintro e w1 ⟨rfl, hb1⟩
    have hS1 := devS_step HS0.out hb1
    have HS1 := Lib.hid hS1
    clear hS0
    obtain ⟨c0, c1, c2, c3, -⟩ := hS1
    clear hb1
    have hz1 : w.heap.size < w1.heap.size := World.block_lt_of_cell? _ _ c0
    go_wp2
    go_ret
    exact ⟨rt_bool hf.out.symm, devS_end HS1.out⟩
  obtain ⟨m1, m2⟩ := all_rng hv
  by_cases hbig : allI d ≤ n
  · have hf : Hid (nodeOkI d n = false) := nodeOk_out (inR_false (.inr (by omega)))
    have hS0 := devS_start w d
    have HS0 := Lib.hid hS0
    go_enter Try.func96, Try.ntmps96
    go_wp2_with fail
    refine (specRouteNodes_yes d hv _).mono ?_
    rintro e w1 ⟨rfl, hb1⟩
    have hS1 := devS_step HS0.out hb1
    have HS1 := Lib.hid hS1
    clear hS0
    obtain ⟨c0, c1, c2, c3, -⟩ := hS1
    clear hb1
    have hz1 : w.heap.size < w1.heap.size := World.block_lt_of_cell? _ _ c0
    go_wp2
    go_ret
    exact ⟨rt_bool hf.out.symm, devS_end HS1.out⟩
  have n0 : 0 ≤ n := by omega
  have n1 : n ≤ allI d - 1 := by omega
  have hf0 := nodeOk_in hv (inR_true n0 n1)
  obtain ⟨h1, h2⟩ := per_rng hv
  obtain ⟨p0, p1, p2, p3, p4⟩ := place_rng hv n0 n1
  obtain ⟨-, -, ⟨t1, t2⟩, -⟩ := (devB_iff d).1 hv
  have q1 : ¬ perI d = 0 := by omega
  by_cases k5 : n % perI d < 5
  · have hf := Lib.hid (hf0.trans (nodeB_in k5))
    clear hf0
    have kc := kind_cases d (n / perI d)
    have ke := Lib.hid (tileKind_eq p4)
    have hS0 := devS_start w d
    have HS0 := Lib.hid hS0
    go_enter Try.func96, Try.ntmps96
    go_wp2_with fail
    refine (specRouteNodes_yes d hv _).mono ?_
    rintro e w1 ⟨rfl, hb1⟩
    have hS1 := devS_step HS0.out hb1
    have HS1 := Lib.hid hS1
    clear hS0
    obtain ⟨c0, c1, c2, c3, -⟩ := hS1
    clear hb1
    have hz1 : w.heap.size < w1.heap.size := World.block_lt_of_cell? _ _ c0
    go_wp2_with fail
    refine (specPer_any d hv _).mono ?_
    rintro e w2 ⟨rfl, hb2⟩
    have hS2 := devS_step HS1.out hb2
    have HS2 := Lib.hid hS2
    clear c0 c1 c2 c3
    obtain ⟨c0, c1, c2, c3, -⟩ := hS2
    clear hb2
    have hz2 : w.heap.size < w2.heap.size := World.block_lt_of_cell? _ _ c0
    go_wp2_with fail
    refine (specPer_any d hv _).mono ?_
    rintro e w3 ⟨rfl, hb3⟩
    have hS3 := devS_step HS2.out hb3
    have HS3 := Lib.hid hS3
    clear c0 c1 c2 c3
    obtain ⟨c0, c1, c2, c3, -⟩ := hS3
    clear hb3
    have hz3 : w.heap.size < w3.heap.size := World.block_lt_of_cell? _ _ c0
    go_wp2_with fail
    refine (specTileKind_any d _ _).mono ?_
    rintro e w4 ⟨rfl, hb4⟩
    have hS4 := devS_step HS3.out hb4
    have HS4 := Lib.hid hS4
    clear c0 c1 c2 c3
    obtain ⟨c0, c1, c2, c3, -⟩ := hS4
    clear hb4
    have hz4 : w.heap.size < w4.heap.size := World.block_lt_of_cell? _ _ c0
    rw [ke.out]
    go_wp2_with fail
    refine (specInPins_any _ kc _).mono ?_
    rintro e w' ⟨rfl, rfl⟩
    go_wp2
    go_ret
    exact ⟨rt_bool hf.out.symm, devS_end HS4.out⟩
  by_cases k7 : n % perI d < 7
  · have hf := Lib.hid (hf0.trans (nodeB_out (by omega) k7))
    clear hf0
    have kc := kind_cases d (n / perI d)
    have ke := Lib.hid (tileKind_eq p4)
    have hS0 := devS_start w d
    have HS0 := Lib.hid hS0
    go_enter Try.func96, Try.ntmps96
    go_wp2_with fail
    refine (specRouteNodes_yes d hv _).mono ?_
    rintro e w1 ⟨rfl, hb1⟩
    have hS1 := devS_step HS0.out hb1
    have HS1 := Lib.hid hS1
    clear hS0
    obtain ⟨c0, c1, c2, c3, -⟩ := hS1
    clear hb1
    have hz1 : w.heap.size < w1.heap.size := World.block_lt_of_cell? _ _ c0
    go_wp2_with fail
    refine (specPer_any d hv _).mono ?_
    rintro e w2 ⟨rfl, hb2⟩
    have hS2 := devS_step HS1.out hb2
    have HS2 := Lib.hid hS2
    clear c0 c1 c2 c3
    obtain ⟨c0, c1, c2, c3, -⟩ := hS2
    clear hb2
    have hz2 : w.heap.size < w2.heap.size := World.block_lt_of_cell? _ _ c0
    go_wp2_with fail
    refine (specPer_any d hv _).mono ?_
    rintro e w3 ⟨rfl, hb3⟩
    have hS3 := devS_step HS2.out hb3
    have HS3 := Lib.hid hS3
    clear c0 c1 c2 c3
    obtain ⟨c0, c1, c2, c3, -⟩ := hS3
    clear hb3
    have hz3 : w.heap.size < w3.heap.size := World.block_lt_of_cell? _ _ c0
    go_wp2_with fail
    refine (specTileKind_any d _ _).mono ?_
    rintro e w4 ⟨rfl, hb4⟩
    have hS4 := devS_step HS3.out hb4
    have HS4 := Lib.hid hS4
    clear c0 c1 c2 c3
    obtain ⟨c0, c1, c2, c3, -⟩ := hS4
    clear hb4
    have hz4 : w.heap.size < w4.heap.size := World.block_lt_of_cell? _ _ c0
    rw [ke.out]
    go_wp2_with fail
    refine (specOutPins_any _ kc _).mono ?_
    rintro e w' ⟨rfl, rfl⟩
    go_wp2
    go_ret
    exact ⟨rt_bool hf.out.symm, devS_end HS4.out⟩
  · have hf := Lib.hid (hf0.trans (nodeB_wire (by omega)))
    clear hf0
    obtain ⟨g0, g1, g2, g3⟩ := wire_rng hv (by omega) p3
    have z : 0 ≤ 1 + (n % perI d - 7) % d.T % 2 ∧ 1 + (n % perI d - 7) % d.T % 2 ≤ 2 := by omega
    have se := Lib.hid (tileStep_eq p4 g0 g1 z.1 (by omega))
    have hS0 := devS_start w d
    have HS0 := Lib.hid hS0
    go_enter Try.func96, Try.ntmps96
    go_wp2_with fail
    refine (specRouteNodes_yes d hv _).mono ?_
    rintro e w1 ⟨rfl, hb1⟩
    have hS1 := devS_step HS0.out hb1
    have HS1 := Lib.hid hS1
    clear hS0
    obtain ⟨c0, c1, c2, c3, -⟩ := hS1
    clear hb1
    have hz1 : w.heap.size < w1.heap.size := World.block_lt_of_cell? _ _ c0
    go_wp2_with fail
    refine (specPer_any d hv _).mono ?_
    rintro e w2 ⟨rfl, hb2⟩
    have hS2 := devS_step HS1.out hb2
    have HS2 := Lib.hid hS2
    clear c0 c1 c2 c3
    obtain ⟨c0, c1, c2, c3, -⟩ := hS2
    clear hb2
    have hz2 : w.heap.size < w2.heap.size := World.block_lt_of_cell? _ _ c0
    go_wp2_with fail
    refine (specPer_any d hv _).mono ?_
    rintro e w3 ⟨rfl, hb3⟩
    have hS3 := devS_step HS2.out hb3
    have HS3 := Lib.hid hS3
    clear c0 c1 c2 c3
    obtain ⟨c0, c1, c2, c3, -⟩ := hS3
    clear hb3
    have hz3 : w.heap.size < w3.heap.size := World.block_lt_of_cell? _ _ c0
    go_wp2_with fail
    refine (specWire_any d n hv n0 n1 (by omega) _).mono ?_
    rintro e w4 ⟨rfl, hb4⟩
    have hS4 := devS_step HS3.out hb4
    have HS4 := Lib.hid hS4
    clear c0 c1 c2 c3
    obtain ⟨c0, c1, c2, c3, -⟩ := hS4
    clear hb4
    have hz4 : w.heap.size < w4.heap.size := World.block_lt_of_cell? _ _ c0
    go_wp2_with fail
    refine (specTileStep_any d _ _ _ _).mono ?_
    rintro e w5 ⟨rfl, hb5⟩
    have hS5 := devS_step HS4.out hb5
    have HS5 := Lib.hid hS5
    clear c0 c1 c2 c3
    obtain ⟨c0, c1, c2, c3, -⟩ := hS5
    clear hb5
    have hz5 : w.heap.size < w5.heap.size := World.block_lt_of_cell? _ _ c0
    rw [se.out]
    go_wp2
    go_ret
    exact ⟨rt_bool hf.out.symm, devS_end HS5.out⟩
def muxN (d : Dev) (t m : Int) : Int := t * perI d + m + if 5 ≤ m then 2 else 0
def muxNodeI (d : Dev) (t m : Int) : Int := if tOk d t = true ∧ 0 ≤ m ∧ m < 5 + 4 * d.T then (if nodeOkI d (muxN d t m) = true then muxN d t m else -1) else -1
set_option maxHeartbeats 4000000 in
theorem implMuxNode_any (d : Dev) (t m : Int) (w : World) :
    Calls Try.prog 42 #[.agg #[.int .i64 d.W, .int .i64 d.H, .int .i64 d.T, .int .i64 d.R], .int .i64 t, .int .i64 m] w fun e w' => e = .returned (.int .i64 (muxNodeI d t m)) ∧ Below w.heap.size w w' := by
  rcases Bool.eq_false_or_eq_true (tOk d t) with hd | hd
  rotate_left
  · have hf : Hid (muxNodeI d t m = -1) := if_neg (by simp [hd])
    have hS0 := devS_start w d
    have HS0 := Lib.hid hS0
    go_enter Try.func42, Try.ntmps42
    go_wp2_with fail
    refine (implTileOk_any d t _).mono ?_
    rintro e w1 ⟨rfl, hb1⟩
    have hS1 := devS_step HS0.out hb1
    have HS1 := Lib.hid hS1
    clear hS0
    obtain ⟨c0, c1, c2, c3, -⟩ := hS1
    clear hb1
    have hz1 : w.heap.size < w1.heap.size := World.block_lt_of_cell? _ _ c0
    go_wp2
    go_ret
    exact ⟨rt_int hf.out.symm, devS_end HS1.out⟩
  obtain ⟨hv, t0, t1⟩ := (tOk_iff d t).1 hd
  obtain ⟨-, -, ⟨l1, l2⟩, -⟩ := (devB_iff d).1 hv
  obtain ⟨a1, a2⟩ := area_le hv
  obtain ⟨h1, h2⟩ := per_rng hv
  by_cases hlo : m < 0
  · have hf : Hid (muxNodeI d t m = -1) := if_neg (by omega)
    have hr : inR m 0 (5 + 4 * d.T - 1) = false := inR_false (by omega)
    have hS0 := devS_start w d
    have HS0 := Lib.hid hS0
    go_enter Try.func42, Try.ntmps42
    go_wp2_with fail
    refine (implTileOk_any d t _).mono ?_
    rintro e w1 ⟨rfl, hb1⟩
    have hS1 := devS_step HS0.out hb1
    have HS1 := Lib.hid hS1
    clear hS0
    obtain ⟨c0, c1, c2, c3, -⟩ := hS1
    clear hb1
    have hz1 : w.heap.size < w1.heap.size := World.block_lt_of_cell? _ _ c0
    go_wp2_with fail
    refine (implMux_any d hv _).mono ?_
    rintro e w2 ⟨rfl, hb2⟩
    have hS2 := devS_step HS1.out hb2
    have HS2 := Lib.hid hS2
    clear c0 c1 c2 c3
    obtain ⟨c0, c1, c2, c3, -⟩ := hS2
    clear hb2
    have hz2 : w.heap.size < w2.heap.size := World.block_lt_of_cell? _ _ c0
    go_wp2_with fail
    refine (inRange_any _ _ _ _).mono ?_
    rintro e w' ⟨rfl, rfl⟩
    go_wp2
    go_ret
    exact ⟨rt_int hf.out.symm, devS_end HS2.out⟩
  by_cases hhi : 5 + 4 * d.T ≤ m
  · have hf : Hid (muxNodeI d t m = -1) := if_neg (by omega)
    have hr : inR m 0 (5 + 4 * d.T - 1) = false := inR_false (by omega)
    have hS0 := devS_start w d
    have HS0 := Lib.hid hS0
    go_enter Try.func42, Try.ntmps42
    go_wp2_with fail
    refine (implTileOk_any d t _).mono ?_
    rintro e w1 ⟨rfl, hb1⟩
    have hS1 := devS_step HS0.out hb1
    have HS1 := Lib.hid hS1
    clear hS0
    obtain ⟨c0, c1, c2, c3, -⟩ := hS1
    clear hb1
    have hz1 : w.heap.size < w1.heap.size := World.block_lt_of_cell? _ _ c0
    go_wp2_with fail
    refine (implMux_any d hv _).mono ?_
    rintro e w2 ⟨rfl, hb2⟩
    have hS2 := devS_step HS1.out hb2
    have HS2 := Lib.hid hS2
    clear c0 c1 c2 c3
    obtain ⟨c0, c1, c2, c3, -⟩ := hS2
    clear hb2
    have hz2 : w.heap.size < w2.heap.size := World.block_lt_of_cell? _ _ c0
    go_wp2_with fail
    refine (inRange_any _ _ _ _).mono ?_
    rintro e w' ⟨rfl, rfl⟩
    go_wp2
    go_ret
    exact ⟨rt_int hf.out.symm, devS_end HS2.out⟩
  have hf0 : muxNodeI d t m = if nodeOkI d (muxN d t m) = true then muxN d t m else -1 := if_pos ⟨hd, by omega, by omega⟩
  have hr : inR m 0 (5 + 4 * d.T - 1) = true := inR_true (by omega) (by omega)
  have e0 : 0 ≤ t * perI d ∧ t * perI d ≤ 35 * 23 := ⟨Int.mul_nonneg t0 (by omega), Int.mul_le_mul (by omega) h2 (by omega) (by omega)⟩
  have e1 : IntKind.i64.wrap (t * perI d) = t * perI d := IntWalk.i64_in _ (by omega)
  have e2 : IntKind.i64.wrap (t * perI d + m) = t * perI d + m := IntWalk.i64_in _ (by omega)
  by_cases h5 : 5 ≤ m
  · have hm : muxN d t m = t * perI d + m + 2 := by rw [muxN, if_pos h5]
    rw [hm] at hf0
    clear hm
    rcases Bool.eq_false_or_eq_true (nodeOkI d (t * perI d + m + 2)) with hn | hn
    · have hf : Hid (muxNodeI d t m = t * perI d + m + 2) := hf0.trans (if_pos hn)
      clear hf0
      have hS0 := devS_start w d
      have HS0 := Lib.hid hS0
      go_enter Try.func42, Try.ntmps42
      go_wp2_with fail
      refine (implTileOk_any d t _).mono ?_
      rintro e w1 ⟨rfl, hb1⟩
      have hS1 := devS_step HS0.out hb1
      have HS1 := Lib.hid hS1
      clear hS0
      obtain ⟨c0, c1, c2, c3, -⟩ := hS1
      clear hb1
      have hz1 : w.heap.size < w1.heap.size := World.block_lt_of_cell? _ _ c0
      go_wp2_with fail
      refine (implMux_any d hv _).mono ?_
      rintro e w2 ⟨rfl, hb2⟩
      have hS2 := devS_step HS1.out hb2
      have HS2 := Lib.hid hS2
      clear c0 c1 c2 c3
      obtain ⟨c0, c1, c2, c3, -⟩ := hS2
      clear hb2
      have hz2 : w.heap.size < w2.heap.size := World.block_lt_of_cell? _ _ c0
      go_wp2_with fail
      refine (inRange_any _ _ _ _).mono ?_
      rintro e w' ⟨rfl, rfl⟩
      go_wp2_with fail
      refine (implPer_any d hv _).mono ?_
      rintro e w3 ⟨rfl, hb3⟩
      have hS3 := devS_step HS2.out hb3
      have HS3 := Lib.hid hS3
      clear c0 c1 c2 c3
      obtain ⟨c0, c1, c2, c3, -⟩ := hS3
      clear hb3
      have hz3 : w.heap.size < w3.heap.size := World.block_lt_of_cell? _ _ c0
      go_wp2_with fail
      refine (implRouteNodeOk_any d _ _).mono ?_
      rintro e w4 ⟨rfl, hb4⟩
      have hS4 := devS_step HS3.out hb4
      have HS4 := Lib.hid hS4
      clear c0 c1 c2 c3
      obtain ⟨c0, c1, c2, c3, -⟩ := hS4
      clear hb4
      have hz4 : w.heap.size < w4.heap.size := World.block_lt_of_cell? _ _ c0
      go_wp2
      go_ret
      exact ⟨rt_int hf.out.symm, devS_end HS4.out⟩
    · have hf : Hid (muxNodeI d t m = -1) := hf0.trans (if_neg (by simp [hn]))
      clear hf0
      have hS0 := devS_start w d
      have HS0 := Lib.hid hS0
      go_enter Try.func42, Try.ntmps42
      go_wp2_with fail
      refine (implTileOk_any d t _).mono ?_
      rintro e w1 ⟨rfl, hb1⟩
      have hS1 := devS_step HS0.out hb1
      have HS1 := Lib.hid hS1
      clear hS0
      obtain ⟨c0, c1, c2, c3, -⟩ := hS1
      clear hb1
      have hz1 : w.heap.size < w1.heap.size := World.block_lt_of_cell? _ _ c0
      go_wp2_with fail
      refine (implMux_any d hv _).mono ?_
      rintro e w2 ⟨rfl, hb2⟩
      have hS2 := devS_step HS1.out hb2
      have HS2 := Lib.hid hS2
      clear c0 c1 c2 c3
      obtain ⟨c0, c1, c2, c3, -⟩ := hS2
      clear hb2
      have hz2 : w.heap.size < w2.heap.size := World.block_lt_of_cell? _ _ c0
      go_wp2_with fail
      refine (inRange_any _ _ _ _).mono ?_
      rintro e w' ⟨rfl, rfl⟩
      go_wp2_with fail
      refine (implPer_any d hv _).mono ?_
      rintro e w3 ⟨rfl, hb3⟩
      have hS3 := devS_step HS2.out hb3
      have HS3 := Lib.hid hS3
      clear c0 c1 c2 c3
      obtain ⟨c0, c1, c2, c3, -⟩ := hS3
      clear hb3
      have hz3 : w.heap.size < w3.heap.size := World.block_lt_of_cell? _ _ c0
      go_wp2_with fail
      refine (implRouteNodeOk_any d _ _).mono ?_
      rintro e w4 ⟨rfl, hb4⟩
      have hS4 := devS_step HS3.out hb4
      have HS4 := Lib.hid hS4
      clear c0 c1 c2 c3
      obtain ⟨c0, c1, c2, c3, -⟩ := hS4
      clear hb4
      have hz4 : w.heap.size < w4.heap.size := World.block_lt_of_cell? _ _ c0
      go_wp2
      go_ret
      exact ⟨rt_int hf.out.symm, devS_end HS4.out⟩
  · have hm : muxN d t m = t * perI d + m := by rw [muxN, if_neg h5, Int.add_zero]
    rw [hm] at hf0
    clear hm
    rcases Bool.eq_false_or_eq_true (nodeOkI d (t * perI d + m)) with hn | hn
    · have hf : Hid (muxNodeI d t m = t * perI d + m) := hf0.trans (if_pos hn)
      clear hf0
      have hS0 := devS_start w d
      have HS0 := Lib.hid hS0
      go_enter Try.func42, Try.ntmps42
      go_wp2_with fail
      refine (implTileOk_any d t _).mono ?_
      rintro e w1 ⟨rfl, hb1⟩
      have hS1 := devS_step HS0.out hb1
      have HS1 := Lib.hid hS1
      clear hS0
      obtain ⟨c0, c1, c2, c3, -⟩ := hS1
      clear hb1
      have hz1 : w.heap.size < w1.heap.size := World.block_lt_of_cell? _ _ c0
      go_wp2_with fail
      refine (implMux_any d hv _).mono ?_
      rintro e w2 ⟨rfl, hb2⟩
      have hS2 := devS_step HS1.out hb2
      have HS2 := Lib.hid hS2
      clear c0 c1 c2 c3
      obtain ⟨c0, c1, c2, c3, -⟩ := hS2
      clear hb2
      have hz2 : w.heap.size < w2.heap.size := World.block_lt_of_cell? _ _ c0
      go_wp2_with fail
      refine (inRange_any _ _ _ _).mono ?_
      rintro e w' ⟨rfl, rfl⟩
      go_wp2_with fail
      refine (implPer_any d hv _).mono ?_
      rintro e w3 ⟨rfl, hb3⟩
      have hS3 := devS_step HS2.out hb3
      have HS3 := Lib.hid hS3
      clear c0 c1 c2 c3
      obtain ⟨c0, c1, c2, c3, -⟩ := hS3
      clear hb3
      have hz3 : w.heap.size < w3.heap.size := World.block_lt_of_cell? _ _ c0
      go_wp2_with fail
      refine (implRouteNodeOk_any d _ _).mono ?_
      rintro e w4 ⟨rfl, hb4⟩
      have hS4 := devS_step HS3.out hb4
      have HS4 := Lib.hid hS4
      clear c0 c1 c2 c3
      obtain ⟨c0, c1, c2, c3, -⟩ := hS4
      clear hb4
      have hz4 : w.heap.size < w4.heap.size := World.block_lt_of_cell? _ _ c0
      go_wp2
      go_ret
      exact ⟨rt_int hf.out.symm, devS_end HS4.out⟩
    · have hf : Hid (muxNodeI d t m = -1) := hf0.trans (if_neg (by simp [hn]))
      clear hf0
      have hS0 := devS_start w d
      have HS0 := Lib.hid hS0
      go_enter Try.func42, Try.ntmps42
      go_wp2_with fail
      refine (implTileOk_any d t _).mono ?_
      rintro e w1 ⟨rfl, hb1⟩
      have hS1 := devS_step HS0.out hb1
      have HS1 := Lib.hid hS1
      clear hS0
      obtain ⟨c0, c1, c2, c3, -⟩ := hS1
      clear hb1
      have hz1 : w.heap.size < w1.heap.size := World.block_lt_of_cell? _ _ c0
      go_wp2_with fail
      refine (implMux_any d hv _).mono ?_
      rintro e w2 ⟨rfl, hb2⟩
      have hS2 := devS_step HS1.out hb2
      have HS2 := Lib.hid hS2
      clear c0 c1 c2 c3
      obtain ⟨c0, c1, c2, c3, -⟩ := hS2
      clear hb2
      have hz2 : w.heap.size < w2.heap.size := World.block_lt_of_cell? _ _ c0
      go_wp2_with fail
      refine (inRange_any _ _ _ _).mono ?_
      rintro e w' ⟨rfl, rfl⟩
      go_wp2_with fail
      refine (implPer_any d hv _).mono ?_
      rintro e w3 ⟨rfl, hb3⟩
      have hS3 := devS_step HS2.out hb3
      have HS3 := Lib.hid hS3
      clear c0 c1 c2 c3
      obtain ⟨c0, c1, c2, c3, -⟩ := hS3
      clear hb3
      have hz3 : w.heap.size < w3.heap.size := World.block_lt_of_cell? _ _ c0
      go_wp2_with fail
      refine (implRouteNodeOk_any d _ _).mono ?_
      rintro e w4 ⟨rfl, hb4⟩
      have hS4 := devS_step HS3.out hb4
      have HS4 := Lib.hid hS4
      clear c0 c1 c2 c3
      obtain ⟨c0, c1, c2, c3, -⟩ := hS4
      clear hb4
      have hz4 : w.heap.size < w4.heap.size := World.block_lt_of_cell? _ _ c0
      go_wp2
      go_ret
      exact ⟨rt_int hf.out.symm, devS_end HS4.out⟩
set_option maxHeartbeats 4000000 in
theorem specMuxNode_any (d : Dev) (t m : Int) (w : World) :
    Calls Try.prog 41 #[.agg #[.int .i64 d.W, .int .i64 d.H, .int .i64 d.T, .int .i64 d.R], .int .i64 t, .int .i64 m] w fun e w' => e = .returned (.int .i64 (muxNodeI d t m)) ∧ Below w.heap.size w w' := by
  rcases Bool.eq_false_or_eq_true (tOk d t) with hd | hd
  rotate_left
  · have hf : Hid (muxNodeI d t m = -1) := if_neg (by simp [hd])
    have ke : Hid (tileKindI d t = -1) := if_neg (by simp [hd])
    have hS0 := devS_start w d
    have HS0 := Lib.hid hS0
    go_enter Try.func41, Try.ntmps41
    go_wp2_with fail
    refine (specTileKind_any d t _).mono ?_
    rintro e w1 ⟨rfl, hb1⟩
    have hS1 := devS_step HS0.out hb1
    have HS1 := Lib.hid hS1
    clear hS0
    obtain ⟨c0, c1, c2, c3, -⟩ := hS1
    clear hb1
    have hz1 : w.heap.size < w1.heap.size := World.block_lt_of_cell? _ _ c0
    rw [ke.out]
    go_wp2
    go_ret
    exact ⟨rt_int hf.out.symm, devS_end HS1.out⟩
  obtain ⟨hv, t0, t1⟩ := (tOk_iff d t).1 hd
  obtain ⟨-, -, ⟨l1, l2⟩, -⟩ := (devB_iff d).1 hv
  obtain ⟨a1, a2⟩ := area_le hv
  obtain ⟨h1, h2⟩ := per_rng hv
  have kc := kind_cases d t
  have kn : 0 ≤ kindI d t := by omega
  have ke := Lib.hid (tileKind_eq hd)
  clear kc
  by_cases hlo : m < 0
  · have hf : Hid (muxNodeI d t m = -1) := if_neg (by omega)
    have hS0 := devS_start w d
    have HS0 := Lib.hid hS0
    go_enter Try.func41, Try.ntmps41
    go_wp2_with fail
    refine (specTileKind_any d t _).mono ?_
    rintro e w1 ⟨rfl, hb1⟩
    have hS1 := devS_step HS0.out hb1
    have HS1 := Lib.hid hS1
    clear hS0
    obtain ⟨c0, c1, c2, c3, -⟩ := hS1
    clear hb1
    have hz1 : w.heap.size < w1.heap.size := World.block_lt_of_cell? _ _ c0
    rw [ke.out]
    go_wp2
    go_ret
    exact ⟨rt_int hf.out.symm, devS_end HS1.out⟩
  by_cases hhi : 5 + 4 * d.T ≤ m
  · have hf : Hid (muxNodeI d t m = -1) := if_neg (by omega)
    have hS0 := devS_start w d
    have HS0 := Lib.hid hS0
    go_enter Try.func41, Try.ntmps41
    go_wp2_with fail
    refine (specTileKind_any d t _).mono ?_
    rintro e w1 ⟨rfl, hb1⟩
    have hS1 := devS_step HS0.out hb1
    have HS1 := Lib.hid hS1
    clear hS0
    obtain ⟨c0, c1, c2, c3, -⟩ := hS1
    clear hb1
    have hz1 : w.heap.size < w1.heap.size := World.block_lt_of_cell? _ _ c0
    rw [ke.out]
    go_wp2_with fail
    refine (specMuxCount_yes d hv _).mono ?_
    rintro e w2 ⟨rfl, hb2⟩
    have hS2 := devS_step HS1.out hb2
    have HS2 := Lib.hid hS2
    clear c0 c1 c2 c3
    obtain ⟨c0, c1, c2, c3, -⟩ := hS2
    clear hb2
    have hz2 : w.heap.size < w2.heap.size := World.block_lt_of_cell? _ _ c0
    go_wp2
    go_ret
    exact ⟨rt_int hf.out.symm, devS_end HS2.out⟩
  have hf0 : muxNodeI d t m = if nodeOkI d (muxN d t m) = true then muxN d t m else -1 := if_pos ⟨hd, by omega, by omega⟩
  have e0 : 0 ≤ t * perI d ∧ t * perI d ≤ 35 * 23 := ⟨Int.mul_nonneg t0 (by omega), Int.mul_le_mul (by omega) h2 (by omega) (by omega)⟩
  have e1 : IntKind.i64.wrap (t * perI d) = t * perI d := IntWalk.i64_in _ (by omega)
  have e2 : IntKind.i64.wrap (t * perI d + m) = t * perI d + m := IntWalk.i64_in _ (by omega)
  by_cases h5 : 5 ≤ m
  · have hm : muxN d t m = t * perI d + m + 2 := by rw [muxN, if_pos h5]
    rw [hm] at hf0
    clear hm
    rcases Bool.eq_false_or_eq_true (nodeOkI d (t * perI d + m + 2)) with hn | hn
    · have hf : Hid (muxNodeI d t m = t * perI d + m + 2) := hf0.trans (if_pos hn)
      clear hf0
      have hS0 := devS_start w d
      have HS0 := Lib.hid hS0
      go_enter Try.func41, Try.ntmps41
      go_wp2_with fail
      refine (specTileKind_any d t _).mono ?_
      rintro e w1 ⟨rfl, hb1⟩
      have hS1 := devS_step HS0.out hb1
      have HS1 := Lib.hid hS1
      clear hS0
      obtain ⟨c0, c1, c2, c3, -⟩ := hS1
      clear hb1
      have hz1 : w.heap.size < w1.heap.size := World.block_lt_of_cell? _ _ c0
      rw [ke.out]
      go_wp2_with fail
      refine (specMuxCount_yes d hv _).mono ?_
      rintro e w2 ⟨rfl, hb2⟩
      have hS2 := devS_step HS1.out hb2
      have HS2 := Lib.hid hS2
      clear c0 c1 c2 c3
      obtain ⟨c0, c1, c2, c3, -⟩ := hS2
      clear hb2
      have hz2 : w.heap.size < w2.heap.size := World.block_lt_of_cell? _ _ c0
      go_wp2_with fail
      refine (specPer_any d hv _).mono ?_
      rintro e w3 ⟨rfl, hb3⟩
      have hS3 := devS_step HS2.out hb3
      have HS3 := Lib.hid hS3
      clear c0 c1 c2 c3
      obtain ⟨c0, c1, c2, c3, -⟩ := hS3
      clear hb3
      have hz3 : w.heap.size < w3.heap.size := World.block_lt_of_cell? _ _ c0
      go_wp2_with fail
      refine (specRouteNodeOk_any d _ _).mono ?_
      rintro e w4 ⟨rfl, hb4⟩
      have hS4 := devS_step HS3.out hb4
      have HS4 := Lib.hid hS4
      clear c0 c1 c2 c3
      obtain ⟨c0, c1, c2, c3, -⟩ := hS4
      clear hb4
      have hz4 : w.heap.size < w4.heap.size := World.block_lt_of_cell? _ _ c0
      go_wp2
      go_ret
      exact ⟨rt_int hf.out.symm, devS_end HS4.out⟩
    · have hf : Hid (muxNodeI d t m = -1) := hf0.trans (if_neg (by simp [hn]))
      clear hf0
      have hS0 := devS_start w d
      have HS0 := Lib.hid hS0
      go_enter Try.func41, Try.ntmps41
      go_wp2_with fail
      refine (specTileKind_any d t _).mono ?_
      rintro e w1 ⟨rfl, hb1⟩
      have hS1 := devS_step HS0.out hb1
      have HS1 := Lib.hid hS1
      clear hS0
      obtain ⟨c0, c1, c2, c3, -⟩ := hS1
      clear hb1
      have hz1 : w.heap.size < w1.heap.size := World.block_lt_of_cell? _ _ c0
      rw [ke.out]
      go_wp2_with fail
      refine (specMuxCount_yes d hv _).mono ?_
      rintro e w2 ⟨rfl, hb2⟩
      have hS2 := devS_step HS1.out hb2
      have HS2 := Lib.hid hS2
      clear c0 c1 c2 c3
      obtain ⟨c0, c1, c2, c3, -⟩ := hS2
      clear hb2
      have hz2 : w.heap.size < w2.heap.size := World.block_lt_of_cell? _ _ c0
      go_wp2_with fail
      refine (specPer_any d hv _).mono ?_
      rintro e w3 ⟨rfl, hb3⟩
      have hS3 := devS_step HS2.out hb3
      have HS3 := Lib.hid hS3
      clear c0 c1 c2 c3
      obtain ⟨c0, c1, c2, c3, -⟩ := hS3
      clear hb3
      have hz3 : w.heap.size < w3.heap.size := World.block_lt_of_cell? _ _ c0
      go_wp2_with fail
      refine (specRouteNodeOk_any d _ _).mono ?_
      rintro e w4 ⟨rfl, hb4⟩
      have hS4 := devS_step HS3.out hb4
      have HS4 := Lib.hid hS4
      clear c0 c1 c2 c3
      obtain ⟨c0, c1, c2, c3, -⟩ := hS4
      clear hb4
      have hz4 : w.heap.size < w4.heap.size := World.block_lt_of_cell? _ _ c0
      go_wp2
      go_ret
      exact ⟨rt_int hf.out.symm, devS_end HS4.out⟩
  · have hm : muxN d t m = t * perI d + m := by rw [muxN, if_neg h5, Int.add_zero]
    rw [hm] at hf0
    clear hm
    rcases Bool.eq_false_or_eq_true (nodeOkI d (t * perI d + m)) with hn | hn
    · have hf : Hid (muxNodeI d t m = t * perI d + m) := hf0.trans (if_pos hn)
      clear hf0
      have hS0 := devS_start w d
      have HS0 := Lib.hid hS0
      go_enter Try.func41, Try.ntmps41
      go_wp2_with fail
      refine (specTileKind_any d t _).mono ?_
      rintro e w1 ⟨rfl, hb1⟩
      have hS1 := devS_step HS0.out hb1
      have HS1 := Lib.hid hS1
      clear hS0
      obtain ⟨c0, c1, c2, c3, -⟩ := hS1
      clear hb1
      have hz1 : w.heap.size < w1.heap.size := World.block_lt_of_cell? _ _ c0
      rw [ke.out]
      go_wp2_with fail
      refine (specMuxCount_yes d hv _).mono ?_
      rintro e w2 ⟨rfl, hb2⟩
      have hS2 := devS_step HS1.out hb2
      have HS2 := Lib.hid hS2
      clear c0 c1 c2 c3
      obtain ⟨c0, c1, c2, c3, -⟩ := hS2
      clear hb2
      have hz2 : w.heap.size < w2.heap.size := World.block_lt_of_cell? _ _ c0
      go_wp2_with fail
      refine (specPer_any d hv _).mono ?_
      rintro e w3 ⟨rfl, hb3⟩
      have hS3 := devS_step HS2.out hb3
      have HS3 := Lib.hid hS3
      clear c0 c1 c2 c3
      obtain ⟨c0, c1, c2, c3, -⟩ := hS3
      clear hb3
      have hz3 : w.heap.size < w3.heap.size := World.block_lt_of_cell? _ _ c0
      go_wp2_with fail
      refine (specRouteNodeOk_any d _ _).mono ?_
      rintro e w4 ⟨rfl, hb4⟩
      have hS4 := devS_step HS3.out hb4
      have HS4 := Lib.hid hS4
      clear c0 c1 c2 c3
      obtain ⟨c0, c1, c2, c3, -⟩ := hS4
      clear hb4
      have hz4 : w.heap.size < w4.heap.size := World.block_lt_of_cell? _ _ c0
      go_wp2
      go_ret
      exact ⟨rt_int hf.out.symm, devS_end HS4.out⟩
    · have hf : Hid (muxNodeI d t m = -1) := hf0.trans (if_neg (by simp [hn]))
      clear hf0
      have hS0 := devS_start w d
      have HS0 := Lib.hid hS0
      go_enter Try.func41, Try.ntmps41
      go_wp2_with fail
      refine (specTileKind_any d t _).mono ?_
      rintro e w1 ⟨rfl, hb1⟩
      have hS1 := devS_step HS0.out hb1
      have HS1 := Lib.hid hS1
      clear hS0
      obtain ⟨c0, c1, c2, c3, -⟩ := hS1
      clear hb1
      have hz1 : w.heap.size < w1.heap.size := World.block_lt_of_cell? _ _ c0
      rw [ke.out]
      go_wp2_with fail
      refine (specMuxCount_yes d hv _).mono ?_
      rintro e w2 ⟨rfl, hb2⟩
      have hS2 := devS_step HS1.out hb2
      have HS2 := Lib.hid hS2
      clear c0 c1 c2 c3
      obtain ⟨c0, c1, c2, c3, -⟩ := hS2
      clear hb2
      have hz2 : w.heap.size < w2.heap.size := World.block_lt_of_cell? _ _ c0
      go_wp2_with fail
      refine (specPer_any d hv _).mono ?_
      rintro e w3 ⟨rfl, hb3⟩
      have hS3 := devS_step HS2.out hb3
      have HS3 := Lib.hid hS3
      clear c0 c1 c2 c3
      obtain ⟨c0, c1, c2, c3, -⟩ := hS3
      clear hb3
      have hz3 : w.heap.size < w3.heap.size := World.block_lt_of_cell? _ _ c0
      go_wp2_with fail
      refine (specRouteNodeOk_any d _ _).mono ?_
      rintro e w4 ⟨rfl, hb4⟩
      have hS4 := devS_step HS3.out hb4
      have HS4 := Lib.hid hS4
      clear c0 c1 c2 c3
      obtain ⟨c0, c1, c2, c3, -⟩ := hS4
      clear hb4
      have hz4 : w.heap.size < w4.heap.size := World.block_lt_of_cell? _ _ c0
      go_wp2
      go_ret
      exact ⟨rt_int hf.out.symm, devS_end HS4.out⟩
end Go.Proofs.Ytnnkbpcfjjijbaa
