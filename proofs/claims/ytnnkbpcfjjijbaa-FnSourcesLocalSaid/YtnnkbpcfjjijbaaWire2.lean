/- Which routing nodes exist: the walks. -/
import Derived.Test.YtnnkbpcfjjijbaaWire1
set_option linter.unusedVariables false
set_option linter.unusedSimpArgs false
namespace Go.Proofs.Ytnnkbpcfjjijbaa
open Go.RowKit
def nodeB (d : Dev) (t k : Int) : Bool :=
  if k < 5 then decide (k < inPinsI (kindI d t)) else if k < 7 then decide (k - 5 < outPinsI (kindI d t)) else decide (0 ≤ stepI d t ((k - 7) / d.T) (1 + (k - 7) % d.T % 2))
def nodeOkI (d : Dev) (n : Int) : Bool := devB d && inR n 0 (allI d - 1) && nodeB d (n / perI d) (n % perI d)
theorem nodeOk_dev {d : Dev} {n : Int} (h : devB d = false) : nodeOkI d n = false := by simp [nodeOkI, h]
theorem nodeOk_out {d : Dev} {n : Int} (h : inR n 0 (allI d - 1) = false) : nodeOkI d n = false := by simp [nodeOkI, h]
theorem nodeOk_in {d : Dev} {n : Int} (h : devB d = true) (h2 : inR n 0 (allI d - 1) = true) : nodeOkI d n = nodeB d (n / perI d) (n % perI d) := by simp [nodeOkI, h, h2]
theorem nodeB_in {d : Dev} {t k : Int} (h : k < 5) : nodeB d t k = decide (k < inPinsI (kindI d t)) := if_pos h
theorem nodeB_out {d : Dev} {t k : Int} (h : 5 ≤ k) (h2 : k < 7) : nodeB d t k = decide (k - 5 < outPinsI (kindI d t)) := by rw [nodeB, if_neg (by omega), if_pos h2]
theorem nodeB_wire {d : Dev} {t k : Int} (h : 7 ≤ k) : nodeB d t k = decide (0 ≤ stepI d t ((k - 7) / d.T) (1 + (k - 7) % d.T % 2)) := by rw [nodeB, if_neg (by omega), if_neg (by omega)]
theorem wire_rng {d : Dev} {k : Int} (hv : devB d = true) (k0 : 7 ≤ k) (k1 : k ≤ perI d - 1) : 0 ≤ (k - 7) / d.T ∧ (k - 7) / d.T ≤ 3 ∧ 0 ≤ (k - 7) % d.T ∧ (k - 7) % d.T ≤ d.T - 1 := by
  obtain ⟨-, -, ⟨t1, t2⟩, -⟩ := (devB_iff d).1 hv
  have e1 : 0 ≤ (k - 7) / d.T := Int.ediv_nonneg (by omega) (by omega)
  have e2 : (k - 7) / d.T < 4 := Int.ediv_lt_of_lt_mul (by omega) (by unfold perI at k1; omega)
  have e3 := Int.emod_nonneg (k - 7) (show d.T ≠ 0 by omega)
  have e4 := Int.emod_lt_of_pos (k - 7) (show 0 < d.T by omega)
  omega
set_option maxHeartbeats 1000000 in
theorem wireOf_wire (d : Dev) (n : Int) (hv : devB d = true) (n0 : 0 ≤ n) (n1 : n ≤ allI d - 1) (k7 : 7 ≤ n % perI d) (w : World) :
    Calls Try.prog 90 #[.agg #[.int .i64 d.W, .int .i64 d.H, .int .i64 d.T, .int .i64 d.R], .int .i64 n] w fun e w' => e = .returned (.tuple #[.int .i64 (n / perI d), .int .i64 ((n % perI d - 7) / d.T), .int .i64 ((n % perI d - 7) % d.T), .bool true]) ∧ Below w.heap.size w w' := by
  obtain ⟨h1, h2⟩ := per_rng hv
  obtain ⟨m1, m2⟩ := all_rng hv
  obtain ⟨p0, p1, p2, p3, p4⟩ := place_rng hv n0 n1
  obtain ⟨-, -, ⟨t1, t2⟩, -⟩ := (devB_iff d).1 hv
  obtain ⟨g0, g1, g2, g3⟩ := wire_rng hv k7 p3
  have hS0 := devS_start w d
  have HS0 := Lib.hid hS0
  go_enter Try.func90, Try.ntmps90
  go_wp2_with fail
  refine (nodePlace_any d n hv n0 (by omega) _).mono ?_
  rintro e w1 ⟨rfl, hb1⟩
  have hS1 := devS_step HS0.out hb1
  have HS1 := Lib.hid hS1
  clear hS0
  obtain ⟨c0, c1, c2, c3, -⟩ := hS1
  clear hb1
  go_wp2
  go_quiet (fail)
  go_wp2
  refine bodyPost_ret (v := .tuple #[.int .i64 (n / perI d), .int .i64 ((n % perI d - 7) / d.T), .int .i64 ((n % perI d - 7) % d.T), .bool true]) (by simp [results, Try.results90, go_sem]) rfl ⟨rfl, ?_⟩
  exact bel_drewN (devS_end HS1.out) _
set_option maxHeartbeats 4000000 in
theorem implRouteNodeOk_any (d : Dev) (n : Int) (w : World) :
    Calls Try.prog 44 #[.agg #[.int .i64 d.W, .int .i64 d.H, .int .i64 d.T, .int .i64 d.R], .int .i64 n] w fun e w' => e = .returned (.bool (nodeOkI d n)) ∧ Below w.heap.size w w' := by
  rcases Bool.eq_false_or_eq_true (devB d) with hv | hv
  rotate_left
  · have hf := Lib.hid (nodeOk_dev (n := n) hv)
    have hS0 := devS_start w d
    have HS0 := Lib.hid hS0
    go_enter Try.func44, Try.ntmps44
    go_wp2_with fail
    refine (implDeviceOk_any d _).mono ?_
    rintro e w1 ⟨rfl, hb1⟩
    have hS1 := devS_step HS0.out hb1
    have HS1 := Lib.hid hS1
    clear hS0
    obtain ⟨c0, c1, c2, c3, -⟩ := hS1
    clear hb1
    go_wp2
    go_ret
    exact ⟨rt_bool hf.out.symm, devS_end HS1.out⟩
  obtain ⟨m1, m2⟩ := all_rng hv
  rcases Bool.eq_false_or_eq_true (inR n 0 (allI d - 1)) with hn | hn
  rotate_left
  · have hf := Lib.hid (nodeOk_out hn)
    have hS0 := devS_start w d
    have HS0 := Lib.hid hS0
    go_enter Try.func44, Try.ntmps44
    go_wp2_with fail
    refine (implDeviceOk_any d _).mono ?_
    rintro e w1 ⟨rfl, hb1⟩
    have hS1 := devS_step HS0.out hb1
    have HS1 := Lib.hid hS1
    clear hS0
    obtain ⟨c0, c1, c2, c3, -⟩ := hS1
    clear hb1
    go_wp2_with fail
    refine (implAll_any d hv _).mono ?_
    rintro e w2 ⟨rfl, hb2⟩
    have hS2 := devS_step HS1.out hb2
    have HS2 := Lib.hid hS2
    clear c0 c1 c2 c3
    obtain ⟨c0, c1, c2, c3, -⟩ := hS2
    clear hb2
    go_wp2_with fail
    refine (inRange_any _ _ _ _).mono ?_
    rintro e w' ⟨rfl, rfl⟩
    go_wp2
    go_ret
    exact ⟨rt_bool hf.out.symm, devS_end HS2.out⟩
  have hf0 := nodeOk_in hv hn
  obtain ⟨n0, n1⟩ := (inR_iff _ _ _).1 hn
  obtain ⟨h1, h2⟩ := per_rng hv
  obtain ⟨m1, m2⟩ := all_rng hv
  obtain ⟨p0, p1, p2, p3, p4⟩ := place_rng hv n0 n1
  obtain ⟨-, -, ⟨t1, t2⟩, -⟩ := (devB_iff d).1 hv
  by_cases k5 : n % perI d < 5
  · have hf := Lib.hid (hf0.trans (nodeB_in k5))
    clear hf0
    have kc := kind_cases d (n / perI d)
    have hS0 := devS_start w d
    have HS0 := Lib.hid hS0
    go_enter Try.func44, Try.ntmps44
    go_wp2_with fail
    refine (implDeviceOk_any d _).mono ?_
    rintro e w1 ⟨rfl, hb1⟩
    have hS1 := devS_step HS0.out hb1
    have HS1 := Lib.hid hS1
    clear hS0
    obtain ⟨c0, c1, c2, c3, -⟩ := hS1
    clear hb1
    go_wp2_with fail
    refine (implAll_any d hv _).mono ?_
    rintro e w2 ⟨rfl, hb2⟩
    have hS2 := devS_step HS1.out hb2
    have HS2 := Lib.hid hS2
    clear c0 c1 c2 c3
    obtain ⟨c0, c1, c2, c3, -⟩ := hS2
    clear hb2
    go_wp2_with fail
    refine (inRange_any _ _ _ _).mono ?_
    rintro e w' ⟨rfl, rfl⟩
    go_wp2_with fail
    refine (nodePlace_any d n hv n0 (by omega) _).mono ?_
    rintro e w3 ⟨rfl, hb3⟩
    have hS3 := devS_step HS2.out hb3
    have HS3 := Lib.hid hS3
    clear c0 c1 c2 c3
    obtain ⟨c0, c1, c2, c3, -⟩ := hS3
    clear hb3
    go_wp2_with fail
    refine (implTileKind0_any d _ hv p0 (by have := area_le hv; omega) _).mono ?_
    rintro e w4 ⟨rfl, hb4⟩
    have hS4 := devS_step HS3.out hb4
    have HS4 := Lib.hid hS4
    clear c0 c1 c2 c3
    obtain ⟨c0, c1, c2, c3, -⟩ := hS4
    clear hb4
    go_wp2_with fail
    refine (inPins_any _ kc _).mono ?_
    rintro e w' ⟨rfl, rfl⟩
    go_wp2
    go_ret
    exact ⟨rt_bool hf.out.symm, devS_end HS4.out⟩
  by_cases k7 : n % perI d < 7
  · have hf := Lib.hid (hf0.trans (nodeB_out (by omega) k7))
    clear hf0
    have kc := kind_cases d (n / perI d)
    have hS0 := devS_start w d
    have HS0 := Lib.hid hS0
    go_enter Try.func44, Try.ntmps44
    go_wp2_with fail
    refine (implDeviceOk_any d _).mono ?_
    rintro e w1 ⟨rfl, hb1⟩
    have hS1 := devS_step HS0.out hb1
    have HS1 := Lib.hid hS1
    clear hS0
    obtain ⟨c0, c1, c2, c3, -⟩ := hS1
    clear hb1
    go_wp2_with fail
    refine (implAll_any d hv _).mono ?_
    rintro e w2 ⟨rfl, hb2⟩
    have hS2 := devS_step HS1.out hb2
    have HS2 := Lib.hid hS2
    clear c0 c1 c2 c3
    obtain ⟨c0, c1, c2, c3, -⟩ := hS2
    clear hb2
    go_wp2_with fail
    refine (inRange_any _ _ _ _).mono ?_
    rintro e w' ⟨rfl, rfl⟩
    go_wp2_with fail
    refine (nodePlace_any d n hv n0 (by omega) _).mono ?_
    rintro e w3 ⟨rfl, hb3⟩
    have hS3 := devS_step HS2.out hb3
    have HS3 := Lib.hid hS3
    clear c0 c1 c2 c3
    obtain ⟨c0, c1, c2, c3, -⟩ := hS3
    clear hb3
    go_wp2_with fail
    refine (implTileKind0_any d _ hv p0 (by have := area_le hv; omega) _).mono ?_
    rintro e w4 ⟨rfl, hb4⟩
    have hS4 := devS_step HS3.out hb4
    have HS4 := Lib.hid hS4
    clear c0 c1 c2 c3
    obtain ⟨c0, c1, c2, c3, -⟩ := hS4
    clear hb4
    go_wp2_with fail
    refine (outPins_any _ kc _).mono ?_
    rintro e w' ⟨rfl, rfl⟩
    go_wp2
    go_ret
    exact ⟨rt_bool hf.out.symm, devS_end HS4.out⟩
  · have hf := Lib.hid (hf0.trans (nodeB_wire (by omega)))
    clear hf0
    obtain ⟨g0, g1, g2, g3⟩ := wire_rng hv (by omega) p3
    have z : 0 ≤ 1 + (n % perI d - 7) % d.T % 2 ∧ 1 + (n % perI d - 7) % d.T % 2 ≤ 2 := by omega
    have hS0 := devS_start w d
    have HS0 := Lib.hid hS0
    go_enter Try.func44, Try.ntmps44
    go_wp2_with fail
    refine (implDeviceOk_any d _).mono ?_
    rintro e w1 ⟨rfl, hb1⟩
    have hS1 := devS_step HS0.out hb1
    have HS1 := Lib.hid hS1
    clear hS0
    obtain ⟨c0, c1, c2, c3, -⟩ := hS1
    clear hb1
    go_wp2_with fail
    refine (implAll_any d hv _).mono ?_
    rintro e w2 ⟨rfl, hb2⟩
    have hS2 := devS_step HS1.out hb2
    have HS2 := Lib.hid hS2
    clear c0 c1 c2 c3
    obtain ⟨c0, c1, c2, c3, -⟩ := hS2
    clear hb2
    go_wp2_with fail
    refine (inRange_any _ _ _ _).mono ?_
    rintro e w' ⟨rfl, rfl⟩
    go_wp2_with fail
    refine (nodePlace_any d n hv n0 (by omega) _).mono ?_
    rintro e w3 ⟨rfl, hb3⟩
    have hS3 := devS_step HS2.out hb3
    have HS3 := Lib.hid hS3
    clear c0 c1 c2 c3
    obtain ⟨c0, c1, c2, c3, -⟩ := hS3
    clear hb3
    go_wp2_with fail
    refine (wireOf_wire d n hv n0 n1 (by omega) _).mono ?_
    rintro e w4 ⟨rfl, hb4⟩
    have hS4 := devS_step HS3.out hb4
    have HS4 := Lib.hid hS4
    clear c0 c1 c2 c3
    obtain ⟨c0, c1, c2, c3, -⟩ := hS4
    clear hb4
    have hS := HS4.out
    clear c0 c1 c2 c3
    go_wp2
    go_region_held3 (fun w' => DevS (w.alloc (.cells #[.int .i64 d.W, .int .i64 d.H, .int .i64 d.T, .int .i64 d.R] 25)) w.heap.size d w') (first | assumption | exact devS_drew (by assumption) | exact devS_alloc (by assumption) _ | exact devS_step (by assumption) (by assumption)) (first | (go_at_call 85; refine (wireLen_any _ g2 (by omega) _).mono ?_; rintro e w1 ⟨rfl, rfl⟩) | (go_at_call 76; refine (tileStep_any d _ _ _ hv p0 p1 g0 g1 z.1 (by omega) _).mono ?_; rintro e w1 ⟨rfl, hb1⟩))
    all_goals
      go_wp2
      go_ret
      exact ⟨rt_bool hf.out.symm, devS_end (by assumption)⟩
end Go.Proofs.Ytnnkbpcfjjijbaa
