/- The reference's tiles and nodes: the walks. -/
import Derived.Test.YtnnkbpcfjjijbaaWire2
import Derived.BigRegion
set_option linter.unusedVariables false
set_option linter.unusedSimpArgs false
namespace Go.Proofs.Ytnnkbpcfjjijbaa
open Go.RowKit
theorem bel_fin {w X : World} {d : Dev} {o o1 o2 : Obj} (h : DevS (w.alloc o) w.heap.size d X) : Below w.heap.size w ((X.alloc o1).alloc o2).drew.drew := ((bel_alloc (bel_alloc (devS_end h) o1) o2).drew).drew
theorem k4' {d : Dev} {t : Int} (h : (((t % d.W == 0) = true ∨ (t / d.W == 0) = true) ∨ (t % d.W == d.W - 1) = true) ∨ (t / d.W == d.H - 1) = true) : 0 = kindI d t := by
  rcases h with ((h | h) | h) | h
  · exact k4 (.inl (.inl (.inl h)))
  · exact k4 (.inl (.inr h))
  · exact k4 (.inl (.inl (.inr h)))
  · exact k4 (.inr h)
theorem k5' {d : Dev} {t : Int} (h : (((t % d.W == 0) = false ∧ (t / d.W == 0) = false) ∧ (t % d.W == d.W - 1) = false) ∧ (t / d.W == d.H - 1) = false) (h2 : (t % d.W == d.R) = true) : 2 = kindI d t :=
  k5 ⟨⟨⟨h.1.1.1, h.1.2⟩, h.1.1.2⟩, h.2⟩ h2
theorem k6' {d : Dev} {t : Int} (h : (((t % d.W == 0) = false ∧ (t / d.W == 0) = false) ∧ (t % d.W == d.W - 1) = false) ∧ (t / d.W == d.H - 1) = false) (h2 : (t % d.W == d.R) = false) : 1 = kindI d t :=
  k6 ⟨⟨⟨h.1.1.1, h.1.2⟩, h.1.1.2⟩, h.2⟩ h2
set_option maxHeartbeats 4000000 in
theorem specTileKind_any (d : Dev) (t : Int) (w : World) :
    Calls Try.prog 87 #[.agg #[.int .i64 d.W, .int .i64 d.H, .int .i64 d.T, .int .i64 d.R], .int .i64 t] w fun e w' => e = .returned (.int .i64 (tileKindI d t)) ∧ Below w.heap.size w w' := by
  rcases Bool.eq_false_or_eq_true (devB d) with hv | hv
  rotate_left
  · have hf := Lib.hid (show tileKindI d t = -1 from if_neg (by simp [tOk, hv]))
    have hS0 := devS_start w d
    have HS0 := Lib.hid hS0
    go_enter Try.func87, Try.ntmps87
    go_wp2_with fail
    refine (specDeviceOk_any d _).mono ?_
    rintro e w1 ⟨rfl, hb1⟩
    have hS1 := devS_step HS0.out hb1
    have HS1 := Lib.hid hS1
    clear hS0
    obtain ⟨c0, c1, c2, c3, -⟩ := hS1
    clear hb1
    have hz1 : w.heap.size < w1.heap.size := World.block_lt_of_cell? _ _ c0
    go_wp2
    go_ret
    exact ⟨rt_int hf.out.symm, devS_end HS1.out⟩
  obtain ⟨m1, m2⟩ := area_le hv
  obtain ⟨⟨a1, a2⟩, ⟨b1, b2⟩, -, -⟩ := (devB_iff d).1 hv
  by_cases h0 : t < 0
  · have hf := Lib.hid (show tileKindI d t = -1 from if_neg (by rw [tOk_iff]; omega))
    have hS0 := devS_start w d
    have HS0 := Lib.hid hS0
    go_enter Try.func87, Try.ntmps87
    go_wp2_with fail
    refine (specDeviceOk_any d _).mono ?_
    rintro e w1 ⟨rfl, hb1⟩
    have hS1 := devS_step HS0.out hb1
    have HS1 := Lib.hid hS1
    clear hS0
    obtain ⟨c0, c1, c2, c3, -⟩ := hS1
    clear hb1
    have hz1 : w.heap.size < w1.heap.size := World.block_lt_of_cell? _ _ c0
    go_wp2
    go_ret
    exact ⟨rt_int hf.out.symm, devS_end HS1.out⟩
  by_cases h1 : d.W * d.H ≤ t
  · have hf := Lib.hid (show tileKindI d t = -1 from if_neg (by rw [tOk_iff]; omega))
    have hS0 := devS_start w d
    have HS0 := Lib.hid hS0
    go_enter Try.func87, Try.ntmps87
    go_wp2_with fail
    refine (specDeviceOk_any d _).mono ?_
    rintro e w1 ⟨rfl, hb1⟩
    have hS1 := devS_step HS0.out hb1
    have HS1 := Lib.hid hS1
    clear hS0
    obtain ⟨c0, c1, c2, c3, -⟩ := hS1
    clear hb1
    have hz1 : w.heap.size < w1.heap.size := World.block_lt_of_cell? _ _ c0
    go_wp2
    go_ret
    exact ⟨rt_int hf.out.symm, devS_end HS1.out⟩
  · have hf := Lib.hid (show tileKindI d t = kindI d t from if_pos ((tOk_iff d t).2 ⟨hv, by omega, by omega⟩))
    have o1 := @k1 d t
    have o2 := @k2 d t
    have o3 := @k3 d t
    have z : t ≤ 35 := by omega
    have hS0 := devS_start w d
    have HS0 := Lib.hid hS0
    go_enter Try.func87, Try.ntmps87
    go_wp2_with fail
    refine (specDeviceOk_any d _).mono ?_
    rintro e w1 ⟨rfl, hb1⟩
    have hS1 := devS_step HS0.out hb1
    have HS1 := Lib.hid hS1
    clear hS0
    obtain ⟨c0, c1, c2, c3, -⟩ := hS1
    clear hb1
    have hz1 : w.heap.size < w1.heap.size := World.block_lt_of_cell? _ _ c0
    clear o1 o2 o3
    go_wp2
    all_goals go_ret
    all_goals refine ⟨rt_int ?_, devS_end HS1.out⟩
    all_goals rw [hf.out]
    all_goals first | exact k1 (by assumption) | exact k2 (by assumption) | exact k3 (by assumption) | exact k4' (by assumption) | exact k5' (by assumption) (by assumption) | exact k6' (by assumption) (by assumption)
set_option maxHeartbeats 400000 in
theorem specPer_any (d : Dev) (hv : devB d = true) (w : World) : Calls Try.prog 95 #[.agg #[.int .i64 d.W, .int .i64 d.H, .int .i64 d.T, .int .i64 d.R]] w fun e w' => e = .returned (.int .i64 (perI d)) ∧ Below w.heap.size w w' := by
  obtain ⟨-, -, ⟨t1, t2⟩, -⟩ := (devB_iff d).1 hv
  go_enter Try.func95, Try.ntmps95
  go_wp2
  go_ret
  exact ⟨rfl, bel_alloc (Below.refl _ _) _⟩
set_option maxHeartbeats 400000 in
theorem specInPins_any (k : Int) (h : k = 0 ∨ k = 1 ∨ k = 2) (w : World) : Calls Try.prog 131 #[.int .i64 k] w fun e w' => e = .returned (.int .i64 (inPinsI k)) ∧ w = w' := by
  rcases h with rfl | rfl | rfl
  all_goals
    go_enter Try.func131, Try.ntmps131
    go_wp2
    go_ret
    exact ⟨rfl, rfl⟩
set_option maxHeartbeats 400000 in
theorem specOutPins_any (k : Int) (h : k = 0 ∨ k = 1 ∨ k = 2) (w : World) : Calls Try.prog 123 #[.int .i64 k] w fun e w' => e = .returned (.int .i64 (outPinsI k)) ∧ w = w' := by
  rcases h with rfl | rfl | rfl
  all_goals
    go_enter Try.func123, Try.ntmps123
    go_wp2
    go_ret
    exact ⟨rfl, rfl⟩
set_option maxHeartbeats 1000000 in
theorem specRouteNodes_yes (d : Dev)  (hv : devB d = true) (w : World) :
    Calls Try.prog 56 #[.agg #[.int .i64 d.W, .int .i64 d.H, .int .i64 d.T, .int .i64 d.R]] w fun e w' => e = .returned (.int .i64 (allI d)) ∧ Below w.heap.size w w' := by
  obtain ⟨h1, h2⟩ := per_rng hv
  obtain ⟨m1, m2⟩ := area_le hv
  obtain ⟨h3, h4⟩ := all_rng hv
  unfold allI at h3 h4
  have e1 : IntKind.i64.wrap (d.W * d.H) = d.W * d.H := IntWalk.i64_in _ (by omega)
  have e2 : IntKind.i64.wrap (d.W * d.H * perI d) = d.W * d.H * perI d := IntWalk.i64_in _ (by omega)
  have hS0 := devS_start w d
  have HS0 := Lib.hid hS0
  go_enter Try.func56, Try.ntmps56
  go_wp2_with fail
  refine (specDeviceOk_any d _).mono ?_
  rintro e w1 ⟨rfl, hb1⟩
  have hS1 := devS_step HS0.out hb1
  have HS1 := Lib.hid hS1
  clear hS0
  obtain ⟨c0, c1, c2, c3, -⟩ := hS1
  clear hb1
  have hz1 : w.heap.size < w1.heap.size := World.block_lt_of_cell? _ _ c0
  have hS := HS1.out
  clear c0 c1 c2 c3
  go_wp2
  go_region_held3 (fun w' => DevS (w.alloc (.cells #[.int .i64 d.W, .int .i64 d.H, .int .i64 d.T, .int .i64 d.R] 25)) w.heap.size d w') (first | assumption | exact devS_drew (by assumption) | exact devS_alloc (by assumption) _ | exact devS_step (by assumption) (by assumption)) (first | (go_at_call 95; refine (specPer_any d hv _).mono ?_; rintro e w1 ⟨rfl, hb1⟩))
  go_wp2
  go_ret
  exact ⟨rfl, devS_end (by assumption)⟩
set_option maxHeartbeats 1000000 in
theorem specRouteNodes_no (d : Dev)  (hv : devB d = false) (w : World) :
    Calls Try.prog 56 #[.agg #[.int .i64 d.W, .int .i64 d.H, .int .i64 d.T, .int .i64 d.R]] w fun e w' => e = .returned (.int .i64 0) ∧ Below w.heap.size w w' := by
  have hS0 := devS_start w d
  have HS0 := Lib.hid hS0
  go_enter Try.func56, Try.ntmps56
  go_wp2_with fail
  refine (specDeviceOk_any d _).mono ?_
  rintro e w1 ⟨rfl, hb1⟩
  have hS1 := devS_step HS0.out hb1
  have HS1 := Lib.hid hS1
  clear hS0
  obtain ⟨c0, c1, c2, c3, -⟩ := hS1
  clear hb1
  have hz1 : w.heap.size < w1.heap.size := World.block_lt_of_cell? _ _ c0
  go_wp2
  go_ret
  exact ⟨rfl, devS_end HS1.out⟩
set_option maxHeartbeats 1000000 in
theorem specWire_any (d : Dev) (n : Int) (hv : devB d = true) (n0 : 0 ≤ n) (n1 : n ≤ allI d - 1) (k7 : 7 ≤ n % perI d) (w : World) :
    Calls Try.prog 122 #[.agg #[.int .i64 d.W, .int .i64 d.H, .int .i64 d.T, .int .i64 d.R], .int .i64 n] w fun e w' => e = .returned (.tuple #[.int .i64 ((n % perI d - 7) / d.T), .int .i64 ((n % perI d - 7) % d.T)]) ∧ Below w.heap.size w w' := by
  obtain ⟨h1, h2⟩ := per_rng hv
  obtain ⟨m1, m2⟩ := all_rng hv
  obtain ⟨p0, p1, p2, p3, p4⟩ := place_rng hv n0 n1
  obtain ⟨-, -, ⟨t1, t2⟩, -⟩ := (devB_iff d).1 hv
  obtain ⟨g0, g1, g2, g3⟩ := wire_rng hv k7 p3
  have hS0 := devS_start w d
  have HS0 := Lib.hid hS0
  go_enter Try.func122, Try.ntmps122
  go_wp2_with fail
  refine (specPer_any d hv _).mono ?_
  rintro e w1 ⟨rfl, hb1⟩
  have hS1 := devS_step HS0.out hb1
  have HS1 := Lib.hid hS1
  clear hS0
  obtain ⟨c0, c1, c2, c3, -⟩ := hS1
  clear hb1
  have hz1 : w.heap.size < w1.heap.size := World.block_lt_of_cell? _ _ c0
  go_wp2
  go_quiet (fail)
  go_wp2
  go_ret2
  exact ⟨rfl, bel_drewN (devS_end HS1.out) _⟩
set_option maxHeartbeats 4000000 in
theorem specTileStep_any (d : Dev) (t dir s : Int) (w : World) :
    Calls Try.prog 32 #[.agg #[.int .i64 d.W, .int .i64 d.H, .int .i64 d.T, .int .i64 d.R], .int .i64 t, .int .i64 dir, .int .i64 s] w fun e w' => e = .returned (.int .i64 (tileStepI d t dir s)) ∧ Below w.heap.size w w' := by
  rcases Bool.eq_false_or_eq_true (tOk d t) with hd | hd
  rotate_left
  · have hf := Lib.hid (show tileStepI d t dir s = -1 from if_neg (by simp [hd]))
    have hk := Lib.hid (show tileKindI d t = -1 from if_neg (by simp [hd]))
    have hS0 := devS_start w d
    have HS0 := Lib.hid hS0
    go_enter Try.func32, Try.ntmps32
    go_wp2_with fail
    refine (specTileKind_any d t _).mono ?_
    rintro e w1 ⟨rfl, hb1⟩
    have hS1 := devS_step HS0.out hb1
    have HS1 := Lib.hid hS1
    clear hS0
    obtain ⟨c0, c1, c2, c3, -⟩ := hS1
    clear hb1
    have hz1 : w.heap.size < w1.heap.size := World.block_lt_of_cell? _ _ c0
    rw [hk.out]
    go_wp2
    go_ret
    exact ⟨rt_int hf.out.symm, devS_end HS1.out⟩
  have hk : 0 ≤ tileKindI d t := by rw [show tileKindI d t = kindI d t from if_pos hd]; rcases kind_cases d t with h | h | h <;> omega
  rcases Bool.eq_false_or_eq_true (inR dir 0 3) with h1 | h1
  rotate_left
  · have hf := Lib.hid (show tileStepI d t dir s = -1 from if_neg (by simp [h1]))
    have hS0 := devS_start w d
    have HS0 := Lib.hid hS0
    go_enter Try.func32, Try.ntmps32
    go_wp2_with fail
    refine (specTileKind_any d t _).mono ?_
    rintro e w1 ⟨rfl, hb1⟩
    have hS1 := devS_step HS0.out hb1
    have HS1 := Lib.hid hS1
    clear hS0
    obtain ⟨c0, c1, c2, c3, -⟩ := hS1
    clear hb1
    have hz1 : w.heap.size < w1.heap.size := World.block_lt_of_cell? _ _ c0
    go_wp2_with fail
    refine (l01In_any _ _ _ _).mono ?_
    rintro e w' ⟨rfl, rfl⟩
    go_wp2
    go_ret
    exact ⟨rt_int hf.out.symm, devS_end HS1.out⟩
  rcases Bool.eq_false_or_eq_true (inR s 0 6) with h2 | h2
  rotate_left
  · have hf := Lib.hid (show tileStepI d t dir s = -1 from if_neg (by simp [h2]))
    have hS0 := devS_start w d
    have HS0 := Lib.hid hS0
    go_enter Try.func32, Try.ntmps32
    go_wp2_with fail
    refine (specTileKind_any d t _).mono ?_
    rintro e w1 ⟨rfl, hb1⟩
    have hS1 := devS_step HS0.out hb1
    have HS1 := Lib.hid hS1
    clear hS0
    obtain ⟨c0, c1, c2, c3, -⟩ := hS1
    clear hb1
    have hz1 : w.heap.size < w1.heap.size := World.block_lt_of_cell? _ _ c0
    go_wp2_with fail
    refine (l01In_any _ _ _ _).mono ?_
    rintro e w' ⟨rfl, rfl⟩
    go_wp2_with fail
    refine (l01In_any _ _ _ _).mono ?_
    rintro e w' ⟨rfl, rfl⟩
    go_wp2
    go_ret
    exact ⟨rt_int hf.out.symm, devS_end HS1.out⟩
  have hf0 : tileStepI d t dir s = stepI d t dir s := if_pos ⟨hd, h1, h2⟩
  obtain ⟨hv, t0, t1⟩ := (tOk_iff d t).1 hd
  obtain ⟨r0, r1⟩ := (inR_iff _ _ _).1 h1
  obtain ⟨s0, s1⟩ := (inR_iff _ _ _).1 h2
  obtain ⟨x0, x1, y0, y1, -⟩ := tile_xy hv t0 t1
  obtain ⟨m1, m2⟩ := area_le hv
  obtain ⟨⟨a1, a2⟩, ⟨b1, b2⟩, -, -⟩ := (devB_iff d).1 hv
  have q1 : ¬ d.W = 0 := by omega
  have q2 : IntKind.i64.wrap (t.tdiv d.W) = t / d.W := IntWalk.i64_quo _ _ (by omega)
  have q3 : t.tmod d.W = t % d.W := Int.tmod_eq_emod_of_nonneg t0
  obtain rfl | rfl | rfl | rfl : dir = 0 ∨ dir = 1 ∨ dir = 2 ∨ dir = 3 := by omega
  · have ex : dX 0 s = s := by simp [dX]
    have ey : dY 0 s = 0 := by simp [dY]
    have gx : t % d.W + dX 0 s = t % d.W + s := by first | (rw [ex]; done) | (rw [ex]; omega)
    have gy : t / d.W + dY 0 s = t / d.W := by first | (rw [ey]; done) | (rw [ey]; omega)
    have o1 := @step_out1 d t 0 s
    have o2 := @step_out2 d t 0 s
    have o3 := @step_in d t 0 s
    rw [gx] at o1 o3
    rw [gy] at o2 o3
    clear ex ey gx gy
    rcases Bool.eq_false_or_eq_true (inR (t % d.W + s) 0 (d.W - 1)) with h3 | h3
    rotate_left
    · have hf := Lib.hid (hf0.trans (o1 h3).symm)
      clear o1 o2 o3 hf0
      have hS0 := devS_start w d
      have HS0 := Lib.hid hS0
      go_enter Try.func32, Try.ntmps32
      go_wp2_with fail
      refine (specTileKind_any d t _).mono ?_
      rintro e w1 ⟨rfl, hb1⟩
      have hS1 := devS_step HS0.out hb1
      have HS1 := Lib.hid hS1
      clear hS0
      obtain ⟨c0, c1, c2, c3, -⟩ := hS1
      clear hb1
      have hz1 : w.heap.size < w1.heap.size := World.block_lt_of_cell? _ _ c0
      go_wp2_with fail
      refine (l01In_any _ _ _ _).mono ?_
      rintro e w' ⟨rfl, rfl⟩
      go_wp2_with fail
      refine (l01In_any _ _ _ _).mono ?_
      rintro e w' ⟨rfl, rfl⟩
      go_wp2
      go_region
      go_wp2
      go_region
      go_wp2_with (go_at_call 88; refine (l01In_any _ _ _ _).mono ?_; rintro e w' ⟨rfl, rfl⟩)
      go_ret
      exact ⟨rt_int hf.out.symm, bel_fin HS1.out⟩
    rcases Bool.eq_false_or_eq_true (inR (t / d.W) 0 (d.H - 1)) with h4 | h4
    rotate_left
    · have hf := Lib.hid (hf0.trans (o2 h4).symm)
      clear o1 o2 o3 hf0
      have hS0 := devS_start w d
      have HS0 := Lib.hid hS0
      go_enter Try.func32, Try.ntmps32
      go_wp2_with fail
      refine (specTileKind_any d t _).mono ?_
      rintro e w1 ⟨rfl, hb1⟩
      have hS1 := devS_step HS0.out hb1
      have HS1 := Lib.hid hS1
      clear hS0
      obtain ⟨c0, c1, c2, c3, -⟩ := hS1
      clear hb1
      have hz1 : w.heap.size < w1.heap.size := World.block_lt_of_cell? _ _ c0
      go_wp2_with fail
      refine (l01In_any _ _ _ _).mono ?_
      rintro e w' ⟨rfl, rfl⟩
      go_wp2_with fail
      refine (l01In_any _ _ _ _).mono ?_
      rintro e w' ⟨rfl, rfl⟩
      go_wp2
      go_region
      go_wp2
      go_region
      go_wp2_with (go_at_call 88; refine (l01In_any _ _ _ _).mono ?_; rintro e w' ⟨rfl, rfl⟩)
      go_ret
      exact ⟨rt_int hf.out.symm, bel_fin HS1.out⟩
    · have hf := Lib.hid (hf0.trans (o3 h3 h4).symm)
      clear o1 o2 o3 hf0
      obtain ⟨i1, i2⟩ := (inR_iff _ _ _).1 h3
      obtain ⟨i3, i4⟩ := (inR_iff _ _ _).1 h4
      have i5 : 0 ≤ (t / d.W) * d.W ∧ (t / d.W) * d.W ≤ 36 := ⟨Int.mul_nonneg i3 (by omega), Int.le_trans (Int.mul_le_mul (show t / d.W ≤ 6 by omega) a2 (by omega) (by omega)) (by omega)⟩
      have hS0 := devS_start w d
      have HS0 := Lib.hid hS0
      go_enter Try.func32, Try.ntmps32
      go_wp2_with fail
      refine (specTileKind_any d t _).mono ?_
      rintro e w1 ⟨rfl, hb1⟩
      have hS1 := devS_step HS0.out hb1
      have HS1 := Lib.hid hS1
      clear hS0
      obtain ⟨c0, c1, c2, c3, -⟩ := hS1
      clear hb1
      have hz1 : w.heap.size < w1.heap.size := World.block_lt_of_cell? _ _ c0
      go_wp2_with fail
      refine (l01In_any _ _ _ _).mono ?_
      rintro e w' ⟨rfl, rfl⟩
      go_wp2_with fail
      refine (l01In_any _ _ _ _).mono ?_
      rintro e w' ⟨rfl, rfl⟩
      go_wp2
      go_region
      go_wp2
      go_region
      go_wp2_with (go_at_call 88; refine (l01In_any _ _ _ _).mono ?_; rintro e w' ⟨rfl, rfl⟩)
      go_ret
      exact ⟨rt_int hf.out.symm, bel_fin HS1.out⟩
  · have ex : dX 1 s = 0 := by simp [dX]
    have ey : dY 1 s = s := by simp [dY]
    have gx : t % d.W + dX 1 s = t % d.W := by first | (rw [ex]; done) | (rw [ex]; omega)
    have gy : t / d.W + dY 1 s = t / d.W + s := by first | (rw [ey]; done) | (rw [ey]; omega)
    have o1 := @step_out1 d t 1 s
    have o2 := @step_out2 d t 1 s
    have o3 := @step_in d t 1 s
    rw [gx] at o1 o3
    rw [gy] at o2 o3
    clear ex ey gx gy
    rcases Bool.eq_false_or_eq_true (inR (t % d.W) 0 (d.W - 1)) with h3 | h3
    rotate_left
    · have hf := Lib.hid (hf0.trans (o1 h3).symm)
      clear o1 o2 o3 hf0
      have hS0 := devS_start w d
      have HS0 := Lib.hid hS0
      go_enter Try.func32, Try.ntmps32
      go_wp2_with fail
      refine (specTileKind_any d t _).mono ?_
      rintro e w1 ⟨rfl, hb1⟩
      have hS1 := devS_step HS0.out hb1
      have HS1 := Lib.hid hS1
      clear hS0
      obtain ⟨c0, c1, c2, c3, -⟩ := hS1
      clear hb1
      have hz1 : w.heap.size < w1.heap.size := World.block_lt_of_cell? _ _ c0
      go_wp2_with fail
      refine (l01In_any _ _ _ _).mono ?_
      rintro e w' ⟨rfl, rfl⟩
      go_wp2_with fail
      refine (l01In_any _ _ _ _).mono ?_
      rintro e w' ⟨rfl, rfl⟩
      go_wp2
      go_region
      go_wp2
      go_region
      go_wp2_with (go_at_call 88; refine (l01In_any _ _ _ _).mono ?_; rintro e w' ⟨rfl, rfl⟩)
      go_ret
      exact ⟨rt_int hf.out.symm, bel_fin HS1.out⟩
    rcases Bool.eq_false_or_eq_true (inR (t / d.W + s) 0 (d.H - 1)) with h4 | h4
    rotate_left
    · have hf := Lib.hid (hf0.trans (o2 h4).symm)
      clear o1 o2 o3 hf0
      have hS0 := devS_start w d
      have HS0 := Lib.hid hS0
      go_enter Try.func32, Try.ntmps32
      go_wp2_with fail
      refine (specTileKind_any d t _).mono ?_
      rintro e w1 ⟨rfl, hb1⟩
      have hS1 := devS_step HS0.out hb1
      have HS1 := Lib.hid hS1
      clear hS0
      obtain ⟨c0, c1, c2, c3, -⟩ := hS1
      clear hb1
      have hz1 : w.heap.size < w1.heap.size := World.block_lt_of_cell? _ _ c0
      go_wp2_with fail
      refine (l01In_any _ _ _ _).mono ?_
      rintro e w' ⟨rfl, rfl⟩
      go_wp2_with fail
      refine (l01In_any _ _ _ _).mono ?_
      rintro e w' ⟨rfl, rfl⟩
      go_wp2
      go_region
      go_wp2
      go_region
      go_wp2_with (go_at_call 88; refine (l01In_any _ _ _ _).mono ?_; rintro e w' ⟨rfl, rfl⟩)
      go_ret
      exact ⟨rt_int hf.out.symm, bel_fin HS1.out⟩
    · have hf := Lib.hid (hf0.trans (o3 h3 h4).symm)
      clear o1 o2 o3 hf0
      obtain ⟨i1, i2⟩ := (inR_iff _ _ _).1 h3
      obtain ⟨i3, i4⟩ := (inR_iff _ _ _).1 h4
      have i5 : 0 ≤ (t / d.W + s) * d.W ∧ (t / d.W + s) * d.W ≤ 36 := ⟨Int.mul_nonneg i3 (by omega), Int.le_trans (Int.mul_le_mul (show t / d.W + s ≤ 6 by omega) a2 (by omega) (by omega)) (by omega)⟩
      have hS0 := devS_start w d
      have HS0 := Lib.hid hS0
      go_enter Try.func32, Try.ntmps32
      go_wp2_with fail
      refine (specTileKind_any d t _).mono ?_
      rintro e w1 ⟨rfl, hb1⟩
      have hS1 := devS_step HS0.out hb1
      have HS1 := Lib.hid hS1
      clear hS0
      obtain ⟨c0, c1, c2, c3, -⟩ := hS1
      clear hb1
      have hz1 : w.heap.size < w1.heap.size := World.block_lt_of_cell? _ _ c0
      go_wp2_with fail
      refine (l01In_any _ _ _ _).mono ?_
      rintro e w' ⟨rfl, rfl⟩
      go_wp2_with fail
      refine (l01In_any _ _ _ _).mono ?_
      rintro e w' ⟨rfl, rfl⟩
      go_wp2
      go_region
      go_wp2
      go_region
      go_wp2_with (go_at_call 88; refine (l01In_any _ _ _ _).mono ?_; rintro e w' ⟨rfl, rfl⟩)
      go_ret
      exact ⟨rt_int hf.out.symm, bel_fin HS1.out⟩
  · have ex : dX 2 s = -s := by simp [dX]
    have ey : dY 2 s = 0 := by simp [dY]
    have gx : t % d.W + dX 2 s = t % d.W + -s := by first | (rw [ex]; done) | (rw [ex]; omega)
    have gy : t / d.W + dY 2 s = t / d.W := by first | (rw [ey]; done) | (rw [ey]; omega)
    have o1 := @step_out1 d t 2 s
    have o2 := @step_out2 d t 2 s
    have o3 := @step_in d t 2 s
    rw [gx] at o1 o3
    rw [gy] at o2 o3
    clear ex ey gx gy
    rcases Bool.eq_false_or_eq_true (inR (t % d.W + -s) 0 (d.W - 1)) with h3 | h3
    rotate_left
    · have hf := Lib.hid (hf0.trans (o1 h3).symm)
      clear o1 o2 o3 hf0
      have hS0 := devS_start w d
      have HS0 := Lib.hid hS0
      go_enter Try.func32, Try.ntmps32
      go_wp2_with fail
      refine (specTileKind_any d t _).mono ?_
      rintro e w1 ⟨rfl, hb1⟩
      have hS1 := devS_step HS0.out hb1
      have HS1 := Lib.hid hS1
      clear hS0
      obtain ⟨c0, c1, c2, c3, -⟩ := hS1
      clear hb1
      have hz1 : w.heap.size < w1.heap.size := World.block_lt_of_cell? _ _ c0
      go_wp2_with fail
      refine (l01In_any _ _ _ _).mono ?_
      rintro e w' ⟨rfl, rfl⟩
      go_wp2_with fail
      refine (l01In_any _ _ _ _).mono ?_
      rintro e w' ⟨rfl, rfl⟩
      go_wp2
      go_region
      go_wp2
      go_region
      go_wp2_with (go_at_call 88; refine (l01In_any _ _ _ _).mono ?_; rintro e w' ⟨rfl, rfl⟩)
      go_ret
      exact ⟨rt_int hf.out.symm, bel_fin HS1.out⟩
    rcases Bool.eq_false_or_eq_true (inR (t / d.W) 0 (d.H - 1)) with h4 | h4
    rotate_left
    · have hf := Lib.hid (hf0.trans (o2 h4).symm)
      clear o1 o2 o3 hf0
      have hS0 := devS_start w d
      have HS0 := Lib.hid hS0
      go_enter Try.func32, Try.ntmps32
      go_wp2_with fail
      refine (specTileKind_any d t _).mono ?_
      rintro e w1 ⟨rfl, hb1⟩
      have hS1 := devS_step HS0.out hb1
      have HS1 := Lib.hid hS1
      clear hS0
      obtain ⟨c0, c1, c2, c3, -⟩ := hS1
      clear hb1
      have hz1 : w.heap.size < w1.heap.size := World.block_lt_of_cell? _ _ c0
      go_wp2_with fail
      refine (l01In_any _ _ _ _).mono ?_
      rintro e w' ⟨rfl, rfl⟩
      go_wp2_with fail
      refine (l01In_any _ _ _ _).mono ?_
      rintro e w' ⟨rfl, rfl⟩
      go_wp2
      go_region
      go_wp2
      go_region
      go_wp2_with (go_at_call 88; refine (l01In_any _ _ _ _).mono ?_; rintro e w' ⟨rfl, rfl⟩)
      go_ret
      exact ⟨rt_int hf.out.symm, bel_fin HS1.out⟩
    · have hf := Lib.hid (hf0.trans (o3 h3 h4).symm)
      clear o1 o2 o3 hf0
      obtain ⟨i1, i2⟩ := (inR_iff _ _ _).1 h3
      obtain ⟨i3, i4⟩ := (inR_iff _ _ _).1 h4
      have i5 : 0 ≤ (t / d.W) * d.W ∧ (t / d.W) * d.W ≤ 36 := ⟨Int.mul_nonneg i3 (by omega), Int.le_trans (Int.mul_le_mul (show t / d.W ≤ 6 by omega) a2 (by omega) (by omega)) (by omega)⟩
      have hS0 := devS_start w d
      have HS0 := Lib.hid hS0
      go_enter Try.func32, Try.ntmps32
      go_wp2_with fail
      refine (specTileKind_any d t _).mono ?_
      rintro e w1 ⟨rfl, hb1⟩
      have hS1 := devS_step HS0.out hb1
      have HS1 := Lib.hid hS1
      clear hS0
      obtain ⟨c0, c1, c2, c3, -⟩ := hS1
      clear hb1
      have hz1 : w.heap.size < w1.heap.size := World.block_lt_of_cell? _ _ c0
      go_wp2_with fail
      refine (l01In_any _ _ _ _).mono ?_
      rintro e w' ⟨rfl, rfl⟩
      go_wp2_with fail
      refine (l01In_any _ _ _ _).mono ?_
      rintro e w' ⟨rfl, rfl⟩
      go_wp2
      go_region
      go_wp2
      go_region
      go_wp2_with (go_at_call 88; refine (l01In_any _ _ _ _).mono ?_; rintro e w' ⟨rfl, rfl⟩)
      go_ret
      exact ⟨rt_int hf.out.symm, bel_fin HS1.out⟩
  · have ex : dX 3 s = 0 := by simp [dX]
    have ey : dY 3 s = -s := by simp [dY]
    have gx : t % d.W + dX 3 s = t % d.W := by first | (rw [ex]; done) | (rw [ex]; omega)
    have gy : t / d.W + dY 3 s = t / d.W + -s := by first | (rw [ey]; done) | (rw [ey]; omega)
    have o1 := @step_out1 d t 3 s
    have o2 := @step_out2 d t 3 s
    have o3 := @step_in d t 3 s
    rw [gx] at o1 o3
    rw [gy] at o2 o3
    clear ex ey gx gy
    rcases Bool.eq_false_or_eq_true (inR (t % d.W) 0 (d.W - 1)) with h3 | h3
    rotate_left
    · have hf := Lib.hid (hf0.trans (o1 h3).symm)
      clear o1 o2 o3 hf0
      have hS0 := devS_start w d
      have HS0 := Lib.hid hS0
      go_enter Try.func32, Try.ntmps32
      go_wp2_with fail
      refine (specTileKind_any d t _).mono ?_
      rintro e w1 ⟨rfl, hb1⟩
      have hS1 := devS_step HS0.out hb1
      have HS1 := Lib.hid hS1
      clear hS0
      obtain ⟨c0, c1, c2, c3, -⟩ := hS1
      clear hb1
      have hz1 : w.heap.size < w1.heap.size := World.block_lt_of_cell? _ _ c0
      go_wp2_with fail
      refine (l01In_any _ _ _ _).mono ?_
      rintro e w' ⟨rfl, rfl⟩
      go_wp2_with fail
      refine (l01In_any _ _ _ _).mono ?_
      rintro e w' ⟨rfl, rfl⟩
      go_wp2
      go_region
      go_wp2
      go_region
      go_wp2_with (go_at_call 88; refine (l01In_any _ _ _ _).mono ?_; rintro e w' ⟨rfl, rfl⟩)
      go_ret
      exact ⟨rt_int hf.out.symm, bel_fin HS1.out⟩
    rcases Bool.eq_false_or_eq_true (inR (t / d.W + -s) 0 (d.H - 1)) with h4 | h4
    rotate_left
    · have hf := Lib.hid (hf0.trans (o2 h4).symm)
      clear o1 o2 o3 hf0
      have hS0 := devS_start w d
      have HS0 := Lib.hid hS0
      go_enter Try.func32, Try.ntmps32
      go_wp2_with fail
      refine (specTileKind_any d t _).mono ?_
      rintro e w1 ⟨rfl, hb1⟩
      have hS1 := devS_step HS0.out hb1
      have HS1 := Lib.hid hS1
      clear hS0
      obtain ⟨c0, c1, c2, c3, -⟩ := hS1
      clear hb1
      have hz1 : w.heap.size < w1.heap.size := World.block_lt_of_cell? _ _ c0
      go_wp2_with fail
      refine (l01In_any _ _ _ _).mono ?_
      rintro e w' ⟨rfl, rfl⟩
      go_wp2_with fail
      refine (l01In_any _ _ _ _).mono ?_
      rintro e w' ⟨rfl, rfl⟩
      go_wp2
      go_region
      go_wp2
      go_region
      go_wp2_with (go_at_call 88; refine (l01In_any _ _ _ _).mono ?_; rintro e w' ⟨rfl, rfl⟩)
      go_ret
      exact ⟨rt_int hf.out.symm, bel_fin HS1.out⟩
    · have hf := Lib.hid (hf0.trans (o3 h3 h4).symm)
      clear o1 o2 o3 hf0
      obtain ⟨i1, i2⟩ := (inR_iff _ _ _).1 h3
      obtain ⟨i3, i4⟩ := (inR_iff _ _ _).1 h4
      have i5 : 0 ≤ (t / d.W + -s) * d.W ∧ (t / d.W + -s) * d.W ≤ 36 := ⟨Int.mul_nonneg i3 (by omega), Int.le_trans (Int.mul_le_mul (show t / d.W + -s ≤ 6 by omega) a2 (by omega) (by omega)) (by omega)⟩
      have hS0 := devS_start w d
      have HS0 := Lib.hid hS0
      go_enter Try.func32, Try.ntmps32
      go_wp2_with fail
      refine (specTileKind_any d t _).mono ?_
      rintro e w1 ⟨rfl, hb1⟩
      have hS1 := devS_step HS0.out hb1
      have HS1 := Lib.hid hS1
      clear hS0
      obtain ⟨c0, c1, c2, c3, -⟩ := hS1
      clear hb1
      have hz1 : w.heap.size < w1.heap.size := World.block_lt_of_cell? _ _ c0
      go_wp2_with fail
      refine (l01In_any _ _ _ _).mono ?_
      rintro e w' ⟨rfl, rfl⟩
      go_wp2_with fail
      refine (l01In_any _ _ _ _).mono ?_
      rintro e w' ⟨rfl, rfl⟩
      go_wp2
      go_region
      go_wp2
      go_region
      go_wp2_with (go_at_call 88; refine (l01In_any _ _ _ _).mono ?_; rintro e w' ⟨rfl, rfl⟩)
      go_ret
      exact ⟨rt_int hf.out.symm, bel_fin HS1.out⟩
end Go.Proofs.Ytnnkbpcfjjijbaa
