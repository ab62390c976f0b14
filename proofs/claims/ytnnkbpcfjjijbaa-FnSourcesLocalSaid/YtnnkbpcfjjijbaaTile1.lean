/- Tiles: kinds, steps, distances: the walks. -/
import Derived.Test.YtnnkbpcfjjijbaaDev
import Derived.Test.YtnnkbpcfjjijbaaMem
import Derived.Deep.QuietTactic
import Derived.BigQuiet
set_option linter.unusedVariables false
set_option linter.unusedSimpArgs false
namespace Go.Proofs.Ytnnkbpcfjjijbaa
open Go.RowKit
def kindI (d : Dev) (t : Int) : Int := if (t % d.W = 0 ∨ t % d.W = d.W - 1) ∨ (t / d.W = 0 ∨ t / d.W = d.H - 1) then 0 else if t % d.W = d.R then 2 else 1
theorem k1 {d : Dev} {t : Int} (h : t % d.W = 0) : 0 = kindI d t := by simp [kindI, h]
theorem k2 {d : Dev} {t : Int} (h : t % d.W = d.W - 1) : 0 = kindI d t := by simp [kindI, h]
theorem k3 {d : Dev} {t : Int} (h : t / d.W = 0) : 0 = kindI d t := by simp [kindI, h]
theorem k4 {d : Dev} {t : Int} (h : (((t % d.W == 0) = true ∨ (t % d.W == d.W - 1) = true) ∨ (t / d.W == 0) = true) ∨ (t / d.W == d.H - 1) = true) : 0 = kindI d t := by
  simp only [beq_iff_eq] at h
  rw [kindI, if_pos (by rcases h with ((h | h) | h) | h <;> simp [h])]
theorem k5 {d : Dev} {t : Int} (h : (((t % d.W == 0) = false ∧ (t % d.W == d.W - 1) = false) ∧ (t / d.W == 0) = false) ∧ (t / d.W == d.H - 1) = false) (h2 : (t % d.W == d.R) = true) : 2 = kindI d t := by
  simp only [beq_eq_false_iff_ne, beq_iff_eq] at h h2
  rw [kindI, if_neg (by simp [h]), if_pos h2]
theorem k6 {d : Dev} {t : Int} (h : (((t % d.W == 0) = false ∧ (t % d.W == d.W - 1) = false) ∧ (t / d.W == 0) = false) ∧ (t / d.W == d.H - 1) = false) (h2 : (t % d.W == d.R) = false) : 1 = kindI d t := by
  simp only [beq_eq_false_iff_ne] at h h2
  rw [kindI, if_neg (by simp [h]), if_neg h2]
set_option maxHeartbeats 1000000 in
theorem implTileKind0_any (d : Dev) (t : Int) (hd : devB d = true) (h0 : 0 ≤ t) (h1 : t ≤ 35) (w : World) :
    Calls Try.prog 78 #[.agg #[.int .i64 d.W, .int .i64 d.H, .int .i64 d.T, .int .i64 d.R], .int .i64 t] w fun e w' => e = .returned (.int .i64 (kindI d t)) ∧ Below w.heap.size w w' := by
  obtain ⟨⟨a1, a2⟩, ⟨b1, b2⟩, -, -⟩ := (devB_iff d).1 hd
  clear hd
  go_enter Try.func78, Try.ntmps78
  go_wp2
  go_quiet (fail)
  go_wp2
  all_goals go_ret
  all_goals refine ⟨rt_int ?_, bel_drewN (bel_alloc (Below.refl _ _) _) _⟩
  all_goals first | exact k1 (by assumption) | exact k2 (by assumption) | exact k3 (by assumption) | exact k4 (by assumption) | exact k5 (by assumption) (by assumption) | exact k6 (by assumption) (by assumption)
def tOk (d : Dev) (t : Int) : Bool := devB d && inR t 0 (d.W * d.H - 1)
theorem tOk_iff (d : Dev) (t : Int) : tOk d t = true ↔ devB d = true ∧ 0 ≤ t ∧ t ≤ d.W * d.H - 1 := by unfold tOk; rw [Bool.and_eq_true, inR_iff]
theorem area_le {d : Dev} (h : devB d = true) : 9 ≤ d.W * d.H ∧ d.W * d.H ≤ 36 := by
  obtain ⟨⟨a1, a2⟩, ⟨b1, b2⟩, -, -⟩ := (devB_iff d).1 h
  have h1 : 3 * 3 ≤ d.W * d.H := Int.mul_le_mul a1 b1 (by omega) (by omega)
  have h2 : d.W * d.H ≤ 6 * 6 := Int.mul_le_mul a2 b2 (by omega) (by omega)
  omega
set_option maxHeartbeats 1000000 in
theorem implTileOk_any (d : Dev) (t : Int) (w : World) :
    Calls Try.prog 74 #[.agg #[.int .i64 d.W, .int .i64 d.H, .int .i64 d.T, .int .i64 d.R], .int .i64 t] w fun e w' => e = .returned (.bool (tOk d t)) ∧ Below w.heap.size w w' := by
  rcases Bool.eq_false_or_eq_true (devB d) with hd | hd
  · have hf := Lib.hid (show tOk d t = inR t 0 (d.W * d.H - 1) by simp [tOk, hd])
    obtain ⟨m1, m2⟩ := area_le hd
    go_enter Try.func74, Try.ntmps74
    go_wp2_with fail
    refine (implDeviceOk_any d _).mono ?_
    rintro e w1 ⟨rfl, hb1⟩
    obtain ⟨hc1, hf1, hz1⟩ := bcell hb1
    have hy1 := bel_lt hb1
    go_wp2_with fail
    refine (inRange_any _ _ _ _).mono ?_
    rintro e w' ⟨rfl, rfl⟩
    go_wp2
    go_ret
    exact ⟨rt_bool hf.out.symm, bel_trans (bel_alloc (Below.refl _ _) _) hb1⟩
  · have hf := Lib.hid (show tOk d t = false by simp [tOk, hd])
    go_enter Try.func74, Try.ntmps74
    go_wp2_with fail
    refine (implDeviceOk_any d _).mono ?_
    rintro e w1 ⟨rfl, hb1⟩
    obtain ⟨hc1, hf1, hz1⟩ := bcell hb1
    have hy1 := bel_lt hb1
    go_wp2
    go_ret
    exact ⟨rt_bool hf.out.symm, bel_trans (bel_alloc (Below.refl _ _) _) hb1⟩
def tileKindI (d : Dev) (t : Int) : Int := if tOk d t = true then kindI d t else -1
theorem kind_cases (d : Dev) (t : Int) : kindI d t = 0 ∨ kindI d t = 1 ∨ kindI d t = 2 := by
  unfold kindI; split
  · simp
  · split <;> simp
set_option maxHeartbeats 1000000 in
theorem implTileKind_any (d : Dev) (t : Int) (w : World) :
    Calls Try.prog 22 #[.agg #[.int .i64 d.W, .int .i64 d.H, .int .i64 d.T, .int .i64 d.R], .int .i64 t] w fun e w' => e = .returned (.int .i64 (tileKindI d t)) ∧ Below w.heap.size w w' := by
  rcases Bool.eq_false_or_eq_true (tOk d t) with hd | hd
  · obtain ⟨hv, t0, t1⟩ := (tOk_iff d t).1 hd
    obtain ⟨m1, m2⟩ := area_le hv
    have hf := Lib.hid (show tileKindI d t = kindI d t from if_pos hd)
    go_enter Try.func22, Try.ntmps22
    go_wp2_with fail
    refine (implTileOk_any d t _).mono ?_
    rintro e w1 ⟨rfl, hb1⟩
    obtain ⟨hc1, hf1, hz1⟩ := bcell hb1
    have hy1 := bel_lt hb1
    go_wp2_with fail
    refine (implTileKind0_any d t hv t0 (by omega) _).mono ?_
    rintro e w2 ⟨rfl, hb2⟩
    obtain ⟨hc2, hf2, hz2⟩ := bcell hb2
    have hy2 := lt_bel hb2 hy1
    go_wp2
    go_ret
    exact ⟨rt_int hf.out.symm, bel_trans (bel_trans (bel_alloc (Below.refl _ _) _) hb1) hb2⟩
  · have hf := Lib.hid (show tileKindI d t = -1 from if_neg (by simp [hd]))
    go_enter Try.func22, Try.ntmps22
    go_wp2_with fail
    refine (implTileOk_any d t _).mono ?_
    rintro e w1 ⟨rfl, hb1⟩
    obtain ⟨hc1, hf1, hz1⟩ := bcell hb1
    have hy1 := bel_lt hb1
    go_wp2
    go_ret
    exact ⟨rt_int hf.out.symm, bel_trans (bel_alloc (Below.refl _ _) _) hb1⟩
def dX (dir s : Int) : Int := if dir = 0 then s else if dir = 2 then -s else 0
def dY (dir s : Int) : Int := if dir = 1 then s else if dir = 0 ∨ dir = 2 then 0 else -s
def stepI (d : Dev) (t dir s : Int) : Int :=
  if inR (t % d.W + dX dir s) 0 (d.W - 1) = true ∧ inR (t / d.W + dY dir s) 0 (d.H - 1) = true then (t / d.W + dY dir s) * d.W + (t % d.W + dX dir s) else -1
theorem step_out1 {d : Dev} {t dir s : Int} (h : inR (t % d.W + dX dir s) 0 (d.W - 1) = false) : -1 = stepI d t dir s := by simp [stepI, h]
theorem step_out2 {d : Dev} {t dir s : Int} (h : inR (t / d.W + dY dir s) 0 (d.H - 1) = false) : -1 = stepI d t dir s := by simp [stepI, h]
theorem step_in {d : Dev} {t dir s : Int} (h : inR (t % d.W + dX dir s) 0 (d.W - 1) = true) (h2 : inR (t / d.W + dY dir s) 0 (d.H - 1) = true) :
    (t / d.W + dY dir s) * d.W + (t % d.W + dX dir s) = stepI d t dir s := by simp [stepI, h, h2]
theorem tile_xy {d : Dev} {t : Int} (hv : devB d = true) (t0 : 0 ≤ t) (t1 : t ≤ d.W * d.H - 1) : 0 ≤ t % d.W ∧ t % d.W ≤ d.W - 1 ∧ 0 ≤ t / d.W ∧ t / d.W ≤ d.H - 1 ∧ t / d.W * d.W + t % d.W = t := by
  obtain ⟨⟨a1, a2⟩, ⟨b1, b2⟩, -, -⟩ := (devB_iff d).1 hv
  have h1 := Int.emod_nonneg t (show d.W ≠ 0 by omega)
  have h2 := Int.emod_lt_of_pos t (show 0 < d.W by omega)
  have h3 : 0 ≤ t / d.W := Int.ediv_nonneg t0 (by omega)
  have h4 : t / d.W < d.H := Int.ediv_lt_of_lt_mul (by omega) (by rw [Int.mul_comm]; omega)
  have h5 := Int.ediv_mul_add_emod t d.W
  exact ⟨h1, by omega, h3, by omega, h5⟩
set_option maxHeartbeats 1000000 in
theorem tileStep_d0 (d : Dev) (t s : Int) (hv : devB d = true) (t0 : 0 ≤ t) (t1 : t ≤ d.W * d.H - 1) (s0 : 0 ≤ s) (s1 : s ≤ 6) (w : World) :
    Calls Try.prog 76 #[.agg #[.int .i64 d.W, .int .i64 d.H, .int .i64 d.T, .int .i64 d.R], .int .i64 t, .int .i64 0, .int .i64 s] w fun e w' => e = .returned (.int .i64 (stepI d t 0 s)) ∧ Below w.heap.size w w' := by
  have ex : dX 0 s = s := by simp [dX]
  have ey : dY 0 s = 0 := by simp [dY]
  have gx : t % d.W + dX 0 s = t % d.W + s := by first | (rw [ex]; done) | (rw [ex]; omega)
  have gy : t / d.W + dY 0 s = t / d.W := by first | (rw [ey]; done) | (rw [ey]; omega)
  have o1 := @step_out1 d t 0 s
  have o2 := @step_out2 d t 0 s
  have o3 := @step_in d t 0 s
  rw [gx] at o1 o3
  rw [gy] at o2 o3
  clear ex ey gx gy
  obtain ⟨x0, x1, y0, y1, -⟩ := tile_xy hv t0 t1
  obtain ⟨m1, m2⟩ := area_le hv
  obtain ⟨⟨a1, a2⟩, ⟨b1, b2⟩, -, -⟩ := (devB_iff d).1 hv
  clear hv
  have z : t ≤ 35 := by omega
  rcases Bool.eq_false_or_eq_true (inR (t % d.W + s) 0 (d.W - 1)) with h1 | h1
  rotate_left
  · have hf := Lib.hid (o1 h1)
    clear o1 o2 o3
    go_enter Try.func76, Try.ntmps76
    go_wp2
    go_quiet (fail)
    go_wp2_with (go_at_call 75; refine (inRange_any _ _ _ _).mono ?_; rintro e w' ⟨rfl, rfl⟩)
    go_ret
    exact ⟨rt_int (by exact hf.out), bel_drewN (bel_alloc (Below.refl _ _) _) _⟩
  rcases Bool.eq_false_or_eq_true (inR (t / d.W) 0 (d.H - 1)) with h2 | h2
  rotate_left
  · have hf := Lib.hid (o2 h2)
    clear o1 o2 o3
    go_enter Try.func76, Try.ntmps76
    go_wp2
    go_quiet (fail)
    go_wp2_with (go_at_call 75; refine (inRange_any _ _ _ _).mono ?_; rintro e w' ⟨rfl, rfl⟩)
    go_ret
    exact ⟨rt_int (by exact hf.out), bel_drewN (bel_alloc (Below.refl _ _) _) _⟩
  · have hf := Lib.hid (o3 h1 h2)
    obtain ⟨i1, i2⟩ := (inR_iff _ _ _).1 h1
    obtain ⟨i3, i4⟩ := (inR_iff _ _ _).1 h2
    have i5 : 0 ≤ (t / d.W) * d.W ∧ (t / d.W) * d.W ≤ 36 := ⟨Int.mul_nonneg i3 (by omega), Int.le_trans (Int.mul_le_mul (show t / d.W ≤ 6 by omega) a2 (by omega) (by omega)) (by omega)⟩
    clear o1 o2 o3
    go_enter Try.func76, Try.ntmps76
    go_wp2
    go_quiet (fail)
    go_wp2_with (go_at_call 75; refine (inRange_any _ _ _ _).mono ?_; rintro e w' ⟨rfl, rfl⟩)
    go_ret
    exact ⟨rt_int (by exact hf.out), bel_drewN (bel_alloc (Below.refl _ _) _) _⟩
set_option maxHeartbeats 1000000 in
theorem tileStep_d1 (d : Dev) (t s : Int) (hv : devB d = true) (t0 : 0 ≤ t) (t1 : t ≤ d.W * d.H - 1) (s0 : 0 ≤ s) (s1 : s ≤ 6) (w : World) :
    Calls Try.prog 76 #[.agg #[.int .i64 d.W, .int .i64 d.H, .int .i64 d.T, .int .i64 d.R], .int .i64 t, .int .i64 1, .int .i64 s] w fun e w' => e = .returned (.int .i64 (stepI d t 1 s)) ∧ Below w.heap.size w w' := by
  have ex : dX 1 s = 0 := by simp [dX]
  have ey : dY 1 s = s := by simp [dY]
  have gx : t % d.W + dX 1 s = t % d.W := by first | (rw [ex]; done) | (rw [ex]; omega)
  have gy : t / d.W + dY 1 s = t / d.W + s := by first | (rw [ey]; done) | (rw [ey]; omega)
  have o1 := @step_out1 d t 1 s
  have o2 := @step_out2 d t 1 s
  have o3 := @step_in d t 1 s
  rw [gx] at o1 o3
  rw [gy] at o2 o3
  clear ex ey gx gy
  obtain ⟨x0, x1, y0, y1, -⟩ := tile_xy hv t0 t1
  obtain ⟨m1, m2⟩ := area_le hv
  obtain ⟨⟨a1, a2⟩, ⟨b1, b2⟩, -, -⟩ := (devB_iff d).1 hv
  clear hv
  have z : t ≤ 35 := by omega
  rcases Bool.eq_false_or_eq_true (inR (t % d.W) 0 (d.W - 1)) with h1 | h1
  rotate_left
  · have hf := Lib.hid (o1 h1)
    clear o1 o2 o3
    go_enter Try.func76, Try.ntmps76
    go_wp2
    go_quiet (fail)
    go_wp2_with (go_at_call 75; refine (inRange_any _ _ _ _).mono ?_; rintro e w' ⟨rfl, rfl⟩)
    go_ret
    exact ⟨rt_int (by exact hf.out), bel_drewN (bel_alloc (Below.refl _ _) _) _⟩
  rcases Bool.eq_false_or_eq_true (inR (t / d.W + s) 0 (d.H - 1)) with h2 | h2
  rotate_left
  · have hf := Lib.hid (o2 h2)
    clear o1 o2 o3
    go_enter Try.func76, Try.ntmps76
    go_wp2
    go_quiet (fail)
    go_wp2_with (go_at_call 75; refine (inRange_any _ _ _ _).mono ?_; rintro e w' ⟨rfl, rfl⟩)
    go_ret
    exact ⟨rt_int (by exact hf.out), bel_drewN (bel_alloc (Below.refl _ _) _) _⟩
  · have hf := Lib.hid (o3 h1 h2)
    obtain ⟨i1, i2⟩ := (inR_iff _ _ _).1 h1
    obtain ⟨i3, i4⟩ := (inR_iff _ _ _).1 h2
    have i5 : 0 ≤ (t / d.W + s) * d.W ∧ (t / d.W + s) * d.W ≤ 36 := ⟨Int.mul_nonneg i3 (by omega), Int.le_trans (Int.mul_le_mul (show t / d.W + s ≤ 6 by omega) a2 (by omega) (by omega)) (by omega)⟩
    clear o1 o2 o3
    go_enter Try.func76, Try.ntmps76
    go_wp2
    go_quiet (fail)
    go_wp2_with (go_at_call 75; refine (inRange_any _ _ _ _).mono ?_; rintro e w' ⟨rfl, rfl⟩)
    go_ret
    exact ⟨rt_int (by exact hf.out), bel_drewN (bel_alloc (Below.refl _ _) _) _⟩
set_option maxHeartbeats 1000000 in
theorem tileStep_d2 (d : Dev) (t s : Int) (hv : devB d = true) (t0 : 0 ≤ t) (t1 : t ≤ d.W * d.H - 1) (s0 : 0 ≤ s) (s1 : s ≤ 6) (w : World) :
    Calls Try.prog 76 #[.agg #[.int .i64 d.W, .int .i64 d.H, .int .i64 d.T, .int .i64 d.R], .int .i64 t, .int .i64 2, .int .i64 s] w fun e w' => e = .returned (.int .i64 (stepI d t 2 s)) ∧ Below w.heap.size w w' := by
  have ex : dX 2 s = -s := by simp [dX]
  have ey : dY 2 s = 0 := by simp [dY]
  have gx : t % d.W + dX 2 s = t % d.W - s := by first | (rw [ex]; done) | (rw [ex]; omega)
  have gy : t / d.W + dY 2 s = t / d.W := by first | (rw [ey]; done) | (rw [ey]; omega)
  have o1 := @step_out1 d t 2 s
  have o2 := @step_out2 d t 2 s
  have o3 := @step_in d t 2 s
  rw [gx] at o1 o3
  rw [gy] at o2 o3
  clear ex ey gx gy
  obtain ⟨x0, x1, y0, y1, -⟩ := tile_xy hv t0 t1
  obtain ⟨m1, m2⟩ := area_le hv
  obtain ⟨⟨a1, a2⟩, ⟨b1, b2⟩, -, -⟩ := (devB_iff d).1 hv
  clear hv
  have z : t ≤ 35 := by omega
  rcases Bool.eq_false_or_eq_true (inR (t % d.W - s) 0 (d.W - 1)) with h1 | h1
  rotate_left
  · have hf := Lib.hid (o1 h1)
    clear o1 o2 o3
    go_enter Try.func76, Try.ntmps76
    go_wp2
    go_quiet (fail)
    go_wp2_with (go_at_call 75; refine (inRange_any _ _ _ _).mono ?_; rintro e w' ⟨rfl, rfl⟩)
    go_ret
    exact ⟨rt_int (by exact hf.out), bel_drewN (bel_alloc (Below.refl _ _) _) _⟩
  rcases Bool.eq_false_or_eq_true (inR (t / d.W) 0 (d.H - 1)) with h2 | h2
  rotate_left
  · have hf := Lib.hid (o2 h2)
    clear o1 o2 o3
    go_enter Try.func76, Try.ntmps76
    go_wp2
    go_quiet (fail)
    go_wp2_with (go_at_call 75; refine (inRange_any _ _ _ _).mono ?_; rintro e w' ⟨rfl, rfl⟩)
    go_ret
    exact ⟨rt_int (by exact hf.out), bel_drewN (bel_alloc (Below.refl _ _) _) _⟩
  · have hf := Lib.hid (o3 h1 h2)
    obtain ⟨i1, i2⟩ := (inR_iff _ _ _).1 h1
    obtain ⟨i3, i4⟩ := (inR_iff _ _ _).1 h2
    have i5 : 0 ≤ (t / d.W) * d.W ∧ (t / d.W) * d.W ≤ 36 := ⟨Int.mul_nonneg i3 (by omega), Int.le_trans (Int.mul_le_mul (show t / d.W ≤ 6 by omega) a2 (by omega) (by omega)) (by omega)⟩
    clear o1 o2 o3
    go_enter Try.func76, Try.ntmps76
    go_wp2
    go_quiet (fail)
    go_wp2_with (go_at_call 75; refine (inRange_any _ _ _ _).mono ?_; rintro e w' ⟨rfl, rfl⟩)
    go_ret
    exact ⟨rt_int (by exact hf.out), bel_drewN (bel_alloc (Below.refl _ _) _) _⟩
set_option maxHeartbeats 1000000 in
theorem tileStep_d3 (d : Dev) (t dir s : Int) (n0 : (dir == 0) = false) (n1 : (dir == 1) = false) (n2 : (dir == 2) = false) (hv : devB d = true) (t0 : 0 ≤ t) (t1 : t ≤ d.W * d.H - 1) (s0 : 0 ≤ s) (s1 : s ≤ 6) (w : World) :
    Calls Try.prog 76 #[.agg #[.int .i64 d.W, .int .i64 d.H, .int .i64 d.T, .int .i64 d.R], .int .i64 t, .int .i64 dir, .int .i64 s] w fun e w' => e = .returned (.int .i64 (stepI d t dir s)) ∧ Below w.heap.size w w' := by
  have m0 : ¬ dir = 0 := by simpa using n0
  have m1' : ¬ dir = 1 := by simpa using n1
  have m2' : ¬ dir = 2 := by simpa using n2
  have ex : dX dir s = 0 := by simp [dX, m0, m2']
  have ey : dY dir s = -s := by simp [dY, m0, m1', m2']
  clear m0 m1' m2'
  have gx : t % d.W + dX dir s = t % d.W := by first | (rw [ex]; done) | (rw [ex]; omega)
  have gy : t / d.W + dY dir s = t / d.W - s := by first | (rw [ey]; done) | (rw [ey]; omega)
  have o1 := @step_out1 d t dir s
  have o2 := @step_out2 d t dir s
  have o3 := @step_in d t dir s
  rw [gx] at o1 o3
  rw [gy] at o2 o3
  clear ex ey gx gy
  obtain ⟨x0, x1, y0, y1, -⟩ := tile_xy hv t0 t1
  obtain ⟨m1, m2⟩ := area_le hv
  obtain ⟨⟨a1, a2⟩, ⟨b1, b2⟩, -, -⟩ := (devB_iff d).1 hv
  clear hv
  have z : t ≤ 35 := by omega
  rcases Bool.eq_false_or_eq_true (inR (t % d.W) 0 (d.W - 1)) with h1 | h1
  rotate_left
  · have hf := Lib.hid (o1 h1)
    clear o1 o2 o3
    go_enter Try.func76, Try.ntmps76
    go_wp2
    go_quiet (fail)
    go_wp2_with (go_at_call 75; refine (inRange_any _ _ _ _).mono ?_; rintro e w' ⟨rfl, rfl⟩)
    go_ret
    exact ⟨rt_int (by exact hf.out), bel_drewN (bel_alloc (Below.refl _ _) _) _⟩
  rcases Bool.eq_false_or_eq_true (inR (t / d.W - s) 0 (d.H - 1)) with h2 | h2
  rotate_left
  · have hf := Lib.hid (o2 h2)
    clear o1 o2 o3
    go_enter Try.func76, Try.ntmps76
    go_wp2
    go_quiet (fail)
    go_wp2_with (go_at_call 75; refine (inRange_any _ _ _ _).mono ?_; rintro e w' ⟨rfl, rfl⟩)
    go_ret
    exact ⟨rt_int (by exact hf.out), bel_drewN (bel_alloc (Below.refl _ _) _) _⟩
  · have hf := Lib.hid (o3 h1 h2)
    obtain ⟨i1, i2⟩ := (inR_iff _ _ _).1 h1
    obtain ⟨i3, i4⟩ := (inR_iff _ _ _).1 h2
    have i5 : 0 ≤ (t / d.W - s) * d.W ∧ (t / d.W - s) * d.W ≤ 36 := ⟨Int.mul_nonneg i3 (by omega), Int.le_trans (Int.mul_le_mul (show t / d.W - s ≤ 6 by omega) a2 (by omega) (by omega)) (by omega)⟩
    clear o1 o2 o3
    go_enter Try.func76, Try.ntmps76
    go_wp2
    go_quiet (fail)
    go_wp2_with (go_at_call 75; refine (inRange_any _ _ _ _).mono ?_; rintro e w' ⟨rfl, rfl⟩)
    go_ret
    exact ⟨rt_int (by exact hf.out), bel_drewN (bel_alloc (Below.refl _ _) _) _⟩
end Go.Proofs.Ytnnkbpcfjjijbaa
