/- Devices: the walks of the validity checks, and what a device by value is. -/
import Derived.Test.YtnnkbpcfjjijbaaBase
import Derived.Below
set_option linter.unusedVariables false
set_option linter.unusedSimpArgs false
namespace Go.Proofs.Ytnnkbpcfjjijbaa
open Go.RowKit
/-- a device, by value -/
structure Dev where
  W : Int
  H : Int
  T : Int
  R : Int
def devB (d : Dev) : Bool := inR d.W 3 6 && inR d.H 3 6 && inR d.T 1 4 && (d.R == -1 || inR d.R 1 (d.W - 2))
theorem devB_iff (d : Dev) : devB d = true ↔ (3 ≤ d.W ∧ d.W ≤ 6) ∧ (3 ≤ d.H ∧ d.H ≤ 6) ∧ (1 ≤ d.T ∧ d.T ≤ 4) ∧ (d.R = -1 ∨ (1 ≤ d.R ∧ d.R ≤ d.W - 2)) := by
  unfold devB; simp [inR_iff, Bool.and_eq_true, and_assoc]
set_option maxHeartbeats 1000000 in
theorem implDeviceOk_any (d : Dev) (w : World) :
    Calls Try.prog 23 #[.agg #[.int .i64 d.W, .int .i64 d.H, .int .i64 d.T, .int .i64 d.R]] w fun e w' => e = .returned (.bool (devB d)) ∧ Below w.heap.size w w' := by
  obtain ⟨W, H, T, R⟩ := d
  simp only
  rcases Bool.eq_false_or_eq_true (inR W 3 6) with h1 | h1
  rotate_left
  · have hf := Lib.hid (show devB ⟨W, H, T, R⟩ = false by simp [devB, h1])
    go_enter Try.func23, Try.ntmps23
    go_wp2_with (go_at_call 75; refine (inRange_any _ _ _ _).mono ?_; rintro e w' ⟨rfl, rfl⟩)
    go_ret
    exact ⟨rt_bool hf.out.symm, (Below.refl _ _).alloc (Nat.le_refl _) _⟩

  rcases Bool.eq_false_or_eq_true (inR H 3 6) with h2 | h2
  rotate_left
  · have hf := Lib.hid (show devB ⟨W, H, T, R⟩ = false by simp [devB, h2])
    go_enter Try.func23, Try.ntmps23
    go_wp2_with (go_at_call 75; refine (inRange_any _ _ _ _).mono ?_; rintro e w' ⟨rfl, rfl⟩)
    go_ret
    exact ⟨rt_bool hf.out.symm, (Below.refl _ _).alloc (Nat.le_refl _) _⟩

  rcases Bool.eq_false_or_eq_true (inR T 1 4) with h3 | h3
  rotate_left
  · have hf := Lib.hid (show devB ⟨W, H, T, R⟩ = false by simp [devB, h3])
    go_enter Try.func23, Try.ntmps23
    go_wp2_with (go_at_call 75; refine (inRange_any _ _ _ _).mono ?_; rintro e w' ⟨rfl, rfl⟩)
    go_ret
    exact ⟨rt_bool hf.out.symm, (Below.refl _ _).alloc (Nat.le_refl _) _⟩

  obtain ⟨hw1, hw2⟩ := (inR_iff _ _ _).1 h1
  rcases Bool.eq_false_or_eq_true (R == -1) with h4 | h4
  · have hf := Lib.hid (show devB ⟨W, H, T, R⟩ = true by simp [devB, h1, h2, h3, h4])
    go_enter Try.func23, Try.ntmps23
    go_wp2_with (go_at_call 75; refine (inRange_any _ _ _ _).mono ?_; rintro e w' ⟨rfl, rfl⟩)
    go_ret
    exact ⟨rt_bool hf.out.symm, (Below.refl _ _).alloc (Nat.le_refl _) _⟩

  · have hf := Lib.hid (show devB ⟨W, H, T, R⟩ = inR R 1 (W - 2) by simp [devB, h1, h2, h3, h4])
    go_enter Try.func23, Try.ntmps23
    go_wp2_with (go_at_call 75; refine (inRange_any _ _ _ _).mono ?_; rintro e w' ⟨rfl, rfl⟩)
    go_ret
    exact ⟨rt_bool hf.out.symm, (Below.refl _ _).alloc (Nat.le_refl _) _⟩

set_option maxHeartbeats 1000000 in
theorem specDeviceOk_any (d : Dev) (w : World) :
    Calls Try.prog 79 #[.agg #[.int .i64 d.W, .int .i64 d.H, .int .i64 d.T, .int .i64 d.R]] w fun e w' => e = .returned (.bool (devB d)) ∧ Below w.heap.size w w' := by
  obtain ⟨W, H, T, R⟩ := d
  simp only
  rcases Bool.eq_false_or_eq_true (inR W 3 6) with h1 | h1
  rotate_left
  · have hf := Lib.hid (show devB ⟨W, H, T, R⟩ = false by simp [devB, h1])
    go_enter Try.func79, Try.ntmps79
    go_wp2_with (go_at_call 88; refine (l01In_any _ _ _ _).mono ?_; rintro e w' ⟨rfl, rfl⟩)
    go_ret
    exact ⟨rt_bool hf.out.symm, (Below.refl _ _).alloc (Nat.le_refl _) _⟩

  rcases Bool.eq_false_or_eq_true (inR H 3 6) with h2 | h2
  rotate_left
  · have hf := Lib.hid (show devB ⟨W, H, T, R⟩ = false by simp [devB, h2])
    go_enter Try.func79, Try.ntmps79
    go_wp2_with (go_at_call 88; refine (l01In_any _ _ _ _).mono ?_; rintro e w' ⟨rfl, rfl⟩)
    go_ret
    exact ⟨rt_bool hf.out.symm, (Below.refl _ _).alloc (Nat.le_refl _) _⟩

  rcases Bool.eq_false_or_eq_true (inR T 1 4) with h3 | h3
  rotate_left
  · have hf := Lib.hid (show devB ⟨W, H, T, R⟩ = false by simp [devB, h3])
    go_enter Try.func79, Try.ntmps79
    go_wp2_with (go_at_call 88; refine (l01In_any _ _ _ _).mono ?_; rintro e w' ⟨rfl, rfl⟩)
    go_ret
    exact ⟨rt_bool hf.out.symm, (Below.refl _ _).alloc (Nat.le_refl _) _⟩

  obtain ⟨hw1, hw2⟩ := (inR_iff _ _ _).1 h1
  rcases Bool.eq_false_or_eq_true (R == -1) with h4 | h4
  · have hf := Lib.hid (show devB ⟨W, H, T, R⟩ = true by simp [devB, h1, h2, h3, h4])
    go_enter Try.func79, Try.ntmps79
    go_wp2_with (go_at_call 88; refine (l01In_any _ _ _ _).mono ?_; rintro e w' ⟨rfl, rfl⟩)
    go_ret
    exact ⟨rt_bool hf.out.symm, (Below.refl _ _).alloc (Nat.le_refl _) _⟩

  · have hf := Lib.hid (show devB ⟨W, H, T, R⟩ = inR R 1 (W - 2) by simp [devB, h1, h2, h3, h4])
    go_enter Try.func79, Try.ntmps79
    go_wp2_with (go_at_call 88; refine (l01In_any _ _ _ _).mono ?_; rintro e w' ⟨rfl, rfl⟩)
    go_ret
    exact ⟨rt_bool hf.out.symm, (Below.refl _ _).alloc (Nat.le_refl _) _⟩

end Go.Proofs.Ytnnkbpcfjjijbaa
