/- The walk of the law FnFarApart. -/
import Derived.Test.YtbpldminegjjlaaByt
import Derived.Test.YtbpldminegjjlaaCode5
import Derived.Below
set_option linter.unusedVariables false
namespace Go.Proofs.Ytbpldminegjjlaa
open Go.RowKit

theorem word_lt {x y : Nat} (hx : x ≤ 255) (hy : y ≤ 255) : x * 256 + y < 65536 := by omega
theorem word_cast (x y : Nat) : (x : Int) * 256 + (y : Int) = ((x * 256 + y : Nat) : Int) := by omega
theorem far_eq {b0 b1 b2 b3 : Nat} (h : b0 * 256 + b1 = b2 * 256 + b3) : ((b0 : Int) * 256 + b1 == (b2 : Int) * 256 + b3) = true := by
  rw [beq_iff_eq]; omega
theorem far_ne {b0 b1 b2 b3 : Nat} (h : ¬ b0 * 256 + b1 = b2 * 256 + b3) : ((b0 : Int) * 256 + b1 == (b2 : Int) * 256 + b3) = false ∧ ((b0 : Int) * 256 + b1 != (b2 : Int) * 256 + b3) = true := by
  have : ¬ ((b0 : Int) * 256 + b1 = (b2 : Int) * 256 + b3) := by omega
  exact ⟨beq_eq_false_iff_ne.2 this, bne_iff_ne.2 this⟩
theorem far_zero {b0 b1 b2 b3 : Nat} (h : b0 * 256 + b1 = b2 * 256 + b3) : ((Bit.pop (Bit.enc (b0 * 256 + b1) ^^^ Bit.enc (b2 * 256 + b3)) 22 : Nat) : Int) = 0 := by
  rw [h, Bit.pop_self]; rfl
theorem eq_cast (x y : Nat) (h : x = y) : ((x : Int) == (y : Int)) = true := by simp [h]
theorem ne_cast (x y : Nat) (h : x ≠ y) : ((x : Int) == (y : Int)) = false ∧ ((x : Int) != (y : Int)) = true := by
  have : ¬ (x : Int) = y := by omega
  exact ⟨beq_eq_false_iff_ne.2 this, bne_iff_ne.2 this⟩
set_option maxHeartbeats 400000 in
theorem far_tail (b0 b1 b2 b3 : Nat) (c0 : b0 ≤ 255) (c1 : b1 ≤ 255) (c2 : b2 ≤ 255) (c3 : b3 ≤ 255) (a0 : Option Addr) (len0 cap0 : Nat) (w : World)
    (hbig : len0 ≤ 1048576)
    (A0 : Hid (Calls Try.prog 27 #[.slice a0 len0 cap0, .int .i64 0] w fun e w' => e = .returned (.int .i64 (b0 : Nat)) ∧ w = w'))
    (A1 : Hid (Calls Try.prog 27 #[.slice a0 len0 cap0, .int .i64 1] w fun e w' => e = .returned (.int .i64 (b1 : Nat)) ∧ w = w'))
    (A2 : Hid (Calls Try.prog 27 #[.slice a0 len0 cap0, .int .i64 2] w fun e w' => e = .returned (.int .i64 (b2 : Nat)) ∧ w = w'))
    (A3 : Hid (Calls Try.prog 27 #[.slice a0 len0 cap0, .int .i64 3] w fun e w' => e = .returned (.int .i64 (b3 : Nat)) ∧ w = w')) :
    Calls Try.prog 9 #[.slice a0 len0 cap0] w fun e w' => e = .returned (.bool true) ∧ w = w' := by
  have hx := word_lt c0 c1
  have hy := word_lt c2 c3
  have lx := Bit.enc_lt _ hx
  have ly := Bit.enc_lt _ hy
  by_cases hxy : b0 * 256 + b1 = b2 * 256 + b3
  · have hT := far_eq hxy
    have hP := far_zero hxy
    clear hxy
    go_enter Try.func9, Try.ntmps9
    go_wp2_with (first
      | (go_at_call 26; refine (big_no a0 len0 cap0 _ hbig).mono ?_; rintro e w' ⟨rfl, rfl⟩)
      | (go_at_call 27; ((with_reducible refine A0.out.mono ?_)); rintro e w' ⟨rfl, rfl⟩)
      | (go_at_call 27; ((with_reducible refine A1.out.mono ?_)); rintro e w' ⟨rfl, rfl⟩)
      | (go_at_call 27; ((with_reducible refine A2.out.mono ?_)); rintro e w' ⟨rfl, rfl⟩)
      | (go_at_call 27; ((with_reducible refine A3.out.mono ?_)); rintro e w' ⟨rfl, rfl⟩)
      | (go_at_call 23; rw [word_cast b0 b1]; ((with_reducible refine (implEncode_in (b0 * 256 + b1) hx _).mono ?_)); rintro e w' ⟨rfl, rfl⟩)
      | (go_at_call 23; rw [word_cast b2 b3]; ((with_reducible refine (implEncode_in (b2 * 256 + b3) hy _).mono ?_)); rintro e w' ⟨rfl, rfl⟩)
      | (go_at_call 19; ((with_reducible refine (implDist_in _ _ lx ly _).mono ?_)); rintro e w' ⟨rfl, rfl⟩))
    go_ret
    exact ⟨rfl, rfl⟩
  · have hT := far_ne hxy
    have hP := Bit.far _ _ hx hy hxy
    clear hxy
    go_enter Try.func9, Try.ntmps9
    go_wp2_with (first
      | (go_at_call 26; refine (big_no a0 len0 cap0 _ hbig).mono ?_; rintro e w' ⟨rfl, rfl⟩)
      | (go_at_call 27; ((with_reducible refine A0.out.mono ?_)); rintro e w' ⟨rfl, rfl⟩)
      | (go_at_call 27; ((with_reducible refine A1.out.mono ?_)); rintro e w' ⟨rfl, rfl⟩)
      | (go_at_call 27; ((with_reducible refine A2.out.mono ?_)); rintro e w' ⟨rfl, rfl⟩)
      | (go_at_call 27; ((with_reducible refine A3.out.mono ?_)); rintro e w' ⟨rfl, rfl⟩)
      | (go_at_call 23; rw [word_cast b0 b1]; ((with_reducible refine (implEncode_in (b0 * 256 + b1) hx _).mono ?_)); rintro e w' ⟨rfl, rfl⟩)
      | (go_at_call 23; rw [word_cast b2 b3]; ((with_reducible refine (implEncode_in (b2 * 256 + b3) hy _).mono ?_)); rintro e w' ⟨rfl, rfl⟩)
      | (go_at_call 19; ((with_reducible refine (implDist_in _ _ lx ly _).mono ?_)); rintro e w' ⟨rfl, rfl⟩))
    go_ret
    exact ⟨rt_bool (decide_eq_true (by omega)), rfl⟩
theorem walk_FnFarApart (a0 : Option Addr) (len0 cap0 : Nat) (z0 : List Int) (w : World) (w0 : BRow .u8 w a0 len0 cap0 z0) :
    Calls Try.prog 9 #[.slice a0 len0 cap0] w fun e w' => e = .returned (.bool true) ∧ Below w.heap.size w w' := by
  have hb : BRow .u8 w a0 len0 cap0 z0 := w0
  have hlen := hb.len_le
  by_cases hbig : 1048576 < len0
  · go_enter Try.func9, Try.ntmps9
    go_wp2_with (go_at_call 26; refine (big_yes a0 len0 cap0 _ hlen hbig).mono ?_; rintro e w' ⟨rfl, rfl⟩)
    go_ret
    exact ⟨rfl, Below.refl _ _⟩
  · have hat := fun (i : Nat) (hi : i ≤ 1000000) => at_any a0 len0 cap0 z0 w hb i hi
    exact (far_tail _ _ _ _ (cod_le hb 0) (cod_le hb 1) (cod_le hb 2) (cod_le hb 3) a0 len0 cap0 w (by omega) (Lib.hid (hat 0 (by omega))) (Lib.hid (hat 1 (by omega))) (Lib.hid (hat 2 (by omega))) (Lib.hid (hat 3 (by omega)))).mono
      fun _ _ ⟨he, hw⟩ => ⟨he, hw ▸ Below.refl _ _⟩
end Go.Proofs.Ytbpldminegjjlaa
