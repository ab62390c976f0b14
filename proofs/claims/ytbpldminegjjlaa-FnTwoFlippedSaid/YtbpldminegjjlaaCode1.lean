/- The walks of the codeword functions. -/
import Derived.Test.YtbpldminegjjlaaBase
import Derived.Test.YtbpldminegjjlaaCodeP
set_option linter.unusedVariables false
namespace Go.Proofs.Ytbpldminegjjlaa
open Go.RowKit
theorem chk_bits : ∀ p, p < 21 → (bits BinOp.and IntKind.i64 ((p : Nat) + 1 : Int) (p : Nat) == 0) = Bit.chk (p + 1) := by decide +kernel
set_option maxHeartbeats 400000 in
theorem isCheck_any (p : Nat) (w : World) (h : p < 21) :
    Calls Try.prog 42 #[.int .i64 ((p : Int) + 1)] w fun e w' => e = .returned (.bool (Bit.chk (p + 1))) ∧ w = w' := by
  have H := Lib.hid (chk_bits p h)
  go_enter Try.func42, Try.ntmps42
  go_wp2
  go_ret
  exact ⟨rt_bool H.out, rfl⟩
set_option maxHeartbeats 400000 in
theorem l39Power_any (p : Nat) (w : World) (h : p < 21) :
    Calls Try.prog 40 #[.int .i64 ((p : Int) + 1)] w fun e w' => e = .returned (.bool (Bit.chk (p + 1))) ∧ w = w' := by
  have H := Lib.hid (chk_bits p h)
  go_enter Try.func40, Try.ntmps40
  go_wp2
  go_ret
  exact ⟨rt_bool H.out, rfl⟩
theorem test_one (a k : Nat) (h : a < 4194304) : (bits BinOp.and IntKind.i64 ((a : Int) / 2 ^ k) 1 == 1) = decide (a / 2 ^ k % 2 = 1) := by
  have e : ((a : Int) / 2 ^ k) = ((a / 2 ^ k : Nat) : Int) := by simp
  have hle : a / 2 ^ k ≤ a := Nat.div_le_self _ _
  rw [e]
  generalize a / 2 ^ k = q at *
  rw [Bit.and_one _ (by omega) (by omega), Bool.eq_iff_iff]; simp; omega
theorem syn_step (a p : Nat) (h : a / 2 ^ p % 2 = 1) : Bit.synN a (p + 1) = Bit.synN a p ^^^ (p + 1) := by simp only [Bit.synN]; rw [h, Nat.one_mul]
theorem syn_stay (a p : Nat) (h : ¬ a / 2 ^ p % 2 = 1) : Bit.synN a (p + 1) = Bit.synN a p := by
  have := Bit.bit_lt a p
  simp only [Bit.synN]; rw [show a / 2 ^ p % 2 = 0 by omega, Nat.zero_mul, Nat.xor_zero]
set_option maxHeartbeats 400000 in
theorem syndrome_any (a : Nat) (h1 : a < 4194304) (w : World) :
    Calls Try.prog 37 #[.int .i64 (a : Int)] w fun e w' => e = .returned (.int .i64 (Bit.syn a : Nat)) ∧ w = w' := by
  go_enter Try.func37, Try.ntmps37
  go_wp2
  go_loop [3, 4] (fun o i => ∃ p : Nat, p ≤ 21 ∧ i = .int .i64 ((p : Int) + 1) ∧ o = .int .i64 (Bit.synN a p : Nat)) (fun _ i => 22 - (intOf i).toNat)
  case atStart => exact ⟨0, by omega, rfl, rfl⟩
  case round =>
    obtain ⟨p, hp, rfl, rfl⟩ := hrel
    have ht := Lib.hid (test_one a p h1)
    by_cases hlt : p < 21
    · have hs := Bit.synN_lt a p (by omega)
      have hx := Lib.hid (Bit.xor_nat (Bit.synN a p) (p + 1) (by omega) (by omega))
      by_cases hb : a / 2 ^ p % 2 = 1
      · have hst := Lib.hid (syn_step a p hb)
        have hT : (bits BinOp.and IntKind.i64 ((a : Int) / 2 ^ p) 1 == 1) = true := by rw [ht.out]; simp [hb]
        clear hb
        go_wp2
        go_round
        case rel => exact ⟨p + 1, by omega, by go_num, by rw [hst.out, ← hx.out]; go_num⟩
        case measure => simp [intOf]; omega
      · have hst := Lib.hid (syn_stay a p hb)
        have hT : (bits BinOp.and IntKind.i64 ((a : Int) / 2 ^ p) 1 == 1) = false := by rw [ht.out]; simp [hb]
        clear hb
        go_wp2
        go_round
        case rel => exact ⟨p + 1, by omega, by go_num, by rw [hst.out]⟩
        case measure => simp [intOf]; omega
    · obtain rfl : p = 21 := by omega
      go_wp2
      go_ret
      exact ⟨rfl, rfl⟩
end Go.Proofs.Ytbpldminegjjlaa
