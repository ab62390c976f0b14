/- The walks of the two encoders. -/
import Derived.Test.YtbpldminegjjlaaCode2
import Derived.Deep.QuietTactic
import Derived.BigQuiet
set_option linter.unusedVariables false
namespace Go.Proofs.Ytbpldminegjjlaa
open Go.RowKit
theorem enc_skip (a p : Nat) (h : Bit.chk (p + 1) = true) : Bit.encN a (p + 1) = Bit.encN a p ∧ Bit.kOf (p + 1) = Bit.kOf p := by simp [Bit.encN, Bit.kOf, h]
theorem enc_take (a p : Nat) (h : Bit.chk (p + 1) = false) : Bit.encN a (p + 1) = Bit.encN a p + (a / 2 ^ Bit.kOf p % 2) * 2 ^ p ∧ Bit.kOf (p + 1) = Bit.kOf p + 1 := by simp [Bit.encN, Bit.kOf, h]
theorem enc_small (a p : Nat) (h : p ≤ 21) : Bit.encN a p < 2097152 :=
  Nat.lt_of_lt_of_le (Bit.encN_lt a p) (Nat.pow_le_pow_right (n := 2) (by decide) h)
theorem chN_small (d : Nat) (hd : d < 65536) (b : Nat) (hb : b ≤ 5) : Bit.chN (Bit.syn (Bit.encN d 21)) (Bit.encN d 21) b < 2097152 := by
  have := (Bit.chN_bit (Bit.syn (Bit.encN d 21)) (Bit.encN d 21) (Bit.encN_check d hd) b hb).1
  rw [this]; exact Bit.posX_lt _ _ _ hb (Bit.encN_lt d 21)
theorem pos_val : ∀ b, b < 5 → min (IntKind.u64.wrap (IntKind.u64.wrap (2 ^ b) - 1)).toNat 64 = 2 ^ b - 1 := by decide +kernel
theorem chN_val (s c b : Nat) (hb : b < 5) (hc : Bit.chN s c b < 4194304) :
    wrap64 ((Bit.chN s c b : Nat) + wrap64 (((s / 2 ^ b % 2 : Nat) : Int) * 2 ^ min (IntKind.u64.wrap (IntKind.u64.wrap (2 ^ b) - 1)).toNat 64)) = ((Bit.chN s c (b + 1) : Nat) : Int) := by
  rw [pos_val b hb]
  have : ∀ b, b < 5 → 2 ^ b - 1 ≤ 21 := by decide
  exact add_shl _ _ _ hc (this b hb) (Bit.bit_lt s b)
theorem enc_last (a : Nat) (h : a < 65536) : (Bit.enc1 a : Int) + (Bit.pop (Bit.enc1 a) 22 : Int) % 2 * 2097152 = (Bit.enc a : Nat) := by
  unfold Bit.enc; omega
set_option maxHeartbeats 1000000 in
theorem specEncode_in (a : Nat) (h1 : a < 65536) (w : World) :
    Calls Try.prog 22 #[.int .i64 (a : Int)] w fun e w' => e = .returned (.int .i64 (Bit.enc a : Nat)) ∧ ∃ n, w' = w.drewN n := by
  have hr : inR (a : Int) 0 65535 = true := inR_true (by omega) (by omega)
  go_enter Try.func22, Try.ntmps22
  go_wp2_with (go_at_call 35; refine (l01In_any _ _ _ _).mono ?_; rintro e w' ⟨rfl, rfl⟩)
  clear hr
  go_loop [3, 4, 5] (fun o k i => ∃ p : Nat, p ≤ 21 ∧ i = .int .i64 ((p : Int) + 1) ∧ o = .int .i64 (Bit.encN a p : Nat) ∧ k = .int .i64 (Bit.kOf p : Nat)) (fun _ _ i => 22 - (intOf i).toNat)
  case atStart => exact ⟨0, by omega, rfl, rfl, rfl⟩
  case round =>
    obtain ⟨p, hp, rfl, rfl, rfl⟩ := hrel
    by_cases hlt : p < 21
    · have hk := kOf_lt p hp
      have hd := enc_small a p hp
      have hx := Lib.hid (and_bit1 a (Bit.kOf p) (by omega))
      by_cases hck : Bit.chk (p + 1) = true
      · obtain ⟨e1, e2⟩ := enc_skip a p hck
        have E1 := Lib.hid e1
        have E2 := Lib.hid e2
        clear e1 e2
        go_wp2_with (go_at_call 40; refine (l39Power_any p _ hlt).mono ?_; rintro e w' ⟨rfl, rfl⟩)
        go_round
        case rel => exact ⟨p + 1, by omega, by go_num, by rw [E1.out], by rw [E2.out]⟩
        case measure => simp [intOf]; omega
      · have hck : Bit.chk (p + 1) = false := by simpa using hck
        obtain ⟨e1, e2⟩ := enc_take a p hck
        have E1 := Lib.hid e1
        have E2 := Lib.hid e2
        clear e1 e2
        have hy : 0 ≤ bits BinOp.and IntKind.i64 ((a : Int) / 2 ^ Bit.kOf p) 1 ∧ bits BinOp.and IntKind.i64 ((a : Int) / 2 ^ Bit.kOf p) 1 ≤ 1 := by rw [hx.out]; omega
        go_wp2_with (go_at_call 40; refine (l39Power_any p _ hlt).mono ?_; rintro e w' ⟨rfl, rfl⟩)
        have hfin := add_shl (Bit.encN a p) _ p (by omega) (by omega) (Bit.bit_lt a (Bit.kOf p))
        go_round
        case rel => exact ⟨p + 1, by omega, by go_num, by rw [E1.out, hx.out, hfin], by rw [E2.out]; go_num⟩
        case measure => simp [intOf]; omega
    · obtain rfl : p = 21 := by omega
      have hs := enc_small a 21 (by omega)
      go_wp2_with (first | (go_at_call 16; refine (specSyndrome_in (Bit.encN a 21) (by omega) _).mono ?_; rintro e w' ⟨rfl, rfl⟩))
      go_loopw [3, 7] (fun o i wr => ∃ b n : Nat, b ≤ 5 ∧ wr = w.drewN n ∧ i = .int .i64 (b : Int) ∧ o = .int .i64 (Bit.chN (Bit.syn (Bit.encN a 21)) (Bit.encN a 21) b : Nat)) (fun _ i _ => 5 - (intOf i).toNat)
      case atStart => exact ⟨0, 0, by omega, rfl, rfl, rfl⟩
      case round =>
        obtain ⟨b, n, hb, rfl, rfl, rfl⟩ := hrel
        have hc := chN_small a h1 b hb
        by_cases hlt : b < 5
        · have hx := Lib.hid (and_bit1 (Bit.syn (Bit.encN a 21)) b (Nat.lt_of_lt_of_le (Bit.synN_lt _ 21 (by omega)) (by decide)))
          go_wp2
          go_quiet (fail)
          go_wp2
          have hv := chN_val (Bit.syn (Bit.encN a 21)) (Bit.encN a 21) b hlt (by omega)
          go_roundw
          case rel => exact ⟨b + 1, _, by omega, rfl, by go_num, by rw [hx.out, hv]⟩
          case measure => simp [intOf]; omega
        · obtain rfl : b = 5 := by omega
          go_wp2_with (first | (go_at_call 38; refine (l39Ones_any (Bit.enc1 a) (by have := Bit.enc1_lt a h1; omega) _).mono ?_; rintro e w' ⟨rfl, rfl⟩))
          go_ret
          have hb2 := Bit.enc1_lt a h1
          refine ⟨rt_int ?_, _, rfl⟩
          exact enc_last a h1
set_option maxHeartbeats 400000 in
theorem specEncode_out (a : Int) (h1 : a < 0 ∨ 65535 < a) (w : World) :
    Calls Try.prog 22 #[.int .i64 a] w fun e w' => e = .returned (.int .i64 (-1)) ∧ w = w' := by
  have hr : inR a 0 65535 = false := inR_false h1
  clear h1
  go_enter Try.func22, Try.ntmps22
  go_wp2_with (go_at_call 35; refine (l01In_any _ _ _ _).mono ?_; rintro e w' ⟨rfl, rfl⟩)
  go_ret
  exact ⟨rfl, rfl⟩
end Go.Proofs.Ytbpldminegjjlaa
