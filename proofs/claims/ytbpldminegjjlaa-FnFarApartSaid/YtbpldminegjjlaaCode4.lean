/- The walk of the program's encoder. -/
import Derived.Test.YtbpldminegjjlaaCode3
set_option linter.unusedVariables false
namespace Go.Proofs.Ytbpldminegjjlaa
open Go.RowKit
theorem test_bit (s k : Nat) (hs : s < 32) (hk : k < 5) : (bits BinOp.and IntKind.i64 (s : Int) ((2 ^ k : Nat) : Int) != 0) = decide (s / 2 ^ k % 2 = 1) := by
  have : ∀ k : Nat, k < 5 → ∀ s : Nat, s < 32 → (bits BinOp.and IntKind.i64 (s : Int) ((2 ^ k : Nat) : Int) != 0) = decide (s / 2 ^ k % 2 = 1) := by decide +kernel
  exact this k hk s hs
theorem chN_or (s c b : Nat) (hb : b < 5) (hc : Bit.chN s c b < 2097152) (hz : Bit.chN s c b / 2 ^ (2 ^ b - 1) % 2 = 0) (h : s / 2 ^ b % 2 = 1) :
    bits BinOp.or IntKind.i64 ((Bit.chN s c b : Nat) : Int) ((2 ^ (2 ^ b - 1) : Nat) : Int) = ((Bit.chN s c (b + 1) : Nat) : Int) := by
  have : ∀ b, b < 5 → 2 ^ (2 ^ b - 1) < 4194304 := by decide
  rw [Bit.or_nat _ _ (by omega) (by have := this b hb; omega)]
  have e := Bit.or_bit (Bit.chN s c b) (2 ^ b - 1) 1 hz (by decide)
  rw [Nat.one_mul] at e
  rw [e, Bit.chN, h, Nat.one_mul]
theorem chN_not (s c b : Nat) (h : ¬ s / 2 ^ b % 2 = 1) : Bit.chN s c (b + 1) = Bit.chN s c b := by
  have := Bit.bit_lt s b
  rw [Bit.chN, show s / 2 ^ b % 2 = 0 by omega, Nat.zero_mul, Nat.add_zero]
theorem enc_last_or (a : Nat) (h : a < 65536) : bits BinOp.or IntKind.i64 (Bit.enc1 a : Int) (wrap64 (bits BinOp.and IntKind.i64 (Bit.pop (Bit.enc1 a) 22 : Int) 1 * 2097152)) = (Bit.enc a : Nat) := by
  have h1 := Bit.enc1_lt a h
  have h2 := Bit.pop_le (Bit.enc1 a) 22
  have h3 : Bit.pop (Bit.enc1 a) 22 % 2 < 2 := Nat.mod_lt _ (by decide)
  rw [Bit.and_one _ (by omega) (by omega)]
  have e : ((Bit.pop (Bit.enc1 a) 22 : Int) % 2 * 2097152) = ((Bit.pop (Bit.enc1 a) 22 % 2 * 2 ^ 21 : Nat) : Int) := by omega
  rw [e, IntWalk.wrap64_in _ (by omega), Bit.or_nat _ _ (by omega) (by omega), Bit.or_join _ _ 21 (by omega)]; rfl
set_option maxHeartbeats 1000000 in
theorem implEncode_in (a : Nat) (h1 : a < 65536) (w : World) :
    Calls Try.prog 23 #[.int .i64 (a : Int)] w fun e w' => e = .returned (.int .i64 (Bit.enc a : Nat)) ∧ w = w' := by
  have hr : inR (a : Int) 0 65535 = true := inR_true (by omega) (by omega)
  go_enter Try.func23, Try.ntmps23
  go_wp2_with (go_at_call 36; refine (inRange_any _ _ _ _).mono ?_; rintro e w' ⟨rfl, rfl⟩)
  clear hr
  go_loop [3, 4, 5] (fun o k i => ∃ p : Nat, p ≤ 21 ∧ i = .int .i64 ((p : Int) + 1) ∧ o = .int .i64 (Bit.encN a p : Nat) ∧ k = .int .i64 (Bit.kOf p : Nat)) (fun _ _ i => 22 - (intOf i).toNat)
  case atStart => exact ⟨0, by omega, rfl, rfl, rfl⟩
  case round =>
    obtain ⟨p, hp, rfl, rfl, rfl⟩ := hrel
    by_cases hlt : p < 21
    · have hk := kOf_lt p hp
      have hd := enc_small a p hp
      have hx := Lib.hid (and_bit1 a (Bit.kOf p) (by omega))
      by_cases hck : Bit.chk (p + 1) = true
      · obtain ⟨e1, e2⟩ := enc_skip a p hck
        have E1 := Lib.hid e1
        have E2 := Lib.hid e2
        clear e1 e2
        go_wp2_with (go_at_call 42; refine (isCheck_any p _ hlt).mono ?_; rintro e w' ⟨rfl, rfl⟩)
        go_round
        case rel => exact ⟨p + 1, by omega, by go_num, by rw [E1.out], by rw [E2.out]⟩
        case measure => simp [intOf]; omega
      · have hck : Bit.chk (p + 1) = false := by simpa using hck
        obtain ⟨e1, e2⟩ := enc_take a p hck
        have E1 := Lib.hid e1
        have E2 := Lib.hid e2
        clear e1 e2
        have hy : 0 ≤ bits BinOp.and IntKind.i64 ((a : Int) / 2 ^ Bit.kOf p) 1 ∧ bits BinOp.and IntKind.i64 ((a : Int) / 2 ^ Bit.kOf p) 1 ≤ 1 := by rw [hx.out]; omega
        go_wp2_with (go_at_call 42; refine (isCheck_any p _ hlt).mono ?_; rintro e w' ⟨rfl, rfl⟩)
        have hfin := or_shl (Bit.encN a p) _ p (Bit.encN_lt a p) (by omega) (Bit.bit_lt a (Bit.kOf p))
        go_round
        case rel => exact ⟨p + 1, by omega, by go_num, by rw [E1.out, hx.out, hfin], by rw [E2.out]; go_num⟩
        case measure => simp [intOf]; omega
    · obtain rfl : p = 21 := by omega
      have hs := enc_small a 21 (by omega)
      go_wp2_with (first | (go_at_call 37; refine (syndrome_any (Bit.encN a 21) (by omega) _).mono ?_; rintro e w' ⟨rfl, rfl⟩))
      go_loop [3, 7] (fun o i => ∃ b : Nat, b ≤ 5 ∧ i = .int .i64 ((2 ^ b : Nat) : Int) ∧ o = .int .i64 (Bit.chN (Bit.syn (Bit.encN a 21)) (Bit.encN a 21) b : Nat)) (fun _ i => 32 - (intOf i).toNat)
      case atStart => exact ⟨0, by omega, rfl, rfl⟩
      case round =>
        obtain ⟨b, hb, rfl, rfl⟩ := hrel
        have hc := chN_small a h1 b hb
        have hsy : Bit.syn (Bit.encN a 21) < 32 := Bit.synN_lt _ 21 (by omega)
        by_cases hlt : b < 5
        · have hz := (Bit.chN_bit (Bit.syn (Bit.encN a 21)) (Bit.encN a 21) (Bit.encN_check a h1) b hb).2 b (by omega) hlt
          have ht := Lib.hid (test_bit (Bit.syn (Bit.encN a 21)) b hsy hlt)
          by_cases hbit : Bit.syn (Bit.encN a 21) / 2 ^ b % 2 = 1
          · have hor := Lib.hid (chN_or (Bit.syn (Bit.encN a 21)) (Bit.encN a 21) b hlt hc hz hbit)
            have hT : (bits BinOp.and IntKind.i64 ((Bit.syn (Bit.encN a 21) : Nat) : Int) ((2 ^ b : Nat) : Int) != 0) = true := by rw [ht.out]; simp [hbit]
            clear hz hbit ht
            obtain rfl | rfl | rfl | rfl | rfl : b = 0 ∨ b = 1 ∨ b = 2 ∨ b = 3 ∨ b = 4 := by omega
            · simp at hT
              go_wp2
              go_round
              case rel => exact ⟨1, by omega, rfl, by rw [← hor.out]; rfl⟩
              case measure => simp [intOf]
            · simp at hT
              go_wp2
              go_round
              case rel => exact ⟨2, by omega, rfl, by rw [← hor.out]; rfl⟩
              case measure => simp [intOf]
            · simp at hT
              go_wp2
              go_round
              case rel => exact ⟨3, by omega, rfl, by rw [← hor.out]; rfl⟩
              case measure => simp [intOf]
            · simp at hT
              go_wp2
              go_round
              case rel => exact ⟨4, by omega, rfl, by rw [← hor.out]; rfl⟩
              case measure => simp [intOf]
            · simp at hT
              go_wp2
              go_round
              case rel => exact ⟨5, by omega, rfl, by rw [← hor.out]; rfl⟩
              case measure => simp [intOf]
          · have hor := Lib.hid (chN_not (Bit.syn (Bit.encN a 21)) (Bit.encN a 21) b hbit)
            have hT : (bits BinOp.and IntKind.i64 ((Bit.syn (Bit.encN a 21) : Nat) : Int) ((2 ^ b : Nat) : Int) != 0) = false := by rw [ht.out]; simp [hbit]
            clear hz hbit ht
            obtain rfl | rfl | rfl | rfl | rfl : b = 0 ∨ b = 1 ∨ b = 2 ∨ b = 3 ∨ b = 4 := by omega
            · simp at hT
              go_wp2
              go_round
              case rel => exact ⟨1, by omega, rfl, by rw [hor.out]⟩
              case measure => simp [intOf]
            · simp at hT
              go_wp2
              go_round
              case rel => exact ⟨2, by omega, rfl, by rw [hor.out]⟩
              case measure => simp [intOf]
            · simp at hT
              go_wp2
              go_round
              case rel => exact ⟨3, by omega, rfl, by rw [hor.out]⟩
              case measure => simp [intOf]
            · simp at hT
              go_wp2
              go_round
              case rel => exact ⟨4, by omega, rfl, by rw [hor.out]⟩
              case measure => simp [intOf]
            · simp at hT
              go_wp2
              go_round
              case rel => exact ⟨5, by omega, rfl, by rw [hor.out]⟩
              case measure => simp [intOf]
        · obtain rfl : b = 5 := by omega
          go_wp2_with (first | (go_at_call 39; refine (bitCount_any (Bit.enc1 a) (by have := Bit.enc1_lt a h1; omega) _).mono ?_; rintro e w' ⟨rfl, rfl⟩))
          go_ret
          have hb2 := Bit.enc1_lt a h1
          refine ⟨rt_int ?_, rfl⟩
          exact enc_last_or a h1
set_option maxHeartbeats 400000 in
theorem implEncode_out (a : Int) (h1 : a < 0 ∨ 65535 < a) (w : World) :
    Calls Try.prog 23 #[.int .i64 a] w fun e w' => e = .returned (.int .i64 (-1)) ∧ w = w' := by
  have hr : inR a 0 65535 = false := inR_false h1
  clear h1
  go_enter Try.func23, Try.ntmps23
  go_wp2_with (go_at_call 36; refine (inRange_any _ _ _ _).mono ?_; rintro e w' ⟨rfl, rfl⟩)
  go_ret
  exact ⟨rfl, rfl⟩
end Go.Proofs.Ytbpldminegjjlaa
