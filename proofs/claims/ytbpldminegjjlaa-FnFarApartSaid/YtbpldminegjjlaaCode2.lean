/- The walks of the codeword functions: syndromes, counts of bits, data bits. -/
import Derived.Test.YtbpldminegjjlaaCode1
set_option linter.unusedVariables false
namespace Go.Proofs.Ytbpldminegjjlaa
open Go.RowKit
set_option maxHeartbeats 400000 in
theorem specSyndrome_in (a : Nat) (h1 : a < 4194304) (w : World) :
    Calls Try.prog 16 #[.int .i64 (a : Int)] w fun e w' => e = .returned (.int .i64 (Bit.syn a : Nat)) ∧ w = w' := by
  have hr : inR (a : Int) 0 4194303 = true := inR_true (by omega) (by omega)
  go_enter Try.func16, Try.ntmps16
  go_wp2_with (go_at_call 35; refine (l01In_any _ _ _ _).mono ?_; rintro e w' ⟨rfl, rfl⟩)
  clear hr
  go_loop [3, 4] (fun o i => ∃ p : Nat, p ≤ 21 ∧ i = .int .i64 ((p : Int) + 1) ∧ o = .int .i64 (Bit.synN a p : Nat)) (fun _ i => 22 - (intOf i).toNat)
  case atStart => exact ⟨0, by omega, rfl, rfl⟩
  case round =>
    obtain ⟨p, hp, rfl, rfl⟩ := hrel
    have ht := Lib.hid (test_one a p h1)
    by_cases hlt : p < 21
    · have hs := Bit.synN_lt a p (by omega)
      have hx := Lib.hid (Bit.xor_nat (Bit.synN a p) (p + 1) (by omega) (by omega))
      by_cases hb : a / 2 ^ p % 2 = 1
      · have hst := Lib.hid (syn_step a p hb)
        have hT : (bits BinOp.and IntKind.i64 ((a : Int) / 2 ^ p) 1 == 1) = true := by rw [ht.out]; simp [hb]
        clear hb
        go_wp2
        go_round
        case rel => exact ⟨p + 1, by omega, by go_num, by rw [hst.out, ← hx.out]; go_num⟩
        case measure => simp [intOf]; omega
      · have hst := Lib.hid (syn_stay a p hb)
        have hT : (bits BinOp.and IntKind.i64 ((a : Int) / 2 ^ p) 1 == 1) = false := by rw [ht.out]; simp [hb]
        clear hb
        go_wp2
        go_round
        case rel => exact ⟨p + 1, by omega, by go_num, by rw [hst.out]⟩
        case measure => simp [intOf]; omega
    · obtain rfl : p = 21 := by omega
      go_wp2
      go_ret
      exact ⟨rfl, rfl⟩
set_option maxHeartbeats 400000 in
theorem specSyndrome_out (a : Int) (h1 : a < 0 ∨ 4194303 < a) (w : World) :
    Calls Try.prog 16 #[.int .i64 a] w fun e w' => e = .returned (.int .i64 (-1)) ∧ w = w' := by
  have hr : inR a 0 4194303 = false := inR_false h1
  clear h1
  go_enter Try.func16, Try.ntmps16
  go_wp2_with (go_at_call 35; refine (l01In_any _ _ _ _).mono ?_; rintro e w' ⟨rfl, rfl⟩)
  go_ret
  exact ⟨rfl, rfl⟩
set_option maxHeartbeats 400000 in
theorem implSyndrome_in (a : Nat) (h1 : a < 4194304) (w : World) :
    Calls Try.prog 17 #[.int .i64 (a : Int)] w fun e w' => e = .returned (.int .i64 (Bit.syn a : Nat)) ∧ w = w' := by
  have hr : inR (a : Int) 0 4194303 = true := inR_true (by omega) (by omega)
  go_enter Try.func17, Try.ntmps17
  go_wp2_with (first | (go_at_call 36; refine (inRange_any _ _ _ _).mono ?_; rintro e w' ⟨rfl, rfl⟩) | (go_at_call 37; refine (syndrome_any a h1 _).mono ?_; rintro e w' ⟨rfl, rfl⟩))
  go_ret
  exact ⟨rfl, rfl⟩
set_option maxHeartbeats 400000 in
theorem implSyndrome_out (a : Int) (h1 : a < 0 ∨ 4194303 < a) (w : World) :
    Calls Try.prog 17 #[.int .i64 a] w fun e w' => e = .returned (.int .i64 (-1)) ∧ w = w' := by
  have hr : inR a 0 4194303 = false := inR_false h1
  clear h1
  go_enter Try.func17, Try.ntmps17
  go_wp2_with (go_at_call 36; refine (inRange_any _ _ _ _).mono ?_; rintro e w' ⟨rfl, rfl⟩)
  go_ret
  exact ⟨rfl, rfl⟩
theorem and_bit1 (a k : Nat) (h : a < 4194304) : bits BinOp.and IntKind.i64 ((a : Int) / 2 ^ k) 1 = ((a / 2 ^ k % 2 : Nat) : Int) := by
  have e : ((a : Int) / 2 ^ k) = ((a / 2 ^ k : Nat) : Int) := by simp
  have hle : a / 2 ^ k ≤ a := Nat.div_le_self _ _
  rw [e]
  generalize a / 2 ^ k = q at *
  rw [Bit.and_one _ (by omega) (by omega)]; omega
set_option maxHeartbeats 400000 in
theorem l39Ones_any (a : Nat) (h1 : a < 4194304) (w : World) :
    Calls Try.prog 38 #[.int .i64 (a : Int)] w fun e w' => e = .returned (.int .i64 (Bit.pop a 22 : Nat)) ∧ w = w' := by
  go_enter Try.func38, Try.ntmps38
  go_wp2
  go_loop [3, 4] (fun o i => ∃ p : Nat, p ≤ 22 ∧ i = .int .i64 (p : Int) ∧ o = .int .i64 (Bit.pop a p : Nat)) (fun _ i => 22 - (intOf i).toNat)
  case atStart => exact ⟨0, by omega, rfl, rfl⟩
  case round =>
    obtain ⟨p, hp, rfl, rfl⟩ := hrel
    by_cases hlt : p < 22
    · have hs := Bit.pop_le a p
      have hb := Bit.bit_lt a p
      have hx := and_bit1 a p h1
      have hq := Lib.hid (show Bit.pop a (p + 1) = Bit.pop a p + a / 2 ^ p % 2 from rfl)
      clear hx
      have hx := Lib.hid (and_bit1 a p h1)
      have hy : 0 ≤ bits BinOp.and IntKind.i64 ((a : Int) / 2 ^ p) 1 ∧ bits BinOp.and IntKind.i64 ((a : Int) / 2 ^ p) 1 ≤ 1 := by rw [hx.out]; omega
      clear hb
      go_wp2
      go_round
      case rel => exact ⟨p + 1, by omega, by go_num, by rw [hq.out, hx.out]; go_num⟩
      case measure => simp [intOf]; omega
    · obtain rfl : p = 22 := by omega
      go_wp2
      go_ret
      exact ⟨rfl, rfl⟩
theorem and_low (m : Nat) (h : m < 4194304) : bits BinOp.and IntKind.i64 (m : Int) 1 = ((m % 2 : Nat) : Int) := by
  rw [Bit.and_one _ (by omega) (by omega)]; omega
set_option maxHeartbeats 400000 in
theorem bitCount_any (a : Nat) (h1 : a < 4194304) (w : World) :
    Calls Try.prog 39 #[.int .i64 (a : Int)] w fun e w' => e = .returned (.int .i64 (Bit.pop a 22 : Nat)) ∧ w = w' := by
  go_enter Try.func39, Try.ntmps39
  go_wp2
  go_loop [0, 3] (fun n o => ∃ m c : Nat, m < 4194304 ∧ c ≤ 22 ∧ c + Bit.pop m 22 = Bit.pop a 22 ∧ n = .int .i64 (m : Int) ∧ o = .int .i64 (c : Int)) (fun n _ => (intOf n).toNat)
  case atStart => exact ⟨a, 0, h1, by omega, by omega, rfl, rfl⟩
  case round =>
    obtain ⟨m, c, hm, hc, hp, rfl, rfl⟩ := hrel
    have Hp := Lib.hid hp
    clear hp
    by_cases hlt : 0 < m
    · have hx := Lib.hid (and_low m hm)
      have hy : 0 ≤ bits BinOp.and IntKind.i64 (m : Int) 1 ∧ bits BinOp.and IntKind.i64 (m : Int) 1 ≤ 1 := by rw [hx.out]; omega
      have hps := Lib.hid (Bit.pop_step m hm)
      have hpa := Bit.pop_le a 22
      go_wp2
      go_round
      case rel => exact ⟨m / 2, c + m % 2, by omega, by have := Hp.out; have := hps.out; omega, by have := Hp.out; have := hps.out; omega, by go_num, by rw [hx.out]; go_num⟩
      case measure => simp [intOf]; omega
    · obtain rfl : m = 0 := by omega
      go_wp2
      go_ret
      exact ⟨rt_int (by have := Hp.out; rw [Bit.pop_nil] at this; omega), rfl⟩

theorem dat_skip (a p : Nat) (h : Bit.chk (p + 1) = true) : Bit.datN a (p + 1) = Bit.datN a p ∧ Bit.kOf (p + 1) = Bit.kOf p := by simp [Bit.datN, Bit.kOf, h]
theorem dat_take (a p : Nat) (h : Bit.chk (p + 1) = false) : Bit.datN a (p + 1) = Bit.datN a p + (a / 2 ^ p % 2) * 2 ^ Bit.kOf p ∧ Bit.kOf (p + 1) = Bit.kOf p + 1 := by simp [Bit.datN, Bit.kOf, h]
theorem kOf_lt : ∀ p, p ≤ 21 → Bit.kOf p ≤ 16 := by decide
theorem dat_small (a p : Nat) (h : p ≤ 21) : Bit.datN a p < 65536 :=
  Nat.lt_of_lt_of_le (Bit.datN_lt a p) (Nat.pow_le_pow_right (by decide) (kOf_lt p h))
theorem shl_val (b k : Nat) (hk : k ≤ 21) (hb : b < 2) : wrap64 ((b : Int) * 2 ^ k) = ((b * 2 ^ k : Nat) : Int) ∧ b * 2 ^ k < 4194304 := by
  have hp : 2 ^ k ≤ 2 ^ 21 := Nat.pow_le_pow_right (by decide) hk
  have e : ((b : Int) * 2 ^ k) = ((b * 2 ^ k : Nat) : Int) := by simp
  have hlt : b * 2 ^ k < 4194304 := by
    obtain rfl | rfl : b = 0 ∨ b = 1 := by omega
    all_goals omega
  refine ⟨?_, hlt⟩
  rw [e]; generalize b * 2 ^ k = c at *
  exact IntWalk.wrap64_in _ (by omega)
theorem or_shl (x b k : Nat) (hx : x < 2 ^ k) (hk : k ≤ 21) (hb : b < 2) : bits BinOp.or IntKind.i64 (x : Int) (wrap64 ((b : Int) * 2 ^ k)) = ((x + b * 2 ^ k : Nat) : Int) := by
  obtain ⟨e, hlt⟩ := shl_val b k hk hb
  have hp : 2 ^ k ≤ 2 ^ 21 := Nat.pow_le_pow_right (by decide) hk
  rw [e, Bit.or_nat _ _ (by omega) (by omega), Bit.or_join x b k hx]
theorem add_shl (x b k : Nat) (hx : x < 4194304) (hk : k ≤ 21) (hb : b < 2) : wrap64 ((x : Int) + wrap64 ((b : Int) * 2 ^ k)) = ((x + b * 2 ^ k : Nat) : Int) := by
  obtain ⟨e, hlt⟩ := shl_val b k hk hb
  rw [e]; generalize b * 2 ^ k = c at *
  rw [IntWalk.wrap64_in _ (by omega)]; omega
set_option maxHeartbeats 400000 in
theorem dataBits_any (a : Nat) (h1 : a < 4194304) (w : World) :
    Calls Try.prog 41 #[.int .i64 (a : Int)] w fun e w' => e = .returned (.int .i64 (Bit.dat a : Nat)) ∧ w = w' := by
  go_enter Try.func41, Try.ntmps41
  go_wp2
  go_loop [3, 4, 5] (fun o k i => ∃ p : Nat, p ≤ 21 ∧ i = .int .i64 ((p : Int) + 1) ∧ o = .int .i64 (Bit.datN a p : Nat) ∧ k = .int .i64 (Bit.kOf p : Nat)) (fun _ _ i => 22 - (intOf i).toNat)
  case atStart => exact ⟨0, by omega, rfl, rfl, rfl⟩
  case round =>
    obtain ⟨p, hp, rfl, rfl, rfl⟩ := hrel
    by_cases hlt : p < 21
    · have hk := kOf_lt p hp
      have hd := dat_small a p hp
      have hx := Lib.hid (and_bit1 a p h1)
      by_cases hck : Bit.chk (p + 1) = true
      · obtain ⟨e1, e2⟩ := dat_skip a p hck
        have e1 := Lib.hid e1
        have e2 := Lib.hid e2
        go_wp2_with (go_at_call 42; refine (isCheck_any p _ hlt).mono ?_; rintro e w' ⟨rfl, rfl⟩)
        go_round
        case rel => exact ⟨p + 1, by omega, by go_num, by rw [e1.out], by rw [e2.out]⟩
        case measure => simp [intOf]; omega
      · have hck : Bit.chk (p + 1) = false := by simpa using hck
        obtain ⟨e1, e2⟩ := dat_take a p hck
        have e1 := Lib.hid e1
        have e2 := Lib.hid e2
        have hy : 0 ≤ bits BinOp.and IntKind.i64 ((a : Int) / 2 ^ p) 1 ∧ bits BinOp.and IntKind.i64 ((a : Int) / 2 ^ p) 1 ≤ 1 := by rw [hx.out]; omega
        go_wp2_with (go_at_call 42; refine (isCheck_any p _ hlt).mono ?_; rintro e w' ⟨rfl, rfl⟩)
        have hfin := or_shl (Bit.datN a p) _ (Bit.kOf p) (Bit.datN_lt a p) (by omega) (Bit.bit_lt a p)
        go_round
        case rel => exact ⟨p + 1, by omega, by go_num, by rw [e1.out, hx.out, hfin], by rw [e2.out]; go_num⟩
        case measure => simp [intOf]; omega
    · obtain rfl : p = 21 := by omega
      go_wp2
      go_ret
      exact ⟨rfl, rfl⟩
set_option maxHeartbeats 400000 in
theorem specDataBits_in (a : Nat) (h1 : a < 4194304) (w : World) :
    Calls Try.prog 20 #[.int .i64 (a : Int)] w fun e w' => e = .returned (.int .i64 (Bit.dat a : Nat)) ∧ w = w' := by
  have hr : inR (a : Int) 0 4194303 = true := inR_true (by omega) (by omega)
  go_enter Try.func20, Try.ntmps20
  go_wp2_with (go_at_call 35; refine (l01In_any _ _ _ _).mono ?_; rintro e w' ⟨rfl, rfl⟩)
  clear hr
  go_loop [3, 4, 5] (fun o k i => ∃ p : Nat, p ≤ 21 ∧ i = .int .i64 ((p : Int) + 1) ∧ o = .int .i64 (Bit.datN a p : Nat) ∧ k = .int .i64 (Bit.kOf p : Nat)) (fun _ _ i => 22 - (intOf i).toNat)
  case atStart => exact ⟨0, by omega, rfl, rfl, rfl⟩
  case round =>
    obtain ⟨p, hp, rfl, rfl, rfl⟩ := hrel
    by_cases hlt : p < 21
    · have hk := kOf_lt p hp
      have hd := dat_small a p hp
      have hx := Lib.hid (and_bit1 a p h1)
      by_cases hck : Bit.chk (p + 1) = true
      · obtain ⟨e1, e2⟩ := dat_skip a p hck
        have E1 := Lib.hid e1
        have E2 := Lib.hid e2
        clear e1 e2
        go_wp2_with (go_at_call 40; refine (l39Power_any p _ hlt).mono ?_; rintro e w' ⟨rfl, rfl⟩)
        go_round
        case rel => exact ⟨p + 1, by omega, by go_num, by rw [E1.out], by rw [E2.out]⟩
        case measure => simp [intOf]; omega
      · have hck : Bit.chk (p + 1) = false := by simpa using hck
        obtain ⟨e1, e2⟩ := dat_take a p hck
        have E1 := Lib.hid e1
        have E2 := Lib.hid e2
        clear e1 e2
        have hy : 0 ≤ bits BinOp.and IntKind.i64 ((a : Int) / 2 ^ p) 1 ∧ bits BinOp.and IntKind.i64 ((a : Int) / 2 ^ p) 1 ≤ 1 := by rw [hx.out]; omega
        go_wp2_with (go_at_call 40; refine (l39Power_any p _ hlt).mono ?_; rintro e w' ⟨rfl, rfl⟩)
        have hfin := add_shl (Bit.datN a p) _ (Bit.kOf p) (by omega) (by omega) (Bit.bit_lt a p)
        go_round
        case rel => exact ⟨p + 1, by omega, by go_num, by rw [E1.out, hx.out, hfin], by rw [E2.out]; go_num⟩
        case measure => simp [intOf]; omega
    · obtain rfl : p = 21 := by omega
      go_wp2
      go_ret
      exact ⟨rfl, rfl⟩
set_option maxHeartbeats 400000 in
theorem specDataBits_out (a : Int) (h1 : a < 0 ∨ 4194303 < a) (w : World) :
    Calls Try.prog 20 #[.int .i64 a] w fun e w' => e = .returned (.int .i64 (-1)) ∧ w = w' := by
  have hr : inR a 0 4194303 = false := inR_false h1
  clear h1
  go_enter Try.func20, Try.ntmps20
  go_wp2_with (go_at_call 35; refine (l01In_any _ _ _ _).mono ?_; rintro e w' ⟨rfl, rfl⟩)
  go_ret
  exact ⟨rfl, rfl⟩
set_option maxHeartbeats 400000 in
theorem implDataBits_in (a : Nat) (h1 : a < 4194304) (w : World) :
    Calls Try.prog 21 #[.int .i64 (a : Int)] w fun e w' => e = .returned (.int .i64 (Bit.dat a : Nat)) ∧ w = w' := by
  have hr : inR (a : Int) 0 4194303 = true := inR_true (by omega) (by omega)
  go_enter Try.func21, Try.ntmps21
  go_wp2_with (first | (go_at_call 36; refine (inRange_any _ _ _ _).mono ?_; rintro e w' ⟨rfl, rfl⟩) | (go_at_call 41; refine (dataBits_any a h1 _).mono ?_; rintro e w' ⟨rfl, rfl⟩))
  go_ret
  exact ⟨rfl, rfl⟩
set_option maxHeartbeats 400000 in
theorem implDataBits_out (a : Int) (h1 : a < 0 ∨ 4194303 < a) (w : World) :
    Calls Try.prog 21 #[.int .i64 a] w fun e w' => e = .returned (.int .i64 (-1)) ∧ w = w' := by
  have hr : inR a 0 4194303 = false := inR_false h1
  clear h1
  go_enter Try.func21, Try.ntmps21
  go_wp2_with (go_at_call 36; refine (inRange_any _ _ _ _).mono ?_; rintro e w' ⟨rfl, rfl⟩)
  go_ret
  exact ⟨rfl, rfl⟩
end Go.Proofs.Ytbpldminegjjlaa
