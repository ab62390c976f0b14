/- The walks of the decoders, of FlipBit and BitDistance. -/
import Derived.Test.YtbpldminegjjlaaCode4
set_option linter.unusedVariables false
namespace Go.Proofs.Ytbpldminegjjlaa
open Go.RowKit
def Bit.dec (a : Nat) : Nat × Nat :=
  if Bit.pop a 22 % 2 = 0 then (if Bit.syn a = 0 then (Bit.dat a, 0) else (0, 2))
  else if 21 < Bit.syn a then (0, 2) else if Bit.syn a = 0 then (Bit.dat a, 1) else (Bit.dat (a ^^^ 2 ^ (Bit.syn a - 1)), 1)
theorem dec_clean {a : Nat} (h1 : Bit.pop a 22 % 2 = 0) (h2 : Bit.syn a = 0) : Bit.dec a = (Bit.dat a, 0) := by simp [Bit.dec, h1, h2]
theorem dec_double {a : Nat} (h1 : Bit.pop a 22 % 2 = 0) (h2 : Bit.syn a ≠ 0) : Bit.dec a = (0, 2) := by simp [Bit.dec, h1, h2]
theorem dec_great {a : Nat} (h1 : ¬ Bit.pop a 22 % 2 = 0) (h2 : 21 < Bit.syn a) : Bit.dec a = (0, 2) := by simp [Bit.dec, h1, h2]
theorem dec_top {a : Nat} (h1 : ¬ Bit.pop a 22 % 2 = 0) (h2 : Bit.syn a = 0) : Bit.dec a = (Bit.dat a, 1) := by simp [Bit.dec, h1, h2]
theorem dec_one {a k : Nat} (h1 : ¬ Bit.pop a 22 % 2 = 0) (h2 : Bit.syn a = k + 1) (h3 : k < 21) : Bit.dec a = (Bit.dat (a ^^^ 2 ^ k), 1) := by
  simp only [Bit.dec]
  rw [if_neg h1, if_neg (by omega), if_neg (by omega), h2]; rfl
theorem dat_top (a : Nat) : Bit.dat (a ^^^ 2097152) = Bit.dat a := by
  have e : Bit.datN 2097152 21 = 0 := by decide +kernel
  rw [Bit.dat, Bit.datN_xor, e, Nat.xor_zero]; rfl
theorem xor_small (a b : Nat) (h : a < 4194304) (hb : b < 4194304) : a ^^^ b < 4194304 := Nat.xor_lt_two_pow (n := 22) h hb
theorem two_small (k : Nat) (hk : k < 22) : wrap64 (2 ^ k) = ((2 ^ k : Nat) : Int) ∧ 2 ^ k < 4194304 := by
  have := shl_val 1 k (by omega) (by decide)
  simpa using this
theorem flip_val (a k : Nat) (h : a < 4194304) (hk : k < 22) : bits BinOp.xor IntKind.i64 (a : Int) (wrap64 (2 ^ k)) = ((a ^^^ 2 ^ k : Nat) : Int) := by
  obtain ⟨e, hlt⟩ := two_small k hk
  rw [e, Bit.xor_nat _ _ (by omega) (by omega)]
theorem par_test (n : Nat) : (((n : Int) % 2 == 0) = decide (n % 2 = 0)) ∧ (((n : Int) % 2 == 1) = !decide (n % 2 = 0)) := by
  constructor
  · rw [Bool.eq_iff_iff]; simp; omega
  · have : decide (n % 2 = 0) = !((n : Int) % 2 == 1) := by rw [Bool.eq_iff_iff]; simp; omega
    rw [this, Bool.not_not]
set_option maxHeartbeats 1000000 in
theorem specDecode_in (a : Nat) (h1 : a < 4194304) (w : World) :
    Calls Try.prog 24 #[.int .i64 (a : Int)] w fun e w' => e = .returned (.tuple #[.int .i64 ((Bit.dec a).1 : Nat), .int .i64 ((Bit.dec a).2 : Nat)]) ∧ w = w' := by
  have hr : inR (a : Int) 0 4194303 = true := inR_true (by omega) (by omega)
  have ht := Lib.hid (par_test (Bit.pop a 22))
  by_cases hp : Bit.pop a 22 % 2 = 0
  · have hT : ((Bit.pop a 22 : Int) % 2 == 0) = true := by rw [ht.out.1]; simp [hp]
    by_cases hs : Bit.syn a = 0
    · have hd := Lib.hid (dec_clean hp hs)
      have Hs := Lib.hid hs
      clear hp hs
      go_enter Try.func24, Try.ntmps24
      go_wp2_with (first
        | (go_at_call 35; refine (l01In_any _ _ _ _).mono ?_; rintro e w' ⟨rfl, rfl⟩)
        | (go_at_call 16; refine (specSyndrome_in a h1 _).mono ?_; rintro e w' ⟨rfl, rfl⟩; rw [Hs.out])
        | (go_at_call 38; refine (l39Ones_any a h1 _).mono ?_; rintro e w' ⟨rfl, rfl⟩)
        | (go_at_call 20; refine (specDataBits_in a h1 _).mono ?_; rintro e w' ⟨rfl, rfl⟩))
      go_ret2
      exact ⟨by rw [hd.out]; exact rt_pair rfl rfl, rfl⟩
    · have hd := Lib.hid (dec_double hp hs)
      have hs2 : ((Bit.syn a : Int) == 0) = false := by simp; omega
      clear hp hs
      go_enter Try.func24, Try.ntmps24
      go_wp2_with (first
        | (go_at_call 35; refine (l01In_any _ _ _ _).mono ?_; rintro e w' ⟨rfl, rfl⟩)
        | (go_at_call 16; refine (specSyndrome_in a h1 _).mono ?_; rintro e w' ⟨rfl, rfl⟩)
        | (go_at_call 38; refine (l39Ones_any a h1 _).mono ?_; rintro e w' ⟨rfl, rfl⟩))
      go_ret2
      exact ⟨by rw [hd.out]; exact rt_pair rfl rfl, rfl⟩
  · have hT : ((Bit.pop a 22 : Int) % 2 == 0) = false := by rw [ht.out.1]; simp [hp]
    by_cases hg : 21 < Bit.syn a
    · have hd := Lib.hid (dec_great hp hg)
      clear hp
      go_enter Try.func24, Try.ntmps24
      go_wp2_with (first
        | (go_at_call 35; refine (l01In_any _ _ _ _).mono ?_; rintro e w' ⟨rfl, rfl⟩)
        | (go_at_call 16; refine (specSyndrome_in a h1 _).mono ?_; rintro e w' ⟨rfl, rfl⟩)
        | (go_at_call 38; refine (l39Ones_any a h1 _).mono ?_; rintro e w' ⟨rfl, rfl⟩))
      go_ret2
      exact ⟨by rw [hd.out]; exact rt_pair rfl rfl, rfl⟩
    · by_cases hs : Bit.syn a = 0
      · have hd := Lib.hid (dec_top hp hs)
        have Hs := Lib.hid hs
        clear hp hs hg
        go_enter Try.func24, Try.ntmps24
        go_wp2_with (first
          | (go_at_call 35; refine (l01In_any _ _ _ _).mono ?_; rintro e w' ⟨rfl, rfl⟩)
          | (go_at_call 16; refine (specSyndrome_in a h1 _).mono ?_; rintro e w' ⟨rfl, rfl⟩; rw [Hs.out])
          | (go_at_call 38; refine (l39Ones_any a h1 _).mono ?_; rintro e w' ⟨rfl, rfl⟩)
          | (go_at_call 20; refine (specDataBits_in a h1 _).mono ?_; rintro e w' ⟨rfl, rfl⟩))
        go_ret2
        exact ⟨by rw [hd.out]; exact rt_pair rfl rfl, rfl⟩
      · obtain ⟨k, hk⟩ : ∃ k, Bit.syn a = k + 1 := ⟨Bit.syn a - 1, by omega⟩
        have hk2 : k < 21 := by omega
        have hd := Lib.hid (dec_one hp hk hk2)
        have Hs := Lib.hid hk
        have hv := flip_val a k h1 (by omega)
        have hx := xor_small a (2 ^ k) h1 (two_small k (by omega)).2
        clear hp hs hg hk
        go_enter Try.func24, Try.ntmps24
        go_wp2_with (first
          | (go_at_call 35; refine (l01In_any _ _ _ _).mono ?_; rintro e w' ⟨rfl, rfl⟩)
          | (go_at_call 16; refine (specSyndrome_in a h1 _).mono ?_; rintro e w' ⟨rfl, rfl⟩; rw [Hs.out])
          | (go_at_call 38; refine (l39Ones_any a h1 _).mono ?_; rintro e w' ⟨rfl, rfl⟩)
          | (go_at_call 20; refine (specDataBits_in (a ^^^ 2 ^ k) hx _).mono ?_; rintro e w' ⟨rfl, rfl⟩))
        go_ret2
        exact ⟨by rw [hd.out]; exact rt_pair rfl rfl, rfl⟩
set_option maxHeartbeats 1000000 in
theorem implDecode_in (a : Nat) (h1 : a < 4194304) (w : World) :
    Calls Try.prog 25 #[.int .i64 (a : Int)] w fun e w' => e = .returned (.tuple #[.int .i64 ((Bit.dec a).1 : Nat), .int .i64 ((Bit.dec a).2 : Nat)]) ∧ w = w' := by
  have hr : inR (a : Int) 0 4194303 = true := inR_true (by omega) (by omega)
  have ht := Lib.hid (par_test (Bit.pop a 22))
  by_cases hp : Bit.pop a 22 % 2 = 0
  · have hT : ((Bit.pop a 22 : Int) % 2 == 1) = false := by rw [ht.out.2]; simp [hp]
    by_cases hs : Bit.syn a = 0
    · have hd := Lib.hid (dec_clean hp hs)
      have Hs := Lib.hid hs
      clear hp hs
      go_enter Try.func25, Try.ntmps25
      go_wp2_with (first
        | (go_at_call 36; refine (inRange_any _ _ _ _).mono ?_; rintro e w' ⟨rfl, rfl⟩)
        | (go_at_call 37; refine (syndrome_any a h1 _).mono ?_; rintro e w' ⟨rfl, rfl⟩; rw [Hs.out])
        | (go_at_call 39; refine (bitCount_any a h1 _).mono ?_; rintro e w' ⟨rfl, rfl⟩)
        | (go_at_call 41; refine (dataBits_any a h1 _).mono ?_; rintro e w' ⟨rfl, rfl⟩))
      go_ret2
      exact ⟨by rw [hd.out]; exact rt_pair rfl rfl, rfl⟩
    · have hd := Lib.hid (dec_double hp hs)
      have hs2 : ((Bit.syn a : Int) == 0) = false := by simp; omega
      clear hp hs
      go_enter Try.func25, Try.ntmps25
      go_wp2_with (first
        | (go_at_call 36; refine (inRange_any _ _ _ _).mono ?_; rintro e w' ⟨rfl, rfl⟩)
        | (go_at_call 37; refine (syndrome_any a h1 _).mono ?_; rintro e w' ⟨rfl, rfl⟩)
        | (go_at_call 39; refine (bitCount_any a h1 _).mono ?_; rintro e w' ⟨rfl, rfl⟩))
      go_ret2
      exact ⟨by rw [hd.out]; exact rt_pair rfl rfl, rfl⟩
  · have hT : ((Bit.pop a 22 : Int) % 2 == 1) = true := by rw [ht.out.2]; simp [hp]
    by_cases hg : 21 < Bit.syn a
    · have hd := Lib.hid (dec_great hp hg)
      clear hp
      go_enter Try.func25, Try.ntmps25
      go_wp2_with (first
        | (go_at_call 36; refine (inRange_any _ _ _ _).mono ?_; rintro e w' ⟨rfl, rfl⟩)
        | (go_at_call 37; refine (syndrome_any a h1 _).mono ?_; rintro e w' ⟨rfl, rfl⟩)
        | (go_at_call 39; refine (bitCount_any a h1 _).mono ?_; rintro e w' ⟨rfl, rfl⟩))
      go_ret2
      exact ⟨by rw [hd.out]; exact rt_pair rfl rfl, rfl⟩
    · by_cases hs : Bit.syn a = 0
      · have hd := Lib.hid (dec_top hp hs)
        have Hs := Lib.hid hs
        have hv : bits BinOp.xor IntKind.i64 (a : Int) 2097152 = ((a ^^^ 2097152 : Nat) : Int) := Bit.xor_nat a 2097152 (by omega) (by omega)
        have hx := xor_small a 2097152 h1 (by decide)
        have Ht := Lib.hid (dat_top a)
        clear hp hs hg
        go_enter Try.func25, Try.ntmps25
        go_wp2_with (first
          | (go_at_call 36; refine (inRange_any _ _ _ _).mono ?_; rintro e w' ⟨rfl, rfl⟩)
          | (go_at_call 37; refine (syndrome_any a h1 _).mono ?_; rintro e w' ⟨rfl, rfl⟩; rw [Hs.out])
          | (go_at_call 39; refine (bitCount_any a h1 _).mono ?_; rintro e w' ⟨rfl, rfl⟩)
          | (go_at_call 41; refine (dataBits_any (a ^^^ 2097152) hx _).mono ?_; rintro e w' ⟨rfl, rfl⟩))
        go_ret2
        exact ⟨by rw [hd.out]; exact rt_pair (by rw [Ht.out]) rfl, rfl⟩
      · obtain ⟨k, hk⟩ : ∃ k, Bit.syn a = k + 1 := ⟨Bit.syn a - 1, by omega⟩
        have hk2 : k < 21 := by omega
        have hd := Lib.hid (dec_one hp hk hk2)
        have Hs := Lib.hid hk
        have hv := flip_val a k h1 (by omega)
        have hx := xor_small a (2 ^ k) h1 (two_small k (by omega)).2
        clear hp hs hg hk
        go_enter Try.func25, Try.ntmps25
        go_wp2_with (first
          | (go_at_call 36; refine (inRange_any _ _ _ _).mono ?_; rintro e w' ⟨rfl, rfl⟩)
          | (go_at_call 37; refine (syndrome_any a h1 _).mono ?_; rintro e w' ⟨rfl, rfl⟩; rw [Hs.out])
          | (go_at_call 39; refine (bitCount_any a h1 _).mono ?_; rintro e w' ⟨rfl, rfl⟩)
          | (go_at_call 41; refine (dataBits_any (a ^^^ 2 ^ k) hx _).mono ?_; rintro e w' ⟨rfl, rfl⟩))
        go_ret2
        exact ⟨by rw [hd.out]; exact rt_pair rfl rfl, rfl⟩
set_option maxHeartbeats 400000 in
theorem specDecode_out (a : Int) (h1 : a < 0 ∨ 4194303 < a) (w : World) :
    Calls Try.prog 24 #[.int .i64 a] w fun e w' => e = .returned (.tuple #[.int .i64 0, .int .i64 2]) ∧ w = w' := by
  have hr : inR a 0 4194303 = false := inR_false h1
  clear h1
  go_enter Try.func24, Try.ntmps24
  go_wp2_with (go_at_call 35; refine (l01In_any _ _ _ _).mono ?_; rintro e w' ⟨rfl, rfl⟩)
  go_ret2
  exact ⟨rfl, rfl⟩
set_option maxHeartbeats 400000 in
theorem implDecode_out (a : Int) (h1 : a < 0 ∨ 4194303 < a) (w : World) :
    Calls Try.prog 25 #[.int .i64 a] w fun e w' => e = .returned (.tuple #[.int .i64 0, .int .i64 2]) ∧ w = w' := by
  have hr : inR a 0 4194303 = false := inR_false h1
  clear h1
  go_enter Try.func25, Try.ntmps25
  go_wp2_with (go_at_call 36; refine (inRange_any _ _ _ _).mono ?_; rintro e w' ⟨rfl, rfl⟩)
  go_ret2
  exact ⟨rfl, rfl⟩
set_option maxHeartbeats 400000 in
theorem specFlip_in (a b : Nat) (h1 : a < 4194304) (h2 : b < 22) (w : World) :
    Calls Try.prog 14 #[.int .i64 (a : Int), .int .i64 (b : Int)] w fun e w' => e = .returned (.int .i64 (a ^^^ 2 ^ b : Nat)) ∧ w = w' := by
  have hr : inR (a : Int) 0 4194303 = true := inR_true (by omega) (by omega)
  have hr2 : inR (b : Int) 0 21 = true := inR_true (by omega) (by omega)
  have hv := Lib.hid (flip_val a b h1 h2)
  go_enter Try.func14, Try.ntmps14
  go_wp2_with (go_at_call 35; refine (l01In_any _ _ _ _).mono ?_; rintro e w' ⟨rfl, rfl⟩)
  go_ret
  exact ⟨rt_int hv.out, rfl⟩
set_option maxHeartbeats 400000 in
theorem specFlip_out1 (a b : Int) (h1 : a < 0 ∨ 4194303 < a) (w : World) :
    Calls Try.prog 14 #[.int .i64 a, .int .i64 b] w fun e w' => e = .returned (.int .i64 a) ∧ w = w' := by
  have hr : inR a 0 4194303 = false := inR_false h1
  clear h1
  go_enter Try.func14, Try.ntmps14
  go_wp2_with (go_at_call 35; refine (l01In_any _ _ _ _).mono ?_; rintro e w' ⟨rfl, rfl⟩)
  go_ret
  exact ⟨rfl, rfl⟩
set_option maxHeartbeats 400000 in
theorem specFlip_out2 (a b : Int) (h0 : 0 ≤ a ∧ a ≤ 4194303) (h1 : b < 0 ∨ 21 < b) (w : World) :
    Calls Try.prog 14 #[.int .i64 a, .int .i64 b] w fun e w' => e = .returned (.int .i64 a) ∧ w = w' := by
  have hr : inR a 0 4194303 = true := inR_true h0.1 h0.2
  have hr2 : inR b 0 21 = false := inR_false h1
  clear h1 h0
  go_enter Try.func14, Try.ntmps14
  go_wp2_with (go_at_call 35; refine (l01In_any _ _ _ _).mono ?_; rintro e w' ⟨rfl, rfl⟩)
  go_ret
  exact ⟨rfl, rfl⟩
set_option maxHeartbeats 400000 in
theorem implFlip_in (a b : Nat) (h1 : a < 4194304) (h2 : b < 22) (w : World) :
    Calls Try.prog 15 #[.int .i64 (a : Int), .int .i64 (b : Int)] w fun e w' => e = .returned (.int .i64 (a ^^^ 2 ^ b : Nat)) ∧ w = w' := by
  have hr : inR (a : Int) 0 4194303 = true := inR_true (by omega) (by omega)
  have hr2 : inR (b : Int) 0 21 = true := inR_true (by omega) (by omega)
  have hv := Lib.hid (flip_val a b h1 h2)
  go_enter Try.func15, Try.ntmps15
  go_wp2_with (go_at_call 36; refine (inRange_any _ _ _ _).mono ?_; rintro e w' ⟨rfl, rfl⟩)
  go_ret
  exact ⟨rt_int hv.out, rfl⟩
set_option maxHeartbeats 400000 in
theorem implFlip_out1 (a b : Int) (h1 : a < 0 ∨ 4194303 < a) (w : World) :
    Calls Try.prog 15 #[.int .i64 a, .int .i64 b] w fun e w' => e = .returned (.int .i64 a) ∧ w = w' := by
  have hr : inR a 0 4194303 = false := inR_false h1
  clear h1
  go_enter Try.func15, Try.ntmps15
  go_wp2_with (go_at_call 36; refine (inRange_any _ _ _ _).mono ?_; rintro e w' ⟨rfl, rfl⟩)
  go_ret
  exact ⟨rfl, rfl⟩
set_option maxHeartbeats 400000 in
theorem implFlip_out2 (a b : Int) (h0 : 0 ≤ a ∧ a ≤ 4194303) (h1 : b < 0 ∨ 21 < b) (w : World) :
    Calls Try.prog 15 #[.int .i64 a, .int .i64 b] w fun e w' => e = .returned (.int .i64 a) ∧ w = w' := by
  have hr : inR a 0 4194303 = true := inR_true h0.1 h0.2
  have hr2 : inR b 0 21 = false := inR_false h1
  clear h1 h0
  go_enter Try.func15, Try.ntmps15
  go_wp2_with (go_at_call 36; refine (inRange_any _ _ _ _).mono ?_; rintro e w' ⟨rfl, rfl⟩)
  go_ret
  exact ⟨rfl, rfl⟩
set_option maxHeartbeats 400000 in
theorem specDist_in (a b : Nat) (h1 : a < 4194304) (h2 : b < 4194304) (w : World) :
    Calls Try.prog 18 #[.int .i64 (a : Int), .int .i64 (b : Int)] w fun e w' => e = .returned (.int .i64 (Bit.pop (a ^^^ b) 22 : Nat)) ∧ w = w' := by
  have hr : inR (a : Int) 0 4194303 = true := inR_true (by omega) (by omega)
  have hr2 : inR (b : Int) 0 4194303 = true := inR_true (by omega) (by omega)
  have hv := Bit.xor_nat a b (by omega) (by omega)
  have hx := xor_small a b h1 h2
  go_enter Try.func18, Try.ntmps18
  go_wp2_with (first | (go_at_call 35; refine (l01In_any _ _ _ _).mono ?_; rintro e w' ⟨rfl, rfl⟩) | (go_at_call 38; refine (l39Ones_any (a ^^^ b) hx _).mono ?_; rintro e w' ⟨rfl, rfl⟩))
  go_ret
  exact ⟨rfl, rfl⟩
set_option maxHeartbeats 400000 in
theorem specDist_out1 (a b : Int) (h1 : a < 0 ∨ 4194303 < a) (w : World) :
    Calls Try.prog 18 #[.int .i64 a, .int .i64 b] w fun e w' => e = .returned (.int .i64 (-1)) ∧ w = w' := by
  have hr : inR a 0 4194303 = false := inR_false h1
  clear h1
  go_enter Try.func18, Try.ntmps18
  go_wp2_with (go_at_call 35; refine (l01In_any _ _ _ _).mono ?_; rintro e w' ⟨rfl, rfl⟩)
  go_ret
  exact ⟨rfl, rfl⟩
set_option maxHeartbeats 400000 in
theorem specDist_out2 (a b : Int) (h0 : 0 ≤ a ∧ a ≤ 4194303) (h1 : b < 0 ∨ 4194303 < b) (w : World) :
    Calls Try.prog 18 #[.int .i64 a, .int .i64 b] w fun e w' => e = .returned (.int .i64 (-1)) ∧ w = w' := by
  have hr : inR a 0 4194303 = true := inR_true h0.1 h0.2
  have hr2 : inR b 0 4194303 = false := inR_false h1
  clear h1 h0
  go_enter Try.func18, Try.ntmps18
  go_wp2_with (go_at_call 35; refine (l01In_any _ _ _ _).mono ?_; rintro e w' ⟨rfl, rfl⟩)
  go_ret
  exact ⟨rfl, rfl⟩
set_option maxHeartbeats 400000 in
theorem implDist_in (a b : Nat) (h1 : a < 4194304) (h2 : b < 4194304) (w : World) :
    Calls Try.prog 19 #[.int .i64 (a : Int), .int .i64 (b : Int)] w fun e w' => e = .returned (.int .i64 (Bit.pop (a ^^^ b) 22 : Nat)) ∧ w = w' := by
  have hr : inR (a : Int) 0 4194303 = true := inR_true (by omega) (by omega)
  have hr2 : inR (b : Int) 0 4194303 = true := inR_true (by omega) (by omega)
  have hv := Bit.xor_nat a b (by omega) (by omega)
  have hx := xor_small a b h1 h2
  go_enter Try.func19, Try.ntmps19
  go_wp2_with (first | (go_at_call 36; refine (inRange_any _ _ _ _).mono ?_; rintro e w' ⟨rfl, rfl⟩) | (go_at_call 39; refine (bitCount_any (a ^^^ b) hx _).mono ?_; rintro e w' ⟨rfl, rfl⟩))
  go_ret
  exact ⟨rfl, rfl⟩
set_option maxHeartbeats 400000 in
theorem implDist_out1 (a b : Int) (h1 : a < 0 ∨ 4194303 < a) (w : World) :
    Calls Try.prog 19 #[.int .i64 a, .int .i64 b] w fun e w' => e = .returned (.int .i64 (-1)) ∧ w = w' := by
  have hr : inR a 0 4194303 = false := inR_false h1
  clear h1
  go_enter Try.func19, Try.ntmps19
  go_wp2_with (go_at_call 36; refine (inRange_any _ _ _ _).mono ?_; rintro e w' ⟨rfl, rfl⟩)
  go_ret
  exact ⟨rfl, rfl⟩
set_option maxHeartbeats 400000 in
theorem implDist_out2 (a b : Int) (h0 : 0 ≤ a ∧ a ≤ 4194303) (h1 : b < 0 ∨ 4194303 < b) (w : World) :
    Calls Try.prog 19 #[.int .i64 a, .int .i64 b] w fun e w' => e = .returned (.int .i64 (-1)) ∧ w = w' := by
  have hr : inR a 0 4194303 = true := inR_true h0.1 h0.2
  have hr2 : inR b 0 4194303 = false := inR_false h1
  clear h1 h0
  go_enter Try.func19, Try.ntmps19
  go_wp2_with (go_at_call 36; refine (inRange_any _ _ _ _).mono ?_; rintro e w' ⟨rfl, rfl⟩)
  go_ret
  exact ⟨rfl, rfl⟩
end Go.Proofs.Ytbpldminegjjlaa
