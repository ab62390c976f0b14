/- The walk of the law FnTwoFlipped. -/
import Derived.Test.YtbpldminegjjlaaByt
import Derived.Test.YtbpldminegjjlaaWFnFarApart
import Derived.Below
set_option linter.unusedVariables false
namespace Go.Proofs.Ytbpldminegjjlaa
open Go.RowKit
set_option maxHeartbeats 400000 in
theorem repair_double (a : Nat) (h1 : a < 4194304) (hd : Hid (Bit.dec a = (0, 2))) (w : World) :
    Calls Try.prog 28 #[.int .i64 (a : Int)] w fun e w' => e = .returned (.tuple #[.int .i64 (a : Nat), .int .i64 2]) ∧ w = w' := by
  go_enter Try.func28, Try.ntmps28
  go_wp2_with (go_at_call 25; refine (implDecode_in a h1 _).mono ?_; rintro e w' ⟨rfl, rfl⟩; rw [hd.out])
  go_ret2
  exact ⟨rfl, rfl⟩
set_option maxHeartbeats 400000 in
theorem two_tail (b0 b1 b2 b3 a b c c1 x : Nat) (hb0 : b0 ≤ 255) (hb1 : b1 ≤ 255) (a0 : Option Addr) (len0 cap0 : Nat) (w : World) (hbig : len0 ≤ 1048576)
    (ha : a < 22) (hb : b < 22) (e2 : (b2 : Int) % 22 = (a : Nat)) (e3 : (b3 : Int) % 22 = (b : Nat))
    (hx : b0 * 256 + b1 < 65536) (hc : c < 4194304) (hc1 : c1 < 4194304) (hx1 : x < 4194304)
    (G : Hid (Bit.enc (b0 * 256 + b1) = c)) (G1 : Hid (c ^^^ 2 ^ a = c1)) (G2 : Hid (c1 ^^^ 2 ^ b = x))
    (hcase : (a = b ∧ x = c ∧ Bit.dec x = (b0 * 256 + b1, 0)) ∨ (a ≠ b ∧ Bit.dec x = (0, 2) ∧ Bit.pop (c ^^^ x) 22 = 2))
    (A0 : Hid (Calls Try.prog 27 #[.slice a0 len0 cap0, .int .i64 0] w fun e w' => e = .returned (.int .i64 (b0 : Nat)) ∧ w = w'))
    (A1 : Hid (Calls Try.prog 27 #[.slice a0 len0 cap0, .int .i64 1] w fun e w' => e = .returned (.int .i64 (b1 : Nat)) ∧ w = w'))
    (A2 : Hid (Calls Try.prog 27 #[.slice a0 len0 cap0, .int .i64 2] w fun e w' => e = .returned (.int .i64 (b2 : Nat)) ∧ w = w'))
    (A3 : Hid (Calls Try.prog 27 #[.slice a0 len0 cap0, .int .i64 3] w fun e w' => e = .returned (.int .i64 (b3 : Nat)) ∧ w = w')) :
    Calls Try.prog 10 #[.slice a0 len0 cap0] w fun e w' => e = .returned (.bool true) ∧ w = w' := by
  rcases hcase with ⟨h1, h2, h3⟩ | ⟨h1, h2, h3⟩
  · have hT := eq_cast _ _ h1
    have hX := eq_cast _ _ h2
    have D := Lib.hid h3
    clear h1 h2 h3
    go_enter Try.func10, Try.ntmps10
    go_wp2_with (first
      | (go_at_call 26; refine (big_no a0 len0 cap0 _ hbig).mono ?_; rintro e w' ⟨rfl, rfl⟩)
      | (go_at_call 27; ((with_reducible refine A0.out.mono ?_)); rintro e w' ⟨rfl, rfl⟩)
      | (go_at_call 27; ((with_reducible refine A1.out.mono ?_)); rintro e w' ⟨rfl, rfl⟩)
      | (go_at_call 27; ((with_reducible refine A2.out.mono ?_)); rintro e w' ⟨rfl, rfl⟩)
      | (go_at_call 27; ((with_reducible refine A3.out.mono ?_)); rintro e w' ⟨rfl, rfl⟩)
      | (go_at_call 23; rw [word_cast b0 b1]; ((with_reducible refine (implEncode_in (b0 * 256 + b1) hx _).mono ?_)); rintro e w' ⟨rfl, rfl⟩; rw [G.out])
      | (go_at_call 15; ((with_reducible refine (implFlip_in c a hc ha _).mono ?_)); rintro e w' ⟨rfl, rfl⟩; rw [G1.out])
      | (go_at_call 15; ((with_reducible refine (implFlip_in c1 b hc1 hb _).mono ?_)); rintro e w' ⟨rfl, rfl⟩; rw [G2.out])
      | (go_at_call 25; ((with_reducible refine (implDecode_in x hx1 _).mono ?_)); rintro e w' ⟨rfl, rfl⟩; rw [D.out]; simp only []))
    go_ret
    exact ⟨rfl, rfl⟩
  · have hT := (ne_cast _ _ h1).1
    have D := Lib.hid h2
    have P := Lib.hid h3
    clear h1 h2 h3
    go_enter Try.func10, Try.ntmps10
    go_wp2_with (first
      | (go_at_call 26; refine (big_no a0 len0 cap0 _ hbig).mono ?_; rintro e w' ⟨rfl, rfl⟩)
      | (go_at_call 27; ((with_reducible refine A0.out.mono ?_)); rintro e w' ⟨rfl, rfl⟩)
      | (go_at_call 27; ((with_reducible refine A1.out.mono ?_)); rintro e w' ⟨rfl, rfl⟩)
      | (go_at_call 27; ((with_reducible refine A2.out.mono ?_)); rintro e w' ⟨rfl, rfl⟩)
      | (go_at_call 27; ((with_reducible refine A3.out.mono ?_)); rintro e w' ⟨rfl, rfl⟩)
      | (go_at_call 23; rw [word_cast b0 b1]; ((with_reducible refine (implEncode_in (b0 * 256 + b1) hx _).mono ?_)); rintro e w' ⟨rfl, rfl⟩; rw [G.out])
      | (go_at_call 15; ((with_reducible refine (implFlip_in c a hc ha _).mono ?_)); rintro e w' ⟨rfl, rfl⟩; rw [G1.out])
      | (go_at_call 15; ((with_reducible refine (implFlip_in c1 b hc1 hb _).mono ?_)); rintro e w' ⟨rfl, rfl⟩; rw [G2.out])
      | (go_at_call 25; ((with_reducible refine (implDecode_in x hx1 _).mono ?_)); rintro e w' ⟨rfl, rfl⟩; rw [D.out])
      | (go_at_call 28; ((with_reducible refine (repair_double x hx1 D _).mono ?_)); rintro e w' ⟨rfl, rfl⟩)
      | (go_at_call 19; ((with_reducible refine (implDist_in c x hc hx1 _).mono ?_)); rintro e w' ⟨rfl, rfl⟩; rw [P.out]))
    go_ret
    exact ⟨rfl, rfl⟩
theorem flip_lt (c k : Nat) (h : c < 4194304) (hk : k < 22) : c ^^^ 2 ^ k < 4194304 := xor_small _ _ h (two_small k hk).2
theorem two_case (d a b : Nat) (hd : d < 65536) (ha : a < 22) (hb : b < 22) :
    (a = b ∧ Bit.enc d ^^^ 2 ^ a ^^^ 2 ^ b = Bit.enc d ∧ Bit.dec (Bit.enc d ^^^ 2 ^ a ^^^ 2 ^ b) = (d, 0)) ∨
    (a ≠ b ∧ Bit.dec (Bit.enc d ^^^ 2 ^ a ^^^ 2 ^ b) = (0, 2) ∧ Bit.pop (Bit.enc d ^^^ (Bit.enc d ^^^ 2 ^ a ^^^ 2 ^ b)) 22 = 2) := by
  have hs := Bit.enc_syn d hd
  have hp := Bit.enc_par d hd
  by_cases h : a = b
  · subst h
    have e : Bit.enc d ^^^ 2 ^ a ^^^ 2 ^ a = Bit.enc d := by rw [Nat.xor_assoc, Nat.xor_self, Nat.xor_zero]
    exact Or.inl ⟨rfl, e, by rw [e, dec_clean hp hs, Bit.enc_dat d hd]⟩
  · obtain ⟨s1, s2⟩ := Bit.two_syn a b ha hb h
    have e : Bit.enc d ^^^ 2 ^ a ^^^ 2 ^ b = Bit.enc d ^^^ (2 ^ a ^^^ 2 ^ b) := Nat.xor_assoc _ _ _
    have e2 : Bit.enc d ^^^ (Bit.enc d ^^^ (2 ^ a ^^^ 2 ^ b)) = 2 ^ a ^^^ 2 ^ b := by rw [← Nat.xor_assoc, Nat.xor_self, Nat.zero_xor]
    refine Or.inr ⟨h, ?_, by rw [e, e2, s2]⟩
    rw [e]
    apply dec_double
    · rw [Bit.par_xor, hp, s2]; rfl
    · unfold Bit.syn at *
      rw [Bit.synN_xor, hs, Nat.zero_xor]; exact s1
theorem walk_FnTwoFlipped (a0 : Option Addr) (len0 cap0 : Nat) (z0 : List Int) (w : World) (w0 : BRow .u8 w a0 len0 cap0 z0) :
    Calls Try.prog 10 #[.slice a0 len0 cap0] w fun e w' => e = .returned (.bool true) ∧ Below w.heap.size w w' := by
  have hb : BRow .u8 w a0 len0 cap0 z0 := w0
  have hlen := hb.len_le
  by_cases hbig : 1048576 < len0
  · go_enter Try.func10, Try.ntmps10
    go_wp2_with (go_at_call 26; refine (big_yes a0 len0 cap0 _ hlen hbig).mono ?_; rintro e w' ⟨rfl, rfl⟩)
    go_ret
    exact ⟨rfl, Below.refl _ _⟩
  · have hat := fun (i : Nat) (hi : i ≤ 1000000) => at_any a0 len0 cap0 z0 w hb i hi
    have h0 := hat 0 (by omega)
    have h1 := hat 1 (by omega)
    have h2 := hat 2 (by omega)
    have h3 := hat 3 (by omega)
    have c0 := cod_le hb 0
    have c1 := cod_le hb 1
    generalize cod z0 len0 0 = b0 at *
    generalize cod z0 len0 1 = b1 at *
    generalize cod z0 len0 2 = b2 at *
    generalize cod z0 len0 3 = b3 at *
    have hx := word_lt c0 c1
    have ha : b2 % 22 < 22 := Nat.mod_lt _ (by decide)
    have hb' : b3 % 22 < 22 := Nat.mod_lt _ (by decide)
    have hc := Bit.enc_lt _ hx
    have l1 := flip_lt _ _ hc ha
    have l2 := flip_lt _ _ l1 hb'
    exact (two_tail b0 b1 b2 b3 _ _ _ _ _ c0 c1 a0 len0 cap0 w (by omega) ha hb' (Int.natCast_emod b2 22).symm (Int.natCast_emod b3 22).symm hx hc l1 l2 (Lib.hid rfl) (Lib.hid rfl) (Lib.hid rfl) (two_case _ _ _ hx ha hb') (Lib.hid h0) (Lib.hid h1) (Lib.hid h2) (Lib.hid h3)).mono
      fun _ _ ⟨he, hw⟩ => ⟨he, hw ▸ Below.refl _ _⟩
end Go.Proofs.Ytbpldminegjjlaa
