/- The walk of the law FnRamReads. -/
import Derived.Test.YtbpldminegjjlaaByt
import Derived.Test.YtbpldminegjjlaaSeq
import Derived.Below
set_option linter.unusedVariables false
namespace Go.Proofs.Ytbpldminegjjlaa
open Go.RowKit
set_option maxHeartbeats 400000 in
theorem ram_tail (b0 b1 b2 s a d u q wr rd ot pl : Nat) (a0 : Option Addr) (len0 cap0 : Nat) (w : World) (hbig : len0 ≤ 1048576)
    (ha : a < 4) (hd : d < 2) (hs : s < 32) (hw : wr < 32)
    (e0 : (b0 : Int) % 32 = (s : Nat)) (e1 : (b1 : Int) % 4 = (a : Nat)) (e2 : (b2 : Int) % 2 = (d : Nat)) (e3 : (a : Int) + 4 * (d : Int) + 8 = (u : Nat)) (e4 : ((a : Int) + 1) % 4 = (q : Nat))
    (t1 : (bits BinOp.and IntKind.i64 (wr : Int) 1 == bits BinOp.and IntKind.i64 ((s : Int) / 2 ^ (a + 1)) 1) = true)
    (t2 : (bits BinOp.and IntKind.i64 (rd : Int) 1 == (d : Int)) = true)
    (t3 : (bits BinOp.and IntKind.i64 (ot : Int) 1 == bits BinOp.and IntKind.i64 (pl : Int) 1) = true)
    (t4 : ((rd : Int) / 2 == (wr : Int) / 2) = true)
    (A0 : Hid (Calls Try.prog 27 #[.slice a0 len0 cap0, .int .i64 0] w fun e w' => e = .returned (.int .i64 (b0 : Nat)) ∧ w = w'))
    (A1 : Hid (Calls Try.prog 27 #[.slice a0 len0 cap0, .int .i64 1] w fun e w' => e = .returned (.int .i64 (b1 : Nat)) ∧ w = w'))
    (A2 : Hid (Calls Try.prog 27 #[.slice a0 len0 cap0, .int .i64 2] w fun e w' => e = .returned (.int .i64 (b2 : Nat)) ∧ w = w'))
    (R1 : Hid (Calls Try.prog 34 #[.int .i64 1, .int .i64 (s : Nat), .int .i64 (u : Nat)] w fun e w' => e = .returned (.int .i64 (wr : Nat)) ∧ w = w'))
    (R2 : Hid (Calls Try.prog 34 #[.int .i64 1, .int .i64 (wr : Nat), .int .i64 (a : Nat)] w fun e w' => e = .returned (.int .i64 (rd : Nat)) ∧ w = w'))
    (R3 : Hid (Calls Try.prog 34 #[.int .i64 1, .int .i64 (wr : Nat), .int .i64 (q : Nat)] w fun e w' => e = .returned (.int .i64 (ot : Nat)) ∧ w = w'))
    (R4 : Hid (Calls Try.prog 34 #[.int .i64 1, .int .i64 (s : Nat), .int .i64 (q : Nat)] w fun e w' => e = .returned (.int .i64 (pl : Nat)) ∧ w = w')) :
    Calls Try.prog 13 #[.slice a0 len0 cap0] w fun e w' => e = .returned (.bool true) ∧ w = w' := by
  go_enter Try.func13, Try.ntmps13
  go_wp2_with (first
    | (go_at_call 26; refine (big_no a0 len0 cap0 _ hbig).mono ?_; rintro e w' ⟨rfl, rfl⟩)
    | (go_at_call 27; ((with_reducible refine A0.out.mono ?_)); rintro e w' ⟨rfl, rfl⟩)
    | (go_at_call 27; ((with_reducible refine A1.out.mono ?_)); rintro e w' ⟨rfl, rfl⟩)
    | (go_at_call 27; ((with_reducible refine A2.out.mono ?_)); rintro e w' ⟨rfl, rfl⟩)
    | (go_at_call 34; ((with_reducible refine R1.out.mono ?_)); rintro e w' ⟨rfl, rfl⟩)
    | (go_at_call 34; ((with_reducible refine R2.out.mono ?_)); rintro e w' ⟨rfl, rfl⟩)
    | (go_at_call 34; ((with_reducible refine R3.out.mono ?_)); rintro e w' ⟨rfl, rfl⟩)
    | (go_at_call 34; ((with_reducible refine R4.out.mono ?_)); rintro e w' ⟨rfl, rfl⟩)
    | (go_at_call 34; ((with_reducible refine (seqNext_flop _).mono ?_)); rintro e w' ⟨rfl, rfl⟩))
  go_ret
  exact ⟨rfl, rfl⟩
theorem ram_laws : ∀ s : Nat, s < 32 → ∀ a : Nat, a < 4 → ∀ d : Nat, d < 2 →
    (bits BinOp.and IntKind.i64 ((ramN s (a + 4 * d + 8) : Nat) : Int) 1 == bits BinOp.and IntKind.i64 ((s : Int) / 2 ^ (a + 1)) 1) = true ∧
    (bits BinOp.and IntKind.i64 ((ramN (ramN s (a + 4 * d + 8)) a : Nat) : Int) 1 == (d : Int)) = true ∧
    (bits BinOp.and IntKind.i64 ((ramN (ramN s (a + 4 * d + 8)) ((a + 1) % 4) : Nat) : Int) 1 == bits BinOp.and IntKind.i64 ((ramN s ((a + 1) % 4) : Nat) : Int) 1) = true ∧
    (((ramN (ramN s (a + 4 * d + 8)) a : Nat) : Int) / 2 == ((ramN s (a + 4 * d + 8) : Nat) : Int) / 2) = true := by decide +kernel
theorem walk_FnRamReads (a0 : Option Addr) (len0 cap0 : Nat) (z0 : List Int) (w : World) (w0 : BRow .u8 w a0 len0 cap0 z0) :
    Calls Try.prog 13 #[.slice a0 len0 cap0] w fun e w' => e = .returned (.bool true) ∧ Below w.heap.size w w' := by
  have hb : BRow .u8 w a0 len0 cap0 z0 := w0
  have hlen := hb.len_le
  by_cases hbig : 1048576 < len0
  · go_enter Try.func13, Try.ntmps13
    go_wp2_with (go_at_call 26; refine (big_yes a0 len0 cap0 _ hlen hbig).mono ?_; rintro e w' ⟨rfl, rfl⟩)
    go_ret
    exact ⟨rfl, Below.refl _ _⟩
  · have hat := fun (i : Nat) (hi : i ≤ 1000000) => at_any a0 len0 cap0 z0 w hb i hi
    have h0 := hat 0 (by omega)
    have h1 := hat 1 (by omega)
    have h2 := hat 2 (by omega)
    generalize cod z0 len0 0 = b0 at *
    generalize cod z0 len0 1 = b1 at *
    generalize cod z0 len0 2 = b2 at *
    have hs : b0 % 32 < 32 := Nat.mod_lt _ (by decide)
    have ha : b1 % 4 < 4 := Nat.mod_lt _ (by decide)
    have hd : b2 % 2 < 2 := Nat.mod_lt _ (by decide)
    have hq : (b1 % 4 + 1) % 4 < 16 := Nat.lt_of_lt_of_le (Nat.mod_lt _ (by decide)) (by decide)
    obtain ⟨t1, t2, t3, t4⟩ := ram_laws _ hs _ ha _ hd
    have hu : b1 % 4 + 4 * (b2 % 2) + 8 < 16 := by omega
    have hw := ram_lt _ hu _ hs
    exact (ram_tail b0 b1 b2 _ _ _ _ _ _ _ _ _ a0 len0 cap0 w (by omega) ha hd hs hw (by omega) (by omega) (by omega) (by omega) (by omega) t1 t2 t3 t4 (Lib.hid h0) (Lib.hid h1) (Lib.hid h2)
      (Lib.hid (seqNext_ram _ _ hs hu w)) (Lib.hid (seqNext_ram _ _ hw (by omega) w)) (Lib.hid (seqNext_ram _ _ hw hq w)) (Lib.hid (seqNext_ram _ _ hs hq w))).mono
      fun _ _ ⟨he, hw⟩ => ⟨he, hw ▸ Below.refl _ _⟩
end Go.Proofs.Ytbpldminegjjlaa
