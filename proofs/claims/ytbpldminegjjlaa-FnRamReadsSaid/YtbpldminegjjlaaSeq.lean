/- The walk of SeqNext at a memory. -/
import Derived.Test.YtbpldminegjjlaaBase
set_option linter.unusedVariables false
namespace Go.Proofs.Ytbpldminegjjlaa
open Go.RowKit
set_option maxHeartbeats 400000 in
theorem seqMost_ram (w : World) : Calls Try.prog 47 #[.int .i64 1] w fun e w' => e = .returned (.int .i64 31) ∧ w = w' := by
  go_enter Try.func47, Try.ntmps47
  go_wp2
  go_ret
  exact ⟨rfl, rfl⟩
set_option maxHeartbeats 400000 in
theorem seqMost_flop (w : World) : Calls Try.prog 47 #[.int .i64 0] w fun e w' => e = .returned (.int .i64 1) ∧ w = w' := by
  go_enter Try.func47, Try.ntmps47
  go_wp2
  go_ret
  exact ⟨rfl, rfl⟩
set_option maxHeartbeats 400000 in
theorem seqNext_flop (w : World) : Calls Try.prog 34 #[.int .i64 0, .int .i64 0, .int .i64 1] w fun e w' => e = .returned (.int .i64 1) ∧ w = w' := by
  have hr : inR 0 0 1 = true := by decide
  have hb : bits BinOp.and IntKind.i64 1 1 = 1 := by decide +kernel
  go_enter Try.func34, Try.ntmps34
  go_wp2_with (first
    | (go_at_call 47; refine (seqMost_flop _).mono ?_; rintro e w' ⟨rfl, rfl⟩)
    | (go_at_call 36; refine (inRange_any _ _ _ _).mono ?_; rintro e w' ⟨rfl, rfl⟩))
  go_ret
  exact ⟨rfl, rfl⟩
def ramOut (v i : Nat) : Nat := (v / 2 ^ (i % 4 + 1) % 2) + v / 2 * 2
def ramN (v i : Nat) : Nat := if i / 8 % 2 = 1 then ramOut v i - (ramOut v i / 2 ^ (i % 4 + 1) % 2) * 2 ^ (i % 4 + 1) + (i / 4 % 2) * 2 ^ (i % 4 + 1) else ramOut v i
theorem ram_write : ∀ i : Nat, i < 16 → ∀ v : Nat, v < 32 → (bits BinOp.and IntKind.i64 ((i : Int) / 8) 1 == 1) = true →
    bits BinOp.or IntKind.i64 (bits BinOp.andNot IntKind.i64 (bits BinOp.or IntKind.i64 (bits BinOp.and IntKind.i64 ((v : Int) / 2 ^ min (IntKind.u64.wrap (IntKind.u64.wrap (bits BinOp.and IntKind.i64 (i : Int) 3) + 1)).toNat 64) 1) (bits BinOp.andNot IntKind.i64 (v : Int) 1)) (wrap64 (2 ^ min (IntKind.u64.wrap (IntKind.u64.wrap (bits BinOp.and IntKind.i64 (i : Int) 3) + 1)).toNat 64)))
      (wrap64 (bits BinOp.and IntKind.i64 ((i : Int) / 4) 1 * 2 ^ min (IntKind.u64.wrap (IntKind.u64.wrap (bits BinOp.and IntKind.i64 (i : Int) 3) + 1)).toNat 64)) = ((ramN v i : Nat) : Int) := by decide +kernel
theorem ram_keep : ∀ i : Nat, i < 16 → ∀ v : Nat, v < 32 → (bits BinOp.and IntKind.i64 ((i : Int) / 8) 1 == 1) = false → bits BinOp.or IntKind.i64 (bits BinOp.and IntKind.i64 ((v : Int) / 2 ^ min (IntKind.u64.wrap (IntKind.u64.wrap (bits BinOp.and IntKind.i64 (i : Int) 3) + 1)).toNat 64) 1) (bits BinOp.andNot IntKind.i64 (v : Int) 1) = ((ramN v i : Nat) : Int) := by decide +kernel
theorem ram_lt : ∀ i : Nat, i < 16 → ∀ v : Nat, v < 32 → ramN v i < 32 := by decide +kernel
set_option maxHeartbeats 400000 in
theorem seqNext_ram (v i : Nat) (hv : v < 32) (hi : i < 16) (w : World) : Calls Try.prog 34 #[.int .i64 1, .int .i64 (v : Int), .int .i64 (i : Int)] w fun e w' => e = .returned (.int .i64 (ramN v i : Nat)) ∧ w = w' := by
  have hr : inR (v : Int) 0 31 = true := inR_true (by omega) (by omega)
  go_enter Try.func34, Try.ntmps34
  go_wp2_with (first
    | (go_at_call 47; refine (seqMost_ram _).mono ?_; rintro e w' ⟨rfl, rfl⟩)
    | (go_at_call 36; refine (inRange_any _ _ _ _).mono ?_; rintro e w' ⟨rfl, rfl⟩))
  all_goals go_ret
  all_goals refine ⟨rt_int ?_, rfl⟩
  · exact ram_write i hi v hv (by assumption)
  · exact ram_keep i hi v hv (by assumption)
end Go.Proofs.Ytbpldminegjjlaa
