/- Small laws that all texts of this seat use. -/
import Derived.Test.YtbpldminegjjlaaRows
import Derived.WalkKit
import Derived.WalkSpells
import Derived.WalkLawsBesides
import Derived.OpenShut
import Derived.Lib.Hide
set_option linter.unusedVariables false
namespace Go.Proofs.Ytbpldminegjjlaa
open Go.RowKit Go.ChangeShapes
def inR (a b c : Int) : Bool := decide (b ≤ a) && decide (a ≤ c)
theorem inR_true {a b c : Int} (h1 : b ≤ a) (h2 : a ≤ c) : inR a b c = true := by unfold inR; simp [h1, h2]
theorem inR_left {a b c : Int} (h1 : b ≤ a) : inR a b c = decide (a ≤ c) := by unfold inR; simp [h1]
theorem inR_false {a b c : Int} (h : a < b ∨ c < a) : inR a b c = false := by unfold inR; simp; omega
theorem inR_iff (a b c : Int) : inR a b c = true ↔ b ≤ a ∧ a ≤ c := by unfold inR; simp
theorem rt_bool {a b : Bool} (h : a = b) : Ending.returned (.bool a) = .returned (.bool b) := by rw [h]
theorem rt_int {k : IntKind} {a b : Int} (h : a = b) : Ending.returned (.int k a) = .returned (.int k b) := by rw [h]
theorem rt_pair {a b c d : Int} (h : a = b) (h2 : c = d) : Ending.returned (.tuple #[.int .i64 a, .int .i64 c]) = .returned (.tuple #[.int .i64 b, .int .i64 d]) := by rw [h, h2]
theorem grown_drewN {W w : World} (h : Grown W w) (n : Nat) : Grown W (w.drewN n) := h
theorem getD_mem {z : List Int} {j : Nat} (h : j < z.length) : z.getD j 0 ∈ z := by
  rw [List.getD_eq_getElem?_getD, List.getElem?_eq_getElem h]; exact List.getElem_mem h
theorem i64_rng {n : Int} (h : (Lit.int .i64 n).wf = true) : -9223372036854775808 ≤ n ∧ n ≤ 9223372036854775807 := by
  simp [Lit.wf, IntKind.min, IntKind.max, IntKind.signed, IntKind.bits] at h; omega
set_option maxHeartbeats 400000 in
theorem inRange_any (a b c : Int) (w : World) :
    Calls Try.prog 36 #[.int .i64 a, .int .i64 b, .int .i64 c] w fun e w' => e = .returned (.bool (inR a b c)) ∧ w = w' := by
  go_enter Try.func36, Try.ntmps36
  go_wp2
  all_goals go_ret
  · exact ⟨rt_bool (inR_left (by assumption)).symm, rfl⟩
  · exact ⟨rt_bool (inR_false (Or.inl (by assumption))).symm, rfl⟩
set_option maxHeartbeats 400000 in
theorem l01In_any (a b c : Int) (w : World) :
    Calls Try.prog 35 #[.int .i64 a, .int .i64 b, .int .i64 c] w fun e w' => e = .returned (.bool (inR a b c)) ∧ w = w' := by
  go_enter Try.func35, Try.ntmps35
  go_wp2
  all_goals go_ret
  · exact ⟨rt_bool (inR_left (by assumption)).symm, rfl⟩
  · exact ⟨rt_bool (inR_false (Or.inl (by assumption))).symm, rfl⟩
end Go.Proofs.Ytbpldminegjjlaa
