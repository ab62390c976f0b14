/- Small laws that all texts of this seat use. -/
import Derived.Test.YteccnnpcigkmhaaRows
import Derived.WalkKit
import Derived.WalkSpells
import Derived.WalkLawsBesides
import Derived.OpenShut
import Derived.Lib.Hide
import Derived.Below
set_option linter.unusedVariables false
set_option linter.unusedSimpArgs false
namespace Go.Proofs.Yteccnnpcigkmhaa
open Go.RowKit Go.ChangeShapes
def inR (a b c : Int) : Bool := decide (b ≤ a) && decide (a ≤ c)
theorem inR_true {a b c : Int} (h1 : b ≤ a) (h2 : a ≤ c) : inR a b c = true := by unfold inR; simp [h1, h2]
theorem inR_left {a b c : Int} (h1 : b ≤ a) : inR a b c = decide (a ≤ c) := by unfold inR; simp [h1]
theorem inR_false {a b c : Int} (h : a < b ∨ c < a) : inR a b c = false := by unfold inR; simp; omega
theorem inR_iff (a b c : Int) : inR a b c = true ↔ b ≤ a ∧ a ≤ c := by unfold inR; simp
theorem rt_bool {a b : Bool} (h : a = b) : Ending.returned (.bool a) = .returned (.bool b) := by rw [h]
theorem rt_int {k : IntKind} {a b : Int} (h : a = b) : Ending.returned (.int k a) = .returned (.int k b) := by rw [h]
theorem rt_pair {a b c d : Int} (h : a = b) (h2 : c = d) : Ending.returned (.tuple #[.int .i64 a, .int .i64 c]) = .returned (.tuple #[.int .i64 b, .int .i64 d]) := by rw [h, h2]
theorem grown_drewN {W w : World} (h : Grown W w) (n : Nat) : Grown W (w.drewN n) := h
theorem getD_mem {z : List Int} {j : Nat} (h : j < z.length) : z.getD j 0 ∈ z := by
  rw [List.getD_eq_getElem?_getD, List.getElem?_eq_getElem h]; exact List.getElem_mem h
theorem i64_rng {n : Int} (h : (Lit.int .i64 n).wf = true) : -9223372036854775808 ≤ n ∧ n ≤ 9223372036854775807 := by
  simp [Lit.wf, IntKind.min, IntKind.max, IntKind.signed, IntKind.bits] at h; omega
/-! ### worlds that keep all that was there -/
theorem bcell {W w1 : World} (hb : Below W.heap.size W w1) : (∀ b o, b < W.heap.size → w1.cell? ⟨b, o, none⟩ = W.cell? ⟨b, o, none⟩) ∧ (∀ b o, b < W.heap.size → w1.frozen? ⟨b, o, none⟩ = W.frozen? ⟨b, o, none⟩) ∧ W.heap.size ≤ w1.heap.size :=
  ⟨fun b o h => hb.cell (p := ⟨b, o, none⟩) h, fun b o h => hb.frozen (p := ⟨b, o, none⟩) h, hb.size⟩
theorem size_up {a b c : Nat} (h1 : a ≤ b) (h2 : b ≤ c) : a ≤ c := Nat.le_trans h1 h2
theorem size_alloc' (w : World) (o : Obj) : (w.alloc o).heap.size = w.heap.size + 1 := by show (w.heap.push o).size = _; simp
theorem bel_lt {w w1 : World} {o : Obj} (h : Below (w.alloc o).heap.size (w.alloc o) w1) : w.heap.size < w1.heap.size := by
  have := h.size; rw [size_alloc'] at this; omega
theorem lt_bel {k : Nat} {w w1 : World} (h : Below w.heap.size w w1) (hk : k < w.heap.size) : k < w1.heap.size := Nat.lt_of_lt_of_le hk h.size
theorem bel_trans {a b c : World} (h1 : Below a.heap.size a b) (h2 : Below b.heap.size b c) : Below a.heap.size a c := h1.trans (h2.mono h1.size)
theorem bel_alloc {a b : World} (h : Below a.heap.size a b) (o : Obj) : Below a.heap.size a (b.alloc o) := h.alloc h.size o
theorem bel_drewN {a b : World} (h : Below a.heap.size a b) (n : Nat) : Below a.heap.size a (b.drewN n) := h.trans ⟨rfl, rfl, rfl, Nat.le_refl _, fun _ _ => rfl⟩
theorem bel_drew {a b : World} (h : Below a.heap.size a b) : Below a.heap.size a b.drew := h.trans ⟨rfl, rfl, rfl, Nat.le_refl _, fun _ _ => rfl⟩
theorem bel_set {a b : World} (h : Below a.heap.size a b) (p : Addr) (hp : a.heap.size ≤ p.block) (v : Value) : Below a.heap.size a (b.setCell p v) := h.setCell hp v
theorem bel_eq {a b : World} (h : a = b) : Below a.heap.size a b := h ▸ Below.refl _ _
set_option maxHeartbeats 400000 in
theorem inRange_any (a b c : Int) (w : World) :
    Calls Try.prog 34 #[.int .i64 a, .int .i64 b, .int .i64 c] w fun e w' => e = .returned (.bool (inR a b c)) ∧ w = w' := by
  go_enter Try.func34, Try.ntmps34
  go_wp2
  all_goals go_ret
  · exact ⟨rt_bool (inR_left (by assumption)).symm, rfl⟩
  · exact ⟨rt_bool (inR_false (Or.inl (by assumption))).symm, rfl⟩
set_option maxHeartbeats 400000 in
theorem l01In_any (a b c : Int) (w : World) :
    Calls Try.prog 30 #[.int .i64 a, .int .i64 b, .int .i64 c] w fun e w' => e = .returned (.bool (inR a b c)) ∧ w = w' := by
  go_enter Try.func30, Try.ntmps30
  go_wp2
  all_goals go_ret
  · exact ⟨rt_bool (inR_left (by assumption)).symm, rfl⟩
  · exact ⟨rt_bool (inR_false (Or.inl (by assumption))).symm, rfl⟩
end Go.Proofs.Yteccnnpcigkmhaa
