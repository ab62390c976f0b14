/- Numbers of routing nodes: the walks. -/
import Derived.Test.YtnnkbpcfjjijbaaTile2
import Derived.Deep.RegionHeld3
set_option linter.unusedVariables false
set_option linter.unusedSimpArgs false
namespace Go.Proofs.Ytnnkbpcfjjijbaa
open Go.RowKit
def perI (d : Dev) : Int := 7 + 4 * d.T
def allI (d : Dev) : Int := d.W * d.H * perI d
def inPinsI (k : Int) : Int := if k = 0 then 1 else if k = 1 then 5 else if k = 2 then 4 else 0
def outPinsI (k : Int) : Int := if k = 0 then 1 else if k = 1 then 2 else if k = 2 then 1 else 0
/-- a device in block B, and whatever lay before it, as it was in w0 -/
abbrev DevS (w0 : World) (B : Nat) (d : Dev) (w' : World) : Prop := w'.cell? ⟨B, 0, none⟩ = some (.int .i64 d.W) ∧ w'.cell? ⟨B, 1, none⟩ = some (.int .i64 d.H) ∧ w'.cell? ⟨B, 2, none⟩ = some (.int .i64 d.T) ∧ w'.cell? ⟨B, 3, none⟩ = some (.int .i64 d.R) ∧ Below (B + 1) w0 w'
theorem devS_drew {w0 : World} {B : Nat} {d : Dev} {X : World} (h : DevS w0 B d X) : DevS w0 B d X.drew := ⟨h.1, h.2.1, h.2.2.1, h.2.2.2.1, h.2.2.2.2.drew⟩
theorem devS_step {w0 : World} {B : Nat} {d : Dev} {X Y : World} (h : DevS w0 B d X) (hb : Below X.heap.size X Y) : DevS w0 B d Y := by
  have hlt : B < X.heap.size := World.block_lt_of_cell? _ _ h.1
  exact ⟨(hb.cell (p := ⟨B, 0, none⟩) hlt).trans h.1, (hb.cell (p := ⟨B, 1, none⟩) hlt).trans h.2.1, (hb.cell (p := ⟨B, 2, none⟩) hlt).trans h.2.2.1, (hb.cell (p := ⟨B, 3, none⟩) hlt).trans h.2.2.2.1, h.2.2.2.2.trans (hb.mono hlt)⟩
theorem devS_start (w : World) (d : Dev) : DevS (w.alloc (.cells #[.int .i64 d.W, .int .i64 d.H, .int .i64 d.T, .int .i64 d.R] 25)) w.heap.size d (w.alloc (.cells #[.int .i64 d.W, .int .i64 d.H, .int .i64 d.T, .int .i64 d.R] 25)) :=
  ⟨World.cell?_alloc_at _ _ _ _ rfl, World.cell?_alloc_at _ _ _ _ rfl, World.cell?_alloc_at _ _ _ _ rfl, World.cell?_alloc_at _ _ _ _ rfl, Below.refl _ _⟩
theorem devS_alloc {w0 : World} {B : Nat} {d : Dev} {X : World} (h : DevS w0 B d X) (o : Obj) : DevS w0 B d (X.alloc o) := devS_step h (bel_alloc (Below.refl _ _) o)
theorem devS_end {w : World} {d : Dev} {o : Obj} {Y : World} (h : DevS (w.alloc o) w.heap.size d Y) : Below w.heap.size w Y := (bel_alloc (Below.refl _ _) _).trans (h.2.2.2.2.mono (by omega))
theorem per_rng {d : Dev} (hv : devB d = true) : 11 ≤ perI d ∧ perI d ≤ 23 := by
  obtain ⟨-, -, ⟨t1, t2⟩, -⟩ := (devB_iff d).1 hv
  unfold perI; omega
theorem all_rng {d : Dev} (hv : devB d = true) : 99 ≤ allI d ∧ allI d ≤ 828 := by
  obtain ⟨h1, h2⟩ := per_rng hv
  obtain ⟨m1, m2⟩ := area_le hv
  have e1 : 9 * 11 ≤ d.W * d.H * perI d := Int.mul_le_mul m1 h1 (by omega) (by omega)
  have e2 : d.W * d.H * perI d ≤ 36 * 23 := Int.mul_le_mul m2 h2 (by omega) (by omega)
  unfold allI; omega
theorem place_rng {d : Dev} {n : Int} (hv : devB d = true) (n0 : 0 ≤ n) (n1 : n ≤ allI d - 1) : 0 ≤ n / perI d ∧ n / perI d ≤ d.W * d.H - 1 ∧ 0 ≤ n % perI d ∧ n % perI d ≤ perI d - 1 ∧ tOk d (n / perI d) = true := by
  obtain ⟨h1, h2⟩ := per_rng hv
  have e1 : 0 ≤ n / perI d := Int.ediv_nonneg n0 (by omega)
  have e2 : n / perI d < d.W * d.H := Int.ediv_lt_of_lt_mul (by omega) (by unfold allI at n1; omega)
  have e3 := Int.emod_nonneg n (show perI d ≠ 0 by omega)
  have e4 := Int.emod_lt_of_pos n (show 0 < perI d by omega)
  exact ⟨e1, by omega, e3, by omega, (tOk_iff _ _).2 ⟨hv, e1, by omega⟩⟩
set_option maxHeartbeats 1000000 in
theorem implPer_any (d : Dev)  (hv : devB d = true) (w : World) :
    Calls Try.prog 86 #[.agg #[.int .i64 d.W, .int .i64 d.H, .int .i64 d.T, .int .i64 d.R]] w fun e w' => e = .returned (.int .i64 (perI d)) ∧ Below w.heap.size w w' := by
  obtain ⟨⟨a1, a2⟩, ⟨b1, b2⟩, ⟨t1, t2⟩, -⟩ := (devB_iff d).1 hv
  go_enter Try.func86, Try.ntmps86
  go_wp2
  go_ret
  exact ⟨rfl, bel_alloc (Below.refl _ _) _⟩
set_option maxHeartbeats 1000000 in
theorem implAll_any (d : Dev)  (hv : devB d = true) (w : World) :
    Calls Try.prog 89 #[.agg #[.int .i64 d.W, .int .i64 d.H, .int .i64 d.T, .int .i64 d.R]] w fun e w' => e = .returned (.int .i64 (allI d)) ∧ Below w.heap.size w w' := by
  obtain ⟨⟨a1, a2⟩, ⟨b1, b2⟩, ⟨t1, t2⟩, -⟩ := (devB_iff d).1 hv
  obtain ⟨h1, h2⟩ := per_rng hv
  obtain ⟨m1, m2⟩ := area_le hv
  obtain ⟨h3, h4⟩ := all_rng hv
  unfold allI at h3 h4
  have e1 : IntKind.i64.wrap (d.W * d.H) = d.W * d.H := IntWalk.i64_in _ (by omega)
  have e2 : IntKind.i64.wrap (d.W * d.H * perI d) = d.W * d.H * perI d := IntWalk.i64_in _ (by omega)
  have hS0 := devS_start w d
  have HS0 := Lib.hid hS0
  go_enter Try.func89, Try.ntmps89
  go_wp2
  go_region_held3 (fun w' => DevS (w.alloc (.cells #[.int .i64 d.W, .int .i64 d.H, .int .i64 d.T, .int .i64 d.R] 25)) w.heap.size d w') (first | assumption | exact devS_drew (by assumption) | exact devS_alloc (by assumption) _ | exact devS_step (by assumption) (by assumption)) (first | (go_at_call 86; refine (implPer_any d hv _).mono ?_; rintro e w1 ⟨rfl, hb1⟩))
  go_wp2
  go_ret
  exact ⟨rfl, devS_end (by assumption)⟩
set_option maxHeartbeats 400000 in
theorem inPins_any (k : Int) (h : k = 0 ∨ k = 1 ∨ k = 2) (w : World) : Calls Try.prog 100 #[.int .i64 k] w fun e w' => e = .returned (.int .i64 (inPinsI k)) ∧ w = w' := by
  rcases h with rfl | rfl | rfl
  all_goals
    go_enter Try.func100, Try.ntmps100
    go_wp2
    go_ret
    exact ⟨rfl, rfl⟩
set_option maxHeartbeats 400000 in
theorem outPins_any (k : Int) (h : k = 0 ∨ k = 1 ∨ k = 2) (w : World) : Calls Try.prog 101 #[.int .i64 k] w fun e w' => e = .returned (.int .i64 (outPinsI k)) ∧ w = w' := by
  rcases h with rfl | rfl | rfl
  all_goals
    go_enter Try.func101, Try.ntmps101
    go_wp2
    go_ret
    exact ⟨rfl, rfl⟩
set_option maxHeartbeats 400000 in
theorem wireLen_any (k : Int) (h0 : 0 ≤ k) (h1 : k ≤ 3) (w : World) : Calls Try.prog 85 #[.int .i64 k] w fun e w' => e = .returned (.int .i64 (1 + k % 2)) ∧ w = w' := by
  go_enter Try.func85, Try.ntmps85
  go_wp2
  go_ret
  exact ⟨rfl, rfl⟩
set_option maxHeartbeats 1000000 in
theorem nodePlace_any (d : Dev) (n : Int) (hv : devB d = true) (n0 : 0 ≤ n) (n1 : n ≤ 100000) (w : World) :
    Calls Try.prog 97 #[.agg #[.int .i64 d.W, .int .i64 d.H, .int .i64 d.T, .int .i64 d.R], .int .i64 n] w fun e w' => e = .returned (.tuple #[.int .i64 (n / perI d), .int .i64 (n % perI d)]) ∧ Below w.heap.size w w' := by
  obtain ⟨⟨a1, a2⟩, ⟨b1, b2⟩, ⟨t1, t2⟩, -⟩ := (devB_iff d).1 hv
  obtain ⟨h1, h2⟩ := per_rng hv
  have q1 : ¬ perI d = 0 := by omega
  have q2 : IntKind.i64.wrap (n.tdiv (perI d)) = n / perI d := IntWalk.i64_quo _ _ (by omega)
  have q3 : n.tmod (perI d) = n % perI d := Int.tmod_eq_emod_of_nonneg n0
  have hS0 := devS_start w d
  have HS0 := Lib.hid hS0
  go_enter Try.func97, Try.ntmps97
  go_wp2
  go_region_held3 (fun w' => DevS (w.alloc (.cells #[.int .i64 d.W, .int .i64 d.H, .int .i64 d.T, .int .i64 d.R] 25)) w.heap.size d w') (first | assumption | exact devS_drew (by assumption) | exact devS_alloc (by assumption) _ | exact devS_step (by assumption) (by assumption)) (first | (go_at_call 86; refine (implPer_any d hv _).mono ?_; rintro e w1 ⟨rfl, hb1⟩))
  all_goals
    go_wp2
    go_ret2
    exact ⟨rfl, devS_end (by assumption)⟩
end Go.Proofs.Ytnnkbpcfjjijbaa
