/- Wires: the walks of WireNode, IsWire, WireReaches. -/
import Derived.Test.YtnnkbpcfjjijbaaWire2
set_option linter.unusedVariables false
set_option linter.unusedSimpArgs false
namespace Go.Proofs.Ytnnkbpcfjjijbaa
open Go.RowKit
def wireN (d : Dev) (t dir k : Int) : Int := t * perI d + 7 + dir * d.T + k
set_option maxHeartbeats 4000000 in
theorem wireNode_no (d : Dev) (t dir k : Int) (ht : tOk d t = true) (r0 : 0 ≤ dir) (r1 : dir ≤ 3) (k0 : 0 ≤ k) (k1 : k ≤ d.T - 1) (hs : stepI d t dir (1 + k % 2) < 0) (w : World) :
    Calls Try.prog 31 #[.agg #[.int .i64 d.W, .int .i64 d.H, .int .i64 d.T, .int .i64 d.R], .int .i64 t, .int .i64 dir, .int .i64 k] w fun e w' => e = .returned (.int .i64 (-1)) ∧ Below w.heap.size w w' := by
  obtain ⟨hv, t0, t1⟩ := (tOk_iff d t).1 ht
  obtain ⟨m1, m2⟩ := area_le hv
  obtain ⟨h1, h2⟩ := per_rng hv
  obtain ⟨-, -, ⟨l1, l2⟩, -⟩ := (devB_iff d).1 hv
  have hr1 : inR dir 0 3 = true := inR_true r0 r1
  have hr2 : inR k 0 (d.T - 1) = true := inR_true k0 k1
  have e0 : 0 ≤ t * perI d ∧ t * perI d ≤ 35 * 23 := ⟨Int.mul_nonneg t0 (by omega), Int.mul_le_mul (by omega) h2 (by omega) (by omega)⟩
  have e9 : 0 ≤ dir * d.T ∧ dir * d.T ≤ 3 * 4 := ⟨Int.mul_nonneg r0 (by omega), Int.mul_le_mul r1 l2 (by omega) (by omega)⟩
  have e1 : IntKind.i64.wrap (t * perI d) = t * perI d := IntWalk.i64_in _ (by omega)
  have e2 : IntKind.i64.wrap (t * perI d + 7) = t * perI d + 7 := IntWalk.i64_in _ (by omega)
  have e3 : IntKind.i64.wrap (dir * d.T) = dir * d.T := IntWalk.i64_in _ (by omega)
  have e4 : IntKind.i64.wrap (t * perI d + 7 + dir * d.T) = t * perI d + 7 + dir * d.T := IntWalk.i64_in _ (by omega)
  have e5 : IntKind.i64.wrap (t * perI d + 7 + dir * d.T + k) = t * perI d + 7 + dir * d.T + k := IntWalk.i64_in _ (by omega)
  have e6 : IntKind.i64.wrap (d.T - 1) = d.T - 1 := IntWalk.i64_in _ (by omega)
  have z : 0 ≤ 1 + k % 2 ∧ 1 + k % 2 ≤ 2 := by omega
  have hS0 := devS_start w d
  have HS0 := Lib.hid hS0
  go_enter Try.func31, Try.ntmps31
  go_wp2
  go_region_held3 (fun w' => DevS (w.alloc (.cells #[.int .i64 d.W, .int .i64 d.H, .int .i64 d.T, .int .i64 d.R] 25)) w.heap.size d w') (first | assumption | exact devS_drew (by assumption) | exact devS_alloc (by assumption) _ | exact devS_step (by assumption) (by assumption)) (first | (go_at_call 74; refine (implTileOk_any d t _).mono ?_; rintro e w1 ⟨rfl, hb1⟩) | (go_at_call 75; refine (inRange_any _ _ _ _).mono ?_; rintro e w1 ⟨rfl, rfl⟩) | (go_at_call 85; refine (wireLen_any _ k0 (by omega) _).mono ?_; rintro e w1 ⟨rfl, rfl⟩) | (go_at_call 76; refine (tileStep_any d _ _ _ hv t0 t1 r0 r1 z.1 (by omega) _).mono ?_; rintro e w1 ⟨rfl, hb1⟩))
  all_goals go_wp2
  all_goals go_ret
  all_goals exact ⟨rfl, devS_end (by assumption)⟩
set_option maxHeartbeats 4000000 in
theorem wireNode_yes (d : Dev) (t dir k : Int) (ht : tOk d t = true) (r0 : 0 ≤ dir) (r1 : dir ≤ 3) (k0 : 0 ≤ k) (k1 : k ≤ d.T - 1) (hs : 0 ≤ stepI d t dir (1 + k % 2)) (w : World) :
    Calls Try.prog 31 #[.agg #[.int .i64 d.W, .int .i64 d.H, .int .i64 d.T, .int .i64 d.R], .int .i64 t, .int .i64 dir, .int .i64 k] w fun e w' => e = .returned (.int .i64 (wireN d t dir k)) ∧ Below w.heap.size w w' := by
  obtain ⟨hv, t0, t1⟩ := (tOk_iff d t).1 ht
  obtain ⟨m1, m2⟩ := area_le hv
  obtain ⟨h1, h2⟩ := per_rng hv
  obtain ⟨-, -, ⟨l1, l2⟩, -⟩ := (devB_iff d).1 hv
  have hr1 : inR dir 0 3 = true := inR_true r0 r1
  have hr2 : inR k 0 (d.T - 1) = true := inR_true k0 k1
  have e0 : 0 ≤ t * perI d ∧ t * perI d ≤ 35 * 23 := ⟨Int.mul_nonneg t0 (by omega), Int.mul_le_mul (by omega) h2 (by omega) (by omega)⟩
  have e9 : 0 ≤ dir * d.T ∧ dir * d.T ≤ 3 * 4 := ⟨Int.mul_nonneg r0 (by omega), Int.mul_le_mul r1 l2 (by omega) (by omega)⟩
  have e1 : IntKind.i64.wrap (t * perI d) = t * perI d := IntWalk.i64_in _ (by omega)
  have e2 : IntKind.i64.wrap (t * perI d + 7) = t * perI d + 7 := IntWalk.i64_in _ (by omega)
  have e3 : IntKind.i64.wrap (dir * d.T) = dir * d.T := IntWalk.i64_in _ (by omega)
  have e4 : IntKind.i64.wrap (t * perI d + 7 + dir * d.T) = t * perI d + 7 + dir * d.T := IntWalk.i64_in _ (by omega)
  have e5 : IntKind.i64.wrap (t * perI d + 7 + dir * d.T + k) = t * perI d + 7 + dir * d.T + k := IntWalk.i64_in _ (by omega)
  have e6 : IntKind.i64.wrap (d.T - 1) = d.T - 1 := IntWalk.i64_in _ (by omega)
  have z : 0 ≤ 1 + k % 2 ∧ 1 + k % 2 ≤ 2 := by omega
  have hS0 := devS_start w d
  have HS0 := Lib.hid hS0
  go_enter Try.func31, Try.ntmps31
  go_wp2
  go_region_held3 (fun w' => DevS (w.alloc (.cells #[.int .i64 d.W, .int .i64 d.H, .int .i64 d.T, .int .i64 d.R] 25)) w.heap.size d w') (first | assumption | exact devS_drew (by assumption) | exact devS_alloc (by assumption) _ | exact devS_step (by assumption) (by assumption)) (first | (go_at_call 74; refine (implTileOk_any d t _).mono ?_; rintro e w1 ⟨rfl, hb1⟩) | (go_at_call 75; refine (inRange_any _ _ _ _).mono ?_; rintro e w1 ⟨rfl, rfl⟩) | (go_at_call 85; refine (wireLen_any _ k0 (by omega) _).mono ?_; rintro e w1 ⟨rfl, rfl⟩) | (go_at_call 76; refine (tileStep_any d _ _ _ hv t0 t1 r0 r1 z.1 (by omega) _).mono ?_; rintro e w1 ⟨rfl, hb1⟩))
  all_goals go_wp2
  all_goals
    go_region_held3 (fun w' => DevS (w.alloc (.cells #[.int .i64 d.W, .int .i64 d.H, .int .i64 d.T, .int .i64 d.R] 25)) w.heap.size d w') (first | assumption | exact devS_drew (by assumption) | exact devS_alloc (by assumption) _ | exact devS_step (by assumption) (by assumption)) (first | (go_at_call 86; refine (implPer_any d hv _).mono ?_; rintro e w1 ⟨rfl, hb1⟩))
  all_goals go_wp2
  all_goals go_ret
  all_goals exact ⟨rfl, devS_end (by assumption)⟩
set_option maxHeartbeats 1000000 in
theorem isWire_yes (d : Dev) (n : Int) (hv : devB d = true) (n0 : 0 ≤ n) (n1 : n ≤ allI d - 1) (k7 : 7 ≤ n % perI d) (hn : nodeOkI d n = true) (w : World) :
    Calls Try.prog 35 #[.agg #[.int .i64 d.W, .int .i64 d.H, .int .i64 d.T, .int .i64 d.R], .int .i64 n] w fun e w' => e = .returned (.bool true) ∧ Below w.heap.size w w' := by
  have hS0 := devS_start w d
  have HS0 := Lib.hid hS0
  go_enter Try.func35, Try.ntmps35
  go_wp2_with fail
  refine (implRouteNodeOk_any d n _).mono ?_
  rintro e w1 ⟨rfl, hb1⟩
  have hS1 := devS_step HS0.out hb1
  have HS1 := Lib.hid hS1
  clear hS0
  obtain ⟨c0, c1, c2, c3, -⟩ := hS1
  clear hb1
  have hz1 : w.heap.size < w1.heap.size := World.block_lt_of_cell? _ _ c0
  go_wp2_with fail
  refine (wireOf_wire d n hv n0 n1 k7 _).mono ?_
  rintro e w2 ⟨rfl, hb2⟩
  have hS2 := devS_step HS1.out hb2
  have HS2 := Lib.hid hS2
  clear c0 c1 c2 c3
  obtain ⟨c0, c1, c2, c3, -⟩ := hS2
  clear hb2
  have hz2 : w.heap.size < w2.heap.size := World.block_lt_of_cell? _ _ c0
  go_wp2
  go_ret
  exact ⟨rfl, devS_end HS2.out⟩
end Go.Proofs.Ytnnkbpcfjjijbaa
