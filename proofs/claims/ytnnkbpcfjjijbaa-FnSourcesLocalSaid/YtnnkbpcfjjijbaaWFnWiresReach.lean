/- The walk of the law FnWiresReach. -/
import Derived.Test.YtnnkbpcfjjijbaaWire4
import Derived.Test.YtnnkbpcfjjijbaaTileP
import Derived.Test.YtnnkbpcfjjijbaaSpec1
import Derived.Test.YtnnkbpcfjjijbaaDraw
import Derived.Test.YtnnkbpcfjjijbaaHas
set_option linter.unusedVariables false
set_option linter.unusedSimpArgs false
namespace Go.Proofs.Ytnnkbpcfjjijbaa
open Go.RowKit
theorem BRow.drew {k : IntKind} {w : World} {a : Option Addr} {len cap : Nat} {zs : List Int} (h : BRow k w a len cap zs) : BRow k w.drew a len cap zs := h.below (bel_drew (Below.refl _ _))
theorem wire_parts {d : Dev} {t dir k : Int} (ht : tOk d t = true) (r0 : 0 ≤ dir) (r1 : dir ≤ 3) (k0 : 0 ≤ k) (k1 : k ≤ d.T - 1) (hs : 0 ≤ stepI d t dir (1 + k % 2)) :
    0 ≤ wireN d t dir k ∧ wireN d t dir k ≤ allI d - 1 ∧ wireN d t dir k / perI d = t ∧ 7 ≤ wireN d t dir k % perI d ∧ (wireN d t dir k % perI d - 7) / d.T = dir ∧ (wireN d t dir k % perI d - 7) % d.T = k ∧ nodeOkI d (wireN d t dir k) = true := by
  obtain ⟨hv, t0, t1⟩ := (tOk_iff d t).1 ht
  obtain ⟨-, -, ⟨l1, l2⟩, -⟩ := (devB_iff d).1 hv
  have e9 : 0 ≤ dir * d.T ∧ dir * d.T ≤ 3 * d.T := ⟨Int.mul_nonneg r0 (by omega), Int.mul_le_mul_of_nonneg_right r1 (by omega)⟩
  have hp : perI d = 7 + 4 * d.T := rfl
  have e : wireN d t dir k = t * perI d + (7 + dir * d.T + k) := by unfold wireN; omega
  obtain ⟨f1, f2⟩ := xy_of (W := perI d) (x := 7 + dir * d.T + k) (y := t) (by omega) (by omega) (by omega)
  obtain ⟨f3, f4⟩ := xy_of (W := d.T) (x := k) (y := dir) (by omega) k0 (by omega)
  have e8 : 0 ≤ t * perI d := Int.mul_nonneg t0 (by omega)
  have e7 : t * perI d ≤ (d.W * d.H - 1) * perI d := Int.mul_le_mul_of_nonneg_right t1 (by omega)
  have e6 : (d.W * d.H - 1) * perI d = allI d - perI d := by rw [Int.sub_mul, Int.one_mul]; rfl
  rw [e, f1, f2, show 7 + dir * d.T + k - 7 = dir * d.T + k by omega, f3, f4]
  refine ⟨by omega, by omega, rfl, by omega, rfl, rfl, ?_⟩
  rw [nodeOk_in hv (inR_true (by omega) (by omega)), f1, f2, nodeB_wire (by omega), show 7 + dir * d.T + k - 7 = dir * d.T + k by omega, f3, f4, decide_eq_true hs]
theorem reach_get (d : Dev) (t dir : Int) (j i : Nat) (h : i < j) : (reachN d t dir j).getD i 0 = stepI d t dir ((i : Int) + 1) := by
  induction j with
  | zero => omega
  | succ j ih =>
    rw [reachN, List.getD_eq_getElem?_getD]
    by_cases hi : i < j
    · rw [List.getElem?_append_left (by rw [reachN_len]; exact hi), ← List.getD_eq_getElem?_getD]; exact ih hi
    · obtain rfl : i = j := by omega
      rw [List.getElem?_append_right (by rw [reachN_len]; omega), reachN_len, Nat.sub_self]; rfl
theorem reach_ok (d : Dev) (t dir : Int) (ht : tOk d t = true) (j : Nat) (hj : j ≤ 2) : ∀ x ∈ reachN d t dir j, i64ok x := by
  induction j with
  | zero => intro x hx; cases hx
  | succ j ih =>
    intro x hx
    rw [reachN] at hx
    rcases List.mem_append.1 hx with h | h
    · exact ih (by omega) x h
    · rw [List.mem_singleton] at h
      rw [h]; exact stepI_ok ht (by omega)
set_option maxHeartbeats 1000000 in
theorem implRouteNodes_yes (d : Dev) (hv : devB d = true) (w : World) :
    Calls Try.prog 33 #[.agg #[.int .i64 d.W, .int .i64 d.H, .int .i64 d.T, .int .i64 d.R]] w fun e w' => e = .returned (.int .i64 (allI d)) ∧ Below w.heap.size w w' := by
  have hS0 := devS_start w d
  have HS0 := Lib.hid hS0
  go_enter Try.func33, Try.ntmps33
  go_wp2_with fail
  refine (implDeviceOk_any d _).mono ?_
  rintro e w1 ⟨rfl, hb1⟩
  have hS1 := devS_step HS0.out hb1
  have HS1 := Lib.hid hS1
  clear hS0
  obtain ⟨c0, c1, c2, c3, -⟩ := hS1
  clear hb1
  have hz1 : w.heap.size < w1.heap.size := World.block_lt_of_cell? _ _ c0
  go_wp2_with fail
  refine (implAll_any d hv _).mono ?_
  rintro e w2 ⟨rfl, hb2⟩
  have hS2 := devS_step HS1.out hb2
  have HS2 := Lib.hid hS2
  clear c0 c1 c2 c3
  obtain ⟨c0, c1, c2, c3, -⟩ := hS2
  clear hb2
  have hz2 : w.heap.size < w2.heap.size := World.block_lt_of_cell? _ _ c0
  go_wp2
  go_ret
  exact ⟨rfl, devS_end HS2.out⟩
abbrev DevI (w0 : World) (B : Nat) (d : Dev) (a : Option Addr) (n cap : Nat) (xs : List Int) (w' : World) : Prop := DevS w0 B d w' ∧ IntS w' a n cap xs
theorem devI_drew {w0 : World} {B : Nat} {d : Dev} {a : Option Addr} {n cap : Nat} {xs : List Int} {X : World} (h : DevI w0 B d a n cap xs X) : DevI w0 B d a n cap xs X.drew := ⟨devS_drew h.1, h.2.drew⟩
theorem devI_step {w0 : World} {B : Nat} {d : Dev} {a : Option Addr} {n cap : Nat} {xs : List Int} {X Y : World} (h : DevI w0 B d a n cap xs X) (hb : Below X.heap.size X Y) : DevI w0 B d a n cap xs Y := ⟨devS_step h.1 hb, h.2.below hb⟩
theorem devI_int {w0 : World} {B : Nat} {d : Dev} {a : Option Addr} {n cap : Nat} {xs : List Int} {X : World} (h : DevI w0 B d a n cap xs X) : IntS X a n cap xs := h.2
theorem devI_end {w w1 : World} {d : Dev} {a : Option Addr} {n cap : Nat} {xs : List Int} {o : Obj} {Y : World} (hb : Below w.heap.size w w1) (h : DevI (w1.alloc o) w1.heap.size d a n cap xs Y) : Below w.heap.size w Y :=
  (bel_alloc hb o).trans (h.1.2.2.2.2.mono (by have := hb.size; omega))
theorem devS_end' {w w1 : World} {d : Dev} {o : Obj} {Y : World} (hb : Below w.heap.size w w1) (h : DevS (w1.alloc o) w1.heap.size d Y) : Below w.heap.size w Y :=
  (bel_alloc hb o).trans (h.2.2.2.2.mono (by have := hb.size; omega))
set_option maxHeartbeats 4000000 in
set_option maxRecDepth 100000 in
theorem wires_tail (b0 b1 b2 : Nat) (a0 : Option Addr) (len0 cap0 : Nat) (z0 : List Int) (w : World) (hbig : len0 ≤ 1048576) (hb : BRow .u8 w a0 len0 cap0 z0)
    (H0 : Hid (cod z0 len0 0 = b0)) (H1 : Hid (cod z0 len0 1 = b1)) (H2 : Hid (cod z0 len0 2 = b2)) :
    Calls Try.prog 5 #[.slice a0 len0 cap0] w fun e w' => e = .returned (.bool true) ∧ Below w.heap.size w w' := by
  go_enter Try.func5, Try.ntmps5
  go_wp2_with (first
    | (go_at_call 15; refine (big_no a0 len0 cap0 _ hbig).mono ?_; rintro e w' ⟨rfl, rfl⟩))
  refine (drawDevice_any a0 len0 cap0 z0 _ hbig hb).mono ?_
  rintro e w1 ⟨⟨d, hd, rfl⟩, hb1⟩
  have hv := hd.ok
  obtain ⟨n9, n36⟩ := area_le hv
  obtain ⟨⟨a1, a2⟩, ⟨q1, q2⟩, ⟨l1, l2⟩, -⟩ := (devB_iff d).1 hv
  obtain ⟨t, et⟩ : ∃ t, (b0 : Int).tmod (d.W * d.H) = t := ⟨_, rfl⟩
  obtain ⟨dir, ed⟩ : ∃ t, (b1 : Int) % 4 = t := ⟨_, rfl⟩
  obtain ⟨k, ek⟩ : ∃ t, (b2 : Int).tmod d.T = t := ⟨_, rfl⟩
  have t0 : 0 ≤ t := by rw [← et, Int.tmod_eq_emod_of_nonneg (Int.natCast_nonneg _)]; exact Int.emod_nonneg _ (by omega)
  have t1 : t < d.W * d.H := by rw [← et, Int.tmod_eq_emod_of_nonneg (Int.natCast_nonneg _)]; exact Int.emod_lt_of_pos _ (by omega)
  have k0 : 0 ≤ k := by rw [← ek, Int.tmod_eq_emod_of_nonneg (Int.natCast_nonneg _)]; exact Int.emod_nonneg _ (by omega)
  have k1 : k < d.T := by rw [← ek, Int.tmod_eq_emod_of_nonneg (Int.natCast_nonneg _)]; exact Int.emod_lt_of_pos _ (by omega)
  have r0 : 0 ≤ dir := by omega
  have r1 : dir ≤ 3 := by omega
  have ht : tOk d t = true := (tOk_iff d t).2 ⟨hv, t0, by omega⟩
  have m1 : ¬ d.W * d.H = 0 := by omega
  have m2 : ¬ d.T = 0 := by omega
  have m3 : IntKind.i64.wrap (d.W * d.H) = d.W * d.H := IntWalk.i64_in _ (by omega)
  have kk : 0 ≤ k % 2 ∧ k % 2 ≤ 1 := by omega
  have HB := Lib.hid (hb.below (bel_alloc hb1 (.cells #[.int .i64 d.W, .int .i64 d.H, .int .i64 d.T, .int .i64 d.R] 25)))
  have hS0 := devS_start w1 d
  clear hb hd
  go_wp2
  go_region_held3 (fun w' => DevS (w1.alloc (.cells #[.int .i64 d.W, .int .i64 d.H, .int .i64 d.T, .int .i64 d.R] 25)) w1.heap.size d w') (first | assumption | exact devS_drew (by assumption) | exact devS_alloc (by assumption) _ | exact devS_step (by assumption) (by assumption)) (first | (go_at_call 17; refine (at_0 a0 len0 cap0 z0 _ (by first | exact HB.out | exact BRow.drew HB.out)).mono ?_; rintro e w' ⟨rfl, rfl⟩; rw [H0.out]))
  have HB1 := Lib.hid (BRow.drew HB.out)
  have hS1' := devS_drew hS0
  go_wp2_with (go_at_call 17; refine (at_1 a0 len0 cap0 z0 _ HB1.out).mono ?_; rintro e w' ⟨rfl, rfl⟩; rw [H1.out])
  go_region_held3 (fun w' => DevS (w1.alloc (.cells #[.int .i64 d.W, .int .i64 d.H, .int .i64 d.T, .int .i64 d.R] 25)) w1.heap.size d w') (first | assumption | exact devS_drew (by assumption) | exact devS_alloc (by assumption) _ | exact devS_step (by assumption) (by assumption)) (first | (go_at_call 17; refine (at_2 a0 len0 cap0 z0 _ (by first | exact HB1.out | exact BRow.drew HB1.out)).mono ?_; rintro e w' ⟨rfl, rfl⟩; rw [H2.out]))
  have HS0 : Hid (DevS (w1.alloc (.cells #[.int .i64 d.W, .int .i64 d.H, .int .i64 d.T, .int .i64 d.R] 25)) w1.heap.size d (w1.alloc (.cells #[.int .i64 d.W, .int .i64 d.H, .int .i64 d.T, .int .i64 d.R] 25)).drew.drew) := devS_drew hS1'
  clear hS0 hS1' HB HB1 m1 m2 m3 et ed ek
  obtain ⟨c0, c1, c2, c3, -⟩ := HS0.out
  by_cases hs : 0 ≤ stepI d t dir (1 + k % 2)
  · obtain ⟨v0, v1, v2, v3, v4, v5, v6⟩ := wire_parts ht r0 r1 k0 (by omega) hs
    have se : Hid (tileStepI d t dir (1 + k % 2) = stepI d t dir (1 + k % 2)) := if_pos ⟨ht, inR_true r0 r1, inR_true (by omega) (by omega)⟩
    have s1' : Hid (tileStepI d t dir 1 = stepI d t dir 1) := if_pos ⟨ht, inR_true r0 r1, inR_true (by omega) (by omega)⟩
    go_wp2_with fail
    refine (wireNode_yes d t dir k ht r0 r1 k0 (by omega) hs _).mono ?_
    rintro e x1 ⟨rfl, hb1⟩
    have hS1 := devS_step HS0.out hb1
    have HS1 := Lib.hid hS1
    clear c0 c1 c2 c3 hb1
    obtain ⟨c0, c1, c2, c3, -⟩ := hS1
    have hz1 : w1.heap.size < x1.heap.size := World.block_lt_of_cell? _ _ c0
    go_wp2_with fail
    refine (specTileStep_any d t dir _ _).mono ?_
    rintro e x2 ⟨rfl, hb2⟩
    rw [se.out]
    have hS2 := devS_step HS1.out hb2
    have HS2 := Lib.hid hS2
    clear c0 c1 c2 c3 hb2
    obtain ⟨c0, c1, c2, c3, -⟩ := hS2
    have hz2 : w1.heap.size < x2.heap.size := World.block_lt_of_cell? _ _ c0
    go_wp2_with fail
    refine (wireReaches_at d _ t dir k hv v0 v1 v3 v6 (Lib.hid v2) (Lib.hid v4) (Lib.hid v5) _).mono ?_
    rintro e x3 ⟨⟨v, rfl, hown⟩, hb3⟩
    obtain ⟨a, cap, rfl, hI⟩ := IntS.of_owns hown (reach_ok d t dir ht _ (by omega))
    have HI := Lib.hid hI
    have hl := reachN_len d t dir (1 + k % 2).toNat
    rw [hl]
    have HI2 : Hid (IntS x3 a (1 + k % 2).toNat cap (reachN d t dir (1 + k % 2).toNat)) := by have := HI.out; rw [hl] at this; exact this
    have G0 : Hid ((reachN d t dir (1 + k % 2).toNat).getD (0 : Int).toNat 0 = stepI d t dir 1) := reach_get d t dir _ 0 (by omega)
    have G1 : Hid ((reachN d t dir (1 + k % 2).toNat).getD (k % 2).toNat 0 = stepI d t dir (1 + k % 2)) := (reach_get d t dir _ (k % 2).toNat (by omega)).trans (by rw [show (((k % 2).toNat : Nat) : Int) + 1 = 1 + k % 2 by omega])
    have hL : (((1 + k % 2).toNat : Nat) : Int) = 1 + k % 2 := by omega
    have hS3 := devS_step HS2.out hb3
    have hSI : DevI (w1.alloc (.cells #[.int .i64 d.W, .int .i64 d.H, .int .i64 d.T, .int .i64 d.R] 25)) w1.heap.size d a (1 + k % 2).toNat cap (reachN d t dir (1 + k % 2).toNat) x3 := ⟨hS3, HI2.out⟩
    have HS3 := Lib.hid hS3
    clear c0 c1 c2 c3 hb3 hown hI HI hl
    obtain ⟨c0, c1, c2, c3, -⟩ := hS3
    go_wp2
    clear c0 c1 c2 c3
    have w2' : k.tmod 2 = k % 2 := Int.tmod_eq_emod_of_nonneg k0
    have w3' : IntKind.i64.wrap (1 + k % 2) = 1 + k % 2 := IntWalk.i64_in _ (by omega)
    go_region_held3 (fun w' => DevI (w1.alloc (.cells #[.int .i64 d.W, .int .i64 d.H, .int .i64 d.T, .int .i64 d.R] 25)) w1.heap.size d a (1 + k % 2).toNat cap (reachN d t dir (1 + k % 2).toNat) w') (first | assumption | exact devI_drew (by assumption) | exact devI_step (by assumption) (by assumption)) (first | (go_at_call 35; refine (isWire_yes d _ hv v0 v1 v3 v6 _).mono ?_; rintro e y1 ⟨rfl, hby1⟩) | (go_at_call 32; refine (specTileStep_any d t dir 1 _).mono ?_; rintro e y2 ⟨rfl, hby2⟩; rw [s1'.out]) | (go_at_call 36; ((with_reducible refine (get_int a _ cap _ 0 _ (devI_int (by assumption)) (by omega) (by omega)).mono ?_)); rintro e w' ⟨rfl, rfl⟩; rw [G0.out]) | (go_at_call 36; ((with_reducible refine (get_int a _ cap _ (k % 2) _ (devI_int (by assumption)) (by omega) (by omega)).mono ?_)); rintro e w' ⟨rfl, rfl⟩; rw [G1.out]))
    all_goals go_wp2
    all_goals go_ret
    all_goals exact ⟨rfl, devI_end hb1 (by assumption)⟩
  · have se : Hid (tileStepI d t dir (1 + k % 2) = stepI d t dir (1 + k % 2)) := if_pos ⟨ht, inR_true r0 r1, inR_true (by omega) (by omega)⟩
    have hs' : stepI d t dir (1 + k % 2) < 0 := by omega
    obtain ⟨g1, g2⟩ := all_rng hv
    go_wp2_with fail
    refine (wireNode_no d t dir k ht r0 r1 k0 (by omega) hs' _).mono ?_
    rintro e x1 ⟨rfl, hb1⟩
    have hS1 := devS_step HS0.out hb1
    have HS1 := Lib.hid hS1
    clear c0 c1 c2 c3 hb1
    obtain ⟨c0, c1, c2, c3, -⟩ := hS1
    have hz1 : w1.heap.size < x1.heap.size := World.block_lt_of_cell? _ _ c0
    go_wp2_with fail
    refine (specTileStep_any d t dir _ _).mono ?_
    rintro e x2 ⟨rfl, hb2⟩
    rw [se.out]
    have hS2 := devS_step HS1.out hb2
    have HS2 := Lib.hid hS2
    clear c0 c1 c2 c3 hb2
    obtain ⟨c0, c1, c2, c3, -⟩ := hS2
    have hz2 : w1.heap.size < x2.heap.size := World.block_lt_of_cell? _ _ c0
    go_wp2_with fail
    refine (implRouteNodes_yes d hv _).mono ?_
    rintro e x3 ⟨rfl, hb3⟩
    have hS3 := devS_step HS2.out hb3
    have HS3 := Lib.hid hS3
    clear c0 c1 c2 c3 hb3
    obtain ⟨c0, c1, c2, c3, -⟩ := hS3
    have hz3 : w1.heap.size < x3.heap.size := World.block_lt_of_cell? _ _ c0
    go_wp2
    go_ret
    exact ⟨rt_bool (decide_eq_true (by omega)), devS_end' hb1 HS3.out⟩
theorem walk_FnWiresReach (a0 : Option Addr) (len0 cap0 : Nat) (z0 : List Int) (w : World) (w0 : BRow .u8 w a0 len0 cap0 z0) :
    Calls Try.prog 5 #[.slice a0 len0 cap0] w fun e w' => e = .returned (.bool true) ∧ Below w.heap.size w w' := by
  have hb : BRow .u8 w a0 len0 cap0 z0 := w0
  have hlen := hb.len_le
  by_cases hbig : 1048576 < len0
  · go_enter Try.func5, Try.ntmps5
    go_wp2_with (go_at_call 15; refine (big_yes a0 len0 cap0 _ hlen hbig).mono ?_; rintro e w' ⟨rfl, rfl⟩)
    go_ret
    exact ⟨rfl, Below.refl _ _⟩
  · exact wires_tail _ _ _ a0 len0 cap0 z0 w (by omega) hb (Lib.hid rfl) (Lib.hid rfl) (Lib.hid rfl)
end Go.Proofs.Ytnnkbpcfjjijbaa
