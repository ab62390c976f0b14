/- The walk of the law FnTiles. -/
import Derived.Test.YtnnkbpcfjjijbaaTile2
import Derived.Test.YtnnkbpcfjjijbaaDraw
import Derived.Test.YtnnkbpcfjjijbaaTileP
import Derived.Test.YtnnkbpcfjjijbaaHas
import Derived.Deep.RegionWith
set_option linter.unusedVariables false
set_option linter.unusedSimpArgs false
namespace Go.Proofs.Ytnnkbpcfjjijbaa
open Go.RowKit
/-- the cells of a device that lies in a block of its own -/
theorem dev_cells {w w1 : World} {d : Dev} {B : Nat} (hw : B = w.heap.size) (hb : Below (B + 1) (w.alloc (.cells #[.int .i64 d.W, .int .i64 d.H, .int .i64 d.T, .int .i64 d.R] 25)) w1) :
    w1.cell? ⟨B, 0, none⟩ = some (.int .i64 d.W) ∧ w1.cell? ⟨B, 1, none⟩ = some (.int .i64 d.H) ∧ w1.cell? ⟨B, 2, none⟩ = some (.int .i64 d.T) ∧ w1.cell? ⟨B, 3, none⟩ = some (.int .i64 d.R) := by
  subst hw
  have cl : ∀ o, w1.cell? ⟨w.heap.size, o, none⟩ = (#[Value.int IntKind.i64 d.W, .int .i64 d.H, .int .i64 d.T, .int .i64 d.R] : Array Value)[o]? := fun o => (hb.cell (p := ⟨w.heap.size, o, none⟩) (by show w.heap.size < _; omega)).trans (World.cell?_alloc_at _ _ _ _ rfl)
  exact ⟨cl 0, cl 1, cl 2, cl 3⟩
set_option maxHeartbeats 400000 in
theorem sampleDevice_any (w : World) : Calls Try.prog 24 #[] w fun e w' => e = .returned (.agg #[.int .i64 5, .int .i64 5, .int .i64 4, .int .i64 2]) ∧ Below w.heap.size w w' := by
  go_enter Try.func24, Try.ntmps24
  go_wp2
  refine bodyPost_ret (v := .agg #[.int .i64 5, .int .i64 5, .int .i64 4, .int .i64 2]) (by simp [results, Try.results24, go_sem]) rfl ⟨rfl, ?_⟩
  exact bel_alloc (Below.refl _ _) _
set_option maxHeartbeats 4000000 in
set_option maxRecDepth 100000 in
theorem tiles_tail (b0 b1 b2 : Nat) (a0 : Option Addr) (len0 cap0 : Nat) (z0 : List Int) (w : World) (hbig : len0 ≤ 1048576) (hb : BRow .u8 w a0 len0 cap0 z0)
    (H0 : Hid (cod z0 len0 0 = b0)) (H1 : Hid (cod z0 len0 1 = b1)) (H2 : Hid (cod z0 len0 2 = b2)) :
    Calls Try.prog 3 #[.slice a0 len0 cap0] w fun e w' => e = .returned (.bool true) ∧ Below w.heap.size w w' := by
  go_enter Try.func3, Try.ntmps3
  go_wp2_with (first
    | (go_at_call 15; refine (big_no a0 len0 cap0 _ hbig).mono ?_; rintro e w' ⟨rfl, rfl⟩))
  refine (drawDevice_any a0 len0 cap0 z0 _ hbig hb).mono ?_
  rintro e w1 ⟨⟨d, hd, rfl⟩, hb1⟩
  obtain ⟨n9, n36⟩ := area_le hd.ok
  have hv := hd.ok
  obtain ⟨t, et⟩ : ∃ t, (b0 : Int) % (d.W * d.H) = t := ⟨_, rfl⟩
  obtain ⟨dir, ed⟩ : ∃ t, (b1 : Int) % 4 = t := ⟨_, rfl⟩
  obtain ⟨s, es⟩ : ∃ t, (b2 : Int) % 4 = t := ⟨_, rfl⟩
  have t0 : 0 ≤ t := by rw [← et]; exact Int.emod_nonneg _ (by omega)
  have t1 : t < d.W * d.H := by rw [← et]; exact Int.emod_lt_of_pos _ (by omega)
  have r0 : 0 ≤ dir := by omega
  have r1 : dir ≤ 3 := by omega
  have s0 : 0 ≤ s := by omega
  have s1 : s ≤ 3 := by omega
  have ht : tOk d t = true := (tOk_iff d t).2 ⟨hv, t0, by omega⟩
  have L := tile_laws d t dir s hd ht r0 r1 s0 s1
  obtain ⟨k1, k2, k3, k4, -⟩ := hd
  have HB := Lib.hid (hb.below (bel_alloc hb1 (.cells #[.int .i64 d.W, .int .i64 d.H, .int .i64 d.T, .int .i64 d.R] 25)))
  clear hb
  go_wp2_with (first
    | (go_at_call 17; ((with_reducible refine (at_0 a0 len0 cap0 z0 _ HB.out).mono ?_)); rintro e w' ⟨rfl, rfl⟩; rw [H0.out])
    | (go_at_call 17; ((with_reducible refine (at_1 a0 len0 cap0 z0 _ HB.out).mono ?_)); rintro e w' ⟨rfl, rfl⟩; rw [H1.out])
    | (go_at_call 17; ((with_reducible refine (at_2 a0 len0 cap0 z0 _ HB.out).mono ?_)); rintro e w' ⟨rfl, rfl⟩; rw [H2.out]))
  refine (implTileStep_any d t dir s _).mono ?_
  rintro e x1 ⟨rfl, hx1⟩
  have HX1 : Hid (Below (w1.heap.size + 1) (w1.alloc (.cells #[.int .i64 d.W, .int .i64 d.H, .int .i64 d.T, .int .i64 d.R] 25)) x1) := by rw [size_alloc'] at hx1; exact hx1
  obtain ⟨c0, c1, c2, c3⟩ := dev_cells rfl HX1.out
  clear hx1
  by_cases hA : 0 ≤ tileStepI d t dir s
  · obtain ⟨l1, l2, l3⟩ := L.back hA
    have L1 := Lib.hid l1
    have L2 := Lib.hid l2
    clear l1 l2
    go_wp2_with fail
    refine (implTileStep_any d _ _ s _).mono ?_
    rintro e x2 ⟨rfl, hx2⟩
    rw [L1.out]
    have HX2 : Hid (Below (w1.heap.size + 1) (w1.alloc (.cells #[.int .i64 d.W, .int .i64 d.H, .int .i64 d.T, .int .i64 d.R] 25)) x2) := HX1.out.trans (hx2.mono (by have := HX1.out.size; rwa [size_alloc'] at this))
    clear hx2 c0 c1 c2 c3
    obtain ⟨c0, c1, c2, c3⟩ := dev_cells rfl HX2.out
    have hT : (t != t) = false := bne_self_eq_false t
    go_wp2_with fail
    refine (implTileDistance_in d t _ ht l3 _).mono ?_
    rintro e x3 ⟨rfl, hx3⟩
    rw [L2.out]
    have HX3 : Hid (Below (w1.heap.size + 1) (w1.alloc (.cells #[.int .i64 d.W, .int .i64 d.H, .int .i64 d.T, .int .i64 d.R] 25)) x3) := HX2.out.trans (hx3.mono (by have := HX2.out.size; rwa [size_alloc'] at this))
    clear hx3 c0 c1 c2 c3 l3
    obtain ⟨c0, c1, c2, c3⟩ := dev_cells rfl HX3.out
    go_wp2
    have HXr := HX3
    clear HX1 HX2 HX3 L1 L2 hT hA
    obtain ⟨xr, rfl⟩ : ∃ xr, xr = x3 := ⟨_, rfl⟩
    clear c0 c1 c2 c3
    go_loopw [9, 10] (fun sm i wr => ∃ k : Nat, k ≤ 3 ∧ i = .int .i64 (k : Int) ∧ sm = .int .i64 (sumN d (d.W * d.H).toNat k : Nat) ∧ Below (w1.heap.size + 1) (w1.alloc (.cells #[.int .i64 d.W, .int .i64 d.H, .int .i64 d.T, .int .i64 d.R] 25)) wr) (fun _ i _ => 3 - (intOf i).toNat)
    case atStart => exact ⟨0, by omega, rfl, rfl, HXr.out⟩
    case round =>
      obtain ⟨k, hk, rfl, rfl, hbr⟩ := hrel
      have Hbr := Lib.hid hbr
      have hsz : w1.heap.size + 1 ≤ wr.heap.size := by have := hbr.size; rwa [size_alloc'] at this
      clear hbr
      obtain ⟨c0, c1, c2, c3⟩ := dev_cells rfl Hbr.out
      have hsl := Nat.le_trans (sumN_le d (d.W * d.H).toNat k) (Nat.mul_le_mul hk (show (d.W * d.H).toNat ≤ 36 by omega))
      by_cases hlt : k < 3
      · have Hh := Lib.hid (L.has k hlt)
        have Hs := Lib.hid (show sumN d (d.W * d.H).toNat (k + 1) = sumN d (d.W * d.H).toNat k + (tilesN d (k : Int) (d.W * d.H).toNat).length from rfl)
        have hln := tilesN_len d (k : Int) (d.W * d.H).toNat
        go_wp2_with fail
        refine (implTilesOf_in d (k : Int) hv _).mono ?_
        rintro e x4 ⟨⟨v, rfl, hown⟩, hx4⟩
        have HX4 : Hid (Below (w1.heap.size + 1) (w1.alloc (.cells #[.int .i64 d.W, .int .i64 d.H, .int .i64 d.T, .int .i64 d.R] 25)) x4) := Hbr.out.trans (hx4.mono hsz)
        obtain ⟨a, cap, rfl, hI⟩ := IntS.of_owns hown (tilesN_ok d _ _ (by omega))
        have HI := Lib.hid hI
        have hsz4 := Nat.le_trans hsz hx4.size
        clear hx4 hown hI c0 c1 c2 c3
        obtain ⟨c0, c1, c2, c3⟩ := dev_cells rfl HX4.out
        have hsum : (sumN d (d.W * d.H).toNat k : Int) + ((tilesN d (k : Int) (d.W * d.H).toNat).length : Int) ≤ 1000 := by omega
        go_wp2
        go_region_with (first | (go_at_call 21; refine (has_any _ _ _ _ _ _ (by first | exact HI.out | exact HI.out.drew)).mono ?_; rintro e w' ⟨rfl, rfl⟩) | (go_at_call 22; refine (implTileKind_any d t _).mono ?_; rintro e x5 ⟨rfl, hx5⟩))
        all_goals
          have HX5 : Hid (Below (w1.heap.size + 1) (w1.alloc (.cells #[.int .i64 d.W, .int .i64 d.H, .int .i64 d.T, .int .i64 d.R] 25)) x5) := HX4.out.trans (Below.trans (Below.drew (Below.refl _ _)) (hx5.mono hsz4))
          clear hx5 c0 c1 c2 c3 HX4 HI Hbr
          rcases Bool.eq_false_or_eq_true (tileKindI d t == (k : Int)) with e | e
          · have e2 : hasB (tilesN d (k : Int) (d.W * d.H).toNat) t = true := Hh.out.trans e
            simp only [e, e2, beq_self_eq_true, Bool.not_true]
            go_wp2
            go_roundw
            case rel => exact ⟨k + 1, by omega, by go_num, by rw [Hs.out]; go_num, HX5.out⟩
            case measure => simp [intOf]; omega
          · have e2 : hasB (tilesN d (k : Int) (d.W * d.H).toNat) t = false := Hh.out.trans e
            simp only [e, e2, beq_self_eq_true, Bool.not_true]
            go_wp2
            go_roundw
            case rel => exact ⟨k + 1, by omega, by go_num, by rw [Hs.out]; go_num, HX5.out⟩
            case measure => simp [intOf]; omega
      · obtain rfl : k = 3 := by omega
        have Lz := Lib.hid L.zero
        have Ls := Lib.hid L.stay
        have Lsum := L.sum
        go_wp2_with fail
        refine (implDeviceOk_any d _).mono ?_
        rintro e x4 ⟨rfl, hx4⟩
        have HX4 : Hid (Below (w1.heap.size + 1) (w1.alloc (.cells #[.int .i64 d.W, .int .i64 d.H, .int .i64 d.T, .int .i64 d.R] 25)) x4) := Hbr.out.trans (hx4.mono hsz)
        have hsz4 := Nat.le_trans hsz hx4.size
        clear hx4 c0 c1 c2 c3
        obtain ⟨c0, c1, c2, c3⟩ := dev_cells rfl HX4.out
        go_wp2_with fail
        refine (implTileKind_any d 0 _).mono ?_
        rintro e x5 ⟨rfl, hx5⟩
        rw [Lz.out]
        have HX5 : Hid (Below (w1.heap.size + 1) (w1.alloc (.cells #[.int .i64 d.W, .int .i64 d.H, .int .i64 d.T, .int .i64 d.R] 25)) x5) := HX4.out.trans (hx5.mono hsz4)
        have hsz5 := Nat.le_trans hsz4 hx5.size
        clear hx5 c0 c1 c2 c3
        obtain ⟨c0, c1, c2, c3⟩ := dev_cells rfl HX5.out
        go_wp2_with fail
        refine (implTileStep_any d t dir 0 _).mono ?_
        rintro e x6 ⟨rfl, hx6⟩
        rw [Ls.out]
        have HX6 : Hid (Below (w1.heap.size + 1) (w1.alloc (.cells #[.int .i64 d.W, .int .i64 d.H, .int .i64 d.T, .int .i64 d.R] 25)) x6) := HX5.out.trans (hx6.mono hsz5)
        have hsz6 := Nat.le_trans hsz5 hx6.size
        clear hx6 c0 c1 c2 c3
        go_wp2_with fail
        refine (sampleDevice_any _).mono ?_
        rintro e x7 ⟨rfl, hx7⟩
        have HX7 : Hid (Below (w1.heap.size + 1) (w1.alloc (.cells #[.int .i64 d.W, .int .i64 d.H, .int .i64 d.T, .int .i64 d.R] 25)) x7) := HX6.out.trans (hx7.mono hsz6)
        have hsz7 := Nat.le_trans hsz6 hx7.size
        clear hx7
        have hS : devB ⟨5, 5, 4, 2⟩ = true := by decide
        go_wp2_with fail
        refine (implDeviceOk_any ⟨5, 5, 4, 2⟩ _).mono ?_
        rintro e x8 ⟨rfl, hx8⟩
        have HX8 : Hid (Below (w1.heap.size + 1) (w1.alloc (.cells #[.int .i64 d.W, .int .i64 d.H, .int .i64 d.T, .int .i64 d.R] 25)) x8) := HX7.out.trans (hx8.mono hsz7)
        clear hx8
        go_wp2
        go_ret
        exact ⟨rfl, (bel_alloc hb1 _).trans (HX8.out.mono (by have := hb1.size; omega))⟩
  · go_wp2
    have HXr := HX1
    clear HX1 hA
    obtain ⟨xr, rfl⟩ : ∃ xr, xr = x1 := ⟨_, rfl⟩
    clear c0 c1 c2 c3
    go_loopw [9, 10] (fun sm i wr => ∃ k : Nat, k ≤ 3 ∧ i = .int .i64 (k : Int) ∧ sm = .int .i64 (sumN d (d.W * d.H).toNat k : Nat) ∧ Below (w1.heap.size + 1) (w1.alloc (.cells #[.int .i64 d.W, .int .i64 d.H, .int .i64 d.T, .int .i64 d.R] 25)) wr) (fun _ i _ => 3 - (intOf i).toNat)
    case atStart => exact ⟨0, by omega, rfl, rfl, HXr.out⟩
    case round =>
      obtain ⟨k, hk, rfl, rfl, hbr⟩ := hrel
      have Hbr := Lib.hid hbr
      have hsz : w1.heap.size + 1 ≤ wr.heap.size := by have := hbr.size; rwa [size_alloc'] at this
      clear hbr
      obtain ⟨c0, c1, c2, c3⟩ := dev_cells rfl Hbr.out
      have hsl := Nat.le_trans (sumN_le d (d.W * d.H).toNat k) (Nat.mul_le_mul hk (show (d.W * d.H).toNat ≤ 36 by omega))
      by_cases hlt : k < 3
      · have Hh := Lib.hid (L.has k hlt)
        have Hs := Lib.hid (show sumN d (d.W * d.H).toNat (k + 1) = sumN d (d.W * d.H).toNat k + (tilesN d (k : Int) (d.W * d.H).toNat).length from rfl)
        have hln := tilesN_len d (k : Int) (d.W * d.H).toNat
        go_wp2_with fail
        refine (implTilesOf_in d (k : Int) hv _).mono ?_
        rintro e x4 ⟨⟨v, rfl, hown⟩, hx4⟩
        have HX4 : Hid (Below (w1.heap.size + 1) (w1.alloc (.cells #[.int .i64 d.W, .int .i64 d.H, .int .i64 d.T, .int .i64 d.R] 25)) x4) := Hbr.out.trans (hx4.mono hsz)
        obtain ⟨a, cap, rfl, hI⟩ := IntS.of_owns hown (tilesN_ok d _ _ (by omega))
        have HI := Lib.hid hI
        have hsz4 := Nat.le_trans hsz hx4.size
        clear hx4 hown hI c0 c1 c2 c3
        obtain ⟨c0, c1, c2, c3⟩ := dev_cells rfl HX4.out
        have hsum : (sumN d (d.W * d.H).toNat k : Int) + ((tilesN d (k : Int) (d.W * d.H).toNat).length : Int) ≤ 1000 := by omega
        go_wp2
        go_region_with (first | (go_at_call 21; refine (has_any _ _ _ _ _ _ (by first | exact HI.out | exact HI.out.drew)).mono ?_; rintro e w' ⟨rfl, rfl⟩) | (go_at_call 22; refine (implTileKind_any d t _).mono ?_; rintro e x5 ⟨rfl, hx5⟩))
        all_goals
          have HX5 : Hid (Below (w1.heap.size + 1) (w1.alloc (.cells #[.int .i64 d.W, .int .i64 d.H, .int .i64 d.T, .int .i64 d.R] 25)) x5) := HX4.out.trans (Below.trans (Below.drew (Below.refl _ _)) (hx5.mono hsz4))
          clear hx5 c0 c1 c2 c3 HX4 HI Hbr
          rcases Bool.eq_false_or_eq_true (tileKindI d t == (k : Int)) with e | e
          · have e2 : hasB (tilesN d (k : Int) (d.W * d.H).toNat) t = true := Hh.out.trans e
            simp only [e, e2, beq_self_eq_true, Bool.not_true]
            go_wp2
            go_roundw
            case rel => exact ⟨k + 1, by omega, by go_num, by rw [Hs.out]; go_num, HX5.out⟩
            case measure => simp [intOf]; omega
          · have e2 : hasB (tilesN d (k : Int) (d.W * d.H).toNat) t = false := Hh.out.trans e
            simp only [e, e2, beq_self_eq_true, Bool.not_true]
            go_wp2
            go_roundw
            case rel => exact ⟨k + 1, by omega, by go_num, by rw [Hs.out]; go_num, HX5.out⟩
            case measure => simp [intOf]; omega
      · obtain rfl : k = 3 := by omega
        have Lz := Lib.hid L.zero
        have Ls := Lib.hid L.stay
        have Lsum := L.sum
        go_wp2_with fail
        refine (implDeviceOk_any d _).mono ?_
        rintro e x4 ⟨rfl, hx4⟩
        have HX4 : Hid (Below (w1.heap.size + 1) (w1.alloc (.cells #[.int .i64 d.W, .int .i64 d.H, .int .i64 d.T, .int .i64 d.R] 25)) x4) := Hbr.out.trans (hx4.mono hsz)
        have hsz4 := Nat.le_trans hsz hx4.size
        clear hx4 c0 c1 c2 c3
        obtain ⟨c0, c1, c2, c3⟩ := dev_cells rfl HX4.out
        go_wp2_with fail
        refine (implTileKind_any d 0 _).mono ?_
        rintro e x5 ⟨rfl, hx5⟩
        rw [Lz.out]
        have HX5 : Hid (Below (w1.heap.size + 1) (w1.alloc (.cells #[.int .i64 d.W, .int .i64 d.H, .int .i64 d.T, .int .i64 d.R] 25)) x5) := HX4.out.trans (hx5.mono hsz4)
        have hsz5 := Nat.le_trans hsz4 hx5.size
        clear hx5 c0 c1 c2 c3
        obtain ⟨c0, c1, c2, c3⟩ := dev_cells rfl HX5.out
        go_wp2_with fail
        refine (implTileStep_any d t dir 0 _).mono ?_
        rintro e x6 ⟨rfl, hx6⟩
        rw [Ls.out]
        have HX6 : Hid (Below (w1.heap.size + 1) (w1.alloc (.cells #[.int .i64 d.W, .int .i64 d.H, .int .i64 d.T, .int .i64 d.R] 25)) x6) := HX5.out.trans (hx6.mono hsz5)
        have hsz6 := Nat.le_trans hsz5 hx6.size
        clear hx6 c0 c1 c2 c3
        go_wp2_with fail
        refine (sampleDevice_any _).mono ?_
        rintro e x7 ⟨rfl, hx7⟩
        have HX7 : Hid (Below (w1.heap.size + 1) (w1.alloc (.cells #[.int .i64 d.W, .int .i64 d.H, .int .i64 d.T, .int .i64 d.R] 25)) x7) := HX6.out.trans (hx7.mono hsz6)
        have hsz7 := Nat.le_trans hsz6 hx7.size
        clear hx7
        have hS : devB ⟨5, 5, 4, 2⟩ = true := by decide
        go_wp2_with fail
        refine (implDeviceOk_any ⟨5, 5, 4, 2⟩ _).mono ?_
        rintro e x8 ⟨rfl, hx8⟩
        have HX8 : Hid (Below (w1.heap.size + 1) (w1.alloc (.cells #[.int .i64 d.W, .int .i64 d.H, .int .i64 d.T, .int .i64 d.R] 25)) x8) := HX7.out.trans (hx8.mono hsz7)
        clear hx8
        go_wp2
        go_ret
        exact ⟨rfl, (bel_alloc hb1 _).trans (HX8.out.mono (by have := hb1.size; omega))⟩
theorem walk_FnTiles (a0 : Option Addr) (len0 cap0 : Nat) (z0 : List Int) (w : World) (w0 : BRow .u8 w a0 len0 cap0 z0) :
    Calls Try.prog 3 #[.slice a0 len0 cap0] w fun e w' => e = .returned (.bool true) ∧ Below w.heap.size w w' := by
  have hb : BRow .u8 w a0 len0 cap0 z0 := w0
  have hlen := hb.len_le
  by_cases hbig : 1048576 < len0
  · go_enter Try.func3, Try.ntmps3
    go_wp2_with (go_at_call 15; refine (big_yes a0 len0 cap0 _ hlen hbig).mono ?_; rintro e w' ⟨rfl, rfl⟩)
    go_ret
    exact ⟨rfl, Below.refl _ _⟩
  · exact tiles_tail _ _ _ a0 len0 cap0 z0 w (by omega) hb (Lib.hid rfl) (Lib.hid rfl) (Lib.hid rfl)
end Go.Proofs.Ytnnkbpcfjjijbaa
