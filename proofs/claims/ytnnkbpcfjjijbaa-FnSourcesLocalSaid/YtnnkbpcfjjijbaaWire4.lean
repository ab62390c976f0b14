/- What a wire reaches: the walk of WireReaches. -/
import Derived.Test.YtnnkbpcfjjijbaaWire3
set_option linter.unusedVariables false
set_option linter.unusedSimpArgs false
namespace Go.Proofs.Ytnnkbpcfjjijbaa
open Go.RowKit
def reachN (d : Dev) (t dir : Int) : Nat → List Int
  | 0 => []
  | j + 1 => reachN d t dir j ++ [stepI d t dir ((j : Int) + 1)]
theorem reachN_len (d : Dev) (t dir : Int) (j : Nat) : (reachN d t dir j).length = j := by
  induction j with
  | zero => rfl
  | succ j ih => rw [reachN, List.length_append, ih]; rfl
theorem devS_append {w0 X Y : World} {B E size n : Nat} {d : Dev} {v : Value} {xs : List Value} {o : Obj} (h : DevS w0 B d X) (hown : X.ownsRow (B + 1) E size v n xs) (hg : (X.alloc o).grownBy Y v.ownBlock) : DevS w0 B d Y := by
  have hlt : B < X.heap.size := World.block_lt_of_cell? _ _ h.1
  have hne : some B ≠ v.ownBlock := fun e => by have := own_row hown B e.symm; omega
  have hc : ∀ j, Y.cell? ⟨B, j, none⟩ = X.cell? ⟨B, j, none⟩ := fun j =>
    (World.cell?_of_block (a := ⟨B, j, none⟩) (hg.block B (by rw [size_alloc']; omega) hne)).trans (World.cell?_alloc_past _ _ _ hlt)
  exact ⟨(hc 0).trans h.1, (hc 1).trans h.2.1, (hc 2).trans h.2.2.1, (hc 3).trans h.2.2.2.1, bel_app h.2.2.2.2 hown hlt hg⟩
set_option maxHeartbeats 4000000 in
theorem wireReaches_at (d : Dev) (n t dir k : Int) (hv : devB d = true) (n0 : 0 ≤ n) (n1 : n ≤ allI d - 1) (k7 : 7 ≤ n % perI d) (hn : nodeOkI d n = true) (Et : Hid ((n / perI d) = t)) (Ed : Hid (((n % perI d - 7) / d.T) = dir)) (Ek : Hid (((n % perI d - 7) % d.T) = k)) (w : World) :
    Calls Try.prog 34 #[.agg #[.int .i64 d.W, .int .i64 d.H, .int .i64 d.T, .int .i64 d.R], .int .i64 n] w fun e w' => RetInts w.heap.size (reachN d t dir (1 + k % 2).toNat) e w' ∧ Below w.heap.size w w' := by
  obtain ⟨p0, p1, p2, p3, p4⟩ := place_rng hv n0 n1
  obtain ⟨g0, g1, g2, g3⟩ := wire_rng hv k7 p3
  obtain ⟨-, -, ⟨l1, l2⟩, -⟩ := (devB_iff d).1 hv
  obtain ⟨u1, u2⟩ := per_rng hv
  have hS0 := devS_start w d
  have HS0 := Lib.hid hS0
  go_enter Try.func34, Try.ntmps34
  go_wp2_with fail
  refine (isWire_yes d n hv n0 n1 k7 hn _).mono ?_
  rintro e w1 ⟨rfl, hb1⟩
  have hS1 := devS_step HS0.out hb1
  have HS1 := Lib.hid hS1
  clear hS0
  obtain ⟨c0, c1, c2, c3, -⟩ := hS1
  clear hb1
  have hz1 : w.heap.size < w1.heap.size := World.block_lt_of_cell? _ _ c0
  go_wp2_with fail
  refine (wireOf_wire d n hv n0 n1 k7 _).mono ?_
  rintro e w2 ⟨rfl, hb2⟩
  have hS2 := devS_step HS1.out hb2
  have HS2 := Lib.hid hS2
  clear c0 c1 c2 c3
  obtain ⟨c0, c1, c2, c3, -⟩ := hS2
  clear hb2
  have hz2 : w.heap.size < w2.heap.size := World.block_lt_of_cell? _ _ c0
  rw [Et.out, Ed.out, Ek.out]
  have hS := HS2.out
  rw [Et.out] at p0 p1 p4
  rw [Ed.out] at g0 g1
  rw [Ek.out] at g2 g3
  clear c0 c1 c2 c3 hn k7
  have z : 0 ≤ k % 2 ∧ k % 2 ≤ 1 := by omega
  go_wp2
  go_loopw [9, 10] (fun v s wr => ∃ j : Nat, (j : Int) ≤ 1 + k % 2 ∧ s = .int .i64 ((j : Int) + 1) ∧ wr.ownsRow (w.heap.size + 1) 3 1 v j (ints (reachN d t dir j)) ∧ DevS (w.alloc (.cells #[.int .i64 d.W, .int .i64 d.H, .int .i64 d.T, .int .i64 d.R] 25)) w.heap.size d wr) (fun _ s _ => 3 - (intOf s).toNat)
  case atStart => exact ⟨0, by omega, rfl, World.ownsRow_nil _ _ _ _, hS⟩
  case round =>
    obtain ⟨j, hj, rfl, hown, hD⟩ := hrel
    have HD := Lib.hid hD
    have HO := Lib.hid hown
    have hsz : w.heap.size + 1 ≤ wr.heap.size := World.block_lt_of_cell? _ _ hD.1
    clear hown hS
    obtain ⟨c0, c1, c2, c3, -⟩ := hD
    by_cases hlt : (j : Int) + 1 ≤ 1 + k % 2
    · go_wp2_with fail
      refine (wireLen_any k g2 (by omega) _).mono ?_
      rintro e w' ⟨rfl, rfl⟩
      go_wp2_with fail
      refine (tileStep_any d t dir _ hv p0 p1 g0 g1 (by omega) (by omega) _).mono ?_
      rintro e w3 ⟨rfl, hb3⟩
      have HD3 := Lib.hid (devS_step HD.out hb3)
      have HO3 := Lib.hid (own_below HO.out hb3)
      have hs3 := Nat.le_trans hsz hb3.size
      clear hb3 c0 c1 c2 c3 HD HO
      go_wp2_with (at_builtin; refine append_int _ rfl _ _ rfl (w.heap.size + 1) _ _ _ HO3.out _ rfl rfl (by omega) hs3 ?_; intro v' w4 ho4 hg4)
      go_roundw
      case rel => exact ⟨j + 1, by omega, by go_num, ho4, devS_append HD3.out HO3.out hg4⟩
      case measure => simp [intOf]; omega
    · have hjj : (1 + k % 2).toNat = j := by omega
      have HJ := Lib.hid hjj
      clear hjj
      go_wp2_with fail
      refine (wireLen_any k g2 (by omega) _).mono ?_
      rintro e w' ⟨rfl, rfl⟩
      go_wp2
      go_ret
      refine ⟨⟨_, rfl, ?_⟩, devS_end HD.out⟩
      rw [HJ.out, reachN_len]; exact own_mono HO.out (by omega)
theorem stepI_ok {d : Dev} {t dir s : Int} (ht : tOk d t = true) (hs : -10 ≤ s ∧ s ≤ 10) : i64ok (stepI d t dir s) := by
  obtain ⟨hv, t0, t1⟩ := (tOk_iff d t).1 ht
  obtain ⟨⟨a1, a2⟩, ⟨b1, b2⟩, -, -⟩ := (devB_iff d).1 hv
  unfold stepI i64ok
  split
  · rename_i h
    obtain ⟨i1, i2⟩ := (inR_iff _ _ _).1 h.1
    obtain ⟨i3, i4⟩ := (inR_iff _ _ _).1 h.2
    have i5 : 0 ≤ (t / d.W + dY dir s) * d.W ∧ (t / d.W + dY dir s) * d.W ≤ 6 * 6 := ⟨Int.mul_nonneg i3 (by omega), Int.mul_le_mul (by omega) a2 (by omega) (by omega)⟩
    omega
  · omega
end Go.Proofs.Ytnnkbpcfjjijbaa
