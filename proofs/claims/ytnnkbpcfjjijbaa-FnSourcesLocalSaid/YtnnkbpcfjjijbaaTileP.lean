/- Plain laws of tiles. -/
import Derived.Test.YtnnkbpcfjjijbaaTile2
import Derived.Test.YtnnkbpcfjjijbaaDraw
import Derived.Test.YtnnkbpcfjjijbaaHas
set_option linter.unusedVariables false
set_option linter.unusedSimpArgs false
namespace Go.Proofs.Ytnnkbpcfjjijbaa
open Go.RowKit
def sumN (d : Dev) (N : Nat) : Nat → Nat
  | 0 => 0
  | k + 1 => sumN d N k + (tilesN d (k : Int) N).length
theorem sumN_le (d : Dev) (N k : Nat) : sumN d N k ≤ k * N := by
  induction k with
  | zero => simp [sumN]
  | succ k ih => have := tilesN_len d (k : Int) N; rw [sumN, Nat.add_mul]; omega
/-- the laws of the tiles that the walk asks for -/
structure TileLaws (d : Dev) (t dir s : Int) : Prop where
  back : 0 ≤ tileStepI d t dir s → tileStepI d (tileStepI d t dir s) ((dir + 2) % 4) s = t ∧ distI d t (tileStepI d t dir s) = s ∧ tOk d (tileStepI d t dir s) = true
  has : ∀ k : Nat, k < 3 → hasB (tilesN d (k : Int) (d.W * d.H).toNat) t = (tileKindI d t == (k : Int))
  sum : ((sumN d (d.W * d.H).toNat 3 : Nat) : Int) = d.W * d.H
  zero : tileKindI d 0 = 0
  stay : tileStepI d t dir 0 = t
theorem xy_of {W x y : Int} (hW : 0 < W) (h0 : 0 ≤ x) (h1 : x < W) : (y * W + x) % W = x ∧ (y * W + x) / W = y := by
  constructor
  · rw [Int.add_comm, Int.add_mul_emod_self_right, Int.emod_eq_of_lt h0 h1]
  · rw [Int.add_comm, Int.add_mul_ediv_right _ _ (by omega), Int.ediv_eq_zero_of_lt h0 h1, Int.zero_add]
theorem dX_back (dir s : Int) (r0 : 0 ≤ dir) (r1 : dir ≤ 3) : dX ((dir + 2) % 4) s = - dX dir s ∧ dY ((dir + 2) % 4) s = - dY dir s ∧ absI (dX dir s) + absI (dY dir s) = absI s := by
  obtain rfl | rfl | rfl | rfl : dir = 0 ∨ dir = 1 ∨ dir = 2 ∨ dir = 3 := by omega
  all_goals simp [dX, dY, absI]
  all_goals (repeat' split) <;> omega
theorem tile_bounds {d : Dev} {x y : Int} (hv : devB d = true) (x0 : 0 ≤ x) (x1 : x ≤ d.W - 1) (y0 : 0 ≤ y) (y1 : y ≤ d.H - 1) : tOk d (y * d.W + x) = true := by
  rw [tOk_iff]
  obtain ⟨⟨a1, a2⟩, ⟨b1, b2⟩, -, -⟩ := (devB_iff d).1 hv
  have h1 : 0 ≤ y * d.W := Int.mul_nonneg y0 (by omega)
  have h2 : y * d.W ≤ (d.H - 1) * d.W := Int.mul_le_mul_of_nonneg_right y1 (by omega)
  have h3 : (d.H - 1) * d.W = d.W * d.H - d.W := by rw [Int.sub_mul, Int.one_mul, Int.mul_comm]
  exact ⟨hv, by omega, by omega⟩
theorem step_back (d : Dev) (t dir s : Int) (ht : tOk d t = true) (r0 : 0 ≤ dir) (r1 : dir ≤ 3) (s0 : 0 ≤ s) (s1 : s ≤ 6) (h : 0 ≤ tileStepI d t dir s) :
    tileStepI d (tileStepI d t dir s) ((dir + 2) % 4) s = t ∧ distI d t (tileStepI d t dir s) = s ∧ tOk d (tileStepI d t dir s) = true := by
  obtain ⟨hv, t0, t1⟩ := (tOk_iff d t).1 ht
  obtain ⟨x0, x1, y0, y1, et⟩ := tile_xy hv t0 t1
  obtain ⟨⟨a1, a2⟩, ⟨b1, b2⟩, -, -⟩ := (devB_iff d).1 hv
  have hr : inR dir 0 3 = true := inR_true r0 r1
  have hs : inR s 0 6 = true := inR_true s0 s1
  have e1 : tileStepI d t dir s = stepI d t dir s := if_pos ⟨ht, hr, hs⟩
  rw [e1] at h ⊢
  by_cases hin : inR (t % d.W + dX dir s) 0 (d.W - 1) = true ∧ inR (t / d.W + dY dir s) 0 (d.H - 1) = true
  · have e2 : stepI d t dir s = (t / d.W + dY dir s) * d.W + (t % d.W + dX dir s) := if_pos hin
    obtain ⟨u0, u1⟩ := (inR_iff _ _ _).1 hin.1
    obtain ⟨v0, v1⟩ := (inR_iff _ _ _).1 hin.2
    rw [e2]
    have hok := tile_bounds hv u0 u1 v0 v1
    obtain ⟨f1, f2⟩ := xy_of (W := d.W) (x := t % d.W + dX dir s) (y := t / d.W + dY dir s) (by omega) u0 (by omega)
    obtain ⟨g1, g2, g3⟩ := dX_back dir s r0 r1
    refine ⟨?_, ?_, hok⟩
    · rw [tileStepI, if_pos ⟨hok, inR_true (by omega) (by omega), hs⟩, stepI, f1, f2, g1, g2]
      rw [if_pos ⟨inR_true (by omega) (by omega), inR_true (by omega) (by omega)⟩]
      rw [show t / d.W + dY dir s + -dY dir s = t / d.W by omega]; omega
    · rw [distI, f1, f2]
      rw [show t % d.W - (t % d.W + dX dir s) = -dX dir s by omega, show t / d.W - (t / d.W + dY dir s) = -dY dir s by omega]
      have n : ∀ x, absI (-x) = absI x := fun x => by unfold absI; split <;> split <;> omega
      rw [n, n, g3]; unfold absI; split <;> omega
  · have e2 : stepI d t dir s = -1 := if_neg hin
    omega
theorem step_stay (d : Dev) (t dir : Int) (ht : tOk d t = true) (r0 : 0 ≤ dir) (r1 : dir ≤ 3) : tileStepI d t dir 0 = t := by
  obtain ⟨hv, t0, t1⟩ := (tOk_iff d t).1 ht
  obtain ⟨x0, x1, y0, y1, et⟩ := tile_xy hv t0 t1
  have z1 : dX dir 0 = 0 := by unfold dX; (repeat' split) <;> rfl
  have z2 : dY dir 0 = 0 := by unfold dY; (repeat' split) <;> rfl
  rw [tileStepI, if_pos ⟨ht, inR_true r0 r1, inR_true (by omega) (by omega)⟩, stepI, z1, z2, Int.add_zero, Int.add_zero, if_pos ⟨inR_true x0 x1, inR_true y0 y1⟩, et]
theorem has_tiles (d : Dev) (t : Int) (ht : tOk d t = true) (k : Int) : hasB (tilesN d k (d.W * d.H).toNat) t = (tileKindI d t == k) := by
  obtain ⟨hv, t0, t1⟩ := (tOk_iff d t).1 ht
  have e : tileKindI d t = kindI d t := if_pos ht
  rw [e]
  obtain ⟨n, rfl⟩ := Int.eq_ofNat_of_zero_le t0
  rw [Bool.eq_iff_iff]
  unfold hasB tilesN
  rw [List.contains_iff_mem, List.mem_map]
  constructor
  · rintro ⟨m, hm, he⟩
    obtain rfl : m = n := by omega
    exact (List.mem_filter.1 hm).2
  · intro h
    exact ⟨n, List.mem_filter.2 ⟨List.mem_range.2 (by omega), h⟩, rfl⟩
theorem sum_tiles (d : Dev) (N : Nat) : sumN d N 3 = N := by
  have : ∀ N, (tilesN d 0 N).length + (tilesN d 1 N).length + (tilesN d 2 N).length = N := by
    intro N
    induction N with
    | zero => rfl
    | succ N ih =>
      rw [tilesN_succ, tilesN_succ, tilesN_succ, List.length_append, List.length_append, List.length_append]
      rcases kind_cases d (N : Int) with h | h | h <;> rw [h] <;> simp <;> omega
  have h := this N
  simp only [sumN]
  simp only [Nat.zero_add]
  exact h
theorem kind_zero (d : Dev) (hv : devB d = true) : tileKindI d 0 = 0 := by
  have h0 := area_le hv
  rw [tileKindI, if_pos ((tOk_iff d 0).2 ⟨hv, by omega, by omega⟩)]
  simp [kindI]
theorem tile_laws (d : Dev) (t dir s : Int) (hd : Drawn d) (ht : tOk d t = true) (r0 : 0 ≤ dir) (r1 : dir ≤ 3) (s0 : 0 ≤ s) (s1 : s ≤ 3) : TileLaws d t dir s where
  back := step_back d t dir s ht r0 r1 s0 (by omega)
  has := fun k _ => has_tiles d t ht k
  sum := by rw [sum_tiles]; have := area_le hd.ok; omega
  zero := kind_zero d hd.ok
  stay := step_stay d t dir ht r0 r1
end Go.Proofs.Ytnnkbpcfjjijbaa
