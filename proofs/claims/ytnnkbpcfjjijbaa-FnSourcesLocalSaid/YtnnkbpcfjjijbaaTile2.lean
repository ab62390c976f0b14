/- Steps, distances and lists of tiles: the walks. -/
import Derived.Test.YtnnkbpcfjjijbaaTile1
set_option linter.unusedVariables false
set_option linter.unusedSimpArgs false
namespace Go.Proofs.Ytnnkbpcfjjijbaa
open Go.RowKit
theorem tileStep_any (d : Dev) (t dir s : Int) (hv : devB d = true) (t0 : 0 ≤ t) (t1 : t ≤ d.W * d.H - 1) (r0 : 0 ≤ dir) (r1 : dir ≤ 3) (s0 : 0 ≤ s) (s1 : s ≤ 6) (w : World) :
    Calls Try.prog 76 #[.agg #[.int .i64 d.W, .int .i64 d.H, .int .i64 d.T, .int .i64 d.R], .int .i64 t, .int .i64 dir, .int .i64 s] w fun e w' => e = .returned (.int .i64 (stepI d t dir s)) ∧ Below w.heap.size w w' := by
  by_cases h0 : dir = 0
  · subst h0; exact tileStep_d0 d t s hv t0 t1 s0 s1 w
  · by_cases h1 : dir = 1
    · subst h1; exact tileStep_d1 d t s hv t0 t1 s0 s1 w
    · by_cases h2 : dir = 2
      · subst h2; exact tileStep_d2 d t s hv t0 t1 s0 s1 w
      · exact tileStep_d3 d t dir s (by simpa using h0) (by simpa using h1) (by simpa using h2) hv t0 t1 s0 s1 w
def tileStepI (d : Dev) (t dir s : Int) : Int := if tOk d t = true ∧ inR dir 0 3 = true ∧ inR s 0 6 = true then stepI d t dir s else -1
set_option maxHeartbeats 1000000 in
theorem implTileStep_any (d : Dev) (t dir s : Int) (w : World) :
    Calls Try.prog 18 #[.agg #[.int .i64 d.W, .int .i64 d.H, .int .i64 d.T, .int .i64 d.R], .int .i64 t, .int .i64 dir, .int .i64 s] w fun e w' => e = .returned (.int .i64 (tileStepI d t dir s)) ∧ Below w.heap.size w w' := by
  rcases Bool.eq_false_or_eq_true (tOk d t) with hd | hd
  rotate_left
  · have hf := Lib.hid (show tileStepI d t dir s = -1 from if_neg (by simp [hd]))
    go_enter Try.func18, Try.ntmps18
    go_wp2_with fail
    refine (implTileOk_any d t _).mono ?_
    rintro e w1 ⟨rfl, hb1⟩
    obtain ⟨hc1, hf1, hz1⟩ := bcell hb1
    have hy1 := bel_lt hb1
    go_wp2
    go_ret
    exact ⟨rt_int hf.out.symm, bel_trans (bel_alloc (Below.refl _ _) _) hb1⟩
  rcases Bool.eq_false_or_eq_true (inR dir 0 3) with h1 | h1
  rotate_left
  · have hf := Lib.hid (show tileStepI d t dir s = -1 from if_neg (by simp [h1]))
    go_enter Try.func18, Try.ntmps18
    go_wp2_with fail
    refine (implTileOk_any d t _).mono ?_
    rintro e w1 ⟨rfl, hb1⟩
    obtain ⟨hc1, hf1, hz1⟩ := bcell hb1
    have hy1 := bel_lt hb1
    go_wp2_with fail
    refine (inRange_any _ _ _ _).mono ?_
    rintro e w' ⟨rfl, rfl⟩
    go_wp2
    go_ret
    exact ⟨rt_int hf.out.symm, bel_trans (bel_alloc (Below.refl _ _) _) hb1⟩
  rcases Bool.eq_false_or_eq_true (inR s 0 6) with h2 | h2
  rotate_left
  · have hf := Lib.hid (show tileStepI d t dir s = -1 from if_neg (by simp [h2]))
    go_enter Try.func18, Try.ntmps18
    go_wp2_with fail
    refine (implTileOk_any d t _).mono ?_
    rintro e w1 ⟨rfl, hb1⟩
    obtain ⟨hc1, hf1, hz1⟩ := bcell hb1
    have hy1 := bel_lt hb1
    go_wp2_with fail
    refine (inRange_any _ _ _ _).mono ?_
    rintro e w' ⟨rfl, rfl⟩
    go_wp2_with fail
    refine (inRange_any _ _ _ _).mono ?_
    rintro e w' ⟨rfl, rfl⟩
    go_wp2
    go_ret
    exact ⟨rt_int hf.out.symm, bel_trans (bel_alloc (Below.refl _ _) _) hb1⟩
  · have hf := Lib.hid (show tileStepI d t dir s = stepI d t dir s from if_pos ⟨hd, h1, h2⟩)
    obtain ⟨hv, t0, t1⟩ := (tOk_iff d t).1 hd
    obtain ⟨r0, r1⟩ := (inR_iff _ _ _).1 h1
    obtain ⟨s0, s1⟩ := (inR_iff _ _ _).1 h2
    go_enter Try.func18, Try.ntmps18
    go_wp2_with fail
    refine (implTileOk_any d t _).mono ?_
    rintro e w1 ⟨rfl, hb1⟩
    obtain ⟨hc1, hf1, hz1⟩ := bcell hb1
    have hy1 := bel_lt hb1
    go_wp2_with fail
    refine (inRange_any _ _ _ _).mono ?_
    rintro e w' ⟨rfl, rfl⟩
    go_wp2_with fail
    refine (inRange_any _ _ _ _).mono ?_
    rintro e w' ⟨rfl, rfl⟩
    go_wp2_with fail
    refine (tileStep_any d t dir s hv t0 t1 r0 r1 s0 s1 _).mono ?_
    rintro e w2 ⟨rfl, hb2⟩
    obtain ⟨hc2, hf2, hz2⟩ := bcell hb2
    have hy2 := lt_bel hb2 hy1
    go_wp2
    go_ret
    exact ⟨rt_int hf.out.symm, bel_trans (bel_trans (bel_alloc (Below.refl _ _) _) hb1) hb2⟩
def absI (n : Int) : Int := if n < 0 then -n else n
theorem absI_neg {n : Int} (h : n < 0) : -n = absI n := (if_pos h).symm
theorem absI_pos {n : Int} (h : 0 ≤ n) : n = absI n := (if_neg (by omega)).symm
set_option maxHeartbeats 400000 in
theorem absInt_any (n : Int) (h1 : -1000000 ≤ n) (h2 : n ≤ 1000000) (w : World) :
    Calls Try.prog 77 #[.int .i64 n] w fun e w' => e = .returned (.int .i64 (absI n)) ∧ w' = w := by
  by_cases h : n < 0
  · have hf := Lib.hid (absI_neg h)
    go_enter Try.func77, Try.ntmps77
    go_wp2
    go_ret
    exact ⟨rt_int hf.out, rfl⟩
  · have hf := Lib.hid (absI_pos (n := n) (by omega))
    go_enter Try.func77, Try.ntmps77
    go_wp2
    go_ret
    exact ⟨rt_int hf.out, rfl⟩
def distI (d : Dev) (a b : Int) : Int := absI (a % d.W - b % d.W) + absI (a / d.W - b / d.W)
set_option maxHeartbeats 1000000 in
theorem implTileDistance_in (d : Dev) (a b : Int) (ha : tOk d a = true) (hb : tOk d b = true) (w : World) :
    Calls Try.prog 19 #[.agg #[.int .i64 d.W, .int .i64 d.H, .int .i64 d.T, .int .i64 d.R], .int .i64 a, .int .i64 b] w fun e w' => e = .returned (.int .i64 (distI d a b)) ∧ Below w.heap.size w w' := by
  obtain ⟨hv, a0, a1⟩ := (tOk_iff d a).1 ha
  obtain ⟨-, b0, b1⟩ := (tOk_iff d b).1 hb
  obtain ⟨x0, x1, y0, y1, -⟩ := tile_xy hv a0 a1
  obtain ⟨u0, u1, v0, v1, -⟩ := tile_xy hv b0 b1
  obtain ⟨⟨l1, l2⟩, ⟨l3, l4⟩, -, -⟩ := (devB_iff d).1 hv
  have n1 : absI (a % d.W - b % d.W) ≤ 6 ∧ 0 ≤ absI (a % d.W - b % d.W) := by unfold absI; split <;> omega
  have n2 : absI (a / d.W - b / d.W) ≤ 6 ∧ 0 ≤ absI (a / d.W - b / d.W) := by unfold absI; split <;> omega
  obtain ⟨m1, m2⟩ := area_le hv
  go_enter Try.func19, Try.ntmps19
  go_wp2_with fail
  refine (implTileOk_any d a _).mono ?_
  rintro e w1 ⟨rfl, hb1⟩
  obtain ⟨hc1, hf1, hz1⟩ := bcell hb1
  have hy1 := bel_lt hb1
  go_wp2_with fail
  refine (implTileOk_any d b _).mono ?_
  rintro e w2 ⟨rfl, hb2⟩
  obtain ⟨hc2, hf2, hz2⟩ := bcell hb2
  have hy2 := lt_bel hb2 hy1
  go_wp2
  go_quiet ((go_at_call 77; exact Calls.quiet_of_same (absInt_any _ (by omega) (by omega) _)))
  go_wp2
  go_ret
  exact ⟨rfl, bel_drewN (bel_trans (bel_trans (bel_alloc (Below.refl _ _) _) hb1) hb2) _⟩
def tilesN (d : Dev) (kind : Int) (k : Nat) : List Int := ((List.range k).filter fun (t : Nat) => kindI d (t : Int) == kind).map fun (t : Nat) => (t : Int)
theorem tilesN_succ (d : Dev) (kind : Int) (k : Nat) : tilesN d kind (k + 1) = tilesN d kind k ++ if (kindI d (k : Int) == kind) = true then [(k : Int)] else [] := by
  unfold tilesN
  rw [List.range_succ, List.filter_append, List.map_append]
  cases h : (kindI d (k : Int) == kind)
  · simp [List.filter_cons, h]
  · simp [List.filter_cons, h]
theorem tilesN_len (d : Dev) (kind : Int) (k : Nat) : (tilesN d kind k).length ≤ k := by
  unfold tilesN
  rw [List.length_map]
  exact Nat.le_trans (List.length_filter_le _ _) (by simp)
theorem tilesN_ok (d : Dev) (kind : Int) (k : Nat) (hk : k ≤ 1000000) : ∀ x ∈ tilesN d kind k, i64ok x := by
  intro x hx
  unfold tilesN at hx
  obtain ⟨y, hy, rfl⟩ := List.mem_map.1 hx
  have := List.mem_range.1 (List.mem_filter.1 hy).1
  unfold i64ok; omega
theorem own_mono {w : World} {B B' E size n : Nat} {v : Value} {xs : List Value} (h : w.ownsRow B E size v n xs) (hB : B' ≤ B) : w.ownsRow B' E size v n xs := by
  obtain ⟨h1, h2⟩ := h
  refine ⟨h1, ?_⟩
  rcases h2 with h2 | ⟨g, cap, cur, h3, h4, h5⟩
  · exact .inl h2
  · exact .inr ⟨g, cap, cur, h3, Nat.le_trans hB h4, h5⟩
/-- a call that answers a new slice of ints -/
def RetInts (B : Nat) (xs : List Int) (e : Ending) (w' : World) : Prop := ∃ v, e = .returned v ∧ w'.ownsRow B 3 1 v xs.length (ints xs)
set_option maxHeartbeats 2000000 in
theorem implTilesOf_in (d : Dev) (kind : Int) (hv : devB d = true) (w : World) :
    Calls Try.prog 20 #[.agg #[.int .i64 d.W, .int .i64 d.H, .int .i64 d.T, .int .i64 d.R], .int .i64 kind] w fun e w' => RetInts w.heap.size (tilesN d kind (d.W * d.H).toNat) e w' ∧ Below w.heap.size w w' := by
  obtain ⟨m1, m2⟩ := area_le hv
  go_enter Try.func20, Try.ntmps20
  go_wp2_with fail
  refine (implDeviceOk_any d _).mono ?_
  rintro e w1 ⟨rfl, hb1⟩
  obtain ⟨hc1, hf1, hz1⟩ := bcell hb1
  have hy1 := bel_lt hb1
  go_wp2_with fail
  go_loopw [5, 6] (fun v i wr => ∃ k : Nat, (k : Int) ≤ d.W * d.H ∧ i = .int .i64 (k : Int) ∧ wr.ownsRow (w.heap.size + 1) 3 1 v (tilesN d kind k).length (ints (tilesN d kind k)) ∧ Below (w.heap.size + 1) (w.alloc (.cells #[.int .i64 d.W, .int .i64 d.H, .int .i64 d.T, .int .i64 d.R] 25)) wr) (fun _ i _ => (d.W * d.H).toNat - (intOf i).toNat)
  case atStart => exact ⟨0, by omega, rfl, World.ownsRow_nil _ _ _ _, by have := hb1; rwa [size_alloc'] at this⟩
  case round =>
    obtain ⟨k, hk, rfl, hown, hbr⟩ := hrel
    have cl : ∀ o, wr.cell? ⟨w.heap.size, o, none⟩ = (#[Value.int IntKind.i64 d.W, .int .i64 d.H, .int .i64 d.T, .int .i64 d.R] : Array Value)[o]? := fun o => (hbr.cell (p := ⟨w.heap.size, o, none⟩) (by show w.heap.size < _; omega)).trans (World.cell?_alloc_at _ _ _ _ rfl)
    have c0 : wr.cell? ⟨w.heap.size, 0, none⟩ = some (.int .i64 d.W) := cl 0
    have c1 : wr.cell? ⟨w.heap.size, 1, none⟩ = some (.int .i64 d.H) := cl 1
    have c2 : wr.cell? ⟨w.heap.size, 2, none⟩ = some (.int .i64 d.T) := cl 2
    have c3 : wr.cell? ⟨w.heap.size, 3, none⟩ = some (.int .i64 d.R) := cl 3
    have hsz : w.heap.size + 1 ≤ wr.heap.size := by have := hbr.size; rwa [size_alloc'] at this
    have hl := tilesN_len d kind k
    have Hs := Lib.hid (tilesN_succ d kind k)
    clear cl hc1 hf1 hb1 hz1 hy1
    have Hb := Lib.hid hbr
    have Ho := Lib.hid hown
    clear hbr hown
    by_cases hlt : (k : Int) < d.W * d.H
    · rcases Bool.eq_false_or_eq_true (kindI d (k : Int) == kind) with hT | hT
      · have Hs2 : Hid (tilesN d kind (k + 1) = tilesN d kind k ++ [(k : Int)]) := by have := Hs.out; rw [if_pos hT] at this; exact this
        go_wp2_with fail
        refine (implTileKind0_any d k hv (by omega) (by omega) _).mono ?_
        rintro e w2 ⟨rfl, hb2⟩
        have Ho2 := Lib.hid (own_below Ho.out hb2)
        have Hb2 := Lib.hid (Hb.out.trans (hb2.mono hsz))
        have hs2 := Nat.le_trans hsz hb2.size
        clear hb2 Ho Hb c0 c1 c2 c3
        go_wp2_with (at_builtin; go_must (refine append_int _ rfl _ _ rfl (w.heap.size + 1) _ _ _ Ho2.out (k : Int) rfl rfl (by omega) hs2 ?_); intro v' w3 ho3 hg3)
        go_roundw
        case rel => exact ⟨k + 1, by omega, by go_num, by rw [Hs2.out, len_snoc]; exact ho3, bel_app Hb2.out Ho2.out hs2 hg3⟩
        case measure => simp [intOf]; omega
      · have Hs2 : Hid (tilesN d kind (k + 1) = tilesN d kind k) := by have := Hs.out; rw [if_neg (by simp [hT])] at this; rw [this]; exact List.append_nil _
        go_wp2_with fail
        refine (implTileKind0_any d k hv (by omega) (by omega) _).mono ?_
        rintro e w2 ⟨rfl, hb2⟩
        have Ho2 := Lib.hid (own_below Ho.out hb2)
        have Hb2 := Lib.hid (Hb.out.trans (hb2.mono hsz))
        clear hb2 Ho Hb c0 c1 c2 c3
        go_wp2
        go_roundw
        case rel => exact ⟨k + 1, by omega, by go_num, by rw [Hs2.out]; exact Ho2.out, Hb2.out⟩
        case measure => simp [intOf]; omega
    · have hT : decide ((k : Int) < d.W * d.H) = false := by simp; omega
      have hkk : (d.W * d.H).toNat = k := by omega
      have HK := Lib.hid hkk
      clear hkk
      go_wp2
      go_ret
      refine ⟨⟨_, rfl, ?_⟩, ?_⟩
      · rw [HK.out]; exact own_mono Ho.out (by omega)
      · exact (bel_alloc (Below.refl _ _) _).trans (Hb.out.mono (by omega))
end Go.Proofs.Ytnnkbpcfjjijbaa
