/- The reference's drawn devices: the walks. -/
import Derived.Test.YtnnkbpcfjjijbaaCur
import Derived.Test.YtnnkbpcfjjijbaaDev
import Derived.Deep.RegionWith
set_option linter.unusedVariables false
set_option linter.unusedSimpArgs false
namespace Go.Proofs.Ytnnkbpcfjjijbaa
open Go.RowKit
/-- a drawn device -/
def Drawn (d : Dev) : Prop := 3 ≤ d.W ∧ d.W ≤ 5 ∧ 3 ≤ d.H ∧ d.H ≤ 5 ∧ 1 ≤ d.T ∧ d.T ≤ 4 ∧ (d.R = -1 ∨ (1 ≤ d.R ∧ d.R ≤ d.W - 2))
theorem Drawn.ok {d : Dev} (h : Drawn d) : devB d = true := by
  unfold Drawn at h
  rw [devB_iff]; omega
theorem drawn_no {x1 x2 x3 : Nat} (h1 : x1 < 3) (h2 : x2 < 3) (h3 : x3 < 4) : Drawn ⟨3 + (x1 : Int), 3 + (x2 : Int), 1 + (x3 : Int), -1⟩ := by
  refine ⟨?_, ?_, ?_, ?_, ?_, ?_, .inl rfl⟩ <;> dsimp only <;> omega
theorem drawn_yes {x1 x2 x3 x5 : Nat} (h1 : x1 < 3) (h2 : x2 < 3) (h3 : x3 < 4) (h5 : x5 < x1 + 1) : Drawn ⟨3 + (x1 : Int), 3 + (x2 : Int), 1 + (x3 : Int), 1 + (x5 : Int)⟩ := by
  refine ⟨?_, ?_, ?_, ?_, ?_, ?_, .inr ⟨?_, ?_⟩⟩ <;> dsimp only <;> omega
def RetDev (e : Ending) : Prop := ∃ d : Dev, Drawn d ∧ e = .returned (.agg #[.int .i64 d.W, .int .i64 d.H, .int .i64 d.T, .int .i64 d.R])
set_option maxHeartbeats 2000000 in
set_option maxRecDepth 100000 in
theorem l26Device_any (B g : Nat) (a : Option Addr) (len cap : Nat) (z : List Int) (w : World) (hc : Cur w B g a len cap z) :
    Calls Try.prog 72 #[.pointer (some ⟨g, 0, none⟩)] w fun e w' => RetDev e ∧ Cur w' B g a len cap z ∧ w.grownBy w' (some g) := by
  have hgl := hc.lt
  have hBg := hc.base
  have C := Lib.hid (hc.alloc (.cells #[.int .i64 0, .int .i64 0, .int .i64 0, .int .i64 0] 25))
  clear hc
  go_enter Try.func72, Try.ntmps72
  go_wp2_with fail
  refine (l01Below_any B g a len cap z 3 (by omega) (by omega) _ C.out).mono ?_
  rintro e w1 ⟨⟨x1, hx1, rfl⟩, hc1, hg1⟩
  obtain ⟨e1, f1, s1⟩ := gcell hg1
  have C1 := Lib.hid hc1
  have G1 := Lib.hid hg1
  clear hc1 hg1
  go_wp2_with fail
  refine (l01Below_any B g a len cap z 3 (by omega) (by omega) _ C1.out).mono ?_
  rintro e w2 ⟨⟨x2, hx2, rfl⟩, hc2, hg2⟩
  obtain ⟨e2, f2, s2⟩ := gcell hg2
  have C2 := Lib.hid hc2
  have G2 := Lib.hid hg2
  clear hc2 hg2
  go_wp2_with fail
  refine (l01Below_any B g a len cap z 4 (by omega) (by omega) _ C2.out).mono ?_
  rintro e w3 ⟨⟨x3, hx3, rfl⟩, hc3, hg3⟩
  obtain ⟨e3, f3, s3⟩ := gcell hg3
  have C3 := Lib.hid hc3
  have G3 := Lib.hid hg3
  clear hc3 hg3
  go_wp2_with fail
  refine (l01Once_any B g a len cap z 2 (by omega) (by omega) _ (C3.out.alloc _)).mono ?_
  rintro e w4 ⟨⟨bb, rfl⟩, hc4, hg4⟩
  obtain ⟨e4, f4, s4⟩ := gcell hg4
  have C4 := Lib.hid hc4
  have G4 := Lib.hid hg4
  clear hc4 hg4
  have q1 : w.heap.size < w1.heap.size := by rw [size_alloc'] at s1; omega
  have q2 : w.heap.size < w2.heap.size := by omega
  have q3 : w.heap.size < w3.heap.size := by omega
  have q4 : w3.heap.size < w4.heap.size := by rw [size_alloc'] at s4; omega
  have q5 : w.heap.size < w4.heap.size := by omega
  have n1 : w.heap.size ≠ g := by omega
  have n3 : w3.heap.size ≠ g := by omega
  clear s1 s2 s3 s4
  have r : ∀ j, w4.cell? ⟨w.heap.size, j, none⟩ = (#[Value.int IntKind.i64 0, Value.int IntKind.i64 0, Value.int IntKind.i64 0, Value.int IntKind.i64 0] : Array Value)[j]? := fun j =>
    (e4 _ _ (by rw [size_alloc']; omega) n1).trans ((World.cell?_alloc_past _ _ _ (by omega)).trans ((e3 _ _ q2 n1).trans ((e2 _ _ q1 n1).trans ((e1 _ _ (by rw [size_alloc']; omega) n1).trans (World.cell?_alloc_at _ _ _ _ rfl)))))
  have r0 : w4.cell? ⟨w.heap.size, 0, none⟩ = some (.int .i64 0) := r 0
  have r1 : w4.cell? ⟨w.heap.size, 1, none⟩ = some (.int .i64 0) := r 1
  have r2 : w4.cell? ⟨w.heap.size, 2, none⟩ = some (.int .i64 0) := r 2
  have r3 : w4.cell? ⟨w.heap.size, 3, none⟩ = some (.int .i64 0) := r 3
  have s : ∀ j, w4.cell? ⟨w3.heap.size, j, none⟩ = (#[Value.int IntKind.i64 (3 + (x1 : Int)), Value.int IntKind.i64 (3 + (x2 : Int)), Value.int IntKind.i64 (1 + (x3 : Int)), Value.int IntKind.i64 (-1)] : Array Value)[j]? := fun j =>
    (e4 _ _ (by rw [size_alloc']; omega) n3).trans (World.cell?_alloc_at _ _ _ _ rfl)
  have t0 : w4.cell? ⟨w3.heap.size, 0, none⟩ = some (.int .i64 (3 + (x1 : Int))) := s 0
  have t1 : w4.cell? ⟨w3.heap.size, 1, none⟩ = some (.int .i64 (3 + (x2 : Int))) := s 1
  have t2 : w4.cell? ⟨w3.heap.size, 2, none⟩ = some (.int .i64 (1 + (x3 : Int))) := s 2
  have t3 : w4.cell? ⟨w3.heap.size, 3, none⟩ = some (.int .i64 (-1)) := s 3
  have z0 : ∀ j, w4.frozen? ⟨w.heap.size, j, none⟩ = false := fun j =>
    (f4 _ _ (by rw [size_alloc']; omega) n1).trans ((World.frozen?_alloc_past _ _ _ (by omega)).trans ((f3 _ _ q2 n1).trans ((f2 _ _ q1 n1).trans ((f1 _ _ (by rw [size_alloc']; omega) n1).trans (World.frozen?_alloc_at _ _ _ _ rfl)))))
  have k0 : w.grownBy w4 (some g) := grown_trans (grown_alloc (grown_trans (grown_trans (grown_trans (World.grownBy_alloc w _ _) G1.out) G2.out) G3.out) _) G4.out
  have K0 := Lib.hid k0
  clear k0 C C1 C2 C3 G1 G2 G3 G4
  cases bb
  · go_wp2
    refine bodyPost_ret (v := .agg #[.int .i64 (3 + (x1 : Int)), .int .i64 (3 + (x2 : Int)), .int .i64 (1 + (x3 : Int)), .int .i64 (-1)]) (by simp [results, Try.results72, go_sem, r0, r1, r2, r3]) rfl ⟨⟨⟨3 + (x1 : Int), 3 + (x2 : Int), 1 + (x3 : Int), -1⟩, ?_, rfl⟩, ?_, ?_⟩
    · exact drawn_no hx1 hx2 hx3
    · exact (((C4.out.set n1 (by omega) _).set n1 (by omega) _).set n1 (by omega) _).set n1 (by omega) _
    · exact grown_new (grown_new (grown_new (grown_new K0.out (Nat.le_refl _) _) (Nat.le_refl _) _) (Nat.le_refl _) _) (Nat.le_refl _) _
  · go_wp2_with fail
    refine (l01Below_any B g a len cap z _ (by omega) (by omega) _ C4.out).mono ?_
    rintro e w5 ⟨⟨x5, hx5, rfl⟩, hc5, hg5⟩
    have x5lt : x5 < x1 + 1 := by omega
    obtain ⟨e5, f5, s5⟩ := gcell hg5
    have C5 := Lib.hid hc5
    have G5 := Lib.hid hg5
    have u0 := (e5 _ 0 q5 n1).trans r0
    have u1 := (e5 _ 1 q5 n1).trans r1
    have u2 := (e5 _ 2 q5 n1).trans r2
    have u3 := (e5 _ 3 q5 n1).trans r3
    have y0 := (e5 _ 0 q4 n3).trans t0
    have y1 := (e5 _ 1 q4 n3).trans t1
    have y2 := (e5 _ 2 q4 n3).trans t2
    have y3 := (e5 _ 3 q4 n3).trans t3
    have nn : w3.heap.size ≠ w.heap.size := by omega
    have v0 : w5.frozen? ⟨w3.heap.size, 3, none⟩ = false := (f5 _ 3 q4 n3).trans ((f4 _ _ (by rw [size_alloc']; omega) n3).trans (World.frozen?_alloc_at _ _ _ _ rfl))
    have v1 : ∀ j, w5.frozen? ⟨w.heap.size, j, none⟩ = false := fun j => (f5 _ j q5 n1).trans (z0 j)
    clear hc5 hg5 e5 f5 r0 r1 r2 r3 t0 t1 t2 t3 z0 e1 e2 e3 e4 f1 f2 f3 f4 r s
    have n9 : w.heap.size ≠ w3.heap.size := by omega
    go_wp2
    refine bodyPost_ret (v := .agg #[.int .i64 (3 + (x1 : Int)), .int .i64 (3 + (x2 : Int)), .int .i64 (1 + (x3 : Int)), .int .i64 (1 + (x5 : Int))]) (by simp [results, Try.results72, go_sem, set_far nn, u0, u1, u2, u3]) rfl ⟨⟨⟨3 + (x1 : Int), 3 + (x2 : Int), 1 + (x3 : Int), 1 + (x5 : Int)⟩, drawn_yes hx1 hx2 hx3 x5lt, rfl⟩, ?_, ?_⟩
    · exact ((((C5.out.set n3 (by omega) _).set n1 (by omega) _).set n1 (by omega) _).set n1 (by omega) _).set n1 (by omega) _
    · exact grown_new (grown_new (grown_new (grown_new (grown_new (grown_trans K0.out G5.out) (by omega) _) (Nat.le_refl _) _) (Nat.le_refl _) _) (Nat.le_refl _) _) (Nat.le_refl _) _
set_option maxHeartbeats 400000 in
theorem drawDevice_any (a : Option Addr) (len cap : Nat) (z : List Int) (w : World) (hlen : len ≤ 1048576) (hb : BRow .u8 w a len cap z) :
    Calls Try.prog 16 #[.slice a len cap] w fun e w' => RetDev e ∧ Below w.heap.size w w' := by
  go_enter Try.func16, Try.ntmps16
  go_wp2_with fail
  refine (l01New_any a len cap z _ hlen (hb.below (bel_alloc (Below.refl _ _) _))).mono ?_
  rintro e w1 ⟨g, rfl, hc1, hb1⟩
  have hlt := bel_lt hb1
  obtain ⟨hcc, hff, hz⟩ := bcell hb1
  have hne : w.heap.size ≠ g := by have := hc1.base; rw [size_alloc'] at this; omega
  have hge : w.heap.size ≤ g := by have := hc1.base; rw [size_alloc'] at this; omega
  go_wp2_with fail
  refine (l26Device_any _ g a len cap z _ hc1).mono ?_
  rintro e w2 ⟨⟨d, hd, rfl⟩, hc2, hg2⟩
  obtain ⟨ec, ef, es⟩ := gcell hg2
  have r : ∀ j, w2.cell? ⟨w.heap.size, j, none⟩ = (#[Value.int IntKind.i64 0, Value.int IntKind.i64 0, Value.int IntKind.i64 0, Value.int IntKind.i64 0] : Array Value)[j]? := fun j =>
    (ec _ _ hlt hne).trans ((hcc _ _ (by rw [size_alloc']; omega)).trans (World.cell?_alloc_at _ _ _ _ rfl))
  have r0 : w2.cell? ⟨w.heap.size, 0, none⟩ = some (.int .i64 0) := r 0
  have r1 : w2.cell? ⟨w.heap.size, 1, none⟩ = some (.int .i64 0) := r 1
  have r2 : w2.cell? ⟨w.heap.size, 2, none⟩ = some (.int .i64 0) := r 2
  have r3 : w2.cell? ⟨w.heap.size, 3, none⟩ = some (.int .i64 0) := r 3
  have z0 : ∀ j, w2.frozen? ⟨w.heap.size, j, none⟩ = false := fun j =>
    (ef _ _ hlt hne).trans ((hff _ _ (by rw [size_alloc']; omega)).trans (World.frozen?_alloc_at _ _ _ _ rfl))
  have hB : Below w.heap.size w w2 := bel_grown (bel_trans (bel_alloc (Below.refl _ _) _) hb1) hg2 (by intro k hk; cases hk; exact hge)
  have HB := Lib.hid hB
  have HD := Lib.hid hd
  clear hB hd r ec ef es hcc hff hz hc1 hb1 hc2 hg2
  obtain ⟨W, H, T, R⟩ := d
  simp only
  go_wp2
  refine bodyPost_ret (v := .agg #[.int .i64 W, .int .i64 H, .int .i64 T, .int .i64 R]) (by simp [results, Try.results16, go_sem, r0, r1, r2, r3]) rfl ⟨⟨⟨W, H, T, R⟩, HD.out, rfl⟩, ?_⟩
  exact bel_set (bel_set (bel_set (bel_set HB.out _ (Nat.le_refl _) _) _ (Nat.le_refl _) _) _ (Nat.le_refl _) _) _ (Nat.le_refl _) _
end Go.Proofs.Ytnnkbpcfjjijbaa
