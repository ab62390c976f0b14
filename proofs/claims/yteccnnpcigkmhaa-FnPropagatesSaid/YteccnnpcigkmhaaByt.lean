/- What a law reads out of its bytes: the walks of big and at. -/
import Derived.Test.YteccnnpcigkmhaaBase
set_option linter.unusedVariables false
set_option linter.unusedSimpArgs false
namespace Go.Proofs.Yteccnnpcigkmhaa
open Go.RowKit Go.ChangeShapes
/-- the bytes of a law: nil, or a row of cells (the shape of the frames' own IsRow) -/
def BRow (k : IntKind) (w : World) (a : Option Addr) (len cap : Nat) (zs : List Int) : Prop :=
  (a = none ∧ len = 0 ∧ cap = 0 ∧ zs = []) ∨
  ∃ x, a = some x ∧ len ≤ cap ∧ cap ≤ maxLen ∧ zs.length = cap ∧ (∀ i, i < zs.length → w.cell? (x.add i) = some (.int k (zs.getD i 0))) ∧ ∀ n ∈ zs, (Lit.int k n).wf = true
def cod (z : List Int) (len i : Nat) : Nat := if len = 0 then 0 else (z.getD ((i * 5 + 1) % len) 0).toNat
theorem byte_rng {n : Int} (h : (Lit.int .u8 n).wf = true) : 0 ≤ n ∧ n ≤ 255 := by
  simp [Lit.wf, IntKind.min, IntKind.max, IntKind.signed, IntKind.bits] at h; omega
theorem BRow.len_le {k w a len cap zs} (h : BRow k w a len cap zs) : len ≤ 9223372036854775807 := by
  rcases h with ⟨_, rfl, _⟩ | ⟨_, _, h1, h2, _⟩
  · omega
  · unfold maxLen at h2; omega
theorem BRow.at_facts {w a len cap zs} (h : BRow .u8 w a len cap zs) (hl : 0 < len) (j : Nat) (hj : j < len) :
    ∃ b off, a = some ⟨b, off, none⟩ ∧ w.cell? ⟨b, off + j, none⟩ = some (.int .u8 (zs.getD j 0)) ∧ 0 ≤ zs.getD j 0 ∧ zs.getD j 0 ≤ 255 := by
  rcases h with ⟨_, rfl, _⟩ | ⟨x, rfl, h1, h2, h3, h4, h5⟩
  · omega
  · obtain ⟨b, off, rfl, hc⟩ := ints_at h4 (by omega)
    refine ⟨b, off, rfl, hc j (by omega), byte_rng (h5 _ ?_)⟩
    exact getD_mem (by omega)
theorem cod_le {w a len cap zs} (h : BRow .u8 w a len cap zs) (i : Nat) : cod zs len i ≤ 255 := by
  unfold cod
  split
  · omega
  · rename_i h0
    obtain ⟨b, off, _, _, h2, h3⟩ := h.at_facts (by omega) ((i * 5 + 1) % len) (Nat.mod_lt _ (by omega))
    omega
set_option maxHeartbeats 400000 in
theorem big_any (a : Option Addr) (len cap : Nat) (w : World) (h : len ≤ 9223372036854775807) :
    Calls Try.prog 7 #[.slice a len cap] w fun e w' => e = .returned (.bool (decide (1048576 < len))) ∧ w = w' := by
  go_enter Try.func7, Try.ntmps7
  go_wp2
  go_ret
  exact ⟨rt_bool (by rw [Bool.eq_iff_iff]; simp; omega), rfl⟩
theorem big_no (a : Option Addr) (len cap : Nat) (w : World) (h : len ≤ 1048576) :
    Calls Try.prog 7 #[.slice a len cap] w fun e w' => e = .returned (.bool false) ∧ w = w' :=
  (big_any a len cap w (by omega)).mono fun _ _ ⟨he, hw⟩ => ⟨by rw [he, decide_eq_false (by omega)], hw⟩
theorem big_yes (a : Option Addr) (len cap : Nat) (w : World) (h0 : len ≤ 9223372036854775807) (h : 1048576 < len) :
    Calls Try.prog 7 #[.slice a len cap] w fun e w' => e = .returned (.bool true) ∧ w = w' :=
  (big_any a len cap w h0).mono fun _ _ ⟨he, hw⟩ => ⟨by rw [he, decide_eq_true h], hw⟩
theorem cod_zero (z : List Int) (i : Nat) : cod z 0 i = 0 := rfl
theorem cod_pos (z : List Int) (len i : Nat) (h : 0 < len) : cod z len i = (z.getD ((i * 5 + 1) % len) 0).toNat := if_neg (by omega)
set_option maxHeartbeats 400000 in
theorem at_any (a : Option Addr) (len cap : Nat) (z : List Int) (w : World) (h : BRow .u8 w a len cap z) (i : Nat) (hi : i ≤ 1000000) :
    Calls Try.prog 9 #[.slice a len cap, .int .i64 (i : Int)] w fun e w' => e = .returned (.int .i64 (cod z len i : Nat)) ∧ w = w' := by
  have hlen := h.len_le
  by_cases h0 : len = 0
  · subst h0
    clear h
    go_enter Try.func9, Try.ntmps9
    go_wp2
    go_ret
    exact ⟨rfl, rfl⟩
  · have hp : 0 < len := by omega
    have hm : (i * 5 + 1) % len < len := Nat.mod_lt _ hp
    obtain ⟨b, off, rfl, hc, r1, r2⟩ := h.at_facts hp ((i * 5 + 1) % len) hm
    have hcod := Lib.hid (cod_pos z len i hp)
    have h1 : ((len : Int) == 0) = false := by simp; omega
    have e1 : ((i : Int) * 5 + 1) % (len : Int) = (((i * 5 + 1) % len : Nat) : Int) := by rw [Int.natCast_emod]; rfl
    clear h h0
    generalize (i * 5 + 1) % len = j at *
    generalize z.getD j 0 = v at *
    go_enter Try.func9, Try.ntmps9
    go_wp2
    go_ret
    exact ⟨rt_int (by rw [hcod.out]; omega), rfl⟩
theorem at_0 (a : Option Addr) (len cap : Nat) (z : List Int) (w : World) (h : BRow .u8 w a len cap z) :
    Calls Try.prog 9 #[.slice a len cap, .int .i64 0] w fun e w' => e = .returned (.int .i64 (cod z len 0 : Nat)) ∧ w = w' := at_any a len cap z w h 0 (by omega)
theorem at_1 (a : Option Addr) (len cap : Nat) (z : List Int) (w : World) (h : BRow .u8 w a len cap z) :
    Calls Try.prog 9 #[.slice a len cap, .int .i64 1] w fun e w' => e = .returned (.int .i64 (cod z len 1 : Nat)) ∧ w = w' := at_any a len cap z w h 1 (by omega)
theorem at_2 (a : Option Addr) (len cap : Nat) (z : List Int) (w : World) (h : BRow .u8 w a len cap z) :
    Calls Try.prog 9 #[.slice a len cap, .int .i64 2] w fun e w' => e = .returned (.int .i64 (cod z len 2 : Nat)) ∧ w = w' := at_any a len cap z w h 2 (by omega)
theorem at_3 (a : Option Addr) (len cap : Nat) (z : List Int) (w : World) (h : BRow .u8 w a len cap z) :
    Calls Try.prog 9 #[.slice a len cap, .int .i64 3] w fun e w' => e = .returned (.int .i64 (cod z len 3 : Nat)) ∧ w = w' := at_any a len cap z w h 3 (by omega)
theorem at_4 (a : Option Addr) (len cap : Nat) (z : List Int) (w : World) (h : BRow .u8 w a len cap z) :
    Calls Try.prog 9 #[.slice a len cap, .int .i64 4] w fun e w' => e = .returned (.int .i64 (cod z len 4 : Nat)) ∧ w = w' := at_any a len cap z w h 4 (by omega)
theorem at_5 (a : Option Addr) (len cap : Nat) (z : List Int) (w : World) (h : BRow .u8 w a len cap z) :
    Calls Try.prog 9 #[.slice a len cap, .int .i64 5] w fun e w' => e = .returned (.int .i64 (cod z len 5 : Nat)) ∧ w = w' := at_any a len cap z w h 5 (by omega)
theorem at_6 (a : Option Addr) (len cap : Nat) (z : List Int) (w : World) (h : BRow .u8 w a len cap z) :
    Calls Try.prog 9 #[.slice a len cap, .int .i64 6] w fun e w' => e = .returned (.int .i64 (cod z len 6 : Nat)) ∧ w = w' := at_any a len cap z w h 6 (by omega)
theorem at_7 (a : Option Addr) (len cap : Nat) (z : List Int) (w : World) (h : BRow .u8 w a len cap z) :
    Calls Try.prog 9 #[.slice a len cap, .int .i64 7] w fun e w' => e = .returned (.int .i64 (cod z len 7 : Nat)) ∧ w = w' := at_any a len cap z w h 7 (by omega)
end Go.Proofs.Yteccnnpcigkmhaa
