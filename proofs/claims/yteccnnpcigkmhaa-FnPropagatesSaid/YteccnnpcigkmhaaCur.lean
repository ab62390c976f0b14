/- The reference's cursor over the bytes of a draw: the walks of l01New, l01Byte, l01Below, l01Once. -/
import Derived.Test.YteccnnpcigkmhaaByt
import Derived.Test.YteccnnpcigkmhaaMem
import Derived.Deep.QuietTactic
import Derived.BigQuiet
set_option linter.unusedVariables false
set_option linter.unusedSimpArgs false
namespace Go.Proofs.Yteccnnpcigkmhaa
open Go.RowKit
theorem and_range (x m : Int) (h0 : 0 ≤ m) (h1 : m ≤ 4611686018427387904) : 0 ≤ bits BinOp.and IntKind.i64 x m ∧ bits BinOp.and IntKind.i64 x m ≤ m := by
  obtain ⟨k, rfl⟩ := Int.eq_ofNat_of_zero_le h0
  have e : (BitVec.ofInt 64 (k : Int)).toNat = k := by rw [BitVec.ofInt_natCast, BitVec.toNat_ofNat]; omega
  have hle : (BitVec.ofInt 64 x &&& BitVec.ofInt 64 (k : Int)).toNat ≤ k := by
    rw [BitVec.toNat_and, e]; exact Nat.and_le_right
  have : bits BinOp.and IntKind.i64 x (k : Int) = IntKind.i64.wrap (((BitVec.ofInt 64 x &&& BitVec.ofInt 64 (k : Int)).toNat : Nat) : Int) := rfl
  rw [this, IntKind.wrap_i64]
  omega
theorem BRow.zlen {k w a len cap zs} (h : BRow k w a len cap zs) : len ≤ zs.length := by
  rcases h with ⟨_, rfl, _, rfl⟩ | ⟨_, _, h1, _, h3, _⟩
  · exact Nat.le_refl _
  · omega
/-- block g is a cursor over the bytes z -/
def Cur (w : World) (B g : Nat) (a : Option Addr) (len cap : Nat) (z : List Int) : Prop :=
  (∃ i : Nat, i ≤ len ∧ w.cell? ⟨g, 1, none⟩ = some (.int .i64 (i : Int))) ∧ (∃ h : Int, w.cell? ⟨g, 2, none⟩ = some (.int .i64 h)) ∧
  w.cell? ⟨g, 0, none⟩ = some (.slice a len cap) ∧ w.frozen? ⟨g, 1, none⟩ = false ∧ w.frozen? ⟨g, 2, none⟩ = false ∧ BRow .u8 w a len cap z ∧ B ≤ g ∧ (∀ x, a = some x → 0 < z.length → x.block < B)
theorem BRow.grown {k w w1 a len cap zs} {row : Option Nat} (h : BRow k w a len cap zs) (hg : w.grownBy w1 row) (hne : ∀ x, a = some x → 0 < zs.length → some x.block ≠ row) : BRow k w1 a len cap zs := by
  rcases h with h | ⟨x, rfl, h1, h2, h3, h4, h5⟩
  · exact .inl h
  · exact .inr ⟨x, rfl, h1, h2, h3, fun i hi => hg.cell (h4 i hi) (by have := hne x rfl (by omega); unfold Addr.add; split <;> simpa using this), h5⟩
theorem grown_trans {w w1 w2 : World} {row : Option Nat} (h1 : w.grownBy w1 row) (h2 : w1.grownBy w2 row) : w.grownBy w2 row :=
  ⟨h2.os.trans h1.os, h2.tape.trans h1.tape, h2.output.trans h1.output, Nat.le_trans h1.size h2.size, fun k hk hne => (h2.block k (Nat.lt_of_lt_of_le hk h1.size) hne).trans (h1.block k hk hne)⟩
theorem grown_set (w : World) (g o : Nat) (v : Value) : w.grownBy (w.setCell ⟨g, o, none⟩ v) (some g) :=
  ⟨rfl, rfl, rfl, by simp [World.setCell], fun k _ hne => Below.heap_setCell w _ v k (fun h => hne (by rw [h]))⟩
theorem grown_drewN' (w : World) (n : Nat) (row : Option Nat) : w.grownBy (w.drewN n) row := ⟨rfl, rfl, rfl, Nat.le_refl _, fun _ _ _ => rfl⟩
theorem grown_of_below {w w1 : World} (h : Below w.heap.size w w1) (row : Option Nat) : w.grownBy w1 row := ⟨h.os, h.tape, h.output, h.size, fun k hk _ => h.block k hk⟩
/-- a call that answers a number below n -/
def RetLt (n : Nat) (e : Ending) : Prop := ∃ x : Nat, x < n ∧ e = .returned (.int .i64 (x : Int))
theorem RetLt.of_and (x : Int) : RetLt 256 (.returned (.int .i64 (bits BinOp.and IntKind.i64 x 255))) := by
  obtain ⟨h1, h2⟩ := and_range x 255 (by omega) (by omega)
  exact ⟨(bits BinOp.and IntKind.i64 x 255).toNat, by omega, rt_int (by omega)⟩
theorem set_other {w : World} {g o o' : Nat} {v : Value} (h : o ≠ o') : (w.setCell ⟨g, o, none⟩ v).cell? ⟨g, o', none⟩ = w.cell? ⟨g, o', none⟩ := by
  apply World.cell?_setCell_other
  intro e; exact h (congrArg Addr.off e)
theorem set_far {w : World} {g o k o' : Nat} {v : Value} (h : k ≠ g) : (w.setCell ⟨k, o, none⟩ v).cell? ⟨g, o', none⟩ = w.cell? ⟨g, o', none⟩ := by
  apply World.cell?_setCell_other
  intro e; exact h (congrArg Addr.block e)
theorem set_same {w : World} {p : Addr} {u v : Value} (h : w.cell? p = some u) : (w.setCell p v).cell? p = some v := by
  apply World.cell?_setCell_same; exact h
theorem cur_h {w : World} {B g : Nat} {a : Option Addr} {len cap : Nat} {z : List Int} {i : Nat} (hi : i ≤ len) (hci : w.cell? ⟨g, 1, none⟩ = some (.int .i64 (i : Int))) {h : Int} (hch : w.cell? ⟨g, 2, none⟩ = some (.int .i64 h))
    (hcb : w.cell? ⟨g, 0, none⟩ = some (.slice a len cap)) (hf1 : w.frozen? ⟨g, 1, none⟩ = false) (hf2 : w.frozen? ⟨g, 2, none⟩ = false) (hrow : BRow .u8 w a len cap z) (hBg : B ≤ g) (hne : ∀ x, a = some x → 0 < z.length → x.block < B) (h' : Int) (n : Nat) :
    Cur ((w.setCell ⟨g, 2, none⟩ (.int .i64 h')).drewN n) B g a len cap z := by
  refine ⟨⟨i, hi, ?_⟩, ⟨h', ?_⟩, ?_, ?_, ?_, ?_, hBg, hne⟩
  · rw [World.cell?_drewN, set_other (by decide)]; exact hci
  · rw [World.cell?_drewN, set_same hch]
  · rw [World.cell?_drewN, set_other (by decide)]; exact hcb
  · exact (World.frozen?_setCell ..).trans hf1
  · exact (World.frozen?_setCell ..).trans hf2
  · exact (hrow.grown (grown_set w g 2 _) (fun x hx hp => by have := hne x hx hp; simp; omega)).grown (grown_drewN' _ n none) (fun _ _ _ => by simp)
theorem cur_i {w : World} {B g : Nat} {a : Option Addr} {len cap : Nat} {z : List Int} (hc : Cur w B g a len cap z) {i : Nat} (hi : i < len) : Cur (w.setCell ⟨g, 1, none⟩ (.int .i64 ((i : Int) + 1))) B g a len cap z := by
  obtain ⟨⟨j, hj, hci⟩, ⟨h, hch⟩, hcb, hf1, hf2, hrow, hBg, hne⟩ := hc
  refine ⟨⟨i + 1, hi, ?_⟩, ⟨h, ?_⟩, ?_, ?_, ?_, ?_, hBg, hne⟩
  · rw [set_same hci]; rfl
  · rw [set_other (by decide)]; exact hch
  · rw [set_other (by decide)]; exact hcb
  · exact (World.frozen?_setCell ..).trans hf1
  · exact (World.frozen?_setCell ..).trans hf2
  · exact hrow.grown (grown_set w g 1 _) (fun x hx hp => by have := hne x hx hp; simp; omega)
theorem cur_drewN {w : World} {B g : Nat} {a : Option Addr} {len cap : Nat} {z : List Int} (hc : Cur w B g a len cap z) (n : Nat) : Cur (w.drewN n) B g a len cap z := by
  obtain ⟨h1, h2, h3, h4, h5, h6, h7, h8⟩ := hc
  exact ⟨h1, h2, h3, h4, h5, h6.grown (grown_drewN' _ n none) (fun _ _ _ => by simp), h7, h8⟩
set_option maxHeartbeats 2000000 in
theorem l01Byte_any (B g : Nat) (a : Option Addr) (len cap : Nat) (z : List Int) (w : World) (hc : Cur w B g a len cap z) :
    Calls Try.prog 58 #[.pointer (some ⟨g, 0, none⟩)] w fun e w' => RetLt 256 e ∧ Cur w' B g a len cap z ∧ w.grownBy w' (some g) := by
  obtain ⟨⟨i, hi, hci⟩, ⟨h, hch⟩, hcb, hf1, hf2, hrow, hBg, hne⟩ := hc
  have hlen := hrow.len_le
  by_cases hlt : i < len
  · obtain ⟨b, off, rfl, hcell, r1, r2⟩ := hrow.at_facts (by omega) i hlt
    have hzl := hrow.zlen
    have hnb : b ≠ g := by have : b < B := hne _ rfl (by omega); omega
    have Hrow := Lib.hid hrow
    have Hne := Lib.hid hne
    clear hrow hne
    generalize z.getD i 0 = v at *
    go_enter Try.func58, Try.ntmps58
    go_wp2
    generalize wrap64 (wrap64 (h * 6364136223846793005) + 1442695040888963407) = h' at *
    go_quiet (fail)
    go_wp2
    go_quiet (fail)
    go_wp2
    go_quiet (fail)
    go_wp2
    go_ret
    refine ⟨RetLt.of_and _, ?_, ?_⟩
    · refine cur_i ?_ hlt
      exact cur_h hi hci hch hcb hf1 hf2 Hrow.out hBg Hne.out _ _
    · exact grown_trans (grown_trans (grown_set w g 2 _) (grown_drewN' _ _ _)) (grown_set _ g 1 _)
  · have hil : i = len := by omega
    subst hil
    have Hrow := Lib.hid hrow
    have Hne := Lib.hid hne
    clear hrow hne hlt
    go_enter Try.func58, Try.ntmps58
    go_wp2
    generalize wrap64 (wrap64 (h * 6364136223846793005) + 1442695040888963407) = h' at *
    go_quiet (fail)
    go_wp2
    go_quiet (fail)
    go_wp2
    go_ret
    exact ⟨RetLt.of_and _, cur_drewN (cur_h hi hci hch hcb hf1 hf2 Hrow.out hBg Hne.out _ _) _, grown_trans (grown_trans (grown_set w g 2 _) (grown_drewN' _ _ _)) (grown_drewN' _ _ _)⟩
set_option maxHeartbeats 400000 in
theorem l01Below_any (B g : Nat) (a : Option Addr) (len cap : Nat) (z : List Int) (n : Int) (h1 : 1 ≤ n) (h2 : n ≤ 256) (w : World) (hc : Cur w B g a len cap z) :
    Calls Try.prog 28 #[.pointer (some ⟨g, 0, none⟩), .int .i64 n] w fun e w' => RetLt n.toNat e ∧ Cur w' B g a len cap z ∧ w.grownBy w' (some g) := by
  have C := Lib.hid (l01Byte_any B g a len cap z w hc)
  clear hc
  go_enter Try.func28, Try.ntmps28
  go_wp2_with fail
  refine C.out.mono ?_
  rintro e w1 ⟨⟨x, hx, rfl⟩, hc1, hg1⟩
  have Hc := Lib.hid hc1
  have Hg := Lib.hid hg1
  clear hc1 hg1
  go_wp2
  go_ret
  refine ⟨⟨((x : Int) % n).toNat, ?_, rt_int ?_⟩, Hc.out, Hg.out⟩
  · have := Int.emod_lt_of_pos (x : Int) (show 0 < n by omega); omega
  · have := Int.emod_nonneg (x : Int) (show n ≠ 0 by omega); omega
def RetBool (e : Ending) : Prop := ∃ b : Bool, e = .returned (.bool b)
set_option maxHeartbeats 400000 in
theorem l01Once_any (B g : Nat) (a : Option Addr) (len cap : Nat) (z : List Int) (n : Int) (h1 : 1 ≤ n) (h2 : n ≤ 256) (w : World) (hc : Cur w B g a len cap z) :
    Calls Try.prog 53 #[.pointer (some ⟨g, 0, none⟩), .int .i64 n] w fun e w' => RetBool e ∧ Cur w' B g a len cap z ∧ w.grownBy w' (some g) := by
  have C := Lib.hid (l01Below_any B g a len cap z n h1 h2 w hc)
  clear hc
  go_enter Try.func53, Try.ntmps53
  go_wp2_with fail
  refine C.out.mono ?_
  rintro e w1 ⟨⟨x, hx, rfl⟩, hc1, hg1⟩
  have Hc := Lib.hid hc1
  have Hg := Lib.hid hg1
  clear hc1 hg1
  go_wp2
  go_ret
  exact ⟨⟨_, rfl⟩, Hc.out, Hg.out⟩
theorem BRow.below {k w w1 a len cap zs} (h : BRow k w a len cap zs) (hb : Below w.heap.size w w1) : BRow k w1 a len cap zs := h.grown (grown_of_below hb none) (fun _ _ _ => by simp)
theorem BRow.old {k w a len cap zs} (h : BRow k w a len cap zs) : ∀ x, a = some x → 0 < zs.length → x.block < w.heap.size := by
  rcases h with ⟨rfl, _⟩ | ⟨x, rfl, h1, h2, h3, h4, h5⟩
  · intro x hx; cases hx
  · intro y hy hp
    cases hy
    have := h4 0 hp
    have e : x.add 0 = x := by simp [Addr.add]
    rw [e] at this
    exact World.block_lt_of_cell? _ _ this
theorem new_end {a : Option Addr} {len cap : Nat} {z : List Int} (w : World) (hb : BRow .u8 w a len cap z) (h : Int) :
    ∃ g, Ending.returned (.pointer (some ⟨w.heap.size, 0, none⟩)) = .returned (.pointer (some ⟨g, 0, none⟩)) ∧
      Cur (w.alloc (.cells #[.slice a len cap, .int .i64 0, .int .i64 h] 91)) w.heap.size g a len cap z ∧ Below w.heap.size w (w.alloc (.cells #[.slice a len cap, .int .i64 0, .int .i64 h] 91)) := by
  refine ⟨_, rfl, ⟨⟨0, by omega, ?_⟩, ⟨h, ?_⟩, ?_, ?_, ?_, hb.below (bel_alloc (Below.refl _ _) _), Nat.le_refl _, ?_⟩, bel_alloc (Below.refl _ _) _⟩
  · rw [World.cell?_alloc_at _ _ _ _ rfl]; rfl
  · rw [World.cell?_alloc_at _ _ _ _ rfl]; rfl
  · rw [World.cell?_alloc_at _ _ _ _ rfl]; rfl
  · exact World.frozen?_alloc_at _ _ _ _ rfl
  · exact World.frozen?_alloc_at _ _ _ _ rfl
  · intro x hx hp
    exact hb.old x hx hp
set_option maxHeartbeats 2000000 in
set_option maxRecDepth 100000 in
theorem l01New_any (a : Option Addr) (len cap : Nat) (z : List Int) (w : World) (hlen : len ≤ 1048576) (hb : BRow .u8 w a len cap z) :
    Calls Try.prog 26 #[.slice a len cap] w fun e w' => ∃ g, e = .returned (.pointer (some ⟨g, 0, none⟩)) ∧ Cur w' w.heap.size g a len cap z ∧ Below w.heap.size w w' := by
  go_enter Try.func26, Try.ntmps26
  go_wp2
  go_loop [3, 4] (fun h i => ∃ (k : Nat) (x : Int), k ≤ len ∧ i = .int .i64 (k : Int) ∧ h = .int .i64 x ∧ 0 ≤ x ∧ x ≤ 1073741823) (fun _ i => len - (intOf i).toNat)
  case atStart => exact ⟨0, 33117 + (len : Int), by omega, rfl, rfl, by omega, by omega⟩
  case round =>
    obtain ⟨k, x, hk, rfl, rfl, x0, x1⟩ := hrel
    by_cases hlt : k < len
    · by_cases h4 : k < 4000
      · obtain ⟨b, off, rfl, hcell, r1, r2⟩ := hb.at_facts (by omega) k hlt
        have Hb := Lib.hid hb
        clear hb
        generalize z.getD k 0 = v at *
        go_wp2
        have hr := and_range (x * 131 + v + 7) 1073741823 (by omega) (by omega)
        go_round
        case rel => exact ⟨k + 1, _, by omega, by go_num, rfl, hr.1, hr.2⟩
        case measure => simp [intOf]; omega
      · have hT : decide ((k : Int) < 4000) = false := by simp; omega
        have Hb := Lib.hid hb
        clear hb
        go_wp2
        go_ret
        exact new_end w Hb.out _
    · have hT : decide ((k : Int) < (len : Int)) = false := by simp; omega
      have Hb := Lib.hid hb
      clear hb
      go_wp2
      go_ret
      exact new_end w Hb.out _
theorem Cur.lt {w : World} {B g : Nat} {a : Option Addr} {len cap : Nat} {z : List Int} (h : Cur w B g a len cap z) : g < w.heap.size := World.block_lt_of_cell? _ _ h.2.2.1
theorem Cur.base {w : World} {B g : Nat} {a : Option Addr} {len cap : Nat} {z : List Int} (h : Cur w B g a len cap z) : B ≤ g := h.2.2.2.2.2.2.1
theorem Cur.grown {w w1 : World} {B g : Nat} {a : Option Addr} {len cap : Nat} {z : List Int} {row : Option Nat} (h : Cur w B g a len cap z) (hg : w.grownBy w1 row) (h1 : some g ≠ row) (h2 : ∀ k, row = some k → B ≤ k) : Cur w1 B g a len cap z := by
  have hlt := h.lt
  have hb := hg.block g hlt h1
  have hc : ∀ o, w1.cell? ⟨g, o, none⟩ = w.cell? ⟨g, o, none⟩ := fun o => World.cell?_of_block (a := ⟨g, o, none⟩) hb
  have hf : ∀ o, w1.frozen? ⟨g, o, none⟩ = w.frozen? ⟨g, o, none⟩ := fun o => World.frozen?_of_block (a := ⟨g, o, none⟩) hb
  obtain ⟨⟨i, hi, c1⟩, ⟨x, c2⟩, c0, f1, f2, hr, hB, hn⟩ := h
  refine ⟨⟨i, hi, (hc 1).trans c1⟩, ⟨x, (hc 2).trans c2⟩, (hc 0).trans c0, (hf 1).trans f1, (hf 2).trans f2, hr.grown hg (fun x hx hp => ?_), hB, hn⟩
  cases row with
  | none => simp
  | some k => have := h2 k rfl; have := hn x hx hp; simp; omega
theorem Cur.alloc {w : World} {B g : Nat} {a : Option Addr} {len cap : Nat} {z : List Int} (h : Cur w B g a len cap z) (o : Obj) : Cur (w.alloc o) B g a len cap z :=
  h.grown (World.grownBy_alloc w o none) (by simp) (by simp)
theorem Cur.below {w w1 : World} {B g : Nat} {a : Option Addr} {len cap : Nat} {z : List Int} (h : Cur w B g a len cap z) (hb : Below w.heap.size w w1) : Cur w1 B g a len cap z :=
  h.grown (grown_of_below hb none) (by simp) (by simp)
theorem Cur.set {w : World} {B g : Nat} {a : Option Addr} {len cap : Nat} {z : List Int} (h : Cur w B g a len cap z) {k o : Nat} (hk : k ≠ g) (hB : B ≤ k) (v : Value) : Cur (w.setCell ⟨k, o, none⟩ v) B g a len cap z :=
  h.grown (grown_set w k o v) (by simpa using fun e : g = k => hk e.symm) (by intro j hj; cases hj; exact hB)
theorem grown_new {w w1 : World} {row : Option Nat} (h : w.grownBy w1 row) {k o : Nat} (hk : w.heap.size ≤ k) (v : Value) : w.grownBy (w1.setCell ⟨k, o, none⟩ v) row :=
  ⟨h.os, h.tape, h.output, by have := h.size; simpa [World.setCell] using this, fun j hj hne => (Below.heap_setCell w1 _ v j (by simp; omega)).trans (h.block j hj hne)⟩
theorem grown_alloc {w w1 : World} {row : Option Nat} (h : w.grownBy w1 row) (o : Obj) : w.grownBy (w1.alloc o) row := grown_trans h (World.grownBy_alloc w1 o row)
/-- behind a call that turned block g alone -/
theorem gcell {w w1 : World} {g : Nat} (hg : w.grownBy w1 (some g)) : (∀ b o, b < w.heap.size → b ≠ g → w1.cell? ⟨b, o, none⟩ = w.cell? ⟨b, o, none⟩) ∧ (∀ b o, b < w.heap.size → b ≠ g → w1.frozen? ⟨b, o, none⟩ = w.frozen? ⟨b, o, none⟩) ∧ w.heap.size ≤ w1.heap.size :=
  ⟨fun b o h hne => World.cell?_of_block (a := ⟨b, o, none⟩) (hg.block b h (by simpa using hne)), fun b o h hne => World.frozen?_of_block (a := ⟨b, o, none⟩) (hg.block b h (by simpa using hne)), hg.size⟩
end Go.Proofs.Yteccnnpcigkmhaa
