/- The laws' own helpers: has, get, btoi: the walks. -/
import Derived.Test.YteccnnpcigkmhaaMem
set_option linter.unusedVariables false
set_option linter.unusedSimpArgs false
namespace Go.Proofs.Yteccnnpcigkmhaa
open Go.RowKit
def hasB (xs : List Int) (x : Int) : Bool := xs.contains x
def hasN (xs : List Int) (x : Int) (k : Nat) : Bool := (xs.take k).contains x
theorem hasN_succ (xs : List Int) (x : Int) (k : Nat) (hk : k < xs.length) : hasN xs x (k + 1) = (hasN xs x k || (xs.getD k 0 == x)) := by
  unfold hasN
  rw [List.take_succ_eq_append_getElem hk, List.contains_eq_any_beq, List.contains_eq_any_beq, List.any_append]
  simp only [List.any_cons, List.any_nil, Bool.or_false, List.getD_eq_getElem?_getD, List.getElem?_eq_getElem hk, Option.getD_some]
  congr 1
  rw [Bool.eq_iff_iff, beq_iff_eq, beq_iff_eq]; exact eq_comm
def getI (xs : List Int) (i : Int) : Int := if 0 ≤ i ∧ i < xs.length then xs.getD i.toNat 0 else -99
set_option maxHeartbeats 1000000 in
theorem get_in (a : Option Addr) (n cap : Nat) (xs : List Int) (i : Nat) (w : World) (hI : IntS w a n cap xs) (hi : i < n) :
    Calls Try.prog 18 #[.slice a n cap, .int .i64 (i : Int)] w fun e w' => e = .returned (.int .i64 (xs.getD i 0)) ∧ w = w' := by
  have hsm := hI.small
  obtain ⟨b, off, y, rfl, hb, hcell, hy, l1, l2⟩ := hI.cell hi
  have Hy := Lib.hid hy
  clear hy hI
  go_enter Try.func18, Try.ntmps18
  go_wp2
  go_ret
  exact ⟨rt_int Hy.out.symm, rfl⟩
theorem get_int (a : Option Addr) (n cap : Nat) (xs : List Int) (i : Int) (w : World) (hI : IntS w a n cap xs) (h0 : 0 ≤ i) (hi : i.toNat < n) :
    Calls Try.prog 18 #[.slice a n cap, .int .i64 i] w fun e w' => e = .returned (.int .i64 (xs.getD i.toNat 0)) ∧ w = w' := by
  obtain ⟨k, rfl⟩ := Int.eq_ofNat_of_zero_le h0
  exact get_in a n cap xs k w hI hi
end Go.Proofs.Yteccnnpcigkmhaa
