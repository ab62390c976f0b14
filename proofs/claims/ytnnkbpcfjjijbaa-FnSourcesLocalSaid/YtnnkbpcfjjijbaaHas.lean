/- The laws' own helpers: has, get, btoi: the walks. -/
import Derived.Test.YtnnkbpcfjjijbaaMem
set_option linter.unusedVariables false
set_option linter.unusedSimpArgs false
namespace Go.Proofs.Ytnnkbpcfjjijbaa
open Go.RowKit
def hasB (xs : List Int) (x : Int) : Bool := xs.contains x
def hasN (xs : List Int) (x : Int) (k : Nat) : Bool := (xs.take k).contains x
theorem hasN_succ (xs : List Int) (x : Int) (k : Nat) (hk : k < xs.length) : hasN xs x (k + 1) = (hasN xs x k || (xs.getD k 0 == x)) := by
  unfold hasN
  rw [List.take_succ_eq_append_getElem hk, List.contains_eq_any_beq, List.contains_eq_any_beq, List.any_append]
  simp only [List.any_cons, List.any_nil, Bool.or_false, List.getD_eq_getElem?_getD, List.getElem?_eq_getElem hk, Option.getD_some]
  congr 1
  rw [Bool.eq_iff_iff, beq_iff_eq, beq_iff_eq]; exact eq_comm
set_option maxHeartbeats 1000000 in
theorem has_any (a : Option Addr) (n cap : Nat) (xs : List Int) (x : Int) (w : World) (hI : IntS w a n cap xs) :
    Calls Try.prog 21 #[.slice a n cap, .int .i64 x] w fun e w' => e = .returned (.bool (hasB xs x)) ∧ w = w' := by
  have hlen := hI.len
  have hsm := hI.small
  go_enter Try.func21, Try.ntmps21
  go_wp2
  go_loop [5] (fun i => ∃ k : Nat, k ≤ n ∧ i = .int .i64 (k : Int) ∧ hasN xs x k = false) (fun i => n - (intOf i).toNat)
  case atStart => exact ⟨0, by omega, rfl, by simp [hasN]⟩
  case round =>
    obtain ⟨k, hk, rfl, hno⟩ := hrel
    have Hno := Lib.hid hno
    have Hlen := Lib.hid hlen
    clear hno hlen
    by_cases hlt : k < n
    · obtain ⟨b, off, y, rfl, hb, hcell, hy, l1, l2⟩ := hI.cell hlt
      have hsu := hasN_succ xs x k (by have := Hlen.out; omega)
      rw [Hno.out, hy, Bool.false_or] at hsu
      have Hsu := Lib.hid hsu
      have Hin : Hid (hasN xs x (k + 1) = true → hasB xs x = true) := fun h => by
        unfold hasN at h
        unfold hasB
        rw [List.contains_iff_mem] at h ⊢
        exact List.mem_of_mem_take h
      clear hsu hy hI
      rcases Bool.eq_false_or_eq_true (y == x) with hT | hT
      · have hfin := Lib.hid (Hin.out (by rw [Hsu.out, hT]))
        go_wp2
        go_ret
        exact ⟨rt_bool hfin.out.symm, rfl⟩
      · have hnx := Lib.hid (Hsu.out.trans hT)
        go_wp2
        go_round
        case rel => exact ⟨k + 1, by omega, by go_num, hnx.out⟩
        case measure => simp [intOf]; omega
    · have hkn : k = n := by omega
      subst hkn
      have hfin : Hid (hasB xs x = false) := by have := Hno.out; unfold hasN at this; unfold hasB; rwa [Hlen.out, List.take_length] at this
      clear hI
      go_wp2
      go_ret
      exact ⟨rt_bool hfin.out.symm, rfl⟩
def getI (xs : List Int) (i : Int) : Int := if 0 ≤ i ∧ i < xs.length then xs.getD i.toNat 0 else -99
set_option maxHeartbeats 1000000 in
theorem get_in (a : Option Addr) (n cap : Nat) (xs : List Int) (i : Nat) (w : World) (hI : IntS w a n cap xs) (hi : i < n) :
    Calls Try.prog 36 #[.slice a n cap, .int .i64 (i : Int)] w fun e w' => e = .returned (.int .i64 (xs.getD i 0)) ∧ w = w' := by
  have hsm := hI.small
  obtain ⟨b, off, y, rfl, hb, hcell, hy, l1, l2⟩ := hI.cell hi
  have Hy := Lib.hid hy
  clear hy hI
  go_enter Try.func36, Try.ntmps36
  go_wp2
  go_ret
  exact ⟨rt_int Hy.out.symm, rfl⟩
theorem get_int (a : Option Addr) (n cap : Nat) (xs : List Int) (i : Int) (w : World) (hI : IntS w a n cap xs) (h0 : 0 ≤ i) (hi : i.toNat < n) :
    Calls Try.prog 36 #[.slice a n cap, .int .i64 i] w fun e w' => e = .returned (.int .i64 (xs.getD i.toNat 0)) ∧ w = w' := by
  obtain ⟨k, rfl⟩ := Int.eq_ofNat_of_zero_le h0
  exact get_in a n cap xs k w hI hi
end Go.Proofs.Ytnnkbpcfjjijbaa
