/- The tile's bits: read by the program and by the reference. -/
import Derived.Test.YtnnkbpcfjjijbaaEx8
import Derived.Test.YtnnkbpcfjjijbaaLog9
import Derived.Test.YtnnkbpcfjjijbaaBit
set_option linter.unusedVariables false
set_option linter.unusedSimpArgs false
namespace Go.Proofs.Ytnnkbpcfjjijbaa
open Go.RowKit

theorem and1 {x : Int} (k : Nat) (h : 0 ≤ x ∧ x ≤ 65535) : bits .and .i64 (x / 2 ^ k) 1 = x / 2 ^ k % 2 := by
  have h1 : (0 : Int) ≤ x / 2 ^ k := Int.ediv_nonneg h.1 (Int.le_of_lt (Int.pow_pos (by decide)))
  have h2 : x / 2 ^ k ≤ x := Int.ediv_le_self _ h.1
  exact Bit.and_one _ h1 (by omega)
theorem pow_rng (j : Nat) (hj : j ≤ 20) : 1 ≤ (2 : Int) ^ j ∧ (2 : Int) ^ j ≤ 1048576 := by
  have h1 : (2 : Nat) ^ j ≤ 2 ^ 20 := Nat.pow_le_pow_right (by decide) hj
  have h2 : 1 ≤ (2 : Nat) ^ j := Nat.one_le_two_pow
  have h3 : ((2 ^ j : Nat) : Int) = (2 : Int) ^ j := by simp
  rw [← h3]; omega
theorem shl1 {b n : Int} (h : 0 ≤ b ∧ b ≤ 1) (hn : 0 ≤ n ∧ n ≤ 20) : -9223372036854775808 ≤ b * 2 ^ n.toNat ∧ b * 2 ^ n.toNat ≤ 9223372036854775807 := by
  have := pow_rng n.toNat (by omega)
  obtain e | e : b = 0 ∨ b = 1 := by omega
  all_goals rw [e]
  all_goals omega
theorem or1 {x b n : Int} (hx : 0 ≤ x ∧ x < 2 ^ n.toNat) (h : 0 ≤ b ∧ b ≤ 1) (hn : 0 ≤ n ∧ n ≤ 20) : bits .or .i64 x (b * 2 ^ n.toNat) = x + b * 2 ^ n.toNat := by
  have hp := pow_rng n.toNat (by omega)
  have hb : 0 ≤ b * 2 ^ n.toNat ∧ b * 2 ^ n.toNat ≤ 1048576 := by
    obtain e | e : b = 0 ∨ b = 1 := by omega
    all_goals rw [e]
    all_goals omega
  rw [Bit.or_int _ _ (by omega) (by omega) (by omega) (by omega)]
  obtain ⟨x, rfl⟩ := Int.eq_ofNat_of_zero_le hx.1
  obtain ⟨b, rfl⟩ := Int.eq_ofNat_of_zero_le h.1
  have e : ((b : Int) * 2 ^ n.toNat) = ((2 ^ n.toNat * b : Nat) : Int) := by simp [Int.mul_comm]
  have hxl : x < 2 ^ n.toNat := by have := hx.2; exact_mod_cast this
  rw [e, Int.toNat_natCast, Int.toNat_natCast, Nat.or_comm, ← Nat.two_pow_add_eq_or_of_lt hxl b]
  omega
def bitAt (xs : List Int) (p : Int) : Int := xs.getD (p / 16).toNat 0 / 2 ^ (p % 16).toNat % 2
theorem bitAt_rng (xs : List Int) (p : Int) : 0 ≤ bitAt xs p ∧ bitAt xs p ≤ 1 := by unfold bitAt; omega
def getN (xs : List Int) (p : Int) : Nat → Int
  | 0 => 0
  | j + 1 => getN xs p j + bitAt xs (p + j) * 2 ^ j
theorem getN_rng (xs : List Int) (p : Int) : ∀ j, j ≤ 20 → 0 ≤ getN xs p j ∧ getN xs p j < 2 ^ j
  | 0, _ => by simp [getN]
  | j + 1, h => by
    have h1 := getN_rng xs p j (by omega)
    have h2 := bitAt_rng xs (p + j)
    have h3 := pow_rng j (by omega)
    have e : (2 : Int) ^ (j + 1) = 2 * 2 ^ j := by rw [Int.pow_succ, Int.mul_comm]
    rw [getN, e]
    obtain e2 | e2 : bitAt xs (p + j) = 0 ∨ bitAt xs (p + j) = 1 := by omega
    all_goals rw [e2]
    all_goals omega
def Words (xs : List Int) : Prop := ∀ i, i < xs.length → 0 ≤ xs.getD i 0 ∧ xs.getD i 0 ≤ 65535
abbrev rdrE (b : Nat) (v : Value) (at_ : Int) : HP := boxE b #[v, .int .i64 at_] 129
set_option maxHeartbeats 4000000 in
set_option maxRecDepth 100000 in
theorem bitGet_mut (xs : List Int) (wv : Value) (b : Nat) (p n : Int) (w0 : World) (l : List HP) (w : World) (hm0 : Mem w0 (boxE b #[wv, .int .i64 p] 129 :: l) w) (hv : Rd w0 l wv 1 xs.length (xs.map (Value.int .i64))) (hxs : Words xs) (hp : 0 ≤ p ∧ p + n ≤ 16 * xs.length) (hn : 0 ≤ n ∧ n ≤ 16) (hlen : xs.length ≤ 1000000) :
    Calls Try.prog 133 #[.pointer (some ⟨b, 0, none⟩), .int .i64 n] w (fun e_ w_ => ∃ v_ p_, e_ = .returned v_ ∧ (fun u_ p_ => u_ = .int .i64 (getN xs p n.toNat) ∧ p_ = rdrE b wv (p + n)) v_ p_ ∧ Mem w0 (p_ :: l) w_) := by
  refine calls_hcM (N := 44) (args := [.pointer (some ⟨b, 0, none⟩), .int .i64 n]) Try.func133 rfl rfl hm0 ?_
  refine hc_less _ (sub_cons (d := 0) rfl (sub_cons (d := 1) rfl (sub_nil _))) (.refl _) ?_
  refine hc_seq ?_
  refine hc_region ?_
  refine hl_v rfl rfl rfl (rv_ev rfl) ?_
  refine hl_less (sub_cons (d := 0) rfl (sub_cons (d := 1) rfl (sub_cons (d := 4) rfl (sub_nil _)))) (.refl _) ?_
  refine hl_nil ?_
  refine hq_then ?_
  refine hc_seq ?_
  refine hc_region ?_
  refine hl_v rfl rfl rfl (rv_ev rfl) ?_
  refine hl_less (sub_cons (d := 0) rfl (sub_cons (d := 1) rfl (sub_cons (d := 4) rfl (sub_cons (d := 5) rfl (sub_nil _))))) (.refl _) ?_
  refine hl_nil ?_
  refine hq_then ?_
  refine hc_seq ?_
  refine hc_seq ?_
  refine hc_region ?_
  refine hl_v rfl rfl rfl (rv_ev rfl) ?_
  refine hl_less (sub_cons (d := 0) rfl (sub_cons (d := 1) rfl (sub_cons (d := 4) rfl (sub_cons (d := 5) rfl (sub_cons (d := 6) rfl (sub_nil _)))))) (.refl _) ?_
  refine hl_nil ?_
  refine hq_then ?_
  refine hc_block ?_
  refine hc_loop3 (α := Nat) (β := Int) (γ := Int) (fun j q o => (boxE b #[wv, .int .i64 q] 129 :: l)) (fun j q o => [(0, .pointer (some ⟨b, 0, none⟩)), (1, .int .i64 n), (4, .int .i64 0), (5, .int .i64 o), (6, .int .i64 (j : Int))]) (fun j q o => (j : Int) ≤ n ∧ q = p + j ∧ o = getN xs p j) (fun j q o => n.toNat - j) 0 p 0 ⟨by omega, by omega, rfl⟩ (sub_cons (d := 0) rfl (sub_cons (d := 1) rfl (sub_cons (d := 4) rfl (sub_cons (d := 5) rfl (sub_cons (d := 6) rfl (sub_nil _)))))) ((.cons_cons _ (.refl _))) ?_
  intro j q o hi1
  obtain ⟨hj, hq, ho⟩ := hi1
  refine hc_seq ?_
  refine hc_seq ?_
  refine hc_region ?_
  refine hl_v rfl rfl rfl (rv_ev rfl) ?_
  refine hl_v rfl rfl rfl (rv_ev rfl) ?_
  refine hl_lss rfl rfl rfl rfl rfl rfl (fun h2 => ?_) (fun h2 => ?_)
  ·
    refine hl_less (sub_cons (d := 0) rfl (sub_cons (d := 1) rfl (sub_cons (d := 4) rfl (sub_cons (d := 5) rfl (sub_cons (d := 6) rfl (sub_cons (d := 9) rfl (sub_nil _))))))) (.refl _) ?_
    refine hl_nil ?_
    refine hq_then ?_
    refine hc_true rfl ?_
    refine hc_skip ?_
    refine hq_then ?_
    refine hc_seq ?_
    refine hc_block ?_
    refine hc_seq ?_
    have hX := hxs (q / 16).toNat (by omega)
    have hor := getN_rng xs p j (by omega)
    rw [← ho] at hor
    have hjn : ((j : Int)).toNat = j := rfl
    refine hc_draw (by kernel_rfl) 24 [0, 1, 2, 3, 4, 5, 6, 7, 8, 9, 10, 11, 12, 13, 14, 15, 16, 17, 18, 19, 20, 21, 22, 23] (List.take 24 _) (List.drop 24 _) [[], [], [1], [2], [3], [], [5], [6], [7], [8], [4, 9], [10], [], [12], [13], [14], [15], [16], [11, 17], [18], [], [20], [19, 21], [0, 22]] [12, 13, 14, 15, 16, 17, 18, 19, 20, 21, 22, 23, 24, 25, 26, 27, 28, 29, 30, 31, 32, 33, 34, 35] (fun i vs_ v_ p_ => match i with | 0 => v_ = .int .i64 o ∧ p_ = [] | 1 => v_ = .pointer (some ⟨b, 0, none⟩) ∧ p_ = [] | 2 => v_ = .pointer (some ⟨b, 0, none⟩) ∧ p_ = [] | 3 => v_ = .pointer (some ⟨b, 0 + 0, none⟩) ∧ p_ = [] | 4 => v_ = wv ∧ p_ = [] | 5 => v_ = .pointer (some ⟨b, 0, none⟩) ∧ p_ = [] | 6 => v_ = .pointer (some ⟨b, 0, none⟩) ∧ p_ = [] | 7 => v_ = .pointer (some ⟨b, 0 + 1, none⟩) ∧ p_ = [] | 8 => v_ = .int .i64 q ∧ p_ = [] | 9 => v_ = .int .i64 (q / 16) ∧ p_ = [] | 10 => v_ = elP wv ((q / 16).toNat * 1) ∧ p_ = [] | 11 => v_ = .int .i64 (xs.getD ((q / 16).toNat) 0) ∧ p_ = [] | 12 => v_ = .pointer (some ⟨b, 0, none⟩) ∧ p_ = [] | 13 => v_ = .pointer (some ⟨b, 0, none⟩) ∧ p_ = [] | 14 => v_ = .pointer (some ⟨b, 0 + 1, none⟩) ∧ p_ = [] | 15 => v_ = .int .i64 q ∧ p_ = [] | 16 => v_ = .int .i64 (q % 16) ∧ p_ = [] | 17 => v_ = .int .u64 (q % 16) ∧ p_ = [] | 18 => v_ = .int .i64 ((xs.getD ((q / 16).toNat) 0) / 2 ^ (q % 16).toNat) ∧ p_ = [] | 19 => v_ = .int .i64 (((xs.getD ((q / 16).toNat) 0) / 2 ^ (q % 16).toNat) % 2) ∧ p_ = [] | 20 => v_ = .int .i64 (j : Int) ∧ p_ = [] | 21 => v_ = .int .u64 (j : Int) ∧ p_ = [] | 22 => v_ = .int .i64 ((((xs.getD ((q / 16).toNat) 0) / 2 ^ (q % 16).toNat) % 2) * 2 ^ ((j : Int)).toNat) ∧ p_ = [] | 23 => v_ = .int .i64 (o + ((((xs.getD ((q / 16).toNat) 0) / 2 ^ (q % 16).toNat) % 2) * 2 ^ ((j : Int)).toNat)) ∧ p_ = [] | _ => True) (List.take_append_drop 24 _).symm (by kernel_rfl) (by kernel_rfl) rfl rfl ?_ ?_
    ·
      refine ⟨?_, ?_, ?_, ?_, ?_, ?_, ?_, ?_, ?_, ?_, ?_, ?_, ?_, ?_, ?_, ?_, ?_, ?_, ?_, ?_, ?_, ?_, ?_, ?_, trivial⟩
      ·
        intro vf pf hR
        refine Or.inl ⟨rfl, ?_⟩
        refine rq_less (l' := (boxE b #[wv, .int .i64 q] 129 :: l)) (sub_cons (d := 5) rfl (sub_nil _)) (List.sublist_append_right _ _) ?_
        exact rq_v (rv_ev rfl)
      ·
        intro vf pf hR
        refine Or.inl ⟨rfl, ?_⟩
        refine rq_less (l' := (boxE b #[wv, .int .i64 q] 129 :: l)) (sub_cons (d := 0) rfl (sub_nil _)) (List.sublist_append_right _ _) ?_
        exact rq_v (rv_ev rfl)
      ·
        intro vf pf hR
        have e1 : (vf 1) = .pointer (some ⟨b, 0, none⟩) ∧ (pf 1) = [] := hR 1 (by decide)
        refine Or.inl ⟨rfl, ?_⟩
        refine rq_less (l' := (boxE b #[wv, .int .i64 q] 129 :: l)) (sub_cons (d := 13) (congrArg some e1.1) (sub_nil _)) (List.sublist_append_right _ _) ?_
        exact rq_v (rv_nilCheck rfl rfl)
      ·
        intro vf pf hR
        have e2 : (vf 2) = .pointer (some ⟨b, 0, none⟩) ∧ (pf 2) = [] := hR 2 (by decide)
        refine Or.inl ⟨rfl, ?_⟩
        refine rq_less (l' := (boxE b #[wv, .int .i64 q] 129 :: l)) (sub_cons (d := 14) (congrArg some e2.1) (sub_nil _)) (List.sublist_append_right _ _) ?_
        exact rq_v (rv_field (k0 := 0) rfl (by kernel_rfl) rfl)
      ·
        intro vf pf hR
        have e3 : (vf 3) = .pointer (some ⟨b, 0 + 0, none⟩) ∧ (pf 3) = [] := hR 3 (by decide)
        refine Or.inl ⟨rfl, ?_⟩
        refine rq_less (l' := (boxE b #[wv, .int .i64 q] 129 :: l)) (sub_cons (d := 15) (congrArg some e3.1) (sub_nil _)) (List.sublist_append_right _ _) ?_
        exact rq_v (rv_load rfl (by kernel_rfl) rfl (box_cell 0 rfl rfl))
      ·
        intro vf pf hR
        refine Or.inl ⟨rfl, ?_⟩
        refine rq_less (l' := (boxE b #[wv, .int .i64 q] 129 :: l)) (sub_cons (d := 0) rfl (sub_nil _)) (List.sublist_append_right _ _) ?_
        exact rq_v (rv_ev rfl)
      ·
        intro vf pf hR
        have e5 : (vf 5) = .pointer (some ⟨b, 0, none⟩) ∧ (pf 5) = [] := hR 5 (by decide)
        refine Or.inl ⟨rfl, ?_⟩
        refine rq_less (l' := (boxE b #[wv, .int .i64 q] 129 :: l)) (sub_cons (d := 17) (congrArg some e5.1) (sub_nil _)) (List.sublist_append_right _ _) ?_
        exact rq_v (rv_nilCheck rfl rfl)
      ·
        intro vf pf hR
        have e6 : (vf 6) = .pointer (some ⟨b, 0, none⟩) ∧ (pf 6) = [] := hR 6 (by decide)
        refine Or.inl ⟨rfl, ?_⟩
        refine rq_less (l' := (boxE b #[wv, .int .i64 q] 129 :: l)) (sub_cons (d := 18) (congrArg some e6.1) (sub_nil _)) (List.sublist_append_right _ _) ?_
        exact rq_v (rv_field (k0 := 1) rfl (by kernel_rfl) rfl)
      ·
        intro vf pf hR
        have e7 : (vf 7) = .pointer (some ⟨b, 0 + 1, none⟩) ∧ (pf 7) = [] := hR 7 (by decide)
        refine Or.inl ⟨rfl, ?_⟩
        refine rq_less (l' := (boxE b #[wv, .int .i64 q] 129 :: l)) (sub_cons (d := 19) (congrArg some e7.1) (sub_nil _)) (List.sublist_append_right _ _) ?_
        exact rq_v (rv_load rfl (by kernel_rfl) rfl (box_cell 0 rfl rfl))
      ·
        intro vf pf hR
        have e8 : (vf 8) = .int .i64 q ∧ (pf 8) = [] := hR 8 (by decide)
        refine Or.inl ⟨rfl, ?_⟩
        refine rq_less (l' := (boxE b #[wv, .int .i64 q] 129 :: l)) (sub_cons (d := 20) (congrArg some e8.1) (sub_nil _)) (List.sublist_append_right _ _) ?_
        exact rq_v (rv_quo rfl rfl rfl (by refine ⟨?_, ?_, ?_⟩ <;> omega))
      ·
        intro vf pf hR
        have e4 : (vf 4) = wv ∧ (pf 4) = [] := hR 4 (by decide)
        have e9 : (vf 9) = .int .i64 (q / 16) ∧ (pf 9) = [] := hR 9 (by decide)
        refine Or.inl ⟨rfl, ?_⟩
        refine rq_less (l' := (boxE b #[wv, .int .i64 q] 129 :: l)) (sub_cons (d := 16) (congrArg some e4.1) (sub_cons (d := 21) (congrArg some e9.1) (sub_nil _))) (List.sublist_append_right _ _) ?_
        exact rq_v (rv_index (s := 1) rfl Try.underlying30 (by kernel_rfl) rfl rfl (fun w hm => hv w (hm.sub (.cons _ (.refl _)))) (by omega) (by first | omega | (simp only [List.length_set]; omega)))
      ·
        intro vf pf hR
        have e10 : (vf 10) = elP wv ((q / 16).toNat * 1) ∧ (pf 10) = [] := hR 10 (by decide)
        refine Or.inl ⟨rfl, ?_⟩
        refine rq_less (l' := (boxE b #[wv, .int .i64 q] 129 :: l)) (sub_cons (d := 22) (congrArg some e10.1) (sub_nil _)) (List.sublist_append_right _ _) ?_
        exact rq_v (rv_loadEl (u := .int .i64 (xs.getD ((q / 16).toNat) 0)) rfl (by kernel_rfl) rfl (fun w hm => hv w (hm.sub (.cons _ (.refl _)))) (ints_at1 (show _ < xs.length by first | omega | (simp only [List.length_set]; omega))))
      ·
        intro vf pf hR
        refine Or.inl ⟨rfl, ?_⟩
        refine rq_less (l' := (boxE b #[wv, .int .i64 q] 129 :: l)) (sub_cons (d := 0) rfl (sub_nil _)) (List.sublist_append_right _ _) ?_
        exact rq_v (rv_ev rfl)
      ·
        intro vf pf hR
        have e12 : (vf 12) = .pointer (some ⟨b, 0, none⟩) ∧ (pf 12) = [] := hR 12 (by decide)
        refine Or.inl ⟨rfl, ?_⟩
        refine rq_less (l' := (boxE b #[wv, .int .i64 q] 129 :: l)) (sub_cons (d := 24) (congrArg some e12.1) (sub_nil _)) (List.sublist_append_right _ _) ?_
        exact rq_v (rv_nilCheck rfl rfl)
      ·
        intro vf pf hR
        have e13 : (vf 13) = .pointer (some ⟨b, 0, none⟩) ∧ (pf 13) = [] := hR 13 (by decide)
        refine Or.inl ⟨rfl, ?_⟩
        refine rq_less (l' := (boxE b #[wv, .int .i64 q] 129 :: l)) (sub_cons (d := 25) (congrArg some e13.1) (sub_nil _)) (List.sublist_append_right _ _) ?_
        exact rq_v (rv_field (k0 := 1) rfl (by kernel_rfl) rfl)
      ·
        intro vf pf hR
        have e14 : (vf 14) = .pointer (some ⟨b, 0 + 1, none⟩) ∧ (pf 14) = [] := hR 14 (by decide)
        refine Or.inl ⟨rfl, ?_⟩
        refine rq_less (l' := (boxE b #[wv, .int .i64 q] 129 :: l)) (sub_cons (d := 26) (congrArg some e14.1) (sub_nil _)) (List.sublist_append_right _ _) ?_
        exact rq_v (rv_load rfl (by kernel_rfl) rfl (box_cell 0 rfl rfl))
      ·
        intro vf pf hR
        have e15 : (vf 15) = .int .i64 q ∧ (pf 15) = [] := hR 15 (by decide)
        refine Or.inl ⟨rfl, ?_⟩
        refine rq_less (l' := (boxE b #[wv, .int .i64 q] 129 :: l)) (sub_cons (d := 27) (congrArg some e15.1) (sub_nil _)) (List.sublist_append_right _ _) ?_
        exact rq_v (rv_rem rfl rfl rfl (by constructor <;> omega))
      ·
        intro vf pf hR
        have e16 : (vf 16) = .int .i64 (q % 16) ∧ (pf 16) = [] := hR 16 (by decide)
        refine Or.inl ⟨rfl, ?_⟩
        refine rq_less (l' := (boxE b #[wv, .int .i64 q] 129 :: l)) (sub_cons (d := 28) (congrArg some e16.1) (sub_nil _)) (List.sublist_append_right _ _) ?_
        exact rq_v (rv_conv rfl Try.underlying3 Try.underlying130 rfl (IntWalk.u64_in _ (by omega)))
      ·
        intro vf pf hR
        have e11 : (vf 11) = .int .i64 (xs.getD ((q / 16).toNat) 0) ∧ (pf 11) = [] := hR 11 (by decide)
        have e17 : (vf 17) = .int .u64 (q % 16) ∧ (pf 17) = [] := hR 17 (by decide)
        refine Or.inl ⟨rfl, ?_⟩
        refine rq_less (l' := (boxE b #[wv, .int .i64 q] 129 :: l)) (sub_cons (d := 23) (congrArg some e11.1) (sub_cons (d := 29) (congrArg some e17.1) (sub_nil _))) (List.sublist_append_right _ _) ?_
        exact rq_v (rv_shr rfl rfl rfl (by omega))
      ·
        intro vf pf hR
        have e18 : (vf 18) = .int .i64 ((xs.getD ((q / 16).toNat) 0) / 2 ^ (q % 16).toNat) ∧ (pf 18) = [] := hR 18 (by decide)
        refine Or.inl ⟨rfl, ?_⟩
        refine rq_less (l' := (boxE b #[wv, .int .i64 q] 129 :: l)) (sub_cons (d := 30) (congrArg some e18.1) (sub_nil _)) (List.sublist_append_right _ _) ?_
        exact rq_v (rv_bits rfl (by decide) rfl rfl (r := ((xs.getD ((q / 16).toNat) 0) / 2 ^ (q % 16).toNat) % 2) (and1 _ hX))
      ·
        intro vf pf hR
        refine Or.inl ⟨rfl, ?_⟩
        refine rq_less (l' := (boxE b #[wv, .int .i64 q] 129 :: l)) (sub_cons (d := 6) rfl (sub_nil _)) (List.sublist_append_right _ _) ?_
        exact rq_v (rv_ev rfl)
      ·
        intro vf pf hR
        have e20 : (vf 20) = .int .i64 (j : Int) ∧ (pf 20) = [] := hR 20 (by decide)
        refine Or.inl ⟨rfl, ?_⟩
        refine rq_less (l' := (boxE b #[wv, .int .i64 q] 129 :: l)) (sub_cons (d := 32) (congrArg some e20.1) (sub_nil _)) (List.sublist_append_right _ _) ?_
        exact rq_v (rv_conv rfl Try.underlying3 Try.underlying130 rfl (IntWalk.u64_in _ (by omega)))
      ·
        intro vf pf hR
        have e19 : (vf 19) = .int .i64 (((xs.getD ((q / 16).toNat) 0) / 2 ^ (q % 16).toNat) % 2) ∧ (pf 19) = [] := hR 19 (by decide)
        have e21 : (vf 21) = .int .u64 (j : Int) ∧ (pf 21) = [] := hR 21 (by decide)
        refine Or.inl ⟨rfl, ?_⟩
        refine rq_less (l' := (boxE b #[wv, .int .i64 q] 129 :: l)) (sub_cons (d := 31) (congrArg some e19.1) (sub_cons (d := 33) (congrArg some e21.1) (sub_nil _))) (List.sublist_append_right _ _) ?_
        exact rq_v (rv_shl (kk' := .i64) rfl rfl rfl (by omega) (shl1 (by omega) (by omega)))
      ·
        intro vf pf hR
        have e0 : (vf 0) = .int .i64 o ∧ (pf 0) = [] := hR 0 (by decide)
        have e22 : (vf 22) = .int .i64 ((((xs.getD ((q / 16).toNat) 0) / 2 ^ (q % 16).toNat) % 2) * 2 ^ ((j : Int)).toNat) ∧ (pf 22) = [] := hR 22 (by decide)
        refine Or.inl ⟨rfl, ?_⟩
        refine rq_less (l' := (boxE b #[wv, .int .i64 q] 129 :: l)) (sub_cons (d := 12) (congrArg some e0.1) (sub_cons (d := 34) (congrArg some e22.1) (sub_nil _))) (List.sublist_append_right _ _) ?_
        exact rq_v (rv_bits rfl (by decide) rfl rfl (r := o + ((((xs.getD ((q / 16).toNat) 0) / 2 ^ (q % 16).toNat) % 2) * 2 ^ ((j : Int)).toNat)) (or1 (by rw [hjn]; exact hor) (by omega) (by omega)))
    ·
      intro vf pf hR
      have e23 : (vf 23) = .int .i64 (o + ((((xs.getD ((q / 16).toNat) 0) / 2 ^ (q % 16).toNat) % 2) * 2 ^ ((j : Int)).toNat)) ∧ (pf 23) = [] := hR 23 (by decide)
      refine hl_less (l' := (boxE b #[wv, .int .i64 q] 129 :: l)) (sub_cons (d := 0) rfl (sub_cons (d := 1) rfl (sub_cons (d := 4) rfl (sub_cons (d := 5) rfl (sub_cons (d := 6) rfl (sub_cons (d := 9) rfl (sub_cons (d := 35) (congrArg some e23.1) (sub_nil _)))))))) (List.sublist_append_right _ _) ?_
      simp only [List.drop_succ_cons, List.drop_zero]
      refine hl_v rfl rfl rfl (rv_ev rfl) ?_
      refine hl_less (sub_cons (d := 0) rfl (sub_cons (d := 1) rfl (sub_cons (d := 4) rfl (sub_cons (d := 5) rfl (sub_cons (d := 6) rfl (sub_cons (d := 9) rfl (sub_nil _))))))) (.refl _) ?_
      refine hl_nil ?_
      refine hq_then ?_
      refine hc_region ?_
      refine hl_v rfl rfl rfl (rv_ev rfl) ?_
      refine hl_v rfl rfl rfl (rv_nilCheck rfl rfl) ?_
      refine hl_v rfl rfl rfl (rv_field (k0 := 1) rfl (by kernel_rfl) rfl) ?_
      refine hl_v rfl rfl rfl (rv_load rfl (by kernel_rfl) rfl (box_cell 0 rfl rfl)) ?_
      refine hl_v rfl rfl rfl (rv_add rfl rfl rfl (by constructor <;> omega)) ?_
      refine hl_v rfl rfl rfl (rv_nilCheck rfl rfl) ?_
      refine hl_v rfl rfl rfl (rv_field (k0 := 1) rfl (by kernel_rfl) rfl) ?_
      refine hl_storeBox (i := 0) (l' := (boxE b #[wv, .int .i64 (q + 1)] 129 :: l)) rfl rfl rfl (by kernel_rfl) rfl rfl rfl rfl rfl rfl ?_
      refine hl_less (sub_cons (d := 0) rfl (sub_cons (d := 1) rfl (sub_cons (d := 4) rfl (sub_cons (d := 5) rfl (sub_cons (d := 6) rfl (sub_cons (d := 9) rfl (sub_nil _))))))) (.refl _) ?_
      refine hl_nil ?_
      refine hq_block_normal ?_
      refine hq_then ?_
      refine hc_region ?_
      refine hl_v rfl rfl rfl (rv_ev rfl) ?_
      refine hl_v rfl rfl rfl (rv_add rfl rfl rfl (by constructor <;> omega)) ?_
      refine hl_v rfl rfl rfl (rv_ev rfl) ?_
      refine hl_less (sub_cons (d := 0) rfl (sub_cons (d := 1) rfl (sub_cons (d := 4) rfl (sub_cons (d := 5) rfl (sub_cons (d := 6) rfl (sub_cons (d := 9) rfl (sub_nil _))))))) (.refl _) ?_
      refine hl_nil ?_
      exact hq_round3 (j + 1) _ _ ⟨by omega, by omega, by rw [getN, ← ho, ← hq]; rfl⟩ (by omega) (sub_cons (d := 0) rfl (sub_cons (d := 1) rfl (sub_cons (d := 4) rfl (sub_cons (d := 5) rfl (sub_cons (d := 6) rfl (sub_nil _)))))) ((.cons_cons _ (.refl _)))
  ·
    refine hl_less (sub_cons (d := 0) rfl (sub_cons (d := 1) rfl (sub_cons (d := 4) rfl (sub_cons (d := 5) rfl (sub_cons (d := 6) rfl (sub_cons (d := 9) rfl (sub_nil _))))))) (.refl _) ?_
    refine hl_nil ?_
    refine hq_then ?_
    refine hc_false rfl ?_
    refine hc_exit ?_
    refine hq_then_exit ?_
    refine hq_then_exit ?_
    refine hq_block_exit ?_
    refine hq_then ?_
    refine hc_seq ?_
    refine hc_region ?_
    refine hl_v rfl rfl rfl (rv_ev rfl) ?_
    refine hl_v rfl rfl rfl (rv_ev rfl) ?_
    refine hl_less (sub_cons (d := 0) rfl (sub_cons (d := 1) rfl (sub_cons (d := 4) rfl (sub_cons (d := 5) rfl (sub_cons (d := 6) rfl (sub_cons (d := 9) rfl (sub_nil _))))))) (.refl _) ?_
    refine hl_nil ?_
    refine hq_then ?_
    refine hc_ret ?_
    have hjn : j = n.toNat := by omega
    exact hq_retMut (p' := rdrE b wv q) rfl rfl (.refl _) ⟨by rw [ho, hjn], by rw [hq, hjn, show ((n.toNat : Nat) : Int) = n by omega]⟩
end Go.Proofs.Ytnnkbpcfjjijbaa
