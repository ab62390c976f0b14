/- The tile's bits: written by the program. -/
import Derived.Test.YtnnkbpcfjjijbaaEx13
set_option linter.unusedVariables false
set_option linter.unusedSimpArgs false
namespace Go.Proofs.Ytnnkbpcfjjijbaa
open Go.RowKit

def packJ (N : Nat) (bs : List Int) : Nat → List Int
  | 0 => List.replicate N 0
  | j + 1 => (packJ N bs j).set (j / 16) ((packJ N bs j).getD (j / 16) 0 + bs.getD j 0 * 2 ^ (j % 16))
theorem packJ_len (N : Nat) (bs : List Int) : ∀ j, (packJ N bs j).length = N
  | 0 => by simp [packJ]
  | j + 1 => by rw [packJ, List.length_set, packJ_len N bs j]
theorem packJ_congr (N : Nat) (bs cs : List Int) : ∀ j, (∀ i, i < j → bs.getD i 0 = cs.getD i 0) → packJ N bs j = packJ N cs j
  | 0, _ => rfl
  | j + 1, h => by rw [packJ, packJ, packJ_congr N bs cs j (fun i hi => h i (by omega)), h j (by omega)]
def Bits (bs : List Int) : Prop := ∀ i, 0 ≤ bs.getD i 0 ∧ bs.getD i 0 ≤ 1
theorem pow_16 (j : Nat) (h : j ≤ 16) : 1 ≤ (2 : Int) ^ j ∧ (2 : Int) ^ j ≤ 65536 := by
  have h1 : (2 : Nat) ^ j ≤ 2 ^ 16 := Nat.pow_le_pow_right (by decide) h
  have h2 : 1 ≤ (2 : Nat) ^ j := Nat.one_le_two_pow
  have h3 : ((2 ^ j : Nat) : Int) = (2 : Int) ^ j := by simp
  rw [← h3]; omega
/-- what the words hold, so far: the word at work is small, the words behind it are 0 -/
theorem packJ_low (N : Nat) (bs : List Int) (hb : Bits bs) : ∀ j, j ≤ 16 * N → ∀ w, w < N → (w < j / 16 → 0 ≤ (packJ N bs j).getD w 0 ∧ (packJ N bs j).getD w 0 ≤ 65535) ∧ (w = j / 16 → 0 ≤ (packJ N bs j).getD w 0 ∧ (packJ N bs j).getD w 0 < 2 ^ (j % 16)) ∧ (j / 16 < w → (packJ N bs j).getD w 0 = 0)
  | 0, _, w, hw => by
    have : (packJ N bs 0).getD w 0 = 0 := by rw [packJ, List.getD_eq_getElem?_getD, List.getElem?_replicate]; split <;> rfl
    rw [this]
    exact ⟨fun h => by omega, fun h => ⟨by omega, by simp⟩, fun h => rfl⟩
  | j + 1, hj, w, hw => by
    have ih := packJ_low N bs hb j (by omega)
    have hl := packJ_len N bs j
    have hp := pow_16 (j % 16) (by omega)
    have hbj := hb j
    by_cases hwj : w = j / 16
    · have h1 := (ih w hw).2.1 hwj
      have e : (packJ N bs (j + 1)).getD w 0 = (packJ N bs j).getD w 0 + bs.getD j 0 * 2 ^ (j % 16) := by rw [packJ, hwj, getD_set_self' (by omega)]
      rw [e]
      have h2 : 0 ≤ bs.getD j 0 * 2 ^ (j % 16) ∧ bs.getD j 0 * 2 ^ (j % 16) ≤ 2 ^ (j % 16) := by
        rcases (show bs.getD j 0 = 0 ∨ bs.getD j 0 = 1 by omega) with e | e <;> rw [e] <;> omega
      have h3 : (2 : Int) ^ (j % 16 + 1) = 2 * 2 ^ (j % 16) := by rw [Int.pow_succ, Int.mul_comm]
      refine ⟨fun h => ?_, fun h => ?_, fun h => by omega⟩
      · have h5 : j % 16 = 15 := by omega
        rw [h5] at h1 h2 ⊢
        omega
      · have h5 : (j + 1) % 16 = j % 16 + 1 := by omega
        rw [h5, h3]; omega
    · have e : (packJ N bs (j + 1)).getD w 0 = (packJ N bs j).getD w 0 := by rw [packJ, getD_set_ne' (fun h => hwj h.symm)]
      rw [e]
      refine ⟨fun h => (ih w hw).1 (by omega), fun h => ?_, fun h => (ih w hw).2.2 (by omega)⟩
      have h6 := (ih w hw).2.2 (by omega)
      rw [h6]
      have := pow_16 ((j + 1) % 16) (by omega)
      omega
def bitsOf (n : Int) (k : Nat) : List Int := (List.range k).map (fun i => n / 2 ^ i % 2)
theorem bitsOf_len (n : Int) (k : Nat) : (bitsOf n k).length = k := by simp [bitsOf]
theorem bitsOf_at (n : Int) (k i : Nat) (h : i < k) : (bitsOf n k).getD i 0 = n / 2 ^ i % 2 := by
  rw [List.getD_eq_getElem?_getD, List.getElem?_eq_getElem (by rw [bitsOf_len]; exact h)]; simp [bitsOf]
theorem bitsOf_succ (n : Int) (k : Nat) : bitsOf n (k + 1) = bitsOf n k ++ [n / 2 ^ k % 2] := by unfold bitsOf; rw [List.range_succ, List.map_append]; rfl
theorem bits_app {bs cs : List Int} (h1 : Bits bs) (h2 : Bits cs) : Bits (bs ++ cs) := fun i => by
  rw [List.getD_eq_getElem?_getD]
  by_cases h : i < bs.length
  · rw [List.getElem?_append_left h, ← List.getD_eq_getElem?_getD]; exact h1 i
  · rw [List.getElem?_append_right (by omega), ← List.getD_eq_getElem?_getD]; exact h2 _
theorem bitsOf_bits (n : Int) (k : Nat) : Bits (bitsOf n k) := fun i => by
  by_cases h : i < k
  · rw [bitsOf_at n k i h]; omega
  · rw [List.getD_eq_getElem?_getD, List.getElem?_eq_none (by rw [bitsOf_len]; omega)]; decide
theorem pack_step (N : Nat) (bs : List Int) (n : Int) (j : Nat) : packJ N (bs ++ bitsOf n (j + 1)) (bs.length + (j + 1)) = (packJ N (bs ++ bitsOf n j) (bs.length + j)).set ((bs.length + j) / 16) ((packJ N (bs ++ bitsOf n j) (bs.length + j)).getD ((bs.length + j) / 16) 0 + n / 2 ^ j % 2 * 2 ^ ((bs.length + j) % 16)) := by
  have h1 : packJ N (bs ++ bitsOf n (j + 1)) (bs.length + j) = packJ N (bs ++ bitsOf n j) (bs.length + j) := packJ_congr _ _ _ _ (fun i hi => by
    rw [bitsOf_succ, ← List.append_assoc, List.getD_eq_getElem?_getD, List.getElem?_append_left (by rw [List.length_append, bitsOf_len]; exact hi), ← List.getD_eq_getElem?_getD])
  have h2 : (bs ++ bitsOf n (j + 1)).getD (bs.length + j) 0 = n / 2 ^ j % 2 := by
    rw [List.getD_eq_getElem?_getD, List.getElem?_append_right (by omega), Nat.add_sub_cancel_left, ← List.getD_eq_getElem?_getD, bitsOf_at n (j + 1) j (by omega)]
  rw [show bs.length + (j + 1) = (bs.length + j) + 1 by omega, packJ, h1, h2]
abbrev wrE (b : Nat) (wv : Value) (p : Int) (xs : List Int) : HP := bigE [boxE b #[wv, .int .i64 p] 105, rowE 3 1 wv xs.length (xs.map (Value.int .i64))]
set_option maxHeartbeats 4000000 in
set_option maxRecDepth 100000 in
theorem bitPut_mut (N : Nat) (bs xs : List Int) (wv : Value) (b : Nat) (n k : Int) (w0 : World) (l : List HP) (w : World) (hm0 : Mem w0 (wrE b wv (bs.length : Int) xs :: l) w) (hxs : xs = packJ N bs bs.length) (hb : Bits bs) (hn : 0 ≤ n ∧ n ≤ 65535) (hk : 0 ≤ k ∧ k ≤ 16) (hN : (bs.length : Int) + k ≤ 16 * N) (hN2 : N ≤ 1000000) :
    Calls Try.prog 108 #[.pointer (some ⟨b, 0, none⟩), .int .i64 n, .int .i64 k] w (fun e_ w_ => ∃ v_ p_, e_ = .returned v_ ∧ (fun u_ p_ => p_ = wrE b wv ((bs.length : Int) + k) (packJ N (bs ++ bitsOf n k.toNat) (bs.length + k.toNat))) v_ p_ ∧ Mem w0 (p_ :: l) w_) := by
  have hxl : xs.length = N := by rw [hxs, packJ_len]
  refine calls_hcM (N := 44) (args := [.pointer (some ⟨b, 0, none⟩), .int .i64 n, .int .i64 k]) Try.func108 rfl rfl (l := (boxE b #[wv, .int .i64 (bs.length : Int)] 105 :: rowE 3 1 wv xs.length (xs.map (Value.int .i64)) :: l)) hm0.unbig ?_
  refine hc_less _ (sub_cons (d := 0) rfl (sub_cons (d := 1) rfl (sub_cons (d := 2) rfl (sub_nil _)))) (.refl _) ?_
  refine hc_seq ?_
  refine hc_region ?_
  refine hl_v rfl rfl rfl (rv_ev rfl) ?_
  refine hl_less (sub_cons (d := 0) rfl (sub_cons (d := 1) rfl (sub_cons (d := 2) rfl (sub_cons (d := 6) rfl (sub_nil _))))) (.refl _) ?_
  refine hl_nil ?_
  refine hq_then ?_
  refine hc_block ?_
  refine hc_loop3 (α := Nat) (β := Int) (γ := List Int) (fun j q zs => (boxE b #[wv, .int .i64 q] 105 :: rowE 3 1 wv zs.length (zs.map (Value.int .i64)) :: l)) (fun j q zs => [(0, .pointer (some ⟨b, 0, none⟩)), (1, .int .i64 n), (2, .int .i64 k), (6, .int .i64 (j : Int))]) (fun j q zs => (j : Int) ≤ k ∧ q = (bs.length : Int) + j ∧ zs = packJ N (bs ++ bitsOf n j) (bs.length + j)) (fun j q zs => k.toNat - j) 0 _ _ ⟨by omega, by omega, by rw [hxs]; simp [bitsOf]⟩ (sub_cons (d := 0) rfl (sub_cons (d := 1) rfl (sub_cons (d := 2) rfl (sub_cons (d := 6) rfl (sub_nil _))))) ((.cons_cons _ (.cons_cons _ (.refl _)))) ?_
  intro j q zs hi1
  obtain ⟨hj, hq, hz⟩ := hi1
  have hzl : zs.length = N := by rw [hz, packJ_len]
  refine hc_seq ?_
  refine hc_seq ?_
  refine hc_region ?_
  refine hl_v rfl rfl rfl (rv_ev rfl) ?_
  refine hl_v rfl rfl rfl (rv_ev rfl) ?_
  refine hl_lss rfl rfl rfl rfl rfl rfl (fun h2 => ?_) (fun h2 => ?_)
  ·
    refine hl_less (sub_cons (d := 0) rfl (sub_cons (d := 1) rfl (sub_cons (d := 2) rfl (sub_cons (d := 6) rfl (sub_cons (d := 9) rfl (sub_nil _)))))) (.refl _) ?_
    refine hl_nil ?_
    refine hq_then ?_
    refine hc_true rfl ?_
    refine hc_skip ?_
    refine hq_then ?_
    refine hc_seq ?_
    refine hc_block ?_
    refine hc_seq ?_
    have hqn : (q / 16).toNat = (bs.length + j) / 16 := by omega
    have hqm : (q % 16).toNat = (bs.length + j) % 16 := by omega
    have hlow := (packJ_low N (bs ++ bitsOf n j) (bits_app hb (bitsOf_bits n j)) (bs.length + j) (by omega) ((bs.length + j) / 16) (by omega)).2.1 rfl
    rw [← hz, ← hqn, ← hqm] at hlow
    have hjn : ((j : Int)).toNat = j := rfl
    refine hc_draw (by kernel_rfl) 25 [0, 1, 2, 3, 4, 5, 6, 7, 8, 9, 10, 11, 12, 13, 14, 15, 16, 17, 18, 19, 20, 21, 22, 23, 24] (List.take 25 _) (List.drop 25 _) [[], [0], [1], [2], [], [4], [5], [6], [7], [3, 8], [9], [], [], [12], [11, 13], [14], [], [16], [17], [18], [19], [20], [15, 21], [10, 22], [3, 8]] [12, 13, 14, 15, 16, 17, 18, 19, 20, 21, 22, 23, 24, 25, 26, 27, 28, 29, 30, 31, 32, 33, 34, 35, 36] (fun i vs_ v_ p_ => match i with | 0 => v_ = .pointer (some ⟨b, 0, none⟩) ∧ p_ = [] | 1 => v_ = .pointer (some ⟨b, 0, none⟩) ∧ p_ = [] | 2 => v_ = .pointer (some ⟨b, 0 + 0, none⟩) ∧ p_ = [] | 3 => v_ = wv ∧ p_ = [] | 4 => v_ = .pointer (some ⟨b, 0, none⟩) ∧ p_ = [] | 5 => v_ = .pointer (some ⟨b, 0, none⟩) ∧ p_ = [] | 6 => v_ = .pointer (some ⟨b, 0 + 1, none⟩) ∧ p_ = [] | 7 => v_ = .int .i64 q ∧ p_ = [] | 8 => v_ = .int .i64 (q / 16) ∧ p_ = [] | 9 => v_ = elP wv ((q / 16).toNat * 1) ∧ p_ = [] | 10 => v_ = .int .i64 (zs.getD ((q / 16).toNat) 0) ∧ p_ = [] | 11 => v_ = .int .i64 n ∧ p_ = [] | 12 => v_ = .int .i64 (j : Int) ∧ p_ = [] | 13 => v_ = .int .u64 (j : Int) ∧ p_ = [] | 14 => v_ = .int .i64 (n / 2 ^ ((j : Int)).toNat) ∧ p_ = [] | 15 => v_ = .int .i64 ((n / 2 ^ ((j : Int)).toNat) % 2) ∧ p_ = [] | 16 => v_ = .pointer (some ⟨b, 0, none⟩) ∧ p_ = [] | 17 => v_ = .pointer (some ⟨b, 0, none⟩) ∧ p_ = [] | 18 => v_ = .pointer (some ⟨b, 0 + 1, none⟩) ∧ p_ = [] | 19 => v_ = .int .i64 q ∧ p_ = [] | 20 => v_ = .int .i64 (q % 16) ∧ p_ = [] | 21 => v_ = .int .u64 (q % 16) ∧ p_ = [] | 22 => v_ = .int .i64 (((n / 2 ^ ((j : Int)).toNat) % 2) * 2 ^ (q % 16).toNat) ∧ p_ = [] | 23 => v_ = .int .i64 ((zs.getD ((q / 16).toNat) 0) + (((n / 2 ^ ((j : Int)).toNat) % 2) * 2 ^ (q % 16).toNat)) ∧ p_ = [] | 24 => v_ = elP wv ((q / 16).toNat * 1) ∧ p_ = [] | _ => True) (List.take_append_drop 25 _).symm (by kernel_rfl) (by kernel_rfl) rfl rfl ?_ ?_
    ·
      refine ⟨?_, ?_, ?_, ?_, ?_, ?_, ?_, ?_, ?_, ?_, ?_, ?_, ?_, ?_, ?_, ?_, ?_, ?_, ?_, ?_, ?_, ?_, ?_, ?_, ?_, trivial⟩
      ·
        intro vf pf hR
        refine Or.inl ⟨rfl, ?_⟩
        refine rq_less (l' := (boxE b #[wv, .int .i64 q] 105 :: rowE 3 1 wv zs.length (zs.map (Value.int .i64)) :: l)) (sub_cons (d := 0) rfl (sub_nil _)) (List.sublist_append_right _ _) ?_
        exact rq_v (rv_ev rfl)
      ·
        intro vf pf hR
        have e0 : (vf 0) = .pointer (some ⟨b, 0, none⟩) ∧ (pf 0) = [] := hR 0 (by decide)
        refine Or.inl ⟨rfl, ?_⟩
        refine rq_less (l' := (boxE b #[wv, .int .i64 q] 105 :: rowE 3 1 wv zs.length (zs.map (Value.int .i64)) :: l)) (sub_cons (d := 12) (congrArg some e0.1) (sub_nil _)) (List.sublist_append_right _ _) ?_
        exact rq_v (rv_nilCheck rfl rfl)
      ·
        intro vf pf hR
        have e1 : (vf 1) = .pointer (some ⟨b, 0, none⟩) ∧ (pf 1) = [] := hR 1 (by decide)
        refine Or.inl ⟨rfl, ?_⟩
        refine rq_less (l' := (boxE b #[wv, .int .i64 q] 105 :: rowE 3 1 wv zs.length (zs.map (Value.int .i64)) :: l)) (sub_cons (d := 13) (congrArg some e1.1) (sub_nil _)) (List.sublist_append_right _ _) ?_
        exact rq_v (rv_field (k0 := 0) rfl (by kernel_rfl) rfl)
      ·
        intro vf pf hR
        have e2 : (vf 2) = .pointer (some ⟨b, 0 + 0, none⟩) ∧ (pf 2) = [] := hR 2 (by decide)
        refine Or.inl ⟨rfl, ?_⟩
        refine rq_less (l' := (boxE b #[wv, .int .i64 q] 105 :: rowE 3 1 wv zs.length (zs.map (Value.int .i64)) :: l)) (sub_cons (d := 14) (congrArg some e2.1) (sub_nil _)) (List.sublist_append_right _ _) ?_
        exact rq_v (rv_load rfl (by kernel_rfl) rfl (box_cell 0 rfl rfl))
      ·
        intro vf pf hR
        refine Or.inl ⟨rfl, ?_⟩
        refine rq_less (l' := (boxE b #[wv, .int .i64 q] 105 :: rowE 3 1 wv zs.length (zs.map (Value.int .i64)) :: l)) (sub_cons (d := 0) rfl (sub_nil _)) (List.sublist_append_right _ _) ?_
        exact rq_v (rv_ev rfl)
      ·
        intro vf pf hR
        have e4 : (vf 4) = .pointer (some ⟨b, 0, none⟩) ∧ (pf 4) = [] := hR 4 (by decide)
        refine Or.inl ⟨rfl, ?_⟩
        refine rq_less (l' := (boxE b #[wv, .int .i64 q] 105 :: rowE 3 1 wv zs.length (zs.map (Value.int .i64)) :: l)) (sub_cons (d := 16) (congrArg some e4.1) (sub_nil _)) (List.sublist_append_right _ _) ?_
        exact rq_v (rv_nilCheck rfl rfl)
      ·
        intro vf pf hR
        have e5 : (vf 5) = .pointer (some ⟨b, 0, none⟩) ∧ (pf 5) = [] := hR 5 (by decide)
        refine Or.inl ⟨rfl, ?_⟩
        refine rq_less (l' := (boxE b #[wv, .int .i64 q] 105 :: rowE 3 1 wv zs.length (zs.map (Value.int .i64)) :: l)) (sub_cons (d := 17) (congrArg some e5.1) (sub_nil _)) (List.sublist_append_right _ _) ?_
        exact rq_v (rv_field (k0 := 1) rfl (by kernel_rfl) rfl)
      ·
        intro vf pf hR
        have e6 : (vf 6) = .pointer (some ⟨b, 0 + 1, none⟩) ∧ (pf 6) = [] := hR 6 (by decide)
        refine Or.inl ⟨rfl, ?_⟩
        refine rq_less (l' := (boxE b #[wv, .int .i64 q] 105 :: rowE 3 1 wv zs.length (zs.map (Value.int .i64)) :: l)) (sub_cons (d := 18) (congrArg some e6.1) (sub_nil _)) (List.sublist_append_right _ _) ?_
        exact rq_v (rv_load rfl (by kernel_rfl) rfl (box_cell 0 rfl rfl))
      ·
        intro vf pf hR
        have e7 : (vf 7) = .int .i64 q ∧ (pf 7) = [] := hR 7 (by decide)
        refine Or.inl ⟨rfl, ?_⟩
        refine rq_less (l' := (boxE b #[wv, .int .i64 q] 105 :: rowE 3 1 wv zs.length (zs.map (Value.int .i64)) :: l)) (sub_cons (d := 19) (congrArg some e7.1) (sub_nil _)) (List.sublist_append_right _ _) ?_
        exact rq_v (rv_quo rfl rfl rfl (by refine ⟨?_, ?_, ?_⟩ <;> omega))
      ·
        intro vf pf hR
        have e3 : (vf 3) = wv ∧ (pf 3) = [] := hR 3 (by decide)
        have e8 : (vf 8) = .int .i64 (q / 16) ∧ (pf 8) = [] := hR 8 (by decide)
        refine Or.inl ⟨rfl, ?_⟩
        refine rq_less (l' := (boxE b #[wv, .int .i64 q] 105 :: rowE 3 1 wv zs.length (zs.map (Value.int .i64)) :: l)) (sub_cons (d := 15) (congrArg some e3.1) (sub_cons (d := 20) (congrArg some e8.1) (sub_nil _))) (List.sublist_append_right _ _) ?_
        exact rq_v (rv_index (s := 1) rfl Try.underlying30 (by kernel_rfl) rfl rfl (rd_row 1 rfl) (by omega) (by first | omega | (simp only [List.length_set]; omega)))
      ·
        intro vf pf hR
        have e9 : (vf 9) = elP wv ((q / 16).toNat * 1) ∧ (pf 9) = [] := hR 9 (by decide)
        refine Or.inl ⟨rfl, ?_⟩
        refine rq_less (l' := (boxE b #[wv, .int .i64 q] 105 :: rowE 3 1 wv zs.length (zs.map (Value.int .i64)) :: l)) (sub_cons (d := 21) (congrArg some e9.1) (sub_nil _)) (List.sublist_append_right _ _) ?_
        exact rq_v (rv_loadEl (u := .int .i64 (zs.getD ((q / 16).toNat) 0)) rfl (by kernel_rfl) rfl (rd_row 1 rfl) (ints_at1 (show _ < zs.length by first | omega | (simp only [List.length_set]; omega))))
      ·
        intro vf pf hR
        refine Or.inl ⟨rfl, ?_⟩
        refine rq_less (l' := (boxE b #[wv, .int .i64 q] 105 :: rowE 3 1 wv zs.length (zs.map (Value.int .i64)) :: l)) (sub_cons (d := 1) rfl (sub_nil _)) (List.sublist_append_right _ _) ?_
        exact rq_v (rv_ev rfl)
      ·
        intro vf pf hR
        refine Or.inl ⟨rfl, ?_⟩
        refine rq_less (l' := (boxE b #[wv, .int .i64 q] 105 :: rowE 3 1 wv zs.length (zs.map (Value.int .i64)) :: l)) (sub_cons (d := 6) rfl (sub_nil _)) (List.sublist_append_right _ _) ?_
        exact rq_v (rv_ev rfl)
      ·
        intro vf pf hR
        have e12 : (vf 12) = .int .i64 (j : Int) ∧ (pf 12) = [] := hR 12 (by decide)
        refine Or.inl ⟨rfl, ?_⟩
        refine rq_less (l' := (boxE b #[wv, .int .i64 q] 105 :: rowE 3 1 wv zs.length (zs.map (Value.int .i64)) :: l)) (sub_cons (d := 24) (congrArg some e12.1) (sub_nil _)) (List.sublist_append_right _ _) ?_
        exact rq_v (rv_conv rfl Try.underlying3 Try.underlying130 rfl (IntWalk.u64_in _ (by omega)))
      ·
        intro vf pf hR
        have e11 : (vf 11) = .int .i64 n ∧ (pf 11) = [] := hR 11 (by decide)
        have e13 : (vf 13) = .int .u64 (j : Int) ∧ (pf 13) = [] := hR 13 (by decide)
        refine Or.inl ⟨rfl, ?_⟩
        refine rq_less (l' := (boxE b #[wv, .int .i64 q] 105 :: rowE 3 1 wv zs.length (zs.map (Value.int .i64)) :: l)) (sub_cons (d := 23) (congrArg some e11.1) (sub_cons (d := 25) (congrArg some e13.1) (sub_nil _))) (List.sublist_append_right _ _) ?_
        exact rq_v (rv_shr rfl rfl rfl (by omega))
      ·
        intro vf pf hR
        have e14 : (vf 14) = .int .i64 (n / 2 ^ ((j : Int)).toNat) ∧ (pf 14) = [] := hR 14 (by decide)
        refine Or.inl ⟨rfl, ?_⟩
        refine rq_less (l' := (boxE b #[wv, .int .i64 q] 105 :: rowE 3 1 wv zs.length (zs.map (Value.int .i64)) :: l)) (sub_cons (d := 26) (congrArg some e14.1) (sub_nil _)) (List.sublist_append_right _ _) ?_
        exact rq_v (rv_bits rfl (by decide) rfl rfl (r := (n / 2 ^ ((j : Int)).toNat) % 2) (and1 _ hn))
      ·
        intro vf pf hR
        refine Or.inl ⟨rfl, ?_⟩
        refine rq_less (l' := (boxE b #[wv, .int .i64 q] 105 :: rowE 3 1 wv zs.length (zs.map (Value.int .i64)) :: l)) (sub_cons (d := 0) rfl (sub_nil _)) (List.sublist_append_right _ _) ?_
        exact rq_v (rv_ev rfl)
      ·
        intro vf pf hR
        have e16 : (vf 16) = .pointer (some ⟨b, 0, none⟩) ∧ (pf 16) = [] := hR 16 (by decide)
        refine Or.inl ⟨rfl, ?_⟩
        refine rq_less (l' := (boxE b #[wv, .int .i64 q] 105 :: rowE 3 1 wv zs.length (zs.map (Value.int .i64)) :: l)) (sub_cons (d := 28) (congrArg some e16.1) (sub_nil _)) (List.sublist_append_right _ _) ?_
        exact rq_v (rv_nilCheck rfl rfl)
      ·
        intro vf pf hR
        have e17 : (vf 17) = .pointer (some ⟨b, 0, none⟩) ∧ (pf 17) = [] := hR 17 (by decide)
        refine Or.inl ⟨rfl, ?_⟩
        refine rq_less (l' := (boxE b #[wv, .int .i64 q] 105 :: rowE 3 1 wv zs.length (zs.map (Value.int .i64)) :: l)) (sub_cons (d := 29) (congrArg some e17.1) (sub_nil _)) (List.sublist_append_right _ _) ?_
        exact rq_v (rv_field (k0 := 1) rfl (by kernel_rfl) rfl)
      ·
        intro vf pf hR
        have e18 : (vf 18) = .pointer (some ⟨b, 0 + 1, none⟩) ∧ (pf 18) = [] := hR 18 (by decide)
        refine Or.inl ⟨rfl, ?_⟩
        refine rq_less (l' := (boxE b #[wv, .int .i64 q] 105 :: rowE 3 1 wv zs.length (zs.map (Value.int .i64)) :: l)) (sub_cons (d := 30) (congrArg some e18.1) (sub_nil _)) (List.sublist_append_right _ _) ?_
        exact rq_v (rv_load rfl (by kernel_rfl) rfl (box_cell 0 rfl rfl))
      ·
        intro vf pf hR
        have e19 : (vf 19) = .int .i64 q ∧ (pf 19) = [] := hR 19 (by decide)
        refine Or.inl ⟨rfl, ?_⟩
        refine rq_less (l' := (boxE b #[wv, .int .i64 q] 105 :: rowE 3 1 wv zs.length (zs.map (Value.int .i64)) :: l)) (sub_cons (d := 31) (congrArg some e19.1) (sub_nil _)) (List.sublist_append_right _ _) ?_
        exact rq_v (rv_rem rfl rfl rfl (by constructor <;> omega))
      ·
        intro vf pf hR
        have e20 : (vf 20) = .int .i64 (q % 16) ∧ (pf 20) = [] := hR 20 (by decide)
        refine Or.inl ⟨rfl, ?_⟩
        refine rq_less (l' := (boxE b #[wv, .int .i64 q] 105 :: rowE 3 1 wv zs.length (zs.map (Value.int .i64)) :: l)) (sub_cons (d := 32) (congrArg some e20.1) (sub_nil _)) (List.sublist_append_right _ _) ?_
        exact rq_v (rv_conv rfl Try.underlying3 Try.underlying130 rfl (IntWalk.u64_in _ (by omega)))
      ·
        intro vf pf hR
        have e15 : (vf 15) = .int .i64 ((n / 2 ^ ((j : Int)).toNat) % 2) ∧ (pf 15) = [] := hR 15 (by decide)
        have e21 : (vf 21) = .int .u64 (q % 16) ∧ (pf 21) = [] := hR 21 (by decide)
        refine Or.inl ⟨rfl, ?_⟩
        refine rq_less (l' := (boxE b #[wv, .int .i64 q] 105 :: rowE 3 1 wv zs.length (zs.map (Value.int .i64)) :: l)) (sub_cons (d := 27) (congrArg some e15.1) (sub_cons (d := 33) (congrArg some e21.1) (sub_nil _))) (List.sublist_append_right _ _) ?_
        exact rq_v (rv_shl (kk' := .i64) rfl rfl rfl (by omega) (shl1 (by omega) (by omega)))
      ·
        intro vf pf hR
        have e10 : (vf 10) = .int .i64 (zs.getD ((q / 16).toNat) 0) ∧ (pf 10) = [] := hR 10 (by decide)
        have e22 : (vf 22) = .int .i64 (((n / 2 ^ ((j : Int)).toNat) % 2) * 2 ^ (q % 16).toNat) ∧ (pf 22) = [] := hR 22 (by decide)
        refine Or.inl ⟨rfl, ?_⟩
        refine rq_less (l' := (boxE b #[wv, .int .i64 q] 105 :: rowE 3 1 wv zs.length (zs.map (Value.int .i64)) :: l)) (sub_cons (d := 22) (congrArg some e10.1) (sub_cons (d := 34) (congrArg some e22.1) (sub_nil _))) (List.sublist_append_right _ _) ?_
        exact rq_v (rv_bits rfl (by decide) rfl rfl (r := (zs.getD ((q / 16).toNat) 0) + (((n / 2 ^ ((j : Int)).toNat) % 2) * 2 ^ (q % 16).toNat)) (or1 hlow (by omega) (by omega)))
      ·
        intro vf pf hR
        have e3 : (vf 3) = wv ∧ (pf 3) = [] := hR 3 (by decide)
        have e8 : (vf 8) = .int .i64 (q / 16) ∧ (pf 8) = [] := hR 8 (by decide)
        refine Or.inl ⟨rfl, ?_⟩
        refine rq_less (l' := (boxE b #[wv, .int .i64 q] 105 :: rowE 3 1 wv zs.length (zs.map (Value.int .i64)) :: l)) (sub_cons (d := 15) (congrArg some e3.1) (sub_cons (d := 20) (congrArg some e8.1) (sub_nil _))) (List.sublist_append_right _ _) ?_
        exact rq_v (rv_index (s := 1) rfl Try.underlying30 (by kernel_rfl) rfl rfl (rd_row 1 rfl) (by omega) (by first | omega | (simp only [List.length_set]; omega)))
    ·
      intro vf pf hR
      have e23 : (vf 23) = .int .i64 ((zs.getD ((q / 16).toNat) 0) + (((n / 2 ^ ((j : Int)).toNat) % 2) * 2 ^ (q % 16).toNat)) ∧ (pf 23) = [] := hR 23 (by decide)
      have e24 : (vf 24) = elP wv ((q / 16).toNat * 1) ∧ (pf 24) = [] := hR 24 (by decide)
      refine hl_less (l' := (boxE b #[wv, .int .i64 q] 105 :: rowE 3 1 wv zs.length (zs.map (Value.int .i64)) :: l)) (sub_cons (d := 0) rfl (sub_cons (d := 1) rfl (sub_cons (d := 2) rfl (sub_cons (d := 6) rfl (sub_cons (d := 9) rfl (sub_cons (d := 35) (congrArg some e23.1) (sub_cons (d := 36) (congrArg some e24.1) (sub_nil _)))))))) (List.sublist_append_right _ _) ?_
      simp only [List.drop_succ_cons, List.drop_zero]
      refine hl_storeEl (i := 1) (n' := (zs.set ((q / 16).toNat) ((zs.getD ((q / 16).toNat) 0) + (((n / 2 ^ ((j : Int)).toNat) % 2) * 2 ^ (q % 16).toNat))).length) (xs' := ((zs.set ((q / 16).toNat) ((zs.getD ((q / 16).toNat) 0) + (((n / 2 ^ ((j : Int)).toNat) % 2) * 2 ^ (q % 16).toNat))).map (Value.int .i64))) (l' := (boxE b #[wv, .int .i64 q] 105 :: rowE 3 1 wv ((zs.set ((q / 16).toNat) ((zs.getD ((q / 16).toNat) 0) + (((n / 2 ^ ((j : Int)).toNat) % 2) * 2 ^ (q % 16).toNat))).length) ((zs.set ((q / 16).toNat) ((zs.getD ((q / 16).toNat) 0) + (((n / 2 ^ ((j : Int)).toNat) % 2) * 2 ^ (q % 16).toNat))).map (Value.int .i64)) :: l)) rfl rfl rfl (by kernel_rfl) rfl rfl rfl rfl (by first | omega | (simp only [List.length_set]; omega)) List.length_set.symm (ints_set _ _ _) rfl ?_
      refine hl_less (sub_cons (d := 0) rfl (sub_cons (d := 1) rfl (sub_cons (d := 2) rfl (sub_cons (d := 6) rfl (sub_cons (d := 9) rfl (sub_nil _)))))) (.refl _) ?_
      refine hl_nil ?_
      refine hq_then ?_
      refine hc_region ?_
      refine hl_v rfl rfl rfl (rv_ev rfl) ?_
      refine hl_v rfl rfl rfl (rv_nilCheck rfl rfl) ?_
      refine hl_v rfl rfl rfl (rv_field (k0 := 1) rfl (by kernel_rfl) rfl) ?_
      refine hl_v rfl rfl rfl (rv_load rfl (by kernel_rfl) rfl (box_cell 0 rfl rfl)) ?_
      refine hl_v rfl rfl rfl (rv_add rfl rfl rfl (by constructor <;> omega)) ?_
      refine hl_v rfl rfl rfl (rv_nilCheck rfl rfl) ?_
      refine hl_v rfl rfl rfl (rv_field (k0 := 1) rfl (by kernel_rfl) rfl) ?_
      refine hl_storeBox (i := 0) (l' := (boxE b #[wv, .int .i64 (q + 1)] 105 :: rowE 3 1 wv ((zs.set ((q / 16).toNat) ((zs.getD ((q / 16).toNat) 0) + (((n / 2 ^ ((j : Int)).toNat) % 2) * 2 ^ (q % 16).toNat))).length) ((zs.set ((q / 16).toNat) ((zs.getD ((q / 16).toNat) 0) + (((n / 2 ^ ((j : Int)).toNat) % 2) * 2 ^ (q % 16).toNat))).map (Value.int .i64)) :: l)) rfl rfl rfl (by kernel_rfl) rfl rfl rfl rfl rfl rfl ?_
      refine hl_less (sub_cons (d := 0) rfl (sub_cons (d := 1) rfl (sub_cons (d := 2) rfl (sub_cons (d := 6) rfl (sub_cons (d := 9) rfl (sub_nil _)))))) (.refl _) ?_
      refine hl_nil ?_
      refine hq_block_normal ?_
      refine hq_then ?_
      refine hc_region ?_
      refine hl_v rfl rfl rfl (rv_ev rfl) ?_
      refine hl_v rfl rfl rfl (rv_add rfl rfl rfl (by constructor <;> omega)) ?_
      refine hl_v rfl rfl rfl (rv_ev rfl) ?_
      refine hl_less (sub_cons (d := 0) rfl (sub_cons (d := 1) rfl (sub_cons (d := 2) rfl (sub_cons (d := 6) rfl (sub_cons (d := 9) rfl (sub_nil _)))))) (.refl _) ?_
      refine hl_nil ?_
      exact hq_round3 (j + 1) (q + 1) (zs.set ((q / 16).toNat) ((zs.getD ((q / 16).toNat) 0) + (((n / 2 ^ ((j : Int)).toNat) % 2) * 2 ^ (q % 16).toNat))) ⟨by omega, by omega, by rw [pack_step, ← hz, ← hqn, ← hqm]; rfl⟩ (by omega) (sub_cons (d := 0) rfl (sub_cons (d := 1) rfl (sub_cons (d := 2) rfl (sub_cons (d := 6) rfl (sub_nil _))))) ((.cons_cons _ (.cons_cons _ (.refl _))))
  ·
    refine hl_less (sub_cons (d := 0) rfl (sub_cons (d := 1) rfl (sub_cons (d := 2) rfl (sub_cons (d := 6) rfl (sub_cons (d := 9) rfl (sub_nil _)))))) (.refl _) ?_
    refine hl_nil ?_
    refine hq_then ?_
    refine hc_false rfl ?_
    refine hc_exit ?_
    refine hq_then_exit ?_
    refine hq_then_exit ?_
    refine hq_block_exit ?_
    refine hq_normal ?_
    have hjn : j = k.toNat := by omega
    refine hq_conv (wrE b wv q zs :: l) (conv_big (ps := [boxE b #[wv, .int .i64 q] 105, rowE 3 1 wv zs.length (zs.map (Value.int .i64))])) ?_
    exact hq_ret (rs := []) (vs := []) rfl trivial rfl (fun w hm => ⟨.tuple #[], _, rfl, by rw [hq, hz, hjn, show ((k.toNat : Nat) : Int) = k by omega], hm⟩)
end Go.Proofs.Ytnnkbpcfjjijbaa
