/- Drawn tables: the walks. -/
import Derived.Test.YteccnnpcigkmhaaCov2
set_option linter.unusedVariables false
set_option linter.unusedSimpArgs false
namespace Go.Proofs.Yteccnnpcigkmhaa
open Go.RowKit

theorem bit_sum {B b : Int} {i : Nat} (h : 0 ≤ B ∧ B ≤ 2 ^ i - 1) (hb : 0 ≤ b ∧ b ≤ 1) : 0 ≤ B + b * 2 ^ i ∧ B + b * 2 ^ i ≤ 2 ^ (i + 1) - 1 := by
  have hp : (0 : Int) < 2 ^ i := Int.pow_pos (by decide)
  have e : (2 : Int) ^ (i + 1) = 2 * 2 ^ i := by rw [Int.pow_succ, Int.mul_comm]
  rw [e]
  rcases (show b = 0 ∨ b = 1 by omega) with e1 | e1 <;> rw [e1] <;> omega
theorem pow_i {i : Nat} (h : i ≤ 16) : 1 ≤ (2 : Int) ^ i ∧ (2 : Int) ^ i ≤ 65536 := by
  have h1 : (2 : Nat) ^ i ≤ 2 ^ 16 := Nat.pow_le_pow_right (by decide) h
  have h2 : 1 ≤ (2 : Nat) ^ i := Nat.one_le_two_pow
  have h3 : ((2 ^ i : Nat) : Int) = (2 : Int) ^ i := by simp
  rw [← h3]; omega
theorem shl_i {b : Int} {i : Nat} (h : i ≤ 16) (hb : 0 ≤ b ∧ b ≤ 1) : IntKind.i64.wrap (b * 2 ^ ((i : Int)).toNat) = b * 2 ^ i := by
  have hp := pow_i h
  have hl : 0 ≤ b * 2 ^ i ∧ b * 2 ^ i ≤ 65536 := by
    rcases (show b = 0 ∨ b = 1 by omega) with e1 | e1 <;> rw [e1] <;> omega
  exact IntWalk.i64_in _ (by show _ ≤ b * 2 ^ i ∧ b * 2 ^ i ≤ _; omega)
theorem xor_q {n a b : Int} (hn : 0 ≤ n ∧ n ≤ 4) (ha : 0 ≤ a ∧ a ≤ qn n - 1) (hb : 0 ≤ b ∧ b ≤ qn n - 1) : 0 ≤ ((a.toNat ^^^ b.toNat : Nat) : Int) ∧ ((a.toNat ^^^ b.toNat : Nat) : Int) ≤ qn n - 1 := by
  obtain ⟨M, hM⟩ : ∃ M : Nat, M = 2 ^ pn n := ⟨_, rfl⟩
  have e : qn n = (M : Int) := by rw [qn_pn, hM]; simp
  have h1 : a.toNat < M := by omega
  have h2 : b.toNat < M := by omega
  rw [hM] at h1 h2
  have := Nat.xor_lt_two_pow h1 h2
  rw [← hM] at this
  omega
theorem and_q {n a b : Int} (ha : 0 ≤ a ∧ a ≤ qn n - 1) (hb : 0 ≤ b ∧ b ≤ qn n - 1) : 0 ≤ ((a.toNat &&& b.toNat : Nat) : Int) ∧ ((a.toNat &&& b.toNat : Nat) : Int) ≤ qn n - 1 := by
  have := Nat.and_le_left (n := a.toNat) (m := b.toNat)
  omega
set_option maxHeartbeats 4000000 in
set_option maxRecDepth 100000 in
theorem TableVar_ret (n k : Int) (w : World) (hn : 0 ≤ n ∧ n ≤ 4) (hk : 0 ≤ k ∧ k < n) :
    Calls Try.prog 54 #[.int .i64 n, .int .i64 k] w (Ret w (fun v' post => post = [] ∧ ∃ t : Tab, TabOk t ∧ t.N = n ∧ v' = .tuple #[.agg #[.int .i64 t.N, .int .i64 t.B], .bool true])) := by
  have hp := pn_rng hn
  have hq := qn_rng hn
  refine calls_hc (N := 40) (args := [.int .i64 n, .int .i64 k]) Try.func54 rfl rfl ?_
  refine hc_less _ (sub_cons (d := 0) rfl (sub_cons (d := 1) rfl (sub_nil _))) (.refl _) ?_
  refine hc_seq ?_
  refine hc_region ?_
  refine hl_box rfl rfl rfl (rq_alloc (z := .agg #[.int .i64 0, .int .i64 0]) rfl (by kernel_rfl)) ?_
  intro b1
  refine hl_v rfl rfl rfl (rv_ev rfl) ?_
  refine hl_less (sub_cons (d := 0) rfl (sub_cons (d := 1) rfl (sub_cons (d := 4) rfl (sub_cons (d := 5) rfl (sub_nil _))))) (.refl _) ?_
  refine hl_nil ?_
  refine hq_then ?_
  refine hc_seq ?_
  refine hc_seq ?_
  refine hc_region ?_
  refine hl_v rfl rfl rfl (rv_ev rfl) ?_
  refine hl_callV rfl rfl rfl (rq_call (by kernel_rfl) rfl (fun w hm => ret_ans (l01In_yes (by omega) (by omega) w))) ?_
  refine hl_v rfl rfl rfl (rv_ev rfl) ?_
  refine hl_v rfl rfl rfl (rv_ev rfl) ?_
  refine hl_v rfl rfl rfl (rv_ev rfl) ?_
  refine hl_lss rfl rfl rfl rfl rfl rfl (fun h2 => absurd h2 (by omega)) (fun h2 => ?_)
  refine hl_v rfl rfl rfl (rv_ev rfl) ?_
  refine hl_v rfl rfl rfl (rv_ev rfl) ?_
  refine hl_v rfl rfl rfl (rv_ev rfl) ?_
  refine hl_v rfl rfl rfl (rv_ev rfl) ?_
  refine hl_geq rfl rfl rfl rfl rfl rfl (fun h3 => absurd h3 (by omega)) (fun h3 => ?_)
  refine hl_v rfl rfl rfl (rv_ev rfl) ?_
  refine hl_less (sub_cons (d := 0) rfl (sub_cons (d := 1) rfl (sub_cons (d := 4) rfl (sub_cons (d := 5) rfl (sub_cons (d := 19) rfl (sub_nil _)))))) (.refl _) ?_
  refine hl_nil ?_
  refine hq_then ?_
  refine hc_false rfl ?_
  refine hc_skip ?_
  refine hq_then ?_
  refine hc_seq ?_
  refine hc_region ?_
  refine hl_v rfl rfl rfl (rv_ev rfl) ?_
  refine hl_v rfl rfl rfl (rv_build (cs := #[.int .i64 n, .int .i64 0]) rfl rfl (by kernel_rfl)) ?_
  refine hl_box rfl rfl rfl (rq_alloc (z := .agg #[.int .i64 0, .int .i64 0]) rfl (by kernel_rfl)) ?_
  intro b4
  refine hl_storeBoxN (i := 0) (off := 0) (us := [.int .i64 n, .int .i64 0]) (l' := [boxE b4 #[.int .i64 n, .int .i64 0] 25, boxE b1 #[.int .i64 0, .int .i64 0] 25]) rfl rfl rfl (by kernel_rfl) rfl rfl rfl (all_cons rfl (all_cons rfl all_nil)) rfl rfl rfl ?_
  refine hl_less (sub_cons (d := 0) rfl (sub_cons (d := 1) rfl (sub_cons (d := 4) rfl (sub_cons (d := 5) rfl (sub_cons (d := 6) rfl (sub_cons (d := 19) rfl (sub_nil _))))))) (.refl _) ?_
  refine hl_nil ?_
  refine hq_then ?_
  refine hc_seq ?_
  refine hc_seq ?_
  refine hc_region ?_
  refine hl_v rfl rfl rfl (rv_ev rfl) ?_
  refine hl_less (sub_cons (d := 0) rfl (sub_cons (d := 1) rfl (sub_cons (d := 4) rfl (sub_cons (d := 5) rfl (sub_cons (d := 6) rfl (sub_cons (d := 7) rfl (sub_cons (d := 19) rfl (sub_nil _)))))))) (.refl _) ?_
  refine hl_nil ?_
  refine hq_then ?_
  refine hc_block ?_
  refine hc_loop2 (α := Nat) (β := Int) (fun r B => [boxE b4 #[.int .i64 n, .int .i64 B] 25, boxE b1 #[.int .i64 0, .int .i64 0] 25]) (fun r B => [(0, .int .i64 n), (1, .int .i64 k), (4, .pointer (some ⟨b1, 0, none⟩)), (5, .bool false), (6, .pointer (some ⟨b4, 0, none⟩)), (7, .int .i64 (r : Int)), (19, .bool false)]) (fun r B => r ≤ pn n ∧ 0 ≤ B ∧ B ≤ 2 ^ r - 1) (fun r B => pn n - r) 0 0 ⟨by omega, by omega, by simp⟩ (sub_cons (d := 0) rfl (sub_cons (d := 1) rfl (sub_cons (d := 4) rfl (sub_cons (d := 5) rfl (sub_cons (d := 6) rfl (sub_cons (d := 7) rfl (sub_cons (d := 19) rfl (sub_nil _)))))))) ((.cons_cons _ (.cons_cons _ .slnil))) ?_
  intro r B hi5
  obtain ⟨hi, hB⟩ := hi5
  have hpi := pow_i (i := r) (by omega)
  refine hc_seq ?_
  refine hc_seq ?_
  refine hc_region ?_
  refine hl_v rfl rfl rfl (rv_ev rfl) ?_
  refine hl_v rfl rfl rfl (rv_ev rfl) ?_
  refine hl_v rfl rfl rfl (rv_shlG (k := .i64) (kk := .i64) (r := (pn n : Int)) rfl rfl rfl rfl (by omega) (wr1 hn)) ?_
  refine hl_lss rfl rfl rfl rfl rfl rfl (fun h6 => ?_) (fun h6 => ?_)
  ·
    refine hl_less (sub_cons (d := 0) rfl (sub_cons (d := 1) rfl (sub_cons (d := 4) rfl (sub_cons (d := 5) rfl (sub_cons (d := 6) rfl (sub_cons (d := 7) rfl (sub_cons (d := 19) rfl (sub_cons (d := 26) rfl (sub_nil _))))))))) (.refl _) ?_
    refine hl_nil ?_
    refine hq_then ?_
    refine hc_true rfl ?_
    refine hc_skip ?_
    refine hq_then ?_
    refine hc_seq ?_
    refine hc_block ?_
    have h16 : (r : Int) / 2 ^ k.toNat ≤ r ∧ 0 ≤ (r : Int) / 2 ^ k.toNat := ⟨Int.ediv_le_self _ (by omega), Int.ediv_nonneg (by omega) (Int.le_of_lt (Int.pow_pos (by decide)))⟩
    have hbt : 0 ≤ (r : Int) / 2 ^ k.toNat % 2 ∧ (r : Int) / 2 ^ k.toNat % 2 ≤ 1 := by omega
    have hsum := bit_sum hB hbt
    have hp1 := pow_i (i := r + 1) (by omega)
    have h16 : (r : Int) / 2 ^ k.toNat ≤ r ∧ 0 ≤ (r : Int) / 2 ^ k.toNat := ⟨Int.ediv_le_self _ (by omega), Int.ediv_nonneg (by omega) (Int.le_of_lt (Int.pow_pos (by decide)))⟩
    have hbt : 0 ≤ (r : Int) / 2 ^ k.toNat % 2 ∧ (r : Int) / 2 ^ k.toNat % 2 ≤ 1 := by omega
    have hsum := bit_sum hB hbt
    have hp1 := pow_i (i := r + 1) (by omega)
    refine hc_draw (by kernel_rfl) 10 [0, 1, 2, 3, 4, 5, 6, 7, 8, 9] (List.take 10 _) (List.drop 10 _) [[], [0], [], [], [2, 3], [4], [], [5, 6], [1, 7], []] [29, 30, 31, 32, 33, 34, 35, 36, 37, 38] (fun i vs_ v_ p_ => match i with | 0 => v_ = .pointer (some ⟨b4, 0 + 1, none⟩) ∧ p_ = [] | 1 => v_ = .int .i64 B ∧ p_ = [] | 2 => v_ = .int .i64 (r : Int) ∧ p_ = [] | 3 => v_ = .int .i64 k ∧ p_ = [] | 4 => v_ = .int .i64 ((r : Int) / 2 ^ (k).toNat) ∧ p_ = [] | 5 => v_ = .int .i64 (((r : Int) / 2 ^ (k).toNat) % 2) ∧ p_ = [] | 6 => v_ = .int .i64 (r : Int) ∧ p_ = [] | 7 => v_ = .int .i64 ((((r : Int) / 2 ^ (k).toNat) % 2) * 2 ^ r) ∧ p_ = [] | 8 => v_ = .int .i64 (B + ((((r : Int) / 2 ^ (k).toNat) % 2) * 2 ^ r)) ∧ p_ = [] | 9 => v_ = .pointer (some ⟨b4, 0 + 1, none⟩) ∧ p_ = [] | _ => True) (List.take_append_drop 10 _).symm (by kernel_rfl) (by kernel_rfl) rfl rfl ?_ ?_
    ·
      refine ⟨?_, ?_, ?_, ?_, ?_, ?_, ?_, ?_, ?_, ?_, trivial⟩
      ·
        intro vf pf hR
        refine Or.inl ⟨rfl, ?_⟩
        refine rq_less (l' := [boxE b4 #[.int .i64 n, .int .i64 B] 25, boxE b1 #[.int .i64 0, .int .i64 0] 25]) (sub_cons (d := 6) rfl (sub_nil _)) (List.sublist_append_right _ _) ?_
        exact rq_v (rv_field (k0 := 1) rfl (by kernel_rfl) rfl)
      ·
        intro vf pf hR
        have e0 : (vf 0) = .pointer (some ⟨b4, 0 + 1, none⟩) ∧ (pf 0) = [] := hR 0 (by decide)
        refine Or.inl ⟨rfl, ?_⟩
        refine rq_less (l' := [boxE b4 #[.int .i64 n, .int .i64 B] 25, boxE b1 #[.int .i64 0, .int .i64 0] 25]) (sub_cons (d := 29) (congrArg some e0.1) (sub_nil _)) (List.sublist_append_right _ _) ?_
        exact rq_v (rv_load rfl (by kernel_rfl) rfl (box_cell 0 rfl rfl))
      ·
        intro vf pf hR
        refine Or.inl ⟨rfl, ?_⟩
        refine rq_less (l' := [boxE b4 #[.int .i64 n, .int .i64 B] 25, boxE b1 #[.int .i64 0, .int .i64 0] 25]) (sub_cons (d := 7) rfl (sub_nil _)) (List.sublist_append_right _ _) ?_
        exact rq_v (rv_ev rfl)
      ·
        intro vf pf hR
        refine Or.inl ⟨rfl, ?_⟩
        refine rq_less (l' := [boxE b4 #[.int .i64 n, .int .i64 B] 25, boxE b1 #[.int .i64 0, .int .i64 0] 25]) (sub_cons (d := 1) rfl (sub_nil _)) (List.sublist_append_right _ _) ?_
        exact rq_v (rv_ev rfl)
      ·
        intro vf pf hR
        have e2 : (vf 2) = .int .i64 (r : Int) ∧ (pf 2) = [] := hR 2 (by decide)
        have e3 : (vf 3) = .int .i64 k ∧ (pf 3) = [] := hR 3 (by decide)
        refine Or.inl ⟨rfl, ?_⟩
        refine rq_less (l' := [boxE b4 #[.int .i64 n, .int .i64 B] 25, boxE b1 #[.int .i64 0, .int .i64 0] 25]) (sub_cons (d := 31) (congrArg some e2.1) (sub_cons (d := 32) (congrArg some e3.1) (sub_nil _))) (List.sublist_append_right _ _) ?_
        exact rq_v (rv_shr rfl rfl rfl (by omega))
      ·
        intro vf pf hR
        have e4 : (vf 4) = .int .i64 ((r : Int) / 2 ^ (k).toNat) ∧ (pf 4) = [] := hR 4 (by decide)
        refine Or.inl ⟨rfl, ?_⟩
        refine rq_less (l' := [boxE b4 #[.int .i64 n, .int .i64 B] 25, boxE b1 #[.int .i64 0, .int .i64 0] 25]) (sub_cons (d := 33) (congrArg some e4.1) (sub_nil _)) (List.sublist_append_right _ _) ?_
        exact rq_v (rv_bits rfl (by decide) rfl rfl (r := ((r : Int) / 2 ^ (k).toNat) % 2) (andB _ (by omega)))
      ·
        intro vf pf hR
        refine Or.inl ⟨rfl, ?_⟩
        refine rq_less (l' := [boxE b4 #[.int .i64 n, .int .i64 B] 25, boxE b1 #[.int .i64 0, .int .i64 0] 25]) (sub_cons (d := 7) rfl (sub_nil _)) (List.sublist_append_right _ _) ?_
        exact rq_v (rv_ev rfl)
      ·
        intro vf pf hR
        have e5 : (vf 5) = .int .i64 (((r : Int) / 2 ^ (k).toNat) % 2) ∧ (pf 5) = [] := hR 5 (by decide)
        have e6 : (vf 6) = .int .i64 (r : Int) ∧ (pf 6) = [] := hR 6 (by decide)
        refine Or.inl ⟨rfl, ?_⟩
        refine rq_less (l' := [boxE b4 #[.int .i64 n, .int .i64 B] 25, boxE b1 #[.int .i64 0, .int .i64 0] 25]) (sub_cons (d := 34) (congrArg some e5.1) (sub_cons (d := 35) (congrArg some e6.1) (sub_nil _))) (List.sublist_append_right _ _) ?_
        exact rq_v (rv_shlG (k := .i64) (kk := .i64) (r := (((r : Int) / 2 ^ (k).toNat) % 2) * 2 ^ r) rfl rfl rfl rfl (by omega) (shl_i (by omega) hbt))
      ·
        intro vf pf hR
        have e1 : (vf 1) = .int .i64 B ∧ (pf 1) = [] := hR 1 (by decide)
        have e7 : (vf 7) = .int .i64 ((((r : Int) / 2 ^ (k).toNat) % 2) * 2 ^ r) ∧ (pf 7) = [] := hR 7 (by decide)
        refine Or.inl ⟨rfl, ?_⟩
        refine rq_less (l' := [boxE b4 #[.int .i64 n, .int .i64 B] 25, boxE b1 #[.int .i64 0, .int .i64 0] 25]) (sub_cons (d := 30) (congrArg some e1.1) (sub_cons (d := 36) (congrArg some e7.1) (sub_nil _))) (List.sublist_append_right _ _) ?_
        exact rq_v (rv_add rfl rfl rfl (by constructor <;> omega))
      ·
        intro vf pf hR
        refine Or.inl ⟨rfl, ?_⟩
        refine rq_less (l' := [boxE b4 #[.int .i64 n, .int .i64 B] 25, boxE b1 #[.int .i64 0, .int .i64 0] 25]) (sub_cons (d := 6) rfl (sub_nil _)) (List.sublist_append_right _ _) ?_
        exact rq_v (rv_field (k0 := 1) rfl (by kernel_rfl) rfl)
    ·
      intro vf pf hR
      have e8 : (vf 8) = .int .i64 (B + ((((r : Int) / 2 ^ (k).toNat) % 2) * 2 ^ r)) ∧ (pf 8) = [] := hR 8 (by decide)
      have e9 : (vf 9) = .pointer (some ⟨b4, 0 + 1, none⟩) ∧ (pf 9) = [] := hR 9 (by decide)
      refine hl_less (l' := [boxE b4 #[.int .i64 n, .int .i64 B] 25, boxE b1 #[.int .i64 0, .int .i64 0] 25]) (sub_cons (d := 0) rfl (sub_cons (d := 1) rfl (sub_cons (d := 4) rfl (sub_cons (d := 5) rfl (sub_cons (d := 6) rfl (sub_cons (d := 7) rfl (sub_cons (d := 19) rfl (sub_cons (d := 26) rfl (sub_cons (d := 37) (congrArg some e8.1) (sub_cons (d := 38) (congrArg some e9.1) (sub_nil _))))))))))) (List.sublist_append_right _ _) ?_
      simp only [List.drop_succ_cons, List.drop_zero]
      refine hl_storeBox (i := 0) (l' := [boxE b4 #[.int .i64 n, .int .i64 (B + ((((r : Int) / 2 ^ (k).toNat) % 2) * 2 ^ r))] 25, boxE b1 #[.int .i64 0, .int .i64 0] 25]) rfl rfl rfl (by kernel_rfl) rfl rfl rfl rfl rfl rfl ?_
      refine hl_less (sub_cons (d := 0) rfl (sub_cons (d := 1) rfl (sub_cons (d := 4) rfl (sub_cons (d := 5) rfl (sub_cons (d := 6) rfl (sub_cons (d := 7) rfl (sub_cons (d := 19) rfl (sub_cons (d := 26) rfl (sub_nil _))))))))) (.refl _) ?_
      refine hl_nil ?_
      refine hq_block_normal ?_
      refine hq_then ?_
      refine hc_region ?_
      refine hl_v rfl rfl rfl (rv_ev rfl) ?_
      refine hl_v rfl rfl rfl (rv_add rfl rfl rfl (by constructor <;> omega)) ?_
      refine hl_v rfl rfl rfl (rv_ev rfl) ?_
      refine hl_less (sub_cons (d := 0) rfl (sub_cons (d := 1) rfl (sub_cons (d := 4) rfl (sub_cons (d := 5) rfl (sub_cons (d := 6) rfl (sub_cons (d := 7) rfl (sub_cons (d := 19) rfl (sub_cons (d := 26) rfl (sub_nil _))))))))) (.refl _) ?_
      refine hl_nil ?_
      exact hq_round2 (r + 1) (B + ((((r : Int) / 2 ^ (k).toNat) % 2) * 2 ^ r)) ⟨by omega, bit_sum hB hbt⟩ (by omega) (sub_cons (d := 0) rfl (sub_cons (d := 1) rfl (sub_cons (d := 4) rfl (sub_cons (d := 5) rfl (sub_cons (d := 6) rfl (sub_cons (d := 7) rfl (sub_cons (d := 19) rfl (sub_nil _)))))))) ((.cons_cons _ (.cons_cons _ .slnil)))
  ·
    refine hl_less (sub_cons (d := 0) rfl (sub_cons (d := 1) rfl (sub_cons (d := 4) rfl (sub_cons (d := 5) rfl (sub_cons (d := 6) rfl (sub_cons (d := 7) rfl (sub_cons (d := 19) rfl (sub_cons (d := 26) rfl (sub_nil _))))))))) (.refl _) ?_
    refine hl_nil ?_
    refine hq_then ?_
    refine hc_false rfl ?_
    refine hc_exit ?_
    refine hq_then_exit ?_
    refine hq_then_exit ?_
    refine hq_block_exit ?_
    refine hq_then ?_
    refine hc_seq ?_
    refine hc_region ?_
    refine hl_v rfl rfl rfl (rv_loadN (cs := [.int .i64 n, .int .i64 B]) rfl (by kernel_rfl) (by kernel_rfl) rfl rfl (box_part 0 rfl 0 rfl)) ?_
    refine hl_storeBoxN (i := 1) (off := 0) (us := [.int .i64 n, .int .i64 B]) (l' := [boxE b4 #[.int .i64 n, .int .i64 B] 25, boxE b1 #[.int .i64 n, .int .i64 B] 25]) rfl rfl rfl (by kernel_rfl) rfl rfl rfl (all_cons rfl (all_cons rfl all_nil)) rfl rfl rfl ?_
    refine hl_v rfl rfl rfl (rv_ev rfl) ?_
    refine hl_less (sub_cons (d := 0) rfl (sub_cons (d := 1) rfl (sub_cons (d := 4) rfl (sub_cons (d := 5) rfl (sub_cons (d := 6) rfl (sub_cons (d := 7) rfl (sub_cons (d := 19) rfl (sub_cons (d := 26) rfl (sub_nil _))))))))) (.refl _) ?_
    refine hl_nil ?_
    refine hq_then ?_
    refine hc_ret ?_
    have hip : r = pn n := by omega
    rw [hip] at hB
    exact hq_retM (rs := [.cell 4 25, .tmp 5]) (vs := [.agg #[.int .i64 n, .int .i64 B], .bool true]) (post := []) rfl ⟨⟨b1, 0, [.int .i64 n, .int .i64 B], rfl, rfl, by kernel_rfl, by kernel_rfl, box_part 1 rfl 0 rfl⟩, rfl, trivial⟩ rfl ((.cons _ (.cons _ .slnil))) ⟨rfl, ⟨n, B⟩, ⟨hn, by rw [qn_pn]; exact hB⟩, rfl, rfl⟩
set_option maxHeartbeats 4000000 in
set_option maxRecDepth 100000 in
theorem TableNot_ret (n x : Int) (w : World) (hn : 0 ≤ n ∧ n ≤ 4) (ha : 0 ≤ x ∧ x ≤ qn n - 1) :
    Calls Try.prog 55 #[.agg #[.int .i64 n, .int .i64 x]] w (Ret w (fun v' post => post = [] ∧ ∃ t : Tab, TabOk t ∧ t.N = n ∧ v' = .agg #[.int .i64 t.N, .int .i64 t.B])) := by
  have hq := qn_rng hn
  refine calls_hc (N := 16) (args := [.agg #[.int .i64 n, .int .i64 x]]) Try.func55 rfl rfl ?_
  refine hc_less _ (sub_cons (d := 0) rfl (sub_nil _)) (.refl _) ?_
  refine hc_seq ?_
  refine hc_region ?_
  refine hl_box rfl rfl rfl (rq_box rfl rfl) ?_
  intro b1
  refine hl_box rfl rfl rfl (rq_alloc (z := .agg #[.int .i64 0, .int .i64 0]) rfl (by kernel_rfl)) ?_
  intro b2
  refine hl_less (sub_cons (d := 0) rfl (sub_cons (d := 1) rfl (sub_cons (d := 2) rfl (sub_nil _)))) (.refl _) ?_
  refine hl_nil ?_
  refine hq_then ?_
  refine hc_seq ?_
  refine hc_seq ?_
  refine hc_region ?_
  refine hl_v rfl rfl rfl (rv_loadN (cs := [.int .i64 n, .int .i64 x]) rfl (by kernel_rfl) (by kernel_rfl) rfl rfl (box_part 1 rfl 0 rfl)) ?_
  refine hl_callV rfl rfl rfl (rq_call (by kernel_rfl) rfl (fun w hm => ret_ans (specTableOk_yes ⟨n, x⟩ w ⟨(by show 0 ≤ n ∧ n ≤ 4; omega), (by show 0 ≤ x ∧ x ≤ qn (n) - 1; omega)⟩))) ?_
  refine hl_v rfl rfl rfl (rv_ev rfl) ?_
  refine hl_less (sub_cons (d := 0) rfl (sub_cons (d := 1) rfl (sub_cons (d := 2) rfl (sub_cons (d := 5) rfl (sub_nil _))))) (.refl _) ?_
  refine hl_nil ?_
  refine hq_then ?_
  refine hc_false rfl ?_
  refine hc_skip ?_
  refine hq_then ?_
  refine hc_seq ?_
  refine hc_draw (by kernel_rfl) 9 [0, 1, 2, 3, 4, 5, 6, 7, 8] (List.take 9 _) (List.drop 9 _) [[], [0], [], [2], [3], [], [5], [4, 6], [1, 7]] [7, 8, 9, 10, 11, 12, 13, 14, 15] (fun i vs_ v_ p_ => match i with | 0 => v_ = .pointer (some ⟨b1, 0 + 0, none⟩) ∧ p_ = [] | 1 => v_ = .int .i64 n ∧ p_ = [] | 2 => v_ = .pointer (some ⟨b1, 0 + 0, none⟩) ∧ p_ = [] | 3 => v_ = .int .i64 n ∧ p_ = [] | 4 => v_ = .int .i64 (qn n - 1) ∧ p_ = [] | 5 => v_ = .pointer (some ⟨b1, 0 + 1, none⟩) ∧ p_ = [] | 6 => v_ = .int .i64 x ∧ p_ = [] | 7 => v_ = .int .i64 ((qn n - 1) - x) ∧ p_ = [] | 8 => v_ = .agg #[.int .i64 n, .int .i64 ((qn n - 1) - x)] ∧ p_ = [] | _ => True) (List.take_append_drop 9 _).symm (by kernel_rfl) (by kernel_rfl) rfl rfl ?_ ?_
  ·
    refine ⟨?_, ?_, ?_, ?_, ?_, ?_, ?_, ?_, ?_, trivial⟩
    ·
      intro vf pf hR
      refine Or.inl ⟨rfl, ?_⟩
      refine rq_less (l' := [boxE b2 #[.int .i64 0, .int .i64 0] 25, boxE b1 #[.int .i64 n, .int .i64 x] 25]) (sub_cons (d := 1) rfl (sub_nil _)) (List.sublist_append_right _ _) ?_
      exact rq_v (rv_field (k0 := 0) rfl (by kernel_rfl) rfl)
    ·
      intro vf pf hR
      have e0 : (vf 0) = .pointer (some ⟨b1, 0 + 0, none⟩) ∧ (pf 0) = [] := hR 0 (by decide)
      refine Or.inl ⟨rfl, ?_⟩
      refine rq_less (l' := [boxE b2 #[.int .i64 0, .int .i64 0] 25, boxE b1 #[.int .i64 n, .int .i64 x] 25]) (sub_cons (d := 7) (congrArg some e0.1) (sub_nil _)) (List.sublist_append_right _ _) ?_
      exact rq_v (rv_load rfl (by kernel_rfl) rfl (box_cell 1 rfl rfl))
    ·
      intro vf pf hR
      refine Or.inl ⟨rfl, ?_⟩
      refine rq_less (l' := [boxE b2 #[.int .i64 0, .int .i64 0] 25, boxE b1 #[.int .i64 n, .int .i64 x] 25]) (sub_cons (d := 1) rfl (sub_nil _)) (List.sublist_append_right _ _) ?_
      exact rq_v (rv_field (k0 := 0) rfl (by kernel_rfl) rfl)
    ·
      intro vf pf hR
      have e2 : (vf 2) = .pointer (some ⟨b1, 0 + 0, none⟩) ∧ (pf 2) = [] := hR 2 (by decide)
      refine Or.inl ⟨rfl, ?_⟩
      refine rq_less (l' := [boxE b2 #[.int .i64 0, .int .i64 0] 25, boxE b1 #[.int .i64 n, .int .i64 x] 25]) (sub_cons (d := 9) (congrArg some e2.1) (sub_nil _)) (List.sublist_append_right _ _) ?_
      exact rq_v (rv_load rfl (by kernel_rfl) rfl (box_cell 1 rfl rfl))
    ·
      intro vf pf hR
      have e3 : (vf 3) = .int .i64 n ∧ (pf 3) = [] := hR 3 (by decide)
      refine Or.inl ⟨rfl, ?_⟩
      refine rq_less (l' := [boxE b2 #[.int .i64 0, .int .i64 0] 25, boxE b1 #[.int .i64 n, .int .i64 x] 25]) (sub_cons (d := 10) (congrArg some e3.1) (sub_nil _)) (List.sublist_append_right _ _) ?_
      exact (rq_call (by kernel_rfl) rfl (fun w hm => ret_ans (l02Full_ans _ w (by omega))))
    ·
      intro vf pf hR
      refine Or.inl ⟨rfl, ?_⟩
      refine rq_less (l' := [boxE b2 #[.int .i64 0, .int .i64 0] 25, boxE b1 #[.int .i64 n, .int .i64 x] 25]) (sub_cons (d := 1) rfl (sub_nil _)) (List.sublist_append_right _ _) ?_
      exact rq_v (rv_field (k0 := 1) rfl (by kernel_rfl) rfl)
    ·
      intro vf pf hR
      have e5 : (vf 5) = .pointer (some ⟨b1, 0 + 1, none⟩) ∧ (pf 5) = [] := hR 5 (by decide)
      refine Or.inl ⟨rfl, ?_⟩
      refine rq_less (l' := [boxE b2 #[.int .i64 0, .int .i64 0] 25, boxE b1 #[.int .i64 n, .int .i64 x] 25]) (sub_cons (d := 12) (congrArg some e5.1) (sub_nil _)) (List.sublist_append_right _ _) ?_
      exact rq_v (rv_load rfl (by kernel_rfl) rfl (box_cell 1 rfl rfl))
    ·
      intro vf pf hR
      have e4 : (vf 4) = .int .i64 (qn n - 1) ∧ (pf 4) = [] := hR 4 (by decide)
      have e6 : (vf 6) = .int .i64 x ∧ (pf 6) = [] := hR 6 (by decide)
      refine Or.inl ⟨rfl, ?_⟩
      refine rq_less (l' := [boxE b2 #[.int .i64 0, .int .i64 0] 25, boxE b1 #[.int .i64 n, .int .i64 x] 25]) (sub_cons (d := 11) (congrArg some e4.1) (sub_cons (d := 13) (congrArg some e6.1) (sub_nil _))) (List.sublist_append_right _ _) ?_
      exact rq_v (rv_sub rfl rfl rfl (by constructor <;> omega))
    ·
      intro vf pf hR
      have e1 : (vf 1) = .int .i64 n ∧ (pf 1) = [] := hR 1 (by decide)
      have e7 : (vf 7) = .int .i64 ((qn n - 1) - x) ∧ (pf 7) = [] := hR 7 (by decide)
      refine Or.inl ⟨rfl, ?_⟩
      refine rq_less (l' := [boxE b2 #[.int .i64 0, .int .i64 0] 25, boxE b1 #[.int .i64 n, .int .i64 x] 25]) (sub_cons (d := 8) (congrArg some e1.1) (sub_cons (d := 14) (congrArg some e7.1) (sub_nil _))) (List.sublist_append_right _ _) ?_
      exact rq_v (rv_build (cs := #[.int .i64 n, .int .i64 ((qn n - 1) - x)]) rfl rfl (by kernel_rfl))
  ·
    intro vf pf hR
    have e8 : (vf 8) = .agg #[.int .i64 n, .int .i64 ((qn n - 1) - x)] ∧ (pf 8) = [] := hR 8 (by decide)
    refine hl_less (l' := [boxE b2 #[.int .i64 0, .int .i64 0] 25, boxE b1 #[.int .i64 n, .int .i64 x] 25]) (sub_cons (d := 0) rfl (sub_cons (d := 1) rfl (sub_cons (d := 2) rfl (sub_cons (d := 5) rfl (sub_cons (d := 15) (congrArg some e8.1) (sub_nil _)))))) (List.sublist_append_right _ _) ?_
    simp only [List.drop_succ_cons, List.drop_zero]
    refine hl_storeBoxN (i := 0) (off := 0) (us := [.int .i64 n, .int .i64 ((qn n - 1) - x)]) (l' := [boxE b2 #[.int .i64 n, .int .i64 ((qn n - 1) - x)] 25, boxE b1 #[.int .i64 n, .int .i64 x] 25]) rfl rfl rfl (by kernel_rfl) rfl rfl rfl (all_cons rfl (all_cons rfl all_nil)) rfl rfl rfl ?_
    refine hl_less (sub_cons (d := 0) rfl (sub_cons (d := 1) rfl (sub_cons (d := 2) rfl (sub_cons (d := 5) rfl (sub_nil _))))) (.refl _) ?_
    refine hl_nil ?_
    refine hq_then ?_
    refine hc_ret ?_
    exact hq_retM (rs := [.cell 2 25]) (vs := [.agg #[.int .i64 n, .int .i64 ((qn n - 1) - x)]]) (post := []) rfl ⟨⟨b2, 0, [.int .i64 n, .int .i64 ((qn n - 1) - x)], rfl, rfl, by kernel_rfl, by kernel_rfl, box_part 0 rfl 0 rfl⟩, trivial⟩ rfl ((.cons _ (.cons _ .slnil))) ⟨rfl, ⟨n, (qn n - 1) - x⟩, ⟨hn, by constructor <;> dsimp only <;> omega⟩, rfl, rfl⟩
set_option maxHeartbeats 4000000 in
set_option maxRecDepth 100000 in
theorem TableAnd_ret (n x y : Int) (w : World) (hn : 0 ≤ n ∧ n ≤ 4) (ha : 0 ≤ x ∧ x ≤ qn n - 1) (hb : 0 ≤ y ∧ y ≤ qn n - 1) :
    Calls Try.prog 56 #[.agg #[.int .i64 n, .int .i64 x], .agg #[.int .i64 n, .int .i64 y]] w (Ret w (fun v' post => post = [] ∧ ∃ t : Tab, TabOk t ∧ t.N = n ∧ v' = .agg #[.int .i64 t.N, .int .i64 t.B])) := by
  have hq := qn_rng hn
  refine calls_hc (N := 29) (args := [.agg #[.int .i64 n, .int .i64 x], .agg #[.int .i64 n, .int .i64 y]]) Try.func56 rfl rfl ?_
  refine hc_less _ (sub_cons (d := 0) rfl (sub_cons (d := 1) rfl (sub_nil _))) (.refl _) ?_
  refine hc_seq ?_
  refine hc_region ?_
  refine hl_box rfl rfl rfl (rq_box rfl rfl) ?_
  intro b1
  refine hl_box rfl rfl rfl (rq_box rfl rfl) ?_
  intro b2
  refine hl_box rfl rfl rfl (rq_alloc (z := .agg #[.int .i64 0, .int .i64 0]) rfl (by kernel_rfl)) ?_
  intro b3
  refine hl_less (sub_cons (d := 0) rfl (sub_cons (d := 1) rfl (sub_cons (d := 2) rfl (sub_cons (d := 3) rfl (sub_cons (d := 4) rfl (sub_nil _)))))) (.refl _) ?_
  refine hl_nil ?_
  refine hq_then ?_
  refine hc_seq ?_
  refine hc_seq ?_
  refine hc_region ?_
  refine hl_v rfl rfl rfl (rv_loadN (cs := [.int .i64 n, .int .i64 x]) rfl (by kernel_rfl) (by kernel_rfl) rfl rfl (box_part 2 rfl 0 rfl)) ?_
  refine hl_callV rfl rfl rfl (rq_call (by kernel_rfl) rfl (fun w hm => ret_ans (specTableOk_yes ⟨n, x⟩ w ⟨(by show 0 ≤ n ∧ n ≤ 4; omega), (by show 0 ≤ x ∧ x ≤ qn (n) - 1; omega)⟩))) ?_
  refine hl_v rfl rfl rfl (rv_ev rfl) ?_
  refine hl_v rfl rfl rfl (rv_ev rfl) ?_
  refine hl_v rfl rfl rfl (rv_loadN (cs := [.int .i64 n, .int .i64 y]) rfl (by kernel_rfl) (by kernel_rfl) rfl rfl (box_part 1 rfl 0 rfl)) ?_
  refine hl_callV rfl rfl rfl (rq_call (by kernel_rfl) rfl (fun w hm => ret_ans (specTableOk_yes ⟨n, y⟩ w ⟨(by show 0 ≤ n ∧ n ≤ 4; omega), (by show 0 ≤ y ∧ y ≤ qn (n) - 1; omega)⟩))) ?_
  refine hl_v rfl rfl rfl (rv_ev rfl) ?_
  refine hl_v rfl rfl rfl (rv_ev rfl) ?_
  refine hl_v rfl rfl rfl (rv_ev rfl) ?_
  refine hl_v rfl rfl rfl (rv_field (k0 := 0) rfl (by kernel_rfl) rfl) ?_
  refine hl_v rfl rfl rfl (rv_load rfl (by kernel_rfl) rfl (box_cell 2 rfl rfl)) ?_
  refine hl_v rfl rfl rfl (rv_field (k0 := 0) rfl (by kernel_rfl) rfl) ?_
  refine hl_v rfl rfl rfl (rv_load rfl (by kernel_rfl) rfl (box_cell 1 rfl rfl)) ?_
  refine hl_neq rfl rfl rfl rfl rfl rfl (fun h4 => absurd h4 (by omega)) (fun h4 => ?_)
  refine hl_v rfl rfl rfl (rv_ev rfl) ?_
  refine hl_less (sub_cons (d := 0) rfl (sub_cons (d := 1) rfl (sub_cons (d := 2) rfl (sub_cons (d := 3) rfl (sub_cons (d := 4) rfl (sub_cons (d := 19) rfl (sub_nil _))))))) (.refl _) ?_
  refine hl_nil ?_
  refine hq_then ?_
  refine hc_false rfl ?_
  refine hc_skip ?_
  refine hq_then ?_
  refine hc_seq ?_
  refine hc_region ?_
  refine hl_v rfl rfl rfl (rv_field (k0 := 0) rfl (by kernel_rfl) rfl) ?_
  refine hl_v rfl rfl rfl (rv_load rfl (by kernel_rfl) rfl (box_cell 2 rfl rfl)) ?_
  refine hl_v rfl rfl rfl (rv_field (k0 := 1) rfl (by kernel_rfl) rfl) ?_
  refine hl_v rfl rfl rfl (rv_load rfl (by kernel_rfl) rfl (box_cell 2 rfl rfl)) ?_
  refine hl_v rfl rfl rfl (rv_field (k0 := 1) rfl (by kernel_rfl) rfl) ?_
  refine hl_v rfl rfl rfl (rv_load rfl (by kernel_rfl) rfl (box_cell 1 rfl rfl)) ?_
  refine hl_v rfl rfl rfl (rv_bits rfl (by decide) rfl rfl (r := ((x.toNat &&& y.toNat : Nat) : Int)) (Bit.and_int _ _ (by omega) (by omega) (by omega) (by omega))) ?_
  refine hl_v rfl rfl rfl (rv_build (cs := #[.int .i64 n, .int .i64 ((x.toNat &&& y.toNat : Nat) : Int)]) rfl rfl (by kernel_rfl)) ?_
  refine hl_storeBoxN (i := 0) (off := 0) (us := [.int .i64 n, .int .i64 ((x.toNat &&& y.toNat : Nat) : Int)]) (l' := [boxE b3 #[.int .i64 n, .int .i64 ((x.toNat &&& y.toNat : Nat) : Int)] 25, boxE b2 #[.int .i64 n, .int .i64 y] 25, boxE b1 #[.int .i64 n, .int .i64 x] 25]) rfl rfl rfl (by kernel_rfl) rfl rfl rfl (all_cons rfl (all_cons rfl all_nil)) rfl rfl rfl ?_
  refine hl_less (sub_cons (d := 0) rfl (sub_cons (d := 1) rfl (sub_cons (d := 2) rfl (sub_cons (d := 3) rfl (sub_cons (d := 4) rfl (sub_cons (d := 19) rfl (sub_nil _))))))) (.refl _) ?_
  refine hl_nil ?_
  refine hq_then ?_
  refine hc_ret ?_
  exact hq_retM (rs := [.cell 4 25]) (vs := [.agg #[.int .i64 n, .int .i64 ((x.toNat &&& y.toNat : Nat) : Int)]]) (post := []) rfl ⟨⟨b3, 0, [.int .i64 n, .int .i64 ((x.toNat &&& y.toNat : Nat) : Int)], rfl, rfl, by kernel_rfl, by kernel_rfl, box_part 0 rfl 0 rfl⟩, trivial⟩ rfl ((.cons _ (.cons _ (.cons _ .slnil)))) ⟨rfl, ⟨n, ((x.toNat &&& y.toNat : Nat) : Int)⟩, ⟨hn, and_q ha hb⟩, rfl, rfl⟩
set_option maxHeartbeats 4000000 in
set_option maxRecDepth 100000 in
theorem TableXor_ret (n x y : Int) (w : World) (hn : 0 ≤ n ∧ n ≤ 4) (ha : 0 ≤ x ∧ x ≤ qn n - 1) (hb : 0 ≤ y ∧ y ≤ qn n - 1) :
    Calls Try.prog 57 #[.agg #[.int .i64 n, .int .i64 x], .agg #[.int .i64 n, .int .i64 y]] w (Ret w (fun v' post => post = [] ∧ ∃ t : Tab, TabOk t ∧ t.N = n ∧ v' = .agg #[.int .i64 t.N, .int .i64 t.B])) := by
  have hq := qn_rng hn
  refine calls_hc (N := 29) (args := [.agg #[.int .i64 n, .int .i64 x], .agg #[.int .i64 n, .int .i64 y]]) Try.func57 rfl rfl ?_
  refine hc_less _ (sub_cons (d := 0) rfl (sub_cons (d := 1) rfl (sub_nil _))) (.refl _) ?_
  refine hc_seq ?_
  refine hc_region ?_
  refine hl_box rfl rfl rfl (rq_box rfl rfl) ?_
  intro b1
  refine hl_box rfl rfl rfl (rq_box rfl rfl) ?_
  intro b2
  refine hl_box rfl rfl rfl (rq_alloc (z := .agg #[.int .i64 0, .int .i64 0]) rfl (by kernel_rfl)) ?_
  intro b3
  refine hl_less (sub_cons (d := 0) rfl (sub_cons (d := 1) rfl (sub_cons (d := 2) rfl (sub_cons (d := 3) rfl (sub_cons (d := 4) rfl (sub_nil _)))))) (.refl _) ?_
  refine hl_nil ?_
  refine hq_then ?_
  refine hc_seq ?_
  refine hc_seq ?_
  refine hc_region ?_
  refine hl_v rfl rfl rfl (rv_loadN (cs := [.int .i64 n, .int .i64 x]) rfl (by kernel_rfl) (by kernel_rfl) rfl rfl (box_part 2 rfl 0 rfl)) ?_
  refine hl_callV rfl rfl rfl (rq_call (by kernel_rfl) rfl (fun w hm => ret_ans (specTableOk_yes ⟨n, x⟩ w ⟨(by show 0 ≤ n ∧ n ≤ 4; omega), (by show 0 ≤ x ∧ x ≤ qn (n) - 1; omega)⟩))) ?_
  refine hl_v rfl rfl rfl (rv_ev rfl) ?_
  refine hl_v rfl rfl rfl (rv_ev rfl) ?_
  refine hl_v rfl rfl rfl (rv_loadN (cs := [.int .i64 n, .int .i64 y]) rfl (by kernel_rfl) (by kernel_rfl) rfl rfl (box_part 1 rfl 0 rfl)) ?_
  refine hl_callV rfl rfl rfl (rq_call (by kernel_rfl) rfl (fun w hm => ret_ans (specTableOk_yes ⟨n, y⟩ w ⟨(by show 0 ≤ n ∧ n ≤ 4; omega), (by show 0 ≤ y ∧ y ≤ qn (n) - 1; omega)⟩))) ?_
  refine hl_v rfl rfl rfl (rv_ev rfl) ?_
  refine hl_v rfl rfl rfl (rv_ev rfl) ?_
  refine hl_v rfl rfl rfl (rv_ev rfl) ?_
  refine hl_v rfl rfl rfl (rv_field (k0 := 0) rfl (by kernel_rfl) rfl) ?_
  refine hl_v rfl rfl rfl (rv_load rfl (by kernel_rfl) rfl (box_cell 2 rfl rfl)) ?_
  refine hl_v rfl rfl rfl (rv_field (k0 := 0) rfl (by kernel_rfl) rfl) ?_
  refine hl_v rfl rfl rfl (rv_load rfl (by kernel_rfl) rfl (box_cell 1 rfl rfl)) ?_
  refine hl_neq rfl rfl rfl rfl rfl rfl (fun h4 => absurd h4 (by omega)) (fun h4 => ?_)
  refine hl_v rfl rfl rfl (rv_ev rfl) ?_
  refine hl_less (sub_cons (d := 0) rfl (sub_cons (d := 1) rfl (sub_cons (d := 2) rfl (sub_cons (d := 3) rfl (sub_cons (d := 4) rfl (sub_cons (d := 19) rfl (sub_nil _))))))) (.refl _) ?_
  refine hl_nil ?_
  refine hq_then ?_
  refine hc_false rfl ?_
  refine hc_skip ?_
  refine hq_then ?_
  refine hc_seq ?_
  refine hc_region ?_
  refine hl_v rfl rfl rfl (rv_field (k0 := 0) rfl (by kernel_rfl) rfl) ?_
  refine hl_v rfl rfl rfl (rv_load rfl (by kernel_rfl) rfl (box_cell 2 rfl rfl)) ?_
  refine hl_v rfl rfl rfl (rv_field (k0 := 1) rfl (by kernel_rfl) rfl) ?_
  refine hl_v rfl rfl rfl (rv_load rfl (by kernel_rfl) rfl (box_cell 2 rfl rfl)) ?_
  refine hl_v rfl rfl rfl (rv_field (k0 := 1) rfl (by kernel_rfl) rfl) ?_
  refine hl_v rfl rfl rfl (rv_load rfl (by kernel_rfl) rfl (box_cell 1 rfl rfl)) ?_
  refine hl_v rfl rfl rfl (rv_bits rfl (by decide) rfl rfl (r := ((x.toNat ^^^ y.toNat : Nat) : Int)) (Bit.xor_int _ _ (by omega) (by omega) (by omega) (by omega))) ?_
  refine hl_v rfl rfl rfl (rv_build (cs := #[.int .i64 n, .int .i64 ((x.toNat ^^^ y.toNat : Nat) : Int)]) rfl rfl (by kernel_rfl)) ?_
  refine hl_storeBoxN (i := 0) (off := 0) (us := [.int .i64 n, .int .i64 ((x.toNat ^^^ y.toNat : Nat) : Int)]) (l' := [boxE b3 #[.int .i64 n, .int .i64 ((x.toNat ^^^ y.toNat : Nat) : Int)] 25, boxE b2 #[.int .i64 n, .int .i64 y] 25, boxE b1 #[.int .i64 n, .int .i64 x] 25]) rfl rfl rfl (by kernel_rfl) rfl rfl rfl (all_cons rfl (all_cons rfl all_nil)) rfl rfl rfl ?_
  refine hl_less (sub_cons (d := 0) rfl (sub_cons (d := 1) rfl (sub_cons (d := 2) rfl (sub_cons (d := 3) rfl (sub_cons (d := 4) rfl (sub_cons (d := 19) rfl (sub_nil _))))))) (.refl _) ?_
  refine hl_nil ?_
  refine hq_then ?_
  refine hc_ret ?_
  exact hq_retM (rs := [.cell 4 25]) (vs := [.agg #[.int .i64 n, .int .i64 ((x.toNat ^^^ y.toNat : Nat) : Int)]]) (post := []) rfl ⟨⟨b3, 0, [.int .i64 n, .int .i64 ((x.toNat ^^^ y.toNat : Nat) : Int)], rfl, rfl, by kernel_rfl, by kernel_rfl, box_part 0 rfl 0 rfl⟩, trivial⟩ rfl ((.cons _ (.cons _ (.cons _ .slnil)))) ⟨rfl, ⟨n, ((x.toNat ^^^ y.toNat : Nat) : Int)⟩, ⟨hn, xor_q hn ha hb⟩, rfl, rfl⟩
set_option maxHeartbeats 4000000 in
set_option maxRecDepth 100000 in
theorem l02Table_mut (g : Nat) (a : Option Addr) (len cap : Nat) (z : List Int) (w0 : World) (l : List HP) (w : World) (hm0 : Mem w0 (curE g a len cap :: l) w) (hb : BRow .u8 w0 a len cap z) :
    Calls Try.prog 27 #[.pointer (some ⟨g, 0, none⟩)] w (fun e_ w_ => ∃ v_ p_, e_ = .returned v_ ∧ (fun u_ p_ => (∃ t : Tab, TabOk t ∧ u_ = .agg #[.int .i64 t.N, .int .i64 t.B]) ∧ p_ = curE g a len cap) v_ p_ ∧ Mem w0 (p_ :: l) w_) := by
  refine calls_hcM (N := 50) (args := [.pointer (some ⟨g, 0, none⟩)]) Try.func27 rfl rfl hm0 ?_
  refine hc_less _ (sub_cons (d := 0) rfl (sub_nil _)) (.refl _) ?_
  refine hc_seq ?_
  refine hc_region ?_
  refine hl_box rfl rfl rfl (rq_alloc (z := .agg #[.int .i64 0, .int .i64 0]) rfl (by kernel_rfl)) ?_
  intro b1
  refine hl_less (sub_cons (d := 0) rfl (sub_cons (d := 2) rfl (sub_nil _))) (.refl _) ?_
  refine hl_nil ?_
  refine hq_then ?_
  refine hc_seq ?_
  refine hc_region ?_
  refine hl_v rfl rfl rfl (rv_ev rfl) ?_
  refine hl_callM (R := (fun u_ p_ => (∃ x : Int, u_ = .int .i64 x ∧ 0 ≤ x ∧ x < 5) ∧ p_ = curE g a len cap)) 1 rfl rfl (by kernel_rfl) rfl rfl (fun l' w hm => belowN_mut g a len cap z _ _ _ _ hm hb (by constructor <;> omega)) ?_
  intro v2 p3 hR4
  obtain ⟨⟨xhR4, rfl, xhR40, xhR41⟩, rfl⟩ := hR4
  refine hl_eqL (l' := (boxE b1 #[.int .i64 0, .int .i64 0] 25 :: curE g a len cap :: l)) rfl ?_
  refine hl_v rfl rfl rfl (rv_ev rfl) ?_
  refine hl_less (sub_cons (d := 0) rfl (sub_cons (d := 2) rfl (sub_cons (d := 3) rfl (sub_nil _)))) (.refl _) ?_
  refine hl_nil ?_
  refine hq_then ?_
  refine hc_seq ?_
  refine hc_region ?_
  have hn : 0 ≤ xhR4 ∧ xhR4 ≤ 4 := by omega
  have hp := pn_rng hn
  have hq := qn_rng hn
  refine hl_v rfl rfl rfl (rv_ev rfl) ?_
  refine hl_v rfl rfl rfl (rv_ev rfl) ?_
  refine hl_callV rfl rfl rfl (rq_call (by kernel_rfl) rfl (fun w hm => ret_ans (l02Full_ans _ w (by omega)))) ?_
  refine hl_v rfl rfl rfl (rv_add rfl rfl rfl (by constructor <;> omega)) ?_
  refine hl_callM (R := (fun u_ p_ => (∃ x : Int, u_ = .int .i64 x ∧ 0 ≤ x ∧ x < (qn xhR4 - 1) + 1) ∧ p_ = curE g a len cap)) 1 rfl rfl (by kernel_rfl) rfl rfl (fun l' w hm => belowN_mut g a len cap z _ _ _ _ hm hb (by constructor <;> omega)) ?_
  intro v5 p6 hR7
  obtain ⟨⟨xhR7, rfl, xhR70, xhR71⟩, rfl⟩ := hR7
  refine hl_eqL (l' := (boxE b1 #[.int .i64 0, .int .i64 0] 25 :: curE g a len cap :: l)) rfl ?_
  refine hl_v rfl rfl rfl (rv_ev rfl) ?_
  refine hl_less (sub_cons (d := 0) rfl (sub_cons (d := 2) rfl (sub_cons (d := 3) rfl (sub_cons (d := 4) rfl (sub_nil _))))) (.refl _) ?_
  refine hl_nil ?_
  refine hq_then ?_
  refine hc_seq ?_
  refine hc_seq ?_
  refine hc_region ?_
  refine hl_v rfl rfl rfl (rv_ev rfl) ?_
  refine hl_callM (R := (fun u_ p_ => (∃ b : Bool, u_ = .bool b) ∧ p_ = curE g a len cap)) 1 rfl rfl (by kernel_rfl) rfl rfl (fun l' w hm => once_mut hm hb (3) (by omega) (by omega)) ?_
  intro v8 p9 hR10
  obtain ⟨⟨xhR10, rfl⟩, rfl⟩ := hR10
  refine hl_eqL (l' := (boxE b1 #[.int .i64 0, .int .i64 0] 25 :: curE g a len cap :: l)) rfl ?_
  refine hl_bool (fun h11 => ?_) (fun h11 => ?_)
  ·
    refine hl_v rfl rfl rfl (rv_ev rfl) ?_
    refine hl_v rfl rfl rfl (rv_ev rfl) ?_
    refine hl_gtr rfl rfl rfl rfl rfl rfl (fun h12 => ?_) (fun h12 => ?_)
    ·
      refine hl_v rfl rfl rfl (rv_ev rfl) ?_
      refine hl_less (sub_cons (d := 0) rfl (sub_cons (d := 2) rfl (sub_cons (d := 3) rfl (sub_cons (d := 4) rfl (sub_cons (d := 21) rfl (sub_nil _)))))) (.refl _) ?_
      refine hl_nil ?_
      refine hq_then ?_
      refine hc_true rfl ?_
      refine hc_seq ?_
      refine hc_region ?_
      refine hl_v rfl rfl rfl (rv_ev rfl) ?_
      refine hl_v rfl rfl rfl (rv_ev rfl) ?_
      refine hl_v rfl rfl rfl (rv_ev rfl) ?_
      refine hl_callM (R := (fun u_ p_ => (∃ x : Int, u_ = .int .i64 x ∧ 0 ≤ x ∧ x < xhR4) ∧ p_ = curE g a len cap)) 1 rfl rfl (by kernel_rfl) rfl rfl (fun l' w hm => belowN_mut g a len cap z _ _ _ _ hm hb (by constructor <;> omega)) ?_
      intro v13 p14 hR15
      obtain ⟨⟨xhR15, rfl, xhR150, xhR151⟩, rfl⟩ := hR15
      refine hl_eqL (l' := (boxE b1 #[.int .i64 0, .int .i64 0] 25 :: curE g a len cap :: l)) rfl ?_
      refine hl_q rfl rfl rfl (rq_call (by kernel_rfl) rfl (fun w hm => TableVar_ret _ _ w hn ⟨by omega, by omega⟩)) ?_
      intro v16 p17 hR18
      obtain ⟨rfl, thR18, okthR18, enthR18, rfl⟩ := hR18
      obtain ⟨onthR18, obthR18⟩ := okthR18
      obtain ⟨tnthR18, tbthR18⟩ := thR18
      dsimp only at enthR18 onthR18 obthR18 ⊢
      subst tnthR18
      refine hl_v rfl rfl rfl (rv_ev rfl) ?_
      refine hl_v rfl rfl rfl (rv_ev rfl) ?_
      refine hl_v rfl rfl rfl (rv_ev rfl) ?_
      refine hl_box rfl rfl rfl (rq_alloc (z := .agg #[.int .i64 0, .int .i64 0]) rfl (by kernel_rfl)) ?_
      intro b19
      refine hl_storeBoxN (i := 0) (off := 0) (us := [.int .i64 xhR4, .int .i64 tbthR18]) (l' := (boxE b19 #[.int .i64 xhR4, .int .i64 tbthR18] 25 :: boxE b1 #[.int .i64 0, .int .i64 0] 25 :: curE g a len cap :: l)) rfl rfl rfl (by kernel_rfl) rfl rfl rfl (all_cons rfl (all_cons rfl all_nil)) rfl rfl rfl ?_
      refine hl_v rfl rfl rfl (rv_ev rfl) ?_
      refine hl_less (sub_cons (d := 0) rfl (sub_cons (d := 2) rfl (sub_cons (d := 3) rfl (sub_cons (d := 4) rfl (sub_cons (d := 5) rfl (sub_cons (d := 21) rfl (sub_nil _))))))) (.refl _) ?_
      refine hl_nil ?_
      refine hq_then ?_
      refine hc_seq ?_
      refine hc_region ?_
      refine hl_v rfl rfl rfl (rv_ev rfl) ?_
      refine hl_v rfl rfl rfl (rv_ev rfl) ?_
      refine hl_v rfl rfl rfl (rv_ev rfl) ?_
      refine hl_callM (R := (fun u_ p_ => (∃ x : Int, u_ = .int .i64 x ∧ 0 ≤ x ∧ x < xhR4) ∧ p_ = curE g a len cap)) 2 rfl rfl (by kernel_rfl) rfl rfl (fun l' w hm => belowN_mut g a len cap z _ _ _ _ hm hb (by constructor <;> omega)) ?_
      intro v20 p21 hR22
      obtain ⟨⟨xhR22, rfl, xhR220, xhR221⟩, rfl⟩ := hR22
      refine hl_eqL (l' := (boxE b19 #[.int .i64 xhR4, .int .i64 tbthR18] 25 :: boxE b1 #[.int .i64 0, .int .i64 0] 25 :: curE g a len cap :: l)) rfl ?_
      refine hl_q rfl rfl rfl (rq_call (by kernel_rfl) rfl (fun w hm => TableVar_ret _ _ w hn ⟨by omega, by omega⟩)) ?_
      intro v23 p24 hR25
      obtain ⟨rfl, thR25, okthR25, enthR25, rfl⟩ := hR25
      obtain ⟨onthR25, obthR25⟩ := okthR25
      obtain ⟨tnthR25, tbthR25⟩ := thR25
      dsimp only at enthR25 onthR25 obthR25 ⊢
      subst tnthR25
      refine hl_v rfl rfl rfl (rv_ev rfl) ?_
      refine hl_v rfl rfl rfl (rv_ev rfl) ?_
      refine hl_v rfl rfl rfl (rv_ev rfl) ?_
      refine hl_box rfl rfl rfl (rq_alloc (z := .agg #[.int .i64 0, .int .i64 0]) rfl (by kernel_rfl)) ?_
      intro b26
      refine hl_storeBoxN (i := 0) (off := 0) (us := [.int .i64 xhR4, .int .i64 tbthR25]) (l' := (boxE b26 #[.int .i64 xhR4, .int .i64 tbthR25] 25 :: boxE b19 #[.int .i64 xhR4, .int .i64 tbthR18] 25 :: boxE b1 #[.int .i64 0, .int .i64 0] 25 :: curE g a len cap :: l)) rfl rfl rfl (by kernel_rfl) rfl rfl rfl (all_cons rfl (all_cons rfl all_nil)) rfl rfl rfl ?_
      refine hl_v rfl rfl rfl (rv_ev rfl) ?_
      refine hl_less (sub_cons (d := 0) rfl (sub_cons (d := 2) rfl (sub_cons (d := 3) rfl (sub_cons (d := 4) rfl (sub_cons (d := 5) rfl (sub_cons (d := 7) rfl (sub_cons (d := 21) rfl (sub_nil _)))))))) (.refl _) ?_
      refine hl_nil ?_
      refine hq_then ?_
      refine hc_seq ?_
      refine hc_seq ?_
      refine hc_region ?_
      refine hl_v rfl rfl rfl (rv_ev rfl) ?_
      refine hl_callM (R := (fun u_ p_ => (∃ b : Bool, u_ = .bool b) ∧ p_ = curE g a len cap)) 3 rfl rfl (by kernel_rfl) rfl rfl (fun l' w hm => once_mut hm hb (2) (by omega) (by omega)) ?_
      intro v27 p28 hR29
      obtain ⟨⟨xhR29, rfl⟩, rfl⟩ := hR29
      refine hl_eqL (l' := (boxE b26 #[.int .i64 xhR4, .int .i64 tbthR25] 25 :: boxE b19 #[.int .i64 xhR4, .int .i64 tbthR18] 25 :: boxE b1 #[.int .i64 0, .int .i64 0] 25 :: curE g a len cap :: l)) rfl ?_
      refine hl_bool (fun h30 => ?_) (fun h30 => ?_)
      ·
        refine hl_less (sub_cons (d := 0) rfl (sub_cons (d := 2) rfl (sub_cons (d := 3) rfl (sub_cons (d := 4) rfl (sub_cons (d := 5) rfl (sub_cons (d := 7) rfl (sub_cons (d := 21) rfl (sub_cons (d := 39) rfl (sub_nil _))))))))) (.refl _) ?_
        refine hl_nil ?_
        refine hq_then ?_
        refine hc_true rfl ?_
        refine hc_seq ?_
        refine hc_region ?_
        refine hl_v rfl rfl rfl (rv_loadN (cs := [.int .i64 xhR4, .int .i64 tbthR18]) rfl (by kernel_rfl) (by kernel_rfl) rfl rfl (box_part 1 rfl 0 rfl)) ?_
        refine hl_v rfl rfl rfl (rv_loadN (cs := [.int .i64 xhR4, .int .i64 tbthR25]) rfl (by kernel_rfl) (by kernel_rfl) rfl rfl (box_part 0 rfl 0 rfl)) ?_
        refine hl_q rfl rfl rfl (rq_call (by kernel_rfl) rfl (fun w hm => TableAnd_ret _ _ _ w hn (by omega) (by omega))) ?_
        intro v31 p32 hR33
        obtain ⟨rfl, thR33, okthR33, enthR33, rfl⟩ := hR33
        obtain ⟨onthR33, obthR33⟩ := okthR33
        obtain ⟨tnthR33, tbthR33⟩ := thR33
        dsimp only at enthR33 onthR33 obthR33 ⊢
        subst tnthR33
        refine hl_q rfl rfl rfl (rq_call (by kernel_rfl) rfl (fun w hm => TableNot_ret _ _ w hn (by omega))) ?_
        intro v34 p35 hR36
        obtain ⟨rfl, thR36, okthR36, enthR36, rfl⟩ := hR36
        obtain ⟨onthR36, obthR36⟩ := okthR36
        obtain ⟨tnthR36, tbthR36⟩ := thR36
        dsimp only at enthR36 onthR36 obthR36 ⊢
        subst tnthR36
        refine hl_storeBoxN (i := 2) (off := 0) (us := [.int .i64 xhR4, .int .i64 tbthR36]) (l' := (boxE b26 #[.int .i64 xhR4, .int .i64 tbthR25] 25 :: boxE b19 #[.int .i64 xhR4, .int .i64 tbthR18] 25 :: boxE b1 #[.int .i64 xhR4, .int .i64 tbthR36] 25 :: curE g a len cap :: l)) rfl rfl rfl (by kernel_rfl) rfl rfl rfl (all_cons rfl (all_cons rfl all_nil)) rfl rfl rfl ?_
        refine hl_less (sub_cons (d := 0) rfl (sub_cons (d := 2) rfl (sub_cons (d := 3) rfl (sub_cons (d := 4) rfl (sub_cons (d := 5) rfl (sub_cons (d := 7) rfl (sub_cons (d := 21) rfl (sub_cons (d := 39) rfl (sub_nil _))))))))) (.refl _) ?_
        refine hl_nil ?_
        refine hq_then ?_
        refine hc_ret ?_
        refine hq_then_ret ?_
        refine hq_then_ret ?_
        exact hq_ret (rs := [.cell 2 25]) (vs := [.agg #[.int .i64 xhR4, .int .i64 tbthR36]]) rfl ⟨⟨b1, 0, [.int .i64 xhR4, .int .i64 tbthR36], rfl, rfl, by kernel_rfl, by kernel_rfl, box_part 2 rfl 0 rfl⟩, trivial⟩ rfl (fun w hm => ⟨_, curE g a len cap, rfl, ⟨⟨⟨xhR4, tbthR36⟩, ⟨(by show 0 ≤ xhR4 ∧ xhR4 ≤ 4; omega), (by show 0 ≤ tbthR36 ∧ tbthR36 ≤ qn (xhR4) - 1; omega)⟩, rfl⟩, rfl⟩, hm.sub ((.cons _ (.cons _ (.cons _ (.cons_cons _ (.refl _))))))⟩)
      ·
        refine hl_less (sub_cons (d := 0) rfl (sub_cons (d := 2) rfl (sub_cons (d := 3) rfl (sub_cons (d := 4) rfl (sub_cons (d := 5) rfl (sub_cons (d := 7) rfl (sub_cons (d := 21) rfl (sub_cons (d := 39) rfl (sub_nil _))))))))) (.refl _) ?_
        refine hl_nil ?_
        refine hq_then ?_
        refine hc_false rfl ?_
        refine hc_skip ?_
        refine hq_then ?_
        refine hc_seq ?_
        refine hc_region ?_
        refine hl_v rfl rfl rfl (rv_loadN (cs := [.int .i64 xhR4, .int .i64 tbthR18]) rfl (by kernel_rfl) (by kernel_rfl) rfl rfl (box_part 1 rfl 0 rfl)) ?_
        refine hl_v rfl rfl rfl (rv_loadN (cs := [.int .i64 xhR4, .int .i64 tbthR25]) rfl (by kernel_rfl) (by kernel_rfl) rfl rfl (box_part 0 rfl 0 rfl)) ?_
        refine hl_q rfl rfl rfl (rq_call (by kernel_rfl) rfl (fun w hm => TableXor_ret _ _ _ w hn (by omega) (by omega))) ?_
        intro v37 p38 hR39
        obtain ⟨rfl, thR39, okthR39, enthR39, rfl⟩ := hR39
        obtain ⟨onthR39, obthR39⟩ := okthR39
        obtain ⟨tnthR39, tbthR39⟩ := thR39
        dsimp only at enthR39 onthR39 obthR39 ⊢
        subst tnthR39
        refine hl_storeBoxN (i := 2) (off := 0) (us := [.int .i64 xhR4, .int .i64 tbthR39]) (l' := (boxE b26 #[.int .i64 xhR4, .int .i64 tbthR25] 25 :: boxE b19 #[.int .i64 xhR4, .int .i64 tbthR18] 25 :: boxE b1 #[.int .i64 xhR4, .int .i64 tbthR39] 25 :: curE g a len cap :: l)) rfl rfl rfl (by kernel_rfl) rfl rfl rfl (all_cons rfl (all_cons rfl all_nil)) rfl rfl rfl ?_
        refine hl_less (sub_cons (d := 0) rfl (sub_cons (d := 2) rfl (sub_cons (d := 3) rfl (sub_cons (d := 4) rfl (sub_cons (d := 5) rfl (sub_cons (d := 7) rfl (sub_cons (d := 21) rfl (sub_cons (d := 39) rfl (sub_nil _))))))))) (.refl _) ?_
        refine hl_nil ?_
        refine hq_then ?_
        refine hc_ret ?_
        refine hq_then_ret ?_
        exact hq_ret (rs := [.cell 2 25]) (vs := [.agg #[.int .i64 xhR4, .int .i64 tbthR39]]) rfl ⟨⟨b1, 0, [.int .i64 xhR4, .int .i64 tbthR39], rfl, rfl, by kernel_rfl, by kernel_rfl, box_part 2 rfl 0 rfl⟩, trivial⟩ rfl (fun w hm => ⟨_, curE g a len cap, rfl, ⟨⟨⟨xhR4, tbthR39⟩, ⟨(by show 0 ≤ xhR4 ∧ xhR4 ≤ 4; omega), (by show 0 ≤ tbthR39 ∧ tbthR39 ≤ qn (xhR4) - 1; omega)⟩, rfl⟩, rfl⟩, hm.sub ((.cons _ (.cons _ (.cons _ (.cons_cons _ (.refl _))))))⟩)
    ·
      refine hl_v rfl rfl rfl (rv_ev rfl) ?_
      refine hl_less (sub_cons (d := 0) rfl (sub_cons (d := 2) rfl (sub_cons (d := 3) rfl (sub_cons (d := 4) rfl (sub_cons (d := 21) rfl (sub_nil _)))))) (.refl _) ?_
      refine hl_nil ?_
      refine hq_then ?_
      refine hc_false rfl ?_
      refine hc_skip ?_
      refine hq_then ?_
      refine hc_seq ?_
      refine hc_region ?_
      refine hl_v rfl rfl rfl (rv_ev rfl) ?_
      refine hl_v rfl rfl rfl (rv_ev rfl) ?_
      refine hl_v rfl rfl rfl (rv_build (cs := #[.int .i64 xhR4, .int .i64 xhR7]) rfl rfl (by kernel_rfl)) ?_
      refine hl_storeBoxN (i := 0) (off := 0) (us := [.int .i64 xhR4, .int .i64 xhR7]) (l' := (boxE b1 #[.int .i64 xhR4, .int .i64 xhR7] 25 :: curE g a len cap :: l)) rfl rfl rfl (by kernel_rfl) rfl rfl rfl (all_cons rfl (all_cons rfl all_nil)) rfl rfl rfl ?_
      refine hl_less (sub_cons (d := 0) rfl (sub_cons (d := 2) rfl (sub_cons (d := 3) rfl (sub_cons (d := 4) rfl (sub_cons (d := 21) rfl (sub_nil _)))))) (.refl _) ?_
      refine hl_nil ?_
      refine hq_then ?_
      refine hc_ret ?_
      exact hq_ret (rs := [.cell 2 25]) (vs := [.agg #[.int .i64 xhR4, .int .i64 xhR7]]) rfl ⟨⟨b1, 0, [.int .i64 xhR4, .int .i64 xhR7], rfl, rfl, by kernel_rfl, by kernel_rfl, box_part 0 rfl 0 rfl⟩, trivial⟩ rfl (fun w hm => ⟨_, curE g a len cap, rfl, ⟨⟨⟨xhR4, xhR7⟩, ⟨(by show 0 ≤ xhR4 ∧ xhR4 ≤ 4; omega), (by show 0 ≤ xhR7 ∧ xhR7 ≤ qn (xhR4) - 1; omega)⟩, rfl⟩, rfl⟩, hm.sub ((.cons _ (.cons_cons _ (.refl _))))⟩)
  ·
    refine hl_v rfl rfl rfl (rv_ev rfl) ?_
    refine hl_skip rfl rfl rfl ?_
    refine hl_skip rfl rfl rfl ?_
    refine hl_v rfl rfl rfl (rv_ev rfl) ?_
    refine hl_less (sub_cons (d := 0) rfl (sub_cons (d := 2) rfl (sub_cons (d := 3) rfl (sub_cons (d := 4) rfl (sub_cons (d := 21) rfl (sub_nil _)))))) (.refl _) ?_
    refine hl_nil ?_
    refine hq_then ?_
    refine hc_false rfl ?_
    refine hc_skip ?_
    refine hq_then ?_
    refine hc_seq ?_
    refine hc_region ?_
    refine hl_v rfl rfl rfl (rv_ev rfl) ?_
    refine hl_v rfl rfl rfl (rv_ev rfl) ?_
    refine hl_v rfl rfl rfl (rv_build (cs := #[.int .i64 xhR4, .int .i64 xhR7]) rfl rfl (by kernel_rfl)) ?_
    refine hl_storeBoxN (i := 0) (off := 0) (us := [.int .i64 xhR4, .int .i64 xhR7]) (l' := (boxE b1 #[.int .i64 xhR4, .int .i64 xhR7] 25 :: curE g a len cap :: l)) rfl rfl rfl (by kernel_rfl) rfl rfl rfl (all_cons rfl (all_cons rfl all_nil)) rfl rfl rfl ?_
    refine hl_less (sub_cons (d := 0) rfl (sub_cons (d := 2) rfl (sub_cons (d := 3) rfl (sub_cons (d := 4) rfl (sub_cons (d := 21) rfl (sub_nil _)))))) (.refl _) ?_
    refine hl_nil ?_
    refine hq_then ?_
    refine hc_ret ?_
    exact hq_ret (rs := [.cell 2 25]) (vs := [.agg #[.int .i64 xhR4, .int .i64 xhR7]]) rfl ⟨⟨b1, 0, [.int .i64 xhR4, .int .i64 xhR7], rfl, rfl, by kernel_rfl, by kernel_rfl, box_part 0 rfl 0 rfl⟩, trivial⟩ rfl (fun w hm => ⟨_, curE g a len cap, rfl, ⟨⟨⟨xhR4, xhR7⟩, ⟨(by show 0 ≤ xhR4 ∧ xhR4 ≤ 4; omega), (by show 0 ≤ xhR7 ∧ xhR7 ≤ qn (xhR4) - 1; omega)⟩, rfl⟩, rfl⟩, hm.sub ((.cons _ (.cons_cons _ (.refl _))))⟩)
set_option maxHeartbeats 4000000 in
set_option maxRecDepth 100000 in
theorem DrawTable_ret (a : Option Addr) (len cap : Nat) (z : List Int) (w : World) (hb : BRow .u8 w a len cap z) (hlen : len ≤ 1048576) :
    Calls Try.prog 8 #[.slice a len cap] w (Ret w (fun v' post => post = [] ∧ ∃ (t : Tab) (x : Int), TabOk t ∧ v' = .tuple #[.agg #[.int .i64 t.N, .int .i64 t.B], .int .i64 x])) := by
  refine calls_hc (N := 16) (args := [.slice a len cap]) Try.func8 rfl rfl ?_
  refine hc_less _ (sub_cons (d := 0) rfl (sub_nil _)) (.refl _) ?_
  refine hc_seq ?_
  refine hc_region ?_
  refine hl_box rfl rfl rfl (rq_alloc (z := .agg #[.int .i64 0, .int .i64 0]) rfl (by kernel_rfl)) ?_
  intro b1
  refine hl_v rfl rfl rfl (rv_ev rfl) ?_
  refine hl_less (sub_cons (d := 0) rfl (sub_cons (d := 2) rfl (sub_cons (d := 3) rfl (sub_nil _)))) (.refl _) ?_
  refine hl_nil ?_
  refine hq_then ?_
  refine hc_seq ?_
  refine hc_region ?_
  refine hl_v rfl rfl rfl (rv_ev rfl) ?_
  refine hl_q rfl rfl rfl (rq_call (by kernel_rfl) rfl (fun w hm => new_ret (hb.below hm.bel) hlen)) ?_
  intro v2 p3 hR4
  obtain ⟨ghR4, rfl, rfl⟩ := hR4
  refine hl_v rfl rfl rfl (rv_ev rfl) ?_
  refine hl_less (sub_cons (d := 0) rfl (sub_cons (d := 2) rfl (sub_cons (d := 3) rfl (sub_cons (d := 4) rfl (sub_nil _))))) (.refl _) ?_
  refine hl_nil ?_
  refine hq_then ?_
  refine hc_seq ?_
  refine hc_region ?_
  refine hl_v rfl rfl rfl (rv_ev rfl) ?_
  refine hl_callM (R := (fun u_ p_ => (∃ t : Tab, TabOk t ∧ u_ = .agg #[.int .i64 t.N, .int .i64 t.B]) ∧ p_ = curE ghR4 a len cap)) 0 rfl rfl (by kernel_rfl) rfl rfl (fun l' w hm => l02Table_mut ghR4 a len cap z _ _ _ hm hb) ?_
  intro v5 p6 hR7
  obtain ⟨⟨t, ht, rfl⟩, rfl⟩ := hR7
  have hn := ht.1
  have hp := pn_rng hn
  refine hl_eqL (l' := [curE ghR4 a len cap, boxE b1 #[.int .i64 0, .int .i64 0] 25]) rfl ?_
  refine hl_box rfl rfl rfl (rq_alloc (z := .agg #[.int .i64 0, .int .i64 0]) rfl (by kernel_rfl)) ?_
  intro b8
  refine hl_storeBoxN (i := 0) (off := 0) (us := [.int .i64 t.N, .int .i64 t.B]) (l' := [boxE b8 #[.int .i64 t.N, .int .i64 t.B] 25, curE ghR4 a len cap, boxE b1 #[.int .i64 0, .int .i64 0] 25]) rfl rfl rfl (by kernel_rfl) rfl rfl rfl (all_cons rfl (all_cons rfl all_nil)) rfl rfl rfl ?_
  refine hl_less (sub_cons (d := 0) rfl (sub_cons (d := 2) rfl (sub_cons (d := 3) rfl (sub_cons (d := 4) rfl (sub_cons (d := 5) rfl (sub_nil _)))))) (.refl _) ?_
  refine hl_nil ?_
  refine hq_then ?_
  refine hc_seq ?_
  refine hc_conv [curE ghR4 a len cap, boxE b8 #[.int .i64 t.N, .int .i64 t.B] 25, boxE b1 #[.int .i64 0, .int .i64 0] 25] (conv_pick (src := [boxE b8 #[.int .i64 t.N, .int .i64 t.B] 25, curE ghR4 a len cap, boxE b1 #[.int .i64 0, .int .i64 0] 25]) (dst := [curE ghR4 a len cap, boxE b8 #[.int .i64 t.N, .int .i64 t.B] 25, boxE b1 #[.int .i64 0, .int .i64 0] 25]) (l := []) [1, 0, 2] (by decide) rfl) ?_
  refine hc_draw2 (l := [boxE b8 #[.int .i64 t.N, .int .i64 t.B] 25, boxE b1 #[.int .i64 0, .int .i64 0] 25]) (by kernel_rfl) 6 [0, 1, 2, 3, 4, 5] (List.take 6 _) (List.drop 6 _) [[], [], [], [2], [3], [1, 4]] [10, 11, 12, 13, 14, 15] (fun i vs_ v_ p_ => match i with | 0 => v_ = .agg #[.int .i64 t.N, .int .i64 t.B] ∧ p_ = [] | 1 => v_ = .pointer (some ⟨ghR4, 0, none⟩) ∧ p_ = [] | 2 => v_ = .pointer (some ⟨b8, 0 + 0, none⟩) ∧ p_ = [] | 3 => v_ = .int .i64 t.N ∧ p_ = [] | 4 => v_ = .int .i64 (pn t.N : Int) ∧ p_ = [] | 5 => (∃ pm_, p_ = [pm_] ∧ (fun u_ p_ => (∃ x : Int, u_ = .int .i64 x ∧ 0 ≤ x ∧ x < (pn t.N : Int)) ∧ p_ = curE ghR4 a len cap) v_ pm_) | _ => True) [[], [], [], [2], [3], [1, 4]] [none, none, none, none, none, some 8] [curE ghR4 a len cap] [0, 1, 2, 3, 4, 5] 8 (List.take_append_drop 6 _).symm (by kernel_rfl) (by kernel_rfl) (by kernel_rfl) rfl rfl ?_ ?_
  ·
    refine ⟨?_, ?_, ?_, ?_, ?_, ?_, trivial⟩
    ·
      intro vf pf hmu hR
      refine Or.inl ⟨rfl, ?_⟩
      show RunQ _ _ _ (([] : List Nat).flatMap pf ++ _) (envOf _ vf [] ++ _) _ _
      refine rq_less (l' := [boxE b8 #[.int .i64 t.N, .int .i64 t.B] 25, boxE b1 #[.int .i64 0, .int .i64 0] 25]) (sub_cons (d := 5) rfl (sub_nil _)) (List.sublist_append_right _ _) ?_
      exact rq_v (rv_loadN (cs := [.int .i64 t.N, .int .i64 t.B]) rfl (by kernel_rfl) (by kernel_rfl) rfl rfl (box_part 0 rfl 0 rfl))
    ·
      intro vf pf hmu hR
      refine Or.inl ⟨rfl, ?_⟩
      show RunQ _ _ _ (([] : List Nat).flatMap pf ++ _) (envOf _ vf [] ++ _) _ _
      refine rq_less (l' := [boxE b8 #[.int .i64 t.N, .int .i64 t.B] 25, boxE b1 #[.int .i64 0, .int .i64 0] 25]) (sub_cons (d := 4) rfl (sub_nil _)) (List.sublist_append_right _ _) ?_
      exact rq_v (rv_ev rfl)
    ·
      intro vf pf hmu hR
      refine Or.inl ⟨rfl, ?_⟩
      show RunQ _ _ _ (([] : List Nat).flatMap pf ++ _) (envOf _ vf [] ++ _) _ _
      refine rq_less (l' := [boxE b8 #[.int .i64 t.N, .int .i64 t.B] 25, boxE b1 #[.int .i64 0, .int .i64 0] 25]) (sub_cons (d := 5) rfl (sub_nil _)) (List.sublist_append_right _ _) ?_
      exact rq_v (rv_field (k0 := 0) rfl (by kernel_rfl) rfl)
    ·
      intro vf pf hmu hR
      have e2 : (vf 2) = .pointer (some ⟨b8, 0 + 0, none⟩) ∧ (pf 2) = [] := hR 2 (by decide)
      refine Or.inl ⟨rfl, ?_⟩
      show RunQ _ _ _ (([2] : List Nat).flatMap pf ++ _) (envOf _ vf [2] ++ _) _ _
      refine rq_less (l' := [boxE b8 #[.int .i64 t.N, .int .i64 t.B] 25, boxE b1 #[.int .i64 0, .int .i64 0] 25]) (sub_cons (d := 12) (congrArg some e2.1) (sub_nil _)) (List.sublist_append_right _ _) ?_
      exact rq_v (rv_load rfl (by kernel_rfl) rfl (box_cell 0 rfl rfl))
    ·
      intro vf pf hmu hR
      have e3 : (vf 3) = .int .i64 t.N ∧ (pf 3) = [] := hR 3 (by decide)
      refine Or.inl ⟨rfl, ?_⟩
      show RunQ _ _ _ (([3] : List Nat).flatMap pf ++ _) (envOf _ vf [3] ++ _) _ _
      refine rq_less (l' := [boxE b8 #[.int .i64 t.N, .int .i64 t.B] 25, boxE b1 #[.int .i64 0, .int .i64 0] 25]) (sub_cons (d := 13) (congrArg some e3.1) (sub_nil _)) (List.sublist_append_right _ _) ?_
      exact rq_v (rv_shlG (k := .i64) (kk := .i64) (r := (pn t.N : Int)) rfl rfl rfl rfl (by omega) (wr1 hn))
    ·
      intro vf pf hmu hR
      have e1 : (vf 1) = .pointer (some ⟨ghR4, 0, none⟩) ∧ (pf 1) = [] := hR 1 (by decide)
      have e4 : (vf 4) = .int .i64 (pn t.N : Int) ∧ (pf 4) = [] := hR 4 (by decide)
      refine Or.inl ⟨rfl, ?_⟩
      show RunM _ _ _ (pf 8) (([1, 4] : List Nat).flatMap pf ++ _) (envOf _ vf [1, 4] ++ _) _ _
      rw [hmu]
      refine rm_less (X' := [boxE b8 #[.int .i64 t.N, .int .i64 t.B] 25, boxE b1 #[.int .i64 0, .int .i64 0] 25]) (sub_cons (d := 11) (congrArg some e1.1) (sub_cons (d := 14) (congrArg some e4.1) (sub_nil _))) (by first | (simp only [e1.2, e4.2, List.flatMap_cons, List.flatMap_nil, List.append_nil, List.nil_append, List.cons_append]; exact List.Sublist.refl _) | simp [e1.2, e4.2]) ?_
      exact rq_callM (R := (fun u_ p_ => (∃ x : Int, u_ = .int .i64 x ∧ 0 ≤ x ∧ x < (pn t.N : Int)) ∧ p_ = curE ghR4 a len cap)) (by kernel_rfl) rfl (fun L w hX hm => belowN_mut ghR4 a len cap z _ _ _ _ hm hb (by constructor <;> omega))
  ·
    intro vf pf hmu hR
    have e0 : (vf 0) = .agg #[.int .i64 t.N, .int .i64 t.B] ∧ (pf 0) = [] := hR 0 (by decide)
    have e5 : (∃ pm_, (pf 5) = [pm_] ∧ (fun u_ p_ => (∃ x : Int, u_ = .int .i64 x ∧ 0 ≤ x ∧ x < (pn t.N : Int)) ∧ p_ = curE ghR4 a len cap) (vf 5) pm_) := hR 5 (by decide)
    obtain ⟨p10, p5, hR11⟩ := e5
    obtain ⟨v9, v5⟩ : ∃ x, vf 5 = x := ⟨_, rfl⟩
    rw [v5] at hR11
    obtain ⟨⟨xhR11, rfl, xhR110, xhR111⟩, rfl⟩ := hR11
    have q0 : (vf 0) = .agg #[.int .i64 t.N, .int .i64 t.B] ∧ (pf 0) = [] := hR 0 (by decide)
    have q1 : (vf 1) = .pointer (some ⟨ghR4, 0, none⟩) ∧ (pf 1) = [] := hR 1 (by decide)
    have q2 : (vf 2) = .pointer (some ⟨b8, 0 + 0, none⟩) ∧ (pf 2) = [] := hR 2 (by decide)
    have q3 : (vf 3) = .int .i64 t.N ∧ (pf 3) = [] := hR 3 (by decide)
    have q4 : (vf 4) = .int .i64 (pn t.N : Int) ∧ (pf 4) = [] := hR 4 (by decide)
    refine hl_less (l' := [curE ghR4 a len cap, boxE b8 #[.int .i64 t.N, .int .i64 t.B] 25, boxE b1 #[.int .i64 0, .int .i64 0] 25]) (sub_cons (d := 0) rfl (sub_cons (d := 2) rfl (sub_cons (d := 3) rfl (sub_cons (d := 4) rfl (sub_cons (d := 5) rfl (sub_cons (d := 10) (congrArg some e0.1) (sub_cons (d := 15) (congrArg some v5) (sub_nil _)))))))) (by first | (simp only [p5, v5, q0.2, q1.2, q2.2, q3.2, q4.2, List.flatMap_cons, List.flatMap_nil, List.append_nil, List.nil_append, List.cons_append]; exact List.Sublist.refl _) | simp [p5, v5, q0.2, q1.2, q2.2, q3.2, q4.2]) ?_
    simp only [List.drop_succ_cons, List.drop_zero]
    refine hl_storeBoxN (i := 2) (off := 0) (us := [.int .i64 t.N, .int .i64 t.B]) (l' := [curE ghR4 a len cap, boxE b8 #[.int .i64 t.N, .int .i64 t.B] 25, boxE b1 #[.int .i64 t.N, .int .i64 t.B] 25]) rfl rfl rfl (by kernel_rfl) rfl rfl rfl (all_cons rfl (all_cons rfl all_nil)) rfl rfl rfl ?_
    refine hl_v rfl rfl rfl (rv_ev rfl) ?_
    refine hl_less (sub_cons (d := 0) rfl (sub_cons (d := 2) rfl (sub_cons (d := 3) rfl (sub_cons (d := 4) rfl (sub_cons (d := 5) rfl (sub_nil _)))))) (.refl _) ?_
    refine hl_nil ?_
    refine hq_then ?_
    refine hc_ret ?_
    exact hq_retM (rs := [.cell 2 25, .tmp 3]) (vs := [.agg #[.int .i64 t.N, .int .i64 t.B], .int .i64 xhR11]) (post := []) rfl ⟨⟨b1, 0, [.int .i64 t.N, .int .i64 t.B], rfl, rfl, by kernel_rfl, by kernel_rfl, box_part 2 rfl 0 rfl⟩, rfl, trivial⟩ rfl ((.cons _ (.cons _ (.cons _ .slnil)))) ⟨rfl, t, _, ht, rfl⟩
end Go.Proofs.Yteccnnpcigkmhaa
