/- Texts of the law FnCoverLogic, part 2: what it uses. -/
import Derived.Test.YtakbbebpimlnpaaCv1
set_option linter.unusedVariables false
set_option linter.unusedSimpArgs false
namespace Go.Proofs.Ytakbbebpimlnpaa
open Go.RowKit Go.ChangeShapes
open Go.RowKit
set_option maxHeartbeats 4000000 in
set_option maxRecDepth 100000 in
theorem TableVar_ret (n k : Int) (w : World) (hn : 0 ≤ n ∧ n ≤ 4) (hk : 0 ≤ k ∧ k < n) :
  Calls Try.prog 143 #[.int .i64 n, .int .i64 k] w (Ret w (fun v' post => post = [] ∧ ∃ t : Tab, TabOk t ∧ t.N = n ∧ v' = .tuple #[.agg #[.int .i64 t.N, .int .i64 t.B], .bool true])) := by
 have hp := pn_rng hn
 have hq := qn_rng hn
 refine calls_hc (N := 40) (args := [.int .i64 n, .int .i64 k]) Try.func143 rfl rfl ?_
 refine hc_less _ (sx 0 rfl (sx 1 rfl (sub_nil _))) (.refl _) ?_
 refine hc_seq ?_
 refine hc_region ?_
 refine hl_box rfl rfl rfl (rq_alloc (z := .agg #[.int .i64 0, .int .i64 0]) rfl (by kernel_rfl)) ?_
 intro b1
 refine hl_v rfl rfl rfl (rv_ev rfl) ?_
 refine hl_less (sx 0 rfl (sx 1 rfl (sx 4 rfl (sx 5 rfl (sub_nil _))))) (.refl _) ?_
 refine hl_nil ?_
 refine hq_then ?_
 refine hc_seq ?_
 refine hc_seq ?_
 refine hc_region ?_
 refine hl_v rfl rfl rfl (rv_ev rfl) ?_
 refine hl_callV rfl rfl rfl (rq_call (by kernel_rfl) rfl (fun w hm => ret_ans (l01In_yes (by omega) (by omega) w))) ?_
 refine hl_v rfl rfl rfl (rv_ev rfl) ?_
 refine hl_v rfl rfl rfl (rv_ev rfl) ?_
 refine hl_v rfl rfl rfl (rv_ev rfl) ?_
 refine hl_lss rfl rfl rfl rfl rfl rfl (fun h2 => absurd h2 (by omega)) (fun h2 => ?_)
 refine hl_v rfl rfl rfl (rv_ev rfl) ?_
 refine hl_v rfl rfl rfl (rv_ev rfl) ?_
 refine hl_v rfl rfl rfl (rv_ev rfl) ?_
 refine hl_v rfl rfl rfl (rv_ev rfl) ?_
 refine hl_geq rfl rfl rfl rfl rfl rfl (fun h3 => absurd h3 (by omega)) (fun h3 => ?_)
 refine hl_v rfl rfl rfl (rv_ev rfl) ?_
 refine hl_less (sx 0 rfl (sx 1 rfl (sx 4 rfl (sx 5 rfl (sx 19 rfl (sub_nil _)))))) (.refl _) ?_
 refine hl_nil ?_
 refine hq_then ?_
 refine hc_false rfl ?_
 refine hc_skip ?_
 refine hq_then ?_
 refine hc_seq ?_
 refine hc_region ?_
 refine hl_v rfl rfl rfl (rv_ev rfl) ?_
 refine hl_v rfl rfl rfl (rv_build (cs := #[.int .i64 n, .int .i64 0]) rfl rfl (by kernel_rfl)) ?_
 refine hl_box rfl rfl rfl (rq_alloc (z := .agg #[.int .i64 0, .int .i64 0]) rfl (by kernel_rfl)) ?_
 intro b4
 refine hl_storeBoxN (i := 0) (off := 0) (us := [.int .i64 n, .int .i64 0]) (l' := [boxE b4 #[.int .i64 n, .int .i64 0] 55, boxE b1 #[.int .i64 0, .int .i64 0] 55]) rfl rfl rfl (by kernel_rfl) rfl rfl rfl (all_cons rfl (all_cons rfl all_nil)) rfl rfl rfl ?_
 refine hl_less (sx 0 rfl (sx 1 rfl (sx 4 rfl (sx 5 rfl (sx 6 rfl (sx 19 rfl (sub_nil _))))))) (.refl _) ?_
 refine hl_nil ?_
 refine hq_then ?_
 refine hc_seq ?_
 refine hc_seq ?_
 refine hc_region ?_
 refine hl_v rfl rfl rfl (rv_ev rfl) ?_
 refine hl_less (sx 0 rfl (sx 1 rfl (sx 4 rfl (sx 5 rfl (sx 6 rfl (sx 7 rfl (sx 19 rfl (sub_nil _)))))))) (.refl _) ?_
 refine hl_nil ?_
 refine hq_then ?_
 refine hc_block ?_
 refine hc_loop2 (α := Nat) (β := Int) (fun r B => [boxE b4 #[.int .i64 n, .int .i64 B] 55, boxE b1 #[.int .i64 0, .int .i64 0] 55]) (fun r B => [(0, .int .i64 n), (1, .int .i64 k), (4, .pointer (some ⟨b1, 0, none⟩)), (5, .bool false), (6, .pointer (some ⟨b4, 0, none⟩)), (7, .int .i64 (r : Int)), (19, .bool false)]) (fun r B => r ≤ pn n ∧ 0 ≤ B ∧ B ≤ 2 ^ r - 1) (fun r B => pn n - r) 0 0 ⟨by omega, by omega, by simp⟩ (sx 0 rfl (sx 1 rfl (sx 4 rfl (sx 5 rfl (sx 6 rfl (sx 7 rfl (sx 19 rfl (sub_nil _)))))))) ((.cons_cons _ (.cons_cons _ .slnil))) ?_
 intro r B hi5
 obtain ⟨hi, hB⟩ := hi5
 have hpi := pow_i (i := r) (by omega)
 refine hc_seq ?_
 refine hc_seq ?_
 refine hc_region ?_
 refine hl_v rfl rfl rfl (rv_ev rfl) ?_
 refine hl_v rfl rfl rfl (rv_ev rfl) ?_
 refine hl_v rfl rfl rfl (rv_shlG (k := .i64) (kk := .i64) (r := (pn n : Int)) rfl rfl rfl rfl (by omega) (wr1 hn)) ?_
 refine hl_lss rfl rfl rfl rfl rfl rfl (fun h6 => ?_) (fun h6 => ?_)
 ·
  refine hl_less (sx 0 rfl (sx 1 rfl (sx 4 rfl (sx 5 rfl (sx 6 rfl (sx 7 rfl (sx 19 rfl (sx 26 rfl (sub_nil _))))))))) (.refl _) ?_
  refine hl_nil ?_
  refine hq_then ?_
  refine hc_true rfl ?_
  refine hc_skip ?_
  refine hq_then ?_
  refine hc_seq ?_
  refine hc_block ?_
  have h16 : (r : Int) / 2 ^ k.toNat ≤ r ∧ 0 ≤ (r : Int) / 2 ^ k.toNat := ⟨Int.ediv_le_self _ (by omega), Int.ediv_nonneg (by omega) (Int.le_of_lt (Int.pow_pos (by decide)))⟩
  have hbt : 0 ≤ (r : Int) / 2 ^ k.toNat % 2 ∧ (r : Int) / 2 ^ k.toNat % 2 ≤ 1 := by omega
  have hsum := bit_sum hB hbt
  have hp1 := pow_i (i := r + 1) (by omega)
  have h16 : (r : Int) / 2 ^ k.toNat ≤ r ∧ 0 ≤ (r : Int) / 2 ^ k.toNat := ⟨Int.ediv_le_self _ (by omega), Int.ediv_nonneg (by omega) (Int.le_of_lt (Int.pow_pos (by decide)))⟩
  have hbt : 0 ≤ (r : Int) / 2 ^ k.toNat % 2 ∧ (r : Int) / 2 ^ k.toNat % 2 ≤ 1 := by omega
  have hsum := bit_sum hB hbt
  have hp1 := pow_i (i := r + 1) (by omega)
  refine hc_draw (by kernel_rfl) 10 [0, 1, 2, 3, 4, 5, 6, 7, 8, 9] (List.take 10 _) (List.drop 10 _) [[], [0], [], [], [2, 3], [4], [], [5, 6], [1, 7], []] [29, 30, 31, 32, 33, 34, 35, 36, 37, 38] (fun i_ vs_ v_ p_ => match i_ with | 0 => v_ = .pointer (some ⟨b4, 0 + 1, none⟩) ∧ p_ = [] | 1 => v_ = .int .i64 B ∧ p_ = [] | 2 => v_ = .int .i64 (r : Int) ∧ p_ = [] | 3 => v_ = .int .i64 k ∧ p_ = [] | 4 => v_ = .int .i64 ((r : Int) / 2 ^ (k : Int).toNat) ∧ p_ = [] | 5 => v_ = .int .i64 (((r : Int) / 2 ^ (k : Int).toNat) % 2) ∧ p_ = [] | 6 => v_ = .int .i64 (r : Int) ∧ p_ = [] | 7 => v_ = .int .i64 ((((r : Int) / 2 ^ (k : Int).toNat) % 2) * 2 ^ r) ∧ p_ = [] | 8 => v_ = .int .i64 (B + ((((r : Int) / 2 ^ (k : Int).toNat) % 2) * 2 ^ r)) ∧ p_ = [] | 9 => v_ = .pointer (some ⟨b4, 0 + 1, none⟩) ∧ p_ = [] | _ => True) (List.take_append_drop 10 _).symm (by kernel_rfl) (by kernel_rfl) rfl rfl ?_ ?_
  ·
   refine ⟨?_, ?_, ?_, ?_, ?_, ?_, ?_, ?_, ?_, ?_, trivial⟩
   ·
    intro vf pf hR
    refine Or.inl ⟨rfl, ?_⟩
    refine rq_less (sx 6 rfl (sub_nil _)) (List.sublist_append_right _ _) ?_
    exact rq_v (rv_field (k0 := 1) rfl (by kernel_rfl) rfl)
   ·
    intro vf pf hR
    have e0 : (vf 0) = .pointer (some ⟨b4, 0 + 1, none⟩) ∧ (pf 0) = [] := hR 0 (by decide)
    refine Or.inl ⟨rfl, ?_⟩
    refine rq_less (sx 29 (congrArg some e0.1) (sub_nil _)) (List.sublist_append_right _ _) ?_
    exact rq_v (rv_load rfl (by kernel_rfl) rfl (box_cell 0 rfl rfl))
   ·
    intro vf pf hR
    refine Or.inl ⟨rfl, ?_⟩
    refine rq_less (sx 7 rfl (sub_nil _)) (List.sublist_append_right _ _) ?_
    exact rq_v (rv_ev rfl)
   ·
    intro vf pf hR
    refine Or.inl ⟨rfl, ?_⟩
    refine rq_less (sx 1 rfl (sub_nil _)) (List.sublist_append_right _ _) ?_
    exact rq_v (rv_ev rfl)
   ·
    intro vf pf hR
    have e2 : (vf 2) = .int .i64 (r : Int) ∧ (pf 2) = [] := hR 2 (by decide)
    have e3 : (vf 3) = .int .i64 k ∧ (pf 3) = [] := hR 3 (by decide)
    refine Or.inl ⟨rfl, ?_⟩
    refine rq_less (sx 31 (congrArg some e2.1) (sx 32 (congrArg some e3.1) (sub_nil _))) (List.sublist_append_right _ _) ?_
    exact rq_v (rv_shr rfl rfl rfl (by omega))
   ·
    intro vf pf hR
    have e4 : (vf 4) = .int .i64 ((r : Int) / 2 ^ (k : Int).toNat) ∧ (pf 4) = [] := hR 4 (by decide)
    refine Or.inl ⟨rfl, ?_⟩
    refine rq_less (sx 33 (congrArg some e4.1) (sub_nil _)) (List.sublist_append_right _ _) ?_
    exact rq_v (rv_bits rfl (by decide) rfl rfl (r := ((r : Int) / 2 ^ (k : Int).toNat) % 2) (andB _ (by omega)))
   ·
    intro vf pf hR
    refine Or.inl ⟨rfl, ?_⟩
    refine rq_less (sx 7 rfl (sub_nil _)) (List.sublist_append_right _ _) ?_
    exact rq_v (rv_ev rfl)
   ·
    intro vf pf hR
    have e5 : (vf 5) = .int .i64 (((r : Int) / 2 ^ (k : Int).toNat) % 2) ∧ (pf 5) = [] := hR 5 (by decide)
    have e6 : (vf 6) = .int .i64 (r : Int) ∧ (pf 6) = [] := hR 6 (by decide)
    refine Or.inl ⟨rfl, ?_⟩
    refine rq_less (sx 34 (congrArg some e5.1) (sx 35 (congrArg some e6.1) (sub_nil _))) (List.sublist_append_right _ _) ?_
    exact rq_v (rv_shlG (k := .i64) (kk := .i64) (r := (((r : Int) / 2 ^ (k : Int).toNat) % 2) * 2 ^ r) rfl rfl rfl rfl (by omega) (shl_i (by omega) hbt))
   ·
    intro vf pf hR
    have e1 : (vf 1) = .int .i64 B ∧ (pf 1) = [] := hR 1 (by decide)
    have e7 : (vf 7) = .int .i64 ((((r : Int) / 2 ^ (k : Int).toNat) % 2) * 2 ^ r) ∧ (pf 7) = [] := hR 7 (by decide)
    refine Or.inl ⟨rfl, ?_⟩
    refine rq_less (sx 30 (congrArg some e1.1) (sx 36 (congrArg some e7.1) (sub_nil _))) (List.sublist_append_right _ _) ?_
    exact rq_v (rv_add rfl rfl rfl (by constructor <;> omega))
   ·
    intro vf pf hR
    refine Or.inl ⟨rfl, ?_⟩
    refine rq_less (sx 6 rfl (sub_nil _)) (List.sublist_append_right _ _) ?_
    exact rq_v (rv_field (k0 := 1) rfl (by kernel_rfl) rfl)
  ·
   intro vf pf hR
   have e8 : (vf 8) = .int .i64 (B + ((((r : Int) / 2 ^ (k : Int).toNat) % 2) * 2 ^ r)) ∧ (pf 8) = [] := hR 8 (by decide)
   have e9 : (vf 9) = .pointer (some ⟨b4, 0 + 1, none⟩) ∧ (pf 9) = [] := hR 9 (by decide)
   refine hl_less (l' := [boxE b4 #[.int .i64 n, .int .i64 B] 55, boxE b1 #[.int .i64 0, .int .i64 0] 55]) (sx 0 rfl (sx 1 rfl (sx 4 rfl (sx 5 rfl (sx 6 rfl (sx 7 rfl (sx 19 rfl (sx 26 rfl (sx 37 (congrArg some e8.1) (sx 38 (congrArg some e9.1) (sub_nil _))))))))))) (List.sublist_append_right _ _) ?_
   simp only [List.drop_succ_cons, List.drop_zero]
   refine hl_storeBox (i := 0) (l' := [boxE b4 #[.int .i64 n, .int .i64 (B + ((((r : Int) / 2 ^ (k : Int).toNat) % 2) * 2 ^ r))] 55, boxE b1 #[.int .i64 0, .int .i64 0] 55]) rfl rfl rfl (by kernel_rfl) rfl rfl rfl rfl rfl rfl ?_
   refine hl_less (sx 0 rfl (sx 1 rfl (sx 4 rfl (sx 5 rfl (sx 6 rfl (sx 7 rfl (sx 19 rfl (sx 26 rfl (sub_nil _))))))))) (.refl _) ?_
   refine hl_nil ?_
   refine hq_block_normal ?_
   refine hq_then ?_
   refine hc_region ?_
   refine hl_v rfl rfl rfl (rv_ev rfl) ?_
   refine hl_v rfl rfl rfl (rv_add rfl rfl rfl (by constructor <;> omega)) ?_
   refine hl_v rfl rfl rfl (rv_ev rfl) ?_
   refine hl_less (sx 0 rfl (sx 1 rfl (sx 4 rfl (sx 5 rfl (sx 6 rfl (sx 7 rfl (sx 19 rfl (sx 26 rfl (sub_nil _))))))))) (.refl _) ?_
   refine hl_nil ?_
   exact hq_round2 (r + 1) (B + ((((r : Int) / 2 ^ (k : Int).toNat) % 2) * 2 ^ r)) ⟨by omega, bit_sum hB hbt⟩ (by omega) (sx 0 rfl (sx 1 rfl (sx 4 rfl (sx 5 rfl (sx 6 rfl (sx 7 rfl (sx 19 rfl (sub_nil _)))))))) ((.cons_cons _ (.cons_cons _ .slnil)))
 ·
  refine hl_less (sx 0 rfl (sx 1 rfl (sx 4 rfl (sx 5 rfl (sx 6 rfl (sx 7 rfl (sx 19 rfl (sx 26 rfl (sub_nil _))))))))) (.refl _) ?_
  refine hl_nil ?_
  refine hq_then ?_
  refine hc_false rfl ?_
  refine hc_exit ?_
  refine hq_then_exit ?_
  refine hq_then_exit ?_
  refine hq_block_exit ?_
  refine hq_then ?_
  refine hc_seq ?_
  refine hc_region ?_
  refine hl_v rfl rfl rfl (rv_loadN (cs := [.int .i64 n, .int .i64 B]) rfl (by kernel_rfl) (by kernel_rfl) rfl rfl (box_part 0 rfl 0 rfl)) ?_
  refine hl_storeBoxN (i := 1) (off := 0) (us := [.int .i64 n, .int .i64 B]) (l' := [boxE b4 #[.int .i64 n, .int .i64 B] 55, boxE b1 #[.int .i64 n, .int .i64 B] 55]) rfl rfl rfl (by kernel_rfl) rfl rfl rfl (all_cons rfl (all_cons rfl all_nil)) rfl rfl rfl ?_
  refine hl_v rfl rfl rfl (rv_ev rfl) ?_
  refine hl_less (sx 0 rfl (sx 1 rfl (sx 4 rfl (sx 5 rfl (sx 6 rfl (sx 7 rfl (sx 19 rfl (sx 26 rfl (sub_nil _))))))))) (.refl _) ?_
  refine hl_nil ?_
  refine hq_then ?_
  refine hc_ret ?_
  have hip : r = pn n := by omega
  rw [hip] at hB
  exact hq_retM (rs := [.cell 4 55, .tmp 5]) (vs := [.agg #[.int .i64 n, .int .i64 B], .bool true]) (post := []) rfl ⟨⟨b1, 0, [.int .i64 n, .int .i64 B], rfl, rfl, by kernel_rfl, by kernel_rfl, box_part 1 rfl 0 rfl⟩, rfl, trivial⟩ rfl ((.cons _ (.cons _ .slnil))) ⟨rfl, ⟨n, B⟩, ⟨hn, by rw [qn_pn]; exact hB⟩, rfl, rfl⟩
set_option maxHeartbeats 4000000 in
set_option maxRecDepth 100000 in
theorem TableNot_ret (n x : Int) (w : World) (hn : 0 ≤ n ∧ n ≤ 4) (ha : 0 ≤ x ∧ x ≤ qn n - 1) :
  Calls Try.prog 144 #[.agg #[.int .i64 n, .int .i64 x]] w (Ret w (fun v' post => post = [] ∧ ∃ t : Tab, TabOk t ∧ t.N = n ∧ v' = .agg #[.int .i64 t.N, .int .i64 t.B])) := by
 have hq := qn_rng hn
 refine calls_hc (N := 16) (args := [.agg #[.int .i64 n, .int .i64 x]]) Try.func144 rfl rfl ?_
 refine hc_less _ (sx 0 rfl (sub_nil _)) (.refl _) ?_
 refine hc_seq ?_
 refine hc_region ?_
 refine hl_box rfl rfl rfl (rq_box rfl rfl) ?_
 intro b1
 refine hl_box rfl rfl rfl (rq_alloc (z := .agg #[.int .i64 0, .int .i64 0]) rfl (by kernel_rfl)) ?_
 intro b2
 refine hl_less (sx 0 rfl (sx 1 rfl (sx 2 rfl (sub_nil _)))) (.refl _) ?_
 refine hl_nil ?_
 refine hq_then ?_
 refine hc_seq ?_
 refine hc_seq ?_
 refine hc_region ?_
 refine hl_v rfl rfl rfl (rv_loadN (cs := [.int .i64 n, .int .i64 x]) rfl (by kernel_rfl) (by kernel_rfl) rfl rfl (box_part 1 rfl 0 rfl)) ?_
 refine hl_callV rfl rfl rfl (rq_call (by kernel_rfl) rfl (fun w hm => ret_ans (specTableOk_yes ⟨n, x⟩ w ⟨(by show 0 ≤ n ∧ n ≤ 4; omega), (by show 0 ≤ x ∧ x ≤ qn (n) - 1; omega)⟩))) ?_
 refine hl_v rfl rfl rfl (rv_ev rfl) ?_
 refine hl_less (sx 0 rfl (sx 1 rfl (sx 2 rfl (sx 5 rfl (sub_nil _))))) (.refl _) ?_
 refine hl_nil ?_
 refine hq_then ?_
 refine hc_false rfl ?_
 refine hc_skip ?_
 refine hq_then ?_
 refine hc_seq ?_
 refine hc_draw (by kernel_rfl) 9 [0, 1, 2, 3, 4, 5, 6, 7, 8] (List.take 9 _) (List.drop 9 _) [[], [0], [], [2], [3], [], [5], [4, 6], [1, 7]] [7, 8, 9, 10, 11, 12, 13, 14, 15] (fun i_ vs_ v_ p_ => match i_ with | 0 => v_ = .pointer (some ⟨b1, 0 + 0, none⟩) ∧ p_ = [] | 1 => v_ = .int .i64 n ∧ p_ = [] | 2 => v_ = .pointer (some ⟨b1, 0 + 0, none⟩) ∧ p_ = [] | 3 => v_ = .int .i64 n ∧ p_ = [] | 4 => v_ = .int .i64 (qn n - 1) ∧ p_ = [] | 5 => v_ = .pointer (some ⟨b1, 0 + 1, none⟩) ∧ p_ = [] | 6 => v_ = .int .i64 x ∧ p_ = [] | 7 => v_ = .int .i64 ((qn n - 1) - x) ∧ p_ = [] | 8 => v_ = .agg #[.int .i64 n, .int .i64 ((qn n - 1) - x)] ∧ p_ = [] | _ => True) (List.take_append_drop 9 _).symm (by kernel_rfl) (by kernel_rfl) rfl rfl ?_ ?_
 ·
  refine ⟨?_, ?_, ?_, ?_, ?_, ?_, ?_, ?_, ?_, trivial⟩
  ·
   intro vf pf hR
   refine Or.inl ⟨rfl, ?_⟩
   refine rq_less (sx 1 rfl (sub_nil _)) (List.sublist_append_right _ _) ?_
   exact rq_v (rv_field (k0 := 0) rfl (by kernel_rfl) rfl)
  ·
   intro vf pf hR
   have e0 : (vf 0) = .pointer (some ⟨b1, 0 + 0, none⟩) ∧ (pf 0) = [] := hR 0 (by decide)
   refine Or.inl ⟨rfl, ?_⟩
   refine rq_less (sx 7 (congrArg some e0.1) (sub_nil _)) (List.sublist_append_right _ _) ?_
   exact rq_v (rv_load rfl (by kernel_rfl) rfl (box_cell 1 rfl rfl))
  ·
   intro vf pf hR
   refine Or.inl ⟨rfl, ?_⟩
   refine rq_less (sx 1 rfl (sub_nil _)) (List.sublist_append_right _ _) ?_
   exact rq_v (rv_field (k0 := 0) rfl (by kernel_rfl) rfl)
  ·
   intro vf pf hR
   have e2 : (vf 2) = .pointer (some ⟨b1, 0 + 0, none⟩) ∧ (pf 2) = [] := hR 2 (by decide)
   refine Or.inl ⟨rfl, ?_⟩
   refine rq_less (sx 9 (congrArg some e2.1) (sub_nil _)) (List.sublist_append_right _ _) ?_
   exact rq_v (rv_load rfl (by kernel_rfl) rfl (box_cell 1 rfl rfl))
  ·
   intro vf pf hR
   have e3 : (vf 3) = .int .i64 n ∧ (pf 3) = [] := hR 3 (by decide)
   refine Or.inl ⟨rfl, ?_⟩
   refine rq_less (sx 10 (congrArg some e3.1) (sub_nil _)) (List.sublist_append_right _ _) ?_
   exact (rq_call (by kernel_rfl) rfl (fun w hm => ret_ans (l02Full_ans _ w (by omega))))
  ·
   intro vf pf hR
   refine Or.inl ⟨rfl, ?_⟩
   refine rq_less (sx 1 rfl (sub_nil _)) (List.sublist_append_right _ _) ?_
   exact rq_v (rv_field (k0 := 1) rfl (by kernel_rfl) rfl)
  ·
   intro vf pf hR
   have e5 : (vf 5) = .pointer (some ⟨b1, 0 + 1, none⟩) ∧ (pf 5) = [] := hR 5 (by decide)
   refine Or.inl ⟨rfl, ?_⟩
   refine rq_less (sx 12 (congrArg some e5.1) (sub_nil _)) (List.sublist_append_right _ _) ?_
   exact rq_v (rv_load rfl (by kernel_rfl) rfl (box_cell 1 rfl rfl))
  ·
   intro vf pf hR
   have e4 : (vf 4) = .int .i64 (qn n - 1) ∧ (pf 4) = [] := hR 4 (by decide)
   have e6 : (vf 6) = .int .i64 x ∧ (pf 6) = [] := hR 6 (by decide)
   refine Or.inl ⟨rfl, ?_⟩
   refine rq_less (sx 11 (congrArg some e4.1) (sx 13 (congrArg some e6.1) (sub_nil _))) (List.sublist_append_right _ _) ?_
   exact rq_v (rv_sub rfl rfl rfl (by constructor <;> omega))
  ·
   intro vf pf hR
   have e1 : (vf 1) = .int .i64 n ∧ (pf 1) = [] := hR 1 (by decide)
   have e7 : (vf 7) = .int .i64 ((qn n - 1) - x) ∧ (pf 7) = [] := hR 7 (by decide)
   refine Or.inl ⟨rfl, ?_⟩
   refine rq_less (sx 8 (congrArg some e1.1) (sx 14 (congrArg some e7.1) (sub_nil _))) (List.sublist_append_right _ _) ?_
   exact rq_v (rv_build (cs := #[.int .i64 n, .int .i64 ((qn n - 1) - x)]) rfl rfl (by kernel_rfl))
 ·
  intro vf pf hR
  have e8 : (vf 8) = .agg #[.int .i64 n, .int .i64 ((qn n - 1) - x)] ∧ (pf 8) = [] := hR 8 (by decide)
  refine hl_less (l' := [boxE b2 #[.int .i64 0, .int .i64 0] 55, boxE b1 #[.int .i64 n, .int .i64 x] 55]) (sx 0 rfl (sx 1 rfl (sx 2 rfl (sx 5 rfl (sx 15 (congrArg some e8.1) (sub_nil _)))))) (List.sublist_append_right _ _) ?_
  simp only [List.drop_succ_cons, List.drop_zero]
  refine hl_storeBoxN (i := 0) (off := 0) (us := [.int .i64 n, .int .i64 ((qn n - 1) - x)]) (l' := [boxE b2 #[.int .i64 n, .int .i64 ((qn n - 1) - x)] 55, boxE b1 #[.int .i64 n, .int .i64 x] 55]) rfl rfl rfl (by kernel_rfl) rfl rfl rfl (all_cons rfl (all_cons rfl all_nil)) rfl rfl rfl ?_
  refine hl_less (sx 0 rfl (sx 1 rfl (sx 2 rfl (sx 5 rfl (sub_nil _))))) (.refl _) ?_
  refine hl_nil ?_
  refine hq_then ?_
  refine hc_ret ?_
  exact hq_retM (rs := [.cell 2 55]) (vs := [.agg #[.int .i64 n, .int .i64 ((qn n - 1) - x)]]) (post := []) rfl ⟨⟨b2, 0, [.int .i64 n, .int .i64 ((qn n - 1) - x)], rfl, rfl, by kernel_rfl, by kernel_rfl, box_part 0 rfl 0 rfl⟩, trivial⟩ rfl ((.cons _ (.cons _ .slnil))) ⟨rfl, ⟨n, (qn n - 1) - x⟩, ⟨hn, by constructor <;> dsimp only <;> omega⟩, rfl, rfl⟩
set_option maxHeartbeats 4000000 in
set_option maxRecDepth 100000 in
theorem TableAnd_ret (n x y : Int) (w : World) (hn : 0 ≤ n ∧ n ≤ 4) (ha : 0 ≤ x ∧ x ≤ qn n - 1) (hb : 0 ≤ y ∧ y ≤ qn n - 1) :
  Calls Try.prog 145 #[.agg #[.int .i64 n, .int .i64 x], .agg #[.int .i64 n, .int .i64 y]] w (Ret w (fun v' post => post = [] ∧ ∃ t : Tab, TabOk t ∧ t.N = n ∧ v' = .agg #[.int .i64 t.N, .int .i64 t.B])) := by
 have hq := qn_rng hn
 refine calls_hc (N := 29) (args := [.agg #[.int .i64 n, .int .i64 x], .agg #[.int .i64 n, .int .i64 y]]) Try.func145 rfl rfl ?_
 refine hc_less _ (sx 0 rfl (sx 1 rfl (sub_nil _))) (.refl _) ?_
 refine hc_seq ?_
 refine hc_region ?_
 refine hl_box rfl rfl rfl (rq_box rfl rfl) ?_
 intro b1
 refine hl_box rfl rfl rfl (rq_box rfl rfl) ?_
 intro b2
 refine hl_box rfl rfl rfl (rq_alloc (z := .agg #[.int .i64 0, .int .i64 0]) rfl (by kernel_rfl)) ?_
 intro b3
 refine hl_less (sx 0 rfl (sx 1 rfl (sx 2 rfl (sx 3 rfl (sx 4 rfl (sub_nil _)))))) (.refl _) ?_
 refine hl_nil ?_
 refine hq_then ?_
 refine hc_seq ?_
 refine hc_seq ?_
 refine hc_region ?_
 refine hl_v rfl rfl rfl (rv_loadN (cs := [.int .i64 n, .int .i64 x]) rfl (by kernel_rfl) (by kernel_rfl) rfl rfl (box_part 2 rfl 0 rfl)) ?_
 refine hl_callV rfl rfl rfl (rq_call (by kernel_rfl) rfl (fun w hm => ret_ans (specTableOk_yes ⟨n, x⟩ w ⟨(by show 0 ≤ n ∧ n ≤ 4; omega), (by show 0 ≤ x ∧ x ≤ qn (n) - 1; omega)⟩))) ?_
 refine hl_v rfl rfl rfl (rv_ev rfl) ?_
 refine hl_v rfl rfl rfl (rv_ev rfl) ?_
 refine hl_v rfl rfl rfl (rv_loadN (cs := [.int .i64 n, .int .i64 y]) rfl (by kernel_rfl) (by kernel_rfl) rfl rfl (box_part 1 rfl 0 rfl)) ?_
 refine hl_callV rfl rfl rfl (rq_call (by kernel_rfl) rfl (fun w hm => ret_ans (specTableOk_yes ⟨n, y⟩ w ⟨(by show 0 ≤ n ∧ n ≤ 4; omega), (by show 0 ≤ y ∧ y ≤ qn (n) - 1; omega)⟩))) ?_
 refine hl_v rfl rfl rfl (rv_ev rfl) ?_
 refine hl_v rfl rfl rfl (rv_ev rfl) ?_
 refine hl_v rfl rfl rfl (rv_ev rfl) ?_
 refine hl_v rfl rfl rfl (rv_field (k0 := 0) rfl (by kernel_rfl) rfl) ?_
 refine hl_v rfl rfl rfl (rv_load rfl (by kernel_rfl) rfl (box_cell 2 rfl rfl)) ?_
 refine hl_v rfl rfl rfl (rv_field (k0 := 0) rfl (by kernel_rfl) rfl) ?_
 refine hl_v rfl rfl rfl (rv_load rfl (by kernel_rfl) rfl (box_cell 1 rfl rfl)) ?_
 refine hl_neq rfl rfl rfl rfl rfl rfl (fun h4 => absurd h4 (by omega)) (fun h4 => ?_)
 refine hl_v rfl rfl rfl (rv_ev rfl) ?_
 refine hl_less (sx 0 rfl (sx 1 rfl (sx 2 rfl (sx 3 rfl (sx 4 rfl (sx 19 rfl (sub_nil _))))))) (.refl _) ?_
 refine hl_nil ?_
 refine hq_then ?_
 refine hc_false rfl ?_
 refine hc_skip ?_
 refine hq_then ?_
 refine hc_seq ?_
 refine hc_region ?_
 refine hl_v rfl rfl rfl (rv_field (k0 := 0) rfl (by kernel_rfl) rfl) ?_
 refine hl_v rfl rfl rfl (rv_load rfl (by kernel_rfl) rfl (box_cell 2 rfl rfl)) ?_
 refine hl_v rfl rfl rfl (rv_field (k0 := 1) rfl (by kernel_rfl) rfl) ?_
 refine hl_v rfl rfl rfl (rv_load rfl (by kernel_rfl) rfl (box_cell 2 rfl rfl)) ?_
 refine hl_v rfl rfl rfl (rv_field (k0 := 1) rfl (by kernel_rfl) rfl) ?_
 refine hl_v rfl rfl rfl (rv_load rfl (by kernel_rfl) rfl (box_cell 1 rfl rfl)) ?_
 refine hl_v rfl rfl rfl (rv_bits rfl (by decide) rfl rfl (r := ((x.toNat &&& y.toNat : Nat) : Int)) (Bit.and_int _ _ (by omega) (by omega) (by omega) (by omega))) ?_
 refine hl_v rfl rfl rfl (rv_build (cs := #[.int .i64 n, .int .i64 ((x.toNat &&& y.toNat : Nat) : Int)]) rfl rfl (by kernel_rfl)) ?_
 refine hl_storeBoxN (i := 0) (off := 0) (us := [.int .i64 n, .int .i64 ((x.toNat &&& y.toNat : Nat) : Int)]) (l' := [boxE b3 #[.int .i64 n, .int .i64 ((x.toNat &&& y.toNat : Nat) : Int)] 55, boxE b2 #[.int .i64 n, .int .i64 y] 55, boxE b1 #[.int .i64 n, .int .i64 x] 55]) rfl rfl rfl (by kernel_rfl) rfl rfl rfl (all_cons rfl (all_cons rfl all_nil)) rfl rfl rfl ?_
 refine hl_less (sx 0 rfl (sx 1 rfl (sx 2 rfl (sx 3 rfl (sx 4 rfl (sx 19 rfl (sub_nil _))))))) (.refl _) ?_
 refine hl_nil ?_
 refine hq_then ?_
 refine hc_ret ?_
 exact hq_retM (rs := [.cell 4 55]) (vs := [.agg #[.int .i64 n, .int .i64 ((x.toNat &&& y.toNat : Nat) : Int)]]) (post := []) rfl ⟨⟨b3, 0, [.int .i64 n, .int .i64 ((x.toNat &&& y.toNat : Nat) : Int)], rfl, rfl, by kernel_rfl, by kernel_rfl, box_part 0 rfl 0 rfl⟩, trivial⟩ rfl ((.cons _ (.cons _ (.cons _ .slnil)))) ⟨rfl, ⟨n, ((x.toNat &&& y.toNat : Nat) : Int)⟩, ⟨hn, and_q ha hb⟩, rfl, rfl⟩
set_option maxHeartbeats 4000000 in
set_option maxRecDepth 100000 in
theorem TableXor_ret (n x y : Int) (w : World) (hn : 0 ≤ n ∧ n ≤ 4) (ha : 0 ≤ x ∧ x ≤ qn n - 1) (hb : 0 ≤ y ∧ y ≤ qn n - 1) :
  Calls Try.prog 146 #[.agg #[.int .i64 n, .int .i64 x], .agg #[.int .i64 n, .int .i64 y]] w (Ret w (fun v' post => post = [] ∧ ∃ t : Tab, TabOk t ∧ t.N = n ∧ v' = .agg #[.int .i64 t.N, .int .i64 t.B])) := by
 have hq := qn_rng hn
 refine calls_hc (N := 29) (args := [.agg #[.int .i64 n, .int .i64 x], .agg #[.int .i64 n, .int .i64 y]]) Try.func146 rfl rfl ?_
 refine hc_less _ (sx 0 rfl (sx 1 rfl (sub_nil _))) (.refl _) ?_
 refine hc_seq ?_
 refine hc_region ?_
 refine hl_box rfl rfl rfl (rq_box rfl rfl) ?_
 intro b1
 refine hl_box rfl rfl rfl (rq_box rfl rfl) ?_
 intro b2
 refine hl_box rfl rfl rfl (rq_alloc (z := .agg #[.int .i64 0, .int .i64 0]) rfl (by kernel_rfl)) ?_
 intro b3
 refine hl_less (sx 0 rfl (sx 1 rfl (sx 2 rfl (sx 3 rfl (sx 4 rfl (sub_nil _)))))) (.refl _) ?_
 refine hl_nil ?_
 refine hq_then ?_
 refine hc_seq ?_
 refine hc_seq ?_
 refine hc_region ?_
 refine hl_v rfl rfl rfl (rv_loadN (cs := [.int .i64 n, .int .i64 x]) rfl (by kernel_rfl) (by kernel_rfl) rfl rfl (box_part 2 rfl 0 rfl)) ?_
 refine hl_callV rfl rfl rfl (rq_call (by kernel_rfl) rfl (fun w hm => ret_ans (specTableOk_yes ⟨n, x⟩ w ⟨(by show 0 ≤ n ∧ n ≤ 4; omega), (by show 0 ≤ x ∧ x ≤ qn (n) - 1; omega)⟩))) ?_
 refine hl_v rfl rfl rfl (rv_ev rfl) ?_
 refine hl_v rfl rfl rfl (rv_ev rfl) ?_
 refine hl_v rfl rfl rfl (rv_loadN (cs := [.int .i64 n, .int .i64 y]) rfl (by kernel_rfl) (by kernel_rfl) rfl rfl (box_part 1 rfl 0 rfl)) ?_
 refine hl_callV rfl rfl rfl (rq_call (by kernel_rfl) rfl (fun w hm => ret_ans (specTableOk_yes ⟨n, y⟩ w ⟨(by show 0 ≤ n ∧ n ≤ 4; omega), (by show 0 ≤ y ∧ y ≤ qn (n) - 1; omega)⟩))) ?_
 refine hl_v rfl rfl rfl (rv_ev rfl) ?_
 refine hl_v rfl rfl rfl (rv_ev rfl) ?_
 refine hl_v rfl rfl rfl (rv_ev rfl) ?_
 refine hl_v rfl rfl rfl (rv_field (k0 := 0) rfl (by kernel_rfl) rfl) ?_
 refine hl_v rfl rfl rfl (rv_load rfl (by kernel_rfl) rfl (box_cell 2 rfl rfl)) ?_
 refine hl_v rfl rfl rfl (rv_field (k0 := 0) rfl (by kernel_rfl) rfl) ?_
 refine hl_v rfl rfl rfl (rv_load rfl (by kernel_rfl) rfl (box_cell 1 rfl rfl)) ?_
 refine hl_neq rfl rfl rfl rfl rfl rfl (fun h4 => absurd h4 (by omega)) (fun h4 => ?_)
 refine hl_v rfl rfl rfl (rv_ev rfl) ?_
 refine hl_less (sx 0 rfl (sx 1 rfl (sx 2 rfl (sx 3 rfl (sx 4 rfl (sx 19 rfl (sub_nil _))))))) (.refl _) ?_
 refine hl_nil ?_
 refine hq_then ?_
 refine hc_false rfl ?_
 refine hc_skip ?_
 refine hq_then ?_
 refine hc_seq ?_
 refine hc_region ?_
 refine hl_v rfl rfl rfl (rv_field (k0 := 0) rfl (by kernel_rfl) rfl) ?_
 refine hl_v rfl rfl rfl (rv_load rfl (by kernel_rfl) rfl (box_cell 2 rfl rfl)) ?_
 refine hl_v rfl rfl rfl (rv_field (k0 := 1) rfl (by kernel_rfl) rfl) ?_
 refine hl_v rfl rfl rfl (rv_load rfl (by kernel_rfl) rfl (box_cell 2 rfl rfl)) ?_
 refine hl_v rfl rfl rfl (rv_field (k0 := 1) rfl (by kernel_rfl) rfl) ?_
 refine hl_v rfl rfl rfl (rv_load rfl (by kernel_rfl) rfl (box_cell 1 rfl rfl)) ?_
 refine hl_v rfl rfl rfl (rv_bits rfl (by decide) rfl rfl (r := ((x.toNat ^^^ y.toNat : Nat) : Int)) (Bit.xor_int _ _ (by omega) (by omega) (by omega) (by omega))) ?_
 refine hl_v rfl rfl rfl (rv_build (cs := #[.int .i64 n, .int .i64 ((x.toNat ^^^ y.toNat : Nat) : Int)]) rfl rfl (by kernel_rfl)) ?_
 refine hl_storeBoxN (i := 0) (off := 0) (us := [.int .i64 n, .int .i64 ((x.toNat ^^^ y.toNat : Nat) : Int)]) (l' := [boxE b3 #[.int .i64 n, .int .i64 ((x.toNat ^^^ y.toNat : Nat) : Int)] 55, boxE b2 #[.int .i64 n, .int .i64 y] 55, boxE b1 #[.int .i64 n, .int .i64 x] 55]) rfl rfl rfl (by kernel_rfl) rfl rfl rfl (all_cons rfl (all_cons rfl all_nil)) rfl rfl rfl ?_
 refine hl_less (sx 0 rfl (sx 1 rfl (sx 2 rfl (sx 3 rfl (sx 4 rfl (sx 19 rfl (sub_nil _))))))) (.refl _) ?_
 refine hl_nil ?_
 refine hq_then ?_
 refine hc_ret ?_
 exact hq_retM (rs := [.cell 4 55]) (vs := [.agg #[.int .i64 n, .int .i64 ((x.toNat ^^^ y.toNat : Nat) : Int)]]) (post := []) rfl ⟨⟨b3, 0, [.int .i64 n, .int .i64 ((x.toNat ^^^ y.toNat : Nat) : Int)], rfl, rfl, by kernel_rfl, by kernel_rfl, box_part 0 rfl 0 rfl⟩, trivial⟩ rfl ((.cons _ (.cons _ (.cons _ .slnil)))) ⟨rfl, ⟨n, ((x.toNat ^^^ y.toNat : Nat) : Int)⟩, ⟨hn, xor_q hn ha hb⟩, rfl, rfl⟩
set_option maxHeartbeats 4000000 in
set_option maxRecDepth 100000 in
theorem l02Table_mut (g : Nat) (a : Option Addr) (len cap : Nat) (z : List Int) (w0 : World) (l : List HP) (w : World) (hm0 : Mem w0 (curE g a len cap :: l) w) (hb : BRow .u8 w0 a len cap z) :
  Calls Try.prog 96 #[.pointer (some ⟨g, 0, none⟩)] w (fun e_ w_ => ∃ v_ p_, e_ = .returned v_ ∧ (fun u_ p_ => (∃ t : Tab, TabOk t ∧ u_ = .agg #[.int .i64 t.N, .int .i64 t.B]) ∧ p_ = curE g a len cap) v_ p_ ∧ Mem w0 (p_ :: l) w_) := by
 refine calls_hcM (N := 50) (args := [.pointer (some ⟨g, 0, none⟩)]) Try.func96 rfl rfl hm0 ?_
 refine hc_less _ (sx 0 rfl (sub_nil _)) (.refl _) ?_
 refine hc_seq ?_
 refine hc_region ?_
 refine hl_box rfl rfl rfl (rq_alloc (z := .agg #[.int .i64 0, .int .i64 0]) rfl (by kernel_rfl)) ?_
 intro b1
 refine hl_less (sx 0 rfl (sx 2 rfl (sub_nil _))) (.refl _) ?_
 refine hl_nil ?_
 refine hq_then ?_
 refine hc_seq ?_
 refine hc_region ?_
 refine hl_v rfl rfl rfl (rv_ev rfl) ?_
 refine hl_callM (R := (fun u_ p_ => (∃ x_ : Int, u_ = .int .i64 x_ ∧ 0 ≤ x_ ∧ x_ < 5) ∧ p_ = curE g a len cap)) 1 rfl rfl (by kernel_rfl) rfl rfl (fun l' w hm => belowN_mut g a len cap z 5 _ _ _ hm hb (by constructor <;> omega)) ?_
 intro v2 p3 hR4
 obtain ⟨⟨xhR4, rfl, xhR40, xhR41⟩, rfl⟩ := hR4
 refine hl_eqL (l' := (boxE b1 #[.int .i64 0, .int .i64 0] 55 :: curE g a len cap :: l)) rfl ?_
 refine hl_v rfl rfl rfl (rv_ev rfl) ?_
 refine hl_less (sx 0 rfl (sx 2 rfl (sx 3 rfl (sub_nil _)))) (.refl _) ?_
 refine hl_nil ?_
 refine hq_then ?_
 refine hc_seq ?_
 refine hc_region ?_
 have hn : 0 ≤ xhR4 ∧ xhR4 ≤ 4 := by omega
 have hp := pn_rng hn
 have hq := qn_rng hn
 refine hl_v rfl rfl rfl (rv_ev rfl) ?_
 refine hl_v rfl rfl rfl (rv_ev rfl) ?_
 refine hl_callV rfl rfl rfl (rq_call (by kernel_rfl) rfl (fun w hm => ret_ans (l02Full_ans _ w (by omega)))) ?_
 refine hl_v rfl rfl rfl (rv_add rfl rfl rfl (by constructor <;> omega)) ?_
 refine hl_callM (R := (fun u_ p_ => (∃ x_ : Int, u_ = .int .i64 x_ ∧ 0 ≤ x_ ∧ x_ < (qn xhR4 - 1) + 1) ∧ p_ = curE g a len cap)) 1 rfl rfl (by kernel_rfl) rfl rfl (fun l' w hm => belowN_mut g a len cap z ((qn xhR4 - 1) + 1) _ _ _ hm hb (by constructor <;> omega)) ?_
 intro v5 p6 hR7
 obtain ⟨⟨xhR7, rfl, xhR70, xhR71⟩, rfl⟩ := hR7
 refine hl_eqL (l' := (boxE b1 #[.int .i64 0, .int .i64 0] 55 :: curE g a len cap :: l)) rfl ?_
 refine hl_v rfl rfl rfl (rv_ev rfl) ?_
 refine hl_less (sx 0 rfl (sx 2 rfl (sx 3 rfl (sx 4 rfl (sub_nil _))))) (.refl _) ?_
 refine hl_nil ?_
 refine hq_then ?_
 refine hc_seq ?_
 refine hc_seq ?_
 refine hc_region ?_
 refine hl_v rfl rfl rfl (rv_ev rfl) ?_
 refine hl_callM (R := (fun u_ p_ => (∃ b : Bool, u_ = .bool b) ∧ p_ = curE g a len cap)) 1 rfl rfl (by kernel_rfl) rfl rfl (fun l' w hm => once_mut hm hb (3) (by omega) (by omega)) ?_
 intro v8 p9 hR10
 obtain ⟨⟨xhR10, rfl⟩, rfl⟩ := hR10
 refine hl_eqL (l' := (boxE b1 #[.int .i64 0, .int .i64 0] 55 :: curE g a len cap :: l)) rfl ?_
 refine hl_bool (fun h11 => ?_) (fun h11 => ?_)
 ·
  refine hl_v rfl rfl rfl (rv_ev rfl) ?_
  refine hl_v rfl rfl rfl (rv_ev rfl) ?_
  refine hl_gtr rfl rfl rfl rfl rfl rfl (fun h12 => ?_) (fun h12 => ?_)
  ·
   refine hl_v rfl rfl rfl (rv_ev rfl) ?_
   refine hl_less (sx 0 rfl (sx 2 rfl (sx 3 rfl (sx 4 rfl (sx 21 rfl (sub_nil _)))))) (.refl _) ?_
   refine hl_nil ?_
   refine hq_then ?_
   refine hc_true rfl ?_
   refine hc_seq ?_
   refine hc_region ?_
   refine hl_v rfl rfl rfl (rv_ev rfl) ?_
   refine hl_v rfl rfl rfl (rv_ev rfl) ?_
   refine hl_v rfl rfl rfl (rv_ev rfl) ?_
   refine hl_callM (R := (fun u_ p_ => (∃ x_ : Int, u_ = .int .i64 x_ ∧ 0 ≤ x_ ∧ x_ < xhR4) ∧ p_ = curE g a len cap)) 1 rfl rfl (by kernel_rfl) rfl rfl (fun l' w hm => belowN_mut g a len cap z xhR4 _ _ _ hm hb (by constructor <;> omega)) ?_
   intro v13 p14 hR15
   obtain ⟨⟨xhR15, rfl, xhR150, xhR151⟩, rfl⟩ := hR15
   refine hl_eqL (l' := (boxE b1 #[.int .i64 0, .int .i64 0] 55 :: curE g a len cap :: l)) rfl ?_
   refine hl_q rfl rfl rfl (rq_call (by kernel_rfl) rfl (fun w hm => TableVar_ret _ _ w hn ⟨by omega, by omega⟩)) ?_
   intro v16 p17 hR18
   obtain ⟨rfl, thR18, okthR18, enthR18, rfl⟩ := hR18
   obtain ⟨onthR18, obthR18⟩ := okthR18
   obtain ⟨tnthR18, tbthR18⟩ := thR18
   dsimp only at enthR18 onthR18 obthR18 ⊢
   subst tnthR18
   refine hl_v rfl rfl rfl (rv_ev rfl) ?_
   refine hl_v rfl rfl rfl (rv_ev rfl) ?_
   refine hl_v rfl rfl rfl (rv_ev rfl) ?_
   refine hl_box rfl rfl rfl (rq_alloc (z := .agg #[.int .i64 0, .int .i64 0]) rfl (by kernel_rfl)) ?_
   intro b19
   refine hl_storeBoxN (i := 0) (off := 0) (us := [.int .i64 xhR4, .int .i64 tbthR18]) (l' := (boxE b19 #[.int .i64 xhR4, .int .i64 tbthR18] 55 :: boxE b1 #[.int .i64 0, .int .i64 0] 55 :: curE g a len cap :: l)) rfl rfl rfl (by kernel_rfl) rfl rfl rfl (all_cons rfl (all_cons rfl all_nil)) rfl rfl rfl ?_
   refine hl_v rfl rfl rfl (rv_ev rfl) ?_
   refine hl_less (sx 0 rfl (sx 2 rfl (sx 3 rfl (sx 4 rfl (sx 5 rfl (sx 21 rfl (sub_nil _))))))) (.refl _) ?_
   refine hl_nil ?_
   refine hq_then ?_
   refine hc_seq ?_
   refine hc_region ?_
   refine hl_v rfl rfl rfl (rv_ev rfl) ?_
   refine hl_v rfl rfl rfl (rv_ev rfl) ?_
   refine hl_v rfl rfl rfl (rv_ev rfl) ?_
   refine hl_callM (R := (fun u_ p_ => (∃ x_ : Int, u_ = .int .i64 x_ ∧ 0 ≤ x_ ∧ x_ < xhR4) ∧ p_ = curE g a len cap)) 2 rfl rfl (by kernel_rfl) rfl rfl (fun l' w hm => belowN_mut g a len cap z xhR4 _ _ _ hm hb (by constructor <;> omega)) ?_
   intro v20 p21 hR22
   obtain ⟨⟨xhR22, rfl, xhR220, xhR221⟩, rfl⟩ := hR22
   refine hl_eqL (l' := (boxE b19 #[.int .i64 xhR4, .int .i64 tbthR18] 55 :: boxE b1 #[.int .i64 0, .int .i64 0] 55 :: curE g a len cap :: l)) rfl ?_
   refine hl_q rfl rfl rfl (rq_call (by kernel_rfl) rfl (fun w hm => TableVar_ret _ _ w hn ⟨by omega, by omega⟩)) ?_
   intro v23 p24 hR25
   obtain ⟨rfl, thR25, okthR25, enthR25, rfl⟩ := hR25
   obtain ⟨onthR25, obthR25⟩ := okthR25
   obtain ⟨tnthR25, tbthR25⟩ := thR25
   dsimp only at enthR25 onthR25 obthR25 ⊢
   subst tnthR25
   refine hl_v rfl rfl rfl (rv_ev rfl) ?_
   refine hl_v rfl rfl rfl (rv_ev rfl) ?_
   refine hl_v rfl rfl rfl (rv_ev rfl) ?_
   refine hl_box rfl rfl rfl (rq_alloc (z := .agg #[.int .i64 0, .int .i64 0]) rfl (by kernel_rfl)) ?_
   intro b26
   refine hl_storeBoxN (i := 0) (off := 0) (us := [.int .i64 xhR4, .int .i64 tbthR25]) (l' := (boxE b26 #[.int .i64 xhR4, .int .i64 tbthR25] 55 :: boxE b19 #[.int .i64 xhR4, .int .i64 tbthR18] 55 :: boxE b1 #[.int .i64 0, .int .i64 0] 55 :: curE g a len cap :: l)) rfl rfl rfl (by kernel_rfl) rfl rfl rfl (all_cons rfl (all_cons rfl all_nil)) rfl rfl rfl ?_
   refine hl_v rfl rfl rfl (rv_ev rfl) ?_
   refine hl_less (sx 0 rfl (sx 2 rfl (sx 3 rfl (sx 4 rfl (sx 5 rfl (sx 7 rfl (sx 21 rfl (sub_nil _)))))))) (.refl _) ?_
   refine hl_nil ?_
   refine hq_then ?_
   refine hc_seq ?_
   refine hc_seq ?_
   refine hc_region ?_
   refine hl_v rfl rfl rfl (rv_ev rfl) ?_
   refine hl_callM (R := (fun u_ p_ => (∃ b : Bool, u_ = .bool b) ∧ p_ = curE g a len cap)) 3 rfl rfl (by kernel_rfl) rfl rfl (fun l' w hm => once_mut hm hb (2) (by omega) (by omega)) ?_
   intro v27 p28 hR29
   obtain ⟨⟨xhR29, rfl⟩, rfl⟩ := hR29
   refine hl_eqL (l' := (boxE b26 #[.int .i64 xhR4, .int .i64 tbthR25] 55 :: boxE b19 #[.int .i64 xhR4, .int .i64 tbthR18] 55 :: boxE b1 #[.int .i64 0, .int .i64 0] 55 :: curE g a len cap :: l)) rfl ?_
   refine hl_bool (fun h30 => ?_) (fun h30 => ?_)
   ·
    refine hl_less (sx 0 rfl (sx 2 rfl (sx 3 rfl (sx 4 rfl (sx 5 rfl (sx 7 rfl (sx 21 rfl (sx 39 rfl (sub_nil _))))))))) (.refl _) ?_
    refine hl_nil ?_
    refine hq_then ?_
    refine hc_true rfl ?_
    refine hc_seq ?_
    refine hc_region ?_
    refine hl_v rfl rfl rfl (rv_loadN (cs := [.int .i64 xhR4, .int .i64 tbthR18]) rfl (by kernel_rfl) (by kernel_rfl) rfl rfl (box_part 1 rfl 0 rfl)) ?_
    refine hl_v rfl rfl rfl (rv_loadN (cs := [.int .i64 xhR4, .int .i64 tbthR25]) rfl (by kernel_rfl) (by kernel_rfl) rfl rfl (box_part 0 rfl 0 rfl)) ?_
    refine hl_q rfl rfl rfl (rq_call (by kernel_rfl) rfl (fun w hm => TableAnd_ret _ _ _ w hn (by omega) (by omega))) ?_
    intro v31 p32 hR33
    obtain ⟨rfl, thR33, okthR33, enthR33, rfl⟩ := hR33
    obtain ⟨onthR33, obthR33⟩ := okthR33
    obtain ⟨tnthR33, tbthR33⟩ := thR33
    dsimp only at enthR33 onthR33 obthR33 ⊢
    subst tnthR33
    refine hl_q rfl rfl rfl (rq_call (by kernel_rfl) rfl (fun w hm => TableNot_ret _ _ w hn (by omega))) ?_
    intro v34 p35 hR36
    obtain ⟨rfl, thR36, okthR36, enthR36, rfl⟩ := hR36
    obtain ⟨onthR36, obthR36⟩ := okthR36
    obtain ⟨tnthR36, tbthR36⟩ := thR36
    dsimp only at enthR36 onthR36 obthR36 ⊢
    subst tnthR36
    refine hl_storeBoxN (i := 2) (off := 0) (us := [.int .i64 xhR4, .int .i64 tbthR36]) (l' := (boxE b26 #[.int .i64 xhR4, .int .i64 tbthR25] 55 :: boxE b19 #[.int .i64 xhR4, .int .i64 tbthR18] 55 :: boxE b1 #[.int .i64 xhR4, .int .i64 tbthR36] 55 :: curE g a len cap :: l)) rfl rfl rfl (by kernel_rfl) rfl rfl rfl (all_cons rfl (all_cons rfl all_nil)) rfl rfl rfl ?_
    refine hl_less (sx 0 rfl (sx 2 rfl (sx 3 rfl (sx 4 rfl (sx 5 rfl (sx 7 rfl (sx 21 rfl (sx 39 rfl (sub_nil _))))))))) (.refl _) ?_
    refine hl_nil ?_
    refine hq_then ?_
    refine hc_ret ?_
    refine hq_then_ret ?_
    refine hq_then_ret ?_
    exact hq_ret (rs := [.cell 2 55]) (vs := [.agg #[.int .i64 xhR4, .int .i64 tbthR36]]) rfl ⟨⟨b1, 0, [.int .i64 xhR4, .int .i64 tbthR36], rfl, rfl, by kernel_rfl, by kernel_rfl, box_part 2 rfl 0 rfl⟩, trivial⟩ rfl (fun w hm => ⟨_, curE g a len cap, rfl, ⟨⟨⟨xhR4, tbthR36⟩, ⟨(by show 0 ≤ xhR4 ∧ xhR4 ≤ 4; omega), (by show 0 ≤ tbthR36 ∧ tbthR36 ≤ qn (xhR4) - 1; omega)⟩, rfl⟩, rfl⟩, hm.sub ((.cons _ (.cons _ (.cons _ (.cons_cons _ (.refl _))))))⟩)
   ·
    refine hl_less (sx 0 rfl (sx 2 rfl (sx 3 rfl (sx 4 rfl (sx 5 rfl (sx 7 rfl (sx 21 rfl (sx 39 rfl (sub_nil _))))))))) (.refl _) ?_
    refine hl_nil ?_
    refine hq_then ?_
    refine hc_false rfl ?_
    refine hc_skip ?_
    refine hq_then ?_
    refine hc_seq ?_
    refine hc_region ?_
    refine hl_v rfl rfl rfl (rv_loadN (cs := [.int .i64 xhR4, .int .i64 tbthR18]) rfl (by kernel_rfl) (by kernel_rfl) rfl rfl (box_part 1 rfl 0 rfl)) ?_
    refine hl_v rfl rfl rfl (rv_loadN (cs := [.int .i64 xhR4, .int .i64 tbthR25]) rfl (by kernel_rfl) (by kernel_rfl) rfl rfl (box_part 0 rfl 0 rfl)) ?_
    refine hl_q rfl rfl rfl (rq_call (by kernel_rfl) rfl (fun w hm => TableXor_ret _ _ _ w hn (by omega) (by omega))) ?_
    intro v37 p38 hR39
    obtain ⟨rfl, thR39, okthR39, enthR39, rfl⟩ := hR39
    obtain ⟨onthR39, obthR39⟩ := okthR39
    obtain ⟨tnthR39, tbthR39⟩ := thR39
    dsimp only at enthR39 onthR39 obthR39 ⊢
    subst tnthR39
    refine hl_storeBoxN (i := 2) (off := 0) (us := [.int .i64 xhR4, .int .i64 tbthR39]) (l' := (boxE b26 #[.int .i64 xhR4, .int .i64 tbthR25] 55 :: boxE b19 #[.int .i64 xhR4, .int .i64 tbthR18] 55 :: boxE b1 #[.int .i64 xhR4, .int .i64 tbthR39] 55 :: curE g a len cap :: l)) rfl rfl rfl (by kernel_rfl) rfl rfl rfl (all_cons rfl (all_cons rfl all_nil)) rfl rfl rfl ?_
    refine hl_less (sx 0 rfl (sx 2 rfl (sx 3 rfl (sx 4 rfl (sx 5 rfl (sx 7 rfl (sx 21 rfl (sx 39 rfl (sub_nil _))))))))) (.refl _) ?_
    refine hl_nil ?_
    refine hq_then ?_
    refine hc_ret ?_
    refine hq_then_ret ?_
    exact hq_ret (rs := [.cell 2 55]) (vs := [.agg #[.int .i64 xhR4, .int .i64 tbthR39]]) rfl ⟨⟨b1, 0, [.int .i64 xhR4, .int .i64 tbthR39], rfl, rfl, by kernel_rfl, by kernel_rfl, box_part 2 rfl 0 rfl⟩, trivial⟩ rfl (fun w hm => ⟨_, curE g a len cap, rfl, ⟨⟨⟨xhR4, tbthR39⟩, ⟨(by show 0 ≤ xhR4 ∧ xhR4 ≤ 4; omega), (by show 0 ≤ tbthR39 ∧ tbthR39 ≤ qn (xhR4) - 1; omega)⟩, rfl⟩, rfl⟩, hm.sub ((.cons _ (.cons _ (.cons _ (.cons_cons _ (.refl _))))))⟩)
  ·
   refine hl_v rfl rfl rfl (rv_ev rfl) ?_
   refine hl_less (sx 0 rfl (sx 2 rfl (sx 3 rfl (sx 4 rfl (sx 21 rfl (sub_nil _)))))) (.refl _) ?_
   refine hl_nil ?_
   refine hq_then ?_
   refine hc_false rfl ?_
   refine hc_skip ?_
   refine hq_then ?_
   refine hc_seq ?_
   refine hc_region ?_
   refine hl_v rfl rfl rfl (rv_ev rfl) ?_
   refine hl_v rfl rfl rfl (rv_ev rfl) ?_
   refine hl_v rfl rfl rfl (rv_build (cs := #[.int .i64 xhR4, .int .i64 xhR7]) rfl rfl (by kernel_rfl)) ?_
   refine hl_storeBoxN (i := 0) (off := 0) (us := [.int .i64 xhR4, .int .i64 xhR7]) (l' := (boxE b1 #[.int .i64 xhR4, .int .i64 xhR7] 55 :: curE g a len cap :: l)) rfl rfl rfl (by kernel_rfl) rfl rfl rfl (all_cons rfl (all_cons rfl all_nil)) rfl rfl rfl ?_
   refine hl_less (sx 0 rfl (sx 2 rfl (sx 3 rfl (sx 4 rfl (sx 21 rfl (sub_nil _)))))) (.refl _) ?_
   refine hl_nil ?_
   refine hq_then ?_
   refine hc_ret ?_
   exact hq_ret (rs := [.cell 2 55]) (vs := [.agg #[.int .i64 xhR4, .int .i64 xhR7]]) rfl ⟨⟨b1, 0, [.int .i64 xhR4, .int .i64 xhR7], rfl, rfl, by kernel_rfl, by kernel_rfl, box_part 0 rfl 0 rfl⟩, trivial⟩ rfl (fun w hm => ⟨_, curE g a len cap, rfl, ⟨⟨⟨xhR4, xhR7⟩, ⟨(by show 0 ≤ xhR4 ∧ xhR4 ≤ 4; omega), (by show 0 ≤ xhR7 ∧ xhR7 ≤ qn (xhR4) - 1; omega)⟩, rfl⟩, rfl⟩, hm.sub ((.cons _ (.cons_cons _ (.refl _))))⟩)
 ·
  refine hl_v rfl rfl rfl (rv_ev rfl) ?_
  refine hl_skip rfl rfl rfl ?_
  refine hl_skip rfl rfl rfl ?_
  refine hl_v rfl rfl rfl (rv_ev rfl) ?_
  refine hl_less (sx 0 rfl (sx 2 rfl (sx 3 rfl (sx 4 rfl (sx 21 rfl (sub_nil _)))))) (.refl _) ?_
  refine hl_nil ?_
  refine hq_then ?_
  refine hc_false rfl ?_
  refine hc_skip ?_
  refine hq_then ?_
  refine hc_seq ?_
  refine hc_region ?_
  refine hl_v rfl rfl rfl (rv_ev rfl) ?_
  refine hl_v rfl rfl rfl (rv_ev rfl) ?_
  refine hl_v rfl rfl rfl (rv_build (cs := #[.int .i64 xhR4, .int .i64 xhR7]) rfl rfl (by kernel_rfl)) ?_
  refine hl_storeBoxN (i := 0) (off := 0) (us := [.int .i64 xhR4, .int .i64 xhR7]) (l' := (boxE b1 #[.int .i64 xhR4, .int .i64 xhR7] 55 :: curE g a len cap :: l)) rfl rfl rfl (by kernel_rfl) rfl rfl rfl (all_cons rfl (all_cons rfl all_nil)) rfl rfl rfl ?_
  refine hl_less (sx 0 rfl (sx 2 rfl (sx 3 rfl (sx 4 rfl (sx 21 rfl (sub_nil _)))))) (.refl _) ?_
  refine hl_nil ?_
  refine hq_then ?_
  refine hc_ret ?_
  exact hq_ret (rs := [.cell 2 55]) (vs := [.agg #[.int .i64 xhR4, .int .i64 xhR7]]) rfl ⟨⟨b1, 0, [.int .i64 xhR4, .int .i64 xhR7], rfl, rfl, by kernel_rfl, by kernel_rfl, box_part 0 rfl 0 rfl⟩, trivial⟩ rfl (fun w hm => ⟨_, curE g a len cap, rfl, ⟨⟨⟨xhR4, xhR7⟩, ⟨(by show 0 ≤ xhR4 ∧ xhR4 ≤ 4; omega), (by show 0 ≤ xhR7 ∧ xhR7 ≤ qn (xhR4) - 1; omega)⟩, rfl⟩, rfl⟩, hm.sub ((.cons _ (.cons_cons _ (.refl _))))⟩)
set_option maxHeartbeats 4000000 in
set_option maxRecDepth 100000 in
theorem DrawTable_ret (a : Option Addr) (len cap : Nat) (z : List Int) (w : World) (hb : BRow .u8 w a len cap z) (hlen : len ≤ 1048576) :
  Calls Try.prog 40 #[.slice a len cap] w (Ret w (fun v' post => post = [] ∧ ∃ (t : Tab) (x : Int), TabOk t ∧ v' = .tuple #[.agg #[.int .i64 t.N, .int .i64 t.B], .int .i64 x])) := by
 refine calls_hc (N := 16) (args := [.slice a len cap]) Try.func40 rfl rfl ?_
 refine hc_less _ (sx 0 rfl (sub_nil _)) (.refl _) ?_
 refine hc_seq ?_
 refine hc_region ?_
 refine hl_box rfl rfl rfl (rq_alloc (z := .agg #[.int .i64 0, .int .i64 0]) rfl (by kernel_rfl)) ?_
 intro b1
 refine hl_v rfl rfl rfl (rv_ev rfl) ?_
 refine hl_less (sx 0 rfl (sx 2 rfl (sx 3 rfl (sub_nil _)))) (.refl _) ?_
 refine hl_nil ?_
 refine hq_then ?_
 refine hc_seq ?_
 refine hc_region ?_
 refine hl_v rfl rfl rfl (rv_ev rfl) ?_
 refine hl_q rfl rfl rfl (rq_call (by kernel_rfl) rfl (fun w hm => new_ret (hb.below hm.bel) hlen)) ?_
 intro v2 p3 hR4
 obtain ⟨ghR4, rfl, rfl⟩ := hR4
 refine hl_v rfl rfl rfl (rv_ev rfl) ?_
 refine hl_less (sx 0 rfl (sx 2 rfl (sx 3 rfl (sx 4 rfl (sub_nil _))))) (.refl _) ?_
 refine hl_nil ?_
 refine hq_then ?_
 refine hc_seq ?_
 refine hc_region ?_
 refine hl_v rfl rfl rfl (rv_ev rfl) ?_
 refine hl_callM (R := (fun u_ p_ => (∃ t : Tab, TabOk t ∧ u_ = .agg #[.int .i64 t.N, .int .i64 t.B]) ∧ p_ = curE ghR4 a len cap)) 0 rfl rfl (by kernel_rfl) rfl rfl (fun l' w hm => l02Table_mut ghR4 a len cap z _ _ _ hm hb) ?_
 intro v5 p6 hR7
 obtain ⟨⟨t, ht, rfl⟩, rfl⟩ := hR7
 have hn := ht.1
 have hp := pn_rng hn
 refine hl_eqL (l' := [curE ghR4 a len cap, boxE b1 #[.int .i64 0, .int .i64 0] 55]) rfl ?_
 refine hl_box rfl rfl rfl (rq_alloc (z := .agg #[.int .i64 0, .int .i64 0]) rfl (by kernel_rfl)) ?_
 intro b8
 refine hl_storeBoxN (i := 0) (off := 0) (us := [.int .i64 t.N, .int .i64 t.B]) (l' := [boxE b8 #[.int .i64 t.N, .int .i64 t.B] 55, curE ghR4 a len cap, boxE b1 #[.int .i64 0, .int .i64 0] 55]) rfl rfl rfl (by kernel_rfl) rfl rfl rfl (all_cons rfl (all_cons rfl all_nil)) rfl rfl rfl ?_
 refine hl_less (sx 0 rfl (sx 2 rfl (sx 3 rfl (sx 4 rfl (sx 5 rfl (sub_nil _)))))) (.refl _) ?_
 refine hl_nil ?_
 refine hq_then ?_
 refine hc_seq ?_
 refine hc_conv [curE ghR4 a len cap, boxE b8 #[.int .i64 t.N, .int .i64 t.B] 55, boxE b1 #[.int .i64 0, .int .i64 0] 55] (conv_pick (src := [boxE b8 #[.int .i64 t.N, .int .i64 t.B] 55, curE ghR4 a len cap, boxE b1 #[.int .i64 0, .int .i64 0] 55]) (dst := [curE ghR4 a len cap, boxE b8 #[.int .i64 t.N, .int .i64 t.B] 55, boxE b1 #[.int .i64 0, .int .i64 0] 55]) (l := []) [1, 0, 2] (by decide) rfl) ?_
 refine hc_draw2 (l := [boxE b8 #[.int .i64 t.N, .int .i64 t.B] 55, boxE b1 #[.int .i64 0, .int .i64 0] 55]) (by kernel_rfl) 6 [0, 1, 2, 3, 4, 5] (List.take 6 _) (List.drop 6 _) [[], [], [], [2], [3], [1, 4]] [10, 11, 12, 13, 14, 15] (fun i_ vs_ v_ p_ => match i_ with | 0 => v_ = .agg #[.int .i64 t.N, .int .i64 t.B] ∧ p_ = [] | 1 => v_ = .pointer (some ⟨ghR4, 0, none⟩) ∧ p_ = [] | 2 => v_ = .pointer (some ⟨b8, 0 + 0, none⟩) ∧ p_ = [] | 3 => v_ = .int .i64 t.N ∧ p_ = [] | 4 => v_ = .int .i64 (pn t.N : Int) ∧ p_ = [] | 5 => (∃ pm_, p_ = [pm_] ∧ (fun u_ p_ => (∃ x_ : Int, u_ = .int .i64 x_ ∧ 0 ≤ x_ ∧ x_ < (pn t.N : Int)) ∧ p_ = curE ghR4 a len cap) v_ pm_) | _ => True) [[], [], [], [2], [3], [1, 4]] [none, none, none, none, none, some 8] [curE ghR4 a len cap] [0, 1, 2, 3, 4, 5] 8 (List.take_append_drop 6 _).symm (by kernel_rfl) (by kernel_rfl) (by kernel_rfl) rfl rfl ?_ ?_
 ·
  refine ⟨?_, ?_, ?_, ?_, ?_, ?_, trivial⟩
  ·
   intro vf pf hmu hR
   refine Or.inl ⟨rfl, ?_⟩
   show RunQ _ _ _ (([] : List Nat).flatMap pf ++ _) (envOf _ vf [] ++ _) _ _
   refine rq_less (sx 5 rfl (sub_nil _)) (List.sublist_append_right _ _) ?_
   exact rq_v (rv_loadN (cs := [.int .i64 t.N, .int .i64 t.B]) rfl (by kernel_rfl) (by kernel_rfl) rfl rfl (box_part 0 rfl 0 rfl))
  ·
   intro vf pf hmu hR
   refine Or.inl ⟨rfl, ?_⟩
   show RunQ _ _ _ (([] : List Nat).flatMap pf ++ _) (envOf _ vf [] ++ _) _ _
   refine rq_less (sx 4 rfl (sub_nil _)) (List.sublist_append_right _ _) ?_
   exact rq_v (rv_ev rfl)
  ·
   intro vf pf hmu hR
   refine Or.inl ⟨rfl, ?_⟩
   show RunQ _ _ _ (([] : List Nat).flatMap pf ++ _) (envOf _ vf [] ++ _) _ _
   refine rq_less (sx 5 rfl (sub_nil _)) (List.sublist_append_right _ _) ?_
   exact rq_v (rv_field (k0 := 0) rfl (by kernel_rfl) rfl)
  ·
   intro vf pf hmu hR
   have e2 : (vf 2) = .pointer (some ⟨b8, 0 + 0, none⟩) ∧ (pf 2) = [] := hR 2 (by decide)
   refine Or.inl ⟨rfl, ?_⟩
   show RunQ _ _ _ (([2] : List Nat).flatMap pf ++ _) (envOf _ vf [2] ++ _) _ _
   refine rq_less (sx 12 (congrArg some e2.1) (sub_nil _)) (List.sublist_append_right _ _) ?_
   exact rq_v (rv_load rfl (by kernel_rfl) rfl (box_cell 0 rfl rfl))
  ·
   intro vf pf hmu hR
   have e3 : (vf 3) = .int .i64 t.N ∧ (pf 3) = [] := hR 3 (by decide)
   refine Or.inl ⟨rfl, ?_⟩
   show RunQ _ _ _ (([3] : List Nat).flatMap pf ++ _) (envOf _ vf [3] ++ _) _ _
   refine rq_less (sx 13 (congrArg some e3.1) (sub_nil _)) (List.sublist_append_right _ _) ?_
   exact rq_v (rv_shlG (k := .i64) (kk := .i64) (r := (pn t.N : Int)) rfl rfl rfl rfl (by omega) (wr1 hn))
  ·
   intro vf pf hmu hR
   have e1 : (vf 1) = .pointer (some ⟨ghR4, 0, none⟩) ∧ (pf 1) = [] := hR 1 (by decide)
   have e4 : (vf 4) = .int .i64 (pn t.N : Int) ∧ (pf 4) = [] := hR 4 (by decide)
   refine Or.inl ⟨rfl, ?_⟩
   show RunM _ _ _ (pf 8) (([1, 4] : List Nat).flatMap pf ++ _) (envOf _ vf [1, 4] ++ _) _ _
   rw [hmu]
   refine rm_less (X' := [boxE b8 #[.int .i64 t.N, .int .i64 t.B] 55, boxE b1 #[.int .i64 0, .int .i64 0] 55]) (sx 11 (congrArg some e1.1) (sx 14 (congrArg some e4.1) (sub_nil _))) (by first | (simp only [e1.2, e4.2, List.flatMap_cons, List.flatMap_nil, List.append_nil, List.nil_append, List.cons_append]; exact List.Sublist.refl _) | simp [e1.2, e4.2]) ?_
   exact rq_callM (R := (fun u_ p_ => (∃ x_ : Int, u_ = .int .i64 x_ ∧ 0 ≤ x_ ∧ x_ < (pn t.N : Int)) ∧ p_ = curE ghR4 a len cap)) (by kernel_rfl) rfl (fun L w hX hm => belowN_mut ghR4 a len cap z (pn t.N : Int) _ _ _ hm hb (by constructor <;> omega))
 ·
  intro vf pf hmu hR
  have e0 : (vf 0) = .agg #[.int .i64 t.N, .int .i64 t.B] ∧ (pf 0) = [] := hR 0 (by decide)
  have e5 : (∃ pm_, (pf 5) = [pm_] ∧ (fun u_ p_ => (∃ x_ : Int, u_ = .int .i64 x_ ∧ 0 ≤ x_ ∧ x_ < (pn t.N : Int)) ∧ p_ = curE ghR4 a len cap) (vf 5) pm_) := hR 5 (by decide)
  obtain ⟨p10, p5, hR11⟩ := e5
  obtain ⟨v9, v5⟩ : ∃ x, vf 5 = x := ⟨_, rfl⟩
  rw [v5] at hR11
  obtain ⟨⟨xhR11, rfl, xhR110, xhR111⟩, rfl⟩ := hR11
  have q0 : (vf 0) = .agg #[.int .i64 t.N, .int .i64 t.B] ∧ (pf 0) = [] := hR 0 (by decide)
  have q1 : (vf 1) = .pointer (some ⟨ghR4, 0, none⟩) ∧ (pf 1) = [] := hR 1 (by decide)
  have q2 : (vf 2) = .pointer (some ⟨b8, 0 + 0, none⟩) ∧ (pf 2) = [] := hR 2 (by decide)
  have q3 : (vf 3) = .int .i64 t.N ∧ (pf 3) = [] := hR 3 (by decide)
  have q4 : (vf 4) = .int .i64 (pn t.N : Int) ∧ (pf 4) = [] := hR 4 (by decide)
  refine hl_less (l' := [curE ghR4 a len cap, boxE b8 #[.int .i64 t.N, .int .i64 t.B] 55, boxE b1 #[.int .i64 0, .int .i64 0] 55]) (sx 0 rfl (sx 2 rfl (sx 3 rfl (sx 4 rfl (sx 5 rfl (sx 10 (congrArg some e0.1) (sx 15 (congrArg some v5) (sub_nil _)))))))) (by first | (simp only [p5, v5, q0.2, q1.2, q2.2, q3.2, q4.2, List.flatMap_cons, List.flatMap_nil, List.append_nil, List.nil_append, List.cons_append]; exact List.Sublist.refl _) | simp [p5, v5, q0.2, q1.2, q2.2, q3.2, q4.2]) ?_
  simp only [List.drop_succ_cons, List.drop_zero]
  refine hl_storeBoxN (i := 2) (off := 0) (us := [.int .i64 t.N, .int .i64 t.B]) (l' := [curE ghR4 a len cap, boxE b8 #[.int .i64 t.N, .int .i64 t.B] 55, boxE b1 #[.int .i64 t.N, .int .i64 t.B] 55]) rfl rfl rfl (by kernel_rfl) rfl rfl rfl (all_cons rfl (all_cons rfl all_nil)) rfl rfl rfl ?_
  refine hl_v rfl rfl rfl (rv_ev rfl) ?_
  refine hl_less (sx 0 rfl (sx 2 rfl (sx 3 rfl (sx 4 rfl (sx 5 rfl (sub_nil _)))))) (.refl _) ?_
  refine hl_nil ?_
  refine hq_then ?_
  refine hc_ret ?_
  exact hq_retM (rs := [.cell 2 55, .tmp 3]) (vs := [.agg #[.int .i64 t.N, .int .i64 t.B], .int .i64 xhR11]) (post := []) rfl ⟨⟨b1, 0, [.int .i64 t.N, .int .i64 t.B], rfl, rfl, by kernel_rfl, by kernel_rfl, box_part 2 rfl 0 rfl⟩, rfl, trivial⟩ rfl ((.cons _ (.cons _ (.cons _ .slnil)))) ⟨rfl, t, _, ht, rfl⟩
section
variable {P : Program} {N : Nat} {w0 : World} {l : List HP} {env : List (Nat × Value)} {o : Oper}
theorem rv_makeFunc {fn : Fn} {xs ys : Array Operand} {us vs : List Value} (ho : o.op = .makeFunc fn xs ys) (hx : evs env xs.toList = some us) (hy : evs env ys.toList = some vs) : RunV P N w0 l env o (.func fn us.toArray vs.toArray) := fun a w st => by
  have h1 := evs_map st _ _ hx
  have h2 := evs_map st _ _ hy
  have e1 : xs.map a.eval = us.toArray := by apply Array.toList_inj.1; simpa using h1
  have e2 : ys.map a.eval = vs.toArray := by apply Array.toList_inj.1; simpa using h2
  simp [execOp, ho, Instr.makeFunc, e1, e2]
theorem rq_callF {f : FuncId} {x : Operand} {xs : Array Operand} {ats : Array TypeId} {vs cs : List Value} {R : Value → List HP → Prop} {ty : TypeId} {pos : String} {af : Array Edge} {gd : Option (Nat × Bool)} {ds : Option Nat}
    (hgo : goesB P f = true) (hx : ev env x = some (.func (.func f) #[] cs.toArray)) (hvs : evs env xs.toList = some vs) (hc : ∀ w, Mem w0 l w → Calls P f (vs ++ cs).toArray w (Ret w R)) : RunQ P N w0 l env { dst := ds, op := .call { callee := .value x, args := xs, argTypes := ats }, type := ty, pos := pos, after := af, guard := gd } R := fun a w st Q K hK => by
  unfold Oper.wp
  have h1 := evs_map st _ _ hvs
  have e1 : xs.map a.eval = vs.toArray := by apply Array.toList_inj.1; simpa using h1
  have h2 : (execOp a.eval { dst := ds, op := .call { callee := .value x, args := xs, argTypes := ats }, type := ty, pos := pos, after := af, guard := gd }).run P w = (callFunc f (vs ++ cs).toArray).run P w := by
    simp [execOp, resolve, Deferred.ofValue, invoke, st.eval hx, e1]
  rw [h2, run_go hgo, Oper.upon_enter]
  refine (hc w st.mem).mono fun e w' h => ?_
  obtain ⟨v, post, rfl, hR, hpost⟩ := h
  exact hK _ _ _ hR hpost
theorem rv_max {t : Array TypeId} {x y : Operand} {m n : Int} (ho : o.op = .call { callee := .builtin .max, args := #[x, y], argTypes := t }) (hx : ev env x = some (.int .i64 m)) (hy : ev env y = some (.int .i64 n)) : RunV P N w0 l env o (.int .i64 (if m < n then n else m)) := fun a w st => by
  have bm : ∀ (ats : Array TypeId) (ty : TypeId) (cs : Array Bool) (args : Array Value), builtin .max ats ty cs args = (do pure (.value (← Builtin.max_ ats ty args))) := fun _ _ _ _ => rfl
  have h := run_max_int2 (P := P) w t o.type .i64 .i64 m n
  simp only [execOp, ho, resolve, invoke, bm, Sem.run_bind, Sem.run_pure, Result.andThen_ok, List.map_toArray, List.map_cons, List.map_nil, st.eval hx, st.eval hy, h]
end
theorem nodup_shift (n k : Nat) : ((List.range k).map (n + ·)).Nodup := by
  rw [List.Nodup, List.pairwise_map]
  exact List.nodup_range.imp (fun h e => h (by omega))
theorem range_getD {α : Type} (P0 : List (List α)) : (List.range P0.length).map (fun a => P0.getD a []) = P0 := by
  apply List.ext_getElem (by simp)
  intro i h1 h2
  simp [List.getD_eq_getElem?_getD, List.getElem?_eq_getElem h2]
def tauOk3 (os : List Oper) (m K : Nat) (dps qd : List (List Nat)) (tau : List (Option Nat)) (fl : List Nat) : Bool :=
  (List.range m).all (fun i => (qd.getD i []).all (fun j => (dps.getD i []).contains j && (List.range m).all (fun k => tau.getD k none != some j)) && decide ((qd.getD i []).Nodup)) &&
  (List.range m).all (fun i => match tau.getD i none with | none => true | some h => ((Nat.ble os.length h && Nat.blt h (os.length + K)) || (dps.getD i []).contains h) && (List.range m).all (fun k => k == i || tau.getD k none != some h)) &&
  fl.all (fun j => (Nat.blt j m || (Nat.ble os.length j && Nat.blt j (os.length + K))) && (List.range m).all (fun k => tau.getD k none != some j)) && decide fl.Nodup
def envOf3 (dsts : List (Option Nat)) (vf : Nat → Value) (is : List Nat) : List (Nat × Value) := is.filterMap fun i => (dsts.getD i none).map fun d => (d, vf i)
def drawOk3 (os : List Oper) (m : Nat) (dps : List (List Nat)) (dsts : List (Option Nat)) : Bool :=
  Nat.ble m os.length &&
  (List.range os.length).all (fun i => (depsOf os i).all (fun j => Nat.blt j i)) &&
  (List.range os.length).all (fun k => Nat.blt k m || (List.range m).all (fun j => ((msk ((List.range os.length).map (depsOf os)) []).getD k 0).testBit j)) &&
  (List.range (os.length - m)).all (fun t => Region.ready .any os.toArray (List.replicate (m + t) true ++ List.replicate (os.length - (m + t)) false).toArray == [m + t]) &&
  (os.take m).map (·.dst) == dsts && (List.range m).all (fun i => (List.range m).all (fun j => i == j || dsts.getD i none == none || dsts.getD i none != dsts.getD j none)) &&
  (List.range m).all (fun i => (dps.getD i []).all (fun j => ((msk ((List.range os.length).map (depsOf os)) []).getD i 0).testBit j) && decide ((dps.getD i []).Nodup))
section
variable {P : Program} {N : Nat} {w0 : World} {l : List HP} {env : List (Nat × Value)} {Q : Post} {os : List Oper} {m : Nat} {dps : List (List Nat)} {dsts : List (Option Nat)} {R : Nat → List Value → Value → List HP → Prop}
/-- where the quiet part stands -/
structure Mid3 (N : Nat) (w0 : World) (l : List HP) (env : List (Nat × Value)) (os : List Oper) (m : Nat) (dps : List (List Nat)) (dsts : List (Option Nat)) (R : Nat → List Value → Value → List HP → Prop) (tau : List (Option Nat)) (P0 : List (List HP)) (listed : Array Bool) (ord held : List Nat) (vf : Nat → Value) (pf : Nat → List HP) (a : Act) (w : World) : Prop where
  size : listed.size = os.length
  iff : ∀ i, i < os.length → (listed.getD i true = true ↔ i ∈ ord)
  low : ∀ i ∈ ord, i < m
  closed : ∀ i ∈ ord, ∀ j ∈ depsOf os i, j ∈ ord
  nodup : ord.Nodup
  dcl : ∀ i ∈ ord, ∀ j ∈ dps.getD i [], j ∈ ord
  rel : ∀ i ∈ ord, R i ((dps.getD i []).map vf) (vf i) (pf i)
  hn : held.Nodup
  hin : ∀ i ∈ held, i ∈ ord ∨ (os.length ≤ i ∧ i < os.length + P0.length)
  hall : ∀ i, (i ∈ ord ∨ (os.length ≤ i ∧ i < os.length + P0.length)) → (∀ j ∈ ord, tau.getD j none ≠ some i) → i ∈ held
  hP : ∀ k, k < P0.length → pf (os.length + k) = P0.getD k []
  mem : Mem w0 (held.flatMap pf ++ l) w
  asize : a.tmps.size = N
  defers : a.defers = []
  env : ∀ d v, lk env d = some v → a.tmps[d]? = some v
  slots : ∀ i ∈ ord, ∀ d, dsts[i]? = some (some d) → a.tmps[d]? = some (vf i)
theorem Mid3.st {tau P0 listed ord held vf pf a w} (h : Mid3 N w0 l env os m dps dsts R tau P0 listed ord held vf pf a w) (hm : m ≤ dsts.length) {is : List Nat} (hs : ∀ j ∈ is, j ∈ ord) {L : List HP} (hM : Mem w0 L w) : St N w0 L (envOf3 dsts vf is ++ env) a w := by
  refine ⟨hM, h.asize, h.defers, fun d v hd => ?_⟩
  rcases lk_append _ _ _ _ hd with h1 | h1
  · unfold envOf3 at h1
    rw [List.mem_filterMap] at h1
    obtain ⟨i, hi, he⟩ := h1
    rw [Option.map_eq_some_iff] at he
    obtain ⟨d', hd', he⟩ := he
    simp only [Prod.mk.injEq] at he
    obtain ⟨rfl, rfl⟩ := he
    have : dsts[i]? = some (some d') := by
      rw [List.getD_eq_getElem?_getD] at hd'
      cases hx : dsts[i]? with
      | none => rw [hx] at hd'; cases hd'
      | some y => rw [hx] at hd'; exact congrArg some hd'
    exact h.slots i (hs i hi) _ this
  · exact h.env d v h1
theorem hc_drawn3 {id : Nat} (hmix : P.follows .mixedOrders = true) (m : Nat) (dps : List (List Nat)) (dsts : List (Option Nat)) (R : Nat → List Value → Value → List HP → Prop) (qd : List (List Nat)) (tau : List (Option Nat)) (P0 : List (List HP)) (fl : List Nat) (hok : drawOk3 os m dps dsts = true) (htau : tauOk3 os m P0.length dps qd tau fl = true) (hfresh : dsts.all (fun d => match d with | some d => (lk env d).isNone | none => true) = true) (hN : dsts.all (fun d => match d with | some d => Nat.blt d N | none => true) = true)
    (due : ∀ i o, os[i]? = some o → i < m → ∀ vf pf, (∀ k, k < P0.length → pf (os.length + k) = P0.getD k []) → (∀ j ∈ dps.getD i [], R j ((dps.getD j []).map vf) (vf j) (pf j)) → Obl2 P os.toArray N w0 (tau.getD i none) pf ((qd.getD i []).flatMap pf ++ l) (envOf3 dsts vf (dps.getD i []) ++ env) o (R i ((dps.getD i []).map vf)))
    (fin : ∀ vf pf, (∀ k, k < P0.length → pf (os.length + k) = P0.getD k []) → (∀ i, i < m → R i ((dps.getD i []).map vf) (vf i) (pf i)) → HL P N os.toArray w0 (fl.flatMap pf ++ l) (envOf3 dsts vf (List.range m) ++ env) (os.drop m) Q) : HC P N w0 (P0.flatten ++ l) env (.region id os.toArray true) Q := by
  intro a w st
  refine wp_region_any hmix ?_
  simp only [drawOk3, Bool.and_eq_true, Nat.ble_eq, List.all_eq_true, List.mem_range, Bool.or_eq_true, Nat.blt_eq, beq_iff_eq, decide_eq_true_eq, Array.all_eq_true', bne_iff_ne] at hok
  obtain ⟨⟨⟨⟨⟨⟨hml, hback⟩, hcov⟩, hready⟩, hdst⟩, hdn⟩, hdp⟩ := hok
  simp only [tauOk3, Bool.and_eq_true, List.all_eq_true, List.mem_range, Bool.or_eq_true, Nat.blt_eq, Nat.ble_eq, beq_iff_eq, bne_iff_ne, decide_eq_true_eq, List.contains_iff_mem] at htau
  obtain ⟨⟨⟨hqd, hth⟩, hfl⟩, hfn⟩ := htau
  have hml' : m ≤ dsts.length := by have := congrArg List.length hdst; simp at this; omega
  have hlen : dsts.length = m := by have := congrArg List.length hdst; simp at this; omega
  have hrdy : ∀ k, m ≤ k → k < os.length → Region.ready .any os.toArray (preT os.length k) = [k] := fun k h1 h2 => by
    have := hready (k - m) (by omega)
    rw [show m + (k - m) = k by omega] at this
    exact this
  have hmsk : ∀ i j, ((msk ((List.range os.length).map (depsOf os)) []).getD i 0).testBit j = true → Dep os i j := msk_dep os _ _ (fun t ds ht d hd => by
    rw [List.getElem?_map] at ht
    by_cases h : t < os.length
    · rw [List.getElem?_range h] at ht; simp at ht; subst ht; simpa using hd
    · rw [List.getElem?_eq_none (by simp; omega)] at ht; cases ht) (fun i j h => by simp at h)
  have dstAt : ∀ i, i < m → ∀ o, os[i]? = some o → o.dst = dsts.getD i none := fun i hi o ho => by
    have h1 : ((os.take m).map (·.dst))[i]? = some o.dst := by rw [List.getElem?_map, List.getElem?_take, if_pos hi, ho]; rfl
    rw [hdst] at h1
    rw [List.getD_eq_getElem?_getD, h1]; rfl
  -- what may come up
  have key : ∀ (f : Nat) (listed : Array Bool) (ord held : List Nat) (vf : Nat → Value) (pf : Nat → List HP) (a : Act) (w : World), f + ord.length = os.length → Mid3 N w0 l env os m dps dsts R tau P0 listed ord held vf pf a w → wpAny P .any os.toArray Q f listed a w := by
    intro f
    induction f with
    | zero =>
      intro listed ord held vf pf a w hf h
      -- all are listed: m = the length
      have hall : ∀ i, i < os.length → i ∈ ord := by
        intro i hi
        have hsub : ord.Perm (List.range os.length) ∨ True := .inr trivial
        obtain ⟨r, hr⟩ := pick_perm ord (List.range os.length) h.nodup (fun j hj => by have := h.low j hj; simp; omega)
        have hl := hr.length_eq
        simp at hl
        have : r = [] := List.length_eq_zero_iff.1 (by omega)
        subst this
        have := hr.mem_iff.1 (List.mem_range.2 hi)
        simpa using this
      have hm2 : m = os.length := by
        by_cases hc : m < os.length
        · have := h.low m (hall m hc); omega
        · omega
      have hp : listed = preT os.length m := by
        apply Array.ext
        · rw [h.size, preT_size _ _ hml]
        · intro i h1 h2
          have hi : i < os.length := by rw [h.size] at h1; exact h1
          have e1 := (h.iff i hi).2 (hall i hi)
          have e2 := preT_get os.length m i hml hi
          rw [Array.getD_eq_getD_getElem?, Array.getElem?_eq_getElem h1] at e1
          rw [Array.getD_eq_getD_getElem?, Array.getElem?_eq_getElem h2] at e2
          simp only [Option.getD_some] at e1 e2
          rw [e1, e2]; simp; omega
      rw [hp]
      refine tail_any hrdy 0 m (Nat.le_refl _) (by omega) a w ?_
      exact fin vf pf h.hP (fun i hi => h.rel i (hall i (by omega))) a w (h.st hml' (fun j hj => hall j (by rw [List.mem_range] at hj; omega)) (h.mem.pick hfn (fun j hj => h.hall j ((hfl j hj).1.imp (fun hlt => hall j (by omega)) (fun x => x)) (fun k hk => (hfl j hj).2 k (h.low k hk)))))
    | succ f ih =>
      intro listed ord held vf pf a w hf h
      by_cases hall : ∀ i, i < m → i ∈ ord
      · -- the tail's turn
        have hp : listed = preT os.length m := by
          apply Array.ext
          · rw [h.size, preT_size _ _ hml]
          · intro i h1 h2
            have hi : i < os.length := by rw [h.size] at h1; exact h1
            have e1 := h.iff i hi
            have e2 := preT_get os.length m i hml hi
            rw [Array.getD_eq_getD_getElem?, Array.getElem?_eq_getElem h1] at e1
            rw [Array.getD_eq_getD_getElem?, Array.getElem?_eq_getElem h2] at e2
            simp only [Option.getD_some] at e1 e2
            rw [e2, Bool.eq_iff_iff, e1, decide_eq_true_eq]
            exact ⟨fun hx => h.low i hx, fun hx => hall i hx⟩
        have hord : ord.length = m := by
          obtain ⟨r, hr⟩ := pick_perm ord (List.range m) h.nodup (fun j hj => by have := h.low j hj; simpa using this)
          obtain ⟨r', hr'⟩ := pick_perm (List.range m) ord List.nodup_range (fun j hj => hall j (by simpa using hj))
          have h1 := hr.length_eq
          have h2 := hr'.length_eq
          simp at h1 h2
          omega
        rw [hp]
        refine tail_any hrdy (f + 1) m (Nat.le_refl _) (by omega) a w ?_
        exact fin vf pf h.hP (fun i hi => h.rel i (hall i hi)) a w (h.st hml' (fun j hj => hall j (by simpa using hj)) (h.mem.pick hfn (fun j hj => h.hall j ((hfl j hj).1.imp (fun hlt => hall j hlt) (fun x => x)) (fun k hk => (hfl j hj).2 k (h.low k hk)))))
      · -- some quiet one is not done yet
        have hsome : ∃ i, i < m ∧ i ∉ ord := by
          by_cases hx : ∃ i, i < m ∧ i ∉ ord
          · exact hx
          · exact absurd (fun i hi => Decidable.byContradiction fun hn => hx ⟨i, hi, hn⟩) hall
        have mem_rdy : ∀ i, i ∈ Region.ready .any os.toArray listed ↔ i < os.length ∧ i ∉ ord ∧ ∀ j ∈ depsOf os i, j ∈ ord := by
          intro i
          unfold Region.ready
          rw [List.mem_filter, List.mem_range]
          simp only [List.size_toArray]
          constructor
          · rintro ⟨hi, hb⟩
            rw [Bool.and_eq_true] at hb
            have hno : i ∉ ord := fun hx => by rw [(h.iff i hi).2 hx] at hb; simp at hb
            refine ⟨hi, hno, fun j hj => ?_⟩
            have ho : os.toArray[i]? = some os[i] := by simp [hi]
            rw [ho] at hb
            simp only [Option.map_some, Option.getD_some, Array.all_eq_true'] at hb
            unfold depsOf at hj
            rw [List.getElem?_eq_getElem hi] at hj
            simp only [List.mem_map, List.mem_filter] at hj
            obtain ⟨e, ⟨he, hbd⟩, rfl⟩ := hj
            have hb2 := hb.2 e (by simpa using he)
            rw [hbd] at hb2
            simp at hb2
            have hlt := hback i hi e.on (by unfold depsOf; rw [List.getElem?_eq_getElem hi]; exact List.mem_map.2 ⟨e, List.mem_filter.2 ⟨he, hbd⟩, rfl⟩)
            refine (h.iff e.on (by omega)).1 ?_
            have hs : e.on < listed.size := by rw [h.size]; omega
            rw [Array.getD_eq_getD_getElem?, Array.getElem?_eq_getElem hs] 
            simp only [Option.getD_some]
            rw [Array.getElem?_eq_getElem hs] at hb2
            simpa using hb2
          · rintro ⟨hi, hno, hd⟩
            refine ⟨hi, ?_⟩
            have ho : os.toArray[i]? = some os[i] := by simp [hi]
            rw [ho]
            simp only [Option.map_some, Option.getD_some, Bool.and_eq_true, Array.all_eq_true']
            refine ⟨?_, fun e he => ?_⟩
            · cases hb : listed.getD i true with
              | true => exact absurd ((h.iff i hi).1 hb) hno
              | false => rfl
            · rw [Bool.or_eq_true]
              by_cases hbd : Region.binds .any e = true
              rotate_left
              · left; simpa using hbd
              right
              have hon : e.on ∈ depsOf os i := by unfold depsOf; rw [List.getElem?_eq_getElem hi]; exact List.mem_map.2 ⟨e, List.mem_filter.2 ⟨by simpa using he, hbd⟩, rfl⟩
              have hlt := hback i hi e.on hon
              have := (h.iff e.on (by omega)).2 (hd e.on hon)
              have hs : e.on < listed.size := by rw [h.size]; omega
              rw [Array.getD_eq_getD_getElem?, Array.getElem?_eq_getElem hs] at this
              simp only [Option.getD_some] at this
              rw [Array.getD_eq_getD_getElem?, Array.getElem?_eq_getElem hs]
              simpa using this
        have hdep : ∀ k j, Dep os k j → (∀ d ∈ depsOf os k, d ∈ ord) → j ∈ ord := by
          intro k j hd
          induction hd with
          | one hj => intro hx; exact hx _ hj
          | more hk _ ih2 => intro hx; exact ih2 (fun d hd => h.closed _ (hx _ hk) d hd)
        have hlow : ∀ i ∈ Region.ready .any os.toArray listed, i < m := by
          intro i hi
          obtain ⟨h1, h2, h3⟩ := (mem_rdy i).1 hi
          by_cases hc : i < m
          · exact hc
          · exfalso
            obtain ⟨q, hq, hqn⟩ := hsome
            rcases hcov i h1 with h4 | h4
            · exact hc h4
            · exact hqn (hdep i q (hmsk i q (h4 q hq)) h3)
        refine ⟨fun h0 => ?_, fun i hi => ?_⟩
        · -- the least one that is not done may come up
          exfalso
          obtain ⟨q, hq, hqn⟩ := hsome
          obtain ⟨p, hp, hmin⟩ := exists_least (p := fun i => i < m ∧ i ∉ ord) ⟨q, hq, hqn⟩
          have : p ∈ Region.ready .any os.toArray listed := by
            rw [mem_rdy]
            refine ⟨by omega, hp.2, fun j hj => ?_⟩
            have hlt := hback p (by omega) j hj
            apply Decidable.byContradiction
            intro hn
            have := hmin j ⟨by omega, hn⟩
            omega
          rw [h0] at this
          cases this
        · have him := hlow i hi
          obtain ⟨h1, h2, h3⟩ := (mem_rdy i).1 hi
          have ho : os[i]? = some os[i] := List.getElem?_eq_getElem h1
          have hdps := hdp i him
          have hsub : ∀ j ∈ dps.getD i [], j ∈ ord := fun j hj => hdep i j (hmsk i j (hdps.1 j hj)) h3
          have hqi := hqd i him
          have hqheld : ∀ j ∈ qd.getD i [], j ∈ held := fun j hj => h.hall j (.inl (hsub j ((hqi.1 j hj).1))) (fun k hk => (hqi.1 j hj).2 k (h.low k hk))
          have hobl := due i os[i] ho him vf pf h.hP (fun j hj => h.rel j (hsub j hj))
          have hdd := dstAt i him _ ho
          have hdlt : ∀ d, dsts.getD i none = some d → d < N := fun d hd => by
            have := List.all_eq_true.1 hN (some d) (by rw [← hd, List.getD_eq_getElem?_getD, List.getElem?_eq_getElem (by omega)]; exact List.getElem_mem _)
            simpa [Nat.blt_eq] using this
          have hdnone : ∀ d, dsts.getD i none = some d → lk env d = none := fun d hd => by
            have := List.all_eq_true.1 hfresh (some d) (by rw [← hd, List.getD_eq_getElem?_getD, List.getElem?_eq_getElem (by omega)]; exact List.getElem_mem _)
            simpa using this
          have hne : ∀ j ∈ ord, j ≠ i := fun j hj e => h2 (e ▸ hj)
          have hneh : ∀ j ∈ held, j ≠ i := fun j hj e => by
            rcases h.hin j hj with h5 | h5
            · exact hne j h5 e
            · omega
          have next : ∀ (held' : List Nat) v post w', held'.Nodup → (∀ k ∈ held', k ∈ i :: ord ∨ (os.length ≤ k ∧ k < os.length + P0.length)) → (∀ k, (k ∈ i :: ord ∨ (os.length ≤ k ∧ k < os.length + P0.length)) → (∀ j ∈ i :: ord, tau.getD j none ≠ some k) → k ∈ held') → R i ((dps.getD i []).map vf) v post →
              Mem w0 (held'.flatMap (fun k => if k = i then post else pf k) ++ l) w' → wpAny P .any os.toArray Q f (listed.setIfInBounds i true) (a.put (dsts.getD i none) v) w' := by
            intro held' v post w' hh1 hh2 hh3 hv hm
            refine ih (listed.setIfInBounds i true) (i :: ord) held' (fun k => if k = i then v else vf k) (fun k => if k = i then post else pf k) _ w' (by simp; omega) ⟨?_, ?_, ?_, ?_, ?_, ?_, ?_, hh1, hh2, hh3, ?_, hm, ?_, ?_, ?_, ?_⟩
            · simp [h.size]
            · intro k hk
              by_cases hki : k = i
              · subst hki
                have hs : k < listed.size := by rw [h.size]; exact hk
                simp [Array.getD_eq_getD_getElem?, hs]
              · rw [getD_set_ne true (fun e => hki e.symm), h.iff k hk]
                simp [hki]
            · intro k hk; rcases List.mem_cons.1 hk with rfl | hk; exact him; exact h.low k hk
            · intro k hk j hj
              rcases List.mem_cons.1 hk with rfl | hk
              · exact List.mem_cons_of_mem _ (h3 j hj)
              · exact List.mem_cons_of_mem _ (h.closed k hk j hj)
            · exact List.nodup_cons.2 ⟨h2, h.nodup⟩
            · intro k hk j hj
              rcases List.mem_cons.1 hk with rfl | hk
              · exact List.mem_cons_of_mem _ (hsub j hj)
              · exact List.mem_cons_of_mem _ (h.dcl k hk j hj)
            · intro k hk
              rcases List.mem_cons.1 hk with rfl | hk
              · have e : (dps.getD k []).map (fun j => if j = k then v else vf j) = (dps.getD k []).map vf := List.map_congr_left fun j hj => if_neg (hne j (hsub j hj))
                rw [e, if_pos rfl, if_pos rfl]; exact hv
              · have e : (dps.getD k []).map (fun j => if j = i then v else vf j) = (dps.getD k []).map vf := List.map_congr_left fun j hj => if_neg (hne j (h.dcl k hk j hj))
                rw [e, if_neg (hne k hk), if_neg (hne k hk)]; exact h.rel k hk
            · intro k hk; rw [if_neg (by omega)]; exact h.hP k hk
            · cases hdi : dsts.getD i none <;> simp [Act.put, h.asize]
            · cases hdi : dsts.getD i none <;> exact h.defers
            · intro d u hd
              cases hdi : dsts.getD i none with
              | none => exact h.env d u hd
              | some d0 =>
                have hdne : d0 ≠ d := fun e => by rw [← e, hdnone _ hdi] at hd; cases hd
                simp only [Act.put]
                rw [Array.getElem?_setIfInBounds_ne hdne]
                exact h.env d u hd
            · intro k hk d hd
              cases hdi : dsts.getD i none with
              | none =>
                rcases List.mem_cons.1 hk with rfl | hk
                · rw [List.getD_eq_getElem?_getD, hd] at hdi; cases hdi
                · show a.tmps[d]? = _
                  rw [if_neg (hne k hk)]; exact h.slots k hk d hd
              | some d0 =>
                have hlt : d0 < a.tmps.size := by rw [h.asize]; exact hdlt _ hdi
                rcases List.mem_cons.1 hk with rfl | hk
                · have : d = d0 := by rw [List.getD_eq_getElem?_getD, hd] at hdi; exact Option.some.inj hdi
                  subst this
                  simp only [Act.put, if_true]
                  simp only [Array.getElem?_setIfInBounds_self_of_lt hlt]
                · have hdne : d0 ≠ d := by
                    intro e
                    have hk2 : k < dsts.length := (List.getElem?_eq_some_iff.1 hd).1
                    have hdk : dsts.getD k none = some d := by rw [List.getD_eq_getElem?_getD, hd]; rfl
                    rcases hdn i him k (by omega) with (hx | hx) | hx
                    · exact hne k hk hx.symm
                    · rw [hdi] at hx; cases hx
                    · exact hx (by rw [hdi, hdk, e])
                  simp only [Act.put]
                  rw [Array.getElem?_setIfInBounds_ne hdne, if_neg (hne k hk)]
                  exact h.slots k hk d hd
          unfold wpOp
          have hoa : os.toArray[i]? = some os[i] := by simp [h1]
          rw [hoa]
          simp only
          have hpost : ∀ (hs : List Nat) (post : List HP), (∀ k ∈ hs, k ≠ i) → (i :: hs).flatMap (fun k => if k = i then post else pf k) = post ++ hs.flatMap pf := fun hs post hx => by
            rw [List.flatMap_cons, if_pos rfl]
            congr 1
            rw [List.flatMap_def, List.flatMap_def]
            congr 1
            exact List.map_congr_left fun k hk => if_neg (hx k hk)
          cases ht : tau.getD i none with
          | none =>
            rw [ht] at hobl
            have hst := h.st hml' hsub (h.mem.pick hqi.2 hqheld)
            have next1 : ∀ v post w', R i ((dps.getD i []).map vf) v post → Mem w post w' → wpAny P .any os.toArray Q f (listed.setIfInBounds i true) (a.put (dsts.getD i none) v) w' := fun v post w' hv hm => by
              refine next (i :: held) v post w' (List.nodup_cons.2 ⟨fun hx => hneh i hx rfl, h.hn⟩) (fun k hk => ?_) (fun k hk hk2 => ?_) hv ?_
              · rcases List.mem_cons.1 hk with rfl | hk
                · exact .inl List.mem_cons_self
                · exact (h.hin k hk).imp (List.mem_cons_of_mem _) (fun x => x)
              · by_cases hki : k = i
                · rw [hki]; exact List.mem_cons_self
                · refine List.mem_cons_of_mem _ (h.hall k (hk.imp (fun hx => by rcases List.mem_cons.1 hx with hx | hx; exact absurd hx hki; exact hx) (fun x => x)) (fun j hj => hk2 j (List.mem_cons_of_mem _ hj)))
              · rw [hpost held post hneh, List.append_assoc]; exact h.mem.app hm
            rcases hobl with ⟨hw, hq⟩ | ⟨hw, hq⟩
            · rw [if_pos (hst.wanted hw)]
              refine .inl (hq a w hst Q _ fun v post w' hv hm => ?_)
              rw [hdd]
              exact next1 v post w' hv hm
            · rw [if_neg (by rw [hst.wanted hw]; decide), hdd]
              exact next1 undef [] w hq (Mem.refl w)
          | some hh =>
            rw [ht] at hobl
            have hth2 := hth i him
            rw [ht] at hth2
            simp only [Bool.and_eq_true, Bool.or_eq_true, Nat.ble_eq, Nat.blt_eq, beq_iff_eq, List.all_eq_true, List.mem_range, bne_iff_ne, List.contains_iff_mem] at hth2
            have hheld : hh ∈ held := h.hall hh (hth2.1.symm.imp (fun hx => hsub hh hx) (fun x => x)) (fun k hk => (hth2.2 k (h.low k hk)).resolve_left (hne k hk))
            have hperm := List.perm_cons_erase hheld
            have hmem : Mem w0 (pf hh ++ ((held.erase hh).flatMap pf ++ l)) w := by
              have := h.mem.perm ((hperm.flatMap_right pf).append_right l)
              rwa [List.flatMap_cons, List.append_assoc] at this
            have hnin : hh ∉ qd.getD i [] := fun hx => (hqi.1 hh hx).2 i him ht
            have hconv : ∀ w, Mem w0 ((held.erase hh).flatMap pf ++ l) w → Mem w0 ((qd.getD i []).flatMap pf ++ l) w := fun w hm => hm.pick hqi.2 (fun j hj => (List.mem_erase_of_ne (fun (e : j = hh) => hnin (by rw [← e]; exact hj))).2 (hqheld j hj))
            have hst := h.st hml' hsub hmem
            have hneh2 : ∀ k ∈ held.erase hh, k ≠ i := fun k hk => hneh k (List.mem_of_mem_erase hk)
            have next2 : ∀ v post w', R i ((dps.getD i []).map vf) v post → Mem w0 (post ++ ((held.erase hh).flatMap pf ++ l)) w' → wpAny P .any os.toArray Q f (listed.setIfInBounds i true) (a.put (dsts.getD i none) v) w' := fun v post w' hv hm => by
              refine next (i :: held.erase hh) v post w' (List.nodup_cons.2 ⟨fun hx => hneh2 i hx rfl, h.hn.erase hh⟩) (fun k hk => ?_) (fun k hk hk2 => ?_) hv ?_
              · rcases List.mem_cons.1 hk with rfl | hk
                · exact .inl List.mem_cons_self
                · exact (h.hin k (List.mem_of_mem_erase hk)).imp (List.mem_cons_of_mem _) (fun x => x)
              · by_cases hki : k = i
                · rw [hki]; exact List.mem_cons_self
                · have hkh : k ≠ hh := fun e => hk2 i List.mem_cons_self (by rw [ht, e])
                  exact List.mem_cons_of_mem _ ((List.mem_erase_of_ne hkh).2 (h.hall k (hk.imp (fun hx => by rcases List.mem_cons.1 hx with hx | hx; exact absurd hx hki; exact hx) (fun x => x)) (fun j hj => hk2 j (List.mem_cons_of_mem _ hj))))
              · rw [hpost _ post hneh2, List.append_assoc]; exact hm
            rcases hobl with ⟨hw, hq⟩ | ⟨hw, hq⟩
            · rw [if_pos (hst.wanted hw)]
              refine .inl (hq _ hconv a w hst Q _ fun v post w' hv hm => ?_)
              rw [hdd]
              exact next2 v post w' hv hm
            · rw [if_neg (by rw [hst.wanted hw]; decide), hdd]
              exact next2 undef (pf hh) w hq hmem
  refine key os.length (Array.replicate os.length false) [] ((List.range P0.length).map (os.length + ·)) (fun _ => undef) (fun k => if os.length ≤ k then P0.getD (k - os.length) [] else []) a _ (by simp) ⟨by simp, ?_, by simp, by simp, by simp, by simp, by simp, ?_, ?_, ?_, ?_, ?_, st.size, st.defers, st.env, by simp⟩
  · intro i hi; simp [hi]
  · exact nodup_shift _ _
  · intro i hi
    simp only [List.mem_map, List.mem_range] at hi
    obtain ⟨k, hk, rfl⟩ := hi
    exact .inr ⟨by omega, by omega⟩
  · rintro i (hi | ⟨h1, h2⟩) _
    · cases hi
    · simp only [List.mem_map, List.mem_range]; exact ⟨i - os.length, by omega, by omega⟩
  · intro k hk; rw [if_pos (by omega), Nat.add_sub_cancel_left]
  · have e : ((List.range P0.length).map (os.length + ·)).flatMap (fun k => if os.length ≤ k then P0.getD (k - os.length) [] else []) = P0.flatten := by
      rw [List.flatMap_map]
      have : (fun a : Nat => (if os.length ≤ os.length + a then P0.getD (os.length + a - os.length) [] else [])) = fun a => P0.getD a [] := by
        funext a; rw [if_pos (by omega), Nat.add_sub_cancel_left]
      rw [List.flatMap_def]
      rw [show (List.map (fun a : Nat => (if os.length ≤ os.length + a then P0.getD (os.length + a - os.length) [] else [])) (List.range P0.length)) = P0 from by rw [this]; exact range_getD P0]
    rw [e]; exact st.mem.drawn _
/-- each quiet operation's due, in the order of the text -/
def Dues3 (P : Program) (ops : Array Oper) (N : Nat) (w0 : World) (l : List HP) (env : List (Nat × Value)) (P0 : List (List HP)) (mu : Nat) (dsts : List (Option Nat)) (all qall : List (List Nat)) (tau : List (Option Nat)) (R : Nat → List Value → Value → List HP → Prop) : Nat → List (List Nat) → List Oper → Prop
  | _, _, [] => True
  | k, dss, o :: os => (∀ (vf : Nat → Value) (pf : Nat → List HP), (∀ k, k < P0.length → pf (mu + k) = P0.getD k []) → (∀ j ∈ all.getD k [], R j ((all.getD j []).map vf) (vf j) (pf j)) → Obl2 P ops N w0 (tau.getD k none) pf ((qall.getD k []).flatMap pf ++ l) (envOf3 dsts vf (all.getD k []) ++ env) o (R k ((all.getD k []).map vf))) ∧ Dues3 P ops N w0 l env P0 mu dsts all qall tau R (k + 1) dss os
theorem dues3_at {P : Program} {ops : Array Oper} {N : Nat} {w0 : World} {l : List HP} {env : List (Nat × Value)} {P0 : List (List HP)} {mu : Nat} {dsts : List (Option Nat)} {all qall : List (List Nat)} {tau : List (Option Nat)} {R : Nat → List Value → Value → List HP → Prop} : ∀ (os : List Oper) (dss : List (List Nat)) (k : Nat), Dues3 P ops N w0 l env P0 mu dsts all qall tau R k dss os → ∀ i o, os[i]? = some o → ∀ vf pf, (∀ k, k < P0.length → pf (mu + k) = P0.getD k []) → (∀ j ∈ all.getD (k + i) [], R j ((all.getD j []).map vf) (vf j) (pf j)) → Obl2 P ops N w0 (tau.getD (k + i) none) pf ((qall.getD (k + i) []).flatMap pf ++ l) (envOf3 dsts vf (all.getD (k + i) []) ++ env) o (R (k + i) ((all.getD (k + i) []).map vf))
  | [], _, _, _, i, o, ho, _, _, _, _ => by simp at ho
  | o' :: os, dss, k, h, 0, o, ho, vf, pf, hP, hR => by simp at ho; subst ho; exact h.1 vf pf hP hR
  | o' :: os, dss, k, h, i + 1, o, ho, vf, pf, hP, hR => by
    have e : k + 1 + i = k + (i + 1) := by omega
    have := dues3_at os dss (k + 1) h.2 i o (by simpa using ho) vf pf hP (by rw [e]; exact hR)
    rwa [e] at this
theorem hc_draw3 {id : Nat} (hmix : P.follows .mixedOrders = true) (m : Nat) (qs : List Nat) (quiet tail : List Oper) (dps : List (List Nat)) (dsts : List (Option Nat)) (R : Nat → List Value → Value → List HP → Prop) (qd : List (List Nat)) (tau : List (Option Nat)) (P0 : List (List HP)) (fl : List Nat) (mu : Nat)
    (hos : os = quiet ++ tail) (hq : (Nat.beq quiet.length m && (List.range m == qs) && Nat.beq os.length mu) = true) (hok : drawOk3 os m dps dsts = true) (htau : tauOk3 os m P0.length dps qd tau fl = true) (hfresh : dsts.all (fun d => match d with | some d => (lk env d).isNone | none => true) = true) (hN : dsts.all (fun d => match d with | some d => Nat.blt d N | none => true) = true)
    (due : Dues3 P os.toArray N w0 l env P0 mu dsts dps qd tau R 0 [] quiet)
    (fin : ∀ vf pf, (∀ k, k < P0.length → pf (mu + k) = P0.getD k []) → (∀ i, i < m → R i ((dps.getD i []).map vf) (vf i) (pf i)) → HL P N os.toArray w0 (fl.flatMap pf ++ l) (envOf3 dsts vf qs ++ env) tail Q) : HC P N w0 (P0.flatten ++ l) env (.region id os.toArray true) Q := by
  simp only [Bool.and_eq_true, Nat.beq_eq, beq_iff_eq] at hq
  obtain ⟨⟨hq1, hq2⟩, hq3⟩ := hq
  refine hc_drawn3 hmix m dps dsts R qd tau P0 fl hok htau hfresh hN (fun i o ho hi vf pf hP hR => ?_) (fun vf pf hP hR => ?_)
  · have ho' : quiet[i]? = some o := by rw [hos, List.getElem?_append_left (by omega)] at ho; exact ho
    have := dues3_at quiet [] 0 due i o ho' vf pf (by rw [← hq3]; exact hP) (by rw [Nat.zero_add]; exact hR)
    rwa [Nat.zero_add] at this
  · rw [hq2, hos, List.drop_left' hq1, ← hos]; exact fin vf pf (by rw [← hq3]; exact hP) hR
/-- a whole struct stored into a variable -/
theorem rm_storeBoxN {P0 X : List HP} {o : Oper} {t b off : Nat} {x y : Operand} {cs cs' : Array Value} {tb : TypeId} {us : List Value} (i : Nat) (hd : o.dst = none) (ho : o.op = .store t x y) (hs : (P.info? t).map (·.size) = some us.length)
    (hx : ev env x = some (.pointer (some ⟨b, off, none⟩))) (hy : ev env y = some (.agg us.toArray)) (hi : P0[i]? = some (boxE b cs tb)) (h1 : ∀ u ∈ us, u.oneCell' = true) (hlt : Nat.ble (off + us.length) cs.size = true) (hcs : putN cs off us = cs') :
    RunM P N w0 P0 X env o (fun v post => post = P0.set i (boxE b cs' tb)) := fun L hL a w st Q K hK => by
  subst hcs
  rw [Nat.ble_eq] at hlt
  have hil : i < P0.length := (List.getElem?_eq_some_iff.1 hi).1
  obtain ⟨w', hr, hm⟩ := run_storeN (P := P) (off := off) us 0 cs (P0 ++ L) w st.mem (by rw [List.getElem?_append_left hil]; exact hi) h1 (by omega)
  have hce : (Value.agg us.toArray).cells = us.toArray := rfl
  have hrun : (execOp a.eval o).run P w = .ok .skip w' := by simp [execOp, ho, st.eval hx, st.eval hy, Instr.storeAt, Instr.sureAddr, storeVar, hce, run_size hs, hr]
  unfold Oper.wp
  rw [hrun, Oper.upon_skip]
  exact hK undef _ w' rfl (by rw [List.set_append_left _ _ hil] at hm; exact hm)
/-- append to a row of the call's own -/
theorem rm_append {X : List HP} {o : Oper} {d t e s bytes n m : Nat} {x y : Operand} {v u z : Value} {xs news : List Value} (ho : o.op = .call { callee := .builtin .append, args := #[x, y], argTypes := #[t, t] })
    (hu : P.underlying t = some (.slice e)) (hinf : (P.info? e).map (fun i => (i.zero, i.size, i.bytes)) = some (some z, s, bytes)) (hzs : (Nat.beq z.cells.size s && Nat.blt 0 s && Nat.ble bytes 1000) = true)
    (hx : ev env x = some v) (hy : ev env y = some u) (hr : Rd w0 X u s m news) (h1 : ∀ q ∈ news, q.oneCell' = true) (hnm : n + m ≤ 100000000000)
    {n' : Nat} {xs' : List Value} (hn' : n + m = n') (hx' : xs ++ news = xs') : RunM P N w0 [rowE e s v n xs] X env o (fun v' post => ∃ p', post = [p'] ∧ p' = rowE e s v' n' xs') := fun L hL a w st Q K hK => by
  obtain ⟨inf, hi', hz, hs, hby⟩ := info_parts hinf
  simp only [Bool.and_eq_true, Nat.beq_eq, Nat.blt_eq, Nat.ble_eq] at hzs
  obtain ⟨⟨hz1, hz2⟩, hz3⟩ := hzs
  obtain ⟨ad, cap, rfl, hl, hm, hc⟩ := hr w (hL w (st.mem.sub (List.sublist_append_right _ _)))
  have hown : w.ownsRow 0 e s v n xs := st.mem.holds _ (mem_at (i := 0) rfl)
  have hrun : ∃ v' w', (Builtin.append_ #[t, t] o.type #[v, .slice ad m cap]).run P w = .ok v' w' ∧ w'.ownsRow 0 e s v' (n + m) (xs ++ news) ∧ w.grownBy w' v.ownBlock ∧ (v'.ownBlock = v.ownBlock ∨ v'.ownBlock = some w.heap.size) := by
    by_cases hm0 : m = 0
    · subst hm0
      have hn : news = [] := List.eq_nil_of_length_eq_zero (by simpa using hl)
      subst hn
      refine ⟨v, w, ?_, by simpa using hown, World.grownBy.refl _ _, .inl rfl⟩
      rcases hown.2 with ⟨rfl, rfl⟩ | ⟨g, cap', cur, rfl, _, hg, hnc, hcm, hcs, htake⟩
      · cases ad <;> simp [Builtin.append_, run_underlying hu, sizeOf, typeInfo, hi', Builtin.lenOf, Builtin.firstCells, loadCells, loadCellsFrom]
      · cases ad <;> simp [Builtin.append_, run_underlying hu, sizeOf, typeInfo, hi', Builtin.lenOf, Builtin.firstCells, loadCells, loadCellsFrom, hnc, storeCells]
    · obtain ⟨b, off, rfl, hc'⟩ := hc (by omega)
      have hb : (n + m) * bytes ≤ 140737488355328 := by have := Nat.mul_le_mul hnm hz3; omega
      obtain ⟨v', w', e1, e2, e3, _, e5⟩ := run_append_own_at (P := P) w 0 t o.type e inf z s bytes hu hi' hz hs hby hz1 hz2 v n xs hown ⟨b, off, none⟩ m cap news hl (fun j q hj => by rw [add_lit]; exact hc' j q hj) h1 (by unfold maxLen; omega) hb (Nat.zero_le _)
      exact ⟨v', w', e1, e2, e3, e5⟩
  obtain ⟨v', w', e1, e2, e3, e4⟩ := hrun
  have hr : (execOp a.eval o).run P w = .ok (.value v') w' := by
    simp only [execOp, ho, resolve, invoke, builtin, Sem.run_bind, Sem.run_pure, Result.andThen_ok, List.map_toArray, List.map_cons, List.map_nil, st.eval hx, st.eval hy, e1]
  unfold Oper.wp
  rw [hr, Oper.upon_value]
  subst hn' hx'
  exact hK v' _ w' ⟨_, rfl, rfl⟩ (Mem.append (i := 0) rfl st.mem e2 e3 e4)
end
section
variable {P : Program} {N : Nat} {w0 : World} {l : List HP} {env : List (Nat × Value)} {o : Oper}
theorem rv_min {t : Array TypeId} {x y : Operand} {m n : Int} (ho : o.op = .call { callee := .builtin .min, args := #[x, y], argTypes := t }) (hx : ev env x = some (.int .i64 m)) (hy : ev env y = some (.int .i64 n)) : RunV P N w0 l env o (.int .i64 (min m n)) := fun a w st => by
  have e : (if n < m then n else m) = min m n := by split <;> omega
  have bm : ∀ (ats : Array TypeId) (ty : TypeId) (cs : Array Bool) (args : Array Value), builtin .min ats ty cs args = (do pure (.value (← Builtin.min_ ats ty args))) := fun _ _ _ _ => rfl
  have h := run_min_int2 (P := P) w t o.type .i64 .i64 m n
  simp only [execOp, ho, resolve, invoke, bm, Sem.run_bind, Sem.run_pure, Result.andThen_ok, List.map_toArray, List.map_cons, List.map_nil, st.eval hx, st.eval hy, h, GT.gt, e]
end
theorem getD_memX {α : Type} {l : List α} {k : Nat} {d : α} (h : k < l.length) : l.getD k d ∈ l := by
  rw [List.getD_eq_getElem?_getD, List.getElem?_eq_getElem h]; exact List.getElem_mem h
theorem getD_left {α : Type} {l m : List α} {k : Nat} {d : α} (h : k < l.length) : (l ++ m).getD k d = l.getD k d := by
  rw [List.getD_eq_getElem?_getD, List.getElem?_append_left h, ← List.getD_eq_getElem?_getD]
theorem getD_right {α : Type} {l m : List α} {k : Nat} {d : α} (h : l.length ≤ k) : (l ++ m).getD k d = m.getD (k - l.length) d := by
  rw [List.getD_eq_getElem?_getD, List.getElem?_append_right h, ← List.getD_eq_getElem?_getD]
structure An where
  a : Int
  b : Int
abbrev an0 : An := ⟨0, 0⟩
def anC (r : An) : List Value := [.int .i64 r.a, .int .i64 r.b]
structure Sq where
  kd : Int
  it : Int
  iv : Value
  xs : List Int
abbrev sq0 : Sq := ⟨0, 0, .slice none 0 0, []⟩
def sqC (r : Sq) : List Value := [.int .i64 r.kd, .int .i64 r.it, r.iv]
abbrev sqPart (r : Sq) : HP := rowE 3 1 r.iv r.xs.length (r.xs.map (Value.int .i64))
abbrev sqsE (v : Value) (ss : List Sq) : HP := bigE [bigE (ss.map sqPart), rowE 83 3 v ss.length (ss.flatMap sqC)]
structure Nt where
  ins : Int
  sv : Value
  av : Value
  ov : Value
  ss : List Sq
  gs : List An
  os : List Int
abbrev Nt.agg (n : Nt) : Value := .agg #[.int .i64 n.ins, n.sv, n.av, n.ov]
abbrev ntE (n : Nt) : HP := bigE [sqsE n.sv n.ss, rowE 80 2 n.av n.gs.length (n.gs.flatMap anC), rowE 3 1 n.ov n.os.length (n.os.map (Value.int .i64))]
structure RdsNt (w : World) (n : Nt) : Prop where
  sq : RdsW w n.sv 3 n.ss.length (n.ss.flatMap sqC)
  xs : ∀ s ∈ n.ss, RdsW w s.iv 1 s.xs.length (s.xs.map (Value.int .i64))
  an : RdsW w n.av 2 n.gs.length (n.gs.flatMap anC)
  ou : RdsW w n.ov 1 n.os.length (n.os.map (Value.int .i64))
theorem RdsNt.below {w w' : World} {n : Nt} (h : RdsNt w n) (hb : Below w.heap.size w w') : RdsNt w' n := ⟨h.sq.below hb, fun s hs => (h.xs s hs).below hb, h.an.below hb, h.ou.below hb⟩
theorem RdsNt.at {w : World} {n : Nt} (h : RdsNt w n) {k : Nat} (hk : k < n.ss.length) : RdsW w (n.ss.getD k sq0).iv 1 (n.ss.getD k sq0).xs.length ((n.ss.getD k sq0).xs.map (Value.int .i64)) := h.xs _ (getD_memX hk)
theorem nt_rds {w0 : World} {l : List HP} {n : Nt} (i : Nat) (hi : l[i]? = some (ntE n)) (w : World) (hm : Mem w0 l w) : RdsNt w n := by
  obtain ⟨b1, -⟩ := hm.holds _ (mem_at hi)
  have c1 := (b1 _ (List.mem_cons_self)).2
  have c2 := (b1 _ (List.mem_cons_of_mem _ List.mem_cons_self)).2
  have c3 := (b1 _ (List.mem_cons_of_mem _ (List.mem_cons_of_mem _ List.mem_cons_self))).2
  obtain ⟨d1, -⟩ := c1
  have e1 := (d1 _ (List.mem_cons_self)).2
  have e2 := (d1 _ (List.mem_cons_of_mem _ List.mem_cons_self)).2
  exact ⟨rdsW_own e2, fun s hs => rdsW_own (e1.1 (sqPart s) (List.mem_map.2 ⟨s, hs, rfl⟩)).2, rdsW_own c2, rdsW_own c3⟩
def Nt.fst (n : Nt) : Int := 1 + n.ins + n.ss.length
def Nt.cnt (n : Nt) : Int := 1 + n.ins + n.ss.length + n.gs.length
def LtOk (x m : Int) : Prop := 0 ≤ x ∧ x < 2 * m
structure SqOk (s : Sq) : Prop where
  kind : (s.kd = 0 ∧ (0 ≤ s.it ∧ s.it ≤ 1) ∧ s.xs.length = 1) ∨ (s.kd = 1 ∧ (0 ≤ s.it ∧ s.it ≤ 31) ∧ s.xs.length = 4)
structure NtOk (n : Nt) : Prop where
  i0 : 0 ≤ n.ins
  i1 : n.ins ≤ 20
  s1 : n.ss.length ≤ 12
  a1 : n.gs.length ≤ 300
  o1 : n.os.length ≤ 16
  sq : ∀ s ∈ n.ss, SqOk s
  xs : ∀ s ∈ n.ss, ∀ x ∈ s.xs, LtOk x n.cnt
  an : ∀ k, k < n.gs.length → LtOk (n.gs.getD k an0).a (n.fst + k) ∧ LtOk (n.gs.getD k an0).b (n.fst + k)
  ou : ∀ x ∈ n.os, LtOk x n.cnt
theorem SqOk.len {s : Sq} (h : SqOk s) : s.xs.length ≤ 4 := by rcases h.kind with ⟨_, _, h⟩ | ⟨_, _, h⟩ <;> omega
/-- the roots -/
def rtsL (n : Nt) (k : Nat) : List Int := n.os ++ (n.ss.take k).flatMap Sq.xs
theorem take_snocG {α : Type} {l : List α} {k : Nat} (d : α) (h : k < l.length) : l.take (k + 1) = l.take k ++ [l.getD k d] := by
  rw [List.take_succ_eq_append_getElem h, List.getD_eq_getElem?_getD, List.getElem?_eq_getElem h]; rfl
theorem rts_step (n : Nt) {k : Nat} (h : k < n.ss.length) : rtsL n k ++ (n.ss.getD k sq0).xs = rtsL n (k + 1) := by
  unfold rtsL; rw [take_snocG sq0 h, List.flatMap_append, List.append_assoc]; simp
theorem rts_len {n : Nt} (h : NtOk n) : ∀ k, k ≤ n.ss.length → (rtsL n k).length ≤ 16 + 4 * k
  | 0, _ => by have := h.o1; simp [rtsL]; omega
  | k + 1, hk => by
    rw [← rts_step n (by omega), List.length_append]
    have := rts_len h k (by omega)
    have := (h.sq _ (getD_memX (d := sq0) (show k < n.ss.length by omega))).len
    omega
theorem rts_ok {n : Nt} (h : NtOk n) {i : Nat} (hi : i < (rtsL n n.ss.length).length) : LtOk ((rtsL n n.ss.length).getD i 0) n.cnt := by
  have hm := getD_memX (d := (0 : Int)) hi
  generalize (rtsL n n.ss.length).getD i 0 = x at *
  unfold rtsL at hm
  rw [List.take_length, List.mem_append, List.mem_flatMap] at hm
  rcases hm with hm | ⟨s, hs, hx⟩
  · exact h.ou x hm
  · exact h.xs s hs x hx
/-- values of nodes -/
def bitL (v : List Int) (l : Int) : Int := if l % 2 = 0 then v.getD (l / 2).toNat 0 else 1 - v.getD (l / 2).toNat 0
def B01 (v : List Int) : Prop := ∀ k, k < v.length → v.getD k 0 = 0 ∨ v.getD k 0 = 1
theorem bit01 {v : List Int} (h : B01 v) {l : Int} (h0 : 0 ≤ l) (h1 : l < 2 * v.length) : bitL v l = 0 ∨ bitL v l = 1 := by
  unfold bitL
  have := h (l / 2).toNat (by omega)
  split <;> omega
def leafL (n : Nt) (st : List Int) (inp : Int) : List Int := [0] ++ (List.range n.ins.toNat).map (fun k => inp / 2 ^ k % 2) ++ st.map (· % 2)
def valL (n : Nt) (st : List Int) (inp : Int) (k : Nat) : List Int := (n.gs.take k).foldl (fun v a => v ++ [bitL v a.a * bitL v a.b]) (leafL n st inp)
abbrev valsL (n : Nt) (st : List Int) (inp : Int) : List Int := valL n st inp n.gs.length
theorem leaf_len (n : Nt) (st : List Int) (inp : Int) : (leafL n st inp).length = 1 + n.ins.toNat + st.length := by simp [leafL]; omega
theorem val_step (n : Nt) (st : List Int) (inp : Int) {k : Nat} (h : k < n.gs.length) : valL n st inp (k + 1) = valL n st inp k ++ [bitL (valL n st inp k) (n.gs.getD k an0).a * bitL (valL n st inp k) (n.gs.getD k an0).b] := by
  unfold valL; rw [take_snocG an0 h, List.foldl_append]; rfl
theorem val_len (n : Nt) (st : List Int) (inp : Int) : ∀ k, k ≤ n.gs.length → (valL n st inp k).length = 1 + n.ins.toNat + st.length + k
  | 0, _ => by simp [valL, leaf_len]
  | k + 1, h => by rw [val_step n st inp (by omega), List.length_append, val_len n st inp k (by omega)]; simp; omega
theorem b01_app {v : List Int} {x : Int} (h : B01 v) (hx : x = 0 ∨ x = 1) : B01 (v ++ [x]) := fun k hk => by
  rw [List.length_append, List.length_singleton] at hk
  by_cases hc : k < v.length
  · rw [getD_left hc]; exact h k hc
  · rw [getD_right (by omega), show k - v.length = 0 by omega]; exact hx
theorem leaf01 (n : Nt) (st : List Int) (inp : Int) : B01 (leafL n st inp) := fun k hk => by
  have key : ∀ x ∈ leafL n st inp, x = 0 ∨ x = 1 := by
    intro x hx
    unfold leafL at hx
    simp only [List.mem_append, List.mem_singleton, List.mem_map] at hx
    rcases hx with (rfl | ⟨q, _, rfl⟩) | ⟨q, _, rfl⟩ <;> omega
  exact key _ (getD_memX hk)
theorem val01 {n : Nt} (h : NtOk n) {st : List Int} (hs : st.length = n.ss.length) (inp : Int) : ∀ k, k ≤ n.gs.length → B01 (valL n st inp k)
  | 0, _ => by show B01 (leafL n st inp); exact leaf01 n st inp
  | k + 1, hk => by
    rw [val_step n st inp (by omega)]
    have ih := val01 h hs inp k (by omega)
    have hl := val_len n st inp k (by omega)
    have ha := h.an k (by omega)
    have hi := h.i0
    unfold LtOk Nt.fst at ha
    refine b01_app ih ?_
    rcases bit01 ih ha.1.1 (by omega) with e | e <;> rcases bit01 ih ha.2.1 (by omega) with e' | e' <;> rw [e, e'] <;> decide
theorem val_pre (n : Nt) (st : List Int) (inp : Int) : ∀ (m k : Nat), k ≤ m → m ≤ n.gs.length → ∀ i, i < (valL n st inp k).length → (valL n st inp m).getD i 0 = (valL n st inp k).getD i 0
  | 0, k, h, _, i, hi => by rw [show k = 0 by omega]
  | m + 1, k, h, hm, i, hi => by
    by_cases hk : k = m + 1
    · rw [hk]
    · have hl := val_len n st inp k (by omega)
      have hl2 := val_len n st inp m (by omega)
      rw [val_step n st inp (by omega), getD_left (by omega)]
      exact val_pre n st inp m k (by omega) (by omega) i hi
theorem bit_pre {u v : List Int} {m : Nat} (h : ∀ i, i < m → v.getD i 0 = u.getD i 0) {l : Int} (h0 : 0 ≤ l) (h1 : l < 2 * m) : bitL v l = bitL u l := by
  unfold bitL; rw [h (l / 2).toNat (by omega)]
theorem val_at {n : Nt} (h : NtOk n) {st : List Int} (hs : st.length = n.ss.length) (inp : Int) {k : Nat} (hk : k < n.gs.length) :
    (valsL n st inp).getD (n.fst + k).toNat 0 = bitL (valsL n st inp) (n.gs.getD k an0).a * bitL (valsL n st inp) (n.gs.getD k an0).b := by
  have hl := val_len n st inp k (by omega)
  have hl1 := val_len n st inp (k + 1) (by omega)
  have ha := h.an k hk
  have hi := h.i0
  unfold LtOk at ha
  have hf : n.fst = 1 + n.ins + n.ss.length := rfl
  rw [val_pre n st inp n.gs.length (k + 1) (by omega) (Nat.le_refl _) _ (by omega), val_step n st inp hk, getD_right (by omega), show (n.fst + k).toNat - (valL n st inp k).length = 0 by omega]
  have hp := val_pre n st inp n.gs.length k (by omega) (Nat.le_refl _)
  rw [bit_pre hp ha.1.1 (by omega), bit_pre hp ha.2.1 (by omega)]; rfl
theorem val0 {n : Nt} (st : List Int) (inp : Int) : (valsL n st inp).getD 0 0 = 0 := by
  rw [val_pre n st inp n.gs.length 0 (by omega) (Nat.le_refl _) 0 (by rw [val_len n st inp 0 (by omega)]; omega)]; rfl
/-- the start -/
def strL (n : Nt) (k : Nat) : List Int := (n.ss.take k).map Sq.it
theorem str_step (n : Nt) {k : Nat} (h : k < n.ss.length) : strL n k ++ [(n.ss.getD k sq0).it] = strL n (k + 1) := by
  unfold strL; rw [take_snocG sq0 h, List.map_append]; rfl
theorem str_len (n : Nt) {k : Nat} (h : k ≤ n.ss.length) : (strL n k).length = k := by simp [strL]; omega
abbrev stL (n : Nt) : List Int := strL n n.ss.length
theorem st_at (n : Nt) {k : Nat} (h : k < n.ss.length) : (stL n).getD k 0 = (n.ss.getD k sq0).it := by
  unfold stL strL
  rw [List.take_length, List.getD_eq_getElem?_getD, List.getElem?_map, List.getElem?_eq_getElem h, List.getD_eq_getElem?_getD, List.getElem?_eq_getElem h]; rfl
/-- the complement of a literal -/
def xr (a : Int) : Int := if a % 2 = 0 then a + 1 else a - 1
theorem xr_ok {a m : Int} (h : LtOk a m) : LtOk (xr a) m := by unfold LtOk xr at *; split <;> omega
theorem bit_xr (v : List Int) {a : Int} (h0 : 0 ≤ a) : bitL v (xr a) = 1 - bitL v a := by
  unfold bitL xr
  by_cases h : a % 2 = 0
  · rw [if_pos h, if_neg (by omega), if_pos h, show (a + 1) / 2 = a / 2 by omega]
  · rw [if_neg h, if_pos (by omega), if_neg h, show (a - 1) / 2 = a / 2 by omega]; omega
def withG (n : Nt) (gs : List An) : Nt := { n with gs := gs }
theorem cnt_withG (n : Nt) (gs : List An) : (withG n gs).cnt = n.fst + gs.length := rfl
theorem fst_withG (n : Nt) (gs : List An) : (withG n gs).fst = n.fst := rfl
theorem vals_ext {n : Nt} {gs t : List An} (h : NtOk (withG n gs)) {st : List Int} (hs : st.length = n.ss.length) (inp : Int) : ∀ i, i < (n.fst + gs.length).toNat → (valsL (withG n (gs ++ t)) st inp).getD i 0 = (valsL (withG n gs) st inp).getD i 0 := fun i hi => by
  have hi0 : 0 ≤ n.ins := h.i0
  have hf : n.fst = 1 + n.ins + n.ss.length := rfl
  have e : valL (withG n (gs ++ t)) st inp gs.length = valsL (withG n gs) st inp := by
    show ((gs ++ t).take gs.length).foldl _ (leafL n st inp) = (gs.take gs.length).foldl _ (leafL n st inp)
    rw [List.take_left, List.take_length]
  have hl : (valL (withG n (gs ++ t)) st inp gs.length).length = 1 + n.ins.toNat + st.length + gs.length := val_len _ st inp _ (by show gs.length ≤ (gs ++ t).length; rw [List.length_append]; omega)
  have := val_pre (withG n (gs ++ t)) st inp (gs ++ t).length gs.length (by rw [List.length_append]; omega) (Nat.le_refl _) i (by omega)
  rw [e] at this; exact this
theorem bit_ext {n : Nt} {gs t : List An} (h : NtOk (withG n gs)) {st : List Int} (hs : st.length = n.ss.length) (inp : Int) {l : Int} (hl : LtOk l (n.fst + gs.length)) : bitL (valsL (withG n (gs ++ t)) st inp) l = bitL (valsL (withG n gs) st inp) l := by
  have hi0 : 0 ≤ n.ins := h.i0
  have hf : n.fst = 1 + n.ins + n.ss.length := rfl
  exact bit_pre (m := (n.fst + gs.length).toNat) (vals_ext h hs inp) hl.1 (by have := hl.2; omega)
/-- a literal added: the gates then, and what it computes of the values before -/
structure AddOk (n : Nt) (gs gs' : List An) (x : Int) (k : Nat) (f : (Int → Int) → Int) : Prop where
  ext : ∃ t, gs' = gs ++ t ∧ t.length ≤ k
  ok : NtOk (withG n gs')
  lit : LtOk x (n.fst + gs'.length)
  val : ∀ (st : List Int) (inp : Int), st.length = n.ss.length → bitL (valsL (withG n gs') st inp) x = f (bitL (valsL (withG n gs) st inp))
theorem AddOk.len {n : Nt} {gs gs' : List An} {x : Int} {k : Nat} {f : (Int → Int) → Int} (h : AddOk n gs gs' x k f) : gs.length ≤ gs'.length ∧ gs'.length ≤ gs.length + k := by
  obtain ⟨t, rfl, ht⟩ := h.ext; rw [List.length_append]; omega
theorem AddOk.keep {n : Nt} {gs gs' : List An} {x : Int} {k : Nat} {f : (Int → Int) → Int} (h : AddOk n gs gs' x k f) (h0 : NtOk (withG n gs)) {st : List Int} (hs : st.length = n.ss.length) (inp : Int) {l : Int} (hl : LtOk l (n.fst + gs.length)) : bitL (valsL (withG n gs') st inp) l = bitL (valsL (withG n gs) st inp) l := by
  obtain ⟨t, rfl, ht⟩ := h.ext; exact bit_ext h0 hs inp hl
theorem AddOk.lits {n : Nt} {gs gs' : List An} {x : Int} {k : Nat} {f : (Int → Int) → Int} (h : AddOk n gs gs' x k f) {l : Int} (hl : LtOk l (n.fst + gs.length)) : LtOk l (n.fst + gs'.length) := by
  have := h.len; exact ⟨hl.1, by have := hl.2; omega⟩
theorem bits01 {n : Nt} {gs : List An} (h : NtOk (withG n gs)) {st : List Int} (hs : st.length = n.ss.length) (inp : Int) {l : Int} (hl : LtOk l (n.fst + gs.length)) : bitL (valsL (withG n gs) st inp) l = 0 ∨ bitL (valsL (withG n gs) st inp) l = 1 := by
  have hi0 : 0 ≤ n.ins := h.i0
  have hf : n.fst = 1 + n.ins + n.ss.length := rfl
  have hlen : (valsL (withG n gs) st inp).length = 1 + n.ins.toNat + st.length + gs.length := val_len _ st inp _ (Nat.le_refl _)
  exact bit01 (v := valsL (withG n gs) st inp) (val01 h hs inp _ (Nat.le_refl _)) hl.1 (by have h9 := hl.2; rw [hlen]; omega)
abbrev fAnd (a b : Int) : (Int → Int) → Int := fun ev => ev a * ev b
theorem add_zero {n : Nt} {gs : List An} {a b : Int} (h : NtOk (withG n gs)) (ha : LtOk a (n.fst + gs.length)) (hb : LtOk b (n.fst + gs.length)) (hc : a = 0 ∨ b = 0 ∨ xr a = b) : AddOk n gs gs 0 1 (fAnd a b) := by
  have hi0 : 0 ≤ n.ins := h.i0
  have hf : n.fst = 1 + n.ins + n.ss.length := rfl
  have h0 : ∀ (st : List Int) (inp : Int), bitL (valsL (withG n gs) st inp) 0 = 0 := fun st inp => by unfold bitL; rw [if_pos (by decide)]; exact val0 (n := withG n gs) st inp
  refine ⟨⟨[], by simp, by simp⟩, h, ⟨by omega, by omega⟩, fun st inp hs => ?_⟩
  rw [h0]
  show 0 = _ * _
  rcases hc with rfl | rfl | rfl
  · rw [h0, Int.zero_mul]
  · rw [h0, Int.mul_zero]
  · rw [bit_xr _ ha.1]
    rcases bits01 h hs inp ha with e | e <;> rw [e] <;> decide
theorem add_one {n : Nt} {gs : List An} {a b : Int} (h : NtOk (withG n gs)) (ha : LtOk a (n.fst + gs.length)) (hb : LtOk b (n.fst + gs.length)) (hc : a = 1 ∨ a = b) : AddOk n gs gs b 1 (fAnd a b) := by
  refine ⟨⟨[], by simp, by simp⟩, h, hb, fun st inp hs => ?_⟩
  show _ = _ * _
  rcases hc with rfl | rfl
  · have h1 : bitL (valsL (withG n gs) st inp) 1 = 1 := by
      have := bit_xr (valsL (withG n gs) st inp) (a := 0) (Int.le_refl _)
      rw [show xr 0 = 1 by decide] at this
      rw [this]; unfold bitL; rw [if_pos (by decide)]
      have := val0 (n := withG n gs) st inp
      rw [show ((0 : Int) / 2).toNat = 0 by decide, this]; decide
    rw [h1, Int.one_mul]
  · rcases bits01 h hs inp ha with e | e <;> rw [e] <;> decide
theorem AddOk.swap {n : Nt} {gs gs' : List An} {x a b : Int} {k : Nat} (h : AddOk n gs gs' x k (fAnd a b)) : AddOk n gs gs' x k (fAnd b a) := ⟨h.ext, h.ok, h.lit, fun st inp hs => by rw [h.val st inp hs]; exact Int.mul_comm _ _⟩
theorem mm_bits {v : List Int} (a b : Int) : bitL v (min a b) * bitL v (max a b) = bitL v a * bitL v b := by
  rcases Int.le_total a b with h | h
  · rw [Int.min_eq_left h, Int.max_eq_right h]
  · rw [Int.min_eq_right h, Int.max_eq_left h, Int.mul_comm]
theorem add_found {n : Nt} {gs : List An} {a b : Int} {i : Nat} (h : NtOk (withG n gs)) (hi : i < gs.length) (h1 : (gs.getD i an0).a = min a b) (h2 : (gs.getD i an0).b = max a b) : AddOk n gs gs (2 * (n.fst + i)) 1 (fAnd a b) := by
  have hi0 : 0 ≤ n.ins := h.i0
  have hf : n.fst = 1 + n.ins + n.ss.length := rfl
  refine ⟨⟨[], by simp, by simp⟩, h, ⟨by omega, by omega⟩, fun st inp hs => ?_⟩
  have := val_at h hs inp (k := i) hi
  rw [fst_withG] at this
  show _ = _ * _
  unfold bitL
  rw [if_pos (by omega), show 2 * (n.fst + (i : Int)) / 2 = n.fst + i by omega, this]
  show bitL _ (gs.getD i an0).a * bitL _ (gs.getD i an0).b = bitL _ a * bitL _ b
  rw [h1, h2, mm_bits]
theorem add_new {n : Nt} {gs : List An} {a b : Int} (h : NtOk (withG n gs)) (ha : LtOk a (n.fst + gs.length)) (hb : LtOk b (n.fst + gs.length)) (hl : gs.length < 300) : AddOk n gs (gs ++ [An.mk (min a b) (max a b)]) (2 * (n.fst + gs.length)) 1 (fAnd a b) := by
  have hi0 : 0 ≤ n.ins := h.i0
  have hf : n.fst = 1 + n.ins + n.ss.length := rfl
  have hlen : (gs ++ [An.mk (min a b) (max a b)]).length = gs.length + 1 := by simp
  have hok : NtOk (withG n (gs ++ [An.mk (min a b) (max a b)])) := by
    refine ⟨h.i0, h.i1, h.s1, by show (gs ++ [_]).length ≤ 300; omega, h.o1, h.sq, fun s hs x hx => ?_, fun k hk => ?_, fun x hx => ?_⟩
    · have := h.xs s hs x hx; rw [cnt_withG] at this ⊢; unfold LtOk at *; omega
    · have hk' : k < gs.length + 1 := by rw [← hlen]; exact hk
      show LtOk ((gs ++ [An.mk (min a b) (max a b)]).getD k an0).a (n.fst + k) ∧ LtOk ((gs ++ [An.mk (min a b) (max a b)]).getD k an0).b (n.fst + k)
      by_cases e : k < gs.length
      · rw [getD_left e]; exact h.an k e
      · rw [getD_right (by omega), show k - gs.length = 0 by omega]
        show LtOk (min a b) _ ∧ LtOk (max a b) _
        unfold LtOk at *
        omega
    · have := h.ou x hx; rw [cnt_withG] at this ⊢; unfold LtOk at *; omega
  refine ⟨⟨_, rfl, by simp⟩, hok, ⟨by omega, by omega⟩, fun st inp hs => ?_⟩
  have := val_at hok hs inp (k := gs.length) (by show gs.length < (gs ++ [_]).length; omega)
  rw [fst_withG] at this
  show _ = _ * _
  have e1 := bit_ext (t := [An.mk (min a b) (max a b)]) h hs inp ha
  have e2 := bit_ext (t := [An.mk (min a b) (max a b)]) h hs inp hb
  rw [← e1, ← e2]
  have e3 : bitL (valsL (withG n (gs ++ [An.mk (min a b) (max a b)])) st inp) (2 * (n.fst + gs.length)) = (valsL (withG n (gs ++ [An.mk (min a b) (max a b)])) st inp).getD (n.fst + gs.length).toNat 0 := by
    conv => lhs; unfold bitL
    rw [if_pos (by omega), show 2 * (n.fst + (gs.length : Int)) / 2 = n.fst + gs.length by omega]
  rw [e3, this]
  show bitL _ ((gs ++ [An.mk (min a b) (max a b)]).getD gs.length an0).a * bitL _ ((gs ++ [An.mk (min a b) (max a b)]).getD gs.length an0).b = _
  rw [getD_right (Nat.le_refl _), Nat.sub_self]
  exact mm_bits a b
abbrev fOr (a b : Int) : (Int → Int) → Int := fun ev => 1 - (1 - ev a) * (1 - ev b)
theorem AddOk.orr {n : Nt} {gs gs' : List An} {x a b : Int} {k : Nat} (ha : 0 ≤ a) (hb : 0 ≤ b) (h : AddOk n gs gs' x k (fAnd (xr a) (xr b))) : AddOk n gs gs' (xr x) k (fOr a b) := ⟨h.ext, h.ok, xr_ok h.lit, fun st inp hs => by
  rw [bit_xr _ h.lit.1, h.val st inp hs]
  show 1 - bitL _ (xr a) * bitL _ (xr b) = _
  rw [bit_xr _ ha, bit_xr _ hb]⟩
open Go.RowKit
theorem hq_oneX {N : Nat} {w0 : World} {l : List HP} {env : List (Nat × Value)} {Q : Post} {ex : Exit} {i e s n : Nat} {v : Value} {xs : List Value} (hi : l[i]? = some (rowE e s v n xs)) (k : v.oneCell' = true → HQ N w0 l env ex Q) : HQ N w0 l env ex Q := fun a w st => k (rdsW_own (st.mem.holds _ (mem_at hi))).one a w st
def AnsOk (f : Int) (gs : List An) : Prop := ∀ k, k < gs.length → LtOk (gs.getD k an0).a (f + k) ∧ LtOk (gs.getD k an0).b (f + k)
theorem ans_app {f : Int} {gs : List An} {a b : Int} (h : AnsOk f gs) (ha : LtOk a (f + gs.length)) (hb : LtOk b (f + gs.length)) : AnsOk f (gs ++ [An.mk a b]) := fun k hk => by
  rw [List.length_append, List.length_singleton] at hk
  by_cases hc : k < gs.length
  · rw [getD_left hc]; exact h k hc
  · rw [getD_right (by omega), show k - gs.length = 0 by omega, show k = gs.length by omega]; exact ⟨ha, hb⟩
def SqsOk (m : Int) (ss : List Sq) : Prop := ∀ s ∈ ss, SqOk s ∧ ∀ x ∈ s.xs, LtOk x m
theorem sqs_app {m : Int} {ss : List Sq} {s : Sq} (h : SqsOk m ss) (h1 : SqOk s) (h2 : ∀ x ∈ s.xs, LtOk x m) : SqsOk m (ss ++ [s]) := fun r hr => by
  rcases List.mem_append.1 hr with hr | hr
  · exact h r hr
  · rw [List.mem_singleton] at hr; subst hr; exact ⟨h1, h2⟩
def OsOk (m : Int) (os : List Int) : Prop := ∀ x ∈ os, LtOk x m
theorem os_app {m : Int} {os : List Int} {x : Int} (h : OsOk m os) (hx : LtOk x m) : OsOk m (os ++ [x]) := fun r hr => by
  rcases List.mem_append.1 hr with hr | hr
  · exact h r hr
  · rw [List.mem_singleton] at hr; subst hr; exact hx
theorem conv_snocX {w0 : World} {ps l : List HP} {p : HP} : Conv w0 (bigE ps :: p :: l) (bigE (ps ++ [p]) :: l) := fun w hm => by
  have h1 : Mem w0 (ps ++ (p :: l)) w := hm.unbig
  have h2 : Mem w0 ((ps ++ [p]) ++ l) w := by simpa using h1
  exact h2.big
theorem nt_mk {ins m f : Int} {sv av ov : Value} {ss : List Sq} {gs : List An} {os : List Int} (h0 : 0 ≤ ins) (h1 : ins ≤ 20) (h2 : ss.length ≤ 12) (h3 : gs.length ≤ 300) (h4 : os.length ≤ 16) (h5 : SqsOk m ss) (h6 : AnsOk f gs) (h7 : OsOk m os)
    (hf : f = 1 + ins + ss.length) (hm : m = 1 + ins + ss.length + gs.length) : NtOk (Nt.mk ins sv av ov ss gs os) := by
  subst hf hm
  exact ⟨h0, h1, h2, h3, h4, fun s hs => (h5 s hs).1, fun s hs => (h5 s hs).2, h6, h7⟩
set_option maxHeartbeats 4000000 in
set_option maxRecDepth 100000 in
theorem l08Sized_mut (g : Nat) (a : Option Addr) (len cap : Nat) (z : List Int) (q1 q2 q3 : Int) (w0 : World) (l : List HP) (w : World) (hm0 : Mem w0 (curE g a len cap :: l) w) (hb : BRow .u8 w0 a len cap z) (hq1 : 1 ≤ q1 ∧ q1 ≤ 6) (hq2 : 0 ≤ q2 ∧ q2 ≤ 3) (hq3 : 0 ≤ q3 ∧ q3 ≤ 14) :
  Calls Try.prog 121 #[.pointer (some ⟨g, 0, none⟩), .int .i64 q1, .int .i64 q2, .int .i64 q3] w (fun e_ w_ => ∃ v_ p_, e_ = .returned v_ ∧ (fun u_ p_ => ∃ n : Nt, u_ = n.agg ∧ p_ = bigE [curE g a len cap, ntE n] ∧ (n.sv.oneCell' = true ∧ n.av.oneCell' = true ∧ n.ov.oneCell' = true) ∧ NtOk n ∧ n.ins ≤ q1 ∧ (n.ss.length : Int) ≤ q2 ∧ (n.gs.length : Int) ≤ q3) v_ p_ ∧ Mem w0 (p_ :: l) w_) := by
 refine calls_hcM (N := 131) (args := [.pointer (some ⟨g, 0, none⟩), .int .i64 q1, .int .i64 q2, .int .i64 q3]) Try.func121 rfl rfl hm0 ?_
 refine hc_less _ (sx 0 rfl (sx 1 rfl (sx 2 rfl (sx 3 rfl (sub_nil _))))) (.refl _) ?_
 refine hc_seq ?_
 refine hc_region ?_
 refine hl_box rfl rfl rfl (rq_alloc (z := .agg #[.int .i64 0, .slice none 0 0, .slice none 0 0, .slice none 0 0]) rfl (by kernel_rfl)) ?_
 intro b1
 refine hl_less (sx 0 rfl (sx 1 rfl (sx 2 rfl (sx 3 rfl (sx 8 rfl (sub_nil _)))))) (.refl _) ?_
 refine hl_nil ?_
 refine hq_then ?_
 refine hc_seq ?_
 refine hc_region ?_
 refine hl_v rfl rfl rfl (rv_ev rfl) ?_
 refine hl_v rfl rfl rfl (rv_ev rfl) ?_
 refine hl_callM (R := (fun u_ p_ => (∃ x_ : Int, u_ = .int .i64 x_ ∧ 0 ≤ x_ ∧ x_ < q1) ∧ p_ = curE g a len cap)) 1 rfl rfl (by kernel_rfl) rfl rfl (fun l' w hm => belowN_mut g a len cap z q1 _ _ _ hm hb (by constructor <;> omega)) ?_
 intro v2 p3 hR4
 obtain ⟨⟨xhR4, rfl, xhR40, xhR41⟩, rfl⟩ := hR4
 refine hl_eqL (l' := (boxE b1 #[.int .i64 0, .slice none 0 0, .slice none 0 0, .slice none 0 0] 28 :: curE g a len cap :: l)) rfl ?_
 refine hl_v rfl rfl rfl (rv_add rfl rfl rfl (by constructor <;> omega)) ?_
 refine hl_v rfl rfl rfl (rv_build (cs := #[.int .i64 (1 + xhR4), .slice none 0 0, .slice none 0 0, .slice none 0 0]) rfl rfl (by kernel_rfl)) ?_
 refine hl_box rfl rfl rfl (rq_alloc (z := .agg #[.int .i64 0, .slice none 0 0, .slice none 0 0, .slice none 0 0]) rfl (by kernel_rfl)) ?_
 intro b5
 refine hl_storeBoxN (i := 0) (off := 0) (us := [.int .i64 (1 + xhR4), .slice none 0 0, .slice none 0 0, .slice none 0 0]) (l' := (boxE b5 #[.int .i64 (1 + xhR4), .slice none 0 0, .slice none 0 0, .slice none 0 0] 28 :: boxE b1 #[.int .i64 0, .slice none 0 0, .slice none 0 0, .slice none 0 0] 28 :: curE g a len cap :: l)) rfl rfl rfl (by kernel_rfl) rfl rfl rfl (all_cons rfl (all_cons rfl (all_cons rfl (all_cons rfl all_nil)))) rfl rfl rfl ?_
 refine hl_less (sx 0 rfl (sx 1 rfl (sx 2 rfl (sx 3 rfl (sx 8 rfl (sx 9 rfl (sub_nil _))))))) (.refl _) ?_
 refine hl_nil ?_
 refine hq_then ?_
 refine hc_seq ?_
 refine hc_region ?_
 refine hl_v rfl rfl rfl (rv_ev rfl) ?_
 refine hl_v rfl rfl rfl (rv_ev rfl) ?_
 refine hl_v rfl rfl rfl (rv_add rfl rfl rfl (by constructor <;> omega)) ?_
 refine hl_callM (R := (fun u_ p_ => (∃ x_ : Int, u_ = .int .i64 x_ ∧ 0 ≤ x_ ∧ x_ < q2 + 1) ∧ p_ = curE g a len cap)) 2 rfl rfl (by kernel_rfl) rfl rfl (fun l' w hm => belowN_mut g a len cap z (q2 + 1) _ _ _ hm hb (by constructor <;> omega)) ?_
 intro v6 p7 hR8
 obtain ⟨⟨xhR8, rfl, xhR80, xhR81⟩, rfl⟩ := hR8
 refine hl_eqL (l' := (boxE b5 #[.int .i64 (1 + xhR4), .slice none 0 0, .slice none 0 0, .slice none 0 0] 28 :: boxE b1 #[.int .i64 0, .slice none 0 0, .slice none 0 0, .slice none 0 0] 28 :: curE g a len cap :: l)) rfl ?_
 refine hl_v rfl rfl rfl (rv_ev rfl) ?_
 refine hl_less (sx 0 rfl (sx 1 rfl (sx 2 rfl (sx 3 rfl (sx 8 rfl (sx 9 rfl (sx 10 rfl (sub_nil _)))))))) (.refl _) ?_
 refine hl_nil ?_
 refine hq_then ?_
 refine hc_seq ?_
 refine hc_region ?_
 refine hl_v rfl rfl rfl (rv_ev rfl) ?_
 refine hl_v rfl rfl rfl (rv_ev rfl) ?_
 refine hl_v rfl rfl rfl (rv_add rfl rfl rfl (by constructor <;> omega)) ?_
 refine hl_callM (R := (fun u_ p_ => (∃ x_ : Int, u_ = .int .i64 x_ ∧ 0 ≤ x_ ∧ x_ < q3 + 1) ∧ p_ = curE g a len cap)) 2 rfl rfl (by kernel_rfl) rfl rfl (fun l' w hm => belowN_mut g a len cap z (q3 + 1) _ _ _ hm hb (by constructor <;> omega)) ?_
 intro v9 p10 hR11
 obtain ⟨⟨xhR11, rfl, xhR110, xhR111⟩, rfl⟩ := hR11
 refine hl_eqL (l' := (boxE b5 #[.int .i64 (1 + xhR4), .slice none 0 0, .slice none 0 0, .slice none 0 0] 28 :: boxE b1 #[.int .i64 0, .slice none 0 0, .slice none 0 0, .slice none 0 0] 28 :: curE g a len cap :: l)) rfl ?_
 refine hl_v rfl rfl rfl (rv_ev rfl) ?_
 refine hl_less (sx 0 rfl (sx 1 rfl (sx 2 rfl (sx 3 rfl (sx 8 rfl (sx 9 rfl (sx 10 rfl (sx 11 rfl (sub_nil _))))))))) (.refl _) ?_
 refine hl_nil ?_
 refine hq_then ?_
 refine hc_seq ?_
 refine hc_region ?_
 refine hl_v rfl rfl rfl (rv_field (k0 := 0) rfl (by kernel_rfl) rfl) ?_
 refine hl_v rfl rfl rfl (rv_load rfl (by kernel_rfl) rfl (box_cell 0 rfl rfl)) ?_
 refine hl_v rfl rfl rfl (rv_add rfl rfl rfl (by constructor <;> omega)) ?_
 refine hl_v rfl rfl rfl (rv_ev rfl) ?_
 refine hl_v rfl rfl rfl (rv_add rfl rfl rfl (by constructor <;> omega)) ?_
 refine hl_v rfl rfl rfl (rv_ev rfl) ?_
 refine hl_less (sx 0 rfl (sx 1 rfl (sx 2 rfl (sx 3 rfl (sx 8 rfl (sx 9 rfl (sx 10 rfl (sx 11 rfl (sx 12 rfl (sub_nil _)))))))))) (.refl _) ?_
 refine hl_nil ?_
 refine hq_then ?_
 refine hc_seq ?_
 refine hc_seq ?_
 refine hc_region ?_
 refine hl_v rfl rfl rfl (rv_ev rfl) ?_
 refine hl_less (sx 0 rfl (sx 1 rfl (sx 2 rfl (sx 3 rfl (sx 8 rfl (sx 9 rfl (sx 10 rfl (sx 11 rfl (sx 12 rfl (sx 13 rfl (sub_nil _))))))))))) (.refl _) ?_
 refine hl_nil ?_
 refine hq_then ?_
 refine hc_block ?_
 refine hc_conv (rowE 3 1 (.slice none 0 0) 0 ([]) :: boxE b5 #[.int .i64 (1 + xhR4), .slice none 0 0, .slice none 0 0, .slice none 0 0] 28 :: boxE b1 #[.int .i64 0, .slice none 0 0, .slice none 0 0, .slice none 0 0] 28 :: curE g a len cap :: l) (fun w hm => hm.nilRow 3 1) ?_
 refine hc_conv (rowE 80 2 (.slice none 0 0) 0 ([]) :: rowE 3 1 (.slice none 0 0) 0 ([]) :: boxE b5 #[.int .i64 (1 + xhR4), .slice none 0 0, .slice none 0 0, .slice none 0 0] 28 :: boxE b1 #[.int .i64 0, .slice none 0 0, .slice none 0 0, .slice none 0 0] 28 :: curE g a len cap :: l) (fun w hm => hm.nilRow 80 2) ?_
 refine hc_conv (rowE 83 3 (.slice none 0 0) 0 ([]) :: rowE 80 2 (.slice none 0 0) 0 ([]) :: rowE 3 1 (.slice none 0 0) 0 ([]) :: boxE b5 #[.int .i64 (1 + xhR4), .slice none 0 0, .slice none 0 0, .slice none 0 0] 28 :: boxE b1 #[.int .i64 0, .slice none 0 0, .slice none 0 0, .slice none 0 0] 28 :: curE g a len cap :: l) (fun w hm => hm.nilRow 83 3) ?_
 refine hc_conv (bigE ([] : List HP) :: rowE 83 3 (.slice none 0 0) 0 ([]) :: rowE 80 2 (.slice none 0 0) 0 ([]) :: rowE 3 1 (.slice none 0 0) 0 ([]) :: boxE b5 #[.int .i64 (1 + xhR4), .slice none 0 0, .slice none 0 0, .slice none 0 0] 28 :: boxE b1 #[.int .i64 0, .slice none 0 0, .slice none 0 0, .slice none 0 0] 28 :: curE g a len cap :: l) (fun w hm => Mem.big (ps := []) hm) ?_
 refine hc_loop3 (α := Nat) (β := Value) (γ := List An) (fun i u gs => (bigE ([] : List HP) :: rowE 83 3 (.slice none 0 0) 0 ([]) :: rowE 80 2 u gs.length (gs.flatMap anC) :: rowE 3 1 (.slice none 0 0) 0 ([]) :: boxE b5 #[.int .i64 (1 + xhR4), .slice none 0 0, u, .slice none 0 0] 28 :: boxE b1 #[.int .i64 0, .slice none 0 0, .slice none 0 0, .slice none 0 0] 28 :: curE g a len cap :: l)) (fun i u gs => [(0, .pointer (some ⟨g, 0, none⟩)), (1, .int .i64 q1), (2, .int .i64 q2), (3, .int .i64 q3), (8, .pointer (some ⟨b1, 0, none⟩)), (9, .pointer (some ⟨b5, 0, none⟩)), (10, .int .i64 xhR8), (11, .int .i64 xhR11), (12, .int .i64 ((1 + (1 + xhR4)) + xhR8)), (13, .int .i64 (i : Int))]) (fun i u gs => (i : Int) ≤ xhR11 ∧ gs.length = i ∧ AnsOk ((1 + (1 + xhR4)) + xhR8) gs) (fun i u gs => (xhR11).toNat - i) 0 _ [] ⟨by omega, rfl, fun k hk => absurd hk (by simp)⟩ (sx 0 rfl (sx 1 rfl (sx 2 rfl (sx 3 rfl (sx 8 rfl (sx 9 rfl (sx 10 rfl (sx 11 rfl (sx 12 rfl (sx 13 rfl (sub_nil _))))))))))) ((.cons_cons _ (.cons_cons _ (.cons_cons _ (.cons_cons _ (.cons_cons _ (.cons_cons _ (.cons_cons _ (.refl _))))))))) ?_
 intro i u gs hi12
 obtain ⟨hi, hgl, hgo⟩ := hi12
 refine hc_seq ?_
 refine hc_seq ?_
 refine hc_region ?_
 refine hl_v rfl rfl rfl (rv_ev rfl) ?_
 refine hl_v rfl rfl rfl (rv_ev rfl) ?_
 refine hl_lss rfl rfl rfl rfl rfl rfl (fun h13 => ?_) (fun h13 => ?_)
 ·
  refine hl_less (sx 0 rfl (sx 1 rfl (sx 2 rfl (sx 3 rfl (sx 8 rfl (sx 9 rfl (sx 10 rfl (sx 11 rfl (sx 12 rfl (sx 13 rfl (sx 39 rfl (sub_nil _)))))))))))) (.refl _) ?_
  refine hl_nil ?_
  refine hq_then ?_
  refine hc_true rfl ?_
  refine hc_skip ?_
  refine hq_then ?_
  refine hc_seq ?_
  refine hc_block ?_
  refine hc_seq ?_
  refine hc_region ?_
  refine hl_v rfl rfl rfl (rv_ev rfl) ?_
  refine hl_v rfl rfl rfl (rv_ev rfl) ?_
  refine hl_v rfl rfl rfl (rv_add rfl rfl rfl (by constructor <;> omega)) ?_
  refine hl_v rfl rfl rfl (rv_mul rfl rfl rfl (by constructor <;> omega)) ?_
  refine hl_v rfl rfl rfl (rv_ev rfl) ?_
  refine hl_less (sx 0 rfl (sx 1 rfl (sx 2 rfl (sx 3 rfl (sx 8 rfl (sx 9 rfl (sx 10 rfl (sx 11 rfl (sx 12 rfl (sx 13 rfl (sx 14 rfl (sx 39 rfl (sub_nil _))))))))))))) (.refl _) ?_
  refine hl_nil ?_
  refine hq_then ?_
  refine hc_seq ?_
  refine hc_region ?_
  refine hl_v rfl rfl rfl (rv_ev rfl) ?_
  refine hl_v rfl rfl rfl (rv_sub rfl rfl rfl (by constructor <;> omega)) ?_
  refine hl_v rfl rfl rfl (rv_ev rfl) ?_
  refine hl_v rfl rfl rfl (rv_ev rfl) ?_
  refine hl_v rfl rfl rfl (rv_sub rfl rfl rfl (by constructor <;> omega)) ?_
  refine hl_v rfl rfl rfl (rv_min rfl rfl rfl) ?_
  refine hl_callM (R := (fun u_ p_ => (∃ x_ : Int, u_ = .int .i64 x_ ∧ 0 ≤ x_ ∧ x_ < min ((2 * (((1 + (1 + xhR4)) + xhR8) + (i : Int))) - 1) 14) ∧ p_ = curE g a len cap)) 6 rfl rfl (by kernel_rfl) rfl rfl (fun l' w hm => belowN_mut g a len cap z (min ((2 * (((1 + (1 + xhR4)) + xhR8) + (i : Int))) - 1) 14) _ _ _ hm hb (by constructor <;> omega)) ?_
  intro v14 p15 hR16
  obtain ⟨⟨xhR16, rfl, xhR160, xhR161⟩, rfl⟩ := hR16
  refine hl_eqL (l' := (bigE ([] : List HP) :: rowE 83 3 (.slice none 0 0) 0 ([]) :: rowE 80 2 u gs.length (gs.flatMap anC) :: rowE 3 1 (.slice none 0 0) 0 ([]) :: boxE b5 #[.int .i64 (1 + xhR4), .slice none 0 0, u, .slice none 0 0] 28 :: boxE b1 #[.int .i64 0, .slice none 0 0, .slice none 0 0, .slice none 0 0] 28 :: curE g a len cap :: l)) rfl ?_
  refine hl_v rfl rfl rfl (rv_sub rfl rfl rfl (by constructor <;> omega)) ?_
  refine hl_v rfl rfl rfl (rv_ev rfl) ?_
  refine hl_less (sx 0 rfl (sx 1 rfl (sx 2 rfl (sx 3 rfl (sx 8 rfl (sx 9 rfl (sx 10 rfl (sx 11 rfl (sx 12 rfl (sx 13 rfl (sx 14 rfl (sx 15 rfl (sx 39 rfl (sub_nil _)))))))))))))) (.refl _) ?_
  refine hl_nil ?_
  refine hq_then ?_
  refine hc_conv (curE g a len cap :: bigE ([] : List HP) :: rowE 83 3 (.slice none 0 0) 0 ([]) :: rowE 80 2 u gs.length (gs.flatMap anC) :: rowE 3 1 (.slice none 0 0) 0 ([]) :: boxE b5 #[.int .i64 (1 + xhR4), .slice none 0 0, u, .slice none 0 0] 28 :: boxE b1 #[.int .i64 0, .slice none 0 0, .slice none 0 0, .slice none 0 0] 28 :: l) (conv_pick (src := [bigE ([] : List HP), rowE 83 3 (.slice none 0 0) 0 ([]), rowE 80 2 u gs.length (gs.flatMap anC), rowE 3 1 (.slice none 0 0) 0 ([]), boxE b5 #[.int .i64 (1 + xhR4), .slice none 0 0, u, .slice none 0 0] 28, boxE b1 #[.int .i64 0, .slice none 0 0, .slice none 0 0, .slice none 0 0] 28, curE g a len cap]) (dst := [curE g a len cap, bigE ([] : List HP), rowE 83 3 (.slice none 0 0) 0 ([]), rowE 80 2 u gs.length (gs.flatMap anC), rowE 3 1 (.slice none 0 0) 0 ([]), boxE b5 #[.int .i64 (1 + xhR4), .slice none 0 0, u, .slice none 0 0] 28, boxE b1 #[.int .i64 0, .slice none 0 0, .slice none 0 0, .slice none 0 0] 28]) (l := l) [6, 0, 1, 2, 3, 4, 5] (by decide) rfl) ?_
  refine hc_draw2 (l := (bigE ([] : List HP) :: rowE 83 3 (.slice none 0 0) 0 ([]) :: rowE 80 2 u gs.length (gs.flatMap anC) :: rowE 3 1 (.slice none 0 0) 0 ([]) :: boxE b5 #[.int .i64 (1 + xhR4), .slice none 0 0, u, .slice none 0 0] 28 :: boxE b1 #[.int .i64 0, .slice none 0 0, .slice none 0 0, .slice none 0 0] 28 :: l)) (by kernel_rfl) 8 [0, 1, 2, 3, 4, 5, 6, 7] (List.take 8 _) (List.drop 8 _) [[], [0], [], [], [], [3, 4], [2, 5], [5, 6]] [54, 55, 56, 57, 58, 59, 60, 61] (fun i_ vs_ v_ p_ => match i_ with | 0 => v_ = .pointer (some ⟨b5, 0 + 2, none⟩) ∧ p_ = [] | 1 => v_ = u ∧ p_ = [] | 2 => v_ = .int .i64 (((2 * (((1 + (1 + xhR4)) + xhR8) + (i : Int))) - 1) - xhR16) ∧ p_ = [] | 3 => v_ = .pointer (some ⟨g, 0, none⟩) ∧ p_ = [] | 4 => v_ = .int .i64 (2 * (((1 + (1 + xhR4)) + xhR8) + (i : Int))) ∧ p_ = [] | 5 => (∃ pm_, p_ = [pm_] ∧ (fun u_ p_ => (∃ x_ : Int, u_ = .int .i64 x_ ∧ 0 ≤ x_ ∧ x_ < 2 * (((1 + (1 + xhR4)) + xhR8) + (i : Int))) ∧ p_ = curE g a len cap) v_ pm_) | 6 => v_ = .agg #[.int .i64 (((2 * (((1 + (1 + xhR4)) + xhR8) + (i : Int))) - 1) - xhR16), .int .i64 (intOf_o (List.getD vs_ 1 undef))] ∧ p_ = [] | 7 => IsRow_o 80 2 1 ([((2 * (((1 + (1 + xhR4)) + xhR8) + (i : Int))) - 1) - xhR16, (intOf_o (List.getD vs_ 0 undef))].map (Value.int .i64)) v_ p_ | _ => True) [[], [0], [], [], [], [3, 4], [2, 5], [5, 6]] [none, none, none, none, none, some 11, none, none] [curE g a len cap] [0, 1, 2, 3, 4, 5, 6, 7] 11 (List.take_append_drop 8 _).symm (by kernel_rfl) (by kernel_rfl) (by kernel_rfl) rfl rfl ?_ ?_
  ·
   refine ⟨?_, ?_, ?_, ?_, ?_, ?_, ?_, ?_, trivial⟩
   ·
    intro vf pf hmu hR
    refine Or.inl ⟨rfl, ?_⟩
    show RunQ _ _ _ (([] : List Nat).flatMap pf ++ _) (envOf _ vf [] ++ _) _ _
    refine rq_less (sx 9 rfl (sub_nil _)) (List.sublist_append_right _ _) ?_
    exact rq_v (rv_field (k0 := 2) rfl (by kernel_rfl) rfl)
   ·
    intro vf pf hmu hR
    have e0 : (vf 0) = .pointer (some ⟨b5, 0 + 2, none⟩) ∧ (pf 0) = [] := hR 0 (by decide)
    refine Or.inl ⟨rfl, ?_⟩
    show RunQ _ _ _ (([0] : List Nat).flatMap pf ++ _) (envOf _ vf [0] ++ _) _ _
    refine rq_less (sx 54 (congrArg some e0.1) (sub_nil _)) (List.sublist_append_right _ _) ?_
    exact rq_v (rv_load rfl (by kernel_rfl) rfl (box_cell 4 rfl rfl))
   ·
    intro vf pf hmu hR
    refine Or.inl ⟨rfl, ?_⟩
    show RunQ _ _ _ (([] : List Nat).flatMap pf ++ _) (envOf _ vf [] ++ _) _ _
    refine rq_less (sx 15 rfl (sub_nil _)) (List.sublist_append_right _ _) ?_
    exact rq_v (rv_ev rfl)
   ·
    intro vf pf hmu hR
    refine Or.inl ⟨rfl, ?_⟩
    show RunQ _ _ _ (([] : List Nat).flatMap pf ++ _) (envOf _ vf [] ++ _) _ _
    refine rq_less (sx 0 rfl (sub_nil _)) (List.sublist_append_right _ _) ?_
    exact rq_v (rv_ev rfl)
   ·
    intro vf pf hmu hR
    refine Or.inl ⟨rfl, ?_⟩
    show RunQ _ _ _ (([] : List Nat).flatMap pf ++ _) (envOf _ vf [] ++ _) _ _
    refine rq_less (sx 14 rfl (sub_nil _)) (List.sublist_append_right _ _) ?_
    exact rq_v (rv_ev rfl)
   ·
    intro vf pf hmu hR
    have e3 : (vf 3) = .pointer (some ⟨g, 0, none⟩) ∧ (pf 3) = [] := hR 3 (by decide)
    have e4 : (vf 4) = .int .i64 (2 * (((1 + (1 + xhR4)) + xhR8) + (i : Int))) ∧ (pf 4) = [] := hR 4 (by decide)
    refine Or.inl ⟨rfl, ?_⟩
    show RunM _ _ _ (pf 11) (([3, 4] : List Nat).flatMap pf ++ _) (envOf _ vf [3, 4] ++ _) _ _
    rw [hmu]
    refine rm_less (X' := (bigE ([] : List HP) :: rowE 83 3 (.slice none 0 0) 0 ([]) :: rowE 80 2 u gs.length (gs.flatMap anC) :: rowE 3 1 (.slice none 0 0) 0 ([]) :: boxE b5 #[.int .i64 (1 + xhR4), .slice none 0 0, u, .slice none 0 0] 28 :: boxE b1 #[.int .i64 0, .slice none 0 0, .slice none 0 0, .slice none 0 0] 28 :: l)) (sx 57 (congrArg some e3.1) (sx 58 (congrArg some e4.1) (sub_nil _))) (by first | (simp only [e3.2, e4.2, List.flatMap_cons, List.flatMap_nil, List.append_nil, List.nil_append, List.cons_append]; exact List.Sublist.refl _) | simp [e3.2, e4.2]) ?_
    exact rq_callM (R := (fun u_ p_ => (∃ x_ : Int, u_ = .int .i64 x_ ∧ 0 ≤ x_ ∧ x_ < 2 * (((1 + (1 + xhR4)) + xhR8) + (i : Int))) ∧ p_ = curE g a len cap)) (by kernel_rfl) rfl (fun L w hX hm => belowN_mut g a len cap z (2 * (((1 + (1 + xhR4)) + xhR8) + (i : Int))) _ _ _ hm hb (by constructor <;> omega))
   ·
    intro vf pf hmu hR
    have e2 : (vf 2) = .int .i64 (((2 * (((1 + (1 + xhR4)) + xhR8) + (i : Int))) - 1) - xhR16) ∧ (pf 2) = [] := hR 2 (by decide)
    have e5 : (∃ pm_, (pf 5) = [pm_] ∧ (fun u_ p_ => (∃ x_ : Int, u_ = .int .i64 x_ ∧ 0 ≤ x_ ∧ x_ < 2 * (((1 + (1 + xhR4)) + xhR8) + (i : Int))) ∧ p_ = curE g a len cap) (vf 5) pm_) := hR 5 (by decide)
    obtain ⟨p18, p5, hR19⟩ := e5
    obtain ⟨v17, v5⟩ : ∃ x, vf 5 = x := ⟨_, rfl⟩
    rw [v5] at hR19
    obtain ⟨⟨xhR19, rfl, xhR190, xhR191⟩, rfl⟩ := hR19
    refine Or.inl ⟨rfl, ?_⟩
    show RunQ _ _ _ (([2, 5] : List Nat).flatMap pf ++ _) (envOf _ vf [2, 5] ++ _) _ _
    refine rq_less (l' := (curE g a len cap :: bigE ([] : List HP) :: rowE 83 3 (.slice none 0 0) 0 ([]) :: rowE 80 2 u gs.length (gs.flatMap anC) :: rowE 3 1 (.slice none 0 0) 0 ([]) :: boxE b5 #[.int .i64 (1 + xhR4), .slice none 0 0, u, .slice none 0 0] 28 :: boxE b1 #[.int .i64 0, .slice none 0 0, .slice none 0 0, .slice none 0 0] 28 :: l)) (sx 56 (congrArg some e2.1) (sx 59 (congrArg some v5) (sub_nil _))) (by first | (simp only [p5, v5, e2.2, List.flatMap_cons, List.flatMap_nil, List.append_nil, List.nil_append, List.cons_append]; exact List.Sublist.refl _) | simp [p5, v5, e2.2]) ?_
    exact rq_mono (rq_v (rv_build (cs := #[.int .i64 (((2 * (((1 + (1 + xhR4)) + xhR8) + (i : Int))) - 1) - xhR16), .int .i64 xhR19]) rfl rfl (by kernel_rfl))) (fun _ _ h => ⟨h.1.trans (by show _ = (.agg #[.int .i64 (((2 * (((1 + (1 + xhR4)) + xhR8) + (i : Int))) - 1) - xhR16), .int .i64 (intOf_o (vf 5))] : Value); first | (rw [v5]; done) | (rw [v5]; rfl)), h.2⟩)
   ·
    intro vf pf hmu hR
    have e5 : (∃ pm_, (pf 5) = [pm_] ∧ (fun u_ p_ => (∃ x_ : Int, u_ = .int .i64 x_ ∧ 0 ≤ x_ ∧ x_ < 2 * (((1 + (1 + xhR4)) + xhR8) + (i : Int))) ∧ p_ = curE g a len cap) (vf 5) pm_) := hR 5 (by decide)
    obtain ⟨p18, p5, hR19⟩ := e5
    obtain ⟨v17, v5⟩ : ∃ x, vf 5 = x := ⟨_, rfl⟩
    rw [v5] at hR19
    obtain ⟨⟨xhR19, rfl, xhR190, xhR191⟩, rfl⟩ := hR19
    have e6 : (vf 6) = .agg #[.int .i64 (((2 * (((1 + (1 + xhR4)) + xhR8) + (i : Int))) - 1) - xhR16), .int .i64 (intOf_o (vf 5))] ∧ (pf 6) = [] := hR 6 (by decide)
    rw [v5] at e6
    refine Or.inl ⟨rfl, ?_⟩
    show RunQ _ _ _ (([5, 6] : List Nat).flatMap pf ++ _) (envOf _ vf [5, 6] ++ _) _ _
    refine rq_less (l' := (curE g a len cap :: bigE ([] : List HP) :: rowE 83 3 (.slice none 0 0) 0 ([]) :: rowE 80 2 u gs.length (gs.flatMap anC) :: rowE 3 1 (.slice none 0 0) 0 ([]) :: boxE b5 #[.int .i64 (1 + xhR4), .slice none 0 0, u, .slice none 0 0] 28 :: boxE b1 #[.int .i64 0, .slice none 0 0, .slice none 0 0, .slice none 0 0] 28 :: l)) (sx 60 (congrArg some e6.1) (sub_nil _)) (by first | (simp only [p5, v5, e6.2, List.flatMap_cons, List.flatMap_nil, List.append_nil, List.nil_append, List.cons_append]; exact List.Sublist.refl _) | simp [p5, v5, e6.2]) ?_
    exact rq_mono (rq_buildSlice (z := .agg #[.int .i64 0, .int .i64 0]) (s := 2) (cs := ([((2 * (((1 + (1 + xhR4)) + xhR8) + (i : Int))) - 1) - xhR16, xhR19].map (Value.int .i64))) rfl Try.underlying25 (by kernel_rfl) (by decide) rfl (by kernel_rfl) rfl) (fun v_ p_ h => by show IsRow_o 80 2 1 ([((2 * (((1 + (1 + xhR4)) + xhR8) + (i : Int))) - 1) - xhR16, (intOf_o (vf 5))].map (Value.int .i64)) v_ p_; rw [v5]; exact h)
  ·
   intro vf pf hmu hR
   have e1 : (vf 1) = u ∧ (pf 1) = [] := hR 1 (by decide)
   have e5 : (∃ pm_, (pf 5) = [pm_] ∧ (fun u_ p_ => (∃ x_ : Int, u_ = .int .i64 x_ ∧ 0 ≤ x_ ∧ x_ < 2 * (((1 + (1 + xhR4)) + xhR8) + (i : Int))) ∧ p_ = curE g a len cap) (vf 5) pm_) := hR 5 (by decide)
   obtain ⟨p18, p5, hR19⟩ := e5
   obtain ⟨v17, v5⟩ : ∃ x, vf 5 = x := ⟨_, rfl⟩
   rw [v5] at hR19
   obtain ⟨⟨xhR19, rfl, xhR190, xhR191⟩, rfl⟩ := hR19
   have e7 : IsRow_o 80 2 1 ([((2 * (((1 + (1 + xhR4)) + xhR8) + (i : Int))) - 1) - xhR16, (intOf_o (vf 5))].map (Value.int .i64)) (vf 7) (pf 7) := hR 7 (by decide)
   rw [v5] at e7
   obtain ⟨g20, v7, p7⟩ := e7
   have q0 : (vf 0) = .pointer (some ⟨b5, 0 + 2, none⟩) ∧ (pf 0) = [] := hR 0 (by decide)
   have q1 : (vf 1) = u ∧ (pf 1) = [] := hR 1 (by decide)
   have q2 : (vf 2) = .int .i64 (((2 * (((1 + (1 + xhR4)) + xhR8) + (i : Int))) - 1) - xhR16) ∧ (pf 2) = [] := hR 2 (by decide)
   have q3 : (vf 3) = .pointer (some ⟨g, 0, none⟩) ∧ (pf 3) = [] := hR 3 (by decide)
   have q4 : (vf 4) = .int .i64 (2 * (((1 + (1 + xhR4)) + xhR8) + (i : Int))) ∧ (pf 4) = [] := hR 4 (by decide)
   have q6 : (vf 6) = .agg #[.int .i64 (((2 * (((1 + (1 + xhR4)) + xhR8) + (i : Int))) - 1) - xhR16), .int .i64 (intOf_o (vf 5))] ∧ (pf 6) = [] := hR 6 (by decide)
   refine hl_less (l' := (curE g a len cap :: rowE 80 2 (.slice (some ⟨g20, 0, none⟩) 1 1) 1 ([((2 * (((1 + (1 + xhR4)) + xhR8) + (i : Int))) - 1) - xhR16, xhR19].map (Value.int .i64)) :: bigE ([] : List HP) :: rowE 83 3 (.slice none 0 0) 0 ([]) :: rowE 80 2 u gs.length (gs.flatMap anC) :: rowE 3 1 (.slice none 0 0) 0 ([]) :: boxE b5 #[.int .i64 (1 + xhR4), .slice none 0 0, u, .slice none 0 0] 28 :: boxE b1 #[.int .i64 0, .slice none 0 0, .slice none 0 0, .slice none 0 0] 28 :: l)) (sx 0 rfl (sx 1 rfl (sx 2 rfl (sx 3 rfl (sx 8 rfl (sx 9 rfl (sx 10 rfl (sx 11 rfl (sx 12 rfl (sx 13 rfl (sx 14 rfl (sx 15 rfl (sx 39 rfl (sx 55 (congrArg some e1.1) (sx 61 (congrArg some v7) (sub_nil _)))))))))))))))) (by first | (simp only [p5, v5, p7, v7, q0.2, q1.2, q2.2, q3.2, q4.2, q6.2, List.flatMap_cons, List.flatMap_nil, List.append_nil, List.nil_append, List.cons_append]; exact List.Sublist.refl _) | simp [p5, v5, p7, v7, q0.2, q1.2, q2.2, q3.2, q4.2, q6.2]) ?_
   simp only [List.drop_succ_cons, List.drop_zero]
   refine hl_append (i := 4) (z := .agg #[.int .i64 0, .int .i64 0]) (bytes := 16) (n' := (gs ++ [(An.mk (((2 * (((1 + (1 + xhR4)) + xhR8) + (i : Int))) - 1) - xhR16) xhR19)]).length) (xs' := ((gs ++ [(An.mk (((2 * (((1 + (1 + xhR4)) + xhR8) + (i : Int))) - 1) - xhR16) xhR19)]).flatMap anC)) (L := fun v21 => (curE g a len cap :: rowE 80 2 (.slice (some ⟨g20, 0, none⟩) 1 1) 1 ([((2 * (((1 + (1 + xhR4)) + xhR8) + (i : Int))) - 1) - xhR16, xhR19].map (Value.int .i64)) :: bigE ([] : List HP) :: rowE 83 3 (.slice none 0 0) 0 ([]) :: rowE 80 2 v21 ((gs ++ [(An.mk (((2 * (((1 + (1 + xhR4)) + xhR8) + (i : Int))) - 1) - xhR16) xhR19)]).length) ((gs ++ [(An.mk (((2 * (((1 + (1 + xhR4)) + xhR8) + (i : Int))) - 1) - xhR16) xhR19)]).flatMap anC) :: rowE 3 1 (.slice none 0 0) 0 ([]) :: boxE b5 #[.int .i64 (1 + xhR4), .slice none 0 0, u, .slice none 0 0] 28 :: boxE b1 #[.int .i64 0, .slice none 0 0, .slice none 0 0, .slice none 0 0] 28 :: l)) rfl rfl rfl rfl Try.underlying25 (by kernel_rfl) (by kernel_rfl) rfl rfl rfl (rd_row 1 rfl) (ints_one _) (by first | omega | (simp only [List.length_append, List.length_cons, List.length_nil]; omega)) (len_app gs [(An.mk (((2 * (((1 + (1 + xhR4)) + xhR8) + (i : Int))) - 1) - xhR16) xhR19)]) (flat_app1 anC gs (An.mk (((2 * (((1 + (1 + xhR4)) + xhR8) + (i : Int))) - 1) - xhR16) xhR19) _ rfl) (fun _ => rfl) ?_
   intro v21
   refine hl_v rfl rfl rfl (rv_field (k0 := 2) rfl (by kernel_rfl) rfl) ?_
   refine hl_one (i := 4) rfl (fun ho22 => ?_)
   refine hl_storeBox (i := 6) (l' := (curE g a len cap :: rowE 80 2 (.slice (some ⟨g20, 0, none⟩) 1 1) 1 ([((2 * (((1 + (1 + xhR4)) + xhR8) + (i : Int))) - 1) - xhR16, xhR19].map (Value.int .i64)) :: bigE ([] : List HP) :: rowE 83 3 (.slice none 0 0) 0 ([]) :: rowE 80 2 v21 ((gs ++ [(An.mk (((2 * (((1 + (1 + xhR4)) + xhR8) + (i : Int))) - 1) - xhR16) xhR19)]).length) ((gs ++ [(An.mk (((2 * (((1 + (1 + xhR4)) + xhR8) + (i : Int))) - 1) - xhR16) xhR19)]).flatMap anC) :: rowE 3 1 (.slice none 0 0) 0 ([]) :: boxE b5 #[.int .i64 (1 + xhR4), .slice none 0 0, v21, .slice none 0 0] 28 :: boxE b1 #[.int .i64 0, .slice none 0 0, .slice none 0 0, .slice none 0 0] 28 :: l)) rfl rfl rfl (by kernel_rfl) rfl rfl ho22 rfl rfl rfl ?_
   refine hl_less (sx 0 rfl (sx 1 rfl (sx 2 rfl (sx 3 rfl (sx 8 rfl (sx 9 rfl (sx 10 rfl (sx 11 rfl (sx 12 rfl (sx 13 rfl (sx 14 rfl (sx 15 rfl (sx 39 rfl (sub_nil _)))))))))))))) (.refl _) ?_
   refine hl_nil ?_
   refine hq_block_normal ?_
   refine hq_then ?_
   refine hc_region ?_
   refine hl_v rfl rfl rfl (rv_ev rfl) ?_
   refine hl_v rfl rfl rfl (rv_add rfl rfl rfl (by constructor <;> omega)) ?_
   refine hl_v rfl rfl rfl (rv_ev rfl) ?_
   refine hl_less (sx 0 rfl (sx 1 rfl (sx 2 rfl (sx 3 rfl (sx 8 rfl (sx 9 rfl (sx 10 rfl (sx 11 rfl (sx 12 rfl (sx 13 rfl (sx 14 rfl (sx 15 rfl (sx 39 rfl (sub_nil _)))))))))))))) (.refl _) ?_
   refine hl_nil ?_
   refine hq_conv (bigE ([] : List HP) :: rowE 83 3 (.slice none 0 0) 0 ([]) :: rowE 80 2 v21 ((gs ++ [(An.mk (((2 * (((1 + (1 + xhR4)) + xhR8) + (i : Int))) - 1) - xhR16) xhR19)]).length) ((gs ++ [(An.mk (((2 * (((1 + (1 + xhR4)) + xhR8) + (i : Int))) - 1) - xhR16) xhR19)]).flatMap anC) :: rowE 3 1 (.slice none 0 0) 0 ([]) :: boxE b5 #[.int .i64 (1 + xhR4), .slice none 0 0, v21, .slice none 0 0] 28 :: boxE b1 #[.int .i64 0, .slice none 0 0, .slice none 0 0, .slice none 0 0] 28 :: curE g a len cap :: l) (conv_pick (src := [curE g a len cap, rowE 80 2 (.slice (some ⟨g20, 0, none⟩) 1 1) 1 ([((2 * (((1 + (1 + xhR4)) + xhR8) + (i : Int))) - 1) - xhR16, xhR19].map (Value.int .i64)), bigE ([] : List HP), rowE 83 3 (.slice none 0 0) 0 ([]), rowE 80 2 v21 ((gs ++ [(An.mk (((2 * (((1 + (1 + xhR4)) + xhR8) + (i : Int))) - 1) - xhR16) xhR19)]).length) ((gs ++ [(An.mk (((2 * (((1 + (1 + xhR4)) + xhR8) + (i : Int))) - 1) - xhR16) xhR19)]).flatMap anC), rowE 3 1 (.slice none 0 0) 0 ([]), boxE b5 #[.int .i64 (1 + xhR4), .slice none 0 0, v21, .slice none 0 0] 28, boxE b1 #[.int .i64 0, .slice none 0 0, .slice none 0 0, .slice none 0 0] 28]) (dst := [bigE ([] : List HP), rowE 83 3 (.slice none 0 0) 0 ([]), rowE 80 2 v21 ((gs ++ [(An.mk (((2 * (((1 + (1 + xhR4)) + xhR8) + (i : Int))) - 1) - xhR16) xhR19)]).length) ((gs ++ [(An.mk (((2 * (((1 + (1 + xhR4)) + xhR8) + (i : Int))) - 1) - xhR16) xhR19)]).flatMap anC), rowE 3 1 (.slice none 0 0) 0 ([]), boxE b5 #[.int .i64 (1 + xhR4), .slice none 0 0, v21, .slice none 0 0] 28, boxE b1 #[.int .i64 0, .slice none 0 0, .slice none 0 0, .slice none 0 0] 28, curE g a len cap]) (l := l) [2, 3, 4, 5, 6, 7, 0] (by decide) rfl) ?_
   exact hq_round3 (i + 1) v21 (gs ++ [(An.mk (((2 * (((1 + (1 + xhR4)) + xhR8) + (i : Int))) - 1) - xhR16) xhR19)]) ⟨by omega, by simp; omega, ans_app hgo (by unfold LtOk; omega) (by unfold LtOk; omega)⟩ (by omega) (sx 0 rfl (sx 1 rfl (sx 2 rfl (sx 3 rfl (sx 8 rfl (sx 9 rfl (sx 10 rfl (sx 11 rfl (sx 12 rfl (sx 13 rfl (sub_nil _))))))))))) ((.cons_cons _ (.cons_cons _ (.cons_cons _ (.cons_cons _ (.cons_cons _ (.cons_cons _ (.cons_cons _ (.refl _)))))))))
 ·
  refine hl_less (sx 0 rfl (sx 1 rfl (sx 2 rfl (sx 3 rfl (sx 8 rfl (sx 9 rfl (sx 10 rfl (sx 11 rfl (sx 12 rfl (sx 13 rfl (sx 39 rfl (sub_nil _)))))))))))) (.refl _) ?_
  refine hl_nil ?_
  refine hq_then ?_
  refine hc_false rfl ?_
  refine hc_exit ?_
  refine hq_then_exit ?_
  refine hq_then_exit ?_
  refine hq_block_exit ?_
  refine hq_then ?_
  refine hc_seq ?_
  refine hc_region ?_
  refine hl_v rfl rfl rfl (rv_ev rfl) ?_
  refine hl_v rfl rfl rfl (rv_ev rfl) ?_
  refine hl_v rfl rfl rfl (rv_add rfl rfl rfl (by constructor <;> omega)) ?_
  refine hl_v rfl rfl rfl (rv_mul rfl rfl rfl (by constructor <;> omega)) ?_
  refine hl_v rfl rfl rfl (rv_ev rfl) ?_
  refine hl_less (sx 0 rfl (sx 1 rfl (sx 2 rfl (sx 3 rfl (sx 8 rfl (sx 9 rfl (sx 10 rfl (sx 11 rfl (sx 12 rfl (sx 13 rfl (sx 16 rfl (sx 39 rfl (sub_nil _))))))))))))) (.refl _) ?_
  refine hl_nil ?_
  refine hq_then ?_
  refine hc_seq ?_
  refine hc_seq ?_
  refine hc_region ?_
  refine hl_v rfl rfl rfl (rv_ev rfl) ?_
  refine hl_less (sx 0 rfl (sx 1 rfl (sx 2 rfl (sx 3 rfl (sx 8 rfl (sx 9 rfl (sx 10 rfl (sx 11 rfl (sx 12 rfl (sx 13 rfl (sx 16 rfl (sx 17 rfl (sx 39 rfl (sub_nil _)))))))))))))) (.refl _) ?_
  refine hl_nil ?_
  refine hq_then ?_
  refine hc_block ?_
  refine hc_loop3 (α := Nat) (β := Value) (γ := List Sq) (fun i uq ss => (bigE (ss.map sqPart) :: rowE 83 3 uq ss.length (ss.flatMap sqC) :: rowE 80 2 u gs.length (gs.flatMap anC) :: rowE 3 1 (.slice none 0 0) 0 ([]) :: boxE b5 #[.int .i64 (1 + xhR4), uq, u, .slice none 0 0] 28 :: boxE b1 #[.int .i64 0, .slice none 0 0, .slice none 0 0, .slice none 0 0] 28 :: curE g a len cap :: l)) (fun i uq ss => [(0, .pointer (some ⟨g, 0, none⟩)), (1, .int .i64 q1), (2, .int .i64 q2), (3, .int .i64 q3), (8, .pointer (some ⟨b1, 0, none⟩)), (9, .pointer (some ⟨b5, 0, none⟩)), (10, .int .i64 xhR8), (11, .int .i64 xhR11), (12, .int .i64 ((1 + (1 + xhR4)) + xhR8)), (16, .int .i64 (2 * (((1 + (1 + xhR4)) + xhR8) + xhR11))), (17, .int .i64 (i : Int)), (39, .bool false)]) (fun i uq ss => (i : Int) ≤ xhR8 ∧ ss.length = i ∧ SqsOk (((1 + (1 + xhR4)) + xhR8) + xhR11) ss) (fun i uq ss => (xhR8).toNat - i) 0 _ [] ⟨by omega, rfl, fun k hk => absurd hk (by simp)⟩ (sx 0 rfl (sx 1 rfl (sx 2 rfl (sx 3 rfl (sx 8 rfl (sx 9 rfl (sx 10 rfl (sx 11 rfl (sx 12 rfl (sx 16 rfl (sx 17 rfl (sx 39 rfl (sub_nil _))))))))))))) ((.cons_cons _ (.cons_cons _ (.cons_cons _ (.cons_cons _ (.cons_cons _ (.cons_cons _ (.cons_cons _ (.refl _))))))))) ?_
  intro i uq ss hi23
  obtain ⟨hi2, hsl, hso⟩ := hi23
  refine hc_seq ?_
  refine hc_seq ?_
  refine hc_region ?_
  refine hl_v rfl rfl rfl (rv_ev rfl) ?_
  refine hl_v rfl rfl rfl (rv_ev rfl) ?_
  refine hl_lss rfl rfl rfl rfl rfl rfl (fun h24 => ?_) (fun h24 => ?_)
  ·
   refine hl_less (sx 0 rfl (sx 1 rfl (sx 2 rfl (sx 3 rfl (sx 8 rfl (sx 9 rfl (sx 10 rfl (sx 11 rfl (sx 12 rfl (sx 16 rfl (sx 17 rfl (sx 39 rfl (sx 70 rfl (sub_nil _)))))))))))))) (.refl _) ?_
   refine hl_nil ?_
   refine hq_then ?_
   refine hc_true rfl ?_
   refine hc_skip ?_
   refine hq_then ?_
   refine hc_seq ?_
   refine hc_block ?_
   refine hc_seq ?_
   refine hc_region ?_
   refine hl_v rfl rfl rfl (rv_ev rfl) ?_
   refine hl_callM (R := (fun u_ p_ => (∃ b : Bool, u_ = .bool b) ∧ p_ = curE g a len cap)) 6 rfl rfl (by kernel_rfl) rfl rfl (fun l' w hm => once_mut hm hb (6) (by omega) (by omega)) ?_
   intro v25 p26 hR27
   obtain ⟨⟨xhR27, rfl⟩, rfl⟩ := hR27
   refine hl_eqL (l' := (bigE (ss.map sqPart) :: rowE 83 3 uq ss.length (ss.flatMap sqC) :: rowE 80 2 u gs.length (gs.flatMap anC) :: rowE 3 1 (.slice none 0 0) 0 ([]) :: boxE b5 #[.int .i64 (1 + xhR4), uq, u, .slice none 0 0] 28 :: boxE b1 #[.int .i64 0, .slice none 0 0, .slice none 0 0, .slice none 0 0] 28 :: curE g a len cap :: l)) rfl ?_
   refine hl_bool (fun h28 => ?_) (fun h28 => ?_)
   ·
    refine hl_less (sx 0 rfl (sx 1 rfl (sx 2 rfl (sx 3 rfl (sx 8 rfl (sx 9 rfl (sx 10 rfl (sx 11 rfl (sx 12 rfl (sx 16 rfl (sx 17 rfl (sx 39 rfl (sx 70 rfl (sx 74 rfl (sub_nil _))))))))))))))) (.refl _) ?_
    refine hl_nil ?_
    refine hq_then ?_
    refine hc_true rfl ?_
    refine hc_conv (curE g a len cap :: bigE (ss.map sqPart) :: rowE 83 3 uq ss.length (ss.flatMap sqC) :: rowE 80 2 u gs.length (gs.flatMap anC) :: rowE 3 1 (.slice none 0 0) 0 ([]) :: boxE b5 #[.int .i64 (1 + xhR4), uq, u, .slice none 0 0] 28 :: boxE b1 #[.int .i64 0, .slice none 0 0, .slice none 0 0, .slice none 0 0] 28 :: l) (conv_pick (src := [bigE (ss.map sqPart), rowE 83 3 uq ss.length (ss.flatMap sqC), rowE 80 2 u gs.length (gs.flatMap anC), rowE 3 1 (.slice none 0 0) 0 ([]), boxE b5 #[.int .i64 (1 + xhR4), uq, u, .slice none 0 0] 28, boxE b1 #[.int .i64 0, .slice none 0 0, .slice none 0 0, .slice none 0 0] 28, curE g a len cap]) (dst := [curE g a len cap, bigE (ss.map sqPart), rowE 83 3 uq ss.length (ss.flatMap sqC), rowE 80 2 u gs.length (gs.flatMap anC), rowE 3 1 (.slice none 0 0) 0 ([]), boxE b5 #[.int .i64 (1 + xhR4), uq, u, .slice none 0 0] 28, boxE b1 #[.int .i64 0, .slice none 0 0, .slice none 0 0, .slice none 0 0] 28]) (l := l) [6, 0, 1, 2, 3, 4, 5] (by decide) rfl) ?_
    refine hc_draw2 (l := (bigE (ss.map sqPart) :: rowE 83 3 uq ss.length (ss.flatMap sqC) :: rowE 80 2 u gs.length (gs.flatMap anC) :: rowE 3 1 (.slice none 0 0) 0 ([]) :: boxE b5 #[.int .i64 (1 + xhR4), uq, u, .slice none 0 0] 28 :: boxE b1 #[.int .i64 0, .slice none 0 0, .slice none 0 0, .slice none 0 0] 28 :: l)) (by kernel_rfl) 19 [0, 1, 2, 3, 4, 5, 6, 7, 8, 9, 10, 11, 12, 13, 14, 15, 16, 17, 18] (List.take 19 _) (List.drop 19 _) [[], [0], [], [2], [], [], [3, 4, 5], [], [], [6, 7, 8], [], [], [9, 10, 11], [], [], [12, 13, 14], [6, 9, 12, 15], [3, 6, 9, 12, 15, 16], [3, 6, 9, 12, 15, 16, 17]] [75, 76, 77, 78, 79, 80, 81, 82, 83, 84, 85, 86, 87, 88, 89, 90, 91, 92, 93] (fun i_ vs_ v_ p_ => match i_ with | 0 => v_ = .pointer (some ⟨b5, 0 + 1, none⟩) ∧ p_ = [] | 1 => v_ = uq ∧ p_ = [] | 2 => v_ = .pointer (some ⟨g, 0, none⟩) ∧ p_ = [] | 3 => (∃ pm_, p_ = [pm_] ∧ (fun u_ p_ => (∃ x_ : Int, u_ = .int .i64 x_ ∧ 0 ≤ x_ ∧ x_ < 32) ∧ p_ = curE g a len cap) v_ pm_) | 4 => v_ = .pointer (some ⟨g, 0, none⟩) ∧ p_ = [] | 5 => v_ = .int .i64 (2 * (((1 + (1 + xhR4)) + xhR8) + xhR11)) ∧ p_ = [] | 6 => (∃ pm_, p_ = [pm_] ∧ (fun u_ p_ => (∃ x_ : Int, u_ = .int .i64 x_ ∧ 0 ≤ x_ ∧ x_ < 2 * (((1 + (1 + xhR4)) + xhR8) + xhR11)) ∧ p_ = curE g a len cap) v_ pm_) | 7 => v_ = .pointer (some ⟨g, 0, none⟩) ∧ p_ = [] | 8 => v_ = .int .i64 (2 * (((1 + (1 + xhR4)) + xhR8) + xhR11)) ∧ p_ = [] | 9 => (∃ pm_, p_ = [pm_] ∧ (fun u_ p_ => (∃ x_ : Int, u_ = .int .i64 x_ ∧ 0 ≤ x_ ∧ x_ < 2 * (((1 + (1 + xhR4)) + xhR8) + xhR11)) ∧ p_ = curE g a len cap) v_ pm_) | 10 => v_ = .pointer (some ⟨g, 0, none⟩) ∧ p_ = [] | 11 => v_ = .int .i64 (2 * (((1 + (1 + xhR4)) + xhR8) + xhR11)) ∧ p_ = [] | 12 => (∃ pm_, p_ = [pm_] ∧ (fun u_ p_ => (∃ x_ : Int, u_ = .int .i64 x_ ∧ 0 ≤ x_ ∧ x_ < 2 * (((1 + (1 + xhR4)) + xhR8) + xhR11)) ∧ p_ = curE g a len cap) v_ pm_) | 13 => v_ = .pointer (some ⟨g, 0, none⟩) ∧ p_ = [] | 14 => v_ = .int .i64 (2 * (((1 + (1 + xhR4)) + xhR8) + xhR11)) ∧ p_ = [] | 15 => (∃ pm_, p_ = [pm_] ∧ (fun u_ p_ => (∃ x_ : Int, u_ = .int .i64 x_ ∧ 0 ≤ x_ ∧ x_ < 2 * (((1 + (1 + xhR4)) + xhR8) + xhR11)) ∧ p_ = curE g a len cap) v_ pm_) | 16 => IsRow_o 3 1 4 ([(intOf_o (List.getD vs_ 0 undef)), (intOf_o (List.getD vs_ 1 undef)), (intOf_o (List.getD vs_ 2 undef)), (intOf_o (List.getD vs_ 3 undef))].map (Value.int .i64)) v_ p_ | 17 => v_ = .agg #[.int .i64 1, .int .i64 (intOf_o (List.getD vs_ 0 undef)), (List.getD vs_ 5 undef)] ∧ p_ = [] | 18 => IsRow_o 83 3 1 ([.int .i64 1, .int .i64 (intOf_o (List.getD vs_ 0 undef)), (List.getD vs_ 5 undef)]) v_ p_ | _ => True) [[], [0], [], [2], [], [], [4, 5], [], [], [7, 8], [], [], [10, 11], [], [], [13, 14], [15], [15, 16], [15, 16, 17]] [none, none, none, some 22, none, none, some 3, none, none, some 6, none, none, some 9, none, none, some 12, none, none, none] [curE g a len cap] [0, 1, 2, 4, 5, 7, 8, 10, 11, 13, 14, 15, 16, 17, 18] 22 (List.take_append_drop 19 _).symm (by kernel_rfl) (by kernel_rfl) (by kernel_rfl) rfl rfl ?_ ?_
    ·
     refine ⟨?_, ?_, ?_, ?_, ?_, ?_, ?_, ?_, ?_, ?_, ?_, ?_, ?_, ?_, ?_, ?_, ?_, ?_, ?_, trivial⟩
     ·
      intro vf pf hmu hR
      refine Or.inl ⟨rfl, ?_⟩
      show RunQ _ _ _ (([] : List Nat).flatMap pf ++ _) (envOf _ vf [] ++ _) _ _
      refine rq_less (sx 9 rfl (sub_nil _)) (List.sublist_append_right _ _) ?_
      exact rq_v (rv_field (k0 := 1) rfl (by kernel_rfl) rfl)
     ·
      intro vf pf hmu hR
      have e0 : (vf 0) = .pointer (some ⟨b5, 0 + 1, none⟩) ∧ (pf 0) = [] := hR 0 (by decide)
      refine Or.inl ⟨rfl, ?_⟩
      show RunQ _ _ _ (([0] : List Nat).flatMap pf ++ _) (envOf _ vf [0] ++ _) _ _
      refine rq_less (sx 75 (congrArg some e0.1) (sub_nil _)) (List.sublist_append_right _ _) ?_
      exact rq_v (rv_load rfl (by kernel_rfl) rfl (box_cell 4 rfl rfl))
     ·
      intro vf pf hmu hR
      refine Or.inl ⟨rfl, ?_⟩
      show RunQ _ _ _ (([] : List Nat).flatMap pf ++ _) (envOf _ vf [] ++ _) _ _
      refine rq_less (sx 0 rfl (sub_nil _)) (List.sublist_append_right _ _) ?_
      exact rq_v (rv_ev rfl)
     ·
      intro vf pf hmu hR
      have e2 : (vf 2) = .pointer (some ⟨g, 0, none⟩) ∧ (pf 2) = [] := hR 2 (by decide)
      refine Or.inl ⟨rfl, ?_⟩
      show RunM _ _ _ (pf 22) (([2] : List Nat).flatMap pf ++ _) (envOf _ vf [2] ++ _) _ _
      rw [hmu]
      refine rm_less (X' := (bigE (ss.map sqPart) :: rowE 83 3 uq ss.length (ss.flatMap sqC) :: rowE 80 2 u gs.length (gs.flatMap anC) :: rowE 3 1 (.slice none 0 0) 0 ([]) :: boxE b5 #[.int .i64 (1 + xhR4), uq, u, .slice none 0 0] 28 :: boxE b1 #[.int .i64 0, .slice none 0 0, .slice none 0 0, .slice none 0 0] 28 :: l)) (sx 77 (congrArg some e2.1) (sub_nil _)) (by first | (simp only [e2.2, List.flatMap_cons, List.flatMap_nil, List.append_nil, List.nil_append, List.cons_append]; exact List.Sublist.refl _) | simp [e2.2]) ?_
      exact rq_callM (R := (fun u_ p_ => (∃ x_ : Int, u_ = .int .i64 x_ ∧ 0 ≤ x_ ∧ x_ < 32) ∧ p_ = curE g a len cap)) (by kernel_rfl) rfl (fun L w hX hm => belowN_mut g a len cap z 32 _ _ _ hm hb (by constructor <;> omega))
     ·
      intro vf pf hmu hR
      refine Or.inl ⟨rfl, ?_⟩
      show RunQ _ _ _ (([] : List Nat).flatMap pf ++ _) (envOf _ vf [] ++ _) _ _
      refine rq_less (sx 0 rfl (sub_nil _)) (List.sublist_append_right _ _) ?_
      exact rq_v (rv_ev rfl)
     ·
      intro vf pf hmu hR
      refine Or.inl ⟨rfl, ?_⟩
      show RunQ _ _ _ (([] : List Nat).flatMap pf ++ _) (envOf _ vf [] ++ _) _ _
      refine rq_less (sx 16 rfl (sub_nil _)) (List.sublist_append_right _ _) ?_
      exact rq_v (rv_ev rfl)
     ·
      intro vf pf hmu hR
      have e3 : (∃ pm_, (pf 3) = [pm_] ∧ (fun u_ p_ => (∃ x_ : Int, u_ = .int .i64 x_ ∧ 0 ≤ x_ ∧ x_ < 32) ∧ p_ = curE g a len cap) (vf 3) pm_) := hR 3 (by decide)
      obtain ⟨p30, p3, hR31⟩ := e3
      obtain ⟨v29, v3⟩ : ∃ x, vf 3 = x := ⟨_, rfl⟩
      rw [v3] at hR31
      obtain ⟨⟨xhR31, rfl, xhR310, xhR311⟩, rfl⟩ := hR31
      have e4 : (vf 4) = .pointer (some ⟨g, 0, none⟩) ∧ (pf 4) = [] := hR 4 (by decide)
      have e5 : (vf 5) = .int .i64 (2 * (((1 + (1 + xhR4)) + xhR8) + xhR11)) ∧ (pf 5) = [] := hR 5 (by decide)
      refine Or.inl ⟨rfl, ?_⟩
      show RunM _ _ _ (pf 3) (([4, 5] : List Nat).flatMap pf ++ _) (envOf _ vf [3, 4, 5] ++ _) _ _
      rw [p3]
      refine rm_less (X' := (bigE (ss.map sqPart) :: rowE 83 3 uq ss.length (ss.flatMap sqC) :: rowE 80 2 u gs.length (gs.flatMap anC) :: rowE 3 1 (.slice none 0 0) 0 ([]) :: boxE b5 #[.int .i64 (1 + xhR4), uq, u, .slice none 0 0] 28 :: boxE b1 #[.int .i64 0, .slice none 0 0, .slice none 0 0, .slice none 0 0] 28 :: l)) (sx 79 (congrArg some e4.1) (sx 80 (congrArg some e5.1) (sub_nil _))) (by first | (simp only [e4.2, e5.2, List.flatMap_cons, List.flatMap_nil, List.append_nil, List.nil_append, List.cons_append]; exact List.Sublist.refl _) | simp [e4.2, e5.2]) ?_
      exact rq_callM (R := (fun u_ p_ => (∃ x_ : Int, u_ = .int .i64 x_ ∧ 0 ≤ x_ ∧ x_ < 2 * (((1 + (1 + xhR4)) + xhR8) + xhR11)) ∧ p_ = curE g a len cap)) (by kernel_rfl) rfl (fun L w hX hm => belowN_mut g a len cap z (2 * (((1 + (1 + xhR4)) + xhR8) + xhR11)) _ _ _ hm hb (by constructor <;> omega))
     ·
      intro vf pf hmu hR
      refine Or.inl ⟨rfl, ?_⟩
      show RunQ _ _ _ (([] : List Nat).flatMap pf ++ _) (envOf _ vf [] ++ _) _ _
      refine rq_less (sx 0 rfl (sub_nil _)) (List.sublist_append_right _ _) ?_
      exact rq_v (rv_ev rfl)
     ·
      intro vf pf hmu hR
      refine Or.inl ⟨rfl, ?_⟩
      show RunQ _ _ _ (([] : List Nat).flatMap pf ++ _) (envOf _ vf [] ++ _) _ _
      refine rq_less (sx 16 rfl (sub_nil _)) (List.sublist_append_right _ _) ?_
      exact rq_v (rv_ev rfl)
     ·
      intro vf pf hmu hR
      have e6 : (∃ pm_, (pf 6) = [pm_] ∧ (fun u_ p_ => (∃ x_ : Int, u_ = .int .i64 x_ ∧ 0 ≤ x_ ∧ x_ < 2 * (((1 + (1 + xhR4)) + xhR8) + xhR11)) ∧ p_ = curE g a len cap) (vf 6) pm_) := hR 6 (by decide)
      obtain ⟨p33, p6, hR34⟩ := e6
      obtain ⟨v32, v6⟩ : ∃ x, vf 6 = x := ⟨_, rfl⟩
      rw [v6] at hR34
      obtain ⟨⟨xhR34, rfl, xhR340, xhR341⟩, rfl⟩ := hR34
      have e7 : (vf 7) = .pointer (some ⟨g, 0, none⟩) ∧ (pf 7) = [] := hR 7 (by decide)
      have e8 : (vf 8) = .int .i64 (2 * (((1 + (1 + xhR4)) + xhR8) + xhR11)) ∧ (pf 8) = [] := hR 8 (by decide)
      refine Or.inl ⟨rfl, ?_⟩
      show RunM _ _ _ (pf 6) (([7, 8] : List Nat).flatMap pf ++ _) (envOf _ vf [6, 7, 8] ++ _) _ _
      rw [p6]
      refine rm_less (X' := (bigE (ss.map sqPart) :: rowE 83 3 uq ss.length (ss.flatMap sqC) :: rowE 80 2 u gs.length (gs.flatMap anC) :: rowE 3 1 (.slice none 0 0) 0 ([]) :: boxE b5 #[.int .i64 (1 + xhR4), uq, u, .slice none 0 0] 28 :: boxE b1 #[.int .i64 0, .slice none 0 0, .slice none 0 0, .slice none 0 0] 28 :: l)) (sx 82 (congrArg some e7.1) (sx 83 (congrArg some e8.1) (sub_nil _))) (by first | (simp only [e7.2, e8.2, List.flatMap_cons, List.flatMap_nil, List.append_nil, List.nil_append, List.cons_append]; exact List.Sublist.refl _) | simp [e7.2, e8.2]) ?_
      exact rq_callM (R := (fun u_ p_ => (∃ x_ : Int, u_ = .int .i64 x_ ∧ 0 ≤ x_ ∧ x_ < 2 * (((1 + (1 + xhR4)) + xhR8) + xhR11)) ∧ p_ = curE g a len cap)) (by kernel_rfl) rfl (fun L w hX hm => belowN_mut g a len cap z (2 * (((1 + (1 + xhR4)) + xhR8) + xhR11)) _ _ _ hm hb (by constructor <;> omega))
     ·
      intro vf pf hmu hR
      refine Or.inl ⟨rfl, ?_⟩
      show RunQ _ _ _ (([] : List Nat).flatMap pf ++ _) (envOf _ vf [] ++ _) _ _
      refine rq_less (sx 0 rfl (sub_nil _)) (List.sublist_append_right _ _) ?_
      exact rq_v (rv_ev rfl)
     ·
      intro vf pf hmu hR
      refine Or.inl ⟨rfl, ?_⟩
      show RunQ _ _ _ (([] : List Nat).flatMap pf ++ _) (envOf _ vf [] ++ _) _ _
      refine rq_less (sx 16 rfl (sub_nil _)) (List.sublist_append_right _ _) ?_
      exact rq_v (rv_ev rfl)
     ·
      intro vf pf hmu hR
      have e9 : (∃ pm_, (pf 9) = [pm_] ∧ (fun u_ p_ => (∃ x_ : Int, u_ = .int .i64 x_ ∧ 0 ≤ x_ ∧ x_ < 2 * (((1 + (1 + xhR4)) + xhR8) + xhR11)) ∧ p_ = curE g a len cap) (vf 9) pm_) := hR 9 (by decide)
      obtain ⟨p36, p9, hR37⟩ := e9
      obtain ⟨v35, v9⟩ : ∃ x, vf 9 = x := ⟨_, rfl⟩
      rw [v9] at hR37
      obtain ⟨⟨xhR37, rfl, xhR370, xhR371⟩, rfl⟩ := hR37
      have e10 : (vf 10) = .pointer (some ⟨g, 0, none⟩) ∧ (pf 10) = [] := hR 10 (by decide)
      have e11 : (vf 11) = .int .i64 (2 * (((1 + (1 + xhR4)) + xhR8) + xhR11)) ∧ (pf 11) = [] := hR 11 (by decide)
      refine Or.inl ⟨rfl, ?_⟩
      show RunM _ _ _ (pf 9) (([10, 11] : List Nat).flatMap pf ++ _) (envOf _ vf [9, 10, 11] ++ _) _ _
      rw [p9]
      refine rm_less (X' := (bigE (ss.map sqPart) :: rowE 83 3 uq ss.length (ss.flatMap sqC) :: rowE 80 2 u gs.length (gs.flatMap anC) :: rowE 3 1 (.slice none 0 0) 0 ([]) :: boxE b5 #[.int .i64 (1 + xhR4), uq, u, .slice none 0 0] 28 :: boxE b1 #[.int .i64 0, .slice none 0 0, .slice none 0 0, .slice none 0 0] 28 :: l)) (sx 85 (congrArg some e10.1) (sx 86 (congrArg some e11.1) (sub_nil _))) (by first | (simp only [e10.2, e11.2, List.flatMap_cons, List.flatMap_nil, List.append_nil, List.nil_append, List.cons_append]; exact List.Sublist.refl _) | simp [e10.2, e11.2]) ?_
      exact rq_callM (R := (fun u_ p_ => (∃ x_ : Int, u_ = .int .i64 x_ ∧ 0 ≤ x_ ∧ x_ < 2 * (((1 + (1 + xhR4)) + xhR8) + xhR11)) ∧ p_ = curE g a len cap)) (by kernel_rfl) rfl (fun L w hX hm => belowN_mut g a len cap z (2 * (((1 + (1 + xhR4)) + xhR8) + xhR11)) _ _ _ hm hb (by constructor <;> omega))
     ·
      intro vf pf hmu hR
      refine Or.inl ⟨rfl, ?_⟩
      show RunQ _ _ _ (([] : List Nat).flatMap pf ++ _) (envOf _ vf [] ++ _) _ _
      refine rq_less (sx 0 rfl (sub_nil _)) (List.sublist_append_right _ _) ?_
      exact rq_v (rv_ev rfl)
     ·
      intro vf pf hmu hR
      refine Or.inl ⟨rfl, ?_⟩
      show RunQ _ _ _ (([] : List Nat).flatMap pf ++ _) (envOf _ vf [] ++ _) _ _
      refine rq_less (sx 16 rfl (sub_nil _)) (List.sublist_append_right _ _) ?_
      exact rq_v (rv_ev rfl)
     ·
      intro vf pf hmu hR
      have e12 : (∃ pm_, (pf 12) = [pm_] ∧ (fun u_ p_ => (∃ x_ : Int, u_ = .int .i64 x_ ∧ 0 ≤ x_ ∧ x_ < 2 * (((1 + (1 + xhR4)) + xhR8) + xhR11)) ∧ p_ = curE g a len cap) (vf 12) pm_) := hR 12 (by decide)
      obtain ⟨p39, p12, hR40⟩ := e12
      obtain ⟨v38, v12⟩ : ∃ x, vf 12 = x := ⟨_, rfl⟩
      rw [v12] at hR40
      obtain ⟨⟨xhR40, rfl, xhR400, xhR401⟩, rfl⟩ := hR40
      have e13 : (vf 13) = .pointer (some ⟨g, 0, none⟩) ∧ (pf 13) = [] := hR 13 (by decide)
      have e14 : (vf 14) = .int .i64 (2 * (((1 + (1 + xhR4)) + xhR8) + xhR11)) ∧ (pf 14) = [] := hR 14 (by decide)
      refine Or.inl ⟨rfl, ?_⟩
      show RunM _ _ _ (pf 12) (([13, 14] : List Nat).flatMap pf ++ _) (envOf _ vf [12, 13, 14] ++ _) _ _
      rw [p12]
      refine rm_less (X' := (bigE (ss.map sqPart) :: rowE 83 3 uq ss.length (ss.flatMap sqC) :: rowE 80 2 u gs.length (gs.flatMap anC) :: rowE 3 1 (.slice none 0 0) 0 ([]) :: boxE b5 #[.int .i64 (1 + xhR4), uq, u, .slice none 0 0] 28 :: boxE b1 #[.int .i64 0, .slice none 0 0, .slice none 0 0, .slice none 0 0] 28 :: l)) (sx 88 (congrArg some e13.1) (sx 89 (congrArg some e14.1) (sub_nil _))) (by first | (simp only [e13.2, e14.2, List.flatMap_cons, List.flatMap_nil, List.append_nil, List.nil_append, List.cons_append]; exact List.Sublist.refl _) | simp [e13.2, e14.2]) ?_
      exact rq_callM (R := (fun u_ p_ => (∃ x_ : Int, u_ = .int .i64 x_ ∧ 0 ≤ x_ ∧ x_ < 2 * (((1 + (1 + xhR4)) + xhR8) + xhR11)) ∧ p_ = curE g a len cap)) (by kernel_rfl) rfl (fun L w hX hm => belowN_mut g a len cap z (2 * (((1 + (1 + xhR4)) + xhR8) + xhR11)) _ _ _ hm hb (by constructor <;> omega))
     ·
      intro vf pf hmu hR
      have e6 : (∃ pm_, (pf 6) = [pm_] ∧ (fun u_ p_ => (∃ x_ : Int, u_ = .int .i64 x_ ∧ 0 ≤ x_ ∧ x_ < 2 * (((1 + (1 + xhR4)) + xhR8) + xhR11)) ∧ p_ = curE g a len cap) (vf 6) pm_) := hR 6 (by decide)
      obtain ⟨p33, p6, hR34⟩ := e6
      obtain ⟨v32, v6⟩ : ∃ x, vf 6 = x := ⟨_, rfl⟩
      rw [v6] at hR34
      obtain ⟨⟨xhR34, rfl, xhR340, xhR341⟩, rfl⟩ := hR34
      have e9 : (∃ pm_, (pf 9) = [pm_] ∧ (fun u_ p_ => (∃ x_ : Int, u_ = .int .i64 x_ ∧ 0 ≤ x_ ∧ x_ < 2 * (((1 + (1 + xhR4)) + xhR8) + xhR11)) ∧ p_ = curE g a len cap) (vf 9) pm_) := hR 9 (by decide)
      obtain ⟨p36, p9, hR37⟩ := e9
      obtain ⟨v35, v9⟩ : ∃ x, vf 9 = x := ⟨_, rfl⟩
      rw [v9] at hR37
      obtain ⟨⟨xhR37, rfl, xhR370, xhR371⟩, rfl⟩ := hR37
      have e12 : (∃ pm_, (pf 12) = [pm_] ∧ (fun u_ p_ => (∃ x_ : Int, u_ = .int .i64 x_ ∧ 0 ≤ x_ ∧ x_ < 2 * (((1 + (1 + xhR4)) + xhR8) + xhR11)) ∧ p_ = curE g a len cap) (vf 12) pm_) := hR 12 (by decide)
      obtain ⟨p39, p12, hR40⟩ := e12
      obtain ⟨v38, v12⟩ : ∃ x, vf 12 = x := ⟨_, rfl⟩
      rw [v12] at hR40
      obtain ⟨⟨xhR40, rfl, xhR400, xhR401⟩, rfl⟩ := hR40
      have e15 : (∃ pm_, (pf 15) = [pm_] ∧ (fun u_ p_ => (∃ x_ : Int, u_ = .int .i64 x_ ∧ 0 ≤ x_ ∧ x_ < 2 * (((1 + (1 + xhR4)) + xhR8) + xhR11)) ∧ p_ = curE g a len cap) (vf 15) pm_) := hR 15 (by decide)
      obtain ⟨p42, p15, hR43⟩ := e15
      obtain ⟨v41, v15⟩ : ∃ x, vf 15 = x := ⟨_, rfl⟩
      rw [v15] at hR43
      obtain ⟨⟨xhR43, rfl, xhR430, xhR431⟩, rfl⟩ := hR43
      refine Or.inl ⟨rfl, ?_⟩
      show RunQ _ _ _ (([15] : List Nat).flatMap pf ++ _) (envOf _ vf [6, 9, 12, 15] ++ _) _ _
      refine rq_less (l' := (curE g a len cap :: bigE (ss.map sqPart) :: rowE 83 3 uq ss.length (ss.flatMap sqC) :: rowE 80 2 u gs.length (gs.flatMap anC) :: rowE 3 1 (.slice none 0 0) 0 ([]) :: boxE b5 #[.int .i64 (1 + xhR4), uq, u, .slice none 0 0] 28 :: boxE b1 #[.int .i64 0, .slice none 0 0, .slice none 0 0, .slice none 0 0] 28 :: l)) (sx 81 (congrArg some v6) (sx 84 (congrArg some v9) (sx 87 (congrArg some v12) (sx 90 (congrArg some v15) (sub_nil _))))) (by first | (simp only [p15, v15, List.flatMap_cons, List.flatMap_nil, List.append_nil, List.nil_append, List.cons_append]; exact List.Sublist.refl _) | simp [p15, v15]) ?_
      exact rq_mono (rq_buildSlice (z := .int .i64 0) (s := 1) (cs := ([xhR34, xhR37, xhR40, xhR43].map (Value.int .i64))) rfl Try.underlying26 (by kernel_rfl) (by decide) rfl (by kernel_rfl) rfl) (fun v_ p_ h => by show IsRow_o 3 1 4 ([(intOf_o (vf 6)), (intOf_o (vf 9)), (intOf_o (vf 12)), (intOf_o (vf 15))].map (Value.int .i64)) v_ p_; rw [v6, v9, v12, v15]; exact h)
     ·
      intro vf pf hmu hR
      have e3 : (∃ pm_, (pf 3) = [pm_] ∧ (fun u_ p_ => (∃ x_ : Int, u_ = .int .i64 x_ ∧ 0 ≤ x_ ∧ x_ < 32) ∧ p_ = curE g a len cap) (vf 3) pm_) := hR 3 (by decide)
      obtain ⟨p30, p3, hR31⟩ := e3
      obtain ⟨v29, v3⟩ : ∃ x, vf 3 = x := ⟨_, rfl⟩
      rw [v3] at hR31
      obtain ⟨⟨xhR31, rfl, xhR310, xhR311⟩, rfl⟩ := hR31
      have e6 : (∃ pm_, (pf 6) = [pm_] ∧ (fun u_ p_ => (∃ x_ : Int, u_ = .int .i64 x_ ∧ 0 ≤ x_ ∧ x_ < 2 * (((1 + (1 + xhR4)) + xhR8) + xhR11)) ∧ p_ = curE g a len cap) (vf 6) pm_) := hR 6 (by decide)
      obtain ⟨p33, p6, hR34⟩ := e6
      obtain ⟨v32, v6⟩ : ∃ x, vf 6 = x := ⟨_, rfl⟩
      rw [v6] at hR34
      obtain ⟨⟨xhR34, rfl, xhR340, xhR341⟩, rfl⟩ := hR34
      have e9 : (∃ pm_, (pf 9) = [pm_] ∧ (fun u_ p_ => (∃ x_ : Int, u_ = .int .i64 x_ ∧ 0 ≤ x_ ∧ x_ < 2 * (((1 + (1 + xhR4)) + xhR8) + xhR11)) ∧ p_ = curE g a len cap) (vf 9) pm_) := hR 9 (by decide)
      obtain ⟨p36, p9, hR37⟩ := e9
      obtain ⟨v35, v9⟩ : ∃ x, vf 9 = x := ⟨_, rfl⟩
      rw [v9] at hR37
      obtain ⟨⟨xhR37, rfl, xhR370, xhR371⟩, rfl⟩ := hR37
      have e12 : (∃ pm_, (pf 12) = [pm_] ∧ (fun u_ p_ => (∃ x_ : Int, u_ = .int .i64 x_ ∧ 0 ≤ x_ ∧ x_ < 2 * (((1 + (1 + xhR4)) + xhR8) + xhR11)) ∧ p_ = curE g a len cap) (vf 12) pm_) := hR 12 (by decide)
      obtain ⟨p39, p12, hR40⟩ := e12
      obtain ⟨v38, v12⟩ : ∃ x, vf 12 = x := ⟨_, rfl⟩
      rw [v12] at hR40
      obtain ⟨⟨xhR40, rfl, xhR400, xhR401⟩, rfl⟩ := hR40
      have e15 : (∃ pm_, (pf 15) = [pm_] ∧ (fun u_ p_ => (∃ x_ : Int, u_ = .int .i64 x_ ∧ 0 ≤ x_ ∧ x_ < 2 * (((1 + (1 + xhR4)) + xhR8) + xhR11)) ∧ p_ = curE g a len cap) (vf 15) pm_) := hR 15 (by decide)
      obtain ⟨p42, p15, hR43⟩ := e15
      obtain ⟨v41, v15⟩ : ∃ x, vf 15 = x := ⟨_, rfl⟩
      rw [v15] at hR43
      obtain ⟨⟨xhR43, rfl, xhR430, xhR431⟩, rfl⟩ := hR43
      have e16 : IsRow_o 3 1 4 ([(intOf_o (vf 6)), (intOf_o (vf 9)), (intOf_o (vf 12)), (intOf_o (vf 15))].map (Value.int .i64)) (vf 16) (pf 16) := hR 16 (by decide)
      rw [v6, v9, v12, v15] at e16
      obtain ⟨g44, v16, p16⟩ := e16
      refine Or.inl ⟨rfl, ?_⟩
      show RunQ _ _ _ (([15, 16] : List Nat).flatMap pf ++ _) (envOf _ vf [3, 6, 9, 12, 15, 16] ++ _) _ _
      refine rq_less (l' := (curE g a len cap :: rowE 3 1 (.slice (some ⟨g44, 0, none⟩) 4 4) 4 ([xhR34, xhR37, xhR40, xhR43].map (Value.int .i64)) :: bigE (ss.map sqPart) :: rowE 83 3 uq ss.length (ss.flatMap sqC) :: rowE 80 2 u gs.length (gs.flatMap anC) :: rowE 3 1 (.slice none 0 0) 0 ([]) :: boxE b5 #[.int .i64 (1 + xhR4), uq, u, .slice none 0 0] 28 :: boxE b1 #[.int .i64 0, .slice none 0 0, .slice none 0 0, .slice none 0 0] 28 :: l)) (sx 78 (congrArg some v3) (sx 91 (congrArg some v16) (sub_nil _))) (by first | (simp only [p15, v15, p16, v16, List.flatMap_cons, List.flatMap_nil, List.append_nil, List.nil_append, List.cons_append]; exact List.Sublist.refl _) | simp [p15, v15, p16, v16]) ?_
      exact rq_mono (rq_v (rv_build (cs := #[.int .i64 1, .int .i64 xhR31, .slice (some ⟨g44, 0, none⟩) 4 4]) rfl rfl (by kernel_rfl))) (fun _ _ h => ⟨h.1.trans (by show _ = (.agg #[.int .i64 1, .int .i64 (intOf_o (vf 3)), (vf 16)] : Value); first | (rw [v3, v16]; done) | (rw [v3, v16]; rfl)), h.2⟩)
     ·
      intro vf pf hmu hR
      have e3 : (∃ pm_, (pf 3) = [pm_] ∧ (fun u_ p_ => (∃ x_ : Int, u_ = .int .i64 x_ ∧ 0 ≤ x_ ∧ x_ < 32) ∧ p_ = curE g a len cap) (vf 3) pm_) := hR 3 (by decide)
      obtain ⟨p30, p3, hR31⟩ := e3
      obtain ⟨v29, v3⟩ : ∃ x, vf 3 = x := ⟨_, rfl⟩
      rw [v3] at hR31
      obtain ⟨⟨xhR31, rfl, xhR310, xhR311⟩, rfl⟩ := hR31
      have e6 : (∃ pm_, (pf 6) = [pm_] ∧ (fun u_ p_ => (∃ x_ : Int, u_ = .int .i64 x_ ∧ 0 ≤ x_ ∧ x_ < 2 * (((1 + (1 + xhR4)) + xhR8) + xhR11)) ∧ p_ = curE g a len cap) (vf 6) pm_) := hR 6 (by decide)
      obtain ⟨p33, p6, hR34⟩ := e6
      obtain ⟨v32, v6⟩ : ∃ x, vf 6 = x := ⟨_, rfl⟩
      rw [v6] at hR34
      obtain ⟨⟨xhR34, rfl, xhR340, xhR341⟩, rfl⟩ := hR34
      have e9 : (∃ pm_, (pf 9) = [pm_] ∧ (fun u_ p_ => (∃ x_ : Int, u_ = .int .i64 x_ ∧ 0 ≤ x_ ∧ x_ < 2 * (((1 + (1 + xhR4)) + xhR8) + xhR11)) ∧ p_ = curE g a len cap) (vf 9) pm_) := hR 9 (by decide)
      obtain ⟨p36, p9, hR37⟩ := e9
      obtain ⟨v35, v9⟩ : ∃ x, vf 9 = x := ⟨_, rfl⟩
      rw [v9] at hR37
      obtain ⟨⟨xhR37, rfl, xhR370, xhR371⟩, rfl⟩ := hR37
      have e12 : (∃ pm_, (pf 12) = [pm_] ∧ (fun u_ p_ => (∃ x_ : Int, u_ = .int .i64 x_ ∧ 0 ≤ x_ ∧ x_ < 2 * (((1 + (1 + xhR4)) + xhR8) + xhR11)) ∧ p_ = curE g a len cap) (vf 12) pm_) := hR 12 (by decide)
      obtain ⟨p39, p12, hR40⟩ := e12
      obtain ⟨v38, v12⟩ : ∃ x, vf 12 = x := ⟨_, rfl⟩
      rw [v12] at hR40
      obtain ⟨⟨xhR40, rfl, xhR400, xhR401⟩, rfl⟩ := hR40
      have e15 : (∃ pm_, (pf 15) = [pm_] ∧ (fun u_ p_ => (∃ x_ : Int, u_ = .int .i64 x_ ∧ 0 ≤ x_ ∧ x_ < 2 * (((1 + (1 + xhR4)) + xhR8) + xhR11)) ∧ p_ = curE g a len cap) (vf 15) pm_) := hR 15 (by decide)
      obtain ⟨p42, p15, hR43⟩ := e15
      obtain ⟨v41, v15⟩ : ∃ x, vf 15 = x := ⟨_, rfl⟩
      rw [v15] at hR43
      obtain ⟨⟨xhR43, rfl, xhR430, xhR431⟩, rfl⟩ := hR43
      have e16 : IsRow_o 3 1 4 ([(intOf_o (vf 6)), (intOf_o (vf 9)), (intOf_o (vf 12)), (intOf_o (vf 15))].map (Value.int .i64)) (vf 16) (pf 16) := hR 16 (by decide)
      rw [v6, v9, v12, v15] at e16
      obtain ⟨g44, v16, p16⟩ := e16
      have e17 : (vf 17) = .agg #[.int .i64 1, .int .i64 (intOf_o (vf 3)), (vf 16)] ∧ (pf 17) = [] := hR 17 (by decide)
      rw [v3, v16] at e17
      refine Or.inl ⟨rfl, ?_⟩
      show RunQ _ _ _ (([15, 16, 17] : List Nat).flatMap pf ++ _) (envOf _ vf [3, 6, 9, 12, 15, 16, 17] ++ _) _ _
      refine rq_less (l' := (curE g a len cap :: rowE 3 1 (.slice (some ⟨g44, 0, none⟩) 4 4) 4 ([xhR34, xhR37, xhR40, xhR43].map (Value.int .i64)) :: bigE (ss.map sqPart) :: rowE 83 3 uq ss.length (ss.flatMap sqC) :: rowE 80 2 u gs.length (gs.flatMap anC) :: rowE 3 1 (.slice none 0 0) 0 ([]) :: boxE b5 #[.int .i64 (1 + xhR4), uq, u, .slice none 0 0] 28 :: boxE b1 #[.int .i64 0, .slice none 0 0, .slice none 0 0, .slice none 0 0] 28 :: l)) (sx 92 (congrArg some e17.1) (sub_nil _)) (by first | (simp only [p15, v15, p16, v16, e17.2, List.flatMap_cons, List.flatMap_nil, List.append_nil, List.nil_append, List.cons_append]; exact List.Sublist.refl _) | simp [p15, v15, p16, v16, e17.2]) ?_
      exact rq_mono (rq_buildSlice (z := .agg #[.int .i64 0, .int .i64 0, .slice none 0 0]) (s := 3) (cs := [.int .i64 1, .int .i64 xhR31, .slice (some ⟨g44, 0, none⟩) 4 4]) rfl Try.underlying24 (by kernel_rfl) (by decide) rfl (by kernel_rfl) rfl) (fun v_ p_ h => by show IsRow_o 83 3 1 ([.int .i64 1, .int .i64 (intOf_o (vf 3)), (vf 16)]) v_ p_; rw [v3, v16]; exact h)
    ·
     intro vf pf hmu hR
     have e1 : (vf 1) = uq ∧ (pf 1) = [] := hR 1 (by decide)
     have e3 : (∃ pm_, (pf 3) = [pm_] ∧ (fun u_ p_ => (∃ x_ : Int, u_ = .int .i64 x_ ∧ 0 ≤ x_ ∧ x_ < 32) ∧ p_ = curE g a len cap) (vf 3) pm_) := hR 3 (by decide)
     obtain ⟨p30, p3, hR31⟩ := e3
     obtain ⟨v29, v3⟩ : ∃ x, vf 3 = x := ⟨_, rfl⟩
     rw [v3] at hR31
     obtain ⟨⟨xhR31, rfl, xhR310, xhR311⟩, rfl⟩ := hR31
     have e6 : (∃ pm_, (pf 6) = [pm_] ∧ (fun u_ p_ => (∃ x_ : Int, u_ = .int .i64 x_ ∧ 0 ≤ x_ ∧ x_ < 2 * (((1 + (1 + xhR4)) + xhR8) + xhR11)) ∧ p_ = curE g a len cap) (vf 6) pm_) := hR 6 (by decide)
     obtain ⟨p33, p6, hR34⟩ := e6
     obtain ⟨v32, v6⟩ : ∃ x, vf 6 = x := ⟨_, rfl⟩
     rw [v6] at hR34
     obtain ⟨⟨xhR34, rfl, xhR340, xhR341⟩, rfl⟩ := hR34
     have e9 : (∃ pm_, (pf 9) = [pm_] ∧ (fun u_ p_ => (∃ x_ : Int, u_ = .int .i64 x_ ∧ 0 ≤ x_ ∧ x_ < 2 * (((1 + (1 + xhR4)) + xhR8) + xhR11)) ∧ p_ = curE g a len cap) (vf 9) pm_) := hR 9 (by decide)
     obtain ⟨p36, p9, hR37⟩ := e9
     obtain ⟨v35, v9⟩ : ∃ x, vf 9 = x := ⟨_, rfl⟩
     rw [v9] at hR37
     obtain ⟨⟨xhR37, rfl, xhR370, xhR371⟩, rfl⟩ := hR37
     have e12 : (∃ pm_, (pf 12) = [pm_] ∧ (fun u_ p_ => (∃ x_ : Int, u_ = .int .i64 x_ ∧ 0 ≤ x_ ∧ x_ < 2 * (((1 + (1 + xhR4)) + xhR8) + xhR11)) ∧ p_ = curE g a len cap) (vf 12) pm_) := hR 12 (by decide)
     obtain ⟨p39, p12, hR40⟩ := e12
     obtain ⟨v38, v12⟩ : ∃ x, vf 12 = x := ⟨_, rfl⟩
     rw [v12] at hR40
     obtain ⟨⟨xhR40, rfl, xhR400, xhR401⟩, rfl⟩ := hR40
     have e15 : (∃ pm_, (pf 15) = [pm_] ∧ (fun u_ p_ => (∃ x_ : Int, u_ = .int .i64 x_ ∧ 0 ≤ x_ ∧ x_ < 2 * (((1 + (1 + xhR4)) + xhR8) + xhR11)) ∧ p_ = curE g a len cap) (vf 15) pm_) := hR 15 (by decide)
     obtain ⟨p42, p15, hR43⟩ := e15
     obtain ⟨v41, v15⟩ : ∃ x, vf 15 = x := ⟨_, rfl⟩
     rw [v15] at hR43
     obtain ⟨⟨xhR43, rfl, xhR430, xhR431⟩, rfl⟩ := hR43
     have e16 : IsRow_o 3 1 4 ([(intOf_o (vf 6)), (intOf_o (vf 9)), (intOf_o (vf 12)), (intOf_o (vf 15))].map (Value.int .i64)) (vf 16) (pf 16) := hR 16 (by decide)
     rw [v6, v9, v12, v15] at e16
     obtain ⟨g44, v16, p16⟩ := e16
     have e18 : IsRow_o 83 3 1 ([.int .i64 1, .int .i64 (intOf_o (vf 3)), (vf 16)]) (vf 18) (pf 18) := hR 18 (by decide)
     rw [v3, v16] at e18
     obtain ⟨g45, v18, p18⟩ := e18
     have q0 : (vf 0) = .pointer (some ⟨b5, 0 + 1, none⟩) ∧ (pf 0) = [] := hR 0 (by decide)
     have q1 : (vf 1) = uq ∧ (pf 1) = [] := hR 1 (by decide)
     have q2 : (vf 2) = .pointer (some ⟨g, 0, none⟩) ∧ (pf 2) = [] := hR 2 (by decide)
     have q4 : (vf 4) = .pointer (some ⟨g, 0, none⟩) ∧ (pf 4) = [] := hR 4 (by decide)
     have q5 : (vf 5) = .int .i64 (2 * (((1 + (1 + xhR4)) + xhR8) + xhR11)) ∧ (pf 5) = [] := hR 5 (by decide)
     have q7 : (vf 7) = .pointer (some ⟨g, 0, none⟩) ∧ (pf 7) = [] := hR 7 (by decide)
     have q8 : (vf 8) = .int .i64 (2 * (((1 + (1 + xhR4)) + xhR8) + xhR11)) ∧ (pf 8) = [] := hR 8 (by decide)
     have q10 : (vf 10) = .pointer (some ⟨g, 0, none⟩) ∧ (pf 10) = [] := hR 10 (by decide)
     have q11 : (vf 11) = .int .i64 (2 * (((1 + (1 + xhR4)) + xhR8) + xhR11)) ∧ (pf 11) = [] := hR 11 (by decide)
     have q13 : (vf 13) = .pointer (some ⟨g, 0, none⟩) ∧ (pf 13) = [] := hR 13 (by decide)
     have q14 : (vf 14) = .int .i64 (2 * (((1 + (1 + xhR4)) + xhR8) + xhR11)) ∧ (pf 14) = [] := hR 14 (by decide)
     have q17 : (vf 17) = .agg #[.int .i64 1, .int .i64 (intOf_o (vf 3)), (vf 16)] ∧ (pf 17) = [] := hR 17 (by decide)
     refine hl_less (l' := (curE g a len cap :: rowE 3 1 (.slice (some ⟨g44, 0, none⟩) 4 4) 4 ([xhR34, xhR37, xhR40, xhR43].map (Value.int .i64)) :: rowE 83 3 (.slice (some ⟨g45, 0, none⟩) 1 1) 1 ([.int .i64 1, .int .i64 xhR31, .slice (some ⟨g44, 0, none⟩) 4 4]) :: bigE (ss.map sqPart) :: rowE 83 3 uq ss.length (ss.flatMap sqC) :: rowE 80 2 u gs.length (gs.flatMap anC) :: rowE 3 1 (.slice none 0 0) 0 ([]) :: boxE b5 #[.int .i64 (1 + xhR4), uq, u, .slice none 0 0] 28 :: boxE b1 #[.int .i64 0, .slice none 0 0, .slice none 0 0, .slice none 0 0] 28 :: l)) (sx 0 rfl (sx 1 rfl (sx 2 rfl (sx 3 rfl (sx 8 rfl (sx 9 rfl (sx 10 rfl (sx 11 rfl (sx 12 rfl (sx 16 rfl (sx 17 rfl (sx 39 rfl (sx 70 rfl (sx 74 rfl (sx 76 (congrArg some e1.1) (sx 93 (congrArg some v18) (sub_nil _))))))))))))))))) (by first | (simp only [p15, v15, p16, v16, p18, v18, q0.2, q1.2, q2.2, q4.2, q5.2, q7.2, q8.2, q10.2, q11.2, q13.2, q14.2, q17.2, List.flatMap_cons, List.flatMap_nil, List.append_nil, List.nil_append, List.cons_append]; exact List.Sublist.refl _) | simp [p15, v15, p16, v16, p18, v18, q0.2, q1.2, q2.2, q4.2, q5.2, q7.2, q8.2, q10.2, q11.2, q13.2, q14.2, q17.2]) ?_
     simp only [List.drop_succ_cons, List.drop_zero]
     refine hl_append (i := 4) (z := .agg #[.int .i64 0, .int .i64 0, .slice none 0 0]) (bytes := 40) (n' := (ss ++ [(Sq.mk 1 xhR31 (.slice (some ⟨g44, 0, none⟩) 4 4) ([xhR34, xhR37, xhR40, xhR43]))]).length) (xs' := ((ss ++ [(Sq.mk 1 xhR31 (.slice (some ⟨g44, 0, none⟩) 4 4) ([xhR34, xhR37, xhR40, xhR43]))]).flatMap sqC)) (L := fun v46 => (curE g a len cap :: rowE 3 1 (.slice (some ⟨g44, 0, none⟩) 4 4) 4 ([xhR34, xhR37, xhR40, xhR43].map (Value.int .i64)) :: rowE 83 3 (.slice (some ⟨g45, 0, none⟩) 1 1) 1 ([.int .i64 1, .int .i64 xhR31, .slice (some ⟨g44, 0, none⟩) 4 4]) :: bigE (ss.map sqPart) :: rowE 83 3 v46 ((ss ++ [(Sq.mk 1 xhR31 (.slice (some ⟨g44, 0, none⟩) 4 4) ([xhR34, xhR37, xhR40, xhR43]))]).length) ((ss ++ [(Sq.mk 1 xhR31 (.slice (some ⟨g44, 0, none⟩) 4 4) ([xhR34, xhR37, xhR40, xhR43]))]).flatMap sqC) :: rowE 80 2 u gs.length (gs.flatMap anC) :: rowE 3 1 (.slice none 0 0) 0 ([]) :: boxE b5 #[.int .i64 (1 + xhR4), uq, u, .slice none 0 0] 28 :: boxE b1 #[.int .i64 0, .slice none 0 0, .slice none 0 0, .slice none 0 0] 28 :: l)) rfl rfl rfl rfl Try.underlying24 (by kernel_rfl) (by kernel_rfl) rfl rfl rfl (rd_row 2 rfl) (by simp [Value.oneCell']) (by first | omega | (simp only [List.length_append, List.length_cons, List.length_nil]; omega)) (len_app ss [(Sq.mk 1 xhR31 (.slice (some ⟨g44, 0, none⟩) 4 4) ([xhR34, xhR37, xhR40, xhR43]))]) (flat_app1 sqC ss (Sq.mk 1 xhR31 (.slice (some ⟨g44, 0, none⟩) 4 4) ([xhR34, xhR37, xhR40, xhR43])) _ rfl) (fun _ => rfl) ?_
     intro v46
     refine hl_v rfl rfl rfl (rv_field (k0 := 1) rfl (by kernel_rfl) rfl) ?_
     refine hl_one (i := 4) rfl (fun ho47 => ?_)
     refine hl_storeBox (i := 7) (l' := (curE g a len cap :: rowE 3 1 (.slice (some ⟨g44, 0, none⟩) 4 4) 4 ([xhR34, xhR37, xhR40, xhR43].map (Value.int .i64)) :: rowE 83 3 (.slice (some ⟨g45, 0, none⟩) 1 1) 1 ([.int .i64 1, .int .i64 xhR31, .slice (some ⟨g44, 0, none⟩) 4 4]) :: bigE (ss.map sqPart) :: rowE 83 3 v46 ((ss ++ [(Sq.mk 1 xhR31 (.slice (some ⟨g44, 0, none⟩) 4 4) ([xhR34, xhR37, xhR40, xhR43]))]).length) ((ss ++ [(Sq.mk 1 xhR31 (.slice (some ⟨g44, 0, none⟩) 4 4) ([xhR34, xhR37, xhR40, xhR43]))]).flatMap sqC) :: rowE 80 2 u gs.length (gs.flatMap anC) :: rowE 3 1 (.slice none 0 0) 0 ([]) :: boxE b5 #[.int .i64 (1 + xhR4), v46, u, .slice none 0 0] 28 :: boxE b1 #[.int .i64 0, .slice none 0 0, .slice none 0 0, .slice none 0 0] 28 :: l)) rfl rfl rfl (by kernel_rfl) rfl rfl ho47 rfl rfl rfl ?_
     refine hl_less (sx 0 rfl (sx 1 rfl (sx 2 rfl (sx 3 rfl (sx 8 rfl (sx 9 rfl (sx 10 rfl (sx 11 rfl (sx 12 rfl (sx 16 rfl (sx 17 rfl (sx 39 rfl (sx 70 rfl (sx 74 rfl (sub_nil _))))))))))))))) (.refl _) ?_
     refine hl_nil ?_
     refine hq_block_normal ?_
     refine hq_then ?_
     refine hc_region ?_
     refine hl_v rfl rfl rfl (rv_ev rfl) ?_
     refine hl_v rfl rfl rfl (rv_add rfl rfl rfl (by constructor <;> omega)) ?_
     refine hl_v rfl rfl rfl (rv_ev rfl) ?_
     refine hl_less (sx 0 rfl (sx 1 rfl (sx 2 rfl (sx 3 rfl (sx 8 rfl (sx 9 rfl (sx 10 rfl (sx 11 rfl (sx 12 rfl (sx 16 rfl (sx 17 rfl (sx 39 rfl (sx 70 rfl (sx 74 rfl (sub_nil _))))))))))))))) (.refl _) ?_
     refine hl_nil ?_
     refine hq_conv (bigE (ss.map sqPart) :: rowE 3 1 (.slice (some ⟨g44, 0, none⟩) 4 4) 4 ([xhR34, xhR37, xhR40, xhR43].map (Value.int .i64)) :: curE g a len cap :: rowE 83 3 (.slice (some ⟨g45, 0, none⟩) 1 1) 1 ([.int .i64 1, .int .i64 xhR31, .slice (some ⟨g44, 0, none⟩) 4 4]) :: rowE 83 3 v46 ((ss ++ [(Sq.mk 1 xhR31 (.slice (some ⟨g44, 0, none⟩) 4 4) ([xhR34, xhR37, xhR40, xhR43]))]).length) ((ss ++ [(Sq.mk 1 xhR31 (.slice (some ⟨g44, 0, none⟩) 4 4) ([xhR34, xhR37, xhR40, xhR43]))]).flatMap sqC) :: rowE 80 2 u gs.length (gs.flatMap anC) :: rowE 3 1 (.slice none 0 0) 0 ([]) :: boxE b5 #[.int .i64 (1 + xhR4), v46, u, .slice none 0 0] 28 :: boxE b1 #[.int .i64 0, .slice none 0 0, .slice none 0 0, .slice none 0 0] 28 :: l) (conv_pick (src := [curE g a len cap, rowE 3 1 (.slice (some ⟨g44, 0, none⟩) 4 4) 4 ([xhR34, xhR37, xhR40, xhR43].map (Value.int .i64)), rowE 83 3 (.slice (some ⟨g45, 0, none⟩) 1 1) 1 ([.int .i64 1, .int .i64 xhR31, .slice (some ⟨g44, 0, none⟩) 4 4]), bigE (ss.map sqPart), rowE 83 3 v46 ((ss ++ [(Sq.mk 1 xhR31 (.slice (some ⟨g44, 0, none⟩) 4 4) ([xhR34, xhR37, xhR40, xhR43]))]).length) ((ss ++ [(Sq.mk 1 xhR31 (.slice (some ⟨g44, 0, none⟩) 4 4) ([xhR34, xhR37, xhR40, xhR43]))]).flatMap sqC), rowE 80 2 u gs.length (gs.flatMap anC), rowE 3 1 (.slice none 0 0) 0 ([]), boxE b5 #[.int .i64 (1 + xhR4), v46, u, .slice none 0 0] 28, boxE b1 #[.int .i64 0, .slice none 0 0, .slice none 0 0, .slice none 0 0] 28]) (dst := [bigE (ss.map sqPart), rowE 3 1 (.slice (some ⟨g44, 0, none⟩) 4 4) 4 ([xhR34, xhR37, xhR40, xhR43].map (Value.int .i64)), curE g a len cap, rowE 83 3 (.slice (some ⟨g45, 0, none⟩) 1 1) 1 ([.int .i64 1, .int .i64 xhR31, .slice (some ⟨g44, 0, none⟩) 4 4]), rowE 83 3 v46 ((ss ++ [(Sq.mk 1 xhR31 (.slice (some ⟨g44, 0, none⟩) 4 4) ([xhR34, xhR37, xhR40, xhR43]))]).length) ((ss ++ [(Sq.mk 1 xhR31 (.slice (some ⟨g44, 0, none⟩) 4 4) ([xhR34, xhR37, xhR40, xhR43]))]).flatMap sqC), rowE 80 2 u gs.length (gs.flatMap anC), rowE 3 1 (.slice none 0 0) 0 ([]), boxE b5 #[.int .i64 (1 + xhR4), v46, u, .slice none 0 0] 28, boxE b1 #[.int .i64 0, .slice none 0 0, .slice none 0 0, .slice none 0 0] 28]) (l := l) [3, 1, 0, 2, 4, 5, 6, 7, 8] (by decide) rfl) ?_
     refine hq_conv (bigE ((ss ++ [(Sq.mk 1 xhR31 (.slice (some ⟨g44, 0, none⟩) 4 4) ([xhR34, xhR37, xhR40, xhR43]))]).map sqPart) :: curE g a len cap :: rowE 83 3 (.slice (some ⟨g45, 0, none⟩) 1 1) 1 ([.int .i64 1, .int .i64 xhR31, .slice (some ⟨g44, 0, none⟩) 4 4]) :: rowE 83 3 v46 ((ss ++ [(Sq.mk 1 xhR31 (.slice (some ⟨g44, 0, none⟩) 4 4) ([xhR34, xhR37, xhR40, xhR43]))]).length) ((ss ++ [(Sq.mk 1 xhR31 (.slice (some ⟨g44, 0, none⟩) 4 4) ([xhR34, xhR37, xhR40, xhR43]))]).flatMap sqC) :: rowE 80 2 u gs.length (gs.flatMap anC) :: rowE 3 1 (.slice none 0 0) 0 ([]) :: boxE b5 #[.int .i64 (1 + xhR4), v46, u, .slice none 0 0] 28 :: boxE b1 #[.int .i64 0, .slice none 0 0, .slice none 0 0, .slice none 0 0] 28 :: l) (fun w hm => by rw [List.map_append]; exact conv_snocX w hm) ?_
     refine hq_conv (bigE ((ss ++ [(Sq.mk 1 xhR31 (.slice (some ⟨g44, 0, none⟩) 4 4) ([xhR34, xhR37, xhR40, xhR43]))]).map sqPart) :: rowE 83 3 v46 ((ss ++ [(Sq.mk 1 xhR31 (.slice (some ⟨g44, 0, none⟩) 4 4) ([xhR34, xhR37, xhR40, xhR43]))]).length) ((ss ++ [(Sq.mk 1 xhR31 (.slice (some ⟨g44, 0, none⟩) 4 4) ([xhR34, xhR37, xhR40, xhR43]))]).flatMap sqC) :: rowE 80 2 u gs.length (gs.flatMap anC) :: rowE 3 1 (.slice none 0 0) 0 ([]) :: boxE b5 #[.int .i64 (1 + xhR4), v46, u, .slice none 0 0] 28 :: boxE b1 #[.int .i64 0, .slice none 0 0, .slice none 0 0, .slice none 0 0] 28 :: curE g a len cap :: l) (conv_pick (src := [bigE ((ss ++ [(Sq.mk 1 xhR31 (.slice (some ⟨g44, 0, none⟩) 4 4) ([xhR34, xhR37, xhR40, xhR43]))]).map sqPart), curE g a len cap, rowE 83 3 (.slice (some ⟨g45, 0, none⟩) 1 1) 1 ([.int .i64 1, .int .i64 xhR31, .slice (some ⟨g44, 0, none⟩) 4 4]), rowE 83 3 v46 ((ss ++ [(Sq.mk 1 xhR31 (.slice (some ⟨g44, 0, none⟩) 4 4) ([xhR34, xhR37, xhR40, xhR43]))]).length) ((ss ++ [(Sq.mk 1 xhR31 (.slice (some ⟨g44, 0, none⟩) 4 4) ([xhR34, xhR37, xhR40, xhR43]))]).flatMap sqC), rowE 80 2 u gs.length (gs.flatMap anC), rowE 3 1 (.slice none 0 0) 0 ([]), boxE b5 #[.int .i64 (1 + xhR4), v46, u, .slice none 0 0] 28, boxE b1 #[.int .i64 0, .slice none 0 0, .slice none 0 0, .slice none 0 0] 28]) (dst := [bigE ((ss ++ [(Sq.mk 1 xhR31 (.slice (some ⟨g44, 0, none⟩) 4 4) ([xhR34, xhR37, xhR40, xhR43]))]).map sqPart), rowE 83 3 v46 ((ss ++ [(Sq.mk 1 xhR31 (.slice (some ⟨g44, 0, none⟩) 4 4) ([xhR34, xhR37, xhR40, xhR43]))]).length) ((ss ++ [(Sq.mk 1 xhR31 (.slice (some ⟨g44, 0, none⟩) 4 4) ([xhR34, xhR37, xhR40, xhR43]))]).flatMap sqC), rowE 80 2 u gs.length (gs.flatMap anC), rowE 3 1 (.slice none 0 0) 0 ([]), boxE b5 #[.int .i64 (1 + xhR4), v46, u, .slice none 0 0] 28, boxE b1 #[.int .i64 0, .slice none 0 0, .slice none 0 0, .slice none 0 0] 28, curE g a len cap]) (l := l) [0, 3, 4, 5, 6, 7, 1] (by decide) rfl) ?_
     exact hq_round3 (i + 1) v46 (ss ++ [(Sq.mk 1 xhR31 (.slice (some ⟨g44, 0, none⟩) 4 4) ([xhR34, xhR37, xhR40, xhR43]))]) ⟨by omega, by simp; omega, sqs_app hso ⟨.inr ⟨rfl, by dsimp only; omega, rfl⟩⟩ (fun x hx => by simp only [List.mem_cons, List.not_mem_nil, or_false] at hx; unfold LtOk; omega)⟩ (by omega) (sx 0 rfl (sx 1 rfl (sx 2 rfl (sx 3 rfl (sx 8 rfl (sx 9 rfl (sx 10 rfl (sx 11 rfl (sx 12 rfl (sx 16 rfl (sx 17 rfl (sx 39 rfl (sub_nil _))))))))))))) ((.cons_cons _ (.cons_cons _ (.cons_cons _ (.cons_cons _ (.cons_cons _ (.cons_cons _ (.cons_cons _ (.refl _)))))))))
   ·
    refine hl_less (sx 0 rfl (sx 1 rfl (sx 2 rfl (sx 3 rfl (sx 8 rfl (sx 9 rfl (sx 10 rfl (sx 11 rfl (sx 12 rfl (sx 16 rfl (sx 17 rfl (sx 39 rfl (sx 70 rfl (sx 74 rfl (sub_nil _))))))))))))))) (.refl _) ?_
    refine hl_nil ?_
    refine hq_then ?_
    refine hc_false rfl ?_
    refine hc_conv (curE g a len cap :: bigE (ss.map sqPart) :: rowE 83 3 uq ss.length (ss.flatMap sqC) :: rowE 80 2 u gs.length (gs.flatMap anC) :: rowE 3 1 (.slice none 0 0) 0 ([]) :: boxE b5 #[.int .i64 (1 + xhR4), uq, u, .slice none 0 0] 28 :: boxE b1 #[.int .i64 0, .slice none 0 0, .slice none 0 0, .slice none 0 0] 28 :: l) (conv_pick (src := [bigE (ss.map sqPart), rowE 83 3 uq ss.length (ss.flatMap sqC), rowE 80 2 u gs.length (gs.flatMap anC), rowE 3 1 (.slice none 0 0) 0 ([]), boxE b5 #[.int .i64 (1 + xhR4), uq, u, .slice none 0 0] 28, boxE b1 #[.int .i64 0, .slice none 0 0, .slice none 0 0, .slice none 0 0] 28, curE g a len cap]) (dst := [curE g a len cap, bigE (ss.map sqPart), rowE 83 3 uq ss.length (ss.flatMap sqC), rowE 80 2 u gs.length (gs.flatMap anC), rowE 3 1 (.slice none 0 0) 0 ([]), boxE b5 #[.int .i64 (1 + xhR4), uq, u, .slice none 0 0] 28, boxE b1 #[.int .i64 0, .slice none 0 0, .slice none 0 0, .slice none 0 0] 28]) (l := l) [6, 0, 1, 2, 3, 4, 5] (by decide) rfl) ?_
    refine hc_draw2 (l := (bigE (ss.map sqPart) :: rowE 83 3 uq ss.length (ss.flatMap sqC) :: rowE 80 2 u gs.length (gs.flatMap anC) :: rowE 3 1 (.slice none 0 0) 0 ([]) :: boxE b5 #[.int .i64 (1 + xhR4), uq, u, .slice none 0 0] 28 :: boxE b1 #[.int .i64 0, .slice none 0 0, .slice none 0 0, .slice none 0 0] 28 :: l)) (by kernel_rfl) 14 [0, 1, 2, 3, 4, 5, 6, 7, 8, 9, 10, 11, 12, 13] (List.take 14 _) (List.drop 14 _) [[], [0], [], [2], [], [4], [], [], [7], [3, 6, 8], [5, 9], [9, 10], [3, 9, 11], [3, 9, 11, 12]] [96, 97, 98, 99, 100, 101, 102, 103, 104, 105, 106, 107, 108, 109] (fun i_ vs_ v_ p_ => match i_ with | 0 => v_ = .pointer (some ⟨b5, 0 + 1, none⟩) ∧ p_ = [] | 1 => v_ = uq ∧ p_ = [] | 2 => v_ = .pointer (some ⟨g, 0, none⟩) ∧ p_ = [] | 3 => (∃ pm_, p_ = [pm_] ∧ (fun u_ p_ => (∃ x_ : Int, u_ = .int .i64 x_ ∧ 0 ≤ x_ ∧ x_ < 2) ∧ p_ = curE g a len cap) v_ pm_) | 4 => v_ = .int .i64 (2 * (((1 + (1 + xhR4)) + xhR8) + xhR11)) ∧ p_ = [] | 5 => v_ = .int .i64 ((2 * (((1 + (1 + xhR4)) + xhR8) + xhR11)) - 1) ∧ p_ = [] | 6 => v_ = .pointer (some ⟨g, 0, none⟩) ∧ p_ = [] | 7 => v_ = .int .i64 (2 * (((1 + (1 + xhR4)) + xhR8) + xhR11)) ∧ p_ = [] | 8 => v_ = .int .i64 (min (2 * (((1 + (1 + xhR4)) + xhR8) + xhR11)) 12) ∧ p_ = [] | 9 => (∃ pm_, p_ = [pm_] ∧ (fun u_ p_ => (∃ x_ : Int, u_ = .int .i64 x_ ∧ 0 ≤ x_ ∧ x_ < min (2 * (((1 + (1 + xhR4)) + xhR8) + xhR11)) 12) ∧ p_ = curE g a len cap) v_ pm_) | 10 => v_ = .int .i64 (((2 * (((1 + (1 + xhR4)) + xhR8) + xhR11)) - 1) - (intOf_o (List.getD vs_ 1 undef))) ∧ p_ = [] | 11 => IsRow_o 3 1 1 ([((2 * (((1 + (1 + xhR4)) + xhR8) + xhR11)) - 1) - (intOf_o (List.getD vs_ 0 undef))].map (Value.int .i64)) v_ p_ | 12 => v_ = .agg #[.int .i64 0, .int .i64 (intOf_o (List.getD vs_ 0 undef)), (List.getD vs_ 2 undef)] ∧ p_ = [] | 13 => IsRow_o 83 3 1 ([.int .i64 0, .int .i64 (intOf_o (List.getD vs_ 0 undef)), (List.getD vs_ 2 undef)]) v_ p_ | _ => True) [[], [0], [], [2], [], [4], [], [], [7], [6, 8], [5, 9], [9, 10], [9, 11], [9, 11, 12]] [none, none, none, some 17, none, none, none, none, none, some 3, none, none, none, none] [curE g a len cap] [0, 1, 2, 4, 5, 6, 7, 8, 9, 10, 11, 12, 13] 17 (List.take_append_drop 14 _).symm (by kernel_rfl) (by kernel_rfl) (by kernel_rfl) rfl rfl ?_ ?_
    ·
     refine ⟨?_, ?_, ?_, ?_, ?_, ?_, ?_, ?_, ?_, ?_, ?_, ?_, ?_, ?_, trivial⟩
     ·
      intro vf pf hmu hR
      refine Or.inl ⟨rfl, ?_⟩
      show RunQ _ _ _ (([] : List Nat).flatMap pf ++ _) (envOf _ vf [] ++ _) _ _
      refine rq_less (sx 9 rfl (sub_nil _)) (List.sublist_append_right _ _) ?_
      exact rq_v (rv_field (k0 := 1) rfl (by kernel_rfl) rfl)
     ·
      intro vf pf hmu hR
      have e0 : (vf 0) = .pointer (some ⟨b5, 0 + 1, none⟩) ∧ (pf 0) = [] := hR 0 (by decide)
      refine Or.inl ⟨rfl, ?_⟩
      show RunQ _ _ _ (([0] : List Nat).flatMap pf ++ _) (envOf _ vf [0] ++ _) _ _
      refine rq_less (sx 96 (congrArg some e0.1) (sub_nil _)) (List.sublist_append_right _ _) ?_
      exact rq_v (rv_load rfl (by kernel_rfl) rfl (box_cell 4 rfl rfl))
     ·
      intro vf pf hmu hR
      refine Or.inl ⟨rfl, ?_⟩
      show RunQ _ _ _ (([] : List Nat).flatMap pf ++ _) (envOf _ vf [] ++ _) _ _
      refine rq_less (sx 0 rfl (sub_nil _)) (List.sublist_append_right _ _) ?_
      exact rq_v (rv_ev rfl)
     ·
      intro vf pf hmu hR
      have e2 : (vf 2) = .pointer (some ⟨g, 0, none⟩) ∧ (pf 2) = [] := hR 2 (by decide)
      refine Or.inl ⟨rfl, ?_⟩
      show RunM _ _ _ (pf 17) (([2] : List Nat).flatMap pf ++ _) (envOf _ vf [2] ++ _) _ _
      rw [hmu]
      refine rm_less (X' := (bigE (ss.map sqPart) :: rowE 83 3 uq ss.length (ss.flatMap sqC) :: rowE 80 2 u gs.length (gs.flatMap anC) :: rowE 3 1 (.slice none 0 0) 0 ([]) :: boxE b5 #[.int .i64 (1 + xhR4), uq, u, .slice none 0 0] 28 :: boxE b1 #[.int .i64 0, .slice none 0 0, .slice none 0 0, .slice none 0 0] 28 :: l)) (sx 98 (congrArg some e2.1) (sub_nil _)) (by first | (simp only [e2.2, List.flatMap_cons, List.flatMap_nil, List.append_nil, List.nil_append, List.cons_append]; exact List.Sublist.refl _) | simp [e2.2]) ?_
      exact rq_callM (R := (fun u_ p_ => (∃ x_ : Int, u_ = .int .i64 x_ ∧ 0 ≤ x_ ∧ x_ < 2) ∧ p_ = curE g a len cap)) (by kernel_rfl) rfl (fun L w hX hm => belowN_mut g a len cap z 2 _ _ _ hm hb (by constructor <;> omega))
     ·
      intro vf pf hmu hR
      refine Or.inl ⟨rfl, ?_⟩
      show RunQ _ _ _ (([] : List Nat).flatMap pf ++ _) (envOf _ vf [] ++ _) _ _
      refine rq_less (sx 16 rfl (sub_nil _)) (List.sublist_append_right _ _) ?_
      exact rq_v (rv_ev rfl)
     ·
      intro vf pf hmu hR
      have e4 : (vf 4) = .int .i64 (2 * (((1 + (1 + xhR4)) + xhR8) + xhR11)) ∧ (pf 4) = [] := hR 4 (by decide)
      refine Or.inl ⟨rfl, ?_⟩
      show RunQ _ _ _ (([4] : List Nat).flatMap pf ++ _) (envOf _ vf [4] ++ _) _ _
      refine rq_less (sx 100 (congrArg some e4.1) (sub_nil _)) (List.sublist_append_right _ _) ?_
      exact rq_v (rv_sub rfl rfl rfl (by constructor <;> omega))
     ·
      intro vf pf hmu hR
      refine Or.inl ⟨rfl, ?_⟩
      show RunQ _ _ _ (([] : List Nat).flatMap pf ++ _) (envOf _ vf [] ++ _) _ _
      refine rq_less (sx 0 rfl (sub_nil _)) (List.sublist_append_right _ _) ?_
      exact rq_v (rv_ev rfl)
     ·
      intro vf pf hmu hR
      refine Or.inl ⟨rfl, ?_⟩
      show RunQ _ _ _ (([] : List Nat).flatMap pf ++ _) (envOf _ vf [] ++ _) _ _
      refine rq_less (sx 16 rfl (sub_nil _)) (List.sublist_append_right _ _) ?_
      exact rq_v (rv_ev rfl)
     ·
      intro vf pf hmu hR
      have e7 : (vf 7) = .int .i64 (2 * (((1 + (1 + xhR4)) + xhR8) + xhR11)) ∧ (pf 7) = [] := hR 7 (by decide)
      refine Or.inl ⟨rfl, ?_⟩
      show RunQ _ _ _ (([7] : List Nat).flatMap pf ++ _) (envOf _ vf [7] ++ _) _ _
      refine rq_less (sx 103 (congrArg some e7.1) (sub_nil _)) (List.sublist_append_right _ _) ?_
      exact rq_v (rv_min rfl rfl rfl)
     ·
      intro vf pf hmu hR
      have e3 : (∃ pm_, (pf 3) = [pm_] ∧ (fun u_ p_ => (∃ x_ : Int, u_ = .int .i64 x_ ∧ 0 ≤ x_ ∧ x_ < 2) ∧ p_ = curE g a len cap) (vf 3) pm_) := hR 3 (by decide)
      obtain ⟨p49, p3, hR50⟩ := e3
      obtain ⟨v48, v3⟩ : ∃ x, vf 3 = x := ⟨_, rfl⟩
      rw [v3] at hR50
      obtain ⟨⟨xhR50, rfl, xhR500, xhR501⟩, rfl⟩ := hR50
      have e6 : (vf 6) = .pointer (some ⟨g, 0, none⟩) ∧ (pf 6) = [] := hR 6 (by decide)
      have e8 : (vf 8) = .int .i64 (min (2 * (((1 + (1 + xhR4)) + xhR8) + xhR11)) 12) ∧ (pf 8) = [] := hR 8 (by decide)
      refine Or.inl ⟨rfl, ?_⟩
      show RunM _ _ _ (pf 3) (([6, 8] : List Nat).flatMap pf ++ _) (envOf _ vf [3, 6, 8] ++ _) _ _
      rw [p3]
      refine rm_less (X' := (bigE (ss.map sqPart) :: rowE 83 3 uq ss.length (ss.flatMap sqC) :: rowE 80 2 u gs.length (gs.flatMap anC) :: rowE 3 1 (.slice none 0 0) 0 ([]) :: boxE b5 #[.int .i64 (1 + xhR4), uq, u, .slice none 0 0] 28 :: boxE b1 #[.int .i64 0, .slice none 0 0, .slice none 0 0, .slice none 0 0] 28 :: l)) (sx 102 (congrArg some e6.1) (sx 104 (congrArg some e8.1) (sub_nil _))) (by first | (simp only [e6.2, e8.2, List.flatMap_cons, List.flatMap_nil, List.append_nil, List.nil_append, List.cons_append]; exact List.Sublist.refl _) | simp [e6.2, e8.2]) ?_
      exact rq_callM (R := (fun u_ p_ => (∃ x_ : Int, u_ = .int .i64 x_ ∧ 0 ≤ x_ ∧ x_ < min (2 * (((1 + (1 + xhR4)) + xhR8) + xhR11)) 12) ∧ p_ = curE g a len cap)) (by kernel_rfl) rfl (fun L w hX hm => belowN_mut g a len cap z (min (2 * (((1 + (1 + xhR4)) + xhR8) + xhR11)) 12) _ _ _ hm hb (by constructor <;> omega))
     ·
      intro vf pf hmu hR
      have e5 : (vf 5) = .int .i64 ((2 * (((1 + (1 + xhR4)) + xhR8) + xhR11)) - 1) ∧ (pf 5) = [] := hR 5 (by decide)
      have e9 : (∃ pm_, (pf 9) = [pm_] ∧ (fun u_ p_ => (∃ x_ : Int, u_ = .int .i64 x_ ∧ 0 ≤ x_ ∧ x_ < min (2 * (((1 + (1 + xhR4)) + xhR8) + xhR11)) 12) ∧ p_ = curE g a len cap) (vf 9) pm_) := hR 9 (by decide)
      obtain ⟨p52, p9, hR53⟩ := e9
      obtain ⟨v51, v9⟩ : ∃ x, vf 9 = x := ⟨_, rfl⟩
      rw [v9] at hR53
      obtain ⟨⟨xhR53, rfl, xhR530, xhR531⟩, rfl⟩ := hR53
      refine Or.inl ⟨rfl, ?_⟩
      show RunQ _ _ _ (([5, 9] : List Nat).flatMap pf ++ _) (envOf _ vf [5, 9] ++ _) _ _
      refine rq_less (l' := (curE g a len cap :: bigE (ss.map sqPart) :: rowE 83 3 uq ss.length (ss.flatMap sqC) :: rowE 80 2 u gs.length (gs.flatMap anC) :: rowE 3 1 (.slice none 0 0) 0 ([]) :: boxE b5 #[.int .i64 (1 + xhR4), uq, u, .slice none 0 0] 28 :: boxE b1 #[.int .i64 0, .slice none 0 0, .slice none 0 0, .slice none 0 0] 28 :: l)) (sx 101 (congrArg some e5.1) (sx 105 (congrArg some v9) (sub_nil _))) (by first | (simp only [p9, v9, e5.2, List.flatMap_cons, List.flatMap_nil, List.append_nil, List.nil_append, List.cons_append]; exact List.Sublist.refl _) | simp [p9, v9, e5.2]) ?_
      exact rq_mono (rq_v (rv_sub rfl rfl rfl (by constructor <;> omega))) (fun _ _ h => ⟨h.1.trans (by show _ = (.int .i64 (((2 * (((1 + (1 + xhR4)) + xhR8) + xhR11)) - 1) - (intOf_o (vf 9))) : Value); first | (rw [v9]; done) | (rw [v9]; rfl)), h.2⟩)
     ·
      intro vf pf hmu hR
      have e9 : (∃ pm_, (pf 9) = [pm_] ∧ (fun u_ p_ => (∃ x_ : Int, u_ = .int .i64 x_ ∧ 0 ≤ x_ ∧ x_ < min (2 * (((1 + (1 + xhR4)) + xhR8) + xhR11)) 12) ∧ p_ = curE g a len cap) (vf 9) pm_) := hR 9 (by decide)
      obtain ⟨p52, p9, hR53⟩ := e9
      obtain ⟨v51, v9⟩ : ∃ x, vf 9 = x := ⟨_, rfl⟩
      rw [v9] at hR53
      obtain ⟨⟨xhR53, rfl, xhR530, xhR531⟩, rfl⟩ := hR53
      have e10 : (vf 10) = .int .i64 (((2 * (((1 + (1 + xhR4)) + xhR8) + xhR11)) - 1) - (intOf_o (vf 9))) ∧ (pf 10) = [] := hR 10 (by decide)
      rw [v9] at e10
      refine Or.inl ⟨rfl, ?_⟩
      show RunQ _ _ _ (([9, 10] : List Nat).flatMap pf ++ _) (envOf _ vf [9, 10] ++ _) _ _
      refine rq_less (l' := (curE g a len cap :: bigE (ss.map sqPart) :: rowE 83 3 uq ss.length (ss.flatMap sqC) :: rowE 80 2 u gs.length (gs.flatMap anC) :: rowE 3 1 (.slice none 0 0) 0 ([]) :: boxE b5 #[.int .i64 (1 + xhR4), uq, u, .slice none 0 0] 28 :: boxE b1 #[.int .i64 0, .slice none 0 0, .slice none 0 0, .slice none 0 0] 28 :: l)) (sx 106 (congrArg some e10.1) (sub_nil _)) (by first | (simp only [p9, v9, e10.2, List.flatMap_cons, List.flatMap_nil, List.append_nil, List.nil_append, List.cons_append]; exact List.Sublist.refl _) | simp [p9, v9, e10.2]) ?_
      exact rq_mono (rq_buildSlice (z := .int .i64 0) (s := 1) (cs := ([((2 * (((1 + (1 + xhR4)) + xhR8) + xhR11)) - 1) - xhR53].map (Value.int .i64))) rfl Try.underlying26 (by kernel_rfl) (by decide) rfl (by kernel_rfl) rfl) (fun v_ p_ h => by show IsRow_o 3 1 1 ([((2 * (((1 + (1 + xhR4)) + xhR8) + xhR11)) - 1) - (intOf_o (vf 9))].map (Value.int .i64)) v_ p_; rw [v9]; exact h)
     ·
      intro vf pf hmu hR
      have e3 : (∃ pm_, (pf 3) = [pm_] ∧ (fun u_ p_ => (∃ x_ : Int, u_ = .int .i64 x_ ∧ 0 ≤ x_ ∧ x_ < 2) ∧ p_ = curE g a len cap) (vf 3) pm_) := hR 3 (by decide)
      obtain ⟨p49, p3, hR50⟩ := e3
      obtain ⟨v48, v3⟩ : ∃ x, vf 3 = x := ⟨_, rfl⟩
      rw [v3] at hR50
      obtain ⟨⟨xhR50, rfl, xhR500, xhR501⟩, rfl⟩ := hR50
      have e9 : (∃ pm_, (pf 9) = [pm_] ∧ (fun u_ p_ => (∃ x_ : Int, u_ = .int .i64 x_ ∧ 0 ≤ x_ ∧ x_ < min (2 * (((1 + (1 + xhR4)) + xhR8) + xhR11)) 12) ∧ p_ = curE g a len cap) (vf 9) pm_) := hR 9 (by decide)
      obtain ⟨p52, p9, hR53⟩ := e9
      obtain ⟨v51, v9⟩ : ∃ x, vf 9 = x := ⟨_, rfl⟩
      rw [v9] at hR53
      obtain ⟨⟨xhR53, rfl, xhR530, xhR531⟩, rfl⟩ := hR53
      have e11 : IsRow_o 3 1 1 ([((2 * (((1 + (1 + xhR4)) + xhR8) + xhR11)) - 1) - (intOf_o (vf 9))].map (Value.int .i64)) (vf 11) (pf 11) := hR 11 (by decide)
      rw [v9] at e11
      obtain ⟨g54, v11, p11⟩ := e11
      refine Or.inl ⟨rfl, ?_⟩
      show RunQ _ _ _ (([9, 11] : List Nat).flatMap pf ++ _) (envOf _ vf [3, 9, 11] ++ _) _ _
      refine rq_less (l' := (curE g a len cap :: rowE 3 1 (.slice (some ⟨g54, 0, none⟩) 1 1) 1 ([((2 * (((1 + (1 + xhR4)) + xhR8) + xhR11)) - 1) - xhR53].map (Value.int .i64)) :: bigE (ss.map sqPart) :: rowE 83 3 uq ss.length (ss.flatMap sqC) :: rowE 80 2 u gs.length (gs.flatMap anC) :: rowE 3 1 (.slice none 0 0) 0 ([]) :: boxE b5 #[.int .i64 (1 + xhR4), uq, u, .slice none 0 0] 28 :: boxE b1 #[.int .i64 0, .slice none 0 0, .slice none 0 0, .slice none 0 0] 28 :: l)) (sx 99 (congrArg some v3) (sx 107 (congrArg some v11) (sub_nil _))) (by first | (simp only [p9, v9, p11, v11, List.flatMap_cons, List.flatMap_nil, List.append_nil, List.nil_append, List.cons_append]; exact List.Sublist.refl _) | simp [p9, v9, p11, v11]) ?_
      exact rq_mono (rq_v (rv_build (cs := #[.int .i64 0, .int .i64 xhR50, .slice (some ⟨g54, 0, none⟩) 1 1]) rfl rfl (by kernel_rfl))) (fun _ _ h => ⟨h.1.trans (by show _ = (.agg #[.int .i64 0, .int .i64 (intOf_o (vf 3)), (vf 11)] : Value); first | (rw [v3, v11]; done) | (rw [v3, v11]; rfl)), h.2⟩)
     ·
      intro vf pf hmu hR
      have e3 : (∃ pm_, (pf 3) = [pm_] ∧ (fun u_ p_ => (∃ x_ : Int, u_ = .int .i64 x_ ∧ 0 ≤ x_ ∧ x_ < 2) ∧ p_ = curE g a len cap) (vf 3) pm_) := hR 3 (by decide)
      obtain ⟨p49, p3, hR50⟩ := e3
      obtain ⟨v48, v3⟩ : ∃ x, vf 3 = x := ⟨_, rfl⟩
      rw [v3] at hR50
      obtain ⟨⟨xhR50, rfl, xhR500, xhR501⟩, rfl⟩ := hR50
      have e9 : (∃ pm_, (pf 9) = [pm_] ∧ (fun u_ p_ => (∃ x_ : Int, u_ = .int .i64 x_ ∧ 0 ≤ x_ ∧ x_ < min (2 * (((1 + (1 + xhR4)) + xhR8) + xhR11)) 12) ∧ p_ = curE g a len cap) (vf 9) pm_) := hR 9 (by decide)
      obtain ⟨p52, p9, hR53⟩ := e9
      obtain ⟨v51, v9⟩ : ∃ x, vf 9 = x := ⟨_, rfl⟩
      rw [v9] at hR53
      obtain ⟨⟨xhR53, rfl, xhR530, xhR531⟩, rfl⟩ := hR53
      have e11 : IsRow_o 3 1 1 ([((2 * (((1 + (1 + xhR4)) + xhR8) + xhR11)) - 1) - (intOf_o (vf 9))].map (Value.int .i64)) (vf 11) (pf 11) := hR 11 (by decide)
      rw [v9] at e11
      obtain ⟨g54, v11, p11⟩ := e11
      have e12 : (vf 12) = .agg #[.int .i64 0, .int .i64 (intOf_o (vf 3)), (vf 11)] ∧ (pf 12) = [] := hR 12 (by decide)
      rw [v3, v11] at e12
      refine Or.inl ⟨rfl, ?_⟩
      show RunQ _ _ _ (([9, 11, 12] : List Nat).flatMap pf ++ _) (envOf _ vf [3, 9, 11, 12] ++ _) _ _
      refine rq_less (l' := (curE g a len cap :: rowE 3 1 (.slice (some ⟨g54, 0, none⟩) 1 1) 1 ([((2 * (((1 + (1 + xhR4)) + xhR8) + xhR11)) - 1) - xhR53].map (Value.int .i64)) :: bigE (ss.map sqPart) :: rowE 83 3 uq ss.length (ss.flatMap sqC) :: rowE 80 2 u gs.length (gs.flatMap anC) :: rowE 3 1 (.slice none 0 0) 0 ([]) :: boxE b5 #[.int .i64 (1 + xhR4), uq, u, .slice none 0 0] 28 :: boxE b1 #[.int .i64 0, .slice none 0 0, .slice none 0 0, .slice none 0 0] 28 :: l)) (sx 108 (congrArg some e12.1) (sub_nil _)) (by first | (simp only [p9, v9, p11, v11, e12.2, List.flatMap_cons, List.flatMap_nil, List.append_nil, List.nil_append, List.cons_append]; exact List.Sublist.refl _) | simp [p9, v9, p11, v11, e12.2]) ?_
      exact rq_mono (rq_buildSlice (z := .agg #[.int .i64 0, .int .i64 0, .slice none 0 0]) (s := 3) (cs := [.int .i64 0, .int .i64 xhR50, .slice (some ⟨g54, 0, none⟩) 1 1]) rfl Try.underlying24 (by kernel_rfl) (by decide) rfl (by kernel_rfl) rfl) (fun v_ p_ h => by show IsRow_o 83 3 1 ([.int .i64 0, .int .i64 (intOf_o (vf 3)), (vf 11)]) v_ p_; rw [v3, v11]; exact h)
    ·
     intro vf pf hmu hR
     have e1 : (vf 1) = uq ∧ (pf 1) = [] := hR 1 (by decide)
     have e3 : (∃ pm_, (pf 3) = [pm_] ∧ (fun u_ p_ => (∃ x_ : Int, u_ = .int .i64 x_ ∧ 0 ≤ x_ ∧ x_ < 2) ∧ p_ = curE g a len cap) (vf 3) pm_) := hR 3 (by decide)
     obtain ⟨p49, p3, hR50⟩ := e3
     obtain ⟨v48, v3⟩ : ∃ x, vf 3 = x := ⟨_, rfl⟩
     rw [v3] at hR50
     obtain ⟨⟨xhR50, rfl, xhR500, xhR501⟩, rfl⟩ := hR50
     have e9 : (∃ pm_, (pf 9) = [pm_] ∧ (fun u_ p_ => (∃ x_ : Int, u_ = .int .i64 x_ ∧ 0 ≤ x_ ∧ x_ < min (2 * (((1 + (1 + xhR4)) + xhR8) + xhR11)) 12) ∧ p_ = curE g a len cap) (vf 9) pm_) := hR 9 (by decide)
     obtain ⟨p52, p9, hR53⟩ := e9
     obtain ⟨v51, v9⟩ : ∃ x, vf 9 = x := ⟨_, rfl⟩
     rw [v9] at hR53
     obtain ⟨⟨xhR53, rfl, xhR530, xhR531⟩, rfl⟩ := hR53
     have e11 : IsRow_o 3 1 1 ([((2 * (((1 + (1 + xhR4)) + xhR8) + xhR11)) - 1) - (intOf_o (vf 9))].map (Value.int .i64)) (vf 11) (pf 11) := hR 11 (by decide)
     rw [v9] at e11
     obtain ⟨g54, v11, p11⟩ := e11
     have e13 : IsRow_o 83 3 1 ([.int .i64 0, .int .i64 (intOf_o (vf 3)), (vf 11)]) (vf 13) (pf 13) := hR 13 (by decide)
     rw [v3, v11] at e13
     obtain ⟨g55, v13, p13⟩ := e13
     have q0 : (vf 0) = .pointer (some ⟨b5, 0 + 1, none⟩) ∧ (pf 0) = [] := hR 0 (by decide)
     have q1 : (vf 1) = uq ∧ (pf 1) = [] := hR 1 (by decide)
     have q2 : (vf 2) = .pointer (some ⟨g, 0, none⟩) ∧ (pf 2) = [] := hR 2 (by decide)
     have q4 : (vf 4) = .int .i64 (2 * (((1 + (1 + xhR4)) + xhR8) + xhR11)) ∧ (pf 4) = [] := hR 4 (by decide)
     have q5 : (vf 5) = .int .i64 ((2 * (((1 + (1 + xhR4)) + xhR8) + xhR11)) - 1) ∧ (pf 5) = [] := hR 5 (by decide)
     have q6 : (vf 6) = .pointer (some ⟨g, 0, none⟩) ∧ (pf 6) = [] := hR 6 (by decide)
     have q7 : (vf 7) = .int .i64 (2 * (((1 + (1 + xhR4)) + xhR8) + xhR11)) ∧ (pf 7) = [] := hR 7 (by decide)
     have q8 : (vf 8) = .int .i64 (min (2 * (((1 + (1 + xhR4)) + xhR8) + xhR11)) 12) ∧ (pf 8) = [] := hR 8 (by decide)
     have q10 : (vf 10) = .int .i64 (((2 * (((1 + (1 + xhR4)) + xhR8) + xhR11)) - 1) - (intOf_o (vf 9))) ∧ (pf 10) = [] := hR 10 (by decide)
     have q12 : (vf 12) = .agg #[.int .i64 0, .int .i64 (intOf_o (vf 3)), (vf 11)] ∧ (pf 12) = [] := hR 12 (by decide)
     refine hl_less (l' := (curE g a len cap :: rowE 3 1 (.slice (some ⟨g54, 0, none⟩) 1 1) 1 ([((2 * (((1 + (1 + xhR4)) + xhR8) + xhR11)) - 1) - xhR53].map (Value.int .i64)) :: rowE 83 3 (.slice (some ⟨g55, 0, none⟩) 1 1) 1 ([.int .i64 0, .int .i64 xhR50, .slice (some ⟨g54, 0, none⟩) 1 1]) :: bigE (ss.map sqPart) :: rowE 83 3 uq ss.length (ss.flatMap sqC) :: rowE 80 2 u gs.length (gs.flatMap anC) :: rowE 3 1 (.slice none 0 0) 0 ([]) :: boxE b5 #[.int .i64 (1 + xhR4), uq, u, .slice none 0 0] 28 :: boxE b1 #[.int .i64 0, .slice none 0 0, .slice none 0 0, .slice none 0 0] 28 :: l)) (sx 0 rfl (sx 1 rfl (sx 2 rfl (sx 3 rfl (sx 8 rfl (sx 9 rfl (sx 10 rfl (sx 11 rfl (sx 12 rfl (sx 16 rfl (sx 17 rfl (sx 39 rfl (sx 70 rfl (sx 74 rfl (sx 97 (congrArg some e1.1) (sx 109 (congrArg some v13) (sub_nil _))))))))))))))))) (by first | (simp only [p9, v9, p11, v11, p13, v13, q0.2, q1.2, q2.2, q4.2, q5.2, q6.2, q7.2, q8.2, q10.2, q12.2, List.flatMap_cons, List.flatMap_nil, List.append_nil, List.nil_append, List.cons_append]; exact List.Sublist.refl _) | simp [p9, v9, p11, v11, p13, v13, q0.2, q1.2, q2.2, q4.2, q5.2, q6.2, q7.2, q8.2, q10.2, q12.2]) ?_
     simp only [List.drop_succ_cons, List.drop_zero]
     refine hl_append (i := 4) (z := .agg #[.int .i64 0, .int .i64 0, .slice none 0 0]) (bytes := 40) (n' := (ss ++ [(Sq.mk 0 xhR50 (.slice (some ⟨g54, 0, none⟩) 1 1) ([((2 * (((1 + (1 + xhR4)) + xhR8) + xhR11)) - 1) - xhR53]))]).length) (xs' := ((ss ++ [(Sq.mk 0 xhR50 (.slice (some ⟨g54, 0, none⟩) 1 1) ([((2 * (((1 + (1 + xhR4)) + xhR8) + xhR11)) - 1) - xhR53]))]).flatMap sqC)) (L := fun v56 => (curE g a len cap :: rowE 3 1 (.slice (some ⟨g54, 0, none⟩) 1 1) 1 ([((2 * (((1 + (1 + xhR4)) + xhR8) + xhR11)) - 1) - xhR53].map (Value.int .i64)) :: rowE 83 3 (.slice (some ⟨g55, 0, none⟩) 1 1) 1 ([.int .i64 0, .int .i64 xhR50, .slice (some ⟨g54, 0, none⟩) 1 1]) :: bigE (ss.map sqPart) :: rowE 83 3 v56 ((ss ++ [(Sq.mk 0 xhR50 (.slice (some ⟨g54, 0, none⟩) 1 1) ([((2 * (((1 + (1 + xhR4)) + xhR8) + xhR11)) - 1) - xhR53]))]).length) ((ss ++ [(Sq.mk 0 xhR50 (.slice (some ⟨g54, 0, none⟩) 1 1) ([((2 * (((1 + (1 + xhR4)) + xhR8) + xhR11)) - 1) - xhR53]))]).flatMap sqC) :: rowE 80 2 u gs.length (gs.flatMap anC) :: rowE 3 1 (.slice none 0 0) 0 ([]) :: boxE b5 #[.int .i64 (1 + xhR4), uq, u, .slice none 0 0] 28 :: boxE b1 #[.int .i64 0, .slice none 0 0, .slice none 0 0, .slice none 0 0] 28 :: l)) rfl rfl rfl rfl Try.underlying24 (by kernel_rfl) (by kernel_rfl) rfl rfl rfl (rd_row 2 rfl) (by simp [Value.oneCell']) (by first | omega | (simp only [List.length_append, List.length_cons, List.length_nil]; omega)) (len_app ss [(Sq.mk 0 xhR50 (.slice (some ⟨g54, 0, none⟩) 1 1) ([((2 * (((1 + (1 + xhR4)) + xhR8) + xhR11)) - 1) - xhR53]))]) (flat_app1 sqC ss (Sq.mk 0 xhR50 (.slice (some ⟨g54, 0, none⟩) 1 1) ([((2 * (((1 + (1 + xhR4)) + xhR8) + xhR11)) - 1) - xhR53])) _ rfl) (fun _ => rfl) ?_
     intro v56
     refine hl_v rfl rfl rfl (rv_field (k0 := 1) rfl (by kernel_rfl) rfl) ?_
     refine hl_one (i := 4) rfl (fun ho57 => ?_)
     refine hl_storeBox (i := 7) (l' := (curE g a len cap :: rowE 3 1 (.slice (some ⟨g54, 0, none⟩) 1 1) 1 ([((2 * (((1 + (1 + xhR4)) + xhR8) + xhR11)) - 1) - xhR53].map (Value.int .i64)) :: rowE 83 3 (.slice (some ⟨g55, 0, none⟩) 1 1) 1 ([.int .i64 0, .int .i64 xhR50, .slice (some ⟨g54, 0, none⟩) 1 1]) :: bigE (ss.map sqPart) :: rowE 83 3 v56 ((ss ++ [(Sq.mk 0 xhR50 (.slice (some ⟨g54, 0, none⟩) 1 1) ([((2 * (((1 + (1 + xhR4)) + xhR8) + xhR11)) - 1) - xhR53]))]).length) ((ss ++ [(Sq.mk 0 xhR50 (.slice (some ⟨g54, 0, none⟩) 1 1) ([((2 * (((1 + (1 + xhR4)) + xhR8) + xhR11)) - 1) - xhR53]))]).flatMap sqC) :: rowE 80 2 u gs.length (gs.flatMap anC) :: rowE 3 1 (.slice none 0 0) 0 ([]) :: boxE b5 #[.int .i64 (1 + xhR4), v56, u, .slice none 0 0] 28 :: boxE b1 #[.int .i64 0, .slice none 0 0, .slice none 0 0, .slice none 0 0] 28 :: l)) rfl rfl rfl (by kernel_rfl) rfl rfl ho57 rfl rfl rfl ?_
     refine hl_less (sx 0 rfl (sx 1 rfl (sx 2 rfl (sx 3 rfl (sx 8 rfl (sx 9 rfl (sx 10 rfl (sx 11 rfl (sx 12 rfl (sx 16 rfl (sx 17 rfl (sx 39 rfl (sx 70 rfl (sx 74 rfl (sub_nil _))))))))))))))) (.refl _) ?_
     refine hl_nil ?_
     refine hq_block_normal ?_
     refine hq_then ?_
     refine hc_region ?_
     refine hl_v rfl rfl rfl (rv_ev rfl) ?_
     refine hl_v rfl rfl rfl (rv_add rfl rfl rfl (by constructor <;> omega)) ?_
     refine hl_v rfl rfl rfl (rv_ev rfl) ?_
     refine hl_less (sx 0 rfl (sx 1 rfl (sx 2 rfl (sx 3 rfl (sx 8 rfl (sx 9 rfl (sx 10 rfl (sx 11 rfl (sx 12 rfl (sx 16 rfl (sx 17 rfl (sx 39 rfl (sx 70 rfl (sx 74 rfl (sub_nil _))))))))))))))) (.refl _) ?_
     refine hl_nil ?_
     refine hq_conv (bigE (ss.map sqPart) :: rowE 3 1 (.slice (some ⟨g54, 0, none⟩) 1 1) 1 ([((2 * (((1 + (1 + xhR4)) + xhR8) + xhR11)) - 1) - xhR53].map (Value.int .i64)) :: curE g a len cap :: rowE 83 3 (.slice (some ⟨g55, 0, none⟩) 1 1) 1 ([.int .i64 0, .int .i64 xhR50, .slice (some ⟨g54, 0, none⟩) 1 1]) :: rowE 83 3 v56 ((ss ++ [(Sq.mk 0 xhR50 (.slice (some ⟨g54, 0, none⟩) 1 1) ([((2 * (((1 + (1 + xhR4)) + xhR8) + xhR11)) - 1) - xhR53]))]).length) ((ss ++ [(Sq.mk 0 xhR50 (.slice (some ⟨g54, 0, none⟩) 1 1) ([((2 * (((1 + (1 + xhR4)) + xhR8) + xhR11)) - 1) - xhR53]))]).flatMap sqC) :: rowE 80 2 u gs.length (gs.flatMap anC) :: rowE 3 1 (.slice none 0 0) 0 ([]) :: boxE b5 #[.int .i64 (1 + xhR4), v56, u, .slice none 0 0] 28 :: boxE b1 #[.int .i64 0, .slice none 0 0, .slice none 0 0, .slice none 0 0] 28 :: l) (conv_pick (src := [curE g a len cap, rowE 3 1 (.slice (some ⟨g54, 0, none⟩) 1 1) 1 ([((2 * (((1 + (1 + xhR4)) + xhR8) + xhR11)) - 1) - xhR53].map (Value.int .i64)), rowE 83 3 (.slice (some ⟨g55, 0, none⟩) 1 1) 1 ([.int .i64 0, .int .i64 xhR50, .slice (some ⟨g54, 0, none⟩) 1 1]), bigE (ss.map sqPart), rowE 83 3 v56 ((ss ++ [(Sq.mk 0 xhR50 (.slice (some ⟨g54, 0, none⟩) 1 1) ([((2 * (((1 + (1 + xhR4)) + xhR8) + xhR11)) - 1) - xhR53]))]).length) ((ss ++ [(Sq.mk 0 xhR50 (.slice (some ⟨g54, 0, none⟩) 1 1) ([((2 * (((1 + (1 + xhR4)) + xhR8) + xhR11)) - 1) - xhR53]))]).flatMap sqC), rowE 80 2 u gs.length (gs.flatMap anC), rowE 3 1 (.slice none 0 0) 0 ([]), boxE b5 #[.int .i64 (1 + xhR4), v56, u, .slice none 0 0] 28, boxE b1 #[.int .i64 0, .slice none 0 0, .slice none 0 0, .slice none 0 0] 28]) (dst := [bigE (ss.map sqPart), rowE 3 1 (.slice (some ⟨g54, 0, none⟩) 1 1) 1 ([((2 * (((1 + (1 + xhR4)) + xhR8) + xhR11)) - 1) - xhR53].map (Value.int .i64)), curE g a len cap, rowE 83 3 (.slice (some ⟨g55, 0, none⟩) 1 1) 1 ([.int .i64 0, .int .i64 xhR50, .slice (some ⟨g54, 0, none⟩) 1 1]), rowE 83 3 v56 ((ss ++ [(Sq.mk 0 xhR50 (.slice (some ⟨g54, 0, none⟩) 1 1) ([((2 * (((1 + (1 + xhR4)) + xhR8) + xhR11)) - 1) - xhR53]))]).length) ((ss ++ [(Sq.mk 0 xhR50 (.slice (some ⟨g54, 0, none⟩) 1 1) ([((2 * (((1 + (1 + xhR4)) + xhR8) + xhR11)) - 1) - xhR53]))]).flatMap sqC), rowE 80 2 u gs.length (gs.flatMap anC), rowE 3 1 (.slice none 0 0) 0 ([]), boxE b5 #[.int .i64 (1 + xhR4), v56, u, .slice none 0 0] 28, boxE b1 #[.int .i64 0, .slice none 0 0, .slice none 0 0, .slice none 0 0] 28]) (l := l) [3, 1, 0, 2, 4, 5, 6, 7, 8] (by decide) rfl) ?_
     refine hq_conv (bigE ((ss ++ [(Sq.mk 0 xhR50 (.slice (some ⟨g54, 0, none⟩) 1 1) ([((2 * (((1 + (1 + xhR4)) + xhR8) + xhR11)) - 1) - xhR53]))]).map sqPart) :: curE g a len cap :: rowE 83 3 (.slice (some ⟨g55, 0, none⟩) 1 1) 1 ([.int .i64 0, .int .i64 xhR50, .slice (some ⟨g54, 0, none⟩) 1 1]) :: rowE 83 3 v56 ((ss ++ [(Sq.mk 0 xhR50 (.slice (some ⟨g54, 0, none⟩) 1 1) ([((2 * (((1 + (1 + xhR4)) + xhR8) + xhR11)) - 1) - xhR53]))]).length) ((ss ++ [(Sq.mk 0 xhR50 (.slice (some ⟨g54, 0, none⟩) 1 1) ([((2 * (((1 + (1 + xhR4)) + xhR8) + xhR11)) - 1) - xhR53]))]).flatMap sqC) :: rowE 80 2 u gs.length (gs.flatMap anC) :: rowE 3 1 (.slice none 0 0) 0 ([]) :: boxE b5 #[.int .i64 (1 + xhR4), v56, u, .slice none 0 0] 28 :: boxE b1 #[.int .i64 0, .slice none 0 0, .slice none 0 0, .slice none 0 0] 28 :: l) (fun w hm => by rw [List.map_append]; exact conv_snocX w hm) ?_
     refine hq_conv (bigE ((ss ++ [(Sq.mk 0 xhR50 (.slice (some ⟨g54, 0, none⟩) 1 1) ([((2 * (((1 + (1 + xhR4)) + xhR8) + xhR11)) - 1) - xhR53]))]).map sqPart) :: rowE 83 3 v56 ((ss ++ [(Sq.mk 0 xhR50 (.slice (some ⟨g54, 0, none⟩) 1 1) ([((2 * (((1 + (1 + xhR4)) + xhR8) + xhR11)) - 1) - xhR53]))]).length) ((ss ++ [(Sq.mk 0 xhR50 (.slice (some ⟨g54, 0, none⟩) 1 1) ([((2 * (((1 + (1 + xhR4)) + xhR8) + xhR11)) - 1) - xhR53]))]).flatMap sqC) :: rowE 80 2 u gs.length (gs.flatMap anC) :: rowE 3 1 (.slice none 0 0) 0 ([]) :: boxE b5 #[.int .i64 (1 + xhR4), v56, u, .slice none 0 0] 28 :: boxE b1 #[.int .i64 0, .slice none 0 0, .slice none 0 0, .slice none 0 0] 28 :: curE g a len cap :: l) (conv_pick (src := [bigE ((ss ++ [(Sq.mk 0 xhR50 (.slice (some ⟨g54, 0, none⟩) 1 1) ([((2 * (((1 + (1 + xhR4)) + xhR8) + xhR11)) - 1) - xhR53]))]).map sqPart), curE g a len cap, rowE 83 3 (.slice (some ⟨g55, 0, none⟩) 1 1) 1 ([.int .i64 0, .int .i64 xhR50, .slice (some ⟨g54, 0, none⟩) 1 1]), rowE 83 3 v56 ((ss ++ [(Sq.mk 0 xhR50 (.slice (some ⟨g54, 0, none⟩) 1 1) ([((2 * (((1 + (1 + xhR4)) + xhR8) + xhR11)) - 1) - xhR53]))]).length) ((ss ++ [(Sq.mk 0 xhR50 (.slice (some ⟨g54, 0, none⟩) 1 1) ([((2 * (((1 + (1 + xhR4)) + xhR8) + xhR11)) - 1) - xhR53]))]).flatMap sqC), rowE 80 2 u gs.length (gs.flatMap anC), rowE 3 1 (.slice none 0 0) 0 ([]), boxE b5 #[.int .i64 (1 + xhR4), v56, u, .slice none 0 0] 28, boxE b1 #[.int .i64 0, .slice none 0 0, .slice none 0 0, .slice none 0 0] 28]) (dst := [bigE ((ss ++ [(Sq.mk 0 xhR50 (.slice (some ⟨g54, 0, none⟩) 1 1) ([((2 * (((1 + (1 + xhR4)) + xhR8) + xhR11)) - 1) - xhR53]))]).map sqPart), rowE 83 3 v56 ((ss ++ [(Sq.mk 0 xhR50 (.slice (some ⟨g54, 0, none⟩) 1 1) ([((2 * (((1 + (1 + xhR4)) + xhR8) + xhR11)) - 1) - xhR53]))]).length) ((ss ++ [(Sq.mk 0 xhR50 (.slice (some ⟨g54, 0, none⟩) 1 1) ([((2 * (((1 + (1 + xhR4)) + xhR8) + xhR11)) - 1) - xhR53]))]).flatMap sqC), rowE 80 2 u gs.length (gs.flatMap anC), rowE 3 1 (.slice none 0 0) 0 ([]), boxE b5 #[.int .i64 (1 + xhR4), v56, u, .slice none 0 0] 28, boxE b1 #[.int .i64 0, .slice none 0 0, .slice none 0 0, .slice none 0 0] 28, curE g a len cap]) (l := l) [0, 3, 4, 5, 6, 7, 1] (by decide) rfl) ?_
     exact hq_round3 (i + 1) v56 (ss ++ [(Sq.mk 0 xhR50 (.slice (some ⟨g54, 0, none⟩) 1 1) ([((2 * (((1 + (1 + xhR4)) + xhR8) + xhR11)) - 1) - xhR53]))]) ⟨by omega, by simp; omega, sqs_app hso ⟨.inl ⟨rfl, by dsimp only; omega, rfl⟩⟩ (fun x hx => by simp only [List.mem_cons, List.not_mem_nil, or_false] at hx; unfold LtOk; omega)⟩ (by omega) (sx 0 rfl (sx 1 rfl (sx 2 rfl (sx 3 rfl (sx 8 rfl (sx 9 rfl (sx 10 rfl (sx 11 rfl (sx 12 rfl (sx 16 rfl (sx 17 rfl (sx 39 rfl (sub_nil _))))))))))))) ((.cons_cons _ (.cons_cons _ (.cons_cons _ (.cons_cons _ (.cons_cons _ (.cons_cons _ (.cons_cons _ (.refl _)))))))))
  ·
   refine hl_less (sx 0 rfl (sx 1 rfl (sx 2 rfl (sx 3 rfl (sx 8 rfl (sx 9 rfl (sx 10 rfl (sx 11 rfl (sx 12 rfl (sx 16 rfl (sx 17 rfl (sx 39 rfl (sx 70 rfl (sub_nil _)))))))))))))) (.refl _) ?_
   refine hl_nil ?_
   refine hq_then ?_
   refine hc_false rfl ?_
   refine hc_exit ?_
   refine hq_then_exit ?_
   refine hq_then_exit ?_
   refine hq_block_exit ?_
   refine hq_then ?_
   refine hc_seq ?_
   refine hc_seq ?_
   refine hc_region ?_
   refine hl_v rfl rfl rfl (rv_ev rfl) ?_
   refine hl_callM (R := (fun u_ p_ => (∃ x_ : Int, u_ = .int .i64 x_ ∧ 0 ≤ x_ ∧ x_ < 4) ∧ p_ = curE g a len cap)) 6 rfl rfl (by kernel_rfl) rfl rfl (fun l' w hm => belowN_mut g a len cap z 4 _ _ _ hm hb (by constructor <;> omega)) ?_
   intro v58 p59 hR60
   obtain ⟨⟨xhR60, rfl, xhR600, xhR601⟩, rfl⟩ := hR60
   refine hl_eqL (l' := (bigE (ss.map sqPart) :: rowE 83 3 uq ss.length (ss.flatMap sqC) :: rowE 80 2 u gs.length (gs.flatMap anC) :: rowE 3 1 (.slice none 0 0) 0 ([]) :: boxE b5 #[.int .i64 (1 + xhR4), uq, u, .slice none 0 0] 28 :: boxE b1 #[.int .i64 0, .slice none 0 0, .slice none 0 0, .slice none 0 0] 28 :: curE g a len cap :: l)) rfl ?_
   refine hl_v rfl rfl rfl (rv_ev rfl) ?_
   refine hl_less (sx 0 rfl (sx 1 rfl (sx 2 rfl (sx 3 rfl (sx 8 rfl (sx 9 rfl (sx 10 rfl (sx 11 rfl (sx 12 rfl (sx 16 rfl (sx 17 rfl (sx 18 rfl (sx 39 rfl (sx 70 rfl (sub_nil _))))))))))))))) (.refl _) ?_
   refine hl_nil ?_
   refine hq_then ?_
   refine hc_block ?_
   refine hc_loop3 (α := Int) (β := Value) (γ := List Int) (fun k uo os => (bigE (ss.map sqPart) :: rowE 83 3 uq ss.length (ss.flatMap sqC) :: rowE 80 2 u gs.length (gs.flatMap anC) :: rowE 3 1 uo os.length (os.map (Value.int .i64)) :: boxE b5 #[.int .i64 (1 + xhR4), uq, u, uo] 28 :: boxE b1 #[.int .i64 0, .slice none 0 0, .slice none 0 0, .slice none 0 0] 28 :: curE g a len cap :: l)) (fun k uo os => [(0, .pointer (some ⟨g, 0, none⟩)), (1, .int .i64 q1), (2, .int .i64 q2), (3, .int .i64 q3), (8, .pointer (some ⟨b1, 0, none⟩)), (9, .pointer (some ⟨b5, 0, none⟩)), (10, .int .i64 xhR8), (11, .int .i64 xhR11), (12, .int .i64 ((1 + (1 + xhR4)) + xhR8)), (16, .int .i64 (2 * (((1 + (1 + xhR4)) + xhR8) + xhR11))), (18, .int .i64 k), (39, .bool false), (70, .bool false)]) (fun k uo os => (-1 ≤ k ∧ k ≤ 3) ∧ (os.length : Int) + k ≤ 3 ∧ OsOk (((1 + (1 + xhR4)) + xhR8) + xhR11) os) (fun k uo os => (k + 1).toNat) _ _ [] ⟨by omega, by simp; omega, fun x hx => absurd hx (by simp)⟩ (sx 0 rfl (sx 1 rfl (sx 2 rfl (sx 3 rfl (sx 8 rfl (sx 9 rfl (sx 10 rfl (sx 11 rfl (sx 12 rfl (sx 16 rfl (sx 18 rfl (sx 39 rfl (sx 70 rfl (sub_nil _)))))))))))))) ((.cons_cons _ (.cons_cons _ (.cons_cons _ (.cons_cons _ (.cons_cons _ (.cons_cons _ (.cons_cons _ (.refl _))))))))) ?_
   intro k uo os hi61
   obtain ⟨hk0, hol, hoo⟩ := hi61
   refine hc_seq ?_
   refine hc_seq ?_
   refine hc_region ?_
   refine hl_v rfl rfl rfl (rv_ev rfl) ?_
   refine hl_geq rfl rfl rfl rfl rfl rfl (fun h62 => ?_) (fun h62 => ?_)
   ·
    refine hl_less (sx 0 rfl (sx 1 rfl (sx 2 rfl (sx 3 rfl (sx 8 rfl (sx 9 rfl (sx 10 rfl (sx 11 rfl (sx 12 rfl (sx 16 rfl (sx 18 rfl (sx 39 rfl (sx 70 rfl (sx 115 rfl (sub_nil _))))))))))))))) (.refl _) ?_
    refine hl_nil ?_
    refine hq_then ?_
    refine hc_true rfl ?_
    refine hc_skip ?_
    refine hq_then ?_
    refine hc_seq ?_
    refine hc_block ?_
    refine hc_conv (curE g a len cap :: bigE (ss.map sqPart) :: rowE 83 3 uq ss.length (ss.flatMap sqC) :: rowE 80 2 u gs.length (gs.flatMap anC) :: rowE 3 1 uo os.length (os.map (Value.int .i64)) :: boxE b5 #[.int .i64 (1 + xhR4), uq, u, uo] 28 :: boxE b1 #[.int .i64 0, .slice none 0 0, .slice none 0 0, .slice none 0 0] 28 :: l) (conv_pick (src := [bigE (ss.map sqPart), rowE 83 3 uq ss.length (ss.flatMap sqC), rowE 80 2 u gs.length (gs.flatMap anC), rowE 3 1 uo os.length (os.map (Value.int .i64)), boxE b5 #[.int .i64 (1 + xhR4), uq, u, uo] 28, boxE b1 #[.int .i64 0, .slice none 0 0, .slice none 0 0, .slice none 0 0] 28, curE g a len cap]) (dst := [curE g a len cap, bigE (ss.map sqPart), rowE 83 3 uq ss.length (ss.flatMap sqC), rowE 80 2 u gs.length (gs.flatMap anC), rowE 3 1 uo os.length (os.map (Value.int .i64)), boxE b5 #[.int .i64 (1 + xhR4), uq, u, uo] 28, boxE b1 #[.int .i64 0, .slice none 0 0, .slice none 0 0, .slice none 0 0] 28]) (l := l) [6, 0, 1, 2, 3, 4, 5] (by decide) rfl) ?_
    refine hc_draw2 (l := (bigE (ss.map sqPart) :: rowE 83 3 uq ss.length (ss.flatMap sqC) :: rowE 80 2 u gs.length (gs.flatMap anC) :: rowE 3 1 uo os.length (os.map (Value.int .i64)) :: boxE b5 #[.int .i64 (1 + xhR4), uq, u, uo] 28 :: boxE b1 #[.int .i64 0, .slice none 0 0, .slice none 0 0, .slice none 0 0] 28 :: l)) (by kernel_rfl) 10 [0, 1, 2, 3, 4, 5, 6, 7, 8, 9] (List.take 10 _) (List.drop 10 _) [[], [0], [], [2], [], [], [5], [4, 6], [3, 7], [7, 8]] [118, 119, 120, 121, 122, 123, 124, 125, 126, 127] (fun i_ vs_ v_ p_ => match i_ with | 0 => v_ = .pointer (some ⟨b5, 0 + 3, none⟩) ∧ p_ = [] | 1 => v_ = uo ∧ p_ = [] | 2 => v_ = .int .i64 (2 * (((1 + (1 + xhR4)) + xhR8) + xhR11)) ∧ p_ = [] | 3 => v_ = .int .i64 ((2 * (((1 + (1 + xhR4)) + xhR8) + xhR11)) - 1) ∧ p_ = [] | 4 => v_ = .pointer (some ⟨g, 0, none⟩) ∧ p_ = [] | 5 => v_ = .int .i64 (2 * (((1 + (1 + xhR4)) + xhR8) + xhR11)) ∧ p_ = [] | 6 => v_ = .int .i64 (min (2 * (((1 + (1 + xhR4)) + xhR8) + xhR11)) 12) ∧ p_ = [] | 7 => (∃ pm_, p_ = [pm_] ∧ (fun u_ p_ => (∃ x_ : Int, u_ = .int .i64 x_ ∧ 0 ≤ x_ ∧ x_ < min (2 * (((1 + (1 + xhR4)) + xhR8) + xhR11)) 12) ∧ p_ = curE g a len cap) v_ pm_) | 8 => v_ = .int .i64 (((2 * (((1 + (1 + xhR4)) + xhR8) + xhR11)) - 1) - (intOf_o (List.getD vs_ 1 undef))) ∧ p_ = [] | 9 => IsRow_o 3 1 1 ([((2 * (((1 + (1 + xhR4)) + xhR8) + xhR11)) - 1) - (intOf_o (List.getD vs_ 0 undef))].map (Value.int .i64)) v_ p_ | _ => True) [[], [0], [], [2], [], [], [5], [4, 6], [3, 7], [7, 8]] [none, none, none, none, none, none, none, some 13, none, none] [curE g a len cap] [0, 1, 2, 3, 4, 5, 6, 7, 8, 9] 13 (List.take_append_drop 10 _).symm (by kernel_rfl) (by kernel_rfl) (by kernel_rfl) rfl rfl ?_ ?_
    ·
     refine ⟨?_, ?_, ?_, ?_, ?_, ?_, ?_, ?_, ?_, ?_, trivial⟩
     ·
      intro vf pf hmu hR
      refine Or.inl ⟨rfl, ?_⟩
      show RunQ _ _ _ (([] : List Nat).flatMap pf ++ _) (envOf _ vf [] ++ _) _ _
      refine rq_less (sx 9 rfl (sub_nil _)) (List.sublist_append_right _ _) ?_
      exact rq_v (rv_field (k0 := 3) rfl (by kernel_rfl) rfl)
     ·
      intro vf pf hmu hR
      have e0 : (vf 0) = .pointer (some ⟨b5, 0 + 3, none⟩) ∧ (pf 0) = [] := hR 0 (by decide)
      refine Or.inl ⟨rfl, ?_⟩
      show RunQ _ _ _ (([0] : List Nat).flatMap pf ++ _) (envOf _ vf [0] ++ _) _ _
      refine rq_less (sx 118 (congrArg some e0.1) (sub_nil _)) (List.sublist_append_right _ _) ?_
      exact rq_v (rv_load rfl (by kernel_rfl) rfl (box_cell 4 rfl rfl))
     ·
      intro vf pf hmu hR
      refine Or.inl ⟨rfl, ?_⟩
      show RunQ _ _ _ (([] : List Nat).flatMap pf ++ _) (envOf _ vf [] ++ _) _ _
      refine rq_less (sx 16 rfl (sub_nil _)) (List.sublist_append_right _ _) ?_
      exact rq_v (rv_ev rfl)
     ·
      intro vf pf hmu hR
      have e2 : (vf 2) = .int .i64 (2 * (((1 + (1 + xhR4)) + xhR8) + xhR11)) ∧ (pf 2) = [] := hR 2 (by decide)
      refine Or.inl ⟨rfl, ?_⟩
      show RunQ _ _ _ (([2] : List Nat).flatMap pf ++ _) (envOf _ vf [2] ++ _) _ _
      refine rq_less (sx 120 (congrArg some e2.1) (sub_nil _)) (List.sublist_append_right _ _) ?_
      exact rq_v (rv_sub rfl rfl rfl (by constructor <;> omega))
     ·
      intro vf pf hmu hR
      refine Or.inl ⟨rfl, ?_⟩
      show RunQ _ _ _ (([] : List Nat).flatMap pf ++ _) (envOf _ vf [] ++ _) _ _
      refine rq_less (sx 0 rfl (sub_nil _)) (List.sublist_append_right _ _) ?_
      exact rq_v (rv_ev rfl)
     ·
      intro vf pf hmu hR
      refine Or.inl ⟨rfl, ?_⟩
      show RunQ _ _ _ (([] : List Nat).flatMap pf ++ _) (envOf _ vf [] ++ _) _ _
      refine rq_less (sx 16 rfl (sub_nil _)) (List.sublist_append_right _ _) ?_
      exact rq_v (rv_ev rfl)
     ·
      intro vf pf hmu hR
      have e5 : (vf 5) = .int .i64 (2 * (((1 + (1 + xhR4)) + xhR8) + xhR11)) ∧ (pf 5) = [] := hR 5 (by decide)
      refine Or.inl ⟨rfl, ?_⟩
      show RunQ _ _ _ (([5] : List Nat).flatMap pf ++ _) (envOf _ vf [5] ++ _) _ _
      refine rq_less (sx 123 (congrArg some e5.1) (sub_nil _)) (List.sublist_append_right _ _) ?_
      exact rq_v (rv_min rfl rfl rfl)
     ·
      intro vf pf hmu hR
      have e4 : (vf 4) = .pointer (some ⟨g, 0, none⟩) ∧ (pf 4) = [] := hR 4 (by decide)
      have e6 : (vf 6) = .int .i64 (min (2 * (((1 + (1 + xhR4)) + xhR8) + xhR11)) 12) ∧ (pf 6) = [] := hR 6 (by decide)
      refine Or.inl ⟨rfl, ?_⟩
      show RunM _ _ _ (pf 13) (([4, 6] : List Nat).flatMap pf ++ _) (envOf _ vf [4, 6] ++ _) _ _
      rw [hmu]
      refine rm_less (X' := (bigE (ss.map sqPart) :: rowE 83 3 uq ss.length (ss.flatMap sqC) :: rowE 80 2 u gs.length (gs.flatMap anC) :: rowE 3 1 uo os.length (os.map (Value.int .i64)) :: boxE b5 #[.int .i64 (1 + xhR4), uq, u, uo] 28 :: boxE b1 #[.int .i64 0, .slice none 0 0, .slice none 0 0, .slice none 0 0] 28 :: l)) (sx 122 (congrArg some e4.1) (sx 124 (congrArg some e6.1) (sub_nil _))) (by first | (simp only [e4.2, e6.2, List.flatMap_cons, List.flatMap_nil, List.append_nil, List.nil_append, List.cons_append]; exact List.Sublist.refl _) | simp [e4.2, e6.2]) ?_
      exact rq_callM (R := (fun u_ p_ => (∃ x_ : Int, u_ = .int .i64 x_ ∧ 0 ≤ x_ ∧ x_ < min (2 * (((1 + (1 + xhR4)) + xhR8) + xhR11)) 12) ∧ p_ = curE g a len cap)) (by kernel_rfl) rfl (fun L w hX hm => belowN_mut g a len cap z (min (2 * (((1 + (1 + xhR4)) + xhR8) + xhR11)) 12) _ _ _ hm hb (by constructor <;> omega))
     ·
      intro vf pf hmu hR
      have e3 : (vf 3) = .int .i64 ((2 * (((1 + (1 + xhR4)) + xhR8) + xhR11)) - 1) ∧ (pf 3) = [] := hR 3 (by decide)
      have e7 : (∃ pm_, (pf 7) = [pm_] ∧ (fun u_ p_ => (∃ x_ : Int, u_ = .int .i64 x_ ∧ 0 ≤ x_ ∧ x_ < min (2 * (((1 + (1 + xhR4)) + xhR8) + xhR11)) 12) ∧ p_ = curE g a len cap) (vf 7) pm_) := hR 7 (by decide)
      obtain ⟨p64, p7, hR65⟩ := e7
      obtain ⟨v63, v7⟩ : ∃ x, vf 7 = x := ⟨_, rfl⟩
      rw [v7] at hR65
      obtain ⟨⟨xhR65, rfl, xhR650, xhR651⟩, rfl⟩ := hR65
      refine Or.inl ⟨rfl, ?_⟩
      show RunQ _ _ _ (([3, 7] : List Nat).flatMap pf ++ _) (envOf _ vf [3, 7] ++ _) _ _
      refine rq_less (l' := (curE g a len cap :: bigE (ss.map sqPart) :: rowE 83 3 uq ss.length (ss.flatMap sqC) :: rowE 80 2 u gs.length (gs.flatMap anC) :: rowE 3 1 uo os.length (os.map (Value.int .i64)) :: boxE b5 #[.int .i64 (1 + xhR4), uq, u, uo] 28 :: boxE b1 #[.int .i64 0, .slice none 0 0, .slice none 0 0, .slice none 0 0] 28 :: l)) (sx 121 (congrArg some e3.1) (sx 125 (congrArg some v7) (sub_nil _))) (by first | (simp only [p7, v7, e3.2, List.flatMap_cons, List.flatMap_nil, List.append_nil, List.nil_append, List.cons_append]; exact List.Sublist.refl _) | simp [p7, v7, e3.2]) ?_
      exact rq_mono (rq_v (rv_sub rfl rfl rfl (by constructor <;> omega))) (fun _ _ h => ⟨h.1.trans (by show _ = (.int .i64 (((2 * (((1 + (1 + xhR4)) + xhR8) + xhR11)) - 1) - (intOf_o (vf 7))) : Value); first | (rw [v7]; done) | (rw [v7]; rfl)), h.2⟩)
     ·
      intro vf pf hmu hR
      have e7 : (∃ pm_, (pf 7) = [pm_] ∧ (fun u_ p_ => (∃ x_ : Int, u_ = .int .i64 x_ ∧ 0 ≤ x_ ∧ x_ < min (2 * (((1 + (1 + xhR4)) + xhR8) + xhR11)) 12) ∧ p_ = curE g a len cap) (vf 7) pm_) := hR 7 (by decide)
      obtain ⟨p64, p7, hR65⟩ := e7
      obtain ⟨v63, v7⟩ : ∃ x, vf 7 = x := ⟨_, rfl⟩
      rw [v7] at hR65
      obtain ⟨⟨xhR65, rfl, xhR650, xhR651⟩, rfl⟩ := hR65
      have e8 : (vf 8) = .int .i64 (((2 * (((1 + (1 + xhR4)) + xhR8) + xhR11)) - 1) - (intOf_o (vf 7))) ∧ (pf 8) = [] := hR 8 (by decide)
      rw [v7] at e8
      refine Or.inl ⟨rfl, ?_⟩
      show RunQ _ _ _ (([7, 8] : List Nat).flatMap pf ++ _) (envOf _ vf [7, 8] ++ _) _ _
      refine rq_less (l' := (curE g a len cap :: bigE (ss.map sqPart) :: rowE 83 3 uq ss.length (ss.flatMap sqC) :: rowE 80 2 u gs.length (gs.flatMap anC) :: rowE 3 1 uo os.length (os.map (Value.int .i64)) :: boxE b5 #[.int .i64 (1 + xhR4), uq, u, uo] 28 :: boxE b1 #[.int .i64 0, .slice none 0 0, .slice none 0 0, .slice none 0 0] 28 :: l)) (sx 126 (congrArg some e8.1) (sub_nil _)) (by first | (simp only [p7, v7, e8.2, List.flatMap_cons, List.flatMap_nil, List.append_nil, List.nil_append, List.cons_append]; exact List.Sublist.refl _) | simp [p7, v7, e8.2]) ?_
      exact rq_mono (rq_buildSlice (z := .int .i64 0) (s := 1) (cs := ([((2 * (((1 + (1 + xhR4)) + xhR8) + xhR11)) - 1) - xhR65].map (Value.int .i64))) rfl Try.underlying26 (by kernel_rfl) (by decide) rfl (by kernel_rfl) rfl) (fun v_ p_ h => by show IsRow_o 3 1 1 ([((2 * (((1 + (1 + xhR4)) + xhR8) + xhR11)) - 1) - (intOf_o (vf 7))].map (Value.int .i64)) v_ p_; rw [v7]; exact h)
    ·
     intro vf pf hmu hR
     have e1 : (vf 1) = uo ∧ (pf 1) = [] := hR 1 (by decide)
     have e7 : (∃ pm_, (pf 7) = [pm_] ∧ (fun u_ p_ => (∃ x_ : Int, u_ = .int .i64 x_ ∧ 0 ≤ x_ ∧ x_ < min (2 * (((1 + (1 + xhR4)) + xhR8) + xhR11)) 12) ∧ p_ = curE g a len cap) (vf 7) pm_) := hR 7 (by decide)
     obtain ⟨p64, p7, hR65⟩ := e7
     obtain ⟨v63, v7⟩ : ∃ x, vf 7 = x := ⟨_, rfl⟩
     rw [v7] at hR65
     obtain ⟨⟨xhR65, rfl, xhR650, xhR651⟩, rfl⟩ := hR65
     have e9 : IsRow_o 3 1 1 ([((2 * (((1 + (1 + xhR4)) + xhR8) + xhR11)) - 1) - (intOf_o (vf 7))].map (Value.int .i64)) (vf 9) (pf 9) := hR 9 (by decide)
     rw [v7] at e9
     obtain ⟨g66, v9, p9⟩ := e9
     have q0 : (vf 0) = .pointer (some ⟨b5, 0 + 3, none⟩) ∧ (pf 0) = [] := hR 0 (by decide)
     have q1 : (vf 1) = uo ∧ (pf 1) = [] := hR 1 (by decide)
     have q2 : (vf 2) = .int .i64 (2 * (((1 + (1 + xhR4)) + xhR8) + xhR11)) ∧ (pf 2) = [] := hR 2 (by decide)
     have q3 : (vf 3) = .int .i64 ((2 * (((1 + (1 + xhR4)) + xhR8) + xhR11)) - 1) ∧ (pf 3) = [] := hR 3 (by decide)
     have q4 : (vf 4) = .pointer (some ⟨g, 0, none⟩) ∧ (pf 4) = [] := hR 4 (by decide)
     have q5 : (vf 5) = .int .i64 (2 * (((1 + (1 + xhR4)) + xhR8) + xhR11)) ∧ (pf 5) = [] := hR 5 (by decide)
     have q6 : (vf 6) = .int .i64 (min (2 * (((1 + (1 + xhR4)) + xhR8) + xhR11)) 12) ∧ (pf 6) = [] := hR 6 (by decide)
     have q8 : (vf 8) = .int .i64 (((2 * (((1 + (1 + xhR4)) + xhR8) + xhR11)) - 1) - (intOf_o (vf 7))) ∧ (pf 8) = [] := hR 8 (by decide)
     refine hl_less (l' := (curE g a len cap :: rowE 3 1 (.slice (some ⟨g66, 0, none⟩) 1 1) 1 ([((2 * (((1 + (1 + xhR4)) + xhR8) + xhR11)) - 1) - xhR65].map (Value.int .i64)) :: bigE (ss.map sqPart) :: rowE 83 3 uq ss.length (ss.flatMap sqC) :: rowE 80 2 u gs.length (gs.flatMap anC) :: rowE 3 1 uo os.length (os.map (Value.int .i64)) :: boxE b5 #[.int .i64 (1 + xhR4), uq, u, uo] 28 :: boxE b1 #[.int .i64 0, .slice none 0 0, .slice none 0 0, .slice none 0 0] 28 :: l)) (sx 0 rfl (sx 1 rfl (sx 2 rfl (sx 3 rfl (sx 8 rfl (sx 9 rfl (sx 10 rfl (sx 11 rfl (sx 12 rfl (sx 16 rfl (sx 18 rfl (sx 39 rfl (sx 70 rfl (sx 115 rfl (sx 119 (congrArg some e1.1) (sx 127 (congrArg some v9) (sub_nil _))))))))))))))))) (by first | (simp only [p7, v7, p9, v9, q0.2, q1.2, q2.2, q3.2, q4.2, q5.2, q6.2, q8.2, List.flatMap_cons, List.flatMap_nil, List.append_nil, List.nil_append, List.cons_append]; exact List.Sublist.refl _) | simp [p7, v7, p9, v9, q0.2, q1.2, q2.2, q3.2, q4.2, q5.2, q6.2, q8.2]) ?_
     simp only [List.drop_succ_cons, List.drop_zero]
     refine hl_append (i := 5) (z := .int .i64 0) (bytes := 8) (n' := (os ++ ([((2 * (((1 + (1 + xhR4)) + xhR8) + xhR11)) - 1) - xhR65])).length) (xs' := ((os ++ ([((2 * (((1 + (1 + xhR4)) + xhR8) + xhR11)) - 1) - xhR65])).map (Value.int .i64))) (L := fun v67 => (curE g a len cap :: rowE 3 1 (.slice (some ⟨g66, 0, none⟩) 1 1) 1 ([((2 * (((1 + (1 + xhR4)) + xhR8) + xhR11)) - 1) - xhR65].map (Value.int .i64)) :: bigE (ss.map sqPart) :: rowE 83 3 uq ss.length (ss.flatMap sqC) :: rowE 80 2 u gs.length (gs.flatMap anC) :: rowE 3 1 v67 ((os ++ ([((2 * (((1 + (1 + xhR4)) + xhR8) + xhR11)) - 1) - xhR65])).length) ((os ++ ([((2 * (((1 + (1 + xhR4)) + xhR8) + xhR11)) - 1) - xhR65])).map (Value.int .i64)) :: boxE b5 #[.int .i64 (1 + xhR4), uq, u, uo] 28 :: boxE b1 #[.int .i64 0, .slice none 0 0, .slice none 0 0, .slice none 0 0] 28 :: l)) rfl rfl rfl rfl Try.underlying26 (by kernel_rfl) (by kernel_rfl) rfl rfl rfl (rd_row 1 rfl) (ints_one _) (by first | omega | (simp; omega)) (len_app os ([((2 * (((1 + (1 + xhR4)) + xhR8) + xhR11)) - 1) - xhR65])) (ints_app os ([((2 * (((1 + (1 + xhR4)) + xhR8) + xhR11)) - 1) - xhR65])) (fun _ => rfl) ?_
     intro v67
     refine hl_v rfl rfl rfl (rv_field (k0 := 3) rfl (by kernel_rfl) rfl) ?_
     refine hl_one (i := 5) rfl (fun ho68 => ?_)
     refine hl_storeBox (i := 6) (l' := (curE g a len cap :: rowE 3 1 (.slice (some ⟨g66, 0, none⟩) 1 1) 1 ([((2 * (((1 + (1 + xhR4)) + xhR8) + xhR11)) - 1) - xhR65].map (Value.int .i64)) :: bigE (ss.map sqPart) :: rowE 83 3 uq ss.length (ss.flatMap sqC) :: rowE 80 2 u gs.length (gs.flatMap anC) :: rowE 3 1 v67 ((os ++ ([((2 * (((1 + (1 + xhR4)) + xhR8) + xhR11)) - 1) - xhR65])).length) ((os ++ ([((2 * (((1 + (1 + xhR4)) + xhR8) + xhR11)) - 1) - xhR65])).map (Value.int .i64)) :: boxE b5 #[.int .i64 (1 + xhR4), uq, u, v67] 28 :: boxE b1 #[.int .i64 0, .slice none 0 0, .slice none 0 0, .slice none 0 0] 28 :: l)) rfl rfl rfl (by kernel_rfl) rfl rfl ho68 rfl rfl rfl ?_
     refine hl_less (sx 0 rfl (sx 1 rfl (sx 2 rfl (sx 3 rfl (sx 8 rfl (sx 9 rfl (sx 10 rfl (sx 11 rfl (sx 12 rfl (sx 16 rfl (sx 18 rfl (sx 39 rfl (sx 70 rfl (sx 115 rfl (sub_nil _))))))))))))))) (.refl _) ?_
     refine hl_nil ?_
     refine hq_block_normal ?_
     refine hq_then ?_
     refine hc_region ?_
     refine hl_v rfl rfl rfl (rv_ev rfl) ?_
     refine hl_v rfl rfl rfl (rv_sub rfl rfl rfl (by constructor <;> omega)) ?_
     refine hl_v rfl rfl rfl (rv_ev rfl) ?_
     refine hl_less (sx 0 rfl (sx 1 rfl (sx 2 rfl (sx 3 rfl (sx 8 rfl (sx 9 rfl (sx 10 rfl (sx 11 rfl (sx 12 rfl (sx 16 rfl (sx 18 rfl (sx 39 rfl (sx 70 rfl (sx 115 rfl (sub_nil _))))))))))))))) (.refl _) ?_
     refine hl_nil ?_
     refine hq_conv (bigE (ss.map sqPart) :: rowE 83 3 uq ss.length (ss.flatMap sqC) :: rowE 80 2 u gs.length (gs.flatMap anC) :: rowE 3 1 v67 ((os ++ ([((2 * (((1 + (1 + xhR4)) + xhR8) + xhR11)) - 1) - xhR65])).length) ((os ++ ([((2 * (((1 + (1 + xhR4)) + xhR8) + xhR11)) - 1) - xhR65])).map (Value.int .i64)) :: boxE b5 #[.int .i64 (1 + xhR4), uq, u, v67] 28 :: boxE b1 #[.int .i64 0, .slice none 0 0, .slice none 0 0, .slice none 0 0] 28 :: curE g a len cap :: l) (conv_pick (src := [curE g a len cap, rowE 3 1 (.slice (some ⟨g66, 0, none⟩) 1 1) 1 ([((2 * (((1 + (1 + xhR4)) + xhR8) + xhR11)) - 1) - xhR65].map (Value.int .i64)), bigE (ss.map sqPart), rowE 83 3 uq ss.length (ss.flatMap sqC), rowE 80 2 u gs.length (gs.flatMap anC), rowE 3 1 v67 ((os ++ ([((2 * (((1 + (1 + xhR4)) + xhR8) + xhR11)) - 1) - xhR65])).length) ((os ++ ([((2 * (((1 + (1 + xhR4)) + xhR8) + xhR11)) - 1) - xhR65])).map (Value.int .i64)), boxE b5 #[.int .i64 (1 + xhR4), uq, u, v67] 28, boxE b1 #[.int .i64 0, .slice none 0 0, .slice none 0 0, .slice none 0 0] 28]) (dst := [bigE (ss.map sqPart), rowE 83 3 uq ss.length (ss.flatMap sqC), rowE 80 2 u gs.length (gs.flatMap anC), rowE 3 1 v67 ((os ++ ([((2 * (((1 + (1 + xhR4)) + xhR8) + xhR11)) - 1) - xhR65])).length) ((os ++ ([((2 * (((1 + (1 + xhR4)) + xhR8) + xhR11)) - 1) - xhR65])).map (Value.int .i64)), boxE b5 #[.int .i64 (1 + xhR4), uq, u, v67] 28, boxE b1 #[.int .i64 0, .slice none 0 0, .slice none 0 0, .slice none 0 0] 28, curE g a len cap]) (l := l) [2, 3, 4, 5, 6, 7, 0] (by decide) rfl) ?_
     exact hq_round3 (k - 1) v67 (os ++ ([((2 * (((1 + (1 + xhR4)) + xhR8) + xhR11)) - 1) - xhR65])) ⟨by omega, by simp; omega, os_app hoo (by unfold LtOk; omega)⟩ (by omega) (sx 0 rfl (sx 1 rfl (sx 2 rfl (sx 3 rfl (sx 8 rfl (sx 9 rfl (sx 10 rfl (sx 11 rfl (sx 12 rfl (sx 16 rfl (sx 18 rfl (sx 39 rfl (sx 70 rfl (sub_nil _)))))))))))))) ((.cons_cons _ (.cons_cons _ (.cons_cons _ (.cons_cons _ (.cons_cons _ (.cons_cons _ (.cons_cons _ (.refl _)))))))))
   ·
    refine hl_less (sx 0 rfl (sx 1 rfl (sx 2 rfl (sx 3 rfl (sx 8 rfl (sx 9 rfl (sx 10 rfl (sx 11 rfl (sx 12 rfl (sx 16 rfl (sx 18 rfl (sx 39 rfl (sx 70 rfl (sx 115 rfl (sub_nil _))))))))))))))) (.refl _) ?_
    refine hl_nil ?_
    refine hq_then ?_
    refine hc_false rfl ?_
    refine hc_exit ?_
    refine hq_then_exit ?_
    refine hq_then_exit ?_
    refine hq_block_exit ?_
    refine hq_then ?_
    refine hc_seq ?_
    refine hc_region ?_
    refine hl_v rfl rfl rfl (rv_loadN (cs := [.int .i64 (1 + xhR4), uq, u, uo]) rfl (by kernel_rfl) (by kernel_rfl) rfl rfl (box_part 4 rfl 0 rfl)) ?_
    refine hl_one (i := 3) rfl (fun ho69 => ?_)
    refine hl_one (i := 2) rfl (fun ho70 => ?_)
    refine hl_one (i := 1) rfl (fun ho71 => ?_)
    refine hl_storeBoxN (i := 5) (off := 0) (us := [.int .i64 (1 + xhR4), uq, u, uo]) (l' := (bigE (ss.map sqPart) :: rowE 83 3 uq ss.length (ss.flatMap sqC) :: rowE 80 2 u gs.length (gs.flatMap anC) :: rowE 3 1 uo os.length (os.map (Value.int .i64)) :: boxE b5 #[.int .i64 (1 + xhR4), uq, u, uo] 28 :: boxE b1 #[.int .i64 (1 + xhR4), uq, u, uo] 28 :: curE g a len cap :: l)) rfl rfl rfl (by kernel_rfl) rfl rfl rfl (all_cons rfl (all_cons ho71 (all_cons ho70 (all_cons ho69 all_nil)))) rfl rfl rfl ?_
    refine hl_less (sx 0 rfl (sx 1 rfl (sx 2 rfl (sx 3 rfl (sx 8 rfl (sx 9 rfl (sx 10 rfl (sx 11 rfl (sx 12 rfl (sx 16 rfl (sx 18 rfl (sx 39 rfl (sx 70 rfl (sx 115 rfl (sub_nil _))))))))))))))) (.refl _) ?_
    refine hl_nil ?_
    refine hq_then ?_
    refine hc_ret ?_
    refine hq_oneX (i := 1) rfl (fun oQ => ?_)
    refine hq_oneX (i := 2) rfl (fun oA => ?_)
    refine hq_oneX (i := 3) rfl (fun oO => ?_)
    refine hq_conv (bigE (ss.map sqPart) :: rowE 83 3 uq ss.length (ss.flatMap sqC) :: rowE 80 2 u gs.length (gs.flatMap anC) :: rowE 3 1 uo os.length (os.map (Value.int .i64)) :: curE g a len cap :: boxE b1 #[.int .i64 (1 + xhR4), uq, u, uo] 28 :: l) (conv_pick (src := [bigE (ss.map sqPart), rowE 83 3 uq ss.length (ss.flatMap sqC), rowE 80 2 u gs.length (gs.flatMap anC), rowE 3 1 uo os.length (os.map (Value.int .i64)), boxE b5 #[.int .i64 (1 + xhR4), uq, u, uo] 28, boxE b1 #[.int .i64 (1 + xhR4), uq, u, uo] 28, curE g a len cap]) (dst := [bigE (ss.map sqPart), rowE 83 3 uq ss.length (ss.flatMap sqC), rowE 80 2 u gs.length (gs.flatMap anC), rowE 3 1 uo os.length (os.map (Value.int .i64)), curE g a len cap, boxE b1 #[.int .i64 (1 + xhR4), uq, u, uo] 28]) (l := l) [0, 1, 2, 3, 6, 5] (by decide) rfl) ?_
    refine hq_conv (bigE [curE g a len cap, ntE (Nt.mk (1 + xhR4) uq u uo ss gs os)] :: boxE b1 #[.int .i64 (1 + xhR4), uq, u, uo] 28 :: l) (fun w hm => by
      have h1 : Mem _ ([bigE (ss.map sqPart), rowE 83 3 uq ss.length (ss.flatMap sqC)] ++ (rowE 80 2 u gs.length (gs.flatMap anC) :: rowE 3 1 uo os.length (os.map (Value.int .i64)) :: curE g a len cap :: boxE b1 #[.int .i64 (1 + xhR4), uq, u, uo] 28 :: l)) w := hm
      have h2 : Mem _ ([sqsE uq ss, rowE 80 2 u gs.length (gs.flatMap anC), rowE 3 1 uo os.length (os.map (Value.int .i64))] ++ (curE g a len cap :: boxE b1 #[.int .i64 (1 + xhR4), uq, u, uo] 28 :: l)) w := h1.big
      have h3 : Mem _ (ntE (Nt.mk (1 + xhR4) uq u uo ss gs os) :: curE g a len cap :: boxE b1 #[.int .i64 (1 + xhR4), uq, u, uo] 28 :: l) w := Mem.big h2
      exact Mem.big (ps := [curE g a len cap, ntE (Nt.mk (1 + xhR4) uq u uo ss gs os)]) (h3.perm (.swap _ _ _))) ?_
    exact hq_ret (rs := [.cell 8 28]) (vs := [.agg #[.int .i64 (1 + xhR4), uq, u, uo]]) rfl ⟨⟨b1, 0, [.int .i64 (1 + xhR4), uq, u, uo], rfl, rfl, by kernel_rfl, by kernel_rfl, box_part 1 rfl 0 rfl⟩, trivial⟩ rfl (fun w hm => ⟨_, bigE [curE g a len cap, ntE (Nt.mk (1 + xhR4) uq u uo ss gs os)], rfl, ⟨Nt.mk (1 + xhR4) uq u uo ss gs os, rfl, rfl, ⟨oQ, oA, oO⟩, nt_mk (by omega) (by omega) (by omega) (by omega) (by omega) hso hgo hoo (by omega) (by omega), by dsimp only; omega, by dsimp only; omega, by dsimp only; omega⟩, hm.sub (.cons_cons _ (.cons _ (.refl _)))⟩)
open Go.RowKit
theorem and01 {a b : Int} (ha : a = 0 ∨ a = 1) (hb : b = 0 ∨ b = 1) : bits .and .i64 a b = a * b := by
  rcases ha with e | e <;> rcases hb with e' | e' <;> rw [e, e'] <;> decide
theorem xor01 {a l : Int} (ha : a = 0 ∨ a = 1) : bits .xor .i64 a (l % 2) = if l % 2 = 0 then a else 1 - a := by
  rcases (show l % 2 = 0 ∨ l % 2 = 1 by omega) with e | e <;> rcases ha with e' | e' <;> rw [e, e'] <;> decide
theorem andNot_small {v : Int} (h0 : 0 ≤ v) (h1 : v ≤ 31) : bits .andNot .i64 v 1 = v - v % 2 := by
  have key : ∀ m : Fin 32, bits .andNot .i64 ((m.val : Nat) : Int) 1 = ((m.val : Nat) : Int) - ((m.val : Nat) : Int) % 2 := by decide
  have := key ⟨v.toNat, by omega⟩
  rw [show (((⟨v.toNat, by omega⟩ : Fin 32).val : Nat) : Int) = v by show ((v.toNat : Nat) : Int) = v; omega] at this
  exact this
/-- a list and zeros behind it -/
def fillZ (C : Nat) (vs : List Int) : List Int := vs ++ List.replicate (C - vs.length) 0
theorem fill_len {C : Nat} {vs : List Int} (h : vs.length ≤ C) : (fillZ C vs).length = C := by simp [fillZ]; omega
theorem fill_get {C : Nat} {vs : List Int} {k : Nat} (h : k < vs.length) : (fillZ C vs).getD k 0 = vs.getD k 0 := getD_left h
theorem fill_all {C : Nat} {vs : List Int} (h : vs.length = C) : fillZ C vs = vs := by unfold fillZ; rw [h, Nat.sub_self]; simp
theorem fill_set {C : Nat} {vs : List Int} {x : Int} {j : Nat} (hj : j = vs.length) (h : vs.length < C) : (fillZ C vs).set j x = fillZ C (vs ++ [x]) := by
  subst hj
  unfold fillZ
  rw [List.set_append_right _ _ (Nat.le_refl _), Nat.sub_self, List.length_append, List.length_singleton, show C - vs.length = (C - (vs.length + 1)) + 1 by omega, List.replicate_succ, List.set_cons_zero]
  simp
theorem fill_one {C : Nat} (h : 1 ≤ C) : List.replicate C (0 : Int) = fillZ C [0] := by
  unfold fillZ
  obtain ⟨c, rfl⟩ : ∃ c, C = c + 1 := ⟨C - 1, by omega⟩
  simp [List.replicate_succ]
def preA (n : Nt) (inp : Int) (k : Nat) : List Int := [0] ++ (List.range k).map (fun k => inp / 2 ^ k % 2)
def preB (n : Nt) (st : List Int) (inp : Int) (k : Nat) : List Int := preA n inp n.ins.toNat ++ (st.take k).map (· % 2)
theorem preA_len (n : Nt) (inp : Int) (k : Nat) : (preA n inp k).length = 1 + k := by simp [preA]; omega
theorem preA_step (n : Nt) (inp : Int) (k : Nat) : preA n inp k ++ [inp / 2 ^ k % 2] = preA n inp (k + 1) := by unfold preA; rw [List.range_succ, List.map_append, List.append_assoc]; rfl
theorem preB_len (n : Nt) (st : List Int) (inp : Int) {k : Nat} (h : k ≤ st.length) : (preB n st inp k).length = 1 + n.ins.toNat + k := by simp [preB, preA_len]; omega
theorem preB_step (n : Nt) (st : List Int) (inp : Int) {k : Nat} (h : k < st.length) : preB n st inp k ++ [st.getD k 0 % 2] = preB n st inp (k + 1) := by unfold preB; rw [take_snocG 0 h, List.map_append, List.append_assoc]; rfl
theorem preB_zero (n : Nt) (st : List Int) (inp : Int) : preA n inp n.ins.toNat = preB n st inp 0 := by simp [preB]
theorem preB_end (n : Nt) (st : List Int) (inp : Int) : preB n st inp st.length = valL n st inp 0 := by
  show preB n st inp st.length = leafL n st inp
  unfold preB preA leafL; rw [List.take_length]
def seqZ (kd v : Int) : Int := if kd = 0 then 0 else v - v % 2 + v / 2 % 2
theorem seqZ_pos {kd v : Int} (h : 0 ≤ v) : 0 ≤ seqZ kd v := by unfold seqZ; split <;> omega
structure StOk (n : Nt) (st : List Int) : Prop where
  len : st.length = n.ss.length
  rng : ∀ k, k < n.ss.length → 0 ≤ st.getD k 0 ∧ st.getD k 0 ≤ 31 ∧ ((n.ss.getD k sq0).kd = 0 → st.getD k 0 ≤ 1)
theorem start_ok {n : Nt} (h : NtOk n) : StOk n (stL n) := ⟨str_len n (Nat.le_refl _), fun k hk => by
  rw [st_at n hk]
  rcases (h.sq _ (getD_memX (d := sq0) hk)).kind with ⟨a, b, _⟩ | ⟨a, b, _⟩
  · exact ⟨b.1, by omega, fun _ => b.2⟩
  · exact ⟨b.1, b.2, fun h => by omega⟩⟩
set_option maxHeartbeats 4000000 in
set_option maxRecDepth 100000 in
theorem l01In_any0 (x lo hi : Int) (w : World)  :
  Calls Try.prog 62 #[.int .i64 x, .int .i64 lo, .int .i64 hi] w (Ans w (.bool (inR x lo hi))) := by
 refine calls_hc (N := 15) (args := [.int .i64 x, .int .i64 lo, .int .i64 hi]) Try.func62 rfl rfl ?_
 refine hc_less _ (sx 0 rfl (sx 1 rfl (sx 2 rfl (sub_nil _)))) (.refl _) ?_
 refine hc_seq ?_
 refine hc_region ?_
 refine hl_v rfl rfl rfl (rv_ev rfl) ?_
 refine hl_less (sx 0 rfl (sx 1 rfl (sx 2 rfl (sx 6 rfl (sub_nil _))))) (.refl _) ?_
 refine hl_nil ?_
 refine hq_then ?_
 refine hc_seq ?_
 refine hc_region ?_
 refine hl_v rfl rfl rfl (rv_ev rfl) ?_
 refine hl_v rfl rfl rfl (rv_ev rfl) ?_
 refine hl_geq rfl rfl rfl rfl rfl rfl (fun h1 => ?_) (fun h1 => ?_)
 ·
  refine hl_v rfl rfl rfl (rv_ev rfl) ?_
  refine hl_v rfl rfl rfl (rv_ev rfl) ?_
  refine hl_v rfl rfl rfl (rv_ev rfl) ?_
  refine hl_leq rfl rfl rfl rfl rfl rfl (fun h2 => ?_) (fun h2 => ?_)
  ·
   refine hl_v rfl rfl rfl (rv_ev rfl) ?_
   refine hl_v rfl rfl rfl (rv_ev rfl) ?_
   refine hl_less (sx 0 rfl (sx 1 rfl (sx 2 rfl (sx 6 rfl (sub_nil _))))) (.refl _) ?_
   refine hl_nil ?_
   refine hq_then ?_
   refine hc_ret ?_
   exact hq_ans rfl rfl (congrArg _ (((inR_iff _ _ _).2 (by omega)).symm))
  ·
   refine hl_v rfl rfl rfl (rv_ev rfl) ?_
   refine hl_v rfl rfl rfl (rv_ev rfl) ?_
   refine hl_less (sx 0 rfl (sx 1 rfl (sx 2 rfl (sx 6 rfl (sub_nil _))))) (.refl _) ?_
   refine hl_nil ?_
   refine hq_then ?_
   refine hc_ret ?_
   exact hq_ans rfl rfl (congrArg _ ((Bool.eq_false_iff.2 (fun h => by have := (inR_iff _ _ _).1 h; omega)).symm))
 ·
  refine hl_v rfl rfl rfl (rv_ev rfl) ?_
  refine hl_skip rfl rfl rfl ?_
  refine hl_skip rfl rfl rfl ?_
  refine hl_skip rfl rfl rfl ?_
  refine hl_v rfl rfl rfl (rv_ev rfl) ?_
  refine hl_v rfl rfl rfl (rv_ev rfl) ?_
  refine hl_less (sx 0 rfl (sx 1 rfl (sx 2 rfl (sx 6 rfl (sub_nil _))))) (.refl _) ?_
  refine hl_nil ?_
  refine hq_then ?_
  refine hc_ret ?_
  exact hq_ans rfl rfl (congrArg _ ((Bool.eq_false_iff.2 (fun h => by have := (inR_iff _ _ _).1 h; omega)).symm))
set_option maxHeartbeats 4000000 in
set_option maxRecDepth 100000 in
theorem specNodeCount_yes (n : Nt) (w : World) (hr : RdsNt w n) (hn : NtOk n) :
  Calls Try.prog 13 #[.agg #[.int .i64 n.ins, n.sv, n.av, n.ov]] w (Ans w (.int .i64 n.cnt)) := by
 have hi0 := hn.i0
 have hi1 := hn.i1
 have hs1 := hn.s1
 have ha1 := hn.a1
 have ho1 := hn.o1
 have hcnt : n.cnt = 1 + n.ins + n.ss.length + n.gs.length := rfl
 have hfst : n.fst = 1 + n.ins + n.ss.length := rfl
 refine calls_hc (N := 36) (args := [.agg #[.int .i64 n.ins, n.sv, n.av, n.ov]]) Try.func13 rfl rfl ?_
 refine hc_less _ (sx 0 rfl (sub_nil _)) (.refl _) ?_
 refine hc_seq ?_
 refine hc_region ?_
 refine hl_box rfl rfl rfl (rq_box rfl rfl) ?_
 intro b1
 refine hl_v rfl rfl rfl (rv_ev rfl) ?_
 refine hl_less (sx 0 rfl (sx 1 rfl (sx 2 rfl (sub_nil _)))) (.refl _) ?_
 refine hl_nil ?_
 refine hq_then ?_
 refine hc_seq ?_
 refine hc_seq ?_
 refine hc_region ?_
 refine hl_v rfl rfl rfl (rv_field (k0 := 0) rfl (by kernel_rfl) rfl) ?_
 refine hl_v rfl rfl rfl (rv_load rfl (by kernel_rfl) rfl (box_cell 0 rfl rfl)) ?_
 refine hl_callV rfl rfl rfl (rq_call (by kernel_rfl) rfl (fun w hm => ret_ans (l01In_any0 n.ins 0 20 w))) ?_
 refine hl_bool (fun h2 => ?_) (fun h2 => absurd ((((inR_iff _ _ _).2 (by omega))).symm.trans h2) (by decide))
 refine hl_v rfl rfl rfl (rv_ev rfl) ?_
 refine hl_v rfl rfl rfl (rv_ev rfl) ?_
 refine hl_v rfl rfl rfl (rv_field (k0 := 1) rfl (by kernel_rfl) rfl) ?_
 refine hl_v rfl rfl rfl (rv_load rfl (by kernel_rfl) rfl (box_cell 0 rfl rfl)) ?_
 refine hl_v rfl rfl rfl (rv_len rfl Try.underlying24 rfl (rd_old hr.sq)) ?_
 refine hl_gtr rfl rfl rfl rfl rfl rfl (fun h3 => absurd h3 (by omega)) (fun h3 => ?_)
 refine hl_v rfl rfl rfl (rv_ev rfl) ?_
 refine hl_v rfl rfl rfl (rv_ev rfl) ?_
 refine hl_v rfl rfl rfl (rv_field (k0 := 2) rfl (by kernel_rfl) rfl) ?_
 refine hl_v rfl rfl rfl (rv_load rfl (by kernel_rfl) rfl (box_cell 0 rfl rfl)) ?_
 refine hl_v rfl rfl rfl (rv_len rfl Try.underlying25 rfl (rd_old hr.an)) ?_
 refine hl_gtr rfl rfl rfl rfl rfl rfl (fun h4 => absurd h4 (by omega)) (fun h4 => ?_)
 refine hl_v rfl rfl rfl (rv_ev rfl) ?_
 refine hl_v rfl rfl rfl (rv_ev rfl) ?_
 refine hl_v rfl rfl rfl (rv_field (k0 := 3) rfl (by kernel_rfl) rfl) ?_
 refine hl_v rfl rfl rfl (rv_load rfl (by kernel_rfl) rfl (box_cell 0 rfl rfl)) ?_
 refine hl_v rfl rfl rfl (rv_len rfl Try.underlying26 rfl (rd_old hr.ou)) ?_
 refine hl_gtr rfl rfl rfl rfl rfl rfl (fun h5 => absurd h5 (by omega)) (fun h5 => ?_)
 refine hl_v rfl rfl rfl (rv_ev rfl) ?_
 refine hl_less (sx 0 rfl (sx 1 rfl (sx 2 rfl (sx 24 rfl (sub_nil _))))) (.refl _) ?_
 refine hl_nil ?_
 refine hq_then ?_
 refine hc_false rfl ?_
 refine hc_skip ?_
 refine hq_then ?_
 refine hc_seq ?_
 refine hc_region ?_
 refine hl_v rfl rfl rfl (rv_field (k0 := 0) rfl (by kernel_rfl) rfl) ?_
 refine hl_v rfl rfl rfl (rv_load rfl (by kernel_rfl) rfl (box_cell 0 rfl rfl)) ?_
 refine hl_v rfl rfl rfl (rv_add rfl rfl rfl (by constructor <;> omega)) ?_
 refine hl_v rfl rfl rfl (rv_field (k0 := 1) rfl (by kernel_rfl) rfl) ?_
 refine hl_v rfl rfl rfl (rv_load rfl (by kernel_rfl) rfl (box_cell 0 rfl rfl)) ?_
 refine hl_v rfl rfl rfl (rv_len rfl Try.underlying24 rfl (rd_old hr.sq)) ?_
 refine hl_v rfl rfl rfl (rv_add rfl rfl rfl (by constructor <;> omega)) ?_
 refine hl_v rfl rfl rfl (rv_field (k0 := 2) rfl (by kernel_rfl) rfl) ?_
 refine hl_v rfl rfl rfl (rv_load rfl (by kernel_rfl) rfl (box_cell 0 rfl rfl)) ?_
 refine hl_v rfl rfl rfl (rv_len rfl Try.underlying25 rfl (rd_old hr.an)) ?_
 refine hl_v rfl rfl rfl (rv_add rfl rfl rfl (by constructor <;> omega)) ?_
 refine hl_v rfl rfl rfl (rv_ev rfl) ?_
 refine hl_less (sx 0 rfl (sx 1 rfl (sx 2 rfl (sx 24 rfl (sub_nil _))))) (.refl _) ?_
 refine hl_nil ?_
 refine hq_then ?_
 refine hc_ret ?_
 exact hq_ans rfl rfl rfl
set_option maxHeartbeats 4000000 in
set_option maxRecDepth 100000 in
theorem l08First_yes (n : Nt) (w : World) (hr : RdsNt w n) (hn : NtOk n) :
  Calls Try.prog 65 #[.agg #[.int .i64 n.ins, n.sv, n.av, n.ov]] w (Ans w (.int .i64 n.fst)) := by
 have hi0 := hn.i0
 have hi1 := hn.i1
 have hs1 := hn.s1
 have ha1 := hn.a1
 have ho1 := hn.o1
 have hcnt : n.cnt = 1 + n.ins + n.ss.length + n.gs.length := rfl
 have hfst : n.fst = 1 + n.ins + n.ss.length := rfl
 refine calls_hc (N := 10) (args := [.agg #[.int .i64 n.ins, n.sv, n.av, n.ov]]) Try.func65 rfl rfl ?_
 refine hc_less _ (sx 0 rfl (sub_nil _)) (.refl _) ?_
 refine hc_seq ?_
 refine hc_region ?_
 refine hl_box rfl rfl rfl (rq_box rfl rfl) ?_
 intro b1
 refine hl_v rfl rfl rfl (rv_ev rfl) ?_
 refine hl_less (sx 0 rfl (sx 1 rfl (sx 2 rfl (sub_nil _)))) (.refl _) ?_
 refine hl_nil ?_
 refine hq_then ?_
 refine hc_seq ?_
 refine hc_region ?_
 refine hl_v rfl rfl rfl (rv_field (k0 := 0) rfl (by kernel_rfl) rfl) ?_
 refine hl_v rfl rfl rfl (rv_load rfl (by kernel_rfl) rfl (box_cell 0 rfl rfl)) ?_
 refine hl_v rfl rfl rfl (rv_add rfl rfl rfl (by constructor <;> omega)) ?_
 refine hl_v rfl rfl rfl (rv_field (k0 := 1) rfl (by kernel_rfl) rfl) ?_
 refine hl_v rfl rfl rfl (rv_load rfl (by kernel_rfl) rfl (box_cell 0 rfl rfl)) ?_
 refine hl_v rfl rfl rfl (rv_len rfl Try.underlying24 rfl (rd_old hr.sq)) ?_
 refine hl_v rfl rfl rfl (rv_add rfl rfl rfl (by constructor <;> omega)) ?_
 refine hl_v rfl rfl rfl (rv_ev rfl) ?_
 refine hl_less (sx 0 rfl (sx 1 rfl (sx 2 rfl (sub_nil _)))) (.refl _) ?_
 refine hl_nil ?_
 refine hq_then ?_
 refine hc_ret ?_
 exact hq_ans rfl rfl rfl
set_option maxHeartbeats 4000000 in
set_option maxRecDepth 100000 in
theorem l08Lit_yes (x m : Int) (w : World) (hx : LtOk x m) (hm : m ≤ 100000) :
  Calls Try.prog 123 #[.int .i64 x, .int .i64 m] w (Ans w (.bool true)) := by
 unfold LtOk at hx
 refine calls_hc (N := 13) (args := [.int .i64 x, .int .i64 m]) Try.func123 rfl rfl ?_
 refine hc_less _ (sx 0 rfl (sx 1 rfl (sub_nil _))) (.refl _) ?_
 refine hc_seq ?_
 refine hc_region ?_
 refine hl_v rfl rfl rfl (rv_ev rfl) ?_
 refine hl_less (sx 0 rfl (sx 1 rfl (sx 4 rfl (sub_nil _)))) (.refl _) ?_
 refine hl_nil ?_
 refine hq_then ?_
 refine hc_seq ?_
 refine hc_region ?_
 refine hl_v rfl rfl rfl (rv_ev rfl) ?_
 refine hl_geq rfl rfl rfl rfl rfl rfl (fun h1 => ?_) (fun h1 => absurd h1 (by omega))
 refine hl_v rfl rfl rfl (rv_ev rfl) ?_
 refine hl_v rfl rfl rfl (rv_ev rfl) ?_
 refine hl_v rfl rfl rfl (rv_quo rfl rfl rfl (by refine ⟨?_, ?_, ?_⟩ <;> omega)) ?_
 refine hl_v rfl rfl rfl (rv_ev rfl) ?_
 refine hl_lss rfl rfl rfl rfl rfl rfl (fun h2 => ?_) (fun h2 => absurd h2 (by omega))
 refine hl_v rfl rfl rfl (rv_ev rfl) ?_
 refine hl_v rfl rfl rfl (rv_ev rfl) ?_
 refine hl_less (sx 0 rfl (sx 1 rfl (sx 4 rfl (sub_nil _)))) (.refl _) ?_
 refine hl_nil ?_
 refine hq_then ?_
 refine hc_ret ?_
 exact hq_ans rfl rfl rfl
set_option maxHeartbeats 4000000 in
set_option maxRecDepth 100000 in
theorem l08Roots_ret (n : Nt) (w : World) (hr : RdsNt w n) (hn : NtOk n) :
  Calls Try.prog 90 #[.agg #[.int .i64 n.ins, n.sv, n.av, n.ov]] w (Ret w (fun v' post => post = [rowE 3 1 v' (rtsL n n.ss.length).length ((rtsL n n.ss.length).map (Value.int .i64))])) := by
 have hi0 := hn.i0
 have hi1 := hn.i1
 have hs1 := hn.s1
 have ha1 := hn.a1
 have ho1 := hn.o1
 have hcnt : n.cnt = 1 + n.ins + n.ss.length + n.gs.length := rfl
 have hfst : n.fst = 1 + n.ins + n.ss.length := rfl
 refine calls_hc (N := 25) (args := [.agg #[.int .i64 n.ins, n.sv, n.av, n.ov]]) Try.func90 rfl rfl ?_
 refine hc_less _ (sx 0 rfl (sub_nil _)) (.refl _) ?_
 refine hc_seq ?_
 refine hc_region ?_
 refine hl_box rfl rfl rfl (rq_box rfl rfl) ?_
 intro b1
 refine hl_v rfl rfl rfl (rv_ev rfl) ?_
 refine hl_less (sx 0 rfl (sx 1 rfl (sx 2 rfl (sub_nil _)))) (.refl _) ?_
 refine hl_nil ?_
 refine hq_then ?_
 refine hc_seq ?_
 refine hc_region ?_
 refine hl_row rfl rfl rfl (rq_slice0 (s := 1) rfl Try.underlying26 (by kernel_rfl)) ?_
 intro g2
 refine hl_v rfl rfl rfl (rv_field (k0 := 3) rfl (by kernel_rfl) rfl) ?_
 refine hl_v rfl rfl rfl (rv_load rfl (by kernel_rfl) rfl (box_cell 1 rfl rfl)) ?_
 refine hl_append (i := 0) (z := .int .i64 0) (bytes := 8) (n' := n.os.length) (xs' := (n.os.map (Value.int .i64))) (L := fun v3 => [rowE 3 1 v3 n.os.length (n.os.map (Value.int .i64)), boxE b1 #[.int .i64 n.ins, n.sv, n.av, n.ov] 28]) rfl rfl rfl rfl Try.underlying26 (by kernel_rfl) (by kernel_rfl) rfl rfl rfl (rd_old hr.ou) (ints_one _) (by first | omega | (simp; omega)) ((Nat.zero_add _)) ((List.nil_append _)) (fun _ => rfl) ?_
 intro v3
 refine hl_v rfl rfl rfl (rv_ev rfl) ?_
 refine hl_less (sx 0 rfl (sx 1 rfl (sx 2 rfl (sx 3 rfl (sub_nil _))))) (.refl _) ?_
 refine hl_nil ?_
 refine hq_then ?_
 refine hc_seq ?_
 refine hc_seq ?_
 refine hc_region ?_
 refine hl_v rfl rfl rfl (rv_ev rfl) ?_
 refine hl_less (sx 0 rfl (sx 1 rfl (sx 2 rfl (sx 3 rfl (sx 4 rfl (sub_nil _)))))) (.refl _) ?_
 refine hl_nil ?_
 refine hq_then ?_
 refine hc_block ?_
 refine hc_loop3 (α := Nat) (β := Value) (γ := List Int) (fun k u zs => [rowE 3 1 u zs.length (zs.map (Value.int .i64)), boxE b1 #[.int .i64 n.ins, n.sv, n.av, n.ov] 28]) (fun k u zs => [(0, .agg #[.int .i64 n.ins, n.sv, n.av, n.ov]), (1, .pointer (some ⟨b1, 0, none⟩)), (2, .slice none 0 0), (3, u), (4, .int .i64 (k : Int))]) (fun k u zs => k ≤ n.ss.length ∧ zs = rtsL n k) (fun k u zs => n.ss.length - k) 0 _ n.os ⟨by omega, by simp [rtsL]⟩ (sx 0 rfl (sx 1 rfl (sx 2 rfl (sx 3 rfl (sx 4 rfl (sub_nil _)))))) ((.cons_cons _ (.cons_cons _ .slnil))) ?_
 intro k u zs hi4
 obtain ⟨hk, hz⟩ := hi4
 have hzl : zs.length ≤ 16 + 4 * k := by rw [hz]; exact rts_len hn k hk
 refine hc_seq ?_
 refine hc_seq ?_
 refine hc_region ?_
 refine hl_v rfl rfl rfl (rv_ev rfl) ?_
 refine hl_v rfl rfl rfl (rv_field (k0 := 1) rfl (by kernel_rfl) rfl) ?_
 refine hl_v rfl rfl rfl (rv_load rfl (by kernel_rfl) rfl (box_cell 1 rfl rfl)) ?_
 refine hl_v rfl rfl rfl (rv_len rfl Try.underlying24 rfl (rd_old hr.sq)) ?_
 refine hl_lss rfl rfl rfl rfl rfl rfl (fun h5 => ?_) (fun h5 => ?_)
 ·
  refine hl_less (sx 0 rfl (sx 1 rfl (sx 2 rfl (sx 3 rfl (sx 4 rfl (sx 13 rfl (sub_nil _))))))) (.refl _) ?_
  refine hl_nil ?_
  refine hq_then ?_
  refine hc_true rfl ?_
  refine hc_skip ?_
  refine hq_then ?_
  refine hc_seq ?_
  refine hc_block ?_
  refine hc_region ?_
  refine hl_v rfl rfl rfl (rv_ev rfl) ?_
  refine hl_v rfl rfl rfl (rv_field (k0 := 1) rfl (by kernel_rfl) rfl) ?_
  have hx4 := (hn.sq _ (getD_memX (d := sq0) (show k < n.ss.length by omega))).len
  refine hl_v rfl rfl rfl (rv_load rfl (by kernel_rfl) rfl (box_cell 1 rfl rfl)) ?_
  refine hl_v rfl rfl rfl (rv_ev rfl) ?_
  refine hl_v rfl rfl rfl (rv_index (s := 3) rfl Try.underlying24 (by kernel_rfl) rfl rfl (rd_old hr.sq) (by omega) (by first | omega | (simp only [List.length_set]; omega))) ?_
  refine hl_v rfl rfl rfl (rv_fieldEl (k0 := 2) rfl (by kernel_rfl) rfl (rd_old hr.sq) (by first | omega | (simp only [List.length_set]; omega))) ?_
  refine hl_v rfl rfl rfl (rv_loadEl (u := (n.ss.getD k sq0).iv) rfl (by kernel_rfl) rfl (rd_old hr.sq) ((flat_at sqC 3 (fun _ => rfl) n.ss sq0 (show k < _ by first | omega | (simp only [List.length_set]; omega)) (by decide)).trans rfl)) ?_
  refine hl_append (i := 0) (z := .int .i64 0) (bytes := 8) (n' := (zs ++ ((n.ss.getD k sq0).xs)).length) (xs' := ((zs ++ ((n.ss.getD k sq0).xs)).map (Value.int .i64))) (L := fun v6 => [rowE 3 1 v6 ((zs ++ ((n.ss.getD k sq0).xs)).length) ((zs ++ ((n.ss.getD k sq0).xs)).map (Value.int .i64)), boxE b1 #[.int .i64 n.ins, n.sv, n.av, n.ov] 28]) rfl rfl rfl rfl Try.underlying26 (by kernel_rfl) (by kernel_rfl) rfl rfl rfl (fun w hm => (hr.at (k := k) (by omega)).below hm.bel) (ints_one _) (by first | omega | (simp; omega)) (len_app zs ((n.ss.getD k sq0).xs)) (ints_app zs ((n.ss.getD k sq0).xs)) (fun _ => rfl) ?_
  intro v6
  refine hl_v rfl rfl rfl (rv_ev rfl) ?_
  refine hl_less (sx 0 rfl (sx 1 rfl (sx 2 rfl (sx 3 rfl (sx 4 rfl (sx 13 rfl (sub_nil _))))))) (.refl _) ?_
  refine hl_nil ?_
  refine hq_block_normal ?_
  refine hq_then ?_
  refine hc_region ?_
  refine hl_v rfl rfl rfl (rv_ev rfl) ?_
  refine hl_v rfl rfl rfl (rv_add rfl rfl rfl (by constructor <;> omega)) ?_
  refine hl_v rfl rfl rfl (rv_ev rfl) ?_
  refine hl_less (sx 0 rfl (sx 1 rfl (sx 2 rfl (sx 3 rfl (sx 4 rfl (sx 13 rfl (sub_nil _))))))) (.refl _) ?_
  refine hl_nil ?_
  exact hq_round3 (k + 1) v6 (zs ++ ((n.ss.getD k sq0).xs)) ⟨by omega, by rw [hz, rts_step n (by omega)]⟩ (by omega) (sx 0 rfl (sx 1 rfl (sx 2 rfl (sx 3 rfl (sx 4 rfl (sub_nil _)))))) ((.cons_cons _ (.cons_cons _ .slnil)))
 ·
  refine hl_less (sx 0 rfl (sx 1 rfl (sx 2 rfl (sx 3 rfl (sx 4 rfl (sx 13 rfl (sub_nil _))))))) (.refl _) ?_
  refine hl_nil ?_
  refine hq_then ?_
  refine hc_false rfl ?_
  refine hc_exit ?_
  refine hq_then_exit ?_
  refine hq_then_exit ?_
  refine hq_block_exit ?_
  refine hq_then ?_
  refine hc_seq ?_
  refine hc_region ?_
  refine hl_v rfl rfl rfl (rv_ev rfl) ?_
  refine hl_v rfl rfl rfl (rv_ev rfl) ?_
  refine hl_less (sx 0 rfl (sx 1 rfl (sx 2 rfl (sx 3 rfl (sx 4 rfl (sx 13 rfl (sub_nil _))))))) (.refl _) ?_
  refine hl_nil ?_
  refine hq_then ?_
  refine hc_ret ?_
  exact hq_retR (post := [rowE 3 1 u zs.length (zs.map (Value.int .i64))]) rfl rfl ((.cons_cons _ (.cons _ .slnil))) (by rw [hz, show k = n.ss.length by omega])
end Go.Proofs.Ytakbbebpimlnpaa
