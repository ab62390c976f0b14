/- Texts of the law FnGrown, part 4: what it uses. -/
import Derived.Test.YtagjmgfcbmbkhaaGw3
set_option linter.unusedVariables false
set_option linter.unusedSimpArgs false
namespace Go.Proofs.Ytagjmgfcbmbkhaa
open Go.RowKit Go.ChangeShapes
open Go.RowKit
open Go.Maps
set_option maxHeartbeats 4000000 in
set_option maxRecDepth 100000 in
theorem popQueue_mut (es : List Qu) (v : Value) (w0 : World) (l : List HP) (w : World) (hm0 : Mem w0 (rowE 96 2 v es.length (es.flatMap quC) :: l) w) (hl : es.length ≤ 90000000001) (hpos : 0 < es.length) :
  Calls Try.prog 78 #[v] w (fun e_ w_ => ∃ v_ p_, e_ = .returned v_ ∧ (fun v_ p_ => ∃ (q : Qu) (v2 : Value) (es' : List Qu), v_ = .tuple #[v2, .agg #[.int .i64 q.d, .int .i64 q.n]] ∧ p_ = rowE 96 2 v2 (es').length ((es').flatMap quC) ∧ (q :: es').Perm es) v_ p_ ∧ Mem w0 (p_ :: l) w_) := by
 refine calls_hcM (N := 77) (args := [v]) Try.func78 rfl rfl hm0 ?_
 refine hc_less _ (sx 0 rfl (sub_nil _)) (.refl _) ?_
 refine hc_seq ?_
 refine hc_region ?_
 refine hl_v rfl rfl rfl (rv_ev rfl) ?_
 refine hl_box rfl rfl rfl (rq_alloc (z := .agg #[.int .i64 0, .int .i64 0]) rfl (by kernel_rfl)) ?_
 intro b1
 refine hl_less (sx 0 rfl (sx 2 rfl (sx 3 rfl (sub_nil _)))) (.refl _) ?_
 refine hl_nil ?_
 refine hq_then ?_
 refine hc_seq ?_
 refine hc_region ?_
 refine hl_v rfl rfl rfl (rv_ev rfl) ?_
 refine hl_v rfl rfl rfl (rv_index (s := 2) rfl Try.underlying93 (by kernel_rfl) rfl rfl (rd_row 1 rfl) (by omega) (by first | omega | (simp only [List.length_set]; omega))) ?_
 refine hl_v rfl rfl rfl (rv_loadElN (us := [.int .i64 ((es.getD 0 qu0).d), .int .i64 ((es.getD 0 qu0).n)]) rfl (by kernel_rfl) (by kernel_rfl) rfl (rd_row 1 rfl) (by omega) rfl (flat_atN quC 2 (fun _ => rfl) es qu0 (show 0 < _ by first | omega | (simp only [List.length_set]; omega)) rfl)) ?_
 refine hl_box rfl rfl rfl (rq_alloc (z := .agg #[.int .i64 0, .int .i64 0]) rfl (by kernel_rfl)) ?_
 intro b2
 refine hl_storeBoxN (i := 0) (off := 0) (us := [.int .i64 ((es.getD 0 qu0).d), .int .i64 ((es.getD 0 qu0).n)]) (l' := (boxE b2 #[.int .i64 ((es.getD 0 qu0).d), .int .i64 ((es.getD 0 qu0).n)] 96 :: boxE b1 #[.int .i64 0, .int .i64 0] 96 :: rowE 96 2 v es.length (es.flatMap quC) :: l)) rfl rfl rfl (by kernel_rfl) rfl rfl rfl (all_cons rfl (all_cons rfl all_nil)) rfl rfl rfl ?_
 refine hl_less (sx 0 rfl (sx 2 rfl (sx 3 rfl (sx 4 rfl (sub_nil _))))) (.refl _) ?_
 refine hl_nil ?_
 refine hq_then ?_
 refine hc_seq ?_
 refine hc_region ?_
 refine hl_v rfl rfl rfl (rv_ev rfl) ?_
 refine hl_v rfl rfl rfl (rv_len rfl Try.underlying93 rfl (rd_row 2 rfl)) ?_
 refine hl_v rfl rfl rfl (rv_sub rfl rfl rfl (by constructor <;> omega)) ?_
 refine hl_v rfl rfl rfl (rv_ev rfl) ?_
 refine hl_less (sx 0 rfl (sx 2 rfl (sx 3 rfl (sx 4 rfl (sx 5 rfl (sub_nil _)))))) (.refl _) ?_
 refine hl_nil ?_
 refine hq_then ?_
 refine hc_seq ?_
 refine hc_region ?_
 refine hl_v rfl rfl rfl (rv_ev rfl) ?_
 refine hl_v rfl rfl rfl (rv_ev rfl) ?_
 refine hl_v rfl rfl rfl (rv_ev rfl) ?_
 refine hl_v rfl rfl rfl (rv_index (s := 2) rfl Try.underlying93 (by kernel_rfl) rfl rfl (rd_row 2 rfl) (by omega) (by first | omega | (simp only [List.length_set]; omega))) ?_
 refine hl_v rfl rfl rfl (rv_loadElN (us := [.int .i64 ((es.getD (((es.length : Int) - 1).toNat) qu0).d), .int .i64 ((es.getD (((es.length : Int) - 1).toNat) qu0).n)]) rfl (by kernel_rfl) (by kernel_rfl) rfl (rd_row 2 rfl) (by omega) rfl (flat_atN quC 2 (fun _ => rfl) es qu0 (show ((es.length : Int) - 1).toNat < _ by first | omega | (simp only [List.length_set]; omega)) rfl)) ?_
 refine hl_v rfl rfl rfl (rv_index (s := 2) rfl Try.underlying93 (by kernel_rfl) rfl rfl (rd_row 2 rfl) (by omega) (by first | omega | (simp only [List.length_set]; omega))) ?_
 refine hl_storeElN (i := 2) (us := [.int .i64 ((es.getD (((es.length : Int) - 1).toNat) qu0).d), .int .i64 ((es.getD (((es.length : Int) - 1).toNat) qu0).n)]) (n' := (es.set 0 (es.getD (((es.length : Int) - 1).toNat) qu0)).length) (xs' := ((es.set 0 (es.getD (((es.length : Int) - 1).toNat) qu0)).flatMap quC)) (l' := (boxE b2 #[.int .i64 ((es.getD 0 qu0).d), .int .i64 ((es.getD 0 qu0).n)] 96 :: boxE b1 #[.int .i64 0, .int .i64 0] 96 :: rowE 96 2 v ((es.set 0 (es.getD (((es.length : Int) - 1).toNat) qu0)).length) ((es.set 0 (es.getD (((es.length : Int) - 1).toNat) qu0)).flatMap quC) :: l)) rfl rfl rfl (by kernel_rfl) rfl rfl (all_cons rfl (all_cons rfl all_nil)) rfl (by first | omega | (simp only [List.length_set]; omega)) (by simp only [List.length_cons, List.length_nil]; first | omega | (simp only [List.length_set]; omega)) List.length_set.symm (flat_put quC 2 (fun _ => rfl) _ (es.getD (((es.length : Int) - 1).toNat) qu0) (by first | omega | (simp only [List.length_set]; omega))) rfl ?_
 refine hl_less (sx 0 rfl (sx 2 rfl (sx 3 rfl (sx 4 rfl (sx 5 rfl (sub_nil _)))))) (.refl _) ?_
 refine hl_nil ?_
 refine hq_then ?_
 refine hc_seq ?_
 refine hc_region ?_
 refine hl_v rfl rfl rfl (rv_ev rfl) ?_
 refine hl_v rfl rfl rfl (rv_ev rfl) ?_
 refine hl_v rfl rfl rfl (rv_slH rfl Try.underlying93 (by kernel_rfl) rfl rfl (rd_row 2 rfl) (by omega) (by simp only [List.length_set]; omega)) ?_
 refine hl_conv (rowE 96 2 v ((es.set 0 (es.getD (((es.length : Int) - 1).toNat) qu0)).length) ((es.set 0 (es.getD (((es.length : Int) - 1).toNat) qu0)).flatMap quC) :: boxE b2 #[.int .i64 ((es.getD 0 qu0).d), .int .i64 ((es.getD 0 qu0).n)] 96 :: boxE b1 #[.int .i64 0, .int .i64 0] 96 :: l) (conv_pick (src := [boxE b2 #[.int .i64 ((es.getD 0 qu0).d), .int .i64 ((es.getD 0 qu0).n)] 96, boxE b1 #[.int .i64 0, .int .i64 0] 96, rowE 96 2 v ((es.set 0 (es.getD (((es.length : Int) - 1).toNat) qu0)).length) ((es.set 0 (es.getD (((es.length : Int) - 1).toNat) qu0)).flatMap quC)]) (dst := [rowE 96 2 v ((es.set 0 (es.getD (((es.length : Int) - 1).toNat) qu0)).length) ((es.set 0 (es.getD (((es.length : Int) - 1).toNat) qu0)).flatMap quC), boxE b2 #[.int .i64 ((es.getD 0 qu0).d), .int .i64 ((es.getD 0 qu0).n)] 96, boxE b1 #[.int .i64 0, .int .i64 0] 96]) (l := l) [2, 0, 1] (by decide) rfl) ?_
 refine hl_conv (rowE 96 2 (slV v 0 ((es.length : Int) - 1).toNat 2) (((es.set 0 (es.getD (((es.length : Int) - 1).toNat) qu0)).take (((es.length : Int) - 1).toNat)).length) (((es.set 0 (es.getD (((es.length : Int) - 1).toNat) qu0)).take (((es.length : Int) - 1).toNat)).flatMap quC) :: boxE b2 #[.int .i64 ((es.getD 0 qu0).d), .int .i64 ((es.getD 0 qu0).n)] 96 :: boxE b1 #[.int .i64 0, .int .i64 0] 96 :: l) (fun w hm => hm.cutFlat quC (fun _ => rfl) (by simp only [List.length_set]; omega)) ?_
 refine hl_v rfl rfl rfl (rv_ev rfl) ?_
 refine hl_less (sx 0 rfl (sx 2 rfl (sx 3 rfl (sx 4 rfl (sx 5 rfl (sub_nil _)))))) (.refl _) ?_
 refine hl_nil ?_
 refine hq_then ?_
 refine hc_seq ?_
 refine hc_seq ?_
 refine hc_region ?_
 refine hl_v rfl rfl rfl (rv_ev rfl) ?_
 refine hl_less (sx 0 rfl (sx 2 rfl (sx 3 rfl (sx 4 rfl (sx 5 rfl (sx 6 rfl (sub_nil _))))))) (.refl _) ?_
 refine hl_nil ?_
 refine hq_then ?_
 refine hc_block ?_
 refine hc_loop2 (α := Nat) (β := List Qu) (fun i es2 => (rowE 96 2 (slV v 0 ((es.length : Int) - 1).toNat 2) es2.length (es2.flatMap quC) :: boxE b2 #[.int .i64 ((es.getD 0 qu0).d), .int .i64 ((es.getD 0 qu0).n)] 96 :: boxE b1 #[.int .i64 0, .int .i64 0] 96 :: l)) (fun i es2 => [(0, slV v 0 ((es.length : Int) - 1).toNat 2), (2, .slice none 0 0), (3, .pointer (some ⟨b1, 0, none⟩)), (4, .pointer (some ⟨b2, 0, none⟩)), (5, .int .i64 ((es.length : Int) - 1)), (6, .int .i64 (i : Int))]) (fun i es2 => (i = 0 ∨ i < es2.length) ∧ es2.length = es.length - 1 ∧ ((es.getD 0 qu0) :: es2).Perm es) (fun i es2 => es.length - i) 0 ((es.set 0 (es.getD (((es.length : Int) - 1).toNat) qu0)).take (((es.length : Int) - 1).toNat)) ⟨.inl rfl, by simp only [List.length_take, List.length_set]; omega, pop_perm2 hpos (by omega)⟩ (sx 0 rfl (sx 2 rfl (sx 3 rfl (sx 4 rfl (sx 5 rfl (sx 6 rfl (sub_nil _))))))) ((.cons_cons _ (.cons_cons _ (.cons_cons _ (.refl _))))) ?_
 intro i es2 hi3
 obtain ⟨hi, hel, hpm⟩ := hi3
 refine hc_block ?_
 refine hc_seq ?_
 refine hc_region ?_
 refine hl_v rfl rfl rfl (rv_ev rfl) ?_
 refine hl_v rfl rfl rfl (rv_mul rfl rfl rfl (by constructor <;> omega)) ?_
 refine hl_v rfl rfl rfl (rv_add rfl rfl rfl (by constructor <;> omega)) ?_
 refine hl_v rfl rfl rfl (rv_ev rfl) ?_
 refine hl_less (sx 0 rfl (sx 2 rfl (sx 3 rfl (sx 4 rfl (sx 5 rfl (sx 6 rfl (sx 7 rfl (sub_nil _)))))))) (.refl _) ?_
 refine hl_nil ?_
 refine hq_then ?_
 refine hc_seq ?_
 refine hc_seq ?_
 refine hc_region ?_
 refine hl_v rfl rfl rfl (rv_ev rfl) ?_
 refine hl_v rfl rfl rfl (rv_ev rfl) ?_
 refine hl_geq rfl rfl rfl rfl rfl rfl (fun h4 => ?_) (fun h4 => ?_)
 ·
  refine hl_less (sx 0 rfl (sx 2 rfl (sx 3 rfl (sx 4 rfl (sx 5 rfl (sx 6 rfl (sx 7 rfl (sx 28 rfl (sub_nil _))))))))) (.refl _) ?_
  refine hl_nil ?_
  refine hq_then ?_
  refine hc_true rfl ?_
  refine hc_exit ?_
  refine hq_then_exit ?_
  refine hq_block_past rfl ?_
  refine hq_then_exit ?_
  refine hq_block_exit ?_
  refine hq_then ?_
  refine hc_seq ?_
  refine hc_less _ (sx 0 rfl (sx 3 rfl (sx 4 rfl (sx 5 rfl (sx 6 rfl (sx 7 rfl (sx 28 rfl (sub_nil _)))))))) (.refl _) ?_
  refine hc_draw (by kernel_rfl) 3 [0, 1, 2] (List.take 3 _) (List.drop 3 _) [[], [], [0]] [75, 76, 2] (fun i_ vs_ v_ p_ => match i_ with | 0 => v_ = slV v 0 ((es.length : Int) - 1).toNat 2 ∧ p_ = [] | 1 => v_ = .agg #[.int .i64 ((es.getD 0 qu0).d), .int .i64 ((es.getD 0 qu0).n)] ∧ p_ = [] | 2 => v_ = slV v 0 ((es.length : Int) - 1).toNat 2 ∧ p_ = [] | _ => True) (List.take_append_drop 3 _).symm (by kernel_rfl) (by kernel_rfl) rfl rfl ?_ ?_
  ·
   refine ⟨?_, ?_, ?_, trivial⟩
   ·
    intro vf pf hR
    refine Or.inl ⟨rfl, ?_⟩
    refine rq_less (sx 0 rfl (sub_nil _)) (List.sublist_append_right _ _) ?_
    exact rq_v (rv_ev rfl)
   ·
    intro vf pf hR
    refine Or.inl ⟨rfl, ?_⟩
    refine rq_less (sx 4 rfl (sub_nil _)) (List.sublist_append_right _ _) ?_
    exact rq_v (rv_loadN (cs := [.int .i64 ((es.getD 0 qu0).d), .int .i64 ((es.getD 0 qu0).n)]) rfl (by kernel_rfl) (by kernel_rfl) rfl rfl (box_part 1 rfl 0 rfl))
   ·
    intro vf pf hR
    have e0 : (vf 0) = slV v 0 ((es.length : Int) - 1).toNat 2 ∧ (pf 0) = [] := hR 0 (by decide)
    refine Or.inl ⟨rfl, ?_⟩
    refine rq_less (sx 75 (congrArg some e0.1) (sub_nil _)) (List.sublist_append_right _ _) ?_
    exact rq_v (rv_ev rfl)
  ·
   intro vf pf hR
   have e1 : (vf 1) = .agg #[.int .i64 ((es.getD 0 qu0).d), .int .i64 ((es.getD 0 qu0).n)] ∧ (pf 1) = [] := hR 1 (by decide)
   have e2 : (vf 2) = slV v 0 ((es.length : Int) - 1).toNat 2 ∧ (pf 2) = [] := hR 2 (by decide)
   refine hl_less (l' := (rowE 96 2 (slV v 0 ((es.length : Int) - 1).toNat 2) es2.length (es2.flatMap quC) :: boxE b2 #[.int .i64 ((es.getD 0 qu0).d), .int .i64 ((es.getD 0 qu0).n)] 96 :: boxE b1 #[.int .i64 0, .int .i64 0] 96 :: l)) (sx 0 rfl (sx 2 (congrArg some e2.1) (sx 3 rfl (sx 4 rfl (sx 5 rfl (sx 6 rfl (sx 7 rfl (sx 28 rfl (sx 76 (congrArg some e1.1) (sub_nil _)))))))))) (List.sublist_append_right _ _) ?_
   simp only [List.drop_succ_cons, List.drop_zero]
   refine hl_storeBoxN (i := 2) (off := 0) (us := [.int .i64 ((es.getD 0 qu0).d), .int .i64 ((es.getD 0 qu0).n)]) (l' := (rowE 96 2 (slV v 0 ((es.length : Int) - 1).toNat 2) es2.length (es2.flatMap quC) :: boxE b2 #[.int .i64 ((es.getD 0 qu0).d), .int .i64 ((es.getD 0 qu0).n)] 96 :: boxE b1 #[.int .i64 ((es.getD 0 qu0).d), .int .i64 ((es.getD 0 qu0).n)] 96 :: l)) rfl rfl rfl (by kernel_rfl) rfl rfl rfl (all_cons rfl (all_cons rfl all_nil)) rfl rfl rfl ?_
   refine hl_less (sx 0 rfl (sx 2 rfl (sx 3 rfl (sx 4 rfl (sx 5 rfl (sx 6 rfl (sx 7 rfl (sx 28 rfl (sub_nil _))))))))) (.refl _) ?_
   refine hl_nil ?_
   refine hq_then ?_
   refine hc_ret ?_
   exact hq_ret (rs := [.tmp 2, .cell 3 96]) (vs := [slV v 0 ((es.length : Int) - 1).toNat 2, .agg #[.int .i64 ((es.getD 0 qu0).d), .int .i64 ((es.getD 0 qu0).n)]]) rfl ⟨rfl, ⟨b1, 0, [.int .i64 ((es.getD 0 qu0).d), .int .i64 ((es.getD 0 qu0).n)], rfl, rfl, by kernel_rfl, by kernel_rfl, box_part 2 rfl 0 rfl⟩, trivial⟩ rfl (fun w hm => ⟨_, rowE 96 2 (slV v 0 ((es.length : Int) - 1).toNat 2) es2.length (es2.flatMap quC), rfl, ⟨(es.getD 0 qu0), _, es2, rfl, rfl, hpm⟩, hm.sub ((.cons_cons _ (.cons _ (.cons _ (.refl _)))))⟩)
 ·
  refine hl_less (sx 0 rfl (sx 2 rfl (sx 3 rfl (sx 4 rfl (sx 5 rfl (sx 6 rfl (sx 7 rfl (sx 28 rfl (sub_nil _))))))))) (.refl _) ?_
  refine hl_nil ?_
  refine hq_then ?_
  refine hc_false rfl ?_
  refine hc_skip ?_
  refine hq_then ?_
  refine hc_seq ?_
  refine hc_seq ?_
  rcases Bool.eq_false_or_eq_true (decide (((2 * (i : Int)) + 1) + 1 < (es.length : Int) - 1)) with hb5 | hb5
  ·
   have hb5p : ((2 * (i : Int)) + 1) + 1 < (es.length : Int) - 1 := of_decide_eq_true hb5
   rcases Bool.eq_false_or_eq_true (decide ((es2.getD ((((2 * (i : Int)) + 1) + 1).toNat) qu0).d < (es2.getD (((2 * (i : Int)) + 1).toNat) qu0).d)) with hb6 | hb6
   ·
    have hb6p : (es2.getD ((((2 * (i : Int)) + 1) + 1).toNat) qu0).d < (es2.getD (((2 * (i : Int)) + 1).toNat) qu0).d := of_decide_eq_true hb6
    refine hc_draw (by kernel_rfl) 18 [0, 1, 2, 3, 4, 5, 6, 7, 8, 9, 10, 11, 12, 13, 14, 15, 16, 17] (List.take 18 _) (List.drop 18 _) [[], [0], [], [1, 2], [3], [4], [4], [4, 6], [4, 5, 7], [4, 8], [4, 9], [4], [4], [4, 11, 12], [4, 13], [4, 14], [4, 10, 15], [4, 16]] [29, 30, 31, 32, 33, 34, 35, 36, 37, 38, 39, 40, 41, 42, 43, 44, 45, 46] (fun i_ vs_ v_ p_ => match i_ with | 0 => v_ = .int .i64 ((2 * (i : Int)) + 1) ∧ p_ = [] | 1 => v_ = .int .i64 (((2 * (i : Int)) + 1) + 1) ∧ p_ = [] | 2 => v_ = .int .i64 ((es.length : Int) - 1) ∧ p_ = [] | 3 => v_ = .bool true ∧ p_ = [] | 4 => v_ = .bool true ∧ p_ = [] | 5 => v_ = slV v 0 ((es.length : Int) - 1).toNat 2 ∧ p_ = [] | 6 => v_ = .int .i64 ((2 * (i : Int)) + 1) ∧ p_ = [] | 7 => v_ = .int .i64 (((2 * (i : Int)) + 1) + 1) ∧ p_ = [] | 8 => v_ = elP (slV v 0 ((es.length : Int) - 1).toNat 2) ((((2 * (i : Int)) + 1) + 1).toNat * 2) ∧ p_ = [] | 9 => v_ = elP (slV v 0 ((es.length : Int) - 1).toNat 2) ((((2 * (i : Int)) + 1) + 1).toNat * 2 + 0) ∧ p_ = [] | 10 => v_ = .int .i64 ((es2.getD ((((2 * (i : Int)) + 1) + 1).toNat) qu0).d) ∧ p_ = [] | 11 => v_ = slV v 0 ((es.length : Int) - 1).toNat 2 ∧ p_ = [] | 12 => v_ = .int .i64 ((2 * (i : Int)) + 1) ∧ p_ = [] | 13 => v_ = elP (slV v 0 ((es.length : Int) - 1).toNat 2) (((2 * (i : Int)) + 1).toNat * 2) ∧ p_ = [] | 14 => v_ = elP (slV v 0 ((es.length : Int) - 1).toNat 2) (((2 * (i : Int)) + 1).toNat * 2 + 0) ∧ p_ = [] | 15 => v_ = .int .i64 ((es2.getD (((2 * (i : Int)) + 1).toNat) qu0).d) ∧ p_ = [] | 16 => v_ = .bool true ∧ p_ = [] | 17 => v_ = .bool true ∧ p_ = [] | _ => True) (List.take_append_drop 18 _).symm (by kernel_rfl) (by kernel_rfl) rfl rfl ?_ ?_
    ·
     refine ⟨?_, ?_, ?_, ?_, ?_, ?_, ?_, ?_, ?_, ?_, ?_, ?_, ?_, ?_, ?_, ?_, ?_, ?_, trivial⟩
     ·
      intro vf pf hR
      refine Or.inl ⟨rfl, ?_⟩
      refine rq_less (sx 7 rfl (sub_nil _)) (List.sublist_append_right _ _) ?_
      exact rq_v (rv_ev rfl)
     ·
      intro vf pf hR
      have e0 : (vf 0) = .int .i64 ((2 * (i : Int)) + 1) ∧ (pf 0) = [] := hR 0 (by decide)
      refine Or.inl ⟨rfl, ?_⟩
      refine rq_less (sx 29 (congrArg some e0.1) (sub_nil _)) (List.sublist_append_right _ _) ?_
      exact rq_v (rv_add rfl rfl rfl (by constructor <;> omega))
     ·
      intro vf pf hR
      refine Or.inl ⟨rfl, ?_⟩
      refine rq_less (sx 5 rfl (sub_nil _)) (List.sublist_append_right _ _) ?_
      exact rq_v (rv_ev rfl)
     ·
      intro vf pf hR
      have e1 : (vf 1) = .int .i64 (((2 * (i : Int)) + 1) + 1) ∧ (pf 1) = [] := hR 1 (by decide)
      have e2 : (vf 2) = .int .i64 ((es.length : Int) - 1) ∧ (pf 2) = [] := hR 2 (by decide)
      refine Or.inl ⟨rfl, ?_⟩
      refine rq_less (sx 30 (congrArg some e1.1) (sx 31 (congrArg some e2.1) (sub_nil _))) (List.sublist_append_right _ _) ?_
      exact rq_mono (rq_v (rv_cmp rfl rfl rfl rfl)) (fun _ _ h => ⟨h.1.trans (congrArg Value.bool hb5), h.2⟩)
     ·
      intro vf pf hR
      have e3 : (vf 3) = .bool true ∧ (pf 3) = [] := hR 3 (by decide)
      refine Or.inl ⟨rfl, ?_⟩
      refine rq_less (sx 32 (congrArg some e3.1) (sub_nil _)) (List.sublist_append_right _ _) ?_
      exact rq_v (rv_ev rfl)
     ·
      intro vf pf hR
      have e4 : (vf 4) = .bool true ∧ (pf 4) = [] := hR 4 (by decide)
      refine Or.inl ⟨want_of (congrArg some e4.1) rfl, ?_⟩
      refine rq_less (sx 0 rfl (sub_nil _)) (List.sublist_append_right _ _) ?_
      exact rq_v (rv_ev rfl)
     ·
      intro vf pf hR
      have e4 : (vf 4) = .bool true ∧ (pf 4) = [] := hR 4 (by decide)
      refine Or.inl ⟨want_of (congrArg some e4.1) rfl, ?_⟩
      refine rq_less (sx 7 rfl (sub_nil _)) (List.sublist_append_right _ _) ?_
      exact rq_v (rv_ev rfl)
     ·
      intro vf pf hR
      have e4 : (vf 4) = .bool true ∧ (pf 4) = [] := hR 4 (by decide)
      have e6 : (vf 6) = .int .i64 ((2 * (i : Int)) + 1) ∧ (pf 6) = [] := hR 6 (by decide)
      refine Or.inl ⟨want_of (congrArg some e4.1) rfl, ?_⟩
      refine rq_less (sx 35 (congrArg some e6.1) (sub_nil _)) (List.sublist_append_right _ _) ?_
      exact rq_v (rv_add rfl rfl rfl (by constructor <;> omega))
     ·
      intro vf pf hR
      have e4 : (vf 4) = .bool true ∧ (pf 4) = [] := hR 4 (by decide)
      have e5 : (vf 5) = slV v 0 ((es.length : Int) - 1).toNat 2 ∧ (pf 5) = [] := hR 5 (by decide)
      have e7 : (vf 7) = .int .i64 (((2 * (i : Int)) + 1) + 1) ∧ (pf 7) = [] := hR 7 (by decide)
      refine Or.inl ⟨want_of (congrArg some e4.1) rfl, ?_⟩
      refine rq_less (sx 34 (congrArg some e5.1) (sx 36 (congrArg some e7.1) (sub_nil _))) (List.sublist_append_right _ _) ?_
      exact rq_v (rv_index (s := 2) rfl Try.underlying93 (by kernel_rfl) rfl rfl (rd_row 0 rfl) (by omega) (by first | omega | (simp only [List.length_set]; omega)))
     ·
      intro vf pf hR
      have e4 : (vf 4) = .bool true ∧ (pf 4) = [] := hR 4 (by decide)
      have e8 : (vf 8) = elP (slV v 0 ((es.length : Int) - 1).toNat 2) ((((2 * (i : Int)) + 1) + 1).toNat * 2) ∧ (pf 8) = [] := hR 8 (by decide)
      refine Or.inl ⟨want_of (congrArg some e4.1) rfl, ?_⟩
      refine rq_less (sx 37 (congrArg some e8.1) (sub_nil _)) (List.sublist_append_right _ _) ?_
      exact rq_v (rv_fieldEl (k0 := 0) rfl (by kernel_rfl) rfl (rd_row 0 rfl) (by first | omega | (simp only [List.length_set]; omega)))
     ·
      intro vf pf hR
      have e4 : (vf 4) = .bool true ∧ (pf 4) = [] := hR 4 (by decide)
      have e9 : (vf 9) = elP (slV v 0 ((es.length : Int) - 1).toNat 2) ((((2 * (i : Int)) + 1) + 1).toNat * 2 + 0) ∧ (pf 9) = [] := hR 9 (by decide)
      refine Or.inl ⟨want_of (congrArg some e4.1) rfl, ?_⟩
      refine rq_less (sx 38 (congrArg some e9.1) (sub_nil _)) (List.sublist_append_right _ _) ?_
      exact rq_v (rv_loadEl (u := .int .i64 ((es2.getD ((((2 * (i : Int)) + 1) + 1).toNat) qu0).d)) rfl (by kernel_rfl) rfl (rd_row 0 rfl) ((flat_at quC 2 (fun _ => rfl) es2 qu0 (show (((2 * (i : Int)) + 1) + 1).toNat < _ by first | omega | (simp only [List.length_set]; omega)) (by decide)).trans rfl))
     ·
      intro vf pf hR
      have e4 : (vf 4) = .bool true ∧ (pf 4) = [] := hR 4 (by decide)
      refine Or.inl ⟨want_of (congrArg some e4.1) rfl, ?_⟩
      refine rq_less (sx 0 rfl (sub_nil _)) (List.sublist_append_right _ _) ?_
      exact rq_v (rv_ev rfl)
     ·
      intro vf pf hR
      have e4 : (vf 4) = .bool true ∧ (pf 4) = [] := hR 4 (by decide)
      refine Or.inl ⟨want_of (congrArg some e4.1) rfl, ?_⟩
      refine rq_less (sx 7 rfl (sub_nil _)) (List.sublist_append_right _ _) ?_
      exact rq_v (rv_ev rfl)
     ·
      intro vf pf hR
      have e4 : (vf 4) = .bool true ∧ (pf 4) = [] := hR 4 (by decide)
      have e11 : (vf 11) = slV v 0 ((es.length : Int) - 1).toNat 2 ∧ (pf 11) = [] := hR 11 (by decide)
      have e12 : (vf 12) = .int .i64 ((2 * (i : Int)) + 1) ∧ (pf 12) = [] := hR 12 (by decide)
      refine Or.inl ⟨want_of (congrArg some e4.1) rfl, ?_⟩
      refine rq_less (sx 40 (congrArg some e11.1) (sx 41 (congrArg some e12.1) (sub_nil _))) (List.sublist_append_right _ _) ?_
      exact rq_v (rv_index (s := 2) rfl Try.underlying93 (by kernel_rfl) rfl rfl (rd_row 0 rfl) (by omega) (by first | omega | (simp only [List.length_set]; omega)))
     ·
      intro vf pf hR
      have e4 : (vf 4) = .bool true ∧ (pf 4) = [] := hR 4 (by decide)
      have e13 : (vf 13) = elP (slV v 0 ((es.length : Int) - 1).toNat 2) (((2 * (i : Int)) + 1).toNat * 2) ∧ (pf 13) = [] := hR 13 (by decide)
      refine Or.inl ⟨want_of (congrArg some e4.1) rfl, ?_⟩
      refine rq_less (sx 42 (congrArg some e13.1) (sub_nil _)) (List.sublist_append_right _ _) ?_
      exact rq_v (rv_fieldEl (k0 := 0) rfl (by kernel_rfl) rfl (rd_row 0 rfl) (by first | omega | (simp only [List.length_set]; omega)))
     ·
      intro vf pf hR
      have e4 : (vf 4) = .bool true ∧ (pf 4) = [] := hR 4 (by decide)
      have e14 : (vf 14) = elP (slV v 0 ((es.length : Int) - 1).toNat 2) (((2 * (i : Int)) + 1).toNat * 2 + 0) ∧ (pf 14) = [] := hR 14 (by decide)
      refine Or.inl ⟨want_of (congrArg some e4.1) rfl, ?_⟩
      refine rq_less (sx 43 (congrArg some e14.1) (sub_nil _)) (List.sublist_append_right _ _) ?_
      exact rq_v (rv_loadEl (u := .int .i64 ((es2.getD (((2 * (i : Int)) + 1).toNat) qu0).d)) rfl (by kernel_rfl) rfl (rd_row 0 rfl) ((flat_at quC 2 (fun _ => rfl) es2 qu0 (show ((2 * (i : Int)) + 1).toNat < _ by first | omega | (simp only [List.length_set]; omega)) (by decide)).trans rfl))
     ·
      intro vf pf hR
      have e4 : (vf 4) = .bool true ∧ (pf 4) = [] := hR 4 (by decide)
      have e10 : (vf 10) = .int .i64 ((es2.getD ((((2 * (i : Int)) + 1) + 1).toNat) qu0).d) ∧ (pf 10) = [] := hR 10 (by decide)
      have e15 : (vf 15) = .int .i64 ((es2.getD (((2 * (i : Int)) + 1).toNat) qu0).d) ∧ (pf 15) = [] := hR 15 (by decide)
      refine Or.inl ⟨want_of (congrArg some e4.1) rfl, ?_⟩
      refine rq_less (sx 39 (congrArg some e10.1) (sx 44 (congrArg some e15.1) (sub_nil _))) (List.sublist_append_right _ _) ?_
      exact rq_mono (rq_v (rv_cmp rfl rfl rfl rfl)) (fun _ _ h => ⟨h.1.trans (congrArg Value.bool hb6), h.2⟩)
     ·
      intro vf pf hR
      have e4 : (vf 4) = .bool true ∧ (pf 4) = [] := hR 4 (by decide)
      have e16 : (vf 16) = .bool true ∧ (pf 16) = [] := hR 16 (by decide)
      refine Or.inl ⟨rfl, ?_⟩
      refine rq_less (sx 33 (congrArg some e4.1) (sx 45 (congrArg some e16.1) (sub_nil _))) (List.sublist_append_right _ _) ?_
      exact rq_v (rv_ev rfl)
    ·
     intro vf pf hR
     have e17 : (vf 17) = .bool true ∧ (pf 17) = [] := hR 17 (by decide)
     refine hl_less (l' := (rowE 96 2 (slV v 0 ((es.length : Int) - 1).toNat 2) es2.length (es2.flatMap quC) :: boxE b2 #[.int .i64 ((es.getD 0 qu0).d), .int .i64 ((es.getD 0 qu0).n)] 96 :: boxE b1 #[.int .i64 0, .int .i64 0] 96 :: l)) (sx 0 rfl (sx 2 rfl (sx 3 rfl (sx 4 rfl (sx 5 rfl (sx 6 rfl (sx 7 rfl (sx 28 rfl (sx 46 (congrArg some e17.1) (sub_nil _)))))))))) (List.sublist_append_right _ _) ?_
     simp only [List.drop_succ_cons, List.drop_zero]
     refine hl_less (sx 0 rfl (sx 2 rfl (sx 3 rfl (sx 4 rfl (sx 5 rfl (sx 6 rfl (sx 7 rfl (sx 28 rfl (sx 46 rfl (sub_nil _)))))))))) (.refl _) ?_
     refine hl_nil ?_
     refine hq_then ?_
     refine hc_true rfl ?_
     refine hc_region ?_
     refine hl_v rfl rfl rfl (rv_ev rfl) ?_
     refine hl_v rfl rfl rfl (rv_add rfl rfl rfl (by constructor <;> omega)) ?_
     refine hl_v rfl rfl rfl (rv_ev rfl) ?_
     refine hl_less (sx 0 rfl (sx 2 rfl (sx 3 rfl (sx 4 rfl (sx 5 rfl (sx 6 rfl (sx 7 rfl (sx 28 rfl (sx 46 rfl (sub_nil _)))))))))) (.refl _) ?_
     refine hl_nil ?_
     refine hq_then ?_
     refine hc_seq ?_
     refine hc_seq ?_
     rcases Bool.eq_false_or_eq_true (decide ((es2.getD i qu0).d ≤ (es2.getD ((((2 * (i : Int)) + 1) + 1).toNat) qu0).d)) with hb7 | hb7
     ·
      have hb7p : (es2.getD i qu0).d ≤ (es2.getD ((((2 * (i : Int)) + 1) + 1).toNat) qu0).d := of_decide_eq_true hb7
      refine hc_draw (by kernel_rfl) 11 [0, 1, 2, 3, 4, 5, 6, 7, 8, 9, 10] (List.take 11 _) (List.drop 11 _) [[], [], [0, 1], [2], [3], [], [], [5, 6], [7], [8], [4, 9]] [49, 50, 51, 52, 53, 54, 55, 56, 57, 58, 59] (fun i_ vs_ v_ p_ => match i_ with | 0 => v_ = slV v 0 ((es.length : Int) - 1).toNat 2 ∧ p_ = [] | 1 => v_ = .int .i64 (i : Int) ∧ p_ = [] | 2 => v_ = elP (slV v 0 ((es.length : Int) - 1).toNat 2) (((i : Int)).toNat * 2) ∧ p_ = [] | 3 => v_ = elP (slV v 0 ((es.length : Int) - 1).toNat 2) (((i : Int)).toNat * 2 + 0) ∧ p_ = [] | 4 => v_ = .int .i64 ((es2.getD i qu0).d) ∧ p_ = [] | 5 => v_ = slV v 0 ((es.length : Int) - 1).toNat 2 ∧ p_ = [] | 6 => v_ = .int .i64 (((2 * (i : Int)) + 1) + 1) ∧ p_ = [] | 7 => v_ = elP (slV v 0 ((es.length : Int) - 1).toNat 2) ((((2 * (i : Int)) + 1) + 1).toNat * 2) ∧ p_ = [] | 8 => v_ = elP (slV v 0 ((es.length : Int) - 1).toNat 2) ((((2 * (i : Int)) + 1) + 1).toNat * 2 + 0) ∧ p_ = [] | 9 => v_ = .int .i64 ((es2.getD ((((2 * (i : Int)) + 1) + 1).toNat) qu0).d) ∧ p_ = [] | 10 => v_ = .bool true ∧ p_ = [] | _ => True) (List.take_append_drop 11 _).symm (by kernel_rfl) (by kernel_rfl) rfl rfl ?_ ?_
      ·
       refine ⟨?_, ?_, ?_, ?_, ?_, ?_, ?_, ?_, ?_, ?_, ?_, trivial⟩
       ·
        intro vf pf hR
        refine Or.inl ⟨rfl, ?_⟩
        refine rq_less (sx 0 rfl (sub_nil _)) (List.sublist_append_right _ _) ?_
        exact rq_v (rv_ev rfl)
       ·
        intro vf pf hR
        refine Or.inl ⟨rfl, ?_⟩
        refine rq_less (sx 6 rfl (sub_nil _)) (List.sublist_append_right _ _) ?_
        exact rq_v (rv_ev rfl)
       ·
        intro vf pf hR
        have e0 : (vf 0) = slV v 0 ((es.length : Int) - 1).toNat 2 ∧ (pf 0) = [] := hR 0 (by decide)
        have e1 : (vf 1) = .int .i64 (i : Int) ∧ (pf 1) = [] := hR 1 (by decide)
        refine Or.inl ⟨rfl, ?_⟩
        refine rq_less (sx 49 (congrArg some e0.1) (sx 50 (congrArg some e1.1) (sub_nil _))) (List.sublist_append_right _ _) ?_
        exact rq_v (rv_index (s := 2) rfl Try.underlying93 (by kernel_rfl) rfl rfl (rd_row 0 rfl) (by omega) (by first | omega | (simp only [List.length_set]; omega)))
       ·
        intro vf pf hR
        have e2 : (vf 2) = elP (slV v 0 ((es.length : Int) - 1).toNat 2) (((i : Int)).toNat * 2) ∧ (pf 2) = [] := hR 2 (by decide)
        refine Or.inl ⟨rfl, ?_⟩
        refine rq_less (sx 51 (congrArg some e2.1) (sub_nil _)) (List.sublist_append_right _ _) ?_
        exact rq_v (rv_fieldEl (k0 := 0) rfl (by kernel_rfl) rfl (rd_row 0 rfl) (by first | omega | (simp only [List.length_set]; omega)))
       ·
        intro vf pf hR
        have e3 : (vf 3) = elP (slV v 0 ((es.length : Int) - 1).toNat 2) (((i : Int)).toNat * 2 + 0) ∧ (pf 3) = [] := hR 3 (by decide)
        refine Or.inl ⟨rfl, ?_⟩
        refine rq_less (sx 52 (congrArg some e3.1) (sub_nil _)) (List.sublist_append_right _ _) ?_
        exact rq_v (rv_loadEl (u := .int .i64 ((es2.getD i qu0).d)) rfl (by kernel_rfl) rfl (rd_row 0 rfl) ((flat_at quC 2 (fun _ => rfl) es2 qu0 (show i < _ by first | omega | (simp only [List.length_set]; omega)) (by decide)).trans rfl))
       ·
        intro vf pf hR
        refine Or.inl ⟨rfl, ?_⟩
        refine rq_less (sx 0 rfl (sub_nil _)) (List.sublist_append_right _ _) ?_
        exact rq_v (rv_ev rfl)
       ·
        intro vf pf hR
        refine Or.inl ⟨rfl, ?_⟩
        refine rq_less (sx 7 rfl (sub_nil _)) (List.sublist_append_right _ _) ?_
        exact rq_v (rv_ev rfl)
       ·
        intro vf pf hR
        have e5 : (vf 5) = slV v 0 ((es.length : Int) - 1).toNat 2 ∧ (pf 5) = [] := hR 5 (by decide)
        have e6 : (vf 6) = .int .i64 (((2 * (i : Int)) + 1) + 1) ∧ (pf 6) = [] := hR 6 (by decide)
        refine Or.inl ⟨rfl, ?_⟩
        refine rq_less (sx 54 (congrArg some e5.1) (sx 55 (congrArg some e6.1) (sub_nil _))) (List.sublist_append_right _ _) ?_
        exact rq_v (rv_index (s := 2) rfl Try.underlying93 (by kernel_rfl) rfl rfl (rd_row 0 rfl) (by omega) (by first | omega | (simp only [List.length_set]; omega)))
       ·
        intro vf pf hR
        have e7 : (vf 7) = elP (slV v 0 ((es.length : Int) - 1).toNat 2) ((((2 * (i : Int)) + 1) + 1).toNat * 2) ∧ (pf 7) = [] := hR 7 (by decide)
        refine Or.inl ⟨rfl, ?_⟩
        refine rq_less (sx 56 (congrArg some e7.1) (sub_nil _)) (List.sublist_append_right _ _) ?_
        exact rq_v (rv_fieldEl (k0 := 0) rfl (by kernel_rfl) rfl (rd_row 0 rfl) (by first | omega | (simp only [List.length_set]; omega)))
       ·
        intro vf pf hR
        have e8 : (vf 8) = elP (slV v 0 ((es.length : Int) - 1).toNat 2) ((((2 * (i : Int)) + 1) + 1).toNat * 2 + 0) ∧ (pf 8) = [] := hR 8 (by decide)
        refine Or.inl ⟨rfl, ?_⟩
        refine rq_less (sx 57 (congrArg some e8.1) (sub_nil _)) (List.sublist_append_right _ _) ?_
        exact rq_v (rv_loadEl (u := .int .i64 ((es2.getD ((((2 * (i : Int)) + 1) + 1).toNat) qu0).d)) rfl (by kernel_rfl) rfl (rd_row 0 rfl) ((flat_at quC 2 (fun _ => rfl) es2 qu0 (show (((2 * (i : Int)) + 1) + 1).toNat < _ by first | omega | (simp only [List.length_set]; omega)) (by decide)).trans rfl))
       ·
        intro vf pf hR
        have e4 : (vf 4) = .int .i64 ((es2.getD i qu0).d) ∧ (pf 4) = [] := hR 4 (by decide)
        have e9 : (vf 9) = .int .i64 ((es2.getD ((((2 * (i : Int)) + 1) + 1).toNat) qu0).d) ∧ (pf 9) = [] := hR 9 (by decide)
        refine Or.inl ⟨rfl, ?_⟩
        refine rq_less (sx 53 (congrArg some e4.1) (sx 58 (congrArg some e9.1) (sub_nil _))) (List.sublist_append_right _ _) ?_
        exact rq_mono (rq_v (rv_cmp rfl rfl rfl rfl)) (fun _ _ h => ⟨h.1.trans (congrArg Value.bool hb7), h.2⟩)
      ·
       intro vf pf hR
       have e10 : (vf 10) = .bool true ∧ (pf 10) = [] := hR 10 (by decide)
       refine hl_less (l' := (rowE 96 2 (slV v 0 ((es.length : Int) - 1).toNat 2) es2.length (es2.flatMap quC) :: boxE b2 #[.int .i64 ((es.getD 0 qu0).d), .int .i64 ((es.getD 0 qu0).n)] 96 :: boxE b1 #[.int .i64 0, .int .i64 0] 96 :: l)) (sx 0 rfl (sx 2 rfl (sx 3 rfl (sx 4 rfl (sx 5 rfl (sx 6 rfl (sx 7 rfl (sx 28 rfl (sx 46 rfl (sx 59 (congrArg some e10.1) (sub_nil _))))))))))) (List.sublist_append_right _ _) ?_
       simp only [List.drop_succ_cons, List.drop_zero]
       refine hl_less (sx 0 rfl (sx 2 rfl (sx 3 rfl (sx 4 rfl (sx 5 rfl (sx 6 rfl (sx 7 rfl (sx 28 rfl (sx 46 rfl (sx 59 rfl (sub_nil _))))))))))) (.refl _) ?_
       refine hl_nil ?_
       refine hq_then ?_
       refine hc_true rfl ?_
       refine hc_exit ?_
       refine hq_then_exit ?_
       refine hq_block_past rfl ?_
       refine hq_then_exit ?_
       refine hq_block_exit ?_
       refine hq_then ?_
       refine hc_seq ?_
       refine hc_less _ (sx 0 rfl (sx 3 rfl (sx 4 rfl (sx 5 rfl (sx 6 rfl (sx 7 rfl (sx 28 rfl (sx 46 rfl (sx 59 rfl (sub_nil _)))))))))) (.refl _) ?_
       refine hc_draw (by kernel_rfl) 3 [0, 1, 2] (List.take 3 _) (List.drop 3 _) [[], [], [0]] [75, 76, 2] (fun i_ vs_ v_ p_ => match i_ with | 0 => v_ = slV v 0 ((es.length : Int) - 1).toNat 2 ∧ p_ = [] | 1 => v_ = .agg #[.int .i64 ((es.getD 0 qu0).d), .int .i64 ((es.getD 0 qu0).n)] ∧ p_ = [] | 2 => v_ = slV v 0 ((es.length : Int) - 1).toNat 2 ∧ p_ = [] | _ => True) (List.take_append_drop 3 _).symm (by kernel_rfl) (by kernel_rfl) rfl rfl ?_ ?_
       ·
        refine ⟨?_, ?_, ?_, trivial⟩
        ·
         intro vf pf hR
         refine Or.inl ⟨rfl, ?_⟩
         refine rq_less (sx 0 rfl (sub_nil _)) (List.sublist_append_right _ _) ?_
         exact rq_v (rv_ev rfl)
        ·
         intro vf pf hR
         refine Or.inl ⟨rfl, ?_⟩
         refine rq_less (sx 4 rfl (sub_nil _)) (List.sublist_append_right _ _) ?_
         exact rq_v (rv_loadN (cs := [.int .i64 ((es.getD 0 qu0).d), .int .i64 ((es.getD 0 qu0).n)]) rfl (by kernel_rfl) (by kernel_rfl) rfl rfl (box_part 1 rfl 0 rfl))
        ·
         intro vf pf hR
         have e0 : (vf 0) = slV v 0 ((es.length : Int) - 1).toNat 2 ∧ (pf 0) = [] := hR 0 (by decide)
         refine Or.inl ⟨rfl, ?_⟩
         refine rq_less (sx 75 (congrArg some e0.1) (sub_nil _)) (List.sublist_append_right _ _) ?_
         exact rq_v (rv_ev rfl)
       ·
        intro vf pf hR
        have e1 : (vf 1) = .agg #[.int .i64 ((es.getD 0 qu0).d), .int .i64 ((es.getD 0 qu0).n)] ∧ (pf 1) = [] := hR 1 (by decide)
        have e2 : (vf 2) = slV v 0 ((es.length : Int) - 1).toNat 2 ∧ (pf 2) = [] := hR 2 (by decide)
        refine hl_less (l' := (rowE 96 2 (slV v 0 ((es.length : Int) - 1).toNat 2) es2.length (es2.flatMap quC) :: boxE b2 #[.int .i64 ((es.getD 0 qu0).d), .int .i64 ((es.getD 0 qu0).n)] 96 :: boxE b1 #[.int .i64 0, .int .i64 0] 96 :: l)) (sx 0 rfl (sx 2 (congrArg some e2.1) (sx 3 rfl (sx 4 rfl (sx 5 rfl (sx 6 rfl (sx 7 rfl (sx 28 rfl (sx 46 rfl (sx 59 rfl (sx 76 (congrArg some e1.1) (sub_nil _)))))))))))) (List.sublist_append_right _ _) ?_
        simp only [List.drop_succ_cons, List.drop_zero]
        refine hl_storeBoxN (i := 2) (off := 0) (us := [.int .i64 ((es.getD 0 qu0).d), .int .i64 ((es.getD 0 qu0).n)]) (l' := (rowE 96 2 (slV v 0 ((es.length : Int) - 1).toNat 2) es2.length (es2.flatMap quC) :: boxE b2 #[.int .i64 ((es.getD 0 qu0).d), .int .i64 ((es.getD 0 qu0).n)] 96 :: boxE b1 #[.int .i64 ((es.getD 0 qu0).d), .int .i64 ((es.getD 0 qu0).n)] 96 :: l)) rfl rfl rfl (by kernel_rfl) rfl rfl rfl (all_cons rfl (all_cons rfl all_nil)) rfl rfl rfl ?_
        refine hl_less (sx 0 rfl (sx 2 rfl (sx 3 rfl (sx 4 rfl (sx 5 rfl (sx 6 rfl (sx 7 rfl (sx 28 rfl (sx 46 rfl (sx 59 rfl (sub_nil _))))))))))) (.refl _) ?_
        refine hl_nil ?_
        refine hq_then ?_
        refine hc_ret ?_
        exact hq_ret (rs := [.tmp 2, .cell 3 96]) (vs := [slV v 0 ((es.length : Int) - 1).toNat 2, .agg #[.int .i64 ((es.getD 0 qu0).d), .int .i64 ((es.getD 0 qu0).n)]]) rfl ⟨rfl, ⟨b1, 0, [.int .i64 ((es.getD 0 qu0).d), .int .i64 ((es.getD 0 qu0).n)], rfl, rfl, by kernel_rfl, by kernel_rfl, box_part 2 rfl 0 rfl⟩, trivial⟩ rfl (fun w hm => ⟨_, rowE 96 2 (slV v 0 ((es.length : Int) - 1).toNat 2) es2.length (es2.flatMap quC), rfl, ⟨(es.getD 0 qu0), _, es2, rfl, rfl, hpm⟩, hm.sub ((.cons_cons _ (.cons _ (.cons _ (.refl _)))))⟩)
     ·
      have hb7p : ¬ ((es2.getD i qu0).d ≤ (es2.getD ((((2 * (i : Int)) + 1) + 1).toNat) qu0).d) := of_decide_eq_false hb7
      refine hc_draw (by kernel_rfl) 11 [0, 1, 2, 3, 4, 5, 6, 7, 8, 9, 10] (List.take 11 _) (List.drop 11 _) [[], [], [0, 1], [2], [3], [], [], [5, 6], [7], [8], [4, 9]] [49, 50, 51, 52, 53, 54, 55, 56, 57, 58, 59] (fun i_ vs_ v_ p_ => match i_ with | 0 => v_ = slV v 0 ((es.length : Int) - 1).toNat 2 ∧ p_ = [] | 1 => v_ = .int .i64 (i : Int) ∧ p_ = [] | 2 => v_ = elP (slV v 0 ((es.length : Int) - 1).toNat 2) (((i : Int)).toNat * 2) ∧ p_ = [] | 3 => v_ = elP (slV v 0 ((es.length : Int) - 1).toNat 2) (((i : Int)).toNat * 2 + 0) ∧ p_ = [] | 4 => v_ = .int .i64 ((es2.getD i qu0).d) ∧ p_ = [] | 5 => v_ = slV v 0 ((es.length : Int) - 1).toNat 2 ∧ p_ = [] | 6 => v_ = .int .i64 (((2 * (i : Int)) + 1) + 1) ∧ p_ = [] | 7 => v_ = elP (slV v 0 ((es.length : Int) - 1).toNat 2) ((((2 * (i : Int)) + 1) + 1).toNat * 2) ∧ p_ = [] | 8 => v_ = elP (slV v 0 ((es.length : Int) - 1).toNat 2) ((((2 * (i : Int)) + 1) + 1).toNat * 2 + 0) ∧ p_ = [] | 9 => v_ = .int .i64 ((es2.getD ((((2 * (i : Int)) + 1) + 1).toNat) qu0).d) ∧ p_ = [] | 10 => v_ = .bool false ∧ p_ = [] | _ => True) (List.take_append_drop 11 _).symm (by kernel_rfl) (by kernel_rfl) rfl rfl ?_ ?_
      ·
       refine ⟨?_, ?_, ?_, ?_, ?_, ?_, ?_, ?_, ?_, ?_, ?_, trivial⟩
       ·
        intro vf pf hR
        refine Or.inl ⟨rfl, ?_⟩
        refine rq_less (sx 0 rfl (sub_nil _)) (List.sublist_append_right _ _) ?_
        exact rq_v (rv_ev rfl)
       ·
        intro vf pf hR
        refine Or.inl ⟨rfl, ?_⟩
        refine rq_less (sx 6 rfl (sub_nil _)) (List.sublist_append_right _ _) ?_
        exact rq_v (rv_ev rfl)
       ·
        intro vf pf hR
        have e0 : (vf 0) = slV v 0 ((es.length : Int) - 1).toNat 2 ∧ (pf 0) = [] := hR 0 (by decide)
        have e1 : (vf 1) = .int .i64 (i : Int) ∧ (pf 1) = [] := hR 1 (by decide)
        refine Or.inl ⟨rfl, ?_⟩
        refine rq_less (sx 49 (congrArg some e0.1) (sx 50 (congrArg some e1.1) (sub_nil _))) (List.sublist_append_right _ _) ?_
        exact rq_v (rv_index (s := 2) rfl Try.underlying93 (by kernel_rfl) rfl rfl (rd_row 0 rfl) (by omega) (by first | omega | (simp only [List.length_set]; omega)))
       ·
        intro vf pf hR
        have e2 : (vf 2) = elP (slV v 0 ((es.length : Int) - 1).toNat 2) (((i : Int)).toNat * 2) ∧ (pf 2) = [] := hR 2 (by decide)
        refine Or.inl ⟨rfl, ?_⟩
        refine rq_less (sx 51 (congrArg some e2.1) (sub_nil _)) (List.sublist_append_right _ _) ?_
        exact rq_v (rv_fieldEl (k0 := 0) rfl (by kernel_rfl) rfl (rd_row 0 rfl) (by first | omega | (simp only [List.length_set]; omega)))
       ·
        intro vf pf hR
        have e3 : (vf 3) = elP (slV v 0 ((es.length : Int) - 1).toNat 2) (((i : Int)).toNat * 2 + 0) ∧ (pf 3) = [] := hR 3 (by decide)
        refine Or.inl ⟨rfl, ?_⟩
        refine rq_less (sx 52 (congrArg some e3.1) (sub_nil _)) (List.sublist_append_right _ _) ?_
        exact rq_v (rv_loadEl (u := .int .i64 ((es2.getD i qu0).d)) rfl (by kernel_rfl) rfl (rd_row 0 rfl) ((flat_at quC 2 (fun _ => rfl) es2 qu0 (show i < _ by first | omega | (simp only [List.length_set]; omega)) (by decide)).trans rfl))
       ·
        intro vf pf hR
        refine Or.inl ⟨rfl, ?_⟩
        refine rq_less (sx 0 rfl (sub_nil _)) (List.sublist_append_right _ _) ?_
        exact rq_v (rv_ev rfl)
       ·
        intro vf pf hR
        refine Or.inl ⟨rfl, ?_⟩
        refine rq_less (sx 7 rfl (sub_nil _)) (List.sublist_append_right _ _) ?_
        exact rq_v (rv_ev rfl)
       ·
        intro vf pf hR
        have e5 : (vf 5) = slV v 0 ((es.length : Int) - 1).toNat 2 ∧ (pf 5) = [] := hR 5 (by decide)
        have e6 : (vf 6) = .int .i64 (((2 * (i : Int)) + 1) + 1) ∧ (pf 6) = [] := hR 6 (by decide)
        refine Or.inl ⟨rfl, ?_⟩
        refine rq_less (sx 54 (congrArg some e5.1) (sx 55 (congrArg some e6.1) (sub_nil _))) (List.sublist_append_right _ _) ?_
        exact rq_v (rv_index (s := 2) rfl Try.underlying93 (by kernel_rfl) rfl rfl (rd_row 0 rfl) (by omega) (by first | omega | (simp only [List.length_set]; omega)))
       ·
        intro vf pf hR
        have e7 : (vf 7) = elP (slV v 0 ((es.length : Int) - 1).toNat 2) ((((2 * (i : Int)) + 1) + 1).toNat * 2) ∧ (pf 7) = [] := hR 7 (by decide)
        refine Or.inl ⟨rfl, ?_⟩
        refine rq_less (sx 56 (congrArg some e7.1) (sub_nil _)) (List.sublist_append_right _ _) ?_
        exact rq_v (rv_fieldEl (k0 := 0) rfl (by kernel_rfl) rfl (rd_row 0 rfl) (by first | omega | (simp only [List.length_set]; omega)))
       ·
        intro vf pf hR
        have e8 : (vf 8) = elP (slV v 0 ((es.length : Int) - 1).toNat 2) ((((2 * (i : Int)) + 1) + 1).toNat * 2 + 0) ∧ (pf 8) = [] := hR 8 (by decide)
        refine Or.inl ⟨rfl, ?_⟩
        refine rq_less (sx 57 (congrArg some e8.1) (sub_nil _)) (List.sublist_append_right _ _) ?_
        exact rq_v (rv_loadEl (u := .int .i64 ((es2.getD ((((2 * (i : Int)) + 1) + 1).toNat) qu0).d)) rfl (by kernel_rfl) rfl (rd_row 0 rfl) ((flat_at quC 2 (fun _ => rfl) es2 qu0 (show (((2 * (i : Int)) + 1) + 1).toNat < _ by first | omega | (simp only [List.length_set]; omega)) (by decide)).trans rfl))
       ·
        intro vf pf hR
        have e4 : (vf 4) = .int .i64 ((es2.getD i qu0).d) ∧ (pf 4) = [] := hR 4 (by decide)
        have e9 : (vf 9) = .int .i64 ((es2.getD ((((2 * (i : Int)) + 1) + 1).toNat) qu0).d) ∧ (pf 9) = [] := hR 9 (by decide)
        refine Or.inl ⟨rfl, ?_⟩
        refine rq_less (sx 53 (congrArg some e4.1) (sx 58 (congrArg some e9.1) (sub_nil _))) (List.sublist_append_right _ _) ?_
        exact rq_mono (rq_v (rv_cmp rfl rfl rfl rfl)) (fun _ _ h => ⟨h.1.trans (congrArg Value.bool hb7), h.2⟩)
      ·
       intro vf pf hR
       have e10 : (vf 10) = .bool false ∧ (pf 10) = [] := hR 10 (by decide)
       refine hl_less (l' := (rowE 96 2 (slV v 0 ((es.length : Int) - 1).toNat 2) es2.length (es2.flatMap quC) :: boxE b2 #[.int .i64 ((es.getD 0 qu0).d), .int .i64 ((es.getD 0 qu0).n)] 96 :: boxE b1 #[.int .i64 0, .int .i64 0] 96 :: l)) (sx 0 rfl (sx 2 rfl (sx 3 rfl (sx 4 rfl (sx 5 rfl (sx 6 rfl (sx 7 rfl (sx 28 rfl (sx 46 rfl (sx 59 (congrArg some e10.1) (sub_nil _))))))))))) (List.sublist_append_right _ _) ?_
       simp only [List.drop_succ_cons, List.drop_zero]
       refine hl_less (sx 0 rfl (sx 2 rfl (sx 3 rfl (sx 4 rfl (sx 5 rfl (sx 6 rfl (sx 7 rfl (sx 28 rfl (sx 46 rfl (sx 59 rfl (sub_nil _))))))))))) (.refl _) ?_
       refine hl_nil ?_
       refine hq_then ?_
       refine hc_false rfl ?_
       refine hc_skip ?_
       refine hq_then ?_
       refine hc_seq ?_
       refine hc_draw4 (l := (boxE b2 #[.int .i64 ((es.getD 0 qu0).d), .int .i64 ((es.getD 0 qu0).n)] 96 :: boxE b1 #[.int .i64 0, .int .i64 0] 96 :: l)) (by kernel_rfl) 14 [0, 1, 2, 3, 4, 5, 6, 7, 8, 9, 10, 11, 12, 13] (List.take 14 _) (List.drop 14 _) [[], [], [], [], [], [], [4, 5], [6], [], [], [8, 9], [10], [0, 1], [7, 12]] [some 60, some 61, some 62, some 63, some 64, some 65, some 66, some 67, some 68, some 69, some 70, some 71, some 72, none] (fun i_ vs_ v_ p_ => match i_ with | 0 => v_ = slV v 0 ((es.length : Int) - 1).toNat 2 ∧ p_ = [] | 1 => v_ = .int .i64 (i : Int) ∧ p_ = [] | 2 => v_ = slV v 0 ((es.length : Int) - 1).toNat 2 ∧ p_ = [] | 3 => v_ = .int .i64 (((2 * (i : Int)) + 1) + 1) ∧ p_ = [] | 4 => v_ = slV v 0 ((es.length : Int) - 1).toNat 2 ∧ p_ = [] | 5 => v_ = .int .i64 (((2 * (i : Int)) + 1) + 1) ∧ p_ = [] | 6 => v_ = elP (slV v 0 ((es.length : Int) - 1).toNat 2) ((((2 * (i : Int)) + 1) + 1).toNat * 2) ∧ p_ = [] | 7 => v_ = .agg #[.int .i64 ((es2.getD ((((2 * (i : Int)) + 1) + 1).toNat) qu0).d), .int .i64 ((es2.getD ((((2 * (i : Int)) + 1) + 1).toNat) qu0).n)] ∧ p_ = [] | 8 => v_ = slV v 0 ((es.length : Int) - 1).toNat 2 ∧ p_ = [] | 9 => v_ = .int .i64 (i : Int) ∧ p_ = [] | 10 => v_ = elP (slV v 0 ((es.length : Int) - 1).toNat 2) (((i : Int)).toNat * 2) ∧ p_ = [] | 11 => v_ = .agg #[.int .i64 ((es2.getD i qu0).d), .int .i64 ((es2.getD i qu0).n)] ∧ p_ = [] | 12 => v_ = elP (slV v 0 ((es.length : Int) - 1).toNat 2) (((i : Int)).toNat * 2) ∧ p_ = [] | 13 => p_ = [rowE 96 2 (slV v 0 ((es.length : Int) - 1).toNat 2) ((es2.set i (es2.getD ((((2 * (i : Int)) + 1) + 1).toNat) qu0)).length) ((es2.set i (es2.getD ((((2 * (i : Int)) + 1) + 1).toNat) qu0)).flatMap quC)] | _ => True) [[], [], [], [], [], [], [4, 5, 16], [6, 16], [], [], [8, 9, 16], [10, 16], [0, 1, 16], [7, 12]] [none, none, none, none, none, none, none, none, none, none, none, none, none, some 16] [[rowE 96 2 (slV v 0 ((es.length : Int) - 1).toNat 2) es2.length (es2.flatMap quC)]] [0, 1, 2, 3, 4, 5, 6, 7, 8, 9, 10, 11, 12, 13] 16 (List.take_append_drop 14 _).symm (by kernel_rfl) (by kernel_rfl) (by kernel_rfl) rfl rfl ?_ ?_
       ·
        refine ⟨?_, ?_, ?_, ?_, ?_, ?_, ?_, ?_, ?_, ?_, ?_, ?_, ?_, ?_, trivial⟩
        ·
         intro vf pf hmu hR
         refine Or.inl ⟨rfl, ?_⟩
         show RunQ _ _ _ (([] : List Nat).flatMap pf ++ _) (envOf3 _ vf [] ++ _) _ _
         refine rq_less (sx 0 rfl (sub_nil _)) (List.sublist_append_right _ _) ?_
         exact rq_v (rv_ev rfl)
        ·
         intro vf pf hmu hR
         refine Or.inl ⟨rfl, ?_⟩
         show RunQ _ _ _ (([] : List Nat).flatMap pf ++ _) (envOf3 _ vf [] ++ _) _ _
         refine rq_less (sx 6 rfl (sub_nil _)) (List.sublist_append_right _ _) ?_
         exact rq_v (rv_ev rfl)
        ·
         intro vf pf hmu hR
         refine Or.inl ⟨rfl, ?_⟩
         show RunQ _ _ _ (([] : List Nat).flatMap pf ++ _) (envOf3 _ vf [] ++ _) _ _
         refine rq_less (sx 0 rfl (sub_nil _)) (List.sublist_append_right _ _) ?_
         exact rq_v (rv_ev rfl)
        ·
         intro vf pf hmu hR
         refine Or.inl ⟨rfl, ?_⟩
         show RunQ _ _ _ (([] : List Nat).flatMap pf ++ _) (envOf3 _ vf [] ++ _) _ _
         refine rq_less (sx 7 rfl (sub_nil _)) (List.sublist_append_right _ _) ?_
         exact rq_v (rv_ev rfl)
        ·
         intro vf pf hmu hR
         refine Or.inl ⟨rfl, ?_⟩
         show RunQ _ _ _ (([] : List Nat).flatMap pf ++ _) (envOf3 _ vf [] ++ _) _ _
         refine rq_less (sx 0 rfl (sub_nil _)) (List.sublist_append_right _ _) ?_
         exact rq_v (rv_ev rfl)
        ·
         intro vf pf hmu hR
         refine Or.inl ⟨rfl, ?_⟩
         show RunQ _ _ _ (([] : List Nat).flatMap pf ++ _) (envOf3 _ vf [] ++ _) _ _
         refine rq_less (sx 7 rfl (sub_nil _)) (List.sublist_append_right _ _) ?_
         exact rq_v (rv_ev rfl)
        ·
         intro vf pf hmu hR
         have e4 : (vf 4) = slV v 0 ((es.length : Int) - 1).toNat 2 ∧ (pf 4) = [] := hR 4 (by decide)
         have e5 : (vf 5) = .int .i64 (((2 * (i : Int)) + 1) + 1) ∧ (pf 5) = [] := hR 5 (by decide)
         refine Or.inl ⟨rfl, ?_⟩
         show RunQ _ _ _ (([4, 5, 16] : List Nat).flatMap pf ++ _) (envOf3 _ vf [4, 5] ++ _) _ _
         have hmu0 : pf 16 = [rowE 96 2 (slV v 0 ((es.length : Int) - 1).toNat 2) es2.length (es2.flatMap quC)] := hmu 0 (show 0 < 1 by omega)
         refine rq_less (l' := (rowE 96 2 (slV v 0 ((es.length : Int) - 1).toNat 2) es2.length (es2.flatMap quC) :: boxE b2 #[.int .i64 ((es.getD 0 qu0).d), .int .i64 ((es.getD 0 qu0).n)] 96 :: boxE b1 #[.int .i64 0, .int .i64 0] 96 :: l)) (sx 64 (congrArg some e4.1) (sx 65 (congrArg some e5.1) (sub_nil _))) (by first | (simp only [hmu0, e4.2, e5.2, List.flatMap_cons, List.flatMap_nil, List.append_nil, List.nil_append, List.cons_append]; exact List.Sublist.refl _) | simp [hmu0, e4.2, e5.2]) ?_
         exact rq_v (rv_index (s := 2) rfl Try.underlying93 (by kernel_rfl) rfl rfl (rd_row 0 rfl) (by omega) (by first | omega | (simp only [List.length_set]; omega)))
        ·
         intro vf pf hmu hR
         have e6 : (vf 6) = elP (slV v 0 ((es.length : Int) - 1).toNat 2) ((((2 * (i : Int)) + 1) + 1).toNat * 2) ∧ (pf 6) = [] := hR 6 (by decide)
         refine Or.inl ⟨rfl, ?_⟩
         show RunQ _ _ _ (([6, 16] : List Nat).flatMap pf ++ _) (envOf3 _ vf [6] ++ _) _ _
         have hmu0 : pf 16 = [rowE 96 2 (slV v 0 ((es.length : Int) - 1).toNat 2) es2.length (es2.flatMap quC)] := hmu 0 (show 0 < 1 by omega)
         refine rq_less (l' := (rowE 96 2 (slV v 0 ((es.length : Int) - 1).toNat 2) es2.length (es2.flatMap quC) :: boxE b2 #[.int .i64 ((es.getD 0 qu0).d), .int .i64 ((es.getD 0 qu0).n)] 96 :: boxE b1 #[.int .i64 0, .int .i64 0] 96 :: l)) (sx 66 (congrArg some e6.1) (sub_nil _)) (by first | (simp only [hmu0, e6.2, List.flatMap_cons, List.flatMap_nil, List.append_nil, List.nil_append, List.cons_append]; exact List.Sublist.refl _) | simp [hmu0, e6.2]) ?_
         exact rq_v (rv_loadElN (us := [.int .i64 ((es2.getD ((((2 * (i : Int)) + 1) + 1).toNat) qu0).d), .int .i64 ((es2.getD ((((2 * (i : Int)) + 1) + 1).toNat) qu0).n)]) rfl (by kernel_rfl) (by kernel_rfl) rfl (rd_row 0 rfl) (by omega) rfl (flat_atN quC 2 (fun _ => rfl) es2 qu0 (show (((2 * (i : Int)) + 1) + 1).toNat < _ by first | omega | (simp only [List.length_set]; omega)) rfl))
        ·
         intro vf pf hmu hR
         refine Or.inl ⟨rfl, ?_⟩
         show RunQ _ _ _ (([] : List Nat).flatMap pf ++ _) (envOf3 _ vf [] ++ _) _ _
         refine rq_less (sx 0 rfl (sub_nil _)) (List.sublist_append_right _ _) ?_
         exact rq_v (rv_ev rfl)
        ·
         intro vf pf hmu hR
         refine Or.inl ⟨rfl, ?_⟩
         show RunQ _ _ _ (([] : List Nat).flatMap pf ++ _) (envOf3 _ vf [] ++ _) _ _
         refine rq_less (sx 6 rfl (sub_nil _)) (List.sublist_append_right _ _) ?_
         exact rq_v (rv_ev rfl)
        ·
         intro vf pf hmu hR
         have e8 : (vf 8) = slV v 0 ((es.length : Int) - 1).toNat 2 ∧ (pf 8) = [] := hR 8 (by decide)
         have e9 : (vf 9) = .int .i64 (i : Int) ∧ (pf 9) = [] := hR 9 (by decide)
         refine Or.inl ⟨rfl, ?_⟩
         show RunQ _ _ _ (([8, 9, 16] : List Nat).flatMap pf ++ _) (envOf3 _ vf [8, 9] ++ _) _ _
         have hmu0 : pf 16 = [rowE 96 2 (slV v 0 ((es.length : Int) - 1).toNat 2) es2.length (es2.flatMap quC)] := hmu 0 (show 0 < 1 by omega)
         refine rq_less (l' := (rowE 96 2 (slV v 0 ((es.length : Int) - 1).toNat 2) es2.length (es2.flatMap quC) :: boxE b2 #[.int .i64 ((es.getD 0 qu0).d), .int .i64 ((es.getD 0 qu0).n)] 96 :: boxE b1 #[.int .i64 0, .int .i64 0] 96 :: l)) (sx 68 (congrArg some e8.1) (sx 69 (congrArg some e9.1) (sub_nil _))) (by first | (simp only [hmu0, e8.2, e9.2, List.flatMap_cons, List.flatMap_nil, List.append_nil, List.nil_append, List.cons_append]; exact List.Sublist.refl _) | simp [hmu0, e8.2, e9.2]) ?_
         exact rq_v (rv_index (s := 2) rfl Try.underlying93 (by kernel_rfl) rfl rfl (rd_row 0 rfl) (by omega) (by first | omega | (simp only [List.length_set]; omega)))
        ·
         intro vf pf hmu hR
         have e10 : (vf 10) = elP (slV v 0 ((es.length : Int) - 1).toNat 2) (((i : Int)).toNat * 2) ∧ (pf 10) = [] := hR 10 (by decide)
         refine Or.inl ⟨rfl, ?_⟩
         show RunQ _ _ _ (([10, 16] : List Nat).flatMap pf ++ _) (envOf3 _ vf [10] ++ _) _ _
         have hmu0 : pf 16 = [rowE 96 2 (slV v 0 ((es.length : Int) - 1).toNat 2) es2.length (es2.flatMap quC)] := hmu 0 (show 0 < 1 by omega)
         refine rq_less (l' := (rowE 96 2 (slV v 0 ((es.length : Int) - 1).toNat 2) es2.length (es2.flatMap quC) :: boxE b2 #[.int .i64 ((es.getD 0 qu0).d), .int .i64 ((es.getD 0 qu0).n)] 96 :: boxE b1 #[.int .i64 0, .int .i64 0] 96 :: l)) (sx 70 (congrArg some e10.1) (sub_nil _)) (by first | (simp only [hmu0, e10.2, List.flatMap_cons, List.flatMap_nil, List.append_nil, List.nil_append, List.cons_append]; exact List.Sublist.refl _) | simp [hmu0, e10.2]) ?_
         exact rq_v (rv_loadElN (us := [.int .i64 ((es2.getD i qu0).d), .int .i64 ((es2.getD i qu0).n)]) rfl (by kernel_rfl) (by kernel_rfl) rfl (rd_row 0 rfl) (by omega) rfl (flat_atN quC 2 (fun _ => rfl) es2 qu0 (show i < _ by first | omega | (simp only [List.length_set]; omega)) rfl))
        ·
         intro vf pf hmu hR
         have e0 : (vf 0) = slV v 0 ((es.length : Int) - 1).toNat 2 ∧ (pf 0) = [] := hR 0 (by decide)
         have e1 : (vf 1) = .int .i64 (i : Int) ∧ (pf 1) = [] := hR 1 (by decide)
         refine Or.inl ⟨rfl, ?_⟩
         show RunQ _ _ _ (([0, 1, 16] : List Nat).flatMap pf ++ _) (envOf3 _ vf [0, 1] ++ _) _ _
         have hmu0 : pf 16 = [rowE 96 2 (slV v 0 ((es.length : Int) - 1).toNat 2) es2.length (es2.flatMap quC)] := hmu 0 (show 0 < 1 by omega)
         refine rq_less (l' := (rowE 96 2 (slV v 0 ((es.length : Int) - 1).toNat 2) es2.length (es2.flatMap quC) :: boxE b2 #[.int .i64 ((es.getD 0 qu0).d), .int .i64 ((es.getD 0 qu0).n)] 96 :: boxE b1 #[.int .i64 0, .int .i64 0] 96 :: l)) (sx 60 (congrArg some e0.1) (sx 61 (congrArg some e1.1) (sub_nil _))) (by first | (simp only [hmu0, e0.2, e1.2, List.flatMap_cons, List.flatMap_nil, List.append_nil, List.nil_append, List.cons_append]; exact List.Sublist.refl _) | simp [hmu0, e0.2, e1.2]) ?_
         exact rq_v (rv_index (s := 2) rfl Try.underlying93 (by kernel_rfl) rfl rfl (rd_row 0 rfl) (by omega) (by first | omega | (simp only [List.length_set]; omega)))
        ·
         intro vf pf hmu hR
         have e7 : (vf 7) = .agg #[.int .i64 ((es2.getD ((((2 * (i : Int)) + 1) + 1).toNat) qu0).d), .int .i64 ((es2.getD ((((2 * (i : Int)) + 1) + 1).toNat) qu0).n)] ∧ (pf 7) = [] := hR 7 (by decide)
         have e12 : (vf 12) = elP (slV v 0 ((es.length : Int) - 1).toNat 2) (((i : Int)).toNat * 2) ∧ (pf 12) = [] := hR 12 (by decide)
         refine Or.inl ⟨rfl, ?_⟩
         show RunM _ _ _ (pf 16) (([7, 12] : List Nat).flatMap pf ++ _) (envOf3 _ vf [7, 12] ++ _) _ _
         have hmu0 : pf 16 = [rowE 96 2 (slV v 0 ((es.length : Int) - 1).toNat 2) es2.length (es2.flatMap quC)] := hmu 0 (show 0 < 1 by omega)
         rw [hmu0]
         refine rm_less (X' := (boxE b2 #[.int .i64 ((es.getD 0 qu0).d), .int .i64 ((es.getD 0 qu0).n)] 96 :: boxE b1 #[.int .i64 0, .int .i64 0] 96 :: l)) (sx 67 (congrArg some e7.1) (sx 72 (congrArg some e12.1) (sub_nil _))) (by first | (simp only [e7.2, e12.2, List.flatMap_cons, List.flatMap_nil, List.append_nil, List.nil_append, List.cons_append]; exact List.Sublist.refl _) | simp [e7.2, e12.2]) ?_
         exact rm_mono (rm_storeElN (us := [.int .i64 ((es2.getD ((((2 * (i : Int)) + 1) + 1).toNat) qu0).d), .int .i64 ((es2.getD ((((2 * (i : Int)) + 1) + 1).toNat) qu0).n)]) (n' := (es2.set i (es2.getD ((((2 * (i : Int)) + 1) + 1).toNat) qu0)).length) (xs' := ((es2.set i (es2.getD ((((2 * (i : Int)) + 1) + 1).toNat) qu0)).flatMap quC)) 0 rfl rfl (by kernel_rfl) rfl rfl (all_cons rfl (all_cons rfl all_nil)) rfl (by first | omega | (simp only [List.length_set]; omega)) (by simp only [List.length_cons, List.length_nil]; first | omega | (simp only [List.length_set]; omega)) List.length_set.symm (flat_put quC 2 (fun _ => rfl) _ (es2.getD ((((2 * (i : Int)) + 1) + 1).toNat) qu0) (by first | omega | (simp only [List.length_set]; omega)))) (fun v_ p_ h => by show p_ = [rowE 96 2 (slV v 0 ((es.length : Int) - 1).toNat 2) ((es2.set i (es2.getD ((((2 * (i : Int)) + 1) + 1).toNat) qu0)).length) ((es2.set i (es2.getD ((((2 * (i : Int)) + 1) + 1).toNat) qu0)).flatMap quC)]; exact h)
       ·
        intro vf pf hmu hR
        have e2 : (vf 2) = slV v 0 ((es.length : Int) - 1).toNat 2 ∧ (pf 2) = [] := hR 2 (by decide)
        have e3 : (vf 3) = .int .i64 (((2 * (i : Int)) + 1) + 1) ∧ (pf 3) = [] := hR 3 (by decide)
        have e11 : (vf 11) = .agg #[.int .i64 ((es2.getD i qu0).d), .int .i64 ((es2.getD i qu0).n)] ∧ (pf 11) = [] := hR 11 (by decide)
        have e13 : (pf 13) = [rowE 96 2 (slV v 0 ((es.length : Int) - 1).toNat 2) ((es2.set i (es2.getD ((((2 * (i : Int)) + 1) + 1).toNat) qu0)).length) ((es2.set i (es2.getD ((((2 * (i : Int)) + 1) + 1).toNat) qu0)).flatMap quC)] := hR 13 (by decide)
        have p13 := e13
        have q0 : (vf 0) = slV v 0 ((es.length : Int) - 1).toNat 2 ∧ (pf 0) = [] := hR 0 (by decide)
        have q1 : (vf 1) = .int .i64 (i : Int) ∧ (pf 1) = [] := hR 1 (by decide)
        have q2 : (vf 2) = slV v 0 ((es.length : Int) - 1).toNat 2 ∧ (pf 2) = [] := hR 2 (by decide)
        have q3 : (vf 3) = .int .i64 (((2 * (i : Int)) + 1) + 1) ∧ (pf 3) = [] := hR 3 (by decide)
        have q4 : (vf 4) = slV v 0 ((es.length : Int) - 1).toNat 2 ∧ (pf 4) = [] := hR 4 (by decide)
        have q5 : (vf 5) = .int .i64 (((2 * (i : Int)) + 1) + 1) ∧ (pf 5) = [] := hR 5 (by decide)
        have q6 : (vf 6) = elP (slV v 0 ((es.length : Int) - 1).toNat 2) ((((2 * (i : Int)) + 1) + 1).toNat * 2) ∧ (pf 6) = [] := hR 6 (by decide)
        have q7 : (vf 7) = .agg #[.int .i64 ((es2.getD ((((2 * (i : Int)) + 1) + 1).toNat) qu0).d), .int .i64 ((es2.getD ((((2 * (i : Int)) + 1) + 1).toNat) qu0).n)] ∧ (pf 7) = [] := hR 7 (by decide)
        have q8 : (vf 8) = slV v 0 ((es.length : Int) - 1).toNat 2 ∧ (pf 8) = [] := hR 8 (by decide)
        have q9 : (vf 9) = .int .i64 (i : Int) ∧ (pf 9) = [] := hR 9 (by decide)
        have q10 : (vf 10) = elP (slV v 0 ((es.length : Int) - 1).toNat 2) (((i : Int)).toNat * 2) ∧ (pf 10) = [] := hR 10 (by decide)
        have q11 : (vf 11) = .agg #[.int .i64 ((es2.getD i qu0).d), .int .i64 ((es2.getD i qu0).n)] ∧ (pf 11) = [] := hR 11 (by decide)
        have q12 : (vf 12) = elP (slV v 0 ((es.length : Int) - 1).toNat 2) (((i : Int)).toNat * 2) ∧ (pf 12) = [] := hR 12 (by decide)
        refine hl_less (l' := (rowE 96 2 (slV v 0 ((es.length : Int) - 1).toNat 2) ((es2.set i (es2.getD ((((2 * (i : Int)) + 1) + 1).toNat) qu0)).length) ((es2.set i (es2.getD ((((2 * (i : Int)) + 1) + 1).toNat) qu0)).flatMap quC) :: boxE b2 #[.int .i64 ((es.getD 0 qu0).d), .int .i64 ((es.getD 0 qu0).n)] 96 :: boxE b1 #[.int .i64 0, .int .i64 0] 96 :: l)) (sx 0 rfl (sx 2 rfl (sx 3 rfl (sx 4 rfl (sx 5 rfl (sx 6 rfl (sx 7 rfl (sx 28 rfl (sx 46 rfl (sx 59 rfl (sx 62 (congrArg some e2.1) (sx 63 (congrArg some e3.1) (sx 71 (congrArg some e11.1) (sub_nil _)))))))))))))) (by first | (simp only [p13, q0.2, q1.2, q2.2, q3.2, q4.2, q5.2, q6.2, q7.2, q8.2, q9.2, q10.2, q11.2, q12.2, List.flatMap_cons, List.flatMap_nil, List.append_nil, List.nil_append, List.cons_append]; exact List.Sublist.refl _) | simp [p13, q0.2, q1.2, q2.2, q3.2, q4.2, q5.2, q6.2, q7.2, q8.2, q9.2, q10.2, q11.2, q12.2]) ?_
        simp only [List.drop_succ_cons, List.drop_zero]
        refine hl_v rfl rfl rfl (rv_index (s := 2) rfl Try.underlying93 (by kernel_rfl) rfl rfl (rd_row 0 rfl) (by omega) (by first | omega | (simp only [List.length_set]; omega))) ?_
        refine hl_storeElN (i := 0) (us := [.int .i64 ((es2.getD i qu0).d), .int .i64 ((es2.getD i qu0).n)]) (n' := ((es2.set i (es2.getD ((((2 * (i : Int)) + 1) + 1).toNat) qu0)).set ((((2 * (i : Int)) + 1) + 1).toNat) (es2.getD i qu0)).length) (xs' := (((es2.set i (es2.getD ((((2 * (i : Int)) + 1) + 1).toNat) qu0)).set ((((2 * (i : Int)) + 1) + 1).toNat) (es2.getD i qu0)).flatMap quC)) (l' := (rowE 96 2 (slV v 0 ((es.length : Int) - 1).toNat 2) (((es2.set i (es2.getD ((((2 * (i : Int)) + 1) + 1).toNat) qu0)).set ((((2 * (i : Int)) + 1) + 1).toNat) (es2.getD i qu0)).length) (((es2.set i (es2.getD ((((2 * (i : Int)) + 1) + 1).toNat) qu0)).set ((((2 * (i : Int)) + 1) + 1).toNat) (es2.getD i qu0)).flatMap quC) :: boxE b2 #[.int .i64 ((es.getD 0 qu0).d), .int .i64 ((es.getD 0 qu0).n)] 96 :: boxE b1 #[.int .i64 0, .int .i64 0] 96 :: l)) rfl rfl rfl (by kernel_rfl) rfl rfl (all_cons rfl (all_cons rfl all_nil)) rfl (by first | omega | (simp only [List.length_set]; omega)) (by simp only [List.length_cons, List.length_nil]; first | omega | (simp only [List.length_set]; omega)) List.length_set.symm (flat_put quC 2 (fun _ => rfl) _ (es2.getD i qu0) (by first | omega | (simp only [List.length_set]; omega))) rfl ?_
        refine hl_less (sx 0 rfl (sx 2 rfl (sx 3 rfl (sx 4 rfl (sx 5 rfl (sx 6 rfl (sx 7 rfl (sx 28 rfl (sx 46 rfl (sx 59 rfl (sub_nil _))))))))))) (.refl _) ?_
        refine hl_nil ?_
        refine hq_then ?_
        refine hc_region ?_
        refine hl_v rfl rfl rfl (rv_ev rfl) ?_
        refine hl_v rfl rfl rfl (rv_ev rfl) ?_
        refine hl_less (sx 0 rfl (sx 2 rfl (sx 3 rfl (sx 4 rfl (sx 5 rfl (sx 6 rfl (sx 7 rfl (sx 28 rfl (sx 46 rfl (sx 59 rfl (sub_nil _))))))))))) (.refl _) ?_
        refine hl_nil ?_
        refine hq_block_normal ?_
        exact hq_round2 (((2 * (i : Int)) + 1) + 1).toNat ((es2.set i (es2.getD ((((2 * (i : Int)) + 1) + 1).toNat) qu0)).set ((((2 * (i : Int)) + 1) + 1).toNat) (es2.getD i qu0)) ⟨.inr (by simp only [List.length_set]; omega), by simp only [List.length_set]; omega, ((swap_perm qu0 es2 _ _ (by omega) (by omega)).cons _).trans hpm⟩ (by omega) (sx 0 rfl (sx 2 rfl (sx 3 rfl (sx 4 rfl (sx 5 rfl (sx 6 (by rw [Int.toNat_of_nonneg (by omega)]; rfl) (sub_nil _))))))) ((.cons_cons _ (.cons_cons _ (.cons_cons _ (.refl _)))))
   ·
    have hb6p : ¬ ((es2.getD ((((2 * (i : Int)) + 1) + 1).toNat) qu0).d < (es2.getD (((2 * (i : Int)) + 1).toNat) qu0).d) := of_decide_eq_false hb6
    refine hc_draw (by kernel_rfl) 18 [0, 1, 2, 3, 4, 5, 6, 7, 8, 9, 10, 11, 12, 13, 14, 15, 16, 17] (List.take 18 _) (List.drop 18 _) [[], [0], [], [1, 2], [3], [4], [4], [4, 6], [4, 5, 7], [4, 8], [4, 9], [4], [4], [4, 11, 12], [4, 13], [4, 14], [4, 10, 15], [4, 16]] [29, 30, 31, 32, 33, 34, 35, 36, 37, 38, 39, 40, 41, 42, 43, 44, 45, 46] (fun i_ vs_ v_ p_ => match i_ with | 0 => v_ = .int .i64 ((2 * (i : Int)) + 1) ∧ p_ = [] | 1 => v_ = .int .i64 (((2 * (i : Int)) + 1) + 1) ∧ p_ = [] | 2 => v_ = .int .i64 ((es.length : Int) - 1) ∧ p_ = [] | 3 => v_ = .bool true ∧ p_ = [] | 4 => v_ = .bool true ∧ p_ = [] | 5 => v_ = slV v 0 ((es.length : Int) - 1).toNat 2 ∧ p_ = [] | 6 => v_ = .int .i64 ((2 * (i : Int)) + 1) ∧ p_ = [] | 7 => v_ = .int .i64 (((2 * (i : Int)) + 1) + 1) ∧ p_ = [] | 8 => v_ = elP (slV v 0 ((es.length : Int) - 1).toNat 2) ((((2 * (i : Int)) + 1) + 1).toNat * 2) ∧ p_ = [] | 9 => v_ = elP (slV v 0 ((es.length : Int) - 1).toNat 2) ((((2 * (i : Int)) + 1) + 1).toNat * 2 + 0) ∧ p_ = [] | 10 => v_ = .int .i64 ((es2.getD ((((2 * (i : Int)) + 1) + 1).toNat) qu0).d) ∧ p_ = [] | 11 => v_ = slV v 0 ((es.length : Int) - 1).toNat 2 ∧ p_ = [] | 12 => v_ = .int .i64 ((2 * (i : Int)) + 1) ∧ p_ = [] | 13 => v_ = elP (slV v 0 ((es.length : Int) - 1).toNat 2) (((2 * (i : Int)) + 1).toNat * 2) ∧ p_ = [] | 14 => v_ = elP (slV v 0 ((es.length : Int) - 1).toNat 2) (((2 * (i : Int)) + 1).toNat * 2 + 0) ∧ p_ = [] | 15 => v_ = .int .i64 ((es2.getD (((2 * (i : Int)) + 1).toNat) qu0).d) ∧ p_ = [] | 16 => v_ = .bool false ∧ p_ = [] | 17 => v_ = .bool false ∧ p_ = [] | _ => True) (List.take_append_drop 18 _).symm (by kernel_rfl) (by kernel_rfl) rfl rfl ?_ ?_
    ·
     refine ⟨?_, ?_, ?_, ?_, ?_, ?_, ?_, ?_, ?_, ?_, ?_, ?_, ?_, ?_, ?_, ?_, ?_, ?_, trivial⟩
     ·
      intro vf pf hR
      refine Or.inl ⟨rfl, ?_⟩
      refine rq_less (sx 7 rfl (sub_nil _)) (List.sublist_append_right _ _) ?_
      exact rq_v (rv_ev rfl)
     ·
      intro vf pf hR
      have e0 : (vf 0) = .int .i64 ((2 * (i : Int)) + 1) ∧ (pf 0) = [] := hR 0 (by decide)
      refine Or.inl ⟨rfl, ?_⟩
      refine rq_less (sx 29 (congrArg some e0.1) (sub_nil _)) (List.sublist_append_right _ _) ?_
      exact rq_v (rv_add rfl rfl rfl (by constructor <;> omega))
     ·
      intro vf pf hR
      refine Or.inl ⟨rfl, ?_⟩
      refine rq_less (sx 5 rfl (sub_nil _)) (List.sublist_append_right _ _) ?_
      exact rq_v (rv_ev rfl)
     ·
      intro vf pf hR
      have e1 : (vf 1) = .int .i64 (((2 * (i : Int)) + 1) + 1) ∧ (pf 1) = [] := hR 1 (by decide)
      have e2 : (vf 2) = .int .i64 ((es.length : Int) - 1) ∧ (pf 2) = [] := hR 2 (by decide)
      refine Or.inl ⟨rfl, ?_⟩
      refine rq_less (sx 30 (congrArg some e1.1) (sx 31 (congrArg some e2.1) (sub_nil _))) (List.sublist_append_right _ _) ?_
      exact rq_mono (rq_v (rv_cmp rfl rfl rfl rfl)) (fun _ _ h => ⟨h.1.trans (congrArg Value.bool hb5), h.2⟩)
     ·
      intro vf pf hR
      have e3 : (vf 3) = .bool true ∧ (pf 3) = [] := hR 3 (by decide)
      refine Or.inl ⟨rfl, ?_⟩
      refine rq_less (sx 32 (congrArg some e3.1) (sub_nil _)) (List.sublist_append_right _ _) ?_
      exact rq_v (rv_ev rfl)
     ·
      intro vf pf hR
      have e4 : (vf 4) = .bool true ∧ (pf 4) = [] := hR 4 (by decide)
      refine Or.inl ⟨want_of (congrArg some e4.1) rfl, ?_⟩
      refine rq_less (sx 0 rfl (sub_nil _)) (List.sublist_append_right _ _) ?_
      exact rq_v (rv_ev rfl)
     ·
      intro vf pf hR
      have e4 : (vf 4) = .bool true ∧ (pf 4) = [] := hR 4 (by decide)
      refine Or.inl ⟨want_of (congrArg some e4.1) rfl, ?_⟩
      refine rq_less (sx 7 rfl (sub_nil _)) (List.sublist_append_right _ _) ?_
      exact rq_v (rv_ev rfl)
     ·
      intro vf pf hR
      have e4 : (vf 4) = .bool true ∧ (pf 4) = [] := hR 4 (by decide)
      have e6 : (vf 6) = .int .i64 ((2 * (i : Int)) + 1) ∧ (pf 6) = [] := hR 6 (by decide)
      refine Or.inl ⟨want_of (congrArg some e4.1) rfl, ?_⟩
      refine rq_less (sx 35 (congrArg some e6.1) (sub_nil _)) (List.sublist_append_right _ _) ?_
      exact rq_v (rv_add rfl rfl rfl (by constructor <;> omega))
     ·
      intro vf pf hR
      have e4 : (vf 4) = .bool true ∧ (pf 4) = [] := hR 4 (by decide)
      have e5 : (vf 5) = slV v 0 ((es.length : Int) - 1).toNat 2 ∧ (pf 5) = [] := hR 5 (by decide)
      have e7 : (vf 7) = .int .i64 (((2 * (i : Int)) + 1) + 1) ∧ (pf 7) = [] := hR 7 (by decide)
      refine Or.inl ⟨want_of (congrArg some e4.1) rfl, ?_⟩
      refine rq_less (sx 34 (congrArg some e5.1) (sx 36 (congrArg some e7.1) (sub_nil _))) (List.sublist_append_right _ _) ?_
      exact rq_v (rv_index (s := 2) rfl Try.underlying93 (by kernel_rfl) rfl rfl (rd_row 0 rfl) (by omega) (by first | omega | (simp only [List.length_set]; omega)))
     ·
      intro vf pf hR
      have e4 : (vf 4) = .bool true ∧ (pf 4) = [] := hR 4 (by decide)
      have e8 : (vf 8) = elP (slV v 0 ((es.length : Int) - 1).toNat 2) ((((2 * (i : Int)) + 1) + 1).toNat * 2) ∧ (pf 8) = [] := hR 8 (by decide)
      refine Or.inl ⟨want_of (congrArg some e4.1) rfl, ?_⟩
      refine rq_less (sx 37 (congrArg some e8.1) (sub_nil _)) (List.sublist_append_right _ _) ?_
      exact rq_v (rv_fieldEl (k0 := 0) rfl (by kernel_rfl) rfl (rd_row 0 rfl) (by first | omega | (simp only [List.length_set]; omega)))
     ·
      intro vf pf hR
      have e4 : (vf 4) = .bool true ∧ (pf 4) = [] := hR 4 (by decide)
      have e9 : (vf 9) = elP (slV v 0 ((es.length : Int) - 1).toNat 2) ((((2 * (i : Int)) + 1) + 1).toNat * 2 + 0) ∧ (pf 9) = [] := hR 9 (by decide)
      refine Or.inl ⟨want_of (congrArg some e4.1) rfl, ?_⟩
      refine rq_less (sx 38 (congrArg some e9.1) (sub_nil _)) (List.sublist_append_right _ _) ?_
      exact rq_v (rv_loadEl (u := .int .i64 ((es2.getD ((((2 * (i : Int)) + 1) + 1).toNat) qu0).d)) rfl (by kernel_rfl) rfl (rd_row 0 rfl) ((flat_at quC 2 (fun _ => rfl) es2 qu0 (show (((2 * (i : Int)) + 1) + 1).toNat < _ by first | omega | (simp only [List.length_set]; omega)) (by decide)).trans rfl))
     ·
      intro vf pf hR
      have e4 : (vf 4) = .bool true ∧ (pf 4) = [] := hR 4 (by decide)
      refine Or.inl ⟨want_of (congrArg some e4.1) rfl, ?_⟩
      refine rq_less (sx 0 rfl (sub_nil _)) (List.sublist_append_right _ _) ?_
      exact rq_v (rv_ev rfl)
     ·
      intro vf pf hR
      have e4 : (vf 4) = .bool true ∧ (pf 4) = [] := hR 4 (by decide)
      refine Or.inl ⟨want_of (congrArg some e4.1) rfl, ?_⟩
      refine rq_less (sx 7 rfl (sub_nil _)) (List.sublist_append_right _ _) ?_
      exact rq_v (rv_ev rfl)
     ·
      intro vf pf hR
      have e4 : (vf 4) = .bool true ∧ (pf 4) = [] := hR 4 (by decide)
      have e11 : (vf 11) = slV v 0 ((es.length : Int) - 1).toNat 2 ∧ (pf 11) = [] := hR 11 (by decide)
      have e12 : (vf 12) = .int .i64 ((2 * (i : Int)) + 1) ∧ (pf 12) = [] := hR 12 (by decide)
      refine Or.inl ⟨want_of (congrArg some e4.1) rfl, ?_⟩
      refine rq_less (sx 40 (congrArg some e11.1) (sx 41 (congrArg some e12.1) (sub_nil _))) (List.sublist_append_right _ _) ?_
      exact rq_v (rv_index (s := 2) rfl Try.underlying93 (by kernel_rfl) rfl rfl (rd_row 0 rfl) (by omega) (by first | omega | (simp only [List.length_set]; omega)))
     ·
      intro vf pf hR
      have e4 : (vf 4) = .bool true ∧ (pf 4) = [] := hR 4 (by decide)
      have e13 : (vf 13) = elP (slV v 0 ((es.length : Int) - 1).toNat 2) (((2 * (i : Int)) + 1).toNat * 2) ∧ (pf 13) = [] := hR 13 (by decide)
      refine Or.inl ⟨want_of (congrArg some e4.1) rfl, ?_⟩
      refine rq_less (sx 42 (congrArg some e13.1) (sub_nil _)) (List.sublist_append_right _ _) ?_
      exact rq_v (rv_fieldEl (k0 := 0) rfl (by kernel_rfl) rfl (rd_row 0 rfl) (by first | omega | (simp only [List.length_set]; omega)))
     ·
      intro vf pf hR
      have e4 : (vf 4) = .bool true ∧ (pf 4) = [] := hR 4 (by decide)
      have e14 : (vf 14) = elP (slV v 0 ((es.length : Int) - 1).toNat 2) (((2 * (i : Int)) + 1).toNat * 2 + 0) ∧ (pf 14) = [] := hR 14 (by decide)
      refine Or.inl ⟨want_of (congrArg some e4.1) rfl, ?_⟩
      refine rq_less (sx 43 (congrArg some e14.1) (sub_nil _)) (List.sublist_append_right _ _) ?_
      exact rq_v (rv_loadEl (u := .int .i64 ((es2.getD (((2 * (i : Int)) + 1).toNat) qu0).d)) rfl (by kernel_rfl) rfl (rd_row 0 rfl) ((flat_at quC 2 (fun _ => rfl) es2 qu0 (show ((2 * (i : Int)) + 1).toNat < _ by first | omega | (simp only [List.length_set]; omega)) (by decide)).trans rfl))
     ·
      intro vf pf hR
      have e4 : (vf 4) = .bool true ∧ (pf 4) = [] := hR 4 (by decide)
      have e10 : (vf 10) = .int .i64 ((es2.getD ((((2 * (i : Int)) + 1) + 1).toNat) qu0).d) ∧ (pf 10) = [] := hR 10 (by decide)
      have e15 : (vf 15) = .int .i64 ((es2.getD (((2 * (i : Int)) + 1).toNat) qu0).d) ∧ (pf 15) = [] := hR 15 (by decide)
      refine Or.inl ⟨want_of (congrArg some e4.1) rfl, ?_⟩
      refine rq_less (sx 39 (congrArg some e10.1) (sx 44 (congrArg some e15.1) (sub_nil _))) (List.sublist_append_right _ _) ?_
      exact rq_mono (rq_v (rv_cmp rfl rfl rfl rfl)) (fun _ _ h => ⟨h.1.trans (congrArg Value.bool hb6), h.2⟩)
     ·
      intro vf pf hR
      have e4 : (vf 4) = .bool true ∧ (pf 4) = [] := hR 4 (by decide)
      have e16 : (vf 16) = .bool false ∧ (pf 16) = [] := hR 16 (by decide)
      refine Or.inl ⟨rfl, ?_⟩
      refine rq_less (sx 33 (congrArg some e4.1) (sx 45 (congrArg some e16.1) (sub_nil _))) (List.sublist_append_right _ _) ?_
      exact rq_v (rv_ev rfl)
    ·
     intro vf pf hR
     have e17 : (vf 17) = .bool false ∧ (pf 17) = [] := hR 17 (by decide)
     refine hl_less (l' := (rowE 96 2 (slV v 0 ((es.length : Int) - 1).toNat 2) es2.length (es2.flatMap quC) :: boxE b2 #[.int .i64 ((es.getD 0 qu0).d), .int .i64 ((es.getD 0 qu0).n)] 96 :: boxE b1 #[.int .i64 0, .int .i64 0] 96 :: l)) (sx 0 rfl (sx 2 rfl (sx 3 rfl (sx 4 rfl (sx 5 rfl (sx 6 rfl (sx 7 rfl (sx 28 rfl (sx 46 (congrArg some e17.1) (sub_nil _)))))))))) (List.sublist_append_right _ _) ?_
     simp only [List.drop_succ_cons, List.drop_zero]
     refine hl_less (sx 0 rfl (sx 2 rfl (sx 3 rfl (sx 4 rfl (sx 5 rfl (sx 6 rfl (sx 7 rfl (sx 28 rfl (sx 46 rfl (sub_nil _)))))))))) (.refl _) ?_
     refine hl_nil ?_
     refine hq_then ?_
     refine hc_false rfl ?_
     refine hc_skip ?_
     refine hq_then ?_
     refine hc_seq ?_
     refine hc_seq ?_
     rcases Bool.eq_false_or_eq_true (decide ((es2.getD i qu0).d ≤ (es2.getD (((2 * (i : Int)) + 1).toNat) qu0).d)) with hb8 | hb8
     ·
      have hb8p : (es2.getD i qu0).d ≤ (es2.getD (((2 * (i : Int)) + 1).toNat) qu0).d := of_decide_eq_true hb8
      refine hc_draw (by kernel_rfl) 11 [0, 1, 2, 3, 4, 5, 6, 7, 8, 9, 10] (List.take 11 _) (List.drop 11 _) [[], [], [0, 1], [2], [3], [], [], [5, 6], [7], [8], [4, 9]] [49, 50, 51, 52, 53, 54, 55, 56, 57, 58, 59] (fun i_ vs_ v_ p_ => match i_ with | 0 => v_ = slV v 0 ((es.length : Int) - 1).toNat 2 ∧ p_ = [] | 1 => v_ = .int .i64 (i : Int) ∧ p_ = [] | 2 => v_ = elP (slV v 0 ((es.length : Int) - 1).toNat 2) (((i : Int)).toNat * 2) ∧ p_ = [] | 3 => v_ = elP (slV v 0 ((es.length : Int) - 1).toNat 2) (((i : Int)).toNat * 2 + 0) ∧ p_ = [] | 4 => v_ = .int .i64 ((es2.getD i qu0).d) ∧ p_ = [] | 5 => v_ = slV v 0 ((es.length : Int) - 1).toNat 2 ∧ p_ = [] | 6 => v_ = .int .i64 ((2 * (i : Int)) + 1) ∧ p_ = [] | 7 => v_ = elP (slV v 0 ((es.length : Int) - 1).toNat 2) (((2 * (i : Int)) + 1).toNat * 2) ∧ p_ = [] | 8 => v_ = elP (slV v 0 ((es.length : Int) - 1).toNat 2) (((2 * (i : Int)) + 1).toNat * 2 + 0) ∧ p_ = [] | 9 => v_ = .int .i64 ((es2.getD (((2 * (i : Int)) + 1).toNat) qu0).d) ∧ p_ = [] | 10 => v_ = .bool true ∧ p_ = [] | _ => True) (List.take_append_drop 11 _).symm (by kernel_rfl) (by kernel_rfl) rfl rfl ?_ ?_
      ·
       refine ⟨?_, ?_, ?_, ?_, ?_, ?_, ?_, ?_, ?_, ?_, ?_, trivial⟩
       ·
        intro vf pf hR
        refine Or.inl ⟨rfl, ?_⟩
        refine rq_less (sx 0 rfl (sub_nil _)) (List.sublist_append_right _ _) ?_
        exact rq_v (rv_ev rfl)
       ·
        intro vf pf hR
        refine Or.inl ⟨rfl, ?_⟩
        refine rq_less (sx 6 rfl (sub_nil _)) (List.sublist_append_right _ _) ?_
        exact rq_v (rv_ev rfl)
       ·
        intro vf pf hR
        have e0 : (vf 0) = slV v 0 ((es.length : Int) - 1).toNat 2 ∧ (pf 0) = [] := hR 0 (by decide)
        have e1 : (vf 1) = .int .i64 (i : Int) ∧ (pf 1) = [] := hR 1 (by decide)
        refine Or.inl ⟨rfl, ?_⟩
        refine rq_less (sx 49 (congrArg some e0.1) (sx 50 (congrArg some e1.1) (sub_nil _))) (List.sublist_append_right _ _) ?_
        exact rq_v (rv_index (s := 2) rfl Try.underlying93 (by kernel_rfl) rfl rfl (rd_row 0 rfl) (by omega) (by first | omega | (simp only [List.length_set]; omega)))
       ·
        intro vf pf hR
        have e2 : (vf 2) = elP (slV v 0 ((es.length : Int) - 1).toNat 2) (((i : Int)).toNat * 2) ∧ (pf 2) = [] := hR 2 (by decide)
        refine Or.inl ⟨rfl, ?_⟩
        refine rq_less (sx 51 (congrArg some e2.1) (sub_nil _)) (List.sublist_append_right _ _) ?_
        exact rq_v (rv_fieldEl (k0 := 0) rfl (by kernel_rfl) rfl (rd_row 0 rfl) (by first | omega | (simp only [List.length_set]; omega)))
       ·
        intro vf pf hR
        have e3 : (vf 3) = elP (slV v 0 ((es.length : Int) - 1).toNat 2) (((i : Int)).toNat * 2 + 0) ∧ (pf 3) = [] := hR 3 (by decide)
        refine Or.inl ⟨rfl, ?_⟩
        refine rq_less (sx 52 (congrArg some e3.1) (sub_nil _)) (List.sublist_append_right _ _) ?_
        exact rq_v (rv_loadEl (u := .int .i64 ((es2.getD i qu0).d)) rfl (by kernel_rfl) rfl (rd_row 0 rfl) ((flat_at quC 2 (fun _ => rfl) es2 qu0 (show i < _ by first | omega | (simp only [List.length_set]; omega)) (by decide)).trans rfl))
       ·
        intro vf pf hR
        refine Or.inl ⟨rfl, ?_⟩
        refine rq_less (sx 0 rfl (sub_nil _)) (List.sublist_append_right _ _) ?_
        exact rq_v (rv_ev rfl)
       ·
        intro vf pf hR
        refine Or.inl ⟨rfl, ?_⟩
        refine rq_less (sx 7 rfl (sub_nil _)) (List.sublist_append_right _ _) ?_
        exact rq_v (rv_ev rfl)
       ·
        intro vf pf hR
        have e5 : (vf 5) = slV v 0 ((es.length : Int) - 1).toNat 2 ∧ (pf 5) = [] := hR 5 (by decide)
        have e6 : (vf 6) = .int .i64 ((2 * (i : Int)) + 1) ∧ (pf 6) = [] := hR 6 (by decide)
        refine Or.inl ⟨rfl, ?_⟩
        refine rq_less (sx 54 (congrArg some e5.1) (sx 55 (congrArg some e6.1) (sub_nil _))) (List.sublist_append_right _ _) ?_
        exact rq_v (rv_index (s := 2) rfl Try.underlying93 (by kernel_rfl) rfl rfl (rd_row 0 rfl) (by omega) (by first | omega | (simp only [List.length_set]; omega)))
       ·
        intro vf pf hR
        have e7 : (vf 7) = elP (slV v 0 ((es.length : Int) - 1).toNat 2) (((2 * (i : Int)) + 1).toNat * 2) ∧ (pf 7) = [] := hR 7 (by decide)
        refine Or.inl ⟨rfl, ?_⟩
        refine rq_less (sx 56 (congrArg some e7.1) (sub_nil _)) (List.sublist_append_right _ _) ?_
        exact rq_v (rv_fieldEl (k0 := 0) rfl (by kernel_rfl) rfl (rd_row 0 rfl) (by first | omega | (simp only [List.length_set]; omega)))
       ·
        intro vf pf hR
        have e8 : (vf 8) = elP (slV v 0 ((es.length : Int) - 1).toNat 2) (((2 * (i : Int)) + 1).toNat * 2 + 0) ∧ (pf 8) = [] := hR 8 (by decide)
        refine Or.inl ⟨rfl, ?_⟩
        refine rq_less (sx 57 (congrArg some e8.1) (sub_nil _)) (List.sublist_append_right _ _) ?_
        exact rq_v (rv_loadEl (u := .int .i64 ((es2.getD (((2 * (i : Int)) + 1).toNat) qu0).d)) rfl (by kernel_rfl) rfl (rd_row 0 rfl) ((flat_at quC 2 (fun _ => rfl) es2 qu0 (show ((2 * (i : Int)) + 1).toNat < _ by first | omega | (simp only [List.length_set]; omega)) (by decide)).trans rfl))
       ·
        intro vf pf hR
        have e4 : (vf 4) = .int .i64 ((es2.getD i qu0).d) ∧ (pf 4) = [] := hR 4 (by decide)
        have e9 : (vf 9) = .int .i64 ((es2.getD (((2 * (i : Int)) + 1).toNat) qu0).d) ∧ (pf 9) = [] := hR 9 (by decide)
        refine Or.inl ⟨rfl, ?_⟩
        refine rq_less (sx 53 (congrArg some e4.1) (sx 58 (congrArg some e9.1) (sub_nil _))) (List.sublist_append_right _ _) ?_
        exact rq_mono (rq_v (rv_cmp rfl rfl rfl rfl)) (fun _ _ h => ⟨h.1.trans (congrArg Value.bool hb8), h.2⟩)
      ·
       intro vf pf hR
       have e10 : (vf 10) = .bool true ∧ (pf 10) = [] := hR 10 (by decide)
       refine hl_less (l' := (rowE 96 2 (slV v 0 ((es.length : Int) - 1).toNat 2) es2.length (es2.flatMap quC) :: boxE b2 #[.int .i64 ((es.getD 0 qu0).d), .int .i64 ((es.getD 0 qu0).n)] 96 :: boxE b1 #[.int .i64 0, .int .i64 0] 96 :: l)) (sx 0 rfl (sx 2 rfl (sx 3 rfl (sx 4 rfl (sx 5 rfl (sx 6 rfl (sx 7 rfl (sx 28 rfl (sx 46 rfl (sx 59 (congrArg some e10.1) (sub_nil _))))))))))) (List.sublist_append_right _ _) ?_
       simp only [List.drop_succ_cons, List.drop_zero]
       refine hl_less (sx 0 rfl (sx 2 rfl (sx 3 rfl (sx 4 rfl (sx 5 rfl (sx 6 rfl (sx 7 rfl (sx 28 rfl (sx 46 rfl (sx 59 rfl (sub_nil _))))))))))) (.refl _) ?_
       refine hl_nil ?_
       refine hq_then ?_
       refine hc_true rfl ?_
       refine hc_exit ?_
       refine hq_then_exit ?_
       refine hq_block_past rfl ?_
       refine hq_then_exit ?_
       refine hq_block_exit ?_
       refine hq_then ?_
       refine hc_seq ?_
       refine hc_less _ (sx 0 rfl (sx 3 rfl (sx 4 rfl (sx 5 rfl (sx 6 rfl (sx 7 rfl (sx 28 rfl (sx 46 rfl (sx 59 rfl (sub_nil _)))))))))) (.refl _) ?_
       refine hc_draw (by kernel_rfl) 3 [0, 1, 2] (List.take 3 _) (List.drop 3 _) [[], [], [0]] [75, 76, 2] (fun i_ vs_ v_ p_ => match i_ with | 0 => v_ = slV v 0 ((es.length : Int) - 1).toNat 2 ∧ p_ = [] | 1 => v_ = .agg #[.int .i64 ((es.getD 0 qu0).d), .int .i64 ((es.getD 0 qu0).n)] ∧ p_ = [] | 2 => v_ = slV v 0 ((es.length : Int) - 1).toNat 2 ∧ p_ = [] | _ => True) (List.take_append_drop 3 _).symm (by kernel_rfl) (by kernel_rfl) rfl rfl ?_ ?_
       ·
        refine ⟨?_, ?_, ?_, trivial⟩
        ·
         intro vf pf hR
         refine Or.inl ⟨rfl, ?_⟩
         refine rq_less (sx 0 rfl (sub_nil _)) (List.sublist_append_right _ _) ?_
         exact rq_v (rv_ev rfl)
        ·
         intro vf pf hR
         refine Or.inl ⟨rfl, ?_⟩
         refine rq_less (sx 4 rfl (sub_nil _)) (List.sublist_append_right _ _) ?_
         exact rq_v (rv_loadN (cs := [.int .i64 ((es.getD 0 qu0).d), .int .i64 ((es.getD 0 qu0).n)]) rfl (by kernel_rfl) (by kernel_rfl) rfl rfl (box_part 1 rfl 0 rfl))
        ·
         intro vf pf hR
         have e0 : (vf 0) = slV v 0 ((es.length : Int) - 1).toNat 2 ∧ (pf 0) = [] := hR 0 (by decide)
         refine Or.inl ⟨rfl, ?_⟩
         refine rq_less (sx 75 (congrArg some e0.1) (sub_nil _)) (List.sublist_append_right _ _) ?_
         exact rq_v (rv_ev rfl)
       ·
        intro vf pf hR
        have e1 : (vf 1) = .agg #[.int .i64 ((es.getD 0 qu0).d), .int .i64 ((es.getD 0 qu0).n)] ∧ (pf 1) = [] := hR 1 (by decide)
        have e2 : (vf 2) = slV v 0 ((es.length : Int) - 1).toNat 2 ∧ (pf 2) = [] := hR 2 (by decide)
        refine hl_less (l' := (rowE 96 2 (slV v 0 ((es.length : Int) - 1).toNat 2) es2.length (es2.flatMap quC) :: boxE b2 #[.int .i64 ((es.getD 0 qu0).d), .int .i64 ((es.getD 0 qu0).n)] 96 :: boxE b1 #[.int .i64 0, .int .i64 0] 96 :: l)) (sx 0 rfl (sx 2 (congrArg some e2.1) (sx 3 rfl (sx 4 rfl (sx 5 rfl (sx 6 rfl (sx 7 rfl (sx 28 rfl (sx 46 rfl (sx 59 rfl (sx 76 (congrArg some e1.1) (sub_nil _)))))))))))) (List.sublist_append_right _ _) ?_
        simp only [List.drop_succ_cons, List.drop_zero]
        refine hl_storeBoxN (i := 2) (off := 0) (us := [.int .i64 ((es.getD 0 qu0).d), .int .i64 ((es.getD 0 qu0).n)]) (l' := (rowE 96 2 (slV v 0 ((es.length : Int) - 1).toNat 2) es2.length (es2.flatMap quC) :: boxE b2 #[.int .i64 ((es.getD 0 qu0).d), .int .i64 ((es.getD 0 qu0).n)] 96 :: boxE b1 #[.int .i64 ((es.getD 0 qu0).d), .int .i64 ((es.getD 0 qu0).n)] 96 :: l)) rfl rfl rfl (by kernel_rfl) rfl rfl rfl (all_cons rfl (all_cons rfl all_nil)) rfl rfl rfl ?_
        refine hl_less (sx 0 rfl (sx 2 rfl (sx 3 rfl (sx 4 rfl (sx 5 rfl (sx 6 rfl (sx 7 rfl (sx 28 rfl (sx 46 rfl (sx 59 rfl (sub_nil _))))))))))) (.refl _) ?_
        refine hl_nil ?_
        refine hq_then ?_
        refine hc_ret ?_
        exact hq_ret (rs := [.tmp 2, .cell 3 96]) (vs := [slV v 0 ((es.length : Int) - 1).toNat 2, .agg #[.int .i64 ((es.getD 0 qu0).d), .int .i64 ((es.getD 0 qu0).n)]]) rfl ⟨rfl, ⟨b1, 0, [.int .i64 ((es.getD 0 qu0).d), .int .i64 ((es.getD 0 qu0).n)], rfl, rfl, by kernel_rfl, by kernel_rfl, box_part 2 rfl 0 rfl⟩, trivial⟩ rfl (fun w hm => ⟨_, rowE 96 2 (slV v 0 ((es.length : Int) - 1).toNat 2) es2.length (es2.flatMap quC), rfl, ⟨(es.getD 0 qu0), _, es2, rfl, rfl, hpm⟩, hm.sub ((.cons_cons _ (.cons _ (.cons _ (.refl _)))))⟩)
     ·
      have hb8p : ¬ ((es2.getD i qu0).d ≤ (es2.getD (((2 * (i : Int)) + 1).toNat) qu0).d) := of_decide_eq_false hb8
      refine hc_draw (by kernel_rfl) 11 [0, 1, 2, 3, 4, 5, 6, 7, 8, 9, 10] (List.take 11 _) (List.drop 11 _) [[], [], [0, 1], [2], [3], [], [], [5, 6], [7], [8], [4, 9]] [49, 50, 51, 52, 53, 54, 55, 56, 57, 58, 59] (fun i_ vs_ v_ p_ => match i_ with | 0 => v_ = slV v 0 ((es.length : Int) - 1).toNat 2 ∧ p_ = [] | 1 => v_ = .int .i64 (i : Int) ∧ p_ = [] | 2 => v_ = elP (slV v 0 ((es.length : Int) - 1).toNat 2) (((i : Int)).toNat * 2) ∧ p_ = [] | 3 => v_ = elP (slV v 0 ((es.length : Int) - 1).toNat 2) (((i : Int)).toNat * 2 + 0) ∧ p_ = [] | 4 => v_ = .int .i64 ((es2.getD i qu0).d) ∧ p_ = [] | 5 => v_ = slV v 0 ((es.length : Int) - 1).toNat 2 ∧ p_ = [] | 6 => v_ = .int .i64 ((2 * (i : Int)) + 1) ∧ p_ = [] | 7 => v_ = elP (slV v 0 ((es.length : Int) - 1).toNat 2) (((2 * (i : Int)) + 1).toNat * 2) ∧ p_ = [] | 8 => v_ = elP (slV v 0 ((es.length : Int) - 1).toNat 2) (((2 * (i : Int)) + 1).toNat * 2 + 0) ∧ p_ = [] | 9 => v_ = .int .i64 ((es2.getD (((2 * (i : Int)) + 1).toNat) qu0).d) ∧ p_ = [] | 10 => v_ = .bool false ∧ p_ = [] | _ => True) (List.take_append_drop 11 _).symm (by kernel_rfl) (by kernel_rfl) rfl rfl ?_ ?_
      ·
       refine ⟨?_, ?_, ?_, ?_, ?_, ?_, ?_, ?_, ?_, ?_, ?_, trivial⟩
       ·
        intro vf pf hR
        refine Or.inl ⟨rfl, ?_⟩
        refine rq_less (sx 0 rfl (sub_nil _)) (List.sublist_append_right _ _) ?_
        exact rq_v (rv_ev rfl)
       ·
        intro vf pf hR
        refine Or.inl ⟨rfl, ?_⟩
        refine rq_less (sx 6 rfl (sub_nil _)) (List.sublist_append_right _ _) ?_
        exact rq_v (rv_ev rfl)
       ·
        intro vf pf hR
        have e0 : (vf 0) = slV v 0 ((es.length : Int) - 1).toNat 2 ∧ (pf 0) = [] := hR 0 (by decide)
        have e1 : (vf 1) = .int .i64 (i : Int) ∧ (pf 1) = [] := hR 1 (by decide)
        refine Or.inl ⟨rfl, ?_⟩
        refine rq_less (sx 49 (congrArg some e0.1) (sx 50 (congrArg some e1.1) (sub_nil _))) (List.sublist_append_right _ _) ?_
        exact rq_v (rv_index (s := 2) rfl Try.underlying93 (by kernel_rfl) rfl rfl (rd_row 0 rfl) (by omega) (by first | omega | (simp only [List.length_set]; omega)))
       ·
        intro vf pf hR
        have e2 : (vf 2) = elP (slV v 0 ((es.length : Int) - 1).toNat 2) (((i : Int)).toNat * 2) ∧ (pf 2) = [] := hR 2 (by decide)
        refine Or.inl ⟨rfl, ?_⟩
        refine rq_less (sx 51 (congrArg some e2.1) (sub_nil _)) (List.sublist_append_right _ _) ?_
        exact rq_v (rv_fieldEl (k0 := 0) rfl (by kernel_rfl) rfl (rd_row 0 rfl) (by first | omega | (simp only [List.length_set]; omega)))
       ·
        intro vf pf hR
        have e3 : (vf 3) = elP (slV v 0 ((es.length : Int) - 1).toNat 2) (((i : Int)).toNat * 2 + 0) ∧ (pf 3) = [] := hR 3 (by decide)
        refine Or.inl ⟨rfl, ?_⟩
        refine rq_less (sx 52 (congrArg some e3.1) (sub_nil _)) (List.sublist_append_right _ _) ?_
        exact rq_v (rv_loadEl (u := .int .i64 ((es2.getD i qu0).d)) rfl (by kernel_rfl) rfl (rd_row 0 rfl) ((flat_at quC 2 (fun _ => rfl) es2 qu0 (show i < _ by first | omega | (simp only [List.length_set]; omega)) (by decide)).trans rfl))
       ·
        intro vf pf hR
        refine Or.inl ⟨rfl, ?_⟩
        refine rq_less (sx 0 rfl (sub_nil _)) (List.sublist_append_right _ _) ?_
        exact rq_v (rv_ev rfl)
       ·
        intro vf pf hR
        refine Or.inl ⟨rfl, ?_⟩
        refine rq_less (sx 7 rfl (sub_nil _)) (List.sublist_append_right _ _) ?_
        exact rq_v (rv_ev rfl)
       ·
        intro vf pf hR
        have e5 : (vf 5) = slV v 0 ((es.length : Int) - 1).toNat 2 ∧ (pf 5) = [] := hR 5 (by decide)
        have e6 : (vf 6) = .int .i64 ((2 * (i : Int)) + 1) ∧ (pf 6) = [] := hR 6 (by decide)
        refine Or.inl ⟨rfl, ?_⟩
        refine rq_less (sx 54 (congrArg some e5.1) (sx 55 (congrArg some e6.1) (sub_nil _))) (List.sublist_append_right _ _) ?_
        exact rq_v (rv_index (s := 2) rfl Try.underlying93 (by kernel_rfl) rfl rfl (rd_row 0 rfl) (by omega) (by first | omega | (simp only [List.length_set]; omega)))
       ·
        intro vf pf hR
        have e7 : (vf 7) = elP (slV v 0 ((es.length : Int) - 1).toNat 2) (((2 * (i : Int)) + 1).toNat * 2) ∧ (pf 7) = [] := hR 7 (by decide)
        refine Or.inl ⟨rfl, ?_⟩
        refine rq_less (sx 56 (congrArg some e7.1) (sub_nil _)) (List.sublist_append_right _ _) ?_
        exact rq_v (rv_fieldEl (k0 := 0) rfl (by kernel_rfl) rfl (rd_row 0 rfl) (by first | omega | (simp only [List.length_set]; omega)))
       ·
        intro vf pf hR
        have e8 : (vf 8) = elP (slV v 0 ((es.length : Int) - 1).toNat 2) (((2 * (i : Int)) + 1).toNat * 2 + 0) ∧ (pf 8) = [] := hR 8 (by decide)
        refine Or.inl ⟨rfl, ?_⟩
        refine rq_less (sx 57 (congrArg some e8.1) (sub_nil _)) (List.sublist_append_right _ _) ?_
        exact rq_v (rv_loadEl (u := .int .i64 ((es2.getD (((2 * (i : Int)) + 1).toNat) qu0).d)) rfl (by kernel_rfl) rfl (rd_row 0 rfl) ((flat_at quC 2 (fun _ => rfl) es2 qu0 (show ((2 * (i : Int)) + 1).toNat < _ by first | omega | (simp only [List.length_set]; omega)) (by decide)).trans rfl))
       ·
        intro vf pf hR
        have e4 : (vf 4) = .int .i64 ((es2.getD i qu0).d) ∧ (pf 4) = [] := hR 4 (by decide)
        have e9 : (vf 9) = .int .i64 ((es2.getD (((2 * (i : Int)) + 1).toNat) qu0).d) ∧ (pf 9) = [] := hR 9 (by decide)
        refine Or.inl ⟨rfl, ?_⟩
        refine rq_less (sx 53 (congrArg some e4.1) (sx 58 (congrArg some e9.1) (sub_nil _))) (List.sublist_append_right _ _) ?_
        exact rq_mono (rq_v (rv_cmp rfl rfl rfl rfl)) (fun _ _ h => ⟨h.1.trans (congrArg Value.bool hb8), h.2⟩)
      ·
       intro vf pf hR
       have e10 : (vf 10) = .bool false ∧ (pf 10) = [] := hR 10 (by decide)
       refine hl_less (l' := (rowE 96 2 (slV v 0 ((es.length : Int) - 1).toNat 2) es2.length (es2.flatMap quC) :: boxE b2 #[.int .i64 ((es.getD 0 qu0).d), .int .i64 ((es.getD 0 qu0).n)] 96 :: boxE b1 #[.int .i64 0, .int .i64 0] 96 :: l)) (sx 0 rfl (sx 2 rfl (sx 3 rfl (sx 4 rfl (sx 5 rfl (sx 6 rfl (sx 7 rfl (sx 28 rfl (sx 46 rfl (sx 59 (congrArg some e10.1) (sub_nil _))))))))))) (List.sublist_append_right _ _) ?_
       simp only [List.drop_succ_cons, List.drop_zero]
       refine hl_less (sx 0 rfl (sx 2 rfl (sx 3 rfl (sx 4 rfl (sx 5 rfl (sx 6 rfl (sx 7 rfl (sx 28 rfl (sx 46 rfl (sx 59 rfl (sub_nil _))))))))))) (.refl _) ?_
       refine hl_nil ?_
       refine hq_then ?_
       refine hc_false rfl ?_
       refine hc_skip ?_
       refine hq_then ?_
       refine hc_seq ?_
       refine hc_draw4 (l := (boxE b2 #[.int .i64 ((es.getD 0 qu0).d), .int .i64 ((es.getD 0 qu0).n)] 96 :: boxE b1 #[.int .i64 0, .int .i64 0] 96 :: l)) (by kernel_rfl) 14 [0, 1, 2, 3, 4, 5, 6, 7, 8, 9, 10, 11, 12, 13] (List.take 14 _) (List.drop 14 _) [[], [], [], [], [], [], [4, 5], [6], [], [], [8, 9], [10], [0, 1], [7, 12]] [some 60, some 61, some 62, some 63, some 64, some 65, some 66, some 67, some 68, some 69, some 70, some 71, some 72, none] (fun i_ vs_ v_ p_ => match i_ with | 0 => v_ = slV v 0 ((es.length : Int) - 1).toNat 2 ∧ p_ = [] | 1 => v_ = .int .i64 (i : Int) ∧ p_ = [] | 2 => v_ = slV v 0 ((es.length : Int) - 1).toNat 2 ∧ p_ = [] | 3 => v_ = .int .i64 ((2 * (i : Int)) + 1) ∧ p_ = [] | 4 => v_ = slV v 0 ((es.length : Int) - 1).toNat 2 ∧ p_ = [] | 5 => v_ = .int .i64 ((2 * (i : Int)) + 1) ∧ p_ = [] | 6 => v_ = elP (slV v 0 ((es.length : Int) - 1).toNat 2) (((2 * (i : Int)) + 1).toNat * 2) ∧ p_ = [] | 7 => v_ = .agg #[.int .i64 ((es2.getD (((2 * (i : Int)) + 1).toNat) qu0).d), .int .i64 ((es2.getD (((2 * (i : Int)) + 1).toNat) qu0).n)] ∧ p_ = [] | 8 => v_ = slV v 0 ((es.length : Int) - 1).toNat 2 ∧ p_ = [] | 9 => v_ = .int .i64 (i : Int) ∧ p_ = [] | 10 => v_ = elP (slV v 0 ((es.length : Int) - 1).toNat 2) (((i : Int)).toNat * 2) ∧ p_ = [] | 11 => v_ = .agg #[.int .i64 ((es2.getD i qu0).d), .int .i64 ((es2.getD i qu0).n)] ∧ p_ = [] | 12 => v_ = elP (slV v 0 ((es.length : Int) - 1).toNat 2) (((i : Int)).toNat * 2) ∧ p_ = [] | 13 => p_ = [rowE 96 2 (slV v 0 ((es.length : Int) - 1).toNat 2) ((es2.set i (es2.getD (((2 * (i : Int)) + 1).toNat) qu0)).length) ((es2.set i (es2.getD (((2 * (i : Int)) + 1).toNat) qu0)).flatMap quC)] | _ => True) [[], [], [], [], [], [], [4, 5, 16], [6, 16], [], [], [8, 9, 16], [10, 16], [0, 1, 16], [7, 12]] [none, none, none, none, none, none, none, none, none, none, none, none, none, some 16] [[rowE 96 2 (slV v 0 ((es.length : Int) - 1).toNat 2) es2.length (es2.flatMap quC)]] [0, 1, 2, 3, 4, 5, 6, 7, 8, 9, 10, 11, 12, 13] 16 (List.take_append_drop 14 _).symm (by kernel_rfl) (by kernel_rfl) (by kernel_rfl) rfl rfl ?_ ?_
       ·
        refine ⟨?_, ?_, ?_, ?_, ?_, ?_, ?_, ?_, ?_, ?_, ?_, ?_, ?_, ?_, trivial⟩
        ·
         intro vf pf hmu hR
         refine Or.inl ⟨rfl, ?_⟩
         show RunQ _ _ _ (([] : List Nat).flatMap pf ++ _) (envOf3 _ vf [] ++ _) _ _
         refine rq_less (sx 0 rfl (sub_nil _)) (List.sublist_append_right _ _) ?_
         exact rq_v (rv_ev rfl)
        ·
         intro vf pf hmu hR
         refine Or.inl ⟨rfl, ?_⟩
         show RunQ _ _ _ (([] : List Nat).flatMap pf ++ _) (envOf3 _ vf [] ++ _) _ _
         refine rq_less (sx 6 rfl (sub_nil _)) (List.sublist_append_right _ _) ?_
         exact rq_v (rv_ev rfl)
        ·
         intro vf pf hmu hR
         refine Or.inl ⟨rfl, ?_⟩
         show RunQ _ _ _ (([] : List Nat).flatMap pf ++ _) (envOf3 _ vf [] ++ _) _ _
         refine rq_less (sx 0 rfl (sub_nil _)) (List.sublist_append_right _ _) ?_
         exact rq_v (rv_ev rfl)
        ·
         intro vf pf hmu hR
         refine Or.inl ⟨rfl, ?_⟩
         show RunQ _ _ _ (([] : List Nat).flatMap pf ++ _) (envOf3 _ vf [] ++ _) _ _
         refine rq_less (sx 7 rfl (sub_nil _)) (List.sublist_append_right _ _) ?_
         exact rq_v (rv_ev rfl)
        ·
         intro vf pf hmu hR
         refine Or.inl ⟨rfl, ?_⟩
         show RunQ _ _ _ (([] : List Nat).flatMap pf ++ _) (envOf3 _ vf [] ++ _) _ _
         refine rq_less (sx 0 rfl (sub_nil _)) (List.sublist_append_right _ _) ?_
         exact rq_v (rv_ev rfl)
        ·
         intro vf pf hmu hR
         refine Or.inl ⟨rfl, ?_⟩
         show RunQ _ _ _ (([] : List Nat).flatMap pf ++ _) (envOf3 _ vf [] ++ _) _ _
         refine rq_less (sx 7 rfl (sub_nil _)) (List.sublist_append_right _ _) ?_
         exact rq_v (rv_ev rfl)
        ·
         intro vf pf hmu hR
         have e4 : (vf 4) = slV v 0 ((es.length : Int) - 1).toNat 2 ∧ (pf 4) = [] := hR 4 (by decide)
         have e5 : (vf 5) = .int .i64 ((2 * (i : Int)) + 1) ∧ (pf 5) = [] := hR 5 (by decide)
         refine Or.inl ⟨rfl, ?_⟩
         show RunQ _ _ _ (([4, 5, 16] : List Nat).flatMap pf ++ _) (envOf3 _ vf [4, 5] ++ _) _ _
         have hmu0 : pf 16 = [rowE 96 2 (slV v 0 ((es.length : Int) - 1).toNat 2) es2.length (es2.flatMap quC)] := hmu 0 (show 0 < 1 by omega)
         refine rq_less (l' := (rowE 96 2 (slV v 0 ((es.length : Int) - 1).toNat 2) es2.length (es2.flatMap quC) :: boxE b2 #[.int .i64 ((es.getD 0 qu0).d), .int .i64 ((es.getD 0 qu0).n)] 96 :: boxE b1 #[.int .i64 0, .int .i64 0] 96 :: l)) (sx 64 (congrArg some e4.1) (sx 65 (congrArg some e5.1) (sub_nil _))) (by first | (simp only [hmu0, e4.2, e5.2, List.flatMap_cons, List.flatMap_nil, List.append_nil, List.nil_append, List.cons_append]; exact List.Sublist.refl _) | simp [hmu0, e4.2, e5.2]) ?_
         exact rq_v (rv_index (s := 2) rfl Try.underlying93 (by kernel_rfl) rfl rfl (rd_row 0 rfl) (by omega) (by first | omega | (simp only [List.length_set]; omega)))
        ·
         intro vf pf hmu hR
         have e6 : (vf 6) = elP (slV v 0 ((es.length : Int) - 1).toNat 2) (((2 * (i : Int)) + 1).toNat * 2) ∧ (pf 6) = [] := hR 6 (by decide)
         refine Or.inl ⟨rfl, ?_⟩
         show RunQ _ _ _ (([6, 16] : List Nat).flatMap pf ++ _) (envOf3 _ vf [6] ++ _) _ _
         have hmu0 : pf 16 = [rowE 96 2 (slV v 0 ((es.length : Int) - 1).toNat 2) es2.length (es2.flatMap quC)] := hmu 0 (show 0 < 1 by omega)
         refine rq_less (l' := (rowE 96 2 (slV v 0 ((es.length : Int) - 1).toNat 2) es2.length (es2.flatMap quC) :: boxE b2 #[.int .i64 ((es.getD 0 qu0).d), .int .i64 ((es.getD 0 qu0).n)] 96 :: boxE b1 #[.int .i64 0, .int .i64 0] 96 :: l)) (sx 66 (congrArg some e6.1) (sub_nil _)) (by first | (simp only [hmu0, e6.2, List.flatMap_cons, List.flatMap_nil, List.append_nil, List.nil_append, List.cons_append]; exact List.Sublist.refl _) | simp [hmu0, e6.2]) ?_
         exact rq_v (rv_loadElN (us := [.int .i64 ((es2.getD (((2 * (i : Int)) + 1).toNat) qu0).d), .int .i64 ((es2.getD (((2 * (i : Int)) + 1).toNat) qu0).n)]) rfl (by kernel_rfl) (by kernel_rfl) rfl (rd_row 0 rfl) (by omega) rfl (flat_atN quC 2 (fun _ => rfl) es2 qu0 (show ((2 * (i : Int)) + 1).toNat < _ by first | omega | (simp only [List.length_set]; omega)) rfl))
        ·
         intro vf pf hmu hR
         refine Or.inl ⟨rfl, ?_⟩
         show RunQ _ _ _ (([] : List Nat).flatMap pf ++ _) (envOf3 _ vf [] ++ _) _ _
         refine rq_less (sx 0 rfl (sub_nil _)) (List.sublist_append_right _ _) ?_
         exact rq_v (rv_ev rfl)
        ·
         intro vf pf hmu hR
         refine Or.inl ⟨rfl, ?_⟩
         show RunQ _ _ _ (([] : List Nat).flatMap pf ++ _) (envOf3 _ vf [] ++ _) _ _
         refine rq_less (sx 6 rfl (sub_nil _)) (List.sublist_append_right _ _) ?_
         exact rq_v (rv_ev rfl)
        ·
         intro vf pf hmu hR
         have e8 : (vf 8) = slV v 0 ((es.length : Int) - 1).toNat 2 ∧ (pf 8) = [] := hR 8 (by decide)
         have e9 : (vf 9) = .int .i64 (i : Int) ∧ (pf 9) = [] := hR 9 (by decide)
         refine Or.inl ⟨rfl, ?_⟩
         show RunQ _ _ _ (([8, 9, 16] : List Nat).flatMap pf ++ _) (envOf3 _ vf [8, 9] ++ _) _ _
         have hmu0 : pf 16 = [rowE 96 2 (slV v 0 ((es.length : Int) - 1).toNat 2) es2.length (es2.flatMap quC)] := hmu 0 (show 0 < 1 by omega)
         refine rq_less (l' := (rowE 96 2 (slV v 0 ((es.length : Int) - 1).toNat 2) es2.length (es2.flatMap quC) :: boxE b2 #[.int .i64 ((es.getD 0 qu0).d), .int .i64 ((es.getD 0 qu0).n)] 96 :: boxE b1 #[.int .i64 0, .int .i64 0] 96 :: l)) (sx 68 (congrArg some e8.1) (sx 69 (congrArg some e9.1) (sub_nil _))) (by first | (simp only [hmu0, e8.2, e9.2, List.flatMap_cons, List.flatMap_nil, List.append_nil, List.nil_append, List.cons_append]; exact List.Sublist.refl _) | simp [hmu0, e8.2, e9.2]) ?_
         exact rq_v (rv_index (s := 2) rfl Try.underlying93 (by kernel_rfl) rfl rfl (rd_row 0 rfl) (by omega) (by first | omega | (simp only [List.length_set]; omega)))
        ·
         intro vf pf hmu hR
         have e10 : (vf 10) = elP (slV v 0 ((es.length : Int) - 1).toNat 2) (((i : Int)).toNat * 2) ∧ (pf 10) = [] := hR 10 (by decide)
         refine Or.inl ⟨rfl, ?_⟩
         show RunQ _ _ _ (([10, 16] : List Nat).flatMap pf ++ _) (envOf3 _ vf [10] ++ _) _ _
         have hmu0 : pf 16 = [rowE 96 2 (slV v 0 ((es.length : Int) - 1).toNat 2) es2.length (es2.flatMap quC)] := hmu 0 (show 0 < 1 by omega)
         refine rq_less (l' := (rowE 96 2 (slV v 0 ((es.length : Int) - 1).toNat 2) es2.length (es2.flatMap quC) :: boxE b2 #[.int .i64 ((es.getD 0 qu0).d), .int .i64 ((es.getD 0 qu0).n)] 96 :: boxE b1 #[.int .i64 0, .int .i64 0] 96 :: l)) (sx 70 (congrArg some e10.1) (sub_nil _)) (by first | (simp only [hmu0, e10.2, List.flatMap_cons, List.flatMap_nil, List.append_nil, List.nil_append, List.cons_append]; exact List.Sublist.refl _) | simp [hmu0, e10.2]) ?_
         exact rq_v (rv_loadElN (us := [.int .i64 ((es2.getD i qu0).d), .int .i64 ((es2.getD i qu0).n)]) rfl (by kernel_rfl) (by kernel_rfl) rfl (rd_row 0 rfl) (by omega) rfl (flat_atN quC 2 (fun _ => rfl) es2 qu0 (show i < _ by first | omega | (simp only [List.length_set]; omega)) rfl))
        ·
         intro vf pf hmu hR
         have e0 : (vf 0) = slV v 0 ((es.length : Int) - 1).toNat 2 ∧ (pf 0) = [] := hR 0 (by decide)
         have e1 : (vf 1) = .int .i64 (i : Int) ∧ (pf 1) = [] := hR 1 (by decide)
         refine Or.inl ⟨rfl, ?_⟩
         show RunQ _ _ _ (([0, 1, 16] : List Nat).flatMap pf ++ _) (envOf3 _ vf [0, 1] ++ _) _ _
         have hmu0 : pf 16 = [rowE 96 2 (slV v 0 ((es.length : Int) - 1).toNat 2) es2.length (es2.flatMap quC)] := hmu 0 (show 0 < 1 by omega)
         refine rq_less (l' := (rowE 96 2 (slV v 0 ((es.length : Int) - 1).toNat 2) es2.length (es2.flatMap quC) :: boxE b2 #[.int .i64 ((es.getD 0 qu0).d), .int .i64 ((es.getD 0 qu0).n)] 96 :: boxE b1 #[.int .i64 0, .int .i64 0] 96 :: l)) (sx 60 (congrArg some e0.1) (sx 61 (congrArg some e1.1) (sub_nil _))) (by first | (simp only [hmu0, e0.2, e1.2, List.flatMap_cons, List.flatMap_nil, List.append_nil, List.nil_append, List.cons_append]; exact List.Sublist.refl _) | simp [hmu0, e0.2, e1.2]) ?_
         exact rq_v (rv_index (s := 2) rfl Try.underlying93 (by kernel_rfl) rfl rfl (rd_row 0 rfl) (by omega) (by first | omega | (simp only [List.length_set]; omega)))
        ·
         intro vf pf hmu hR
         have e7 : (vf 7) = .agg #[.int .i64 ((es2.getD (((2 * (i : Int)) + 1).toNat) qu0).d), .int .i64 ((es2.getD (((2 * (i : Int)) + 1).toNat) qu0).n)] ∧ (pf 7) = [] := hR 7 (by decide)
         have e12 : (vf 12) = elP (slV v 0 ((es.length : Int) - 1).toNat 2) (((i : Int)).toNat * 2) ∧ (pf 12) = [] := hR 12 (by decide)
         refine Or.inl ⟨rfl, ?_⟩
         show RunM _ _ _ (pf 16) (([7, 12] : List Nat).flatMap pf ++ _) (envOf3 _ vf [7, 12] ++ _) _ _
         have hmu0 : pf 16 = [rowE 96 2 (slV v 0 ((es.length : Int) - 1).toNat 2) es2.length (es2.flatMap quC)] := hmu 0 (show 0 < 1 by omega)
         rw [hmu0]
         refine rm_less (X' := (boxE b2 #[.int .i64 ((es.getD 0 qu0).d), .int .i64 ((es.getD 0 qu0).n)] 96 :: boxE b1 #[.int .i64 0, .int .i64 0] 96 :: l)) (sx 67 (congrArg some e7.1) (sx 72 (congrArg some e12.1) (sub_nil _))) (by first | (simp only [e7.2, e12.2, List.flatMap_cons, List.flatMap_nil, List.append_nil, List.nil_append, List.cons_append]; exact List.Sublist.refl _) | simp [e7.2, e12.2]) ?_
         exact rm_mono (rm_storeElN (us := [.int .i64 ((es2.getD (((2 * (i : Int)) + 1).toNat) qu0).d), .int .i64 ((es2.getD (((2 * (i : Int)) + 1).toNat) qu0).n)]) (n' := (es2.set i (es2.getD (((2 * (i : Int)) + 1).toNat) qu0)).length) (xs' := ((es2.set i (es2.getD (((2 * (i : Int)) + 1).toNat) qu0)).flatMap quC)) 0 rfl rfl (by kernel_rfl) rfl rfl (all_cons rfl (all_cons rfl all_nil)) rfl (by first | omega | (simp only [List.length_set]; omega)) (by simp only [List.length_cons, List.length_nil]; first | omega | (simp only [List.length_set]; omega)) List.length_set.symm (flat_put quC 2 (fun _ => rfl) _ (es2.getD (((2 * (i : Int)) + 1).toNat) qu0) (by first | omega | (simp only [List.length_set]; omega)))) (fun v_ p_ h => by show p_ = [rowE 96 2 (slV v 0 ((es.length : Int) - 1).toNat 2) ((es2.set i (es2.getD (((2 * (i : Int)) + 1).toNat) qu0)).length) ((es2.set i (es2.getD (((2 * (i : Int)) + 1).toNat) qu0)).flatMap quC)]; exact h)
       ·
        intro vf pf hmu hR
        have e2 : (vf 2) = slV v 0 ((es.length : Int) - 1).toNat 2 ∧ (pf 2) = [] := hR 2 (by decide)
        have e3 : (vf 3) = .int .i64 ((2 * (i : Int)) + 1) ∧ (pf 3) = [] := hR 3 (by decide)
        have e11 : (vf 11) = .agg #[.int .i64 ((es2.getD i qu0).d), .int .i64 ((es2.getD i qu0).n)] ∧ (pf 11) = [] := hR 11 (by decide)
        have e13 : (pf 13) = [rowE 96 2 (slV v 0 ((es.length : Int) - 1).toNat 2) ((es2.set i (es2.getD (((2 * (i : Int)) + 1).toNat) qu0)).length) ((es2.set i (es2.getD (((2 * (i : Int)) + 1).toNat) qu0)).flatMap quC)] := hR 13 (by decide)
        have p13 := e13
        have q0 : (vf 0) = slV v 0 ((es.length : Int) - 1).toNat 2 ∧ (pf 0) = [] := hR 0 (by decide)
        have q1 : (vf 1) = .int .i64 (i : Int) ∧ (pf 1) = [] := hR 1 (by decide)
        have q2 : (vf 2) = slV v 0 ((es.length : Int) - 1).toNat 2 ∧ (pf 2) = [] := hR 2 (by decide)
        have q3 : (vf 3) = .int .i64 ((2 * (i : Int)) + 1) ∧ (pf 3) = [] := hR 3 (by decide)
        have q4 : (vf 4) = slV v 0 ((es.length : Int) - 1).toNat 2 ∧ (pf 4) = [] := hR 4 (by decide)
        have q5 : (vf 5) = .int .i64 ((2 * (i : Int)) + 1) ∧ (pf 5) = [] := hR 5 (by decide)
        have q6 : (vf 6) = elP (slV v 0 ((es.length : Int) - 1).toNat 2) (((2 * (i : Int)) + 1).toNat * 2) ∧ (pf 6) = [] := hR 6 (by decide)
        have q7 : (vf 7) = .agg #[.int .i64 ((es2.getD (((2 * (i : Int)) + 1).toNat) qu0).d), .int .i64 ((es2.getD (((2 * (i : Int)) + 1).toNat) qu0).n)] ∧ (pf 7) = [] := hR 7 (by decide)
        have q8 : (vf 8) = slV v 0 ((es.length : Int) - 1).toNat 2 ∧ (pf 8) = [] := hR 8 (by decide)
        have q9 : (vf 9) = .int .i64 (i : Int) ∧ (pf 9) = [] := hR 9 (by decide)
        have q10 : (vf 10) = elP (slV v 0 ((es.length : Int) - 1).toNat 2) (((i : Int)).toNat * 2) ∧ (pf 10) = [] := hR 10 (by decide)
        have q11 : (vf 11) = .agg #[.int .i64 ((es2.getD i qu0).d), .int .i64 ((es2.getD i qu0).n)] ∧ (pf 11) = [] := hR 11 (by decide)
        have q12 : (vf 12) = elP (slV v 0 ((es.length : Int) - 1).toNat 2) (((i : Int)).toNat * 2) ∧ (pf 12) = [] := hR 12 (by decide)
        refine hl_less (l' := (rowE 96 2 (slV v 0 ((es.length : Int) - 1).toNat 2) ((es2.set i (es2.getD (((2 * (i : Int)) + 1).toNat) qu0)).length) ((es2.set i (es2.getD (((2 * (i : Int)) + 1).toNat) qu0)).flatMap quC) :: boxE b2 #[.int .i64 ((es.getD 0 qu0).d), .int .i64 ((es.getD 0 qu0).n)] 96 :: boxE b1 #[.int .i64 0, .int .i64 0] 96 :: l)) (sx 0 rfl (sx 2 rfl (sx 3 rfl (sx 4 rfl (sx 5 rfl (sx 6 rfl (sx 7 rfl (sx 28 rfl (sx 46 rfl (sx 59 rfl (sx 62 (congrArg some e2.1) (sx 63 (congrArg some e3.1) (sx 71 (congrArg some e11.1) (sub_nil _)))))))))))))) (by first | (simp only [p13, q0.2, q1.2, q2.2, q3.2, q4.2, q5.2, q6.2, q7.2, q8.2, q9.2, q10.2, q11.2, q12.2, List.flatMap_cons, List.flatMap_nil, List.append_nil, List.nil_append, List.cons_append]; exact List.Sublist.refl _) | simp [p13, q0.2, q1.2, q2.2, q3.2, q4.2, q5.2, q6.2, q7.2, q8.2, q9.2, q10.2, q11.2, q12.2]) ?_
        simp only [List.drop_succ_cons, List.drop_zero]
        refine hl_v rfl rfl rfl (rv_index (s := 2) rfl Try.underlying93 (by kernel_rfl) rfl rfl (rd_row 0 rfl) (by omega) (by first | omega | (simp only [List.length_set]; omega))) ?_
        refine hl_storeElN (i := 0) (us := [.int .i64 ((es2.getD i qu0).d), .int .i64 ((es2.getD i qu0).n)]) (n' := ((es2.set i (es2.getD (((2 * (i : Int)) + 1).toNat) qu0)).set (((2 * (i : Int)) + 1).toNat) (es2.getD i qu0)).length) (xs' := (((es2.set i (es2.getD (((2 * (i : Int)) + 1).toNat) qu0)).set (((2 * (i : Int)) + 1).toNat) (es2.getD i qu0)).flatMap quC)) (l' := (rowE 96 2 (slV v 0 ((es.length : Int) - 1).toNat 2) (((es2.set i (es2.getD (((2 * (i : Int)) + 1).toNat) qu0)).set (((2 * (i : Int)) + 1).toNat) (es2.getD i qu0)).length) (((es2.set i (es2.getD (((2 * (i : Int)) + 1).toNat) qu0)).set (((2 * (i : Int)) + 1).toNat) (es2.getD i qu0)).flatMap quC) :: boxE b2 #[.int .i64 ((es.getD 0 qu0).d), .int .i64 ((es.getD 0 qu0).n)] 96 :: boxE b1 #[.int .i64 0, .int .i64 0] 96 :: l)) rfl rfl rfl (by kernel_rfl) rfl rfl (all_cons rfl (all_cons rfl all_nil)) rfl (by first | omega | (simp only [List.length_set]; omega)) (by simp only [List.length_cons, List.length_nil]; first | omega | (simp only [List.length_set]; omega)) List.length_set.symm (flat_put quC 2 (fun _ => rfl) _ (es2.getD i qu0) (by first | omega | (simp only [List.length_set]; omega))) rfl ?_
        refine hl_less (sx 0 rfl (sx 2 rfl (sx 3 rfl (sx 4 rfl (sx 5 rfl (sx 6 rfl (sx 7 rfl (sx 28 rfl (sx 46 rfl (sx 59 rfl (sub_nil _))))))))))) (.refl _) ?_
        refine hl_nil ?_
        refine hq_then ?_
        refine hc_region ?_
        refine hl_v rfl rfl rfl (rv_ev rfl) ?_
        refine hl_v rfl rfl rfl (rv_ev rfl) ?_
        refine hl_less (sx 0 rfl (sx 2 rfl (sx 3 rfl (sx 4 rfl (sx 5 rfl (sx 6 rfl (sx 7 rfl (sx 28 rfl (sx 46 rfl (sx 59 rfl (sub_nil _))))))))))) (.refl _) ?_
        refine hl_nil ?_
        refine hq_block_normal ?_
        exact hq_round2 ((2 * (i : Int)) + 1).toNat ((es2.set i (es2.getD (((2 * (i : Int)) + 1).toNat) qu0)).set (((2 * (i : Int)) + 1).toNat) (es2.getD i qu0)) ⟨.inr (by simp only [List.length_set]; omega), by simp only [List.length_set]; omega, ((swap_perm qu0 es2 _ _ (by omega) (by omega)).cons _).trans hpm⟩ (by omega) (sx 0 rfl (sx 2 rfl (sx 3 rfl (sx 4 rfl (sx 5 rfl (sx 6 (by rw [Int.toNat_of_nonneg (by omega)]; rfl) (sub_nil _))))))) ((.cons_cons _ (.cons_cons _ (.cons_cons _ (.refl _)))))
  ·
   have hb5p : ¬ (((2 * (i : Int)) + 1) + 1 < (es.length : Int) - 1) := of_decide_eq_false hb5
   refine hc_draw (by kernel_rfl) 18 [0, 1, 2, 3, 4, 5, 6, 7, 8, 9, 10, 11, 12, 13, 14, 15, 16, 17] (List.take 18 _) (List.drop 18 _) [[], [0], [], [1, 2], [3], [4], [4], [4], [4], [4], [4], [4], [4], [4], [4], [4], [4], [4, 16]] [29, 30, 31, 32, 33, 34, 35, 36, 37, 38, 39, 40, 41, 42, 43, 44, 45, 46] (fun i_ vs_ v_ p_ => match i_ with | 0 => v_ = .int .i64 ((2 * (i : Int)) + 1) ∧ p_ = [] | 1 => v_ = .int .i64 (((2 * (i : Int)) + 1) + 1) ∧ p_ = [] | 2 => v_ = .int .i64 ((es.length : Int) - 1) ∧ p_ = [] | 3 => v_ = .bool false ∧ p_ = [] | 4 => v_ = .bool false ∧ p_ = [] | 5 => v_ = undef ∧ p_ = [] | 6 => v_ = undef ∧ p_ = [] | 7 => v_ = undef ∧ p_ = [] | 8 => v_ = undef ∧ p_ = [] | 9 => v_ = undef ∧ p_ = [] | 10 => v_ = undef ∧ p_ = [] | 11 => v_ = undef ∧ p_ = [] | 12 => v_ = undef ∧ p_ = [] | 13 => v_ = undef ∧ p_ = [] | 14 => v_ = undef ∧ p_ = [] | 15 => v_ = undef ∧ p_ = [] | 16 => v_ = undef ∧ p_ = [] | 17 => v_ = .bool false ∧ p_ = [] | _ => True) (List.take_append_drop 18 _).symm (by kernel_rfl) (by kernel_rfl) rfl rfl ?_ ?_
   ·
    refine ⟨?_, ?_, ?_, ?_, ?_, ?_, ?_, ?_, ?_, ?_, ?_, ?_, ?_, ?_, ?_, ?_, ?_, ?_, trivial⟩
    ·
     intro vf pf hR
     refine Or.inl ⟨rfl, ?_⟩
     refine rq_less (sx 7 rfl (sub_nil _)) (List.sublist_append_right _ _) ?_
     exact rq_v (rv_ev rfl)
    ·
     intro vf pf hR
     have e0 : (vf 0) = .int .i64 ((2 * (i : Int)) + 1) ∧ (pf 0) = [] := hR 0 (by decide)
     refine Or.inl ⟨rfl, ?_⟩
     refine rq_less (sx 29 (congrArg some e0.1) (sub_nil _)) (List.sublist_append_right _ _) ?_
     exact rq_v (rv_add rfl rfl rfl (by constructor <;> omega))
    ·
     intro vf pf hR
     refine Or.inl ⟨rfl, ?_⟩
     refine rq_less (sx 5 rfl (sub_nil _)) (List.sublist_append_right _ _) ?_
     exact rq_v (rv_ev rfl)
    ·
     intro vf pf hR
     have e1 : (vf 1) = .int .i64 (((2 * (i : Int)) + 1) + 1) ∧ (pf 1) = [] := hR 1 (by decide)
     have e2 : (vf 2) = .int .i64 ((es.length : Int) - 1) ∧ (pf 2) = [] := hR 2 (by decide)
     refine Or.inl ⟨rfl, ?_⟩
     refine rq_less (sx 30 (congrArg some e1.1) (sx 31 (congrArg some e2.1) (sub_nil _))) (List.sublist_append_right _ _) ?_
     exact rq_mono (rq_v (rv_cmp rfl rfl rfl rfl)) (fun _ _ h => ⟨h.1.trans (congrArg Value.bool hb5), h.2⟩)
    ·
     intro vf pf hR
     have e3 : (vf 3) = .bool false ∧ (pf 3) = [] := hR 3 (by decide)
     refine Or.inl ⟨rfl, ?_⟩
     refine rq_less (sx 32 (congrArg some e3.1) (sub_nil _)) (List.sublist_append_right _ _) ?_
     exact rq_v (rv_ev rfl)
    ·
     intro vf pf hR
     have e4 : (vf 4) = .bool false ∧ (pf 4) = [] := hR 4 (by decide)
     exact Or.inr ⟨want_of (congrArg some e4.1) rfl, rfl, rfl⟩
    ·
     intro vf pf hR
     have e4 : (vf 4) = .bool false ∧ (pf 4) = [] := hR 4 (by decide)
     exact Or.inr ⟨want_of (congrArg some e4.1) rfl, rfl, rfl⟩
    ·
     intro vf pf hR
     have e4 : (vf 4) = .bool false ∧ (pf 4) = [] := hR 4 (by decide)
     exact Or.inr ⟨want_of (congrArg some e4.1) rfl, rfl, rfl⟩
    ·
     intro vf pf hR
     have e4 : (vf 4) = .bool false ∧ (pf 4) = [] := hR 4 (by decide)
     exact Or.inr ⟨want_of (congrArg some e4.1) rfl, rfl, rfl⟩
    ·
     intro vf pf hR
     have e4 : (vf 4) = .bool false ∧ (pf 4) = [] := hR 4 (by decide)
     exact Or.inr ⟨want_of (congrArg some e4.1) rfl, rfl, rfl⟩
    ·
     intro vf pf hR
     have e4 : (vf 4) = .bool false ∧ (pf 4) = [] := hR 4 (by decide)
     exact Or.inr ⟨want_of (congrArg some e4.1) rfl, rfl, rfl⟩
    ·
     intro vf pf hR
     have e4 : (vf 4) = .bool false ∧ (pf 4) = [] := hR 4 (by decide)
     exact Or.inr ⟨want_of (congrArg some e4.1) rfl, rfl, rfl⟩
    ·
     intro vf pf hR
     have e4 : (vf 4) = .bool false ∧ (pf 4) = [] := hR 4 (by decide)
     exact Or.inr ⟨want_of (congrArg some e4.1) rfl, rfl, rfl⟩
    ·
     intro vf pf hR
     have e4 : (vf 4) = .bool false ∧ (pf 4) = [] := hR 4 (by decide)
     exact Or.inr ⟨want_of (congrArg some e4.1) rfl, rfl, rfl⟩
    ·
     intro vf pf hR
     have e4 : (vf 4) = .bool false ∧ (pf 4) = [] := hR 4 (by decide)
     exact Or.inr ⟨want_of (congrArg some e4.1) rfl, rfl, rfl⟩
    ·
     intro vf pf hR
     have e4 : (vf 4) = .bool false ∧ (pf 4) = [] := hR 4 (by decide)
     exact Or.inr ⟨want_of (congrArg some e4.1) rfl, rfl, rfl⟩
    ·
     intro vf pf hR
     have e4 : (vf 4) = .bool false ∧ (pf 4) = [] := hR 4 (by decide)
     exact Or.inr ⟨want_of (congrArg some e4.1) rfl, rfl, rfl⟩
    ·
     intro vf pf hR
     have e4 : (vf 4) = .bool false ∧ (pf 4) = [] := hR 4 (by decide)
     have e16 : (vf 16) = undef ∧ (pf 16) = [] := hR 16 (by decide)
     refine Or.inl ⟨rfl, ?_⟩
     refine rq_less (sx 33 (congrArg some e4.1) (sx 45 (congrArg some e16.1) (sub_nil _))) (List.sublist_append_right _ _) ?_
     exact rq_v (rv_ev rfl)
   ·
    intro vf pf hR
    have e17 : (vf 17) = .bool false ∧ (pf 17) = [] := hR 17 (by decide)
    refine hl_less (l' := (rowE 96 2 (slV v 0 ((es.length : Int) - 1).toNat 2) es2.length (es2.flatMap quC) :: boxE b2 #[.int .i64 ((es.getD 0 qu0).d), .int .i64 ((es.getD 0 qu0).n)] 96 :: boxE b1 #[.int .i64 0, .int .i64 0] 96 :: l)) (sx 0 rfl (sx 2 rfl (sx 3 rfl (sx 4 rfl (sx 5 rfl (sx 6 rfl (sx 7 rfl (sx 28 rfl (sx 46 (congrArg some e17.1) (sub_nil _)))))))))) (List.sublist_append_right _ _) ?_
    simp only [List.drop_succ_cons, List.drop_zero]
    refine hl_less (sx 0 rfl (sx 2 rfl (sx 3 rfl (sx 4 rfl (sx 5 rfl (sx 6 rfl (sx 7 rfl (sx 28 rfl (sx 46 rfl (sub_nil _)))))))))) (.refl _) ?_
    refine hl_nil ?_
    refine hq_then ?_
    refine hc_false rfl ?_
    refine hc_skip ?_
    refine hq_then ?_
    refine hc_seq ?_
    refine hc_seq ?_
    rcases Bool.eq_false_or_eq_true (decide ((es2.getD i qu0).d ≤ (es2.getD (((2 * (i : Int)) + 1).toNat) qu0).d)) with hb9 | hb9
    ·
     have hb9p : (es2.getD i qu0).d ≤ (es2.getD (((2 * (i : Int)) + 1).toNat) qu0).d := of_decide_eq_true hb9
     refine hc_draw (by kernel_rfl) 11 [0, 1, 2, 3, 4, 5, 6, 7, 8, 9, 10] (List.take 11 _) (List.drop 11 _) [[], [], [0, 1], [2], [3], [], [], [5, 6], [7], [8], [4, 9]] [49, 50, 51, 52, 53, 54, 55, 56, 57, 58, 59] (fun i_ vs_ v_ p_ => match i_ with | 0 => v_ = slV v 0 ((es.length : Int) - 1).toNat 2 ∧ p_ = [] | 1 => v_ = .int .i64 (i : Int) ∧ p_ = [] | 2 => v_ = elP (slV v 0 ((es.length : Int) - 1).toNat 2) (((i : Int)).toNat * 2) ∧ p_ = [] | 3 => v_ = elP (slV v 0 ((es.length : Int) - 1).toNat 2) (((i : Int)).toNat * 2 + 0) ∧ p_ = [] | 4 => v_ = .int .i64 ((es2.getD i qu0).d) ∧ p_ = [] | 5 => v_ = slV v 0 ((es.length : Int) - 1).toNat 2 ∧ p_ = [] | 6 => v_ = .int .i64 ((2 * (i : Int)) + 1) ∧ p_ = [] | 7 => v_ = elP (slV v 0 ((es.length : Int) - 1).toNat 2) (((2 * (i : Int)) + 1).toNat * 2) ∧ p_ = [] | 8 => v_ = elP (slV v 0 ((es.length : Int) - 1).toNat 2) (((2 * (i : Int)) + 1).toNat * 2 + 0) ∧ p_ = [] | 9 => v_ = .int .i64 ((es2.getD (((2 * (i : Int)) + 1).toNat) qu0).d) ∧ p_ = [] | 10 => v_ = .bool true ∧ p_ = [] | _ => True) (List.take_append_drop 11 _).symm (by kernel_rfl) (by kernel_rfl) rfl rfl ?_ ?_
     ·
      refine ⟨?_, ?_, ?_, ?_, ?_, ?_, ?_, ?_, ?_, ?_, ?_, trivial⟩
      ·
       intro vf pf hR
       refine Or.inl ⟨rfl, ?_⟩
       refine rq_less (sx 0 rfl (sub_nil _)) (List.sublist_append_right _ _) ?_
       exact rq_v (rv_ev rfl)
      ·
       intro vf pf hR
       refine Or.inl ⟨rfl, ?_⟩
       refine rq_less (sx 6 rfl (sub_nil _)) (List.sublist_append_right _ _) ?_
       exact rq_v (rv_ev rfl)
      ·
       intro vf pf hR
       have e0 : (vf 0) = slV v 0 ((es.length : Int) - 1).toNat 2 ∧ (pf 0) = [] := hR 0 (by decide)
       have e1 : (vf 1) = .int .i64 (i : Int) ∧ (pf 1) = [] := hR 1 (by decide)
       refine Or.inl ⟨rfl, ?_⟩
       refine rq_less (sx 49 (congrArg some e0.1) (sx 50 (congrArg some e1.1) (sub_nil _))) (List.sublist_append_right _ _) ?_
       exact rq_v (rv_index (s := 2) rfl Try.underlying93 (by kernel_rfl) rfl rfl (rd_row 0 rfl) (by omega) (by first | omega | (simp only [List.length_set]; omega)))
      ·
       intro vf pf hR
       have e2 : (vf 2) = elP (slV v 0 ((es.length : Int) - 1).toNat 2) (((i : Int)).toNat * 2) ∧ (pf 2) = [] := hR 2 (by decide)
       refine Or.inl ⟨rfl, ?_⟩
       refine rq_less (sx 51 (congrArg some e2.1) (sub_nil _)) (List.sublist_append_right _ _) ?_
       exact rq_v (rv_fieldEl (k0 := 0) rfl (by kernel_rfl) rfl (rd_row 0 rfl) (by first | omega | (simp only [List.length_set]; omega)))
      ·
       intro vf pf hR
       have e3 : (vf 3) = elP (slV v 0 ((es.length : Int) - 1).toNat 2) (((i : Int)).toNat * 2 + 0) ∧ (pf 3) = [] := hR 3 (by decide)
       refine Or.inl ⟨rfl, ?_⟩
       refine rq_less (sx 52 (congrArg some e3.1) (sub_nil _)) (List.sublist_append_right _ _) ?_
       exact rq_v (rv_loadEl (u := .int .i64 ((es2.getD i qu0).d)) rfl (by kernel_rfl) rfl (rd_row 0 rfl) ((flat_at quC 2 (fun _ => rfl) es2 qu0 (show i < _ by first | omega | (simp only [List.length_set]; omega)) (by decide)).trans rfl))
      ·
       intro vf pf hR
       refine Or.inl ⟨rfl, ?_⟩
       refine rq_less (sx 0 rfl (sub_nil _)) (List.sublist_append_right _ _) ?_
       exact rq_v (rv_ev rfl)
      ·
       intro vf pf hR
       refine Or.inl ⟨rfl, ?_⟩
       refine rq_less (sx 7 rfl (sub_nil _)) (List.sublist_append_right _ _) ?_
       exact rq_v (rv_ev rfl)
      ·
       intro vf pf hR
       have e5 : (vf 5) = slV v 0 ((es.length : Int) - 1).toNat 2 ∧ (pf 5) = [] := hR 5 (by decide)
       have e6 : (vf 6) = .int .i64 ((2 * (i : Int)) + 1) ∧ (pf 6) = [] := hR 6 (by decide)
       refine Or.inl ⟨rfl, ?_⟩
       refine rq_less (sx 54 (congrArg some e5.1) (sx 55 (congrArg some e6.1) (sub_nil _))) (List.sublist_append_right _ _) ?_
       exact rq_v (rv_index (s := 2) rfl Try.underlying93 (by kernel_rfl) rfl rfl (rd_row 0 rfl) (by omega) (by first | omega | (simp only [List.length_set]; omega)))
      ·
       intro vf pf hR
       have e7 : (vf 7) = elP (slV v 0 ((es.length : Int) - 1).toNat 2) (((2 * (i : Int)) + 1).toNat * 2) ∧ (pf 7) = [] := hR 7 (by decide)
       refine Or.inl ⟨rfl, ?_⟩
       refine rq_less (sx 56 (congrArg some e7.1) (sub_nil _)) (List.sublist_append_right _ _) ?_
       exact rq_v (rv_fieldEl (k0 := 0) rfl (by kernel_rfl) rfl (rd_row 0 rfl) (by first | omega | (simp only [List.length_set]; omega)))
      ·
       intro vf pf hR
       have e8 : (vf 8) = elP (slV v 0 ((es.length : Int) - 1).toNat 2) (((2 * (i : Int)) + 1).toNat * 2 + 0) ∧ (pf 8) = [] := hR 8 (by decide)
       refine Or.inl ⟨rfl, ?_⟩
       refine rq_less (sx 57 (congrArg some e8.1) (sub_nil _)) (List.sublist_append_right _ _) ?_
       exact rq_v (rv_loadEl (u := .int .i64 ((es2.getD (((2 * (i : Int)) + 1).toNat) qu0).d)) rfl (by kernel_rfl) rfl (rd_row 0 rfl) ((flat_at quC 2 (fun _ => rfl) es2 qu0 (show ((2 * (i : Int)) + 1).toNat < _ by first | omega | (simp only [List.length_set]; omega)) (by decide)).trans rfl))
      ·
       intro vf pf hR
       have e4 : (vf 4) = .int .i64 ((es2.getD i qu0).d) ∧ (pf 4) = [] := hR 4 (by decide)
       have e9 : (vf 9) = .int .i64 ((es2.getD (((2 * (i : Int)) + 1).toNat) qu0).d) ∧ (pf 9) = [] := hR 9 (by decide)
       refine Or.inl ⟨rfl, ?_⟩
       refine rq_less (sx 53 (congrArg some e4.1) (sx 58 (congrArg some e9.1) (sub_nil _))) (List.sublist_append_right _ _) ?_
       exact rq_mono (rq_v (rv_cmp rfl rfl rfl rfl)) (fun _ _ h => ⟨h.1.trans (congrArg Value.bool hb9), h.2⟩)
     ·
      intro vf pf hR
      have e10 : (vf 10) = .bool true ∧ (pf 10) = [] := hR 10 (by decide)
      refine hl_less (l' := (rowE 96 2 (slV v 0 ((es.length : Int) - 1).toNat 2) es2.length (es2.flatMap quC) :: boxE b2 #[.int .i64 ((es.getD 0 qu0).d), .int .i64 ((es.getD 0 qu0).n)] 96 :: boxE b1 #[.int .i64 0, .int .i64 0] 96 :: l)) (sx 0 rfl (sx 2 rfl (sx 3 rfl (sx 4 rfl (sx 5 rfl (sx 6 rfl (sx 7 rfl (sx 28 rfl (sx 46 rfl (sx 59 (congrArg some e10.1) (sub_nil _))))))))))) (List.sublist_append_right _ _) ?_
      simp only [List.drop_succ_cons, List.drop_zero]
      refine hl_less (sx 0 rfl (sx 2 rfl (sx 3 rfl (sx 4 rfl (sx 5 rfl (sx 6 rfl (sx 7 rfl (sx 28 rfl (sx 46 rfl (sx 59 rfl (sub_nil _))))))))))) (.refl _) ?_
      refine hl_nil ?_
      refine hq_then ?_
      refine hc_true rfl ?_
      refine hc_exit ?_
      refine hq_then_exit ?_
      refine hq_block_past rfl ?_
      refine hq_then_exit ?_
      refine hq_block_exit ?_
      refine hq_then ?_
      refine hc_seq ?_
      refine hc_less _ (sx 0 rfl (sx 3 rfl (sx 4 rfl (sx 5 rfl (sx 6 rfl (sx 7 rfl (sx 28 rfl (sx 46 rfl (sx 59 rfl (sub_nil _)))))))))) (.refl _) ?_
      refine hc_draw (by kernel_rfl) 3 [0, 1, 2] (List.take 3 _) (List.drop 3 _) [[], [], [0]] [75, 76, 2] (fun i_ vs_ v_ p_ => match i_ with | 0 => v_ = slV v 0 ((es.length : Int) - 1).toNat 2 ∧ p_ = [] | 1 => v_ = .agg #[.int .i64 ((es.getD 0 qu0).d), .int .i64 ((es.getD 0 qu0).n)] ∧ p_ = [] | 2 => v_ = slV v 0 ((es.length : Int) - 1).toNat 2 ∧ p_ = [] | _ => True) (List.take_append_drop 3 _).symm (by kernel_rfl) (by kernel_rfl) rfl rfl ?_ ?_
      ·
       refine ⟨?_, ?_, ?_, trivial⟩
       ·
        intro vf pf hR
        refine Or.inl ⟨rfl, ?_⟩
        refine rq_less (sx 0 rfl (sub_nil _)) (List.sublist_append_right _ _) ?_
        exact rq_v (rv_ev rfl)
       ·
        intro vf pf hR
        refine Or.inl ⟨rfl, ?_⟩
        refine rq_less (sx 4 rfl (sub_nil _)) (List.sublist_append_right _ _) ?_
        exact rq_v (rv_loadN (cs := [.int .i64 ((es.getD 0 qu0).d), .int .i64 ((es.getD 0 qu0).n)]) rfl (by kernel_rfl) (by kernel_rfl) rfl rfl (box_part 1 rfl 0 rfl))
       ·
        intro vf pf hR
        have e0 : (vf 0) = slV v 0 ((es.length : Int) - 1).toNat 2 ∧ (pf 0) = [] := hR 0 (by decide)
        refine Or.inl ⟨rfl, ?_⟩
        refine rq_less (sx 75 (congrArg some e0.1) (sub_nil _)) (List.sublist_append_right _ _) ?_
        exact rq_v (rv_ev rfl)
      ·
       intro vf pf hR
       have e1 : (vf 1) = .agg #[.int .i64 ((es.getD 0 qu0).d), .int .i64 ((es.getD 0 qu0).n)] ∧ (pf 1) = [] := hR 1 (by decide)
       have e2 : (vf 2) = slV v 0 ((es.length : Int) - 1).toNat 2 ∧ (pf 2) = [] := hR 2 (by decide)
       refine hl_less (l' := (rowE 96 2 (slV v 0 ((es.length : Int) - 1).toNat 2) es2.length (es2.flatMap quC) :: boxE b2 #[.int .i64 ((es.getD 0 qu0).d), .int .i64 ((es.getD 0 qu0).n)] 96 :: boxE b1 #[.int .i64 0, .int .i64 0] 96 :: l)) (sx 0 rfl (sx 2 (congrArg some e2.1) (sx 3 rfl (sx 4 rfl (sx 5 rfl (sx 6 rfl (sx 7 rfl (sx 28 rfl (sx 46 rfl (sx 59 rfl (sx 76 (congrArg some e1.1) (sub_nil _)))))))))))) (List.sublist_append_right _ _) ?_
       simp only [List.drop_succ_cons, List.drop_zero]
       refine hl_storeBoxN (i := 2) (off := 0) (us := [.int .i64 ((es.getD 0 qu0).d), .int .i64 ((es.getD 0 qu0).n)]) (l' := (rowE 96 2 (slV v 0 ((es.length : Int) - 1).toNat 2) es2.length (es2.flatMap quC) :: boxE b2 #[.int .i64 ((es.getD 0 qu0).d), .int .i64 ((es.getD 0 qu0).n)] 96 :: boxE b1 #[.int .i64 ((es.getD 0 qu0).d), .int .i64 ((es.getD 0 qu0).n)] 96 :: l)) rfl rfl rfl (by kernel_rfl) rfl rfl rfl (all_cons rfl (all_cons rfl all_nil)) rfl rfl rfl ?_
       refine hl_less (sx 0 rfl (sx 2 rfl (sx 3 rfl (sx 4 rfl (sx 5 rfl (sx 6 rfl (sx 7 rfl (sx 28 rfl (sx 46 rfl (sx 59 rfl (sub_nil _))))))))))) (.refl _) ?_
       refine hl_nil ?_
       refine hq_then ?_
       refine hc_ret ?_
       exact hq_ret (rs := [.tmp 2, .cell 3 96]) (vs := [slV v 0 ((es.length : Int) - 1).toNat 2, .agg #[.int .i64 ((es.getD 0 qu0).d), .int .i64 ((es.getD 0 qu0).n)]]) rfl ⟨rfl, ⟨b1, 0, [.int .i64 ((es.getD 0 qu0).d), .int .i64 ((es.getD 0 qu0).n)], rfl, rfl, by kernel_rfl, by kernel_rfl, box_part 2 rfl 0 rfl⟩, trivial⟩ rfl (fun w hm => ⟨_, rowE 96 2 (slV v 0 ((es.length : Int) - 1).toNat 2) es2.length (es2.flatMap quC), rfl, ⟨(es.getD 0 qu0), _, es2, rfl, rfl, hpm⟩, hm.sub ((.cons_cons _ (.cons _ (.cons _ (.refl _)))))⟩)
    ·
     have hb9p : ¬ ((es2.getD i qu0).d ≤ (es2.getD (((2 * (i : Int)) + 1).toNat) qu0).d) := of_decide_eq_false hb9
     refine hc_draw (by kernel_rfl) 11 [0, 1, 2, 3, 4, 5, 6, 7, 8, 9, 10] (List.take 11 _) (List.drop 11 _) [[], [], [0, 1], [2], [3], [], [], [5, 6], [7], [8], [4, 9]] [49, 50, 51, 52, 53, 54, 55, 56, 57, 58, 59] (fun i_ vs_ v_ p_ => match i_ with | 0 => v_ = slV v 0 ((es.length : Int) - 1).toNat 2 ∧ p_ = [] | 1 => v_ = .int .i64 (i : Int) ∧ p_ = [] | 2 => v_ = elP (slV v 0 ((es.length : Int) - 1).toNat 2) (((i : Int)).toNat * 2) ∧ p_ = [] | 3 => v_ = elP (slV v 0 ((es.length : Int) - 1).toNat 2) (((i : Int)).toNat * 2 + 0) ∧ p_ = [] | 4 => v_ = .int .i64 ((es2.getD i qu0).d) ∧ p_ = [] | 5 => v_ = slV v 0 ((es.length : Int) - 1).toNat 2 ∧ p_ = [] | 6 => v_ = .int .i64 ((2 * (i : Int)) + 1) ∧ p_ = [] | 7 => v_ = elP (slV v 0 ((es.length : Int) - 1).toNat 2) (((2 * (i : Int)) + 1).toNat * 2) ∧ p_ = [] | 8 => v_ = elP (slV v 0 ((es.length : Int) - 1).toNat 2) (((2 * (i : Int)) + 1).toNat * 2 + 0) ∧ p_ = [] | 9 => v_ = .int .i64 ((es2.getD (((2 * (i : Int)) + 1).toNat) qu0).d) ∧ p_ = [] | 10 => v_ = .bool false ∧ p_ = [] | _ => True) (List.take_append_drop 11 _).symm (by kernel_rfl) (by kernel_rfl) rfl rfl ?_ ?_
     ·
      refine ⟨?_, ?_, ?_, ?_, ?_, ?_, ?_, ?_, ?_, ?_, ?_, trivial⟩
      ·
       intro vf pf hR
       refine Or.inl ⟨rfl, ?_⟩
       refine rq_less (sx 0 rfl (sub_nil _)) (List.sublist_append_right _ _) ?_
       exact rq_v (rv_ev rfl)
      ·
       intro vf pf hR
       refine Or.inl ⟨rfl, ?_⟩
       refine rq_less (sx 6 rfl (sub_nil _)) (List.sublist_append_right _ _) ?_
       exact rq_v (rv_ev rfl)
      ·
       intro vf pf hR
       have e0 : (vf 0) = slV v 0 ((es.length : Int) - 1).toNat 2 ∧ (pf 0) = [] := hR 0 (by decide)
       have e1 : (vf 1) = .int .i64 (i : Int) ∧ (pf 1) = [] := hR 1 (by decide)
       refine Or.inl ⟨rfl, ?_⟩
       refine rq_less (sx 49 (congrArg some e0.1) (sx 50 (congrArg some e1.1) (sub_nil _))) (List.sublist_append_right _ _) ?_
       exact rq_v (rv_index (s := 2) rfl Try.underlying93 (by kernel_rfl) rfl rfl (rd_row 0 rfl) (by omega) (by first | omega | (simp only [List.length_set]; omega)))
      ·
       intro vf pf hR
       have e2 : (vf 2) = elP (slV v 0 ((es.length : Int) - 1).toNat 2) (((i : Int)).toNat * 2) ∧ (pf 2) = [] := hR 2 (by decide)
       refine Or.inl ⟨rfl, ?_⟩
       refine rq_less (sx 51 (congrArg some e2.1) (sub_nil _)) (List.sublist_append_right _ _) ?_
       exact rq_v (rv_fieldEl (k0 := 0) rfl (by kernel_rfl) rfl (rd_row 0 rfl) (by first | omega | (simp only [List.length_set]; omega)))
      ·
       intro vf pf hR
       have e3 : (vf 3) = elP (slV v 0 ((es.length : Int) - 1).toNat 2) (((i : Int)).toNat * 2 + 0) ∧ (pf 3) = [] := hR 3 (by decide)
       refine Or.inl ⟨rfl, ?_⟩
       refine rq_less (sx 52 (congrArg some e3.1) (sub_nil _)) (List.sublist_append_right _ _) ?_
       exact rq_v (rv_loadEl (u := .int .i64 ((es2.getD i qu0).d)) rfl (by kernel_rfl) rfl (rd_row 0 rfl) ((flat_at quC 2 (fun _ => rfl) es2 qu0 (show i < _ by first | omega | (simp only [List.length_set]; omega)) (by decide)).trans rfl))
      ·
       intro vf pf hR
       refine Or.inl ⟨rfl, ?_⟩
       refine rq_less (sx 0 rfl (sub_nil _)) (List.sublist_append_right _ _) ?_
       exact rq_v (rv_ev rfl)
      ·
       intro vf pf hR
       refine Or.inl ⟨rfl, ?_⟩
       refine rq_less (sx 7 rfl (sub_nil _)) (List.sublist_append_right _ _) ?_
       exact rq_v (rv_ev rfl)
      ·
       intro vf pf hR
       have e5 : (vf 5) = slV v 0 ((es.length : Int) - 1).toNat 2 ∧ (pf 5) = [] := hR 5 (by decide)
       have e6 : (vf 6) = .int .i64 ((2 * (i : Int)) + 1) ∧ (pf 6) = [] := hR 6 (by decide)
       refine Or.inl ⟨rfl, ?_⟩
       refine rq_less (sx 54 (congrArg some e5.1) (sx 55 (congrArg some e6.1) (sub_nil _))) (List.sublist_append_right _ _) ?_
       exact rq_v (rv_index (s := 2) rfl Try.underlying93 (by kernel_rfl) rfl rfl (rd_row 0 rfl) (by omega) (by first | omega | (simp only [List.length_set]; omega)))
      ·
       intro vf pf hR
       have e7 : (vf 7) = elP (slV v 0 ((es.length : Int) - 1).toNat 2) (((2 * (i : Int)) + 1).toNat * 2) ∧ (pf 7) = [] := hR 7 (by decide)
       refine Or.inl ⟨rfl, ?_⟩
       refine rq_less (sx 56 (congrArg some e7.1) (sub_nil _)) (List.sublist_append_right _ _) ?_
       exact rq_v (rv_fieldEl (k0 := 0) rfl (by kernel_rfl) rfl (rd_row 0 rfl) (by first | omega | (simp only [List.length_set]; omega)))
      ·
       intro vf pf hR
       have e8 : (vf 8) = elP (slV v 0 ((es.length : Int) - 1).toNat 2) (((2 * (i : Int)) + 1).toNat * 2 + 0) ∧ (pf 8) = [] := hR 8 (by decide)
       refine Or.inl ⟨rfl, ?_⟩
       refine rq_less (sx 57 (congrArg some e8.1) (sub_nil _)) (List.sublist_append_right _ _) ?_
       exact rq_v (rv_loadEl (u := .int .i64 ((es2.getD (((2 * (i : Int)) + 1).toNat) qu0).d)) rfl (by kernel_rfl) rfl (rd_row 0 rfl) ((flat_at quC 2 (fun _ => rfl) es2 qu0 (show ((2 * (i : Int)) + 1).toNat < _ by first | omega | (simp only [List.length_set]; omega)) (by decide)).trans rfl))
      ·
       intro vf pf hR
       have e4 : (vf 4) = .int .i64 ((es2.getD i qu0).d) ∧ (pf 4) = [] := hR 4 (by decide)
       have e9 : (vf 9) = .int .i64 ((es2.getD (((2 * (i : Int)) + 1).toNat) qu0).d) ∧ (pf 9) = [] := hR 9 (by decide)
       refine Or.inl ⟨rfl, ?_⟩
       refine rq_less (sx 53 (congrArg some e4.1) (sx 58 (congrArg some e9.1) (sub_nil _))) (List.sublist_append_right _ _) ?_
       exact rq_mono (rq_v (rv_cmp rfl rfl rfl rfl)) (fun _ _ h => ⟨h.1.trans (congrArg Value.bool hb9), h.2⟩)
     ·
      intro vf pf hR
      have e10 : (vf 10) = .bool false ∧ (pf 10) = [] := hR 10 (by decide)
      refine hl_less (l' := (rowE 96 2 (slV v 0 ((es.length : Int) - 1).toNat 2) es2.length (es2.flatMap quC) :: boxE b2 #[.int .i64 ((es.getD 0 qu0).d), .int .i64 ((es.getD 0 qu0).n)] 96 :: boxE b1 #[.int .i64 0, .int .i64 0] 96 :: l)) (sx 0 rfl (sx 2 rfl (sx 3 rfl (sx 4 rfl (sx 5 rfl (sx 6 rfl (sx 7 rfl (sx 28 rfl (sx 46 rfl (sx 59 (congrArg some e10.1) (sub_nil _))))))))))) (List.sublist_append_right _ _) ?_
      simp only [List.drop_succ_cons, List.drop_zero]
      refine hl_less (sx 0 rfl (sx 2 rfl (sx 3 rfl (sx 4 rfl (sx 5 rfl (sx 6 rfl (sx 7 rfl (sx 28 rfl (sx 46 rfl (sx 59 rfl (sub_nil _))))))))))) (.refl _) ?_
      refine hl_nil ?_
      refine hq_then ?_
      refine hc_false rfl ?_
      refine hc_skip ?_
      refine hq_then ?_
      refine hc_seq ?_
      refine hc_draw4 (l := (boxE b2 #[.int .i64 ((es.getD 0 qu0).d), .int .i64 ((es.getD 0 qu0).n)] 96 :: boxE b1 #[.int .i64 0, .int .i64 0] 96 :: l)) (by kernel_rfl) 14 [0, 1, 2, 3, 4, 5, 6, 7, 8, 9, 10, 11, 12, 13] (List.take 14 _) (List.drop 14 _) [[], [], [], [], [], [], [4, 5], [6], [], [], [8, 9], [10], [0, 1], [7, 12]] [some 60, some 61, some 62, some 63, some 64, some 65, some 66, some 67, some 68, some 69, some 70, some 71, some 72, none] (fun i_ vs_ v_ p_ => match i_ with | 0 => v_ = slV v 0 ((es.length : Int) - 1).toNat 2 ∧ p_ = [] | 1 => v_ = .int .i64 (i : Int) ∧ p_ = [] | 2 => v_ = slV v 0 ((es.length : Int) - 1).toNat 2 ∧ p_ = [] | 3 => v_ = .int .i64 ((2 * (i : Int)) + 1) ∧ p_ = [] | 4 => v_ = slV v 0 ((es.length : Int) - 1).toNat 2 ∧ p_ = [] | 5 => v_ = .int .i64 ((2 * (i : Int)) + 1) ∧ p_ = [] | 6 => v_ = elP (slV v 0 ((es.length : Int) - 1).toNat 2) (((2 * (i : Int)) + 1).toNat * 2) ∧ p_ = [] | 7 => v_ = .agg #[.int .i64 ((es2.getD (((2 * (i : Int)) + 1).toNat) qu0).d), .int .i64 ((es2.getD (((2 * (i : Int)) + 1).toNat) qu0).n)] ∧ p_ = [] | 8 => v_ = slV v 0 ((es.length : Int) - 1).toNat 2 ∧ p_ = [] | 9 => v_ = .int .i64 (i : Int) ∧ p_ = [] | 10 => v_ = elP (slV v 0 ((es.length : Int) - 1).toNat 2) (((i : Int)).toNat * 2) ∧ p_ = [] | 11 => v_ = .agg #[.int .i64 ((es2.getD i qu0).d), .int .i64 ((es2.getD i qu0).n)] ∧ p_ = [] | 12 => v_ = elP (slV v 0 ((es.length : Int) - 1).toNat 2) (((i : Int)).toNat * 2) ∧ p_ = [] | 13 => p_ = [rowE 96 2 (slV v 0 ((es.length : Int) - 1).toNat 2) ((es2.set i (es2.getD (((2 * (i : Int)) + 1).toNat) qu0)).length) ((es2.set i (es2.getD (((2 * (i : Int)) + 1).toNat) qu0)).flatMap quC)] | _ => True) [[], [], [], [], [], [], [4, 5, 16], [6, 16], [], [], [8, 9, 16], [10, 16], [0, 1, 16], [7, 12]] [none, none, none, none, none, none, none, none, none, none, none, none, none, some 16] [[rowE 96 2 (slV v 0 ((es.length : Int) - 1).toNat 2) es2.length (es2.flatMap quC)]] [0, 1, 2, 3, 4, 5, 6, 7, 8, 9, 10, 11, 12, 13] 16 (List.take_append_drop 14 _).symm (by kernel_rfl) (by kernel_rfl) (by kernel_rfl) rfl rfl ?_ ?_
      ·
       refine ⟨?_, ?_, ?_, ?_, ?_, ?_, ?_, ?_, ?_, ?_, ?_, ?_, ?_, ?_, trivial⟩
       ·
        intro vf pf hmu hR
        refine Or.inl ⟨rfl, ?_⟩
        show RunQ _ _ _ (([] : List Nat).flatMap pf ++ _) (envOf3 _ vf [] ++ _) _ _
        refine rq_less (sx 0 rfl (sub_nil _)) (List.sublist_append_right _ _) ?_
        exact rq_v (rv_ev rfl)
       ·
        intro vf pf hmu hR
        refine Or.inl ⟨rfl, ?_⟩
        show RunQ _ _ _ (([] : List Nat).flatMap pf ++ _) (envOf3 _ vf [] ++ _) _ _
        refine rq_less (sx 6 rfl (sub_nil _)) (List.sublist_append_right _ _) ?_
        exact rq_v (rv_ev rfl)
       ·
        intro vf pf hmu hR
        refine Or.inl ⟨rfl, ?_⟩
        show RunQ _ _ _ (([] : List Nat).flatMap pf ++ _) (envOf3 _ vf [] ++ _) _ _
        refine rq_less (sx 0 rfl (sub_nil _)) (List.sublist_append_right _ _) ?_
        exact rq_v (rv_ev rfl)
       ·
        intro vf pf hmu hR
        refine Or.inl ⟨rfl, ?_⟩
        show RunQ _ _ _ (([] : List Nat).flatMap pf ++ _) (envOf3 _ vf [] ++ _) _ _
        refine rq_less (sx 7 rfl (sub_nil _)) (List.sublist_append_right _ _) ?_
        exact rq_v (rv_ev rfl)
       ·
        intro vf pf hmu hR
        refine Or.inl ⟨rfl, ?_⟩
        show RunQ _ _ _ (([] : List Nat).flatMap pf ++ _) (envOf3 _ vf [] ++ _) _ _
        refine rq_less (sx 0 rfl (sub_nil _)) (List.sublist_append_right _ _) ?_
        exact rq_v (rv_ev rfl)
       ·
        intro vf pf hmu hR
        refine Or.inl ⟨rfl, ?_⟩
        show RunQ _ _ _ (([] : List Nat).flatMap pf ++ _) (envOf3 _ vf [] ++ _) _ _
        refine rq_less (sx 7 rfl (sub_nil _)) (List.sublist_append_right _ _) ?_
        exact rq_v (rv_ev rfl)
       ·
        intro vf pf hmu hR
        have e4 : (vf 4) = slV v 0 ((es.length : Int) - 1).toNat 2 ∧ (pf 4) = [] := hR 4 (by decide)
        have e5 : (vf 5) = .int .i64 ((2 * (i : Int)) + 1) ∧ (pf 5) = [] := hR 5 (by decide)
        refine Or.inl ⟨rfl, ?_⟩
        show RunQ _ _ _ (([4, 5, 16] : List Nat).flatMap pf ++ _) (envOf3 _ vf [4, 5] ++ _) _ _
        have hmu0 : pf 16 = [rowE 96 2 (slV v 0 ((es.length : Int) - 1).toNat 2) es2.length (es2.flatMap quC)] := hmu 0 (show 0 < 1 by omega)
        refine rq_less (l' := (rowE 96 2 (slV v 0 ((es.length : Int) - 1).toNat 2) es2.length (es2.flatMap quC) :: boxE b2 #[.int .i64 ((es.getD 0 qu0).d), .int .i64 ((es.getD 0 qu0).n)] 96 :: boxE b1 #[.int .i64 0, .int .i64 0] 96 :: l)) (sx 64 (congrArg some e4.1) (sx 65 (congrArg some e5.1) (sub_nil _))) (by first | (simp only [hmu0, e4.2, e5.2, List.flatMap_cons, List.flatMap_nil, List.append_nil, List.nil_append, List.cons_append]; exact List.Sublist.refl _) | simp [hmu0, e4.2, e5.2]) ?_
        exact rq_v (rv_index (s := 2) rfl Try.underlying93 (by kernel_rfl) rfl rfl (rd_row 0 rfl) (by omega) (by first | omega | (simp only [List.length_set]; omega)))
       ·
        intro vf pf hmu hR
        have e6 : (vf 6) = elP (slV v 0 ((es.length : Int) - 1).toNat 2) (((2 * (i : Int)) + 1).toNat * 2) ∧ (pf 6) = [] := hR 6 (by decide)
        refine Or.inl ⟨rfl, ?_⟩
        show RunQ _ _ _ (([6, 16] : List Nat).flatMap pf ++ _) (envOf3 _ vf [6] ++ _) _ _
        have hmu0 : pf 16 = [rowE 96 2 (slV v 0 ((es.length : Int) - 1).toNat 2) es2.length (es2.flatMap quC)] := hmu 0 (show 0 < 1 by omega)
        refine rq_less (l' := (rowE 96 2 (slV v 0 ((es.length : Int) - 1).toNat 2) es2.length (es2.flatMap quC) :: boxE b2 #[.int .i64 ((es.getD 0 qu0).d), .int .i64 ((es.getD 0 qu0).n)] 96 :: boxE b1 #[.int .i64 0, .int .i64 0] 96 :: l)) (sx 66 (congrArg some e6.1) (sub_nil _)) (by first | (simp only [hmu0, e6.2, List.flatMap_cons, List.flatMap_nil, List.append_nil, List.nil_append, List.cons_append]; exact List.Sublist.refl _) | simp [hmu0, e6.2]) ?_
        exact rq_v (rv_loadElN (us := [.int .i64 ((es2.getD (((2 * (i : Int)) + 1).toNat) qu0).d), .int .i64 ((es2.getD (((2 * (i : Int)) + 1).toNat) qu0).n)]) rfl (by kernel_rfl) (by kernel_rfl) rfl (rd_row 0 rfl) (by omega) rfl (flat_atN quC 2 (fun _ => rfl) es2 qu0 (show ((2 * (i : Int)) + 1).toNat < _ by first | omega | (simp only [List.length_set]; omega)) rfl))
       ·
        intro vf pf hmu hR
        refine Or.inl ⟨rfl, ?_⟩
        show RunQ _ _ _ (([] : List Nat).flatMap pf ++ _) (envOf3 _ vf [] ++ _) _ _
        refine rq_less (sx 0 rfl (sub_nil _)) (List.sublist_append_right _ _) ?_
        exact rq_v (rv_ev rfl)
       ·
        intro vf pf hmu hR
        refine Or.inl ⟨rfl, ?_⟩
        show RunQ _ _ _ (([] : List Nat).flatMap pf ++ _) (envOf3 _ vf [] ++ _) _ _
        refine rq_less (sx 6 rfl (sub_nil _)) (List.sublist_append_right _ _) ?_
        exact rq_v (rv_ev rfl)
       ·
        intro vf pf hmu hR
        have e8 : (vf 8) = slV v 0 ((es.length : Int) - 1).toNat 2 ∧ (pf 8) = [] := hR 8 (by decide)
        have e9 : (vf 9) = .int .i64 (i : Int) ∧ (pf 9) = [] := hR 9 (by decide)
        refine Or.inl ⟨rfl, ?_⟩
        show RunQ _ _ _ (([8, 9, 16] : List Nat).flatMap pf ++ _) (envOf3 _ vf [8, 9] ++ _) _ _
        have hmu0 : pf 16 = [rowE 96 2 (slV v 0 ((es.length : Int) - 1).toNat 2) es2.length (es2.flatMap quC)] := hmu 0 (show 0 < 1 by omega)
        refine rq_less (l' := (rowE 96 2 (slV v 0 ((es.length : Int) - 1).toNat 2) es2.length (es2.flatMap quC) :: boxE b2 #[.int .i64 ((es.getD 0 qu0).d), .int .i64 ((es.getD 0 qu0).n)] 96 :: boxE b1 #[.int .i64 0, .int .i64 0] 96 :: l)) (sx 68 (congrArg some e8.1) (sx 69 (congrArg some e9.1) (sub_nil _))) (by first | (simp only [hmu0, e8.2, e9.2, List.flatMap_cons, List.flatMap_nil, List.append_nil, List.nil_append, List.cons_append]; exact List.Sublist.refl _) | simp [hmu0, e8.2, e9.2]) ?_
        exact rq_v (rv_index (s := 2) rfl Try.underlying93 (by kernel_rfl) rfl rfl (rd_row 0 rfl) (by omega) (by first | omega | (simp only [List.length_set]; omega)))
       ·
        intro vf pf hmu hR
        have e10 : (vf 10) = elP (slV v 0 ((es.length : Int) - 1).toNat 2) (((i : Int)).toNat * 2) ∧ (pf 10) = [] := hR 10 (by decide)
        refine Or.inl ⟨rfl, ?_⟩
        show RunQ _ _ _ (([10, 16] : List Nat).flatMap pf ++ _) (envOf3 _ vf [10] ++ _) _ _
        have hmu0 : pf 16 = [rowE 96 2 (slV v 0 ((es.length : Int) - 1).toNat 2) es2.length (es2.flatMap quC)] := hmu 0 (show 0 < 1 by omega)
        refine rq_less (l' := (rowE 96 2 (slV v 0 ((es.length : Int) - 1).toNat 2) es2.length (es2.flatMap quC) :: boxE b2 #[.int .i64 ((es.getD 0 qu0).d), .int .i64 ((es.getD 0 qu0).n)] 96 :: boxE b1 #[.int .i64 0, .int .i64 0] 96 :: l)) (sx 70 (congrArg some e10.1) (sub_nil _)) (by first | (simp only [hmu0, e10.2, List.flatMap_cons, List.flatMap_nil, List.append_nil, List.nil_append, List.cons_append]; exact List.Sublist.refl _) | simp [hmu0, e10.2]) ?_
        exact rq_v (rv_loadElN (us := [.int .i64 ((es2.getD i qu0).d), .int .i64 ((es2.getD i qu0).n)]) rfl (by kernel_rfl) (by kernel_rfl) rfl (rd_row 0 rfl) (by omega) rfl (flat_atN quC 2 (fun _ => rfl) es2 qu0 (show i < _ by first | omega | (simp only [List.length_set]; omega)) rfl))
       ·
        intro vf pf hmu hR
        have e0 : (vf 0) = slV v 0 ((es.length : Int) - 1).toNat 2 ∧ (pf 0) = [] := hR 0 (by decide)
        have e1 : (vf 1) = .int .i64 (i : Int) ∧ (pf 1) = [] := hR 1 (by decide)
        refine Or.inl ⟨rfl, ?_⟩
        show RunQ _ _ _ (([0, 1, 16] : List Nat).flatMap pf ++ _) (envOf3 _ vf [0, 1] ++ _) _ _
        have hmu0 : pf 16 = [rowE 96 2 (slV v 0 ((es.length : Int) - 1).toNat 2) es2.length (es2.flatMap quC)] := hmu 0 (show 0 < 1 by omega)
        refine rq_less (l' := (rowE 96 2 (slV v 0 ((es.length : Int) - 1).toNat 2) es2.length (es2.flatMap quC) :: boxE b2 #[.int .i64 ((es.getD 0 qu0).d), .int .i64 ((es.getD 0 qu0).n)] 96 :: boxE b1 #[.int .i64 0, .int .i64 0] 96 :: l)) (sx 60 (congrArg some e0.1) (sx 61 (congrArg some e1.1) (sub_nil _))) (by first | (simp only [hmu0, e0.2, e1.2, List.flatMap_cons, List.flatMap_nil, List.append_nil, List.nil_append, List.cons_append]; exact List.Sublist.refl _) | simp [hmu0, e0.2, e1.2]) ?_
        exact rq_v (rv_index (s := 2) rfl Try.underlying93 (by kernel_rfl) rfl rfl (rd_row 0 rfl) (by omega) (by first | omega | (simp only [List.length_set]; omega)))
       ·
        intro vf pf hmu hR
        have e7 : (vf 7) = .agg #[.int .i64 ((es2.getD (((2 * (i : Int)) + 1).toNat) qu0).d), .int .i64 ((es2.getD (((2 * (i : Int)) + 1).toNat) qu0).n)] ∧ (pf 7) = [] := hR 7 (by decide)
        have e12 : (vf 12) = elP (slV v 0 ((es.length : Int) - 1).toNat 2) (((i : Int)).toNat * 2) ∧ (pf 12) = [] := hR 12 (by decide)
        refine Or.inl ⟨rfl, ?_⟩
        show RunM _ _ _ (pf 16) (([7, 12] : List Nat).flatMap pf ++ _) (envOf3 _ vf [7, 12] ++ _) _ _
        have hmu0 : pf 16 = [rowE 96 2 (slV v 0 ((es.length : Int) - 1).toNat 2) es2.length (es2.flatMap quC)] := hmu 0 (show 0 < 1 by omega)
        rw [hmu0]
        refine rm_less (X' := (boxE b2 #[.int .i64 ((es.getD 0 qu0).d), .int .i64 ((es.getD 0 qu0).n)] 96 :: boxE b1 #[.int .i64 0, .int .i64 0] 96 :: l)) (sx 67 (congrArg some e7.1) (sx 72 (congrArg some e12.1) (sub_nil _))) (by first | (simp only [e7.2, e12.2, List.flatMap_cons, List.flatMap_nil, List.append_nil, List.nil_append, List.cons_append]; exact List.Sublist.refl _) | simp [e7.2, e12.2]) ?_
        exact rm_mono (rm_storeElN (us := [.int .i64 ((es2.getD (((2 * (i : Int)) + 1).toNat) qu0).d), .int .i64 ((es2.getD (((2 * (i : Int)) + 1).toNat) qu0).n)]) (n' := (es2.set i (es2.getD (((2 * (i : Int)) + 1).toNat) qu0)).length) (xs' := ((es2.set i (es2.getD (((2 * (i : Int)) + 1).toNat) qu0)).flatMap quC)) 0 rfl rfl (by kernel_rfl) rfl rfl (all_cons rfl (all_cons rfl all_nil)) rfl (by first | omega | (simp only [List.length_set]; omega)) (by simp only [List.length_cons, List.length_nil]; first | omega | (simp only [List.length_set]; omega)) List.length_set.symm (flat_put quC 2 (fun _ => rfl) _ (es2.getD (((2 * (i : Int)) + 1).toNat) qu0) (by first | omega | (simp only [List.length_set]; omega)))) (fun v_ p_ h => by show p_ = [rowE 96 2 (slV v 0 ((es.length : Int) - 1).toNat 2) ((es2.set i (es2.getD (((2 * (i : Int)) + 1).toNat) qu0)).length) ((es2.set i (es2.getD (((2 * (i : Int)) + 1).toNat) qu0)).flatMap quC)]; exact h)
      ·
       intro vf pf hmu hR
       have e2 : (vf 2) = slV v 0 ((es.length : Int) - 1).toNat 2 ∧ (pf 2) = [] := hR 2 (by decide)
       have e3 : (vf 3) = .int .i64 ((2 * (i : Int)) + 1) ∧ (pf 3) = [] := hR 3 (by decide)
       have e11 : (vf 11) = .agg #[.int .i64 ((es2.getD i qu0).d), .int .i64 ((es2.getD i qu0).n)] ∧ (pf 11) = [] := hR 11 (by decide)
       have e13 : (pf 13) = [rowE 96 2 (slV v 0 ((es.length : Int) - 1).toNat 2) ((es2.set i (es2.getD (((2 * (i : Int)) + 1).toNat) qu0)).length) ((es2.set i (es2.getD (((2 * (i : Int)) + 1).toNat) qu0)).flatMap quC)] := hR 13 (by decide)
       have p13 := e13
       have q0 : (vf 0) = slV v 0 ((es.length : Int) - 1).toNat 2 ∧ (pf 0) = [] := hR 0 (by decide)
       have q1 : (vf 1) = .int .i64 (i : Int) ∧ (pf 1) = [] := hR 1 (by decide)
       have q2 : (vf 2) = slV v 0 ((es.length : Int) - 1).toNat 2 ∧ (pf 2) = [] := hR 2 (by decide)
       have q3 : (vf 3) = .int .i64 ((2 * (i : Int)) + 1) ∧ (pf 3) = [] := hR 3 (by decide)
       have q4 : (vf 4) = slV v 0 ((es.length : Int) - 1).toNat 2 ∧ (pf 4) = [] := hR 4 (by decide)
       have q5 : (vf 5) = .int .i64 ((2 * (i : Int)) + 1) ∧ (pf 5) = [] := hR 5 (by decide)
       have q6 : (vf 6) = elP (slV v 0 ((es.length : Int) - 1).toNat 2) (((2 * (i : Int)) + 1).toNat * 2) ∧ (pf 6) = [] := hR 6 (by decide)
       have q7 : (vf 7) = .agg #[.int .i64 ((es2.getD (((2 * (i : Int)) + 1).toNat) qu0).d), .int .i64 ((es2.getD (((2 * (i : Int)) + 1).toNat) qu0).n)] ∧ (pf 7) = [] := hR 7 (by decide)
       have q8 : (vf 8) = slV v 0 ((es.length : Int) - 1).toNat 2 ∧ (pf 8) = [] := hR 8 (by decide)
       have q9 : (vf 9) = .int .i64 (i : Int) ∧ (pf 9) = [] := hR 9 (by decide)
       have q10 : (vf 10) = elP (slV v 0 ((es.length : Int) - 1).toNat 2) (((i : Int)).toNat * 2) ∧ (pf 10) = [] := hR 10 (by decide)
       have q11 : (vf 11) = .agg #[.int .i64 ((es2.getD i qu0).d), .int .i64 ((es2.getD i qu0).n)] ∧ (pf 11) = [] := hR 11 (by decide)
       have q12 : (vf 12) = elP (slV v 0 ((es.length : Int) - 1).toNat 2) (((i : Int)).toNat * 2) ∧ (pf 12) = [] := hR 12 (by decide)
       refine hl_less (l' := (rowE 96 2 (slV v 0 ((es.length : Int) - 1).toNat 2) ((es2.set i (es2.getD (((2 * (i : Int)) + 1).toNat) qu0)).length) ((es2.set i (es2.getD (((2 * (i : Int)) + 1).toNat) qu0)).flatMap quC) :: boxE b2 #[.int .i64 ((es.getD 0 qu0).d), .int .i64 ((es.getD 0 qu0).n)] 96 :: boxE b1 #[.int .i64 0, .int .i64 0] 96 :: l)) (sx 0 rfl (sx 2 rfl (sx 3 rfl (sx 4 rfl (sx 5 rfl (sx 6 rfl (sx 7 rfl (sx 28 rfl (sx 46 rfl (sx 59 rfl (sx 62 (congrArg some e2.1) (sx 63 (congrArg some e3.1) (sx 71 (congrArg some e11.1) (sub_nil _)))))))))))))) (by first | (simp only [p13, q0.2, q1.2, q2.2, q3.2, q4.2, q5.2, q6.2, q7.2, q8.2, q9.2, q10.2, q11.2, q12.2, List.flatMap_cons, List.flatMap_nil, List.append_nil, List.nil_append, List.cons_append]; exact List.Sublist.refl _) | simp [p13, q0.2, q1.2, q2.2, q3.2, q4.2, q5.2, q6.2, q7.2, q8.2, q9.2, q10.2, q11.2, q12.2]) ?_
       simp only [List.drop_succ_cons, List.drop_zero]
       refine hl_v rfl rfl rfl (rv_index (s := 2) rfl Try.underlying93 (by kernel_rfl) rfl rfl (rd_row 0 rfl) (by omega) (by first | omega | (simp only [List.length_set]; omega))) ?_
       refine hl_storeElN (i := 0) (us := [.int .i64 ((es2.getD i qu0).d), .int .i64 ((es2.getD i qu0).n)]) (n' := ((es2.set i (es2.getD (((2 * (i : Int)) + 1).toNat) qu0)).set (((2 * (i : Int)) + 1).toNat) (es2.getD i qu0)).length) (xs' := (((es2.set i (es2.getD (((2 * (i : Int)) + 1).toNat) qu0)).set (((2 * (i : Int)) + 1).toNat) (es2.getD i qu0)).flatMap quC)) (l' := (rowE 96 2 (slV v 0 ((es.length : Int) - 1).toNat 2) (((es2.set i (es2.getD (((2 * (i : Int)) + 1).toNat) qu0)).set (((2 * (i : Int)) + 1).toNat) (es2.getD i qu0)).length) (((es2.set i (es2.getD (((2 * (i : Int)) + 1).toNat) qu0)).set (((2 * (i : Int)) + 1).toNat) (es2.getD i qu0)).flatMap quC) :: boxE b2 #[.int .i64 ((es.getD 0 qu0).d), .int .i64 ((es.getD 0 qu0).n)] 96 :: boxE b1 #[.int .i64 0, .int .i64 0] 96 :: l)) rfl rfl rfl (by kernel_rfl) rfl rfl (all_cons rfl (all_cons rfl all_nil)) rfl (by first | omega | (simp only [List.length_set]; omega)) (by simp only [List.length_cons, List.length_nil]; first | omega | (simp only [List.length_set]; omega)) List.length_set.symm (flat_put quC 2 (fun _ => rfl) _ (es2.getD i qu0) (by first | omega | (simp only [List.length_set]; omega))) rfl ?_
       refine hl_less (sx 0 rfl (sx 2 rfl (sx 3 rfl (sx 4 rfl (sx 5 rfl (sx 6 rfl (sx 7 rfl (sx 28 rfl (sx 46 rfl (sx 59 rfl (sub_nil _))))))))))) (.refl _) ?_
       refine hl_nil ?_
       refine hq_then ?_
       refine hc_region ?_
       refine hl_v rfl rfl rfl (rv_ev rfl) ?_
       refine hl_v rfl rfl rfl (rv_ev rfl) ?_
       refine hl_less (sx 0 rfl (sx 2 rfl (sx 3 rfl (sx 4 rfl (sx 5 rfl (sx 6 rfl (sx 7 rfl (sx 28 rfl (sx 46 rfl (sx 59 rfl (sub_nil _))))))))))) (.refl _) ?_
       refine hl_nil ?_
       refine hq_block_normal ?_
       exact hq_round2 ((2 * (i : Int)) + 1).toNat ((es2.set i (es2.getD (((2 * (i : Int)) + 1).toNat) qu0)).set (((2 * (i : Int)) + 1).toNat) (es2.getD i qu0)) ⟨.inr (by simp only [List.length_set]; omega), by simp only [List.length_set]; omega, ((swap_perm qu0 es2 _ _ (by omega) (by omega)).cons _).trans hpm⟩ (by omega) (sx 0 rfl (sx 2 rfl (sx 3 rfl (sx 4 rfl (sx 5 rfl (sx 6 (by rw [Int.toNat_of_nonneg (by omega)]; rfl) (sub_nil _))))))) ((.cons_cons _ (.cons_cons _ (.cons_cons _ (.refl _)))))
set_option maxHeartbeats 4000000 in
set_option maxRecDepth 100000 in
theorem hasInt_ans (xs : List Int) (x : Int) (v : Value) (w : World) (hv : RdsW w v 1 xs.length (xs.map (Value.int .i64))) (hlen : xs.length ≤ 1000000000) :
  Calls Try.prog 39 #[v, .int .i64 x] w (Ans w (.bool (hasB xs x))) := by
 refine calls_hc (N := 17) (args := [v, .int .i64 x]) Try.func39 rfl rfl ?_
 refine hc_less _ (sx 0 rfl (sx 1 rfl (sub_nil _))) (.refl _) ?_
 refine hc_seq ?_
 refine hc_region ?_
 refine hl_v rfl rfl rfl (rv_ev rfl) ?_
 refine hl_less (sx 0 rfl (sx 1 rfl (sx 4 rfl (sub_nil _)))) (.refl _) ?_
 refine hl_nil ?_
 refine hq_then ?_
 refine hc_seq ?_
 refine hc_seq ?_
 refine hc_region ?_
 refine hl_v rfl rfl rfl (rv_ev rfl) ?_
 refine hl_v rfl rfl rfl (rv_len rfl Try.underlying26 rfl (rd_old hv)) ?_
 refine hl_v rfl rfl rfl (rv_ev rfl) ?_
 refine hl_less (sx 0 rfl (sx 1 rfl (sx 4 rfl (sx 7 rfl (sx 8 rfl (sx 9 rfl (sub_nil _))))))) (.refl _) ?_
 refine hl_nil ?_
 refine hq_then ?_
 refine hc_block ?_
 refine hc_loop1 (α := Nat) (fun j => []) (fun j => [(0, v), (1, .int .i64 x), (4, .bool false), (7, v), (8, .int .i64 (xs.length : Int)), (9, .int .i64 (j : Int))]) (fun j => j ≤ xs.length ∧ ∀ i, i < j → xs.getD i 0 ≠ x) (fun j => xs.length - j) 0 ⟨by omega, fun i hi => absurd hi (by omega)⟩ (sx 0 rfl (sx 1 rfl (sx 4 rfl (sx 7 rfl (sx 8 rfl (sx 9 rfl (sub_nil _))))))) (.slnil) ?_
 intro j hi1
 obtain ⟨hk1, hk2⟩ := hi1
 refine hc_seq ?_
 refine hc_region ?_
 refine hl_lss rfl rfl rfl rfl rfl rfl (fun h2 => ?_) (fun h2 => ?_)
 ·
  refine hl_less (sx 0 rfl (sx 1 rfl (sx 4 rfl (sx 7 rfl (sx 8 rfl (sx 9 rfl (sx 10 rfl (sub_nil _)))))))) (.refl _) ?_
  refine hl_nil ?_
  refine hq_then ?_
  refine hc_seq ?_
  refine hc_true rfl ?_
  refine hc_skip ?_
  refine hq_then ?_
  refine hc_seq ?_
  refine hc_block ?_
  refine hc_seq ?_
  refine hc_region ?_
  refine hl_v rfl rfl rfl (rv_index (s := 1) rfl Try.underlying26 (by kernel_rfl) rfl rfl (rd_old hv) (by omega) (by first | omega | (simp only [List.length_set]; omega))) ?_
  refine hl_v rfl rfl rfl (rv_loadEl (u := .int .i64 (xs.getD j 0)) rfl (by kernel_rfl) rfl (rd_old hv) (ints_at1 (show _ < xs.length by first | omega | (simp only [List.length_set]; omega)))) ?_
  refine hl_v rfl rfl rfl (rv_ev rfl) ?_
  refine hl_less (sx 0 rfl (sx 1 rfl (sx 4 rfl (sx 6 rfl (sx 7 rfl (sx 8 rfl (sx 9 rfl (sx 10 rfl (sub_nil _))))))))) (.refl _) ?_
  refine hl_nil ?_
  refine hq_then ?_
  refine hc_seq ?_
  refine hc_region ?_
  refine hl_v rfl rfl rfl (rv_ev rfl) ?_
  refine hl_v rfl rfl rfl (rv_ev rfl) ?_
  refine hl_eql rfl rfl rfl rfl rfl rfl (fun h3 => ?_) (fun h3 => ?_)
  ·
   refine hl_less (sx 0 rfl (sx 1 rfl (sx 4 rfl (sx 6 rfl (sx 7 rfl (sx 8 rfl (sx 9 rfl (sx 10 rfl (sx 15 rfl (sub_nil _)))))))))) (.refl _) ?_
   refine hl_nil ?_
   refine hq_then ?_
   refine hc_true rfl ?_
   refine hc_seq ?_
   refine hc_region ?_
   refine hl_v rfl rfl rfl (rv_ev rfl) ?_
   refine hl_less (sx 0 rfl (sx 1 rfl (sx 4 rfl (sx 6 rfl (sx 7 rfl (sx 8 rfl (sx 9 rfl (sx 10 rfl (sx 15 rfl (sub_nil _)))))))))) (.refl _) ?_
   refine hl_nil ?_
   refine hq_then ?_
   refine hc_ret ?_
   refine hq_block_ret ?_
   refine hq_then_ret ?_
   refine hq_then_ret ?_
   refine hq_block_ret ?_
   refine hq_then_ret ?_
   exact hq_ans rfl rfl (congrArg _ (hasB_at xs x j (by omega) (by assumption)).symm)
  ·
   refine hl_less (sx 0 rfl (sx 1 rfl (sx 4 rfl (sx 6 rfl (sx 7 rfl (sx 8 rfl (sx 9 rfl (sx 10 rfl (sx 15 rfl (sub_nil _)))))))))) (.refl _) ?_
   refine hl_nil ?_
   refine hq_then ?_
   refine hc_false rfl ?_
   refine hc_skip ?_
   refine hq_block_normal ?_
   refine hq_then ?_
   refine hc_region ?_
   refine hl_v rfl rfl rfl (rv_add rfl rfl rfl (by constructor <;> omega)) ?_
   refine hl_v rfl rfl rfl (rv_ev rfl) ?_
   refine hl_less (sx 0 rfl (sx 1 rfl (sx 4 rfl (sx 6 rfl (sx 7 rfl (sx 8 rfl (sx 9 rfl (sx 10 rfl (sx 15 rfl (sub_nil _)))))))))) (.refl _) ?_
   refine hl_nil ?_
   exact hq_round1 (j + 1) ⟨by omega, fun i hi => by by_cases hij : i = j; (subst hij; assumption); exact hk2 i (by omega)⟩ (by omega) (sx 0 rfl (sx 1 rfl (sx 4 rfl (sx 7 rfl (sx 8 rfl (sx 9 rfl (sub_nil _))))))) (.slnil)
 ·
  refine hl_less (sx 0 rfl (sx 1 rfl (sx 4 rfl (sx 7 rfl (sx 8 rfl (sx 9 rfl (sx 10 rfl (sub_nil _)))))))) (.refl _) ?_
  refine hl_nil ?_
  refine hq_then ?_
  refine hc_seq ?_
  refine hc_false rfl ?_
  refine hc_exit ?_
  refine hq_then_exit ?_
  refine hq_then_exit ?_
  refine hq_block_exit ?_
  refine hq_then ?_
  refine hc_seq ?_
  refine hc_region ?_
  refine hl_v rfl rfl rfl (rv_ev rfl) ?_
  refine hl_less (sx 0 rfl (sx 1 rfl (sx 4 rfl (sx 7 rfl (sx 8 rfl (sx 9 rfl (sx 10 rfl (sub_nil _)))))))) (.refl _) ?_
  refine hl_nil ?_
  refine hq_then ?_
  refine hc_ret ?_
  exact hq_ans rfl rfl (congrArg _ (hasB_no xs x (fun i hi => hk2 i (by omega))).symm)
set_option maxHeartbeats 4000000 in
set_option maxRecDepth 100000 in
theorem isOutPin_yes (d : Dev) (x : Int) (w : World) (hd : devB d = true) (hno : nodeOkI d x = true) (h5 : x % perI d = 5) :
  Calls Try.prog 36 #[.agg #[.int .i64 d.W, .int .i64 d.H, .int .i64 d.T, .int .i64 d.R], .int .i64 x] w (Ans w (.bool true)) := by
 obtain ⟨ra1, ra2⟩ := all_rng hd
 obtain ⟨hx0, hx1⟩ := (nodeOk_rng hno).2
 refine calls_hc (N := 23) (args := [.agg #[.int .i64 d.W, .int .i64 d.H, .int .i64 d.T, .int .i64 d.R], .int .i64 x]) Try.func36 rfl rfl ?_
 refine hc_less _ (sx 0 rfl (sx 1 rfl (sub_nil _))) (.refl _) ?_
 refine hc_seq ?_
 refine hc_region ?_
 refine hl_box rfl rfl rfl (rq_box rfl rfl) ?_
 intro b1
 refine hl_v rfl rfl rfl (rv_ev rfl) ?_
 refine hl_less (sx 0 rfl (sx 1 rfl (sx 2 rfl (sx 4 rfl (sub_nil _))))) (.refl _) ?_
 refine hl_nil ?_
 refine hq_then ?_
 refine hc_seq ?_
 refine hc_seq ?_
 refine hc_region ?_
 refine hl_v rfl rfl rfl (rv_loadN (cs := [.int .i64 d.W, .int .i64 d.H, .int .i64 d.T, .int .i64 d.R]) rfl (by kernel_rfl) (by kernel_rfl) rfl rfl (box_part 0 rfl 0 rfl)) ?_
 refine hl_v rfl rfl rfl (rv_ev rfl) ?_
 refine hl_callV rfl rfl rfl (rq_call (by kernel_rfl) rfl (fun w hm => ret_ans (implRouteNodeOk_any d _ w))) ?_
 refine hl_bool (fun h2 => ?_) (fun h2 => absurd ((hno).symm.trans h2) (by decide))
 refine hl_v rfl rfl rfl (rv_ev rfl) ?_
 refine hl_less (sx 0 rfl (sx 1 rfl (sx 2 rfl (sx 4 rfl (sx 10 rfl (sub_nil _)))))) (.refl _) ?_
 refine hl_nil ?_
 refine hq_then ?_
 refine hc_false rfl ?_
 refine hc_skip ?_
 refine hq_then ?_
 refine hc_seq ?_
 refine hc_region ?_
 refine hl_v rfl rfl rfl (rv_loadN (cs := [.int .i64 d.W, .int .i64 d.H, .int .i64 d.T, .int .i64 d.R]) rfl (by kernel_rfl) (by kernel_rfl) rfl rfl (box_part 0 rfl 0 rfl)) ?_
 refine hl_v rfl rfl rfl (rv_ev rfl) ?_
 refine hl_callV rfl rfl rfl (rq_call (by kernel_rfl) rfl (fun w hm => ret_ans (nodePlace_any d _ hd (by omega) (by omega) w))) ?_
 refine hl_v rfl rfl rfl (rv_ev rfl) ?_
 refine hl_v rfl rfl rfl (rv_ev rfl) ?_
 refine hl_v rfl rfl rfl (rv_ev rfl) ?_
 refine hl_v rfl rfl rfl (rv_ev rfl) ?_
 refine hl_v rfl rfl rfl (rv_ev rfl) ?_
 refine hl_less (sx 0 rfl (sx 1 rfl (sx 2 rfl (sx 4 rfl (sx 6 rfl (sx 10 rfl (sub_nil _))))))) (.refl _) ?_
 refine hl_nil ?_
 refine hq_then ?_
 refine hc_seq ?_
 refine hc_region ?_
 refine hl_v rfl rfl rfl (rv_ev rfl) ?_
 refine hl_eql rfl rfl rfl rfl rfl rfl (fun h3 => ?_) (fun h3 => absurd h3 (by omega))
 refine hl_v rfl rfl rfl (rv_ev rfl) ?_
 refine hl_skip rfl rfl rfl ?_
 refine hl_skip rfl rfl rfl ?_
 refine hl_v rfl rfl rfl (rv_ev rfl) ?_
 refine hl_v rfl rfl rfl (rv_ev rfl) ?_
 refine hl_less (sx 0 rfl (sx 1 rfl (sx 2 rfl (sx 4 rfl (sx 6 rfl (sx 10 rfl (sub_nil _))))))) (.refl _) ?_
 refine hl_nil ?_
 refine hq_then ?_
 refine hc_ret ?_
 exact hq_ans rfl rfl rfl
set_option maxHeartbeats 4000000 in
set_option maxRecDepth 100000 in
theorem isInPin_yes (d : Dev) (x : Int) (w : World) (hd : devB d = true) (hno : nodeOkI d x = true) :
  Calls Try.prog 41 #[.agg #[.int .i64 d.W, .int .i64 d.H, .int .i64 d.T, .int .i64 d.R], .int .i64 x] w (Ans w (.bool (decide (x % perI d < 5)))) := by
 obtain ⟨ra1, ra2⟩ := all_rng hd
 obtain ⟨hx0, hx1⟩ := (nodeOk_rng hno).2
 refine calls_hc (N := 19) (args := [.agg #[.int .i64 d.W, .int .i64 d.H, .int .i64 d.T, .int .i64 d.R], .int .i64 x]) Try.func41 rfl rfl ?_
 refine hc_less _ (sx 0 rfl (sx 1 rfl (sub_nil _))) (.refl _) ?_
 refine hc_seq ?_
 refine hc_region ?_
 refine hl_box rfl rfl rfl (rq_box rfl rfl) ?_
 intro b1
 refine hl_v rfl rfl rfl (rv_ev rfl) ?_
 refine hl_less (sx 0 rfl (sx 1 rfl (sx 2 rfl (sx 4 rfl (sub_nil _))))) (.refl _) ?_
 refine hl_nil ?_
 refine hq_then ?_
 refine hc_seq ?_
 refine hc_seq ?_
 refine hc_region ?_
 refine hl_v rfl rfl rfl (rv_loadN (cs := [.int .i64 d.W, .int .i64 d.H, .int .i64 d.T, .int .i64 d.R]) rfl (by kernel_rfl) (by kernel_rfl) rfl rfl (box_part 0 rfl 0 rfl)) ?_
 refine hl_v rfl rfl rfl (rv_ev rfl) ?_
 refine hl_callV rfl rfl rfl (rq_call (by kernel_rfl) rfl (fun w hm => ret_ans (implRouteNodeOk_any d _ w))) ?_
 refine hl_bool (fun h2 => ?_) (fun h2 => absurd ((hno).symm.trans h2) (by decide))
 refine hl_v rfl rfl rfl (rv_ev rfl) ?_
 refine hl_less (sx 0 rfl (sx 1 rfl (sx 2 rfl (sx 4 rfl (sx 10 rfl (sub_nil _)))))) (.refl _) ?_
 refine hl_nil ?_
 refine hq_then ?_
 refine hc_false rfl ?_
 refine hc_skip ?_
 refine hq_then ?_
 refine hc_seq ?_
 refine hc_region ?_
 refine hl_v rfl rfl rfl (rv_loadN (cs := [.int .i64 d.W, .int .i64 d.H, .int .i64 d.T, .int .i64 d.R]) rfl (by kernel_rfl) (by kernel_rfl) rfl rfl (box_part 0 rfl 0 rfl)) ?_
 refine hl_v rfl rfl rfl (rv_ev rfl) ?_
 refine hl_callV rfl rfl rfl (rq_call (by kernel_rfl) rfl (fun w hm => ret_ans (nodePlace_any d _ hd (by omega) (by omega) w))) ?_
 refine hl_v rfl rfl rfl (rv_ev rfl) ?_
 refine hl_v rfl rfl rfl (rv_ev rfl) ?_
 refine hl_v rfl rfl rfl (rv_ev rfl) ?_
 refine hl_v rfl rfl rfl (rv_ev rfl) ?_
 refine hl_v rfl rfl rfl (rv_ev rfl) ?_
 refine hl_less (sx 0 rfl (sx 1 rfl (sx 2 rfl (sx 4 rfl (sx 6 rfl (sx 10 rfl (sub_nil _))))))) (.refl _) ?_
 refine hl_nil ?_
 refine hq_then ?_
 refine hc_seq ?_
 refine hc_region ?_
 refine hl_v rfl rfl rfl (rv_ev rfl) ?_
 refine hl_lss rfl rfl rfl rfl rfl rfl (fun h3 => ?_) (fun h3 => ?_)
 ·
  refine hl_v rfl rfl rfl (rv_ev rfl) ?_
  refine hl_less (sx 0 rfl (sx 1 rfl (sx 2 rfl (sx 4 rfl (sx 6 rfl (sx 10 rfl (sub_nil _))))))) (.refl _) ?_
  refine hl_nil ?_
  refine hq_then ?_
  refine hc_ret ?_
  exact hq_ans rfl rfl (congrArg _ (decide_eq_true (by omega)).symm)
 ·
  refine hl_v rfl rfl rfl (rv_ev rfl) ?_
  refine hl_less (sx 0 rfl (sx 1 rfl (sx 2 rfl (sx 4 rfl (sx 6 rfl (sx 10 rfl (sub_nil _))))))) (.refl _) ?_
  refine hl_nil ?_
  refine hq_then ?_
  refine hc_ret ?_
  exact hq_ans rfl rfl (congrArg _ (decide_eq_false (by omega)).symm)
set_option maxHeartbeats 4000000 in
set_option maxRecDepth 100000 in
theorem allSources_ret (d : Dev) (w : World) (hd : devB d = true) :
  Calls Try.prog 79 #[.agg #[.int .i64 d.W, .int .i64 d.H, .int .i64 d.T, .int .i64 d.R]] w (Ret w (fun v' post => ∃ es : List IR, post = [irsE v' es] ∧ SOk d (allI d).toNat (allI d).toNat es ∧ v'.oneCell' = true)) := by
 obtain ⟨ra1, ra2⟩ := all_rng hd
 have hrl : (List.replicate (allI d).toNat ir0).length = (allI d).toNat := List.length_replicate
 refine calls_hc (N := 21) (args := [.agg #[.int .i64 d.W, .int .i64 d.H, .int .i64 d.T, .int .i64 d.R]]) Try.func79 rfl rfl ?_
 refine hc_less _ (sx 0 rfl (sub_nil _)) (.refl _) ?_
 refine hc_seq ?_
 refine hc_region ?_
 refine hl_box rfl rfl rfl (rq_box rfl rfl) ?_
 intro b1
 refine hl_v rfl rfl rfl (rv_ev rfl) ?_
 refine hl_less (sx 0 rfl (sx 1 rfl (sx 2 rfl (sub_nil _)))) (.refl _) ?_
 refine hl_nil ?_
 refine hq_then ?_
 refine hc_seq ?_
 refine hc_region ?_
 refine hl_v rfl rfl rfl (rv_loadN (cs := [.int .i64 d.W, .int .i64 d.H, .int .i64 d.T, .int .i64 d.R]) rfl (by kernel_rfl) (by kernel_rfl) rfl rfl (box_part 0 rfl 0 rfl)) ?_
 refine hl_callV rfl rfl rfl (rq_call (by kernel_rfl) rfl (fun w hm => ret_ans (implrouteNodes_yes d w hd))) ?_
 refine hl_row rfl rfl rfl (rq_make (z := .slice none 0 0) (s := 1) (bytes := 24) (n := (List.replicate (allI d).toNat ir0).length) (cs := ((List.replicate (allI d).toNat ir0).flatMap irC)) rfl Try.underlying99 (by kernel_rfl) (by decide) rfl rfl (by first | (rw [List.length_replicate]; done) | (rw [List.length_replicate]; omega)) (by first | (rw [List.length_replicate]; done) | (rw [List.length_replicate]; omega)) (by rw [List.length_replicate]; omega) (made_flat irC 1 (fun _ => rfl) ir0 _ rfl (allI d).toNat)) ?_
 intro g2
 refine hl_v rfl rfl rfl (rv_ev rfl) ?_
 refine hl_less (sx 0 rfl (sx 1 rfl (sx 2 rfl (sx 3 rfl (sub_nil _))))) (.refl _) ?_
 refine hl_nil ?_
 refine hq_then ?_
 refine hc_seq ?_
 refine hc_seq ?_
 refine hc_region ?_
 refine hl_v rfl rfl rfl (rv_ev rfl) ?_
 refine hl_v rfl rfl rfl (rv_len rfl Try.underlying99 rfl (rd_row 0 rfl)) ?_
 refine hl_v rfl rfl rfl (rv_ev rfl) ?_
 refine hl_less (sx 0 rfl (sx 1 rfl (sx 2 rfl (sx 3 rfl (sx 9 rfl (sx 10 rfl (sub_nil _))))))) (.refl _) ?_
 refine hl_nil ?_
 refine hq_then ?_
 refine hc_block ?_
 refine hc_conv [bigE ((List.replicate (allI d).toNat ir0).map irPart), rowE 26 1 (.slice (some ⟨g2, 0, none⟩) ((List.replicate (allI d).toNat ir0).length) ((List.replicate (allI d).toNat ir0).length)) ((List.replicate (allI d).toNat ir0).length) ((List.replicate (allI d).toNat ir0).flatMap irC), boxE b1 #[.int .i64 d.W, .int .i64 d.H, .int .i64 d.T, .int .i64 d.R] 25] (fun w hm => hm.irNil (allI d).toNat) ?_
 refine hc_loop2 (α := Nat) (β := List IR) (fun k es => [bigE (es.map irPart), rowE 26 1 (.slice (some ⟨g2, 0, none⟩) ((List.replicate (allI d).toNat ir0).length) ((List.replicate (allI d).toNat ir0).length)) es.length (es.flatMap irC), boxE b1 #[.int .i64 d.W, .int .i64 d.H, .int .i64 d.T, .int .i64 d.R] 25]) (fun k es => [(0, .agg #[.int .i64 d.W, .int .i64 d.H, .int .i64 d.T, .int .i64 d.R]), (1, .pointer (some ⟨b1, 0, none⟩)), (2, .slice none 0 0), (3, .slice (some ⟨g2, 0, none⟩) ((List.replicate (allI d).toNat ir0).length) ((List.replicate (allI d).toNat ir0).length)), (9, .int .i64 ((List.replicate (allI d).toNat ir0).length : Int)), (10, .int .i64 (k : Int))]) (fun k es => k ≤ (allI d).toNat ∧ SOk d (allI d).toNat k es) (fun k es => (allI d).toNat - k) 0 (List.replicate (allI d).toNat ir0) ⟨by omega, s_start _ _⟩ (sx 0 rfl (sx 1 rfl (sx 2 rfl (sx 3 rfl (sx 9 rfl (sx 10 rfl (sub_nil _))))))) ((.cons_cons _ (.cons_cons _ (.cons_cons _ .slnil)))) ?_
 intro k es hi3
 obtain ⟨hk, hs⟩ := hi3
 have hel := hs.len
 refine hc_seq ?_
 refine hc_region ?_
 refine hl_lss rfl rfl rfl rfl rfl rfl (fun h4 => ?_) (fun h4 => ?_)
 ·
  refine hl_less (sx 0 rfl (sx 1 rfl (sx 2 rfl (sx 3 rfl (sx 9 rfl (sx 10 rfl (sx 11 rfl (sub_nil _)))))))) (.refl _) ?_
  refine hl_nil ?_
  refine hq_then ?_
  refine hc_seq ?_
  refine hc_true rfl ?_
  refine hc_skip ?_
  refine hq_then ?_
  refine hc_seq ?_
  refine hc_block ?_
  refine hc_seq ?_
  refine hc_region ?_
  refine hl_v rfl rfl rfl (rv_ev rfl) ?_
  refine hl_v rfl rfl rfl (rv_ev rfl) ?_
  refine hl_less (sx 0 rfl (sx 1 rfl (sx 2 rfl (sx 3 rfl (sx 4 rfl (sx 9 rfl (sx 10 rfl (sx 11 rfl (sub_nil _))))))))) (.refl _) ?_
  refine hl_nil ?_
  refine hq_then ?_
  refine hc_region ?_
  refine hl_v rfl rfl rfl (rv_ev rfl) ?_
  refine hl_v rfl rfl rfl (rv_ev rfl) ?_
  refine hl_v rfl rfl rfl (rv_loadN (cs := [.int .i64 d.W, .int .i64 d.H, .int .i64 d.T, .int .i64 d.R]) rfl (by kernel_rfl) (by kernel_rfl) rfl rfl (box_part 2 rfl 0 rfl)) ?_
  refine hl_v rfl rfl rfl (rv_ev rfl) ?_
  refine hl_q rfl rfl rfl (rq_call (by kernel_rfl) rfl (fun w hm => implSources_ret d _ w)) ?_
  intro v5 p6 hR7
  subst hR7
  refine hl_v rfl rfl rfl (rv_index (s := 1) rfl Try.underlying99 (by kernel_rfl) rfl rfl (rd_row 2 rfl) (by omega) (by first | omega | (simp only [List.length_set]; omega))) ?_
  refine hl_one (i := 0) rfl (fun ho8 => ?_)
  refine hl_storeEl (i := 2) (n' := (es.set k (IR.mk v5 (srcI d (k : Int)))).length) (xs' := ((es.set k (IR.mk v5 (srcI d (k : Int)))).flatMap irC)) (l' := [rowE 3 1 v5 ((srcI d (k : Int)).length) ((srcI d (k : Int)).map (Value.int .i64)), bigE (es.map irPart), rowE 26 1 (.slice (some ⟨g2, 0, none⟩) ((List.replicate (allI d).toNat ir0).length) ((List.replicate (allI d).toNat ir0).length)) ((es.set k (IR.mk v5 (srcI d (k : Int)))).length) ((es.set k (IR.mk v5 (srcI d (k : Int)))).flatMap irC), boxE b1 #[.int .i64 d.W, .int .i64 d.H, .int .i64 d.T, .int .i64 d.R] 25]) rfl rfl rfl (by kernel_rfl) rfl rfl ho8 rfl (by first | omega | (simp only [List.length_set]; omega)) List.length_set.symm (flat_set1 irC (fun r => r.v) (fun _ => rfl) _ (IR.mk v5 (srcI d (k : Int))) rfl) rfl ?_
  refine hl_conv [rowE 3 1 v5 ((srcI d (k : Int)).length) ((srcI d (k : Int)).map (Value.int .i64)), bigE (es.map irPart), rowE 26 1 (.slice (some ⟨g2, 0, none⟩) ((List.replicate (allI d).toNat ir0).length) ((List.replicate (allI d).toNat ir0).length)) ((es.set k (IR.mk v5 (srcI d (k : Int)))).length) ((es.set k (IR.mk v5 (srcI d (k : Int)))).flatMap irC), boxE b1 #[.int .i64 d.W, .int .i64 d.H, .int .i64 d.T, .int .i64 d.R] 25] (conv_pick (src := [rowE 3 1 v5 ((srcI d (k : Int)).length) ((srcI d (k : Int)).map (Value.int .i64)), bigE (es.map irPart), rowE 26 1 (.slice (some ⟨g2, 0, none⟩) ((List.replicate (allI d).toNat ir0).length) ((List.replicate (allI d).toNat ir0).length)) ((es.set k (IR.mk v5 (srcI d (k : Int)))).length) ((es.set k (IR.mk v5 (srcI d (k : Int)))).flatMap irC), boxE b1 #[.int .i64 d.W, .int .i64 d.H, .int .i64 d.T, .int .i64 d.R] 25]) (dst := [rowE 3 1 v5 ((srcI d (k : Int)).length) ((srcI d (k : Int)).map (Value.int .i64)), bigE (es.map irPart), rowE 26 1 (.slice (some ⟨g2, 0, none⟩) ((List.replicate (allI d).toNat ir0).length) ((List.replicate (allI d).toNat ir0).length)) ((es.set k (IR.mk v5 (srcI d (k : Int)))).length) ((es.set k (IR.mk v5 (srcI d (k : Int)))).flatMap irC), boxE b1 #[.int .i64 d.W, .int .i64 d.H, .int .i64 d.T, .int .i64 d.R] 25]) (l := []) [0, 1, 2, 3] (by decide) rfl) ?_
  refine hl_conv [bigE ((es.set k (IR.mk v5 (srcI d (k : Int)))).map irPart), rowE 26 1 (.slice (some ⟨g2, 0, none⟩) ((List.replicate (allI d).toNat ir0).length) ((List.replicate (allI d).toNat ir0).length)) ((es.set k (IR.mk v5 (srcI d (k : Int)))).length) ((es.set k (IR.mk v5 (srcI d (k : Int)))).flatMap irC), boxE b1 #[.int .i64 d.W, .int .i64 d.H, .int .i64 d.T, .int .i64 d.R] 25] (conv_irSet (es := es) (j := k) (e' := (IR.mk v5 (srcI d (k : Int)))) (by first | omega | (simp only [List.length_set]; omega))) ?_
  refine hl_less (sx 0 rfl (sx 1 rfl (sx 2 rfl (sx 3 rfl (sx 4 rfl (sx 9 rfl (sx 10 rfl (sx 11 rfl (sub_nil _))))))))) (.refl _) ?_
  refine hl_nil ?_
  refine hq_block_normal ?_
  refine hq_then ?_
  refine hc_region ?_
  refine hl_v rfl rfl rfl (rv_add rfl rfl rfl (by constructor <;> omega)) ?_
  refine hl_v rfl rfl rfl (rv_ev rfl) ?_
  refine hl_less (sx 0 rfl (sx 1 rfl (sx 2 rfl (sx 3 rfl (sx 4 rfl (sx 9 rfl (sx 10 rfl (sx 11 rfl (sub_nil _))))))))) (.refl _) ?_
  refine hl_nil ?_
  exact hq_round2 (k + 1) (es.set k (IR.mk v5 (srcI d (k : Int)))) ⟨by omega, hs.step (by omega)⟩ (by omega) (sx 0 rfl (sx 1 rfl (sx 2 rfl (sx 3 rfl (sx 9 rfl (sx 10 rfl (sub_nil _))))))) ((.cons_cons _ (.cons_cons _ (.cons_cons _ .slnil))))
 ·
  refine hl_less (sx 0 rfl (sx 1 rfl (sx 2 rfl (sx 3 rfl (sx 9 rfl (sx 10 rfl (sx 11 rfl (sub_nil _)))))))) (.refl _) ?_
  refine hl_nil ?_
  refine hq_then ?_
  refine hc_seq ?_
  refine hc_false rfl ?_
  refine hc_exit ?_
  refine hq_then_exit ?_
  refine hq_then_exit ?_
  refine hq_block_exit ?_
  refine hq_then ?_
  refine hc_seq ?_
  refine hc_region ?_
  refine hl_v rfl rfl rfl (rv_ev rfl) ?_
  refine hl_v rfl rfl rfl (rv_ev rfl) ?_
  refine hl_less (sx 0 rfl (sx 1 rfl (sx 2 rfl (sx 3 rfl (sx 9 rfl (sx 10 rfl (sx 11 rfl (sub_nil _)))))))) (.refl _) ?_
  refine hl_nil ?_
  refine hq_then ?_
  refine hc_ret ?_
  refine hq_conv [bigE (es.map irPart), rowE 26 1 (.slice (some ⟨g2, 0, none⟩) ((List.replicate (allI d).toNat ir0).length) ((List.replicate (allI d).toNat ir0).length)) es.length (es.flatMap irC)] (conv_pick (src := [bigE (es.map irPart), rowE 26 1 (.slice (some ⟨g2, 0, none⟩) ((List.replicate (allI d).toNat ir0).length) ((List.replicate (allI d).toNat ir0).length)) es.length (es.flatMap irC), boxE b1 #[.int .i64 d.W, .int .i64 d.H, .int .i64 d.T, .int .i64 d.R] 25]) (dst := [bigE (es.map irPart), rowE 26 1 (.slice (some ⟨g2, 0, none⟩) ((List.replicate (allI d).toNat ir0).length) ((List.replicate (allI d).toNat ir0).length)) es.length (es.flatMap irC)]) (l := []) [0, 1] (by decide) rfl) ?_
  refine hq_one (i := 1) rfl (fun hoR => ?_)
  refine hq_conv [irsE (.slice (some ⟨g2, 0, none⟩) ((List.replicate (allI d).toNat ir0).length) ((List.replicate (allI d).toNat ir0).length)) es] (fun w hm => Mem.big (ps := [bigE (es.map irPart), rowE 26 1 (.slice (some ⟨g2, 0, none⟩) ((List.replicate (allI d).toNat ir0).length) ((List.replicate (allI d).toNat ir0).length)) es.length (es.flatMap irC)]) hm) ?_
  have hkN : k = (allI d).toNat := by omega
  subst hkN
  exact hq_retR (post := [irsE (.slice (some ⟨g2, 0, none⟩) ((List.replicate (allI d).toNat ir0).length) ((List.replicate (allI d).toNat ir0).length)) es]) rfl rfl ((.cons_cons _ .slnil)) ⟨es, rfl, hs, hoR⟩
theorem built_graph (v1 v2 : Value) (h1 : v1.oneCell' = true) (h2 : v2.oneCell' = true) : Try.prog.built 101 [(0, v1), (1, v2)] = some #[v1, v2] := by
  cases v1 <;> first | (exact absurd h1 Bool.false_ne_true) | (cases v2 <;> first | (exact absurd h2 Bool.false_ne_true) | kernel_rfl)
set_option maxHeartbeats 4000000 in
set_option maxRecDepth 100000 in
theorem graphOf_ret (d : Dev) (w : World) (hd : devB d = true) :
  Calls Try.prog 55 #[.agg #[.int .i64 d.W, .int .i64 d.H, .int .i64 d.T, .int .i64 d.R]] w (Ret w (fun v' post => ∃ (b : Nat) (g : Gr), v' = .pointer (some ⟨b, 0, none⟩) ∧ post = [grE b g] ∧ GrOk d (allI d).toNat g)) := by
 obtain ⟨ra1, ra2⟩ := all_rng hd
 have hrl : (List.replicate (allI d).toNat ir0).length = (allI d).toNat := List.length_replicate
 refine calls_hc (N := 50) (args := [.agg #[.int .i64 d.W, .int .i64 d.H, .int .i64 d.T, .int .i64 d.R]]) Try.func55 rfl rfl ?_
 refine hc_less _ (sx 0 rfl (sub_nil _)) (.refl _) ?_
 refine hc_seq ?_
 refine hc_region ?_
 refine hl_box rfl rfl rfl (rq_box rfl rfl) ?_
 intro b1
 refine hl_v rfl rfl rfl (rv_ev rfl) ?_
 refine hl_less (sx 0 rfl (sx 1 rfl (sx 2 rfl (sub_nil _)))) (.refl _) ?_
 refine hl_nil ?_
 refine hq_then ?_
 refine hc_seq ?_
 refine hc_draw (by kernel_rfl) 7 [0, 1, 2, 3, 4, 5, 6] (List.take 7 _) (List.drop 7 _) [[], [0], [], [2], [3], [1, 4], [1, 4, 5]] [8, 9, 10, 11, 12, 13, 14] (fun i_ vs_ v_ p_ => match i_ with | 0 => v_ = .agg #[.int .i64 d.W, .int .i64 d.H, .int .i64 d.T, .int .i64 d.R] ∧ p_ = [] | 1 => (fun v' post => ∃ es : List IR, post = [irsE v' es] ∧ SOk d (allI d).toNat (allI d).toNat es ∧ v'.oneCell' = true) v_ p_ | 2 => v_ = .agg #[.int .i64 d.W, .int .i64 d.H, .int .i64 d.T, .int .i64 d.R] ∧ p_ = [] | 3 => v_ = .int .i64 (allI d) ∧ p_ = [] | 4 => IsRow_o 26 1 ((List.replicate (allI d).toNat ir0).length) ((List.replicate (allI d).toNat ir0).flatMap irC) v_ p_ | 5 => v_ = .agg #[(List.getD vs_ 0 undef), (List.getD vs_ 1 undef)] ∧ p_ = [] | 6 => IsBox #[(List.getD vs_ 0 undef), (List.getD vs_ 1 undef)] 101 v_ p_ | _ => True) (List.take_append_drop 7 _).symm (by kernel_rfl) (by kernel_rfl) rfl rfl ?_ ?_
 ·
  refine ⟨?_, ?_, ?_, ?_, ?_, ?_, ?_, trivial⟩
  ·
   intro vf pf hR
   refine Or.inl ⟨rfl, ?_⟩
   refine rq_less (sx 1 rfl (sub_nil _)) (List.sublist_append_right _ _) ?_
   exact rq_v (rv_loadN (cs := [.int .i64 d.W, .int .i64 d.H, .int .i64 d.T, .int .i64 d.R]) rfl (by kernel_rfl) (by kernel_rfl) rfl rfl (box_part 0 rfl 0 rfl))
  ·
   intro vf pf hR
   have e0 : (vf 0) = .agg #[.int .i64 d.W, .int .i64 d.H, .int .i64 d.T, .int .i64 d.R] ∧ (pf 0) = [] := hR 0 (by decide)
   refine Or.inl ⟨rfl, ?_⟩
   refine rq_less (sx 8 (congrArg some e0.1) (sub_nil _)) (List.sublist_append_right _ _) ?_
   exact rq_call (by kernel_rfl) rfl (fun w hm => allSources_ret d w hd)
  ·
   intro vf pf hR
   refine Or.inl ⟨rfl, ?_⟩
   refine rq_less (sx 1 rfl (sub_nil _)) (List.sublist_append_right _ _) ?_
   exact rq_v (rv_loadN (cs := [.int .i64 d.W, .int .i64 d.H, .int .i64 d.T, .int .i64 d.R]) rfl (by kernel_rfl) (by kernel_rfl) rfl rfl (box_part 0 rfl 0 rfl))
  ·
   intro vf pf hR
   have e2 : (vf 2) = .agg #[.int .i64 d.W, .int .i64 d.H, .int .i64 d.T, .int .i64 d.R] ∧ (pf 2) = [] := hR 2 (by decide)
   refine Or.inl ⟨rfl, ?_⟩
   refine rq_less (sx 10 (congrArg some e2.1) (sub_nil _)) (List.sublist_append_right _ _) ?_
   exact (rq_call (by kernel_rfl) rfl (fun w hm => ret_ans (implrouteNodes_yes d w hd)))
  ·
   intro vf pf hR
   have e3 : (vf 3) = .int .i64 (allI d) ∧ (pf 3) = [] := hR 3 (by decide)
   refine Or.inl ⟨rfl, ?_⟩
   refine rq_less (sx 11 (congrArg some e3.1) (sub_nil _)) (List.sublist_append_right _ _) ?_
   exact rq_make (z := .slice none 0 0) (s := 1) (bytes := 24) (n := (List.replicate (allI d).toNat ir0).length) (cs := ((List.replicate (allI d).toNat ir0).flatMap irC)) rfl Try.underlying99 (by kernel_rfl) (by decide) rfl rfl (by first | (rw [List.length_replicate]; done) | (rw [List.length_replicate]; omega)) (by first | (rw [List.length_replicate]; done) | (rw [List.length_replicate]; omega)) (by rw [List.length_replicate]; omega) (made_flat irC 1 (fun _ => rfl) ir0 _ rfl (allI d).toNat)
  ·
   intro vf pf hR
   have e1 : (fun v' post => ∃ es : List IR, post = [irsE v' es] ∧ SOk d (allI d).toNat (allI d).toNat es ∧ v'.oneCell' = true) (vf 1) (pf 1) := hR 1 (by decide)
   obtain ⟨v2, v1⟩ : ∃ x, vf 1 = x := ⟨_, rfl⟩
   obtain ⟨p3, p1⟩ : ∃ x, pf 1 = x := ⟨_, rfl⟩
   have hR4 := e1
   rw [v1, p1] at hR4
   obtain ⟨so, rfl, hso, hoso⟩ := hR4
   have e4 : IsRow_o 26 1 ((List.replicate (allI d).toNat ir0).length) ((List.replicate (allI d).toNat ir0).flatMap irC) (vf 4) (pf 4) := hR 4 (by decide)
   obtain ⟨g5, v4, p4⟩ := e4
   refine Or.inl ⟨rfl, ?_⟩
   refine rq_less (l' := [irsE v2 so, rowE 26 1 (.slice (some ⟨g5, 0, none⟩) ((List.replicate (allI d).toNat ir0).length) ((List.replicate (allI d).toNat ir0).length)) ((List.replicate (allI d).toNat ir0).length) ((List.replicate (allI d).toNat ir0).flatMap irC), boxE b1 #[.int .i64 d.W, .int .i64 d.H, .int .i64 d.T, .int .i64 d.R] 25]) (sx 9 (congrArg some v1) (sx 12 (congrArg some v4) (sub_nil _))) (by first | (simp only [p1, v1, p4, v4, List.flatMap_cons, List.flatMap_nil, List.append_nil, List.nil_append, List.cons_append]; exact List.Sublist.refl _) | simp [p1, v1, p4, v4]) ?_
   exact rq_mono (rq_v (rv_build (cs := #[v2, .slice (some ⟨g5, 0, none⟩) ((List.replicate (allI d).toNat ir0).length) ((List.replicate (allI d).toNat ir0).length)]) rfl rfl (built_graph _ _ hoso rfl))) (fun _ _ h => ⟨h.1.trans (by show _ = (.agg #[(vf 1), (vf 4)] : Value); first | (rw [v1, v4]; done) | (rw [v1, v4]; rfl)), h.2⟩)
  ·
   intro vf pf hR
   have e1 : (fun v' post => ∃ es : List IR, post = [irsE v' es] ∧ SOk d (allI d).toNat (allI d).toNat es ∧ v'.oneCell' = true) (vf 1) (pf 1) := hR 1 (by decide)
   obtain ⟨v2, v1⟩ : ∃ x, vf 1 = x := ⟨_, rfl⟩
   obtain ⟨p3, p1⟩ : ∃ x, pf 1 = x := ⟨_, rfl⟩
   have hR4 := e1
   rw [v1, p1] at hR4
   obtain ⟨so, rfl, hso, hoso⟩ := hR4
   have e4 : IsRow_o 26 1 ((List.replicate (allI d).toNat ir0).length) ((List.replicate (allI d).toNat ir0).flatMap irC) (vf 4) (pf 4) := hR 4 (by decide)
   obtain ⟨g5, v4, p4⟩ := e4
   have e5 : (vf 5) = .agg #[(vf 1), (vf 4)] ∧ (pf 5) = [] := hR 5 (by decide)
   rw [v1, v4] at e5
   refine Or.inl ⟨rfl, ?_⟩
   refine rq_less (l' := [irsE v2 so, rowE 26 1 (.slice (some ⟨g5, 0, none⟩) ((List.replicate (allI d).toNat ir0).length) ((List.replicate (allI d).toNat ir0).length)) ((List.replicate (allI d).toNat ir0).length) ((List.replicate (allI d).toNat ir0).flatMap irC), boxE b1 #[.int .i64 d.W, .int .i64 d.H, .int .i64 d.T, .int .i64 d.R] 25]) (sx 13 (congrArg some e5.1) (sub_nil _)) (by first | (simp only [p1, v1, p4, v4, e5.2, List.flatMap_cons, List.flatMap_nil, List.append_nil, List.nil_append, List.cons_append]; exact List.Sublist.refl _) | simp [p1, v1, p4, v4, e5.2]) ?_
   exact rq_mono (rq_box rfl rfl) (fun v_ p_ h => by show IsBox #[(vf 1), (vf 4)] 101 v_ p_; rw [v1, v4]; exact h)
 ·
  intro vf pf hR
  have e1 : (fun v' post => ∃ es : List IR, post = [irsE v' es] ∧ SOk d (allI d).toNat (allI d).toNat es ∧ v'.oneCell' = true) (vf 1) (pf 1) := hR 1 (by decide)
  obtain ⟨v2, v1⟩ : ∃ x, vf 1 = x := ⟨_, rfl⟩
  obtain ⟨p3, p1⟩ : ∃ x, pf 1 = x := ⟨_, rfl⟩
  have hR4 := e1
  rw [v1, p1] at hR4
  obtain ⟨so, rfl, hso, hoso⟩ := hR4
  have e4 : IsRow_o 26 1 ((List.replicate (allI d).toNat ir0).length) ((List.replicate (allI d).toNat ir0).flatMap irC) (vf 4) (pf 4) := hR 4 (by decide)
  obtain ⟨g5, v4, p4⟩ := e4
  have e6 : IsBox #[(vf 1), (vf 4)] 101 (vf 6) (pf 6) := hR 6 (by decide)
  rw [v1, v4] at e6
  obtain ⟨b6, v6, p6⟩ := e6
  have q0 : (vf 0) = .agg #[.int .i64 d.W, .int .i64 d.H, .int .i64 d.T, .int .i64 d.R] ∧ (pf 0) = [] := hR 0 (by decide)
  have q2 : (vf 2) = .agg #[.int .i64 d.W, .int .i64 d.H, .int .i64 d.T, .int .i64 d.R] ∧ (pf 2) = [] := hR 2 (by decide)
  have q3 : (vf 3) = .int .i64 (allI d) ∧ (pf 3) = [] := hR 3 (by decide)
  have q5 : (vf 5) = .agg #[(vf 1), (vf 4)] ∧ (pf 5) = [] := hR 5 (by decide)
  refine hl_less (l' := [irsE v2 so, rowE 26 1 (.slice (some ⟨g5, 0, none⟩) ((List.replicate (allI d).toNat ir0).length) ((List.replicate (allI d).toNat ir0).length)) ((List.replicate (allI d).toNat ir0).length) ((List.replicate (allI d).toNat ir0).flatMap irC), boxE b6 #[v2, .slice (some ⟨g5, 0, none⟩) ((List.replicate (allI d).toNat ir0).length) ((List.replicate (allI d).toNat ir0).length)] 101, boxE b1 #[.int .i64 d.W, .int .i64 d.H, .int .i64 d.T, .int .i64 d.R] 25]) (sx 0 rfl (sx 1 rfl (sx 2 rfl (sx 14 (congrArg some v6) (sub_nil _))))) (by first | (simp only [p1, v1, p4, v4, p6, v6, q0.2, q2.2, q3.2, q5.2, List.flatMap_cons, List.flatMap_nil, List.append_nil, List.nil_append, List.cons_append]; exact List.Sublist.refl _) | simp [p1, v1, p4, v4, p6, v6, q0.2, q2.2, q3.2, q5.2]) ?_
  simp only [List.drop_succ_cons, List.drop_zero]
  refine hl_v rfl rfl rfl (rv_ev rfl) ?_
  refine hl_less (sx 0 rfl (sx 1 rfl (sx 2 rfl (sx 3 rfl (sub_nil _))))) (.refl _) ?_
  refine hl_nil ?_
  refine hq_then ?_
  refine hc_seq ?_
  refine hc_seq ?_
  refine hc_region ?_
  refine hl_v rfl rfl rfl (rv_ev rfl) ?_
  refine hl_v rfl rfl rfl (rv_nilCheck rfl rfl) ?_
  refine hl_v rfl rfl rfl (rv_field (k0 := 0) rfl (by kernel_rfl) rfl) ?_
  refine hl_v rfl rfl rfl (rv_load rfl (by kernel_rfl) rfl (box_cell 2 rfl rfl)) ?_
  have hsol0 := hso.len
  refine hl_v rfl rfl rfl (rv_len rfl Try.underlying99 rfl (fun w hm => (ir_rds 0 rfl w hm).row)) ?_
  refine hl_v rfl rfl rfl (rv_ev rfl) ?_
  refine hl_less (sx 0 rfl (sx 1 rfl (sx 2 rfl (sx 3 rfl (sx 18 rfl (sx 19 rfl (sx 20 rfl (sub_nil _)))))))) (.refl _) ?_
  refine hl_nil ?_
  refine hq_then ?_
  refine hc_block ?_
  refine hc_conv [bigE ((List.replicate (allI d).toNat ir0).map irPart), irsE v2 so, rowE 26 1 (.slice (some ⟨g5, 0, none⟩) ((List.replicate (allI d).toNat ir0).length) ((List.replicate (allI d).toNat ir0).length)) ((List.replicate (allI d).toNat ir0).length) ((List.replicate (allI d).toNat ir0).flatMap irC), boxE b6 #[v2, .slice (some ⟨g5, 0, none⟩) ((List.replicate (allI d).toNat ir0).length) ((List.replicate (allI d).toNat ir0).length)] 101, boxE b1 #[.int .i64 d.W, .int .i64 d.H, .int .i64 d.T, .int .i64 d.R] 25] (fun w hm => hm.irNil (allI d).toNat) ?_
  refine hc_loop2 (α := Nat) (β := List IR) (fun n ks => [bigE (ks.map irPart), irsE v2 so, rowE 26 1 (.slice (some ⟨g5, 0, none⟩) ((List.replicate (allI d).toNat ir0).length) ((List.replicate (allI d).toNat ir0).length)) ks.length (ks.flatMap irC), boxE b6 #[v2, .slice (some ⟨g5, 0, none⟩) ((List.replicate (allI d).toNat ir0).length) ((List.replicate (allI d).toNat ir0).length)] 101, boxE b1 #[.int .i64 d.W, .int .i64 d.H, .int .i64 d.T, .int .i64 d.R] 25]) (fun n ks => [(0, .agg #[.int .i64 d.W, .int .i64 d.H, .int .i64 d.T, .int .i64 d.R]), (1, .pointer (some ⟨b1, 0, none⟩)), (2, .pointer none), (3, .pointer (some ⟨b6, 0, none⟩)), (18, v2), (19, .int .i64 (so.length : Int)), (20, .int .i64 (n : Int))]) (fun n ks => n ≤ (allI d).toNat ∧ KOk d (allI d).toNat n 0 ks) (fun n ks => (allI d).toNat - n) 0 (List.replicate (allI d).toNat ir0) ⟨by omega, k_start _ _⟩ (sx 0 rfl (sx 1 rfl (sx 2 rfl (sx 3 rfl (sx 18 rfl (sx 19 rfl (sx 20 rfl (sub_nil _)))))))) ((.cons_cons _ (.cons_cons _ (.cons_cons _ (.cons_cons _ (.cons_cons _ .slnil)))))) ?_
  intro n ks hi7
  obtain ⟨hn, hk⟩ := hi7
  have hkl := hk.len
  refine hc_seq ?_
  refine hc_region ?_
  refine hl_lss rfl rfl rfl rfl rfl rfl (fun h8 => ?_) (fun h8 => ?_)
  ·
   refine hl_less (sx 0 rfl (sx 1 rfl (sx 2 rfl (sx 3 rfl (sx 18 rfl (sx 19 rfl (sx 20 rfl (sx 21 rfl (sub_nil _))))))))) (.refl _) ?_
   refine hl_nil ?_
   refine hq_then ?_
   refine hc_seq ?_
   refine hc_true rfl ?_
   refine hc_skip ?_
   refine hq_then ?_
   refine hc_seq ?_
   refine hc_block ?_
   refine hc_seq ?_
   refine hc_region ?_
   refine hl_v rfl rfl rfl (rv_ev rfl) ?_
   have hsol := hso.len
   have hsn : (so.getD n ir0).xs = srcI d n := hso.src n (by omega)
   have hsl16 : (so.getD n ir0).xs.length ≤ 16 := by rw [hsn]; exact src_len16 _ _
   refine hl_v rfl rfl rfl (rv_index (s := 1) rfl Try.underlying99 (by kernel_rfl) rfl rfl (fun w hm => (ir_rds 1 rfl w hm).row) (by omega) (by first | omega | (simp only [List.length_set]; omega))) ?_
   refine hl_v rfl rfl rfl (rv_loadEl (u := (so.getD n ir0).v) rfl (by kernel_rfl) rfl (fun w hm => (ir_rds 1 rfl w hm).row) (flat_one irC (fun r => r.v) (fun _ => rfl) so ir0 (show n < _ by first | omega | (simp only [List.length_set]; omega)))) ?_
   refine hl_v rfl rfl rfl (rv_ev rfl) ?_
   refine hl_v rfl rfl rfl (rv_ev rfl) ?_
   refine hl_less (sx 0 rfl (sx 1 rfl (sx 2 rfl (sx 3 rfl (sx 4 rfl (sx 5 rfl (sx 18 rfl (sx 19 rfl (sx 20 rfl (sx 21 rfl (sub_nil _))))))))))) (.refl _) ?_
   refine hl_nil ?_
   refine hq_then ?_
   refine hc_seq ?_
   refine hc_region ?_
   refine hl_v rfl rfl rfl (rv_ev rfl) ?_
   refine hl_v rfl rfl rfl (rv_len rfl Try.underlying26 rfl (fun w hm => (ir_rds 1 rfl w hm).at (k := n) (by omega))) ?_
   refine hl_v rfl rfl rfl (rv_ev rfl) ?_
   refine hl_less (sx 0 rfl (sx 1 rfl (sx 2 rfl (sx 3 rfl (sx 4 rfl (sx 5 rfl (sx 18 rfl (sx 19 rfl (sx 20 rfl (sx 21 rfl (sx 25 rfl (sx 26 rfl (sx 27 rfl (sub_nil _)))))))))))))) (.refl _) ?_
   refine hl_nil ?_
   refine hq_then ?_
   refine hc_block ?_
   refine hc_loop2 (α := Nat) (β := List IR) (fun i zs => [bigE (zs.map irPart), irsE v2 so, rowE 26 1 (.slice (some ⟨g5, 0, none⟩) ((List.replicate (allI d).toNat ir0).length) ((List.replicate (allI d).toNat ir0).length)) zs.length (zs.flatMap irC), boxE b6 #[v2, .slice (some ⟨g5, 0, none⟩) ((List.replicate (allI d).toNat ir0).length) ((List.replicate (allI d).toNat ir0).length)] 101, boxE b1 #[.int .i64 d.W, .int .i64 d.H, .int .i64 d.T, .int .i64 d.R] 25]) (fun i zs => [(0, .agg #[.int .i64 d.W, .int .i64 d.H, .int .i64 d.T, .int .i64 d.R]), (1, .pointer (some ⟨b1, 0, none⟩)), (2, .pointer none), (3, .pointer (some ⟨b6, 0, none⟩)), (4, .int .i64 (n : Int)), (5, (so.getD n ir0).v), (18, v2), (19, .int .i64 (so.length : Int)), (20, .int .i64 (n : Int)), (21, .bool true), (25, (so.getD n ir0).v), (26, .int .i64 (((so.getD n ir0).xs).length : Int)), (27, .int .i64 (i : Int))]) (fun i zs => i ≤ (so.getD n ir0).xs.length ∧ KOk d (allI d).toNat n i zs) (fun i zs => (so.getD n ir0).xs.length - i) 0 ks ⟨by omega, hk⟩ (sx 0 rfl (sx 1 rfl (sx 2 rfl (sx 3 rfl (sx 4 rfl (sx 5 rfl (sx 18 rfl (sx 19 rfl (sx 20 rfl (sx 21 rfl (sx 25 rfl (sx 26 rfl (sx 27 rfl (sub_nil _)))))))))))))) ((.cons_cons _ (.cons_cons _ (.cons_cons _ (.cons_cons _ (.cons_cons _ .slnil)))))) ?_
   intro i zs hi9
   obtain ⟨hi, hz⟩ := hi9
   have hzl := hz.len
   refine hc_seq ?_
   refine hc_region ?_
   refine hl_lss rfl rfl rfl rfl rfl rfl (fun h10 => ?_) (fun h10 => ?_)
   ·
    refine hl_less (sx 0 rfl (sx 1 rfl (sx 2 rfl (sx 3 rfl (sx 4 rfl (sx 5 rfl (sx 18 rfl (sx 19 rfl (sx 20 rfl (sx 21 rfl (sx 25 rfl (sx 26 rfl (sx 27 rfl (sx 28 rfl (sub_nil _))))))))))))))) (.refl _) ?_
    refine hl_nil ?_
    refine hq_then ?_
    refine hc_seq ?_
    refine hc_true rfl ?_
    refine hc_skip ?_
    refine hq_then ?_
    refine hc_seq ?_
    refine hc_block ?_
    refine hc_seq ?_
    refine hc_region ?_
    refine hl_v rfl rfl rfl (rv_index (s := 1) rfl Try.underlying26 (by kernel_rfl) rfl rfl (fun w hm => (ir_rds 1 rfl w hm).at (k := n) (by omega)) (by omega) (by first | omega | (simp only [List.length_set]; omega))) ?_
    refine hl_v rfl rfl rfl (rv_loadEl (u := .int .i64 (((so.getD n ir0).xs).getD i 0)) rfl (by kernel_rfl) rfl (fun w hm => (ir_rds 1 rfl w hm).at (k := n) (by omega)) (ints_at1 (show _ < ((so.getD n ir0).xs).length by first | omega | (simp only [List.length_set]; omega)))) ?_
    refine hl_v rfl rfl rfl (rv_ev rfl) ?_
    refine hl_less (sx 0 rfl (sx 1 rfl (sx 2 rfl (sx 3 rfl (sx 4 rfl (sx 5 rfl (sx 7 rfl (sx 18 rfl (sx 19 rfl (sx 20 rfl (sx 21 rfl (sx 25 rfl (sx 26 rfl (sx 27 rfl (sx 28 rfl (sub_nil _)))))))))))))))) (.refl _) ?_
    refine hl_nil ?_
    refine hq_then ?_
    have hx := src_rng (d := d) (k := (n : Int)) (s := (((so.getD n ir0).xs).getD i 0)) (by rw [← hsn]; exact getD_memZ (by omega))
    obtain ⟨hx0, hx1⟩ : 0 ≤ (((so.getD n ir0).xs).getD i 0) ∧ (((so.getD n ir0).xs).getD i 0) < ((allI d).toNat : Int) := ⟨hx.1, by omega⟩
    have hsz := hz.sz ((((so.getD n ir0).xs).getD i 0).toNat) (by omega)
    refine hc_conv [bigE (zs.map irPart), irsE v2 so, rowE 26 1 (.slice (some ⟨g5, 0, none⟩) ((List.replicate (allI d).toNat ir0).length) ((List.replicate (allI d).toNat ir0).length)) zs.length (zs.flatMap irC), boxE b6 #[v2, .slice (some ⟨g5, 0, none⟩) ((List.replicate (allI d).toNat ir0).length) ((List.replicate (allI d).toNat ir0).length)] 101, boxE b1 #[.int .i64 d.W, .int .i64 d.H, .int .i64 d.T, .int .i64 d.R] 25] (conv_pick (src := [bigE (zs.map irPart), irsE v2 so, rowE 26 1 (.slice (some ⟨g5, 0, none⟩) ((List.replicate (allI d).toNat ir0).length) ((List.replicate (allI d).toNat ir0).length)) zs.length (zs.flatMap irC), boxE b6 #[v2, .slice (some ⟨g5, 0, none⟩) ((List.replicate (allI d).toNat ir0).length) ((List.replicate (allI d).toNat ir0).length)] 101, boxE b1 #[.int .i64 d.W, .int .i64 d.H, .int .i64 d.T, .int .i64 d.R] 25]) (dst := [bigE (zs.map irPart), irsE v2 so, rowE 26 1 (.slice (some ⟨g5, 0, none⟩) ((List.replicate (allI d).toNat ir0).length) ((List.replicate (allI d).toNat ir0).length)) zs.length (zs.flatMap irC), boxE b6 #[v2, .slice (some ⟨g5, 0, none⟩) ((List.replicate (allI d).toNat ir0).length) ((List.replicate (allI d).toNat ir0).length)] 101, boxE b1 #[.int .i64 d.W, .int .i64 d.H, .int .i64 d.T, .int .i64 d.R] 25]) (l := []) [0, 1, 2, 3, 4] (by decide) rfl) ?_
    refine hc_conv [rowE 3 1 ((zs.getD ((((so.getD n ir0).xs).getD i 0).toNat) ir0).v) (((zs.getD ((((so.getD n ir0).xs).getD i 0).toNat) ir0).xs).length) (((zs.getD ((((so.getD n ir0).xs).getD i 0).toNat) ir0).xs).map (Value.int .i64)), bigE ((zs.map irPart).eraseIdx ((((so.getD n ir0).xs).getD i 0).toNat)), irsE v2 so, rowE 26 1 (.slice (some ⟨g5, 0, none⟩) ((List.replicate (allI d).toNat ir0).length) ((List.replicate (allI d).toNat ir0).length)) zs.length (zs.flatMap irC), boxE b6 #[v2, .slice (some ⟨g5, 0, none⟩) ((List.replicate (allI d).toNat ir0).length) ((List.replicate (allI d).toNat ir0).length)] 101, boxE b1 #[.int .i64 d.W, .int .i64 d.H, .int .i64 d.T, .int .i64 d.R] 25] (conv_irFocus (es := zs) (j := ((((so.getD n ir0).xs).getD i 0).toNat)) (by omega)) ?_
    refine hc_draw4 (l := [bigE ((zs.map irPart).eraseIdx ((((so.getD n ir0).xs).getD i 0).toNat)), irsE v2 so, rowE 26 1 (.slice (some ⟨g5, 0, none⟩) ((List.replicate (allI d).toNat ir0).length) ((List.replicate (allI d).toNat ir0).length)) zs.length (zs.flatMap irC), boxE b6 #[v2, .slice (some ⟨g5, 0, none⟩) ((List.replicate (allI d).toNat ir0).length) ((List.replicate (allI d).toNat ir0).length)] 101, boxE b1 #[.int .i64 d.W, .int .i64 d.H, .int .i64 d.T, .int .i64 d.R] 25]) (by kernel_rfl) 15 [0, 1, 2, 3, 4, 5, 6, 7, 8, 9, 10, 11, 12, 13, 14] (List.take 15 _) (List.drop 15 _) [[], [0], [1], [2], [], [], [5], [6], [7], [], [8, 9], [10], [], [12], [11, 13]] [some 31, some 32, some 33, some 34, some 35, some 36, some 37, some 38, some 39, some 40, some 41, some 42, some 43, some 44, some 45] (fun i_ vs_ v_ p_ => match i_ with | 0 => v_ = .pointer (some ⟨b6, 0, none⟩) ∧ p_ = [] | 1 => v_ = .pointer (some ⟨b6, 0, none⟩) ∧ p_ = [] | 2 => v_ = .pointer (some ⟨b6, 0 + 1, none⟩) ∧ p_ = [] | 3 => v_ = .slice (some ⟨g5, 0, none⟩) ((List.replicate (allI d).toNat ir0).length) ((List.replicate (allI d).toNat ir0).length) ∧ p_ = [] | 4 => v_ = .int .i64 (((so.getD n ir0).xs).getD i 0) ∧ p_ = [] | 5 => v_ = .pointer (some ⟨b6, 0, none⟩) ∧ p_ = [] | 6 => v_ = .pointer (some ⟨b6, 0, none⟩) ∧ p_ = [] | 7 => v_ = .pointer (some ⟨b6, 0 + 1, none⟩) ∧ p_ = [] | 8 => v_ = .slice (some ⟨g5, 0, none⟩) ((List.replicate (allI d).toNat ir0).length) ((List.replicate (allI d).toNat ir0).length) ∧ p_ = [] | 9 => v_ = .int .i64 (((so.getD n ir0).xs).getD i 0) ∧ p_ = [] | 10 => v_ = elP (.slice (some ⟨g5, 0, none⟩) ((List.replicate (allI d).toNat ir0).length) ((List.replicate (allI d).toNat ir0).length)) ((((so.getD n ir0).xs).getD i 0).toNat * 1) ∧ p_ = [] | 11 => v_ = (zs.getD ((((so.getD n ir0).xs).getD i 0).toNat) ir0).v ∧ p_ = [] | 12 => v_ = .int .i64 (n : Int) ∧ p_ = [] | 13 => IsRow_o 3 1 1 ([(n : Int)].map (Value.int .i64)) v_ p_ | 14 => (∃ pm_, p_ = [pm_] ∧ (fun u_ p_ => p_ = rowE 3 1 u_ ((((zs.getD ((((so.getD n ir0).xs).getD i 0).toNat) ir0).xs) ++ ([(n : Int)])).length) ((((zs.getD ((((so.getD n ir0).xs).getD i 0).toNat) ir0).xs) ++ ([(n : Int)])).map (Value.int .i64))) v_ pm_) | _ => True) [[], [0], [1], [2], [], [], [5], [6], [7], [], [8, 9], [10], [], [12], [11, 13]] [none, none, none, none, none, none, none, none, none, none, none, none, none, none, some 17] [[rowE 3 1 ((zs.getD ((((so.getD n ir0).xs).getD i 0).toNat) ir0).v) (((zs.getD ((((so.getD n ir0).xs).getD i 0).toNat) ir0).xs).length) (((zs.getD ((((so.getD n ir0).xs).getD i 0).toNat) ir0).xs).map (Value.int .i64))]] [0, 1, 2, 3, 4, 5, 6, 7, 8, 9, 10, 11, 12, 13, 14] 17 (List.take_append_drop 15 _).symm (by kernel_rfl) (by kernel_rfl) (by kernel_rfl) rfl rfl ?_ ?_
    ·
     refine ⟨?_, ?_, ?_, ?_, ?_, ?_, ?_, ?_, ?_, ?_, ?_, ?_, ?_, ?_, ?_, trivial⟩
     ·
      intro vf pf hmu hR
      refine Or.inl ⟨rfl, ?_⟩
      show RunQ _ _ _ (([] : List Nat).flatMap pf ++ _) (envOf3 _ vf [] ++ _) _ _
      refine rq_less (sx 3 rfl (sub_nil _)) (List.sublist_append_right _ _) ?_
      exact rq_v (rv_ev rfl)
     ·
      intro vf pf hmu hR
      have e0 : (vf 0) = .pointer (some ⟨b6, 0, none⟩) ∧ (pf 0) = [] := hR 0 (by decide)
      refine Or.inl ⟨rfl, ?_⟩
      show RunQ _ _ _ (([0] : List Nat).flatMap pf ++ _) (envOf3 _ vf [0] ++ _) _ _
      refine rq_less (sx 31 (congrArg some e0.1) (sub_nil _)) (List.sublist_append_right _ _) ?_
      exact rq_v (rv_nilCheck rfl rfl)
     ·
      intro vf pf hmu hR
      have e1 : (vf 1) = .pointer (some ⟨b6, 0, none⟩) ∧ (pf 1) = [] := hR 1 (by decide)
      refine Or.inl ⟨rfl, ?_⟩
      show RunQ _ _ _ (([1] : List Nat).flatMap pf ++ _) (envOf3 _ vf [1] ++ _) _ _
      refine rq_less (sx 32 (congrArg some e1.1) (sub_nil _)) (List.sublist_append_right _ _) ?_
      exact rq_v (rv_field (k0 := 1) rfl (by kernel_rfl) rfl)
     ·
      intro vf pf hmu hR
      have e2 : (vf 2) = .pointer (some ⟨b6, 0 + 1, none⟩) ∧ (pf 2) = [] := hR 2 (by decide)
      refine Or.inl ⟨rfl, ?_⟩
      show RunQ _ _ _ (([2] : List Nat).flatMap pf ++ _) (envOf3 _ vf [2] ++ _) _ _
      refine rq_less (sx 33 (congrArg some e2.1) (sub_nil _)) (List.sublist_append_right _ _) ?_
      exact rq_v (rv_load rfl (by kernel_rfl) rfl (box_cell 3 rfl rfl))
     ·
      intro vf pf hmu hR
      refine Or.inl ⟨rfl, ?_⟩
      show RunQ _ _ _ (([] : List Nat).flatMap pf ++ _) (envOf3 _ vf [] ++ _) _ _
      refine rq_less (sx 7 rfl (sub_nil _)) (List.sublist_append_right _ _) ?_
      exact rq_v (rv_ev rfl)
     ·
      intro vf pf hmu hR
      refine Or.inl ⟨rfl, ?_⟩
      show RunQ _ _ _ (([] : List Nat).flatMap pf ++ _) (envOf3 _ vf [] ++ _) _ _
      refine rq_less (sx 3 rfl (sub_nil _)) (List.sublist_append_right _ _) ?_
      exact rq_v (rv_ev rfl)
     ·
      intro vf pf hmu hR
      have e5 : (vf 5) = .pointer (some ⟨b6, 0, none⟩) ∧ (pf 5) = [] := hR 5 (by decide)
      refine Or.inl ⟨rfl, ?_⟩
      show RunQ _ _ _ (([5] : List Nat).flatMap pf ++ _) (envOf3 _ vf [5] ++ _) _ _
      refine rq_less (sx 36 (congrArg some e5.1) (sub_nil _)) (List.sublist_append_right _ _) ?_
      exact rq_v (rv_nilCheck rfl rfl)
     ·
      intro vf pf hmu hR
      have e6 : (vf 6) = .pointer (some ⟨b6, 0, none⟩) ∧ (pf 6) = [] := hR 6 (by decide)
      refine Or.inl ⟨rfl, ?_⟩
      show RunQ _ _ _ (([6] : List Nat).flatMap pf ++ _) (envOf3 _ vf [6] ++ _) _ _
      refine rq_less (sx 37 (congrArg some e6.1) (sub_nil _)) (List.sublist_append_right _ _) ?_
      exact rq_v (rv_field (k0 := 1) rfl (by kernel_rfl) rfl)
     ·
      intro vf pf hmu hR
      have e7 : (vf 7) = .pointer (some ⟨b6, 0 + 1, none⟩) ∧ (pf 7) = [] := hR 7 (by decide)
      refine Or.inl ⟨rfl, ?_⟩
      show RunQ _ _ _ (([7] : List Nat).flatMap pf ++ _) (envOf3 _ vf [7] ++ _) _ _
      refine rq_less (sx 38 (congrArg some e7.1) (sub_nil _)) (List.sublist_append_right _ _) ?_
      exact rq_v (rv_load rfl (by kernel_rfl) rfl (box_cell 3 rfl rfl))
     ·
      intro vf pf hmu hR
      refine Or.inl ⟨rfl, ?_⟩
      show RunQ _ _ _ (([] : List Nat).flatMap pf ++ _) (envOf3 _ vf [] ++ _) _ _
      refine rq_less (sx 7 rfl (sub_nil _)) (List.sublist_append_right _ _) ?_
      exact rq_v (rv_ev rfl)
     ·
      intro vf pf hmu hR
      have e8 : (vf 8) = .slice (some ⟨g5, 0, none⟩) ((List.replicate (allI d).toNat ir0).length) ((List.replicate (allI d).toNat ir0).length) ∧ (pf 8) = [] := hR 8 (by decide)
      have e9 : (vf 9) = .int .i64 (((so.getD n ir0).xs).getD i 0) ∧ (pf 9) = [] := hR 9 (by decide)
      refine Or.inl ⟨rfl, ?_⟩
      show RunQ _ _ _ (([8, 9] : List Nat).flatMap pf ++ _) (envOf3 _ vf [8, 9] ++ _) _ _
      refine rq_less (sx 39 (congrArg some e8.1) (sx 40 (congrArg some e9.1) (sub_nil _))) (List.sublist_append_right _ _) ?_
      exact rq_v (rv_index (s := 1) rfl Try.underlying99 (by kernel_rfl) rfl rfl (rd_row 2 rfl) (by omega) (by first | omega | (simp only [List.length_set]; omega)))
     ·
      intro vf pf hmu hR
      have e10 : (vf 10) = elP (.slice (some ⟨g5, 0, none⟩) ((List.replicate (allI d).toNat ir0).length) ((List.replicate (allI d).toNat ir0).length)) ((((so.getD n ir0).xs).getD i 0).toNat * 1) ∧ (pf 10) = [] := hR 10 (by decide)
      refine Or.inl ⟨rfl, ?_⟩
      show RunQ _ _ _ (([10] : List Nat).flatMap pf ++ _) (envOf3 _ vf [10] ++ _) _ _
      refine rq_less (sx 41 (congrArg some e10.1) (sub_nil _)) (List.sublist_append_right _ _) ?_
      exact rq_v (rv_loadEl (u := (zs.getD ((((so.getD n ir0).xs).getD i 0).toNat) ir0).v) rfl (by kernel_rfl) rfl (rd_row 2 rfl) (flat_one irC (fun r => r.v) (fun _ => rfl) zs ir0 (show (((so.getD n ir0).xs).getD i 0).toNat < _ by first | omega | (simp only [List.length_set]; omega))))
     ·
      intro vf pf hmu hR
      refine Or.inl ⟨rfl, ?_⟩
      show RunQ _ _ _ (([] : List Nat).flatMap pf ++ _) (envOf3 _ vf [] ++ _) _ _
      refine rq_less (sx 4 rfl (sub_nil _)) (List.sublist_append_right _ _) ?_
      exact rq_v (rv_ev rfl)
     ·
      intro vf pf hmu hR
      have e12 : (vf 12) = .int .i64 (n : Int) ∧ (pf 12) = [] := hR 12 (by decide)
      refine Or.inl ⟨rfl, ?_⟩
      show RunQ _ _ _ (([12] : List Nat).flatMap pf ++ _) (envOf3 _ vf [12] ++ _) _ _
      refine rq_less (sx 43 (congrArg some e12.1) (sub_nil _)) (List.sublist_append_right _ _) ?_
      exact rq_buildSlice (z := .int .i64 0) (s := 1) (cs := ([(n : Int)].map (Value.int .i64))) rfl Try.underlying26 (by kernel_rfl) (by decide) rfl (by kernel_rfl) rfl
     ·
      intro vf pf hmu hR
      have e11 : (vf 11) = (zs.getD ((((so.getD n ir0).xs).getD i 0).toNat) ir0).v ∧ (pf 11) = [] := hR 11 (by decide)
      have e13 : IsRow_o 3 1 1 ([(n : Int)].map (Value.int .i64)) (vf 13) (pf 13) := hR 13 (by decide)
      obtain ⟨g11, v13, p13⟩ := e13
      refine Or.inl ⟨rfl, ?_⟩
      show RunM _ _ _ (pf 17) (([11, 13] : List Nat).flatMap pf ++ _) (envOf3 _ vf [11, 13] ++ _) _ _
      have hmu0 : pf 17 = [rowE 3 1 ((zs.getD ((((so.getD n ir0).xs).getD i 0).toNat) ir0).v) (((zs.getD ((((so.getD n ir0).xs).getD i 0).toNat) ir0).xs).length) (((zs.getD ((((so.getD n ir0).xs).getD i 0).toNat) ir0).xs).map (Value.int .i64))] := hmu 0 (show 0 < 1 by omega)
      rw [hmu0]
      refine rm_less (X' := [rowE 3 1 (.slice (some ⟨g11, 0, none⟩) 1 1) 1 ([(n : Int)].map (Value.int .i64)), bigE ((zs.map irPart).eraseIdx ((((so.getD n ir0).xs).getD i 0).toNat)), irsE v2 so, rowE 26 1 (.slice (some ⟨g5, 0, none⟩) ((List.replicate (allI d).toNat ir0).length) ((List.replicate (allI d).toNat ir0).length)) zs.length (zs.flatMap irC), boxE b6 #[v2, .slice (some ⟨g5, 0, none⟩) ((List.replicate (allI d).toNat ir0).length) ((List.replicate (allI d).toNat ir0).length)] 101, boxE b1 #[.int .i64 d.W, .int .i64 d.H, .int .i64 d.T, .int .i64 d.R] 25]) (sx 42 (congrArg some e11.1) (sx 44 (congrArg some v13) (sub_nil _))) (by first | (simp only [p13, v13, e11.2, List.flatMap_cons, List.flatMap_nil, List.append_nil, List.nil_append, List.cons_append]; exact List.Sublist.refl _) | simp [p13, v13, e11.2]) ?_
      exact rm_append (d := 0) (z := .int .i64 0) (bytes := 8) (n' := (((zs.getD ((((so.getD n ir0).xs).getD i 0).toNat) ir0).xs) ++ ([(n : Int)])).length) (xs' := ((((zs.getD ((((so.getD n ir0).xs).getD i 0).toNat) ir0).xs) ++ ([(n : Int)])).map (Value.int .i64))) rfl Try.underlying26 (by kernel_rfl) (by kernel_rfl) rfl rfl (rd_row 0 rfl) (ints_one _) (by simp only [List.length_cons, List.length_nil]; omega) (len_app ((zs.getD ((((so.getD n ir0).xs).getD i 0).toNat) ir0).xs) ([(n : Int)])) (ints_app ((zs.getD ((((so.getD n ir0).xs).getD i 0).toNat) ir0).xs) ([(n : Int)]))
    ·
     intro vf pf hmu hR
     have e3 : (vf 3) = .slice (some ⟨g5, 0, none⟩) ((List.replicate (allI d).toNat ir0).length) ((List.replicate (allI d).toNat ir0).length) ∧ (pf 3) = [] := hR 3 (by decide)
     have e4 : (vf 4) = .int .i64 (((so.getD n ir0).xs).getD i 0) ∧ (pf 4) = [] := hR 4 (by decide)
     have e13 : IsRow_o 3 1 1 ([(n : Int)].map (Value.int .i64)) (vf 13) (pf 13) := hR 13 (by decide)
     obtain ⟨g11, v13, p13⟩ := e13
     have e14 : (∃ pm_, (pf 14) = [pm_] ∧ (fun u_ p_ => p_ = rowE 3 1 u_ ((((zs.getD ((((so.getD n ir0).xs).getD i 0).toNat) ir0).xs) ++ ([(n : Int)])).length) ((((zs.getD ((((so.getD n ir0).xs).getD i 0).toNat) ir0).xs) ++ ([(n : Int)])).map (Value.int .i64))) (vf 14) pm_) := hR 14 (by decide)
     obtain ⟨p13, p14, hR14⟩ := e14
     obtain ⟨v12, v14⟩ : ∃ x, vf 14 = x := ⟨_, rfl⟩
     rw [v14] at hR14
     subst hR14
     have q0 : (vf 0) = .pointer (some ⟨b6, 0, none⟩) ∧ (pf 0) = [] := hR 0 (by decide)
     have q1 : (vf 1) = .pointer (some ⟨b6, 0, none⟩) ∧ (pf 1) = [] := hR 1 (by decide)
     have q2 : (vf 2) = .pointer (some ⟨b6, 0 + 1, none⟩) ∧ (pf 2) = [] := hR 2 (by decide)
     have q3 : (vf 3) = .slice (some ⟨g5, 0, none⟩) ((List.replicate (allI d).toNat ir0).length) ((List.replicate (allI d).toNat ir0).length) ∧ (pf 3) = [] := hR 3 (by decide)
     have q4 : (vf 4) = .int .i64 (((so.getD n ir0).xs).getD i 0) ∧ (pf 4) = [] := hR 4 (by decide)
     have q5 : (vf 5) = .pointer (some ⟨b6, 0, none⟩) ∧ (pf 5) = [] := hR 5 (by decide)
     have q6 : (vf 6) = .pointer (some ⟨b6, 0, none⟩) ∧ (pf 6) = [] := hR 6 (by decide)
     have q7 : (vf 7) = .pointer (some ⟨b6, 0 + 1, none⟩) ∧ (pf 7) = [] := hR 7 (by decide)
     have q8 : (vf 8) = .slice (some ⟨g5, 0, none⟩) ((List.replicate (allI d).toNat ir0).length) ((List.replicate (allI d).toNat ir0).length) ∧ (pf 8) = [] := hR 8 (by decide)
     have q9 : (vf 9) = .int .i64 (((so.getD n ir0).xs).getD i 0) ∧ (pf 9) = [] := hR 9 (by decide)
     have q10 : (vf 10) = elP (.slice (some ⟨g5, 0, none⟩) ((List.replicate (allI d).toNat ir0).length) ((List.replicate (allI d).toNat ir0).length)) ((((so.getD n ir0).xs).getD i 0).toNat * 1) ∧ (pf 10) = [] := hR 10 (by decide)
     have q11 : (vf 11) = (zs.getD ((((so.getD n ir0).xs).getD i 0).toNat) ir0).v ∧ (pf 11) = [] := hR 11 (by decide)
     have q12 : (vf 12) = .int .i64 (n : Int) ∧ (pf 12) = [] := hR 12 (by decide)
     refine hl_less (l' := [rowE 3 1 (.slice (some ⟨g11, 0, none⟩) 1 1) 1 ([(n : Int)].map (Value.int .i64)), rowE 3 1 v12 ((((zs.getD ((((so.getD n ir0).xs).getD i 0).toNat) ir0).xs) ++ ([(n : Int)])).length) ((((zs.getD ((((so.getD n ir0).xs).getD i 0).toNat) ir0).xs) ++ ([(n : Int)])).map (Value.int .i64)), bigE ((zs.map irPart).eraseIdx ((((so.getD n ir0).xs).getD i 0).toNat)), irsE v2 so, rowE 26 1 (.slice (some ⟨g5, 0, none⟩) ((List.replicate (allI d).toNat ir0).length) ((List.replicate (allI d).toNat ir0).length)) zs.length (zs.flatMap irC), boxE b6 #[v2, .slice (some ⟨g5, 0, none⟩) ((List.replicate (allI d).toNat ir0).length) ((List.replicate (allI d).toNat ir0).length)] 101, boxE b1 #[.int .i64 d.W, .int .i64 d.H, .int .i64 d.T, .int .i64 d.R] 25]) (sx 0 rfl (sx 1 rfl (sx 2 rfl (sx 3 rfl (sx 4 rfl (sx 5 rfl (sx 7 rfl (sx 18 rfl (sx 19 rfl (sx 20 rfl (sx 21 rfl (sx 25 rfl (sx 26 rfl (sx 27 rfl (sx 28 rfl (sx 34 (congrArg some e3.1) (sx 35 (congrArg some e4.1) (sx 45 (congrArg some v14) (sub_nil _))))))))))))))))))) (by first | (simp only [p13, v13, p14, v14, q0.2, q1.2, q2.2, q3.2, q4.2, q5.2, q6.2, q7.2, q8.2, q9.2, q10.2, q11.2, q12.2, List.flatMap_cons, List.flatMap_nil, List.append_nil, List.nil_append, List.cons_append]; exact List.Sublist.refl _) | simp [p13, v13, p14, v14, q0.2, q1.2, q2.2, q3.2, q4.2, q5.2, q6.2, q7.2, q8.2, q9.2, q10.2, q11.2, q12.2]) ?_
     simp only [List.drop_succ_cons, List.drop_zero]
     refine hl_v rfl rfl rfl (rv_index (s := 1) rfl Try.underlying99 (by kernel_rfl) rfl rfl (rd_row 4 rfl) (by omega) (by first | omega | (simp only [List.length_set]; omega))) ?_
     refine hl_one (i := 1) rfl (fun ho15 => ?_)
     refine hl_storeEl (i := 4) (n' := (zs.set ((((so.getD n ir0).xs).getD i 0).toNat) (IR.mk v12 (((zs.getD ((((so.getD n ir0).xs).getD i 0).toNat) ir0).xs) ++ ([(n : Int)])))).length) (xs' := ((zs.set ((((so.getD n ir0).xs).getD i 0).toNat) (IR.mk v12 (((zs.getD ((((so.getD n ir0).xs).getD i 0).toNat) ir0).xs) ++ ([(n : Int)])))).flatMap irC)) (l' := [rowE 3 1 (.slice (some ⟨g11, 0, none⟩) 1 1) 1 ([(n : Int)].map (Value.int .i64)), rowE 3 1 v12 ((((zs.getD ((((so.getD n ir0).xs).getD i 0).toNat) ir0).xs) ++ ([(n : Int)])).length) ((((zs.getD ((((so.getD n ir0).xs).getD i 0).toNat) ir0).xs) ++ ([(n : Int)])).map (Value.int .i64)), bigE ((zs.map irPart).eraseIdx ((((so.getD n ir0).xs).getD i 0).toNat)), irsE v2 so, rowE 26 1 (.slice (some ⟨g5, 0, none⟩) ((List.replicate (allI d).toNat ir0).length) ((List.replicate (allI d).toNat ir0).length)) ((zs.set ((((so.getD n ir0).xs).getD i 0).toNat) (IR.mk v12 (((zs.getD ((((so.getD n ir0).xs).getD i 0).toNat) ir0).xs) ++ ([(n : Int)])))).length) ((zs.set ((((so.getD n ir0).xs).getD i 0).toNat) (IR.mk v12 (((zs.getD ((((so.getD n ir0).xs).getD i 0).toNat) ir0).xs) ++ ([(n : Int)])))).flatMap irC), boxE b6 #[v2, .slice (some ⟨g5, 0, none⟩) ((List.replicate (allI d).toNat ir0).length) ((List.replicate (allI d).toNat ir0).length)] 101, boxE b1 #[.int .i64 d.W, .int .i64 d.H, .int .i64 d.T, .int .i64 d.R] 25]) rfl rfl rfl (by kernel_rfl) rfl rfl ho15 rfl (by first | omega | (simp only [List.length_set]; omega)) List.length_set.symm (flat_set1 irC (fun r => r.v) (fun _ => rfl) _ (IR.mk v12 (((zs.getD ((((so.getD n ir0).xs).getD i 0).toNat) ir0).xs) ++ ([(n : Int)]))) rfl) rfl ?_
     refine hl_conv [rowE 3 1 v12 ((((zs.getD ((((so.getD n ir0).xs).getD i 0).toNat) ir0).xs) ++ ([(n : Int)])).length) ((((zs.getD ((((so.getD n ir0).xs).getD i 0).toNat) ir0).xs) ++ ([(n : Int)])).map (Value.int .i64)), bigE ((zs.map irPart).eraseIdx ((((so.getD n ir0).xs).getD i 0).toNat)), rowE 3 1 (.slice (some ⟨g11, 0, none⟩) 1 1) 1 ([(n : Int)].map (Value.int .i64)), irsE v2 so, rowE 26 1 (.slice (some ⟨g5, 0, none⟩) ((List.replicate (allI d).toNat ir0).length) ((List.replicate (allI d).toNat ir0).length)) ((zs.set ((((so.getD n ir0).xs).getD i 0).toNat) (IR.mk v12 (((zs.getD ((((so.getD n ir0).xs).getD i 0).toNat) ir0).xs) ++ ([(n : Int)])))).length) ((zs.set ((((so.getD n ir0).xs).getD i 0).toNat) (IR.mk v12 (((zs.getD ((((so.getD n ir0).xs).getD i 0).toNat) ir0).xs) ++ ([(n : Int)])))).flatMap irC), boxE b6 #[v2, .slice (some ⟨g5, 0, none⟩) ((List.replicate (allI d).toNat ir0).length) ((List.replicate (allI d).toNat ir0).length)] 101, boxE b1 #[.int .i64 d.W, .int .i64 d.H, .int .i64 d.T, .int .i64 d.R] 25] (conv_pick (src := [rowE 3 1 (.slice (some ⟨g11, 0, none⟩) 1 1) 1 ([(n : Int)].map (Value.int .i64)), rowE 3 1 v12 ((((zs.getD ((((so.getD n ir0).xs).getD i 0).toNat) ir0).xs) ++ ([(n : Int)])).length) ((((zs.getD ((((so.getD n ir0).xs).getD i 0).toNat) ir0).xs) ++ ([(n : Int)])).map (Value.int .i64)), bigE ((zs.map irPart).eraseIdx ((((so.getD n ir0).xs).getD i 0).toNat)), irsE v2 so, rowE 26 1 (.slice (some ⟨g5, 0, none⟩) ((List.replicate (allI d).toNat ir0).length) ((List.replicate (allI d).toNat ir0).length)) ((zs.set ((((so.getD n ir0).xs).getD i 0).toNat) (IR.mk v12 (((zs.getD ((((so.getD n ir0).xs).getD i 0).toNat) ir0).xs) ++ ([(n : Int)])))).length) ((zs.set ((((so.getD n ir0).xs).getD i 0).toNat) (IR.mk v12 (((zs.getD ((((so.getD n ir0).xs).getD i 0).toNat) ir0).xs) ++ ([(n : Int)])))).flatMap irC), boxE b6 #[v2, .slice (some ⟨g5, 0, none⟩) ((List.replicate (allI d).toNat ir0).length) ((List.replicate (allI d).toNat ir0).length)] 101, boxE b1 #[.int .i64 d.W, .int .i64 d.H, .int .i64 d.T, .int .i64 d.R] 25]) (dst := [rowE 3 1 v12 ((((zs.getD ((((so.getD n ir0).xs).getD i 0).toNat) ir0).xs) ++ ([(n : Int)])).length) ((((zs.getD ((((so.getD n ir0).xs).getD i 0).toNat) ir0).xs) ++ ([(n : Int)])).map (Value.int .i64)), bigE ((zs.map irPart).eraseIdx ((((so.getD n ir0).xs).getD i 0).toNat)), rowE 3 1 (.slice (some ⟨g11, 0, none⟩) 1 1) 1 ([(n : Int)].map (Value.int .i64)), irsE v2 so, rowE 26 1 (.slice (some ⟨g5, 0, none⟩) ((List.replicate (allI d).toNat ir0).length) ((List.replicate (allI d).toNat ir0).length)) ((zs.set ((((so.getD n ir0).xs).getD i 0).toNat) (IR.mk v12 (((zs.getD ((((so.getD n ir0).xs).getD i 0).toNat) ir0).xs) ++ ([(n : Int)])))).length) ((zs.set ((((so.getD n ir0).xs).getD i 0).toNat) (IR.mk v12 (((zs.getD ((((so.getD n ir0).xs).getD i 0).toNat) ir0).xs) ++ ([(n : Int)])))).flatMap irC), boxE b6 #[v2, .slice (some ⟨g5, 0, none⟩) ((List.replicate (allI d).toNat ir0).length) ((List.replicate (allI d).toNat ir0).length)] 101, boxE b1 #[.int .i64 d.W, .int .i64 d.H, .int .i64 d.T, .int .i64 d.R] 25]) (l := []) [1, 2, 0, 3, 4, 5, 6] (by decide) rfl) ?_
     refine hl_conv [bigE ((zs.set ((((so.getD n ir0).xs).getD i 0).toNat) (IR.mk v12 (((zs.getD ((((so.getD n ir0).xs).getD i 0).toNat) ir0).xs) ++ ([(n : Int)])))).map irPart), rowE 3 1 (.slice (some ⟨g11, 0, none⟩) 1 1) 1 ([(n : Int)].map (Value.int .i64)), irsE v2 so, rowE 26 1 (.slice (some ⟨g5, 0, none⟩) ((List.replicate (allI d).toNat ir0).length) ((List.replicate (allI d).toNat ir0).length)) ((zs.set ((((so.getD n ir0).xs).getD i 0).toNat) (IR.mk v12 (((zs.getD ((((so.getD n ir0).xs).getD i 0).toNat) ir0).xs) ++ ([(n : Int)])))).length) ((zs.set ((((so.getD n ir0).xs).getD i 0).toNat) (IR.mk v12 (((zs.getD ((((so.getD n ir0).xs).getD i 0).toNat) ir0).xs) ++ ([(n : Int)])))).flatMap irC), boxE b6 #[v2, .slice (some ⟨g5, 0, none⟩) ((List.replicate (allI d).toNat ir0).length) ((List.replicate (allI d).toNat ir0).length)] 101, boxE b1 #[.int .i64 d.W, .int .i64 d.H, .int .i64 d.T, .int .i64 d.R] 25] (conv_irUnfocus (es := zs) (j := (((so.getD n ir0).xs).getD i 0).toNat) (e' := (IR.mk v12 (((zs.getD ((((so.getD n ir0).xs).getD i 0).toNat) ir0).xs) ++ ([(n : Int)])))) (by first | omega | (simp only [List.length_set]; omega))) ?_
     refine hl_less (sx 0 rfl (sx 1 rfl (sx 2 rfl (sx 3 rfl (sx 4 rfl (sx 5 rfl (sx 7 rfl (sx 18 rfl (sx 19 rfl (sx 20 rfl (sx 21 rfl (sx 25 rfl (sx 26 rfl (sx 27 rfl (sx 28 rfl (sub_nil _)))))))))))))))) (.refl _) ?_
     refine hl_nil ?_
     refine hq_block_normal ?_
     refine hq_then ?_
     refine hc_region ?_
     refine hl_v rfl rfl rfl (rv_add rfl rfl rfl (by constructor <;> omega)) ?_
     refine hl_v rfl rfl rfl (rv_ev rfl) ?_
     refine hl_less (sx 0 rfl (sx 1 rfl (sx 2 rfl (sx 3 rfl (sx 4 rfl (sx 5 rfl (sx 7 rfl (sx 18 rfl (sx 19 rfl (sx 20 rfl (sx 21 rfl (sx 25 rfl (sx 26 rfl (sx 27 rfl (sx 28 rfl (sub_nil _)))))))))))))))) (.refl _) ?_
     refine hl_nil ?_
     exact hq_round2 (i + 1) (zs.set ((((so.getD n ir0).xs).getD i 0).toNat) (IR.mk v12 (((zs.getD ((((so.getD n ir0).xs).getD i 0).toNat) ir0).xs) ++ ([(n : Int)])))) ⟨by omega, hz.step (by rw [← hsn]; omega) (by rw [← hsn]) hx0 hx1⟩ (by omega) (sx 0 rfl (sx 1 rfl (sx 2 rfl (sx 3 rfl (sx 4 rfl (sx 5 rfl (sx 18 rfl (sx 19 rfl (sx 20 rfl (sx 21 rfl (sx 25 rfl (sx 26 rfl (sx 27 rfl (sub_nil _)))))))))))))) ((.cons_cons _ (.cons _ (.cons_cons _ (.cons_cons _ (.cons_cons _ (.cons_cons _ .slnil)))))))
   ·
    refine hl_less (sx 0 rfl (sx 1 rfl (sx 2 rfl (sx 3 rfl (sx 4 rfl (sx 5 rfl (sx 18 rfl (sx 19 rfl (sx 20 rfl (sx 21 rfl (sx 25 rfl (sx 26 rfl (sx 27 rfl (sx 28 rfl (sub_nil _))))))))))))))) (.refl _) ?_
    refine hl_nil ?_
    refine hq_then ?_
    refine hc_seq ?_
    refine hc_false rfl ?_
    refine hc_exit ?_
    refine hq_then_exit ?_
    refine hq_then_exit ?_
    refine hq_block_exit ?_
    refine hq_block_normal ?_
    refine hq_then ?_
    refine hc_region ?_
    refine hl_v rfl rfl rfl (rv_add rfl rfl rfl (by constructor <;> omega)) ?_
    refine hl_v rfl rfl rfl (rv_ev rfl) ?_
    refine hl_less (sx 0 rfl (sx 1 rfl (sx 2 rfl (sx 3 rfl (sx 4 rfl (sx 5 rfl (sx 18 rfl (sx 19 rfl (sx 20 rfl (sx 21 rfl (sx 25 rfl (sx 26 rfl (sx 27 rfl (sx 28 rfl (sub_nil _))))))))))))))) (.refl _) ?_
    refine hl_nil ?_
    exact hq_round2 (n + 1) zs ⟨by omega, hz.next (by rw [← hsn]; omega)⟩ (by omega) (sx 0 rfl (sx 1 rfl (sx 2 rfl (sx 3 rfl (sx 18 rfl (sx 19 rfl (sx 20 rfl (sub_nil _)))))))) ((.cons_cons _ (.cons_cons _ (.cons_cons _ (.cons_cons _ (.cons_cons _ .slnil))))))
  ·
   refine hl_less (sx 0 rfl (sx 1 rfl (sx 2 rfl (sx 3 rfl (sx 18 rfl (sx 19 rfl (sx 20 rfl (sx 21 rfl (sub_nil _))))))))) (.refl _) ?_
   refine hl_nil ?_
   refine hq_then ?_
   refine hc_seq ?_
   refine hc_false rfl ?_
   refine hc_exit ?_
   refine hq_then_exit ?_
   refine hq_then_exit ?_
   refine hq_block_exit ?_
   refine hq_then ?_
   refine hc_seq ?_
   refine hc_region ?_
   refine hl_v rfl rfl rfl (rv_ev rfl) ?_
   refine hl_v rfl rfl rfl (rv_ev rfl) ?_
   refine hl_less (sx 0 rfl (sx 1 rfl (sx 2 rfl (sx 3 rfl (sx 18 rfl (sx 19 rfl (sx 20 rfl (sx 21 rfl (sub_nil _))))))))) (.refl _) ?_
   refine hl_nil ?_
   refine hq_then ?_
   refine hc_ret ?_
   have hnN : n = (allI d).toNat := by omega
   subst hnN
   refine hq_conv [bigE (ks.map irPart), rowE 26 1 (.slice (some ⟨g5, 0, none⟩) ((List.replicate (allI d).toNat ir0).length) ((List.replicate (allI d).toNat ir0).length)) ks.length (ks.flatMap irC), irsE v2 so, boxE b6 #[v2, .slice (some ⟨g5, 0, none⟩) ((List.replicate (allI d).toNat ir0).length) ((List.replicate (allI d).toNat ir0).length)] 101] (conv_pick (src := [bigE (ks.map irPart), irsE v2 so, rowE 26 1 (.slice (some ⟨g5, 0, none⟩) ((List.replicate (allI d).toNat ir0).length) ((List.replicate (allI d).toNat ir0).length)) ks.length (ks.flatMap irC), boxE b6 #[v2, .slice (some ⟨g5, 0, none⟩) ((List.replicate (allI d).toNat ir0).length) ((List.replicate (allI d).toNat ir0).length)] 101, boxE b1 #[.int .i64 d.W, .int .i64 d.H, .int .i64 d.T, .int .i64 d.R] 25]) (dst := [bigE (ks.map irPart), rowE 26 1 (.slice (some ⟨g5, 0, none⟩) ((List.replicate (allI d).toNat ir0).length) ((List.replicate (allI d).toNat ir0).length)) ks.length (ks.flatMap irC), irsE v2 so, boxE b6 #[v2, .slice (some ⟨g5, 0, none⟩) ((List.replicate (allI d).toNat ir0).length) ((List.replicate (allI d).toNat ir0).length)] 101]) (l := []) [0, 2, 1, 3] (by decide) rfl) ?_
   refine hq_conv [grE b6 (Gr.mk v2 (.slice (some ⟨g5, 0, none⟩) ((List.replicate (allI d).toNat ir0).length) ((List.replicate (allI d).toNat ir0).length)) so ks)] (fun w hm => by
     have h1 : Mem _ ([bigE (ks.map irPart), rowE 26 1 (.slice (some ⟨g5, 0, none⟩) ((List.replicate (allI d).toNat ir0).length) ((List.replicate (allI d).toNat ir0).length)) ks.length (ks.flatMap irC)] ++ (irsE v2 so :: boxE b6 #[v2, .slice (some ⟨g5, 0, none⟩) ((List.replicate (allI d).toNat ir0).length) ((List.replicate (allI d).toNat ir0).length)] 101 :: [])) w := hm
     have h2 : Mem _ (irsE (.slice (some ⟨g5, 0, none⟩) ((List.replicate (allI d).toNat ir0).length) ((List.replicate (allI d).toNat ir0).length)) ks :: irsE v2 so :: boxE b6 #[v2, .slice (some ⟨g5, 0, none⟩) ((List.replicate (allI d).toNat ir0).length) ((List.replicate (allI d).toNat ir0).length)] 101 :: []) w := h1.big
     have h3 : Mem _ ([boxE b6 #[v2, .slice (some ⟨g5, 0, none⟩) ((List.replicate (allI d).toNat ir0).length) ((List.replicate (allI d).toNat ir0).length)] 101, irsE v2 so, irsE (.slice (some ⟨g5, 0, none⟩) ((List.replicate (allI d).toNat ir0).length) ((List.replicate (allI d).toNat ir0).length)) ks] ++ []) w := h2.perm (List.reverse_perm [boxE b6 #[v2, .slice (some ⟨g5, 0, none⟩) ((List.replicate (allI d).toNat ir0).length) ((List.replicate (allI d).toNat ir0).length)] 101, irsE v2 so, irsE (.slice (some ⟨g5, 0, none⟩) ((List.replicate (allI d).toNat ir0).length) ((List.replicate (allI d).toNat ir0).length)) ks])
     exact h3.big) ?_
   exact hq_retR (post := [grE b6 (Gr.mk v2 (.slice (some ⟨g5, 0, none⟩) ((List.replicate (allI d).toNat ir0).length) ((List.replicate (allI d).toNat ir0).length)) so ks)]) rfl rfl ((.cons_cons _ .slnil)) ⟨b6, (Gr.mk v2 (.slice (some ⟨g5, 0, none⟩) ((List.replicate (allI d).toNat ir0).length) ((List.replicate (allI d).toNat ir0).length)) so ks), rfl, rfl, ⟨hso, hk⟩⟩
set_option maxHeartbeats 4000000 in
set_option maxRecDepth 100000 in
theorem distances_ret (b : Nat) (g : Gr) (cs st : List Int) (cv sv : Value) (SS : Int → List Int) (w : World) (hg : RdsGr w b g) (hkl : g.ks.length = cs.length) (hkz : ∀ x : Nat, x < cs.length → (g.ks.getD x ir0).xs.length ≤ 100000) (hN : GrS cs.length SS (kOf g.ks) cs) (hcv : RdsW w cv 1 cs.length (cs.map (Value.int .i64))) (hsv : RdsW w sv 1 st.length (st.map (Value.int .i64))) (hsl : st.length ≤ 1000000) (hst : ∀ s ∈ st, 0 ≤ s ∧ s < cs.length) :
  Calls Try.prog 54 #[.pointer (some ⟨b, 0, none⟩), cv, sv] w (Ret w (fun v' post => ∃ D : List Int, post = [rowE 3 1 v' D.length (D.map (Value.int .i64))] ∧ DistOk cs.length SS cs st D)) := by
 have hrl : (List.replicate cs.length (0 : Int)).length = cs.length := List.length_replicate
 have hN1 := hN.n1
 refine calls_hc (N := 107) (args := [.pointer (some ⟨b, 0, none⟩), cv, sv]) Try.func54 rfl rfl ?_
 refine hc_less _ (sx 0 rfl (sx 1 rfl (sx 2 rfl (sub_nil _)))) (.refl _) ?_
 refine hc_seq ?_
 refine hc_region ?_
 refine hl_v rfl rfl rfl (rv_ev rfl) ?_
 refine hl_less (sx 0 rfl (sx 1 rfl (sx 2 rfl (sx 6 rfl (sub_nil _))))) (.refl _) ?_
 refine hl_nil ?_
 refine hq_then ?_
 refine hc_seq ?_
 refine hc_region ?_
 refine hl_v rfl rfl rfl (rv_ev rfl) ?_
 refine hl_v rfl rfl rfl (rv_len rfl Try.underlying26 rfl (rd_old hcv)) ?_
 refine hl_row rfl rfl rfl (rq_make (z := .int .i64 0) (s := 1) (bytes := 8) (n := (List.replicate cs.length (0 : Int)).length) (cs := ((List.replicate cs.length (0 : Int)).map (Value.int .i64))) rfl Try.underlying26 (by kernel_rfl) (by decide) rfl rfl (by first | (rw [List.length_replicate]; done) | (rw [List.length_replicate]; omega)) (by first | (rw [List.length_replicate]; done) | (rw [List.length_replicate]; omega)) (by rw [List.length_replicate]; omega) (ints_make _)) ?_
 intro g1
 refine hl_v rfl rfl rfl (rv_ev rfl) ?_
 refine hl_less (sx 0 rfl (sx 1 rfl (sx 2 rfl (sx 6 rfl (sx 7 rfl (sub_nil _)))))) (.refl _) ?_
 refine hl_nil ?_
 refine hq_then ?_
 refine hc_seq ?_
 refine hc_seq ?_
 refine hc_region ?_
 refine hl_v rfl rfl rfl (rv_ev rfl) ?_
 refine hl_v rfl rfl rfl (rv_len rfl Try.underlying26 rfl (rd_row 0 rfl)) ?_
 refine hl_v rfl rfl rfl (rv_ev rfl) ?_
 refine hl_less (sx 0 rfl (sx 1 rfl (sx 2 rfl (sx 6 rfl (sx 7 rfl (sx 20 rfl (sx 21 rfl (sub_nil _)))))))) (.refl _) ?_
 refine hl_nil ?_
 refine hq_then ?_
 refine hc_block ?_
 refine hc_loop2 (α := Nat) (β := List Int) (fun k zs => [rowE 3 1 (.slice (some ⟨g1, 0, none⟩) ((List.replicate cs.length (0 : Int)).length) ((List.replicate cs.length (0 : Int)).length)) zs.length (zs.map (Value.int .i64))]) (fun k zs => [(0, .pointer (some ⟨b, 0, none⟩)), (1, cv), (2, sv), (6, .slice none 0 0), (7, .slice (some ⟨g1, 0, none⟩) ((List.replicate cs.length (0 : Int)).length) ((List.replicate cs.length (0 : Int)).length)), (20, .int .i64 ((List.replicate cs.length (0 : Int)).length : Int)), (21, .int .i64 (k : Int))]) (fun k zs => k ≤ cs.length ∧ zs = List.replicate k (-1) ++ List.replicate (cs.length - k) 0) (fun k zs => cs.length - k) 0 (List.replicate cs.length 0) ⟨by omega, by simp⟩ (sx 0 rfl (sx 1 rfl (sx 2 rfl (sx 6 rfl (sx 7 rfl (sx 20 rfl (sx 21 rfl (sub_nil _)))))))) ((.cons_cons _ .slnil)) ?_
 intro k zs hi2
 obtain ⟨hk, hz⟩ := hi2
 have hzl : zs.length = cs.length := by rw [hz, fillM_len hk]
 refine hc_seq ?_
 refine hc_region ?_
 refine hl_lss rfl rfl rfl rfl rfl rfl (fun h3 => ?_) (fun h3 => ?_)
 ·
  refine hl_less (sx 0 rfl (sx 1 rfl (sx 2 rfl (sx 6 rfl (sx 7 rfl (sx 20 rfl (sx 21 rfl (sx 22 rfl (sub_nil _))))))))) (.refl _) ?_
  refine hl_nil ?_
  refine hq_then ?_
  refine hc_seq ?_
  refine hc_true rfl ?_
  refine hc_skip ?_
  refine hq_then ?_
  refine hc_seq ?_
  refine hc_block ?_
  refine hc_seq ?_
  refine hc_region ?_
  refine hl_v rfl rfl rfl (rv_ev rfl) ?_
  refine hl_v rfl rfl rfl (rv_ev rfl) ?_
  refine hl_less (sx 0 rfl (sx 1 rfl (sx 2 rfl (sx 6 rfl (sx 7 rfl (sx 8 rfl (sx 20 rfl (sx 21 rfl (sx 22 rfl (sub_nil _)))))))))) (.refl _) ?_
  refine hl_nil ?_
  refine hq_then ?_
  refine hc_region ?_
  refine hl_v rfl rfl rfl (rv_ev rfl) ?_
  refine hl_v rfl rfl rfl (rv_ev rfl) ?_
  refine hl_v rfl rfl rfl (rv_index (s := 1) rfl Try.underlying26 (by kernel_rfl) rfl rfl (rd_row 0 rfl) (by omega) (by first | omega | (simp only [List.length_set]; omega))) ?_
  refine hl_storeEl (i := 0) (n' := (zs.set k (-1)).length) (xs' := ((zs.set k (-1)).map (Value.int .i64))) (l' := [rowE 3 1 (.slice (some ⟨g1, 0, none⟩) ((List.replicate cs.length (0 : Int)).length) ((List.replicate cs.length (0 : Int)).length)) ((zs.set k (-1)).length) ((zs.set k (-1)).map (Value.int .i64))]) rfl rfl rfl (by kernel_rfl) rfl rfl rfl rfl (by first | omega | (simp only [List.length_set]; omega)) List.length_set.symm (ints_set _ _ _) rfl ?_
  refine hl_less (sx 0 rfl (sx 1 rfl (sx 2 rfl (sx 6 rfl (sx 7 rfl (sx 8 rfl (sx 20 rfl (sx 21 rfl (sx 22 rfl (sub_nil _)))))))))) (.refl _) ?_
  refine hl_nil ?_
  refine hq_block_normal ?_
  refine hq_then ?_
  refine hc_region ?_
  refine hl_v rfl rfl rfl (rv_add rfl rfl rfl (by constructor <;> omega)) ?_
  refine hl_v rfl rfl rfl (rv_ev rfl) ?_
  refine hl_less (sx 0 rfl (sx 1 rfl (sx 2 rfl (sx 6 rfl (sx 7 rfl (sx 8 rfl (sx 20 rfl (sx 21 rfl (sx 22 rfl (sub_nil _)))))))))) (.refl _) ?_
  refine hl_nil ?_
  exact hq_round2 (k + 1) (zs.set k (-1)) ⟨by omega, by rw [hz]; exact fillM_set (by omega)⟩ (by omega) (sx 0 rfl (sx 1 rfl (sx 2 rfl (sx 6 rfl (sx 7 rfl (sx 20 rfl (sx 21 rfl (sub_nil _)))))))) ((.cons_cons _ .slnil))
 ·
  refine hl_less (sx 0 rfl (sx 1 rfl (sx 2 rfl (sx 6 rfl (sx 7 rfl (sx 20 rfl (sx 21 rfl (sx 22 rfl (sub_nil _))))))))) (.refl _) ?_
  refine hl_nil ?_
  refine hq_then ?_
  refine hc_seq ?_
  refine hc_false rfl ?_
  refine hc_exit ?_
  refine hq_then_exit ?_
  refine hq_then_exit ?_
  refine hq_block_exit ?_
  refine hq_then ?_
  refine hc_seq ?_
  refine hc_region ?_
  refine hl_nilRow 96 2 ?_
  refine hl_eqL (l' := [rowE 96 2 (.slice none 0 0) (([] : List Qu).length) (([] : List Qu).flatMap quC), rowE 3 1 (.slice (some ⟨g1, 0, none⟩) ((List.replicate cs.length (0 : Int)).length) ((List.replicate cs.length (0 : Int)).length)) zs.length (zs.map (Value.int .i64))]) rfl ?_
  refine hl_v rfl rfl rfl (rv_ev rfl) ?_
  refine hl_less (sx 0 rfl (sx 1 rfl (sx 2 rfl (sx 6 rfl (sx 7 rfl (sx 9 rfl (sx 20 rfl (sx 21 rfl (sx 22 rfl (sub_nil _)))))))))) (.refl _) ?_
  refine hl_nil ?_
  refine hq_then ?_
  refine hc_seq ?_
  refine hc_seq ?_
  refine hc_region ?_
  refine hl_v rfl rfl rfl (rv_ev rfl) ?_
  refine hl_v rfl rfl rfl (rv_len rfl Try.underlying26 rfl (rd_old hsv)) ?_
  refine hl_v rfl rfl rfl (rv_ev rfl) ?_
  refine hl_less (sx 0 rfl (sx 1 rfl (sx 2 rfl (sx 6 rfl (sx 7 rfl (sx 9 rfl (sx 20 rfl (sx 21 rfl (sx 22 rfl (sx 28 rfl (sx 29 rfl (sx 30 rfl (sub_nil _))))))))))))) (.refl _) ?_
  refine hl_nil ?_
  refine hq_then ?_
  refine hc_block ?_
  refine hc_loop4 (α := Nat) (β := Value) (γ := List Qu) (δ := List Int) (fun i u td os => [rowE 96 2 u td.length (td.flatMap quC), rowE 3 1 (.slice (some ⟨g1, 0, none⟩) ((List.replicate cs.length (0 : Int)).length) ((List.replicate cs.length (0 : Int)).length)) os.length (os.map (Value.int .i64))]) (fun i u td os => [(0, .pointer (some ⟨b, 0, none⟩)), (1, cv), (2, sv), (6, .slice none 0 0), (7, .slice (some ⟨g1, 0, none⟩) ((List.replicate cs.length (0 : Int)).length) ((List.replicate cs.length (0 : Int)).length)), (9, u), (22, .bool false), (28, sv), (29, .int .i64 (st.length : Int)), (30, .int .i64 (i : Int))]) (fun i u td os => i ≤ st.length ∧ DS cs.length cs st (st.take i) os td) (fun i u td os => st.length - i) 0 _ [] zs ⟨by omega, by rw [hz, show k = cs.length by omega, fillM_end]; exact ds_start _ _ _⟩ (sx 0 rfl (sx 1 rfl (sx 2 rfl (sx 6 rfl (sx 7 rfl (sx 9 rfl (sx 22 rfl (sx 28 rfl (sx 29 rfl (sx 30 rfl (sub_nil _))))))))))) ((.cons_cons _ (.cons_cons _ .slnil))) ?_
  intro i u td os hi5
  obtain ⟨hi, hds⟩ := hi5
  have hol := hds.len
  have hmea := hds.mea
  have hqb := hN.bnd
  refine hc_seq ?_
  refine hc_region ?_
  refine hl_lss rfl rfl rfl rfl rfl rfl (fun h6 => ?_) (fun h6 => ?_)
  ·
   refine hl_less (sx 0 rfl (sx 1 rfl (sx 2 rfl (sx 6 rfl (sx 7 rfl (sx 9 rfl (sx 22 rfl (sx 28 rfl (sx 29 rfl (sx 30 rfl (sx 31 rfl (sub_nil _)))))))))))) (.refl _) ?_
   refine hl_nil ?_
   refine hq_then ?_
   refine hc_seq ?_
   refine hc_true rfl ?_
   refine hc_skip ?_
   refine hq_then ?_
   refine hc_seq ?_
   refine hc_block ?_
   refine hc_seq ?_
   refine hc_region ?_
   refine hl_v rfl rfl rfl (rv_index (s := 1) rfl Try.underlying26 (by kernel_rfl) rfl rfl (rd_old hsv) (by omega) (by first | omega | (simp only [List.length_set]; omega))) ?_
   refine hl_v rfl rfl rfl (rv_loadEl (u := .int .i64 (st.getD i 0)) rfl (by kernel_rfl) rfl (rd_old hsv) (ints_at1 (show _ < st.length by first | omega | (simp only [List.length_set]; omega)))) ?_
   refine hl_v rfl rfl rfl (rv_ev rfl) ?_
   refine hl_less (sx 0 rfl (sx 1 rfl (sx 2 rfl (sx 6 rfl (sx 7 rfl (sx 9 rfl (sx 11 rfl (sx 22 rfl (sx 28 rfl (sx 29 rfl (sx 30 rfl (sx 31 rfl (sub_nil _))))))))))))) (.refl _) ?_
   refine hl_nil ?_
   refine hq_then ?_
   refine hc_seq ?_
   refine hc_region ?_
   have hsr := hst (st.getD i 0) (getD_memZ (by omega))
   refine hl_v rfl rfl rfl (rv_ev rfl) ?_
   refine hl_v rfl rfl rfl (rv_ev rfl) ?_
   refine hl_v rfl rfl rfl (rv_index (s := 1) rfl Try.underlying26 (by kernel_rfl) rfl rfl (rd_row 1 rfl) (by omega) (by first | omega | (simp only [List.length_set]; omega))) ?_
   refine hl_v rfl rfl rfl (rv_loadEl (u := .int .i64 (os.getD ((st.getD i 0).toNat) 0)) rfl (by kernel_rfl) rfl (rd_row 1 rfl) (ints_at1 (show _ < os.length by first | omega | (simp only [List.length_set]; omega)))) ?_
   refine hl_neq rfl rfl rfl rfl rfl rfl (fun h7 => ?_) (fun h7 => ?_)
   ·
    refine hl_less (sx 0 rfl (sx 1 rfl (sx 2 rfl (sx 6 rfl (sx 7 rfl (sx 9 rfl (sx 11 rfl (sx 22 rfl (sx 28 rfl (sx 29 rfl (sx 30 rfl (sx 31 rfl (sx 38 rfl (sub_nil _)))))))))))))) (.refl _) ?_
    refine hl_nil ?_
    refine hq_then ?_
    refine hc_true rfl ?_
    refine hc_seq ?_
    refine hc_region ?_
    refine hl_v rfl rfl rfl (rv_ev rfl) ?_
    refine hl_v rfl rfl rfl (rv_ev rfl) ?_
    refine hl_v rfl rfl rfl (rv_index (s := 1) rfl Try.underlying26 (by kernel_rfl) rfl rfl (rd_row 1 rfl) (by omega) (by first | omega | (simp only [List.length_set]; omega))) ?_
    refine hl_storeEl (i := 1) (n' := (os.set ((st.getD i 0).toNat) 0).length) (xs' := ((os.set ((st.getD i 0).toNat) 0).map (Value.int .i64))) (l' := [rowE 96 2 u td.length (td.flatMap quC), rowE 3 1 (.slice (some ⟨g1, 0, none⟩) ((List.replicate cs.length (0 : Int)).length) ((List.replicate cs.length (0 : Int)).length)) ((os.set ((st.getD i 0).toNat) 0).length) ((os.set ((st.getD i 0).toNat) 0).map (Value.int .i64))]) rfl rfl rfl (by kernel_rfl) rfl rfl rfl rfl (by first | omega | (simp only [List.length_set]; omega)) List.length_set.symm (ints_set _ _ _) rfl ?_
    refine hl_less (sx 0 rfl (sx 1 rfl (sx 2 rfl (sx 6 rfl (sx 7 rfl (sx 9 rfl (sx 11 rfl (sx 22 rfl (sx 28 rfl (sx 29 rfl (sx 30 rfl (sx 31 rfl (sx 38 rfl (sub_nil _)))))))))))))) (.refl _) ?_
    refine hl_nil ?_
    refine hq_then ?_
    refine hc_region ?_
    refine hl_v rfl rfl rfl (rv_ev rfl) ?_
    refine hl_v rfl rfl rfl (rv_ev rfl) ?_
    refine hl_v rfl rfl rfl (rv_build (cs := #[.int .i64 0, .int .i64 (st.getD i 0)]) rfl rfl (by kernel_rfl)) ?_
    refine hl_callM (R := (fun v_ p_ => ∃ es' : List Qu, p_ = rowE 96 2 v_ (es').length ((es').flatMap quC) ∧ es'.Perm (td ++ [(Qu.mk 0 (st.getD i 0))]))) 0 rfl rfl (by kernel_rfl) rfl rfl (fun l' w hm => pushQueue_mut td _ (Qu.mk 0 (st.getD i 0)) _ _ _ hm (by omega)) ?_
    intro v8 p9 hR10
    obtain ⟨qshR10, rfl, hpp⟩ := hR10
    refine hl_eqL (l' := [rowE 96 2 v8 qshR10.length (qshR10.flatMap quC), rowE 3 1 (.slice (some ⟨g1, 0, none⟩) ((List.replicate cs.length (0 : Int)).length) ((List.replicate cs.length (0 : Int)).length)) ((os.set ((st.getD i 0).toNat) 0).length) ((os.set ((st.getD i 0).toNat) 0).map (Value.int .i64))]) rfl ?_
    refine hl_v rfl rfl rfl (rv_ev rfl) ?_
    refine hl_less (sx 0 rfl (sx 1 rfl (sx 2 rfl (sx 6 rfl (sx 7 rfl (sx 9 rfl (sx 11 rfl (sx 22 rfl (sx 28 rfl (sx 29 rfl (sx 30 rfl (sx 31 rfl (sx 38 rfl (sub_nil _)))))))))))))) (.refl _) ?_
    refine hl_nil ?_
    refine hq_block_normal ?_
    refine hq_then ?_
    refine hc_region ?_
    refine hl_v rfl rfl rfl (rv_add rfl rfl rfl (by constructor <;> omega)) ?_
    refine hl_v rfl rfl rfl (rv_ev rfl) ?_
    refine hl_less (sx 0 rfl (sx 1 rfl (sx 2 rfl (sx 6 rfl (sx 7 rfl (sx 9 rfl (sx 11 rfl (sx 22 rfl (sx 28 rfl (sx 29 rfl (sx 30 rfl (sx 31 rfl (sx 38 rfl (sub_nil _)))))))))))))) (.refl _) ?_
    refine hl_nil ?_
    exact hq_round4 (i + 1) v8 qshR10 (os.set ((st.getD i 0).toNat) 0) ⟨by omega, by rw [take_snocZ (by omega)]; exact hds.more hsr.1 hsr.2 (getD_memZ (by omega)) (by unfold gI; omega) hpp.symm⟩ (by omega) (sx 0 rfl (sx 1 rfl (sx 2 rfl (sx 6 rfl (sx 7 rfl (sx 9 rfl (sx 22 rfl (sx 28 rfl (sx 29 rfl (sx 30 rfl (sub_nil _))))))))))) ((.cons_cons _ (.cons_cons _ .slnil)))
   ·
    refine hl_less (sx 0 rfl (sx 1 rfl (sx 2 rfl (sx 6 rfl (sx 7 rfl (sx 9 rfl (sx 11 rfl (sx 22 rfl (sx 28 rfl (sx 29 rfl (sx 30 rfl (sx 31 rfl (sx 38 rfl (sub_nil _)))))))))))))) (.refl _) ?_
    refine hl_nil ?_
    refine hq_then ?_
    refine hc_false rfl ?_
    refine hc_skip ?_
    refine hq_block_normal ?_
    refine hq_then ?_
    refine hc_region ?_
    refine hl_v rfl rfl rfl (rv_add rfl rfl rfl (by constructor <;> omega)) ?_
    refine hl_v rfl rfl rfl (rv_ev rfl) ?_
    refine hl_less (sx 0 rfl (sx 1 rfl (sx 2 rfl (sx 6 rfl (sx 7 rfl (sx 9 rfl (sx 11 rfl (sx 22 rfl (sx 28 rfl (sx 29 rfl (sx 30 rfl (sx 31 rfl (sx 38 rfl (sub_nil _)))))))))))))) (.refl _) ?_
    refine hl_nil ?_
    exact hq_round4 (i + 1) u td os ⟨by omega, by rw [take_snocZ (by omega)]; exact hds.again (by assumption)⟩ (by omega) (sx 0 rfl (sx 1 rfl (sx 2 rfl (sx 6 rfl (sx 7 rfl (sx 9 rfl (sx 22 rfl (sx 28 rfl (sx 29 rfl (sx 30 rfl (sub_nil _))))))))))) ((.cons_cons _ (.cons_cons _ .slnil)))
  ·
   refine hl_less (sx 0 rfl (sx 1 rfl (sx 2 rfl (sx 6 rfl (sx 7 rfl (sx 9 rfl (sx 22 rfl (sx 28 rfl (sx 29 rfl (sx 30 rfl (sx 31 rfl (sub_nil _)))))))))))) (.refl _) ?_
   refine hl_nil ?_
   refine hq_then ?_
   refine hc_seq ?_
   refine hc_false rfl ?_
   refine hc_exit ?_
   refine hq_then_exit ?_
   refine hq_then_exit ?_
   refine hq_block_exit ?_
   refine hq_then ?_
   refine hc_seq ?_
   refine hc_block ?_
   refine hc_loop4 (α := Nat) (β := Value) (γ := List Qu) (δ := List Int) (fun M u td os => [rowE 96 2 u td.length (td.flatMap quC), rowE 3 1 (.slice (some ⟨g1, 0, none⟩) ((List.replicate cs.length (0 : Int)).length) ((List.replicate cs.length (0 : Int)).length)) os.length (os.map (Value.int .i64))]) (fun M u td os => [(0, .pointer (some ⟨b, 0, none⟩)), (1, cv), (2, sv), (6, .slice none 0 0), (7, .slice (some ⟨g1, 0, none⟩) ((List.replicate cs.length (0 : Int)).length) ((List.replicate cs.length (0 : Int)).length)), (9, u), (22, .bool false), (31, .bool false)]) (fun M u td os => M ≤ cs.length * (100000 * cs.length + 1) ∧ DI cs.length SS cs st st (kOf g.ks) os td M) (fun M u td os => M) (cs.length * (100000 * cs.length + 1)) u td os ⟨Nat.le_refl _, by have h9 := hds; rw [show i = st.length by omega, List.take_length] at h9; exact h9.di⟩ (sx 0 rfl (sx 1 rfl (sx 2 rfl (sx 6 rfl (sx 7 rfl (sx 9 rfl (sx 22 rfl (sx 31 rfl (sub_nil _))))))))) ((.cons_cons _ (.cons_cons _ .slnil))) ?_
   intro M u td os hi11
   obtain ⟨hM, hdi⟩ := hi11
   have hol := hdi.len
   have hmea := hdi.mea
   have hqb := hN.bnd
   refine hc_seq ?_
   refine hc_seq ?_
   refine hc_region ?_
   refine hl_v rfl rfl rfl (rv_ev rfl) ?_
   refine hl_v rfl rfl rfl (rv_len rfl Try.underlying93 rfl (rd_row 0 rfl)) ?_
   refine hl_gtr rfl rfl rfl rfl rfl rfl (fun h12 => ?_) (fun h12 => ?_)
   ·
    refine hl_less (sx 0 rfl (sx 1 rfl (sx 2 rfl (sx 6 rfl (sx 7 rfl (sx 9 rfl (sx 22 rfl (sx 31 rfl (sx 49 rfl (sub_nil _)))))))))) (.refl _) ?_
    refine hl_nil ?_
    refine hq_then ?_
    refine hc_true rfl ?_
    refine hc_skip ?_
    refine hq_then ?_
    refine hc_block ?_
    refine hc_seq ?_
    refine hc_region ?_
    refine hl_box rfl rfl rfl (rq_alloc (z := .agg #[.int .i64 0, .int .i64 0]) rfl (by kernel_rfl)) ?_
    intro b13
    refine hl_less (sx 0 rfl (sx 1 rfl (sx 2 rfl (sx 6 rfl (sx 7 rfl (sx 9 rfl (sx 12 rfl (sx 22 rfl (sx 31 rfl (sx 49 rfl (sub_nil _))))))))))) (.refl _) ?_
    refine hl_nil ?_
    refine hq_then ?_
    refine hc_seq ?_
    refine hc_region ?_
    refine hl_v rfl rfl rfl (rv_ev rfl) ?_
    refine hl_callM (R := (fun v_ p_ => ∃ (q : Qu) (v2 : Value) (es' : List Qu), v_ = .tuple #[v2, .agg #[.int .i64 q.d, .int .i64 q.n]] ∧ p_ = rowE 96 2 v2 (es').length ((es').flatMap quC) ∧ (q :: es').Perm td)) 1 rfl rfl (by kernel_rfl) rfl rfl (fun l' w hm => popQueue_mut td _ _ _ _ hm (by omega) (by omega)) ?_
    intro v14 p15 hR16
    obtain ⟨q, v2, qt, rfl, rfl, hqp⟩ := hR16
    refine hl_eqL (l' := [boxE b13 #[.int .i64 0, .int .i64 0] 96, rowE 96 2 v2 qt.length (qt.flatMap quC), rowE 3 1 (.slice (some ⟨g1, 0, none⟩) ((List.replicate cs.length (0 : Int)).length) ((List.replicate cs.length (0 : Int)).length)) os.length (os.map (Value.int .i64))]) rfl ?_
    refine hl_v rfl rfl rfl (rv_ev rfl) ?_
    refine hl_v rfl rfl rfl (rv_ev rfl) ?_
    refine hl_v rfl rfl rfl (rv_ev rfl) ?_
    refine hl_v rfl rfl rfl (rv_ev rfl) ?_
    refine hl_storeBoxN (i := 0) (off := 0) (us := [.int .i64 q.d, .int .i64 q.n]) (l' := [boxE b13 #[.int .i64 q.d, .int .i64 q.n] 96, rowE 96 2 v2 qt.length (qt.flatMap quC), rowE 3 1 (.slice (some ⟨g1, 0, none⟩) ((List.replicate cs.length (0 : Int)).length) ((List.replicate cs.length (0 : Int)).length)) os.length (os.map (Value.int .i64))]) rfl rfl rfl (by kernel_rfl) rfl rfl rfl (all_cons rfl (all_cons rfl all_nil)) rfl rfl rfl ?_
    refine hl_less (sx 0 rfl (sx 1 rfl (sx 2 rfl (sx 6 rfl (sx 7 rfl (sx 9 rfl (sx 12 rfl (sx 22 rfl (sx 31 rfl (sx 49 rfl (sub_nil _))))))))))) (.refl _) ?_
    refine hl_nil ?_
    refine hq_then ?_
    refine hc_seq ?_
    refine hc_seq ?_
    have hdq := hdi.perm hqp.symm
    obtain ⟨ht0, ht1, ht2, ht3, ht4⟩ := hdq.top
    have hks9 := hkz q.n.toNat (by omega)
    have ht1x : 0 ≤ os.getD q.n.toNat 0 := ht1
    have ht2x : os.getD q.n.toNat 0 ≤ q.d := ht2
    have hN1 := hN.n1
    rcases Bool.eq_false_or_eq_true (decide (os.getD ((q.n).toNat) 0 < q.d)) with hb17 | hb17
    ·
     have hb17p : os.getD ((q.n).toNat) 0 < q.d := of_decide_eq_true hb17
     have hdq := hdi.perm hqp.symm
     obtain ⟨ht0, ht1, ht2, ht3, ht4⟩ := hdq.top
     have hks9 := hkz q.n.toNat (by omega)
     have ht1x : 0 ≤ os.getD q.n.toNat 0 := ht1
     have ht2x : os.getD q.n.toNat 0 ≤ q.d := ht2
     have hN1 := hN.n1
     refine hc_draw (by kernel_rfl) 8 [0, 1, 2, 3, 4, 5, 6, 7] (List.take 8 _) (List.drop 8 _) [[], [0], [], [], [3], [2, 4], [5], [1, 6]] [55, 56, 57, 58, 59, 60, 61, 62] (fun i_ vs_ v_ p_ => match i_ with | 0 => v_ = .pointer (some ⟨b13, 0 + 0, none⟩) ∧ p_ = [] | 1 => v_ = .int .i64 q.d ∧ p_ = [] | 2 => v_ = .slice (some ⟨g1, 0, none⟩) ((List.replicate cs.length (0 : Int)).length) ((List.replicate cs.length (0 : Int)).length) ∧ p_ = [] | 3 => v_ = .pointer (some ⟨b13, 0 + 1, none⟩) ∧ p_ = [] | 4 => v_ = .int .i64 q.n ∧ p_ = [] | 5 => v_ = elP (.slice (some ⟨g1, 0, none⟩) ((List.replicate cs.length (0 : Int)).length) ((List.replicate cs.length (0 : Int)).length)) ((q.n).toNat * 1) ∧ p_ = [] | 6 => v_ = .int .i64 (os.getD ((q.n).toNat) 0) ∧ p_ = [] | 7 => v_ = .bool true ∧ p_ = [] | _ => True) (List.take_append_drop 8 _).symm (by kernel_rfl) (by kernel_rfl) rfl rfl ?_ ?_
     ·
      refine ⟨?_, ?_, ?_, ?_, ?_, ?_, ?_, ?_, trivial⟩
      ·
       intro vf pf hR
       refine Or.inl ⟨rfl, ?_⟩
       refine rq_less (sx 12 rfl (sub_nil _)) (List.sublist_append_right _ _) ?_
       exact rq_v (rv_field (k0 := 0) rfl (by kernel_rfl) rfl)
      ·
       intro vf pf hR
       have e0 : (vf 0) = .pointer (some ⟨b13, 0 + 0, none⟩) ∧ (pf 0) = [] := hR 0 (by decide)
       refine Or.inl ⟨rfl, ?_⟩
       refine rq_less (sx 55 (congrArg some e0.1) (sub_nil _)) (List.sublist_append_right _ _) ?_
       exact rq_v (rv_load rfl (by kernel_rfl) rfl (box_cell 0 rfl rfl))
      ·
       intro vf pf hR
       refine Or.inl ⟨rfl, ?_⟩
       refine rq_less (sx 7 rfl (sub_nil _)) (List.sublist_append_right _ _) ?_
       exact rq_v (rv_ev rfl)
      ·
       intro vf pf hR
       refine Or.inl ⟨rfl, ?_⟩
       refine rq_less (sx 12 rfl (sub_nil _)) (List.sublist_append_right _ _) ?_
       exact rq_v (rv_field (k0 := 1) rfl (by kernel_rfl) rfl)
      ·
       intro vf pf hR
       have e3 : (vf 3) = .pointer (some ⟨b13, 0 + 1, none⟩) ∧ (pf 3) = [] := hR 3 (by decide)
       refine Or.inl ⟨rfl, ?_⟩
       refine rq_less (sx 58 (congrArg some e3.1) (sub_nil _)) (List.sublist_append_right _ _) ?_
       exact rq_v (rv_load rfl (by kernel_rfl) rfl (box_cell 0 rfl rfl))
      ·
       intro vf pf hR
       have e2 : (vf 2) = .slice (some ⟨g1, 0, none⟩) ((List.replicate cs.length (0 : Int)).length) ((List.replicate cs.length (0 : Int)).length) ∧ (pf 2) = [] := hR 2 (by decide)
       have e4 : (vf 4) = .int .i64 q.n ∧ (pf 4) = [] := hR 4 (by decide)
       refine Or.inl ⟨rfl, ?_⟩
       refine rq_less (sx 57 (congrArg some e2.1) (sx 59 (congrArg some e4.1) (sub_nil _))) (List.sublist_append_right _ _) ?_
       exact rq_v (rv_index (s := 1) rfl Try.underlying26 (by kernel_rfl) rfl rfl (rd_row 2 rfl) (by omega) (by first | omega | (simp only [List.length_set]; omega)))
      ·
       intro vf pf hR
       have e5 : (vf 5) = elP (.slice (some ⟨g1, 0, none⟩) ((List.replicate cs.length (0 : Int)).length) ((List.replicate cs.length (0 : Int)).length)) ((q.n).toNat * 1) ∧ (pf 5) = [] := hR 5 (by decide)
       refine Or.inl ⟨rfl, ?_⟩
       refine rq_less (sx 60 (congrArg some e5.1) (sub_nil _)) (List.sublist_append_right _ _) ?_
       exact rq_v (rv_loadEl (u := .int .i64 (os.getD ((q.n).toNat) 0)) rfl (by kernel_rfl) rfl (rd_row 2 rfl) (ints_at1 (show _ < os.length by first | omega | (simp only [List.length_set]; omega))))
      ·
       intro vf pf hR
       have e1 : (vf 1) = .int .i64 q.d ∧ (pf 1) = [] := hR 1 (by decide)
       have e6 : (vf 6) = .int .i64 (os.getD ((q.n).toNat) 0) ∧ (pf 6) = [] := hR 6 (by decide)
       refine Or.inl ⟨rfl, ?_⟩
       refine rq_less (sx 56 (congrArg some e1.1) (sx 61 (congrArg some e6.1) (sub_nil _))) (List.sublist_append_right _ _) ?_
       exact rq_mono (rq_v (rv_cmp rfl rfl rfl rfl)) (fun _ _ h => ⟨h.1.trans (congrArg Value.bool hb17), h.2⟩)
     ·
      intro vf pf hR
      have e7 : (vf 7) = .bool true ∧ (pf 7) = [] := hR 7 (by decide)
      refine hl_less (l' := [boxE b13 #[.int .i64 q.d, .int .i64 q.n] 96, rowE 96 2 v2 qt.length (qt.flatMap quC), rowE 3 1 (.slice (some ⟨g1, 0, none⟩) ((List.replicate cs.length (0 : Int)).length) ((List.replicate cs.length (0 : Int)).length)) os.length (os.map (Value.int .i64))]) (sx 0 rfl (sx 1 rfl (sx 2 rfl (sx 6 rfl (sx 7 rfl (sx 9 rfl (sx 12 rfl (sx 22 rfl (sx 31 rfl (sx 49 rfl (sx 62 (congrArg some e7.1) (sub_nil _)))))))))))) (List.sublist_append_right _ _) ?_
      simp only [List.drop_succ_cons, List.drop_zero]
      refine hl_less (sx 0 rfl (sx 1 rfl (sx 2 rfl (sx 6 rfl (sx 7 rfl (sx 9 rfl (sx 12 rfl (sx 22 rfl (sx 31 rfl (sx 49 rfl (sx 62 rfl (sub_nil _)))))))))))) (.refl _) ?_
      refine hl_nil ?_
      refine hq_then ?_
      refine hc_true rfl ?_
      refine hc_exit ?_
      refine hq_then_exit ?_
      refine hq_block_exit ?_
      exact hq_round4 (M - 1) v2 qt os ⟨by omega, hdq.drop (by unfold gI; omega)⟩ (by omega) (sx 0 rfl (sx 1 rfl (sx 2 rfl (sx 6 rfl (sx 7 rfl (sx 9 rfl (sx 22 rfl (sx 31 rfl (sub_nil _))))))))) ((.cons _ (.cons_cons _ (.cons_cons _ .slnil))))
    ·
     have hb17p : ¬ (os.getD ((q.n).toNat) 0 < q.d) := of_decide_eq_false hb17
     have hdq := hdi.perm hqp.symm
     obtain ⟨ht0, ht1, ht2, ht3, ht4⟩ := hdq.top
     have hks9 := hkz q.n.toNat (by omega)
     have ht1x : 0 ≤ os.getD q.n.toNat 0 := ht1
     have ht2x : os.getD q.n.toNat 0 ≤ q.d := ht2
     have hN1 := hN.n1
     refine hc_draw (by kernel_rfl) 8 [0, 1, 2, 3, 4, 5, 6, 7] (List.take 8 _) (List.drop 8 _) [[], [0], [], [], [3], [2, 4], [5], [1, 6]] [55, 56, 57, 58, 59, 60, 61, 62] (fun i_ vs_ v_ p_ => match i_ with | 0 => v_ = .pointer (some ⟨b13, 0 + 0, none⟩) ∧ p_ = [] | 1 => v_ = .int .i64 q.d ∧ p_ = [] | 2 => v_ = .slice (some ⟨g1, 0, none⟩) ((List.replicate cs.length (0 : Int)).length) ((List.replicate cs.length (0 : Int)).length) ∧ p_ = [] | 3 => v_ = .pointer (some ⟨b13, 0 + 1, none⟩) ∧ p_ = [] | 4 => v_ = .int .i64 q.n ∧ p_ = [] | 5 => v_ = elP (.slice (some ⟨g1, 0, none⟩) ((List.replicate cs.length (0 : Int)).length) ((List.replicate cs.length (0 : Int)).length)) ((q.n).toNat * 1) ∧ p_ = [] | 6 => v_ = .int .i64 (os.getD ((q.n).toNat) 0) ∧ p_ = [] | 7 => v_ = .bool false ∧ p_ = [] | _ => True) (List.take_append_drop 8 _).symm (by kernel_rfl) (by kernel_rfl) rfl rfl ?_ ?_
     ·
      refine ⟨?_, ?_, ?_, ?_, ?_, ?_, ?_, ?_, trivial⟩
      ·
       intro vf pf hR
       refine Or.inl ⟨rfl, ?_⟩
       refine rq_less (sx 12 rfl (sub_nil _)) (List.sublist_append_right _ _) ?_
       exact rq_v (rv_field (k0 := 0) rfl (by kernel_rfl) rfl)
      ·
       intro vf pf hR
       have e0 : (vf 0) = .pointer (some ⟨b13, 0 + 0, none⟩) ∧ (pf 0) = [] := hR 0 (by decide)
       refine Or.inl ⟨rfl, ?_⟩
       refine rq_less (sx 55 (congrArg some e0.1) (sub_nil _)) (List.sublist_append_right _ _) ?_
       exact rq_v (rv_load rfl (by kernel_rfl) rfl (box_cell 0 rfl rfl))
      ·
       intro vf pf hR
       refine Or.inl ⟨rfl, ?_⟩
       refine rq_less (sx 7 rfl (sub_nil _)) (List.sublist_append_right _ _) ?_
       exact rq_v (rv_ev rfl)
      ·
       intro vf pf hR
       refine Or.inl ⟨rfl, ?_⟩
       refine rq_less (sx 12 rfl (sub_nil _)) (List.sublist_append_right _ _) ?_
       exact rq_v (rv_field (k0 := 1) rfl (by kernel_rfl) rfl)
      ·
       intro vf pf hR
       have e3 : (vf 3) = .pointer (some ⟨b13, 0 + 1, none⟩) ∧ (pf 3) = [] := hR 3 (by decide)
       refine Or.inl ⟨rfl, ?_⟩
       refine rq_less (sx 58 (congrArg some e3.1) (sub_nil _)) (List.sublist_append_right _ _) ?_
       exact rq_v (rv_load rfl (by kernel_rfl) rfl (box_cell 0 rfl rfl))
      ·
       intro vf pf hR
       have e2 : (vf 2) = .slice (some ⟨g1, 0, none⟩) ((List.replicate cs.length (0 : Int)).length) ((List.replicate cs.length (0 : Int)).length) ∧ (pf 2) = [] := hR 2 (by decide)
       have e4 : (vf 4) = .int .i64 q.n ∧ (pf 4) = [] := hR 4 (by decide)
       refine Or.inl ⟨rfl, ?_⟩
       refine rq_less (sx 57 (congrArg some e2.1) (sx 59 (congrArg some e4.1) (sub_nil _))) (List.sublist_append_right _ _) ?_
       exact rq_v (rv_index (s := 1) rfl Try.underlying26 (by kernel_rfl) rfl rfl (rd_row 2 rfl) (by omega) (by first | omega | (simp only [List.length_set]; omega)))
      ·
       intro vf pf hR
       have e5 : (vf 5) = elP (.slice (some ⟨g1, 0, none⟩) ((List.replicate cs.length (0 : Int)).length) ((List.replicate cs.length (0 : Int)).length)) ((q.n).toNat * 1) ∧ (pf 5) = [] := hR 5 (by decide)
       refine Or.inl ⟨rfl, ?_⟩
       refine rq_less (sx 60 (congrArg some e5.1) (sub_nil _)) (List.sublist_append_right _ _) ?_
       exact rq_v (rv_loadEl (u := .int .i64 (os.getD ((q.n).toNat) 0)) rfl (by kernel_rfl) rfl (rd_row 2 rfl) (ints_at1 (show _ < os.length by first | omega | (simp only [List.length_set]; omega))))
      ·
       intro vf pf hR
       have e1 : (vf 1) = .int .i64 q.d ∧ (pf 1) = [] := hR 1 (by decide)
       have e6 : (vf 6) = .int .i64 (os.getD ((q.n).toNat) 0) ∧ (pf 6) = [] := hR 6 (by decide)
       refine Or.inl ⟨rfl, ?_⟩
       refine rq_less (sx 56 (congrArg some e1.1) (sx 61 (congrArg some e6.1) (sub_nil _))) (List.sublist_append_right _ _) ?_
       exact rq_mono (rq_v (rv_cmp rfl rfl rfl rfl)) (fun _ _ h => ⟨h.1.trans (congrArg Value.bool hb17), h.2⟩)
     ·
      intro vf pf hR
      have e7 : (vf 7) = .bool false ∧ (pf 7) = [] := hR 7 (by decide)
      refine hl_less (l' := [boxE b13 #[.int .i64 q.d, .int .i64 q.n] 96, rowE 96 2 v2 qt.length (qt.flatMap quC), rowE 3 1 (.slice (some ⟨g1, 0, none⟩) ((List.replicate cs.length (0 : Int)).length) ((List.replicate cs.length (0 : Int)).length)) os.length (os.map (Value.int .i64))]) (sx 0 rfl (sx 1 rfl (sx 2 rfl (sx 6 rfl (sx 7 rfl (sx 9 rfl (sx 12 rfl (sx 22 rfl (sx 31 rfl (sx 49 rfl (sx 62 (congrArg some e7.1) (sub_nil _)))))))))))) (List.sublist_append_right _ _) ?_
      simp only [List.drop_succ_cons, List.drop_zero]
      refine hl_less (sx 0 rfl (sx 1 rfl (sx 2 rfl (sx 6 rfl (sx 7 rfl (sx 9 rfl (sx 12 rfl (sx 22 rfl (sx 31 rfl (sx 49 rfl (sx 62 rfl (sub_nil _)))))))))))) (.refl _) ?_
      refine hl_nil ?_
      refine hq_then ?_
      refine hc_false rfl ?_
      refine hc_skip ?_
      refine hq_then ?_
      refine hc_seq ?_
      refine hc_draw (by kernel_rfl) 10 [0, 1, 2, 3, 4, 5, 6, 7, 8, 9] (List.take 10 _) (List.drop 10 _) [[], [0], [1], [2], [], [4], [3, 5], [6], [7], []] [63, 64, 65, 66, 67, 68, 69, 70, 71, 72] (fun i_ vs_ v_ p_ => match i_ with | 0 => v_ = .pointer (some ⟨b, 0, none⟩) ∧ p_ = [] | 1 => v_ = .pointer (some ⟨b, 0, none⟩) ∧ p_ = [] | 2 => v_ = .pointer (some ⟨b, 0 + 1, none⟩) ∧ p_ = [] | 3 => v_ = g.kv ∧ p_ = [] | 4 => v_ = .pointer (some ⟨b13, 0 + 1, none⟩) ∧ p_ = [] | 5 => v_ = .int .i64 q.n ∧ p_ = [] | 6 => v_ = elP g.kv ((q.n).toNat * 1) ∧ p_ = [] | 7 => v_ = (g.ks.getD ((q.n).toNat) ir0).v ∧ p_ = [] | 8 => v_ = .int .i64 (((g.ks.getD ((q.n).toNat) ir0).xs).length : Int) ∧ p_ = [] | 9 => v_ = .int .i64 0 ∧ p_ = [] | _ => True) (List.take_append_drop 10 _).symm (by kernel_rfl) (by kernel_rfl) rfl rfl ?_ ?_
      ·
       refine ⟨?_, ?_, ?_, ?_, ?_, ?_, ?_, ?_, ?_, ?_, trivial⟩
       ·
        intro vf pf hR
        refine Or.inl ⟨rfl, ?_⟩
        refine rq_less (sx 0 rfl (sub_nil _)) (List.sublist_append_right _ _) ?_
        exact rq_v (rv_ev rfl)
       ·
        intro vf pf hR
        have e0 : (vf 0) = .pointer (some ⟨b, 0, none⟩) ∧ (pf 0) = [] := hR 0 (by decide)
        refine Or.inl ⟨rfl, ?_⟩
        refine rq_less (sx 63 (congrArg some e0.1) (sub_nil _)) (List.sublist_append_right _ _) ?_
        exact rq_v (rv_nilCheck rfl rfl)
       ·
        intro vf pf hR
        have e1 : (vf 1) = .pointer (some ⟨b, 0, none⟩) ∧ (pf 1) = [] := hR 1 (by decide)
        refine Or.inl ⟨rfl, ?_⟩
        refine rq_less (sx 64 (congrArg some e1.1) (sub_nil _)) (List.sublist_append_right _ _) ?_
        exact rq_v (rv_field (k0 := 1) rfl (by kernel_rfl) rfl)
       ·
        intro vf pf hR
        have e2 : (vf 2) = .pointer (some ⟨b, 0 + 1, none⟩) ∧ (pf 2) = [] := hR 2 (by decide)
        refine Or.inl ⟨rfl, ?_⟩
        refine rq_less (sx 65 (congrArg some e2.1) (sub_nil _)) (List.sublist_append_right _ _) ?_
        exact rq_v (rv_load rfl (by kernel_rfl) rfl (fun w hm => (hm.bel.cell (p := ⟨b, 0 + 1, none⟩) hg.lt).trans hg.c1))
       ·
        intro vf pf hR
        refine Or.inl ⟨rfl, ?_⟩
        refine rq_less (sx 12 rfl (sub_nil _)) (List.sublist_append_right _ _) ?_
        exact rq_v (rv_field (k0 := 1) rfl (by kernel_rfl) rfl)
       ·
        intro vf pf hR
        have e4 : (vf 4) = .pointer (some ⟨b13, 0 + 1, none⟩) ∧ (pf 4) = [] := hR 4 (by decide)
        refine Or.inl ⟨rfl, ?_⟩
        refine rq_less (sx 67 (congrArg some e4.1) (sub_nil _)) (List.sublist_append_right _ _) ?_
        exact rq_v (rv_load rfl (by kernel_rfl) rfl (box_cell 0 rfl rfl))
       ·
        intro vf pf hR
        have e3 : (vf 3) = g.kv ∧ (pf 3) = [] := hR 3 (by decide)
        have e5 : (vf 5) = .int .i64 q.n ∧ (pf 5) = [] := hR 5 (by decide)
        refine Or.inl ⟨rfl, ?_⟩
        refine rq_less (sx 66 (congrArg some e3.1) (sx 68 (congrArg some e5.1) (sub_nil _))) (List.sublist_append_right _ _) ?_
        exact rq_v (rv_index (s := 1) rfl Try.underlying99 (by kernel_rfl) rfl rfl (fun w hm => (hg.ks.below hm.bel).row) (by omega) (by first | omega | (simp only [List.length_set]; omega)))
       ·
        intro vf pf hR
        have e6 : (vf 6) = elP g.kv ((q.n).toNat * 1) ∧ (pf 6) = [] := hR 6 (by decide)
        refine Or.inl ⟨rfl, ?_⟩
        refine rq_less (sx 69 (congrArg some e6.1) (sub_nil _)) (List.sublist_append_right _ _) ?_
        exact rq_v (rv_loadEl (u := (g.ks.getD ((q.n).toNat) ir0).v) rfl (by kernel_rfl) rfl (fun w hm => (hg.ks.below hm.bel).row) (flat_one irC (fun r => r.v) (fun _ => rfl) g.ks ir0 (show (q.n).toNat < _ by first | omega | (simp only [List.length_set]; omega))))
       ·
        intro vf pf hR
        have e7 : (vf 7) = (g.ks.getD ((q.n).toNat) ir0).v ∧ (pf 7) = [] := hR 7 (by decide)
        refine Or.inl ⟨rfl, ?_⟩
        refine rq_less (sx 70 (congrArg some e7.1) (sub_nil _)) (List.sublist_append_right _ _) ?_
        exact rq_v (rv_len rfl Try.underlying26 rfl (fun w hm => (hg.ks.at (k := q.n.toNat) (by omega)).below hm.bel))
       ·
        intro vf pf hR
        refine Or.inl ⟨rfl, ?_⟩
        refine rq_less (sub_nil _) (List.sublist_append_right _ _) ?_
        exact rq_v (rv_ev rfl)
      ·
       intro vf pf hR
       have e7 : (vf 7) = (g.ks.getD ((q.n).toNat) ir0).v ∧ (pf 7) = [] := hR 7 (by decide)
       have e8 : (vf 8) = .int .i64 (((g.ks.getD ((q.n).toNat) ir0).xs).length : Int) ∧ (pf 8) = [] := hR 8 (by decide)
       have e9 : (vf 9) = .int .i64 0 ∧ (pf 9) = [] := hR 9 (by decide)
       refine hl_less (l' := [boxE b13 #[.int .i64 q.d, .int .i64 q.n] 96, rowE 96 2 v2 qt.length (qt.flatMap quC), rowE 3 1 (.slice (some ⟨g1, 0, none⟩) ((List.replicate cs.length (0 : Int)).length) ((List.replicate cs.length (0 : Int)).length)) os.length (os.map (Value.int .i64))]) (sx 0 rfl (sx 1 rfl (sx 2 rfl (sx 6 rfl (sx 7 rfl (sx 9 rfl (sx 12 rfl (sx 22 rfl (sx 31 rfl (sx 49 rfl (sx 62 rfl (sx 70 (congrArg some e7.1) (sx 71 (congrArg some e8.1) (sx 72 (congrArg some e9.1) (sub_nil _))))))))))))))) (List.sublist_append_right _ _) ?_
       simp only [List.drop_succ_cons, List.drop_zero]
       refine hl_less (sx 0 rfl (sx 1 rfl (sx 2 rfl (sx 6 rfl (sx 7 rfl (sx 9 rfl (sx 12 rfl (sx 22 rfl (sx 31 rfl (sx 49 rfl (sx 62 rfl (sx 70 rfl (sx 71 rfl (sx 72 rfl (sub_nil _))))))))))))))) (.refl _) ?_
       refine hl_nil ?_
       refine hq_then ?_
       refine hc_block ?_
       refine hc_loop4 (α := Nat) (β := Value) (γ := List Qu) (δ := List Int) (fun j u2 td2 os2 => [boxE b13 #[.int .i64 q.d, .int .i64 q.n] 96, rowE 96 2 u2 td2.length (td2.flatMap quC), rowE 3 1 (.slice (some ⟨g1, 0, none⟩) ((List.replicate cs.length (0 : Int)).length) ((List.replicate cs.length (0 : Int)).length)) os2.length (os2.map (Value.int .i64))]) (fun j u2 td2 os2 => [(0, .pointer (some ⟨b, 0, none⟩)), (1, cv), (2, sv), (6, .slice none 0 0), (7, .slice (some ⟨g1, 0, none⟩) ((List.replicate cs.length (0 : Int)).length) ((List.replicate cs.length (0 : Int)).length)), (9, u2), (12, .pointer (some ⟨b13, 0, none⟩)), (22, .bool false), (31, .bool false), (49, .bool true), (62, .bool false), (70, (g.ks.getD ((q.n).toNat) ir0).v), (71, .int .i64 (((g.ks.getD ((q.n).toNat) ir0).xs).length : Int)), (72, .int .i64 (j : Int))]) (fun j u2 td2 os2 => j ≤ (g.ks.getD ((q.n).toNat) ir0).xs.length ∧ gI os2 q.n = q.d ∧ DI cs.length SS cs st st (upTo (kOf g.ks) q.n j) os2 td2 (M - 1)) (fun j u2 td2 os2 => (g.ks.getD ((q.n).toNat) ir0).xs.length - j) 0 v2 qt os ⟨by omega, by unfold gI; omega, hdq.first⟩ (sx 0 rfl (sx 1 rfl (sx 2 rfl (sx 6 rfl (sx 7 rfl (sx 9 rfl (sx 12 rfl (sx 22 rfl (sx 31 rfl (sx 49 rfl (sx 62 rfl (sx 70 rfl (sx 71 rfl (sx 72 rfl (sub_nil _))))))))))))))) ((.cons_cons _ (.cons_cons _ (.cons_cons _ .slnil)))) ?_
       intro j u2 td2 os2 hi18
       obtain ⟨hj, hqd, hdn⟩ := hi18
       have hol2 := hdn.len
       have hmea2 := hdn.mea
       refine hc_seq ?_
       refine hc_region ?_
       refine hl_lss rfl rfl rfl rfl rfl rfl (fun h19 => ?_) (fun h19 => ?_)
       ·
        refine hl_less (sx 0 rfl (sx 1 rfl (sx 2 rfl (sx 6 rfl (sx 7 rfl (sx 9 rfl (sx 12 rfl (sx 22 rfl (sx 31 rfl (sx 49 rfl (sx 62 rfl (sx 70 rfl (sx 71 rfl (sx 72 rfl (sx 73 rfl (sub_nil _)))))))))))))))) (.refl _) ?_
        refine hl_nil ?_
        refine hq_then ?_
        refine hc_seq ?_
        refine hc_true rfl ?_
        refine hc_skip ?_
        refine hq_then ?_
        refine hc_seq ?_
        refine hc_block ?_
        refine hc_seq ?_
        refine hc_region ?_
        refine hl_v rfl rfl rfl (rv_index (s := 1) rfl Try.underlying26 (by kernel_rfl) rfl rfl (fun w hm => (hg.ks.at (k := q.n.toNat) (by omega)).below hm.bel) (by omega) (by first | omega | (simp only [List.length_set]; omega))) ?_
        refine hl_v rfl rfl rfl (rv_loadEl (u := .int .i64 (((g.ks.getD ((q.n).toNat) ir0).xs).getD j 0)) rfl (by kernel_rfl) rfl (fun w hm => (hg.ks.at (k := q.n.toNat) (by omega)).below hm.bel) (ints_at1 (show _ < ((g.ks.getD ((q.n).toNat) ir0).xs).length by first | omega | (simp only [List.length_set]; omega)))) ?_
        refine hl_v rfl rfl rfl (rv_ev rfl) ?_
        refine hl_less (sx 0 rfl (sx 1 rfl (sx 2 rfl (sx 6 rfl (sx 7 rfl (sx 9 rfl (sx 12 rfl (sx 14 rfl (sx 22 rfl (sx 31 rfl (sx 49 rfl (sx 62 rfl (sx 70 rfl (sx 71 rfl (sx 72 rfl (sx 73 rfl (sub_nil _))))))))))))))))) (.refl _) ?_
        refine hl_nil ?_
        refine hq_then ?_
        refine hc_seq ?_
        obtain ⟨⟨hn0, hn1⟩, hns⟩ := (hN.kr q.n ht0.1 ht0.2 (((g.ks.getD ((q.n).toNat) ir0).xs).getD j 0)).1 (getD_memZ (by show j < (g.ks.getD ((q.n).toNat) ir0).xs.length; omega))
        have hcx := hN.cr (((g.ks.getD ((q.n).toNat) ir0).xs).getD j 0) hn0 hn1
        have hcx1 : 1 ≤ cs.getD (((g.ks.getD ((q.n).toNat) ir0).xs).getD j 0).toNat 0 ∧ cs.getD (((g.ks.getD ((q.n).toNat) ir0).xs).getD j 0).toNat 0 ≤ 100000 := hcx
        have hox : gI os2 (((g.ks.getD ((q.n).toNat) ir0).xs).getD j 0) = -1 ∨ 0 ≤ gI os2 (((g.ks.getD ((q.n).toNat) ir0).xs).getD j 0) := (hdn.rng (((g.ks.getD ((q.n).toNat) ir0).xs).getD j 0) hn0 hn1).imp (fun h => h) (fun h => h.1)
        have hox1 : os2.getD (((g.ks.getD ((q.n).toNat) ir0).xs).getD j 0).toNat 0 = -1 ∨ 0 ≤ os2.getD (((g.ks.getD ((q.n).toNat) ir0).xs).getD j 0).toNat 0 := hox
        refine hc_draw (by kernel_rfl) 7 [0, 1, 2, 3, 4, 5, 6] (List.take 7 _) (List.drop 7 _) [[], [0], [], [], [2, 3], [4], [1, 5]] [76, 77, 78, 79, 80, 81, 82] (fun i_ vs_ v_ p_ => match i_ with | 0 => v_ = .pointer (some ⟨b13, 0 + 0, none⟩) ∧ p_ = [] | 1 => v_ = .int .i64 q.d ∧ p_ = [] | 2 => v_ = cv ∧ p_ = [] | 3 => v_ = .int .i64 (((g.ks.getD ((q.n).toNat) ir0).xs).getD j 0) ∧ p_ = [] | 4 => v_ = elP cv ((((g.ks.getD ((q.n).toNat) ir0).xs).getD j 0).toNat * 1) ∧ p_ = [] | 5 => v_ = .int .i64 (cs.getD ((((g.ks.getD ((q.n).toNat) ir0).xs).getD j 0).toNat) 0) ∧ p_ = [] | 6 => v_ = .int .i64 (q.d + (cs.getD ((((g.ks.getD ((q.n).toNat) ir0).xs).getD j 0).toNat) 0)) ∧ p_ = [] | _ => True) (List.take_append_drop 7 _).symm (by kernel_rfl) (by kernel_rfl) rfl rfl ?_ ?_
        ·
         refine ⟨?_, ?_, ?_, ?_, ?_, ?_, ?_, trivial⟩
         ·
          intro vf pf hR
          refine Or.inl ⟨rfl, ?_⟩
          refine rq_less (sx 12 rfl (sub_nil _)) (List.sublist_append_right _ _) ?_
          exact rq_v (rv_field (k0 := 0) rfl (by kernel_rfl) rfl)
         ·
          intro vf pf hR
          have e0 : (vf 0) = .pointer (some ⟨b13, 0 + 0, none⟩) ∧ (pf 0) = [] := hR 0 (by decide)
          refine Or.inl ⟨rfl, ?_⟩
          refine rq_less (sx 76 (congrArg some e0.1) (sub_nil _)) (List.sublist_append_right _ _) ?_
          exact rq_v (rv_load rfl (by kernel_rfl) rfl (box_cell 0 rfl rfl))
         ·
          intro vf pf hR
          refine Or.inl ⟨rfl, ?_⟩
          refine rq_less (sx 1 rfl (sub_nil _)) (List.sublist_append_right _ _) ?_
          exact rq_v (rv_ev rfl)
         ·
          intro vf pf hR
          refine Or.inl ⟨rfl, ?_⟩
          refine rq_less (sx 14 rfl (sub_nil _)) (List.sublist_append_right _ _) ?_
          exact rq_v (rv_ev rfl)
         ·
          intro vf pf hR
          have e2 : (vf 2) = cv ∧ (pf 2) = [] := hR 2 (by decide)
          have e3 : (vf 3) = .int .i64 (((g.ks.getD ((q.n).toNat) ir0).xs).getD j 0) ∧ (pf 3) = [] := hR 3 (by decide)
          refine Or.inl ⟨rfl, ?_⟩
          refine rq_less (sx 78 (congrArg some e2.1) (sx 79 (congrArg some e3.1) (sub_nil _))) (List.sublist_append_right _ _) ?_
          exact rq_v (rv_index (s := 1) rfl Try.underlying26 (by kernel_rfl) rfl rfl (rd_old hcv) (by omega) (by first | omega | (simp only [List.length_set]; omega)))
         ·
          intro vf pf hR
          have e4 : (vf 4) = elP cv ((((g.ks.getD ((q.n).toNat) ir0).xs).getD j 0).toNat * 1) ∧ (pf 4) = [] := hR 4 (by decide)
          refine Or.inl ⟨rfl, ?_⟩
          refine rq_less (sx 80 (congrArg some e4.1) (sub_nil _)) (List.sublist_append_right _ _) ?_
          exact rq_v (rv_loadEl (u := .int .i64 (cs.getD ((((g.ks.getD ((q.n).toNat) ir0).xs).getD j 0).toNat) 0)) rfl (by kernel_rfl) rfl (rd_old hcv) (ints_at1 (show _ < cs.length by first | omega | (simp only [List.length_set]; omega))))
         ·
          intro vf pf hR
          have e1 : (vf 1) = .int .i64 q.d ∧ (pf 1) = [] := hR 1 (by decide)
          have e5 : (vf 5) = .int .i64 (cs.getD ((((g.ks.getD ((q.n).toNat) ir0).xs).getD j 0).toNat) 0) ∧ (pf 5) = [] := hR 5 (by decide)
          refine Or.inl ⟨rfl, ?_⟩
          refine rq_less (sx 77 (congrArg some e1.1) (sx 81 (congrArg some e5.1) (sub_nil _))) (List.sublist_append_right _ _) ?_
          exact rq_v (rv_add rfl rfl rfl (by constructor <;> omega))
        ·
         intro vf pf hR
         have e6 : (vf 6) = .int .i64 (q.d + (cs.getD ((((g.ks.getD ((q.n).toNat) ir0).xs).getD j 0).toNat) 0)) ∧ (pf 6) = [] := hR 6 (by decide)
         refine hl_less (l' := [boxE b13 #[.int .i64 q.d, .int .i64 q.n] 96, rowE 96 2 u2 td2.length (td2.flatMap quC), rowE 3 1 (.slice (some ⟨g1, 0, none⟩) ((List.replicate cs.length (0 : Int)).length) ((List.replicate cs.length (0 : Int)).length)) os2.length (os2.map (Value.int .i64))]) (sx 0 rfl (sx 1 rfl (sx 2 rfl (sx 6 rfl (sx 7 rfl (sx 9 rfl (sx 12 rfl (sx 14 rfl (sx 22 rfl (sx 31 rfl (sx 49 rfl (sx 62 rfl (sx 70 rfl (sx 71 rfl (sx 72 rfl (sx 73 rfl (sx 82 (congrArg some e6.1) (sub_nil _)))))))))))))))))) (List.sublist_append_right _ _) ?_
         simp only [List.drop_succ_cons, List.drop_zero]
         refine hl_v rfl rfl rfl (rv_ev rfl) ?_
         refine hl_less (sx 0 rfl (sx 1 rfl (sx 2 rfl (sx 6 rfl (sx 7 rfl (sx 9 rfl (sx 12 rfl (sx 14 rfl (sx 15 rfl (sx 22 rfl (sx 31 rfl (sx 49 rfl (sx 62 rfl (sx 70 rfl (sx 71 rfl (sx 72 rfl (sx 73 rfl (sub_nil _)))))))))))))))))) (.refl _) ?_
         refine hl_nil ?_
         refine hq_then ?_
         refine hc_seq ?_
         refine hc_region ?_
         refine hl_v rfl rfl rfl (rv_ev rfl) ?_
         refine hl_v rfl rfl rfl (rv_ev rfl) ?_
         refine hl_v rfl rfl rfl (rv_index (s := 1) rfl Try.underlying26 (by kernel_rfl) rfl rfl (rd_row 2 rfl) (by omega) (by first | omega | (simp only [List.length_set]; omega))) ?_
         refine hl_v rfl rfl rfl (rv_loadEl (u := .int .i64 (os2.getD ((((g.ks.getD ((q.n).toNat) ir0).xs).getD j 0).toNat) 0)) rfl (by kernel_rfl) rfl (rd_row 2 rfl) (ints_at1 (show _ < os2.length by first | omega | (simp only [List.length_set]; omega)))) ?_
         refine hl_eql rfl rfl rfl rfl rfl rfl (fun h20 => ?_) (fun h20 => ?_)
         ·
          refine hl_v rfl rfl rfl (rv_ev rfl) ?_
          refine hl_skip rfl rfl rfl ?_
          refine hl_skip rfl rfl rfl ?_
          refine hl_skip rfl rfl rfl ?_
          refine hl_skip rfl rfl rfl ?_
          refine hl_skip rfl rfl rfl ?_
          refine hl_skip rfl rfl rfl ?_
          refine hl_v rfl rfl rfl (rv_ev rfl) ?_
          refine hl_less (sx 0 rfl (sx 1 rfl (sx 2 rfl (sx 6 rfl (sx 7 rfl (sx 9 rfl (sx 12 rfl (sx 14 rfl (sx 15 rfl (sx 22 rfl (sx 31 rfl (sx 49 rfl (sx 62 rfl (sx 70 rfl (sx 71 rfl (sx 72 rfl (sx 73 rfl (sx 95 rfl (sub_nil _))))))))))))))))))) (.refl _) ?_
          refine hl_nil ?_
          refine hq_then ?_
          refine hc_true rfl ?_
          refine hc_seq ?_
          refine hc_region ?_
          refine hl_v rfl rfl rfl (rv_ev rfl) ?_
          refine hl_v rfl rfl rfl (rv_ev rfl) ?_
          refine hl_v rfl rfl rfl (rv_ev rfl) ?_
          refine hl_v rfl rfl rfl (rv_index (s := 1) rfl Try.underlying26 (by kernel_rfl) rfl rfl (rd_row 2 rfl) (by omega) (by first | omega | (simp only [List.length_set]; omega))) ?_
          refine hl_storeEl (i := 2) (n' := (os2.set ((((g.ks.getD ((q.n).toNat) ir0).xs).getD j 0).toNat) (q.d + (cs.getD ((((g.ks.getD ((q.n).toNat) ir0).xs).getD j 0).toNat) 0))).length) (xs' := ((os2.set ((((g.ks.getD ((q.n).toNat) ir0).xs).getD j 0).toNat) (q.d + (cs.getD ((((g.ks.getD ((q.n).toNat) ir0).xs).getD j 0).toNat) 0))).map (Value.int .i64))) (l' := [boxE b13 #[.int .i64 q.d, .int .i64 q.n] 96, rowE 96 2 u2 td2.length (td2.flatMap quC), rowE 3 1 (.slice (some ⟨g1, 0, none⟩) ((List.replicate cs.length (0 : Int)).length) ((List.replicate cs.length (0 : Int)).length)) ((os2.set ((((g.ks.getD ((q.n).toNat) ir0).xs).getD j 0).toNat) (q.d + (cs.getD ((((g.ks.getD ((q.n).toNat) ir0).xs).getD j 0).toNat) 0))).length) ((os2.set ((((g.ks.getD ((q.n).toNat) ir0).xs).getD j 0).toNat) (q.d + (cs.getD ((((g.ks.getD ((q.n).toNat) ir0).xs).getD j 0).toNat) 0))).map (Value.int .i64))]) rfl rfl rfl (by kernel_rfl) rfl rfl rfl rfl (by first | omega | (simp only [List.length_set]; omega)) List.length_set.symm (ints_set _ _ _) rfl ?_
          refine hl_less (sx 0 rfl (sx 1 rfl (sx 2 rfl (sx 6 rfl (sx 7 rfl (sx 9 rfl (sx 12 rfl (sx 14 rfl (sx 15 rfl (sx 22 rfl (sx 31 rfl (sx 49 rfl (sx 62 rfl (sx 70 rfl (sx 71 rfl (sx 72 rfl (sx 73 rfl (sx 95 rfl (sub_nil _))))))))))))))))))) (.refl _) ?_
          refine hl_nil ?_
          refine hq_then ?_
          refine hc_region ?_
          refine hl_v rfl rfl rfl (rv_ev rfl) ?_
          refine hl_v rfl rfl rfl (rv_ev rfl) ?_
          refine hl_v rfl rfl rfl (rv_ev rfl) ?_
          refine hl_v rfl rfl rfl (rv_build (cs := #[.int .i64 (q.d + (cs.getD ((((g.ks.getD ((q.n).toNat) ir0).xs).getD j 0).toNat) 0)), .int .i64 (((g.ks.getD ((q.n).toNat) ir0).xs).getD j 0)]) rfl rfl (by kernel_rfl)) ?_
          refine hl_callM (R := (fun v_ p_ => ∃ es' : List Qu, p_ = rowE 96 2 v_ (es').length ((es').flatMap quC) ∧ es'.Perm (td2 ++ [(Qu.mk (q.d + (cs.getD ((((g.ks.getD ((q.n).toNat) ir0).xs).getD j 0).toNat) 0)) (((g.ks.getD ((q.n).toNat) ir0).xs).getD j 0))]))) 1 rfl rfl (by kernel_rfl) rfl rfl (fun l' w hm => pushQueue_mut td2 _ (Qu.mk (q.d + (cs.getD ((((g.ks.getD ((q.n).toNat) ir0).xs).getD j 0).toNat) 0)) (((g.ks.getD ((q.n).toNat) ir0).xs).getD j 0)) _ _ _ hm (by omega)) ?_
          intro v21 p22 hR23
          obtain ⟨qshR23, rfl, hpp⟩ := hR23
          refine hl_eqL (l' := [boxE b13 #[.int .i64 q.d, .int .i64 q.n] 96, rowE 96 2 v21 qshR23.length (qshR23.flatMap quC), rowE 3 1 (.slice (some ⟨g1, 0, none⟩) ((List.replicate cs.length (0 : Int)).length) ((List.replicate cs.length (0 : Int)).length)) ((os2.set ((((g.ks.getD ((q.n).toNat) ir0).xs).getD j 0).toNat) (q.d + (cs.getD ((((g.ks.getD ((q.n).toNat) ir0).xs).getD j 0).toNat) 0))).length) ((os2.set ((((g.ks.getD ((q.n).toNat) ir0).xs).getD j 0).toNat) (q.d + (cs.getD ((((g.ks.getD ((q.n).toNat) ir0).xs).getD j 0).toNat) 0))).map (Value.int .i64))]) rfl ?_
          refine hl_v rfl rfl rfl (rv_ev rfl) ?_
          refine hl_less (sx 0 rfl (sx 1 rfl (sx 2 rfl (sx 6 rfl (sx 7 rfl (sx 9 rfl (sx 12 rfl (sx 14 rfl (sx 15 rfl (sx 22 rfl (sx 31 rfl (sx 49 rfl (sx 62 rfl (sx 70 rfl (sx 71 rfl (sx 72 rfl (sx 73 rfl (sx 95 rfl (sub_nil _))))))))))))))))))) (.refl _) ?_
          refine hl_nil ?_
          refine hq_block_normal ?_
          refine hq_then ?_
          refine hc_region ?_
          refine hl_v rfl rfl rfl (rv_add rfl rfl rfl (by constructor <;> omega)) ?_
          refine hl_v rfl rfl rfl (rv_ev rfl) ?_
          refine hl_less (sx 0 rfl (sx 1 rfl (sx 2 rfl (sx 6 rfl (sx 7 rfl (sx 9 rfl (sx 12 rfl (sx 14 rfl (sx 15 rfl (sx 22 rfl (sx 31 rfl (sx 49 rfl (sx 62 rfl (sx 70 rfl (sx 71 rfl (sx 72 rfl (sx 73 rfl (sx 95 rfl (sub_nil _))))))))))))))))))) (.refl _) ?_
          refine hl_nil ?_
          obtain ⟨hd8, hd9⟩ := hdn.lower hN ht0.1 ht0.2 (by omega) (by show j < (g.ks.getD ((q.n).toNat) ir0).xs.length; omega) (n := (((g.ks.getD ((q.n).toNat) ir0).xs).getD j 0)) rfl (c := q.d + cs.getD (((g.ks.getD ((q.n).toNat) ir0).xs).getD j 0).toNat 0) (by rw [hqd]) (by unfold gI; omega) hpp
          exact hq_round4 (j + 1) v21 qshR23 (os2.set ((((g.ks.getD ((q.n).toNat) ir0).xs).getD j 0).toNat) (q.d + (cs.getD ((((g.ks.getD ((q.n).toNat) ir0).xs).getD j 0).toNat) 0))) ⟨by omega, by rw [hd9]; exact hqd, hd8⟩ (by omega) (sx 0 rfl (sx 1 rfl (sx 2 rfl (sx 6 rfl (sx 7 rfl (sx 9 rfl (sx 12 rfl (sx 22 rfl (sx 31 rfl (sx 49 rfl (sx 62 rfl (sx 70 rfl (sx 71 rfl (sx 72 rfl (sub_nil _))))))))))))))) ((.cons_cons _ (.cons_cons _ (.cons_cons _ .slnil))))
         ·
          refine hl_v rfl rfl rfl (rv_ev rfl) ?_
          refine hl_v rfl rfl rfl (rv_ev rfl) ?_
          refine hl_v rfl rfl rfl (rv_ev rfl) ?_
          refine hl_v rfl rfl rfl (rv_ev rfl) ?_
          refine hl_v rfl rfl rfl (rv_index (s := 1) rfl Try.underlying26 (by kernel_rfl) rfl rfl (rd_row 2 rfl) (by omega) (by first | omega | (simp only [List.length_set]; omega))) ?_
          refine hl_v rfl rfl rfl (rv_loadEl (u := .int .i64 (os2.getD ((((g.ks.getD ((q.n).toNat) ir0).xs).getD j 0).toNat) 0)) rfl (by kernel_rfl) rfl (rd_row 2 rfl) (ints_at1 (show _ < os2.length by first | omega | (simp only [List.length_set]; omega)))) ?_
          refine hl_lss rfl rfl rfl rfl rfl rfl (fun h24 => ?_) (fun h24 => ?_)
          ·
           refine hl_v rfl rfl rfl (rv_ev rfl) ?_
           refine hl_less (sx 0 rfl (sx 1 rfl (sx 2 rfl (sx 6 rfl (sx 7 rfl (sx 9 rfl (sx 12 rfl (sx 14 rfl (sx 15 rfl (sx 22 rfl (sx 31 rfl (sx 49 rfl (sx 62 rfl (sx 70 rfl (sx 71 rfl (sx 72 rfl (sx 73 rfl (sx 95 rfl (sub_nil _))))))))))))))))))) (.refl _) ?_
           refine hl_nil ?_
           refine hq_then ?_
           refine hc_true rfl ?_
           refine hc_seq ?_
           refine hc_region ?_
           refine hl_v rfl rfl rfl (rv_ev rfl) ?_
           refine hl_v rfl rfl rfl (rv_ev rfl) ?_
           refine hl_v rfl rfl rfl (rv_ev rfl) ?_
           refine hl_v rfl rfl rfl (rv_index (s := 1) rfl Try.underlying26 (by kernel_rfl) rfl rfl (rd_row 2 rfl) (by omega) (by first | omega | (simp only [List.length_set]; omega))) ?_
           refine hl_storeEl (i := 2) (n' := (os2.set ((((g.ks.getD ((q.n).toNat) ir0).xs).getD j 0).toNat) (q.d + (cs.getD ((((g.ks.getD ((q.n).toNat) ir0).xs).getD j 0).toNat) 0))).length) (xs' := ((os2.set ((((g.ks.getD ((q.n).toNat) ir0).xs).getD j 0).toNat) (q.d + (cs.getD ((((g.ks.getD ((q.n).toNat) ir0).xs).getD j 0).toNat) 0))).map (Value.int .i64))) (l' := [boxE b13 #[.int .i64 q.d, .int .i64 q.n] 96, rowE 96 2 u2 td2.length (td2.flatMap quC), rowE 3 1 (.slice (some ⟨g1, 0, none⟩) ((List.replicate cs.length (0 : Int)).length) ((List.replicate cs.length (0 : Int)).length)) ((os2.set ((((g.ks.getD ((q.n).toNat) ir0).xs).getD j 0).toNat) (q.d + (cs.getD ((((g.ks.getD ((q.n).toNat) ir0).xs).getD j 0).toNat) 0))).length) ((os2.set ((((g.ks.getD ((q.n).toNat) ir0).xs).getD j 0).toNat) (q.d + (cs.getD ((((g.ks.getD ((q.n).toNat) ir0).xs).getD j 0).toNat) 0))).map (Value.int .i64))]) rfl rfl rfl (by kernel_rfl) rfl rfl rfl rfl (by first | omega | (simp only [List.length_set]; omega)) List.length_set.symm (ints_set _ _ _) rfl ?_
           refine hl_less (sx 0 rfl (sx 1 rfl (sx 2 rfl (sx 6 rfl (sx 7 rfl (sx 9 rfl (sx 12 rfl (sx 14 rfl (sx 15 rfl (sx 22 rfl (sx 31 rfl (sx 49 rfl (sx 62 rfl (sx 70 rfl (sx 71 rfl (sx 72 rfl (sx 73 rfl (sx 95 rfl (sub_nil _))))))))))))))))))) (.refl _) ?_
           refine hl_nil ?_
           refine hq_then ?_
           refine hc_region ?_
           refine hl_v rfl rfl rfl (rv_ev rfl) ?_
           refine hl_v rfl rfl rfl (rv_ev rfl) ?_
           refine hl_v rfl rfl rfl (rv_ev rfl) ?_
           refine hl_v rfl rfl rfl (rv_build (cs := #[.int .i64 (q.d + (cs.getD ((((g.ks.getD ((q.n).toNat) ir0).xs).getD j 0).toNat) 0)), .int .i64 (((g.ks.getD ((q.n).toNat) ir0).xs).getD j 0)]) rfl rfl (by kernel_rfl)) ?_
           refine hl_callM (R := (fun v_ p_ => ∃ es' : List Qu, p_ = rowE 96 2 v_ (es').length ((es').flatMap quC) ∧ es'.Perm (td2 ++ [(Qu.mk (q.d + (cs.getD ((((g.ks.getD ((q.n).toNat) ir0).xs).getD j 0).toNat) 0)) (((g.ks.getD ((q.n).toNat) ir0).xs).getD j 0))]))) 1 rfl rfl (by kernel_rfl) rfl rfl (fun l' w hm => pushQueue_mut td2 _ (Qu.mk (q.d + (cs.getD ((((g.ks.getD ((q.n).toNat) ir0).xs).getD j 0).toNat) 0)) (((g.ks.getD ((q.n).toNat) ir0).xs).getD j 0)) _ _ _ hm (by omega)) ?_
           intro v25 p26 hR27
           obtain ⟨qshR27, rfl, hpp⟩ := hR27
           refine hl_eqL (l' := [boxE b13 #[.int .i64 q.d, .int .i64 q.n] 96, rowE 96 2 v25 qshR27.length (qshR27.flatMap quC), rowE 3 1 (.slice (some ⟨g1, 0, none⟩) ((List.replicate cs.length (0 : Int)).length) ((List.replicate cs.length (0 : Int)).length)) ((os2.set ((((g.ks.getD ((q.n).toNat) ir0).xs).getD j 0).toNat) (q.d + (cs.getD ((((g.ks.getD ((q.n).toNat) ir0).xs).getD j 0).toNat) 0))).length) ((os2.set ((((g.ks.getD ((q.n).toNat) ir0).xs).getD j 0).toNat) (q.d + (cs.getD ((((g.ks.getD ((q.n).toNat) ir0).xs).getD j 0).toNat) 0))).map (Value.int .i64))]) rfl ?_
           refine hl_v rfl rfl rfl (rv_ev rfl) ?_
           refine hl_less (sx 0 rfl (sx 1 rfl (sx 2 rfl (sx 6 rfl (sx 7 rfl (sx 9 rfl (sx 12 rfl (sx 14 rfl (sx 15 rfl (sx 22 rfl (sx 31 rfl (sx 49 rfl (sx 62 rfl (sx 70 rfl (sx 71 rfl (sx 72 rfl (sx 73 rfl (sx 95 rfl (sub_nil _))))))))))))))))))) (.refl _) ?_
           refine hl_nil ?_
           refine hq_block_normal ?_
           refine hq_then ?_
           refine hc_region ?_
           refine hl_v rfl rfl rfl (rv_add rfl rfl rfl (by constructor <;> omega)) ?_
           refine hl_v rfl rfl rfl (rv_ev rfl) ?_
           refine hl_less (sx 0 rfl (sx 1 rfl (sx 2 rfl (sx 6 rfl (sx 7 rfl (sx 9 rfl (sx 12 rfl (sx 14 rfl (sx 15 rfl (sx 22 rfl (sx 31 rfl (sx 49 rfl (sx 62 rfl (sx 70 rfl (sx 71 rfl (sx 72 rfl (sx 73 rfl (sx 95 rfl (sub_nil _))))))))))))))))))) (.refl _) ?_
           refine hl_nil ?_
           obtain ⟨hd8, hd9⟩ := hdn.lower hN ht0.1 ht0.2 (by omega) (by show j < (g.ks.getD ((q.n).toNat) ir0).xs.length; omega) (n := (((g.ks.getD ((q.n).toNat) ir0).xs).getD j 0)) rfl (c := q.d + cs.getD (((g.ks.getD ((q.n).toNat) ir0).xs).getD j 0).toNat 0) (by rw [hqd]) (by unfold gI; omega) hpp
           exact hq_round4 (j + 1) v25 qshR27 (os2.set ((((g.ks.getD ((q.n).toNat) ir0).xs).getD j 0).toNat) (q.d + (cs.getD ((((g.ks.getD ((q.n).toNat) ir0).xs).getD j 0).toNat) 0))) ⟨by omega, by rw [hd9]; exact hqd, hd8⟩ (by omega) (sx 0 rfl (sx 1 rfl (sx 2 rfl (sx 6 rfl (sx 7 rfl (sx 9 rfl (sx 12 rfl (sx 22 rfl (sx 31 rfl (sx 49 rfl (sx 62 rfl (sx 70 rfl (sx 71 rfl (sx 72 rfl (sub_nil _))))))))))))))) ((.cons_cons _ (.cons_cons _ (.cons_cons _ .slnil))))
          ·
           refine hl_v rfl rfl rfl (rv_ev rfl) ?_
           refine hl_less (sx 0 rfl (sx 1 rfl (sx 2 rfl (sx 6 rfl (sx 7 rfl (sx 9 rfl (sx 12 rfl (sx 14 rfl (sx 15 rfl (sx 22 rfl (sx 31 rfl (sx 49 rfl (sx 62 rfl (sx 70 rfl (sx 71 rfl (sx 72 rfl (sx 73 rfl (sx 95 rfl (sub_nil _))))))))))))))))))) (.refl _) ?_
           refine hl_nil ?_
           refine hq_then ?_
           refine hc_false rfl ?_
           refine hc_skip ?_
           refine hq_block_normal ?_
           refine hq_then ?_
           refine hc_region ?_
           refine hl_v rfl rfl rfl (rv_add rfl rfl rfl (by constructor <;> omega)) ?_
           refine hl_v rfl rfl rfl (rv_ev rfl) ?_
           refine hl_less (sx 0 rfl (sx 1 rfl (sx 2 rfl (sx 6 rfl (sx 7 rfl (sx 9 rfl (sx 12 rfl (sx 14 rfl (sx 15 rfl (sx 22 rfl (sx 31 rfl (sx 49 rfl (sx 62 rfl (sx 70 rfl (sx 71 rfl (sx 72 rfl (sx 73 rfl (sx 95 rfl (sub_nil _))))))))))))))))))) (.refl _) ?_
           refine hl_nil ?_
           exact hq_round4 (j + 1) u2 td2 os2 ⟨by omega, hqd, hdn.higher hN ht0.1 ht0.2 (by show j < (g.ks.getD ((q.n).toNat) ir0).xs.length; omega) (n := (((g.ks.getD ((q.n).toNat) ir0).xs).getD j 0)) rfl (by rw [hqd]; unfold gI; omega)⟩ (by omega) (sx 0 rfl (sx 1 rfl (sx 2 rfl (sx 6 rfl (sx 7 rfl (sx 9 rfl (sx 12 rfl (sx 22 rfl (sx 31 rfl (sx 49 rfl (sx 62 rfl (sx 70 rfl (sx 71 rfl (sx 72 rfl (sub_nil _))))))))))))))) ((.cons_cons _ (.cons_cons _ (.cons_cons _ .slnil))))
       ·
        refine hl_less (sx 0 rfl (sx 1 rfl (sx 2 rfl (sx 6 rfl (sx 7 rfl (sx 9 rfl (sx 12 rfl (sx 22 rfl (sx 31 rfl (sx 49 rfl (sx 62 rfl (sx 70 rfl (sx 71 rfl (sx 72 rfl (sx 73 rfl (sub_nil _)))))))))))))))) (.refl _) ?_
        refine hl_nil ?_
        refine hq_then ?_
        refine hc_seq ?_
        refine hc_false rfl ?_
        refine hc_exit ?_
        refine hq_then_exit ?_
        refine hq_then_exit ?_
        refine hq_block_exit ?_
        refine hq_block_normal ?_
        exact hq_round4 (M - 1) u2 td2 os2 ⟨by omega, hdn.last (by show (g.ks.getD ((q.n).toNat) ir0).xs.length ≤ j; omega)⟩ (by omega) (sx 0 rfl (sx 1 rfl (sx 2 rfl (sx 6 rfl (sx 7 rfl (sx 9 rfl (sx 22 rfl (sx 31 rfl (sub_nil _))))))))) ((.cons _ (.cons_cons _ (.cons_cons _ .slnil))))
   ·
    refine hl_less (sx 0 rfl (sx 1 rfl (sx 2 rfl (sx 6 rfl (sx 7 rfl (sx 9 rfl (sx 22 rfl (sx 31 rfl (sx 49 rfl (sub_nil _)))))))))) (.refl _) ?_
    refine hl_nil ?_
    refine hq_then ?_
    refine hc_false rfl ?_
    refine hc_exit ?_
    refine hq_then_exit ?_
    refine hq_then_exit ?_
    refine hq_block_exit ?_
    refine hq_then ?_
    refine hc_seq ?_
    refine hc_region ?_
    refine hl_v rfl rfl rfl (rv_ev rfl) ?_
    refine hl_v rfl rfl rfl (rv_ev rfl) ?_
    refine hl_less (sx 0 rfl (sx 1 rfl (sx 2 rfl (sx 6 rfl (sx 7 rfl (sx 9 rfl (sx 22 rfl (sx 31 rfl (sx 49 rfl (sub_nil _)))))))))) (.refl _) ?_
    refine hl_nil ?_
    refine hq_then ?_
    refine hc_ret ?_
    have htd : td = [] := List.eq_nil_of_length_eq_zero (by omega)
    subst htd
    exact hq_retR (post := [rowE 3 1 (.slice (some ⟨g1, 0, none⟩) ((List.replicate cs.length (0 : Int)).length) ((List.replicate cs.length (0 : Int)).length)) os.length (os.map (Value.int .i64))]) rfl rfl ((.cons _ (.cons_cons _ .slnil))) ⟨os, rfl, hdi.done hN⟩
set_option maxHeartbeats 4000000 in
set_option maxRecDepth 100000 in
theorem CostsOk_yes (d : Dev) (cs : List Int) (cv : Value) (w : World) (hd : devB d = true) (hcv : RdsW w cv 1 cs.length (cs.map (Value.int .i64))) (hcl : (cs.length : Int) = allI d) (hcr : ∀ k, k < cs.length → 1 ≤ cs.getD k 0 ∧ cs.getD k 0 ≤ 100000) :
  Calls Try.prog 29 #[.agg #[.int .i64 d.W, .int .i64 d.H, .int .i64 d.T, .int .i64 d.R], cv] w (Ans w (.bool true)) := by
 obtain ⟨ra1, ra2⟩ := all_rng hd
 refine calls_hc (N := 27) (args := [.agg #[.int .i64 d.W, .int .i64 d.H, .int .i64 d.T, .int .i64 d.R], cv]) Try.func29 rfl rfl ?_
 refine hc_less _ (sx 0 rfl (sx 1 rfl (sub_nil _))) (.refl _) ?_
 refine hc_seq ?_
 refine hc_region ?_
 refine hl_box rfl rfl rfl (rq_box rfl rfl) ?_
 intro b1
 refine hl_v rfl rfl rfl (rv_ev rfl) ?_
 refine hl_less (sx 0 rfl (sx 1 rfl (sx 2 rfl (sx 4 rfl (sub_nil _))))) (.refl _) ?_
 refine hl_nil ?_
 refine hq_then ?_
 refine hc_seq ?_
 refine hc_seq ?_
 refine hc_region ?_
 refine hl_v rfl rfl rfl (rv_loadN (cs := [.int .i64 d.W, .int .i64 d.H, .int .i64 d.T, .int .i64 d.R]) rfl (by kernel_rfl) (by kernel_rfl) rfl rfl (box_part 0 rfl 0 rfl)) ?_
 refine hl_callV rfl rfl rfl (rq_call (by kernel_rfl) rfl (fun w hm => ret_ans (implDeviceOk_any d w))) ?_
 refine hl_bool (fun h2 => ?_) (fun h2 => absurd ((hd).symm.trans h2) (by decide))
 refine hl_v rfl rfl rfl (rv_ev rfl) ?_
 refine hl_v rfl rfl rfl (rv_ev rfl) ?_
 refine hl_v rfl rfl rfl (rv_ev rfl) ?_
 refine hl_v rfl rfl rfl (rv_len rfl Try.underlying26 rfl (rd_old hcv)) ?_
 refine hl_v rfl rfl rfl (rv_loadN (cs := [.int .i64 d.W, .int .i64 d.H, .int .i64 d.T, .int .i64 d.R]) rfl (by kernel_rfl) (by kernel_rfl) rfl rfl (box_part 0 rfl 0 rfl)) ?_
 refine hl_callV rfl rfl rfl (rq_call (by kernel_rfl) rfl (fun w hm => ret_ans (implrouteNodes_yes d w hd))) ?_
 refine hl_neq rfl rfl rfl rfl rfl rfl (fun h3 => absurd h3 (by omega)) (fun h3 => ?_)
 refine hl_v rfl rfl rfl (rv_ev rfl) ?_
 refine hl_less (sx 0 rfl (sx 1 rfl (sx 2 rfl (sx 4 rfl (sx 16 rfl (sub_nil _)))))) (.refl _) ?_
 refine hl_nil ?_
 refine hq_then ?_
 refine hc_false rfl ?_
 refine hc_skip ?_
 refine hq_then ?_
 refine hc_seq ?_
 refine hc_seq ?_
 refine hc_region ?_
 refine hl_v rfl rfl rfl (rv_ev rfl) ?_
 refine hl_v rfl rfl rfl (rv_len rfl Try.underlying26 rfl (rd_old hcv)) ?_
 refine hl_v rfl rfl rfl (rv_ev rfl) ?_
 refine hl_less (sx 0 rfl (sx 1 rfl (sx 2 rfl (sx 4 rfl (sx 16 rfl (sx 17 rfl (sx 18 rfl (sx 19 rfl (sub_nil _))))))))) (.refl _) ?_
 refine hl_nil ?_
 refine hq_then ?_
 refine hc_block ?_
 refine hc_loop1 (α := Nat) (fun k => [boxE b1 #[.int .i64 d.W, .int .i64 d.H, .int .i64 d.T, .int .i64 d.R] 25]) (fun k => [(0, .agg #[.int .i64 d.W, .int .i64 d.H, .int .i64 d.T, .int .i64 d.R]), (1, cv), (2, .pointer (some ⟨b1, 0, none⟩)), (4, .bool false), (16, .bool false), (17, cv), (18, .int .i64 (cs.length : Int)), (19, .int .i64 (k : Int))]) (fun k => k ≤ cs.length) (fun k => cs.length - k) 0 (by omega) (sx 0 rfl (sx 1 rfl (sx 2 rfl (sx 4 rfl (sx 16 rfl (sx 17 rfl (sx 18 rfl (sx 19 rfl (sub_nil _))))))))) ((.cons_cons _ .slnil)) ?_
 intro k hi4
 have hk := hi4
 refine hc_seq ?_
 refine hc_region ?_
 refine hl_lss rfl rfl rfl rfl rfl rfl (fun h5 => ?_) (fun h5 => ?_)
 ·
  refine hl_less (sx 0 rfl (sx 1 rfl (sx 2 rfl (sx 4 rfl (sx 16 rfl (sx 17 rfl (sx 18 rfl (sx 19 rfl (sx 20 rfl (sub_nil _)))))))))) (.refl _) ?_
  refine hl_nil ?_
  refine hq_then ?_
  refine hc_seq ?_
  refine hc_true rfl ?_
  refine hc_skip ?_
  refine hq_then ?_
  refine hc_seq ?_
  refine hc_block ?_
  refine hc_seq ?_
  refine hc_region ?_
  refine hl_v rfl rfl rfl (rv_index (s := 1) rfl Try.underlying26 (by kernel_rfl) rfl rfl (rd_old hcv) (by omega) (by first | omega | (simp only [List.length_set]; omega))) ?_
  refine hl_v rfl rfl rfl (rv_loadEl (u := .int .i64 (cs.getD k 0)) rfl (by kernel_rfl) rfl (rd_old hcv) (ints_at1 (show _ < cs.length by first | omega | (simp only [List.length_set]; omega)))) ?_
  refine hl_v rfl rfl rfl (rv_ev rfl) ?_
  refine hl_less (sx 0 rfl (sx 1 rfl (sx 2 rfl (sx 4 rfl (sx 6 rfl (sx 16 rfl (sx 17 rfl (sx 18 rfl (sx 19 rfl (sx 20 rfl (sub_nil _))))))))))) (.refl _) ?_
  refine hl_nil ?_
  refine hq_then ?_
  refine hc_seq ?_
  refine hc_region ?_
  refine hl_v rfl rfl rfl (rv_ev rfl) ?_
  refine hl_callV rfl rfl rfl (rq_call (by kernel_rfl) rfl (fun w hm => ret_ans (ans_of (inRange_any _ _ _ w)))) ?_
  refine hl_bool (fun h6 => ?_) (fun h6 => absurd (((inr_in (by first | omega | exact hcr k (by omega)))).symm.trans h6) (by decide))
  refine hl_v rfl rfl rfl (rv_ev rfl) ?_
  refine hl_less (sx 0 rfl (sx 1 rfl (sx 2 rfl (sx 4 rfl (sx 6 rfl (sx 16 rfl (sx 17 rfl (sx 18 rfl (sx 19 rfl (sx 20 rfl (sx 25 rfl (sub_nil _)))))))))))) (.refl _) ?_
  refine hl_nil ?_
  refine hq_then ?_
  refine hc_false rfl ?_
  refine hc_skip ?_
  refine hq_block_normal ?_
  refine hq_then ?_
  refine hc_region ?_
  refine hl_v rfl rfl rfl (rv_add rfl rfl rfl (by constructor <;> omega)) ?_
  refine hl_v rfl rfl rfl (rv_ev rfl) ?_
  refine hl_less (sx 0 rfl (sx 1 rfl (sx 2 rfl (sx 4 rfl (sx 6 rfl (sx 16 rfl (sx 17 rfl (sx 18 rfl (sx 19 rfl (sx 20 rfl (sx 25 rfl (sub_nil _)))))))))))) (.refl _) ?_
  refine hl_nil ?_
  exact hq_round1 (k + 1) (by omega) (by omega) (sx 0 rfl (sx 1 rfl (sx 2 rfl (sx 4 rfl (sx 16 rfl (sx 17 rfl (sx 18 rfl (sx 19 rfl (sub_nil _))))))))) ((.cons_cons _ .slnil))
 ·
  refine hl_less (sx 0 rfl (sx 1 rfl (sx 2 rfl (sx 4 rfl (sx 16 rfl (sx 17 rfl (sx 18 rfl (sx 19 rfl (sx 20 rfl (sub_nil _)))))))))) (.refl _) ?_
  refine hl_nil ?_
  refine hq_then ?_
  refine hc_seq ?_
  refine hc_false rfl ?_
  refine hc_exit ?_
  refine hq_then_exit ?_
  refine hq_then_exit ?_
  refine hq_block_exit ?_
  refine hq_then ?_
  refine hc_seq ?_
  refine hc_region ?_
  refine hl_v rfl rfl rfl (rv_ev rfl) ?_
  refine hl_less (sx 0 rfl (sx 1 rfl (sx 2 rfl (sx 4 rfl (sx 16 rfl (sx 17 rfl (sx 18 rfl (sx 19 rfl (sx 20 rfl (sub_nil _)))))))))) (.refl _) ?_
  refine hl_nil ?_
  refine hq_then ?_
  refine hc_ret ?_
  exact hq_ans rfl rfl rfl
theorem GrOk.srcs' {d : Dev} {g : Gr} {cs : List Int} (h : GrOk d (allI d).toNat g) (hd : devB d = true) (hcl : (cs.length : Int) = allI d) (hcr : ∀ k, k < cs.length → 1 ≤ cs.getD k 0 ∧ cs.getD k 0 ≤ 100000) : GrS cs.length (srcI d) (kOf g.ks) cs := by
  have e : (allI d).toNat = cs.length := by omega
  rw [e] at h
  exact h.srcs hd hcl rfl hcr
theorem app_rng {zs : List Int} {x : Int} (h : ∀ i, i < zs.length → 1 ≤ zs.getD i 0 ∧ zs.getD i 0 ≤ 50) (hx : 1 ≤ x ∧ x ≤ 50) : ∀ i, i < (zs ++ [x]).length → 1 ≤ (zs ++ [x]).getD i 0 ∧ (zs ++ [x]).getD i 0 ≤ 50 := fun i hi => by
  rw [List.length_append, List.length_singleton] at hi
  by_cases hc : i < zs.length
  · rw [gl_o hc]; exact h i hc
  · rw [gr (by omega), show i - zs.length = 0 by omega]; exact hx
theorem gc0 {x : Int} {xs : List Int} : ([x] ++ xs).getD 0 0 = x := rfl
theorem gcS {x : Int} {xs : List Int} (i : Nat) : ([x] ++ xs).getD (i + 1) 0 = xs.getD i 0 := rfl
/-- a cheapest path from x on to t -/
structure CP (N : Nat) (S : Int → List Int) (cs st D : List Int) (t x : Int) (xs : List Int) : Prop where
  l0 : 1 ≤ xs.length
  first : xs.getD 0 0 = x
  last : xs.getD (xs.length - 1) 0 = t
  rng : ∀ i, i < xs.length → 0 ≤ xs.getD i 0 ∧ xs.getD i 0 < N
  chain : ∀ i, i + 1 < xs.length → xs.getD i 0 ∈ S (xs.getD (i + 1) 0) ∧ 0 ≤ gI D (xs.getD i 0) ∧ gI D (xs.getD (i + 1) 0) = gI D (xs.getD i 0) + gI cs (xs.getD (i + 1) 0)
  nst : ∀ i, i + 1 < xs.length → ¬ xs.getD (i + 1) 0 ∈ st
  pos : 0 ≤ gI D x
  len : gI D x + xs.length ≤ gI D t + 1
theorem cp_one {N : Nat} {S : Int → List Int} {cs st D : List Int} {t : Int} (h0 : 0 ≤ t) (h1 : t < N) (hp : 0 ≤ gI D t) : CP N S cs st D t t [t] :=
  ⟨by simp, rfl, rfl, fun i hi => by have : i = 0 := by simpa using hi
                                     subst this; exact ⟨h0, h1⟩, fun i hi => by simp at hi, fun i hi => by simp at hi, hp, by simp⟩
end Go.Proofs.Ytagjmgfcbmbkhaa
