/- PrimeCubes: the walk. -/
import Derived.Test.YteccnnpcigkmhaaCov1
set_option linter.unusedVariables false
set_option linter.unusedSimpArgs false
namespace Go.Proofs.Yteccnnpcigkmhaa
open Go.RowKit

theorem pr_eq {b : Bool} {x y : Nat × Nat} (h : neC x.1 x.2 y.1 y.2 = false) : b = (b && (x == y || !cov1 x y)) := by
  rw [neC_eq] at h; have h2 : (x == y) = true := by simpa using h
  simp [h2]
theorem pr_no1 {b : Bool} {x y : Nat × Nat} (hx : x.1 < 16) (hy : y.1 < 16) (h : bits BinOp.andNot IntKind.i64 (x.1 : Int) (y.1 : Int) ≠ 0) : b = (b && (x == y || !cov1 x y)) := by
  have h2 : cov1 x y = false := by unfold cov1; rw [Bool.and_eq_false_iff]; left; exact beq_false_of_ne (fun e => h ((an_iff hx hy).2 e))
  simp [h2]
theorem pr_no2 {b : Bool} {x y : Nat × Nat} (h : ((y.2 &&& x.1 : Nat) : Int) ≠ (x.2 : Int)) : b = (b && (x == y || !cov1 x y)) := by
  have h2 : cov1 x y = false := by unfold cov1; rw [Bool.and_eq_false_iff]; right; exact beq_false_of_ne (fun e => h (by omega))
  simp [h2]
theorem pr_yes {b : Bool} {x y : Nat × Nat} (hx : x.1 < 16) (hy : y.1 < 16) (h0 : neC x.1 x.2 y.1 y.2 = true) (h : bits BinOp.andNot IntKind.i64 (x.1 : Int) (y.1 : Int) = 0) (h3 : ((y.2 &&& x.1 : Nat) : Int) = (x.2 : Int)) : false = (b && (x == y || !cov1 x y)) := by
  rw [neC_eq] at h0; have h2 : (x == y) = false := by simpa using h0
  have h4 : cov1 x y = true := by unfold cov1; rw [(an_iff hx hy).1 h]; simp; omega
  simp [h2, h4]
set_option maxHeartbeats 4000000 in
set_option maxRecDepth 100000 in
theorem PrimeCubes_ret (t : Tab) (w : World) (ht : TabOk t) :
    Calls Try.prog 12 #[.agg #[.int .i64 t.N, .int .i64 t.B]] w (Ret w (fun v' post => post = [rowE 30 2 v' (primesN t).length ((primesN t).flatMap cubC)])) := by
  have hn := ht.1
  have hp := pn_rng hn
  refine calls_hc (N := 86) (args := [.agg #[.int .i64 t.N, .int .i64 t.B]]) Try.func12 rfl rfl ?_
  refine hc_less _ (sub_cons (d := 0) rfl (sub_nil _)) (.refl _) ?_
  refine hc_seq ?_
  refine hc_region ?_
  refine hl_box rfl rfl rfl (rq_box rfl rfl) ?_
  intro b1
  refine hl_v rfl rfl rfl (rv_ev rfl) ?_
  refine hl_less (sub_cons (d := 0) rfl (sub_cons (d := 1) rfl (sub_cons (d := 2) rfl (sub_nil _)))) (.refl _) ?_
  refine hl_nil ?_
  refine hq_then ?_
  refine hc_seq ?_
  refine hc_seq ?_
  refine hc_region ?_
  refine hl_v rfl rfl rfl (rv_loadN (cs := [.int .i64 t.N, .int .i64 t.B]) rfl (by kernel_rfl) (by kernel_rfl) rfl rfl (box_part 0 rfl 0 rfl)) ?_
  refine hl_callV rfl rfl rfl (rq_call (by kernel_rfl) rfl (fun w hm => ret_ans (implTableOk_yes t w ht))) ?_
  refine hl_v rfl rfl rfl (rv_ev rfl) ?_
  refine hl_less (sub_cons (d := 0) rfl (sub_cons (d := 1) rfl (sub_cons (d := 2) rfl (sub_cons (d := 15) rfl (sub_nil _))))) (.refl _) ?_
  refine hl_nil ?_
  refine hq_then ?_
  refine hc_false rfl ?_
  refine hc_skip ?_
  refine hq_then ?_
  refine hc_seq ?_
  refine hc_region ?_
  refine hl_nilRow 30 2 ?_
  refine hl_eqL (l' := [rowE 30 2 (.slice none 0 0) (([] : List (Nat × Nat)).length) (([] : List (Nat × Nat)).flatMap cubC), boxE b1 #[.int .i64 t.N, .int .i64 t.B] 25]) rfl ?_
  refine hl_v rfl rfl rfl (rv_ev rfl) ?_
  refine hl_nilRow 30 2 ?_
  refine hl_eqL (l' := [rowE 30 2 (.slice none 0 0) (([] : List (Nat × Nat)).length) (([] : List (Nat × Nat)).flatMap cubC), rowE 30 2 (.slice none 0 0) (([] : List (Nat × Nat)).length) (([] : List (Nat × Nat)).flatMap cubC), boxE b1 #[.int .i64 t.N, .int .i64 t.B] 25]) rfl ?_
  refine hl_v rfl rfl rfl (rv_ev rfl) ?_
  refine hl_less (sub_cons (d := 0) rfl (sub_cons (d := 1) rfl (sub_cons (d := 2) rfl (sub_cons (d := 3) rfl (sub_cons (d := 4) rfl (sub_cons (d := 15) rfl (sub_nil _))))))) (.refl _) ?_
  refine hl_nil ?_
  refine hq_then ?_
  refine hc_seq ?_
  refine hc_seq ?_
  refine hc_region ?_
  refine hl_v rfl rfl rfl (rv_ev rfl) ?_
  refine hl_less (sub_cons (d := 0) rfl (sub_cons (d := 1) rfl (sub_cons (d := 2) rfl (sub_cons (d := 3) rfl (sub_cons (d := 4) rfl (sub_cons (d := 5) rfl (sub_cons (d := 15) rfl (sub_nil _)))))))) (.refl _) ?_
  refine hl_nil ?_
  refine hq_then ?_
  refine hc_block ?_
  refine hc_loop3 (α := Nat) (β := Value) (γ := List (Nat × Nat)) (fun k u zs => [rowE 30 2 (.slice none 0 0) (([] : List (Nat × Nat)).length) (([] : List (Nat × Nat)).flatMap cubC), rowE 30 2 u zs.length (zs.flatMap cubC), boxE b1 #[.int .i64 t.N, .int .i64 t.B] 25]) (fun k u zs => [(0, .agg #[.int .i64 t.N, .int .i64 t.B]), (1, .pointer (some ⟨b1, 0, none⟩)), (2, .slice none 0 0), (3, u), (4, .slice none 0 0), (5, .int .i64 (k : Int)), (15, .bool false)]) (fun k u zs => k ≤ pn t.N ∧ zs = allA (tabB t) (pn t.N) k) (fun k u zs => pn t.N - k) 0 _ [] ⟨by omega, rfl⟩ (sub_cons (d := 0) rfl (sub_cons (d := 1) rfl (sub_cons (d := 2) rfl (sub_cons (d := 3) rfl (sub_cons (d := 4) rfl (sub_cons (d := 5) rfl (sub_cons (d := 15) rfl (sub_nil _)))))))) ((.cons_cons _ (.cons_cons _ (.cons_cons _ .slnil)))) ?_
  intro k u zs hi4
  obtain ⟨hk, hz⟩ := hi4
  refine hc_seq ?_
  refine hc_seq ?_
  refine hc_region ?_
  refine hl_v rfl rfl rfl (rv_ev rfl) ?_
  refine hl_v rfl rfl rfl (rv_field (k0 := 0) rfl (by kernel_rfl) rfl) ?_
  refine hl_v rfl rfl rfl (rv_load rfl (by kernel_rfl) rfl (box_cell 2 rfl rfl)) ?_
  refine hl_v rfl rfl rfl (rv_conv rfl Try.underlying3 Try.underlying68 rfl (IntWalk.u64_in _ (by omega))) ?_
  refine hl_v rfl rfl rfl (rv_shlG (k := .i64) (kk := .u64) (r := (pn t.N : Int)) rfl rfl rfl rfl (by omega) (wr1 hn)) ?_
  refine hl_lss rfl rfl rfl rfl rfl rfl (fun h5 => ?_) (fun h5 => ?_)
  ·
    refine hl_less (sub_cons (d := 0) rfl (sub_cons (d := 1) rfl (sub_cons (d := 2) rfl (sub_cons (d := 3) rfl (sub_cons (d := 4) rfl (sub_cons (d := 5) rfl (sub_cons (d := 15) rfl (sub_cons (d := 21) rfl (sub_nil _))))))))) (.refl _) ?_
    refine hl_nil ?_
    refine hq_then ?_
    refine hc_true rfl ?_
    refine hc_skip ?_
    refine hq_then ?_
    refine hc_seq ?_
    refine hc_block ?_
    refine hc_seq ?_
    refine hc_region ?_
    refine hl_v rfl rfl rfl (rv_ev rfl) ?_
    refine hl_less (sub_cons (d := 0) rfl (sub_cons (d := 1) rfl (sub_cons (d := 2) rfl (sub_cons (d := 3) rfl (sub_cons (d := 4) rfl (sub_cons (d := 5) rfl (sub_cons (d := 6) rfl (sub_cons (d := 15) rfl (sub_cons (d := 21) rfl (sub_nil _)))))))))) (.refl _) ?_
    refine hl_nil ?_
    refine hq_then ?_
    refine hc_block ?_
    refine hc_loop3 (α := Nat) (β := Value) (γ := List (Nat × Nat)) (fun j u2 ys => [rowE 30 2 (.slice none 0 0) (([] : List (Nat × Nat)).length) (([] : List (Nat × Nat)).flatMap cubC), rowE 30 2 u2 ys.length (ys.flatMap cubC), boxE b1 #[.int .i64 t.N, .int .i64 t.B] 25]) (fun j u2 ys => [(0, .agg #[.int .i64 t.N, .int .i64 t.B]), (1, .pointer (some ⟨b1, 0, none⟩)), (2, .slice none 0 0), (3, u2), (4, .slice none 0 0), (5, .int .i64 (k : Int)), (6, .int .i64 (j : Int)), (15, .bool false), (21, .bool true)]) (fun j u2 ys => j ≤ k + 1 ∧ ys = allA (tabB t) (pn t.N) k ++ rowA (tabB t) (pn t.N) k j) (fun j u2 ys => k + 1 - j) 0 _ zs ⟨by omega, by rw [hz]; simp [rowA]⟩ (sub_cons (d := 0) rfl (sub_cons (d := 1) rfl (sub_cons (d := 2) rfl (sub_cons (d := 3) rfl (sub_cons (d := 4) rfl (sub_cons (d := 5) rfl (sub_cons (d := 6) rfl (sub_cons (d := 15) rfl (sub_cons (d := 21) rfl (sub_nil _)))))))))) ((.cons_cons _ (.cons_cons _ (.cons_cons _ .slnil)))) ?_
    intro j u2 ys hi6
    obtain ⟨hj, hy⟩ := hi6
    have hyl : ys.length ≤ 300 := by rw [hy, List.length_append]; have := allA_len (tabB t) (pn t.N) k (by omega); have := rowA_len (tabB t) (pn t.N) k j; omega
    refine hc_seq ?_
    refine hc_seq ?_
    refine hc_region ?_
    refine hl_v rfl rfl rfl (rv_ev rfl) ?_
    refine hl_v rfl rfl rfl (rv_ev rfl) ?_
    refine hl_leq rfl rfl rfl rfl rfl rfl (fun h7 => ?_) (fun h7 => ?_)
    ·
      refine hl_less (sub_cons (d := 0) rfl (sub_cons (d := 1) rfl (sub_cons (d := 2) rfl (sub_cons (d := 3) rfl (sub_cons (d := 4) rfl (sub_cons (d := 5) rfl (sub_cons (d := 6) rfl (sub_cons (d := 15) rfl (sub_cons (d := 21) rfl (sub_cons (d := 26) rfl (sub_nil _))))))))))) (.refl _) ?_
      refine hl_nil ?_
      refine hq_then ?_
      refine hc_true rfl ?_
      refine hc_skip ?_
      refine hq_then ?_
      refine hc_seq ?_
      refine hc_block ?_
      refine hc_seq ?_
      refine hc_region ?_
      refine hl_v rfl rfl rfl (rv_ev rfl) ?_
      refine hl_v rfl rfl rfl (rv_ev rfl) ?_
      refine hl_v rfl rfl rfl (rv_build (cs := #[.int .i64 (k : Int), .int .i64 (j : Int)]) rfl rfl (by kernel_rfl)) ?_
      refine hl_box rfl rfl rfl (rq_alloc (z := .agg #[.int .i64 0, .int .i64 0]) rfl (by kernel_rfl)) ?_
      intro b8
      refine hl_storeBoxN (i := 0) (off := 0) (us := [.int .i64 (k : Int), .int .i64 (j : Int)]) (l' := [boxE b8 #[.int .i64 (k : Int), .int .i64 (j : Int)] 30, rowE 30 2 (.slice none 0 0) (([] : List (Nat × Nat)).length) (([] : List (Nat × Nat)).flatMap cubC), rowE 30 2 u2 ys.length (ys.flatMap cubC), boxE b1 #[.int .i64 t.N, .int .i64 t.B] 25]) rfl rfl rfl (by kernel_rfl) rfl rfl rfl (all_cons rfl (all_cons rfl all_nil)) rfl rfl rfl ?_
      refine hl_less (sub_cons (d := 0) rfl (sub_cons (d := 1) rfl (sub_cons (d := 2) rfl (sub_cons (d := 3) rfl (sub_cons (d := 4) rfl (sub_cons (d := 5) rfl (sub_cons (d := 6) rfl (sub_cons (d := 7) rfl (sub_cons (d := 15) rfl (sub_cons (d := 21) rfl (sub_cons (d := 26) rfl (sub_nil _)))))))))))) (.refl _) ?_
      refine hl_nil ?_
      refine hq_then ?_
      refine hc_seq ?_
      refine hc_region ?_
      refine hl_v rfl rfl rfl (rv_ev rfl) ?_
      refine hl_v rfl rfl rfl (rv_ev rfl) ?_
      refine hl_v rfl rfl rfl (rv_bits rfl (by decide) rfl rfl (r := bits .andNot .i64 (j : Int) (k : Int)) rfl) ?_
      refine hl_eql rfl rfl rfl rfl rfl rfl (fun h9 => ?_) (fun h9 => ?_)
      ·
        refine hl_v rfl rfl rfl (rv_ev rfl) ?_
        refine hl_v rfl rfl rfl (rv_loadN (cs := [.int .i64 t.N, .int .i64 t.B]) rfl (by kernel_rfl) (by kernel_rfl) rfl rfl (box_part 3 rfl 0 rfl)) ?_
        refine hl_v rfl rfl rfl (rv_loadN (cs := [.int .i64 (k : Int), .int .i64 (j : Int)]) rfl (by kernel_rfl) (by kernel_rfl) rfl rfl (box_part 0 rfl 0 rfl)) ?_
        refine hl_callV rfl rfl rfl (rq_call (by kernel_rfl) rfl (fun w hm => ret_ans (isImplicant_ans t k j w ht (by omega) (by omega)))) ?_
        refine hl_bool (fun h10 => ?_) (fun h10 => ?_)
        ·
          refine hl_v rfl rfl rfl (rv_ev rfl) ?_
          refine hl_less (sub_cons (d := 0) rfl (sub_cons (d := 1) rfl (sub_cons (d := 2) rfl (sub_cons (d := 3) rfl (sub_cons (d := 4) rfl (sub_cons (d := 5) rfl (sub_cons (d := 6) rfl (sub_cons (d := 7) rfl (sub_cons (d := 15) rfl (sub_cons (d := 21) rfl (sub_cons (d := 26) rfl (sub_cons (d := 40) rfl (sub_nil _))))))))))))) (.refl _) ?_
          refine hl_nil ?_
          refine hq_then ?_
          refine hc_true rfl ?_
          refine hc_region ?_
          refine hl_v rfl rfl rfl (rv_ev rfl) ?_
          refine hl_v rfl rfl rfl (rv_loadN (cs := [.int .i64 (k : Int), .int .i64 (j : Int)]) rfl (by kernel_rfl) (by kernel_rfl) rfl rfl (box_part 0 rfl 0 rfl)) ?_
          refine hl_row rfl rfl rfl (rq_buildSlice (z := .agg #[.int .i64 0, .int .i64 0]) (s := 2) (cs := ([(k : Int), (j : Int)].map (Value.int .i64))) rfl Try.underlying33 (by kernel_rfl) (by decide) rfl (by kernel_rfl) rfl) ?_
          intro g11
          refine hl_append (i := 3) (z := .agg #[.int .i64 0, .int .i64 0]) (bytes := 16) (n' := (ys ++ [(k, j)]).length) (xs' := ((ys ++ [(k, j)]).flatMap cubC)) (L := fun v12 => [rowE 30 2 (.slice (some ⟨g11, 0, none⟩) 1 1) 1 ([(k : Int), (j : Int)].map (Value.int .i64)), boxE b8 #[.int .i64 (k : Int), .int .i64 (j : Int)] 30, rowE 30 2 (.slice none 0 0) (([] : List (Nat × Nat)).length) (([] : List (Nat × Nat)).flatMap cubC), rowE 30 2 v12 ((ys ++ [(k, j)]).length) ((ys ++ [(k, j)]).flatMap cubC), boxE b1 #[.int .i64 t.N, .int .i64 t.B] 25]) rfl rfl rfl rfl Try.underlying33 (by kernel_rfl) (by kernel_rfl) rfl rfl rfl (rd_row 0 rfl) (by simp [Value.oneCell']) (by first | omega | (simp only [List.length_append, List.length_cons, List.length_nil]; omega)) (len_app ys [(k, j)]) (flat_app1 cubC ys (k, j) _ rfl) (fun _ => rfl) ?_
          intro v12
          refine hl_v rfl rfl rfl (rv_ev rfl) ?_
          refine hl_less (sub_cons (d := 0) rfl (sub_cons (d := 1) rfl (sub_cons (d := 2) rfl (sub_cons (d := 3) rfl (sub_cons (d := 4) rfl (sub_cons (d := 5) rfl (sub_cons (d := 6) rfl (sub_cons (d := 7) rfl (sub_cons (d := 15) rfl (sub_cons (d := 21) rfl (sub_cons (d := 26) rfl (sub_cons (d := 40) rfl (sub_nil _))))))))))))) (.refl _) ?_
          refine hl_nil ?_
          refine hq_block_normal ?_
          refine hq_then ?_
          refine hc_region ?_
          refine hl_v rfl rfl rfl (rv_ev rfl) ?_
          refine hl_v rfl rfl rfl (rv_add rfl rfl rfl (by constructor <;> omega)) ?_
          refine hl_v rfl rfl rfl (rv_ev rfl) ?_
          refine hl_less (sub_cons (d := 0) rfl (sub_cons (d := 1) rfl (sub_cons (d := 2) rfl (sub_cons (d := 3) rfl (sub_cons (d := 4) rfl (sub_cons (d := 5) rfl (sub_cons (d := 6) rfl (sub_cons (d := 7) rfl (sub_cons (d := 15) rfl (sub_cons (d := 21) rfl (sub_cons (d := 26) rfl (sub_cons (d := 40) rfl (sub_nil _))))))))))))) (.refl _) ?_
          refine hl_nil ?_
          exact hq_round3 (j + 1) v12 (ys ++ [(k, j)]) ⟨by omega, by rw [rowA_yes ((an_iff (by omega) (by omega)).1 (by assumption)) (by assumption), ← List.append_assoc, ← hy]⟩ (by omega) (sub_cons (d := 0) rfl (sub_cons (d := 1) rfl (sub_cons (d := 2) rfl (sub_cons (d := 3) rfl (sub_cons (d := 4) rfl (sub_cons (d := 5) rfl (sub_cons (d := 6) rfl (sub_cons (d := 15) rfl (sub_cons (d := 21) rfl (sub_nil _)))))))))) ((.cons _ (.cons _ (.cons_cons _ (.cons_cons _ (.cons_cons _ .slnil))))))
        ·
          refine hl_v rfl rfl rfl (rv_ev rfl) ?_
          refine hl_less (sub_cons (d := 0) rfl (sub_cons (d := 1) rfl (sub_cons (d := 2) rfl (sub_cons (d := 3) rfl (sub_cons (d := 4) rfl (sub_cons (d := 5) rfl (sub_cons (d := 6) rfl (sub_cons (d := 7) rfl (sub_cons (d := 15) rfl (sub_cons (d := 21) rfl (sub_cons (d := 26) rfl (sub_cons (d := 40) rfl (sub_nil _))))))))))))) (.refl _) ?_
          refine hl_nil ?_
          refine hq_then ?_
          refine hc_false rfl ?_
          refine hc_skip ?_
          refine hq_block_normal ?_
          refine hq_then ?_
          refine hc_region ?_
          refine hl_v rfl rfl rfl (rv_ev rfl) ?_
          refine hl_v rfl rfl rfl (rv_add rfl rfl rfl (by constructor <;> omega)) ?_
          refine hl_v rfl rfl rfl (rv_ev rfl) ?_
          refine hl_less (sub_cons (d := 0) rfl (sub_cons (d := 1) rfl (sub_cons (d := 2) rfl (sub_cons (d := 3) rfl (sub_cons (d := 4) rfl (sub_cons (d := 5) rfl (sub_cons (d := 6) rfl (sub_cons (d := 7) rfl (sub_cons (d := 15) rfl (sub_cons (d := 21) rfl (sub_cons (d := 26) rfl (sub_cons (d := 40) rfl (sub_nil _))))))))))))) (.refl _) ?_
          refine hl_nil ?_
          exact hq_round3 (j + 1) u2 ys ⟨by omega, by first | (rw [rowA_no1 (fun he => absurd ((an_iff (by omega) (by omega)).2 he) (by assumption))]; exact hy) | (rw [rowA_no2 (by assumption)]; exact hy)⟩ (by omega) (sub_cons (d := 0) rfl (sub_cons (d := 1) rfl (sub_cons (d := 2) rfl (sub_cons (d := 3) rfl (sub_cons (d := 4) rfl (sub_cons (d := 5) rfl (sub_cons (d := 6) rfl (sub_cons (d := 15) rfl (sub_cons (d := 21) rfl (sub_nil _)))))))))) ((.cons _ (.cons_cons _ (.cons_cons _ (.cons_cons _ .slnil)))))
      ·
        refine hl_v rfl rfl rfl (rv_ev rfl) ?_
        refine hl_skip rfl rfl rfl ?_
        refine hl_skip rfl rfl rfl ?_
        refine hl_skip rfl rfl rfl ?_
        refine hl_v rfl rfl rfl (rv_ev rfl) ?_
        refine hl_less (sub_cons (d := 0) rfl (sub_cons (d := 1) rfl (sub_cons (d := 2) rfl (sub_cons (d := 3) rfl (sub_cons (d := 4) rfl (sub_cons (d := 5) rfl (sub_cons (d := 6) rfl (sub_cons (d := 7) rfl (sub_cons (d := 15) rfl (sub_cons (d := 21) rfl (sub_cons (d := 26) rfl (sub_cons (d := 40) rfl (sub_nil _))))))))))))) (.refl _) ?_
        refine hl_nil ?_
        refine hq_then ?_
        refine hc_false rfl ?_
        refine hc_skip ?_
        refine hq_block_normal ?_
        refine hq_then ?_
        refine hc_region ?_
        refine hl_v rfl rfl rfl (rv_ev rfl) ?_
        refine hl_v rfl rfl rfl (rv_add rfl rfl rfl (by constructor <;> omega)) ?_
        refine hl_v rfl rfl rfl (rv_ev rfl) ?_
        refine hl_less (sub_cons (d := 0) rfl (sub_cons (d := 1) rfl (sub_cons (d := 2) rfl (sub_cons (d := 3) rfl (sub_cons (d := 4) rfl (sub_cons (d := 5) rfl (sub_cons (d := 6) rfl (sub_cons (d := 7) rfl (sub_cons (d := 15) rfl (sub_cons (d := 21) rfl (sub_cons (d := 26) rfl (sub_cons (d := 40) rfl (sub_nil _))))))))))))) (.refl _) ?_
        refine hl_nil ?_
        exact hq_round3 (j + 1) u2 ys ⟨by omega, by first | (rw [rowA_no1 (fun he => absurd ((an_iff (by omega) (by omega)).2 he) (by assumption))]; exact hy) | (rw [rowA_no2 (by assumption)]; exact hy)⟩ (by omega) (sub_cons (d := 0) rfl (sub_cons (d := 1) rfl (sub_cons (d := 2) rfl (sub_cons (d := 3) rfl (sub_cons (d := 4) rfl (sub_cons (d := 5) rfl (sub_cons (d := 6) rfl (sub_cons (d := 15) rfl (sub_cons (d := 21) rfl (sub_nil _)))))))))) ((.cons _ (.cons_cons _ (.cons_cons _ (.cons_cons _ .slnil)))))
    ·
      refine hl_less (sub_cons (d := 0) rfl (sub_cons (d := 1) rfl (sub_cons (d := 2) rfl (sub_cons (d := 3) rfl (sub_cons (d := 4) rfl (sub_cons (d := 5) rfl (sub_cons (d := 6) rfl (sub_cons (d := 15) rfl (sub_cons (d := 21) rfl (sub_cons (d := 26) rfl (sub_nil _))))))))))) (.refl _) ?_
      refine hl_nil ?_
      refine hq_then ?_
      refine hc_false rfl ?_
      refine hc_exit ?_
      refine hq_then_exit ?_
      refine hq_then_exit ?_
      refine hq_block_exit ?_
      refine hq_block_normal ?_
      refine hq_then ?_
      refine hc_region ?_
      refine hl_v rfl rfl rfl (rv_ev rfl) ?_
      refine hl_v rfl rfl rfl (rv_add rfl rfl rfl (by constructor <;> omega)) ?_
      refine hl_v rfl rfl rfl (rv_ev rfl) ?_
      refine hl_less (sub_cons (d := 0) rfl (sub_cons (d := 1) rfl (sub_cons (d := 2) rfl (sub_cons (d := 3) rfl (sub_cons (d := 4) rfl (sub_cons (d := 5) rfl (sub_cons (d := 6) rfl (sub_cons (d := 15) rfl (sub_cons (d := 21) rfl (sub_cons (d := 26) rfl (sub_nil _))))))))))) (.refl _) ?_
      refine hl_nil ?_
      exact hq_round3 (k + 1) u2 ys ⟨by omega, by rw [allA_succ, ← show j = k + 1 by omega]; exact hy⟩ (by omega) (sub_cons (d := 0) rfl (sub_cons (d := 1) rfl (sub_cons (d := 2) rfl (sub_cons (d := 3) rfl (sub_cons (d := 4) rfl (sub_cons (d := 5) rfl (sub_cons (d := 15) rfl (sub_nil _)))))))) ((.cons_cons _ (.cons_cons _ (.cons_cons _ .slnil))))
  ·
    refine hl_less (sub_cons (d := 0) rfl (sub_cons (d := 1) rfl (sub_cons (d := 2) rfl (sub_cons (d := 3) rfl (sub_cons (d := 4) rfl (sub_cons (d := 5) rfl (sub_cons (d := 15) rfl (sub_cons (d := 21) rfl (sub_nil _))))))))) (.refl _) ?_
    refine hl_nil ?_
    refine hq_then ?_
    refine hc_false rfl ?_
    refine hc_exit ?_
    refine hq_then_exit ?_
    refine hq_then_exit ?_
    refine hq_block_exit ?_
    refine hq_then ?_
    refine hc_seq ?_
    refine hc_seq ?_
    refine hc_region ?_
    have hkp : k = pn t.N := by omega
    have hz2 : zs = allA (tabB t) (pn t.N) (pn t.N) := by rw [hz, hkp]
    have hzl : zs.length ≤ 300 := by rw [hz2]; have := allA_len (tabB t) (pn t.N) (pn t.N) (by omega); omega
    have hmem : ∀ q, q < zs.length → (zs.getD q c0).1 < 16 ∧ (zs.getD q c0).2 < 16 := fun q hq => by have h0 := getD_mem' (es := zs) (d := c0) hq; have h1 := mem_allA.1 (show zs.getD q c0 ∈ allA (tabB t) (pn t.N) (pn t.N) from by rw [← hz2]; exact h0); omega
    refine hl_v rfl rfl rfl (rv_ev rfl) ?_
    refine hl_v rfl rfl rfl (rv_len rfl Try.underlying33 rfl (rd_row 1 rfl)) ?_
    refine hl_v rfl rfl rfl (rv_ev rfl) ?_
    refine hl_less (sub_cons (d := 0) rfl (sub_cons (d := 1) rfl (sub_cons (d := 2) rfl (sub_cons (d := 3) rfl (sub_cons (d := 4) rfl (sub_cons (d := 5) rfl (sub_cons (d := 15) rfl (sub_cons (d := 21) rfl (sub_cons (d := 45) rfl (sub_cons (d := 46) rfl (sub_cons (d := 47) rfl (sub_nil _)))))))))))) (.refl _) ?_
    refine hl_nil ?_
    refine hq_then ?_
    refine hc_block ?_
    refine hc_loop3 (α := Nat) (β := Value) (γ := List (Nat × Nat)) (fun i v vs => [rowE 30 2 v vs.length (vs.flatMap cubC), rowE 30 2 u zs.length (zs.flatMap cubC), boxE b1 #[.int .i64 t.N, .int .i64 t.B] 25]) (fun i v vs => [(0, .agg #[.int .i64 t.N, .int .i64 t.B]), (1, .pointer (some ⟨b1, 0, none⟩)), (2, .slice none 0 0), (3, u), (4, v), (5, .int .i64 (k : Int)), (15, .bool false), (21, .bool false), (45, u), (46, .int .i64 (zs.length : Int)), (47, .int .i64 (i : Int))]) (fun i v vs => i ≤ zs.length ∧ vs = outN zs i) (fun i v vs => zs.length - i) 0 _ [] ⟨by omega, rfl⟩ (sub_cons (d := 0) rfl (sub_cons (d := 1) rfl (sub_cons (d := 2) rfl (sub_cons (d := 3) rfl (sub_cons (d := 4) rfl (sub_cons (d := 5) rfl (sub_cons (d := 15) rfl (sub_cons (d := 21) rfl (sub_cons (d := 45) rfl (sub_cons (d := 46) rfl (sub_cons (d := 47) rfl (sub_nil _)))))))))))) ((.cons_cons _ (.cons_cons _ (.cons_cons _ .slnil)))) ?_
    intro i v vs hi13
    obtain ⟨hi, hv⟩ := hi13
    have hvl := outN_len zs i
    rw [← hv] at hvl
    refine hc_seq ?_
    refine hc_region ?_
    refine hl_lss rfl rfl rfl rfl rfl rfl (fun h14 => ?_) (fun h14 => ?_)
    ·
      refine hl_less (sub_cons (d := 0) rfl (sub_cons (d := 1) rfl (sub_cons (d := 2) rfl (sub_cons (d := 3) rfl (sub_cons (d := 4) rfl (sub_cons (d := 5) rfl (sub_cons (d := 15) rfl (sub_cons (d := 21) rfl (sub_cons (d := 45) rfl (sub_cons (d := 46) rfl (sub_cons (d := 47) rfl (sub_cons (d := 48) rfl (sub_nil _))))))))))))) (.refl _) ?_
      refine hl_nil ?_
      refine hq_then ?_
      refine hc_seq ?_
      refine hc_true rfl ?_
      refine hc_skip ?_
      refine hq_then ?_
      refine hc_seq ?_
      refine hc_block ?_
      refine hc_seq ?_
      refine hc_region ?_
      have hci := hmem i (by omega)
      refine hl_v rfl rfl rfl (rv_index (s := 2) rfl Try.underlying33 (by kernel_rfl) rfl rfl (rd_row 1 rfl) (by omega) (by first | omega | (simp only [List.length_set]; omega))) ?_
      refine hl_v rfl rfl rfl (rv_loadElN (us := [.int .i64 ((zs.getD i c0).1 : Int), .int .i64 ((zs.getD i c0).2 : Int)]) rfl (by kernel_rfl) (by kernel_rfl) rfl (rd_row 1 rfl) (by omega) rfl (flat_atN cubC 2 (fun _ => rfl) zs c0 (show i < _ by first | omega | (simp only [List.length_set]; omega)) rfl)) ?_
      refine hl_box rfl rfl rfl (rq_alloc (z := .agg #[.int .i64 0, .int .i64 0]) rfl (by kernel_rfl)) ?_
      intro b15
      refine hl_storeBoxN (i := 0) (off := 0) (us := [.int .i64 ((zs.getD i c0).1 : Int), .int .i64 ((zs.getD i c0).2 : Int)]) (l' := [boxE b15 #[.int .i64 ((zs.getD i c0).1 : Int), .int .i64 ((zs.getD i c0).2 : Int)] 30, rowE 30 2 v vs.length (vs.flatMap cubC), rowE 30 2 u zs.length (zs.flatMap cubC), boxE b1 #[.int .i64 t.N, .int .i64 t.B] 25]) rfl rfl rfl (by kernel_rfl) rfl rfl rfl (all_cons rfl (all_cons rfl all_nil)) rfl rfl rfl ?_
      refine hl_less (sub_cons (d := 0) rfl (sub_cons (d := 1) rfl (sub_cons (d := 2) rfl (sub_cons (d := 3) rfl (sub_cons (d := 4) rfl (sub_cons (d := 5) rfl (sub_cons (d := 9) rfl (sub_cons (d := 15) rfl (sub_cons (d := 21) rfl (sub_cons (d := 45) rfl (sub_cons (d := 46) rfl (sub_cons (d := 47) rfl (sub_cons (d := 48) rfl (sub_nil _)))))))))))))) (.refl _) ?_
      refine hl_nil ?_
      refine hq_then ?_
      refine hc_seq ?_
      refine hc_region ?_
      refine hl_v rfl rfl rfl (rv_ev rfl) ?_
      refine hl_less (sub_cons (d := 0) rfl (sub_cons (d := 1) rfl (sub_cons (d := 2) rfl (sub_cons (d := 3) rfl (sub_cons (d := 4) rfl (sub_cons (d := 5) rfl (sub_cons (d := 9) rfl (sub_cons (d := 10) rfl (sub_cons (d := 15) rfl (sub_cons (d := 21) rfl (sub_cons (d := 45) rfl (sub_cons (d := 46) rfl (sub_cons (d := 47) rfl (sub_cons (d := 48) rfl (sub_nil _))))))))))))))) (.refl _) ?_
      refine hl_nil ?_
      refine hq_then ?_
      refine hc_seq ?_
      refine hc_seq ?_
      refine hc_region ?_
      refine hl_v rfl rfl rfl (rv_ev rfl) ?_
      refine hl_v rfl rfl rfl (rv_len rfl Try.underlying33 rfl (rd_row 2 rfl)) ?_
      refine hl_v rfl rfl rfl (rv_ev rfl) ?_
      refine hl_less (sub_cons (d := 0) rfl (sub_cons (d := 1) rfl (sub_cons (d := 2) rfl (sub_cons (d := 3) rfl (sub_cons (d := 4) rfl (sub_cons (d := 5) rfl (sub_cons (d := 9) rfl (sub_cons (d := 10) rfl (sub_cons (d := 15) rfl (sub_cons (d := 21) rfl (sub_cons (d := 45) rfl (sub_cons (d := 46) rfl (sub_cons (d := 47) rfl (sub_cons (d := 48) rfl (sub_cons (d := 51) rfl (sub_cons (d := 52) rfl (sub_cons (d := 53) rfl (sub_nil _)))))))))))))))))) (.refl _) ?_
      refine hl_nil ?_
      refine hq_then ?_
      refine hc_block ?_
      refine hc_loop2 (α := Nat) (β := Bool) (fun m b => [boxE b15 #[.int .i64 ((zs.getD i c0).1 : Int), .int .i64 ((zs.getD i c0).2 : Int)] 30, rowE 30 2 v vs.length (vs.flatMap cubC), rowE 30 2 u zs.length (zs.flatMap cubC), boxE b1 #[.int .i64 t.N, .int .i64 t.B] 25]) (fun m b => [(0, .agg #[.int .i64 t.N, .int .i64 t.B]), (1, .pointer (some ⟨b1, 0, none⟩)), (2, .slice none 0 0), (3, u), (4, v), (5, .int .i64 (k : Int)), (9, .pointer (some ⟨b15, 0, none⟩)), (10, .bool b), (15, .bool false), (21, .bool false), (45, u), (46, .int .i64 (zs.length : Int)), (47, .int .i64 (i : Int)), (48, .bool true), (51, u), (52, .int .i64 (zs.length : Int)), (53, .int .i64 (m : Int))]) (fun m b => m ≤ zs.length ∧ b = primeN zs (zs.getD i c0) m) (fun m b => zs.length - m) 0 true ⟨by omega, by simp [primeN]⟩ (sub_cons (d := 0) rfl (sub_cons (d := 1) rfl (sub_cons (d := 2) rfl (sub_cons (d := 3) rfl (sub_cons (d := 4) rfl (sub_cons (d := 5) rfl (sub_cons (d := 9) rfl (sub_cons (d := 10) rfl (sub_cons (d := 15) rfl (sub_cons (d := 21) rfl (sub_cons (d := 45) rfl (sub_cons (d := 46) rfl (sub_cons (d := 47) rfl (sub_cons (d := 48) rfl (sub_cons (d := 51) rfl (sub_cons (d := 52) rfl (sub_cons (d := 53) rfl (sub_nil _)))))))))))))))))) ((.cons_cons _ (.cons_cons _ (.cons_cons _ (.cons_cons _ .slnil))))) ?_
      intro m b hi16
      obtain ⟨hm1, hpb⟩ := hi16
      refine hc_seq ?_
      refine hc_region ?_
      refine hl_lss rfl rfl rfl rfl rfl rfl (fun h17 => ?_) (fun h17 => ?_)
      ·
        refine hl_less (sub_cons (d := 0) rfl (sub_cons (d := 1) rfl (sub_cons (d := 2) rfl (sub_cons (d := 3) rfl (sub_cons (d := 4) rfl (sub_cons (d := 5) rfl (sub_cons (d := 9) rfl (sub_cons (d := 10) rfl (sub_cons (d := 15) rfl (sub_cons (d := 21) rfl (sub_cons (d := 45) rfl (sub_cons (d := 46) rfl (sub_cons (d := 47) rfl (sub_cons (d := 48) rfl (sub_cons (d := 51) rfl (sub_cons (d := 52) rfl (sub_cons (d := 53) rfl (sub_cons (d := 54) rfl (sub_nil _))))))))))))))))))) (.refl _) ?_
        refine hl_nil ?_
        refine hq_then ?_
        refine hc_seq ?_
        refine hc_true rfl ?_
        refine hc_skip ?_
        refine hq_then ?_
        refine hc_seq ?_
        refine hc_block ?_
        refine hc_seq ?_
        refine hc_region ?_
        have hdm := hmem m (by omega)
        refine hl_v rfl rfl rfl (rv_index (s := 2) rfl Try.underlying33 (by kernel_rfl) rfl rfl (rd_row 2 rfl) (by omega) (by first | omega | (simp only [List.length_set]; omega))) ?_
        refine hl_v rfl rfl rfl (rv_loadElN (us := [.int .i64 ((zs.getD m c0).1 : Int), .int .i64 ((zs.getD m c0).2 : Int)]) rfl (by kernel_rfl) (by kernel_rfl) rfl (rd_row 2 rfl) (by omega) rfl (flat_atN cubC 2 (fun _ => rfl) zs c0 (show m < _ by first | omega | (simp only [List.length_set]; omega)) rfl)) ?_
        refine hl_box rfl rfl rfl (rq_alloc (z := .agg #[.int .i64 0, .int .i64 0]) rfl (by kernel_rfl)) ?_
        intro b18
        refine hl_storeBoxN (i := 0) (off := 0) (us := [.int .i64 ((zs.getD m c0).1 : Int), .int .i64 ((zs.getD m c0).2 : Int)]) (l' := [boxE b18 #[.int .i64 ((zs.getD m c0).1 : Int), .int .i64 ((zs.getD m c0).2 : Int)] 30, boxE b15 #[.int .i64 ((zs.getD i c0).1 : Int), .int .i64 ((zs.getD i c0).2 : Int)] 30, rowE 30 2 v vs.length (vs.flatMap cubC), rowE 30 2 u zs.length (zs.flatMap cubC), boxE b1 #[.int .i64 t.N, .int .i64 t.B] 25]) rfl rfl rfl (by kernel_rfl) rfl rfl rfl (all_cons rfl (all_cons rfl all_nil)) rfl rfl rfl ?_
        refine hl_less (sub_cons (d := 0) rfl (sub_cons (d := 1) rfl (sub_cons (d := 2) rfl (sub_cons (d := 3) rfl (sub_cons (d := 4) rfl (sub_cons (d := 5) rfl (sub_cons (d := 9) rfl (sub_cons (d := 10) rfl (sub_cons (d := 12) rfl (sub_cons (d := 15) rfl (sub_cons (d := 21) rfl (sub_cons (d := 45) rfl (sub_cons (d := 46) rfl (sub_cons (d := 47) rfl (sub_cons (d := 48) rfl (sub_cons (d := 51) rfl (sub_cons (d := 52) rfl (sub_cons (d := 53) rfl (sub_cons (d := 54) rfl (sub_nil _)))))))))))))))))))) (.refl _) ?_
        refine hl_nil ?_
        refine hq_then ?_
        refine hc_seq ?_
        refine hc_region ?_
        refine hl_v rfl rfl rfl (rv_loadN (cs := [.int .i64 ((zs.getD m c0).1 : Int), .int .i64 ((zs.getD m c0).2 : Int)]) rfl (by kernel_rfl) (by kernel_rfl) rfl rfl (box_part 0 rfl 0 rfl)) ?_
        refine hl_v rfl rfl rfl (rv_loadN (cs := [.int .i64 ((zs.getD i c0).1 : Int), .int .i64 ((zs.getD i c0).2 : Int)]) rfl (by kernel_rfl) (by kernel_rfl) rfl rfl (box_part 1 rfl 0 rfl)) ?_
        refine hl_v rfl rfl rfl (rv_neC rfl rfl rfl) ?_
        refine hl_bool (fun h19 => ?_) (fun h19 => ?_)
        ·
          refine hl_v rfl rfl rfl (rv_ev rfl) ?_
          refine hl_v rfl rfl rfl (rv_field (k0 := 0) rfl (by kernel_rfl) rfl) ?_
          refine hl_v rfl rfl rfl (rv_load rfl (by kernel_rfl) rfl (box_cell 0 rfl rfl)) ?_
          refine hl_v rfl rfl rfl (rv_field (k0 := 0) rfl (by kernel_rfl) rfl) ?_
          refine hl_v rfl rfl rfl (rv_load rfl (by kernel_rfl) rfl (box_cell 1 rfl rfl)) ?_
          refine hl_v rfl rfl rfl (rv_bits rfl (by decide) rfl rfl (r := bits .andNot .i64 ((zs.getD m c0).1 : Int) ((zs.getD i c0).1 : Int)) rfl) ?_
          refine hl_eql rfl rfl rfl rfl rfl rfl (fun h20 => ?_) (fun h20 => ?_)
          ·
            refine hl_v rfl rfl rfl (rv_ev rfl) ?_
            refine hl_v rfl rfl rfl (rv_ev rfl) ?_
            refine hl_v rfl rfl rfl (rv_field (k0 := 1) rfl (by kernel_rfl) rfl) ?_
            refine hl_v rfl rfl rfl (rv_load rfl (by kernel_rfl) rfl (box_cell 1 rfl rfl)) ?_
            refine hl_v rfl rfl rfl (rv_field (k0 := 0) rfl (by kernel_rfl) rfl) ?_
            refine hl_v rfl rfl rfl (rv_load rfl (by kernel_rfl) rfl (box_cell 0 rfl rfl)) ?_
            refine hl_v rfl rfl rfl (rv_bits rfl (by decide) rfl rfl (r := (((zs.getD i c0).2 &&& (zs.getD m c0).1 : Nat) : Int)) (Bit.and_nat _ _ (by omega) (by omega))) ?_
            refine hl_v rfl rfl rfl (rv_field (k0 := 1) rfl (by kernel_rfl) rfl) ?_
            refine hl_v rfl rfl rfl (rv_load rfl (by kernel_rfl) rfl (box_cell 0 rfl rfl)) ?_
            refine hl_eql rfl rfl rfl rfl rfl rfl (fun h21 => ?_) (fun h21 => ?_)
            ·
              refine hl_v rfl rfl rfl (rv_ev rfl) ?_
              refine hl_less (sub_cons (d := 0) rfl (sub_cons (d := 1) rfl (sub_cons (d := 2) rfl (sub_cons (d := 3) rfl (sub_cons (d := 4) rfl (sub_cons (d := 5) rfl (sub_cons (d := 9) rfl (sub_cons (d := 10) rfl (sub_cons (d := 12) rfl (sub_cons (d := 15) rfl (sub_cons (d := 21) rfl (sub_cons (d := 45) rfl (sub_cons (d := 46) rfl (sub_cons (d := 47) rfl (sub_cons (d := 48) rfl (sub_cons (d := 51) rfl (sub_cons (d := 52) rfl (sub_cons (d := 53) rfl (sub_cons (d := 54) rfl (sub_cons (d := 77) rfl (sub_nil _))))))))))))))))))))) (.refl _) ?_
              refine hl_nil ?_
              refine hq_then ?_
              refine hc_true rfl ?_
              refine hc_region ?_
              refine hl_v rfl rfl rfl (rv_ev rfl) ?_
              refine hl_less (sub_cons (d := 0) rfl (sub_cons (d := 1) rfl (sub_cons (d := 2) rfl (sub_cons (d := 3) rfl (sub_cons (d := 4) rfl (sub_cons (d := 5) rfl (sub_cons (d := 9) rfl (sub_cons (d := 10) rfl (sub_cons (d := 12) rfl (sub_cons (d := 15) rfl (sub_cons (d := 21) rfl (sub_cons (d := 45) rfl (sub_cons (d := 46) rfl (sub_cons (d := 47) rfl (sub_cons (d := 48) rfl (sub_cons (d := 51) rfl (sub_cons (d := 52) rfl (sub_cons (d := 53) rfl (sub_cons (d := 54) rfl (sub_cons (d := 77) rfl (sub_nil _))))))))))))))))))))) (.refl _) ?_
              refine hl_nil ?_
              refine hq_block_normal ?_
              refine hq_then ?_
              refine hc_region ?_
              refine hl_v rfl rfl rfl (rv_add rfl rfl rfl (by constructor <;> omega)) ?_
              refine hl_v rfl rfl rfl (rv_ev rfl) ?_
              refine hl_less (sub_cons (d := 0) rfl (sub_cons (d := 1) rfl (sub_cons (d := 2) rfl (sub_cons (d := 3) rfl (sub_cons (d := 4) rfl (sub_cons (d := 5) rfl (sub_cons (d := 9) rfl (sub_cons (d := 10) rfl (sub_cons (d := 12) rfl (sub_cons (d := 15) rfl (sub_cons (d := 21) rfl (sub_cons (d := 45) rfl (sub_cons (d := 46) rfl (sub_cons (d := 47) rfl (sub_cons (d := 48) rfl (sub_cons (d := 51) rfl (sub_cons (d := 52) rfl (sub_cons (d := 53) rfl (sub_cons (d := 54) rfl (sub_cons (d := 77) rfl (sub_nil _))))))))))))))))))))) (.refl _) ?_
              refine hl_nil ?_
              exact hq_round2 (m + 1) false ⟨by omega, by rw [primeN_succ (by omega), ← hpb]; first | exact pr_eq (by assumption) | exact pr_no1 (by omega) (by omega) (by assumption) | exact pr_no2 (by omega) | exact pr_yes (by omega) (by omega) (by assumption) (by assumption) (by omega)⟩ (by omega) (sub_cons (d := 0) rfl (sub_cons (d := 1) rfl (sub_cons (d := 2) rfl (sub_cons (d := 3) rfl (sub_cons (d := 4) rfl (sub_cons (d := 5) rfl (sub_cons (d := 9) rfl (sub_cons (d := 10) rfl (sub_cons (d := 15) rfl (sub_cons (d := 21) rfl (sub_cons (d := 45) rfl (sub_cons (d := 46) rfl (sub_cons (d := 47) rfl (sub_cons (d := 48) rfl (sub_cons (d := 51) rfl (sub_cons (d := 52) rfl (sub_cons (d := 53) rfl (sub_nil _)))))))))))))))))) ((.cons _ (.cons_cons _ (.cons_cons _ (.cons_cons _ (.cons_cons _ .slnil))))))
            ·
              refine hl_v rfl rfl rfl (rv_ev rfl) ?_
              refine hl_less (sub_cons (d := 0) rfl (sub_cons (d := 1) rfl (sub_cons (d := 2) rfl (sub_cons (d := 3) rfl (sub_cons (d := 4) rfl (sub_cons (d := 5) rfl (sub_cons (d := 9) rfl (sub_cons (d := 10) rfl (sub_cons (d := 12) rfl (sub_cons (d := 15) rfl (sub_cons (d := 21) rfl (sub_cons (d := 45) rfl (sub_cons (d := 46) rfl (sub_cons (d := 47) rfl (sub_cons (d := 48) rfl (sub_cons (d := 51) rfl (sub_cons (d := 52) rfl (sub_cons (d := 53) rfl (sub_cons (d := 54) rfl (sub_cons (d := 77) rfl (sub_nil _))))))))))))))))))))) (.refl _) ?_
              refine hl_nil ?_
              refine hq_then ?_
              refine hc_false rfl ?_
              refine hc_skip ?_
              refine hq_block_normal ?_
              refine hq_then ?_
              refine hc_region ?_
              refine hl_v rfl rfl rfl (rv_add rfl rfl rfl (by constructor <;> omega)) ?_
              refine hl_v rfl rfl rfl (rv_ev rfl) ?_
              refine hl_less (sub_cons (d := 0) rfl (sub_cons (d := 1) rfl (sub_cons (d := 2) rfl (sub_cons (d := 3) rfl (sub_cons (d := 4) rfl (sub_cons (d := 5) rfl (sub_cons (d := 9) rfl (sub_cons (d := 10) rfl (sub_cons (d := 12) rfl (sub_cons (d := 15) rfl (sub_cons (d := 21) rfl (sub_cons (d := 45) rfl (sub_cons (d := 46) rfl (sub_cons (d := 47) rfl (sub_cons (d := 48) rfl (sub_cons (d := 51) rfl (sub_cons (d := 52) rfl (sub_cons (d := 53) rfl (sub_cons (d := 54) rfl (sub_cons (d := 77) rfl (sub_nil _))))))))))))))))))))) (.refl _) ?_
              refine hl_nil ?_
              exact hq_round2 (m + 1) b ⟨by omega, by rw [primeN_succ (by omega), ← hpb]; first | exact pr_eq (by assumption) | exact pr_no1 (by omega) (by omega) (by assumption) | exact pr_no2 (by omega) | exact pr_yes (by omega) (by omega) (by assumption) (by assumption) (by omega)⟩ (by omega) (sub_cons (d := 0) rfl (sub_cons (d := 1) rfl (sub_cons (d := 2) rfl (sub_cons (d := 3) rfl (sub_cons (d := 4) rfl (sub_cons (d := 5) rfl (sub_cons (d := 9) rfl (sub_cons (d := 10) rfl (sub_cons (d := 15) rfl (sub_cons (d := 21) rfl (sub_cons (d := 45) rfl (sub_cons (d := 46) rfl (sub_cons (d := 47) rfl (sub_cons (d := 48) rfl (sub_cons (d := 51) rfl (sub_cons (d := 52) rfl (sub_cons (d := 53) rfl (sub_nil _)))))))))))))))))) ((.cons _ (.cons_cons _ (.cons_cons _ (.cons_cons _ (.cons_cons _ .slnil))))))
          ·
            refine hl_v rfl rfl rfl (rv_ev rfl) ?_
            refine hl_v rfl rfl rfl (rv_ev rfl) ?_
            refine hl_skip rfl rfl rfl ?_
            refine hl_skip rfl rfl rfl ?_
            refine hl_skip rfl rfl rfl ?_
            refine hl_skip rfl rfl rfl ?_
            refine hl_skip rfl rfl rfl ?_
            refine hl_skip rfl rfl rfl ?_
            refine hl_skip rfl rfl rfl ?_
            refine hl_skip rfl rfl rfl ?_
            refine hl_v rfl rfl rfl (rv_ev rfl) ?_
            refine hl_less (sub_cons (d := 0) rfl (sub_cons (d := 1) rfl (sub_cons (d := 2) rfl (sub_cons (d := 3) rfl (sub_cons (d := 4) rfl (sub_cons (d := 5) rfl (sub_cons (d := 9) rfl (sub_cons (d := 10) rfl (sub_cons (d := 12) rfl (sub_cons (d := 15) rfl (sub_cons (d := 21) rfl (sub_cons (d := 45) rfl (sub_cons (d := 46) rfl (sub_cons (d := 47) rfl (sub_cons (d := 48) rfl (sub_cons (d := 51) rfl (sub_cons (d := 52) rfl (sub_cons (d := 53) rfl (sub_cons (d := 54) rfl (sub_cons (d := 77) rfl (sub_nil _))))))))))))))))))))) (.refl _) ?_
            refine hl_nil ?_
            refine hq_then ?_
            refine hc_false rfl ?_
            refine hc_skip ?_
            refine hq_block_normal ?_
            refine hq_then ?_
            refine hc_region ?_
            refine hl_v rfl rfl rfl (rv_add rfl rfl rfl (by constructor <;> omega)) ?_
            refine hl_v rfl rfl rfl (rv_ev rfl) ?_
            refine hl_less (sub_cons (d := 0) rfl (sub_cons (d := 1) rfl (sub_cons (d := 2) rfl (sub_cons (d := 3) rfl (sub_cons (d := 4) rfl (sub_cons (d := 5) rfl (sub_cons (d := 9) rfl (sub_cons (d := 10) rfl (sub_cons (d := 12) rfl (sub_cons (d := 15) rfl (sub_cons (d := 21) rfl (sub_cons (d := 45) rfl (sub_cons (d := 46) rfl (sub_cons (d := 47) rfl (sub_cons (d := 48) rfl (sub_cons (d := 51) rfl (sub_cons (d := 52) rfl (sub_cons (d := 53) rfl (sub_cons (d := 54) rfl (sub_cons (d := 77) rfl (sub_nil _))))))))))))))))))))) (.refl _) ?_
            refine hl_nil ?_
            exact hq_round2 (m + 1) b ⟨by omega, by rw [primeN_succ (by omega), ← hpb]; first | exact pr_eq (by assumption) | exact pr_no1 (by omega) (by omega) (by assumption) | exact pr_no2 (by omega) | exact pr_yes (by omega) (by omega) (by assumption) (by assumption) (by omega)⟩ (by omega) (sub_cons (d := 0) rfl (sub_cons (d := 1) rfl (sub_cons (d := 2) rfl (sub_cons (d := 3) rfl (sub_cons (d := 4) rfl (sub_cons (d := 5) rfl (sub_cons (d := 9) rfl (sub_cons (d := 10) rfl (sub_cons (d := 15) rfl (sub_cons (d := 21) rfl (sub_cons (d := 45) rfl (sub_cons (d := 46) rfl (sub_cons (d := 47) rfl (sub_cons (d := 48) rfl (sub_cons (d := 51) rfl (sub_cons (d := 52) rfl (sub_cons (d := 53) rfl (sub_nil _)))))))))))))))))) ((.cons _ (.cons_cons _ (.cons_cons _ (.cons_cons _ (.cons_cons _ .slnil))))))
        ·
          refine hl_v rfl rfl rfl (rv_ev rfl) ?_
          refine hl_skip rfl rfl rfl ?_
          refine hl_skip rfl rfl rfl ?_
          refine hl_skip rfl rfl rfl ?_
          refine hl_skip rfl rfl rfl ?_
          refine hl_skip rfl rfl rfl ?_
          refine hl_skip rfl rfl rfl ?_
          refine hl_v rfl rfl rfl (rv_ev rfl) ?_
          refine hl_v rfl rfl rfl (rv_ev rfl) ?_
          refine hl_skip rfl rfl rfl ?_
          refine hl_skip rfl rfl rfl ?_
          refine hl_skip rfl rfl rfl ?_
          refine hl_skip rfl rfl rfl ?_
          refine hl_skip rfl rfl rfl ?_
          refine hl_skip rfl rfl rfl ?_
          refine hl_skip rfl rfl rfl ?_
          refine hl_skip rfl rfl rfl ?_
          refine hl_v rfl rfl rfl (rv_ev rfl) ?_
          refine hl_less (sub_cons (d := 0) rfl (sub_cons (d := 1) rfl (sub_cons (d := 2) rfl (sub_cons (d := 3) rfl (sub_cons (d := 4) rfl (sub_cons (d := 5) rfl (sub_cons (d := 9) rfl (sub_cons (d := 10) rfl (sub_cons (d := 12) rfl (sub_cons (d := 15) rfl (sub_cons (d := 21) rfl (sub_cons (d := 45) rfl (sub_cons (d := 46) rfl (sub_cons (d := 47) rfl (sub_cons (d := 48) rfl (sub_cons (d := 51) rfl (sub_cons (d := 52) rfl (sub_cons (d := 53) rfl (sub_cons (d := 54) rfl (sub_cons (d := 77) rfl (sub_nil _))))))))))))))))))))) (.refl _) ?_
          refine hl_nil ?_
          refine hq_then ?_
          refine hc_false rfl ?_
          refine hc_skip ?_
          refine hq_block_normal ?_
          refine hq_then ?_
          refine hc_region ?_
          refine hl_v rfl rfl rfl (rv_add rfl rfl rfl (by constructor <;> omega)) ?_
          refine hl_v rfl rfl rfl (rv_ev rfl) ?_
          refine hl_less (sub_cons (d := 0) rfl (sub_cons (d := 1) rfl (sub_cons (d := 2) rfl (sub_cons (d := 3) rfl (sub_cons (d := 4) rfl (sub_cons (d := 5) rfl (sub_cons (d := 9) rfl (sub_cons (d := 10) rfl (sub_cons (d := 12) rfl (sub_cons (d := 15) rfl (sub_cons (d := 21) rfl (sub_cons (d := 45) rfl (sub_cons (d := 46) rfl (sub_cons (d := 47) rfl (sub_cons (d := 48) rfl (sub_cons (d := 51) rfl (sub_cons (d := 52) rfl (sub_cons (d := 53) rfl (sub_cons (d := 54) rfl (sub_cons (d := 77) rfl (sub_nil _))))))))))))))))))))) (.refl _) ?_
          refine hl_nil ?_
          exact hq_round2 (m + 1) b ⟨by omega, by rw [primeN_succ (by omega), ← hpb]; first | exact pr_eq (by assumption) | exact pr_no1 (by omega) (by omega) (by assumption) | exact pr_no2 (by omega) | exact pr_yes (by omega) (by omega) (by assumption) (by assumption) (by omega)⟩ (by omega) (sub_cons (d := 0) rfl (sub_cons (d := 1) rfl (sub_cons (d := 2) rfl (sub_cons (d := 3) rfl (sub_cons (d := 4) rfl (sub_cons (d := 5) rfl (sub_cons (d := 9) rfl (sub_cons (d := 10) rfl (sub_cons (d := 15) rfl (sub_cons (d := 21) rfl (sub_cons (d := 45) rfl (sub_cons (d := 46) rfl (sub_cons (d := 47) rfl (sub_cons (d := 48) rfl (sub_cons (d := 51) rfl (sub_cons (d := 52) rfl (sub_cons (d := 53) rfl (sub_nil _)))))))))))))))))) ((.cons _ (.cons_cons _ (.cons_cons _ (.cons_cons _ (.cons_cons _ .slnil))))))
      ·
        refine hl_less (sub_cons (d := 0) rfl (sub_cons (d := 1) rfl (sub_cons (d := 2) rfl (sub_cons (d := 3) rfl (sub_cons (d := 4) rfl (sub_cons (d := 5) rfl (sub_cons (d := 9) rfl (sub_cons (d := 10) rfl (sub_cons (d := 15) rfl (sub_cons (d := 21) rfl (sub_cons (d := 45) rfl (sub_cons (d := 46) rfl (sub_cons (d := 47) rfl (sub_cons (d := 48) rfl (sub_cons (d := 51) rfl (sub_cons (d := 52) rfl (sub_cons (d := 53) rfl (sub_cons (d := 54) rfl (sub_nil _))))))))))))))))))) (.refl _) ?_
        refine hl_nil ?_
        refine hq_then ?_
        refine hc_seq ?_
        refine hc_false rfl ?_
        refine hc_exit ?_
        refine hq_then_exit ?_
        refine hq_then_exit ?_
        refine hq_block_exit ?_
        refine hq_then ?_
        refine hc_seq ?_
        refine hc_region ?_
        have hmz : m = zs.length := by omega
        have hpb2 : b = primeN zs (zs.getD i c0) zs.length := by rw [hpb, hmz]
        refine hl_v rfl rfl rfl (rv_ev rfl) ?_
        refine hl_bool (fun h22 => ?_) (fun h22 => ?_)
        ·
          refine hl_less (sub_cons (d := 0) rfl (sub_cons (d := 1) rfl (sub_cons (d := 2) rfl (sub_cons (d := 3) rfl (sub_cons (d := 4) rfl (sub_cons (d := 5) rfl (sub_cons (d := 9) rfl (sub_cons (d := 10) rfl (sub_cons (d := 15) rfl (sub_cons (d := 21) rfl (sub_cons (d := 45) rfl (sub_cons (d := 46) rfl (sub_cons (d := 47) rfl (sub_cons (d := 48) rfl (sub_cons (d := 51) rfl (sub_cons (d := 52) rfl (sub_cons (d := 53) rfl (sub_cons (d := 54) rfl (sub_cons (d := 79) rfl (sub_nil _)))))))))))))))))))) (.refl _) ?_
          refine hl_nil ?_
          refine hq_then ?_
          refine hc_true rfl ?_
          refine hc_region ?_
          refine hl_v rfl rfl rfl (rv_ev rfl) ?_
          refine hl_v rfl rfl rfl (rv_loadN (cs := [.int .i64 ((zs.getD i c0).1 : Int), .int .i64 ((zs.getD i c0).2 : Int)]) rfl (by kernel_rfl) (by kernel_rfl) rfl rfl (box_part 0 rfl 0 rfl)) ?_
          refine hl_row rfl rfl rfl (rq_buildSlice (z := .agg #[.int .i64 0, .int .i64 0]) (s := 2) (cs := ([((zs.getD i c0).1 : Int), ((zs.getD i c0).2 : Int)].map (Value.int .i64))) rfl Try.underlying33 (by kernel_rfl) (by decide) rfl (by kernel_rfl) rfl) ?_
          intro g23
          refine hl_append (i := 2) (z := .agg #[.int .i64 0, .int .i64 0]) (bytes := 16) (n' := (vs ++ [(zs.getD i c0)]).length) (xs' := ((vs ++ [(zs.getD i c0)]).flatMap cubC)) (L := fun v24 => [rowE 30 2 (.slice (some ⟨g23, 0, none⟩) 1 1) 1 ([((zs.getD i c0).1 : Int), ((zs.getD i c0).2 : Int)].map (Value.int .i64)), boxE b15 #[.int .i64 ((zs.getD i c0).1 : Int), .int .i64 ((zs.getD i c0).2 : Int)] 30, rowE 30 2 v24 ((vs ++ [(zs.getD i c0)]).length) ((vs ++ [(zs.getD i c0)]).flatMap cubC), rowE 30 2 u zs.length (zs.flatMap cubC), boxE b1 #[.int .i64 t.N, .int .i64 t.B] 25]) rfl rfl rfl rfl Try.underlying33 (by kernel_rfl) (by kernel_rfl) rfl rfl rfl (rd_row 0 rfl) (by simp [Value.oneCell']) (by first | omega | (simp only [List.length_append, List.length_cons, List.length_nil]; omega)) (len_app vs [(zs.getD i c0)]) (flat_app1 cubC vs (zs.getD i c0) _ rfl) (fun _ => rfl) ?_
          intro v24
          refine hl_v rfl rfl rfl (rv_ev rfl) ?_
          refine hl_less (sub_cons (d := 0) rfl (sub_cons (d := 1) rfl (sub_cons (d := 2) rfl (sub_cons (d := 3) rfl (sub_cons (d := 4) rfl (sub_cons (d := 5) rfl (sub_cons (d := 9) rfl (sub_cons (d := 10) rfl (sub_cons (d := 15) rfl (sub_cons (d := 21) rfl (sub_cons (d := 45) rfl (sub_cons (d := 46) rfl (sub_cons (d := 47) rfl (sub_cons (d := 48) rfl (sub_cons (d := 51) rfl (sub_cons (d := 52) rfl (sub_cons (d := 53) rfl (sub_cons (d := 54) rfl (sub_cons (d := 79) rfl (sub_nil _)))))))))))))))))))) (.refl _) ?_
          refine hl_nil ?_
          refine hq_block_normal ?_
          refine hq_then ?_
          refine hc_region ?_
          refine hl_v rfl rfl rfl (rv_add rfl rfl rfl (by constructor <;> omega)) ?_
          refine hl_v rfl rfl rfl (rv_ev rfl) ?_
          refine hl_less (sub_cons (d := 0) rfl (sub_cons (d := 1) rfl (sub_cons (d := 2) rfl (sub_cons (d := 3) rfl (sub_cons (d := 4) rfl (sub_cons (d := 5) rfl (sub_cons (d := 9) rfl (sub_cons (d := 10) rfl (sub_cons (d := 15) rfl (sub_cons (d := 21) rfl (sub_cons (d := 45) rfl (sub_cons (d := 46) rfl (sub_cons (d := 47) rfl (sub_cons (d := 48) rfl (sub_cons (d := 51) rfl (sub_cons (d := 52) rfl (sub_cons (d := 53) rfl (sub_cons (d := 54) rfl (sub_cons (d := 79) rfl (sub_nil _)))))))))))))))))))) (.refl _) ?_
          refine hl_nil ?_
          exact hq_round3 (i + 1) v24 (vs ++ [(zs.getD i c0)]) ⟨by omega, by rw [outN_succ (by omega), if_pos (by rw [← hpb2]; assumption), ← hv]⟩ (by omega) (sub_cons (d := 0) rfl (sub_cons (d := 1) rfl (sub_cons (d := 2) rfl (sub_cons (d := 3) rfl (sub_cons (d := 4) rfl (sub_cons (d := 5) rfl (sub_cons (d := 15) rfl (sub_cons (d := 21) rfl (sub_cons (d := 45) rfl (sub_cons (d := 46) rfl (sub_cons (d := 47) rfl (sub_nil _)))))))))))) ((.cons _ (.cons _ (.cons_cons _ (.cons_cons _ (.cons_cons _ .slnil))))))
        ·
          refine hl_less (sub_cons (d := 0) rfl (sub_cons (d := 1) rfl (sub_cons (d := 2) rfl (sub_cons (d := 3) rfl (sub_cons (d := 4) rfl (sub_cons (d := 5) rfl (sub_cons (d := 9) rfl (sub_cons (d := 10) rfl (sub_cons (d := 15) rfl (sub_cons (d := 21) rfl (sub_cons (d := 45) rfl (sub_cons (d := 46) rfl (sub_cons (d := 47) rfl (sub_cons (d := 48) rfl (sub_cons (d := 51) rfl (sub_cons (d := 52) rfl (sub_cons (d := 53) rfl (sub_cons (d := 54) rfl (sub_cons (d := 79) rfl (sub_nil _)))))))))))))))))))) (.refl _) ?_
          refine hl_nil ?_
          refine hq_then ?_
          refine hc_false rfl ?_
          refine hc_skip ?_
          refine hq_block_normal ?_
          refine hq_then ?_
          refine hc_region ?_
          refine hl_v rfl rfl rfl (rv_add rfl rfl rfl (by constructor <;> omega)) ?_
          refine hl_v rfl rfl rfl (rv_ev rfl) ?_
          refine hl_less (sub_cons (d := 0) rfl (sub_cons (d := 1) rfl (sub_cons (d := 2) rfl (sub_cons (d := 3) rfl (sub_cons (d := 4) rfl (sub_cons (d := 5) rfl (sub_cons (d := 9) rfl (sub_cons (d := 10) rfl (sub_cons (d := 15) rfl (sub_cons (d := 21) rfl (sub_cons (d := 45) rfl (sub_cons (d := 46) rfl (sub_cons (d := 47) rfl (sub_cons (d := 48) rfl (sub_cons (d := 51) rfl (sub_cons (d := 52) rfl (sub_cons (d := 53) rfl (sub_cons (d := 54) rfl (sub_cons (d := 79) rfl (sub_nil _)))))))))))))))))))) (.refl _) ?_
          refine hl_nil ?_
          exact hq_round3 (i + 1) v vs ⟨by omega, by rw [outN_succ (by omega), if_neg (by rw [← hpb2, show b = false by assumption]; decide), ← hv]⟩ (by omega) (sub_cons (d := 0) rfl (sub_cons (d := 1) rfl (sub_cons (d := 2) rfl (sub_cons (d := 3) rfl (sub_cons (d := 4) rfl (sub_cons (d := 5) rfl (sub_cons (d := 15) rfl (sub_cons (d := 21) rfl (sub_cons (d := 45) rfl (sub_cons (d := 46) rfl (sub_cons (d := 47) rfl (sub_nil _)))))))))))) ((.cons _ (.cons_cons _ (.cons_cons _ (.cons_cons _ .slnil)))))
    ·
      refine hl_less (sub_cons (d := 0) rfl (sub_cons (d := 1) rfl (sub_cons (d := 2) rfl (sub_cons (d := 3) rfl (sub_cons (d := 4) rfl (sub_cons (d := 5) rfl (sub_cons (d := 15) rfl (sub_cons (d := 21) rfl (sub_cons (d := 45) rfl (sub_cons (d := 46) rfl (sub_cons (d := 47) rfl (sub_cons (d := 48) rfl (sub_nil _))))))))))))) (.refl _) ?_
      refine hl_nil ?_
      refine hq_then ?_
      refine hc_seq ?_
      refine hc_false rfl ?_
      refine hc_exit ?_
      refine hq_then_exit ?_
      refine hq_then_exit ?_
      refine hq_block_exit ?_
      refine hq_then ?_
      refine hc_seq ?_
      refine hc_region ?_
      refine hl_v rfl rfl rfl (rv_ev rfl) ?_
      refine hl_v rfl rfl rfl (rv_ev rfl) ?_
      refine hl_less (sub_cons (d := 0) rfl (sub_cons (d := 1) rfl (sub_cons (d := 2) rfl (sub_cons (d := 3) rfl (sub_cons (d := 4) rfl (sub_cons (d := 5) rfl (sub_cons (d := 15) rfl (sub_cons (d := 21) rfl (sub_cons (d := 45) rfl (sub_cons (d := 46) rfl (sub_cons (d := 47) rfl (sub_cons (d := 48) rfl (sub_nil _))))))))))))) (.refl _) ?_
      refine hl_nil ?_
      refine hq_then ?_
      refine hc_ret ?_
      have hmz : i = zs.length := by omega
      have hvp : vs = primesN t := by rw [hv, hmz, hz2]
      exact hq_retR (post := [rowE 30 2 v vs.length (vs.flatMap cubC)]) rfl rfl ((.cons_cons _ (.cons _ (.cons _ .slnil)))) (by show [rowE _ 2 _ vs.length (vs.flatMap cubC)] = _; rw [hvp])
end Go.Proofs.Yteccnnpcigkmhaa
