/- Texts of the law FnLineSeparates, part 2: what it uses. -/
import Derived.Test.YtcaeakapeinobaaLns1
set_option linter.unusedVariables false
set_option linter.unusedSimpArgs false
namespace Go.Proofs.Ytcaeakapeinobaa
open Go.RowKit Go.ChangeShapes
open Go.RowKit
open Go.Maps
set_option maxHeartbeats 4000000 in
set_option maxRecDepth 100000 in
theorem wireSources_ret (d : Dev) (t dir track : Int) (w : World) (hv : devB d = true) (t0 : 0 ≤ t) (t1 : t ≤ d.W * d.H - 1) (r0 : 0 ≤ dir) (r1 : dir ≤ 3) (k0 : 0 ≤ track) (k1_o : track ≤ d.T - 1) :
  Calls Try.prog 47 #[.agg #[.int .i64 d.W, .int .i64 d.H, .int .i64 d.T, .int .i64 d.R], .int .i64 t, .int .i64 dir, .int .i64 track] w (Ret w (fun v' post => post = [rowE 3 1 v' (wireO d t dir track 4).length ((wireO d t dir track 4).map (Value.int .i64))])) := by
 obtain ⟨-, -, ⟨l1, l2⟩, -⟩ := (devB_iff d).1 hv
 have hmr := mod_rng (a := track + 1) l1
 refine calls_hc (N := 69) (args := [.agg #[.int .i64 d.W, .int .i64 d.H, .int .i64 d.T, .int .i64 d.R], .int .i64 t, .int .i64 dir, .int .i64 track]) Try.func47 rfl rfl ?_
 refine hc_less _ (sx 0 rfl (sx 1 rfl (sx 2 rfl (sx 3 rfl (sub_nil _))))) (.refl _) ?_
 refine hc_seq ?_
 refine hc_region ?_
 refine hl_box rfl rfl rfl (rq_box rfl rfl) ?_
 intro b1
 refine hl_v rfl rfl rfl (rv_ev rfl) ?_
 refine hl_less (sx 0 rfl (sx 1 rfl (sx 2 rfl (sx 3 rfl (sx 4 rfl (sx 8 rfl (sub_nil _))))))) (.refl _) ?_
 refine hl_nil ?_
 refine hq_then ?_
 refine hc_seq ?_
 refine hc_region ?_
 refine hl_nilRow 3 1 ?_
 refine hl_v rfl rfl rfl (rv_ev rfl) ?_
 refine hl_less (sx 0 rfl (sx 1 rfl (sx 2 rfl (sx 3 rfl (sx 4 rfl (sx 8 rfl (sx 9 rfl (sub_nil _)))))))) (.refl _) ?_
 refine hl_nil ?_
 refine hq_then ?_
 refine hc_seq ?_
 refine hc_seq ?_
 refine hc_region ?_
 refine hl_v rfl rfl rfl (rv_ev rfl) ?_
 refine hl_less (sx 0 rfl (sx 1 rfl (sx 2 rfl (sx 3 rfl (sx 4 rfl (sx 8 rfl (sx 9 rfl (sx 10 rfl (sub_nil _))))))))) (.refl _) ?_
 refine hl_nil ?_
 refine hq_then ?_
 refine hc_block ?_
 refine hc_loop3 (α := Nat) (β := Value) (γ := List Int) (fun p v xs => [rowE 3 1 v xs.length (xs.map (Value.int .i64)), boxE b1 #[.int .i64 d.W, .int .i64 d.H, .int .i64 d.T, .int .i64 d.R] 25]) (fun p v xs => [(0, .agg #[.int .i64 d.W, .int .i64 d.H, .int .i64 d.T, .int .i64 d.R]), (1, .int .i64 t), (2, .int .i64 dir), (3, .int .i64 track), (4, .pointer (some ⟨b1, 0, none⟩)), (8, .slice none 0 0), (9, v), (10, .int .i64 (p : Int))]) (fun p v xs => p ≤ 2 ∧ xs = outO d t p ∧ xs.length ≤ p) (fun p v xs => 3 - p) 0 _ [] ⟨by omega, rfl, by simp⟩ (sx 0 rfl (sx 1 rfl (sx 2 rfl (sx 3 rfl (sx 4 rfl (sx 8 rfl (sx 9 rfl (sx 10 rfl (sub_nil _))))))))) ((.cons_cons _ (.cons_cons _ .slnil))) ?_
 intro p v xs hi3
 obtain ⟨hp, hx, hxl⟩ := hi3
 refine hc_seq ?_
 refine hc_seq ?_
 refine hc_region ?_
 refine hl_v rfl rfl rfl (rv_ev rfl) ?_
 refine hl_lss rfl rfl rfl rfl rfl rfl (fun h4 => ?_) (fun h4 => ?_)
 ·
  refine hl_less (sx 0 rfl (sx 1 rfl (sx 2 rfl (sx 3 rfl (sx 4 rfl (sx 8 rfl (sx 9 rfl (sx 10 rfl (sx 17 rfl (sub_nil _)))))))))) (.refl _) ?_
  refine hl_nil ?_
  refine hq_then ?_
  refine hc_true rfl ?_
  refine hc_skip ?_
  refine hq_then ?_
  refine hc_seq ?_
  refine hc_block ?_
  refine hc_seq ?_
  refine hc_region ?_
  refine hl_v rfl rfl rfl (rv_loadN (cs := [.int .i64 d.W, .int .i64 d.H, .int .i64 d.T, .int .i64 d.R]) rfl (by kernel_rfl) (by kernel_rfl) rfl rfl (box_part 1 rfl 0 rfl)) ?_
  refine hl_v rfl rfl rfl (rv_ev rfl) ?_
  refine hl_v rfl rfl rfl (rv_ev rfl) ?_
  refine hl_callV rfl rfl rfl (rq_call (by kernel_rfl) rfl (fun w hm => ret_ans (outPin_ans d _ _ w (by omega) (by omega)))) ?_
  refine hl_v rfl rfl rfl (rv_ev rfl) ?_
  refine hl_less (sx 0 rfl (sx 1 rfl (sx 2 rfl (sx 3 rfl (sx 4 rfl (sx 8 rfl (sx 9 rfl (sx 10 rfl (sx 11 rfl (sx 17 rfl (sub_nil _))))))))))) (.refl _) ?_
  refine hl_nil ?_
  refine hq_then ?_
  refine hc_seq ?_
  refine hc_region ?_
  refine hl_v rfl rfl rfl (rv_ev rfl) ?_
  refine hl_geq rfl rfl rfl rfl rfl rfl (fun h5 => ?_) (fun h5 => ?_)
  ·
   refine hl_less (sx 0 rfl (sx 1 rfl (sx 2 rfl (sx 3 rfl (sx 4 rfl (sx 8 rfl (sx 9 rfl (sx 10 rfl (sx 11 rfl (sx 17 rfl (sx 25 rfl (sub_nil _)))))))))))) (.refl _) ?_
   refine hl_nil ?_
   refine hq_then ?_
   refine hc_true rfl ?_
   refine hc_region ?_
   refine hl_v rfl rfl rfl (rv_ev rfl) ?_
   refine hl_v rfl rfl rfl (rv_ev rfl) ?_
   refine hl_callM (R := (fun v' p' => p' = rowE 3 1 v' (insI xs (outPinI d t (p : Int))).length ((insI xs (outPinI d t (p : Int))).map (Value.int .i64)))) 0 rfl rfl (by kernel_rfl) rfl rfl (fun l' w hm => insertInt_mut _ xs _ (by omega) w hm) ?_
   intro v6 p7 hR8
   subst hR8
   refine hl_eqL (l' := [rowE 3 1 v6 ((insI xs (outPinI d t (p : Int))).length) ((insI xs (outPinI d t (p : Int))).map (Value.int .i64)), boxE b1 #[.int .i64 d.W, .int .i64 d.H, .int .i64 d.T, .int .i64 d.R] 25]) rfl ?_
   refine hl_v rfl rfl rfl (rv_ev rfl) ?_
   refine hl_less (sx 0 rfl (sx 1 rfl (sx 2 rfl (sx 3 rfl (sx 4 rfl (sx 8 rfl (sx 9 rfl (sx 10 rfl (sx 11 rfl (sx 17 rfl (sx 25 rfl (sub_nil _)))))))))))) (.refl _) ?_
   refine hl_nil ?_
   refine hq_block_normal ?_
   refine hq_then ?_
   refine hc_region ?_
   refine hl_v rfl rfl rfl (rv_ev rfl) ?_
   refine hl_v rfl rfl rfl (rv_add rfl rfl rfl (by constructor <;> omega)) ?_
   refine hl_v rfl rfl rfl (rv_ev rfl) ?_
   refine hl_less (sx 0 rfl (sx 1 rfl (sx 2 rfl (sx 3 rfl (sx 4 rfl (sx 8 rfl (sx 9 rfl (sx 10 rfl (sx 11 rfl (sx 17 rfl (sx 25 rfl (sub_nil _)))))))))))) (.refl _) ?_
   refine hl_nil ?_
   have hil := insI_len xs (outPinI d t (p : Int))
   exact hq_round3 (p + 1) _ _ ⟨by omega, by rw [outO_succ, ← hx]; unfold outS; first | rw [if_pos (by assumption)] | rw [if_neg (by omega)], by omega⟩ (by omega) (sx 0 rfl (sx 1 rfl (sx 2 rfl (sx 3 rfl (sx 4 rfl (sx 8 rfl (sx 9 rfl (sx 10 rfl (sub_nil _))))))))) ((.cons_cons _ (.cons_cons _ .slnil)))
  ·
   refine hl_less (sx 0 rfl (sx 1 rfl (sx 2 rfl (sx 3 rfl (sx 4 rfl (sx 8 rfl (sx 9 rfl (sx 10 rfl (sx 11 rfl (sx 17 rfl (sx 25 rfl (sub_nil _)))))))))))) (.refl _) ?_
   refine hl_nil ?_
   refine hq_then ?_
   refine hc_false rfl ?_
   refine hc_skip ?_
   refine hq_block_normal ?_
   refine hq_then ?_
   refine hc_region ?_
   refine hl_v rfl rfl rfl (rv_ev rfl) ?_
   refine hl_v rfl rfl rfl (rv_add rfl rfl rfl (by constructor <;> omega)) ?_
   refine hl_v rfl rfl rfl (rv_ev rfl) ?_
   refine hl_less (sx 0 rfl (sx 1 rfl (sx 2 rfl (sx 3 rfl (sx 4 rfl (sx 8 rfl (sx 9 rfl (sx 10 rfl (sx 11 rfl (sx 17 rfl (sx 25 rfl (sub_nil _)))))))))))) (.refl _) ?_
   refine hl_nil ?_
   have hil := insI_len xs (outPinI d t (p : Int))
   exact hq_round3 (p + 1) _ _ ⟨by omega, by rw [outO_succ, ← hx]; unfold outS; first | rw [if_pos (by assumption)] | rw [if_neg (by omega)], by omega⟩ (by omega) (sx 0 rfl (sx 1 rfl (sx 2 rfl (sx 3 rfl (sx 4 rfl (sx 8 rfl (sx 9 rfl (sx 10 rfl (sub_nil _))))))))) ((.cons_cons _ (.cons_cons _ .slnil)))
 ·
  refine hl_less (sx 0 rfl (sx 1 rfl (sx 2 rfl (sx 3 rfl (sx 4 rfl (sx 8 rfl (sx 9 rfl (sx 10 rfl (sx 17 rfl (sub_nil _)))))))))) (.refl _) ?_
  refine hl_nil ?_
  refine hq_then ?_
  refine hc_false rfl ?_
  refine hc_exit ?_
  refine hq_then_exit ?_
  refine hq_then_exit ?_
  refine hq_block_exit ?_
  refine hq_then ?_
  refine hc_seq ?_
  refine hc_seq ?_
  refine hc_region ?_
  refine hl_v rfl rfl rfl (rv_ev rfl) ?_
  refine hl_less (sx 0 rfl (sx 1 rfl (sx 2 rfl (sx 3 rfl (sx 4 rfl (sx 8 rfl (sx 9 rfl (sx 10 rfl (sx 12 rfl (sx 17 rfl (sub_nil _))))))))))) (.refl _) ?_
  refine hl_nil ?_
  refine hq_then ?_
  refine hc_block ?_
  refine hc_loop3 (α := Nat) (β := Value) (γ := List Int) (fun r u ys => [rowE 3 1 u ys.length (ys.map (Value.int .i64)), boxE b1 #[.int .i64 d.W, .int .i64 d.H, .int .i64 d.T, .int .i64 d.R] 25]) (fun r u ys => [(0, .agg #[.int .i64 d.W, .int .i64 d.H, .int .i64 d.T, .int .i64 d.R]), (1, .int .i64 t), (2, .int .i64 dir), (3, .int .i64 track), (4, .pointer (some ⟨b1, 0, none⟩)), (8, .slice none 0 0), (9, u), (10, .int .i64 (p : Int)), (12, .int .i64 (r : Int)), (17, .bool false)]) (fun r u ys => r ≤ 4 ∧ ys = wireO d t dir track r ∧ ys.length ≤ 2 + 2 * r) (fun r u ys => 5 - r) 0 _ xs ⟨by omega, by rw [hx, show p = 2 by omega]; rfl, by omega⟩ (sx 0 rfl (sx 1 rfl (sx 2 rfl (sx 3 rfl (sx 4 rfl (sx 8 rfl (sx 9 rfl (sx 10 rfl (sx 12 rfl (sx 17 rfl (sub_nil _))))))))))) ((.cons_cons _ (.cons_cons _ .slnil))) ?_
  intro r u ys hi9
  obtain ⟨hr, hy, hyl⟩ := hi9
  refine hc_seq ?_
  refine hc_seq ?_
  refine hc_region ?_
  refine hl_v rfl rfl rfl (rv_ev rfl) ?_
  refine hl_lss rfl rfl rfl rfl rfl rfl (fun h10 => ?_) (fun h10 => ?_)
  ·
   refine hl_less (sx 0 rfl (sx 1 rfl (sx 2 rfl (sx 3 rfl (sx 4 rfl (sx 8 rfl (sx 9 rfl (sx 10 rfl (sx 12 rfl (sx 17 rfl (sx 30 rfl (sub_nil _)))))))))))) (.refl _) ?_
   refine hl_nil ?_
   refine hq_then ?_
   refine hc_true rfl ?_
   refine hc_skip ?_
   refine hq_then ?_
   refine hc_seq ?_
   refine hc_block ?_
   refine hc_seq ?_
   refine hc_seq ?_
   refine hc_region ?_
   refine hl_v rfl rfl rfl (rv_ev rfl) ?_
   refine hl_v rfl rfl rfl (rv_ev rfl) ?_
   refine hl_v rfl rfl rfl (rv_add rfl rfl rfl (by constructor <;> omega)) ?_
   refine hl_v rfl rfl rfl (rv_rem rfl rfl rfl (by constructor <;> omega)) ?_
   refine hl_eql rfl rfl rfl rfl rfl rfl (fun h11 => ?_) (fun h11 => ?_)
   ·
    refine hl_less (sx 0 rfl (sx 1 rfl (sx 2 rfl (sx 3 rfl (sx 4 rfl (sx 8 rfl (sx 9 rfl (sx 10 rfl (sx 12 rfl (sx 17 rfl (sx 30 rfl (sx 37 rfl (sub_nil _))))))))))))) (.refl _) ?_
    refine hl_nil ?_
    refine hq_then ?_
    refine hc_true rfl ?_
    refine hc_exit ?_
    refine hq_then_exit ?_
    refine hq_block_exit ?_
    refine hq_then ?_
    refine hc_region ?_
    refine hl_v rfl rfl rfl (rv_ev rfl) ?_
    refine hl_v rfl rfl rfl (rv_add rfl rfl rfl (by constructor <;> omega)) ?_
    refine hl_v rfl rfl rfl (rv_ev rfl) ?_
    refine hl_less (sx 0 rfl (sx 1 rfl (sx 2 rfl (sx 3 rfl (sx 4 rfl (sx 8 rfl (sx 9 rfl (sx 10 rfl (sx 12 rfl (sx 17 rfl (sx 30 rfl (sx 37 rfl (sub_nil _))))))))))))) (.refl _) ?_
    refine hl_nil ?_
    exact hq_round3 (r + 1) _ _ ⟨by omega, by rw [wireO_succ, ← hy]; unfold wireR; rw [if_pos (by omega)], by omega⟩ (by omega) (sx 0 rfl (sx 1 rfl (sx 2 rfl (sx 3 rfl (sx 4 rfl (sx 8 rfl (sx 9 rfl (sx 10 rfl (sx 12 rfl (sx 17 rfl (sub_nil _))))))))))) ((.cons_cons _ (.cons_cons _ .slnil)))
   ·
    refine hl_less (sx 0 rfl (sx 1 rfl (sx 2 rfl (sx 3 rfl (sx 4 rfl (sx 8 rfl (sx 9 rfl (sx 10 rfl (sx 12 rfl (sx 17 rfl (sx 30 rfl (sx 37 rfl (sub_nil _))))))))))))) (.refl _) ?_
    refine hl_nil ?_
    refine hq_then ?_
    refine hc_false rfl ?_
    refine hc_skip ?_
    refine hq_then ?_
    refine hc_seq ?_
    refine hc_region ?_
    refine hl_v rfl rfl rfl (rv_ev rfl) ?_
    refine hl_v rfl rfl rfl (rv_ev rfl) ?_
    refine hl_v rfl rfl rfl (rv_add rfl rfl rfl (by constructor <;> omega)) ?_
    refine hl_v rfl rfl rfl (rv_field (k0 := 2) rfl (by kernel_rfl) rfl) ?_
    refine hl_v rfl rfl rfl (rv_load rfl (by kernel_rfl) rfl (box_cell 1 rfl rfl)) ?_
    refine hl_v rfl rfl rfl (rv_rem rfl rfl rfl (by constructor <;> omega)) ?_
    refine hl_row rfl rfl rfl (rq_buildSlice (z := .int .i64 0) (s := 1) (cs := ([track, (track + 1) % d.T].map (Value.int .i64))) rfl Try.underlying28 (by kernel_rfl) (by decide) rfl (by kernel_rfl) rfl) ?_
    intro g12
    refine hl_v rfl rfl rfl (rv_len rfl Try.underlying28 rfl (rd_row 0 rfl)) ?_
    refine hl_v rfl rfl rfl (rv_ev rfl) ?_
    refine hl_less (sx 0 rfl (sx 1 rfl (sx 2 rfl (sx 3 rfl (sx 4 rfl (sx 8 rfl (sx 9 rfl (sx 10 rfl (sx 12 rfl (sx 17 rfl (sx 30 rfl (sx 37 rfl (sx 44 rfl (sx 45 rfl (sx 46 rfl (sub_nil _)))))))))))))))) (.refl _) ?_
    refine hl_nil ?_
    refine hq_then ?_
    refine hc_block ?_
    refine hc_loop3 (α := Nat) (β := Value) (γ := List Int) (fun j q zs => [rowE 3 1 (.slice (some ⟨g12, 0, none⟩) 2 2) 2 ([track, (track + 1) % d.T].map (Value.int .i64)), rowE 3 1 q zs.length (zs.map (Value.int .i64)), boxE b1 #[.int .i64 d.W, .int .i64 d.H, .int .i64 d.T, .int .i64 d.R] 25]) (fun j q zs => [(0, .agg #[.int .i64 d.W, .int .i64 d.H, .int .i64 d.T, .int .i64 d.R]), (1, .int .i64 t), (2, .int .i64 dir), (3, .int .i64 track), (4, .pointer (some ⟨b1, 0, none⟩)), (8, .slice none 0 0), (9, q), (10, .int .i64 (p : Int)), (12, .int .i64 (r : Int)), (17, .bool false), (30, .bool true), (37, .bool false), (44, .slice (some ⟨g12, 0, none⟩) 2 2), (45, .int .i64 (2 : Int)), (46, .int .i64 (j : Int))]) (fun j q zs => j ≤ 2 ∧ zs = wireK d t r [track, (track + 1) % d.T] ys j ∧ zs.length ≤ ys.length + j) (fun j q zs => 3 - j) 0 _ ys ⟨by omega, rfl, by simp⟩ (sx 0 rfl (sx 1 rfl (sx 2 rfl (sx 3 rfl (sx 4 rfl (sx 8 rfl (sx 9 rfl (sx 10 rfl (sx 12 rfl (sx 17 rfl (sx 30 rfl (sx 37 rfl (sx 44 rfl (sx 45 rfl (sx 46 rfl (sub_nil _)))))))))))))))) ((.cons_cons _ (.cons_cons _ (.cons_cons _ .slnil)))) ?_
    intro j q zs hi13
    obtain ⟨hj, hz, hzl⟩ := hi13
    refine hc_seq ?_
    refine hc_region ?_
    refine hl_lss rfl rfl rfl rfl rfl rfl (fun h14 => ?_) (fun h14 => ?_)
    ·
     refine hl_less (sx 0 rfl (sx 1 rfl (sx 2 rfl (sx 3 rfl (sx 4 rfl (sx 8 rfl (sx 9 rfl (sx 10 rfl (sx 12 rfl (sx 17 rfl (sx 30 rfl (sx 37 rfl (sx 44 rfl (sx 45 rfl (sx 46 rfl (sx 47 rfl (sub_nil _))))))))))))))))) (.refl _) ?_
     refine hl_nil ?_
     refine hq_then ?_
     refine hc_seq ?_
     refine hc_true rfl ?_
     refine hc_skip ?_
     refine hq_then ?_
     refine hc_seq ?_
     refine hc_block ?_
     refine hc_seq ?_
     refine hc_region ?_
     refine hl_v rfl rfl rfl (rv_index (s := 1) rfl Try.underlying28 (by kernel_rfl) rfl rfl (rd_row 0 rfl) (by omega) (by first | omega | (simp only [List.length_set]; omega))) ?_
     refine hl_v rfl rfl rfl (rv_loadEl (u := .int .i64 (([track, (track + 1) % d.T]).getD j 0)) rfl (by kernel_rfl) rfl (rd_row 0 rfl) (ints_at1 (show _ < 2 by first | omega | (simp only [List.length_set]; omega)))) ?_
     have hkr := two_rng (T := d.T) ⟨k0, k1_o⟩ hmr j (by omega)
     refine hl_v rfl rfl rfl (rv_ev rfl) ?_
     refine hl_less (sx 0 rfl (sx 1 rfl (sx 2 rfl (sx 3 rfl (sx 4 rfl (sx 8 rfl (sx 9 rfl (sx 10 rfl (sx 12 rfl (sx 14 rfl (sx 17 rfl (sx 30 rfl (sx 37 rfl (sx 44 rfl (sx 45 rfl (sx 46 rfl (sx 47 rfl (sub_nil _)))))))))))))))))) (.refl _) ?_
     refine hl_nil ?_
     refine hq_then ?_
     refine hc_seq ?_
     refine hc_draw (by kernel_rfl) 8 [0, 1, 2, 3, 4, 5, 6, 7] (List.take 8 _) (List.drop 8 _) [[], [], [], [2], [3], [], [5], [0, 1, 4, 6]] [50, 51, 52, 53, 54, 55, 56, 57] (fun i_ vs_ v_ p_ => match i_ with | 0 => v_ = .agg #[.int .i64 d.W, .int .i64 d.H, .int .i64 d.T, .int .i64 d.R] ∧ p_ = [] | 1 => v_ = .int .i64 t ∧ p_ = [] | 2 => v_ = .int .i64 (r : Int) ∧ p_ = [] | 3 => v_ = .int .i64 ((r : Int) + 2) ∧ p_ = [] | 4 => v_ = .int .i64 (((r : Int) + 2) % 4) ∧ p_ = [] | 5 => v_ = .int .i64 (([track, (track + 1) % d.T]).getD j 0) ∧ p_ = [] | 6 => v_ = .int .i64 (1 + (([track, (track + 1) % d.T]).getD j 0) % 2) ∧ p_ = [] | 7 => v_ = .int .i64 (stepI d t (((r : Int) + 2) % 4) (1 + (([track, (track + 1) % d.T]).getD j 0) % 2)) ∧ p_ = [] | _ => True) (List.take_append_drop 8 _).symm (by kernel_rfl) (by kernel_rfl) rfl rfl ?_ ?_
     ·
      refine ⟨?_, ?_, ?_, ?_, ?_, ?_, ?_, ?_, trivial⟩
      ·
       intro vf pf hR
       refine Or.inl ⟨rfl, ?_⟩
       refine rq_less (sx 4 rfl (sub_nil _)) (List.sublist_append_right _ _) ?_
       exact rq_v (rv_loadN (cs := [.int .i64 d.W, .int .i64 d.H, .int .i64 d.T, .int .i64 d.R]) rfl (by kernel_rfl) (by kernel_rfl) rfl rfl (box_part 2 rfl 0 rfl))
      ·
       intro vf pf hR
       refine Or.inl ⟨rfl, ?_⟩
       refine rq_less (sx 1 rfl (sub_nil _)) (List.sublist_append_right _ _) ?_
       exact rq_v (rv_ev rfl)
      ·
       intro vf pf hR
       refine Or.inl ⟨rfl, ?_⟩
       refine rq_less (sx 12 rfl (sub_nil _)) (List.sublist_append_right _ _) ?_
       exact rq_v (rv_ev rfl)
      ·
       intro vf pf hR
       have e2 : (vf 2) = .int .i64 (r : Int) ∧ (pf 2) = [] := hR 2 (by decide)
       refine Or.inl ⟨rfl, ?_⟩
       refine rq_less (sx 52 (congrArg some e2.1) (sub_nil _)) (List.sublist_append_right _ _) ?_
       exact rq_v (rv_add rfl rfl rfl (by constructor <;> omega))
      ·
       intro vf pf hR
       have e3 : (vf 3) = .int .i64 ((r : Int) + 2) ∧ (pf 3) = [] := hR 3 (by decide)
       refine Or.inl ⟨rfl, ?_⟩
       refine rq_less (sx 53 (congrArg some e3.1) (sub_nil _)) (List.sublist_append_right _ _) ?_
       exact rq_v (rv_rem rfl rfl rfl (by constructor <;> omega))
      ·
       intro vf pf hR
       refine Or.inl ⟨rfl, ?_⟩
       refine rq_less (sx 14 rfl (sub_nil _)) (List.sublist_append_right _ _) ?_
       exact rq_v (rv_ev rfl)
      ·
       intro vf pf hR
       have e5 : (vf 5) = .int .i64 (([track, (track + 1) % d.T]).getD j 0) ∧ (pf 5) = [] := hR 5 (by decide)
       refine Or.inl ⟨rfl, ?_⟩
       refine rq_less (sx 55 (congrArg some e5.1) (sub_nil _)) (List.sublist_append_right _ _) ?_
       exact (rq_call (by kernel_rfl) rfl (fun w hm => ret_ans (ans_of (wireLen_any _ (by omega) (by omega) w))))
      ·
       intro vf pf hR
       have e0 : (vf 0) = .agg #[.int .i64 d.W, .int .i64 d.H, .int .i64 d.T, .int .i64 d.R] ∧ (pf 0) = [] := hR 0 (by decide)
       have e1 : (vf 1) = .int .i64 t ∧ (pf 1) = [] := hR 1 (by decide)
       have e4 : (vf 4) = .int .i64 (((r : Int) + 2) % 4) ∧ (pf 4) = [] := hR 4 (by decide)
       have e6 : (vf 6) = .int .i64 (1 + (([track, (track + 1) % d.T]).getD j 0) % 2) ∧ (pf 6) = [] := hR 6 (by decide)
       refine Or.inl ⟨rfl, ?_⟩
       refine rq_less (sx 50 (congrArg some e0.1) (sx 51 (congrArg some e1.1) (sx 54 (congrArg some e4.1) (sx 56 (congrArg some e6.1) (sub_nil _))))) (List.sublist_append_right _ _) ?_
       exact (rq_call (by kernel_rfl) rfl (fun w hm => ret_ans (tileStep_any d _ _ _ hv (by omega) (by omega) (by omega) (by omega) (by omega) (by omega) w)))
     ·
      intro vf pf hR
      have e7 : (vf 7) = .int .i64 (stepI d t (((r : Int) + 2) % 4) (1 + (([track, (track + 1) % d.T]).getD j 0) % 2)) ∧ (pf 7) = [] := hR 7 (by decide)
      refine hl_less (l' := [rowE 3 1 (.slice (some ⟨g12, 0, none⟩) 2 2) 2 ([track, (track + 1) % d.T].map (Value.int .i64)), rowE 3 1 q zs.length (zs.map (Value.int .i64)), boxE b1 #[.int .i64 d.W, .int .i64 d.H, .int .i64 d.T, .int .i64 d.R] 25]) (sx 0 rfl (sx 1 rfl (sx 2 rfl (sx 3 rfl (sx 4 rfl (sx 8 rfl (sx 9 rfl (sx 10 rfl (sx 12 rfl (sx 14 rfl (sx 17 rfl (sx 30 rfl (sx 37 rfl (sx 44 rfl (sx 45 rfl (sx 46 rfl (sx 47 rfl (sx 57 (congrArg some e7.1) (sub_nil _))))))))))))))))))) (List.sublist_append_right _ _) ?_
      simp only [List.drop_succ_cons, List.drop_zero]
      refine hl_v rfl rfl rfl (rv_ev rfl) ?_
      refine hl_less (sx 0 rfl (sx 1 rfl (sx 2 rfl (sx 3 rfl (sx 4 rfl (sx 8 rfl (sx 9 rfl (sx 10 rfl (sx 12 rfl (sx 14 rfl (sx 15 rfl (sx 17 rfl (sx 30 rfl (sx 37 rfl (sx 44 rfl (sx 45 rfl (sx 46 rfl (sx 47 rfl (sub_nil _))))))))))))))))))) (.refl _) ?_
      refine hl_nil ?_
      refine hq_then ?_
      refine hc_seq ?_
      refine hc_region ?_
      refine hl_v rfl rfl rfl (rv_ev rfl) ?_
      refine hl_geq rfl rfl rfl rfl rfl rfl (fun h15 => ?_) (fun h15 => ?_)
      ·
       refine hl_less (sx 0 rfl (sx 1 rfl (sx 2 rfl (sx 3 rfl (sx 4 rfl (sx 8 rfl (sx 9 rfl (sx 10 rfl (sx 12 rfl (sx 14 rfl (sx 15 rfl (sx 17 rfl (sx 30 rfl (sx 37 rfl (sx 44 rfl (sx 45 rfl (sx 46 rfl (sx 47 rfl (sx 59 rfl (sub_nil _)))))))))))))))))))) (.refl _) ?_
       refine hl_nil ?_
       refine hq_then ?_
       refine hc_true rfl ?_
       refine hc_region ?_
       refine hl_v rfl rfl rfl (rv_ev rfl) ?_
       refine hl_v rfl rfl rfl (rv_loadN (cs := [.int .i64 d.W, .int .i64 d.H, .int .i64 d.T, .int .i64 d.R]) rfl (by kernel_rfl) (by kernel_rfl) rfl rfl (box_part 2 rfl 0 rfl)) ?_
       refine hl_v rfl rfl rfl (rv_ev rfl) ?_
       refine hl_v rfl rfl rfl (rv_ev rfl) ?_
       refine hl_v rfl rfl rfl (rv_ev rfl) ?_
       refine hl_callV rfl rfl rfl (rq_call (by kernel_rfl) rfl (fun w hm => ret_ans (wireNode_at d _ _ _ (step_tOk hv (by omega)) (by omega) (by omega) (by omega) (by omega) w))) ?_
       refine hl_callM (R := (fun v' p' => p' = rowE 3 1 v' (insI zs (wireNodeI d (stepI d t (((r : Int) + 2) % 4) (1 + (([track, (track + 1) % d.T]).getD j 0) % 2)) (r : Int) (([track, (track + 1) % d.T]).getD j 0))).length ((insI zs (wireNodeI d (stepI d t (((r : Int) + 2) % 4) (1 + (([track, (track + 1) % d.T]).getD j 0) % 2)) (r : Int) (([track, (track + 1) % d.T]).getD j 0))).map (Value.int .i64)))) 1 rfl rfl (by kernel_rfl) rfl rfl (fun l' w hm => insertInt_mut _ zs _ (by omega) w hm) ?_
       intro v16 p17 hR18
       subst hR18
       refine hl_eqL (l' := [rowE 3 1 (.slice (some ⟨g12, 0, none⟩) 2 2) 2 ([track, (track + 1) % d.T].map (Value.int .i64)), rowE 3 1 v16 ((insI zs (wireNodeI d (stepI d t (((r : Int) + 2) % 4) (1 + (([track, (track + 1) % d.T]).getD j 0) % 2)) (r : Int) (([track, (track + 1) % d.T]).getD j 0))).length) ((insI zs (wireNodeI d (stepI d t (((r : Int) + 2) % 4) (1 + (([track, (track + 1) % d.T]).getD j 0) % 2)) (r : Int) (([track, (track + 1) % d.T]).getD j 0))).map (Value.int .i64)), boxE b1 #[.int .i64 d.W, .int .i64 d.H, .int .i64 d.T, .int .i64 d.R] 25]) rfl ?_
       refine hl_v rfl rfl rfl (rv_ev rfl) ?_
       refine hl_less (sx 0 rfl (sx 1 rfl (sx 2 rfl (sx 3 rfl (sx 4 rfl (sx 8 rfl (sx 9 rfl (sx 10 rfl (sx 12 rfl (sx 14 rfl (sx 15 rfl (sx 17 rfl (sx 30 rfl (sx 37 rfl (sx 44 rfl (sx 45 rfl (sx 46 rfl (sx 47 rfl (sx 59 rfl (sub_nil _)))))))))))))))))))) (.refl _) ?_
       refine hl_nil ?_
       refine hq_block_normal ?_
       refine hq_then ?_
       refine hc_region ?_
       refine hl_v rfl rfl rfl (rv_add rfl rfl rfl (by constructor <;> omega)) ?_
       refine hl_v rfl rfl rfl (rv_ev rfl) ?_
       refine hl_less (sx 0 rfl (sx 1 rfl (sx 2 rfl (sx 3 rfl (sx 4 rfl (sx 8 rfl (sx 9 rfl (sx 10 rfl (sx 12 rfl (sx 14 rfl (sx 15 rfl (sx 17 rfl (sx 30 rfl (sx 37 rfl (sx 44 rfl (sx 45 rfl (sx 46 rfl (sx 47 rfl (sx 59 rfl (sub_nil _)))))))))))))))))))) (.refl _) ?_
       refine hl_nil ?_
       have hil := insI_len zs (wireNodeI d (stepI d t (((r : Int) + 2) % 4) (1 + [track, (track + 1) % d.T].getD j 0 % 2)) r ([track, (track + 1) % d.T].getD j 0))
       exact hq_round3 (j + 1) _ _ ⟨by omega, by rw [wireK_succ _ _ _ _ _ _ (show j < [track, (track + 1) % d.T].length by simp; omega), ← hz]; unfold wireW; first | rw [if_pos (by assumption)]; done | rw [if_neg (by omega)], by omega⟩ (by omega) (sx 0 rfl (sx 1 rfl (sx 2 rfl (sx 3 rfl (sx 4 rfl (sx 8 rfl (sx 9 rfl (sx 10 rfl (sx 12 rfl (sx 17 rfl (sx 30 rfl (sx 37 rfl (sx 44 rfl (sx 45 rfl (sx 46 rfl (sub_nil _)))))))))))))))) ((.cons_cons _ (.cons_cons _ (.cons_cons _ .slnil))))
      ·
       refine hl_less (sx 0 rfl (sx 1 rfl (sx 2 rfl (sx 3 rfl (sx 4 rfl (sx 8 rfl (sx 9 rfl (sx 10 rfl (sx 12 rfl (sx 14 rfl (sx 15 rfl (sx 17 rfl (sx 30 rfl (sx 37 rfl (sx 44 rfl (sx 45 rfl (sx 46 rfl (sx 47 rfl (sx 59 rfl (sub_nil _)))))))))))))))))))) (.refl _) ?_
       refine hl_nil ?_
       refine hq_then ?_
       refine hc_false rfl ?_
       refine hc_skip ?_
       refine hq_block_normal ?_
       refine hq_then ?_
       refine hc_region ?_
       refine hl_v rfl rfl rfl (rv_add rfl rfl rfl (by constructor <;> omega)) ?_
       refine hl_v rfl rfl rfl (rv_ev rfl) ?_
       refine hl_less (sx 0 rfl (sx 1 rfl (sx 2 rfl (sx 3 rfl (sx 4 rfl (sx 8 rfl (sx 9 rfl (sx 10 rfl (sx 12 rfl (sx 14 rfl (sx 15 rfl (sx 17 rfl (sx 30 rfl (sx 37 rfl (sx 44 rfl (sx 45 rfl (sx 46 rfl (sx 47 rfl (sx 59 rfl (sub_nil _)))))))))))))))))))) (.refl _) ?_
       refine hl_nil ?_
       have hil := insI_len zs (wireNodeI d (stepI d t (((r : Int) + 2) % 4) (1 + [track, (track + 1) % d.T].getD j 0 % 2)) r ([track, (track + 1) % d.T].getD j 0))
       exact hq_round3 (j + 1) _ _ ⟨by omega, by rw [wireK_succ _ _ _ _ _ _ (show j < [track, (track + 1) % d.T].length by simp; omega), ← hz]; unfold wireW; first | rw [if_pos (by assumption)]; done | rw [if_neg (by omega)], by omega⟩ (by omega) (sx 0 rfl (sx 1 rfl (sx 2 rfl (sx 3 rfl (sx 4 rfl (sx 8 rfl (sx 9 rfl (sx 10 rfl (sx 12 rfl (sx 17 rfl (sx 30 rfl (sx 37 rfl (sx 44 rfl (sx 45 rfl (sx 46 rfl (sub_nil _)))))))))))))))) ((.cons_cons _ (.cons_cons _ (.cons_cons _ .slnil))))
    ·
     refine hl_less (sx 0 rfl (sx 1 rfl (sx 2 rfl (sx 3 rfl (sx 4 rfl (sx 8 rfl (sx 9 rfl (sx 10 rfl (sx 12 rfl (sx 17 rfl (sx 30 rfl (sx 37 rfl (sx 44 rfl (sx 45 rfl (sx 46 rfl (sx 47 rfl (sub_nil _))))))))))))))))) (.refl _) ?_
     refine hl_nil ?_
     refine hq_then ?_
     refine hc_seq ?_
     refine hc_false rfl ?_
     refine hc_exit ?_
     refine hq_then_exit ?_
     refine hq_then_exit ?_
     refine hq_block_exit ?_
     refine hq_block_normal ?_
     refine hq_then ?_
     refine hc_region ?_
     refine hl_v rfl rfl rfl (rv_ev rfl) ?_
     refine hl_v rfl rfl rfl (rv_add rfl rfl rfl (by constructor <;> omega)) ?_
     refine hl_v rfl rfl rfl (rv_ev rfl) ?_
     refine hl_less (sx 0 rfl (sx 1 rfl (sx 2 rfl (sx 3 rfl (sx 4 rfl (sx 8 rfl (sx 9 rfl (sx 10 rfl (sx 12 rfl (sx 17 rfl (sx 30 rfl (sx 37 rfl (sx 44 rfl (sx 45 rfl (sx 46 rfl (sx 47 rfl (sub_nil _))))))))))))))))) (.refl _) ?_
     refine hl_nil ?_
     exact hq_round3 (r + 1) _ _ ⟨by omega, by rw [wireO_succ, ← hy]; unfold wireR; rw [if_neg (by omega), hz]; congr 1; omega, by omega⟩ (by omega) (sx 0 rfl (sx 1 rfl (sx 2 rfl (sx 3 rfl (sx 4 rfl (sx 8 rfl (sx 9 rfl (sx 10 rfl (sx 12 rfl (sx 17 rfl (sub_nil _))))))))))) ((.cons _ (.cons_cons _ (.cons_cons _ .slnil))))
  ·
   refine hl_less (sx 0 rfl (sx 1 rfl (sx 2 rfl (sx 3 rfl (sx 4 rfl (sx 8 rfl (sx 9 rfl (sx 10 rfl (sx 12 rfl (sx 17 rfl (sx 30 rfl (sub_nil _)))))))))))) (.refl _) ?_
   refine hl_nil ?_
   refine hq_then ?_
   refine hc_false rfl ?_
   refine hc_exit ?_
   refine hq_then_exit ?_
   refine hq_then_exit ?_
   refine hq_block_exit ?_
   refine hq_then ?_
   refine hc_seq ?_
   refine hc_region ?_
   refine hl_v rfl rfl rfl (rv_ev rfl) ?_
   refine hl_v rfl rfl rfl (rv_ev rfl) ?_
   refine hl_less (sx 0 rfl (sx 1 rfl (sx 2 rfl (sx 3 rfl (sx 4 rfl (sx 8 rfl (sx 9 rfl (sx 10 rfl (sx 12 rfl (sx 17 rfl (sx 30 rfl (sub_nil _)))))))))))) (.refl _) ?_
   refine hl_nil ?_
   refine hq_then ?_
   refine hc_ret ?_
   exact hq_retR (post := [rowE 3 1 u ys.length (ys.map (Value.int .i64))]) rfl rfl ((.cons_cons _ (.cons _ .slnil))) (by rw [hy, show r = 4 by omega])
open Go.RowKit
def srcI (d : Dev) (n : Int) : List Int := if nodeOkI d n = true then (if n % perI d < 5 then pinO d (n / perI d) (n % perI d) 4 else if n % perI d < 7 then [] else wireO d (n / perI d) ((n % perI d - 7) / d.T) ((n % perI d - 7) % d.T) 4) else []
theorem nodeOk_rng {d : Dev} {n : Int} (h : nodeOkI d n = true) : devB d = true ∧ 0 ≤ n ∧ n ≤ allI d - 1 := by
  unfold nodeOkI at h
  rw [Bool.and_eq_true, Bool.and_eq_true] at h
  exact ⟨h.1.1, (inR_iff _ _ _).1 h.1.2⟩
set_option maxHeartbeats 4000000 in
set_option maxRecDepth 100000 in
theorem implSources_ret (d : Dev) (n : Int) (w : World)  :
  Calls Try.prog 41 #[.agg #[.int .i64 d.W, .int .i64 d.H, .int .i64 d.T, .int .i64 d.R], .int .i64 n] w (Ret w (fun v' post => post = [rowE 3 1 v' (srcI d n).length ((srcI d n).map (Value.int .i64))])) := by
 refine calls_hc (N := 44) (args := [.agg #[.int .i64 d.W, .int .i64 d.H, .int .i64 d.T, .int .i64 d.R], .int .i64 n]) Try.func41 rfl rfl ?_
 refine hc_less _ (sx 0 rfl (sx 1 rfl (sub_nil _))) (.refl _) ?_
 refine hc_seq ?_
 refine hc_region ?_
 refine hl_box rfl rfl rfl (rq_box rfl rfl) ?_
 intro b1
 refine hl_nilRow 3 1 ?_
 refine hl_v rfl rfl rfl (rv_ev rfl) ?_
 refine hl_less (sx 0 rfl (sx 1 rfl (sx 2 rfl (sx 4 rfl (sub_nil _))))) (.refl _) ?_
 refine hl_nil ?_
 refine hq_then ?_
 refine hc_seq ?_
 refine hc_seq ?_
 refine hc_region ?_
 refine hl_v rfl rfl rfl (rv_loadN (cs := [.int .i64 d.W, .int .i64 d.H, .int .i64 d.T, .int .i64 d.R]) rfl (by kernel_rfl) (by kernel_rfl) rfl rfl (box_part 1 rfl 0 rfl)) ?_
 refine hl_v rfl rfl rfl (rv_ev rfl) ?_
 refine hl_callV rfl rfl rfl (rq_call (by kernel_rfl) rfl (fun w hm => ret_ans (implRouteNodeOk_any d _ w))) ?_
 refine hl_bool (fun h3 => ?_) (fun h3 => ?_)
 ·
  obtain ⟨hv, n0, n1⟩ := nodeOk_rng h3
  obtain ⟨p0, p1, p2, p3, p4⟩ := place_rng hv n0 n1
  obtain ⟨m1, m2⟩ := all_rng hv
  refine hl_v rfl rfl rfl (rv_ev rfl) ?_
  refine hl_less (sx 0 rfl (sx 1 rfl (sx 2 rfl (sx 4 rfl (sx 14 rfl (sub_nil _)))))) (.refl _) ?_
  refine hl_nil ?_
  refine hq_then ?_
  refine hc_false rfl ?_
  refine hc_skip ?_
  refine hq_then ?_
  refine hc_seq ?_
  refine hc_region ?_
  refine hl_v rfl rfl rfl (rv_loadN (cs := [.int .i64 d.W, .int .i64 d.H, .int .i64 d.T, .int .i64 d.R]) rfl (by kernel_rfl) (by kernel_rfl) rfl rfl (box_part 1 rfl 0 rfl)) ?_
  refine hl_v rfl rfl rfl (rv_ev rfl) ?_
  refine hl_callV rfl rfl rfl (rq_call (by kernel_rfl) rfl (fun w hm => ret_ans (nodePlace_any d _ hv n0 (by omega) w))) ?_
  refine hl_v rfl rfl rfl (rv_ev rfl) ?_
  refine hl_v rfl rfl rfl (rv_ev rfl) ?_
  refine hl_v rfl rfl rfl (rv_ev rfl) ?_
  refine hl_v rfl rfl rfl (rv_ev rfl) ?_
  refine hl_v rfl rfl rfl (rv_ev rfl) ?_
  refine hl_less (sx 0 rfl (sx 1 rfl (sx 2 rfl (sx 4 rfl (sx 5 rfl (sx 6 rfl (sx 14 rfl (sub_nil _)))))))) (.refl _) ?_
  refine hl_nil ?_
  refine hq_then ?_
  refine hc_seq ?_
  refine hc_block ?_
  refine hc_seq ?_
  refine hc_region ?_
  refine hl_v rfl rfl rfl (rv_ev rfl) ?_
  refine hl_lss rfl rfl rfl rfl rfl rfl (fun h4 => ?_) (fun h4 => ?_)
  ·
   refine hl_v rfl rfl rfl (rv_ev rfl) ?_
   refine hl_less (sx 0 rfl (sx 1 rfl (sx 2 rfl (sx 4 rfl (sx 5 rfl (sx 6 rfl (sx 14 rfl (sx 21 rfl (sub_nil _))))))))) (.refl _) ?_
   refine hl_nil ?_
   refine hq_then ?_
   refine hc_true rfl ?_
   refine hc_seq ?_
   refine hc_region ?_
   refine hl_v rfl rfl rfl (rv_loadN (cs := [.int .i64 d.W, .int .i64 d.H, .int .i64 d.T, .int .i64 d.R]) rfl (by kernel_rfl) (by kernel_rfl) rfl rfl (box_part 1 rfl 0 rfl)) ?_
   refine hl_v rfl rfl rfl (rv_ev rfl) ?_
   refine hl_v rfl rfl rfl (rv_ev rfl) ?_
   refine hl_q rfl rfl rfl (rq_call (by kernel_rfl) rfl (fun w hm => pinSources_ret d _ _ w hv p0 (by omega) (by omega) (by omega))) ?_
   intro v5 p6 hR7
   subst hR7
   refine hl_v rfl rfl rfl (rv_ev rfl) ?_
   refine hl_less (sx 0 rfl (sx 1 rfl (sx 2 rfl (sx 4 rfl (sx 5 rfl (sx 6 rfl (sx 14 rfl (sx 21 rfl (sub_nil _))))))))) (.refl _) ?_
   refine hl_nil ?_
   refine hq_then ?_
   refine hc_ret ?_
   refine hq_block_ret ?_
   refine hq_then_ret ?_
   exact hq_retR (post := [rowE 3 1 v5 ((pinO d (n / perI d) (n % perI d) 4).length) ((pinO d (n / perI d) (n % perI d) 4).map (Value.int .i64))]) rfl rfl ((.cons_cons _ (.cons _ (.cons _ .slnil)))) (by unfold srcI; (first | (rw [if_pos (by assumption)]; first | rw [if_pos (by omega)] | rw [if_neg (by omega), if_pos (by omega)] | rw [if_neg (by omega), if_neg (by omega)]) | rw [if_neg (by simp [*])]) <;> rfl)
  ·
   refine hl_v rfl rfl rfl (rv_ev rfl) ?_
   refine hl_less (sx 0 rfl (sx 1 rfl (sx 2 rfl (sx 4 rfl (sx 5 rfl (sx 6 rfl (sx 14 rfl (sx 21 rfl (sub_nil _))))))))) (.refl _) ?_
   refine hl_nil ?_
   refine hq_then ?_
   refine hc_false rfl ?_
   refine hc_seq ?_
   refine hc_region ?_
   refine hl_v rfl rfl rfl (rv_ev rfl) ?_
   refine hl_lss rfl rfl rfl rfl rfl rfl (fun h8 => ?_) (fun h8 => ?_)
   ·
    refine hl_v rfl rfl rfl (rv_ev rfl) ?_
    refine hl_less (sx 0 rfl (sx 1 rfl (sx 2 rfl (sx 4 rfl (sx 5 rfl (sx 6 rfl (sx 14 rfl (sx 21 rfl (sx 28 rfl (sub_nil _)))))))))) (.refl _) ?_
    refine hl_nil ?_
    refine hq_then ?_
    refine hc_true rfl ?_
    refine hc_seq ?_
    refine hc_region ?_
    refine hl_nilRow 3 1 ?_
    refine hl_v rfl rfl rfl (rv_ev rfl) ?_
    refine hl_less (sx 0 rfl (sx 1 rfl (sx 2 rfl (sx 4 rfl (sx 5 rfl (sx 6 rfl (sx 14 rfl (sx 21 rfl (sx 28 rfl (sub_nil _)))))))))) (.refl _) ?_
    refine hl_nil ?_
    refine hq_then ?_
    refine hc_ret ?_
    refine hq_block_ret ?_
    refine hq_then_ret ?_
    exact hq_retR (post := [rowE 3 1 (.slice none 0 0) 0 ([])]) rfl rfl ((.cons_cons _ (.cons _ (.cons _ .slnil)))) (by unfold srcI; (first | (rw [if_pos (by assumption)]; first | rw [if_pos (by omega)] | rw [if_neg (by omega), if_pos (by omega)] | rw [if_neg (by omega), if_neg (by omega)]) | rw [if_neg (by simp [*])]) <;> rfl)
   ·
    refine hl_v rfl rfl rfl (rv_ev rfl) ?_
    refine hl_less (sx 0 rfl (sx 1 rfl (sx 2 rfl (sx 4 rfl (sx 5 rfl (sx 6 rfl (sx 14 rfl (sx 21 rfl (sx 28 rfl (sub_nil _)))))))))) (.refl _) ?_
    refine hl_nil ?_
    refine hq_then ?_
    refine hc_false rfl ?_
    refine hc_skip ?_
    refine hq_block_normal ?_
    refine hq_then ?_
    refine hc_seq ?_
    refine hc_region ?_
    refine hl_v rfl rfl rfl (rv_loadN (cs := [.int .i64 d.W, .int .i64 d.H, .int .i64 d.T, .int .i64 d.R]) rfl (by kernel_rfl) (by kernel_rfl) rfl rfl (box_part 1 rfl 0 rfl)) ?_
    refine hl_v rfl rfl rfl (rv_ev rfl) ?_
    refine hl_callV rfl rfl rfl (rq_call (by kernel_rfl) rfl (fun w hm => ret_ans (wireOf_wire d _ hv n0 n1 (by omega) w))) ?_
    refine hl_v rfl rfl rfl (rv_ev rfl) ?_
    refine hl_v rfl rfl rfl (rv_ev rfl) ?_
    refine hl_v rfl rfl rfl (rv_ev rfl) ?_
    refine hl_v rfl rfl rfl (rv_ev rfl) ?_
    refine hl_v rfl rfl rfl (rv_ev rfl) ?_
    refine hl_v rfl rfl rfl (rv_ev rfl) ?_
    refine hl_v rfl rfl rfl (rv_ev rfl) ?_
    refine hl_v rfl rfl rfl (rv_ev rfl) ?_
    refine hl_v rfl rfl rfl (rv_ev rfl) ?_
    refine hl_less (sx 0 rfl (sx 1 rfl (sx 2 rfl (sx 4 rfl (sx 5 rfl (sx 6 rfl (sx 8 rfl (sx 9 rfl (sx 14 rfl (sx 21 rfl (sx 28 rfl (sub_nil _)))))))))))) (.refl _) ?_
    refine hl_nil ?_
    refine hq_then ?_
    refine hc_seq ?_
    refine hc_region ?_
    refine hl_v rfl rfl rfl (rv_loadN (cs := [.int .i64 d.W, .int .i64 d.H, .int .i64 d.T, .int .i64 d.R]) rfl (by kernel_rfl) (by kernel_rfl) rfl rfl (box_part 1 rfl 0 rfl)) ?_
    refine hl_v rfl rfl rfl (rv_ev rfl) ?_
    refine hl_v rfl rfl rfl (rv_ev rfl) ?_
    refine hl_v rfl rfl rfl (rv_ev rfl) ?_
    obtain ⟨g0, g1, g2, g3⟩ := wire_rng hv (by omega) p3
    refine hl_q rfl rfl rfl (rq_call (by kernel_rfl) rfl (fun w hm => wireSources_ret d _ _ _ w hv p0 (by omega) g0 g1 g2 g3)) ?_
    intro v10 p11 hR12
    subst hR12
    refine hl_v rfl rfl rfl (rv_ev rfl) ?_
    refine hl_less (sx 0 rfl (sx 1 rfl (sx 2 rfl (sx 4 rfl (sx 5 rfl (sx 6 rfl (sx 8 rfl (sx 9 rfl (sx 14 rfl (sx 21 rfl (sx 28 rfl (sub_nil _)))))))))))) (.refl _) ?_
    refine hl_nil ?_
    refine hq_then ?_
    refine hc_ret ?_
    exact hq_retR (post := [rowE 3 1 v10 ((wireO d (n / perI d) ((n % perI d - 7) / d.T) ((n % perI d - 7) % d.T) 4).length) ((wireO d (n / perI d) ((n % perI d - 7) / d.T) ((n % perI d - 7) % d.T) 4).map (Value.int .i64))]) rfl rfl ((.cons_cons _ (.cons _ (.cons _ .slnil)))) (by unfold srcI; (first | (rw [if_pos (by assumption)]; first | rw [if_pos (by omega)] | rw [if_neg (by omega), if_pos (by omega)] | rw [if_neg (by omega), if_neg (by omega)]) | rw [if_neg (by simp [*])]) <;> rfl)
 ·
  refine hl_v rfl rfl rfl (rv_ev rfl) ?_
  refine hl_less (sx 0 rfl (sx 1 rfl (sx 2 rfl (sx 4 rfl (sx 14 rfl (sub_nil _)))))) (.refl _) ?_
  refine hl_nil ?_
  refine hq_then ?_
  refine hc_true rfl ?_
  refine hc_seq ?_
  refine hc_region ?_
  refine hl_nilRow 3 1 ?_
  refine hl_v rfl rfl rfl (rv_ev rfl) ?_
  refine hl_less (sx 0 rfl (sx 1 rfl (sx 2 rfl (sx 4 rfl (sx 14 rfl (sub_nil _)))))) (.refl _) ?_
  refine hl_nil ?_
  refine hq_then ?_
  refine hc_ret ?_
  refine hq_then_ret ?_
  exact hq_retR (post := [rowE 3 1 (.slice none 0 0) 0 ([])]) rfl rfl ((.cons_cons _ (.cons _ (.cons _ .slnil)))) (by unfold srcI; (first | (rw [if_pos (by assumption)]; first | rw [if_pos (by omega)] | rw [if_neg (by omega), if_pos (by omega)] | rw [if_neg (by omega), if_neg (by omega)]) | rw [if_neg (by simp [*])]) <;> rfl)
open Go.RowKit
theorem tileStep_eq {d : Dev} {t dir s : Int} (h : tOk d t = true) (r0 : 0 ≤ dir) (r1 : dir ≤ 3) (s0 : 0 ≤ s) (s1 : s ≤ 6) : tileStepI d t dir s = stepI d t dir s := if_pos ⟨h, inR_true r0 r1, inR_true s0 s1⟩
open Go.RowKit
/-- (r, k) is passed over -/
def Skip (T p dir track r k : Int) : Prop := (7 ≤ p ∧ (r = (dir + 2) % 4 ∨ (k ≠ track ∧ k ≠ (track + 1) % T))) ∨ (p < 7 ∧ 1 < T ∧ (k + p) % 2 = 1)
instance (T p dir track r k : Int) : Decidable (Skip T p dir track r k) := by unfold Skip; exact inferInstance
theorem insI_mem (xs : List Int) (x y : Int) : y ∈ insI xs x ↔ y = x ∨ y ∈ xs := by
  induction xs with
  | nil => simp [insI]
  | cons z zs ih =>
    simp only [insI]
    split
    · rw [List.mem_cons, ih, List.mem_cons]
      constructor
      · rintro (h | h | h)
        · exact .inr (.inl h)
        · exact .inl h
        · exact .inr (.inr h)
      · rintro (h | h | h)
        · exact .inr (.inl h)
        · exact .inl h
        · exact .inr (.inr h)
    · split
      · rename_i h; subst h; simp
      · simp
theorem fold_ins {α : Type} (f : List Int → α → List Int) (P : α → Int → Prop) (hf : ∀ xs i y, y ∈ f xs i ↔ y ∈ xs ∨ P i y) : ∀ (l : List α) (xs : List Int) (y : Int), y ∈ l.foldl f xs ↔ y ∈ xs ∨ ∃ i ∈ l, P i y
  | [], xs, y => by simp
  | i :: l, xs, y => by
    rw [List.foldl_cons, fold_ins f P hf l, hf]
    constructor
    · rintro ((h | h) | ⟨j, hj, h⟩)
      · exact .inl h
      · exact .inr ⟨i, by simp, h⟩
      · exact .inr ⟨j, by simp [hj], h⟩
    · rintro (h | ⟨j, hj, h⟩)
      · exact .inl (.inl h)
      · rcases List.mem_cons.1 hj with rfl | hj
        · exact .inl (.inr h)
        · exact .inr ⟨j, hj, h⟩
/-- y is the wire that begins s steps back from t in direction r, on track k -/
def Cand (d : Dev) (t r k s y : Int) : Prop := 0 ≤ stepI d t ((r + 2) % 4) s ∧ 0 ≤ wireNodeI d (stepI d t ((r + 2) % 4) s) r k ∧ y = wireNodeI d (stepI d t ((r + 2) % 4) s) r k
theorem pinS_mem (d : Dev) (t r k : Int) (xs : List Int) (s : Nat) (y : Int) : y ∈ pinS d t r k xs s ↔ y ∈ xs ∨ Cand d t r k ((s : Int) + 1) y := by
  unfold pinS Cand
  split
  · constructor
    · exact .inl
    · rintro (h | ⟨h, _⟩)
      · exact h
      · omega
  · split
    · rw [insI_mem]
      constructor
      · rintro (h | h)
        · exact .inr ⟨by omega, by assumption, h⟩
        · exact .inl h
      · rintro (h | ⟨_, _, h⟩)
        · exact .inr h
        · exact .inl h
    · constructor
      · exact .inl
      · rintro (h | ⟨_, h, _⟩)
        · exact h
        · omega
theorem pinO_mem (d : Dev) (t p : Int) (j : Nat) (y : Int) : y ∈ pinO d t p j ↔ ∃ r ∈ List.range j, ∃ k ∈ List.range d.T.toNat, ¬ (1 < d.T ∧ ((k : Int) + p) % 2 ≠ 0) ∧ ∃ s ∈ List.range (1 + k % 2), Cand d t r k ((s : Int) + 1) y := by
  unfold pinO
  rw [fold_ins (P := fun (r : Nat) y => ∃ k ∈ List.range d.T.toNat, ¬ (1 < d.T ∧ ((k : Int) + p) % 2 ≠ 0) ∧ ∃ s ∈ List.range (1 + k % 2), Cand d t r k ((s : Int) + 1) y)]
  · simp
  · intro xs r y
    unfold pinR
    rw [fold_ins (P := fun (k : Nat) y => ¬ (1 < d.T ∧ ((k : Int) + p) % 2 ≠ 0) ∧ ∃ s ∈ List.range (1 + k % 2), Cand d t r k ((s : Int) + 1) y)]
    intro xs k y
    split
    · rename_i h; simp [h]
    · rename_i h
      unfold pinK
      rw [fold_ins (P := fun (s : Nat) y => Cand d t r k ((s : Int) + 1) y) _ (fun xs s y => pinS_mem d t r k xs s y)]
      simp only [h, not_false_eq_true, true_and]
theorem wireNodeI_nonneg {d : Dev} {f r k : Int} (h : 0 ≤ wireNodeI d f r k) : wireNodeI d f r k = wireN d f r k := by
  unfold wireNodeI at *
  split
  · rfl
  · rename_i hh; rw [if_neg hh] at h; omega
theorem wireO_mem (d : Dev) (t dir track : Int) (y : Int) : y ∈ wireO d t dir track 4 ↔ (∃ p ∈ List.range 2, 0 ≤ outPinI d t (p : Nat) ∧ y = outPinI d t (p : Nat)) ∨ ∃ r ∈ List.range 4, ¬ ((r : Nat) : Int) = (dir + 2) % 4 ∧ ∃ k ∈ [track, (track + 1) % d.T], 0 ≤ stepI d t (((r : Nat) + 2) % 4) (1 + k % 2) ∧ y = wireNodeI d (stepI d t (((r : Nat) + 2) % 4) (1 + k % 2)) (r : Nat) k := by
  unfold wireO
  rw [fold_ins (P := fun (r : Nat) y => ¬ ((r : Nat) : Int) = (dir + 2) % 4 ∧ ∃ k ∈ [track, (track + 1) % d.T], 0 ≤ stepI d t (((r : Nat) + 2) % 4) (1 + k % 2) ∧ y = wireNodeI d (stepI d t (((r : Nat) + 2) % 4) (1 + k % 2)) (r : Nat) k)]
  · unfold outO
    rw [fold_ins (P := fun (p : Nat) y => 0 ≤ outPinI d t (p : Nat) ∧ y = outPinI d t (p : Nat))]
    · simp
    · intro xs p y
      unfold outS
      split
      · rename_i h; rw [insI_mem]; simp only [h, true_and]; exact Or.comm
      · rename_i h; simp [h]
  · intro xs r y
    unfold wireR
    split
    · rename_i h; simp [h]
    · rename_i h
      unfold wireK
      rw [fold_ins (P := fun (k : Int) y => 0 ≤ stepI d t (((r : Nat) + 2) % 4) (1 + k % 2) ∧ y = wireNodeI d (stepI d t (((r : Nat) + 2) % 4) (1 + k % 2)) (r : Nat) k)]
      · simp only [h, not_false_eq_true, true_and]; rfl
      · intro xs k y
        unfold wireW
        split
        · rename_i h; rw [insI_mem]; simp only [h, true_and]; exact Or.comm
        · rename_i h; simp [h]
open Go.RowKit
theorem fold_bound {α : Type} (f : List Int → α → List Int) (c : Nat) (hf : ∀ xs a, (f xs a).length ≤ xs.length + c) : ∀ (l : List α) (xs : List Int), (l.foldl f xs).length ≤ xs.length + l.length * c
  | [], xs => by simp
  | a :: l, xs => by
    have h1 := fold_bound f c hf l (f xs a)
    have h2 := hf xs a
    have h3 : (l.length + 1) * c = l.length * c + c := by rw [Nat.add_mul, Nat.one_mul]
    simp only [List.foldl_cons, List.length_cons]
    omega
theorem BRow.drew {k : IntKind} {w : World} {a : Option Addr} {len cap : Nat} {zs : List Int} (h : BRow k w a len cap zs) : BRow k w.drew a len cap zs := h.below (bel_drew (Below.refl _ _))
theorem wire_parts {d : Dev} {t dir k : Int} (ht : tOk d t = true) (r0 : 0 ≤ dir) (r1 : dir ≤ 3) (k0 : 0 ≤ k) (k1_o : k ≤ d.T - 1) (hs : 0 ≤ stepI d t dir (1 + k % 2)) :
    0 ≤ wireN d t dir k ∧ wireN d t dir k ≤ allI d - 1 ∧ wireN d t dir k / perI d = t ∧ 7 ≤ wireN d t dir k % perI d ∧ (wireN d t dir k % perI d - 7) / d.T = dir ∧ (wireN d t dir k % perI d - 7) % d.T = k ∧ nodeOkI d (wireN d t dir k) = true := by
  obtain ⟨hv, t0, t1⟩ := (tOk_iff d t).1 ht
  obtain ⟨-, -, ⟨l1, l2⟩, -⟩ := (devB_iff d).1 hv
  have e9 : 0 ≤ dir * d.T ∧ dir * d.T ≤ 3 * d.T := ⟨Int.mul_nonneg r0 (by omega), Int.mul_le_mul_of_nonneg_right r1 (by omega)⟩
  have hp : perI d = 7 + 4 * d.T := rfl
  have e : wireN d t dir k = t * perI d + (7 + dir * d.T + k) := by unfold wireN; omega
  obtain ⟨f1, f2⟩ := xy_of (W := perI d) (x := 7 + dir * d.T + k) (y := t) (by omega) (by omega) (by omega)
  obtain ⟨f3, f4⟩ := xy_of (W := d.T) (x := k) (y := dir) (by omega) k0 (by omega)
  have e8 : 0 ≤ t * perI d := Int.mul_nonneg t0 (by omega)
  have e7 : t * perI d ≤ (d.W * d.H - 1) * perI d := Int.mul_le_mul_of_nonneg_right t1 (by omega)
  have e6 : (d.W * d.H - 1) * perI d = allI d - perI d := by rw [Int.sub_mul, Int.one_mul]; rfl
  rw [e, f1, f2, show 7 + dir * d.T + k - 7 = dir * d.T + k by omega, f3, f4]
  refine ⟨by omega, by omega, rfl, by omega, rfl, rfl, ?_⟩
  rw [nodeOk_in hv (inR_true (by omega) (by omega)), f1, f2, nodeB_wire (by omega), show 7 + dir * d.T + k - 7 = dir * d.T + k by omega, f3, f4, decide_eq_true hs]
theorem reach_get (d : Dev) (t dir : Int) (j i : Nat) (h : i < j) : (reachN d t dir j).getD i 0 = stepI d t dir ((i : Int) + 1) := by
  induction j with
  | zero => omega
  | succ j ih =>
    rw [reachN, List.getD_eq_getElem?_getD]
    by_cases hi : i < j
    · rw [List.getElem?_append_left (by rw [reachN_len]; exact hi), ← List.getD_eq_getElem?_getD]; exact ih hi
    · obtain rfl : i = j := by omega
      rw [List.getElem?_append_right (by rw [reachN_len]; omega), reachN_len, Nat.sub_self]; rfl
theorem stepI_back {d : Dev} {t r s : Int} (ht : tOk d t = true) (r0 : 0 ≤ r) (r1 : r ≤ 3) (s0 : 0 ≤ s) (s1 : s ≤ 6) (h : 0 ≤ stepI d t r s) : stepI d (stepI d t r s) ((r + 2) % 4) s = t ∧ tOk d (stepI d t r s) = true := by
  have e1 := tileStep_eq ht r0 r1 s0 s1
  obtain ⟨h1, _, h3⟩ := step_back d t r s ht r0 r1 s0 s1 (by omega)
  rw [e1] at h1 h3
  rw [tileStep_eq h3 (by omega) (by omega) s0 s1] at h1
  exact ⟨h1, h3⟩
def Loc (d : Dev) (k y : Int) : Prop := nodeOkI d y = true ∧ ((5 ≤ y % perI d ∧ y % perI d < 7 ∧ y / perI d = k / perI d ∧ 7 ≤ k % perI d) ∨
  (7 ≤ y % perI d ∧ ∃ s : Int, 1 ≤ s ∧ s ≤ 1 + (y % perI d - 7) % d.T % 2 ∧ stepI d (y / perI d) ((y % perI d - 7) / d.T) s = k / perI d ∧ (7 ≤ k % perI d → s = 1 + (y % perI d - 7) % d.T % 2 ∧ (y % perI d - 7) / d.T ≠ ((k % perI d - 7) / d.T + 2) % 4)))
theorem loc_wire {d : Dev} {k r q s : Int} (ht : tOk d (k / perI d) = true) (r0 : 0 ≤ r) (r1 : r ≤ 3) (q0 : 0 ≤ q) (q1 : q ≤ d.T - 1) (s0 : 1 ≤ s) (s1 : s ≤ 1 + q % 2) (h1 : 0 ≤ stepI d (k / perI d) ((r + 2) % 4) s)
    (h2 : 0 ≤ stepI d (stepI d (k / perI d) ((r + 2) % 4) s) r (1 + q % 2)) (h3 : 7 ≤ k % perI d → s = 1 + q % 2 ∧ r ≠ ((k % perI d - 7) / d.T + 2) % 4) : Loc d k (wireN d (stepI d (k / perI d) ((r + 2) % 4) s) r q) := by
  obtain ⟨b1, b2⟩ := stepI_back ht (show 0 ≤ (r + 2) % 4 by omega) (by omega) (show 0 ≤ s by omega) (by omega) h1
  rw [show ((r + 2) % 4 + 2) % 4 = r by omega] at b1
  obtain ⟨v0, v1, v2, v3, v4, v5, v6⟩ := wire_parts b2 r0 r1 q0 q1 h2
  refine ⟨v6, .inr ⟨v3, s, s0, ?_, ?_, ?_⟩⟩
  · rw [v5]; exact s1
  · rw [v2, v4]; exact b1
  · rw [v4, v5]; exact h3
theorem loc_out {d : Dev} {k p : Int} (ht : tOk d (k / perI d) = true) (hk : 7 ≤ k % perI d) (p0 : 0 ≤ p) (h : 0 ≤ outPinI d (k / perI d) p) : Loc d k (outPinI d (k / perI d) p) := by
  obtain ⟨hv, t0, t1⟩ := (tOk_iff _ _).1 ht
  obtain ⟨q1, q2⟩ := per_rng hv
  obtain ⟨o1, o2⟩ := outPins_rng d (k / perI d)
  unfold outPinI at *
  split at h
  · rename_i hh
    rw [if_pos hh]
    obtain ⟨-, h2, h3⟩ := hh
    obtain ⟨f1, f2⟩ := xy_of (W := perI d) (x := 5 + p) (y := k / perI d) (by omega) (by omega) (by omega)
    have e : k / perI d * perI d + 5 + p = k / perI d * perI d + (5 + p) := by omega
    have m := per_mul hv t0 t1
    have e7 : k / perI d * perI d ≤ (d.W * d.H - 1) * perI d := Int.mul_le_mul_of_nonneg_right t1 (by omega)
    have e6 : (d.W * d.H - 1) * perI d = allI d - perI d := by rw [Int.sub_mul, Int.one_mul]; rfl
    rw [e]
    refine ⟨?_, .inl ⟨by omega, by omega, f2, hk⟩⟩
    rw [nodeOk_in hv (inR_true (by omega) (by omega)), f2, f1, nodeB_out (by omega) (by omega)]
    exact decide_eq_true (by omega)
  · omega
theorem src_loc {d : Dev} {k : Int} (hv : devB d = true) (n0 : 0 ≤ k) (n1 : k ≤ allI d - 1) : ∀ y ∈ srcI d k, Loc d k y := by
  obtain ⟨p0, p1, p2, p3, ht⟩ := place_rng hv n0 n1
  obtain ⟨-, -, ⟨l1, l2⟩, -⟩ := (devB_iff d).1 hv
  intro y hy
  unfold srcI at hy
  split at hy
  · split at hy
    · rw [pinO_mem] at hy
      obtain ⟨r, hr, q, hq, -, s, hs, c1, c2, c3⟩ := hy
      rw [List.mem_range] at hr hq hs
      have hw := wireNodeI_nonneg c2
      subst c3
      rw [hw]
      refine loc_wire ht (by omega) (by omega) (by omega) (by omega) (by omega) (by omega) c1 ?_ (fun h => absurd h (by omega))
      unfold wireNodeI at c2
      split at c2
      · assumption
      · omega
    · split at hy
      · cases hy
      · obtain ⟨dg0, dg1, dg2, dg3⟩ := wire_rng hv (by omega) p3
        rw [wireO_mem] at hy
        rcases hy with ⟨p, hp, c1, rfl⟩ | ⟨r, hr, hne, q, hq, c1, rfl⟩
        · exact loc_out ht (by omega) (by omega) c1
        · rw [List.mem_range] at hr
          have hq' : 0 ≤ q ∧ q ≤ d.T - 1 := by
            rcases List.mem_cons.1 hq with rfl | hq
            · exact ⟨dg2, dg3⟩
            · rw [List.mem_singleton] at hq
              subst hq
              have := Int.emod_nonneg ((k % perI d - 7) % d.T + 1) (show d.T ≠ 0 by omega)
              have := Int.emod_lt_of_pos ((k % perI d - 7) % d.T + 1) (show 0 < d.T by omega)
              omega
          obtain ⟨b1, b2⟩ := stepI_back ht (show 0 ≤ ((r : Int) + 2) % 4 by omega) (by omega) (show 0 ≤ 1 + q % 2 by omega) (by omega) c1
          rw [show (((r : Int) + 2) % 4 + 2) % 4 = r by omega] at b1
          have h2 : 0 ≤ stepI d (stepI d (k / perI d) (((r : Int) + 2) % 4) (1 + q % 2)) r (1 + q % 2) := by omega
          unfold wireNodeI
          rw [if_pos h2]
          exact loc_wire ht (by omega) (by omega) hq'.1 hq'.2 (by omega) (by omega) c1 h2 (fun _ => ⟨rfl, hne⟩)
  · cases hy
theorem fold_sum {α : Type} (f : List Int → α → List Int) (c : α → Nat) (hf : ∀ xs a, (f xs a).length ≤ xs.length + c a) : ∀ (l : List α) (xs : List Int), (l.foldl f xs).length ≤ xs.length + (l.map c).sum
  | [], xs => by simp
  | a :: l, xs => by
    have h1 := fold_sum f c hf l (f xs a)
    have h2 := hf xs a
    simp only [List.foldl_cons, List.map_cons, List.sum_cons]
    omega
theorem pinR_len (d : Dev) (t p r : Int) (xs : List Int) (l1 : 1 ≤ d.T) (l2 : d.T ≤ 4) : (pinR d t p r xs d.T.toNat).length ≤ xs.length + 4 := by
  have h := fold_sum (fun xs (k : Nat) => if 1 < d.T ∧ ((k : Int) + p) % 2 ≠ 0 then xs else pinK d t r k xs (1 + k % 2)) (fun k => if 1 < d.T ∧ ((k : Int) + p) % 2 ≠ 0 then 0 else 1 + k % 2) (fun xs k => by
    split
    · omega
    · have := fold_bound (pinS d t r k) 1 (fun xs s => by
        unfold pinS
        split
        · omega
        · split
          · exact insI_len _ _
          · omega) (List.range (1 + k % 2)) xs
      rw [List.length_range] at this
      unfold pinK; omega) (List.range d.T.toNat) xs
  have h2 : ((List.range d.T.toNat).map (fun (k : Nat) => if 1 < d.T ∧ ((k : Int) + p) % 2 ≠ 0 then 0 else 1 + k % 2)).sum ≤ 4 := by
    obtain e | e | e | e : d.T = 1 ∨ d.T = 2 ∨ d.T = 3 ∨ d.T = 4 := by omega
    · rw [show List.range d.T.toNat = [0] by rw [e]; rfl]
      simp only [List.map_cons, List.map_nil, List.sum_cons, List.sum_nil]
      (repeat' split) <;> omega
    · rw [show List.range d.T.toNat = [0, 1] by rw [e]; rfl]
      simp only [List.map_cons, List.map_nil, List.sum_cons, List.sum_nil]
      (repeat' split) <;> omega
    · rw [show List.range d.T.toNat = [0, 1, 2] by rw [e]; rfl]
      simp only [List.map_cons, List.map_nil, List.sum_cons, List.sum_nil]
      (repeat' split) <;> omega
    · rw [show List.range d.T.toNat = [0, 1, 2, 3] by rw [e]; rfl]
      simp only [List.map_cons, List.map_nil, List.sum_cons, List.sum_nil]
      (repeat' split) <;> omega
  exact Nat.le_trans h (by omega)
theorem src_len16 (d : Dev) (k : Int) : (srcI d k).length ≤ 16 := by
  unfold srcI
  split
  · rename_i h
    obtain ⟨hv, -, -⟩ := nodeOk_rng h
    obtain ⟨-, -, ⟨l1, l2⟩, -⟩ := (devB_iff d).1 hv
    split
    · have := fold_bound (fun xs (r : Nat) => pinR d (k / perI d) (k % perI d) r xs d.T.toNat) 4 (fun xs r => pinR_len d _ _ _ xs l1 l2) (List.range 4) []
      simpa [pinO] using this
    · split
      · simp
      · have h1 := fold_bound (wireR d (k / perI d) ((k % perI d - 7) / d.T) ((k % perI d - 7) % d.T)) 2 (fun xs r => by
          unfold wireR
          split
          · omega
          · have := fold_bound (wireW d (k / perI d) r) 1 (fun xs q => by
              unfold wireW
              split
              · exact insI_len _ _
              · omega) ([(k % perI d - 7) % d.T, ((k % perI d - 7) % d.T + 1) % d.T].take 2) xs
            unfold wireK
            simpa using this) (List.range 4) (outO d (k / perI d) 2)
        have h2 := fold_bound (outS d (k / perI d)) 1 (fun xs q => by
          unfold outS
          split
          · exact insI_len _ _
          · omega) (List.range 2) []
        have h2' : (outO d (k / perI d) 2).length ≤ 2 := by simpa [outO] using h2
        have h1' : (wireO d (k / perI d) ((k % perI d - 7) / d.T) ((k % perI d - 7) % d.T) 4).length ≤ (outO d (k / perI d) 2).length + 8 := by simpa [wireO] using h1
        omega
  · simp
theorem src_no (d : Dev) (k : Int) (h : nodeOkI d k ≠ true) : srcI d k = [] := if_neg h
open Go.RowKit
open Go.RowKit
def reachS (d : Dev) (n : Int) : List Int := if nodeOkI d n = true ∧ 7 ≤ n % perI d then reachN d (n / perI d) ((n % perI d - 7) / d.T) (1 + (n % perI d - 7) % d.T % 2).toNat else []
def isWireI (d : Dev) (n : Int) : Bool := nodeOkI d n && decide (7 ≤ n % perI d)
def inPinI (d : Dev) (t p : Int) : Int := if tOk d t = true ∧ 0 ≤ p ∧ p ≤ inPinsI (kindI d t) - 1 then t * perI d + p else -1
theorem inPins_rng (d : Dev) (t : Int) : 1 ≤ inPinsI (kindI d t) ∧ inPinsI (kindI d t) ≤ 5 := by
  rcases kind_cases d t with h | h | h <;> rw [h] <;> simp [inPinsI]
set_option maxHeartbeats 4000000 in
set_option maxRecDepth 100000 in
theorem wireOf_all (d : Dev) (n : Int) (w : World) (hv : devB d = true) (n0 : 0 ≤ n) (n1 : n ≤ allI d - 1) :
  Calls Try.prog 36 #[.agg #[.int .i64 d.W, .int .i64 d.H, .int .i64 d.T, .int .i64 d.R], .int .i64 n] w (Ans w (.tuple #[.int .i64 (n / perI d), .int .i64 ((n % perI d - 7).tdiv d.T), .int .i64 ((n % perI d - 7).tmod d.T), .bool (decide (7 ≤ n % perI d))])) := by
 obtain ⟨p0, p1, p2, p3, p4⟩ := place_rng hv n0 n1
 obtain ⟨m1, m2⟩ := all_rng hv
 obtain ⟨q1, q2⟩ := per_rng hv
 obtain ⟨-, -, ⟨l1, l2⟩, -⟩ := (devB_iff d).1 hv
 refine calls_hc (N := 29) (args := [.agg #[.int .i64 d.W, .int .i64 d.H, .int .i64 d.T, .int .i64 d.R], .int .i64 n]) Try.func36 rfl rfl ?_
 refine hc_less _ (sx 0 rfl (sx 1 rfl (sub_nil _))) (.refl _) ?_
 refine hc_seq ?_
 refine hc_region ?_
 refine hl_box rfl rfl rfl (rq_box rfl rfl) ?_
 intro b1
 refine hl_v rfl rfl rfl (rv_ev rfl) ?_
 refine hl_v rfl rfl rfl (rv_ev rfl) ?_
 refine hl_v rfl rfl rfl (rv_ev rfl) ?_
 refine hl_v rfl rfl rfl (rv_ev rfl) ?_
 refine hl_less (sx 0 rfl (sx 1 rfl (sx 2 rfl (sx 4 rfl (sx 5 rfl (sx 6 rfl (sx 7 rfl (sub_nil _)))))))) (.refl _) ?_
 refine hl_nil ?_
 refine hq_then ?_
 refine hc_seq ?_
 refine hc_region ?_
 refine hl_v rfl rfl rfl (rv_loadN (cs := [.int .i64 d.W, .int .i64 d.H, .int .i64 d.T, .int .i64 d.R]) rfl (by kernel_rfl) (by kernel_rfl) rfl rfl (box_part 0 rfl 0 rfl)) ?_
 refine hl_v rfl rfl rfl (rv_ev rfl) ?_
 refine hl_callV rfl rfl rfl (rq_call (by kernel_rfl) rfl (fun w hm => ret_ans (nodePlace_any d _ hv n0 (by omega) w))) ?_
 refine hl_v rfl rfl rfl (rv_ev rfl) ?_
 refine hl_v rfl rfl rfl (rv_ev rfl) ?_
 refine hl_v rfl rfl rfl (rv_ev rfl) ?_
 refine hl_v rfl rfl rfl (rv_ev rfl) ?_
 refine hl_v rfl rfl rfl (rv_ev rfl) ?_
 refine hl_less (sx 0 rfl (sx 1 rfl (sx 2 rfl (sx 4 rfl (sx 5 rfl (sx 6 rfl (sx 7 rfl (sx 8 rfl (sx 9 rfl (sub_nil _)))))))))) (.refl _) ?_
 refine hl_nil ?_
 refine hq_then ?_
 refine hc_seq ?_
 rcases Bool.eq_false_or_eq_true (decide (7 ≤ n % perI d)) with hb2 | hb2
 ·
  have hb2p : 7 ≤ n % perI d := of_decide_eq_true hb2
  refine hc_less _ (sx 0 rfl (sx 1 rfl (sx 2 rfl (sx 7 rfl (sx 8 rfl (sx 9 rfl (sub_nil _))))))) (.refl _) ?_
  refine hc_draw (by kernel_rfl) 16 [0, 1, 2, 3, 4, 5, 6, 7, 8, 9, 10, 11, 12, 13, 14, 15] (List.take 16 _) (List.drop 16 _) [[], [], [1], [], [3], [2, 4], [], [6], [], [8], [7, 9], [], [11], [0], [5], [10]] [16, 17, 18, 19, 20, 21, 22, 23, 24, 25, 26, 27, 28, 4, 5, 6] (fun i_ vs_ v_ p_ => match i_ with | 0 => v_ = .int .i64 (n / perI d) ∧ p_ = [] | 1 => v_ = .int .i64 (n % perI d) ∧ p_ = [] | 2 => v_ = .int .i64 ((n % perI d) - 7) ∧ p_ = [] | 3 => v_ = .pointer (some ⟨b1, 0 + 2, none⟩) ∧ p_ = [] | 4 => v_ = .int .i64 d.T ∧ p_ = [] | 5 => v_ = .int .i64 (Int.tdiv ((n % perI d) - 7) d.T) ∧ p_ = [] | 6 => v_ = .int .i64 (n % perI d) ∧ p_ = [] | 7 => v_ = .int .i64 ((n % perI d) - 7) ∧ p_ = [] | 8 => v_ = .pointer (some ⟨b1, 0 + 2, none⟩) ∧ p_ = [] | 9 => v_ = .int .i64 d.T ∧ p_ = [] | 10 => v_ = .int .i64 (Int.tmod ((n % perI d) - 7) d.T) ∧ p_ = [] | 11 => v_ = .int .i64 (n % perI d) ∧ p_ = [] | 12 => v_ = .bool true ∧ p_ = [] | 13 => v_ = .int .i64 (n / perI d) ∧ p_ = [] | 14 => v_ = .int .i64 (Int.tdiv ((n % perI d) - 7) d.T) ∧ p_ = [] | 15 => v_ = .int .i64 (Int.tmod ((n % perI d) - 7) d.T) ∧ p_ = [] | _ => True) (List.take_append_drop 16 _).symm (by kernel_rfl) (by kernel_rfl) rfl rfl ?_ ?_
  ·
   refine ⟨?_, ?_, ?_, ?_, ?_, ?_, ?_, ?_, ?_, ?_, ?_, ?_, ?_, ?_, ?_, ?_, trivial⟩
   ·
    intro vf pf hR
    refine Or.inl ⟨rfl, ?_⟩
    refine rq_less (sx 8 rfl (sub_nil _)) (List.sublist_append_right _ _) ?_
    exact rq_v (rv_ev rfl)
   ·
    intro vf pf hR
    refine Or.inl ⟨rfl, ?_⟩
    refine rq_less (sx 9 rfl (sub_nil _)) (List.sublist_append_right _ _) ?_
    exact rq_v (rv_ev rfl)
   ·
    intro vf pf hR
    have e1 : (vf 1) = .int .i64 (n % perI d) ∧ (pf 1) = [] := hR 1 (by decide)
    refine Or.inl ⟨rfl, ?_⟩
    refine rq_less (sx 17 (congrArg some e1.1) (sub_nil _)) (List.sublist_append_right _ _) ?_
    exact rq_v (rv_sub rfl rfl rfl (by constructor <;> omega))
   ·
    intro vf pf hR
    refine Or.inl ⟨rfl, ?_⟩
    refine rq_less (sx 2 rfl (sub_nil _)) (List.sublist_append_right _ _) ?_
    exact rq_v (rv_field (k0 := 2) rfl (by kernel_rfl) rfl)
   ·
    intro vf pf hR
    have e3 : (vf 3) = .pointer (some ⟨b1, 0 + 2, none⟩) ∧ (pf 3) = [] := hR 3 (by decide)
    refine Or.inl ⟨rfl, ?_⟩
    refine rq_less (sx 19 (congrArg some e3.1) (sub_nil _)) (List.sublist_append_right _ _) ?_
    exact rq_v (rv_load rfl (by kernel_rfl) rfl (box_cell 0 rfl rfl))
   ·
    intro vf pf hR
    have e2 : (vf 2) = .int .i64 ((n % perI d) - 7) ∧ (pf 2) = [] := hR 2 (by decide)
    have e4 : (vf 4) = .int .i64 d.T ∧ (pf 4) = [] := hR 4 (by decide)
    refine Or.inl ⟨rfl, ?_⟩
    refine rq_less (sx 18 (congrArg some e2.1) (sx 20 (congrArg some e4.1) (sub_nil _))) (List.sublist_append_right _ _) ?_
    exact rq_v (rv_quoS rfl rfl rfl (by omega))
   ·
    intro vf pf hR
    refine Or.inl ⟨rfl, ?_⟩
    refine rq_less (sx 9 rfl (sub_nil _)) (List.sublist_append_right _ _) ?_
    exact rq_v (rv_ev rfl)
   ·
    intro vf pf hR
    have e6 : (vf 6) = .int .i64 (n % perI d) ∧ (pf 6) = [] := hR 6 (by decide)
    refine Or.inl ⟨rfl, ?_⟩
    refine rq_less (sx 22 (congrArg some e6.1) (sub_nil _)) (List.sublist_append_right _ _) ?_
    exact rq_v (rv_sub rfl rfl rfl (by constructor <;> omega))
   ·
    intro vf pf hR
    refine Or.inl ⟨rfl, ?_⟩
    refine rq_less (sx 2 rfl (sub_nil _)) (List.sublist_append_right _ _) ?_
    exact rq_v (rv_field (k0 := 2) rfl (by kernel_rfl) rfl)
   ·
    intro vf pf hR
    have e8 : (vf 8) = .pointer (some ⟨b1, 0 + 2, none⟩) ∧ (pf 8) = [] := hR 8 (by decide)
    refine Or.inl ⟨rfl, ?_⟩
    refine rq_less (sx 24 (congrArg some e8.1) (sub_nil _)) (List.sublist_append_right _ _) ?_
    exact rq_v (rv_load rfl (by kernel_rfl) rfl (box_cell 0 rfl rfl))
   ·
    intro vf pf hR
    have e7 : (vf 7) = .int .i64 ((n % perI d) - 7) ∧ (pf 7) = [] := hR 7 (by decide)
    have e9 : (vf 9) = .int .i64 d.T ∧ (pf 9) = [] := hR 9 (by decide)
    refine Or.inl ⟨rfl, ?_⟩
    refine rq_less (sx 23 (congrArg some e7.1) (sx 25 (congrArg some e9.1) (sub_nil _))) (List.sublist_append_right _ _) ?_
    exact rq_v (rv_remS rfl rfl rfl (by omega))
   ·
    intro vf pf hR
    refine Or.inl ⟨rfl, ?_⟩
    refine rq_less (sx 9 rfl (sub_nil _)) (List.sublist_append_right _ _) ?_
    exact rq_v (rv_ev rfl)
   ·
    intro vf pf hR
    have e11 : (vf 11) = .int .i64 (n % perI d) ∧ (pf 11) = [] := hR 11 (by decide)
    refine Or.inl ⟨rfl, ?_⟩
    refine rq_less (sx 27 (congrArg some e11.1) (sub_nil _)) (List.sublist_append_right _ _) ?_
    exact rq_mono (rq_v (rv_cmp rfl rfl rfl rfl)) (fun _ _ h => ⟨h.1.trans (congrArg Value.bool hb2), h.2⟩)
   ·
    intro vf pf hR
    have e0 : (vf 0) = .int .i64 (n / perI d) ∧ (pf 0) = [] := hR 0 (by decide)
    refine Or.inl ⟨rfl, ?_⟩
    refine rq_less (sx 16 (congrArg some e0.1) (sub_nil _)) (List.sublist_append_right _ _) ?_
    exact rq_v (rv_ev rfl)
   ·
    intro vf pf hR
    have e5 : (vf 5) = .int .i64 (Int.tdiv ((n % perI d) - 7) d.T) ∧ (pf 5) = [] := hR 5 (by decide)
    refine Or.inl ⟨rfl, ?_⟩
    refine rq_less (sx 21 (congrArg some e5.1) (sub_nil _)) (List.sublist_append_right _ _) ?_
    exact rq_v (rv_ev rfl)
   ·
    intro vf pf hR
    have e10 : (vf 10) = .int .i64 (Int.tmod ((n % perI d) - 7) d.T) ∧ (pf 10) = [] := hR 10 (by decide)
    refine Or.inl ⟨rfl, ?_⟩
    refine rq_less (sx 26 (congrArg some e10.1) (sub_nil _)) (List.sublist_append_right _ _) ?_
    exact rq_v (rv_ev rfl)
  ·
   intro vf pf hR
   have e12 : (vf 12) = .bool true ∧ (pf 12) = [] := hR 12 (by decide)
   have e13 : (vf 13) = .int .i64 (n / perI d) ∧ (pf 13) = [] := hR 13 (by decide)
   have e14 : (vf 14) = .int .i64 (Int.tdiv ((n % perI d) - 7) d.T) ∧ (pf 14) = [] := hR 14 (by decide)
   have e15 : (vf 15) = .int .i64 (Int.tmod ((n % perI d) - 7) d.T) ∧ (pf 15) = [] := hR 15 (by decide)
   refine hl_less (l' := [boxE b1 #[.int .i64 d.W, .int .i64 d.H, .int .i64 d.T, .int .i64 d.R] 25]) (sx 0 rfl (sx 1 rfl (sx 2 rfl (sx 4 (congrArg some e13.1) (sx 5 (congrArg some e14.1) (sx 6 (congrArg some e15.1) (sx 7 rfl (sx 8 rfl (sx 9 rfl (sx 28 (congrArg some e12.1) (sub_nil _))))))))))) (List.sublist_append_right _ _) ?_
   simp only [List.drop_succ_cons, List.drop_zero]
   refine hl_v rfl rfl rfl (rv_ev rfl) ?_
   refine hl_less (sx 0 rfl (sx 1 rfl (sx 2 rfl (sx 4 rfl (sx 5 rfl (sx 6 rfl (sx 7 rfl (sx 8 rfl (sx 9 rfl (sub_nil _)))))))))) (.refl _) ?_
   refine hl_nil ?_
   refine hq_then ?_
   refine hc_ret ?_
   exact hq_ret (rs := [.tmp 4, .tmp 5, .tmp 6, .tmp 7]) (vs := [_, _, _, _]) rfl ⟨rfl, rfl, rfl, rfl, trivial⟩ rfl (fun w hm => ⟨by first | (rw [decide_eq_true (show 7 ≤ n % perI d by omega)]; rfl) | (rw [decide_eq_false (show ¬ 7 ≤ n % perI d by omega)]; rfl), hm.bel⟩)
 ·
  have hb2p : ¬ (7 ≤ n % perI d) := of_decide_eq_false hb2
  refine hc_less _ (sx 0 rfl (sx 1 rfl (sx 2 rfl (sx 7 rfl (sx 8 rfl (sx 9 rfl (sub_nil _))))))) (.refl _) ?_
  refine hc_draw (by kernel_rfl) 16 [0, 1, 2, 3, 4, 5, 6, 7, 8, 9, 10, 11, 12, 13, 14, 15] (List.take 16 _) (List.drop 16 _) [[], [], [1], [], [3], [2, 4], [], [6], [], [8], [7, 9], [], [11], [0], [5], [10]] [16, 17, 18, 19, 20, 21, 22, 23, 24, 25, 26, 27, 28, 4, 5, 6] (fun i_ vs_ v_ p_ => match i_ with | 0 => v_ = .int .i64 (n / perI d) ∧ p_ = [] | 1 => v_ = .int .i64 (n % perI d) ∧ p_ = [] | 2 => v_ = .int .i64 ((n % perI d) - 7) ∧ p_ = [] | 3 => v_ = .pointer (some ⟨b1, 0 + 2, none⟩) ∧ p_ = [] | 4 => v_ = .int .i64 d.T ∧ p_ = [] | 5 => v_ = .int .i64 (Int.tdiv ((n % perI d) - 7) d.T) ∧ p_ = [] | 6 => v_ = .int .i64 (n % perI d) ∧ p_ = [] | 7 => v_ = .int .i64 ((n % perI d) - 7) ∧ p_ = [] | 8 => v_ = .pointer (some ⟨b1, 0 + 2, none⟩) ∧ p_ = [] | 9 => v_ = .int .i64 d.T ∧ p_ = [] | 10 => v_ = .int .i64 (Int.tmod ((n % perI d) - 7) d.T) ∧ p_ = [] | 11 => v_ = .int .i64 (n % perI d) ∧ p_ = [] | 12 => v_ = .bool false ∧ p_ = [] | 13 => v_ = .int .i64 (n / perI d) ∧ p_ = [] | 14 => v_ = .int .i64 (Int.tdiv ((n % perI d) - 7) d.T) ∧ p_ = [] | 15 => v_ = .int .i64 (Int.tmod ((n % perI d) - 7) d.T) ∧ p_ = [] | _ => True) (List.take_append_drop 16 _).symm (by kernel_rfl) (by kernel_rfl) rfl rfl ?_ ?_
  ·
   refine ⟨?_, ?_, ?_, ?_, ?_, ?_, ?_, ?_, ?_, ?_, ?_, ?_, ?_, ?_, ?_, ?_, trivial⟩
   ·
    intro vf pf hR
    refine Or.inl ⟨rfl, ?_⟩
    refine rq_less (sx 8 rfl (sub_nil _)) (List.sublist_append_right _ _) ?_
    exact rq_v (rv_ev rfl)
   ·
    intro vf pf hR
    refine Or.inl ⟨rfl, ?_⟩
    refine rq_less (sx 9 rfl (sub_nil _)) (List.sublist_append_right _ _) ?_
    exact rq_v (rv_ev rfl)
   ·
    intro vf pf hR
    have e1 : (vf 1) = .int .i64 (n % perI d) ∧ (pf 1) = [] := hR 1 (by decide)
    refine Or.inl ⟨rfl, ?_⟩
    refine rq_less (sx 17 (congrArg some e1.1) (sub_nil _)) (List.sublist_append_right _ _) ?_
    exact rq_v (rv_sub rfl rfl rfl (by constructor <;> omega))
   ·
    intro vf pf hR
    refine Or.inl ⟨rfl, ?_⟩
    refine rq_less (sx 2 rfl (sub_nil _)) (List.sublist_append_right _ _) ?_
    exact rq_v (rv_field (k0 := 2) rfl (by kernel_rfl) rfl)
   ·
    intro vf pf hR
    have e3 : (vf 3) = .pointer (some ⟨b1, 0 + 2, none⟩) ∧ (pf 3) = [] := hR 3 (by decide)
    refine Or.inl ⟨rfl, ?_⟩
    refine rq_less (sx 19 (congrArg some e3.1) (sub_nil _)) (List.sublist_append_right _ _) ?_
    exact rq_v (rv_load rfl (by kernel_rfl) rfl (box_cell 0 rfl rfl))
   ·
    intro vf pf hR
    have e2 : (vf 2) = .int .i64 ((n % perI d) - 7) ∧ (pf 2) = [] := hR 2 (by decide)
    have e4 : (vf 4) = .int .i64 d.T ∧ (pf 4) = [] := hR 4 (by decide)
    refine Or.inl ⟨rfl, ?_⟩
    refine rq_less (sx 18 (congrArg some e2.1) (sx 20 (congrArg some e4.1) (sub_nil _))) (List.sublist_append_right _ _) ?_
    exact rq_v (rv_quoS rfl rfl rfl (by omega))
   ·
    intro vf pf hR
    refine Or.inl ⟨rfl, ?_⟩
    refine rq_less (sx 9 rfl (sub_nil _)) (List.sublist_append_right _ _) ?_
    exact rq_v (rv_ev rfl)
   ·
    intro vf pf hR
    have e6 : (vf 6) = .int .i64 (n % perI d) ∧ (pf 6) = [] := hR 6 (by decide)
    refine Or.inl ⟨rfl, ?_⟩
    refine rq_less (sx 22 (congrArg some e6.1) (sub_nil _)) (List.sublist_append_right _ _) ?_
    exact rq_v (rv_sub rfl rfl rfl (by constructor <;> omega))
   ·
    intro vf pf hR
    refine Or.inl ⟨rfl, ?_⟩
    refine rq_less (sx 2 rfl (sub_nil _)) (List.sublist_append_right _ _) ?_
    exact rq_v (rv_field (k0 := 2) rfl (by kernel_rfl) rfl)
   ·
    intro vf pf hR
    have e8 : (vf 8) = .pointer (some ⟨b1, 0 + 2, none⟩) ∧ (pf 8) = [] := hR 8 (by decide)
    refine Or.inl ⟨rfl, ?_⟩
    refine rq_less (sx 24 (congrArg some e8.1) (sub_nil _)) (List.sublist_append_right _ _) ?_
    exact rq_v (rv_load rfl (by kernel_rfl) rfl (box_cell 0 rfl rfl))
   ·
    intro vf pf hR
    have e7 : (vf 7) = .int .i64 ((n % perI d) - 7) ∧ (pf 7) = [] := hR 7 (by decide)
    have e9 : (vf 9) = .int .i64 d.T ∧ (pf 9) = [] := hR 9 (by decide)
    refine Or.inl ⟨rfl, ?_⟩
    refine rq_less (sx 23 (congrArg some e7.1) (sx 25 (congrArg some e9.1) (sub_nil _))) (List.sublist_append_right _ _) ?_
    exact rq_v (rv_remS rfl rfl rfl (by omega))
   ·
    intro vf pf hR
    refine Or.inl ⟨rfl, ?_⟩
    refine rq_less (sx 9 rfl (sub_nil _)) (List.sublist_append_right _ _) ?_
    exact rq_v (rv_ev rfl)
   ·
    intro vf pf hR
    have e11 : (vf 11) = .int .i64 (n % perI d) ∧ (pf 11) = [] := hR 11 (by decide)
    refine Or.inl ⟨rfl, ?_⟩
    refine rq_less (sx 27 (congrArg some e11.1) (sub_nil _)) (List.sublist_append_right _ _) ?_
    exact rq_mono (rq_v (rv_cmp rfl rfl rfl rfl)) (fun _ _ h => ⟨h.1.trans (congrArg Value.bool hb2), h.2⟩)
   ·
    intro vf pf hR
    have e0 : (vf 0) = .int .i64 (n / perI d) ∧ (pf 0) = [] := hR 0 (by decide)
    refine Or.inl ⟨rfl, ?_⟩
    refine rq_less (sx 16 (congrArg some e0.1) (sub_nil _)) (List.sublist_append_right _ _) ?_
    exact rq_v (rv_ev rfl)
   ·
    intro vf pf hR
    have e5 : (vf 5) = .int .i64 (Int.tdiv ((n % perI d) - 7) d.T) ∧ (pf 5) = [] := hR 5 (by decide)
    refine Or.inl ⟨rfl, ?_⟩
    refine rq_less (sx 21 (congrArg some e5.1) (sub_nil _)) (List.sublist_append_right _ _) ?_
    exact rq_v (rv_ev rfl)
   ·
    intro vf pf hR
    have e10 : (vf 10) = .int .i64 (Int.tmod ((n % perI d) - 7) d.T) ∧ (pf 10) = [] := hR 10 (by decide)
    refine Or.inl ⟨rfl, ?_⟩
    refine rq_less (sx 26 (congrArg some e10.1) (sub_nil _)) (List.sublist_append_right _ _) ?_
    exact rq_v (rv_ev rfl)
  ·
   intro vf pf hR
   have e12 : (vf 12) = .bool false ∧ (pf 12) = [] := hR 12 (by decide)
   have e13 : (vf 13) = .int .i64 (n / perI d) ∧ (pf 13) = [] := hR 13 (by decide)
   have e14 : (vf 14) = .int .i64 (Int.tdiv ((n % perI d) - 7) d.T) ∧ (pf 14) = [] := hR 14 (by decide)
   have e15 : (vf 15) = .int .i64 (Int.tmod ((n % perI d) - 7) d.T) ∧ (pf 15) = [] := hR 15 (by decide)
   refine hl_less (l' := [boxE b1 #[.int .i64 d.W, .int .i64 d.H, .int .i64 d.T, .int .i64 d.R] 25]) (sx 0 rfl (sx 1 rfl (sx 2 rfl (sx 4 (congrArg some e13.1) (sx 5 (congrArg some e14.1) (sx 6 (congrArg some e15.1) (sx 7 rfl (sx 8 rfl (sx 9 rfl (sx 28 (congrArg some e12.1) (sub_nil _))))))))))) (List.sublist_append_right _ _) ?_
   simp only [List.drop_succ_cons, List.drop_zero]
   refine hl_v rfl rfl rfl (rv_ev rfl) ?_
   refine hl_less (sx 0 rfl (sx 1 rfl (sx 2 rfl (sx 4 rfl (sx 5 rfl (sx 6 rfl (sx 7 rfl (sx 8 rfl (sx 9 rfl (sub_nil _)))))))))) (.refl _) ?_
   refine hl_nil ?_
   refine hq_then ?_
   refine hc_ret ?_
   exact hq_ret (rs := [.tmp 4, .tmp 5, .tmp 6, .tmp 7]) (vs := [_, _, _, _]) rfl ⟨rfl, rfl, rfl, rfl, trivial⟩ rfl (fun w hm => ⟨by first | (rw [decide_eq_true (show 7 ≤ n % perI d by omega)]; rfl) | (rw [decide_eq_false (show ¬ 7 ≤ n % perI d by omega)]; rfl), hm.bel⟩)
set_option maxHeartbeats 4000000 in
set_option maxRecDepth 100000 in
theorem isWire_ans (d : Dev) (n : Int) (w : World)  :
  Calls Try.prog 26 #[.agg #[.int .i64 d.W, .int .i64 d.H, .int .i64 d.T, .int .i64 d.R], .int .i64 n] w (Ans w (.bool (isWireI d n))) := by
 refine calls_hc (N := 22) (args := [.agg #[.int .i64 d.W, .int .i64 d.H, .int .i64 d.T, .int .i64 d.R], .int .i64 n]) Try.func26 rfl rfl ?_
 refine hc_less _ (sx 0 rfl (sx 1 rfl (sub_nil _))) (.refl _) ?_
 refine hc_seq ?_
 refine hc_region ?_
 refine hl_box rfl rfl rfl (rq_box rfl rfl) ?_
 intro b1
 refine hl_v rfl rfl rfl (rv_ev rfl) ?_
 refine hl_less (sx 0 rfl (sx 1 rfl (sx 2 rfl (sx 4 rfl (sub_nil _))))) (.refl _) ?_
 refine hl_nil ?_
 refine hq_then ?_
 refine hc_seq ?_
 refine hc_seq ?_
 refine hc_region ?_
 refine hl_v rfl rfl rfl (rv_loadN (cs := [.int .i64 d.W, .int .i64 d.H, .int .i64 d.T, .int .i64 d.R]) rfl (by kernel_rfl) (by kernel_rfl) rfl rfl (box_part 0 rfl 0 rfl)) ?_
 refine hl_v rfl rfl rfl (rv_ev rfl) ?_
 refine hl_callV rfl rfl rfl (rq_call (by kernel_rfl) rfl (fun w hm => ret_ans (implRouteNodeOk_any d _ w))) ?_
 refine hl_bool (fun h2 => ?_) (fun h2 => ?_)
 ·
  obtain ⟨hv, n0, n1⟩ := nodeOk_rng h2
  obtain ⟨p0, p1, p2, p3, p4⟩ := place_rng hv n0 n1
  obtain ⟨m1, m2⟩ := all_rng hv
  obtain ⟨q1, q2⟩ := per_rng hv
  obtain ⟨-, -, ⟨l1, l2⟩, -⟩ := (devB_iff d).1 hv
  refine hl_v rfl rfl rfl (rv_ev rfl) ?_
  refine hl_less (sx 0 rfl (sx 1 rfl (sx 2 rfl (sx 4 rfl (sx 12 rfl (sub_nil _)))))) (.refl _) ?_
  refine hl_nil ?_
  refine hq_then ?_
  refine hc_false rfl ?_
  refine hc_skip ?_
  refine hq_then ?_
  refine hc_seq ?_
  refine hc_region ?_
  refine hl_v rfl rfl rfl (rv_loadN (cs := [.int .i64 d.W, .int .i64 d.H, .int .i64 d.T, .int .i64 d.R]) rfl (by kernel_rfl) (by kernel_rfl) rfl rfl (box_part 0 rfl 0 rfl)) ?_
  refine hl_v rfl rfl rfl (rv_ev rfl) ?_
  refine hl_callV rfl rfl rfl (rq_call (by kernel_rfl) rfl (fun w hm => ret_ans (wireOf_all d _ w hv n0 n1))) ?_
  refine hl_v rfl rfl rfl (rv_ev rfl) ?_
  refine hl_v rfl rfl rfl (rv_ev rfl) ?_
  refine hl_v rfl rfl rfl (rv_ev rfl) ?_
  refine hl_v rfl rfl rfl (rv_ev rfl) ?_
  refine hl_v rfl rfl rfl (rv_ev rfl) ?_
  refine hl_bool (fun h3 => ?_) (fun h3 => ?_)
  ·
   refine hl_v rfl rfl rfl (rv_ev rfl) ?_
   refine hl_v rfl rfl rfl (rv_ev rfl) ?_
   refine hl_v rfl rfl rfl (rv_ev rfl) ?_
   refine hl_v rfl rfl rfl (rv_ev rfl) ?_
   refine hl_less (sx 0 rfl (sx 1 rfl (sx 2 rfl (sx 4 rfl (sx 8 rfl (sx 12 rfl (sub_nil _))))))) (.refl _) ?_
   refine hl_nil ?_
   refine hq_then ?_
   refine hc_seq ?_
   refine hc_region ?_
   refine hl_v rfl rfl rfl (rv_ev rfl) ?_
   refine hl_v rfl rfl rfl (rv_ev rfl) ?_
   refine hl_less (sx 0 rfl (sx 1 rfl (sx 2 rfl (sx 4 rfl (sx 8 rfl (sx 12 rfl (sub_nil _))))))) (.refl _) ?_
   refine hl_nil ?_
   refine hq_then ?_
   refine hc_ret ?_
   exact hq_ans rfl rfl (by unfold isWireI; simp [*])
  ·
   refine hl_v rfl rfl rfl (rv_ev rfl) ?_
   refine hl_v rfl rfl rfl (rv_ev rfl) ?_
   refine hl_v rfl rfl rfl (rv_ev rfl) ?_
   refine hl_v rfl rfl rfl (rv_ev rfl) ?_
   refine hl_less (sx 0 rfl (sx 1 rfl (sx 2 rfl (sx 4 rfl (sx 8 rfl (sx 12 rfl (sub_nil _))))))) (.refl _) ?_
   refine hl_nil ?_
   refine hq_then ?_
   refine hc_seq ?_
   refine hc_region ?_
   refine hl_v rfl rfl rfl (rv_ev rfl) ?_
   refine hl_v rfl rfl rfl (rv_ev rfl) ?_
   refine hl_less (sx 0 rfl (sx 1 rfl (sx 2 rfl (sx 4 rfl (sx 8 rfl (sx 12 rfl (sub_nil _))))))) (.refl _) ?_
   refine hl_nil ?_
   refine hq_then ?_
   refine hc_ret ?_
   exact hq_ans rfl rfl (by unfold isWireI; simp [*])
 ·
  refine hl_v rfl rfl rfl (rv_ev rfl) ?_
  refine hl_less (sx 0 rfl (sx 1 rfl (sx 2 rfl (sx 4 rfl (sx 12 rfl (sub_nil _)))))) (.refl _) ?_
  refine hl_nil ?_
  refine hq_then ?_
  refine hc_true rfl ?_
  refine hc_seq ?_
  refine hc_region ?_
  refine hl_v rfl rfl rfl (rv_ev rfl) ?_
  refine hl_less (sx 0 rfl (sx 1 rfl (sx 2 rfl (sx 4 rfl (sx 12 rfl (sub_nil _)))))) (.refl _) ?_
  refine hl_nil ?_
  refine hq_then ?_
  refine hc_ret ?_
  refine hq_then_ret ?_
  exact hq_ans rfl rfl (by unfold isWireI; simp [*])
theorem isWire_rng {d : Dev} {n : Int} (h : isWireI d n = true) : devB d = true ∧ 0 ≤ n ∧ n ≤ allI d - 1 ∧ 7 ≤ n % perI d ∧ nodeOkI d n = true := by
  unfold isWireI at h
  rw [Bool.and_eq_true, decide_eq_true_eq] at h
  obtain ⟨a, b, c⟩ := nodeOk_rng h.1
  exact ⟨a, b, c, h.2, h.1⟩
set_option maxHeartbeats 4000000 in
set_option maxRecDepth 100000 in
theorem wireReaches_ret (d : Dev) (n : Int) (w : World)  :
  Calls Try.prog 28 #[.agg #[.int .i64 d.W, .int .i64 d.H, .int .i64 d.T, .int .i64 d.R], .int .i64 n] w (Ret w (fun v' post => post = [rowE 3 1 v' (reachS d n).length ((reachS d n).map (Value.int .i64))])) := by
 refine calls_hc (N := 38) (args := [.agg #[.int .i64 d.W, .int .i64 d.H, .int .i64 d.T, .int .i64 d.R], .int .i64 n]) Try.func28 rfl rfl ?_
 refine hc_less _ (sx 0 rfl (sx 1 rfl (sub_nil _))) (.refl _) ?_
 refine hc_seq ?_
 refine hc_region ?_
 refine hl_box rfl rfl rfl (rq_box rfl rfl) ?_
 intro b1
 refine hl_nilRow 3 1 ?_
 refine hl_v rfl rfl rfl (rv_ev rfl) ?_
 refine hl_less (sx 0 rfl (sx 1 rfl (sx 2 rfl (sx 4 rfl (sub_nil _))))) (.refl _) ?_
 refine hl_nil ?_
 refine hq_then ?_
 refine hc_seq ?_
 refine hc_seq ?_
 refine hc_region ?_
 refine hl_v rfl rfl rfl (rv_loadN (cs := [.int .i64 d.W, .int .i64 d.H, .int .i64 d.T, .int .i64 d.R]) rfl (by kernel_rfl) (by kernel_rfl) rfl rfl (box_part 1 rfl 0 rfl)) ?_
 refine hl_v rfl rfl rfl (rv_ev rfl) ?_
 refine hl_callV rfl rfl rfl (rq_call (by kernel_rfl) rfl (fun w hm => ret_ans (isWire_ans d _ w))) ?_
 refine hl_bool (fun h3 => ?_) (fun h3 => ?_)
 ·
  obtain ⟨hv, n0, n1, p7, hno⟩ := isWire_rng h3
  obtain ⟨p0, p1, p2, p3, p4⟩ := place_rng hv n0 n1
  obtain ⟨m1, m2⟩ := all_rng hv
  obtain ⟨g0, g1, g2, g3⟩ := wire_rng hv p7 p3
  obtain ⟨-, -, ⟨l1, l2⟩, -⟩ := (devB_iff d).1 hv
  obtain ⟨q1, q2⟩ := per_rng hv
  refine hl_v rfl rfl rfl (rv_ev rfl) ?_
  refine hl_less (sx 0 rfl (sx 1 rfl (sx 2 rfl (sx 4 rfl (sx 14 rfl (sub_nil _)))))) (.refl _) ?_
  refine hl_nil ?_
  refine hq_then ?_
  refine hc_false rfl ?_
  refine hc_skip ?_
  refine hq_then ?_
  refine hc_seq ?_
  refine hc_region ?_
  refine hl_v rfl rfl rfl (rv_loadN (cs := [.int .i64 d.W, .int .i64 d.H, .int .i64 d.T, .int .i64 d.R]) rfl (by kernel_rfl) (by kernel_rfl) rfl rfl (box_part 1 rfl 0 rfl)) ?_
  refine hl_v rfl rfl rfl (rv_ev rfl) ?_
  refine hl_callV rfl rfl rfl (rq_call (by kernel_rfl) rfl (fun w hm => ret_ans (wireOf_wire d _ hv n0 n1 (by omega) w))) ?_
  refine hl_v rfl rfl rfl (rv_ev rfl) ?_
  refine hl_v rfl rfl rfl (rv_ev rfl) ?_
  refine hl_v rfl rfl rfl (rv_ev rfl) ?_
  refine hl_v rfl rfl rfl (rv_ev rfl) ?_
  refine hl_v rfl rfl rfl (rv_ev rfl) ?_
  refine hl_v rfl rfl rfl (rv_ev rfl) ?_
  refine hl_v rfl rfl rfl (rv_ev rfl) ?_
  refine hl_v rfl rfl rfl (rv_ev rfl) ?_
  refine hl_v rfl rfl rfl (rv_ev rfl) ?_
  refine hl_less (sx 0 rfl (sx 1 rfl (sx 2 rfl (sx 4 rfl (sx 5 rfl (sx 6 rfl (sx 7 rfl (sx 14 rfl (sub_nil _))))))))) (.refl _) ?_
  refine hl_nil ?_
  refine hq_then ?_
  refine hc_seq ?_
  refine hc_region ?_
  refine hl_nilRow 3 1 ?_
  refine hl_v rfl rfl rfl (rv_ev rfl) ?_
  refine hl_less (sx 0 rfl (sx 1 rfl (sx 2 rfl (sx 4 rfl (sx 5 rfl (sx 6 rfl (sx 7 rfl (sx 9 rfl (sx 14 rfl (sub_nil _)))))))))) (.refl _) ?_
  refine hl_nil ?_
  refine hq_then ?_
  refine hc_seq ?_
  refine hc_seq ?_
  refine hc_region ?_
  refine hl_v rfl rfl rfl (rv_ev rfl) ?_
  refine hl_less (sx 0 rfl (sx 1 rfl (sx 2 rfl (sx 4 rfl (sx 5 rfl (sx 6 rfl (sx 7 rfl (sx 9 rfl (sx 10 rfl (sx 14 rfl (sub_nil _))))))))))) (.refl _) ?_
  refine hl_nil ?_
  refine hq_then ?_
  refine hc_block ?_
  refine hc_loop3 (α := Nat) (β := Value) (γ := List Int) (fun j u ys => [rowE 3 1 u ys.length (ys.map (Value.int .i64)), rowE 3 1 (.slice none 0 0) 0 ([]), boxE b1 #[.int .i64 d.W, .int .i64 d.H, .int .i64 d.T, .int .i64 d.R] 25]) (fun j u ys => [(0, .agg #[.int .i64 d.W, .int .i64 d.H, .int .i64 d.T, .int .i64 d.R]), (1, .int .i64 n), (2, .pointer (some ⟨b1, 0, none⟩)), (4, .slice none 0 0), (5, .int .i64 (n / perI d)), (6, .int .i64 ((n % perI d - 7) / d.T)), (7, .int .i64 ((n % perI d - 7) % d.T)), (9, u), (10, .int .i64 ((j : Int) + 1)), (14, .bool false)]) (fun j u ys => (j : Int) ≤ 1 + ((n % perI d - 7) % d.T) % 2 ∧ ys = reachN d (n / perI d) ((n % perI d - 7) / d.T) j) (fun j u ys => 3 - j) 0 _ [] ⟨by omega, rfl⟩ (sx 0 rfl (sx 1 rfl (sx 2 rfl (sx 4 rfl (sx 5 rfl (sx 6 rfl (sx 7 rfl (sx 9 rfl (sx 10 rfl (sx 14 rfl (sub_nil _))))))))))) ((.cons_cons _ (.cons_cons _ (.cons_cons _ .slnil)))) ?_
  intro j u ys hi5
  obtain ⟨hj, hy⟩ := hi5
  have hyl : ys.length = j := by rw [hy, reachN_len]
  refine hc_seq ?_
  refine hc_seq ?_
  refine hc_region ?_
  refine hl_v rfl rfl rfl (rv_ev rfl) ?_
  refine hl_v rfl rfl rfl (rv_ev rfl) ?_
  refine hl_callV rfl rfl rfl (rq_call (by kernel_rfl) rfl (fun w hm => ret_ans (ans_of (wireLen_any _ (by omega) (by omega) w)))) ?_
  refine hl_leq rfl rfl rfl rfl rfl rfl (fun h6 => ?_) (fun h6 => ?_)
  ·
   refine hl_less (sx 0 rfl (sx 1 rfl (sx 2 rfl (sx 4 rfl (sx 5 rfl (sx 6 rfl (sx 7 rfl (sx 9 rfl (sx 10 rfl (sx 14 rfl (sx 26 rfl (sub_nil _)))))))))))) (.refl _) ?_
   refine hl_nil ?_
   refine hq_then ?_
   refine hc_true rfl ?_
   refine hc_skip ?_
   refine hq_then ?_
   refine hc_seq ?_
   refine hc_block ?_
   refine hc_region ?_
   refine hl_v rfl rfl rfl (rv_ev rfl) ?_
   refine hl_v rfl rfl rfl (rv_loadN (cs := [.int .i64 d.W, .int .i64 d.H, .int .i64 d.T, .int .i64 d.R]) rfl (by kernel_rfl) (by kernel_rfl) rfl rfl (box_part 2 rfl 0 rfl)) ?_
   refine hl_v rfl rfl rfl (rv_ev rfl) ?_
   refine hl_v rfl rfl rfl (rv_ev rfl) ?_
   refine hl_v rfl rfl rfl (rv_ev rfl) ?_
   refine hl_callV rfl rfl rfl (rq_call (by kernel_rfl) rfl (fun w hm => ret_ans (tileStep_any d _ _ _ hv (by omega) (by omega) (by omega) (by omega) (by omega) (by omega) w))) ?_
   refine hl_row rfl rfl rfl (rq_buildSlice (z := .int .i64 0) (s := 1) (cs := ([stepI d (n / perI d) ((n % perI d - 7) / d.T) ((j : Int) + 1)].map (Value.int .i64))) rfl Try.underlying28 (by kernel_rfl) (by decide) rfl (by kernel_rfl) rfl) ?_
   intro g7
   refine hl_append (i := 1) (z := .int .i64 0) (bytes := 8) (n' := (ys ++ ([stepI d (n / perI d) ((n % perI d - 7) / d.T) ((j : Int) + 1)])).length) (xs' := ((ys ++ ([stepI d (n / perI d) ((n % perI d - 7) / d.T) ((j : Int) + 1)])).map (Value.int .i64))) (L := fun v8 => [rowE 3 1 (.slice (some ⟨g7, 0, none⟩) 1 1) 1 ([stepI d (n / perI d) ((n % perI d - 7) / d.T) ((j : Int) + 1)].map (Value.int .i64)), rowE 3 1 v8 ((ys ++ ([stepI d (n / perI d) ((n % perI d - 7) / d.T) ((j : Int) + 1)])).length) ((ys ++ ([stepI d (n / perI d) ((n % perI d - 7) / d.T) ((j : Int) + 1)])).map (Value.int .i64)), rowE 3 1 (.slice none 0 0) 0 ([]), boxE b1 #[.int .i64 d.W, .int .i64 d.H, .int .i64 d.T, .int .i64 d.R] 25]) rfl rfl rfl rfl Try.underlying28 (by kernel_rfl) (by kernel_rfl) rfl rfl rfl (rd_row 0 rfl) (ints_one _) (by first | omega | (simp; omega)) (len_app ys ([stepI d (n / perI d) ((n % perI d - 7) / d.T) ((j : Int) + 1)])) (ints_app ys ([stepI d (n / perI d) ((n % perI d - 7) / d.T) ((j : Int) + 1)])) (fun _ => rfl) ?_
   intro v8
   refine hl_v rfl rfl rfl (rv_ev rfl) ?_
   refine hl_less (sx 0 rfl (sx 1 rfl (sx 2 rfl (sx 4 rfl (sx 5 rfl (sx 6 rfl (sx 7 rfl (sx 9 rfl (sx 10 rfl (sx 14 rfl (sx 26 rfl (sub_nil _)))))))))))) (.refl _) ?_
   refine hl_nil ?_
   refine hq_block_normal ?_
   refine hq_then ?_
   refine hc_region ?_
   refine hl_v rfl rfl rfl (rv_ev rfl) ?_
   refine hl_v rfl rfl rfl (rv_add rfl rfl rfl (by constructor <;> omega)) ?_
   refine hl_v rfl rfl rfl (rv_ev rfl) ?_
   refine hl_less (sx 0 rfl (sx 1 rfl (sx 2 rfl (sx 4 rfl (sx 5 rfl (sx 6 rfl (sx 7 rfl (sx 9 rfl (sx 10 rfl (sx 14 rfl (sx 26 rfl (sub_nil _)))))))))))) (.refl _) ?_
   refine hl_nil ?_
   exact hq_round3 (j + 1) _ _ ⟨by omega, by rw [reachN, ← hy]⟩ (by omega) (sx 0 rfl (sx 1 rfl (sx 2 rfl (sx 4 rfl (sx 5 rfl (sx 6 rfl (sx 7 rfl (sx 9 rfl (sx 10 rfl (sx 14 rfl (sub_nil _))))))))))) ((.cons _ (.cons_cons _ (.cons_cons _ (.cons_cons _ .slnil)))))
  ·
   refine hl_less (sx 0 rfl (sx 1 rfl (sx 2 rfl (sx 4 rfl (sx 5 rfl (sx 6 rfl (sx 7 rfl (sx 9 rfl (sx 10 rfl (sx 14 rfl (sx 26 rfl (sub_nil _)))))))))))) (.refl _) ?_
   refine hl_nil ?_
   refine hq_then ?_
   refine hc_false rfl ?_
   refine hc_exit ?_
   refine hq_then_exit ?_
   refine hq_then_exit ?_
   refine hq_block_exit ?_
   refine hq_then ?_
   refine hc_seq ?_
   refine hc_region ?_
   refine hl_v rfl rfl rfl (rv_ev rfl) ?_
   refine hl_v rfl rfl rfl (rv_ev rfl) ?_
   refine hl_less (sx 0 rfl (sx 1 rfl (sx 2 rfl (sx 4 rfl (sx 5 rfl (sx 6 rfl (sx 7 rfl (sx 9 rfl (sx 10 rfl (sx 14 rfl (sx 26 rfl (sub_nil _)))))))))))) (.refl _) ?_
   refine hl_nil ?_
   refine hq_then ?_
   refine hc_ret ?_
   exact hq_retR (post := [rowE 3 1 u ys.length (ys.map (Value.int .i64))]) rfl rfl ((.cons_cons _ (.cons _ (.cons _ .slnil)))) (by unfold reachS; first | rw [if_pos ⟨hno, p7⟩, hy, show (1 + (n % perI d - 7) % d.T % 2).toNat = j by omega] | (rw [if_neg (by rintro ⟨q1, q2⟩; unfold isWireI at *; simp_all)]; rfl))
 ·
  refine hl_v rfl rfl rfl (rv_ev rfl) ?_
  refine hl_less (sx 0 rfl (sx 1 rfl (sx 2 rfl (sx 4 rfl (sx 14 rfl (sub_nil _)))))) (.refl _) ?_
  refine hl_nil ?_
  refine hq_then ?_
  refine hc_true rfl ?_
  refine hc_seq ?_
  refine hc_region ?_
  refine hl_nilRow 3 1 ?_
  refine hl_v rfl rfl rfl (rv_ev rfl) ?_
  refine hl_less (sx 0 rfl (sx 1 rfl (sx 2 rfl (sx 4 rfl (sx 14 rfl (sub_nil _)))))) (.refl _) ?_
  refine hl_nil ?_
  refine hq_then ?_
  refine hc_ret ?_
  refine hq_then_ret ?_
  exact hq_retR (post := [rowE 3 1 (.slice none 0 0) 0 ([])]) rfl rfl ((.cons_cons _ (.cons _ (.cons _ .slnil)))) (by unfold reachS; first | rw [if_pos ⟨hno, p7⟩, hy, show (1 + (n % perI d - 7) % d.T % 2).toNat = j by omega] | (rw [if_neg (by rintro ⟨q1, q2⟩; unfold isWireI at *; simp_all)]; rfl))
set_option maxHeartbeats 4000000 in
set_option maxRecDepth 100000 in
theorem inPin_ans (d : Dev) (t p : Int) (w : World) (p0 : -1000 ≤ p) (p1 : p ≤ 1000) :
  Calls Try.prog 40 #[.agg #[.int .i64 d.W, .int .i64 d.H, .int .i64 d.T, .int .i64 d.R], .int .i64 t, .int .i64 p] w (Ans w (.int .i64 (inPinI d t p))) := by
 refine calls_hc (N := 27) (args := [.agg #[.int .i64 d.W, .int .i64 d.H, .int .i64 d.T, .int .i64 d.R], .int .i64 t, .int .i64 p]) Try.func40 rfl rfl ?_
 refine hc_less _ (sx 0 rfl (sx 1 rfl (sx 2 rfl (sub_nil _)))) (.refl _) ?_
 refine hc_seq ?_
 refine hc_region ?_
 refine hl_box rfl rfl rfl (rq_box rfl rfl) ?_
 intro b1
 refine hl_v rfl rfl rfl (rv_ev rfl) ?_
 refine hl_less (sx 0 rfl (sx 1 rfl (sx 2 rfl (sx 3 rfl (sx 6 rfl (sub_nil _)))))) (.refl _) ?_
 refine hl_nil ?_
 refine hq_then ?_
 refine hc_seq ?_
 refine hc_seq ?_
 refine hc_region ?_
 refine hl_v rfl rfl rfl (rv_loadN (cs := [.int .i64 d.W, .int .i64 d.H, .int .i64 d.T, .int .i64 d.R]) rfl (by kernel_rfl) (by kernel_rfl) rfl rfl (box_part 0 rfl 0 rfl)) ?_
 refine hl_v rfl rfl rfl (rv_ev rfl) ?_
 refine hl_callV rfl rfl rfl (rq_call (by kernel_rfl) rfl (fun w hm => ret_ans (implTileOk_any d _ w))) ?_
 refine hl_bool (fun h2 => ?_) (fun h2 => ?_)
 ·
  obtain ⟨hv, h2a, h2b⟩ := (tOk_iff _ _).1 h2
  have hor := inPins_rng d t
  have hpm := per_mul hv h2a h2b
  have h35 := tile_35 hv h2b
  refine hl_v rfl rfl rfl (rv_ev rfl) ?_
  refine hl_v rfl rfl rfl (rv_ev rfl) ?_
  refine hl_v rfl rfl rfl (rv_ev rfl) ?_
  refine hl_v rfl rfl rfl (rv_loadN (cs := [.int .i64 d.W, .int .i64 d.H, .int .i64 d.T, .int .i64 d.R]) rfl (by kernel_rfl) (by kernel_rfl) rfl rfl (box_part 0 rfl 0 rfl)) ?_
  refine hl_v rfl rfl rfl (rv_ev rfl) ?_
  refine hl_callV rfl rfl rfl (rq_call (by kernel_rfl) rfl (fun w hm => ret_ans (implTileKind0_any d _ hv (by omega) (by omega) w))) ?_
  refine hl_callV rfl rfl rfl (rq_call (by kernel_rfl) rfl (fun w hm => ret_ans (ans_of (inPins_any _ (kind_cases d _) w)))) ?_
  refine hl_v rfl rfl rfl (rv_sub rfl rfl rfl (by constructor <;> omega)) ?_
  refine hl_callV rfl rfl rfl (rq_call (by kernel_rfl) rfl (fun w hm => ret_ans (ans_of (inRange_any _ _ _ w)))) ?_
  refine hl_bool (fun h3 => ?_) (fun h3 => ?_)
  ·
   obtain ⟨h3a, h3b⟩ := (inR_iff _ _ _).1 h3
   refine hl_v rfl rfl rfl (rv_ev rfl) ?_
   refine hl_v rfl rfl rfl (rv_ev rfl) ?_
   refine hl_less (sx 0 rfl (sx 1 rfl (sx 2 rfl (sx 3 rfl (sx 6 rfl (sx 20 rfl (sub_nil _))))))) (.refl _) ?_
   refine hl_nil ?_
   refine hq_then ?_
   refine hc_false rfl ?_
   refine hc_skip ?_
   refine hq_then ?_
   refine hc_seq ?_
   refine hc_region ?_
   refine hl_v rfl rfl rfl (rv_ev rfl) ?_
   refine hl_v rfl rfl rfl (rv_loadN (cs := [.int .i64 d.W, .int .i64 d.H, .int .i64 d.T, .int .i64 d.R]) rfl (by kernel_rfl) (by kernel_rfl) rfl rfl (box_part 0 rfl 0 rfl)) ?_
   refine hl_callV rfl rfl rfl (rq_call (by kernel_rfl) rfl (fun w hm => ret_ans (implPer_any d hv w))) ?_
   refine hl_v rfl rfl rfl (rv_mul rfl rfl rfl (by constructor <;> omega)) ?_
   refine hl_v rfl rfl rfl (rv_ev rfl) ?_
   refine hl_v rfl rfl rfl (rv_add rfl rfl rfl (by constructor <;> omega)) ?_
   refine hl_v rfl rfl rfl (rv_ev rfl) ?_
   refine hl_less (sx 0 rfl (sx 1 rfl (sx 2 rfl (sx 3 rfl (sx 6 rfl (sx 20 rfl (sub_nil _))))))) (.refl _) ?_
   refine hl_nil ?_
   refine hq_then ?_
   refine hc_ret ?_
   exact hq_ans rfl rfl (by unfold inPinI; first | rw [if_pos ⟨by assumption, by omega, by omega⟩] | rw [if_neg (by rintro ⟨q1, q2, q3⟩; first | omega | simp_all)])
  ·
   have h3a := inR_not h3
   refine hl_v rfl rfl rfl (rv_ev rfl) ?_
   refine hl_v rfl rfl rfl (rv_ev rfl) ?_
   refine hl_less (sx 0 rfl (sx 1 rfl (sx 2 rfl (sx 3 rfl (sx 6 rfl (sx 20 rfl (sub_nil _))))))) (.refl _) ?_
   refine hl_nil ?_
   refine hq_then ?_
   refine hc_true rfl ?_
   refine hc_seq ?_
   refine hc_region ?_
   refine hl_v rfl rfl rfl (rv_ev rfl) ?_
   refine hl_less (sx 0 rfl (sx 1 rfl (sx 2 rfl (sx 3 rfl (sx 6 rfl (sx 20 rfl (sub_nil _))))))) (.refl _) ?_
   refine hl_nil ?_
   refine hq_then ?_
   refine hc_ret ?_
   refine hq_then_ret ?_
   exact hq_ans rfl rfl (by unfold inPinI; first | rw [if_pos ⟨by assumption, by omega, by omega⟩] | rw [if_neg (by rintro ⟨q1, q2, q3⟩; first | omega | simp_all)])
 ·
  refine hl_v rfl rfl rfl (rv_ev rfl) ?_
  refine hl_v rfl rfl rfl (rv_ev rfl) ?_
  refine hl_skip rfl rfl rfl ?_
  refine hl_skip rfl rfl rfl ?_
  refine hl_skip rfl rfl rfl ?_
  refine hl_skip rfl rfl rfl ?_
  refine hl_skip rfl rfl rfl ?_
  refine hl_skip rfl rfl rfl ?_
  refine hl_skip rfl rfl rfl ?_
  refine hl_skip rfl rfl rfl ?_
  refine hl_v rfl rfl rfl (rv_ev rfl) ?_
  refine hl_less (sx 0 rfl (sx 1 rfl (sx 2 rfl (sx 3 rfl (sx 6 rfl (sx 20 rfl (sub_nil _))))))) (.refl _) ?_
  refine hl_nil ?_
  refine hq_then ?_
  refine hc_true rfl ?_
  refine hc_seq ?_
  refine hc_region ?_
  refine hl_v rfl rfl rfl (rv_ev rfl) ?_
  refine hl_less (sx 0 rfl (sx 1 rfl (sx 2 rfl (sx 3 rfl (sx 6 rfl (sx 20 rfl (sub_nil _))))))) (.refl _) ?_
  refine hl_nil ?_
  refine hq_then ?_
  refine hc_ret ?_
  refine hq_then_ret ?_
  exact hq_ans rfl rfl (by unfold inPinI; first | rw [if_pos ⟨by assumption, by omega, by omega⟩] | rw [if_neg (by rintro ⟨q1, q2, q3⟩; first | omega | simp_all)])
open Go.RowKit
/-- rows of one-cell structs -/
theorem flat_map1 {α : Type} (f : α → List Value) (g : α → Value) (hf : ∀ a, f a = [g a]) (es : List α) : es.flatMap f = es.map g := by
  induction es with
  | nil => rfl
  | cons a es ih => rw [List.flatMap_cons, List.map_cons, ih, hf]; rfl
theorem flat_one {α : Type} (f : α → List Value) (g : α → Value) (hf : ∀ a, f a = [g a]) (es : List α) (d : α) {j : Nat} (h : j < es.length) : (es.flatMap f)[j * 1]? = some (g (es.getD j d)) := by
  rw [flat_map1 f g hf, Nat.mul_one, List.getElem?_map, List.getD_eq_getElem?_getD, List.getElem?_eq_getElem h]; rfl
theorem flat_set1 {α : Type} (f : α → List Value) (g : α → Value) (hf : ∀ a, f a = [g a]) (es : List α) (e : α) {j : Nat} {u : Value} (hu : u = g e) : (es.flatMap f).set (j * 1) u = (es.set j e).flatMap f := by
  rw [flat_map1 f g hf, flat_map1 f g hf, Nat.mul_one, List.map_set, hu]
section
variable {P : Program} {N : Nat} {w0 : World} {l : List HP} {env : List (Nat × Value)} {o : Oper}
theorem rv_makeFunc {fn : Fn} {xs ys : Array Operand} {us vs : List Value} (ho : o.op = .makeFunc fn xs ys) (hx : evs env xs.toList = some us) (hy : evs env ys.toList = some vs) : RunV P N w0 l env o (.func fn us.toArray vs.toArray) := fun a w st => by
  have h1 := evs_map st _ _ hx
  have h2 := evs_map st _ _ hy
  have e1 : xs.map a.eval = us.toArray := by apply Array.toList_inj.1; simpa using h1
  have e2 : ys.map a.eval = vs.toArray := by apply Array.toList_inj.1; simpa using h2
  simp [execOp, ho, Instr.makeFunc, e1, e2]
theorem rq_callF {f : FuncId} {x : Operand} {xs : Array Operand} {ats : Array TypeId} {vs cs : List Value} {R : Value → List HP → Prop} {ty : TypeId} {pos : String} {af : Array Edge} {gd : Option (Nat × Bool)} {ds : Option Nat}
    (hgo : goesB P f = true) (hx : ev env x = some (.func (.func f) #[] cs.toArray)) (hvs : evs env xs.toList = some vs) (hc : ∀ w, Mem w0 l w → Calls P f (vs ++ cs).toArray w (Ret w R)) : RunQ P N w0 l env { dst := ds, op := .call { callee := .value x, args := xs, argTypes := ats }, type := ty, pos := pos, after := af, guard := gd } R := fun a w st Q K hK => by
  unfold Oper.wp
  have h1 := evs_map st _ _ hvs
  have e1 : xs.map a.eval = vs.toArray := by apply Array.toList_inj.1; simpa using h1
  have h2 : (execOp a.eval { dst := ds, op := .call { callee := .value x, args := xs, argTypes := ats }, type := ty, pos := pos, after := af, guard := gd }).run P w = (callFunc f (vs ++ cs).toArray).run P w := by
    simp [execOp, resolve, Deferred.ofValue, invoke, st.eval hx, e1]
  rw [h2, run_go hgo, Oper.upon_enter]
  refine (hc w st.mem).mono fun e w' h => ?_
  obtain ⟨v, post, rfl, hR, hpost⟩ := h
  exact hK _ _ _ hR hpost
end
/-- a Bool in a cell -/
structure Bl where
  b : Bool
abbrev bl0 : Bl := ⟨false⟩
def blC (x : Bl) : List Value := [.bool x.b]
theorem nodup_shift (n k : Nat) : ((List.range k).map (n + ·)).Nodup := by
  rw [List.Nodup, List.pairwise_map]
  exact List.nodup_range.imp (fun h e => h (by omega))
theorem range_getD {α : Type} (P0 : List (List α)) : (List.range P0.length).map (fun a => P0.getD a []) = P0 := by
  apply List.ext_getElem (by simp)
  intro i h1 h2
  simp [List.getD_eq_getElem?_getD, List.getElem?_eq_getElem h2]
def envOf3 (dsts : List (Option Nat)) (vf : Nat → Value) (is : List Nat) : List (Nat × Value) := is.filterMap fun i => (dsts.getD i none).map fun d => (d, vf i)
def drawOk3 (os : List Oper) (m : Nat) (dps : List (List Nat)) (dsts : List (Option Nat)) : Bool :=
  Nat.ble m os.length &&
  (List.range os.length).all (fun i => (depsOf os i).all (fun j => Nat.blt j i)) &&
  (List.range os.length).all (fun k => Nat.blt k m || (List.range m).all (fun j => ((msk ((List.range os.length).map (depsOf os)) []).getD k 0).testBit j)) &&
  (List.range (os.length - m)).all (fun t => Region.ready .any os.toArray (List.replicate (m + t) true ++ List.replicate (os.length - (m + t)) false).toArray == [m + t]) &&
  (os.take m).map (·.dst) == dsts && (List.range m).all (fun i => (List.range m).all (fun j => i == j || dsts.getD i none == none || dsts.getD i none != dsts.getD j none)) &&
  (List.range m).all (fun i => (dps.getD i []).all (fun j => ((msk ((List.range os.length).map (depsOf os)) []).getD i 0).testBit j) && decide ((dps.getD i []).Nodup))
section
variable {P : Program} {N : Nat} {w0 : World} {l : List HP} {env : List (Nat × Value)} {Q : Post} {os : List Oper} {m : Nat} {dps : List (List Nat)} {dsts : List (Option Nat)} {R : Nat → List Value → Value → List HP → Prop}
/-- where the quiet part stands -/
structure Mid3 (N : Nat) (w0 : World) (l : List HP) (env : List (Nat × Value)) (os : List Oper) (m : Nat) (dps : List (List Nat)) (dsts : List (Option Nat)) (R : Nat → List Value → Value → List HP → Prop) (tau : List (Option Nat)) (P0 : List (List HP)) (listed : Array Bool) (ord held : List Nat) (vf : Nat → Value) (pf : Nat → List HP) (a : Act) (w : World) : Prop where
  size : listed.size = os.length
  iff : ∀ i, i < os.length → (listed.getD i true = true ↔ i ∈ ord)
  low : ∀ i ∈ ord, i < m
  closed : ∀ i ∈ ord, ∀ j ∈ depsOf os i, j ∈ ord
  nodup : ord.Nodup
  dcl : ∀ i ∈ ord, ∀ j ∈ dps.getD i [], j ∈ ord
  rel : ∀ i ∈ ord, R i ((dps.getD i []).map vf) (vf i) (pf i)
  hn : held.Nodup
  hin : ∀ i ∈ held, i ∈ ord ∨ (os.length ≤ i ∧ i < os.length + P0.length)
  hall : ∀ i, (i ∈ ord ∨ (os.length ≤ i ∧ i < os.length + P0.length)) → (∀ j ∈ ord, tau.getD j none ≠ some i) → i ∈ held
  hP : ∀ k, k < P0.length → pf (os.length + k) = P0.getD k []
  mem : Mem w0 (held.flatMap pf ++ l) w
  asize : a.tmps.size = N
  defers : a.defers = []
  env : ∀ d v, lk env d = some v → a.tmps[d]? = some v
  slots : ∀ i ∈ ord, ∀ d, dsts[i]? = some (some d) → a.tmps[d]? = some (vf i)
theorem Mid3.st {tau P0 listed ord held vf pf a w} (h : Mid3 N w0 l env os m dps dsts R tau P0 listed ord held vf pf a w) (hm : m ≤ dsts.length) {is : List Nat} (hs : ∀ j ∈ is, j ∈ ord) {L : List HP} (hM : Mem w0 L w) : St N w0 L (envOf3 dsts vf is ++ env) a w := by
  refine ⟨hM, h.asize, h.defers, fun d v hd => ?_⟩
  rcases lk_append _ _ _ _ hd with h1 | h1
  · unfold envOf3 at h1
    rw [List.mem_filterMap] at h1
    obtain ⟨i, hi, he⟩ := h1
    rw [Option.map_eq_some_iff] at he
    obtain ⟨d', hd', he⟩ := he
    simp only [Prod.mk.injEq] at he
    obtain ⟨rfl, rfl⟩ := he
    have : dsts[i]? = some (some d') := by
      rw [List.getD_eq_getElem?_getD] at hd'
      cases hx : dsts[i]? with
      | none => rw [hx] at hd'; cases hd'
      | some y => rw [hx] at hd'; exact congrArg some hd'
    exact h.slots i (hs i hi) _ this
  · exact h.env d v h1
/-- append to a row of the call's own -/
theorem rm_append {X : List HP} {o : Oper} {d t e s bytes n m : Nat} {x y : Operand} {v u z : Value} {xs news : List Value} (ho : o.op = .call { callee := .builtin .append, args := #[x, y], argTypes := #[t, t] })
    (hu : P.underlying t = some (.slice e)) (hinf : (P.info? e).map (fun i => (i.zero, i.size, i.bytes)) = some (some z, s, bytes)) (hzs : (Nat.beq z.cells.size s && Nat.blt 0 s && Nat.ble bytes 1000) = true)
    (hx : ev env x = some v) (hy : ev env y = some u) (hr : Rd w0 X u s m news) (h1 : ∀ q ∈ news, q.oneCell' = true) (hnm : n + m ≤ 100000000000)
    {n' : Nat} {xs' : List Value} (hn' : n + m = n') (hx' : xs ++ news = xs') : RunM P N w0 [rowE e s v n xs] X env o (fun v' post => ∃ p', post = [p'] ∧ p' = rowE e s v' n' xs') := fun L hL a w st Q K hK => by
  obtain ⟨inf, hi', hz, hs, hby⟩ := info_parts hinf
  simp only [Bool.and_eq_true, Nat.beq_eq, Nat.blt_eq, Nat.ble_eq] at hzs
  obtain ⟨⟨hz1, hz2⟩, hz3⟩ := hzs
  obtain ⟨ad, cap, rfl, hl, hm, hc⟩ := hr w (hL w (st.mem.sub (List.sublist_append_right _ _)))
  have hown : w.ownsRow 0 e s v n xs := st.mem.holds _ (mem_at (i := 0) rfl)
  have hrun : ∃ v' w', (Builtin.append_ #[t, t] o.type #[v, .slice ad m cap]).run P w = .ok v' w' ∧ w'.ownsRow 0 e s v' (n + m) (xs ++ news) ∧ w.grownBy w' v.ownBlock ∧ (v'.ownBlock = v.ownBlock ∨ v'.ownBlock = some w.heap.size) := by
    by_cases hm0 : m = 0
    · subst hm0
      have hn : news = [] := List.eq_nil_of_length_eq_zero (by simpa using hl)
      subst hn
      refine ⟨v, w, ?_, by simpa using hown, World.grownBy.refl _ _, .inl rfl⟩
      rcases hown.2 with ⟨rfl, rfl⟩ | ⟨g, cap', cur, rfl, _, hg, hnc, hcm, hcs, htake⟩
      · cases ad <;> simp [Builtin.append_, run_underlying hu, sizeOf, typeInfo, hi', Builtin.lenOf, Builtin.firstCells, loadCells, loadCellsFrom]
      · cases ad <;> simp [Builtin.append_, run_underlying hu, sizeOf, typeInfo, hi', Builtin.lenOf, Builtin.firstCells, loadCells, loadCellsFrom, hnc, storeCells]
    · obtain ⟨b, off, rfl, hc'⟩ := hc (by omega)
      have hb : (n + m) * bytes ≤ 140737488355328 := by have := Nat.mul_le_mul hnm hz3; omega
      obtain ⟨v', w', e1, e2, e3, _, e5⟩ := run_append_own_at (P := P) w 0 t o.type e inf z s bytes hu hi' hz hs hby hz1 hz2 v n xs hown ⟨b, off, none⟩ m cap news hl (fun j q hj => by rw [add_lit]; exact hc' j q hj) h1 (by unfold maxLen; omega) hb (Nat.zero_le _)
      exact ⟨v', w', e1, e2, e3, e5⟩
  obtain ⟨v', w', e1, e2, e3, e4⟩ := hrun
  have hr : (execOp a.eval o).run P w = .ok (.value v') w' := by
    simp only [execOp, ho, resolve, invoke, builtin, Sem.run_bind, Sem.run_pure, Result.andThen_ok, List.map_toArray, List.map_cons, List.map_nil, st.eval hx, st.eval hy, e1]
  unfold Oper.wp
  rw [hr, Oper.upon_value]
  subst hn' hx'
  exact hK v' _ w' ⟨_, rfl, rfl⟩ (Mem.append (i := 0) rfl st.mem e2 e3 e4)
end
open Go.RowKit
structure Rt where
  nv : Value
  fv : Value
  ns : List Int
  fs : List Int
def Rt.cells (r : Rt) : List Value := [r.nv, r.fv]
abbrev Rt.agg (r : Rt) : Value := .agg #[r.nv, r.fv]
structure RdsRt (w : World) (v : Value) (rs : List Rt) : Prop where
  row : RdsW w v 2 rs.length (rs.flatMap Rt.cells)
  ns : ∀ r ∈ rs, RdsW w r.nv 1 r.ns.length (r.ns.map (Value.int .i64))
  fs : ∀ r ∈ rs, RdsW w r.fv 1 r.fs.length (r.fs.map (Value.int .i64))
theorem RdsRt.below {w w' : World} {v : Value} {rs : List Rt} (h : RdsRt w v rs) (hb : Below w.heap.size w w') : RdsRt w' v rs := ⟨h.row.below hb, fun r hr => (h.ns r hr).below hb, fun r hr => (h.fs r hr).below hb⟩
/-- a tree that grew along sources -/
structure Tree (d : Dev) (s : Int) (ns fs ks : List Int) : Prop where
  len : ns.length = fs.length
  l0 : 1 ≤ ns.length
  l1 : ns.length ≤ 7
  root : ns.getD 0 0 = s
  from0 : fs.getD 0 0 = 0
  rng : ∀ x ∈ ns, 0 ≤ x ∧ x < allI d
  nd : ns.Nodup
  step : ∀ k, 0 < k → k < ns.length → 0 ≤ fs.getD k 0 ∧ fs.getD k 0 < k ∧ hasB (srcI d (ns.getD k 0)) (ns.getD (fs.getD k 0).toNat 0) = true
  sinks : ks = (ns.drop 1).filter fun x => decide (x % perI d < 5)
theorem inr_in {x lo hi : Int} (h : lo ≤ x ∧ x ≤ hi) : inR x lo hi = true := (inR_iff _ _ _).2 h
set_option maxHeartbeats 4000000 in
set_option maxRecDepth 100000 in
theorem implrouteNodes_yes (d : Dev) (w : World) (hd : devB d = true) :
  Calls Try.prog 25 #[.agg #[.int .i64 d.W, .int .i64 d.H, .int .i64 d.T, .int .i64 d.R]] w (Ans w (.int .i64 (allI d))) := by
 obtain ⟨q1, q2⟩ := per_rng hd
 obtain ⟨ra1, ra2⟩ := all_rng hd
 obtain ⟨ar1, ar2⟩ := area_le hd
 obtain ⟨⟨dw1, dw2⟩, ⟨dh1, dh2⟩, ⟨l1, l2⟩, -⟩ := (devB_iff d).1 hd
 have hall : allI d = d.W * d.H * perI d := rfl
 rw [hall] at ra1 ra2
 refine calls_hc (N := 11) (args := [.agg #[.int .i64 d.W, .int .i64 d.H, .int .i64 d.T, .int .i64 d.R]]) Try.func25 rfl rfl ?_
 refine hc_less _ (sx 0 rfl (sub_nil _)) (.refl _) ?_
 refine hc_seq ?_
 refine hc_region ?_
 refine hl_box rfl rfl rfl (rq_box rfl rfl) ?_
 intro b1
 refine hl_v rfl rfl rfl (rv_ev rfl) ?_
 refine hl_less (sx 0 rfl (sx 1 rfl (sx 2 rfl (sub_nil _)))) (.refl _) ?_
 refine hl_nil ?_
 refine hq_then ?_
 refine hc_seq ?_
 refine hc_draw (by kernel_rfl) 8 [0, 1, 2, 3, 4, 5, 6, 7] (List.take 8 _) (List.drop 8 _) [[], [0], [], [2], [1, 3], [], [5], [4, 6]] [3, 4, 5, 6, 7, 8, 9, 10] (fun i_ vs_ v_ p_ => match i_ with | 0 => v_ = .pointer (some ⟨b1, 0 + 0, none⟩) ∧ p_ = [] | 1 => v_ = .int .i64 d.W ∧ p_ = [] | 2 => v_ = .pointer (some ⟨b1, 0 + 1, none⟩) ∧ p_ = [] | 3 => v_ = .int .i64 d.H ∧ p_ = [] | 4 => v_ = .int .i64 (d.W * d.H) ∧ p_ = [] | 5 => v_ = .agg #[.int .i64 d.W, .int .i64 d.H, .int .i64 d.T, .int .i64 d.R] ∧ p_ = [] | 6 => v_ = .int .i64 (perI d) ∧ p_ = [] | 7 => v_ = .int .i64 ((d.W * d.H) * (perI d)) ∧ p_ = [] | _ => True) (List.take_append_drop 8 _).symm (by kernel_rfl) (by kernel_rfl) rfl rfl ?_ ?_
 ·
  refine ⟨?_, ?_, ?_, ?_, ?_, ?_, ?_, ?_, trivial⟩
  ·
   intro vf pf hR
   refine Or.inl ⟨rfl, ?_⟩
   refine rq_less (sx 1 rfl (sub_nil _)) (List.sublist_append_right _ _) ?_
   exact rq_v (rv_field (k0 := 0) rfl (by kernel_rfl) rfl)
  ·
   intro vf pf hR
   have e0 : (vf 0) = .pointer (some ⟨b1, 0 + 0, none⟩) ∧ (pf 0) = [] := hR 0 (by decide)
   refine Or.inl ⟨rfl, ?_⟩
   refine rq_less (sx 3 (congrArg some e0.1) (sub_nil _)) (List.sublist_append_right _ _) ?_
   exact rq_v (rv_load rfl (by kernel_rfl) rfl (box_cell 0 rfl rfl))
  ·
   intro vf pf hR
   refine Or.inl ⟨rfl, ?_⟩
   refine rq_less (sx 1 rfl (sub_nil _)) (List.sublist_append_right _ _) ?_
   exact rq_v (rv_field (k0 := 1) rfl (by kernel_rfl) rfl)
  ·
   intro vf pf hR
   have e2 : (vf 2) = .pointer (some ⟨b1, 0 + 1, none⟩) ∧ (pf 2) = [] := hR 2 (by decide)
   refine Or.inl ⟨rfl, ?_⟩
   refine rq_less (sx 5 (congrArg some e2.1) (sub_nil _)) (List.sublist_append_right _ _) ?_
   exact rq_v (rv_load rfl (by kernel_rfl) rfl (box_cell 0 rfl rfl))
  ·
   intro vf pf hR
   have e1 : (vf 1) = .int .i64 d.W ∧ (pf 1) = [] := hR 1 (by decide)
   have e3 : (vf 3) = .int .i64 d.H ∧ (pf 3) = [] := hR 3 (by decide)
   refine Or.inl ⟨rfl, ?_⟩
   refine rq_less (sx 4 (congrArg some e1.1) (sx 6 (congrArg some e3.1) (sub_nil _))) (List.sublist_append_right _ _) ?_
   exact rq_v (rv_mul rfl rfl rfl (by constructor <;> omega))
  ·
   intro vf pf hR
   refine Or.inl ⟨rfl, ?_⟩
   refine rq_less (sx 1 rfl (sub_nil _)) (List.sublist_append_right _ _) ?_
   exact rq_v (rv_loadN (cs := [.int .i64 d.W, .int .i64 d.H, .int .i64 d.T, .int .i64 d.R]) rfl (by kernel_rfl) (by kernel_rfl) rfl rfl (box_part 0 rfl 0 rfl))
  ·
   intro vf pf hR
   have e5 : (vf 5) = .agg #[.int .i64 d.W, .int .i64 d.H, .int .i64 d.T, .int .i64 d.R] ∧ (pf 5) = [] := hR 5 (by decide)
   refine Or.inl ⟨rfl, ?_⟩
   refine rq_less (sx 8 (congrArg some e5.1) (sub_nil _)) (List.sublist_append_right _ _) ?_
   exact (rq_call (by kernel_rfl) rfl (fun w hm => ret_ans (implPer_any d hd w)))
  ·
   intro vf pf hR
   have e4 : (vf 4) = .int .i64 (d.W * d.H) ∧ (pf 4) = [] := hR 4 (by decide)
   have e6 : (vf 6) = .int .i64 (perI d) ∧ (pf 6) = [] := hR 6 (by decide)
   refine Or.inl ⟨rfl, ?_⟩
   refine rq_less (sx 7 (congrArg some e4.1) (sx 9 (congrArg some e6.1) (sub_nil _))) (List.sublist_append_right _ _) ?_
   exact rq_v (rv_mul rfl rfl rfl (by constructor <;> omega))
 ·
  intro vf pf hR
  have e7 : (vf 7) = .int .i64 ((d.W * d.H) * (perI d)) ∧ (pf 7) = [] := hR 7 (by decide)
  refine hl_less (l' := [boxE b1 #[.int .i64 d.W, .int .i64 d.H, .int .i64 d.T, .int .i64 d.R] 25]) (sx 0 rfl (sx 1 rfl (sx 2 rfl (sx 10 (congrArg some e7.1) (sub_nil _))))) (List.sublist_append_right _ _) ?_
  simp only [List.drop_succ_cons, List.drop_zero]
  refine hl_v rfl rfl rfl (rv_ev rfl) ?_
  refine hl_less (sx 0 rfl (sx 1 rfl (sx 2 rfl (sub_nil _)))) (.refl _) ?_
  refine hl_nil ?_
  refine hq_then ?_
  refine hc_ret ?_
  exact hq_ans rfl rfl rfl
theorem hq_one {N : Nat} {w0 : World} {l : List HP} {env : List (Nat × Value)} {Q : Post} {ex : Exit} {i e s n : Nat} {v : Value} {xs : List Value} (hi : l[i]? = some (rowE e s v n xs)) (k : v.oneCell' = true → HQ N w0 l env ex Q) : HQ N w0 l env ex Q := fun a w st => k (rdsW_own (st.mem.holds _ (mem_at hi))).one a w st
open Go.RowKit
theorem tok_in {d : Dev} {t : Int} (hd : devB d = true) (h0 : 0 ≤ t) (h1 : t < d.W * d.H) : tOk d t = true := (tOk_iff _ _).2 ⟨hd, h0, by omega⟩
theorem out0 {d : Dev} {t : Int} (hd : devB d = true) (h0 : 0 ≤ t) (h1 : t < d.W * d.H) : outPinI d t 0 = t * perI d + 5 ∧ 0 ≤ outPinI d t 0 ∧ outPinI d t 0 < allI d ∧ outPinI d t 0 % perI d = 5 ∧ outPinI d t 0 / perI d = t := by
  obtain ⟨q1, q2⟩ := per_rng hd
  have h2 := outPins_rng d t
  have e : outPinI d t 0 = t * perI d + 5 := by unfold outPinI; rw [if_pos ⟨tok_in hd h0 h1, by omega, by omega⟩]; omega
  obtain ⟨f1, f2⟩ := xy_of (W := perI d) (x := 5) (y := t) (by omega) (by omega) (by omega)
  have m := per_mul hd h0 (show t ≤ d.W * d.H - 1 by omega)
  have e7 : t * perI d ≤ (d.W * d.H - 1) * perI d := Int.mul_le_mul_of_nonneg_right (by omega) (by omega)
  have e6 : (d.W * d.H - 1) * perI d = allI d - perI d := by rw [Int.sub_mul, Int.one_mul]; rfl
  rw [e]
  exact ⟨rfl, by omega, by omega, f1, f2⟩
theorem mem_getD {l : List Int} {x : Int} (h : x ∈ l) : ∃ k, k < l.length ∧ l.getD k 0 = x := by
  obtain ⟨k, hk, rfl⟩ := List.mem_iff_getElem.1 h
  exact ⟨k, hk, by rw [List.getD_eq_getElem?_getD, List.getElem?_eq_getElem hk]; rfl⟩
structure RtOk (d : Dev) (s0 : Int) (ns fs ks : List Int) : Prop where
  tr : Tree d s0 ns fs ks
  ok : nodeOkI d s0 = true
  out : s0 % perI d = 5
theorem RtOk.node {d : Dev} {s0 : Int} {ns fs ks : List Int} (h : RtOk d s0 ns fs ks) {k : Nat} (hk : k < ns.length) : nodeOkI d (ns.getD k 0) = true := by
  by_cases h0 : k = 0
  · rw [h0, h.tr.root]; exact h.ok
  · have h1 := (h.tr.step k (by omega) hk).2.2
    apply Decidable.byContradiction
    intro hc
    rw [src_no d _ hc] at h1
    exact absurd h1 (by simp [hasB])
theorem Tree.cons {d : Dev} {s0 : Int} {ns fs ks : List Int} (h : Tree d s0 ns fs ks) : ns = s0 :: ns.drop 1 := by
  have h0 := h.l0
  have hr := h.root
  cases ns with
  | nil => simp at h0
  | cons a t => have : a = s0 := by simpa using hr
                subst this; rfl
theorem RtOk.nd {d : Dev} {s0 : Int} {ns fs ks : List Int} (h : RtOk d s0 ns fs ks) : ks.Nodup := by
  rw [h.tr.sinks]; exact (h.tr.nd.sublist (List.drop_sublist _ _)).filter _
structure Qu where
  d : Int
  n : Int
/-- the value at an int place -/
abbrev gI (l : List Int) (x : Int) : Int := l.getD x.toNat 0
theorem getD_ofset {l : List Int} {i j : Nat} {x : Int} (h : i < l.length) : (l.set i x).getD j 0 = if i = j then x else l.getD j 0 := by
  by_cases e : i = j
  · subst e; rw [if_pos rfl, getD_set_self' h]
  · rw [if_neg e, List.getD_eq_getElem?_getD, List.getElem?_set_ne e, ← List.getD_eq_getElem?_getD]
theorem gI_set {l : List Int} {n x y : Int} (h0 : 0 ≤ n) (h1 : n < l.length) (h2 : 0 ≤ y) : gI (l.set n.toNat x) y = if y = n then x else gI l y := by
  unfold gI
  rw [getD_ofset (by omega)]
  by_cases e : y = n
  · subst e; rw [if_pos rfl, if_pos rfl]
  · rw [if_neg e, if_neg (by omega)]
/-- how many are known -/
def cntK : List Int → Nat
  | [] => 0
  | a :: l => (if a = -1 then 0 else 1) + cntK l
theorem cntK_le : ∀ l : List Int, cntK l ≤ l.length
  | [] => Nat.le_refl _
  | a :: l => by have := cntK_le l; simp only [cntK, List.length_cons]; split <;> omega
/-- the weight of what is still to fall -/
def wgt (B : Nat) (a : Int) : Nat := if a < 0 then B else a.toNat
def sumW (B : Nat) : List Int → Nat
  | [] => 0
  | a :: l => wgt B a + sumW B l
theorem sumW_set (B : Nat) : ∀ (l : List Int) (i : Nat) (x : Int), i < l.length → sumW B (l.set i x) + wgt B (l.getD i 0) = sumW B l + wgt B x
  | [], i, x, h => by simp at h
  | a :: l, 0, x, h => by simp only [List.set_cons_zero, sumW, List.getD_cons_zero]; omega
  | a :: l, i + 1, x, h => by
    have := sumW_set B l i x (by simpa using h)
    simp only [List.set_cons_succ, sumW, List.getD_cons_succ]; omega
/-- sources, sinks and costs of N nodes -/
structure GrS (N : Nat) (S K : Int → List Int) (cs : List Int) : Prop where
  n1 : N ≤ 828
  cl : cs.length = N
  cr : ∀ k : Int, 0 ≤ k → k < N → 1 ≤ gI cs k ∧ gI cs k ≤ 100000
  sr : ∀ k : Int, 0 ≤ k → k < N → ∀ s ∈ S k, 0 ≤ s ∧ s < N
  kr : ∀ x : Int, 0 ≤ x → x < N → ∀ n, n ∈ K x ↔ (0 ≤ n ∧ n < N) ∧ x ∈ S n
/-- what holds within the walk; R: the sinks that a known node has been followed to -/
structure DI (N : Nat) (S : Int → List Int) (cs st s0 : List Int) (R : Int → List Int) (out : List Int) (td : List Qu) (M : Nat) : Prop where
  len : out.length = N
  rng : ∀ k : Int, 0 ≤ k → k < N → gI out k = -1 ∨ (0 ≤ gI out k ∧ gI out k ≤ 100000 * (cntK out : Int))
  sts : ∀ s ∈ s0, gI out s = 0
  tdo : ∀ e ∈ td, (0 ≤ e.n ∧ e.n < N) ∧ 0 ≤ gI out e.n ∧ gI out e.n ≤ e.d ∧ e.d ≤ 100000 * N
  tig : ∀ k : Int, 0 ≤ k → k < N → ¬ k ∈ st → 0 ≤ gI out k → ∃ s ∈ S k, 0 ≤ gI out s ∧ gI out s + gI cs k ≤ gI out k
  set : ∀ y : Int, 0 ≤ y → y < N → 0 ≤ gI out y → (∃ e ∈ td, e.n = y ∧ e.d = gI out y) ∨ ∀ n ∈ R y, 0 ≤ gI out n ∧ gI out n ≤ gI out y + gI cs n
  mea : sumW (100000 * N + 1) out + td.length ≤ M
theorem DI.up {N : Nat} {S : Int → List Int} {cs st s0 : List Int} {R : Int → List Int} {out : List Int} {td : List Qu} {M : Nat} (h : DI N S cs st s0 R out td M) {k : Int} (h0 : 0 ≤ k) (h1 : k < N) : gI out k = -1 ∨ (0 ≤ gI out k ∧ gI out k ≤ 100000 * (N : Int)) := by
  have := cntK_le out
  have hl := h.len
  rcases h.rng k h0 h1 with h2 | ⟨h2, h3⟩
  · exact .inl h2
  · exact .inr ⟨h2, by omega⟩
theorem DI.perm {N : Nat} {S : Int → List Int} {cs st s0 : List Int} {R : Int → List Int} {out : List Int} {td td' : List Qu} {M : Nat} (h : DI N S cs st s0 R out td M) (hp : td.Perm td') : DI N S cs st s0 R out td' M :=
  ⟨h.len, h.rng, h.sts, fun e he => h.tdo e (hp.mem_iff.2 he), h.tig, fun y h0 h1 h2 => (h.set y h0 h1 h2).imp_left (fun ⟨e, he, h3⟩ => ⟨e, hp.mem_iff.1 he, h3⟩), by have := hp.length_eq; have := h.mea; omega⟩
/-- one entry is taken up -/
theorem DI.take {N : Nat} {S : Int → List Int} {cs st s0 : List Int} {R : Int → List Int} {out : List Int} {e : Qu} {td : List Qu} {M : Nat} (h : DI N S cs st s0 R out (e :: td) M) : DI N S cs st s0 (fun y => if y = e.n then [] else R y) out td (M - 1) :=
  ⟨h.len, h.rng, h.sts, fun q hq => h.tdo q (List.mem_cons_of_mem _ hq), h.tig, fun y y0 y1 hy => by
    by_cases hye : y = e.n
    · subst hye; rw [if_pos rfl]; exact .inr fun m hm => absurd hm (by simp)
    · rw [if_neg hye]
      refine (h.set y y0 y1 hy).imp_left fun ⟨q, hq, h1, h2⟩ => ⟨q, ?_, h1, h2⟩
      rcases List.mem_cons.1 hq with hq | hq
      · subst hq; exact absurd h1.symm hye
      · exact hq, by have := h.mea; simp only [List.length_cons] at this; omega⟩
/-- an old entry is dropped -/
theorem DI.drop {N : Nat} {S : Int → List Int} {cs st s0 : List Int} {R : Int → List Int} {out : List Int} {e : Qu} {td : List Qu} {M : Nat} (h : DI N S cs st s0 R out (e :: td) M) (hd : gI out e.n < e.d) : DI N S cs st s0 R out td (M - 1) :=
  ⟨h.len, h.rng, h.sts, fun q hq => h.tdo q (List.mem_cons_of_mem _ hq), h.tig, fun y y0 y1 hy => by
    rcases h.set y y0 y1 hy with ⟨q, hq, h1, h2⟩ | hR
    · refine .inl ⟨q, ?_, h1, h2⟩
      rcases List.mem_cons.1 hq with hq | hq
      · subst hq; rw [h1] at hd; omega
      · exact hq
    · exact .inr hR, by have := h.mea; simp only [List.length_cons] at this; omega⟩
theorem DI.cong {N : Nat} {S : Int → List Int} {cs st s0 : List Int} {R R' : Int → List Int} {out : List Int} {td : List Qu} {M : Nat} (h : DI N S cs st s0 R out td M) (hR : ∀ y : Int, 0 ≤ y → y < N → ∀ n ∈ R' y, n ∈ R y) : DI N S cs st s0 R' out td M :=
  ⟨h.len, h.rng, h.sts, h.tdo, h.tig, fun y y0 y1 hy => (h.set y y0 y1 hy).imp_right fun h1 n hn => h1 n (hR y y0 y1 n hn), h.mea⟩
/-- the starts are laid -/
structure DS (N : Nat) (cs st s0 : List Int) (out : List Int) (td : List Qu) : Prop where
  len : out.length = N
  rng : ∀ k : Int, 0 ≤ k → k < N → gI out k = -1 ∨ gI out k = 0
  sts : ∀ s ∈ s0, gI out s = 0
  zer : ∀ k : Int, 0 ≤ k → k < N → gI out k = 0 → k ∈ st ∧ ∃ e ∈ td, e.n = k ∧ e.d = 0
  tdo : ∀ e ∈ td, (0 ≤ e.n ∧ e.n < N) ∧ gI out e.n = 0 ∧ e.d = 0
  mea : sumW (100000 * N + 1) out + td.length ≤ N * (100000 * N + 1)
theorem DS.more {N : Nat} {cs st s0 out : List Int} {td td' : List Qu} (h : DS N cs st s0 out td) {s : Int} (hs0 : 0 ≤ s) (hs1 : s < N) (hst : s ∈ st) (hz : gI out s ≠ 0) (hp : (td ++ [Qu.mk 0 s]).Perm td') : DS N cs st (s0 ++ [s]) (out.set s.toNat 0) td' := by
  have hl := h.len
  have G : ∀ y : Int, 0 ≤ y → gI (out.set s.toNat 0) y = if y = s then 0 else gI out y := fun y hy => gI_set hs0 (by omega) hy
  have hm1 : gI out s = -1 := (h.rng s hs0 hs1).resolve_right hz
  refine ⟨by rw [List.length_set]; exact hl, fun k k0 k1 => ?_, fun q hq => ?_, fun k k0 k1 hk => ?_, fun e he => ?_, ?_⟩
  · rw [G k k0]
    by_cases e : k = s
    · rw [if_pos e]; exact .inr rfl
    · rw [if_neg e]; exact h.rng k k0 k1
  · show (out.set s.toNat 0).getD q.toNat 0 = 0
    rw [getD_ofset (by omega)]
    rcases List.mem_append.1 hq with hq | hq
    · have := h.sts q hq
      split
      · rfl
      · exact this
    · rw [List.mem_singleton] at hq; subst hq; rw [if_pos rfl]
  · rw [G k k0] at hk
    by_cases e : k = s
    · subst e; exact ⟨hst, _, hp.mem_iff.1 (List.mem_append_right _ (List.mem_singleton.2 rfl)), rfl, rfl⟩
    · rw [if_neg e] at hk
      obtain ⟨h1, q, h2, h3⟩ := h.zer k k0 k1 hk
      exact ⟨h1, q, hp.mem_iff.1 (List.mem_append_left _ h2), h3⟩
  · rcases List.mem_append.1 (hp.mem_iff.2 he) with he | he
    · obtain ⟨a, b, c⟩ := h.tdo e he
      refine ⟨a, ?_, c⟩
      rw [G _ a.1]; split
      · rfl
      · exact b
    · rw [List.mem_singleton] at he; subst he
      exact ⟨⟨hs0, hs1⟩, by show gI _ s = 0; rw [G s hs0, if_pos rfl], rfl⟩
  · have e1 := sumW_set (100000 * N + 1) out s.toNat 0 (by omega)
    have e2 := hp.length_eq
    have hm := h.mea
    have hm2 : out.getD s.toNat 0 = -1 := hm1
    rw [hm2] at e1
    simp only [wgt, List.length_append, List.length_singleton] at e1 e2
    simp at e1
    omega
/-- what the distances are -/
structure DistOk (N : Nat) (S : Int → List Int) (cs st : List Int) (D : List Int) : Prop where
  len : D.length = N
  rng : ∀ k : Int, 0 ≤ k → k < N → gI D k = -1 ∨ (0 ≤ gI D k ∧ gI D k ≤ 100000 * (N : Int))
  sts : ∀ s ∈ st, gI D s = 0
  rel : ∀ n : Int, 0 ≤ n → n < N → ∀ s ∈ S n, 0 ≤ gI D s → 0 ≤ gI D n ∧ gI D n ≤ gI D s + gI cs n
  tig : ∀ k : Int, 0 ≤ k → k < N → ¬ k ∈ st → 0 ≤ gI D k → ∃ s ∈ S k, 0 ≤ gI D s ∧ gI D k = gI D s + gI cs k
theorem DI.done {N : Nat} {S K : Int → List Int} {cs st : List Int} {out : List Int} {M : Nat} (g : GrS N S K cs) (h : DI N S cs st st K out [] M) : DistOk N S cs st out := by
  have rel : ∀ n : Int, 0 ≤ n → n < N → ∀ s ∈ S n, 0 ≤ gI out s → 0 ≤ gI out n ∧ gI out n ≤ gI out s + gI cs n := fun n n0 n1 s hs h0 => by
    have hr := g.sr n n0 n1 s hs
    rcases h.set s hr.1 hr.2 h0 with ⟨e, he, -⟩ | hR
    · exact absurd he (by simp)
    · exact hR n ((g.kr s hr.1 hr.2 n).2 ⟨⟨n0, n1⟩, hs⟩)
  exact ⟨h.len, fun k k0 k1 => h.up k0 k1, h.sts, rel, fun k k0 k1 hk hk0 => by
    obtain ⟨s, hs, h1, h2⟩ := h.tig k k0 k1 hk hk0
    have := rel k k0 k1 s hs h1
    exact ⟨s, hs, h1, by omega⟩⟩
theorem take_snocZ {l : List Int} {k : Nat} (h : k < l.length) : l.take (k + 1) = l.take k ++ [l.getD k 0] := by
  rw [List.take_succ_eq_append_getElem h, List.getD_eq_getElem?_getD, List.getElem?_eq_getElem h]; rfl
theorem getD_memZ {l : List Int} {k : Nat} (h : k < l.length) : l.getD k 0 ∈ l := by
  rw [List.getD_eq_getElem?_getD, List.getElem?_eq_getElem h]; exact List.getElem_mem h
/-- what has been followed: node x up to its j-th sink -/
def upTo (K : Int → List Int) (x : Int) (j : Nat) : Int → List Int := fun y => if y = x then (K x).take j else K y
theorem DI.first {N : Nat} {S K : Int → List Int} {cs st : List Int} {out : List Int} {e : Qu} {td : List Qu} {M : Nat} (h : DI N S cs st st K out (e :: td) M) : DI N S cs st st (upTo K e.n 0) out td (M - 1) :=
  h.take.cong fun y y0 y1 n hn => by
    unfold upTo at hn
    by_cases hy : y = e.n
    · rw [if_pos hy] at hn; simp at hn
    · rw [if_neg hy] at hn ⊢; exact hn
theorem DI.top {N : Nat} {S : Int → List Int} {cs st s0 : List Int} {R : Int → List Int} {out : List Int} {e : Qu} {td : List Qu} {M : Nat} (h : DI N S cs st s0 R out (e :: td) M) : (0 ≤ e.n ∧ e.n < N) ∧ 0 ≤ gI out e.n ∧ gI out e.n ≤ e.d ∧ e.d ≤ 100000 * N ∧ 1 ≤ M := by
  have := h.tdo e List.mem_cons_self
  have := h.mea
  simp only [List.length_cons] at this
  exact ⟨(h.tdo e List.mem_cons_self).1, (h.tdo e List.mem_cons_self).2.1, (h.tdo e List.mem_cons_self).2.2.1, (h.tdo e List.mem_cons_self).2.2.2, by omega⟩
structure IR where
  v : Value
  xs : List Int
abbrev ir0 : IR := ⟨.slice none 0 0, []⟩
def irC (r : IR) : List Value := [r.v]
abbrev irPart (r : IR) : HP := rowE 3 1 r.v r.xs.length (r.xs.map (Value.int .i64))
abbrev irsE (v : Value) (rs : List IR) : HP := bigE [bigE (rs.map irPart), rowE 28 1 v rs.length (rs.flatMap irC)]
structure RdsIr (w : World) (v : Value) (rs : List IR) : Prop where
  row : RdsW w v 1 rs.length (rs.flatMap irC)
  xs : ∀ r ∈ rs, RdsW w r.v 1 r.xs.length (r.xs.map (Value.int .i64))
theorem RdsIr.below {w w' : World} {v : Value} {rs : List IR} (h : RdsIr w v rs) (hb : Below w.heap.size w w') : RdsIr w' v rs := ⟨h.row.below hb, fun r hr => (h.xs r hr).below hb⟩
theorem RdsIr.at {w : World} {v : Value} {rs : List IR} (h : RdsIr w v rs) {k : Nat} (hk : k < rs.length) : RdsW w (rs.getD k ir0).v 1 (rs.getD k ir0).xs.length ((rs.getD k ir0).xs.map (Value.int .i64)) := h.xs _ (getD_mem' hk)
theorem ir_rds {w0 : World} {l : List HP} {v : Value} {rs : List IR} (i : Nat) (hi : l[i]? = some (irsE v rs)) (w : World) (hm : Mem w0 l w) : RdsIr w v rs := by
  obtain ⟨b1, -⟩ := hm.holds _ (mem_at hi)
  have c1 := (b1 _ (List.mem_cons_self)).2
  have c2 := (b1 _ (List.mem_cons_of_mem _ List.mem_cons_self)).2
  exact ⟨rdsW_own c2, fun r hr => rdsW_own (c1.1 (irPart r) (List.mem_map.2 ⟨r, hr, rfl⟩)).2⟩
theorem conv_setPart {w0 : World} {ps l : List HP} {j : Nat} {p' : HP} (h : j < ps.length) : Conv w0 (p' :: bigE ps :: l) (bigE (ps.set j p') :: l) := fun w hm => by
  have h1 : Mem w0 (bigE ps :: p' :: l) w := hm.perm (.swap _ _ _)
  have h2 := conv_focus (j := j) (p := ps[j]) (List.getElem?_eq_getElem h) w h1
  have h3 : Mem w0 (bigE (ps.eraseIdx j) :: p' :: l) w := h2.sub (List.sublist_cons_self _ _)
  exact conv_unfocus h w (h3.perm (.swap _ _ _))
theorem conv_irSet {w0 : World} {l : List HP} {es : List IR} {j : Nat} {e' : IR} (h : j < es.length) : Conv w0 (irPart e' :: bigE (es.map irPart) :: l) (bigE ((es.set j e').map irPart) :: l) := fun w hm => by
  rw [List.map_set]; exact conv_setPart (by rw [List.length_map]; exact h) w hm
theorem conv_irFocus {w0 : World} {l : List HP} {es : List IR} {j : Nat} (h : j < es.length) : Conv w0 (bigE (es.map irPart) :: l) (irPart (es.getD j ir0) :: bigE ((es.map irPart).eraseIdx j) :: l) :=
  conv_focus (by rw [List.getElem?_map, getD_at h (d := ir0)]; rfl)
theorem conv_irUnfocus {w0 : World} {l : List HP} {es : List IR} {j : Nat} {e' : IR} (h : j < es.length) : Conv w0 (irPart e' :: bigE ((es.map irPart).eraseIdx j) :: l) (bigE ((es.set j e').map irPart) :: l) := fun w hm => by
  rw [List.map_set]; exact conv_unfocus (by rw [List.length_map]; exact h) w hm
theorem Mem.irNil {w0 w : World} {l : List HP} (h : Mem w0 l w) (n : Nat) : Mem w0 (bigE ((List.replicate n ir0).map irPart) :: l) w := by
  refine Mem.big ?_
  rw [List.map_replicate]
  exact h.bigNil _ _ n
theorem getD_rep {α : Type} {d : α} {n i : Nat} : (List.replicate n d).getD i d = d := by
  rw [List.getD_eq_getElem?_getD, List.getElem?_replicate]; split <;> rfl
theorem getD_ofset' {α : Type} {d : α} {l : List α} {i j : Nat} {x : α} (h : i < l.length) : (l.set i x).getD j d = if i = j then x else l.getD j d := by
  by_cases e : i = j
  · subst e; rw [if_pos rfl, getD_set_self' h]
  · rw [if_neg e, List.getD_eq_getElem?_getD, List.getElem?_set_ne e, ← List.getD_eq_getElem?_getD]
/-- the sources of the first k nodes -/
structure SOk (d : Dev) (N k : Nat) (es : List IR) : Prop where
  len : es.length = N
  src : ∀ i : Nat, i < k → (es.getD i ir0).xs = srcI d i
theorem s_start (d : Dev) (N : Nat) : SOk d N 0 (List.replicate N ir0) := ⟨by simp, fun i h => absurd h (by omega)⟩
theorem SOk.step {d : Dev} {N k : Nat} {es : List IR} (h : SOk d N k es) (hk : k < N) {v : Value} : SOk d N (k + 1) (es.set k (IR.mk v (srcI d k))) := by
  have hl := h.len
  refine ⟨by rw [List.length_set]; exact h.len, fun i hi => ?_⟩
  rw [getD_ofset' (by omega)]
  by_cases e : k = i
  · subst e; rw [if_pos rfl]
  · rw [if_neg e]; exact h.src i (by omega)
/-- the sinks, as far as node n's i-th source -/
structure KOk (d : Dev) (N n i : Nat) (ks : List IR) : Prop where
  len : ks.length = N
  mem : ∀ x : Nat, x < N → ∀ m : Int, m ∈ (ks.getD x ir0).xs ↔ (0 ≤ m ∧ m < n ∧ (x : Int) ∈ srcI d m) ∨ (m = n ∧ (x : Int) ∈ (srcI d n).take i)
  sz : ∀ x : Nat, x < N → (ks.getD x ir0).xs.length ≤ 16 * n + i
theorem k_start (d : Dev) (N : Nat) : KOk d N 0 0 (List.replicate N ir0) := ⟨by simp, fun x hx m => by rw [getD_rep]; simp; omega, fun x hx => by rw [getD_rep]; simp⟩
theorem KOk.step {d : Dev} {N n i : Nat} {ks : List IR} (h : KOk d N n i ks) (hi : i < (srcI d n).length) {s : Int} (hs : (srcI d n).getD i 0 = s) (h0 : 0 ≤ s) (h1 : s < N) {v : Value} : KOk d N n (i + 1) (ks.set s.toNat (IR.mk v ((ks.getD s.toNat ir0).xs ++ [(n : Int)]))) := by
  have hl := h.len
  have ht := take_snocZ hi
  refine ⟨by rw [List.length_set]; exact h.len, fun x hx m => ?_, fun x hx => ?_⟩
  · rw [getD_ofset' (by omega), ht, hs]
    by_cases e : s.toNat = x
    · rw [if_pos e]
      show m ∈ _ ++ [(n : Int)] ↔ _
      rw [List.mem_append, e, h.mem x hx m, List.mem_append, List.mem_singleton, List.mem_singleton]
      have : (x : Int) = s := by omega
      simp only [this, or_true, and_true]
      constructor
      · rintro ((h2 | ⟨h2, h3⟩) | h2)
        · exact .inl h2
        · exact .inr h2
        · exact .inr h2
      · rintro (h2 | h2)
        · exact .inl (.inl h2)
        · exact .inr h2
    · rw [if_neg e, h.mem x hx m, List.mem_append, List.mem_singleton]
      have : ¬ (x : Int) = s := by omega
      simp only [this, or_false]
  · rw [getD_ofset' (by omega)]
    split
    · have := h.sz s.toNat (by omega)
      rw [List.length_append, List.length_singleton]; omega
    · have := h.sz x hx; omega
theorem KOk.next {d : Dev} {N n i : Nat} {ks : List IR} (h : KOk d N n i ks) (hi : i = (srcI d n).length) : KOk d N (n + 1) 0 ks := by
  subst hi
  refine ⟨h.len, fun x hx m => ?_, fun x hx => ?_⟩
  · rw [h.mem x hx m, List.take_length]
    constructor
    · rintro (⟨h1, h2, h3⟩ | ⟨h1, h2⟩)
      · exact .inl ⟨h1, by omega, h3⟩
      · subst h1; exact .inl ⟨by omega, by omega, h2⟩
    · rintro (⟨h1, h2, h3⟩ | ⟨h1, h2⟩)
      · by_cases e : m = n
        · subst e; exact .inr ⟨rfl, h3⟩
        · exact .inl ⟨h1, by omega, h3⟩
      · simp at h2
  · have := h.sz x hx
    have := src_len16 d (n : Int)
    omega
/-- a graph -/
structure Gr where
  sv : Value
  kv : Value
  so : List IR
  ks : List IR
abbrev grE (b : Nat) (g : Gr) : HP := bigE [boxE b #[g.sv, g.kv] 65, irsE g.sv g.so, irsE g.kv g.ks]
structure RdsGr (w : World) (b : Nat) (g : Gr) : Prop where
  c0 : w.cell? ⟨b, 0, none⟩ = some g.sv
  c1 : w.cell? ⟨b, 1, none⟩ = some g.kv
  so : RdsIr w g.sv g.so
  ks : RdsIr w g.kv g.ks
theorem RdsGr.lt {w : World} {b : Nat} {g : Gr} (h : RdsGr w b g) : b < w.heap.size := World.block_lt_of_cell? _ _ h.c0
theorem RdsGr.below {w w' : World} {b : Nat} {g : Gr} (h : RdsGr w b g) (hb : Below w.heap.size w w') : RdsGr w' b g := ⟨(hb.cell (p := ⟨b, 0, none⟩) h.lt).trans h.c0, (hb.cell (p := ⟨b, 1, none⟩) h.lt).trans h.c1, h.so.below hb, h.ks.below hb⟩
theorem gr_rds {w0 : World} {l : List HP} {b : Nat} {g : Gr} (i : Nat) (hi : l[i]? = some (grE b g)) (w : World) (hm : Mem w0 l w) : RdsGr w b g := by
  obtain ⟨b1, -⟩ := hm.holds _ (mem_at hi)
  have c1 := (b1 _ (List.mem_cons_self)).2
  have c2 := (b1 _ (List.mem_cons_of_mem _ List.mem_cons_self)).2
  have c3 := (b1 _ (List.mem_cons_of_mem _ (List.mem_cons_of_mem _ List.mem_cons_self))).2
  have R : ∀ (v : Value) (rs : List IR), (irsE v rs).holds w → RdsIr w v rs := fun v rs h => by
    obtain ⟨d1, -⟩ := h
    have e1 := (d1 _ (List.mem_cons_self)).2
    have e2 := (d1 _ (List.mem_cons_of_mem _ List.mem_cons_self)).2
    exact ⟨rdsW_own e2, fun r hr => rdsW_own (e1.1 (irPart r) (List.mem_map.2 ⟨r, hr, rfl⟩)).2⟩
  exact ⟨(cell_of_heap c1).trans rfl, (cell_of_heap c1).trans rfl, R _ _ c2, R _ _ c3⟩
structure GrOk (d : Dev) (N : Nat) (g : Gr) : Prop where
  so : SOk d N N g.so
  ks : KOk d N N 0 g.ks
theorem src_rng {d : Dev} {k s : Int} (h : s ∈ srcI d k) : 0 ≤ s ∧ s < allI d := by
  have hk : nodeOkI d k = true := by
    apply Decidable.byContradiction
    intro hc
    rw [src_no d k hc] at h; simp at h
  obtain ⟨hd, k0, k1_o⟩ := nodeOk_rng hk
  obtain ⟨-, h0, h1⟩ := nodeOk_rng (src_loc hd k0 k1_o s h).1
  omega
structure Pn where
  b : Int
  p : Int
abbrev pn0 : Pn := ⟨0, 0⟩
def pnC (r : Pn) : List Value := [.int .i64 r.b, .int .i64 r.p]
structure Cn where
  nd : Int
  sb : Int
  sp : Int
  sv : Value
  ps : List Pn
abbrev cn0 : Cn := ⟨0, 0, 0, .slice none 0 0, []⟩
def cnC (r : Cn) : List Value := [.int .i64 r.nd, .int .i64 r.sb, .int .i64 r.sp, r.sv]
abbrev Cn.agg (r : Cn) : Value := .agg #[.int .i64 r.nd, .int .i64 r.sb, .int .i64 r.sp, r.sv]
structure RdsCn (w : World) (v : Value) (cs : List Cn) : Prop where
  row : RdsW w v 4 cs.length (cs.flatMap cnC)
  ps : ∀ c ∈ cs, RdsW w c.sv 2 c.ps.length (c.ps.flatMap pnC)
theorem RdsCn.below {w w' : World} {v : Value} {cs : List Cn} (h : RdsCn w v cs) (hb : Below w.heap.size w w') : RdsCn w' v cs := ⟨h.row.below hb, fun r hr => (h.ps r hr).below hb⟩
theorem RdsCn.at {w : World} {v : Value} {cs : List Cn} (h : RdsCn w v cs) {k : Nat} (hk : k < cs.length) : RdsW w (cs.getD k cn0).sv 2 (cs.getD k cn0).ps.length ((cs.getD k cn0).ps.flatMap pnC) := h.ps _ (getD_mem' hk)
structure PnOk (n : Int) (b p : Int) : Prop where
  b0 : 0 ≤ b
  b1 : b ≤ n - 1
  p0 : 0 ≤ p
  p1 : p ≤ 4
/-- the nodes of the sinks -/
def snkL (d : Dev) (pl : List Int) (ps : List Pn) (k : Nat) : List Int := (ps.take k).map fun q => inPinI d (pl.getD q.b.toNat 0) q.p
theorem take_snocP {α : Type} {l : List α} {k : Nat} (d : α) (h : k < l.length) : l.take (k + 1) = l.take k ++ [l.getD k d] := by
  rw [List.take_succ_eq_append_getElem h, List.getD_eq_getElem?_getD, List.getElem?_eq_getElem h]; rfl
theorem snk_step (d : Dev) (pl : List Int) {ps : List Pn} {k : Nat} (h : k < ps.length) : snkL d pl ps k ++ [inPinI d (pl.getD (ps.getD k pn0).b.toNat 0) (ps.getD k pn0).p] = snkL d pl ps (k + 1) := by
  unfold snkL; rw [take_snocP pn0 h, List.map_append]; rfl
theorem snk_len (d : Dev) (pl : List Int) {ps : List Pn} {k : Nat} (h : k ≤ ps.length) : (snkL d pl ps k).length = k := by simp [snkL]; omega
/-- block of one-cell elements of which v shows n, from some place on -/
def rowQ (e : Nat) (v : Value) (n : Nat) (xs : List Value) : HP := ⟨fun k => v.ownBlock = some k, fun w => xs.length = n ∧ ∃ g off cap cur, v = .slice (some ⟨g, off, none⟩) n cap ∧ w.heap[g]? = some (.cells cur e (0, 0)) ∧ n ≤ cap ∧ cap ≤ maxLen ∧ off + cap ≤ cur.size ∧ (cur.toList.drop off).take n = xs⟩
theorem rowQ_ok (e : Nat) (v : Value) (n : Nat) (xs : List Value) : (rowQ e v n xs).Ok := fun w w' hs hb ⟨hl, g, off, cap, cur, hv, hg, h⟩ => ⟨hl, g, off, cap, cur, hv, (hb g (by subst hv; rfl)).trans hg, h⟩
theorem Mem.toQ {w0 w : World} {l : List HP} {e n : Nat} {v : Value} {xs : List Value} (hn : 0 < n) (h : Mem w0 (rowE e 1 v n xs :: l) w) : Mem w0 (rowQ e v n xs :: l) w := by
  have hown : w.ownsRow 0 e 1 v n xs := h.holds _ List.mem_cons_self
  refine h.turn rfl rfl rfl (Nat.le_refl _) (fun b _ _ => rfl) (rowQ_ok _ _ _ _) (fun b hf => .inl hf) (fun b hf => (h.new _ List.mem_cons_self b hf).2) ?_
  obtain ⟨hl, hc⟩ := hown
  rcases hc with ⟨rfl, h0⟩ | ⟨g, cap, cur, rfl, -, hg, h1, h2, h3, h4⟩
  · omega
  · exact ⟨by omega, g, 0, cap, cur, rfl, hg, h1, h2, by omega, by simpa using h4⟩
theorem slQ {g off n cap : Nat} (h : n + 1 ≤ cap) : ∃ off', slV (.slice (some ⟨g, off, none⟩) (n + 1) cap) 1 (n + 1) 1 = .slice (some ⟨g, off', none⟩) n (cap - 1) ∧ (off' = off + 1 ∨ (cap = 1 ∧ off' = off)) := by
  show ∃ off', sliced (some ⟨g, off, none⟩) 1 (n + 1) cap 1 = _ ∧ _
  unfold sliced
  by_cases e : cap = 1
  · exact ⟨off, by rw [if_pos e]; simp, .inr ⟨e, rfl⟩⟩
  · refine ⟨off + 1, ?_, .inl rfl⟩
    rw [if_neg e, Option.map_some, add_lit]
    simp
theorem Mem.tailQ {w0 w : World} {l : List HP} {e n m : Nat} {v : Value} {xs : List Value} (hm : m = n + 1) (h : Mem w0 (rowQ e v m xs :: l) w) : Mem w0 (rowQ e (slV v 1 m 1) n (xs.drop 1) :: l) w := by
  subst hm
  obtain ⟨hl, g, off, cap, cur, rfl, hg, h1, h2, h3, h4⟩ := h.holds _ List.mem_cons_self
  obtain ⟨off', hv, ho⟩ := slQ (g := g) (off := off) h1
  rw [hv]
  refine h.turn rfl rfl rfl (Nat.le_refl _) (fun b _ _ => rfl) (rowQ_ok _ _ _ _) (fun b hf => .inl hf) (fun b hf => (h.new _ List.mem_cons_self b hf).2) ?_
  refine ⟨by rw [List.length_drop]; omega, g, off', cap - 1, cur, rfl, hg, by omega, by omega, by omega, ?_⟩
  rcases ho with rfl | ⟨rfl, rfl⟩
  · rw [← h4, List.drop_take, List.drop_drop]; simp
  · have : n = 0 := by omega
    subst this
    rw [List.take_zero]
    have : xs.drop 1 = [] := List.drop_eq_nil_of_le (by omega)
    rw [this]
theorem rdsW_Q {w : World} {e n : Nat} {v : Value} {xs : List Value} (h : (rowQ e v n xs).holds w) : RdsW w v 1 n xs := by
  obtain ⟨hl, g, off, cap, cur, rfl, hg, h1, h2, h3, h4⟩ := h
  refine ⟨_, _, rfl, by omega, ⟨by unfold maxLen at h2; omega, h1⟩, fun _ => ⟨g, off, rfl, fun j u hj => ?_⟩⟩
  rw [cell_of_heap hg]
  have hlt : j < n := by rw [← hl]; exact (List.getElem?_eq_some_iff.1 hj).1
  rw [← h4, List.getElem?_take, if_pos hlt, List.getElem?_drop] at hj
  simpa using hj
theorem rd_Q {w0 : World} {l : List HP} {e n : Nat} {v : Value} {xs : List Value} (i : Nat) (hi : l[i]? = some (rowQ e v n xs)) : Rd w0 l v 1 n xs := fun w hm => rdsW_Q (hm.holds _ (mem_at hi))
theorem app_queue {P : Program} (w : World) {t ty e : TypeId} {i : TypeInfo} {z : Value} (ht : P.underlying t = some (.slice e)) (hi : P.info? e = some i) (hz : i.zero = some z) (hsize : i.size = 1) (hby : i.bytes ≤ 1000) (hzs : z.cells.size = 1)
    {v : Value} {n : Nat} {xs : List Value} (hown : (rowQ e v n xs).holds w) (a : Addr) (c : Nat) (x : Value) (hx : w.cell? (a.add 0) = some x) (h1 : x.oneCell' = true) (hn : n + 1 ≤ 100000000000) :
    ∃ v' w', (Builtin.append_ #[t, t] ty #[v, .slice (some a) 1 c]).run P w = .ok v' w' ∧ (rowQ e v' (n + 1) (xs ++ [x])).holds w' ∧ w.grownBy w' v.ownBlock ∧ (v'.ownBlock = v.ownBlock ∨ v'.ownBlock = some w.heap.size) := by
  obtain ⟨hl, g, off, cap, cur, rfl, hg, hc1, hc2, hc3, hc4⟩ := hown
  have hnews : ∀ j u, [x][j]? = some u → w.cell? (a.add j) = some u := fun j u hj => by
    cases j with
    | zero => simp at hj; subst hj; exact hx
    | succ j => simp at hj
  have hone : ∀ u ∈ [x], u.oneCell' = true := fun u hu => by rw [List.mem_singleton] at hu; subst hu; exact h1
  have hlen : (xs ++ [x]).length = n + 1 := by rw [List.length_append, List.length_singleton, hl]
  by_cases hroom : n + 1 ≤ cap
  · have hlt : off + n < cur.size := by omega
    have hr := run_append_room_cells (P := P) w t ty e i ht hi g off n cap a 1 c [x] (by rw [hsize]; rfl) hnews hone hroom
      (fun j hj => by
        have : j = 0 := by simpa using hj
        subst this
        rw [cell_of_heap hg, hsize]
        simp; omega)
      (fun j hj => by
        have : j = 0 := by simpa using hj
        subst this
        exact frozen_of_heap hg)
    refine ⟨_, _, hr, ⟨hlen, g, off, cap, cur.setIfInBounds (off + n) x, rfl, ?_, hroom, hc2, by rw [Array.size_setIfInBounds]; exact hc3, ?_⟩, ⟨?_, ?_, ?_, ?_, fun k _ hk => ?_⟩, .inl rfl⟩
    · rw [hsize, Nat.mul_one]
      exact heap_setCell_same w g (off + n) cur e x hg
    · have e1 : (cur.setIfInBounds (off + n) x).toList = cur.toList.set (off + n) x := by simp
      rw [e1, List.drop_set, if_neg (by omega), show off + n - off = n by omega]
      have hdl : n < (cur.toList.drop off).length := by rw [List.length_drop, Array.length_toList]; omega
      rw [List.take_succ_eq_append_getElem (by rw [List.length_set]; exact hdl), List.take_set_of_le (Nat.le_refl _), hc4]
      simp
    · rfl
    · rfl
    · rfl
    · rw [hsize, Nat.mul_one]
      show w.heap.size ≤ (w.setCell ⟨g, off + n, none⟩ x).heap.size
      simp
    · rw [hsize, Nat.mul_one]
      exact heap_setCell_other w ⟨g, off + n, none⟩ k x (fun e => hk (by simp [Value.ownBlock, e]))
  · have holds : ∀ j u, xs[j]? = some u → w.cell? ((⟨g, off, none⟩ : Addr).add j) = some u := fun j u hj => by
      rw [add_lit, cell_of_heap hg]
      have hlt : j < n := by rw [← hl]; exact (List.getElem?_eq_some_iff.1 hj).1
      rw [← hc4, List.getElem?_take, if_pos hlt, List.getElem?_drop] at hj
      simpa using hj
    have hbytes : (n + 1) * i.bytes ≤ 140737488355328 := by have := Nat.mul_le_mul hn hby; omega
    have hr := run_append_grow (P := P) w t ty e i z ht hi hz ⟨g, off, none⟩ n cap xs (by rw [hsize]; omega) holds a 1 c [x] (by rw [hsize]; rfl) hnews (by omega) (by omega) (growslice_fits (by omega) hbytes)
    have hge := grownCap_ge w (n + 1) cap e
    have hcm : grownCap w (n + 1) cap e ≤ maxLen := grownCap_le_maxLen w (n + 1) cap e (by unfold maxLen; omega)
    refine ⟨_, _, hr, ⟨hlen, w.heap.size, 0, _, _, rfl, heap_alloc_new w.drew _, hge, hcm, ?_, ?_⟩, ⟨rfl, rfl, rfl, by simp, fun k hk _ => heap_alloc_old w.drew _ hk⟩, .inr rfl⟩
    · simp only [Array.size_append, List.size_toArray, size_zeroCells, hzs, List.length_append, List.length_singleton]
      omega
    · simp only [Array.toList_append, List.drop_zero]
      rw [← hlen]
      exact List.take_left
section
variable {P : Program} {N : Nat} {w0 : World} {l : List HP} {env : List (Nat × Value)} {o : Oper} {ops : Array Oper} {rest : List Oper} {Q : Post} {d : Nat}
theorem hl_appendQ {t e bytes n i : Nat} {x y : Operand} {v u z q : Value} {xs : List Value} (hd : o.dst = some d) (hN : Nat.blt d N = true) (hw : want ops env o.guard = some true) (ho : o.op = .call { callee := .builtin .append, args := #[x, y], argTypes := #[t, t] })
    (hu : P.underlying t = some (.slice e)) (hinf : (P.info? e).map (fun i => (i.zero, i.size, i.bytes)) = some (some z, 1, bytes)) (hzs : (Nat.beq z.cells.size 1 && Nat.blt 0 1 && Nat.ble bytes 1000) = true)
    (hx : ev env x = some v) (hy : ev env y = some u) (hi : l[i]? = some (rowQ e v n xs)) (hr : Rd w0 l u 1 1 [q]) (h1 : q.oneCell' = true) (hnm : n + 1 ≤ 100000000000)
    {n' : Nat} {xs' : List Value} (hn' : n + 1 = n') (hx' : xs ++ [q] = xs') {L : Value → List HP} (hL : ∀ v', l.set i (rowQ e v' n' xs') = L v')
    (k : ∀ v', HL P N ops w0 (L v') ((d, v') :: env) rest Q) : HL P N ops w0 l env (o :: rest) Q := fun a w st => wpList_step fun K hK => by
  rw [if_pos (st.wanted hw)]
  unfold Oper.wp
  obtain ⟨inf, hi', hz, hs, hby⟩ := info_parts hinf
  simp only [Bool.and_eq_true, Nat.beq_eq, Nat.blt_eq, Nat.ble_eq] at hzs
  obtain ⟨⟨hz1, hz2⟩, hz3⟩ := hzs
  obtain ⟨ad, cap, rfl, hl, hm, hc⟩ := hr w st.mem
  obtain ⟨b, off, rfl, hc'⟩ := hc (by omega)
  obtain ⟨v', w', e1, e2, e3, e4⟩ := app_queue (P := P) w (ty := o.type) hu hi' hz hs (by omega) hz1 (st.mem.holds _ (mem_at hi)) ⟨b, off, none⟩ cap q (by rw [add_lit]; exact hc' 0 q rfl) h1 hnm
  have hrr : (execOp a.eval o).run P w = .ok (.value v') w' := by
    simp only [execOp, ho, resolve, invoke, builtin, Sem.run_bind, Sem.run_pure, Result.andThen_ok, List.map_toArray, List.map_cons, List.map_nil, st.eval hx, st.eval hy, e1]
  rw [hrr, Oper.upon_value, hd]
  subst hn' hx'
  have hm2 : Mem w0 (l.set i (rowQ e v' (n + 1) (xs ++ [q]))) w' := st.mem.turnAt hi e3.os e3.tape e3.output e3.size (fun k hk hf => e3.block k hk (fun e => hf e.symm)) (rowQ_ok _ _ _ _) (fun k hk => by
    have hk' : v'.ownBlock = some k := hk
    rcases e4 with h5 | h5
    · exact .inl (show v.ownBlock = some k from h5 ▸ hk')
    · rw [h5] at hk'; cases hk'; exact .inr (Nat.le_refl _)) (fun k hk => by
    obtain ⟨-, g2, off2, cap2, cur2, hv2, hg2, -⟩ := e2
    have hk' : v'.ownBlock = some k := hk
    rw [hv2] at hk'
    have : g2 = k := by simpa [Value.ownBlock] using hk'
    subst this
    exact (Array.getElem?_eq_some_iff.1 hg2).1) e2
  refine hK _ _ (k v' _ _ (st.put hN ?_))
  rw [← hL]
  exact hm2
end
theorem reachN_memS {d : Dev} {t dir s : Int} (h0 : 1 ≤ s) : ∀ j : Nat, s ≤ j → stepI d t dir s ∈ reachN d t dir j
  | 0, h => by omega
  | j + 1, h => by
    unfold reachN
    by_cases e : s = j + 1
    · subst e; exact List.mem_append_right _ (List.mem_singleton.2 rfl)
    · exact List.mem_append_left _ (reachN_memS h0 j (by omega))
/-- a wire between the two sides -/
def crossB (d : Dev) (low : Int → Bool) (n : Int) : Bool := isWireI d n && (reachS d n).any fun t => low (n / perI d) != low t
def crL (d : Dev) (low : Int → Bool) (k : Nat) : List Int := ((List.range k).map fun i : Nat => (i : Int)).filter (crossB d low)
theorem crL_yes {d : Dev} {low : Int → Bool} {k : Nat} (h : crossB d low (k : Int) = true) : crL d low k ++ [(k : Int)] = crL d low (k + 1) := by
  unfold crL; rw [List.range_succ, List.map_append, List.filter_append, List.map_singleton, List.filter_cons_of_pos h]; rfl
theorem crL_no {d : Dev} {low : Int → Bool} {k : Nat} (h : crossB d low (k : Int) = false) : crL d low k = crL d low (k + 1) := by
  unfold crL; rw [List.range_succ, List.map_append, List.filter_append, List.map_singleton, List.filter_cons_of_neg (by rw [h]; decide)]; simp
theorem crL_len (d : Dev) (low : Int → Bool) (k : Nat) : (crL d low k).length ≤ k := by
  unfold crL; have := List.length_filter_le (crossB d low) ((List.range k).map fun i : Nat => (i : Int)); simpa using this
theorem crL_mem {d : Dev} {low : Int → Bool} {k : Nat} {x : Int} : x ∈ crL d low k ↔ (0 ≤ x ∧ x < k) ∧ crossB d low x = true := by
  unfold crL
  rw [List.mem_filter, List.mem_map]
  constructor
  · rintro ⟨⟨i, hi, rfl⟩, h⟩; rw [List.mem_range] at hi; exact ⟨by omega, h⟩
  · rintro ⟨⟨h0, h1⟩, h⟩; exact ⟨⟨x.toNat, by rw [List.mem_range]; omega, by omega⟩, h⟩
theorem crL_sorted (d : Dev) (low : Int → Bool) (k : Nat) : (crL d low k).Pairwise (· < ·) := by
  unfold crL
  refine List.Pairwise.sublist (List.filter_sublist) ?_
  rw [List.pairwise_map]
  exact List.pairwise_lt_range.imp (fun h => by omega)
theorem crL_wire {d : Dev} {low : Int → Bool} {k : Nat} {x : Int} (h : x ∈ crL d low k) : isWireI d x = true ∧ 0 ≤ x ∧ x < k := by
  obtain ⟨h1, h2⟩ := crL_mem.1 h
  unfold crossB at h2
  rw [Bool.and_eq_true] at h2
  exact ⟨h2.1, h1⟩
/-- a source that is no crossing wire lies on the side of what it feeds -/
theorem side_step {d : Dev} {low : Int → Bool} {x n : Int} (hx : x ∈ srcI d n) (hc : crossB d low x = false) : low (x / perI d) = low (n / perI d) := by
  have hk : nodeOkI d n = true := by
    apply Decidable.byContradiction
    intro hc
    rw [src_no d n hc] at hx; simp at hx
  obtain ⟨hd, n0, n1⟩ := nodeOk_rng hk
  obtain ⟨hxo, hl⟩ := src_loc hd n0 n1 x hx
  rcases hl with ⟨_, _, e, _⟩ | ⟨h7, s, s0, s1, e, _⟩
  · rw [e]
  · unfold crossB at hc
    have hw : isWireI d x = true := by unfold isWireI; rw [hxo, decide_eq_true h7]; rfl
    rw [hw, Bool.true_and, Bool.eq_false_iff] at hc
    rw [← e]
    apply Decidable.byContradiction
    intro hne
    refine hc (List.any_eq_true.2 ⟨_, ?_, bne_iff_ne.2 hne⟩)
    unfold reachS
    rw [if_pos ⟨hxo, h7⟩]
    exact reachN_memS s0 _ (by omega)
/-- what the walk has seen -/
structure SepInv (d : Dev) (N : Nat) (ws : List Int) (src : Int) (bs : List Bl) (td : List Int) : Prop where
  len : bs.length = N
  tdo : ∀ x ∈ td, ((0 ≤ x ∧ x < N) ∧ ¬ x ∈ ws) ∧ (bs.getD x.toNat bl0).b = true
  wal : ∀ x ∈ ws, 0 ≤ x ∧ x < N ∧ (bs.getD x.toNat bl0).b = true
  side : ∀ low : Int → Bool, (∀ x : Int, 0 ≤ x → x < N → crossB d low x = true → x ∈ ws) → ∀ x : Int, 0 ≤ x → x < N → (bs.getD x.toNat bl0).b = true → ¬ x ∈ ws → low (x / perI d) = low (src / perI d)
def cntF : List Bl → Nat
  | [] => 0
  | b :: bs => (if b.b then 0 else 1) + cntF bs
theorem cntF_set : ∀ (bs : List Bl) (j : Nat) (c : Bl), j < bs.length → (bs.getD j bl0).b = false → c.b = true → cntF (bs.set j c) + 1 = cntF bs
  | [], j, c, h, _, _ => by simp at h
  | b :: bs, 0, c, _, h, hc => by
    have hb : b.b = false := h
    simp only [List.set_cons_zero, cntF, hb, hc]; simp; omega
  | b :: bs, j + 1, c, h, h2, hc => by
    have := cntF_set bs j c (by simpa using h) h2 hc
    simp only [List.set_cons_succ, cntF]; omega
theorem cntF_le : ∀ bs : List Bl, cntF bs ≤ bs.length
  | [] => Nat.le_refl _
  | b :: bs => by have := cntF_le bs; simp only [cntF, List.length_cons]; split <;> omega
theorem bl_set {bs : List Bl} {j : Nat} {c : Bl} (hj : j < bs.length) {k : Nat} : (bs.set j c).getD k bl0 = if j = k then c else bs.getD k bl0 := getD_ofset' hj
theorem SepInv.more {d : Dev} {N : Nat} {ws : List Int} {src x n : Int} {bs : List Bl} {td rest : List Int} {c : Bl} (h : SepInv d N ws src bs td) (hseen : (bs.getD x.toNat bl0).b = true) (hx : (0 ≤ x ∧ x < N) ∧ ¬ x ∈ ws) (hn0 : 0 ≤ n) (hn1 : n < N) (hs : x ∈ srcI d n) (hnw : ¬ n ∈ ws) (hc : c.b = true) : SepInv d N ws src (bs.set n.toNat c) (td ++ [n]) := by
  have hl := h.len
  refine ⟨by rw [List.length_set]; exact hl, fun y hy => ?_, fun y hy => ?_, fun low hlow y y0 y1 hb hw => ?_⟩
  · rcases List.mem_append.1 hy with hy | hy
    · refine ⟨(h.tdo y hy).1, ?_⟩
      rw [bl_set (by omega)]; split
      · exact hc
      · exact (h.tdo y hy).2
    · rw [List.mem_singleton] at hy; subst hy
      exact ⟨⟨⟨hn0, hn1⟩, hnw⟩, by rw [bl_set (by omega), if_pos rfl]; exact hc⟩
  · obtain ⟨a, b, e⟩ := h.wal y hy
    refine ⟨a, b, ?_⟩
    rw [bl_set (by omega)]; split
    · exact hc
    · exact e
  · rw [bl_set (by omega)] at hb
    by_cases e : n.toNat = y.toNat
    · have : y = n := by omega
      subst this
      have hxc : crossB d low x = false := by
        rw [Bool.eq_false_iff]; intro hcx; exact hx.2 (hlow x hx.1.1 hx.1.2 hcx)
      rw [← side_step hs hxc]
      exact h.side low hlow x hx.1.1 hx.1.2 hseen hx.2
    · rw [if_neg e] at hb
      exact h.side low hlow y y0 y1 hb hw
theorem SepInv.tail {d : Dev} {N : Nat} {ws : List Int} {src : Int} {bs : List Bl} {td : List Int} (h : SepInv d N ws src bs td) : SepInv d N ws src bs (td.drop 1) := ⟨h.len, fun x hx => h.tdo x (List.mem_of_mem_drop hx), h.wal, h.side⟩
theorem sep_start {d : Dev} {N : Nat} {ws : List Int} {src : Int} {bs : List Bl} {c : Bl} (hc : c.b = true) (hwr : ∀ x ∈ ws, 0 ≤ x ∧ x < N) (hl : bs.length = N) (hb : ∀ x : Int, 0 ≤ x → x < N → ((bs.getD x.toNat bl0).b = true ↔ x ∈ ws)) (h0 : 0 ≤ src) (h1 : src < N) (hw : ¬ src ∈ ws) : SepInv d N ws src (bs.set src.toNat c) [src] := by
  refine ⟨by rw [List.length_set]; exact hl, fun y hy => ?_, fun y hy => ?_, fun low hlow y y0 y1 hb2 hw2 => ?_⟩
  · rw [List.mem_singleton] at hy; subst hy; exact ⟨⟨⟨h0, h1⟩, hw⟩, by rw [bl_set (by omega), if_pos rfl]; exact hc⟩
  · obtain ⟨a, b⟩ := hwr y hy
    refine ⟨a, b, ?_⟩
    rw [bl_set (by omega)]; split
    · exact hc
    · exact (hb y a b).2 hy
  · rw [bl_set (by omega)] at hb2
    by_cases e : src.toNat = y.toNat
    · have : y = src := by omega
      rw [this]
    · rw [if_neg e] at hb2; exact absurd ((hb y y0 y1).1 hb2) hw2
theorem SepInv.apart {d : Dev} {N : Nat} {ws : List Int} {src t : Int} {bs : List Bl} {td : List Int} {low : Int → Bool} (h : SepInv d N ws src bs td) (hlow : ∀ x : Int, 0 ≤ x → x < N → crossB d low x = true → x ∈ ws) (t0 : 0 ≤ t) (t1 : t < N) (hw : ¬ t ∈ ws) (hne : low (src / perI d) ≠ low (t / perI d)) : (bs.getD t.toNat bl0).b = false := by
  rw [Bool.eq_false_iff]
  intro hb
  exact hne (h.side low hlow t t0 t1 hb hw).symm
/-- the marks of the wires -/
structure WsM (N : Nat) (ws : List Int) (i : Nat) (bs : List Bl) : Prop where
  len : bs.length = N
  mks : ∀ x : Int, 0 ≤ x → x < N → ((bs.getD x.toNat bl0).b = true ↔ x ∈ ws.take i)
theorem wsm_start (N : Nat) (ws : List Int) : WsM N ws 0 (List.replicate N bl0) := ⟨by simp, fun x x0 x1 => by rw [getD_rep]; simp⟩
theorem WsM.more {N : Nat} {ws : List Int} {i : Nat} {bs : List Bl} {c : Bl} (h : WsM N ws i bs) (hi : i < ws.length) (hr : 0 ≤ ws.getD i 0 ∧ ws.getD i 0 < N) (hc : c.b = true) : WsM N ws (i + 1) (bs.set (ws.getD i 0).toNat c) := by
  have hl := h.len
  refine ⟨by rw [List.length_set]; exact hl, fun x x0 x1 => ?_⟩
  rw [bl_set (by omega), take_snocZ hi, List.mem_append, List.mem_singleton]
  by_cases e : (ws.getD i 0).toNat = x.toNat
  · rw [if_pos e]; exact ⟨fun _ => .inr (by omega), fun _ => hc⟩
  · rw [if_neg e, h.mks x x0 x1]
    exact ⟨.inl, fun h => h.resolve_right (fun e2 => e (by rw [e2]))⟩
theorem cross_some {d : Dev} {low : Int → Bool} {t dir : Int} (ht : tOk d t = true) (r0 : 0 ≤ dir) (r1 : dir ≤ 3) (hs : 0 ≤ stepI d t dir 1) (hne : low t ≠ low (stepI d t dir 1)) : 0 < (crL d low (allI d).toNat).length := by
  obtain ⟨hd, t0, t1⟩ := (tOk_iff _ _).1 ht
  obtain ⟨-, -, ⟨l1, l2⟩, -⟩ := (devB_iff d).1 hd
  have hs' : 0 ≤ stepI d t dir (1 + 0 % 2) := hs
  obtain ⟨v0, v1, v2, v3, v4, v5, v6⟩ := wire_parts ht r0 r1 (show (0 : Int) ≤ 0 by omega) (show (0 : Int) ≤ d.T - 1 by omega) hs'
  refine List.length_pos_of_mem (crL_mem.2 ⟨⟨v0, by omega⟩, ?_⟩ : wireN d t dir 0 ∈ _)
  unfold crossB
  have hw : isWireI d (wireN d t dir 0) = true := by unfold isWireI; rw [v6, decide_eq_true v3]; rfl
  rw [hw, Bool.true_and]
  refine List.any_eq_true.2 ⟨stepI d t dir 1, ?_, ?_⟩
  · unfold reachS
    rw [if_pos ⟨v6, v3⟩, v2, v4, v5]
    show _ ∈ reachN d t dir 1
    exact reachN_memS (Int.le_refl _) 1 (by omega)
  · rw [v2]; exact bne_iff_ne.2 hne
theorem col_some {d : Dev} (hd : devB d = true) {x : Int} (h0 : 0 ≤ x) (h1 : x ≤ d.W - 2) : 0 < (crL d (fun t => decide (t % d.W ≤ x)) (allI d).toNat).length := by
  obtain ⟨⟨a1, a2⟩, ⟨b1, b2⟩, -, -⟩ := (devB_iff d).1 hd
  obtain ⟨e1, e2⟩ := xy_of (W := d.W) (x := x) (y := 0) (by omega) h0 (by omega)
  obtain ⟨e3, e4⟩ := xy_of (W := d.W) (x := x + 1) (y := 0) (by omega) (by omega) (by omega)
  have hst : stepI d (0 * d.W + x) 0 1 = 0 * d.W + (x + 1) := by
    unfold stepI
    rw [e1, e2, if_pos ⟨inR_true (by simp [dX]; omega) (by simp [dX]; omega), inR_true (by simp [dY]) (by simp [dY]; omega)⟩]
    simp [dX, dY]
  refine cross_some (t := 0 * d.W + x) (dir := 0) (tile_bounds hd h0 (by omega) (by omega) (by omega)) (by omega) (by omega) (by rw [hst]; omega) ?_
  rw [hst]
  show decide ((0 * d.W + x) % d.W ≤ x) ≠ decide ((0 * d.W + (x + 1)) % d.W ≤ x)
  rw [e1, e3, decide_eq_true (Int.le_refl _), decide_eq_false (by omega)]
  decide
theorem row_some {d : Dev} (hd : devB d = true) {y : Int} (h0 : 0 ≤ y) (h1 : y ≤ d.H - 2) : 0 < (crL d (fun t => decide (t / d.W ≤ y)) (allI d).toNat).length := by
  obtain ⟨⟨a1, a2⟩, ⟨b1, b2⟩, -, -⟩ := (devB_iff d).1 hd
  obtain ⟨e1, e2⟩ := xy_of (W := d.W) (x := 0) (y := y) (by omega) (Int.le_refl _) (by omega)
  obtain ⟨e3, e4⟩ := xy_of (W := d.W) (x := 0) (y := y + 1) (by omega) (Int.le_refl _) (by omega)
  have hst : stepI d (y * d.W + 0) 1 1 = (y + 1) * d.W + 0 := by
    unfold stepI
    rw [e1, e2, if_pos ⟨inR_true (by simp [dX]) (by simp [dX]; omega), inR_true (by simp [dY]; omega) (by simp [dY]; omega)⟩]
    simp [dX, dY]
  have hp : 0 ≤ (y + 1) * d.W := Int.mul_nonneg (by omega) (by omega)
  refine cross_some (t := y * d.W + 0) (dir := 1) (tile_bounds hd (Int.le_refl _) (by omega) h0 (by omega)) (by omega) (by omega) (by rw [hst]; omega) ?_
  rw [hst]
  show decide ((y * d.W + 0) / d.W ≤ y) ≠ decide (((y + 1) * d.W + 0) / d.W ≤ y)
  rw [e2, e4, decide_eq_true (Int.le_refl _), decide_eq_false (by omega)]
  decide
theorem crossB_nw {d : Dev} {low : Int → Bool} {n : Int} (h : isWireI d n = false) : crossB d low n = false := by unfold crossB; rw [h]; rfl
theorem crossB_yes {d : Dev} {low : Int → Bool} {n : Int} {j : Nat} (h : isWireI d n = true) (hj : j < (reachS d n).length) (hne : (low (n / perI d) != low ((reachS d n).getD j 0)) = true) : crossB d low n = true := by
  unfold crossB
  rw [h, Bool.true_and]
  exact List.any_eq_true.2 ⟨_, getD_memZ hj, hne⟩
theorem crossB_no {d : Dev} {low : Int → Bool} {n : Int} (hno : ∀ j, j < (reachS d n).length → (low (n / perI d) != low ((reachS d n).getD j 0)) = false) : crossB d low n = false := by
  unfold crossB
  have : ((reachS d n).any fun t => low (n / perI d) != low t) = false := by
    rw [List.any_eq_false]
    intro x hx
    obtain ⟨j, hj, rfl⟩ := mem_getD hx
    rw [hno j hj]; decide
  rw [this, Bool.and_false]
theorem stepI_half {d : Dev} {t dir : Int} (ht : tOk d t = true) (r0 : 0 ≤ dir) (r1 : dir ≤ 3) (h : 0 ≤ stepI d t dir 2) : 0 ≤ stepI d t dir 1 := by
  obtain ⟨hd, t0, t1⟩ := (tOk_iff _ _).1 ht
  obtain ⟨x0, x1, y0, y1, -⟩ := tile_xy hd t0 (by omega)
  obtain ⟨⟨a1, a2⟩, ⟨b1, b2⟩, -, -⟩ := (devB_iff d).1 hd
  unfold stepI at h
  split at h
  · rename_i hc
    obtain ⟨c1, c2⟩ := hc
    obtain ⟨e1, e2⟩ := (inR_iff _ _ _).1 c1
    obtain ⟨e3, e4⟩ := (inR_iff _ _ _).1 c2
    have hx : 0 ≤ t % d.W + dX dir 1 ∧ t % d.W + dX dir 1 ≤ d.W - 1 := by
      have : dir = 0 ∨ dir = 1 ∨ dir = 2 ∨ dir = 3 := by omega
      rcases this with rfl | rfl | rfl | rfl <;> simp [dX] at e1 e2 ⊢ <;> omega
    have hy : 0 ≤ t / d.W + dY dir 1 ∧ t / d.W + dY dir 1 ≤ d.H - 1 := by
      have : dir = 0 ∨ dir = 1 ∨ dir = 2 ∨ dir = 3 := by omega
      rcases this with rfl | rfl | rfl | rfl <;> simp [dY] at e3 e4 ⊢ <;> omega
    unfold stepI
    rw [if_pos ⟨inR_true hx.1 hx.2, inR_true hy.1 hy.2⟩]
    have := Int.mul_nonneg hy.1 (show 0 ≤ d.W by omega)
    omega
  · omega
theorem reach_tile {d : Dev} {n : Int} (h : isWireI d n = true) {j : Nat} (hj : j < (reachS d n).length) : 0 ≤ (reachS d n).getD j 0 ∧ (reachS d n).getD j 0 < d.W * d.H := by
  obtain ⟨hd, n0, n1, h7, hno⟩ := isWire_rng h
  obtain ⟨p0, p1, p2, p3, p4⟩ := place_rng hd n0 n1
  obtain ⟨g0, g1, g2, g3⟩ := wire_rng hd h7 p3
  have hk := hno
  rw [nodeOk_in hd (inR_true n0 n1), nodeB_wire h7, decide_eq_true_eq] at hk
  have hrs : reachS d n = reachN d (n / perI d) ((n % perI d - 7) / d.T) (1 + (n % perI d - 7) % d.T % 2).toNat := if_pos ⟨hno, h7⟩
  have hrl : (reachS d n).length = (1 + (n % perI d - 7) % d.T % 2).toNat := by rw [hrs, reachN_len]
  rw [hrs, reach_get _ _ _ _ _ (by omega)]
  have h0 : 0 ≤ stepI d (n / perI d) ((n % perI d - 7) / d.T) ((j : Int) + 1) := by
    by_cases e : (j : Int) + 1 = 1 + (n % perI d - 7) % d.T % 2
    · rw [e]; exact hk
    · have e2 : (1 : Int) + (n % perI d - 7) % d.T % 2 = 2 := by omega
      have e3 : (j : Int) + 1 = 1 := by omega
      rw [e3]; rw [e2] at hk; exact stepI_half p4 g0 g1 hk
  have hb := (stepI_back p4 g0 g1 (by omega) (by omega) h0).2
  obtain ⟨-, b1, b2⟩ := (tOk_iff _ _).1 hb
  exact ⟨b1, by omega⟩
/-- the wires tell the two nodes apart -/
def SepQ (d : Dev) (ws : List Int) (s t : Int) : Prop := ∃ low : Int → Bool, (∀ x : Int, 0 ≤ x → x < allI d → crossB d low x = true → x ∈ ws) ∧ low (s / perI d) ≠ low (t / perI d)
theorem SepInv.says {d : Dev} {ws : List Int} {src t : Int} {bs : List Bl} {td : List Int} {b : Bool} (h : SepInv d (allI d).toNat ws src bs td) (t0 : 0 ≤ t) (t1 : t < allI d) (hb : b = false → (bs.getD t.toNat bl0).b = true ∧ ¬ t ∈ ws) : SepQ d ws src t → b = true := by
  rintro ⟨low, hl, hne⟩
  cases b with
  | true => rfl
  | false =>
    obtain ⟨h1, h2⟩ := hb rfl
    have := h.apart (low := low) (t := t) (fun x x0 x1 hx => hl x x0 (by omega) hx) t0 (by omega) h2 hne
    rw [this] at h1; exact absurd h1 (by decide)
theorem Mem.tailI {w0 w : World} {l : List HP} {e : Nat} {v : Value} {q : List Int} (hq : 0 < q.length) (h : Mem w0 (rowQ e v q.length (q.map (Value.int .i64)) :: l) w) : Mem w0 (rowQ e (slV v (1 : Int).toNat q.length 1) (q.drop 1).length ((q.drop 1).map (Value.int .i64)) :: l) w := by
  have := h.tailQ (n := (q.drop 1).length) (by rw [List.length_drop]; omega)
  rw [List.map_drop]; exact this
theorem flat_ones {α : Type} (f : α → List Value) (xs : List α) (h : ∀ r u, u ∈ f r → u.oneCell' = true) : ∀ q ∈ xs.flatMap f, q.oneCell' = true := fun q hq => by
  obtain ⟨r, -, h2⟩ := List.mem_flatMap.1 hq
  exact h r q h2
theorem sinks_mem {d : Dev} {N : Nat} {g : Gr} (h : GrOk d N g) {x n : Int} (hx0 : 0 ≤ x) (hx1 : x < N) (hn : n ∈ (g.ks.getD x.toNat ir0).xs) : 0 ≤ n ∧ n < N ∧ x ∈ srcI d n := by
  have h1 := (h.ks.mem x.toNat (by omega) n).1 hn
  rw [Int.toNat_of_nonneg hx0] at h1
  rcases h1 with h1 | ⟨_, h2⟩
  · exact h1
  · simp at h2
section
variable {P : Program} {N : Nat} {w0 : World} {l : List HP} {env : List (Nat × Value)} {o : Oper}
theorem run_eql_sn (w : World) (t e : TypeId) (a : Option Addr) (l c : Nat) (h : P.underlying t = some (.slice e)) : (binOp .eql t (.slice a l c) (.slice none 0 0)).run P w = .ok (.bool a.isNone) w := by
  simp only [binOp]
  simp [run_equal_slice_nil w t e a l c h]
theorem rv_eqlNil {t t' e : TypeId} {x y : Operand} {v : Value} {s n : Nat} {cs : List Value} (ho : o.op = .binOp .eql t x y t') (hu : P.underlying t = some (.slice e)) (hx : ev env x = some v) (hy : ev env y = some (.slice none 0 0)) (hr : Rd w0 l v s n cs) (hn : 0 < n) : RunV P N w0 l env o (.bool false) := fun a w st => by
  obtain ⟨ad, cap, rfl, hl, hm, hc⟩ := hr w st.mem
  obtain ⟨b, off, rfl, -⟩ := hc hn
  have h := run_eql_sn (P := P) w t e (some ⟨b, off, none⟩) n cap hu
  simp [execOp, ho, st.eval hx, st.eval hy, eqGuard, h]
end
set_option maxHeartbeats 4000000 in
set_option maxRecDepth 100000 in
theorem btoi_t  (w : World)  :
  Calls Try.prog 11 #[.bool true] w (Ans w (.int .i64 1)) := by
 refine calls_hc (N := 4) (args := [.bool true]) Try.func11 rfl rfl ?_
 refine hc_less _ (sx 0 rfl (sub_nil _)) (.refl _) ?_
 refine hc_seq ?_
 refine hc_region ?_
 refine hl_v rfl rfl rfl (rv_ev rfl) ?_
 refine hl_less (sx 0 rfl (sx 2 rfl (sub_nil _))) (.refl _) ?_
 refine hl_nil ?_
 refine hq_then ?_
 refine hc_seq ?_
 refine hc_seq ?_
 refine hc_region ?_
 refine hl_v rfl rfl rfl (rv_ev rfl) ?_
 refine hl_less (sx 0 rfl (sx 2 rfl (sx 3 rfl (sub_nil _)))) (.refl _) ?_
 refine hl_nil ?_
 refine hq_then ?_
 refine hc_true rfl ?_
 refine hc_seq ?_
 refine hc_region ?_
 refine hl_v rfl rfl rfl (rv_ev rfl) ?_
 refine hl_less (sx 0 rfl (sx 2 rfl (sx 3 rfl (sub_nil _)))) (.refl _) ?_
 refine hl_nil ?_
 refine hq_then ?_
 refine hc_ret ?_
 refine hq_then_ret ?_
 exact hq_ans rfl rfl rfl
set_option maxHeartbeats 4000000 in
set_option maxRecDepth 100000 in
theorem btoi_f  (w : World)  :
  Calls Try.prog 11 #[.bool false] w (Ans w (.int .i64 0)) := by
 refine calls_hc (N := 4) (args := [.bool false]) Try.func11 rfl rfl ?_
 refine hc_less _ (sx 0 rfl (sub_nil _)) (.refl _) ?_
 refine hc_seq ?_
 refine hc_region ?_
 refine hl_v rfl rfl rfl (rv_ev rfl) ?_
 refine hl_less (sx 0 rfl (sx 2 rfl (sub_nil _))) (.refl _) ?_
 refine hl_nil ?_
 refine hq_then ?_
 refine hc_seq ?_
 refine hc_seq ?_
 refine hc_region ?_
 refine hl_v rfl rfl rfl (rv_ev rfl) ?_
 refine hl_less (sx 0 rfl (sx 2 rfl (sx 3 rfl (sub_nil _)))) (.refl _) ?_
 refine hl_nil ?_
 refine hq_then ?_
 refine hc_false rfl ?_
 refine hc_skip ?_
 refine hq_then ?_
 refine hc_seq ?_
 refine hc_region ?_
 refine hl_v rfl rfl rfl (rv_ev rfl) ?_
 refine hl_less (sx 0 rfl (sx 2 rfl (sx 3 rfl (sub_nil _)))) (.refl _) ?_
 refine hl_nil ?_
 refine hq_then ?_
 refine hc_ret ?_
 exact hq_ans rfl rfl rfl
set_option maxHeartbeats 4000000 in
set_option maxRecDepth 100000 in
theorem SourceNode_ans (d : Dev) (pl : List Int) (pv : Value) (c : Cn) (w : World) (hpl : RdsW w pv 1 pl.length (pl.map (Value.int .i64))) (hpn : pl.length ≤ 64) (hs : PnOk pl.length c.sb c.sp) (h1 : c.sv.oneCell' = true) :
  Calls Try.prog 30 #[.agg #[.int .i64 d.W, .int .i64 d.H, .int .i64 d.T, .int .i64 d.R], pv, .agg #[.int .i64 c.nd, .int .i64 c.sb, .int .i64 c.sp, c.sv]] w (Ans w (.int .i64 (outPinI d (pl.getD c.sb.toNat 0) c.sp))) := by
 obtain ⟨q1, q2, q3, q4⟩ := hs
 refine calls_hc (N := 26) (args := [.agg #[.int .i64 d.W, .int .i64 d.H, .int .i64 d.T, .int .i64 d.R], pv, .agg #[.int .i64 c.nd, .int .i64 c.sb, .int .i64 c.sp, c.sv]]) Try.func30 rfl rfl ?_
 refine hc_less _ (sx 0 rfl (sx 1 rfl (sx 2 rfl (sub_nil _)))) (.refl _) ?_
 refine hc_seq ?_
 refine hc_region ?_
 refine hl_box rfl rfl rfl (rq_box rfl rfl) ?_
 intro b1
 refine hl_box rfl rfl rfl (rq_box rfl rfl) ?_
 intro b2
 refine hl_v rfl rfl rfl (rv_ev rfl) ?_
 refine hl_less (sx 0 rfl (sx 1 rfl (sx 2 rfl (sx 3 rfl (sx 5 rfl (sx 6 rfl (sub_nil _))))))) (.refl _) ?_
 refine hl_nil ?_
 refine hq_then ?_
 refine hc_seq ?_
 refine hc_seq ?_
 refine hc_region ?_
 refine hl_v rfl rfl rfl (rv_field (k0 := 1) rfl (by kernel_rfl) rfl) ?_
 refine hl_v rfl rfl rfl (rv_field (k0 := 0) rfl (by kernel_rfl) rfl) ?_
 refine hl_v rfl rfl rfl (rv_load rfl (by kernel_rfl) rfl (box_cell 0 rfl rfl)) ?_
 refine hl_v rfl rfl rfl (rv_ev rfl) ?_
 refine hl_v rfl rfl rfl (rv_len rfl Try.underlying28 rfl (rd_old hpl)) ?_
 refine hl_v rfl rfl rfl (rv_sub rfl rfl rfl (by constructor <;> omega)) ?_
 refine hl_callV rfl rfl rfl (rq_call (by kernel_rfl) rfl (fun w hm => ret_ans (ans_of (inRange_any _ _ _ w)))) ?_
 refine hl_bool (fun h3 => ?_) (fun h3 => absurd (((inr_in (by omega))).symm.trans h3) (by decide))
 refine hl_v rfl rfl rfl (rv_ev rfl) ?_
 refine hl_less (sx 0 rfl (sx 1 rfl (sx 2 rfl (sx 3 rfl (sx 5 rfl (sx 6 rfl (sx 14 rfl (sub_nil _)))))))) (.refl _) ?_
 refine hl_nil ?_
 refine hq_then ?_
 refine hc_false rfl ?_
 refine hc_skip ?_
 refine hq_then ?_
 refine hc_seq ?_
 refine hc_draw (by kernel_rfl) 11 [0, 1, 2, 3, 4, 5, 6, 7, 8, 9, 10] (List.take 11 _) (List.drop 11 _) [[], [], [], [2], [3], [1, 4], [5], [], [7], [8], [0, 6, 9]] [15, 16, 17, 18, 19, 20, 21, 22, 23, 24, 25] (fun i_ vs_ v_ p_ => match i_ with | 0 => v_ = .agg #[.int .i64 d.W, .int .i64 d.H, .int .i64 d.T, .int .i64 d.R] ∧ p_ = [] | 1 => v_ = pv ∧ p_ = [] | 2 => v_ = .pointer (some ⟨b2, 0 + 1, none⟩) ∧ p_ = [] | 3 => v_ = .pointer (some ⟨b2, 0 + 1 + 0, none⟩) ∧ p_ = [] | 4 => v_ = .int .i64 c.sb ∧ p_ = [] | 5 => v_ = elP pv ((c.sb).toNat * 1) ∧ p_ = [] | 6 => v_ = .int .i64 (pl.getD ((c.sb).toNat) 0) ∧ p_ = [] | 7 => v_ = .pointer (some ⟨b2, 0 + 1, none⟩) ∧ p_ = [] | 8 => v_ = .pointer (some ⟨b2, 0 + 1 + 1, none⟩) ∧ p_ = [] | 9 => v_ = .int .i64 c.sp ∧ p_ = [] | 10 => v_ = .int .i64 (outPinI d (pl.getD ((c.sb).toNat) 0) c.sp) ∧ p_ = [] | _ => True) (List.take_append_drop 11 _).symm (by kernel_rfl) (by kernel_rfl) rfl rfl ?_ ?_
 ·
  refine ⟨?_, ?_, ?_, ?_, ?_, ?_, ?_, ?_, ?_, ?_, ?_, trivial⟩
  ·
   intro vf pf hR
   refine Or.inl ⟨rfl, ?_⟩
   refine rq_less (sx 3 rfl (sub_nil _)) (List.sublist_append_right _ _) ?_
   exact rq_v (rv_loadN (cs := [.int .i64 d.W, .int .i64 d.H, .int .i64 d.T, .int .i64 d.R]) rfl (by kernel_rfl) (by kernel_rfl) rfl rfl (box_part 1 rfl 0 rfl))
  ·
   intro vf pf hR
   refine Or.inl ⟨rfl, ?_⟩
   refine rq_less (sx 1 rfl (sub_nil _)) (List.sublist_append_right _ _) ?_
   exact rq_v (rv_ev rfl)
  ·
   intro vf pf hR
   refine Or.inl ⟨rfl, ?_⟩
   refine rq_less (sx 5 rfl (sub_nil _)) (List.sublist_append_right _ _) ?_
   exact rq_v (rv_field (k0 := 1) rfl (by kernel_rfl) rfl)
  ·
   intro vf pf hR
   have e2 : (vf 2) = .pointer (some ⟨b2, 0 + 1, none⟩) ∧ (pf 2) = [] := hR 2 (by decide)
   refine Or.inl ⟨rfl, ?_⟩
   refine rq_less (sx 17 (congrArg some e2.1) (sub_nil _)) (List.sublist_append_right _ _) ?_
   exact rq_v (rv_field (k0 := 0) rfl (by kernel_rfl) rfl)
  ·
   intro vf pf hR
   have e3 : (vf 3) = .pointer (some ⟨b2, 0 + 1 + 0, none⟩) ∧ (pf 3) = [] := hR 3 (by decide)
   refine Or.inl ⟨rfl, ?_⟩
   refine rq_less (sx 18 (congrArg some e3.1) (sub_nil _)) (List.sublist_append_right _ _) ?_
   exact rq_v (rv_load rfl (by kernel_rfl) rfl (box_cell 0 rfl rfl))
  ·
   intro vf pf hR
   have e1 : (vf 1) = pv ∧ (pf 1) = [] := hR 1 (by decide)
   have e4 : (vf 4) = .int .i64 c.sb ∧ (pf 4) = [] := hR 4 (by decide)
   refine Or.inl ⟨rfl, ?_⟩
   refine rq_less (sx 16 (congrArg some e1.1) (sx 19 (congrArg some e4.1) (sub_nil _))) (List.sublist_append_right _ _) ?_
   exact rq_v (rv_index (s := 1) rfl Try.underlying28 (by kernel_rfl) rfl rfl (rd_old hpl) (by omega) (by first | omega | (simp only [List.length_set]; omega)))
  ·
   intro vf pf hR
   have e5 : (vf 5) = elP pv ((c.sb).toNat * 1) ∧ (pf 5) = [] := hR 5 (by decide)
   refine Or.inl ⟨rfl, ?_⟩
   refine rq_less (sx 20 (congrArg some e5.1) (sub_nil _)) (List.sublist_append_right _ _) ?_
   exact rq_v (rv_loadEl (u := .int .i64 (pl.getD ((c.sb).toNat) 0)) rfl (by kernel_rfl) rfl (rd_old hpl) (ints_at1 (show _ < pl.length by first | omega | (simp only [List.length_set]; omega))))
  ·
   intro vf pf hR
   refine Or.inl ⟨rfl, ?_⟩
   refine rq_less (sx 5 rfl (sub_nil _)) (List.sublist_append_right _ _) ?_
   exact rq_v (rv_field (k0 := 1) rfl (by kernel_rfl) rfl)
  ·
   intro vf pf hR
   have e7 : (vf 7) = .pointer (some ⟨b2, 0 + 1, none⟩) ∧ (pf 7) = [] := hR 7 (by decide)
   refine Or.inl ⟨rfl, ?_⟩
   refine rq_less (sx 22 (congrArg some e7.1) (sub_nil _)) (List.sublist_append_right _ _) ?_
   exact rq_v (rv_field (k0 := 1) rfl (by kernel_rfl) rfl)
  ·
   intro vf pf hR
   have e8 : (vf 8) = .pointer (some ⟨b2, 0 + 1 + 1, none⟩) ∧ (pf 8) = [] := hR 8 (by decide)
   refine Or.inl ⟨rfl, ?_⟩
   refine rq_less (sx 23 (congrArg some e8.1) (sub_nil _)) (List.sublist_append_right _ _) ?_
   exact rq_v (rv_load rfl (by kernel_rfl) rfl (box_cell 0 rfl rfl))
  ·
   intro vf pf hR
   have e0 : (vf 0) = .agg #[.int .i64 d.W, .int .i64 d.H, .int .i64 d.T, .int .i64 d.R] ∧ (pf 0) = [] := hR 0 (by decide)
   have e6 : (vf 6) = .int .i64 (pl.getD ((c.sb).toNat) 0) ∧ (pf 6) = [] := hR 6 (by decide)
   have e9 : (vf 9) = .int .i64 c.sp ∧ (pf 9) = [] := hR 9 (by decide)
   refine Or.inl ⟨rfl, ?_⟩
   refine rq_less (sx 15 (congrArg some e0.1) (sx 21 (congrArg some e6.1) (sx 24 (congrArg some e9.1) (sub_nil _)))) (List.sublist_append_right _ _) ?_
   exact (rq_call (by kernel_rfl) rfl (fun w hm => ret_ans (outPin_ans d (pl.getD ((c.sb).toNat) 0) c.sp w (by omega) (by omega))))
 ·
  intro vf pf hR
  have e10 : (vf 10) = .int .i64 (outPinI d (pl.getD ((c.sb).toNat) 0) c.sp) ∧ (pf 10) = [] := hR 10 (by decide)
  refine hl_less (l' := [boxE b2 #[.int .i64 c.nd, .int .i64 c.sb, .int .i64 c.sp, c.sv] 33, boxE b1 #[.int .i64 d.W, .int .i64 d.H, .int .i64 d.T, .int .i64 d.R] 25]) (sx 0 rfl (sx 1 rfl (sx 2 rfl (sx 3 rfl (sx 5 rfl (sx 6 rfl (sx 14 rfl (sx 25 (congrArg some e10.1) (sub_nil _))))))))) (List.sublist_append_right _ _) ?_
  simp only [List.drop_succ_cons, List.drop_zero]
  refine hl_v rfl rfl rfl (rv_ev rfl) ?_
  refine hl_less (sx 0 rfl (sx 1 rfl (sx 2 rfl (sx 3 rfl (sx 5 rfl (sx 6 rfl (sx 14 rfl (sub_nil _)))))))) (.refl _) ?_
  refine hl_nil ?_
  refine hq_then ?_
  refine hc_ret ?_
  exact hq_ans rfl rfl rfl
set_option maxHeartbeats 4000000 in
set_option maxRecDepth 100000 in
theorem SinkNodes_ret (d : Dev) (pl : List Int) (pv : Value) (c : Cn) (w : World) (hpl : RdsW w pv 1 pl.length (pl.map (Value.int .i64))) (hpn : pl.length ≤ 64) (hc : RdsW w c.sv 2 c.ps.length (c.ps.flatMap pnC)) (hcl : c.ps.length ≤ 120) (hok : ∀ k, k < c.ps.length → PnOk pl.length (c.ps.getD k pn0).b (c.ps.getD k pn0).p) (hin : ∀ k, k < c.ps.length → 0 ≤ inPinI d (pl.getD (c.ps.getD k pn0).b.toNat 0) (c.ps.getD k pn0).p) :
  Calls Try.prog 31 #[.agg #[.int .i64 d.W, .int .i64 d.H, .int .i64 d.T, .int .i64 d.R], pv, .agg #[.int .i64 c.nd, .int .i64 c.sb, .int .i64 c.sp, c.sv]] w (Ret w (fun v' post => post = [rowE 3 1 v' (snkL d pl c.ps c.ps.length).length ((snkL d pl c.ps c.ps.length).map (Value.int .i64))])) := by
 refine calls_hc (N := 42) (args := [.agg #[.int .i64 d.W, .int .i64 d.H, .int .i64 d.T, .int .i64 d.R], pv, .agg #[.int .i64 c.nd, .int .i64 c.sb, .int .i64 c.sp, c.sv]]) Try.func31 rfl rfl ?_
 refine hc_less _ (sx 0 rfl (sx 1 rfl (sx 2 rfl (sub_nil _)))) (.refl _) ?_
 refine hc_seq ?_
 refine hc_region ?_
 refine hl_box rfl rfl rfl (rq_box rfl rfl) ?_
 intro b1
 refine hl_box rfl rfl rfl (rq_box rfl rfl) ?_
 intro b2
 refine hl_v rfl rfl rfl (rv_ev rfl) ?_
 refine hl_less (sx 0 rfl (sx 1 rfl (sx 2 rfl (sx 3 rfl (sx 5 rfl (sx 6 rfl (sub_nil _))))))) (.refl _) ?_
 refine hl_nil ?_
 refine hq_then ?_
 refine hc_seq ?_
 refine hc_region ?_
 refine hl_nilRow 3 1 ?_
 refine hl_v rfl rfl rfl (rv_ev rfl) ?_
 refine hl_less (sx 0 rfl (sx 1 rfl (sx 2 rfl (sx 3 rfl (sx 5 rfl (sx 6 rfl (sx 7 rfl (sub_nil _)))))))) (.refl _) ?_
 refine hl_nil ?_
 refine hq_then ?_
 refine hc_seq ?_
 refine hc_seq ?_
 refine hc_region ?_
 refine hl_v rfl rfl rfl (rv_field (k0 := 3) rfl (by kernel_rfl) rfl) ?_
 refine hl_v rfl rfl rfl (rv_load rfl (by kernel_rfl) rfl (box_cell 1 rfl rfl)) ?_
 refine hl_v rfl rfl rfl (rv_len rfl Try.underlying31 rfl (rd_old hc)) ?_
 refine hl_v rfl rfl rfl (rv_ev rfl) ?_
 refine hl_less (sx 0 rfl (sx 1 rfl (sx 2 rfl (sx 3 rfl (sx 5 rfl (sx 6 rfl (sx 7 rfl (sx 12 rfl (sx 13 rfl (sx 14 rfl (sub_nil _))))))))))) (.refl _) ?_
 refine hl_nil ?_
 refine hq_then ?_
 refine hc_block ?_
 refine hc_loop3 (α := Nat) (β := Value) (γ := List Int) (fun i u zs => [rowE 3 1 u zs.length (zs.map (Value.int .i64)), boxE b2 #[.int .i64 c.nd, .int .i64 c.sb, .int .i64 c.sp, c.sv] 33, boxE b1 #[.int .i64 d.W, .int .i64 d.H, .int .i64 d.T, .int .i64 d.R] 25]) (fun i u zs => [(0, .agg #[.int .i64 d.W, .int .i64 d.H, .int .i64 d.T, .int .i64 d.R]), (1, pv), (2, .agg #[.int .i64 c.nd, .int .i64 c.sb, .int .i64 c.sp, c.sv]), (3, .pointer (some ⟨b1, 0, none⟩)), (5, .pointer (some ⟨b2, 0, none⟩)), (6, .slice none 0 0), (7, u), (12, c.sv), (13, .int .i64 (c.ps.length : Int)), (14, .int .i64 (i : Int))]) (fun i u zs => i ≤ c.ps.length ∧ zs = snkL d pl c.ps i) (fun i u zs => c.ps.length - i) 0 _ [] ⟨by omega, rfl⟩ (sx 0 rfl (sx 1 rfl (sx 2 rfl (sx 3 rfl (sx 5 rfl (sx 6 rfl (sx 7 rfl (sx 12 rfl (sx 13 rfl (sx 14 rfl (sub_nil _))))))))))) ((.cons_cons _ (.cons_cons _ (.cons_cons _ .slnil)))) ?_
 intro i u zs hi4
 obtain ⟨hi, hz⟩ := hi4
 have hzl : zs.length = i := by rw [hz, snk_len _ _ hi]
 refine hc_seq ?_
 refine hc_region ?_
 refine hl_lss rfl rfl rfl rfl rfl rfl (fun h5 => ?_) (fun h5 => ?_)
 ·
  refine hl_less (sx 0 rfl (sx 1 rfl (sx 2 rfl (sx 3 rfl (sx 5 rfl (sx 6 rfl (sx 7 rfl (sx 12 rfl (sx 13 rfl (sx 14 rfl (sx 15 rfl (sub_nil _)))))))))))) (.refl _) ?_
  refine hl_nil ?_
  refine hq_then ?_
  refine hc_seq ?_
  refine hc_true rfl ?_
  refine hc_skip ?_
  refine hq_then ?_
  refine hc_seq ?_
  refine hc_block ?_
  refine hc_seq ?_
  refine hc_region ?_
  refine hl_v rfl rfl rfl (rv_index (s := 2) rfl Try.underlying31 (by kernel_rfl) rfl rfl (rd_old hc) (by omega) (by first | omega | (simp only [List.length_set]; omega))) ?_
  refine hl_v rfl rfl rfl (rv_loadElN (us := [.int .i64 ((c.ps.getD i pn0).b), .int .i64 ((c.ps.getD i pn0).p)]) rfl (by kernel_rfl) (by kernel_rfl) rfl (rd_old hc) (by omega) rfl (flat_atN pnC 2 (fun _ => rfl) c.ps pn0 (show i < _ by first | omega | (simp only [List.length_set]; omega)) rfl)) ?_
  refine hl_box rfl rfl rfl (rq_alloc (z := .agg #[.int .i64 0, .int .i64 0]) rfl (by kernel_rfl)) ?_
  intro b6
  refine hl_storeBoxN (i := 0) (off := 0) (us := [.int .i64 ((c.ps.getD i pn0).b), .int .i64 ((c.ps.getD i pn0).p)]) (l' := [boxE b6 #[.int .i64 ((c.ps.getD i pn0).b), .int .i64 ((c.ps.getD i pn0).p)] 30, rowE 3 1 u zs.length (zs.map (Value.int .i64)), boxE b2 #[.int .i64 c.nd, .int .i64 c.sb, .int .i64 c.sp, c.sv] 33, boxE b1 #[.int .i64 d.W, .int .i64 d.H, .int .i64 d.T, .int .i64 d.R] 25]) rfl rfl rfl (by kernel_rfl) rfl rfl rfl (all_cons rfl (all_cons rfl all_nil)) rfl rfl rfl ?_
  refine hl_less (sx 0 rfl (sx 1 rfl (sx 2 rfl (sx 3 rfl (sx 5 rfl (sx 6 rfl (sx 7 rfl (sx 9 rfl (sx 12 rfl (sx 13 rfl (sx 14 rfl (sx 15 rfl (sub_nil _))))))))))))) (.refl _) ?_
  refine hl_nil ?_
  refine hq_then ?_
  refine hc_seq ?_
  refine hc_seq ?_
  refine hc_region ?_
  obtain ⟨p1, p2, p3, p4⟩ := hok i (by omega)
  have hi9 := hin i (by omega)
  refine hl_v rfl rfl rfl (rv_field (k0 := 0) rfl (by kernel_rfl) rfl) ?_
  refine hl_v rfl rfl rfl (rv_load rfl (by kernel_rfl) rfl (box_cell 0 rfl rfl)) ?_
  refine hl_v rfl rfl rfl (rv_ev rfl) ?_
  refine hl_v rfl rfl rfl (rv_len rfl Try.underlying28 rfl (rd_old hpl)) ?_
  refine hl_v rfl rfl rfl (rv_sub rfl rfl rfl (by constructor <;> omega)) ?_
  refine hl_callV rfl rfl rfl (rq_call (by kernel_rfl) rfl (fun w hm => ret_ans (ans_of (inRange_any _ _ _ w)))) ?_
  refine hl_bool (fun h7 => ?_) (fun h7 => absurd (((inr_in (by omega))).symm.trans h7) (by decide))
  refine hl_v rfl rfl rfl (rv_ev rfl) ?_
  refine hl_less (sx 0 rfl (sx 1 rfl (sx 2 rfl (sx 3 rfl (sx 5 rfl (sx 6 rfl (sx 7 rfl (sx 9 rfl (sx 12 rfl (sx 13 rfl (sx 14 rfl (sx 15 rfl (sx 24 rfl (sub_nil _)))))))))))))) (.refl _) ?_
  refine hl_nil ?_
  refine hq_then ?_
  refine hc_false rfl ?_
  refine hc_skip ?_
  refine hq_then ?_
  refine hc_seq ?_
  refine hc_draw (by kernel_rfl) 9 [0, 1, 2, 3, 4, 5, 6, 7, 8] (List.take 9 _) (List.drop 9 _) [[], [], [], [2], [1, 3], [4], [], [6], [0, 5, 7]] [25, 26, 27, 28, 29, 30, 31, 32, 33] (fun i_ vs_ v_ p_ => match i_ with | 0 => v_ = .agg #[.int .i64 d.W, .int .i64 d.H, .int .i64 d.T, .int .i64 d.R] ∧ p_ = [] | 1 => v_ = pv ∧ p_ = [] | 2 => v_ = .pointer (some ⟨b6, 0 + 0, none⟩) ∧ p_ = [] | 3 => v_ = .int .i64 ((c.ps.getD i pn0).b) ∧ p_ = [] | 4 => v_ = elP pv (((c.ps.getD i pn0).b).toNat * 1) ∧ p_ = [] | 5 => v_ = .int .i64 (pl.getD (((c.ps.getD i pn0).b).toNat) 0) ∧ p_ = [] | 6 => v_ = .pointer (some ⟨b6, 0 + 1, none⟩) ∧ p_ = [] | 7 => v_ = .int .i64 ((c.ps.getD i pn0).p) ∧ p_ = [] | 8 => v_ = .int .i64 (inPinI d (pl.getD (((c.ps.getD i pn0).b).toNat) 0) ((c.ps.getD i pn0).p)) ∧ p_ = [] | _ => True) (List.take_append_drop 9 _).symm (by kernel_rfl) (by kernel_rfl) rfl rfl ?_ ?_
  ·
   refine ⟨?_, ?_, ?_, ?_, ?_, ?_, ?_, ?_, ?_, trivial⟩
   ·
    intro vf pf hR
    refine Or.inl ⟨rfl, ?_⟩
    refine rq_less (sx 3 rfl (sub_nil _)) (List.sublist_append_right _ _) ?_
    exact rq_v (rv_loadN (cs := [.int .i64 d.W, .int .i64 d.H, .int .i64 d.T, .int .i64 d.R]) rfl (by kernel_rfl) (by kernel_rfl) rfl rfl (box_part 3 rfl 0 rfl))
   ·
    intro vf pf hR
    refine Or.inl ⟨rfl, ?_⟩
    refine rq_less (sx 1 rfl (sub_nil _)) (List.sublist_append_right _ _) ?_
    exact rq_v (rv_ev rfl)
   ·
    intro vf pf hR
    refine Or.inl ⟨rfl, ?_⟩
    refine rq_less (sx 9 rfl (sub_nil _)) (List.sublist_append_right _ _) ?_
    exact rq_v (rv_field (k0 := 0) rfl (by kernel_rfl) rfl)
   ·
    intro vf pf hR
    have e2 : (vf 2) = .pointer (some ⟨b6, 0 + 0, none⟩) ∧ (pf 2) = [] := hR 2 (by decide)
    refine Or.inl ⟨rfl, ?_⟩
    refine rq_less (sx 27 (congrArg some e2.1) (sub_nil _)) (List.sublist_append_right _ _) ?_
    exact rq_v (rv_load rfl (by kernel_rfl) rfl (box_cell 0 rfl rfl))
   ·
    intro vf pf hR
    have e1 : (vf 1) = pv ∧ (pf 1) = [] := hR 1 (by decide)
    have e3 : (vf 3) = .int .i64 ((c.ps.getD i pn0).b) ∧ (pf 3) = [] := hR 3 (by decide)
    refine Or.inl ⟨rfl, ?_⟩
    refine rq_less (sx 26 (congrArg some e1.1) (sx 28 (congrArg some e3.1) (sub_nil _))) (List.sublist_append_right _ _) ?_
    exact rq_v (rv_index (s := 1) rfl Try.underlying28 (by kernel_rfl) rfl rfl (rd_old hpl) (by omega) (by first | omega | (simp only [List.length_set]; omega)))
   ·
    intro vf pf hR
    have e4 : (vf 4) = elP pv (((c.ps.getD i pn0).b).toNat * 1) ∧ (pf 4) = [] := hR 4 (by decide)
    refine Or.inl ⟨rfl, ?_⟩
    refine rq_less (sx 29 (congrArg some e4.1) (sub_nil _)) (List.sublist_append_right _ _) ?_
    exact rq_v (rv_loadEl (u := .int .i64 (pl.getD (((c.ps.getD i pn0).b).toNat) 0)) rfl (by kernel_rfl) rfl (rd_old hpl) (ints_at1 (show _ < pl.length by first | omega | (simp only [List.length_set]; omega))))
   ·
    intro vf pf hR
    refine Or.inl ⟨rfl, ?_⟩
    refine rq_less (sx 9 rfl (sub_nil _)) (List.sublist_append_right _ _) ?_
    exact rq_v (rv_field (k0 := 1) rfl (by kernel_rfl) rfl)
   ·
    intro vf pf hR
    have e6 : (vf 6) = .pointer (some ⟨b6, 0 + 1, none⟩) ∧ (pf 6) = [] := hR 6 (by decide)
    refine Or.inl ⟨rfl, ?_⟩
    refine rq_less (sx 31 (congrArg some e6.1) (sub_nil _)) (List.sublist_append_right _ _) ?_
    exact rq_v (rv_load rfl (by kernel_rfl) rfl (box_cell 0 rfl rfl))
   ·
    intro vf pf hR
    have e0 : (vf 0) = .agg #[.int .i64 d.W, .int .i64 d.H, .int .i64 d.T, .int .i64 d.R] ∧ (pf 0) = [] := hR 0 (by decide)
    have e5 : (vf 5) = .int .i64 (pl.getD (((c.ps.getD i pn0).b).toNat) 0) ∧ (pf 5) = [] := hR 5 (by decide)
    have e7 : (vf 7) = .int .i64 ((c.ps.getD i pn0).p) ∧ (pf 7) = [] := hR 7 (by decide)
    refine Or.inl ⟨rfl, ?_⟩
    refine rq_less (sx 25 (congrArg some e0.1) (sx 30 (congrArg some e5.1) (sx 32 (congrArg some e7.1) (sub_nil _)))) (List.sublist_append_right _ _) ?_
    exact (rq_call (by kernel_rfl) rfl (fun w hm => ret_ans (inPin_ans d (pl.getD (((c.ps.getD i pn0).b).toNat) 0) ((c.ps.getD i pn0).p) w (by omega) (by omega))))
  ·
   intro vf pf hR
   have e8 : (vf 8) = .int .i64 (inPinI d (pl.getD (((c.ps.getD i pn0).b).toNat) 0) ((c.ps.getD i pn0).p)) ∧ (pf 8) = [] := hR 8 (by decide)
   refine hl_less (l' := [boxE b6 #[.int .i64 ((c.ps.getD i pn0).b), .int .i64 ((c.ps.getD i pn0).p)] 30, rowE 3 1 u zs.length (zs.map (Value.int .i64)), boxE b2 #[.int .i64 c.nd, .int .i64 c.sb, .int .i64 c.sp, c.sv] 33, boxE b1 #[.int .i64 d.W, .int .i64 d.H, .int .i64 d.T, .int .i64 d.R] 25]) (sx 0 rfl (sx 1 rfl (sx 2 rfl (sx 3 rfl (sx 5 rfl (sx 6 rfl (sx 7 rfl (sx 9 rfl (sx 12 rfl (sx 13 rfl (sx 14 rfl (sx 15 rfl (sx 24 rfl (sx 33 (congrArg some e8.1) (sub_nil _))))))))))))))) (List.sublist_append_right _ _) ?_
   simp only [List.drop_succ_cons, List.drop_zero]
   refine hl_v rfl rfl rfl (rv_ev rfl) ?_
   refine hl_less (sx 0 rfl (sx 1 rfl (sx 2 rfl (sx 3 rfl (sx 5 rfl (sx 6 rfl (sx 7 rfl (sx 9 rfl (sx 10 rfl (sx 12 rfl (sx 13 rfl (sx 14 rfl (sx 15 rfl (sx 24 rfl (sub_nil _))))))))))))))) (.refl _) ?_
   refine hl_nil ?_
   refine hq_then ?_
   refine hc_seq ?_
   refine hc_seq ?_
   refine hc_region ?_
   refine hl_v rfl rfl rfl (rv_ev rfl) ?_
   refine hl_lss rfl rfl rfl rfl rfl rfl (fun h8 => absurd h8 (by omega)) (fun h8 => ?_)
   refine hl_less (sx 0 rfl (sx 1 rfl (sx 2 rfl (sx 3 rfl (sx 5 rfl (sx 6 rfl (sx 7 rfl (sx 9 rfl (sx 10 rfl (sx 12 rfl (sx 13 rfl (sx 14 rfl (sx 15 rfl (sx 24 rfl (sx 35 rfl (sub_nil _)))))))))))))))) (.refl _) ?_
   refine hl_nil ?_
   refine hq_then ?_
   refine hc_false rfl ?_
   refine hc_skip ?_
   refine hq_then ?_
   refine hc_region ?_
   refine hl_v rfl rfl rfl (rv_ev rfl) ?_
   refine hl_v rfl rfl rfl (rv_ev rfl) ?_
   refine hl_row rfl rfl rfl (rq_buildSlice (z := .int .i64 0) (s := 1) (cs := ([inPinI d (pl.getD (((c.ps.getD i pn0).b).toNat) 0) ((c.ps.getD i pn0).p)].map (Value.int .i64))) rfl Try.underlying28 (by kernel_rfl) (by decide) rfl (by kernel_rfl) rfl) ?_
   intro g9
   refine hl_append (i := 2) (z := .int .i64 0) (bytes := 8) (n' := (zs ++ ([inPinI d (pl.getD (((c.ps.getD i pn0).b).toNat) 0) ((c.ps.getD i pn0).p)])).length) (xs' := ((zs ++ ([inPinI d (pl.getD (((c.ps.getD i pn0).b).toNat) 0) ((c.ps.getD i pn0).p)])).map (Value.int .i64))) (L := fun v10 => [rowE 3 1 (.slice (some ⟨g9, 0, none⟩) 1 1) 1 ([inPinI d (pl.getD (((c.ps.getD i pn0).b).toNat) 0) ((c.ps.getD i pn0).p)].map (Value.int .i64)), boxE b6 #[.int .i64 ((c.ps.getD i pn0).b), .int .i64 ((c.ps.getD i pn0).p)] 30, rowE 3 1 v10 ((zs ++ ([inPinI d (pl.getD (((c.ps.getD i pn0).b).toNat) 0) ((c.ps.getD i pn0).p)])).length) ((zs ++ ([inPinI d (pl.getD (((c.ps.getD i pn0).b).toNat) 0) ((c.ps.getD i pn0).p)])).map (Value.int .i64)), boxE b2 #[.int .i64 c.nd, .int .i64 c.sb, .int .i64 c.sp, c.sv] 33, boxE b1 #[.int .i64 d.W, .int .i64 d.H, .int .i64 d.T, .int .i64 d.R] 25]) rfl rfl rfl rfl Try.underlying28 (by kernel_rfl) (by kernel_rfl) rfl rfl rfl (rd_row 0 rfl) (ints_one _) (by first | omega | (simp; omega)) (len_app zs ([inPinI d (pl.getD (((c.ps.getD i pn0).b).toNat) 0) ((c.ps.getD i pn0).p)])) (ints_app zs ([inPinI d (pl.getD (((c.ps.getD i pn0).b).toNat) 0) ((c.ps.getD i pn0).p)])) (fun _ => rfl) ?_
   intro v10
   refine hl_v rfl rfl rfl (rv_ev rfl) ?_
   refine hl_less (sx 0 rfl (sx 1 rfl (sx 2 rfl (sx 3 rfl (sx 5 rfl (sx 6 rfl (sx 7 rfl (sx 9 rfl (sx 10 rfl (sx 12 rfl (sx 13 rfl (sx 14 rfl (sx 15 rfl (sx 24 rfl (sx 35 rfl (sub_nil _)))))))))))))))) (.refl _) ?_
   refine hl_nil ?_
   refine hq_block_normal ?_
   refine hq_then ?_
   refine hc_region ?_
   refine hl_v rfl rfl rfl (rv_add rfl rfl rfl (by constructor <;> omega)) ?_
   refine hl_v rfl rfl rfl (rv_ev rfl) ?_
   refine hl_less (sx 0 rfl (sx 1 rfl (sx 2 rfl (sx 3 rfl (sx 5 rfl (sx 6 rfl (sx 7 rfl (sx 9 rfl (sx 10 rfl (sx 12 rfl (sx 13 rfl (sx 14 rfl (sx 15 rfl (sx 24 rfl (sx 35 rfl (sub_nil _)))))))))))))))) (.refl _) ?_
   refine hl_nil ?_
   exact hq_round3 (i + 1) v10 (zs ++ ([inPinI d (pl.getD (((c.ps.getD i pn0).b).toNat) 0) ((c.ps.getD i pn0).p)])) ⟨by omega, by rw [hz]; exact snk_step d pl (by omega)⟩ (by omega) (sx 0 rfl (sx 1 rfl (sx 2 rfl (sx 3 rfl (sx 5 rfl (sx 6 rfl (sx 7 rfl (sx 12 rfl (sx 13 rfl (sx 14 rfl (sub_nil _))))))))))) ((.cons _ (.cons _ (.cons_cons _ (.cons_cons _ (.cons_cons _ .slnil))))))
 ·
  refine hl_less (sx 0 rfl (sx 1 rfl (sx 2 rfl (sx 3 rfl (sx 5 rfl (sx 6 rfl (sx 7 rfl (sx 12 rfl (sx 13 rfl (sx 14 rfl (sx 15 rfl (sub_nil _)))))))))))) (.refl _) ?_
  refine hl_nil ?_
  refine hq_then ?_
  refine hc_seq ?_
  refine hc_false rfl ?_
  refine hc_exit ?_
  refine hq_then_exit ?_
  refine hq_then_exit ?_
  refine hq_block_exit ?_
  refine hq_then ?_
  refine hc_seq ?_
  refine hc_region ?_
  refine hl_v rfl rfl rfl (rv_ev rfl) ?_
  refine hl_v rfl rfl rfl (rv_ev rfl) ?_
  refine hl_less (sx 0 rfl (sx 1 rfl (sx 2 rfl (sx 3 rfl (sx 5 rfl (sx 6 rfl (sx 7 rfl (sx 12 rfl (sx 13 rfl (sx 14 rfl (sx 15 rfl (sub_nil _)))))))))))) (.refl _) ?_
  refine hl_nil ?_
  refine hq_then ?_
  refine hc_ret ?_
  exact hq_retR (post := [rowE 3 1 u zs.length (zs.map (Value.int .i64))]) rfl rfl ((.cons_cons _ (.cons _ (.cons _ .slnil)))) (by rw [hz, show i = c.ps.length by omega])
def tauOk4 (os : List Oper) (m K : Nat) (dps qd : List (List Nat)) (tau : List (Option Nat)) (fl : List Nat) : Bool :=
  (List.range m).all (fun i => (qd.getD i []).all (fun j => ((dps.getD i []).contains j || (Nat.ble os.length j && Nat.blt j (os.length + K))) && (List.range m).all (fun k => tau.getD k none != some j || (k != i && ((msk ((List.range os.length).map (depsOf os)) []).getD k 0).testBit i))) && decide ((qd.getD i []).Nodup)) &&
  (List.range m).all (fun i => match tau.getD i none with | none => true | some h => ((Nat.ble os.length h && Nat.blt h (os.length + K)) || (dps.getD i []).contains h) && (List.range m).all (fun k => k == i || tau.getD k none != some h)) &&
  fl.all (fun j => (Nat.blt j m || (Nat.ble os.length j && Nat.blt j (os.length + K))) && (List.range m).all (fun k => tau.getD k none != some j)) && decide fl.Nodup
section
variable {P : Program} {N : Nat} {w0 : World} {l : List HP} {env : List (Nat × Value)} {Q : Post} {os : List Oper} {m : Nat} {dps : List (List Nat)} {dsts : List (Option Nat)} {R : Nat → List Value → Value → List HP → Prop}
/-- where the quiet part stands -/
structure Mid4 (N : Nat) (w0 : World) (l : List HP) (env : List (Nat × Value)) (os : List Oper) (m : Nat) (dps : List (List Nat)) (dsts : List (Option Nat)) (R : Nat → List Value → Value → List HP → Prop) (tau : List (Option Nat)) (P0 : List (List HP)) (listed : Array Bool) (ord held : List Nat) (vf : Nat → Value) (pf : Nat → List HP) (a : Act) (w : World) : Prop where
  size : listed.size = os.length
  iff : ∀ i, i < os.length → (listed.getD i true = true ↔ i ∈ ord)
  low : ∀ i ∈ ord, i < m
  closed : ∀ i ∈ ord, ∀ j ∈ depsOf os i, j ∈ ord
  nodup : ord.Nodup
  dcl : ∀ i ∈ ord, ∀ j ∈ dps.getD i [], j ∈ ord
  rel : ∀ i ∈ ord, R i ((dps.getD i []).map vf) (vf i) (pf i)
  hn : held.Nodup
  hin : ∀ i ∈ held, i ∈ ord ∨ (os.length ≤ i ∧ i < os.length + P0.length)
  hall : ∀ i, (i ∈ ord ∨ (os.length ≤ i ∧ i < os.length + P0.length)) → (∀ j ∈ ord, tau.getD j none ≠ some i) → i ∈ held
  hP : ∀ k, k < P0.length → pf (os.length + k) = P0.getD k []
  mem : Mem w0 (held.flatMap pf ++ l) w
  asize : a.tmps.size = N
  defers : a.defers = []
  env : ∀ d v, lk env d = some v → a.tmps[d]? = some v
  slots : ∀ i ∈ ord, ∀ d, dsts[i]? = some (some d) → a.tmps[d]? = some (vf i)
theorem Mid4.st {tau P0 listed ord held vf pf a w} (h : Mid4 N w0 l env os m dps dsts R tau P0 listed ord held vf pf a w) (hm : m ≤ dsts.length) {is : List Nat} (hs : ∀ j ∈ is, j ∈ ord) {L : List HP} (hM : Mem w0 L w) : St N w0 L (envOf3 dsts vf is ++ env) a w := by
  refine ⟨hM, h.asize, h.defers, fun d v hd => ?_⟩
  rcases lk_append _ _ _ _ hd with h1 | h1
  · unfold envOf3 at h1
    rw [List.mem_filterMap] at h1
    obtain ⟨i, hi, he⟩ := h1
    rw [Option.map_eq_some_iff] at he
    obtain ⟨d', hd', he⟩ := he
    simp only [Prod.mk.injEq] at he
    obtain ⟨rfl, rfl⟩ := he
    have : dsts[i]? = some (some d') := by
      rw [List.getD_eq_getElem?_getD] at hd'
      cases hx : dsts[i]? with
      | none => rw [hx] at hd'; cases hd'
      | some y => rw [hx] at hd'; exact congrArg some hd'
    exact h.slots i (hs i hi) _ this
  · exact h.env d v h1
theorem hc_drawn4 {id : Nat} (hmix : P.follows .mixedOrders = true) (m : Nat) (dps : List (List Nat)) (dsts : List (Option Nat)) (R : Nat → List Value → Value → List HP → Prop) (qd : List (List Nat)) (tau : List (Option Nat)) (P0 : List (List HP)) (fl : List Nat) (hok : drawOk3 os m dps dsts = true) (htau : tauOk4 os m P0.length dps qd tau fl = true) (hfresh : dsts.all (fun d => match d with | some d => (lk env d).isNone | none => true) = true) (hN : dsts.all (fun d => match d with | some d => Nat.blt d N | none => true) = true)
    (due : ∀ i o, os[i]? = some o → i < m → ∀ vf pf, (∀ k, k < P0.length → pf (os.length + k) = P0.getD k []) → (∀ j ∈ dps.getD i [], R j ((dps.getD j []).map vf) (vf j) (pf j)) → Obl2 P os.toArray N w0 (tau.getD i none) pf ((qd.getD i []).flatMap pf ++ l) (envOf3 dsts vf (dps.getD i []) ++ env) o (R i ((dps.getD i []).map vf)))
    (fin : ∀ vf pf, (∀ k, k < P0.length → pf (os.length + k) = P0.getD k []) → (∀ i, i < m → R i ((dps.getD i []).map vf) (vf i) (pf i)) → HL P N os.toArray w0 (fl.flatMap pf ++ l) (envOf3 dsts vf (List.range m) ++ env) (os.drop m) Q) : HC P N w0 (P0.flatten ++ l) env (.region id os.toArray true) Q := by
  intro a w st
  refine wp_region_any hmix ?_
  simp only [drawOk3, Bool.and_eq_true, Nat.ble_eq, List.all_eq_true, List.mem_range, Bool.or_eq_true, Nat.blt_eq, beq_iff_eq, decide_eq_true_eq, Array.all_eq_true', bne_iff_ne] at hok
  obtain ⟨⟨⟨⟨⟨⟨hml, hback⟩, hcov⟩, hready⟩, hdst⟩, hdn⟩, hdp⟩ := hok
  simp only [tauOk4, Bool.and_eq_true, List.all_eq_true, List.mem_range, Bool.or_eq_true, Nat.blt_eq, Nat.ble_eq, beq_iff_eq, bne_iff_ne, decide_eq_true_eq, List.contains_iff_mem] at htau
  obtain ⟨⟨⟨hqd, hth⟩, hfl⟩, hfn⟩ := htau
  have hml' : m ≤ dsts.length := by have := congrArg List.length hdst; simp at this; omega
  have hlen : dsts.length = m := by have := congrArg List.length hdst; simp at this; omega
  have hrdy : ∀ k, m ≤ k → k < os.length → Region.ready .any os.toArray (preT os.length k) = [k] := fun k h1 h2 => by
    have := hready (k - m) (by omega)
    rw [show m + (k - m) = k by omega] at this
    exact this
  have hmsk : ∀ i j, ((msk ((List.range os.length).map (depsOf os)) []).getD i 0).testBit j = true → Dep os i j := msk_dep os _ _ (fun t ds ht d hd => by
    rw [List.getElem?_map] at ht
    by_cases h : t < os.length
    · rw [List.getElem?_range h] at ht; simp at ht; subst ht; simpa using hd
    · rw [List.getElem?_eq_none (by simp; omega)] at ht; cases ht) (fun i j h => by simp at h)
  have dstAt : ∀ i, i < m → ∀ o, os[i]? = some o → o.dst = dsts.getD i none := fun i hi o ho => by
    have h1 : ((os.take m).map (·.dst))[i]? = some o.dst := by rw [List.getElem?_map, List.getElem?_take, if_pos hi, ho]; rfl
    rw [hdst] at h1
    rw [List.getD_eq_getElem?_getD, h1]; rfl
  -- what may come up
  have key : ∀ (f : Nat) (listed : Array Bool) (ord held : List Nat) (vf : Nat → Value) (pf : Nat → List HP) (a : Act) (w : World), f + ord.length = os.length → Mid4 N w0 l env os m dps dsts R tau P0 listed ord held vf pf a w → wpAny P .any os.toArray Q f listed a w := by
    intro f
    induction f with
    | zero =>
      intro listed ord held vf pf a w hf h
      -- all are listed: m = the length
      have hall : ∀ i, i < os.length → i ∈ ord := by
        intro i hi
        have hsub : ord.Perm (List.range os.length) ∨ True := .inr trivial
        obtain ⟨r, hr⟩ := pick_perm ord (List.range os.length) h.nodup (fun j hj => by have := h.low j hj; simp; omega)
        have hl := hr.length_eq
        simp at hl
        have : r = [] := List.length_eq_zero_iff.1 (by omega)
        subst this
        have := hr.mem_iff.1 (List.mem_range.2 hi)
        simpa using this
      have hm2 : m = os.length := by
        by_cases hc : m < os.length
        · have := h.low m (hall m hc); omega
        · omega
      have hp : listed = preT os.length m := by
        apply Array.ext
        · rw [h.size, preT_size _ _ hml]
        · intro i h1 h2
          have hi : i < os.length := by rw [h.size] at h1; exact h1
          have e1 := (h.iff i hi).2 (hall i hi)
          have e2 := preT_get os.length m i hml hi
          rw [Array.getD_eq_getD_getElem?, Array.getElem?_eq_getElem h1] at e1
          rw [Array.getD_eq_getD_getElem?, Array.getElem?_eq_getElem h2] at e2
          simp only [Option.getD_some] at e1 e2
          rw [e1, e2]; simp; omega
      rw [hp]
      refine tail_any hrdy 0 m (Nat.le_refl _) (by omega) a w ?_
      exact fin vf pf h.hP (fun i hi => h.rel i (hall i (by omega))) a w (h.st hml' (fun j hj => hall j (by rw [List.mem_range] at hj; omega)) (h.mem.pick hfn (fun j hj => h.hall j ((hfl j hj).1.imp (fun hlt => hall j (by omega)) (fun x => x)) (fun k hk => (hfl j hj).2 k (h.low k hk)))))
    | succ f ih =>
      intro listed ord held vf pf a w hf h
      by_cases hall : ∀ i, i < m → i ∈ ord
      · -- the tail's turn
        have hp : listed = preT os.length m := by
          apply Array.ext
          · rw [h.size, preT_size _ _ hml]
          · intro i h1 h2
            have hi : i < os.length := by rw [h.size] at h1; exact h1
            have e1 := h.iff i hi
            have e2 := preT_get os.length m i hml hi
            rw [Array.getD_eq_getD_getElem?, Array.getElem?_eq_getElem h1] at e1
            rw [Array.getD_eq_getD_getElem?, Array.getElem?_eq_getElem h2] at e2
            simp only [Option.getD_some] at e1 e2
            rw [e2, Bool.eq_iff_iff, e1, decide_eq_true_eq]
            exact ⟨fun hx => h.low i hx, fun hx => hall i hx⟩
        have hord : ord.length = m := by
          obtain ⟨r, hr⟩ := pick_perm ord (List.range m) h.nodup (fun j hj => by have := h.low j hj; simpa using this)
          obtain ⟨r', hr'⟩ := pick_perm (List.range m) ord List.nodup_range (fun j hj => hall j (by simpa using hj))
          have h1 := hr.length_eq
          have h2 := hr'.length_eq
          simp at h1 h2
          omega
        rw [hp]
        refine tail_any hrdy (f + 1) m (Nat.le_refl _) (by omega) a w ?_
        exact fin vf pf h.hP (fun i hi => h.rel i (hall i hi)) a w (h.st hml' (fun j hj => hall j (by simpa using hj)) (h.mem.pick hfn (fun j hj => h.hall j ((hfl j hj).1.imp (fun hlt => hall j hlt) (fun x => x)) (fun k hk => (hfl j hj).2 k (h.low k hk)))))
      · -- some quiet one is not done yet
        have hsome : ∃ i, i < m ∧ i ∉ ord := by
          by_cases hx : ∃ i, i < m ∧ i ∉ ord
          · exact hx
          · exact absurd (fun i hi => Decidable.byContradiction fun hn => hx ⟨i, hi, hn⟩) hall
        have mem_rdy : ∀ i, i ∈ Region.ready .any os.toArray listed ↔ i < os.length ∧ i ∉ ord ∧ ∀ j ∈ depsOf os i, j ∈ ord := by
          intro i
          unfold Region.ready
          rw [List.mem_filter, List.mem_range]
          simp only [List.size_toArray]
          constructor
          · rintro ⟨hi, hb⟩
            rw [Bool.and_eq_true] at hb
            have hno : i ∉ ord := fun hx => by rw [(h.iff i hi).2 hx] at hb; simp at hb
            refine ⟨hi, hno, fun j hj => ?_⟩
            have ho : os.toArray[i]? = some os[i] := by simp [hi]
            rw [ho] at hb
            simp only [Option.map_some, Option.getD_some, Array.all_eq_true'] at hb
            unfold depsOf at hj
            rw [List.getElem?_eq_getElem hi] at hj
            simp only [List.mem_map, List.mem_filter] at hj
            obtain ⟨e, ⟨he, hbd⟩, rfl⟩ := hj
            have hb2 := hb.2 e (by simpa using he)
            rw [hbd] at hb2
            simp at hb2
            have hlt := hback i hi e.on (by unfold depsOf; rw [List.getElem?_eq_getElem hi]; exact List.mem_map.2 ⟨e, List.mem_filter.2 ⟨he, hbd⟩, rfl⟩)
            refine (h.iff e.on (by omega)).1 ?_
            have hs : e.on < listed.size := by rw [h.size]; omega
            rw [Array.getD_eq_getD_getElem?, Array.getElem?_eq_getElem hs] 
            simp only [Option.getD_some]
            rw [Array.getElem?_eq_getElem hs] at hb2
            simpa using hb2
          · rintro ⟨hi, hno, hd⟩
            refine ⟨hi, ?_⟩
            have ho : os.toArray[i]? = some os[i] := by simp [hi]
            rw [ho]
            simp only [Option.map_some, Option.getD_some, Bool.and_eq_true, Array.all_eq_true']
            refine ⟨?_, fun e he => ?_⟩
            · cases hb : listed.getD i true with
              | true => exact absurd ((h.iff i hi).1 hb) hno
              | false => rfl
            · rw [Bool.or_eq_true]
              by_cases hbd : Region.binds .any e = true
              rotate_left
              · left; simpa using hbd
              right
              have hon : e.on ∈ depsOf os i := by unfold depsOf; rw [List.getElem?_eq_getElem hi]; exact List.mem_map.2 ⟨e, List.mem_filter.2 ⟨by simpa using he, hbd⟩, rfl⟩
              have hlt := hback i hi e.on hon
              have := (h.iff e.on (by omega)).2 (hd e.on hon)
              have hs : e.on < listed.size := by rw [h.size]; omega
              rw [Array.getD_eq_getD_getElem?, Array.getElem?_eq_getElem hs] at this
              simp only [Option.getD_some] at this
              rw [Array.getD_eq_getD_getElem?, Array.getElem?_eq_getElem hs]
              simpa using this
        have hdep : ∀ k j, Dep os k j → (∀ d ∈ depsOf os k, d ∈ ord) → j ∈ ord := by
          intro k j hd
          induction hd with
          | one hj => intro hx; exact hx _ hj
          | more hk _ ih2 => intro hx; exact ih2 (fun d hd => h.closed _ (hx _ hk) d hd)
        have hlow : ∀ i ∈ Region.ready .any os.toArray listed, i < m := by
          intro i hi
          obtain ⟨h1, h2, h3⟩ := (mem_rdy i).1 hi
          by_cases hc : i < m
          · exact hc
          · exfalso
            obtain ⟨q, hq, hqn⟩ := hsome
            rcases hcov i h1 with h4 | h4
            · exact hc h4
            · exact hqn (hdep i q (hmsk i q (h4 q hq)) h3)
        refine ⟨fun h0 => ?_, fun i hi => ?_⟩
        · -- the least one that is not done may come up
          exfalso
          obtain ⟨q, hq, hqn⟩ := hsome
          obtain ⟨p, hp, hmin⟩ := exists_least (p := fun i => i < m ∧ i ∉ ord) ⟨q, hq, hqn⟩
          have : p ∈ Region.ready .any os.toArray listed := by
            rw [mem_rdy]
            refine ⟨by omega, hp.2, fun j hj => ?_⟩
            have hlt := hback p (by omega) j hj
            apply Decidable.byContradiction
            intro hn
            have := hmin j ⟨by omega, hn⟩
            omega
          rw [h0] at this
          cases this
        · have him := hlow i hi
          obtain ⟨h1, h2, h3⟩ := (mem_rdy i).1 hi
          have ho : os[i]? = some os[i] := List.getElem?_eq_getElem h1
          have hdps := hdp i him
          have hsub : ∀ j ∈ dps.getD i [], j ∈ ord := fun j hj => hdep i j (hmsk i j (hdps.1 j hj)) h3
          have hqi := hqd i him
          have hqheld : ∀ j ∈ qd.getD i [], j ∈ held := fun j hj => h.hall j ((hqi.1 j hj).1.imp (hsub j) (fun x => x)) (fun k hk => by
            rcases (hqi.1 j hj).2 k (h.low k hk) with h5 | ⟨-, h6⟩
            · exact h5
            · exact absurd (hdep k i (hmsk k i h6) (h.closed k hk)) h2)
          have hobl := due i os[i] ho him vf pf h.hP (fun j hj => h.rel j (hsub j hj))
          have hdd := dstAt i him _ ho
          have hdlt : ∀ d, dsts.getD i none = some d → d < N := fun d hd => by
            have := List.all_eq_true.1 hN (some d) (by rw [← hd, List.getD_eq_getElem?_getD, List.getElem?_eq_getElem (by omega)]; exact List.getElem_mem _)
            simpa [Nat.blt_eq] using this
          have hdnone : ∀ d, dsts.getD i none = some d → lk env d = none := fun d hd => by
            have := List.all_eq_true.1 hfresh (some d) (by rw [← hd, List.getD_eq_getElem?_getD, List.getElem?_eq_getElem (by omega)]; exact List.getElem_mem _)
            simpa using this
          have hne : ∀ j ∈ ord, j ≠ i := fun j hj e => h2 (e ▸ hj)
          have hneh : ∀ j ∈ held, j ≠ i := fun j hj e => by
            rcases h.hin j hj with h5 | h5
            · exact hne j h5 e
            · omega
          have next : ∀ (held' : List Nat) v post w', held'.Nodup → (∀ k ∈ held', k ∈ i :: ord ∨ (os.length ≤ k ∧ k < os.length + P0.length)) → (∀ k, (k ∈ i :: ord ∨ (os.length ≤ k ∧ k < os.length + P0.length)) → (∀ j ∈ i :: ord, tau.getD j none ≠ some k) → k ∈ held') → R i ((dps.getD i []).map vf) v post →
              Mem w0 (held'.flatMap (fun k => if k = i then post else pf k) ++ l) w' → wpAny P .any os.toArray Q f (listed.setIfInBounds i true) (a.put (dsts.getD i none) v) w' := by
            intro held' v post w' hh1 hh2 hh3 hv hm
            refine ih (listed.setIfInBounds i true) (i :: ord) held' (fun k => if k = i then v else vf k) (fun k => if k = i then post else pf k) _ w' (by simp; omega) ⟨?_, ?_, ?_, ?_, ?_, ?_, ?_, hh1, hh2, hh3, ?_, hm, ?_, ?_, ?_, ?_⟩
            · simp [h.size]
            · intro k hk
              by_cases hki : k = i
              · subst hki
                have hs : k < listed.size := by rw [h.size]; exact hk
                simp [Array.getD_eq_getD_getElem?, hs]
              · rw [getD_set_ne true (fun e => hki e.symm), h.iff k hk]
                simp [hki]
            · intro k hk; rcases List.mem_cons.1 hk with rfl | hk; exact him; exact h.low k hk
            · intro k hk j hj
              rcases List.mem_cons.1 hk with rfl | hk
              · exact List.mem_cons_of_mem _ (h3 j hj)
              · exact List.mem_cons_of_mem _ (h.closed k hk j hj)
            · exact List.nodup_cons.2 ⟨h2, h.nodup⟩
            · intro k hk j hj
              rcases List.mem_cons.1 hk with rfl | hk
              · exact List.mem_cons_of_mem _ (hsub j hj)
              · exact List.mem_cons_of_mem _ (h.dcl k hk j hj)
            · intro k hk
              rcases List.mem_cons.1 hk with rfl | hk
              · have e : (dps.getD k []).map (fun j => if j = k then v else vf j) = (dps.getD k []).map vf := List.map_congr_left fun j hj => if_neg (hne j (hsub j hj))
                rw [e, if_pos rfl, if_pos rfl]; exact hv
              · have e : (dps.getD k []).map (fun j => if j = i then v else vf j) = (dps.getD k []).map vf := List.map_congr_left fun j hj => if_neg (hne j (h.dcl k hk j hj))
                rw [e, if_neg (hne k hk), if_neg (hne k hk)]; exact h.rel k hk
            · intro k hk; rw [if_neg (by omega)]; exact h.hP k hk
            · cases hdi : dsts.getD i none <;> simp [Act.put, h.asize]
            · cases hdi : dsts.getD i none <;> exact h.defers
            · intro d u hd
              cases hdi : dsts.getD i none with
              | none => exact h.env d u hd
              | some d0 =>
                have hdne : d0 ≠ d := fun e => by rw [← e, hdnone _ hdi] at hd; cases hd
                simp only [Act.put]
                rw [Array.getElem?_setIfInBounds_ne hdne]
                exact h.env d u hd
            · intro k hk d hd
              cases hdi : dsts.getD i none with
              | none =>
                rcases List.mem_cons.1 hk with rfl | hk
                · rw [List.getD_eq_getElem?_getD, hd] at hdi; cases hdi
                · show a.tmps[d]? = _
                  rw [if_neg (hne k hk)]; exact h.slots k hk d hd
              | some d0 =>
                have hlt : d0 < a.tmps.size := by rw [h.asize]; exact hdlt _ hdi
                rcases List.mem_cons.1 hk with rfl | hk
                · have : d = d0 := by rw [List.getD_eq_getElem?_getD, hd] at hdi; exact Option.some.inj hdi
                  subst this
                  simp only [Act.put, if_true]
                  simp only [Array.getElem?_setIfInBounds_self_of_lt hlt]
                · have hdne : d0 ≠ d := by
                    intro e
                    have hk2 : k < dsts.length := (List.getElem?_eq_some_iff.1 hd).1
                    have hdk : dsts.getD k none = some d := by rw [List.getD_eq_getElem?_getD, hd]; rfl
                    rcases hdn i him k (by omega) with (hx | hx) | hx
                    · exact hne k hk hx.symm
                    · rw [hdi] at hx; cases hx
                    · exact hx (by rw [hdi, hdk, e])
                  simp only [Act.put]
                  rw [Array.getElem?_setIfInBounds_ne hdne, if_neg (hne k hk)]
                  exact h.slots k hk d hd
          unfold wpOp
          have hoa : os.toArray[i]? = some os[i] := by simp [h1]
          rw [hoa]
          simp only
          have hpost : ∀ (hs : List Nat) (post : List HP), (∀ k ∈ hs, k ≠ i) → (i :: hs).flatMap (fun k => if k = i then post else pf k) = post ++ hs.flatMap pf := fun hs post hx => by
            rw [List.flatMap_cons, if_pos rfl]
            congr 1
            rw [List.flatMap_def, List.flatMap_def]
            congr 1
            exact List.map_congr_left fun k hk => if_neg (hx k hk)
          cases ht : tau.getD i none with
          | none =>
            rw [ht] at hobl
            have hst := h.st hml' hsub (h.mem.pick hqi.2 hqheld)
            have next1 : ∀ v post w', R i ((dps.getD i []).map vf) v post → Mem w post w' → wpAny P .any os.toArray Q f (listed.setIfInBounds i true) (a.put (dsts.getD i none) v) w' := fun v post w' hv hm => by
              refine next (i :: held) v post w' (List.nodup_cons.2 ⟨fun hx => hneh i hx rfl, h.hn⟩) (fun k hk => ?_) (fun k hk hk2 => ?_) hv ?_
              · rcases List.mem_cons.1 hk with rfl | hk
                · exact .inl List.mem_cons_self
                · exact (h.hin k hk).imp (List.mem_cons_of_mem _) (fun x => x)
              · by_cases hki : k = i
                · rw [hki]; exact List.mem_cons_self
                · refine List.mem_cons_of_mem _ (h.hall k (hk.imp (fun hx => by rcases List.mem_cons.1 hx with hx | hx; exact absurd hx hki; exact hx) (fun x => x)) (fun j hj => hk2 j (List.mem_cons_of_mem _ hj)))
              · rw [hpost held post hneh, List.append_assoc]; exact h.mem.app hm
            rcases hobl with ⟨hw, hq⟩ | ⟨hw, hq⟩
            · rw [if_pos (hst.wanted hw)]
              refine .inl (hq a w hst Q _ fun v post w' hv hm => ?_)
              rw [hdd]
              exact next1 v post w' hv hm
            · rw [if_neg (by rw [hst.wanted hw]; decide), hdd]
              exact next1 undef [] w hq (Mem.refl w)
          | some hh =>
            rw [ht] at hobl
            have hth2 := hth i him
            rw [ht] at hth2
            simp only [Bool.and_eq_true, Bool.or_eq_true, Nat.ble_eq, Nat.blt_eq, beq_iff_eq, List.all_eq_true, List.mem_range, bne_iff_ne, List.contains_iff_mem] at hth2
            have hheld : hh ∈ held := h.hall hh (hth2.1.symm.imp (fun hx => hsub hh hx) (fun x => x)) (fun k hk => (hth2.2 k (h.low k hk)).resolve_left (hne k hk))
            have hperm := List.perm_cons_erase hheld
            have hmem : Mem w0 (pf hh ++ ((held.erase hh).flatMap pf ++ l)) w := by
              have := h.mem.perm ((hperm.flatMap_right pf).append_right l)
              rwa [List.flatMap_cons, List.append_assoc] at this
            have hnin : hh ∉ qd.getD i [] := fun hx => by
              rcases (hqi.1 hh hx).2 i him with h5 | ⟨h5, -⟩
              · exact h5 ht
              · exact h5 rfl
            have hconv : ∀ w, Mem w0 ((held.erase hh).flatMap pf ++ l) w → Mem w0 ((qd.getD i []).flatMap pf ++ l) w := fun w hm => hm.pick hqi.2 (fun j hj => (List.mem_erase_of_ne (fun (e : j = hh) => hnin (by rw [← e]; exact hj))).2 (hqheld j hj))
            have hst := h.st hml' hsub hmem
            have hneh2 : ∀ k ∈ held.erase hh, k ≠ i := fun k hk => hneh k (List.mem_of_mem_erase hk)
            have next2 : ∀ v post w', R i ((dps.getD i []).map vf) v post → Mem w0 (post ++ ((held.erase hh).flatMap pf ++ l)) w' → wpAny P .any os.toArray Q f (listed.setIfInBounds i true) (a.put (dsts.getD i none) v) w' := fun v post w' hv hm => by
              refine next (i :: held.erase hh) v post w' (List.nodup_cons.2 ⟨fun hx => hneh2 i hx rfl, h.hn.erase hh⟩) (fun k hk => ?_) (fun k hk hk2 => ?_) hv ?_
              · rcases List.mem_cons.1 hk with rfl | hk
                · exact .inl List.mem_cons_self
                · exact (h.hin k (List.mem_of_mem_erase hk)).imp (List.mem_cons_of_mem _) (fun x => x)
              · by_cases hki : k = i
                · rw [hki]; exact List.mem_cons_self
                · have hkh : k ≠ hh := fun e => hk2 i List.mem_cons_self (by rw [ht, e])
                  exact List.mem_cons_of_mem _ ((List.mem_erase_of_ne hkh).2 (h.hall k (hk.imp (fun hx => by rcases List.mem_cons.1 hx with hx | hx; exact absurd hx hki; exact hx) (fun x => x)) (fun j hj => hk2 j (List.mem_cons_of_mem _ hj))))
              · rw [hpost _ post hneh2, List.append_assoc]; exact hm
            rcases hobl with ⟨hw, hq⟩ | ⟨hw, hq⟩
            · rw [if_pos (hst.wanted hw)]
              refine .inl (hq _ hconv a w hst Q _ fun v post w' hv hm => ?_)
              rw [hdd]
              exact next2 v post w' hv hm
            · rw [if_neg (by rw [hst.wanted hw]; decide), hdd]
              exact next2 undef (pf hh) w hq hmem
  refine key os.length (Array.replicate os.length false) [] ((List.range P0.length).map (os.length + ·)) (fun _ => undef) (fun k => if os.length ≤ k then P0.getD (k - os.length) [] else []) a _ (by simp) ⟨by simp, ?_, by simp, by simp, by simp, by simp, by simp, ?_, ?_, ?_, ?_, ?_, st.size, st.defers, st.env, by simp⟩
  · intro i hi; simp [hi]
  · exact nodup_shift _ _
  · intro i hi
    simp only [List.mem_map, List.mem_range] at hi
    obtain ⟨k, hk, rfl⟩ := hi
    exact .inr ⟨by omega, by omega⟩
  · rintro i (hi | ⟨h1, h2⟩) _
    · cases hi
    · simp only [List.mem_map, List.mem_range]; exact ⟨i - os.length, by omega, by omega⟩
  · intro k hk; rw [if_pos (by omega), Nat.add_sub_cancel_left]
  · have e : ((List.range P0.length).map (os.length + ·)).flatMap (fun k => if os.length ≤ k then P0.getD (k - os.length) [] else []) = P0.flatten := by
      rw [List.flatMap_map]
      have : (fun a : Nat => (if os.length ≤ os.length + a then P0.getD (os.length + a - os.length) [] else [])) = fun a => P0.getD a [] := by
        funext a; rw [if_pos (by omega), Nat.add_sub_cancel_left]
      rw [List.flatMap_def]
      rw [show (List.map (fun a : Nat => (if os.length ≤ os.length + a then P0.getD (os.length + a - os.length) [] else [])) (List.range P0.length)) = P0 from by rw [this]; exact range_getD P0]
    rw [e]; exact st.mem.drawn _
/-- each quiet operation's due, in the order of the text -/
def Dues4 (P : Program) (ops : Array Oper) (N : Nat) (w0 : World) (l : List HP) (env : List (Nat × Value)) (P0 : List (List HP)) (mu : Nat) (dsts : List (Option Nat)) (all qall : List (List Nat)) (tau : List (Option Nat)) (R : Nat → List Value → Value → List HP → Prop) : Nat → List (List Nat) → List Oper → Prop
  | _, _, [] => True
  | k, dss, o :: os => (∀ (vf : Nat → Value) (pf : Nat → List HP), (∀ k, k < P0.length → pf (mu + k) = P0.getD k []) → (∀ j ∈ all.getD k [], R j ((all.getD j []).map vf) (vf j) (pf j)) → Obl2 P ops N w0 (tau.getD k none) pf ((qall.getD k []).flatMap pf ++ l) (envOf3 dsts vf (all.getD k []) ++ env) o (R k ((all.getD k []).map vf))) ∧ Dues4 P ops N w0 l env P0 mu dsts all qall tau R (k + 1) dss os
theorem dues4_at {P : Program} {ops : Array Oper} {N : Nat} {w0 : World} {l : List HP} {env : List (Nat × Value)} {P0 : List (List HP)} {mu : Nat} {dsts : List (Option Nat)} {all qall : List (List Nat)} {tau : List (Option Nat)} {R : Nat → List Value → Value → List HP → Prop} : ∀ (os : List Oper) (dss : List (List Nat)) (k : Nat), Dues4 P ops N w0 l env P0 mu dsts all qall tau R k dss os → ∀ i o, os[i]? = some o → ∀ vf pf, (∀ k, k < P0.length → pf (mu + k) = P0.getD k []) → (∀ j ∈ all.getD (k + i) [], R j ((all.getD j []).map vf) (vf j) (pf j)) → Obl2 P ops N w0 (tau.getD (k + i) none) pf ((qall.getD (k + i) []).flatMap pf ++ l) (envOf3 dsts vf (all.getD (k + i) []) ++ env) o (R (k + i) ((all.getD (k + i) []).map vf))
  | [], _, _, _, i, o, ho, _, _, _, _ => by simp at ho
  | o' :: os, dss, k, h, 0, o, ho, vf, pf, hP, hR => by simp at ho; subst ho; exact h.1 vf pf hP hR
  | o' :: os, dss, k, h, i + 1, o, ho, vf, pf, hP, hR => by
    have e : k + 1 + i = k + (i + 1) := by omega
    have := dues4_at os dss (k + 1) h.2 i o (by simpa using ho) vf pf hP (by rw [e]; exact hR)
    rwa [e] at this
theorem hc_draw4 {id : Nat} (hmix : P.follows .mixedOrders = true) (m : Nat) (qs : List Nat) (quiet tail : List Oper) (dps : List (List Nat)) (dsts : List (Option Nat)) (R : Nat → List Value → Value → List HP → Prop) (qd : List (List Nat)) (tau : List (Option Nat)) (P0 : List (List HP)) (fl : List Nat) (mu : Nat)
    (hos : os = quiet ++ tail) (hq : (Nat.beq quiet.length m && (List.range m == qs) && Nat.beq os.length mu) = true) (hok : drawOk3 os m dps dsts = true) (htau : tauOk4 os m P0.length dps qd tau fl = true) (hfresh : dsts.all (fun d => match d with | some d => (lk env d).isNone | none => true) = true) (hN : dsts.all (fun d => match d with | some d => Nat.blt d N | none => true) = true)
    (due : Dues4 P os.toArray N w0 l env P0 mu dsts dps qd tau R 0 [] quiet)
    (fin : ∀ vf pf, (∀ k, k < P0.length → pf (mu + k) = P0.getD k []) → (∀ i, i < m → R i ((dps.getD i []).map vf) (vf i) (pf i)) → HL P N os.toArray w0 (fl.flatMap pf ++ l) (envOf3 dsts vf qs ++ env) tail Q) : HC P N w0 (P0.flatten ++ l) env (.region id os.toArray true) Q := by
  simp only [Bool.and_eq_true, Nat.beq_eq, beq_iff_eq] at hq
  obtain ⟨⟨hq1, hq2⟩, hq3⟩ := hq
  refine hc_drawn4 hmix m dps dsts R qd tau P0 fl hok htau hfresh hN (fun i o ho hi vf pf hP hR => ?_) (fun vf pf hP hR => ?_)
  · have ho' : quiet[i]? = some o := by rw [hos, List.getElem?_append_left (by omega)] at ho; exact ho
    have := dues4_at quiet [] 0 due i o ho' vf pf (by rw [← hq3]; exact hP) (by rw [Nat.zero_add]; exact hR)
    rwa [Nat.zero_add] at this
  · rw [hq2, hos, List.drop_left' hq1, ← hos]; exact fin vf pf (by rw [← hq3]; exact hP) hR
end
open Go.RowKit
set_option maxHeartbeats 4000000 in
set_option maxRecDepth 100000 in
theorem allSources_ret (d : Dev) (w : World) (hd : devB d = true) :
  Calls Try.prog 32 #[.agg #[.int .i64 d.W, .int .i64 d.H, .int .i64 d.T, .int .i64 d.R]] w (Ret w (fun v' post => ∃ es : List IR, post = [irsE v' es] ∧ SOk d (allI d).toNat (allI d).toNat es ∧ v'.oneCell' = true)) := by
 obtain ⟨ra1, ra2⟩ := all_rng hd
 have hrl : (List.replicate (allI d).toNat ir0).length = (allI d).toNat := List.length_replicate
 refine calls_hc (N := 21) (args := [.agg #[.int .i64 d.W, .int .i64 d.H, .int .i64 d.T, .int .i64 d.R]]) Try.func32 rfl rfl ?_
 refine hc_less _ (sx 0 rfl (sub_nil _)) (.refl _) ?_
 refine hc_seq ?_
 refine hc_region ?_
 refine hl_box rfl rfl rfl (rq_box rfl rfl) ?_
 intro b1
 refine hl_v rfl rfl rfl (rv_ev rfl) ?_
 refine hl_less (sx 0 rfl (sx 1 rfl (sx 2 rfl (sub_nil _)))) (.refl _) ?_
 refine hl_nil ?_
 refine hq_then ?_
 refine hc_seq ?_
 refine hc_region ?_
 refine hl_v rfl rfl rfl (rv_loadN (cs := [.int .i64 d.W, .int .i64 d.H, .int .i64 d.T, .int .i64 d.R]) rfl (by kernel_rfl) (by kernel_rfl) rfl rfl (box_part 0 rfl 0 rfl)) ?_
 refine hl_callV rfl rfl rfl (rq_call (by kernel_rfl) rfl (fun w hm => ret_ans (implrouteNodes_yes d w hd))) ?_
 refine hl_row rfl rfl rfl (rq_make (z := .slice none 0 0) (s := 1) (bytes := 24) (n := (List.replicate (allI d).toNat ir0).length) (cs := ((List.replicate (allI d).toNat ir0).flatMap irC)) rfl Try.underlying63 (by kernel_rfl) (by decide) rfl rfl (by first | (rw [List.length_replicate]; done) | (rw [List.length_replicate]; omega)) (by first | (rw [List.length_replicate]; done) | (rw [List.length_replicate]; omega)) (by rw [List.length_replicate]; omega) (made_flat irC 1 (fun _ => rfl) ir0 _ rfl (allI d).toNat)) ?_
 intro g2
 refine hl_v rfl rfl rfl (rv_ev rfl) ?_
 refine hl_less (sx 0 rfl (sx 1 rfl (sx 2 rfl (sx 3 rfl (sub_nil _))))) (.refl _) ?_
 refine hl_nil ?_
 refine hq_then ?_
 refine hc_seq ?_
 refine hc_seq ?_
 refine hc_region ?_
 refine hl_v rfl rfl rfl (rv_ev rfl) ?_
 refine hl_v rfl rfl rfl (rv_len rfl Try.underlying63 rfl (rd_row 0 rfl)) ?_
 refine hl_v rfl rfl rfl (rv_ev rfl) ?_
 refine hl_less (sx 0 rfl (sx 1 rfl (sx 2 rfl (sx 3 rfl (sx 9 rfl (sx 10 rfl (sub_nil _))))))) (.refl _) ?_
 refine hl_nil ?_
 refine hq_then ?_
 refine hc_block ?_
 refine hc_conv [bigE ((List.replicate (allI d).toNat ir0).map irPart), rowE 28 1 (.slice (some ⟨g2, 0, none⟩) ((List.replicate (allI d).toNat ir0).length) ((List.replicate (allI d).toNat ir0).length)) ((List.replicate (allI d).toNat ir0).length) ((List.replicate (allI d).toNat ir0).flatMap irC), boxE b1 #[.int .i64 d.W, .int .i64 d.H, .int .i64 d.T, .int .i64 d.R] 25] (fun w hm => hm.irNil (allI d).toNat) ?_
 refine hc_loop2 (α := Nat) (β := List IR) (fun k es => [bigE (es.map irPart), rowE 28 1 (.slice (some ⟨g2, 0, none⟩) ((List.replicate (allI d).toNat ir0).length) ((List.replicate (allI d).toNat ir0).length)) es.length (es.flatMap irC), boxE b1 #[.int .i64 d.W, .int .i64 d.H, .int .i64 d.T, .int .i64 d.R] 25]) (fun k es => [(0, .agg #[.int .i64 d.W, .int .i64 d.H, .int .i64 d.T, .int .i64 d.R]), (1, .pointer (some ⟨b1, 0, none⟩)), (2, .slice none 0 0), (3, .slice (some ⟨g2, 0, none⟩) ((List.replicate (allI d).toNat ir0).length) ((List.replicate (allI d).toNat ir0).length)), (9, .int .i64 ((List.replicate (allI d).toNat ir0).length : Int)), (10, .int .i64 (k : Int))]) (fun k es => k ≤ (allI d).toNat ∧ SOk d (allI d).toNat k es) (fun k es => (allI d).toNat - k) 0 (List.replicate (allI d).toNat ir0) ⟨by omega, s_start _ _⟩ (sx 0 rfl (sx 1 rfl (sx 2 rfl (sx 3 rfl (sx 9 rfl (sx 10 rfl (sub_nil _))))))) ((.cons_cons _ (.cons_cons _ (.cons_cons _ .slnil)))) ?_
 intro k es hi3
 obtain ⟨hk, hs⟩ := hi3
 have hel := hs.len
 refine hc_seq ?_
 refine hc_region ?_
 refine hl_lss rfl rfl rfl rfl rfl rfl (fun h4 => ?_) (fun h4 => ?_)
 ·
  refine hl_less (sx 0 rfl (sx 1 rfl (sx 2 rfl (sx 3 rfl (sx 9 rfl (sx 10 rfl (sx 11 rfl (sub_nil _)))))))) (.refl _) ?_
  refine hl_nil ?_
  refine hq_then ?_
  refine hc_seq ?_
  refine hc_true rfl ?_
  refine hc_skip ?_
  refine hq_then ?_
  refine hc_seq ?_
  refine hc_block ?_
  refine hc_seq ?_
  refine hc_region ?_
  refine hl_v rfl rfl rfl (rv_ev rfl) ?_
  refine hl_v rfl rfl rfl (rv_ev rfl) ?_
  refine hl_less (sx 0 rfl (sx 1 rfl (sx 2 rfl (sx 3 rfl (sx 4 rfl (sx 9 rfl (sx 10 rfl (sx 11 rfl (sub_nil _))))))))) (.refl _) ?_
  refine hl_nil ?_
  refine hq_then ?_
  refine hc_region ?_
  refine hl_v rfl rfl rfl (rv_ev rfl) ?_
  refine hl_v rfl rfl rfl (rv_ev rfl) ?_
  refine hl_v rfl rfl rfl (rv_loadN (cs := [.int .i64 d.W, .int .i64 d.H, .int .i64 d.T, .int .i64 d.R]) rfl (by kernel_rfl) (by kernel_rfl) rfl rfl (box_part 2 rfl 0 rfl)) ?_
  refine hl_v rfl rfl rfl (rv_ev rfl) ?_
  refine hl_q rfl rfl rfl (rq_call (by kernel_rfl) rfl (fun w hm => implSources_ret d _ w)) ?_
  intro v5 p6 hR7
  subst hR7
  refine hl_v rfl rfl rfl (rv_index (s := 1) rfl Try.underlying63 (by kernel_rfl) rfl rfl (rd_row 2 rfl) (by omega) (by first | omega | (simp only [List.length_set]; omega))) ?_
  refine hl_one (i := 0) rfl (fun ho8 => ?_)
  refine hl_storeEl (i := 2) (n' := (es.set k (IR.mk v5 (srcI d (k : Int)))).length) (xs' := ((es.set k (IR.mk v5 (srcI d (k : Int)))).flatMap irC)) (l' := [rowE 3 1 v5 ((srcI d (k : Int)).length) ((srcI d (k : Int)).map (Value.int .i64)), bigE (es.map irPart), rowE 28 1 (.slice (some ⟨g2, 0, none⟩) ((List.replicate (allI d).toNat ir0).length) ((List.replicate (allI d).toNat ir0).length)) ((es.set k (IR.mk v5 (srcI d (k : Int)))).length) ((es.set k (IR.mk v5 (srcI d (k : Int)))).flatMap irC), boxE b1 #[.int .i64 d.W, .int .i64 d.H, .int .i64 d.T, .int .i64 d.R] 25]) rfl rfl rfl (by kernel_rfl) rfl rfl ho8 rfl (by first | omega | (simp only [List.length_set]; omega)) List.length_set.symm (flat_set1 irC (fun r => r.v) (fun _ => rfl) _ (IR.mk v5 (srcI d (k : Int))) rfl) rfl ?_
  refine hl_conv [rowE 3 1 v5 ((srcI d (k : Int)).length) ((srcI d (k : Int)).map (Value.int .i64)), bigE (es.map irPart), rowE 28 1 (.slice (some ⟨g2, 0, none⟩) ((List.replicate (allI d).toNat ir0).length) ((List.replicate (allI d).toNat ir0).length)) ((es.set k (IR.mk v5 (srcI d (k : Int)))).length) ((es.set k (IR.mk v5 (srcI d (k : Int)))).flatMap irC), boxE b1 #[.int .i64 d.W, .int .i64 d.H, .int .i64 d.T, .int .i64 d.R] 25] (conv_pick (src := [rowE 3 1 v5 ((srcI d (k : Int)).length) ((srcI d (k : Int)).map (Value.int .i64)), bigE (es.map irPart), rowE 28 1 (.slice (some ⟨g2, 0, none⟩) ((List.replicate (allI d).toNat ir0).length) ((List.replicate (allI d).toNat ir0).length)) ((es.set k (IR.mk v5 (srcI d (k : Int)))).length) ((es.set k (IR.mk v5 (srcI d (k : Int)))).flatMap irC), boxE b1 #[.int .i64 d.W, .int .i64 d.H, .int .i64 d.T, .int .i64 d.R] 25]) (dst := [rowE 3 1 v5 ((srcI d (k : Int)).length) ((srcI d (k : Int)).map (Value.int .i64)), bigE (es.map irPart), rowE 28 1 (.slice (some ⟨g2, 0, none⟩) ((List.replicate (allI d).toNat ir0).length) ((List.replicate (allI d).toNat ir0).length)) ((es.set k (IR.mk v5 (srcI d (k : Int)))).length) ((es.set k (IR.mk v5 (srcI d (k : Int)))).flatMap irC), boxE b1 #[.int .i64 d.W, .int .i64 d.H, .int .i64 d.T, .int .i64 d.R] 25]) (l := []) [0, 1, 2, 3] (by decide) rfl) ?_
  refine hl_conv [bigE ((es.set k (IR.mk v5 (srcI d (k : Int)))).map irPart), rowE 28 1 (.slice (some ⟨g2, 0, none⟩) ((List.replicate (allI d).toNat ir0).length) ((List.replicate (allI d).toNat ir0).length)) ((es.set k (IR.mk v5 (srcI d (k : Int)))).length) ((es.set k (IR.mk v5 (srcI d (k : Int)))).flatMap irC), boxE b1 #[.int .i64 d.W, .int .i64 d.H, .int .i64 d.T, .int .i64 d.R] 25] (conv_irSet (es := es) (j := k) (e' := (IR.mk v5 (srcI d (k : Int)))) (by first | omega | (simp only [List.length_set]; omega))) ?_
  refine hl_less (sx 0 rfl (sx 1 rfl (sx 2 rfl (sx 3 rfl (sx 4 rfl (sx 9 rfl (sx 10 rfl (sx 11 rfl (sub_nil _))))))))) (.refl _) ?_
  refine hl_nil ?_
  refine hq_block_normal ?_
  refine hq_then ?_
  refine hc_region ?_
  refine hl_v rfl rfl rfl (rv_add rfl rfl rfl (by constructor <;> omega)) ?_
  refine hl_v rfl rfl rfl (rv_ev rfl) ?_
  refine hl_less (sx 0 rfl (sx 1 rfl (sx 2 rfl (sx 3 rfl (sx 4 rfl (sx 9 rfl (sx 10 rfl (sx 11 rfl (sub_nil _))))))))) (.refl _) ?_
  refine hl_nil ?_
  exact hq_round2 (k + 1) (es.set k (IR.mk v5 (srcI d (k : Int)))) ⟨by omega, hs.step (by omega)⟩ (by omega) (sx 0 rfl (sx 1 rfl (sx 2 rfl (sx 3 rfl (sx 9 rfl (sx 10 rfl (sub_nil _))))))) ((.cons_cons _ (.cons_cons _ (.cons_cons _ .slnil))))
 ·
  refine hl_less (sx 0 rfl (sx 1 rfl (sx 2 rfl (sx 3 rfl (sx 9 rfl (sx 10 rfl (sx 11 rfl (sub_nil _)))))))) (.refl _) ?_
  refine hl_nil ?_
  refine hq_then ?_
  refine hc_seq ?_
  refine hc_false rfl ?_
  refine hc_exit ?_
  refine hq_then_exit ?_
  refine hq_then_exit ?_
  refine hq_block_exit ?_
  refine hq_then ?_
  refine hc_seq ?_
  refine hc_region ?_
  refine hl_v rfl rfl rfl (rv_ev rfl) ?_
  refine hl_v rfl rfl rfl (rv_ev rfl) ?_
  refine hl_less (sx 0 rfl (sx 1 rfl (sx 2 rfl (sx 3 rfl (sx 9 rfl (sx 10 rfl (sx 11 rfl (sub_nil _)))))))) (.refl _) ?_
  refine hl_nil ?_
  refine hq_then ?_
  refine hc_ret ?_
  refine hq_conv [bigE (es.map irPart), rowE 28 1 (.slice (some ⟨g2, 0, none⟩) ((List.replicate (allI d).toNat ir0).length) ((List.replicate (allI d).toNat ir0).length)) es.length (es.flatMap irC)] (conv_pick (src := [bigE (es.map irPart), rowE 28 1 (.slice (some ⟨g2, 0, none⟩) ((List.replicate (allI d).toNat ir0).length) ((List.replicate (allI d).toNat ir0).length)) es.length (es.flatMap irC), boxE b1 #[.int .i64 d.W, .int .i64 d.H, .int .i64 d.T, .int .i64 d.R] 25]) (dst := [bigE (es.map irPart), rowE 28 1 (.slice (some ⟨g2, 0, none⟩) ((List.replicate (allI d).toNat ir0).length) ((List.replicate (allI d).toNat ir0).length)) es.length (es.flatMap irC)]) (l := []) [0, 1] (by decide) rfl) ?_
  refine hq_one (i := 1) rfl (fun hoR => ?_)
  refine hq_conv [irsE (.slice (some ⟨g2, 0, none⟩) ((List.replicate (allI d).toNat ir0).length) ((List.replicate (allI d).toNat ir0).length)) es] (fun w hm => Mem.big (ps := [bigE (es.map irPart), rowE 28 1 (.slice (some ⟨g2, 0, none⟩) ((List.replicate (allI d).toNat ir0).length) ((List.replicate (allI d).toNat ir0).length)) es.length (es.flatMap irC)]) hm) ?_
  have hkN : k = (allI d).toNat := by omega
  subst hkN
  exact hq_retR (post := [irsE (.slice (some ⟨g2, 0, none⟩) ((List.replicate (allI d).toNat ir0).length) ((List.replicate (allI d).toNat ir0).length)) es]) rfl rfl ((.cons_cons _ .slnil)) ⟨es, rfl, hs, hoR⟩
theorem built_graph (v1 v2 : Value) (h1 : v1.oneCell' = true) (h2 : v2.oneCell' = true) : Try.prog.built 65 [(0, v1), (1, v2)] = some #[v1, v2] := by
  cases v1 <;> first | (exact absurd h1 Bool.false_ne_true) | (cases v2 <;> first | (exact absurd h2 Bool.false_ne_true) | kernel_rfl)
set_option maxHeartbeats 4000000 in
set_option maxRecDepth 100000 in
theorem graphOf_ret (d : Dev) (w : World) (hd : devB d = true) :
  Calls Try.prog 21 #[.agg #[.int .i64 d.W, .int .i64 d.H, .int .i64 d.T, .int .i64 d.R]] w (Ret w (fun v' post => ∃ (b : Nat) (g : Gr), v' = .pointer (some ⟨b, 0, none⟩) ∧ post = [grE b g] ∧ GrOk d (allI d).toNat g)) := by
 obtain ⟨ra1, ra2⟩ := all_rng hd
 have hrl : (List.replicate (allI d).toNat ir0).length = (allI d).toNat := List.length_replicate
 refine calls_hc (N := 50) (args := [.agg #[.int .i64 d.W, .int .i64 d.H, .int .i64 d.T, .int .i64 d.R]]) Try.func21 rfl rfl ?_
 refine hc_less _ (sx 0 rfl (sub_nil _)) (.refl _) ?_
 refine hc_seq ?_
 refine hc_region ?_
 refine hl_box rfl rfl rfl (rq_box rfl rfl) ?_
 intro b1
 refine hl_v rfl rfl rfl (rv_ev rfl) ?_
 refine hl_less (sx 0 rfl (sx 1 rfl (sx 2 rfl (sub_nil _)))) (.refl _) ?_
 refine hl_nil ?_
 refine hq_then ?_
 refine hc_seq ?_
 refine hc_draw (by kernel_rfl) 7 [0, 1, 2, 3, 4, 5, 6] (List.take 7 _) (List.drop 7 _) [[], [0], [], [2], [3], [1, 4], [1, 4, 5]] [8, 9, 10, 11, 12, 13, 14] (fun i_ vs_ v_ p_ => match i_ with | 0 => v_ = .agg #[.int .i64 d.W, .int .i64 d.H, .int .i64 d.T, .int .i64 d.R] ∧ p_ = [] | 1 => (fun v' post => ∃ es : List IR, post = [irsE v' es] ∧ SOk d (allI d).toNat (allI d).toNat es ∧ v'.oneCell' = true) v_ p_ | 2 => v_ = .agg #[.int .i64 d.W, .int .i64 d.H, .int .i64 d.T, .int .i64 d.R] ∧ p_ = [] | 3 => v_ = .int .i64 (allI d) ∧ p_ = [] | 4 => IsRow_o 28 1 ((List.replicate (allI d).toNat ir0).length) ((List.replicate (allI d).toNat ir0).flatMap irC) v_ p_ | 5 => v_ = .agg #[(List.getD vs_ 0 undef), (List.getD vs_ 1 undef)] ∧ p_ = [] | 6 => IsBox #[(List.getD vs_ 0 undef), (List.getD vs_ 1 undef)] 65 v_ p_ | _ => True) (List.take_append_drop 7 _).symm (by kernel_rfl) (by kernel_rfl) rfl rfl ?_ ?_
 ·
  refine ⟨?_, ?_, ?_, ?_, ?_, ?_, ?_, trivial⟩
  ·
   intro vf pf hR
   refine Or.inl ⟨rfl, ?_⟩
   refine rq_less (sx 1 rfl (sub_nil _)) (List.sublist_append_right _ _) ?_
   exact rq_v (rv_loadN (cs := [.int .i64 d.W, .int .i64 d.H, .int .i64 d.T, .int .i64 d.R]) rfl (by kernel_rfl) (by kernel_rfl) rfl rfl (box_part 0 rfl 0 rfl))
  ·
   intro vf pf hR
   have e0 : (vf 0) = .agg #[.int .i64 d.W, .int .i64 d.H, .int .i64 d.T, .int .i64 d.R] ∧ (pf 0) = [] := hR 0 (by decide)
   refine Or.inl ⟨rfl, ?_⟩
   refine rq_less (sx 8 (congrArg some e0.1) (sub_nil _)) (List.sublist_append_right _ _) ?_
   exact rq_call (by kernel_rfl) rfl (fun w hm => allSources_ret d w hd)
  ·
   intro vf pf hR
   refine Or.inl ⟨rfl, ?_⟩
   refine rq_less (sx 1 rfl (sub_nil _)) (List.sublist_append_right _ _) ?_
   exact rq_v (rv_loadN (cs := [.int .i64 d.W, .int .i64 d.H, .int .i64 d.T, .int .i64 d.R]) rfl (by kernel_rfl) (by kernel_rfl) rfl rfl (box_part 0 rfl 0 rfl))
  ·
   intro vf pf hR
   have e2 : (vf 2) = .agg #[.int .i64 d.W, .int .i64 d.H, .int .i64 d.T, .int .i64 d.R] ∧ (pf 2) = [] := hR 2 (by decide)
   refine Or.inl ⟨rfl, ?_⟩
   refine rq_less (sx 10 (congrArg some e2.1) (sub_nil _)) (List.sublist_append_right _ _) ?_
   exact (rq_call (by kernel_rfl) rfl (fun w hm => ret_ans (implrouteNodes_yes d w hd)))
  ·
   intro vf pf hR
   have e3 : (vf 3) = .int .i64 (allI d) ∧ (pf 3) = [] := hR 3 (by decide)
   refine Or.inl ⟨rfl, ?_⟩
   refine rq_less (sx 11 (congrArg some e3.1) (sub_nil _)) (List.sublist_append_right _ _) ?_
   exact rq_make (z := .slice none 0 0) (s := 1) (bytes := 24) (n := (List.replicate (allI d).toNat ir0).length) (cs := ((List.replicate (allI d).toNat ir0).flatMap irC)) rfl Try.underlying63 (by kernel_rfl) (by decide) rfl rfl (by first | (rw [List.length_replicate]; done) | (rw [List.length_replicate]; omega)) (by first | (rw [List.length_replicate]; done) | (rw [List.length_replicate]; omega)) (by rw [List.length_replicate]; omega) (made_flat irC 1 (fun _ => rfl) ir0 _ rfl (allI d).toNat)
  ·
   intro vf pf hR
   have e1 : (fun v' post => ∃ es : List IR, post = [irsE v' es] ∧ SOk d (allI d).toNat (allI d).toNat es ∧ v'.oneCell' = true) (vf 1) (pf 1) := hR 1 (by decide)
   obtain ⟨v2, v1⟩ : ∃ x, vf 1 = x := ⟨_, rfl⟩
   obtain ⟨p3, p1⟩ : ∃ x, pf 1 = x := ⟨_, rfl⟩
   have hR4 := e1
   rw [v1, p1] at hR4
   obtain ⟨so, rfl, hso, hoso⟩ := hR4
   have e4 : IsRow_o 28 1 ((List.replicate (allI d).toNat ir0).length) ((List.replicate (allI d).toNat ir0).flatMap irC) (vf 4) (pf 4) := hR 4 (by decide)
   obtain ⟨g5, v4, p4⟩ := e4
   refine Or.inl ⟨rfl, ?_⟩
   refine rq_less (l' := [irsE v2 so, rowE 28 1 (.slice (some ⟨g5, 0, none⟩) ((List.replicate (allI d).toNat ir0).length) ((List.replicate (allI d).toNat ir0).length)) ((List.replicate (allI d).toNat ir0).length) ((List.replicate (allI d).toNat ir0).flatMap irC), boxE b1 #[.int .i64 d.W, .int .i64 d.H, .int .i64 d.T, .int .i64 d.R] 25]) (sx 9 (congrArg some v1) (sx 12 (congrArg some v4) (sub_nil _))) (by first | (simp only [p1, v1, p4, v4, List.flatMap_cons, List.flatMap_nil, List.append_nil, List.nil_append, List.cons_append]; exact List.Sublist.refl _) | simp [p1, v1, p4, v4]) ?_
   exact rq_mono (rq_v (rv_build (cs := #[v2, .slice (some ⟨g5, 0, none⟩) ((List.replicate (allI d).toNat ir0).length) ((List.replicate (allI d).toNat ir0).length)]) rfl rfl (built_graph _ _ hoso rfl))) (fun _ _ h => ⟨h.1.trans (by show _ = (.agg #[(vf 1), (vf 4)] : Value); first | (rw [v1, v4]; done) | (rw [v1, v4]; rfl)), h.2⟩)
  ·
   intro vf pf hR
   have e1 : (fun v' post => ∃ es : List IR, post = [irsE v' es] ∧ SOk d (allI d).toNat (allI d).toNat es ∧ v'.oneCell' = true) (vf 1) (pf 1) := hR 1 (by decide)
   obtain ⟨v2, v1⟩ : ∃ x, vf 1 = x := ⟨_, rfl⟩
   obtain ⟨p3, p1⟩ : ∃ x, pf 1 = x := ⟨_, rfl⟩
   have hR4 := e1
   rw [v1, p1] at hR4
   obtain ⟨so, rfl, hso, hoso⟩ := hR4
   have e4 : IsRow_o 28 1 ((List.replicate (allI d).toNat ir0).length) ((List.replicate (allI d).toNat ir0).flatMap irC) (vf 4) (pf 4) := hR 4 (by decide)
   obtain ⟨g5, v4, p4⟩ := e4
   have e5 : (vf 5) = .agg #[(vf 1), (vf 4)] ∧ (pf 5) = [] := hR 5 (by decide)
   rw [v1, v4] at e5
   refine Or.inl ⟨rfl, ?_⟩
   refine rq_less (l' := [irsE v2 so, rowE 28 1 (.slice (some ⟨g5, 0, none⟩) ((List.replicate (allI d).toNat ir0).length) ((List.replicate (allI d).toNat ir0).length)) ((List.replicate (allI d).toNat ir0).length) ((List.replicate (allI d).toNat ir0).flatMap irC), boxE b1 #[.int .i64 d.W, .int .i64 d.H, .int .i64 d.T, .int .i64 d.R] 25]) (sx 13 (congrArg some e5.1) (sub_nil _)) (by first | (simp only [p1, v1, p4, v4, e5.2, List.flatMap_cons, List.flatMap_nil, List.append_nil, List.nil_append, List.cons_append]; exact List.Sublist.refl _) | simp [p1, v1, p4, v4, e5.2]) ?_
   exact rq_mono (rq_box rfl rfl) (fun v_ p_ h => by show IsBox #[(vf 1), (vf 4)] 65 v_ p_; rw [v1, v4]; exact h)
 ·
  intro vf pf hR
  have e1 : (fun v' post => ∃ es : List IR, post = [irsE v' es] ∧ SOk d (allI d).toNat (allI d).toNat es ∧ v'.oneCell' = true) (vf 1) (pf 1) := hR 1 (by decide)
  obtain ⟨v2, v1⟩ : ∃ x, vf 1 = x := ⟨_, rfl⟩
  obtain ⟨p3, p1⟩ : ∃ x, pf 1 = x := ⟨_, rfl⟩
  have hR4 := e1
  rw [v1, p1] at hR4
  obtain ⟨so, rfl, hso, hoso⟩ := hR4
  have e4 : IsRow_o 28 1 ((List.replicate (allI d).toNat ir0).length) ((List.replicate (allI d).toNat ir0).flatMap irC) (vf 4) (pf 4) := hR 4 (by decide)
  obtain ⟨g5, v4, p4⟩ := e4
  have e6 : IsBox #[(vf 1), (vf 4)] 65 (vf 6) (pf 6) := hR 6 (by decide)
  rw [v1, v4] at e6
  obtain ⟨b6, v6, p6⟩ := e6
  have q0 : (vf 0) = .agg #[.int .i64 d.W, .int .i64 d.H, .int .i64 d.T, .int .i64 d.R] ∧ (pf 0) = [] := hR 0 (by decide)
  have q2 : (vf 2) = .agg #[.int .i64 d.W, .int .i64 d.H, .int .i64 d.T, .int .i64 d.R] ∧ (pf 2) = [] := hR 2 (by decide)
  have q3 : (vf 3) = .int .i64 (allI d) ∧ (pf 3) = [] := hR 3 (by decide)
  have q5 : (vf 5) = .agg #[(vf 1), (vf 4)] ∧ (pf 5) = [] := hR 5 (by decide)
  refine hl_less (l' := [irsE v2 so, rowE 28 1 (.slice (some ⟨g5, 0, none⟩) ((List.replicate (allI d).toNat ir0).length) ((List.replicate (allI d).toNat ir0).length)) ((List.replicate (allI d).toNat ir0).length) ((List.replicate (allI d).toNat ir0).flatMap irC), boxE b6 #[v2, .slice (some ⟨g5, 0, none⟩) ((List.replicate (allI d).toNat ir0).length) ((List.replicate (allI d).toNat ir0).length)] 65, boxE b1 #[.int .i64 d.W, .int .i64 d.H, .int .i64 d.T, .int .i64 d.R] 25]) (sx 0 rfl (sx 1 rfl (sx 2 rfl (sx 14 (congrArg some v6) (sub_nil _))))) (by first | (simp only [p1, v1, p4, v4, p6, v6, q0.2, q2.2, q3.2, q5.2, List.flatMap_cons, List.flatMap_nil, List.append_nil, List.nil_append, List.cons_append]; exact List.Sublist.refl _) | simp [p1, v1, p4, v4, p6, v6, q0.2, q2.2, q3.2, q5.2]) ?_
  simp only [List.drop_succ_cons, List.drop_zero]
  refine hl_v rfl rfl rfl (rv_ev rfl) ?_
  refine hl_less (sx 0 rfl (sx 1 rfl (sx 2 rfl (sx 3 rfl (sub_nil _))))) (.refl _) ?_
  refine hl_nil ?_
  refine hq_then ?_
  refine hc_seq ?_
  refine hc_seq ?_
  refine hc_region ?_
  refine hl_v rfl rfl rfl (rv_ev rfl) ?_
  refine hl_v rfl rfl rfl (rv_nilCheck rfl rfl) ?_
  refine hl_v rfl rfl rfl (rv_field (k0 := 0) rfl (by kernel_rfl) rfl) ?_
  refine hl_v rfl rfl rfl (rv_load rfl (by kernel_rfl) rfl (box_cell 2 rfl rfl)) ?_
  have hsol0 := hso.len
  refine hl_v rfl rfl rfl (rv_len rfl Try.underlying63 rfl (fun w hm => (ir_rds 0 rfl w hm).row)) ?_
  refine hl_v rfl rfl rfl (rv_ev rfl) ?_
  refine hl_less (sx 0 rfl (sx 1 rfl (sx 2 rfl (sx 3 rfl (sx 18 rfl (sx 19 rfl (sx 20 rfl (sub_nil _)))))))) (.refl _) ?_
  refine hl_nil ?_
  refine hq_then ?_
  refine hc_block ?_
  refine hc_conv [bigE ((List.replicate (allI d).toNat ir0).map irPart), irsE v2 so, rowE 28 1 (.slice (some ⟨g5, 0, none⟩) ((List.replicate (allI d).toNat ir0).length) ((List.replicate (allI d).toNat ir0).length)) ((List.replicate (allI d).toNat ir0).length) ((List.replicate (allI d).toNat ir0).flatMap irC), boxE b6 #[v2, .slice (some ⟨g5, 0, none⟩) ((List.replicate (allI d).toNat ir0).length) ((List.replicate (allI d).toNat ir0).length)] 65, boxE b1 #[.int .i64 d.W, .int .i64 d.H, .int .i64 d.T, .int .i64 d.R] 25] (fun w hm => hm.irNil (allI d).toNat) ?_
  refine hc_loop2 (α := Nat) (β := List IR) (fun n ks => [bigE (ks.map irPart), irsE v2 so, rowE 28 1 (.slice (some ⟨g5, 0, none⟩) ((List.replicate (allI d).toNat ir0).length) ((List.replicate (allI d).toNat ir0).length)) ks.length (ks.flatMap irC), boxE b6 #[v2, .slice (some ⟨g5, 0, none⟩) ((List.replicate (allI d).toNat ir0).length) ((List.replicate (allI d).toNat ir0).length)] 65, boxE b1 #[.int .i64 d.W, .int .i64 d.H, .int .i64 d.T, .int .i64 d.R] 25]) (fun n ks => [(0, .agg #[.int .i64 d.W, .int .i64 d.H, .int .i64 d.T, .int .i64 d.R]), (1, .pointer (some ⟨b1, 0, none⟩)), (2, .pointer none), (3, .pointer (some ⟨b6, 0, none⟩)), (18, v2), (19, .int .i64 (so.length : Int)), (20, .int .i64 (n : Int))]) (fun n ks => n ≤ (allI d).toNat ∧ KOk d (allI d).toNat n 0 ks) (fun n ks => (allI d).toNat - n) 0 (List.replicate (allI d).toNat ir0) ⟨by omega, k_start _ _⟩ (sx 0 rfl (sx 1 rfl (sx 2 rfl (sx 3 rfl (sx 18 rfl (sx 19 rfl (sx 20 rfl (sub_nil _)))))))) ((.cons_cons _ (.cons_cons _ (.cons_cons _ (.cons_cons _ (.cons_cons _ .slnil)))))) ?_
  intro n ks hi7
  obtain ⟨hn, hk⟩ := hi7
  have hkl := hk.len
  refine hc_seq ?_
  refine hc_region ?_
  refine hl_lss rfl rfl rfl rfl rfl rfl (fun h8 => ?_) (fun h8 => ?_)
  ·
   refine hl_less (sx 0 rfl (sx 1 rfl (sx 2 rfl (sx 3 rfl (sx 18 rfl (sx 19 rfl (sx 20 rfl (sx 21 rfl (sub_nil _))))))))) (.refl _) ?_
   refine hl_nil ?_
   refine hq_then ?_
   refine hc_seq ?_
   refine hc_true rfl ?_
   refine hc_skip ?_
   refine hq_then ?_
   refine hc_seq ?_
   refine hc_block ?_
   refine hc_seq ?_
   refine hc_region ?_
   refine hl_v rfl rfl rfl (rv_ev rfl) ?_
   have hsol := hso.len
   have hsn : (so.getD n ir0).xs = srcI d n := hso.src n (by omega)
   have hsl16 : (so.getD n ir0).xs.length ≤ 16 := by rw [hsn]; exact src_len16 _ _
   refine hl_v rfl rfl rfl (rv_index (s := 1) rfl Try.underlying63 (by kernel_rfl) rfl rfl (fun w hm => (ir_rds 1 rfl w hm).row) (by omega) (by first | omega | (simp only [List.length_set]; omega))) ?_
   refine hl_v rfl rfl rfl (rv_loadEl (u := (so.getD n ir0).v) rfl (by kernel_rfl) rfl (fun w hm => (ir_rds 1 rfl w hm).row) (flat_one irC (fun r => r.v) (fun _ => rfl) so ir0 (show n < _ by first | omega | (simp only [List.length_set]; omega)))) ?_
   refine hl_v rfl rfl rfl (rv_ev rfl) ?_
   refine hl_v rfl rfl rfl (rv_ev rfl) ?_
   refine hl_less (sx 0 rfl (sx 1 rfl (sx 2 rfl (sx 3 rfl (sx 4 rfl (sx 5 rfl (sx 18 rfl (sx 19 rfl (sx 20 rfl (sx 21 rfl (sub_nil _))))))))))) (.refl _) ?_
   refine hl_nil ?_
   refine hq_then ?_
   refine hc_seq ?_
   refine hc_region ?_
   refine hl_v rfl rfl rfl (rv_ev rfl) ?_
   refine hl_v rfl rfl rfl (rv_len rfl Try.underlying28 rfl (fun w hm => (ir_rds 1 rfl w hm).at (k := n) (by omega))) ?_
   refine hl_v rfl rfl rfl (rv_ev rfl) ?_
   refine hl_less (sx 0 rfl (sx 1 rfl (sx 2 rfl (sx 3 rfl (sx 4 rfl (sx 5 rfl (sx 18 rfl (sx 19 rfl (sx 20 rfl (sx 21 rfl (sx 25 rfl (sx 26 rfl (sx 27 rfl (sub_nil _)))))))))))))) (.refl _) ?_
   refine hl_nil ?_
   refine hq_then ?_
   refine hc_block ?_
   refine hc_loop2 (α := Nat) (β := List IR) (fun i zs => [bigE (zs.map irPart), irsE v2 so, rowE 28 1 (.slice (some ⟨g5, 0, none⟩) ((List.replicate (allI d).toNat ir0).length) ((List.replicate (allI d).toNat ir0).length)) zs.length (zs.flatMap irC), boxE b6 #[v2, .slice (some ⟨g5, 0, none⟩) ((List.replicate (allI d).toNat ir0).length) ((List.replicate (allI d).toNat ir0).length)] 65, boxE b1 #[.int .i64 d.W, .int .i64 d.H, .int .i64 d.T, .int .i64 d.R] 25]) (fun i zs => [(0, .agg #[.int .i64 d.W, .int .i64 d.H, .int .i64 d.T, .int .i64 d.R]), (1, .pointer (some ⟨b1, 0, none⟩)), (2, .pointer none), (3, .pointer (some ⟨b6, 0, none⟩)), (4, .int .i64 (n : Int)), (5, (so.getD n ir0).v), (18, v2), (19, .int .i64 (so.length : Int)), (20, .int .i64 (n : Int)), (21, .bool true), (25, (so.getD n ir0).v), (26, .int .i64 (((so.getD n ir0).xs).length : Int)), (27, .int .i64 (i : Int))]) (fun i zs => i ≤ (so.getD n ir0).xs.length ∧ KOk d (allI d).toNat n i zs) (fun i zs => (so.getD n ir0).xs.length - i) 0 ks ⟨by omega, hk⟩ (sx 0 rfl (sx 1 rfl (sx 2 rfl (sx 3 rfl (sx 4 rfl (sx 5 rfl (sx 18 rfl (sx 19 rfl (sx 20 rfl (sx 21 rfl (sx 25 rfl (sx 26 rfl (sx 27 rfl (sub_nil _)))))))))))))) ((.cons_cons _ (.cons_cons _ (.cons_cons _ (.cons_cons _ (.cons_cons _ .slnil)))))) ?_
   intro i zs hi9
   obtain ⟨hi, hz⟩ := hi9
   have hzl := hz.len
   refine hc_seq ?_
   refine hc_region ?_
   refine hl_lss rfl rfl rfl rfl rfl rfl (fun h10 => ?_) (fun h10 => ?_)
   ·
    refine hl_less (sx 0 rfl (sx 1 rfl (sx 2 rfl (sx 3 rfl (sx 4 rfl (sx 5 rfl (sx 18 rfl (sx 19 rfl (sx 20 rfl (sx 21 rfl (sx 25 rfl (sx 26 rfl (sx 27 rfl (sx 28 rfl (sub_nil _))))))))))))))) (.refl _) ?_
    refine hl_nil ?_
    refine hq_then ?_
    refine hc_seq ?_
    refine hc_true rfl ?_
    refine hc_skip ?_
    refine hq_then ?_
    refine hc_seq ?_
    refine hc_block ?_
    refine hc_seq ?_
    refine hc_region ?_
    refine hl_v rfl rfl rfl (rv_index (s := 1) rfl Try.underlying28 (by kernel_rfl) rfl rfl (fun w hm => (ir_rds 1 rfl w hm).at (k := n) (by omega)) (by omega) (by first | omega | (simp only [List.length_set]; omega))) ?_
    refine hl_v rfl rfl rfl (rv_loadEl (u := .int .i64 (((so.getD n ir0).xs).getD i 0)) rfl (by kernel_rfl) rfl (fun w hm => (ir_rds 1 rfl w hm).at (k := n) (by omega)) (ints_at1 (show _ < ((so.getD n ir0).xs).length by first | omega | (simp only [List.length_set]; omega)))) ?_
    refine hl_v rfl rfl rfl (rv_ev rfl) ?_
    refine hl_less (sx 0 rfl (sx 1 rfl (sx 2 rfl (sx 3 rfl (sx 4 rfl (sx 5 rfl (sx 7 rfl (sx 18 rfl (sx 19 rfl (sx 20 rfl (sx 21 rfl (sx 25 rfl (sx 26 rfl (sx 27 rfl (sx 28 rfl (sub_nil _)))))))))))))))) (.refl _) ?_
    refine hl_nil ?_
    refine hq_then ?_
    have hx := src_rng (d := d) (k := (n : Int)) (s := (((so.getD n ir0).xs).getD i 0)) (by rw [← hsn]; exact getD_memZ (by omega))
    obtain ⟨hx0, hx1⟩ : 0 ≤ (((so.getD n ir0).xs).getD i 0) ∧ (((so.getD n ir0).xs).getD i 0) < ((allI d).toNat : Int) := ⟨hx.1, by omega⟩
    have hsz := hz.sz ((((so.getD n ir0).xs).getD i 0).toNat) (by omega)
    refine hc_conv [bigE (zs.map irPart), irsE v2 so, rowE 28 1 (.slice (some ⟨g5, 0, none⟩) ((List.replicate (allI d).toNat ir0).length) ((List.replicate (allI d).toNat ir0).length)) zs.length (zs.flatMap irC), boxE b6 #[v2, .slice (some ⟨g5, 0, none⟩) ((List.replicate (allI d).toNat ir0).length) ((List.replicate (allI d).toNat ir0).length)] 65, boxE b1 #[.int .i64 d.W, .int .i64 d.H, .int .i64 d.T, .int .i64 d.R] 25] (conv_pick (src := [bigE (zs.map irPart), irsE v2 so, rowE 28 1 (.slice (some ⟨g5, 0, none⟩) ((List.replicate (allI d).toNat ir0).length) ((List.replicate (allI d).toNat ir0).length)) zs.length (zs.flatMap irC), boxE b6 #[v2, .slice (some ⟨g5, 0, none⟩) ((List.replicate (allI d).toNat ir0).length) ((List.replicate (allI d).toNat ir0).length)] 65, boxE b1 #[.int .i64 d.W, .int .i64 d.H, .int .i64 d.T, .int .i64 d.R] 25]) (dst := [bigE (zs.map irPart), irsE v2 so, rowE 28 1 (.slice (some ⟨g5, 0, none⟩) ((List.replicate (allI d).toNat ir0).length) ((List.replicate (allI d).toNat ir0).length)) zs.length (zs.flatMap irC), boxE b6 #[v2, .slice (some ⟨g5, 0, none⟩) ((List.replicate (allI d).toNat ir0).length) ((List.replicate (allI d).toNat ir0).length)] 65, boxE b1 #[.int .i64 d.W, .int .i64 d.H, .int .i64 d.T, .int .i64 d.R] 25]) (l := []) [0, 1, 2, 3, 4] (by decide) rfl) ?_
    refine hc_conv [rowE 3 1 ((zs.getD ((((so.getD n ir0).xs).getD i 0).toNat) ir0).v) (((zs.getD ((((so.getD n ir0).xs).getD i 0).toNat) ir0).xs).length) (((zs.getD ((((so.getD n ir0).xs).getD i 0).toNat) ir0).xs).map (Value.int .i64)), bigE ((zs.map irPart).eraseIdx ((((so.getD n ir0).xs).getD i 0).toNat)), irsE v2 so, rowE 28 1 (.slice (some ⟨g5, 0, none⟩) ((List.replicate (allI d).toNat ir0).length) ((List.replicate (allI d).toNat ir0).length)) zs.length (zs.flatMap irC), boxE b6 #[v2, .slice (some ⟨g5, 0, none⟩) ((List.replicate (allI d).toNat ir0).length) ((List.replicate (allI d).toNat ir0).length)] 65, boxE b1 #[.int .i64 d.W, .int .i64 d.H, .int .i64 d.T, .int .i64 d.R] 25] (conv_irFocus (es := zs) (j := ((((so.getD n ir0).xs).getD i 0).toNat)) (by omega)) ?_
    refine hc_draw4 (l := [bigE ((zs.map irPart).eraseIdx ((((so.getD n ir0).xs).getD i 0).toNat)), irsE v2 so, rowE 28 1 (.slice (some ⟨g5, 0, none⟩) ((List.replicate (allI d).toNat ir0).length) ((List.replicate (allI d).toNat ir0).length)) zs.length (zs.flatMap irC), boxE b6 #[v2, .slice (some ⟨g5, 0, none⟩) ((List.replicate (allI d).toNat ir0).length) ((List.replicate (allI d).toNat ir0).length)] 65, boxE b1 #[.int .i64 d.W, .int .i64 d.H, .int .i64 d.T, .int .i64 d.R] 25]) (by kernel_rfl) 15 [0, 1, 2, 3, 4, 5, 6, 7, 8, 9, 10, 11, 12, 13, 14] (List.take 15 _) (List.drop 15 _) [[], [0], [1], [2], [], [], [5], [6], [7], [], [8, 9], [10], [], [12], [11, 13]] [some 31, some 32, some 33, some 34, some 35, some 36, some 37, some 38, some 39, some 40, some 41, some 42, some 43, some 44, some 45] (fun i_ vs_ v_ p_ => match i_ with | 0 => v_ = .pointer (some ⟨b6, 0, none⟩) ∧ p_ = [] | 1 => v_ = .pointer (some ⟨b6, 0, none⟩) ∧ p_ = [] | 2 => v_ = .pointer (some ⟨b6, 0 + 1, none⟩) ∧ p_ = [] | 3 => v_ = .slice (some ⟨g5, 0, none⟩) ((List.replicate (allI d).toNat ir0).length) ((List.replicate (allI d).toNat ir0).length) ∧ p_ = [] | 4 => v_ = .int .i64 (((so.getD n ir0).xs).getD i 0) ∧ p_ = [] | 5 => v_ = .pointer (some ⟨b6, 0, none⟩) ∧ p_ = [] | 6 => v_ = .pointer (some ⟨b6, 0, none⟩) ∧ p_ = [] | 7 => v_ = .pointer (some ⟨b6, 0 + 1, none⟩) ∧ p_ = [] | 8 => v_ = .slice (some ⟨g5, 0, none⟩) ((List.replicate (allI d).toNat ir0).length) ((List.replicate (allI d).toNat ir0).length) ∧ p_ = [] | 9 => v_ = .int .i64 (((so.getD n ir0).xs).getD i 0) ∧ p_ = [] | 10 => v_ = elP (.slice (some ⟨g5, 0, none⟩) ((List.replicate (allI d).toNat ir0).length) ((List.replicate (allI d).toNat ir0).length)) ((((so.getD n ir0).xs).getD i 0).toNat * 1) ∧ p_ = [] | 11 => v_ = (zs.getD ((((so.getD n ir0).xs).getD i 0).toNat) ir0).v ∧ p_ = [] | 12 => v_ = .int .i64 (n : Int) ∧ p_ = [] | 13 => IsRow_o 3 1 1 ([(n : Int)].map (Value.int .i64)) v_ p_ | 14 => (∃ pm_, p_ = [pm_] ∧ (fun u_ p_ => p_ = rowE 3 1 u_ ((((zs.getD ((((so.getD n ir0).xs).getD i 0).toNat) ir0).xs) ++ ([(n : Int)])).length) ((((zs.getD ((((so.getD n ir0).xs).getD i 0).toNat) ir0).xs) ++ ([(n : Int)])).map (Value.int .i64))) v_ pm_) | _ => True) [[], [0], [1], [2], [], [], [5], [6], [7], [], [8, 9], [10], [], [12], [11, 13]] [none, none, none, none, none, none, none, none, none, none, none, none, none, none, some 17] [[rowE 3 1 ((zs.getD ((((so.getD n ir0).xs).getD i 0).toNat) ir0).v) (((zs.getD ((((so.getD n ir0).xs).getD i 0).toNat) ir0).xs).length) (((zs.getD ((((so.getD n ir0).xs).getD i 0).toNat) ir0).xs).map (Value.int .i64))]] [0, 1, 2, 3, 4, 5, 6, 7, 8, 9, 10, 11, 12, 13, 14] 17 (List.take_append_drop 15 _).symm (by kernel_rfl) (by kernel_rfl) (by kernel_rfl) rfl rfl ?_ ?_
    ·
     refine ⟨?_, ?_, ?_, ?_, ?_, ?_, ?_, ?_, ?_, ?_, ?_, ?_, ?_, ?_, ?_, trivial⟩
     ·
      intro vf pf hmu hR
      refine Or.inl ⟨rfl, ?_⟩
      show RunQ _ _ _ (([] : List Nat).flatMap pf ++ _) (envOf3 _ vf [] ++ _) _ _
      refine rq_less (sx 3 rfl (sub_nil _)) (List.sublist_append_right _ _) ?_
      exact rq_v (rv_ev rfl)
     ·
      intro vf pf hmu hR
      have e0 : (vf 0) = .pointer (some ⟨b6, 0, none⟩) ∧ (pf 0) = [] := hR 0 (by decide)
      refine Or.inl ⟨rfl, ?_⟩
      show RunQ _ _ _ (([0] : List Nat).flatMap pf ++ _) (envOf3 _ vf [0] ++ _) _ _
      refine rq_less (sx 31 (congrArg some e0.1) (sub_nil _)) (List.sublist_append_right _ _) ?_
      exact rq_v (rv_nilCheck rfl rfl)
     ·
      intro vf pf hmu hR
      have e1 : (vf 1) = .pointer (some ⟨b6, 0, none⟩) ∧ (pf 1) = [] := hR 1 (by decide)
      refine Or.inl ⟨rfl, ?_⟩
      show RunQ _ _ _ (([1] : List Nat).flatMap pf ++ _) (envOf3 _ vf [1] ++ _) _ _
      refine rq_less (sx 32 (congrArg some e1.1) (sub_nil _)) (List.sublist_append_right _ _) ?_
      exact rq_v (rv_field (k0 := 1) rfl (by kernel_rfl) rfl)
     ·
      intro vf pf hmu hR
      have e2 : (vf 2) = .pointer (some ⟨b6, 0 + 1, none⟩) ∧ (pf 2) = [] := hR 2 (by decide)
      refine Or.inl ⟨rfl, ?_⟩
      show RunQ _ _ _ (([2] : List Nat).flatMap pf ++ _) (envOf3 _ vf [2] ++ _) _ _
      refine rq_less (sx 33 (congrArg some e2.1) (sub_nil _)) (List.sublist_append_right _ _) ?_
      exact rq_v (rv_load rfl (by kernel_rfl) rfl (box_cell 3 rfl rfl))
     ·
      intro vf pf hmu hR
      refine Or.inl ⟨rfl, ?_⟩
      show RunQ _ _ _ (([] : List Nat).flatMap pf ++ _) (envOf3 _ vf [] ++ _) _ _
      refine rq_less (sx 7 rfl (sub_nil _)) (List.sublist_append_right _ _) ?_
      exact rq_v (rv_ev rfl)
     ·
      intro vf pf hmu hR
      refine Or.inl ⟨rfl, ?_⟩
      show RunQ _ _ _ (([] : List Nat).flatMap pf ++ _) (envOf3 _ vf [] ++ _) _ _
      refine rq_less (sx 3 rfl (sub_nil _)) (List.sublist_append_right _ _) ?_
      exact rq_v (rv_ev rfl)
     ·
      intro vf pf hmu hR
      have e5 : (vf 5) = .pointer (some ⟨b6, 0, none⟩) ∧ (pf 5) = [] := hR 5 (by decide)
      refine Or.inl ⟨rfl, ?_⟩
      show RunQ _ _ _ (([5] : List Nat).flatMap pf ++ _) (envOf3 _ vf [5] ++ _) _ _
      refine rq_less (sx 36 (congrArg some e5.1) (sub_nil _)) (List.sublist_append_right _ _) ?_
      exact rq_v (rv_nilCheck rfl rfl)
     ·
      intro vf pf hmu hR
      have e6 : (vf 6) = .pointer (some ⟨b6, 0, none⟩) ∧ (pf 6) = [] := hR 6 (by decide)
      refine Or.inl ⟨rfl, ?_⟩
      show RunQ _ _ _ (([6] : List Nat).flatMap pf ++ _) (envOf3 _ vf [6] ++ _) _ _
      refine rq_less (sx 37 (congrArg some e6.1) (sub_nil _)) (List.sublist_append_right _ _) ?_
      exact rq_v (rv_field (k0 := 1) rfl (by kernel_rfl) rfl)
     ·
      intro vf pf hmu hR
      have e7 : (vf 7) = .pointer (some ⟨b6, 0 + 1, none⟩) ∧ (pf 7) = [] := hR 7 (by decide)
      refine Or.inl ⟨rfl, ?_⟩
      show RunQ _ _ _ (([7] : List Nat).flatMap pf ++ _) (envOf3 _ vf [7] ++ _) _ _
      refine rq_less (sx 38 (congrArg some e7.1) (sub_nil _)) (List.sublist_append_right _ _) ?_
      exact rq_v (rv_load rfl (by kernel_rfl) rfl (box_cell 3 rfl rfl))
     ·
      intro vf pf hmu hR
      refine Or.inl ⟨rfl, ?_⟩
      show RunQ _ _ _ (([] : List Nat).flatMap pf ++ _) (envOf3 _ vf [] ++ _) _ _
      refine rq_less (sx 7 rfl (sub_nil _)) (List.sublist_append_right _ _) ?_
      exact rq_v (rv_ev rfl)
     ·
      intro vf pf hmu hR
      have e8 : (vf 8) = .slice (some ⟨g5, 0, none⟩) ((List.replicate (allI d).toNat ir0).length) ((List.replicate (allI d).toNat ir0).length) ∧ (pf 8) = [] := hR 8 (by decide)
      have e9 : (vf 9) = .int .i64 (((so.getD n ir0).xs).getD i 0) ∧ (pf 9) = [] := hR 9 (by decide)
      refine Or.inl ⟨rfl, ?_⟩
      show RunQ _ _ _ (([8, 9] : List Nat).flatMap pf ++ _) (envOf3 _ vf [8, 9] ++ _) _ _
      refine rq_less (sx 39 (congrArg some e8.1) (sx 40 (congrArg some e9.1) (sub_nil _))) (List.sublist_append_right _ _) ?_
      exact rq_v (rv_index (s := 1) rfl Try.underlying63 (by kernel_rfl) rfl rfl (rd_row 2 rfl) (by omega) (by first | omega | (simp only [List.length_set]; omega)))
     ·
      intro vf pf hmu hR
      have e10 : (vf 10) = elP (.slice (some ⟨g5, 0, none⟩) ((List.replicate (allI d).toNat ir0).length) ((List.replicate (allI d).toNat ir0).length)) ((((so.getD n ir0).xs).getD i 0).toNat * 1) ∧ (pf 10) = [] := hR 10 (by decide)
      refine Or.inl ⟨rfl, ?_⟩
      show RunQ _ _ _ (([10] : List Nat).flatMap pf ++ _) (envOf3 _ vf [10] ++ _) _ _
      refine rq_less (sx 41 (congrArg some e10.1) (sub_nil _)) (List.sublist_append_right _ _) ?_
      exact rq_v (rv_loadEl (u := (zs.getD ((((so.getD n ir0).xs).getD i 0).toNat) ir0).v) rfl (by kernel_rfl) rfl (rd_row 2 rfl) (flat_one irC (fun r => r.v) (fun _ => rfl) zs ir0 (show (((so.getD n ir0).xs).getD i 0).toNat < _ by first | omega | (simp only [List.length_set]; omega))))
     ·
      intro vf pf hmu hR
      refine Or.inl ⟨rfl, ?_⟩
      show RunQ _ _ _ (([] : List Nat).flatMap pf ++ _) (envOf3 _ vf [] ++ _) _ _
      refine rq_less (sx 4 rfl (sub_nil _)) (List.sublist_append_right _ _) ?_
      exact rq_v (rv_ev rfl)
     ·
      intro vf pf hmu hR
      have e12 : (vf 12) = .int .i64 (n : Int) ∧ (pf 12) = [] := hR 12 (by decide)
      refine Or.inl ⟨rfl, ?_⟩
      show RunQ _ _ _ (([12] : List Nat).flatMap pf ++ _) (envOf3 _ vf [12] ++ _) _ _
      refine rq_less (sx 43 (congrArg some e12.1) (sub_nil _)) (List.sublist_append_right _ _) ?_
      exact rq_buildSlice (z := .int .i64 0) (s := 1) (cs := ([(n : Int)].map (Value.int .i64))) rfl Try.underlying28 (by kernel_rfl) (by decide) rfl (by kernel_rfl) rfl
     ·
      intro vf pf hmu hR
      have e11 : (vf 11) = (zs.getD ((((so.getD n ir0).xs).getD i 0).toNat) ir0).v ∧ (pf 11) = [] := hR 11 (by decide)
      have e13 : IsRow_o 3 1 1 ([(n : Int)].map (Value.int .i64)) (vf 13) (pf 13) := hR 13 (by decide)
      obtain ⟨g11, v13, p13⟩ := e13
      refine Or.inl ⟨rfl, ?_⟩
      show RunM _ _ _ (pf 17) (([11, 13] : List Nat).flatMap pf ++ _) (envOf3 _ vf [11, 13] ++ _) _ _
      have hmu0 : pf 17 = [rowE 3 1 ((zs.getD ((((so.getD n ir0).xs).getD i 0).toNat) ir0).v) (((zs.getD ((((so.getD n ir0).xs).getD i 0).toNat) ir0).xs).length) (((zs.getD ((((so.getD n ir0).xs).getD i 0).toNat) ir0).xs).map (Value.int .i64))] := hmu 0 (show 0 < 1 by omega)
      rw [hmu0]
      refine rm_less (X' := [rowE 3 1 (.slice (some ⟨g11, 0, none⟩) 1 1) 1 ([(n : Int)].map (Value.int .i64)), bigE ((zs.map irPart).eraseIdx ((((so.getD n ir0).xs).getD i 0).toNat)), irsE v2 so, rowE 28 1 (.slice (some ⟨g5, 0, none⟩) ((List.replicate (allI d).toNat ir0).length) ((List.replicate (allI d).toNat ir0).length)) zs.length (zs.flatMap irC), boxE b6 #[v2, .slice (some ⟨g5, 0, none⟩) ((List.replicate (allI d).toNat ir0).length) ((List.replicate (allI d).toNat ir0).length)] 65, boxE b1 #[.int .i64 d.W, .int .i64 d.H, .int .i64 d.T, .int .i64 d.R] 25]) (sx 42 (congrArg some e11.1) (sx 44 (congrArg some v13) (sub_nil _))) (by first | (simp only [p13, v13, e11.2, List.flatMap_cons, List.flatMap_nil, List.append_nil, List.nil_append, List.cons_append]; exact List.Sublist.refl _) | simp [p13, v13, e11.2]) ?_
      exact rm_append (d := 0) (z := .int .i64 0) (bytes := 8) (n' := (((zs.getD ((((so.getD n ir0).xs).getD i 0).toNat) ir0).xs) ++ ([(n : Int)])).length) (xs' := ((((zs.getD ((((so.getD n ir0).xs).getD i 0).toNat) ir0).xs) ++ ([(n : Int)])).map (Value.int .i64))) rfl Try.underlying28 (by kernel_rfl) (by kernel_rfl) rfl rfl (rd_row 0 rfl) (ints_one _) (by simp only [List.length_cons, List.length_nil]; omega) (len_app ((zs.getD ((((so.getD n ir0).xs).getD i 0).toNat) ir0).xs) ([(n : Int)])) (ints_app ((zs.getD ((((so.getD n ir0).xs).getD i 0).toNat) ir0).xs) ([(n : Int)]))
    ·
     intro vf pf hmu hR
     have e3 : (vf 3) = .slice (some ⟨g5, 0, none⟩) ((List.replicate (allI d).toNat ir0).length) ((List.replicate (allI d).toNat ir0).length) ∧ (pf 3) = [] := hR 3 (by decide)
     have e4 : (vf 4) = .int .i64 (((so.getD n ir0).xs).getD i 0) ∧ (pf 4) = [] := hR 4 (by decide)
     have e13 : IsRow_o 3 1 1 ([(n : Int)].map (Value.int .i64)) (vf 13) (pf 13) := hR 13 (by decide)
     obtain ⟨g11, v13, p13⟩ := e13
     have e14 : (∃ pm_, (pf 14) = [pm_] ∧ (fun u_ p_ => p_ = rowE 3 1 u_ ((((zs.getD ((((so.getD n ir0).xs).getD i 0).toNat) ir0).xs) ++ ([(n : Int)])).length) ((((zs.getD ((((so.getD n ir0).xs).getD i 0).toNat) ir0).xs) ++ ([(n : Int)])).map (Value.int .i64))) (vf 14) pm_) := hR 14 (by decide)
     obtain ⟨p13, p14, hR14⟩ := e14
     obtain ⟨v12, v14⟩ : ∃ x, vf 14 = x := ⟨_, rfl⟩
     rw [v14] at hR14
     subst hR14
     have q0 : (vf 0) = .pointer (some ⟨b6, 0, none⟩) ∧ (pf 0) = [] := hR 0 (by decide)
     have q1 : (vf 1) = .pointer (some ⟨b6, 0, none⟩) ∧ (pf 1) = [] := hR 1 (by decide)
     have q2 : (vf 2) = .pointer (some ⟨b6, 0 + 1, none⟩) ∧ (pf 2) = [] := hR 2 (by decide)
     have q3 : (vf 3) = .slice (some ⟨g5, 0, none⟩) ((List.replicate (allI d).toNat ir0).length) ((List.replicate (allI d).toNat ir0).length) ∧ (pf 3) = [] := hR 3 (by decide)
     have q4 : (vf 4) = .int .i64 (((so.getD n ir0).xs).getD i 0) ∧ (pf 4) = [] := hR 4 (by decide)
     have q5 : (vf 5) = .pointer (some ⟨b6, 0, none⟩) ∧ (pf 5) = [] := hR 5 (by decide)
     have q6 : (vf 6) = .pointer (some ⟨b6, 0, none⟩) ∧ (pf 6) = [] := hR 6 (by decide)
     have q7 : (vf 7) = .pointer (some ⟨b6, 0 + 1, none⟩) ∧ (pf 7) = [] := hR 7 (by decide)
     have q8 : (vf 8) = .slice (some ⟨g5, 0, none⟩) ((List.replicate (allI d).toNat ir0).length) ((List.replicate (allI d).toNat ir0).length) ∧ (pf 8) = [] := hR 8 (by decide)
     have q9 : (vf 9) = .int .i64 (((so.getD n ir0).xs).getD i 0) ∧ (pf 9) = [] := hR 9 (by decide)
     have q10 : (vf 10) = elP (.slice (some ⟨g5, 0, none⟩) ((List.replicate (allI d).toNat ir0).length) ((List.replicate (allI d).toNat ir0).length)) ((((so.getD n ir0).xs).getD i 0).toNat * 1) ∧ (pf 10) = [] := hR 10 (by decide)
     have q11 : (vf 11) = (zs.getD ((((so.getD n ir0).xs).getD i 0).toNat) ir0).v ∧ (pf 11) = [] := hR 11 (by decide)
     have q12 : (vf 12) = .int .i64 (n : Int) ∧ (pf 12) = [] := hR 12 (by decide)
     refine hl_less (l' := [rowE 3 1 (.slice (some ⟨g11, 0, none⟩) 1 1) 1 ([(n : Int)].map (Value.int .i64)), rowE 3 1 v12 ((((zs.getD ((((so.getD n ir0).xs).getD i 0).toNat) ir0).xs) ++ ([(n : Int)])).length) ((((zs.getD ((((so.getD n ir0).xs).getD i 0).toNat) ir0).xs) ++ ([(n : Int)])).map (Value.int .i64)), bigE ((zs.map irPart).eraseIdx ((((so.getD n ir0).xs).getD i 0).toNat)), irsE v2 so, rowE 28 1 (.slice (some ⟨g5, 0, none⟩) ((List.replicate (allI d).toNat ir0).length) ((List.replicate (allI d).toNat ir0).length)) zs.length (zs.flatMap irC), boxE b6 #[v2, .slice (some ⟨g5, 0, none⟩) ((List.replicate (allI d).toNat ir0).length) ((List.replicate (allI d).toNat ir0).length)] 65, boxE b1 #[.int .i64 d.W, .int .i64 d.H, .int .i64 d.T, .int .i64 d.R] 25]) (sx 0 rfl (sx 1 rfl (sx 2 rfl (sx 3 rfl (sx 4 rfl (sx 5 rfl (sx 7 rfl (sx 18 rfl (sx 19 rfl (sx 20 rfl (sx 21 rfl (sx 25 rfl (sx 26 rfl (sx 27 rfl (sx 28 rfl (sx 34 (congrArg some e3.1) (sx 35 (congrArg some e4.1) (sx 45 (congrArg some v14) (sub_nil _))))))))))))))))))) (by first | (simp only [p13, v13, p14, v14, q0.2, q1.2, q2.2, q3.2, q4.2, q5.2, q6.2, q7.2, q8.2, q9.2, q10.2, q11.2, q12.2, List.flatMap_cons, List.flatMap_nil, List.append_nil, List.nil_append, List.cons_append]; exact List.Sublist.refl _) | simp [p13, v13, p14, v14, q0.2, q1.2, q2.2, q3.2, q4.2, q5.2, q6.2, q7.2, q8.2, q9.2, q10.2, q11.2, q12.2]) ?_
     simp only [List.drop_succ_cons, List.drop_zero]
     refine hl_v rfl rfl rfl (rv_index (s := 1) rfl Try.underlying63 (by kernel_rfl) rfl rfl (rd_row 4 rfl) (by omega) (by first | omega | (simp only [List.length_set]; omega))) ?_
     refine hl_one (i := 1) rfl (fun ho15 => ?_)
     refine hl_storeEl (i := 4) (n' := (zs.set ((((so.getD n ir0).xs).getD i 0).toNat) (IR.mk v12 (((zs.getD ((((so.getD n ir0).xs).getD i 0).toNat) ir0).xs) ++ ([(n : Int)])))).length) (xs' := ((zs.set ((((so.getD n ir0).xs).getD i 0).toNat) (IR.mk v12 (((zs.getD ((((so.getD n ir0).xs).getD i 0).toNat) ir0).xs) ++ ([(n : Int)])))).flatMap irC)) (l' := [rowE 3 1 (.slice (some ⟨g11, 0, none⟩) 1 1) 1 ([(n : Int)].map (Value.int .i64)), rowE 3 1 v12 ((((zs.getD ((((so.getD n ir0).xs).getD i 0).toNat) ir0).xs) ++ ([(n : Int)])).length) ((((zs.getD ((((so.getD n ir0).xs).getD i 0).toNat) ir0).xs) ++ ([(n : Int)])).map (Value.int .i64)), bigE ((zs.map irPart).eraseIdx ((((so.getD n ir0).xs).getD i 0).toNat)), irsE v2 so, rowE 28 1 (.slice (some ⟨g5, 0, none⟩) ((List.replicate (allI d).toNat ir0).length) ((List.replicate (allI d).toNat ir0).length)) ((zs.set ((((so.getD n ir0).xs).getD i 0).toNat) (IR.mk v12 (((zs.getD ((((so.getD n ir0).xs).getD i 0).toNat) ir0).xs) ++ ([(n : Int)])))).length) ((zs.set ((((so.getD n ir0).xs).getD i 0).toNat) (IR.mk v12 (((zs.getD ((((so.getD n ir0).xs).getD i 0).toNat) ir0).xs) ++ ([(n : Int)])))).flatMap irC), boxE b6 #[v2, .slice (some ⟨g5, 0, none⟩) ((List.replicate (allI d).toNat ir0).length) ((List.replicate (allI d).toNat ir0).length)] 65, boxE b1 #[.int .i64 d.W, .int .i64 d.H, .int .i64 d.T, .int .i64 d.R] 25]) rfl rfl rfl (by kernel_rfl) rfl rfl ho15 rfl (by first | omega | (simp only [List.length_set]; omega)) List.length_set.symm (flat_set1 irC (fun r => r.v) (fun _ => rfl) _ (IR.mk v12 (((zs.getD ((((so.getD n ir0).xs).getD i 0).toNat) ir0).xs) ++ ([(n : Int)]))) rfl) rfl ?_
     refine hl_conv [rowE 3 1 v12 ((((zs.getD ((((so.getD n ir0).xs).getD i 0).toNat) ir0).xs) ++ ([(n : Int)])).length) ((((zs.getD ((((so.getD n ir0).xs).getD i 0).toNat) ir0).xs) ++ ([(n : Int)])).map (Value.int .i64)), bigE ((zs.map irPart).eraseIdx ((((so.getD n ir0).xs).getD i 0).toNat)), rowE 3 1 (.slice (some ⟨g11, 0, none⟩) 1 1) 1 ([(n : Int)].map (Value.int .i64)), irsE v2 so, rowE 28 1 (.slice (some ⟨g5, 0, none⟩) ((List.replicate (allI d).toNat ir0).length) ((List.replicate (allI d).toNat ir0).length)) ((zs.set ((((so.getD n ir0).xs).getD i 0).toNat) (IR.mk v12 (((zs.getD ((((so.getD n ir0).xs).getD i 0).toNat) ir0).xs) ++ ([(n : Int)])))).length) ((zs.set ((((so.getD n ir0).xs).getD i 0).toNat) (IR.mk v12 (((zs.getD ((((so.getD n ir0).xs).getD i 0).toNat) ir0).xs) ++ ([(n : Int)])))).flatMap irC), boxE b6 #[v2, .slice (some ⟨g5, 0, none⟩) ((List.replicate (allI d).toNat ir0).length) ((List.replicate (allI d).toNat ir0).length)] 65, boxE b1 #[.int .i64 d.W, .int .i64 d.H, .int .i64 d.T, .int .i64 d.R] 25] (conv_pick (src := [rowE 3 1 (.slice (some ⟨g11, 0, none⟩) 1 1) 1 ([(n : Int)].map (Value.int .i64)), rowE 3 1 v12 ((((zs.getD ((((so.getD n ir0).xs).getD i 0).toNat) ir0).xs) ++ ([(n : Int)])).length) ((((zs.getD ((((so.getD n ir0).xs).getD i 0).toNat) ir0).xs) ++ ([(n : Int)])).map (Value.int .i64)), bigE ((zs.map irPart).eraseIdx ((((so.getD n ir0).xs).getD i 0).toNat)), irsE v2 so, rowE 28 1 (.slice (some ⟨g5, 0, none⟩) ((List.replicate (allI d).toNat ir0).length) ((List.replicate (allI d).toNat ir0).length)) ((zs.set ((((so.getD n ir0).xs).getD i 0).toNat) (IR.mk v12 (((zs.getD ((((so.getD n ir0).xs).getD i 0).toNat) ir0).xs) ++ ([(n : Int)])))).length) ((zs.set ((((so.getD n ir0).xs).getD i 0).toNat) (IR.mk v12 (((zs.getD ((((so.getD n ir0).xs).getD i 0).toNat) ir0).xs) ++ ([(n : Int)])))).flatMap irC), boxE b6 #[v2, .slice (some ⟨g5, 0, none⟩) ((List.replicate (allI d).toNat ir0).length) ((List.replicate (allI d).toNat ir0).length)] 65, boxE b1 #[.int .i64 d.W, .int .i64 d.H, .int .i64 d.T, .int .i64 d.R] 25]) (dst := [rowE 3 1 v12 ((((zs.getD ((((so.getD n ir0).xs).getD i 0).toNat) ir0).xs) ++ ([(n : Int)])).length) ((((zs.getD ((((so.getD n ir0).xs).getD i 0).toNat) ir0).xs) ++ ([(n : Int)])).map (Value.int .i64)), bigE ((zs.map irPart).eraseIdx ((((so.getD n ir0).xs).getD i 0).toNat)), rowE 3 1 (.slice (some ⟨g11, 0, none⟩) 1 1) 1 ([(n : Int)].map (Value.int .i64)), irsE v2 so, rowE 28 1 (.slice (some ⟨g5, 0, none⟩) ((List.replicate (allI d).toNat ir0).length) ((List.replicate (allI d).toNat ir0).length)) ((zs.set ((((so.getD n ir0).xs).getD i 0).toNat) (IR.mk v12 (((zs.getD ((((so.getD n ir0).xs).getD i 0).toNat) ir0).xs) ++ ([(n : Int)])))).length) ((zs.set ((((so.getD n ir0).xs).getD i 0).toNat) (IR.mk v12 (((zs.getD ((((so.getD n ir0).xs).getD i 0).toNat) ir0).xs) ++ ([(n : Int)])))).flatMap irC), boxE b6 #[v2, .slice (some ⟨g5, 0, none⟩) ((List.replicate (allI d).toNat ir0).length) ((List.replicate (allI d).toNat ir0).length)] 65, boxE b1 #[.int .i64 d.W, .int .i64 d.H, .int .i64 d.T, .int .i64 d.R] 25]) (l := []) [1, 2, 0, 3, 4, 5, 6] (by decide) rfl) ?_
     refine hl_conv [bigE ((zs.set ((((so.getD n ir0).xs).getD i 0).toNat) (IR.mk v12 (((zs.getD ((((so.getD n ir0).xs).getD i 0).toNat) ir0).xs) ++ ([(n : Int)])))).map irPart), rowE 3 1 (.slice (some ⟨g11, 0, none⟩) 1 1) 1 ([(n : Int)].map (Value.int .i64)), irsE v2 so, rowE 28 1 (.slice (some ⟨g5, 0, none⟩) ((List.replicate (allI d).toNat ir0).length) ((List.replicate (allI d).toNat ir0).length)) ((zs.set ((((so.getD n ir0).xs).getD i 0).toNat) (IR.mk v12 (((zs.getD ((((so.getD n ir0).xs).getD i 0).toNat) ir0).xs) ++ ([(n : Int)])))).length) ((zs.set ((((so.getD n ir0).xs).getD i 0).toNat) (IR.mk v12 (((zs.getD ((((so.getD n ir0).xs).getD i 0).toNat) ir0).xs) ++ ([(n : Int)])))).flatMap irC), boxE b6 #[v2, .slice (some ⟨g5, 0, none⟩) ((List.replicate (allI d).toNat ir0).length) ((List.replicate (allI d).toNat ir0).length)] 65, boxE b1 #[.int .i64 d.W, .int .i64 d.H, .int .i64 d.T, .int .i64 d.R] 25] (conv_irUnfocus (es := zs) (j := (((so.getD n ir0).xs).getD i 0).toNat) (e' := (IR.mk v12 (((zs.getD ((((so.getD n ir0).xs).getD i 0).toNat) ir0).xs) ++ ([(n : Int)])))) (by first | omega | (simp only [List.length_set]; omega))) ?_
     refine hl_less (sx 0 rfl (sx 1 rfl (sx 2 rfl (sx 3 rfl (sx 4 rfl (sx 5 rfl (sx 7 rfl (sx 18 rfl (sx 19 rfl (sx 20 rfl (sx 21 rfl (sx 25 rfl (sx 26 rfl (sx 27 rfl (sx 28 rfl (sub_nil _)))))))))))))))) (.refl _) ?_
     refine hl_nil ?_
     refine hq_block_normal ?_
     refine hq_then ?_
     refine hc_region ?_
     refine hl_v rfl rfl rfl (rv_add rfl rfl rfl (by constructor <;> omega)) ?_
     refine hl_v rfl rfl rfl (rv_ev rfl) ?_
     refine hl_less (sx 0 rfl (sx 1 rfl (sx 2 rfl (sx 3 rfl (sx 4 rfl (sx 5 rfl (sx 7 rfl (sx 18 rfl (sx 19 rfl (sx 20 rfl (sx 21 rfl (sx 25 rfl (sx 26 rfl (sx 27 rfl (sx 28 rfl (sub_nil _)))))))))))))))) (.refl _) ?_
     refine hl_nil ?_
     exact hq_round2 (i + 1) (zs.set ((((so.getD n ir0).xs).getD i 0).toNat) (IR.mk v12 (((zs.getD ((((so.getD n ir0).xs).getD i 0).toNat) ir0).xs) ++ ([(n : Int)])))) ⟨by omega, hz.step (by rw [← hsn]; omega) (by rw [← hsn]) hx0 hx1⟩ (by omega) (sx 0 rfl (sx 1 rfl (sx 2 rfl (sx 3 rfl (sx 4 rfl (sx 5 rfl (sx 18 rfl (sx 19 rfl (sx 20 rfl (sx 21 rfl (sx 25 rfl (sx 26 rfl (sx 27 rfl (sub_nil _)))))))))))))) ((.cons_cons _ (.cons _ (.cons_cons _ (.cons_cons _ (.cons_cons _ (.cons_cons _ .slnil)))))))
   ·
    refine hl_less (sx 0 rfl (sx 1 rfl (sx 2 rfl (sx 3 rfl (sx 4 rfl (sx 5 rfl (sx 18 rfl (sx 19 rfl (sx 20 rfl (sx 21 rfl (sx 25 rfl (sx 26 rfl (sx 27 rfl (sx 28 rfl (sub_nil _))))))))))))))) (.refl _) ?_
    refine hl_nil ?_
    refine hq_then ?_
    refine hc_seq ?_
    refine hc_false rfl ?_
    refine hc_exit ?_
    refine hq_then_exit ?_
    refine hq_then_exit ?_
    refine hq_block_exit ?_
    refine hq_block_normal ?_
    refine hq_then ?_
    refine hc_region ?_
    refine hl_v rfl rfl rfl (rv_add rfl rfl rfl (by constructor <;> omega)) ?_
    refine hl_v rfl rfl rfl (rv_ev rfl) ?_
    refine hl_less (sx 0 rfl (sx 1 rfl (sx 2 rfl (sx 3 rfl (sx 4 rfl (sx 5 rfl (sx 18 rfl (sx 19 rfl (sx 20 rfl (sx 21 rfl (sx 25 rfl (sx 26 rfl (sx 27 rfl (sx 28 rfl (sub_nil _))))))))))))))) (.refl _) ?_
    refine hl_nil ?_
    exact hq_round2 (n + 1) zs ⟨by omega, hz.next (by rw [← hsn]; omega)⟩ (by omega) (sx 0 rfl (sx 1 rfl (sx 2 rfl (sx 3 rfl (sx 18 rfl (sx 19 rfl (sx 20 rfl (sub_nil _)))))))) ((.cons_cons _ (.cons_cons _ (.cons_cons _ (.cons_cons _ (.cons_cons _ .slnil))))))
  ·
   refine hl_less (sx 0 rfl (sx 1 rfl (sx 2 rfl (sx 3 rfl (sx 18 rfl (sx 19 rfl (sx 20 rfl (sx 21 rfl (sub_nil _))))))))) (.refl _) ?_
   refine hl_nil ?_
   refine hq_then ?_
   refine hc_seq ?_
   refine hc_false rfl ?_
   refine hc_exit ?_
   refine hq_then_exit ?_
   refine hq_then_exit ?_
   refine hq_block_exit ?_
   refine hq_then ?_
   refine hc_seq ?_
   refine hc_region ?_
   refine hl_v rfl rfl rfl (rv_ev rfl) ?_
   refine hl_v rfl rfl rfl (rv_ev rfl) ?_
   refine hl_less (sx 0 rfl (sx 1 rfl (sx 2 rfl (sx 3 rfl (sx 18 rfl (sx 19 rfl (sx 20 rfl (sx 21 rfl (sub_nil _))))))))) (.refl _) ?_
   refine hl_nil ?_
   refine hq_then ?_
   refine hc_ret ?_
   have hnN : n = (allI d).toNat := by omega
   subst hnN
   refine hq_conv [bigE (ks.map irPart), rowE 28 1 (.slice (some ⟨g5, 0, none⟩) ((List.replicate (allI d).toNat ir0).length) ((List.replicate (allI d).toNat ir0).length)) ks.length (ks.flatMap irC), irsE v2 so, boxE b6 #[v2, .slice (some ⟨g5, 0, none⟩) ((List.replicate (allI d).toNat ir0).length) ((List.replicate (allI d).toNat ir0).length)] 65] (conv_pick (src := [bigE (ks.map irPart), irsE v2 so, rowE 28 1 (.slice (some ⟨g5, 0, none⟩) ((List.replicate (allI d).toNat ir0).length) ((List.replicate (allI d).toNat ir0).length)) ks.length (ks.flatMap irC), boxE b6 #[v2, .slice (some ⟨g5, 0, none⟩) ((List.replicate (allI d).toNat ir0).length) ((List.replicate (allI d).toNat ir0).length)] 65, boxE b1 #[.int .i64 d.W, .int .i64 d.H, .int .i64 d.T, .int .i64 d.R] 25]) (dst := [bigE (ks.map irPart), rowE 28 1 (.slice (some ⟨g5, 0, none⟩) ((List.replicate (allI d).toNat ir0).length) ((List.replicate (allI d).toNat ir0).length)) ks.length (ks.flatMap irC), irsE v2 so, boxE b6 #[v2, .slice (some ⟨g5, 0, none⟩) ((List.replicate (allI d).toNat ir0).length) ((List.replicate (allI d).toNat ir0).length)] 65]) (l := []) [0, 2, 1, 3] (by decide) rfl) ?_
   refine hq_conv [grE b6 (Gr.mk v2 (.slice (some ⟨g5, 0, none⟩) ((List.replicate (allI d).toNat ir0).length) ((List.replicate (allI d).toNat ir0).length)) so ks)] (fun w hm => by
     have h1 : Mem _ ([bigE (ks.map irPart), rowE 28 1 (.slice (some ⟨g5, 0, none⟩) ((List.replicate (allI d).toNat ir0).length) ((List.replicate (allI d).toNat ir0).length)) ks.length (ks.flatMap irC)] ++ (irsE v2 so :: boxE b6 #[v2, .slice (some ⟨g5, 0, none⟩) ((List.replicate (allI d).toNat ir0).length) ((List.replicate (allI d).toNat ir0).length)] 65 :: [])) w := hm
     have h2 : Mem _ (irsE (.slice (some ⟨g5, 0, none⟩) ((List.replicate (allI d).toNat ir0).length) ((List.replicate (allI d).toNat ir0).length)) ks :: irsE v2 so :: boxE b6 #[v2, .slice (some ⟨g5, 0, none⟩) ((List.replicate (allI d).toNat ir0).length) ((List.replicate (allI d).toNat ir0).length)] 65 :: []) w := h1.big
     have h3 : Mem _ ([boxE b6 #[v2, .slice (some ⟨g5, 0, none⟩) ((List.replicate (allI d).toNat ir0).length) ((List.replicate (allI d).toNat ir0).length)] 65, irsE v2 so, irsE (.slice (some ⟨g5, 0, none⟩) ((List.replicate (allI d).toNat ir0).length) ((List.replicate (allI d).toNat ir0).length)) ks] ++ []) w := h2.perm (List.reverse_perm [boxE b6 #[v2, .slice (some ⟨g5, 0, none⟩) ((List.replicate (allI d).toNat ir0).length) ((List.replicate (allI d).toNat ir0).length)] 65, irsE v2 so, irsE (.slice (some ⟨g5, 0, none⟩) ((List.replicate (allI d).toNat ir0).length) ((List.replicate (allI d).toNat ir0).length)) ks])
     exact h3.big) ?_
   exact hq_retR (post := [grE b6 (Gr.mk v2 (.slice (some ⟨g5, 0, none⟩) ((List.replicate (allI d).toNat ir0).length) ((List.replicate (allI d).toNat ir0).length)) so ks)]) rfl rfl ((.cons_cons _ .slnil)) ⟨b6, (Gr.mk v2 (.slice (some ⟨g5, 0, none⟩) ((List.replicate (allI d).toNat ir0).length) ((List.replicate (allI d).toNat ir0).length)) so ks), rfl, rfl, ⟨hso, hk⟩⟩
open Go.RowKit
theorem asc_at {ws : List Int} (h : ws.Pairwise (· < ·)) {i j : Nat} (hij : i < j) (hj : j < ws.length) : ws.getD i 0 < ws.getD j 0 := by
  have := List.pairwise_iff_getElem.1 h i j (by omega) hj hij
  rw [List.getD_eq_getElem?_getD, List.getD_eq_getElem?_getD, List.getElem?_eq_getElem hj, List.getElem?_eq_getElem (by omega)]; exact this
set_option maxHeartbeats 4000000 in
set_option maxRecDepth 100000 in
theorem strictlyAscending_yes (ws : List Int) (wv : Value) (w : World) (hwv : RdsW w wv 1 ws.length (ws.map (Value.int .i64))) (hwl : ws.length ≤ 100000) (hasc : ws.Pairwise (· < ·)) :
  Calls Try.prog 29 #[wv] w (Ans w (.bool true)) := by
 refine calls_hc (N := 20) (args := [wv]) Try.func29 rfl rfl ?_
 refine hc_less _ (sx 0 rfl (sub_nil _)) (.refl _) ?_
 refine hc_seq ?_
 refine hc_region ?_
 refine hl_v rfl rfl rfl (rv_ev rfl) ?_
 refine hl_less (sx 0 rfl (sx 2 rfl (sub_nil _))) (.refl _) ?_
 refine hl_nil ?_
 refine hq_then ?_
 refine hc_seq ?_
 refine hc_seq ?_
 refine hc_region ?_
 refine hl_v rfl rfl rfl (rv_ev rfl) ?_
 refine hl_less (sx 0 rfl (sx 2 rfl (sx 3 rfl (sub_nil _)))) (.refl _) ?_
 refine hl_nil ?_
 refine hq_then ?_
 refine hc_block ?_
 refine hc_loop1 (α := Nat) (fun i => []) (fun i => [(0, wv), (2, .bool false), (3, .int .i64 (i : Int))]) (fun i => 1 ≤ i ∧ i ≤ ws.length + 1) (fun i => ws.length + 1 - i) 1 ⟨by omega, by omega⟩ (sx 0 rfl (sx 2 rfl (sx 3 rfl (sub_nil _)))) (.slnil) ?_
 intro i hi1
 obtain ⟨hi0, hi⟩ := hi1
 refine hc_seq ?_
 refine hc_seq ?_
 refine hc_region ?_
 refine hl_v rfl rfl rfl (rv_ev rfl) ?_
 refine hl_v rfl rfl rfl (rv_ev rfl) ?_
 refine hl_v rfl rfl rfl (rv_len rfl Try.underlying28 rfl (rd_old hwv)) ?_
 refine hl_lss rfl rfl rfl rfl rfl rfl (fun h2 => ?_) (fun h2 => ?_)
 ·
  refine hl_less (sx 0 rfl (sx 2 rfl (sx 3 rfl (sx 7 rfl (sub_nil _))))) (.refl _) ?_
  refine hl_nil ?_
  refine hq_then ?_
  refine hc_true rfl ?_
  refine hc_skip ?_
  refine hq_then ?_
  refine hc_seq ?_
  refine hc_block ?_
  refine hc_seq ?_
  have hs9 : ws.getD ((i : Int) - 1).toNat 0 < ws.getD i 0 := asc_at hasc (by omega) (by omega)
  rcases Bool.eq_false_or_eq_true (decide (ws.getD i 0 ≤ ws.getD (((i : Int) - 1).toNat) 0)) with hb3 | hb3
  ·
   have hb3p : ws.getD i 0 ≤ ws.getD (((i : Int) - 1).toNat) 0 := of_decide_eq_true hb3
   have hs9 : ws.getD ((i : Int) - 1).toNat 0 < ws.getD i 0 := asc_at hasc (by omega) (by omega)
   refine hc_draw (by kernel_rfl) 10 [0, 1, 2, 3, 4, 5, 6, 7, 8, 9] (List.take 10 _) (List.drop 10 _) [[], [], [1], [0, 2], [3], [], [], [5, 6], [7], [4, 8]] [10, 11, 12, 13, 14, 15, 16, 17, 18, 19] (fun i_ vs_ v_ p_ => match i_ with | 0 => v_ = wv ∧ p_ = [] | 1 => v_ = .int .i64 (i : Int) ∧ p_ = [] | 2 => v_ = .int .i64 ((i : Int) - 1) ∧ p_ = [] | 3 => v_ = elP wv (((i : Int) - 1).toNat * 1) ∧ p_ = [] | 4 => v_ = .int .i64 (ws.getD (((i : Int) - 1).toNat) 0) ∧ p_ = [] | 5 => v_ = wv ∧ p_ = [] | 6 => v_ = .int .i64 (i : Int) ∧ p_ = [] | 7 => v_ = elP wv (((i : Int)).toNat * 1) ∧ p_ = [] | 8 => v_ = .int .i64 (ws.getD i 0) ∧ p_ = [] | 9 => v_ = .bool true ∧ p_ = [] | _ => True) (List.take_append_drop 10 _).symm (by kernel_rfl) (by kernel_rfl) rfl rfl ?_ ?_
   ·
    refine ⟨?_, ?_, ?_, ?_, ?_, ?_, ?_, ?_, ?_, ?_, trivial⟩
    ·
     intro vf pf hR
     refine Or.inl ⟨rfl, ?_⟩
     refine rq_less (sx 0 rfl (sub_nil _)) (List.sublist_append_right _ _) ?_
     exact rq_v (rv_ev rfl)
    ·
     intro vf pf hR
     refine Or.inl ⟨rfl, ?_⟩
     refine rq_less (sx 3 rfl (sub_nil _)) (List.sublist_append_right _ _) ?_
     exact rq_v (rv_ev rfl)
    ·
     intro vf pf hR
     have e1 : (vf 1) = .int .i64 (i : Int) ∧ (pf 1) = [] := hR 1 (by decide)
     refine Or.inl ⟨rfl, ?_⟩
     refine rq_less (sx 11 (congrArg some e1.1) (sub_nil _)) (List.sublist_append_right _ _) ?_
     exact rq_v (rv_sub rfl rfl rfl (by constructor <;> omega))
    ·
     intro vf pf hR
     have e0 : (vf 0) = wv ∧ (pf 0) = [] := hR 0 (by decide)
     have e2 : (vf 2) = .int .i64 ((i : Int) - 1) ∧ (pf 2) = [] := hR 2 (by decide)
     refine Or.inl ⟨rfl, ?_⟩
     refine rq_less (sx 10 (congrArg some e0.1) (sx 12 (congrArg some e2.1) (sub_nil _))) (List.sublist_append_right _ _) ?_
     exact rq_v (rv_index (s := 1) rfl Try.underlying28 (by kernel_rfl) rfl rfl (rd_old hwv) (by omega) (by first | omega | (simp only [List.length_set]; omega)))
    ·
     intro vf pf hR
     have e3 : (vf 3) = elP wv (((i : Int) - 1).toNat * 1) ∧ (pf 3) = [] := hR 3 (by decide)
     refine Or.inl ⟨rfl, ?_⟩
     refine rq_less (sx 13 (congrArg some e3.1) (sub_nil _)) (List.sublist_append_right _ _) ?_
     exact rq_v (rv_loadEl (u := .int .i64 (ws.getD (((i : Int) - 1).toNat) 0)) rfl (by kernel_rfl) rfl (rd_old hwv) (ints_at1 (show _ < ws.length by first | omega | (simp only [List.length_set]; omega))))
    ·
     intro vf pf hR
     refine Or.inl ⟨rfl, ?_⟩
     refine rq_less (sx 0 rfl (sub_nil _)) (List.sublist_append_right _ _) ?_
     exact rq_v (rv_ev rfl)
    ·
     intro vf pf hR
     refine Or.inl ⟨rfl, ?_⟩
     refine rq_less (sx 3 rfl (sub_nil _)) (List.sublist_append_right _ _) ?_
     exact rq_v (rv_ev rfl)
    ·
     intro vf pf hR
     have e5 : (vf 5) = wv ∧ (pf 5) = [] := hR 5 (by decide)
     have e6 : (vf 6) = .int .i64 (i : Int) ∧ (pf 6) = [] := hR 6 (by decide)
     refine Or.inl ⟨rfl, ?_⟩
     refine rq_less (sx 15 (congrArg some e5.1) (sx 16 (congrArg some e6.1) (sub_nil _))) (List.sublist_append_right _ _) ?_
     exact rq_v (rv_index (s := 1) rfl Try.underlying28 (by kernel_rfl) rfl rfl (rd_old hwv) (by omega) (by first | omega | (simp only [List.length_set]; omega)))
    ·
     intro vf pf hR
     have e7 : (vf 7) = elP wv (((i : Int)).toNat * 1) ∧ (pf 7) = [] := hR 7 (by decide)
     refine Or.inl ⟨rfl, ?_⟩
     refine rq_less (sx 17 (congrArg some e7.1) (sub_nil _)) (List.sublist_append_right _ _) ?_
     exact rq_v (rv_loadEl (u := .int .i64 (ws.getD i 0)) rfl (by kernel_rfl) rfl (rd_old hwv) (ints_at1 (show _ < ws.length by first | omega | (simp only [List.length_set]; omega))))
    ·
     intro vf pf hR
     have e4 : (vf 4) = .int .i64 (ws.getD (((i : Int) - 1).toNat) 0) ∧ (pf 4) = [] := hR 4 (by decide)
     have e8 : (vf 8) = .int .i64 (ws.getD i 0) ∧ (pf 8) = [] := hR 8 (by decide)
     refine Or.inl ⟨rfl, ?_⟩
     refine rq_less (sx 14 (congrArg some e4.1) (sx 18 (congrArg some e8.1) (sub_nil _))) (List.sublist_append_right _ _) ?_
     exact rq_mono (rq_v (rv_cmp rfl rfl rfl rfl)) (fun _ _ h => ⟨h.1.trans (congrArg Value.bool hb3), h.2⟩)
   ·
    intro vf pf hR
    have e9 : (vf 9) = .bool true ∧ (pf 9) = [] := hR 9 (by decide)
    refine hl_less (l' := []) (sx 0 rfl (sx 2 rfl (sx 3 rfl (sx 7 rfl (sx 19 (congrArg some e9.1) (sub_nil _)))))) (List.sublist_append_right _ _) ?_
    simp only [List.drop_succ_cons, List.drop_zero]
    refine hl_less (sx 0 rfl (sx 2 rfl (sx 3 rfl (sx 7 rfl (sx 19 rfl (sub_nil _)))))) (.refl _) ?_
    refine hl_nil ?_
    refine hq_then ?_
    refine hc_true rfl ?_
    refine hc_seq ?_
    refine hc_region ?_
    refine hl_v rfl rfl rfl (rv_ev rfl) ?_
    refine hl_less (sx 0 rfl (sx 2 rfl (sx 3 rfl (sx 7 rfl (sx 19 rfl (sub_nil _)))))) (.refl _) ?_
    refine hl_nil ?_
    refine hq_then ?_
    refine hc_ret ?_
    refine hq_block_ret ?_
    refine hq_then_ret ?_
    refine hq_then_ret ?_
    refine hq_block_ret ?_
    refine hq_then_ret ?_
    exfalso
    omega
  ·
   have hb3p : ¬ (ws.getD i 0 ≤ ws.getD (((i : Int) - 1).toNat) 0) := of_decide_eq_false hb3
   have hs9 : ws.getD ((i : Int) - 1).toNat 0 < ws.getD i 0 := asc_at hasc (by omega) (by omega)
   refine hc_draw (by kernel_rfl) 10 [0, 1, 2, 3, 4, 5, 6, 7, 8, 9] (List.take 10 _) (List.drop 10 _) [[], [], [1], [0, 2], [3], [], [], [5, 6], [7], [4, 8]] [10, 11, 12, 13, 14, 15, 16, 17, 18, 19] (fun i_ vs_ v_ p_ => match i_ with | 0 => v_ = wv ∧ p_ = [] | 1 => v_ = .int .i64 (i : Int) ∧ p_ = [] | 2 => v_ = .int .i64 ((i : Int) - 1) ∧ p_ = [] | 3 => v_ = elP wv (((i : Int) - 1).toNat * 1) ∧ p_ = [] | 4 => v_ = .int .i64 (ws.getD (((i : Int) - 1).toNat) 0) ∧ p_ = [] | 5 => v_ = wv ∧ p_ = [] | 6 => v_ = .int .i64 (i : Int) ∧ p_ = [] | 7 => v_ = elP wv (((i : Int)).toNat * 1) ∧ p_ = [] | 8 => v_ = .int .i64 (ws.getD i 0) ∧ p_ = [] | 9 => v_ = .bool false ∧ p_ = [] | _ => True) (List.take_append_drop 10 _).symm (by kernel_rfl) (by kernel_rfl) rfl rfl ?_ ?_
   ·
    refine ⟨?_, ?_, ?_, ?_, ?_, ?_, ?_, ?_, ?_, ?_, trivial⟩
    ·
     intro vf pf hR
     refine Or.inl ⟨rfl, ?_⟩
     refine rq_less (sx 0 rfl (sub_nil _)) (List.sublist_append_right _ _) ?_
     exact rq_v (rv_ev rfl)
    ·
     intro vf pf hR
     refine Or.inl ⟨rfl, ?_⟩
     refine rq_less (sx 3 rfl (sub_nil _)) (List.sublist_append_right _ _) ?_
     exact rq_v (rv_ev rfl)
    ·
     intro vf pf hR
     have e1 : (vf 1) = .int .i64 (i : Int) ∧ (pf 1) = [] := hR 1 (by decide)
     refine Or.inl ⟨rfl, ?_⟩
     refine rq_less (sx 11 (congrArg some e1.1) (sub_nil _)) (List.sublist_append_right _ _) ?_
     exact rq_v (rv_sub rfl rfl rfl (by constructor <;> omega))
    ·
     intro vf pf hR
     have e0 : (vf 0) = wv ∧ (pf 0) = [] := hR 0 (by decide)
     have e2 : (vf 2) = .int .i64 ((i : Int) - 1) ∧ (pf 2) = [] := hR 2 (by decide)
     refine Or.inl ⟨rfl, ?_⟩
     refine rq_less (sx 10 (congrArg some e0.1) (sx 12 (congrArg some e2.1) (sub_nil _))) (List.sublist_append_right _ _) ?_
     exact rq_v (rv_index (s := 1) rfl Try.underlying28 (by kernel_rfl) rfl rfl (rd_old hwv) (by omega) (by first | omega | (simp only [List.length_set]; omega)))
    ·
     intro vf pf hR
     have e3 : (vf 3) = elP wv (((i : Int) - 1).toNat * 1) ∧ (pf 3) = [] := hR 3 (by decide)
     refine Or.inl ⟨rfl, ?_⟩
     refine rq_less (sx 13 (congrArg some e3.1) (sub_nil _)) (List.sublist_append_right _ _) ?_
     exact rq_v (rv_loadEl (u := .int .i64 (ws.getD (((i : Int) - 1).toNat) 0)) rfl (by kernel_rfl) rfl (rd_old hwv) (ints_at1 (show _ < ws.length by first | omega | (simp only [List.length_set]; omega))))
    ·
     intro vf pf hR
     refine Or.inl ⟨rfl, ?_⟩
     refine rq_less (sx 0 rfl (sub_nil _)) (List.sublist_append_right _ _) ?_
     exact rq_v (rv_ev rfl)
    ·
     intro vf pf hR
     refine Or.inl ⟨rfl, ?_⟩
     refine rq_less (sx 3 rfl (sub_nil _)) (List.sublist_append_right _ _) ?_
     exact rq_v (rv_ev rfl)
    ·
     intro vf pf hR
     have e5 : (vf 5) = wv ∧ (pf 5) = [] := hR 5 (by decide)
     have e6 : (vf 6) = .int .i64 (i : Int) ∧ (pf 6) = [] := hR 6 (by decide)
     refine Or.inl ⟨rfl, ?_⟩
     refine rq_less (sx 15 (congrArg some e5.1) (sx 16 (congrArg some e6.1) (sub_nil _))) (List.sublist_append_right _ _) ?_
     exact rq_v (rv_index (s := 1) rfl Try.underlying28 (by kernel_rfl) rfl rfl (rd_old hwv) (by omega) (by first | omega | (simp only [List.length_set]; omega)))
    ·
     intro vf pf hR
     have e7 : (vf 7) = elP wv (((i : Int)).toNat * 1) ∧ (pf 7) = [] := hR 7 (by decide)
     refine Or.inl ⟨rfl, ?_⟩
     refine rq_less (sx 17 (congrArg some e7.1) (sub_nil _)) (List.sublist_append_right _ _) ?_
     exact rq_v (rv_loadEl (u := .int .i64 (ws.getD i 0)) rfl (by kernel_rfl) rfl (rd_old hwv) (ints_at1 (show _ < ws.length by first | omega | (simp only [List.length_set]; omega))))
    ·
     intro vf pf hR
     have e4 : (vf 4) = .int .i64 (ws.getD (((i : Int) - 1).toNat) 0) ∧ (pf 4) = [] := hR 4 (by decide)
     have e8 : (vf 8) = .int .i64 (ws.getD i 0) ∧ (pf 8) = [] := hR 8 (by decide)
     refine Or.inl ⟨rfl, ?_⟩
     refine rq_less (sx 14 (congrArg some e4.1) (sx 18 (congrArg some e8.1) (sub_nil _))) (List.sublist_append_right _ _) ?_
     exact rq_mono (rq_v (rv_cmp rfl rfl rfl rfl)) (fun _ _ h => ⟨h.1.trans (congrArg Value.bool hb3), h.2⟩)
   ·
    intro vf pf hR
    have e9 : (vf 9) = .bool false ∧ (pf 9) = [] := hR 9 (by decide)
    refine hl_less (l' := []) (sx 0 rfl (sx 2 rfl (sx 3 rfl (sx 7 rfl (sx 19 (congrArg some e9.1) (sub_nil _)))))) (List.sublist_append_right _ _) ?_
    simp only [List.drop_succ_cons, List.drop_zero]
    refine hl_less (sx 0 rfl (sx 2 rfl (sx 3 rfl (sx 7 rfl (sx 19 rfl (sub_nil _)))))) (.refl _) ?_
    refine hl_nil ?_
    refine hq_then ?_
    refine hc_false rfl ?_
    refine hc_skip ?_
    refine hq_block_normal ?_
    refine hq_then ?_
    refine hc_region ?_
    refine hl_v rfl rfl rfl (rv_ev rfl) ?_
    refine hl_v rfl rfl rfl (rv_add rfl rfl rfl (by constructor <;> omega)) ?_
    refine hl_v rfl rfl rfl (rv_ev rfl) ?_
    refine hl_less (sx 0 rfl (sx 2 rfl (sx 3 rfl (sx 7 rfl (sx 19 rfl (sub_nil _)))))) (.refl _) ?_
    refine hl_nil ?_
    exact hq_round1 (i + 1) ⟨by omega, by omega⟩ (by omega) (sx 0 rfl (sx 2 rfl (sx 3 rfl (sub_nil _)))) (.slnil)
 ·
  refine hl_less (sx 0 rfl (sx 2 rfl (sx 3 rfl (sx 7 rfl (sub_nil _))))) (.refl _) ?_
  refine hl_nil ?_
  refine hq_then ?_
  refine hc_false rfl ?_
  refine hc_exit ?_
  refine hq_then_exit ?_
  refine hq_then_exit ?_
  refine hq_block_exit ?_
  refine hq_then ?_
  refine hc_seq ?_
  refine hc_region ?_
  refine hl_v rfl rfl rfl (rv_ev rfl) ?_
  refine hl_less (sx 0 rfl (sx 2 rfl (sx 3 rfl (sx 7 rfl (sub_nil _))))) (.refl _) ?_
  refine hl_nil ?_
  refine hq_then ?_
  refine hc_ret ?_
  exact hq_ans rfl rfl rfl
end Go.Proofs.Ytcaeakapeinobaa
