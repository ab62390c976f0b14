/- Texts of the law FnGrown, part 2: what it uses. -/
import Derived.Test.YtagjmgfcbmbkhaaGw1
set_option linter.unusedVariables false
set_option linter.unusedSimpArgs false
namespace Go.Proofs.Ytagjmgfcbmbkhaa
open Go.RowKit Go.ChangeShapes
open Go.RowKit
open Go.Maps
set_option maxHeartbeats 4000000 in
set_option maxRecDepth 100000 in
theorem pinSources_ret (d : Dev) (t p : Int) (w : World) (hv : devB d = true) (t0 : 0 ≤ t) (t1 : t ≤ d.W * d.H - 1) (p0 : 0 ≤ p) (p1 : p ≤ 4) :
  Calls Try.prog 73 #[.agg #[.int .i64 d.W, .int .i64 d.H, .int .i64 d.T, .int .i64 d.R], .int .i64 t, .int .i64 p] w (Ret w fun v' post => post = [rowE 3 1 v' (pinO d t p 4).length ((pinO d t p 4).map (Value.int .i64))]) := by
 obtain ⟨-, -, ⟨l1, l2⟩, -⟩ := (devB_iff d).1 hv
 refine calls_hc (N := 59) (args := [.agg #[.int .i64 d.W, .int .i64 d.H, .int .i64 d.T, .int .i64 d.R], .int .i64 t, .int .i64 p]) Try.func73 rfl rfl ?_
 refine hc_less _ (sx 0 rfl (sx 1 rfl (sx 2 rfl (sub_nil _)))) (.refl _) ?_
 refine hc_seq ?_
 refine hc_region ?_
 refine hl_box rfl rfl rfl (rq_box rfl rfl) ?_
 intro b1
 refine hl_v rfl rfl rfl (rv_ev rfl) ?_
 refine hl_less (sx 0 rfl (sx 1 rfl (sx 2 rfl (sx 3 rfl (sx 6 rfl (sub_nil _)))))) (.refl _) ?_
 refine hl_nil ?_
 refine hq_then ?_
 refine hc_seq ?_
 refine hc_region ?_
 refine hl_nilRow 3 1 ?_
 refine hl_v rfl rfl rfl (rv_ev rfl) ?_
 refine hl_less (sx 0 rfl (sx 1 rfl (sx 2 rfl (sx 3 rfl (sx 6 rfl (sx 7 rfl (sub_nil _))))))) (.refl _) ?_
 refine hl_nil ?_
 refine hq_then ?_
 refine hc_seq ?_
 refine hc_seq ?_
 refine hc_region ?_
 refine hl_v rfl rfl rfl (rv_ev rfl) ?_
 refine hl_less (sx 0 rfl (sx 1 rfl (sx 2 rfl (sx 3 rfl (sx 6 rfl (sx 7 rfl (sx 8 rfl (sub_nil _)))))))) (.refl _) ?_
 refine hl_nil ?_
 refine hq_then ?_
 refine hc_block ?_
 refine hc_loop3 (α := Nat) (β := Value) (γ := List Int) (fun r v xs => [rowE 3 1 v xs.length (xs.map (Value.int .i64)), boxE b1 #[.int .i64 d.W, .int .i64 d.H, .int .i64 d.T, .int .i64 d.R] 25]) (fun r v xs => [(0, .agg #[.int .i64 d.W, .int .i64 d.H, .int .i64 d.T, .int .i64 d.R]), (1, .int .i64 t), (2, .int .i64 p), (3, .pointer (some ⟨b1, 0, none⟩)), (6, .slice none 0 0), (7, v), (8, .int .i64 (r : Int))]) (fun r v xs => r ≤ 4 ∧ xs = pinO d t p r ∧ xs.length ≤ 8 * r) (fun r v xs => 4 - r) 0 _ [] ⟨by omega, rfl, by simp⟩ (sx 0 rfl (sx 1 rfl (sx 2 rfl (sx 3 rfl (sx 6 rfl (sx 7 rfl (sx 8 rfl (sub_nil _)))))))) ((.cons_cons _ (.cons_cons _ .slnil))) ?_
 intro r v xs hi3
 obtain ⟨hr, hx, hxl⟩ := hi3
 refine hc_seq ?_
 refine hc_seq ?_
 refine hc_region ?_
 refine hl_v rfl rfl rfl (rv_ev rfl) ?_
 refine hl_lss rfl rfl rfl rfl rfl rfl (fun h4 => ?_) (fun h4 => ?_)
 ·
  refine hl_less (sx 0 rfl (sx 1 rfl (sx 2 rfl (sx 3 rfl (sx 6 rfl (sx 7 rfl (sx 8 rfl (sx 14 rfl (sub_nil _))))))))) (.refl _) ?_
  refine hl_nil ?_
  refine hq_then ?_
  refine hc_true rfl ?_
  refine hc_skip ?_
  refine hq_then ?_
  refine hc_seq ?_
  refine hc_block ?_
  refine hc_seq ?_
  refine hc_region ?_
  refine hl_v rfl rfl rfl (rv_ev rfl) ?_
  refine hl_less (sx 0 rfl (sx 1 rfl (sx 2 rfl (sx 3 rfl (sx 6 rfl (sx 7 rfl (sx 8 rfl (sx 9 rfl (sx 14 rfl (sub_nil _)))))))))) (.refl _) ?_
  refine hl_nil ?_
  refine hq_then ?_
  refine hc_block ?_
  refine hc_loop3 (α := Nat) (β := Value) (γ := List Int) (fun k u ys => [rowE 3 1 u ys.length (ys.map (Value.int .i64)), boxE b1 #[.int .i64 d.W, .int .i64 d.H, .int .i64 d.T, .int .i64 d.R] 25]) (fun k u ys => [(0, .agg #[.int .i64 d.W, .int .i64 d.H, .int .i64 d.T, .int .i64 d.R]), (1, .int .i64 t), (2, .int .i64 p), (3, .pointer (some ⟨b1, 0, none⟩)), (6, .slice none 0 0), (7, u), (8, .int .i64 (r : Int)), (9, .int .i64 (k : Int)), (14, .bool true)]) (fun k u ys => (k : Int) ≤ d.T ∧ ys = pinR d t p r xs k ∧ ys.length ≤ xs.length + 2 * k) (fun k u ys => 5 - k) 0 _ xs ⟨by omega, rfl, by simp⟩ (sx 0 rfl (sx 1 rfl (sx 2 rfl (sx 3 rfl (sx 6 rfl (sx 7 rfl (sx 8 rfl (sx 9 rfl (sx 14 rfl (sub_nil _)))))))))) ((.cons_cons _ (.cons_cons _ .slnil))) ?_
  intro k u ys hi5
  obtain ⟨hk, hy, hyl⟩ := hi5
  refine hc_seq ?_
  refine hc_seq ?_
  refine hc_region ?_
  refine hl_v rfl rfl rfl (rv_ev rfl) ?_
  refine hl_v rfl rfl rfl (rv_field (k0 := 2) rfl (by kernel_rfl) rfl) ?_
  refine hl_v rfl rfl rfl (rv_load rfl (by kernel_rfl) rfl (box_cell 1 rfl rfl)) ?_
  refine hl_lss rfl rfl rfl rfl rfl rfl (fun h6 => ?_) (fun h6 => ?_)
  ·
   refine hl_less (sx 0 rfl (sx 1 rfl (sx 2 rfl (sx 3 rfl (sx 6 rfl (sx 7 rfl (sx 8 rfl (sx 9 rfl (sx 14 rfl (sx 20 rfl (sub_nil _))))))))))) (.refl _) ?_
   refine hl_nil ?_
   refine hq_then ?_
   refine hc_true rfl ?_
   refine hc_skip ?_
   refine hq_then ?_
   refine hc_seq ?_
   refine hc_block ?_
   refine hc_seq ?_
   refine hc_seq ?_
   refine hc_region ?_
   refine hl_v rfl rfl rfl (rv_field (k0 := 2) rfl (by kernel_rfl) rfl) ?_
   refine hl_v rfl rfl rfl (rv_load rfl (by kernel_rfl) rfl (box_cell 1 rfl rfl)) ?_
   refine hl_gtr rfl rfl rfl rfl rfl rfl (fun h7 => ?_) (fun h7 => ?_)
   ·
    refine hl_v rfl rfl rfl (rv_ev rfl) ?_
    refine hl_v rfl rfl rfl (rv_ev rfl) ?_
    refine hl_v rfl rfl rfl (rv_ev rfl) ?_
    refine hl_v rfl rfl rfl (rv_add rfl rfl rfl (by constructor <;> omega)) ?_
    refine hl_v rfl rfl rfl (rv_rem rfl rfl rfl (by constructor <;> omega)) ?_
    refine hl_neq rfl rfl rfl rfl rfl rfl (fun h8 => ?_) (fun h8 => ?_)
    ·
     refine hl_v rfl rfl rfl (rv_ev rfl) ?_
     refine hl_less (sx 0 rfl (sx 1 rfl (sx 2 rfl (sx 3 rfl (sx 6 rfl (sx 7 rfl (sx 8 rfl (sx 9 rfl (sx 14 rfl (sx 20 rfl (sx 32 rfl (sub_nil _)))))))))))) (.refl _) ?_
     refine hl_nil ?_
     refine hq_then ?_
     refine hc_true rfl ?_
     refine hc_exit ?_
     refine hq_then_exit ?_
     refine hq_block_exit ?_
     refine hq_then ?_
     refine hc_region ?_
     refine hl_v rfl rfl rfl (rv_ev rfl) ?_
     refine hl_v rfl rfl rfl (rv_add rfl rfl rfl (by constructor <;> omega)) ?_
     refine hl_v rfl rfl rfl (rv_ev rfl) ?_
     refine hl_less (sx 0 rfl (sx 1 rfl (sx 2 rfl (sx 3 rfl (sx 6 rfl (sx 7 rfl (sx 8 rfl (sx 9 rfl (sx 14 rfl (sx 20 rfl (sx 32 rfl (sub_nil _)))))))))))) (.refl _) ?_
     refine hl_nil ?_
     exact hq_round3 (k + 1) _ _ ⟨by omega, by rw [pinR_succ, if_pos ⟨by omega, by omega⟩]; exact hy, by omega⟩ (by omega) (sx 0 rfl (sx 1 rfl (sx 2 rfl (sx 3 rfl (sx 6 rfl (sx 7 rfl (sx 8 rfl (sx 9 rfl (sx 14 rfl (sub_nil _)))))))))) ((.cons_cons _ (.cons_cons _ .slnil)))
    ·
     refine hl_v rfl rfl rfl (rv_ev rfl) ?_
     refine hl_less (sx 0 rfl (sx 1 rfl (sx 2 rfl (sx 3 rfl (sx 6 rfl (sx 7 rfl (sx 8 rfl (sx 9 rfl (sx 14 rfl (sx 20 rfl (sx 32 rfl (sub_nil _)))))))))))) (.refl _) ?_
     refine hl_nil ?_
     refine hq_then ?_
     refine hc_false rfl ?_
     refine hc_skip ?_
     refine hq_then ?_
     refine hc_seq ?_
     refine hc_region ?_
     refine hl_v rfl rfl rfl (rv_ev rfl) ?_
     refine hl_less (sx 0 rfl (sx 1 rfl (sx 2 rfl (sx 3 rfl (sx 6 rfl (sx 7 rfl (sx 8 rfl (sx 9 rfl (sx 10 rfl (sx 14 rfl (sx 20 rfl (sx 32 rfl (sub_nil _))))))))))))) (.refl _) ?_
     refine hl_nil ?_
     refine hq_then ?_
     refine hc_block ?_
     refine hc_loop3 (α := Nat) (β := Value) (γ := List Int) (fun j q zs => [rowE 3 1 q zs.length (zs.map (Value.int .i64)), boxE b1 #[.int .i64 d.W, .int .i64 d.H, .int .i64 d.T, .int .i64 d.R] 25]) (fun j q zs => [(0, .agg #[.int .i64 d.W, .int .i64 d.H, .int .i64 d.T, .int .i64 d.R]), (1, .int .i64 t), (2, .int .i64 p), (3, .pointer (some ⟨b1, 0, none⟩)), (6, .slice none 0 0), (7, q), (8, .int .i64 (r : Int)), (9, .int .i64 (k : Int)), (10, .int .i64 ((j : Int) + 1)), (14, .bool true), (20, .bool true), (32, .bool false)]) (fun j q zs => j ≤ 1 + k % 2 ∧ zs = pinK d t r k ys j ∧ zs.length ≤ ys.length + j) (fun j q zs => 3 - j) 0 _ ys ⟨by omega, rfl, by simp⟩ (sx 0 rfl (sx 1 rfl (sx 2 rfl (sx 3 rfl (sx 6 rfl (sx 7 rfl (sx 8 rfl (sx 9 rfl (sx 10 rfl (sx 14 rfl (sx 20 rfl (sx 32 rfl (sub_nil _))))))))))))) ((.cons_cons _ (.cons_cons _ .slnil))) ?_
     intro j q zs hi9
     obtain ⟨hj, hz, hzl⟩ := hi9
     refine hc_seq ?_
     refine hc_seq ?_
     refine hc_region ?_
     refine hl_v rfl rfl rfl (rv_ev rfl) ?_
     refine hl_v rfl rfl rfl (rv_ev rfl) ?_
     refine hl_callV rfl rfl rfl (rq_call (by kernel_rfl) rfl (fun w hm => ret_ans (ans_of (wireLen_any _ (by omega) (by omega) w)))) ?_
     refine hl_leq rfl rfl rfl rfl rfl rfl (fun h10 => ?_) (fun h10 => ?_)
     ·
      refine hl_less (sx 0 rfl (sx 1 rfl (sx 2 rfl (sx 3 rfl (sx 6 rfl (sx 7 rfl (sx 8 rfl (sx 9 rfl (sx 10 rfl (sx 14 rfl (sx 20 rfl (sx 32 rfl (sx 36 rfl (sub_nil _)))))))))))))) (.refl _) ?_
      refine hl_nil ?_
      refine hq_then ?_
      refine hc_true rfl ?_
      refine hc_skip ?_
      refine hq_then ?_
      refine hc_seq ?_
      refine hc_block ?_
      refine hc_seq ?_
      refine hc_region ?_
      refine hl_v rfl rfl rfl (rv_loadN (cs := [.int .i64 d.W, .int .i64 d.H, .int .i64 d.T, .int .i64 d.R]) rfl (by kernel_rfl) (by kernel_rfl) rfl rfl (box_part 1 rfl 0 rfl)) ?_
      refine hl_v rfl rfl rfl (rv_ev rfl) ?_
      refine hl_v rfl rfl rfl (rv_ev rfl) ?_
      refine hl_v rfl rfl rfl (rv_add rfl rfl rfl (by constructor <;> omega)) ?_
      refine hl_v rfl rfl rfl (rv_rem rfl rfl rfl (by constructor <;> omega)) ?_
      refine hl_v rfl rfl rfl (rv_ev rfl) ?_
      refine hl_callV rfl rfl rfl (rq_call (by kernel_rfl) rfl (fun w hm => ret_ans (tileStep_any d _ _ _ hv t0 t1 (by omega) (by omega) (by omega) (by omega) w))) ?_
      refine hl_v rfl rfl rfl (rv_ev rfl) ?_
      refine hl_less (sx 0 rfl (sx 1 rfl (sx 2 rfl (sx 3 rfl (sx 6 rfl (sx 7 rfl (sx 8 rfl (sx 9 rfl (sx 10 rfl (sx 11 rfl (sx 14 rfl (sx 20 rfl (sx 32 rfl (sx 36 rfl (sub_nil _))))))))))))))) (.refl _) ?_
      refine hl_nil ?_
      refine hq_then ?_
      refine hc_seq ?_
      refine hc_seq ?_
      refine hc_region ?_
      refine hl_v rfl rfl rfl (rv_ev rfl) ?_
      refine hl_lss rfl rfl rfl rfl rfl rfl (fun h11 => ?_) (fun h11 => ?_)
      ·
       refine hl_less (sx 0 rfl (sx 1 rfl (sx 2 rfl (sx 3 rfl (sx 6 rfl (sx 7 rfl (sx 8 rfl (sx 9 rfl (sx 10 rfl (sx 11 rfl (sx 14 rfl (sx 20 rfl (sx 32 rfl (sx 36 rfl (sx 47 rfl (sub_nil _)))))))))))))))) (.refl _) ?_
       refine hl_nil ?_
       refine hq_then ?_
       refine hc_true rfl ?_
       refine hc_exit ?_
       refine hq_then_exit ?_
       refine hq_block_exit ?_
       refine hq_then ?_
       refine hc_region ?_
       refine hl_v rfl rfl rfl (rv_ev rfl) ?_
       refine hl_v rfl rfl rfl (rv_add rfl rfl rfl (by constructor <;> omega)) ?_
       refine hl_v rfl rfl rfl (rv_ev rfl) ?_
       refine hl_less (sx 0 rfl (sx 1 rfl (sx 2 rfl (sx 3 rfl (sx 6 rfl (sx 7 rfl (sx 8 rfl (sx 9 rfl (sx 10 rfl (sx 11 rfl (sx 14 rfl (sx 20 rfl (sx 32 rfl (sx 36 rfl (sx 47 rfl (sub_nil _)))))))))))))))) (.refl _) ?_
       refine hl_nil ?_
       have hil := insI_len zs (wireNodeI d (stepI d t (((r : Int) + 2) % 4) ((j : Int) + 1)) r k)
       exact hq_round3 (j + 1) _ _ ⟨by omega, by rw [pinK_succ, ← hz]; first | exact (pinS_out (by omega)).symm | exact (pinS_no (by omega)).symm | exact (pinS_yes (by omega) (by omega)).symm, by omega⟩ (by omega) (sx 0 rfl (sx 1 rfl (sx 2 rfl (sx 3 rfl (sx 6 rfl (sx 7 rfl (sx 8 rfl (sx 9 rfl (sx 10 rfl (sx 14 rfl (sx 20 rfl (sx 32 rfl (sub_nil _))))))))))))) ((.cons_cons _ (.cons_cons _ .slnil)))
      ·
       refine hl_less (sx 0 rfl (sx 1 rfl (sx 2 rfl (sx 3 rfl (sx 6 rfl (sx 7 rfl (sx 8 rfl (sx 9 rfl (sx 10 rfl (sx 11 rfl (sx 14 rfl (sx 20 rfl (sx 32 rfl (sx 36 rfl (sx 47 rfl (sub_nil _)))))))))))))))) (.refl _) ?_
       refine hl_nil ?_
       refine hq_then ?_
       refine hc_false rfl ?_
       refine hc_skip ?_
       refine hq_then ?_
       refine hc_seq ?_
       refine hc_region ?_
       refine hl_v rfl rfl rfl (rv_loadN (cs := [.int .i64 d.W, .int .i64 d.H, .int .i64 d.T, .int .i64 d.R]) rfl (by kernel_rfl) (by kernel_rfl) rfl rfl (box_part 1 rfl 0 rfl)) ?_
       refine hl_v rfl rfl rfl (rv_ev rfl) ?_
       refine hl_v rfl rfl rfl (rv_ev rfl) ?_
       refine hl_v rfl rfl rfl (rv_ev rfl) ?_
       refine hl_callV rfl rfl rfl (rq_call (by kernel_rfl) rfl (fun w hm => ret_ans (wireNode_at d _ _ _ (step_tOk hv (by omega)) (by omega) (by omega) (by omega) (by omega) w))) ?_
       refine hl_v rfl rfl rfl (rv_ev rfl) ?_
       refine hl_less (sx 0 rfl (sx 1 rfl (sx 2 rfl (sx 3 rfl (sx 6 rfl (sx 7 rfl (sx 8 rfl (sx 9 rfl (sx 10 rfl (sx 11 rfl (sx 12 rfl (sx 14 rfl (sx 20 rfl (sx 32 rfl (sx 36 rfl (sx 47 rfl (sub_nil _))))))))))))))))) (.refl _) ?_
       refine hl_nil ?_
       refine hq_then ?_
       refine hc_seq ?_
       refine hc_region ?_
       refine hl_v rfl rfl rfl (rv_ev rfl) ?_
       refine hl_geq rfl rfl rfl rfl rfl rfl (fun h12 => ?_) (fun h12 => ?_)
       ·
        refine hl_less (sx 0 rfl (sx 1 rfl (sx 2 rfl (sx 3 rfl (sx 6 rfl (sx 7 rfl (sx 8 rfl (sx 9 rfl (sx 10 rfl (sx 11 rfl (sx 12 rfl (sx 14 rfl (sx 20 rfl (sx 32 rfl (sx 36 rfl (sx 47 rfl (sx 54 rfl (sub_nil _)))))))))))))))))) (.refl _) ?_
        refine hl_nil ?_
        refine hq_then ?_
        refine hc_true rfl ?_
        refine hc_region ?_
        refine hl_v rfl rfl rfl (rv_ev rfl) ?_
        refine hl_v rfl rfl rfl (rv_ev rfl) ?_
        refine hl_callM (R := (fun v' p' => p' = rowE 3 1 v' (insI zs (wireNodeI d (stepI d t (((r : Int) + 2) % 4) ((j : Int) + 1)) (r : Int) (k : Int))).length ((insI zs (wireNodeI d (stepI d t (((r : Int) + 2) % 4) ((j : Int) + 1)) (r : Int) (k : Int))).map (Value.int .i64)))) 0 rfl rfl (by kernel_rfl) rfl rfl (fun l' w hm => insertInt_mut _ zs _ (by omega) w hm) ?_
        intro v13 p14 hR15
        subst hR15
        refine hl_eqL (l' := [rowE 3 1 v13 ((insI zs (wireNodeI d (stepI d t (((r : Int) + 2) % 4) ((j : Int) + 1)) (r : Int) (k : Int))).length) ((insI zs (wireNodeI d (stepI d t (((r : Int) + 2) % 4) ((j : Int) + 1)) (r : Int) (k : Int))).map (Value.int .i64)), boxE b1 #[.int .i64 d.W, .int .i64 d.H, .int .i64 d.T, .int .i64 d.R] 25]) rfl ?_
        refine hl_v rfl rfl rfl (rv_ev rfl) ?_
        refine hl_less (sx 0 rfl (sx 1 rfl (sx 2 rfl (sx 3 rfl (sx 6 rfl (sx 7 rfl (sx 8 rfl (sx 9 rfl (sx 10 rfl (sx 11 rfl (sx 12 rfl (sx 14 rfl (sx 20 rfl (sx 32 rfl (sx 36 rfl (sx 47 rfl (sx 54 rfl (sub_nil _)))))))))))))))))) (.refl _) ?_
        refine hl_nil ?_
        refine hq_block_normal ?_
        refine hq_then ?_
        refine hc_region ?_
        refine hl_v rfl rfl rfl (rv_ev rfl) ?_
        refine hl_v rfl rfl rfl (rv_add rfl rfl rfl (by constructor <;> omega)) ?_
        refine hl_v rfl rfl rfl (rv_ev rfl) ?_
        refine hl_less (sx 0 rfl (sx 1 rfl (sx 2 rfl (sx 3 rfl (sx 6 rfl (sx 7 rfl (sx 8 rfl (sx 9 rfl (sx 10 rfl (sx 11 rfl (sx 12 rfl (sx 14 rfl (sx 20 rfl (sx 32 rfl (sx 36 rfl (sx 47 rfl (sx 54 rfl (sub_nil _)))))))))))))))))) (.refl _) ?_
        refine hl_nil ?_
        have hil := insI_len zs (wireNodeI d (stepI d t (((r : Int) + 2) % 4) ((j : Int) + 1)) r k)
        exact hq_round3 (j + 1) _ _ ⟨by omega, by rw [pinK_succ, ← hz]; first | exact (pinS_out (by omega)).symm | exact (pinS_no (by omega)).symm | exact (pinS_yes (by omega) (by omega)).symm, by omega⟩ (by omega) (sx 0 rfl (sx 1 rfl (sx 2 rfl (sx 3 rfl (sx 6 rfl (sx 7 rfl (sx 8 rfl (sx 9 rfl (sx 10 rfl (sx 14 rfl (sx 20 rfl (sx 32 rfl (sub_nil _))))))))))))) ((.cons_cons _ (.cons_cons _ .slnil)))
       ·
        refine hl_less (sx 0 rfl (sx 1 rfl (sx 2 rfl (sx 3 rfl (sx 6 rfl (sx 7 rfl (sx 8 rfl (sx 9 rfl (sx 10 rfl (sx 11 rfl (sx 12 rfl (sx 14 rfl (sx 20 rfl (sx 32 rfl (sx 36 rfl (sx 47 rfl (sx 54 rfl (sub_nil _)))))))))))))))))) (.refl _) ?_
        refine hl_nil ?_
        refine hq_then ?_
        refine hc_false rfl ?_
        refine hc_skip ?_
        refine hq_block_normal ?_
        refine hq_then ?_
        refine hc_region ?_
        refine hl_v rfl rfl rfl (rv_ev rfl) ?_
        refine hl_v rfl rfl rfl (rv_add rfl rfl rfl (by constructor <;> omega)) ?_
        refine hl_v rfl rfl rfl (rv_ev rfl) ?_
        refine hl_less (sx 0 rfl (sx 1 rfl (sx 2 rfl (sx 3 rfl (sx 6 rfl (sx 7 rfl (sx 8 rfl (sx 9 rfl (sx 10 rfl (sx 11 rfl (sx 12 rfl (sx 14 rfl (sx 20 rfl (sx 32 rfl (sx 36 rfl (sx 47 rfl (sx 54 rfl (sub_nil _)))))))))))))))))) (.refl _) ?_
        refine hl_nil ?_
        have hil := insI_len zs (wireNodeI d (stepI d t (((r : Int) + 2) % 4) ((j : Int) + 1)) r k)
        exact hq_round3 (j + 1) _ _ ⟨by omega, by rw [pinK_succ, ← hz]; first | exact (pinS_out (by omega)).symm | exact (pinS_no (by omega)).symm | exact (pinS_yes (by omega) (by omega)).symm, by omega⟩ (by omega) (sx 0 rfl (sx 1 rfl (sx 2 rfl (sx 3 rfl (sx 6 rfl (sx 7 rfl (sx 8 rfl (sx 9 rfl (sx 10 rfl (sx 14 rfl (sx 20 rfl (sx 32 rfl (sub_nil _))))))))))))) ((.cons_cons _ (.cons_cons _ .slnil)))
     ·
      refine hl_less (sx 0 rfl (sx 1 rfl (sx 2 rfl (sx 3 rfl (sx 6 rfl (sx 7 rfl (sx 8 rfl (sx 9 rfl (sx 10 rfl (sx 14 rfl (sx 20 rfl (sx 32 rfl (sx 36 rfl (sub_nil _)))))))))))))) (.refl _) ?_
      refine hl_nil ?_
      refine hq_then ?_
      refine hc_false rfl ?_
      refine hc_exit ?_
      refine hq_then_exit ?_
      refine hq_then_exit ?_
      refine hq_block_exit ?_
      refine hq_block_normal ?_
      refine hq_then ?_
      refine hc_region ?_
      refine hl_v rfl rfl rfl (rv_ev rfl) ?_
      refine hl_v rfl rfl rfl (rv_add rfl rfl rfl (by constructor <;> omega)) ?_
      refine hl_v rfl rfl rfl (rv_ev rfl) ?_
      refine hl_less (sx 0 rfl (sx 1 rfl (sx 2 rfl (sx 3 rfl (sx 6 rfl (sx 7 rfl (sx 8 rfl (sx 9 rfl (sx 10 rfl (sx 14 rfl (sx 20 rfl (sx 32 rfl (sx 36 rfl (sub_nil _)))))))))))))) (.refl _) ?_
      refine hl_nil ?_
      exact hq_round3 (k + 1) _ _ ⟨by omega, by rw [pinR_succ, if_neg (by omega), ← hy, hz]; congr 1; omega, by omega⟩ (by omega) (sx 0 rfl (sx 1 rfl (sx 2 rfl (sx 3 rfl (sx 6 rfl (sx 7 rfl (sx 8 rfl (sx 9 rfl (sx 14 rfl (sub_nil _)))))))))) ((.cons_cons _ (.cons_cons _ .slnil)))
   ·
    refine hl_v rfl rfl rfl (rv_ev rfl) ?_
    refine hl_skip rfl rfl rfl ?_
    refine hl_skip rfl rfl rfl ?_
    refine hl_skip rfl rfl rfl ?_
    refine hl_skip rfl rfl rfl ?_
    refine hl_skip rfl rfl rfl ?_
    refine hl_v rfl rfl rfl (rv_ev rfl) ?_
    refine hl_less (sx 0 rfl (sx 1 rfl (sx 2 rfl (sx 3 rfl (sx 6 rfl (sx 7 rfl (sx 8 rfl (sx 9 rfl (sx 14 rfl (sx 20 rfl (sx 32 rfl (sub_nil _)))))))))))) (.refl _) ?_
    refine hl_nil ?_
    refine hq_then ?_
    refine hc_false rfl ?_
    refine hc_skip ?_
    refine hq_then ?_
    refine hc_seq ?_
    refine hc_region ?_
    refine hl_v rfl rfl rfl (rv_ev rfl) ?_
    refine hl_less (sx 0 rfl (sx 1 rfl (sx 2 rfl (sx 3 rfl (sx 6 rfl (sx 7 rfl (sx 8 rfl (sx 9 rfl (sx 10 rfl (sx 14 rfl (sx 20 rfl (sx 32 rfl (sub_nil _))))))))))))) (.refl _) ?_
    refine hl_nil ?_
    refine hq_then ?_
    refine hc_block ?_
    refine hc_loop3 (α := Nat) (β := Value) (γ := List Int) (fun j q zs => [rowE 3 1 q zs.length (zs.map (Value.int .i64)), boxE b1 #[.int .i64 d.W, .int .i64 d.H, .int .i64 d.T, .int .i64 d.R] 25]) (fun j q zs => [(0, .agg #[.int .i64 d.W, .int .i64 d.H, .int .i64 d.T, .int .i64 d.R]), (1, .int .i64 t), (2, .int .i64 p), (3, .pointer (some ⟨b1, 0, none⟩)), (6, .slice none 0 0), (7, q), (8, .int .i64 (r : Int)), (9, .int .i64 (k : Int)), (10, .int .i64 ((j : Int) + 1)), (14, .bool true), (20, .bool true), (32, .bool false)]) (fun j q zs => j ≤ 1 + k % 2 ∧ zs = pinK d t r k ys j ∧ zs.length ≤ ys.length + j) (fun j q zs => 3 - j) 0 _ ys ⟨by omega, rfl, by simp⟩ (sx 0 rfl (sx 1 rfl (sx 2 rfl (sx 3 rfl (sx 6 rfl (sx 7 rfl (sx 8 rfl (sx 9 rfl (sx 10 rfl (sx 14 rfl (sx 20 rfl (sx 32 rfl (sub_nil _))))))))))))) ((.cons_cons _ (.cons_cons _ .slnil))) ?_
    intro j q zs hi16
    obtain ⟨hj, hz, hzl⟩ := hi16
    refine hc_seq ?_
    refine hc_seq ?_
    refine hc_region ?_
    refine hl_v rfl rfl rfl (rv_ev rfl) ?_
    refine hl_v rfl rfl rfl (rv_ev rfl) ?_
    refine hl_callV rfl rfl rfl (rq_call (by kernel_rfl) rfl (fun w hm => ret_ans (ans_of (wireLen_any _ (by omega) (by omega) w)))) ?_
    refine hl_leq rfl rfl rfl rfl rfl rfl (fun h17 => ?_) (fun h17 => ?_)
    ·
     refine hl_less (sx 0 rfl (sx 1 rfl (sx 2 rfl (sx 3 rfl (sx 6 rfl (sx 7 rfl (sx 8 rfl (sx 9 rfl (sx 10 rfl (sx 14 rfl (sx 20 rfl (sx 32 rfl (sx 36 rfl (sub_nil _)))))))))))))) (.refl _) ?_
     refine hl_nil ?_
     refine hq_then ?_
     refine hc_true rfl ?_
     refine hc_skip ?_
     refine hq_then ?_
     refine hc_seq ?_
     refine hc_block ?_
     refine hc_seq ?_
     refine hc_region ?_
     refine hl_v rfl rfl rfl (rv_loadN (cs := [.int .i64 d.W, .int .i64 d.H, .int .i64 d.T, .int .i64 d.R]) rfl (by kernel_rfl) (by kernel_rfl) rfl rfl (box_part 1 rfl 0 rfl)) ?_
     refine hl_v rfl rfl rfl (rv_ev rfl) ?_
     refine hl_v rfl rfl rfl (rv_ev rfl) ?_
     refine hl_v rfl rfl rfl (rv_add rfl rfl rfl (by constructor <;> omega)) ?_
     refine hl_v rfl rfl rfl (rv_rem rfl rfl rfl (by constructor <;> omega)) ?_
     refine hl_v rfl rfl rfl (rv_ev rfl) ?_
     refine hl_callV rfl rfl rfl (rq_call (by kernel_rfl) rfl (fun w hm => ret_ans (tileStep_any d _ _ _ hv t0 t1 (by omega) (by omega) (by omega) (by omega) w))) ?_
     refine hl_v rfl rfl rfl (rv_ev rfl) ?_
     refine hl_less (sx 0 rfl (sx 1 rfl (sx 2 rfl (sx 3 rfl (sx 6 rfl (sx 7 rfl (sx 8 rfl (sx 9 rfl (sx 10 rfl (sx 11 rfl (sx 14 rfl (sx 20 rfl (sx 32 rfl (sx 36 rfl (sub_nil _))))))))))))))) (.refl _) ?_
     refine hl_nil ?_
     refine hq_then ?_
     refine hc_seq ?_
     refine hc_seq ?_
     refine hc_region ?_
     refine hl_v rfl rfl rfl (rv_ev rfl) ?_
     refine hl_lss rfl rfl rfl rfl rfl rfl (fun h18 => ?_) (fun h18 => ?_)
     ·
      refine hl_less (sx 0 rfl (sx 1 rfl (sx 2 rfl (sx 3 rfl (sx 6 rfl (sx 7 rfl (sx 8 rfl (sx 9 rfl (sx 10 rfl (sx 11 rfl (sx 14 rfl (sx 20 rfl (sx 32 rfl (sx 36 rfl (sx 47 rfl (sub_nil _)))))))))))))))) (.refl _) ?_
      refine hl_nil ?_
      refine hq_then ?_
      refine hc_true rfl ?_
      refine hc_exit ?_
      refine hq_then_exit ?_
      refine hq_block_exit ?_
      refine hq_then ?_
      refine hc_region ?_
      refine hl_v rfl rfl rfl (rv_ev rfl) ?_
      refine hl_v rfl rfl rfl (rv_add rfl rfl rfl (by constructor <;> omega)) ?_
      refine hl_v rfl rfl rfl (rv_ev rfl) ?_
      refine hl_less (sx 0 rfl (sx 1 rfl (sx 2 rfl (sx 3 rfl (sx 6 rfl (sx 7 rfl (sx 8 rfl (sx 9 rfl (sx 10 rfl (sx 11 rfl (sx 14 rfl (sx 20 rfl (sx 32 rfl (sx 36 rfl (sx 47 rfl (sub_nil _)))))))))))))))) (.refl _) ?_
      refine hl_nil ?_
      have hil := insI_len zs (wireNodeI d (stepI d t (((r : Int) + 2) % 4) ((j : Int) + 1)) r k)
      exact hq_round3 (j + 1) _ _ ⟨by omega, by rw [pinK_succ, ← hz]; first | exact (pinS_out (by omega)).symm | exact (pinS_no (by omega)).symm | exact (pinS_yes (by omega) (by omega)).symm, by omega⟩ (by omega) (sx 0 rfl (sx 1 rfl (sx 2 rfl (sx 3 rfl (sx 6 rfl (sx 7 rfl (sx 8 rfl (sx 9 rfl (sx 10 rfl (sx 14 rfl (sx 20 rfl (sx 32 rfl (sub_nil _))))))))))))) ((.cons_cons _ (.cons_cons _ .slnil)))
     ·
      refine hl_less (sx 0 rfl (sx 1 rfl (sx 2 rfl (sx 3 rfl (sx 6 rfl (sx 7 rfl (sx 8 rfl (sx 9 rfl (sx 10 rfl (sx 11 rfl (sx 14 rfl (sx 20 rfl (sx 32 rfl (sx 36 rfl (sx 47 rfl (sub_nil _)))))))))))))))) (.refl _) ?_
      refine hl_nil ?_
      refine hq_then ?_
      refine hc_false rfl ?_
      refine hc_skip ?_
      refine hq_then ?_
      refine hc_seq ?_
      refine hc_region ?_
      refine hl_v rfl rfl rfl (rv_loadN (cs := [.int .i64 d.W, .int .i64 d.H, .int .i64 d.T, .int .i64 d.R]) rfl (by kernel_rfl) (by kernel_rfl) rfl rfl (box_part 1 rfl 0 rfl)) ?_
      refine hl_v rfl rfl rfl (rv_ev rfl) ?_
      refine hl_v rfl rfl rfl (rv_ev rfl) ?_
      refine hl_v rfl rfl rfl (rv_ev rfl) ?_
      refine hl_callV rfl rfl rfl (rq_call (by kernel_rfl) rfl (fun w hm => ret_ans (wireNode_at d _ _ _ (step_tOk hv (by omega)) (by omega) (by omega) (by omega) (by omega) w))) ?_
      refine hl_v rfl rfl rfl (rv_ev rfl) ?_
      refine hl_less (sx 0 rfl (sx 1 rfl (sx 2 rfl (sx 3 rfl (sx 6 rfl (sx 7 rfl (sx 8 rfl (sx 9 rfl (sx 10 rfl (sx 11 rfl (sx 12 rfl (sx 14 rfl (sx 20 rfl (sx 32 rfl (sx 36 rfl (sx 47 rfl (sub_nil _))))))))))))))))) (.refl _) ?_
      refine hl_nil ?_
      refine hq_then ?_
      refine hc_seq ?_
      refine hc_region ?_
      refine hl_v rfl rfl rfl (rv_ev rfl) ?_
      refine hl_geq rfl rfl rfl rfl rfl rfl (fun h19 => ?_) (fun h19 => ?_)
      ·
       refine hl_less (sx 0 rfl (sx 1 rfl (sx 2 rfl (sx 3 rfl (sx 6 rfl (sx 7 rfl (sx 8 rfl (sx 9 rfl (sx 10 rfl (sx 11 rfl (sx 12 rfl (sx 14 rfl (sx 20 rfl (sx 32 rfl (sx 36 rfl (sx 47 rfl (sx 54 rfl (sub_nil _)))))))))))))))))) (.refl _) ?_
       refine hl_nil ?_
       refine hq_then ?_
       refine hc_true rfl ?_
       refine hc_region ?_
       refine hl_v rfl rfl rfl (rv_ev rfl) ?_
       refine hl_v rfl rfl rfl (rv_ev rfl) ?_
       refine hl_callM (R := (fun v' p' => p' = rowE 3 1 v' (insI zs (wireNodeI d (stepI d t (((r : Int) + 2) % 4) ((j : Int) + 1)) (r : Int) (k : Int))).length ((insI zs (wireNodeI d (stepI d t (((r : Int) + 2) % 4) ((j : Int) + 1)) (r : Int) (k : Int))).map (Value.int .i64)))) 0 rfl rfl (by kernel_rfl) rfl rfl (fun l' w hm => insertInt_mut _ zs _ (by omega) w hm) ?_
       intro v20 p21 hR22
       subst hR22
       refine hl_eqL (l' := [rowE 3 1 v20 ((insI zs (wireNodeI d (stepI d t (((r : Int) + 2) % 4) ((j : Int) + 1)) (r : Int) (k : Int))).length) ((insI zs (wireNodeI d (stepI d t (((r : Int) + 2) % 4) ((j : Int) + 1)) (r : Int) (k : Int))).map (Value.int .i64)), boxE b1 #[.int .i64 d.W, .int .i64 d.H, .int .i64 d.T, .int .i64 d.R] 25]) rfl ?_
       refine hl_v rfl rfl rfl (rv_ev rfl) ?_
       refine hl_less (sx 0 rfl (sx 1 rfl (sx 2 rfl (sx 3 rfl (sx 6 rfl (sx 7 rfl (sx 8 rfl (sx 9 rfl (sx 10 rfl (sx 11 rfl (sx 12 rfl (sx 14 rfl (sx 20 rfl (sx 32 rfl (sx 36 rfl (sx 47 rfl (sx 54 rfl (sub_nil _)))))))))))))))))) (.refl _) ?_
       refine hl_nil ?_
       refine hq_block_normal ?_
       refine hq_then ?_
       refine hc_region ?_
       refine hl_v rfl rfl rfl (rv_ev rfl) ?_
       refine hl_v rfl rfl rfl (rv_add rfl rfl rfl (by constructor <;> omega)) ?_
       refine hl_v rfl rfl rfl (rv_ev rfl) ?_
       refine hl_less (sx 0 rfl (sx 1 rfl (sx 2 rfl (sx 3 rfl (sx 6 rfl (sx 7 rfl (sx 8 rfl (sx 9 rfl (sx 10 rfl (sx 11 rfl (sx 12 rfl (sx 14 rfl (sx 20 rfl (sx 32 rfl (sx 36 rfl (sx 47 rfl (sx 54 rfl (sub_nil _)))))))))))))))))) (.refl _) ?_
       refine hl_nil ?_
       have hil := insI_len zs (wireNodeI d (stepI d t (((r : Int) + 2) % 4) ((j : Int) + 1)) r k)
       exact hq_round3 (j + 1) _ _ ⟨by omega, by rw [pinK_succ, ← hz]; first | exact (pinS_out (by omega)).symm | exact (pinS_no (by omega)).symm | exact (pinS_yes (by omega) (by omega)).symm, by omega⟩ (by omega) (sx 0 rfl (sx 1 rfl (sx 2 rfl (sx 3 rfl (sx 6 rfl (sx 7 rfl (sx 8 rfl (sx 9 rfl (sx 10 rfl (sx 14 rfl (sx 20 rfl (sx 32 rfl (sub_nil _))))))))))))) ((.cons_cons _ (.cons_cons _ .slnil)))
      ·
       refine hl_less (sx 0 rfl (sx 1 rfl (sx 2 rfl (sx 3 rfl (sx 6 rfl (sx 7 rfl (sx 8 rfl (sx 9 rfl (sx 10 rfl (sx 11 rfl (sx 12 rfl (sx 14 rfl (sx 20 rfl (sx 32 rfl (sx 36 rfl (sx 47 rfl (sx 54 rfl (sub_nil _)))))))))))))))))) (.refl _) ?_
       refine hl_nil ?_
       refine hq_then ?_
       refine hc_false rfl ?_
       refine hc_skip ?_
       refine hq_block_normal ?_
       refine hq_then ?_
       refine hc_region ?_
       refine hl_v rfl rfl rfl (rv_ev rfl) ?_
       refine hl_v rfl rfl rfl (rv_add rfl rfl rfl (by constructor <;> omega)) ?_
       refine hl_v rfl rfl rfl (rv_ev rfl) ?_
       refine hl_less (sx 0 rfl (sx 1 rfl (sx 2 rfl (sx 3 rfl (sx 6 rfl (sx 7 rfl (sx 8 rfl (sx 9 rfl (sx 10 rfl (sx 11 rfl (sx 12 rfl (sx 14 rfl (sx 20 rfl (sx 32 rfl (sx 36 rfl (sx 47 rfl (sx 54 rfl (sub_nil _)))))))))))))))))) (.refl _) ?_
       refine hl_nil ?_
       have hil := insI_len zs (wireNodeI d (stepI d t (((r : Int) + 2) % 4) ((j : Int) + 1)) r k)
       exact hq_round3 (j + 1) _ _ ⟨by omega, by rw [pinK_succ, ← hz]; first | exact (pinS_out (by omega)).symm | exact (pinS_no (by omega)).symm | exact (pinS_yes (by omega) (by omega)).symm, by omega⟩ (by omega) (sx 0 rfl (sx 1 rfl (sx 2 rfl (sx 3 rfl (sx 6 rfl (sx 7 rfl (sx 8 rfl (sx 9 rfl (sx 10 rfl (sx 14 rfl (sx 20 rfl (sx 32 rfl (sub_nil _))))))))))))) ((.cons_cons _ (.cons_cons _ .slnil)))
    ·
     refine hl_less (sx 0 rfl (sx 1 rfl (sx 2 rfl (sx 3 rfl (sx 6 rfl (sx 7 rfl (sx 8 rfl (sx 9 rfl (sx 10 rfl (sx 14 rfl (sx 20 rfl (sx 32 rfl (sx 36 rfl (sub_nil _)))))))))))))) (.refl _) ?_
     refine hl_nil ?_
     refine hq_then ?_
     refine hc_false rfl ?_
     refine hc_exit ?_
     refine hq_then_exit ?_
     refine hq_then_exit ?_
     refine hq_block_exit ?_
     refine hq_block_normal ?_
     refine hq_then ?_
     refine hc_region ?_
     refine hl_v rfl rfl rfl (rv_ev rfl) ?_
     refine hl_v rfl rfl rfl (rv_add rfl rfl rfl (by constructor <;> omega)) ?_
     refine hl_v rfl rfl rfl (rv_ev rfl) ?_
     refine hl_less (sx 0 rfl (sx 1 rfl (sx 2 rfl (sx 3 rfl (sx 6 rfl (sx 7 rfl (sx 8 rfl (sx 9 rfl (sx 10 rfl (sx 14 rfl (sx 20 rfl (sx 32 rfl (sx 36 rfl (sub_nil _)))))))))))))) (.refl _) ?_
     refine hl_nil ?_
     exact hq_round3 (k + 1) _ _ ⟨by omega, by rw [pinR_succ, if_neg (by omega), ← hy, hz]; congr 1; omega, by omega⟩ (by omega) (sx 0 rfl (sx 1 rfl (sx 2 rfl (sx 3 rfl (sx 6 rfl (sx 7 rfl (sx 8 rfl (sx 9 rfl (sx 14 rfl (sub_nil _)))))))))) ((.cons_cons _ (.cons_cons _ .slnil)))
  ·
   refine hl_less (sx 0 rfl (sx 1 rfl (sx 2 rfl (sx 3 rfl (sx 6 rfl (sx 7 rfl (sx 8 rfl (sx 9 rfl (sx 14 rfl (sx 20 rfl (sub_nil _))))))))))) (.refl _) ?_
   refine hl_nil ?_
   refine hq_then ?_
   refine hc_false rfl ?_
   refine hc_exit ?_
   refine hq_then_exit ?_
   refine hq_then_exit ?_
   refine hq_block_exit ?_
   refine hq_block_normal ?_
   refine hq_then ?_
   refine hc_region ?_
   refine hl_v rfl rfl rfl (rv_ev rfl) ?_
   refine hl_v rfl rfl rfl (rv_add rfl rfl rfl (by constructor <;> omega)) ?_
   refine hl_v rfl rfl rfl (rv_ev rfl) ?_
   refine hl_less (sx 0 rfl (sx 1 rfl (sx 2 rfl (sx 3 rfl (sx 6 rfl (sx 7 rfl (sx 8 rfl (sx 9 rfl (sx 14 rfl (sx 20 rfl (sub_nil _))))))))))) (.refl _) ?_
   refine hl_nil ?_
   exact hq_round3 (r + 1) _ _ ⟨by omega, by rw [pinO_succ, ← hx, hy]; congr 1; omega, by omega⟩ (by omega) (sx 0 rfl (sx 1 rfl (sx 2 rfl (sx 3 rfl (sx 6 rfl (sx 7 rfl (sx 8 rfl (sub_nil _)))))))) ((.cons_cons _ (.cons_cons _ .slnil)))
 ·
  refine hl_less (sx 0 rfl (sx 1 rfl (sx 2 rfl (sx 3 rfl (sx 6 rfl (sx 7 rfl (sx 8 rfl (sx 14 rfl (sub_nil _))))))))) (.refl _) ?_
  refine hl_nil ?_
  refine hq_then ?_
  refine hc_false rfl ?_
  refine hc_exit ?_
  refine hq_then_exit ?_
  refine hq_then_exit ?_
  refine hq_block_exit ?_
  refine hq_then ?_
  refine hc_seq ?_
  refine hc_region ?_
  refine hl_v rfl rfl rfl (rv_ev rfl) ?_
  refine hl_v rfl rfl rfl (rv_ev rfl) ?_
  refine hl_less (sx 0 rfl (sx 1 rfl (sx 2 rfl (sx 3 rfl (sx 6 rfl (sx 7 rfl (sx 8 rfl (sx 14 rfl (sub_nil _))))))))) (.refl _) ?_
  refine hl_nil ?_
  refine hq_then ?_
  refine hc_ret ?_
  exact hq_retR (post := [rowE 3 1 v xs.length (xs.map (Value.int .i64))]) rfl rfl ((.cons_cons _ (.cons _ .slnil))) (by rw [hx, show r = 4 by omega])
open Go.RowKit
theorem inR_not {a b c : Int} (h : inR a b c = false) : a < b ∨ c < a := by
  rcases Int.lt_or_le a b with h1 | h1
  · exact .inl h1
  · rcases Int.lt_or_le c a with h2 | h2
    · exact .inr h2
    · rw [inR_true h1 h2] at h; cases h
def outPinI (d : Dev) (t p : Int) : Int := if tOk d t = true ∧ 0 ≤ p ∧ p ≤ outPinsI (kindI d t) - 1 then t * perI d + 5 + p else -1
theorem outPins_rng (d : Dev) (t : Int) : 1 ≤ outPinsI (kindI d t) ∧ outPinsI (kindI d t) ≤ 2 := by
  rcases kind_cases d t with h | h | h <;> rw [h] <;> simp [outPinsI]
theorem per_mul {d : Dev} {t : Int} (hv : devB d = true) (t0 : 0 ≤ t) (t1 : t ≤ d.W * d.H - 1) : 0 ≤ t * perI d ∧ t * perI d ≤ 805 := by
  obtain ⟨h1, h2⟩ := per_rng hv
  obtain ⟨m1, m2⟩ := area_le hv
  exact ⟨Int.mul_nonneg t0 (by omega), Int.le_trans (Int.mul_le_mul (show t ≤ 35 by omega) h2 (by omega) (by omega)) (by omega)⟩
theorem tile_35 {d : Dev} {t : Int} (hv : devB d = true) (t1 : t ≤ d.W * d.H - 1) : t ≤ 35 := by
  obtain ⟨m1, m2⟩ := area_le hv; omega
set_option maxHeartbeats 4000000 in
set_option maxRecDepth 100000 in
theorem outPin_ans (d : Dev) (t p : Int) (w : World) (p0 : -1000 ≤ p) (p1 : p ≤ 1000) :
  Calls Try.prog 48 #[.agg #[.int .i64 d.W, .int .i64 d.H, .int .i64 d.T, .int .i64 d.R], .int .i64 t, .int .i64 p] w (Ans w (.int .i64 (outPinI d t p))) := by
 refine calls_hc (N := 28) (args := [.agg #[.int .i64 d.W, .int .i64 d.H, .int .i64 d.T, .int .i64 d.R], .int .i64 t, .int .i64 p]) Try.func48 rfl rfl ?_
 refine hc_less _ (sx 0 rfl (sx 1 rfl (sx 2 rfl (sub_nil _)))) (.refl _) ?_
 refine hc_seq ?_
 refine hc_region ?_
 refine hl_box rfl rfl rfl (rq_box rfl rfl) ?_
 intro b1
 refine hl_v rfl rfl rfl (rv_ev rfl) ?_
 refine hl_less (sx 0 rfl (sx 1 rfl (sx 2 rfl (sx 3 rfl (sx 6 rfl (sub_nil _)))))) (.refl _) ?_
 refine hl_nil ?_
 refine hq_then ?_
 refine hc_seq ?_
 refine hc_seq ?_
 refine hc_region ?_
 refine hl_v rfl rfl rfl (rv_loadN (cs := [.int .i64 d.W, .int .i64 d.H, .int .i64 d.T, .int .i64 d.R]) rfl (by kernel_rfl) (by kernel_rfl) rfl rfl (box_part 0 rfl 0 rfl)) ?_
 refine hl_v rfl rfl rfl (rv_ev rfl) ?_
 refine hl_callV rfl rfl rfl (rq_call (by kernel_rfl) rfl (fun w hm => ret_ans (implTileOk_any d _ w))) ?_
 refine hl_bool (fun h2 => ?_) (fun h2 => ?_)
 ·
  obtain ⟨hv, h2a, h2b⟩ := (tOk_iff _ _).1 h2
  have hor := outPins_rng d t
  have hpm := per_mul hv h2a h2b
  have h35 := tile_35 hv h2b
  refine hl_v rfl rfl rfl (rv_ev rfl) ?_
  refine hl_v rfl rfl rfl (rv_ev rfl) ?_
  refine hl_v rfl rfl rfl (rv_ev rfl) ?_
  refine hl_v rfl rfl rfl (rv_loadN (cs := [.int .i64 d.W, .int .i64 d.H, .int .i64 d.T, .int .i64 d.R]) rfl (by kernel_rfl) (by kernel_rfl) rfl rfl (box_part 0 rfl 0 rfl)) ?_
  refine hl_v rfl rfl rfl (rv_ev rfl) ?_
  refine hl_callV rfl rfl rfl (rq_call (by kernel_rfl) rfl (fun w hm => ret_ans (implTileKind0_any d _ hv (by omega) (by omega) w))) ?_
  refine hl_callV rfl rfl rfl (rq_call (by kernel_rfl) rfl (fun w hm => ret_ans (ans_of (outPins_any _ (kind_cases d _) w)))) ?_
  refine hl_v rfl rfl rfl (rv_sub rfl rfl rfl (by constructor <;> omega)) ?_
  refine hl_callV rfl rfl rfl (rq_call (by kernel_rfl) rfl (fun w hm => ret_ans (ans_of (inRange_any _ _ _ w)))) ?_
  refine hl_bool (fun h3 => ?_) (fun h3 => ?_)
  ·
   obtain ⟨h3a, h3b⟩ := (inR_iff _ _ _).1 h3
   refine hl_v rfl rfl rfl (rv_ev rfl) ?_
   refine hl_v rfl rfl rfl (rv_ev rfl) ?_
   refine hl_less (sx 0 rfl (sx 1 rfl (sx 2 rfl (sx 3 rfl (sx 6 rfl (sx 20 rfl (sub_nil _))))))) (.refl _) ?_
   refine hl_nil ?_
   refine hq_then ?_
   refine hc_false rfl ?_
   refine hc_skip ?_
   refine hq_then ?_
   refine hc_seq ?_
   refine hc_region ?_
   refine hl_v rfl rfl rfl (rv_ev rfl) ?_
   refine hl_v rfl rfl rfl (rv_loadN (cs := [.int .i64 d.W, .int .i64 d.H, .int .i64 d.T, .int .i64 d.R]) rfl (by kernel_rfl) (by kernel_rfl) rfl rfl (box_part 0 rfl 0 rfl)) ?_
   refine hl_callV rfl rfl rfl (rq_call (by kernel_rfl) rfl (fun w hm => ret_ans (implPer_any d hv w))) ?_
   refine hl_v rfl rfl rfl (rv_mul rfl rfl rfl (by constructor <;> omega)) ?_
   refine hl_v rfl rfl rfl (rv_add rfl rfl rfl (by constructor <;> omega)) ?_
   refine hl_v rfl rfl rfl (rv_ev rfl) ?_
   refine hl_v rfl rfl rfl (rv_add rfl rfl rfl (by constructor <;> omega)) ?_
   refine hl_v rfl rfl rfl (rv_ev rfl) ?_
   refine hl_less (sx 0 rfl (sx 1 rfl (sx 2 rfl (sx 3 rfl (sx 6 rfl (sx 20 rfl (sub_nil _))))))) (.refl _) ?_
   refine hl_nil ?_
   refine hq_then ?_
   refine hc_ret ?_
   exact hq_ans rfl rfl (by unfold outPinI; rw [if_pos ⟨by assumption, by omega, by omega⟩])
  ·
   have h3a := inR_not h3
   refine hl_v rfl rfl rfl (rv_ev rfl) ?_
   refine hl_v rfl rfl rfl (rv_ev rfl) ?_
   refine hl_less (sx 0 rfl (sx 1 rfl (sx 2 rfl (sx 3 rfl (sx 6 rfl (sx 20 rfl (sub_nil _))))))) (.refl _) ?_
   refine hl_nil ?_
   refine hq_then ?_
   refine hc_true rfl ?_
   refine hc_seq ?_
   refine hc_region ?_
   refine hl_v rfl rfl rfl (rv_ev rfl) ?_
   refine hl_less (sx 0 rfl (sx 1 rfl (sx 2 rfl (sx 3 rfl (sx 6 rfl (sx 20 rfl (sub_nil _))))))) (.refl _) ?_
   refine hl_nil ?_
   refine hq_then ?_
   refine hc_ret ?_
   refine hq_then_ret ?_
   exact hq_ans rfl rfl (by unfold outPinI; rw [if_neg (by rintro ⟨q1, q2, q3⟩; first | omega | simp_all)])
 ·
  refine hl_v rfl rfl rfl (rv_ev rfl) ?_
  refine hl_v rfl rfl rfl (rv_ev rfl) ?_
  refine hl_skip rfl rfl rfl ?_
  refine hl_skip rfl rfl rfl ?_
  refine hl_skip rfl rfl rfl ?_
  refine hl_skip rfl rfl rfl ?_
  refine hl_skip rfl rfl rfl ?_
  refine hl_skip rfl rfl rfl ?_
  refine hl_skip rfl rfl rfl ?_
  refine hl_skip rfl rfl rfl ?_
  refine hl_v rfl rfl rfl (rv_ev rfl) ?_
  refine hl_less (sx 0 rfl (sx 1 rfl (sx 2 rfl (sx 3 rfl (sx 6 rfl (sx 20 rfl (sub_nil _))))))) (.refl _) ?_
  refine hl_nil ?_
  refine hq_then ?_
  refine hc_true rfl ?_
  refine hc_seq ?_
  refine hc_region ?_
  refine hl_v rfl rfl rfl (rv_ev rfl) ?_
  refine hl_less (sx 0 rfl (sx 1 rfl (sx 2 rfl (sx 3 rfl (sx 6 rfl (sx 20 rfl (sub_nil _))))))) (.refl _) ?_
  refine hl_nil ?_
  refine hq_then ?_
  refine hc_ret ?_
  refine hq_then_ret ?_
  exact hq_ans rfl rfl (by unfold outPinI; rw [if_neg (by rintro ⟨q1, q2, q3⟩; first | omega | simp_all)])
def outS (d : Dev) (t : Int) (xs : List Int) (p : Nat) : List Int := if 0 ≤ outPinI d t p then insI xs (outPinI d t p) else xs
def outO (d : Dev) (t : Int) (j : Nat) : List Int := (List.range j).foldl (outS d t) []
theorem outO_succ (d : Dev) (t : Int) (j : Nat) : outO d t (j + 1) = outS d t (outO d t j) j := by unfold outO; rw [List.range_succ, List.foldl_append]; rfl
def wireW (d : Dev) (t r : Int) (xs : List Int) (k : Int) : List Int := if 0 ≤ stepI d t ((r + 2) % 4) (1 + k % 2) then insI xs (wireNodeI d (stepI d t ((r + 2) % 4) (1 + k % 2)) r k) else xs
def wireK (d : Dev) (t r : Int) (ks : List Int) (xs : List Int) (j : Nat) : List Int := (ks.take j).foldl (wireW d t r) xs
theorem wireK_succ (d : Dev) (t r : Int) (ks xs : List Int) (j : Nat) (h : j < ks.length) : wireK d t r ks xs (j + 1) = wireW d t r (wireK d t r ks xs j) (ks.getD j 0) := by
  unfold wireK; rw [List.take_succ_eq_append_getElem h, List.foldl_append, List.getD_eq_getElem?_getD, List.getElem?_eq_getElem h]; rfl
def wireR (d : Dev) (t dir track : Int) (xs : List Int) (r : Nat) : List Int := if (r : Int) = (dir + 2) % 4 then xs else wireK d t r [track, (track + 1) % d.T] xs 2
def wireO (d : Dev) (t dir track : Int) (j : Nat) : List Int := (List.range j).foldl (wireR d t dir track) (outO d t 2)
theorem wireO_succ (d : Dev) (t dir track : Int) (j : Nat) : wireO d t dir track (j + 1) = wireR d t dir track (wireO d t dir track j) j := by unfold wireO; rw [List.range_succ, List.foldl_append]; rfl
theorem two_rng {a b T : Int} (h1 : 0 ≤ a ∧ a ≤ T - 1) (h2 : 0 ≤ b ∧ b ≤ T - 1) (j : Nat) (hj : j < 2) : 0 ≤ [a, b].getD j 0 ∧ [a, b].getD j 0 ≤ T - 1 := by
  rcases j with _ | _ | j
  · exact h1
  · exact h2
  · omega
theorem mod_rng {a T : Int} (hT : 1 ≤ T) : 0 ≤ a % T ∧ a % T ≤ T - 1 := ⟨Int.emod_nonneg _ (by omega), by have := Int.emod_lt_of_pos a (show 0 < T by omega); omega⟩
set_option maxHeartbeats 4000000 in
set_option maxRecDepth 100000 in
theorem wireSources_ret (d : Dev) (t dir track : Int) (w : World) (hv : devB d = true) (t0 : 0 ≤ t) (t1 : t ≤ d.W * d.H - 1) (r0 : 0 ≤ dir) (r1 : dir ≤ 3) (k0 : 0 ≤ track) (k1_o : track ≤ d.T - 1) :
  Calls Try.prog 74 #[.agg #[.int .i64 d.W, .int .i64 d.H, .int .i64 d.T, .int .i64 d.R], .int .i64 t, .int .i64 dir, .int .i64 track] w (Ret w (fun v' post => post = [rowE 3 1 v' (wireO d t dir track 4).length ((wireO d t dir track 4).map (Value.int .i64))])) := by
 obtain ⟨-, -, ⟨l1, l2⟩, -⟩ := (devB_iff d).1 hv
 have hmr := mod_rng (a := track + 1) l1
 refine calls_hc (N := 69) (args := [.agg #[.int .i64 d.W, .int .i64 d.H, .int .i64 d.T, .int .i64 d.R], .int .i64 t, .int .i64 dir, .int .i64 track]) Try.func74 rfl rfl ?_
 refine hc_less _ (sx 0 rfl (sx 1 rfl (sx 2 rfl (sx 3 rfl (sub_nil _))))) (.refl _) ?_
 refine hc_seq ?_
 refine hc_region ?_
 refine hl_box rfl rfl rfl (rq_box rfl rfl) ?_
 intro b1
 refine hl_v rfl rfl rfl (rv_ev rfl) ?_
 refine hl_less (sx 0 rfl (sx 1 rfl (sx 2 rfl (sx 3 rfl (sx 4 rfl (sx 8 rfl (sub_nil _))))))) (.refl _) ?_
 refine hl_nil ?_
 refine hq_then ?_
 refine hc_seq ?_
 refine hc_region ?_
 refine hl_nilRow 3 1 ?_
 refine hl_v rfl rfl rfl (rv_ev rfl) ?_
 refine hl_less (sx 0 rfl (sx 1 rfl (sx 2 rfl (sx 3 rfl (sx 4 rfl (sx 8 rfl (sx 9 rfl (sub_nil _)))))))) (.refl _) ?_
 refine hl_nil ?_
 refine hq_then ?_
 refine hc_seq ?_
 refine hc_seq ?_
 refine hc_region ?_
 refine hl_v rfl rfl rfl (rv_ev rfl) ?_
 refine hl_less (sx 0 rfl (sx 1 rfl (sx 2 rfl (sx 3 rfl (sx 4 rfl (sx 8 rfl (sx 9 rfl (sx 10 rfl (sub_nil _))))))))) (.refl _) ?_
 refine hl_nil ?_
 refine hq_then ?_
 refine hc_block ?_
 refine hc_loop3 (α := Nat) (β := Value) (γ := List Int) (fun p v xs => [rowE 3 1 v xs.length (xs.map (Value.int .i64)), boxE b1 #[.int .i64 d.W, .int .i64 d.H, .int .i64 d.T, .int .i64 d.R] 25]) (fun p v xs => [(0, .agg #[.int .i64 d.W, .int .i64 d.H, .int .i64 d.T, .int .i64 d.R]), (1, .int .i64 t), (2, .int .i64 dir), (3, .int .i64 track), (4, .pointer (some ⟨b1, 0, none⟩)), (8, .slice none 0 0), (9, v), (10, .int .i64 (p : Int))]) (fun p v xs => p ≤ 2 ∧ xs = outO d t p ∧ xs.length ≤ p) (fun p v xs => 3 - p) 0 _ [] ⟨by omega, rfl, by simp⟩ (sx 0 rfl (sx 1 rfl (sx 2 rfl (sx 3 rfl (sx 4 rfl (sx 8 rfl (sx 9 rfl (sx 10 rfl (sub_nil _))))))))) ((.cons_cons _ (.cons_cons _ .slnil))) ?_
 intro p v xs hi3
 obtain ⟨hp, hx, hxl⟩ := hi3
 refine hc_seq ?_
 refine hc_seq ?_
 refine hc_region ?_
 refine hl_v rfl rfl rfl (rv_ev rfl) ?_
 refine hl_lss rfl rfl rfl rfl rfl rfl (fun h4 => ?_) (fun h4 => ?_)
 ·
  refine hl_less (sx 0 rfl (sx 1 rfl (sx 2 rfl (sx 3 rfl (sx 4 rfl (sx 8 rfl (sx 9 rfl (sx 10 rfl (sx 17 rfl (sub_nil _)))))))))) (.refl _) ?_
  refine hl_nil ?_
  refine hq_then ?_
  refine hc_true rfl ?_
  refine hc_skip ?_
  refine hq_then ?_
  refine hc_seq ?_
  refine hc_block ?_
  refine hc_seq ?_
  refine hc_region ?_
  refine hl_v rfl rfl rfl (rv_loadN (cs := [.int .i64 d.W, .int .i64 d.H, .int .i64 d.T, .int .i64 d.R]) rfl (by kernel_rfl) (by kernel_rfl) rfl rfl (box_part 1 rfl 0 rfl)) ?_
  refine hl_v rfl rfl rfl (rv_ev rfl) ?_
  refine hl_v rfl rfl rfl (rv_ev rfl) ?_
  refine hl_callV rfl rfl rfl (rq_call (by kernel_rfl) rfl (fun w hm => ret_ans (outPin_ans d _ _ w (by omega) (by omega)))) ?_
  refine hl_v rfl rfl rfl (rv_ev rfl) ?_
  refine hl_less (sx 0 rfl (sx 1 rfl (sx 2 rfl (sx 3 rfl (sx 4 rfl (sx 8 rfl (sx 9 rfl (sx 10 rfl (sx 11 rfl (sx 17 rfl (sub_nil _))))))))))) (.refl _) ?_
  refine hl_nil ?_
  refine hq_then ?_
  refine hc_seq ?_
  refine hc_region ?_
  refine hl_v rfl rfl rfl (rv_ev rfl) ?_
  refine hl_geq rfl rfl rfl rfl rfl rfl (fun h5 => ?_) (fun h5 => ?_)
  ·
   refine hl_less (sx 0 rfl (sx 1 rfl (sx 2 rfl (sx 3 rfl (sx 4 rfl (sx 8 rfl (sx 9 rfl (sx 10 rfl (sx 11 rfl (sx 17 rfl (sx 25 rfl (sub_nil _)))))))))))) (.refl _) ?_
   refine hl_nil ?_
   refine hq_then ?_
   refine hc_true rfl ?_
   refine hc_region ?_
   refine hl_v rfl rfl rfl (rv_ev rfl) ?_
   refine hl_v rfl rfl rfl (rv_ev rfl) ?_
   refine hl_callM (R := (fun v' p' => p' = rowE 3 1 v' (insI xs (outPinI d t (p : Int))).length ((insI xs (outPinI d t (p : Int))).map (Value.int .i64)))) 0 rfl rfl (by kernel_rfl) rfl rfl (fun l' w hm => insertInt_mut _ xs _ (by omega) w hm) ?_
   intro v6 p7 hR8
   subst hR8
   refine hl_eqL (l' := [rowE 3 1 v6 ((insI xs (outPinI d t (p : Int))).length) ((insI xs (outPinI d t (p : Int))).map (Value.int .i64)), boxE b1 #[.int .i64 d.W, .int .i64 d.H, .int .i64 d.T, .int .i64 d.R] 25]) rfl ?_
   refine hl_v rfl rfl rfl (rv_ev rfl) ?_
   refine hl_less (sx 0 rfl (sx 1 rfl (sx 2 rfl (sx 3 rfl (sx 4 rfl (sx 8 rfl (sx 9 rfl (sx 10 rfl (sx 11 rfl (sx 17 rfl (sx 25 rfl (sub_nil _)))))))))))) (.refl _) ?_
   refine hl_nil ?_
   refine hq_block_normal ?_
   refine hq_then ?_
   refine hc_region ?_
   refine hl_v rfl rfl rfl (rv_ev rfl) ?_
   refine hl_v rfl rfl rfl (rv_add rfl rfl rfl (by constructor <;> omega)) ?_
   refine hl_v rfl rfl rfl (rv_ev rfl) ?_
   refine hl_less (sx 0 rfl (sx 1 rfl (sx 2 rfl (sx 3 rfl (sx 4 rfl (sx 8 rfl (sx 9 rfl (sx 10 rfl (sx 11 rfl (sx 17 rfl (sx 25 rfl (sub_nil _)))))))))))) (.refl _) ?_
   refine hl_nil ?_
   have hil := insI_len xs (outPinI d t (p : Int))
   exact hq_round3 (p + 1) _ _ ⟨by omega, by rw [outO_succ, ← hx]; unfold outS; first | rw [if_pos (by assumption)] | rw [if_neg (by omega)], by omega⟩ (by omega) (sx 0 rfl (sx 1 rfl (sx 2 rfl (sx 3 rfl (sx 4 rfl (sx 8 rfl (sx 9 rfl (sx 10 rfl (sub_nil _))))))))) ((.cons_cons _ (.cons_cons _ .slnil)))
  ·
   refine hl_less (sx 0 rfl (sx 1 rfl (sx 2 rfl (sx 3 rfl (sx 4 rfl (sx 8 rfl (sx 9 rfl (sx 10 rfl (sx 11 rfl (sx 17 rfl (sx 25 rfl (sub_nil _)))))))))))) (.refl _) ?_
   refine hl_nil ?_
   refine hq_then ?_
   refine hc_false rfl ?_
   refine hc_skip ?_
   refine hq_block_normal ?_
   refine hq_then ?_
   refine hc_region ?_
   refine hl_v rfl rfl rfl (rv_ev rfl) ?_
   refine hl_v rfl rfl rfl (rv_add rfl rfl rfl (by constructor <;> omega)) ?_
   refine hl_v rfl rfl rfl (rv_ev rfl) ?_
   refine hl_less (sx 0 rfl (sx 1 rfl (sx 2 rfl (sx 3 rfl (sx 4 rfl (sx 8 rfl (sx 9 rfl (sx 10 rfl (sx 11 rfl (sx 17 rfl (sx 25 rfl (sub_nil _)))))))))))) (.refl _) ?_
   refine hl_nil ?_
   have hil := insI_len xs (outPinI d t (p : Int))
   exact hq_round3 (p + 1) _ _ ⟨by omega, by rw [outO_succ, ← hx]; unfold outS; first | rw [if_pos (by assumption)] | rw [if_neg (by omega)], by omega⟩ (by omega) (sx 0 rfl (sx 1 rfl (sx 2 rfl (sx 3 rfl (sx 4 rfl (sx 8 rfl (sx 9 rfl (sx 10 rfl (sub_nil _))))))))) ((.cons_cons _ (.cons_cons _ .slnil)))
 ·
  refine hl_less (sx 0 rfl (sx 1 rfl (sx 2 rfl (sx 3 rfl (sx 4 rfl (sx 8 rfl (sx 9 rfl (sx 10 rfl (sx 17 rfl (sub_nil _)))))))))) (.refl _) ?_
  refine hl_nil ?_
  refine hq_then ?_
  refine hc_false rfl ?_
  refine hc_exit ?_
  refine hq_then_exit ?_
  refine hq_then_exit ?_
  refine hq_block_exit ?_
  refine hq_then ?_
  refine hc_seq ?_
  refine hc_seq ?_
  refine hc_region ?_
  refine hl_v rfl rfl rfl (rv_ev rfl) ?_
  refine hl_less (sx 0 rfl (sx 1 rfl (sx 2 rfl (sx 3 rfl (sx 4 rfl (sx 8 rfl (sx 9 rfl (sx 10 rfl (sx 12 rfl (sx 17 rfl (sub_nil _))))))))))) (.refl _) ?_
  refine hl_nil ?_
  refine hq_then ?_
  refine hc_block ?_
  refine hc_loop3 (α := Nat) (β := Value) (γ := List Int) (fun r u ys => [rowE 3 1 u ys.length (ys.map (Value.int .i64)), boxE b1 #[.int .i64 d.W, .int .i64 d.H, .int .i64 d.T, .int .i64 d.R] 25]) (fun r u ys => [(0, .agg #[.int .i64 d.W, .int .i64 d.H, .int .i64 d.T, .int .i64 d.R]), (1, .int .i64 t), (2, .int .i64 dir), (3, .int .i64 track), (4, .pointer (some ⟨b1, 0, none⟩)), (8, .slice none 0 0), (9, u), (10, .int .i64 (p : Int)), (12, .int .i64 (r : Int)), (17, .bool false)]) (fun r u ys => r ≤ 4 ∧ ys = wireO d t dir track r ∧ ys.length ≤ 2 + 2 * r) (fun r u ys => 5 - r) 0 _ xs ⟨by omega, by rw [hx, show p = 2 by omega]; rfl, by omega⟩ (sx 0 rfl (sx 1 rfl (sx 2 rfl (sx 3 rfl (sx 4 rfl (sx 8 rfl (sx 9 rfl (sx 10 rfl (sx 12 rfl (sx 17 rfl (sub_nil _))))))))))) ((.cons_cons _ (.cons_cons _ .slnil))) ?_
  intro r u ys hi9
  obtain ⟨hr, hy, hyl⟩ := hi9
  refine hc_seq ?_
  refine hc_seq ?_
  refine hc_region ?_
  refine hl_v rfl rfl rfl (rv_ev rfl) ?_
  refine hl_lss rfl rfl rfl rfl rfl rfl (fun h10 => ?_) (fun h10 => ?_)
  ·
   refine hl_less (sx 0 rfl (sx 1 rfl (sx 2 rfl (sx 3 rfl (sx 4 rfl (sx 8 rfl (sx 9 rfl (sx 10 rfl (sx 12 rfl (sx 17 rfl (sx 30 rfl (sub_nil _)))))))))))) (.refl _) ?_
   refine hl_nil ?_
   refine hq_then ?_
   refine hc_true rfl ?_
   refine hc_skip ?_
   refine hq_then ?_
   refine hc_seq ?_
   refine hc_block ?_
   refine hc_seq ?_
   refine hc_seq ?_
   refine hc_region ?_
   refine hl_v rfl rfl rfl (rv_ev rfl) ?_
   refine hl_v rfl rfl rfl (rv_ev rfl) ?_
   refine hl_v rfl rfl rfl (rv_add rfl rfl rfl (by constructor <;> omega)) ?_
   refine hl_v rfl rfl rfl (rv_rem rfl rfl rfl (by constructor <;> omega)) ?_
   refine hl_eql rfl rfl rfl rfl rfl rfl (fun h11 => ?_) (fun h11 => ?_)
   ·
    refine hl_less (sx 0 rfl (sx 1 rfl (sx 2 rfl (sx 3 rfl (sx 4 rfl (sx 8 rfl (sx 9 rfl (sx 10 rfl (sx 12 rfl (sx 17 rfl (sx 30 rfl (sx 37 rfl (sub_nil _))))))))))))) (.refl _) ?_
    refine hl_nil ?_
    refine hq_then ?_
    refine hc_true rfl ?_
    refine hc_exit ?_
    refine hq_then_exit ?_
    refine hq_block_exit ?_
    refine hq_then ?_
    refine hc_region ?_
    refine hl_v rfl rfl rfl (rv_ev rfl) ?_
    refine hl_v rfl rfl rfl (rv_add rfl rfl rfl (by constructor <;> omega)) ?_
    refine hl_v rfl rfl rfl (rv_ev rfl) ?_
    refine hl_less (sx 0 rfl (sx 1 rfl (sx 2 rfl (sx 3 rfl (sx 4 rfl (sx 8 rfl (sx 9 rfl (sx 10 rfl (sx 12 rfl (sx 17 rfl (sx 30 rfl (sx 37 rfl (sub_nil _))))))))))))) (.refl _) ?_
    refine hl_nil ?_
    exact hq_round3 (r + 1) _ _ ⟨by omega, by rw [wireO_succ, ← hy]; unfold wireR; rw [if_pos (by omega)], by omega⟩ (by omega) (sx 0 rfl (sx 1 rfl (sx 2 rfl (sx 3 rfl (sx 4 rfl (sx 8 rfl (sx 9 rfl (sx 10 rfl (sx 12 rfl (sx 17 rfl (sub_nil _))))))))))) ((.cons_cons _ (.cons_cons _ .slnil)))
   ·
    refine hl_less (sx 0 rfl (sx 1 rfl (sx 2 rfl (sx 3 rfl (sx 4 rfl (sx 8 rfl (sx 9 rfl (sx 10 rfl (sx 12 rfl (sx 17 rfl (sx 30 rfl (sx 37 rfl (sub_nil _))))))))))))) (.refl _) ?_
    refine hl_nil ?_
    refine hq_then ?_
    refine hc_false rfl ?_
    refine hc_skip ?_
    refine hq_then ?_
    refine hc_seq ?_
    refine hc_region ?_
    refine hl_v rfl rfl rfl (rv_ev rfl) ?_
    refine hl_v rfl rfl rfl (rv_ev rfl) ?_
    refine hl_v rfl rfl rfl (rv_add rfl rfl rfl (by constructor <;> omega)) ?_
    refine hl_v rfl rfl rfl (rv_field (k0 := 2) rfl (by kernel_rfl) rfl) ?_
    refine hl_v rfl rfl rfl (rv_load rfl (by kernel_rfl) rfl (box_cell 1 rfl rfl)) ?_
    refine hl_v rfl rfl rfl (rv_rem rfl rfl rfl (by constructor <;> omega)) ?_
    refine hl_row rfl rfl rfl (rq_buildSlice (z := .int .i64 0) (s := 1) (cs := ([track, (track + 1) % d.T].map (Value.int .i64))) rfl Try.underlying26 (by kernel_rfl) (by decide) rfl (by kernel_rfl) rfl) ?_
    intro g12
    refine hl_v rfl rfl rfl (rv_len rfl Try.underlying26 rfl (rd_row 0 rfl)) ?_
    refine hl_v rfl rfl rfl (rv_ev rfl) ?_
    refine hl_less (sx 0 rfl (sx 1 rfl (sx 2 rfl (sx 3 rfl (sx 4 rfl (sx 8 rfl (sx 9 rfl (sx 10 rfl (sx 12 rfl (sx 17 rfl (sx 30 rfl (sx 37 rfl (sx 44 rfl (sx 45 rfl (sx 46 rfl (sub_nil _)))))))))))))))) (.refl _) ?_
    refine hl_nil ?_
    refine hq_then ?_
    refine hc_block ?_
    refine hc_loop3 (α := Nat) (β := Value) (γ := List Int) (fun j q zs => [rowE 3 1 (.slice (some ⟨g12, 0, none⟩) 2 2) 2 ([track, (track + 1) % d.T].map (Value.int .i64)), rowE 3 1 q zs.length (zs.map (Value.int .i64)), boxE b1 #[.int .i64 d.W, .int .i64 d.H, .int .i64 d.T, .int .i64 d.R] 25]) (fun j q zs => [(0, .agg #[.int .i64 d.W, .int .i64 d.H, .int .i64 d.T, .int .i64 d.R]), (1, .int .i64 t), (2, .int .i64 dir), (3, .int .i64 track), (4, .pointer (some ⟨b1, 0, none⟩)), (8, .slice none 0 0), (9, q), (10, .int .i64 (p : Int)), (12, .int .i64 (r : Int)), (17, .bool false), (30, .bool true), (37, .bool false), (44, .slice (some ⟨g12, 0, none⟩) 2 2), (45, .int .i64 (2 : Int)), (46, .int .i64 (j : Int))]) (fun j q zs => j ≤ 2 ∧ zs = wireK d t r [track, (track + 1) % d.T] ys j ∧ zs.length ≤ ys.length + j) (fun j q zs => 3 - j) 0 _ ys ⟨by omega, rfl, by simp⟩ (sx 0 rfl (sx 1 rfl (sx 2 rfl (sx 3 rfl (sx 4 rfl (sx 8 rfl (sx 9 rfl (sx 10 rfl (sx 12 rfl (sx 17 rfl (sx 30 rfl (sx 37 rfl (sx 44 rfl (sx 45 rfl (sx 46 rfl (sub_nil _)))))))))))))))) ((.cons_cons _ (.cons_cons _ (.cons_cons _ .slnil)))) ?_
    intro j q zs hi13
    obtain ⟨hj, hz, hzl⟩ := hi13
    refine hc_seq ?_
    refine hc_region ?_
    refine hl_lss rfl rfl rfl rfl rfl rfl (fun h14 => ?_) (fun h14 => ?_)
    ·
     refine hl_less (sx 0 rfl (sx 1 rfl (sx 2 rfl (sx 3 rfl (sx 4 rfl (sx 8 rfl (sx 9 rfl (sx 10 rfl (sx 12 rfl (sx 17 rfl (sx 30 rfl (sx 37 rfl (sx 44 rfl (sx 45 rfl (sx 46 rfl (sx 47 rfl (sub_nil _))))))))))))))))) (.refl _) ?_
     refine hl_nil ?_
     refine hq_then ?_
     refine hc_seq ?_
     refine hc_true rfl ?_
     refine hc_skip ?_
     refine hq_then ?_
     refine hc_seq ?_
     refine hc_block ?_
     refine hc_seq ?_
     refine hc_region ?_
     refine hl_v rfl rfl rfl (rv_index (s := 1) rfl Try.underlying26 (by kernel_rfl) rfl rfl (rd_row 0 rfl) (by omega) (by first | omega | (simp only [List.length_set]; omega))) ?_
     refine hl_v rfl rfl rfl (rv_loadEl (u := .int .i64 (([track, (track + 1) % d.T]).getD j 0)) rfl (by kernel_rfl) rfl (rd_row 0 rfl) (ints_at1 (show _ < 2 by first | omega | (simp only [List.length_set]; omega)))) ?_
     have hkr := two_rng (T := d.T) ⟨k0, k1_o⟩ hmr j (by omega)
     refine hl_v rfl rfl rfl (rv_ev rfl) ?_
     refine hl_less (sx 0 rfl (sx 1 rfl (sx 2 rfl (sx 3 rfl (sx 4 rfl (sx 8 rfl (sx 9 rfl (sx 10 rfl (sx 12 rfl (sx 14 rfl (sx 17 rfl (sx 30 rfl (sx 37 rfl (sx 44 rfl (sx 45 rfl (sx 46 rfl (sx 47 rfl (sub_nil _)))))))))))))))))) (.refl _) ?_
     refine hl_nil ?_
     refine hq_then ?_
     refine hc_seq ?_
     refine hc_draw (by kernel_rfl) 8 [0, 1, 2, 3, 4, 5, 6, 7] (List.take 8 _) (List.drop 8 _) [[], [], [], [2], [3], [], [5], [0, 1, 4, 6]] [50, 51, 52, 53, 54, 55, 56, 57] (fun i_ vs_ v_ p_ => match i_ with | 0 => v_ = .agg #[.int .i64 d.W, .int .i64 d.H, .int .i64 d.T, .int .i64 d.R] ∧ p_ = [] | 1 => v_ = .int .i64 t ∧ p_ = [] | 2 => v_ = .int .i64 (r : Int) ∧ p_ = [] | 3 => v_ = .int .i64 ((r : Int) + 2) ∧ p_ = [] | 4 => v_ = .int .i64 (((r : Int) + 2) % 4) ∧ p_ = [] | 5 => v_ = .int .i64 (([track, (track + 1) % d.T]).getD j 0) ∧ p_ = [] | 6 => v_ = .int .i64 (1 + (([track, (track + 1) % d.T]).getD j 0) % 2) ∧ p_ = [] | 7 => v_ = .int .i64 (stepI d t (((r : Int) + 2) % 4) (1 + (([track, (track + 1) % d.T]).getD j 0) % 2)) ∧ p_ = [] | _ => True) (List.take_append_drop 8 _).symm (by kernel_rfl) (by kernel_rfl) rfl rfl ?_ ?_
     ·
      refine ⟨?_, ?_, ?_, ?_, ?_, ?_, ?_, ?_, trivial⟩
      ·
       intro vf pf hR
       refine Or.inl ⟨rfl, ?_⟩
       refine rq_less (sx 4 rfl (sub_nil _)) (List.sublist_append_right _ _) ?_
       exact rq_v (rv_loadN (cs := [.int .i64 d.W, .int .i64 d.H, .int .i64 d.T, .int .i64 d.R]) rfl (by kernel_rfl) (by kernel_rfl) rfl rfl (box_part 2 rfl 0 rfl))
      ·
       intro vf pf hR
       refine Or.inl ⟨rfl, ?_⟩
       refine rq_less (sx 1 rfl (sub_nil _)) (List.sublist_append_right _ _) ?_
       exact rq_v (rv_ev rfl)
      ·
       intro vf pf hR
       refine Or.inl ⟨rfl, ?_⟩
       refine rq_less (sx 12 rfl (sub_nil _)) (List.sublist_append_right _ _) ?_
       exact rq_v (rv_ev rfl)
      ·
       intro vf pf hR
       have e2 : (vf 2) = .int .i64 (r : Int) ∧ (pf 2) = [] := hR 2 (by decide)
       refine Or.inl ⟨rfl, ?_⟩
       refine rq_less (sx 52 (congrArg some e2.1) (sub_nil _)) (List.sublist_append_right _ _) ?_
       exact rq_v (rv_add rfl rfl rfl (by constructor <;> omega))
      ·
       intro vf pf hR
       have e3 : (vf 3) = .int .i64 ((r : Int) + 2) ∧ (pf 3) = [] := hR 3 (by decide)
       refine Or.inl ⟨rfl, ?_⟩
       refine rq_less (sx 53 (congrArg some e3.1) (sub_nil _)) (List.sublist_append_right _ _) ?_
       exact rq_v (rv_rem rfl rfl rfl (by constructor <;> omega))
      ·
       intro vf pf hR
       refine Or.inl ⟨rfl, ?_⟩
       refine rq_less (sx 14 rfl (sub_nil _)) (List.sublist_append_right _ _) ?_
       exact rq_v (rv_ev rfl)
      ·
       intro vf pf hR
       have e5 : (vf 5) = .int .i64 (([track, (track + 1) % d.T]).getD j 0) ∧ (pf 5) = [] := hR 5 (by decide)
       refine Or.inl ⟨rfl, ?_⟩
       refine rq_less (sx 55 (congrArg some e5.1) (sub_nil _)) (List.sublist_append_right _ _) ?_
       exact (rq_call (by kernel_rfl) rfl (fun w hm => ret_ans (ans_of (wireLen_any _ (by omega) (by omega) w))))
      ·
       intro vf pf hR
       have e0 : (vf 0) = .agg #[.int .i64 d.W, .int .i64 d.H, .int .i64 d.T, .int .i64 d.R] ∧ (pf 0) = [] := hR 0 (by decide)
       have e1 : (vf 1) = .int .i64 t ∧ (pf 1) = [] := hR 1 (by decide)
       have e4 : (vf 4) = .int .i64 (((r : Int) + 2) % 4) ∧ (pf 4) = [] := hR 4 (by decide)
       have e6 : (vf 6) = .int .i64 (1 + (([track, (track + 1) % d.T]).getD j 0) % 2) ∧ (pf 6) = [] := hR 6 (by decide)
       refine Or.inl ⟨rfl, ?_⟩
       refine rq_less (sx 50 (congrArg some e0.1) (sx 51 (congrArg some e1.1) (sx 54 (congrArg some e4.1) (sx 56 (congrArg some e6.1) (sub_nil _))))) (List.sublist_append_right _ _) ?_
       exact (rq_call (by kernel_rfl) rfl (fun w hm => ret_ans (tileStep_any d _ _ _ hv (by omega) (by omega) (by omega) (by omega) (by omega) (by omega) w)))
     ·
      intro vf pf hR
      have e7 : (vf 7) = .int .i64 (stepI d t (((r : Int) + 2) % 4) (1 + (([track, (track + 1) % d.T]).getD j 0) % 2)) ∧ (pf 7) = [] := hR 7 (by decide)
      refine hl_less (l' := [rowE 3 1 (.slice (some ⟨g12, 0, none⟩) 2 2) 2 ([track, (track + 1) % d.T].map (Value.int .i64)), rowE 3 1 q zs.length (zs.map (Value.int .i64)), boxE b1 #[.int .i64 d.W, .int .i64 d.H, .int .i64 d.T, .int .i64 d.R] 25]) (sx 0 rfl (sx 1 rfl (sx 2 rfl (sx 3 rfl (sx 4 rfl (sx 8 rfl (sx 9 rfl (sx 10 rfl (sx 12 rfl (sx 14 rfl (sx 17 rfl (sx 30 rfl (sx 37 rfl (sx 44 rfl (sx 45 rfl (sx 46 rfl (sx 47 rfl (sx 57 (congrArg some e7.1) (sub_nil _))))))))))))))))))) (List.sublist_append_right _ _) ?_
      simp only [List.drop_succ_cons, List.drop_zero]
      refine hl_v rfl rfl rfl (rv_ev rfl) ?_
      refine hl_less (sx 0 rfl (sx 1 rfl (sx 2 rfl (sx 3 rfl (sx 4 rfl (sx 8 rfl (sx 9 rfl (sx 10 rfl (sx 12 rfl (sx 14 rfl (sx 15 rfl (sx 17 rfl (sx 30 rfl (sx 37 rfl (sx 44 rfl (sx 45 rfl (sx 46 rfl (sx 47 rfl (sub_nil _))))))))))))))))))) (.refl _) ?_
      refine hl_nil ?_
      refine hq_then ?_
      refine hc_seq ?_
      refine hc_region ?_
      refine hl_v rfl rfl rfl (rv_ev rfl) ?_
      refine hl_geq rfl rfl rfl rfl rfl rfl (fun h15 => ?_) (fun h15 => ?_)
      ·
       refine hl_less (sx 0 rfl (sx 1 rfl (sx 2 rfl (sx 3 rfl (sx 4 rfl (sx 8 rfl (sx 9 rfl (sx 10 rfl (sx 12 rfl (sx 14 rfl (sx 15 rfl (sx 17 rfl (sx 30 rfl (sx 37 rfl (sx 44 rfl (sx 45 rfl (sx 46 rfl (sx 47 rfl (sx 59 rfl (sub_nil _)))))))))))))))))))) (.refl _) ?_
       refine hl_nil ?_
       refine hq_then ?_
       refine hc_true rfl ?_
       refine hc_region ?_
       refine hl_v rfl rfl rfl (rv_ev rfl) ?_
       refine hl_v rfl rfl rfl (rv_loadN (cs := [.int .i64 d.W, .int .i64 d.H, .int .i64 d.T, .int .i64 d.R]) rfl (by kernel_rfl) (by kernel_rfl) rfl rfl (box_part 2 rfl 0 rfl)) ?_
       refine hl_v rfl rfl rfl (rv_ev rfl) ?_
       refine hl_v rfl rfl rfl (rv_ev rfl) ?_
       refine hl_v rfl rfl rfl (rv_ev rfl) ?_
       refine hl_callV rfl rfl rfl (rq_call (by kernel_rfl) rfl (fun w hm => ret_ans (wireNode_at d _ _ _ (step_tOk hv (by omega)) (by omega) (by omega) (by omega) (by omega) w))) ?_
       refine hl_callM (R := (fun v' p' => p' = rowE 3 1 v' (insI zs (wireNodeI d (stepI d t (((r : Int) + 2) % 4) (1 + (([track, (track + 1) % d.T]).getD j 0) % 2)) (r : Int) (([track, (track + 1) % d.T]).getD j 0))).length ((insI zs (wireNodeI d (stepI d t (((r : Int) + 2) % 4) (1 + (([track, (track + 1) % d.T]).getD j 0) % 2)) (r : Int) (([track, (track + 1) % d.T]).getD j 0))).map (Value.int .i64)))) 1 rfl rfl (by kernel_rfl) rfl rfl (fun l' w hm => insertInt_mut _ zs _ (by omega) w hm) ?_
       intro v16 p17 hR18
       subst hR18
       refine hl_eqL (l' := [rowE 3 1 (.slice (some ⟨g12, 0, none⟩) 2 2) 2 ([track, (track + 1) % d.T].map (Value.int .i64)), rowE 3 1 v16 ((insI zs (wireNodeI d (stepI d t (((r : Int) + 2) % 4) (1 + (([track, (track + 1) % d.T]).getD j 0) % 2)) (r : Int) (([track, (track + 1) % d.T]).getD j 0))).length) ((insI zs (wireNodeI d (stepI d t (((r : Int) + 2) % 4) (1 + (([track, (track + 1) % d.T]).getD j 0) % 2)) (r : Int) (([track, (track + 1) % d.T]).getD j 0))).map (Value.int .i64)), boxE b1 #[.int .i64 d.W, .int .i64 d.H, .int .i64 d.T, .int .i64 d.R] 25]) rfl ?_
       refine hl_v rfl rfl rfl (rv_ev rfl) ?_
       refine hl_less (sx 0 rfl (sx 1 rfl (sx 2 rfl (sx 3 rfl (sx 4 rfl (sx 8 rfl (sx 9 rfl (sx 10 rfl (sx 12 rfl (sx 14 rfl (sx 15 rfl (sx 17 rfl (sx 30 rfl (sx 37 rfl (sx 44 rfl (sx 45 rfl (sx 46 rfl (sx 47 rfl (sx 59 rfl (sub_nil _)))))))))))))))))))) (.refl _) ?_
       refine hl_nil ?_
       refine hq_block_normal ?_
       refine hq_then ?_
       refine hc_region ?_
       refine hl_v rfl rfl rfl (rv_add rfl rfl rfl (by constructor <;> omega)) ?_
       refine hl_v rfl rfl rfl (rv_ev rfl) ?_
       refine hl_less (sx 0 rfl (sx 1 rfl (sx 2 rfl (sx 3 rfl (sx 4 rfl (sx 8 rfl (sx 9 rfl (sx 10 rfl (sx 12 rfl (sx 14 rfl (sx 15 rfl (sx 17 rfl (sx 30 rfl (sx 37 rfl (sx 44 rfl (sx 45 rfl (sx 46 rfl (sx 47 rfl (sx 59 rfl (sub_nil _)))))))))))))))))))) (.refl _) ?_
       refine hl_nil ?_
       have hil := insI_len zs (wireNodeI d (stepI d t (((r : Int) + 2) % 4) (1 + [track, (track + 1) % d.T].getD j 0 % 2)) r ([track, (track + 1) % d.T].getD j 0))
       exact hq_round3 (j + 1) _ _ ⟨by omega, by rw [wireK_succ _ _ _ _ _ _ (show j < [track, (track + 1) % d.T].length by simp; omega), ← hz]; unfold wireW; first | rw [if_pos (by assumption)]; done | rw [if_neg (by omega)], by omega⟩ (by omega) (sx 0 rfl (sx 1 rfl (sx 2 rfl (sx 3 rfl (sx 4 rfl (sx 8 rfl (sx 9 rfl (sx 10 rfl (sx 12 rfl (sx 17 rfl (sx 30 rfl (sx 37 rfl (sx 44 rfl (sx 45 rfl (sx 46 rfl (sub_nil _)))))))))))))))) ((.cons_cons _ (.cons_cons _ (.cons_cons _ .slnil))))
      ·
       refine hl_less (sx 0 rfl (sx 1 rfl (sx 2 rfl (sx 3 rfl (sx 4 rfl (sx 8 rfl (sx 9 rfl (sx 10 rfl (sx 12 rfl (sx 14 rfl (sx 15 rfl (sx 17 rfl (sx 30 rfl (sx 37 rfl (sx 44 rfl (sx 45 rfl (sx 46 rfl (sx 47 rfl (sx 59 rfl (sub_nil _)))))))))))))))))))) (.refl _) ?_
       refine hl_nil ?_
       refine hq_then ?_
       refine hc_false rfl ?_
       refine hc_skip ?_
       refine hq_block_normal ?_
       refine hq_then ?_
       refine hc_region ?_
       refine hl_v rfl rfl rfl (rv_add rfl rfl rfl (by constructor <;> omega)) ?_
       refine hl_v rfl rfl rfl (rv_ev rfl) ?_
       refine hl_less (sx 0 rfl (sx 1 rfl (sx 2 rfl (sx 3 rfl (sx 4 rfl (sx 8 rfl (sx 9 rfl (sx 10 rfl (sx 12 rfl (sx 14 rfl (sx 15 rfl (sx 17 rfl (sx 30 rfl (sx 37 rfl (sx 44 rfl (sx 45 rfl (sx 46 rfl (sx 47 rfl (sx 59 rfl (sub_nil _)))))))))))))))))))) (.refl _) ?_
       refine hl_nil ?_
       have hil := insI_len zs (wireNodeI d (stepI d t (((r : Int) + 2) % 4) (1 + [track, (track + 1) % d.T].getD j 0 % 2)) r ([track, (track + 1) % d.T].getD j 0))
       exact hq_round3 (j + 1) _ _ ⟨by omega, by rw [wireK_succ _ _ _ _ _ _ (show j < [track, (track + 1) % d.T].length by simp; omega), ← hz]; unfold wireW; first | rw [if_pos (by assumption)]; done | rw [if_neg (by omega)], by omega⟩ (by omega) (sx 0 rfl (sx 1 rfl (sx 2 rfl (sx 3 rfl (sx 4 rfl (sx 8 rfl (sx 9 rfl (sx 10 rfl (sx 12 rfl (sx 17 rfl (sx 30 rfl (sx 37 rfl (sx 44 rfl (sx 45 rfl (sx 46 rfl (sub_nil _)))))))))))))))) ((.cons_cons _ (.cons_cons _ (.cons_cons _ .slnil))))
    ·
     refine hl_less (sx 0 rfl (sx 1 rfl (sx 2 rfl (sx 3 rfl (sx 4 rfl (sx 8 rfl (sx 9 rfl (sx 10 rfl (sx 12 rfl (sx 17 rfl (sx 30 rfl (sx 37 rfl (sx 44 rfl (sx 45 rfl (sx 46 rfl (sx 47 rfl (sub_nil _))))))))))))))))) (.refl _) ?_
     refine hl_nil ?_
     refine hq_then ?_
     refine hc_seq ?_
     refine hc_false rfl ?_
     refine hc_exit ?_
     refine hq_then_exit ?_
     refine hq_then_exit ?_
     refine hq_block_exit ?_
     refine hq_block_normal ?_
     refine hq_then ?_
     refine hc_region ?_
     refine hl_v rfl rfl rfl (rv_ev rfl) ?_
     refine hl_v rfl rfl rfl (rv_add rfl rfl rfl (by constructor <;> omega)) ?_
     refine hl_v rfl rfl rfl (rv_ev rfl) ?_
     refine hl_less (sx 0 rfl (sx 1 rfl (sx 2 rfl (sx 3 rfl (sx 4 rfl (sx 8 rfl (sx 9 rfl (sx 10 rfl (sx 12 rfl (sx 17 rfl (sx 30 rfl (sx 37 rfl (sx 44 rfl (sx 45 rfl (sx 46 rfl (sx 47 rfl (sub_nil _))))))))))))))))) (.refl _) ?_
     refine hl_nil ?_
     exact hq_round3 (r + 1) _ _ ⟨by omega, by rw [wireO_succ, ← hy]; unfold wireR; rw [if_neg (by omega), hz]; congr 1; omega, by omega⟩ (by omega) (sx 0 rfl (sx 1 rfl (sx 2 rfl (sx 3 rfl (sx 4 rfl (sx 8 rfl (sx 9 rfl (sx 10 rfl (sx 12 rfl (sx 17 rfl (sub_nil _))))))))))) ((.cons _ (.cons_cons _ (.cons_cons _ .slnil))))
  ·
   refine hl_less (sx 0 rfl (sx 1 rfl (sx 2 rfl (sx 3 rfl (sx 4 rfl (sx 8 rfl (sx 9 rfl (sx 10 rfl (sx 12 rfl (sx 17 rfl (sx 30 rfl (sub_nil _)))))))))))) (.refl _) ?_
   refine hl_nil ?_
   refine hq_then ?_
   refine hc_false rfl ?_
   refine hc_exit ?_
   refine hq_then_exit ?_
   refine hq_then_exit ?_
   refine hq_block_exit ?_
   refine hq_then ?_
   refine hc_seq ?_
   refine hc_region ?_
   refine hl_v rfl rfl rfl (rv_ev rfl) ?_
   refine hl_v rfl rfl rfl (rv_ev rfl) ?_
   refine hl_less (sx 0 rfl (sx 1 rfl (sx 2 rfl (sx 3 rfl (sx 4 rfl (sx 8 rfl (sx 9 rfl (sx 10 rfl (sx 12 rfl (sx 17 rfl (sx 30 rfl (sub_nil _)))))))))))) (.refl _) ?_
   refine hl_nil ?_
   refine hq_then ?_
   refine hc_ret ?_
   exact hq_retR (post := [rowE 3 1 u ys.length (ys.map (Value.int .i64))]) rfl rfl ((.cons_cons _ (.cons _ .slnil))) (by rw [hy, show r = 4 by omega])
open Go.RowKit
def srcI (d : Dev) (n : Int) : List Int := if nodeOkI d n = true then (if n % perI d < 5 then pinO d (n / perI d) (n % perI d) 4 else if n % perI d < 7 then [] else wireO d (n / perI d) ((n % perI d - 7) / d.T) ((n % perI d - 7) % d.T) 4) else []
theorem nodeOk_rng {d : Dev} {n : Int} (h : nodeOkI d n = true) : devB d = true ∧ 0 ≤ n ∧ n ≤ allI d - 1 := by
  unfold nodeOkI at h
  rw [Bool.and_eq_true, Bool.and_eq_true] at h
  exact ⟨h.1.1, (inR_iff _ _ _).1 h.1.2⟩
set_option maxHeartbeats 4000000 in
set_option maxRecDepth 100000 in
theorem implSources_ret (d : Dev) (n : Int) (w : World)  :
  Calls Try.prog 40 #[.agg #[.int .i64 d.W, .int .i64 d.H, .int .i64 d.T, .int .i64 d.R], .int .i64 n] w (Ret w (fun v' post => post = [rowE 3 1 v' (srcI d n).length ((srcI d n).map (Value.int .i64))])) := by
 refine calls_hc (N := 44) (args := [.agg #[.int .i64 d.W, .int .i64 d.H, .int .i64 d.T, .int .i64 d.R], .int .i64 n]) Try.func40 rfl rfl ?_
 refine hc_less _ (sx 0 rfl (sx 1 rfl (sub_nil _))) (.refl _) ?_
 refine hc_seq ?_
 refine hc_region ?_
 refine hl_box rfl rfl rfl (rq_box rfl rfl) ?_
 intro b1
 refine hl_nilRow 3 1 ?_
 refine hl_v rfl rfl rfl (rv_ev rfl) ?_
 refine hl_less (sx 0 rfl (sx 1 rfl (sx 2 rfl (sx 4 rfl (sub_nil _))))) (.refl _) ?_
 refine hl_nil ?_
 refine hq_then ?_
 refine hc_seq ?_
 refine hc_seq ?_
 refine hc_region ?_
 refine hl_v rfl rfl rfl (rv_loadN (cs := [.int .i64 d.W, .int .i64 d.H, .int .i64 d.T, .int .i64 d.R]) rfl (by kernel_rfl) (by kernel_rfl) rfl rfl (box_part 1 rfl 0 rfl)) ?_
 refine hl_v rfl rfl rfl (rv_ev rfl) ?_
 refine hl_callV rfl rfl rfl (rq_call (by kernel_rfl) rfl (fun w hm => ret_ans (implRouteNodeOk_any d _ w))) ?_
 refine hl_bool (fun h3 => ?_) (fun h3 => ?_)
 ·
  obtain ⟨hv, n0, n1⟩ := nodeOk_rng h3
  obtain ⟨p0, p1, p2, p3, p4⟩ := place_rng hv n0 n1
  obtain ⟨m1, m2⟩ := all_rng hv
  refine hl_v rfl rfl rfl (rv_ev rfl) ?_
  refine hl_less (sx 0 rfl (sx 1 rfl (sx 2 rfl (sx 4 rfl (sx 14 rfl (sub_nil _)))))) (.refl _) ?_
  refine hl_nil ?_
  refine hq_then ?_
  refine hc_false rfl ?_
  refine hc_skip ?_
  refine hq_then ?_
  refine hc_seq ?_
  refine hc_region ?_
  refine hl_v rfl rfl rfl (rv_loadN (cs := [.int .i64 d.W, .int .i64 d.H, .int .i64 d.T, .int .i64 d.R]) rfl (by kernel_rfl) (by kernel_rfl) rfl rfl (box_part 1 rfl 0 rfl)) ?_
  refine hl_v rfl rfl rfl (rv_ev rfl) ?_
  refine hl_callV rfl rfl rfl (rq_call (by kernel_rfl) rfl (fun w hm => ret_ans (nodePlace_any d _ hv n0 (by omega) w))) ?_
  refine hl_v rfl rfl rfl (rv_ev rfl) ?_
  refine hl_v rfl rfl rfl (rv_ev rfl) ?_
  refine hl_v rfl rfl rfl (rv_ev rfl) ?_
  refine hl_v rfl rfl rfl (rv_ev rfl) ?_
  refine hl_v rfl rfl rfl (rv_ev rfl) ?_
  refine hl_less (sx 0 rfl (sx 1 rfl (sx 2 rfl (sx 4 rfl (sx 5 rfl (sx 6 rfl (sx 14 rfl (sub_nil _)))))))) (.refl _) ?_
  refine hl_nil ?_
  refine hq_then ?_
  refine hc_seq ?_
  refine hc_block ?_
  refine hc_seq ?_
  refine hc_region ?_
  refine hl_v rfl rfl rfl (rv_ev rfl) ?_
  refine hl_lss rfl rfl rfl rfl rfl rfl (fun h4 => ?_) (fun h4 => ?_)
  ·
   refine hl_v rfl rfl rfl (rv_ev rfl) ?_
   refine hl_less (sx 0 rfl (sx 1 rfl (sx 2 rfl (sx 4 rfl (sx 5 rfl (sx 6 rfl (sx 14 rfl (sx 21 rfl (sub_nil _))))))))) (.refl _) ?_
   refine hl_nil ?_
   refine hq_then ?_
   refine hc_true rfl ?_
   refine hc_seq ?_
   refine hc_region ?_
   refine hl_v rfl rfl rfl (rv_loadN (cs := [.int .i64 d.W, .int .i64 d.H, .int .i64 d.T, .int .i64 d.R]) rfl (by kernel_rfl) (by kernel_rfl) rfl rfl (box_part 1 rfl 0 rfl)) ?_
   refine hl_v rfl rfl rfl (rv_ev rfl) ?_
   refine hl_v rfl rfl rfl (rv_ev rfl) ?_
   refine hl_q rfl rfl rfl (rq_call (by kernel_rfl) rfl (fun w hm => pinSources_ret d _ _ w hv p0 (by omega) (by omega) (by omega))) ?_
   intro v5 p6 hR7
   subst hR7
   refine hl_v rfl rfl rfl (rv_ev rfl) ?_
   refine hl_less (sx 0 rfl (sx 1 rfl (sx 2 rfl (sx 4 rfl (sx 5 rfl (sx 6 rfl (sx 14 rfl (sx 21 rfl (sub_nil _))))))))) (.refl _) ?_
   refine hl_nil ?_
   refine hq_then ?_
   refine hc_ret ?_
   refine hq_block_ret ?_
   refine hq_then_ret ?_
   exact hq_retR (post := [rowE 3 1 v5 ((pinO d (n / perI d) (n % perI d) 4).length) ((pinO d (n / perI d) (n % perI d) 4).map (Value.int .i64))]) rfl rfl ((.cons_cons _ (.cons _ (.cons _ .slnil)))) (by unfold srcI; (first | (rw [if_pos (by assumption)]; first | rw [if_pos (by omega)] | rw [if_neg (by omega), if_pos (by omega)] | rw [if_neg (by omega), if_neg (by omega)]) | rw [if_neg (by simp [*])]) <;> rfl)
  ·
   refine hl_v rfl rfl rfl (rv_ev rfl) ?_
   refine hl_less (sx 0 rfl (sx 1 rfl (sx 2 rfl (sx 4 rfl (sx 5 rfl (sx 6 rfl (sx 14 rfl (sx 21 rfl (sub_nil _))))))))) (.refl _) ?_
   refine hl_nil ?_
   refine hq_then ?_
   refine hc_false rfl ?_
   refine hc_seq ?_
   refine hc_region ?_
   refine hl_v rfl rfl rfl (rv_ev rfl) ?_
   refine hl_lss rfl rfl rfl rfl rfl rfl (fun h8 => ?_) (fun h8 => ?_)
   ·
    refine hl_v rfl rfl rfl (rv_ev rfl) ?_
    refine hl_less (sx 0 rfl (sx 1 rfl (sx 2 rfl (sx 4 rfl (sx 5 rfl (sx 6 rfl (sx 14 rfl (sx 21 rfl (sx 28 rfl (sub_nil _)))))))))) (.refl _) ?_
    refine hl_nil ?_
    refine hq_then ?_
    refine hc_true rfl ?_
    refine hc_seq ?_
    refine hc_region ?_
    refine hl_nilRow 3 1 ?_
    refine hl_v rfl rfl rfl (rv_ev rfl) ?_
    refine hl_less (sx 0 rfl (sx 1 rfl (sx 2 rfl (sx 4 rfl (sx 5 rfl (sx 6 rfl (sx 14 rfl (sx 21 rfl (sx 28 rfl (sub_nil _)))))))))) (.refl _) ?_
    refine hl_nil ?_
    refine hq_then ?_
    refine hc_ret ?_
    refine hq_block_ret ?_
    refine hq_then_ret ?_
    exact hq_retR (post := [rowE 3 1 (.slice none 0 0) 0 ([])]) rfl rfl ((.cons_cons _ (.cons _ (.cons _ .slnil)))) (by unfold srcI; (first | (rw [if_pos (by assumption)]; first | rw [if_pos (by omega)] | rw [if_neg (by omega), if_pos (by omega)] | rw [if_neg (by omega), if_neg (by omega)]) | rw [if_neg (by simp [*])]) <;> rfl)
   ·
    refine hl_v rfl rfl rfl (rv_ev rfl) ?_
    refine hl_less (sx 0 rfl (sx 1 rfl (sx 2 rfl (sx 4 rfl (sx 5 rfl (sx 6 rfl (sx 14 rfl (sx 21 rfl (sx 28 rfl (sub_nil _)))))))))) (.refl _) ?_
    refine hl_nil ?_
    refine hq_then ?_
    refine hc_false rfl ?_
    refine hc_skip ?_
    refine hq_block_normal ?_
    refine hq_then ?_
    refine hc_seq ?_
    refine hc_region ?_
    refine hl_v rfl rfl rfl (rv_loadN (cs := [.int .i64 d.W, .int .i64 d.H, .int .i64 d.T, .int .i64 d.R]) rfl (by kernel_rfl) (by kernel_rfl) rfl rfl (box_part 1 rfl 0 rfl)) ?_
    refine hl_v rfl rfl rfl (rv_ev rfl) ?_
    refine hl_callV rfl rfl rfl (rq_call (by kernel_rfl) rfl (fun w hm => ret_ans (wireOf_wire d _ hv n0 n1 (by omega) w))) ?_
    refine hl_v rfl rfl rfl (rv_ev rfl) ?_
    refine hl_v rfl rfl rfl (rv_ev rfl) ?_
    refine hl_v rfl rfl rfl (rv_ev rfl) ?_
    refine hl_v rfl rfl rfl (rv_ev rfl) ?_
    refine hl_v rfl rfl rfl (rv_ev rfl) ?_
    refine hl_v rfl rfl rfl (rv_ev rfl) ?_
    refine hl_v rfl rfl rfl (rv_ev rfl) ?_
    refine hl_v rfl rfl rfl (rv_ev rfl) ?_
    refine hl_v rfl rfl rfl (rv_ev rfl) ?_
    refine hl_less (sx 0 rfl (sx 1 rfl (sx 2 rfl (sx 4 rfl (sx 5 rfl (sx 6 rfl (sx 8 rfl (sx 9 rfl (sx 14 rfl (sx 21 rfl (sx 28 rfl (sub_nil _)))))))))))) (.refl _) ?_
    refine hl_nil ?_
    refine hq_then ?_
    refine hc_seq ?_
    refine hc_region ?_
    refine hl_v rfl rfl rfl (rv_loadN (cs := [.int .i64 d.W, .int .i64 d.H, .int .i64 d.T, .int .i64 d.R]) rfl (by kernel_rfl) (by kernel_rfl) rfl rfl (box_part 1 rfl 0 rfl)) ?_
    refine hl_v rfl rfl rfl (rv_ev rfl) ?_
    refine hl_v rfl rfl rfl (rv_ev rfl) ?_
    refine hl_v rfl rfl rfl (rv_ev rfl) ?_
    obtain ⟨g0, g1, g2, g3⟩ := wire_rng hv (by omega) p3
    refine hl_q rfl rfl rfl (rq_call (by kernel_rfl) rfl (fun w hm => wireSources_ret d _ _ _ w hv p0 (by omega) g0 g1 g2 g3)) ?_
    intro v10 p11 hR12
    subst hR12
    refine hl_v rfl rfl rfl (rv_ev rfl) ?_
    refine hl_less (sx 0 rfl (sx 1 rfl (sx 2 rfl (sx 4 rfl (sx 5 rfl (sx 6 rfl (sx 8 rfl (sx 9 rfl (sx 14 rfl (sx 21 rfl (sx 28 rfl (sub_nil _)))))))))))) (.refl _) ?_
    refine hl_nil ?_
    refine hq_then ?_
    refine hc_ret ?_
    exact hq_retR (post := [rowE 3 1 v10 ((wireO d (n / perI d) ((n % perI d - 7) / d.T) ((n % perI d - 7) % d.T) 4).length) ((wireO d (n / perI d) ((n % perI d - 7) / d.T) ((n % perI d - 7) % d.T) 4).map (Value.int .i64))]) rfl rfl ((.cons_cons _ (.cons _ (.cons _ .slnil)))) (by unfold srcI; (first | (rw [if_pos (by assumption)]; first | rw [if_pos (by omega)] | rw [if_neg (by omega), if_pos (by omega)] | rw [if_neg (by omega), if_neg (by omega)]) | rw [if_neg (by simp [*])]) <;> rfl)
 ·
  refine hl_v rfl rfl rfl (rv_ev rfl) ?_
  refine hl_less (sx 0 rfl (sx 1 rfl (sx 2 rfl (sx 4 rfl (sx 14 rfl (sub_nil _)))))) (.refl _) ?_
  refine hl_nil ?_
  refine hq_then ?_
  refine hc_true rfl ?_
  refine hc_seq ?_
  refine hc_region ?_
  refine hl_nilRow 3 1 ?_
  refine hl_v rfl rfl rfl (rv_ev rfl) ?_
  refine hl_less (sx 0 rfl (sx 1 rfl (sx 2 rfl (sx 4 rfl (sx 14 rfl (sub_nil _)))))) (.refl _) ?_
  refine hl_nil ?_
  refine hq_then ?_
  refine hc_ret ?_
  refine hq_then_ret ?_
  exact hq_retR (post := [rowE 3 1 (.slice none 0 0) 0 ([])]) rfl rfl ((.cons_cons _ (.cons _ (.cons _ .slnil)))) (by unfold srcI; (first | (rw [if_pos (by assumption)]; first | rw [if_pos (by omega)] | rw [if_neg (by omega), if_pos (by omega)] | rw [if_neg (by omega), if_neg (by omega)]) | rw [if_neg (by simp [*])]) <;> rfl)
open Go.RowKit
/-- x goes behind the last element that is not above it -/
def cutR (P : List Int) (x : Int) : Nat := P.length - (P.reverse.takeWhile (fun y => decide (x < y))).length
def insR (P : List Int) (x : Int) : List Int := P.take (cutR P x) ++ x :: P.drop (cutR P x)
def sortR (xs : List Int) : List Int := xs.foldl insR []
theorem tw_app (a b : List Int) (f : Int → Bool) (h : ∀ y ∈ a, f y = true) (h2 : b = [] ∨ f (b.headD 0) = false) : ((a ++ b).takeWhile f).length = a.length := by
  induction a with
  | nil =>
    rcases h2 with rfl | h2
    · rfl
    · cases b with
      | nil => rfl
      | cons y ys => simp at h2; simp [h2]
  | cons y ys ih =>
    have := h y (by simp)
    simp only [List.cons_append, List.takeWhile_cons, this, if_true, List.length_cons]
    rw [ih (fun z hz => h z (by simp [hz]))]
theorem cutR_at (P : List Int) (x : Int) (k : Nat) (hk : k ≤ P.length) (h1 : ∀ j, k ≤ j → j < P.length → x < P.getD j 0) (h2 : k = 0 ∨ P.getD (k - 1) 0 ≤ x) : cutR P x = k := by
  unfold cutR
  have e : P.reverse = (P.drop k).reverse ++ (P.take k).reverse := by rw [← List.reverse_append, List.take_append_drop]
  rw [e, tw_app]
  · simp; omega
  · intro y hy
    rw [List.mem_reverse] at hy
    obtain ⟨j, hj, rfl⟩ := List.mem_iff_getElem.1 hy
    rw [List.length_drop] at hj
    have := h1 (k + j) (by omega) (by omega)
    rw [List.getD_eq_getElem?_getD, List.getElem?_eq_getElem (by omega)] at this
    simpa using this
  · rcases h2 with rfl | h2
    · left; simp
    · by_cases h0 : k = 0
      · subst h0; left; simp
      · right
        have hlt : k - 1 < P.length := by omega
        rw [List.headD_eq_head?_getD, List.head?_reverse, List.getLast?_eq_getElem?, List.length_take, Nat.min_eq_left hk, List.getElem?_take, if_pos (by omega), ← List.getD_eq_getElem?_getD]
        simpa using h2
theorem insR_at (P : List Int) (x : Int) (k : Nat) (hk : k ≤ P.length) (h1 : ∀ j, k ≤ j → j < P.length → x < P.getD j 0) (h2 : k = 0 ∨ P.getD (k - 1) 0 ≤ x) : insR P x = P.take k ++ x :: P.drop k := by
  unfold insR; rw [cutR_at P x k hk h1 h2]
theorem insR_len (P : List Int) (x : Int) : (insR P x).length = P.length + 1 := by
  unfold insR; rw [List.length_append, List.length_cons, List.length_take, List.length_drop]
  have : cutR P x ≤ P.length := by unfold cutR; omega
  omega
theorem sortR_snoc (xs : List Int) (x : Int) : sortR (xs ++ [x]) = insR (sortR xs) x := by unfold sortR; rw [List.foldl_append]; rfl
theorem fold_len : ∀ (xs acc : List Int), (xs.foldl insR acc).length = acc.length + xs.length
  | [], acc => by simp
  | x :: xs, acc => by rw [List.foldl_cons, fold_len xs, insR_len, List.length_cons]; omega
theorem sortR_len (xs : List Int) : (sortR xs).length = xs.length := by unfold sortR; rw [fold_len]; simp
/-- where the inner loop stands: x has gone down to place k of the sorted part P -/
def midS (P : List Int) (x : Int) (rest : List Int) (k : Nat) : List Int := P.take k ++ x :: P.drop k ++ rest
theorem midS_at (P : List Int) (x : Int) (rest : List Int) (k : Nat) (hk : k ≤ P.length) : (midS P x rest k).getD k 0 = x := by
  unfold midS
  rw [List.append_assoc, List.getD_eq_getElem?_getD, List.getElem?_append_right (by simp; omega)]
  simp [Nat.min_eq_left hk]
theorem midS_before (P : List Int) (x : Int) (rest : List Int) (k : Nat) (hk : k ≤ P.length) (h0 : 0 < k) : (midS P x rest k).getD (k - 1) 0 = P.getD (k - 1) 0 := by
  unfold midS
  rw [List.append_assoc, List.getD_eq_getElem?_getD, List.getElem?_append_left (by simp; omega), List.getElem?_take, if_pos (by omega), ← List.getD_eq_getElem?_getD]
theorem midS_step (P : List Int) (x : Int) (rest : List Int) (k : Nat) (hk : k + 1 ≤ P.length) : ((midS P x rest (k + 1)).set (k + 1) (P.getD k 0)).set k x = midS P x rest k := by
  have hlt : k < P.length := by omega
  have e : P.getD k 0 = P[k] := by rw [List.getD_eq_getElem?_getD, List.getElem?_eq_getElem hlt]; rfl
  unfold midS
  have e1 : P.take (k + 1) = P.take k ++ [P[k]] := List.take_succ_eq_append_getElem hlt
  have e2 : P.drop k = P[k] :: P.drop (k + 1) := List.drop_eq_getElem_cons hlt
  have hl : (P.take k).length = k := by simp; omega
  rw [e, e1, e2]
  simp only [List.append_assoc, List.cons_append, List.nil_append]
  rw [List.set_append_right _ _ (by omega), hl, show k + 1 - k = 1 by omega, List.set_cons_succ, List.set_cons_zero, List.set_append_right _ _ (by omega), hl, Nat.sub_self, List.set_cons_zero]
theorem midS_start (xs : List Int) (i : Nat) (hi : i < xs.length) : sortR (xs.take i) ++ xs.drop i = midS (sortR (xs.take i)) (xs.getD i 0) (xs.drop (i + 1)) i := by
  have hl : (sortR (xs.take i)).length = i := by rw [sortR_len]; simp; omega
  have e : xs.getD i 0 = xs[i] := by rw [List.getD_eq_getElem?_getD, List.getElem?_eq_getElem hi]; rfl
  unfold midS
  rw [e, List.take_of_length_le (show (sortR (xs.take i)).length ≤ i by omega), List.drop_eq_nil_of_le (show (sortR (xs.take i)).length ≤ i by omega), List.drop_eq_getElem_cons hi]; simp
theorem midS_end (xs : List Int) (i k : Nat) (hi : i < xs.length) (hk : k ≤ i) (h1 : ∀ j, k ≤ j → j < i → xs.getD i 0 < (sortR (xs.take i)).getD j 0) (h2 : k = 0 ∨ (sortR (xs.take i)).getD (k - 1) 0 ≤ xs.getD i 0) :
    midS (sortR (xs.take i)) (xs.getD i 0) (xs.drop (i + 1)) k = sortR (xs.take (i + 1)) ++ xs.drop (i + 1) := by
  have hl : (sortR (xs.take i)).length = i := by rw [sortR_len]; simp; omega
  have e : xs.getD i 0 = xs[i] := by rw [List.getD_eq_getElem?_getD, List.getElem?_eq_getElem hi]; rfl
  rw [List.take_succ_eq_append_getElem hi, sortR_snoc, ← e, insR_at _ _ k (by omega) (fun j a b => h1 j a (by omega)) h2]
  rfl
theorem sort_start (xs : List Int) : xs = sortR (xs.take (0 + 1)) ++ xs.drop (0 + 1) := by
  cases xs with
  | nil => rfl
  | cons x xs => rfl
set_option maxHeartbeats 4000000 in
set_option maxRecDepth 100000 in
theorem l27Sort_ret (v : Value) (xs : List Int) (w : World) (hv : RdsW w v 1 xs.length (xs.map (Value.int .i64))) (hn : xs.length ≤ 1000000) :
  Calls Try.prog 61 #[v] w (Ret w (fun v' post => post = [rowE 3 1 v' (sortR xs).length ((sortR xs).map (Value.int .i64))])) := by
 refine calls_hc (N := 51) (args := [v]) Try.func61 rfl rfl ?_
 refine hc_less _ (sx 0 rfl (sub_nil _)) (.refl _) ?_
 refine hc_seq ?_
 refine hc_region ?_
 refine hl_v rfl rfl rfl (rv_ev rfl) ?_
 refine hl_less (sx 0 rfl (sx 2 rfl (sub_nil _))) (.refl _) ?_
 refine hl_nil ?_
 refine hq_then ?_
 refine hc_seq ?_
 refine hc_region ?_
 refine hl_row rfl rfl rfl (rq_slice0 (s := 1) rfl Try.underlying26 (by kernel_rfl)) ?_
 intro g1
 refine hl_v rfl rfl rfl (rv_ev rfl) ?_
 refine hl_append (i := 0) (z := .int .i64 0) (bytes := 8) (n' := xs.length) (xs' := (xs.map (Value.int .i64))) (L := fun v2 => [rowE 3 1 v2 xs.length (xs.map (Value.int .i64))]) rfl rfl rfl rfl Try.underlying26 (by kernel_rfl) (by kernel_rfl) rfl rfl rfl (rd_old hv) (ints_one _) (by first | omega | (simp; omega)) ((Nat.zero_add _)) ((List.nil_append _)) (fun _ => rfl) ?_
 intro v2
 refine hl_v rfl rfl rfl (rv_ev rfl) ?_
 refine hl_less (sx 0 rfl (sx 2 rfl (sx 3 rfl (sub_nil _)))) (.refl _) ?_
 refine hl_nil ?_
 refine hq_then ?_
 refine hc_seq ?_
 refine hc_seq ?_
 refine hc_region ?_
 refine hl_v rfl rfl rfl (rv_ev rfl) ?_
 refine hl_less (sx 0 rfl (sx 2 rfl (sx 3 rfl (sx 4 rfl (sub_nil _))))) (.refl _) ?_
 refine hl_nil ?_
 refine hq_then ?_
 refine hc_block ?_
 refine hc_loop2 (α := Nat) (β := List Int) (fun i zs => [rowE 3 1 v2 zs.length (zs.map (Value.int .i64))]) (fun i zs => [(0, v), (2, .slice none 0 0), (3, v2), (4, .int .i64 ((i : Int) + 1))]) (fun i zs => i ≤ xs.length ∧ zs.length = xs.length ∧ zs = sortR (xs.take (i + 1)) ++ xs.drop (i + 1)) (fun i zs => xs.length - i) 0 xs ⟨by omega, rfl, sort_start xs⟩ (sx 0 rfl (sx 2 rfl (sx 3 rfl (sx 4 rfl (sub_nil _))))) ((.cons_cons _ .slnil)) ?_
 intro i zs hi3
 obtain ⟨hi, hzl, hz⟩ := hi3
 refine hc_seq ?_
 refine hc_seq ?_
 refine hc_region ?_
 refine hl_v rfl rfl rfl (rv_ev rfl) ?_
 refine hl_v rfl rfl rfl (rv_ev rfl) ?_
 refine hl_v rfl rfl rfl (rv_len rfl Try.underlying26 rfl (rd_row 0 rfl)) ?_
 refine hl_lss rfl rfl rfl rfl rfl rfl (fun h4 => ?_) (fun h4 => ?_)
 ·
  refine hl_less (sx 0 rfl (sx 2 rfl (sx 3 rfl (sx 4 rfl (sx 13 rfl (sub_nil _)))))) (.refl _) ?_
  refine hl_nil ?_
  refine hq_then ?_
  refine hc_true rfl ?_
  refine hc_skip ?_
  refine hq_then ?_
  refine hc_seq ?_
  refine hc_block ?_
  refine hc_seq ?_
  refine hc_region ?_
  refine hl_v rfl rfl rfl (rv_ev rfl) ?_
  refine hl_v rfl rfl rfl (rv_ev rfl) ?_
  refine hl_less (sx 0 rfl (sx 2 rfl (sx 3 rfl (sx 4 rfl (sx 5 rfl (sx 13 rfl (sub_nil _))))))) (.refl _) ?_
  refine hl_nil ?_
  refine hq_then ?_
  refine hc_block ?_
  refine hc_loop2 (α := Nat) (β := List Int) (fun k ys => [rowE 3 1 v2 ys.length (ys.map (Value.int .i64))]) (fun k ys => [(0, v), (2, .slice none 0 0), (3, v2), (4, .int .i64 ((i : Int) + 1)), (5, .int .i64 (k : Int)), (13, .bool true)]) (fun k ys => k ≤ i + 1 ∧ ys.length = xs.length ∧ ys = midS (sortR (xs.take (i + 1))) (xs.getD (i + 1) 0) (xs.drop (i + 1 + 1)) k ∧ ∀ j, k ≤ j → j < i + 1 → xs.getD (i + 1) 0 < (sortR (xs.take (i + 1))).getD j 0) (fun k ys => k) (i + 1) zs ⟨by omega, hzl, by rw [hz]; exact midS_start xs (i + 1) (by omega), fun j a b => absurd a (by omega)⟩ (sx 0 rfl (sx 2 rfl (sx 3 rfl (sx 4 rfl (sx 5 rfl (sx 13 rfl (sub_nil _))))))) ((.cons_cons _ .slnil)) ?_
  intro k ys hi5
  obtain ⟨hk, hyl, hy, hy1⟩ := hi5
  have hsl : (sortR (xs.take (i + 1))).length = i + 1 := by rw [sortR_len]; simp; omega
  have hm1 := hy ▸ midS_at (sortR (xs.take (i + 1))) (xs.getD (i + 1) 0) (xs.drop (i + 1 + 1)) k (by omega)
  have hk1 : ((k : Int) - 1).toNat = k - 1 := by omega
  have hm2 : 0 < k → ys.getD ((k : Int) - 1).toNat 0 = (sortR (xs.take (i + 1))).getD (k - 1) 0 := fun h => by rw [hk1, hy]; exact midS_before (sortR (xs.take (i + 1))) (xs.getD (i + 1) 0) (xs.drop (i + 1 + 1)) k (by omega) h
  refine hc_seq ?_
  refine hc_seq ?_
  rcases Bool.eq_false_or_eq_true (decide (0 < (k : Int))) with hb6 | hb6
  ·
   have hb6p : 0 < (k : Int) := of_decide_eq_true hb6
   rcases Bool.eq_false_or_eq_true (decide (ys.getD k 0 < ys.getD (((k : Int) - 1).toNat) 0)) with hb7 | hb7
   ·
    have hb7p : ys.getD k 0 < ys.getD (((k : Int) - 1).toNat) 0 := of_decide_eq_true hb7
    refine hc_draw (by kernel_rfl) 14 [0, 1, 2, 3, 4, 5, 6, 7, 8, 9, 10, 11, 12, 13] (List.take 14 _) (List.drop 14 _) [[], [0], [1], [2], [2], [2, 3, 4], [2, 5], [2], [2], [2, 8], [2, 7, 9], [2, 10], [2, 6, 11], [2, 12]] [17, 18, 19, 20, 21, 22, 23, 24, 25, 26, 27, 28, 29, 30] (fun i_ vs_ v_ p_ => match i_ with | 0 => v_ = .int .i64 (k : Int) ∧ p_ = [] | 1 => v_ = .bool true ∧ p_ = [] | 2 => v_ = .bool true ∧ p_ = [] | 3 => v_ = v2 ∧ p_ = [] | 4 => v_ = .int .i64 (k : Int) ∧ p_ = [] | 5 => v_ = elP v2 (((k : Int)).toNat * 1) ∧ p_ = [] | 6 => v_ = .int .i64 (ys.getD k 0) ∧ p_ = [] | 7 => v_ = v2 ∧ p_ = [] | 8 => v_ = .int .i64 (k : Int) ∧ p_ = [] | 9 => v_ = .int .i64 ((k : Int) - 1) ∧ p_ = [] | 10 => v_ = elP v2 (((k : Int) - 1).toNat * 1) ∧ p_ = [] | 11 => v_ = .int .i64 (ys.getD (((k : Int) - 1).toNat) 0) ∧ p_ = [] | 12 => v_ = .bool true ∧ p_ = [] | 13 => v_ = .bool true ∧ p_ = [] | _ => True) (List.take_append_drop 14 _).symm (by kernel_rfl) (by kernel_rfl) rfl rfl ?_ ?_
    ·
     refine ⟨?_, ?_, ?_, ?_, ?_, ?_, ?_, ?_, ?_, ?_, ?_, ?_, ?_, ?_, trivial⟩
     ·
      intro vf pf hR
      refine Or.inl ⟨rfl, ?_⟩
      refine rq_less (sx 5 rfl (sub_nil _)) (List.sublist_append_right _ _) ?_
      exact rq_v (rv_ev rfl)
     ·
      intro vf pf hR
      have e0 : (vf 0) = .int .i64 (k : Int) ∧ (pf 0) = [] := hR 0 (by decide)
      refine Or.inl ⟨rfl, ?_⟩
      refine rq_less (sx 17 (congrArg some e0.1) (sub_nil _)) (List.sublist_append_right _ _) ?_
      exact rq_mono (rq_v (rv_cmp rfl rfl rfl rfl)) (fun _ _ h => ⟨h.1.trans (congrArg Value.bool hb6), h.2⟩)
     ·
      intro vf pf hR
      have e1 : (vf 1) = .bool true ∧ (pf 1) = [] := hR 1 (by decide)
      refine Or.inl ⟨rfl, ?_⟩
      refine rq_less (sx 18 (congrArg some e1.1) (sub_nil _)) (List.sublist_append_right _ _) ?_
      exact rq_v (rv_ev rfl)
     ·
      intro vf pf hR
      have e2 : (vf 2) = .bool true ∧ (pf 2) = [] := hR 2 (by decide)
      refine Or.inl ⟨want_of (congrArg some e2.1) rfl, ?_⟩
      refine rq_less (sx 3 rfl (sub_nil _)) (List.sublist_append_right _ _) ?_
      exact rq_v (rv_ev rfl)
     ·
      intro vf pf hR
      have e2 : (vf 2) = .bool true ∧ (pf 2) = [] := hR 2 (by decide)
      refine Or.inl ⟨want_of (congrArg some e2.1) rfl, ?_⟩
      refine rq_less (sx 5 rfl (sub_nil _)) (List.sublist_append_right _ _) ?_
      exact rq_v (rv_ev rfl)
     ·
      intro vf pf hR
      have e2 : (vf 2) = .bool true ∧ (pf 2) = [] := hR 2 (by decide)
      have e3 : (vf 3) = v2 ∧ (pf 3) = [] := hR 3 (by decide)
      have e4 : (vf 4) = .int .i64 (k : Int) ∧ (pf 4) = [] := hR 4 (by decide)
      refine Or.inl ⟨want_of (congrArg some e2.1) rfl, ?_⟩
      refine rq_less (sx 20 (congrArg some e3.1) (sx 21 (congrArg some e4.1) (sub_nil _))) (List.sublist_append_right _ _) ?_
      exact rq_v (rv_index (s := 1) rfl Try.underlying26 (by kernel_rfl) rfl rfl (rd_row 0 rfl) (by omega) (by first | omega | (simp only [List.length_set]; omega)))
     ·
      intro vf pf hR
      have e2 : (vf 2) = .bool true ∧ (pf 2) = [] := hR 2 (by decide)
      have e5 : (vf 5) = elP v2 (((k : Int)).toNat * 1) ∧ (pf 5) = [] := hR 5 (by decide)
      refine Or.inl ⟨want_of (congrArg some e2.1) rfl, ?_⟩
      refine rq_less (sx 22 (congrArg some e5.1) (sub_nil _)) (List.sublist_append_right _ _) ?_
      exact rq_v (rv_loadEl (u := .int .i64 (ys.getD k 0)) rfl (by kernel_rfl) rfl (rd_row 0 rfl) (ints_at1 (show _ < ys.length by first | omega | (simp only [List.length_set]; omega))))
     ·
      intro vf pf hR
      have e2 : (vf 2) = .bool true ∧ (pf 2) = [] := hR 2 (by decide)
      refine Or.inl ⟨want_of (congrArg some e2.1) rfl, ?_⟩
      refine rq_less (sx 3 rfl (sub_nil _)) (List.sublist_append_right _ _) ?_
      exact rq_v (rv_ev rfl)
     ·
      intro vf pf hR
      have e2 : (vf 2) = .bool true ∧ (pf 2) = [] := hR 2 (by decide)
      refine Or.inl ⟨want_of (congrArg some e2.1) rfl, ?_⟩
      refine rq_less (sx 5 rfl (sub_nil _)) (List.sublist_append_right _ _) ?_
      exact rq_v (rv_ev rfl)
     ·
      intro vf pf hR
      have e2 : (vf 2) = .bool true ∧ (pf 2) = [] := hR 2 (by decide)
      have e8 : (vf 8) = .int .i64 (k : Int) ∧ (pf 8) = [] := hR 8 (by decide)
      refine Or.inl ⟨want_of (congrArg some e2.1) rfl, ?_⟩
      refine rq_less (sx 25 (congrArg some e8.1) (sub_nil _)) (List.sublist_append_right _ _) ?_
      exact rq_v (rv_sub rfl rfl rfl (by constructor <;> omega))
     ·
      intro vf pf hR
      have e2 : (vf 2) = .bool true ∧ (pf 2) = [] := hR 2 (by decide)
      have e7 : (vf 7) = v2 ∧ (pf 7) = [] := hR 7 (by decide)
      have e9 : (vf 9) = .int .i64 ((k : Int) - 1) ∧ (pf 9) = [] := hR 9 (by decide)
      refine Or.inl ⟨want_of (congrArg some e2.1) rfl, ?_⟩
      refine rq_less (sx 24 (congrArg some e7.1) (sx 26 (congrArg some e9.1) (sub_nil _))) (List.sublist_append_right _ _) ?_
      exact rq_v (rv_index (s := 1) rfl Try.underlying26 (by kernel_rfl) rfl rfl (rd_row 0 rfl) (by omega) (by first | omega | (simp only [List.length_set]; omega)))
     ·
      intro vf pf hR
      have e2 : (vf 2) = .bool true ∧ (pf 2) = [] := hR 2 (by decide)
      have e10 : (vf 10) = elP v2 (((k : Int) - 1).toNat * 1) ∧ (pf 10) = [] := hR 10 (by decide)
      refine Or.inl ⟨want_of (congrArg some e2.1) rfl, ?_⟩
      refine rq_less (sx 27 (congrArg some e10.1) (sub_nil _)) (List.sublist_append_right _ _) ?_
      exact rq_v (rv_loadEl (u := .int .i64 (ys.getD (((k : Int) - 1).toNat) 0)) rfl (by kernel_rfl) rfl (rd_row 0 rfl) (ints_at1 (show _ < ys.length by first | omega | (simp only [List.length_set]; omega))))
     ·
      intro vf pf hR
      have e2 : (vf 2) = .bool true ∧ (pf 2) = [] := hR 2 (by decide)
      have e6 : (vf 6) = .int .i64 (ys.getD k 0) ∧ (pf 6) = [] := hR 6 (by decide)
      have e11 : (vf 11) = .int .i64 (ys.getD (((k : Int) - 1).toNat) 0) ∧ (pf 11) = [] := hR 11 (by decide)
      refine Or.inl ⟨want_of (congrArg some e2.1) rfl, ?_⟩
      refine rq_less (sx 23 (congrArg some e6.1) (sx 28 (congrArg some e11.1) (sub_nil _))) (List.sublist_append_right _ _) ?_
      exact rq_mono (rq_v (rv_cmp rfl rfl rfl rfl)) (fun _ _ h => ⟨h.1.trans (congrArg Value.bool hb7), h.2⟩)
     ·
      intro vf pf hR
      have e2 : (vf 2) = .bool true ∧ (pf 2) = [] := hR 2 (by decide)
      have e12 : (vf 12) = .bool true ∧ (pf 12) = [] := hR 12 (by decide)
      refine Or.inl ⟨rfl, ?_⟩
      refine rq_less (sx 19 (congrArg some e2.1) (sx 29 (congrArg some e12.1) (sub_nil _))) (List.sublist_append_right _ _) ?_
      exact rq_v (rv_ev rfl)
    ·
     intro vf pf hR
     have e13 : (vf 13) = .bool true ∧ (pf 13) = [] := hR 13 (by decide)
     refine hl_less (l' := [rowE 3 1 v2 ys.length (ys.map (Value.int .i64))]) (sx 0 rfl (sx 2 rfl (sx 3 rfl (sx 4 rfl (sx 5 rfl (sx 13 rfl (sx 30 (congrArg some e13.1) (sub_nil _)))))))) (List.sublist_append_right _ _) ?_
     simp only [List.drop_succ_cons, List.drop_zero]
     refine hl_less (sx 0 rfl (sx 2 rfl (sx 3 rfl (sx 4 rfl (sx 5 rfl (sx 13 rfl (sx 30 rfl (sub_nil _)))))))) (.refl _) ?_
     refine hl_nil ?_
     refine hq_then ?_
     refine hc_true rfl ?_
     refine hc_skip ?_
     refine hq_then ?_
     refine hc_seq ?_
     refine hc_block ?_
     refine hc_seq ?_
     refine hc_region ?_
     refine hl_v rfl rfl rfl (rv_ev rfl) ?_
     refine hl_v rfl rfl rfl (rv_ev rfl) ?_
     refine hl_v rfl rfl rfl (rv_index (s := 1) rfl Try.underlying26 (by kernel_rfl) rfl rfl (rd_row 0 rfl) (by omega) (by first | omega | (simp only [List.length_set]; omega))) ?_
     refine hl_v rfl rfl rfl (rv_loadEl (u := .int .i64 (ys.getD k 0)) rfl (by kernel_rfl) rfl (rd_row 0 rfl) (ints_at1 (show _ < ys.length by first | omega | (simp only [List.length_set]; omega)))) ?_
     refine hl_v rfl rfl rfl (rv_ev rfl) ?_
     refine hl_less (sx 0 rfl (sx 2 rfl (sx 3 rfl (sx 4 rfl (sx 5 rfl (sx 6 rfl (sx 13 rfl (sx 30 rfl (sub_nil _))))))))) (.refl _) ?_
     refine hl_nil ?_
     refine hq_then ?_
     refine hc_seq ?_
     refine hc_region ?_
     refine hl_v rfl rfl rfl (rv_ev rfl) ?_
     refine hl_v rfl rfl rfl (rv_ev rfl) ?_
     refine hl_v rfl rfl rfl (rv_ev rfl) ?_
     refine hl_v rfl rfl rfl (rv_ev rfl) ?_
     refine hl_v rfl rfl rfl (rv_sub rfl rfl rfl (by constructor <;> omega)) ?_
     refine hl_v rfl rfl rfl (rv_index (s := 1) rfl Try.underlying26 (by kernel_rfl) rfl rfl (rd_row 0 rfl) (by omega) (by first | omega | (simp only [List.length_set]; omega))) ?_
     refine hl_v rfl rfl rfl (rv_loadEl (u := .int .i64 (ys.getD (((k : Int) - 1).toNat) 0)) rfl (by kernel_rfl) rfl (rd_row 0 rfl) (ints_at1 (show _ < ys.length by first | omega | (simp only [List.length_set]; omega)))) ?_
     refine hl_v rfl rfl rfl (rv_index (s := 1) rfl Try.underlying26 (by kernel_rfl) rfl rfl (rd_row 0 rfl) (by omega) (by first | omega | (simp only [List.length_set]; omega))) ?_
     refine hl_storeEl (i := 0) (n' := (ys.set k (ys.getD (((k : Int) - 1).toNat) 0)).length) (xs' := ((ys.set k (ys.getD (((k : Int) - 1).toNat) 0)).map (Value.int .i64))) (l' := [rowE 3 1 v2 ((ys.set k (ys.getD (((k : Int) - 1).toNat) 0)).length) ((ys.set k (ys.getD (((k : Int) - 1).toNat) 0)).map (Value.int .i64))]) rfl rfl rfl (by kernel_rfl) rfl rfl rfl rfl (by first | omega | (simp only [List.length_set]; omega)) List.length_set.symm (ints_set _ _ _) rfl ?_
     refine hl_less (sx 0 rfl (sx 2 rfl (sx 3 rfl (sx 4 rfl (sx 5 rfl (sx 6 rfl (sx 13 rfl (sx 30 rfl (sub_nil _))))))))) (.refl _) ?_
     refine hl_nil ?_
     refine hq_then ?_
     refine hc_region ?_
     refine hl_v rfl rfl rfl (rv_ev rfl) ?_
     refine hl_v rfl rfl rfl (rv_ev rfl) ?_
     refine hl_v rfl rfl rfl (rv_sub rfl rfl rfl (by constructor <;> omega)) ?_
     refine hl_v rfl rfl rfl (rv_ev rfl) ?_
     refine hl_v rfl rfl rfl (rv_index (s := 1) rfl Try.underlying26 (by kernel_rfl) rfl rfl (rd_row 0 rfl) (by omega) (by first | omega | (simp only [List.length_set]; omega))) ?_
     refine hl_storeEl (i := 0) (n' := ((ys.set k (ys.getD (((k : Int) - 1).toNat) 0)).set (((k : Int) - 1).toNat) (ys.getD k 0)).length) (xs' := (((ys.set k (ys.getD (((k : Int) - 1).toNat) 0)).set (((k : Int) - 1).toNat) (ys.getD k 0)).map (Value.int .i64))) (l' := [rowE 3 1 v2 (((ys.set k (ys.getD (((k : Int) - 1).toNat) 0)).set (((k : Int) - 1).toNat) (ys.getD k 0)).length) (((ys.set k (ys.getD (((k : Int) - 1).toNat) 0)).set (((k : Int) - 1).toNat) (ys.getD k 0)).map (Value.int .i64))]) rfl rfl rfl (by kernel_rfl) rfl rfl rfl rfl (by first | omega | (simp only [List.length_set]; omega)) List.length_set.symm (ints_set _ _ _) rfl ?_
     refine hl_less (sx 0 rfl (sx 2 rfl (sx 3 rfl (sx 4 rfl (sx 5 rfl (sx 6 rfl (sx 13 rfl (sx 30 rfl (sub_nil _))))))))) (.refl _) ?_
     refine hl_nil ?_
     refine hq_block_normal ?_
     refine hq_then ?_
     refine hc_region ?_
     refine hl_v rfl rfl rfl (rv_ev rfl) ?_
     refine hl_v rfl rfl rfl (rv_sub rfl rfl rfl (by constructor <;> omega)) ?_
     refine hl_v rfl rfl rfl (rv_ev rfl) ?_
     refine hl_less (sx 0 rfl (sx 2 rfl (sx 3 rfl (sx 4 rfl (sx 5 rfl (sx 6 rfl (sx 13 rfl (sx 30 rfl (sub_nil _))))))))) (.refl _) ?_
     refine hl_nil ?_
     exact hq_round2 (k - 1) _ ⟨by omega, by simpa using hyl, by rw [hm2 (by omega), hm1, hk1]; obtain ⟨k, rfl⟩ : ∃ q, k = q + 1 := ⟨k - 1, by omega⟩; rw [hy]; exact midS_step _ _ _ k (by omega), fun j a b => by by_cases hjk : k ≤ j; (exact hy1 j hjk b); (obtain rfl : j = k - 1 := by omega); omega⟩ (by omega) (sx 0 rfl (sx 2 rfl (sx 3 rfl (sx 4 rfl (sx 5 (by rw [show ((k - 1 : Nat) : Int) = (k : Int) - 1 by omega]; rfl) (sx 13 rfl (sub_nil _))))))) ((.cons_cons _ .slnil))
   ·
    have hb7p : ¬ (ys.getD k 0 < ys.getD (((k : Int) - 1).toNat) 0) := of_decide_eq_false hb7
    refine hc_draw (by kernel_rfl) 14 [0, 1, 2, 3, 4, 5, 6, 7, 8, 9, 10, 11, 12, 13] (List.take 14 _) (List.drop 14 _) [[], [0], [1], [2], [2], [2, 3, 4], [2, 5], [2], [2], [2, 8], [2, 7, 9], [2, 10], [2, 6, 11], [2, 12]] [17, 18, 19, 20, 21, 22, 23, 24, 25, 26, 27, 28, 29, 30] (fun i_ vs_ v_ p_ => match i_ with | 0 => v_ = .int .i64 (k : Int) ∧ p_ = [] | 1 => v_ = .bool true ∧ p_ = [] | 2 => v_ = .bool true ∧ p_ = [] | 3 => v_ = v2 ∧ p_ = [] | 4 => v_ = .int .i64 (k : Int) ∧ p_ = [] | 5 => v_ = elP v2 (((k : Int)).toNat * 1) ∧ p_ = [] | 6 => v_ = .int .i64 (ys.getD k 0) ∧ p_ = [] | 7 => v_ = v2 ∧ p_ = [] | 8 => v_ = .int .i64 (k : Int) ∧ p_ = [] | 9 => v_ = .int .i64 ((k : Int) - 1) ∧ p_ = [] | 10 => v_ = elP v2 (((k : Int) - 1).toNat * 1) ∧ p_ = [] | 11 => v_ = .int .i64 (ys.getD (((k : Int) - 1).toNat) 0) ∧ p_ = [] | 12 => v_ = .bool false ∧ p_ = [] | 13 => v_ = .bool false ∧ p_ = [] | _ => True) (List.take_append_drop 14 _).symm (by kernel_rfl) (by kernel_rfl) rfl rfl ?_ ?_
    ·
     refine ⟨?_, ?_, ?_, ?_, ?_, ?_, ?_, ?_, ?_, ?_, ?_, ?_, ?_, ?_, trivial⟩
     ·
      intro vf pf hR
      refine Or.inl ⟨rfl, ?_⟩
      refine rq_less (sx 5 rfl (sub_nil _)) (List.sublist_append_right _ _) ?_
      exact rq_v (rv_ev rfl)
     ·
      intro vf pf hR
      have e0 : (vf 0) = .int .i64 (k : Int) ∧ (pf 0) = [] := hR 0 (by decide)
      refine Or.inl ⟨rfl, ?_⟩
      refine rq_less (sx 17 (congrArg some e0.1) (sub_nil _)) (List.sublist_append_right _ _) ?_
      exact rq_mono (rq_v (rv_cmp rfl rfl rfl rfl)) (fun _ _ h => ⟨h.1.trans (congrArg Value.bool hb6), h.2⟩)
     ·
      intro vf pf hR
      have e1 : (vf 1) = .bool true ∧ (pf 1) = [] := hR 1 (by decide)
      refine Or.inl ⟨rfl, ?_⟩
      refine rq_less (sx 18 (congrArg some e1.1) (sub_nil _)) (List.sublist_append_right _ _) ?_
      exact rq_v (rv_ev rfl)
     ·
      intro vf pf hR
      have e2 : (vf 2) = .bool true ∧ (pf 2) = [] := hR 2 (by decide)
      refine Or.inl ⟨want_of (congrArg some e2.1) rfl, ?_⟩
      refine rq_less (sx 3 rfl (sub_nil _)) (List.sublist_append_right _ _) ?_
      exact rq_v (rv_ev rfl)
     ·
      intro vf pf hR
      have e2 : (vf 2) = .bool true ∧ (pf 2) = [] := hR 2 (by decide)
      refine Or.inl ⟨want_of (congrArg some e2.1) rfl, ?_⟩
      refine rq_less (sx 5 rfl (sub_nil _)) (List.sublist_append_right _ _) ?_
      exact rq_v (rv_ev rfl)
     ·
      intro vf pf hR
      have e2 : (vf 2) = .bool true ∧ (pf 2) = [] := hR 2 (by decide)
      have e3 : (vf 3) = v2 ∧ (pf 3) = [] := hR 3 (by decide)
      have e4 : (vf 4) = .int .i64 (k : Int) ∧ (pf 4) = [] := hR 4 (by decide)
      refine Or.inl ⟨want_of (congrArg some e2.1) rfl, ?_⟩
      refine rq_less (sx 20 (congrArg some e3.1) (sx 21 (congrArg some e4.1) (sub_nil _))) (List.sublist_append_right _ _) ?_
      exact rq_v (rv_index (s := 1) rfl Try.underlying26 (by kernel_rfl) rfl rfl (rd_row 0 rfl) (by omega) (by first | omega | (simp only [List.length_set]; omega)))
     ·
      intro vf pf hR
      have e2 : (vf 2) = .bool true ∧ (pf 2) = [] := hR 2 (by decide)
      have e5 : (vf 5) = elP v2 (((k : Int)).toNat * 1) ∧ (pf 5) = [] := hR 5 (by decide)
      refine Or.inl ⟨want_of (congrArg some e2.1) rfl, ?_⟩
      refine rq_less (sx 22 (congrArg some e5.1) (sub_nil _)) (List.sublist_append_right _ _) ?_
      exact rq_v (rv_loadEl (u := .int .i64 (ys.getD k 0)) rfl (by kernel_rfl) rfl (rd_row 0 rfl) (ints_at1 (show _ < ys.length by first | omega | (simp only [List.length_set]; omega))))
     ·
      intro vf pf hR
      have e2 : (vf 2) = .bool true ∧ (pf 2) = [] := hR 2 (by decide)
      refine Or.inl ⟨want_of (congrArg some e2.1) rfl, ?_⟩
      refine rq_less (sx 3 rfl (sub_nil _)) (List.sublist_append_right _ _) ?_
      exact rq_v (rv_ev rfl)
     ·
      intro vf pf hR
      have e2 : (vf 2) = .bool true ∧ (pf 2) = [] := hR 2 (by decide)
      refine Or.inl ⟨want_of (congrArg some e2.1) rfl, ?_⟩
      refine rq_less (sx 5 rfl (sub_nil _)) (List.sublist_append_right _ _) ?_
      exact rq_v (rv_ev rfl)
     ·
      intro vf pf hR
      have e2 : (vf 2) = .bool true ∧ (pf 2) = [] := hR 2 (by decide)
      have e8 : (vf 8) = .int .i64 (k : Int) ∧ (pf 8) = [] := hR 8 (by decide)
      refine Or.inl ⟨want_of (congrArg some e2.1) rfl, ?_⟩
      refine rq_less (sx 25 (congrArg some e8.1) (sub_nil _)) (List.sublist_append_right _ _) ?_
      exact rq_v (rv_sub rfl rfl rfl (by constructor <;> omega))
     ·
      intro vf pf hR
      have e2 : (vf 2) = .bool true ∧ (pf 2) = [] := hR 2 (by decide)
      have e7 : (vf 7) = v2 ∧ (pf 7) = [] := hR 7 (by decide)
      have e9 : (vf 9) = .int .i64 ((k : Int) - 1) ∧ (pf 9) = [] := hR 9 (by decide)
      refine Or.inl ⟨want_of (congrArg some e2.1) rfl, ?_⟩
      refine rq_less (sx 24 (congrArg some e7.1) (sx 26 (congrArg some e9.1) (sub_nil _))) (List.sublist_append_right _ _) ?_
      exact rq_v (rv_index (s := 1) rfl Try.underlying26 (by kernel_rfl) rfl rfl (rd_row 0 rfl) (by omega) (by first | omega | (simp only [List.length_set]; omega)))
     ·
      intro vf pf hR
      have e2 : (vf 2) = .bool true ∧ (pf 2) = [] := hR 2 (by decide)
      have e10 : (vf 10) = elP v2 (((k : Int) - 1).toNat * 1) ∧ (pf 10) = [] := hR 10 (by decide)
      refine Or.inl ⟨want_of (congrArg some e2.1) rfl, ?_⟩
      refine rq_less (sx 27 (congrArg some e10.1) (sub_nil _)) (List.sublist_append_right _ _) ?_
      exact rq_v (rv_loadEl (u := .int .i64 (ys.getD (((k : Int) - 1).toNat) 0)) rfl (by kernel_rfl) rfl (rd_row 0 rfl) (ints_at1 (show _ < ys.length by first | omega | (simp only [List.length_set]; omega))))
     ·
      intro vf pf hR
      have e2 : (vf 2) = .bool true ∧ (pf 2) = [] := hR 2 (by decide)
      have e6 : (vf 6) = .int .i64 (ys.getD k 0) ∧ (pf 6) = [] := hR 6 (by decide)
      have e11 : (vf 11) = .int .i64 (ys.getD (((k : Int) - 1).toNat) 0) ∧ (pf 11) = [] := hR 11 (by decide)
      refine Or.inl ⟨want_of (congrArg some e2.1) rfl, ?_⟩
      refine rq_less (sx 23 (congrArg some e6.1) (sx 28 (congrArg some e11.1) (sub_nil _))) (List.sublist_append_right _ _) ?_
      exact rq_mono (rq_v (rv_cmp rfl rfl rfl rfl)) (fun _ _ h => ⟨h.1.trans (congrArg Value.bool hb7), h.2⟩)
     ·
      intro vf pf hR
      have e2 : (vf 2) = .bool true ∧ (pf 2) = [] := hR 2 (by decide)
      have e12 : (vf 12) = .bool false ∧ (pf 12) = [] := hR 12 (by decide)
      refine Or.inl ⟨rfl, ?_⟩
      refine rq_less (sx 19 (congrArg some e2.1) (sx 29 (congrArg some e12.1) (sub_nil _))) (List.sublist_append_right _ _) ?_
      exact rq_v (rv_ev rfl)
    ·
     intro vf pf hR
     have e13 : (vf 13) = .bool false ∧ (pf 13) = [] := hR 13 (by decide)
     refine hl_less (l' := [rowE 3 1 v2 ys.length (ys.map (Value.int .i64))]) (sx 0 rfl (sx 2 rfl (sx 3 rfl (sx 4 rfl (sx 5 rfl (sx 13 rfl (sx 30 (congrArg some e13.1) (sub_nil _)))))))) (List.sublist_append_right _ _) ?_
     simp only [List.drop_succ_cons, List.drop_zero]
     refine hl_less (sx 0 rfl (sx 2 rfl (sx 3 rfl (sx 4 rfl (sx 5 rfl (sx 13 rfl (sx 30 rfl (sub_nil _)))))))) (.refl _) ?_
     refine hl_nil ?_
     refine hq_then ?_
     refine hc_false rfl ?_
     refine hc_exit ?_
     refine hq_then_exit ?_
     refine hq_then_exit ?_
     refine hq_block_exit ?_
     refine hq_block_normal ?_
     refine hq_then ?_
     refine hc_region ?_
     refine hl_v rfl rfl rfl (rv_ev rfl) ?_
     refine hl_v rfl rfl rfl (rv_add rfl rfl rfl (by constructor <;> omega)) ?_
     refine hl_v rfl rfl rfl (rv_ev rfl) ?_
     refine hl_less (sx 0 rfl (sx 2 rfl (sx 3 rfl (sx 4 rfl (sx 5 rfl (sx 13 rfl (sx 30 rfl (sub_nil _)))))))) (.refl _) ?_
     refine hl_nil ?_
     exact hq_round2 (i + 1) ys ⟨by omega, by omega, by rw [hy]; exact midS_end xs (i + 1) k (by omega) (by omega) hy1 (by first | (left; omega) | (right; omega))⟩ (by omega) (sx 0 rfl (sx 2 rfl (sx 3 rfl (sx 4 rfl (sub_nil _))))) ((.cons_cons _ .slnil))
  ·
   have hb6p : ¬ (0 < (k : Int)) := of_decide_eq_false hb6
   refine hc_draw (by kernel_rfl) 14 [0, 1, 2, 3, 4, 5, 6, 7, 8, 9, 10, 11, 12, 13] (List.take 14 _) (List.drop 14 _) [[], [0], [1], [2], [2], [2], [2], [2], [2], [2], [2], [2], [2], [2, 12]] [17, 18, 19, 20, 21, 22, 23, 24, 25, 26, 27, 28, 29, 30] (fun i_ vs_ v_ p_ => match i_ with | 0 => v_ = .int .i64 (k : Int) ∧ p_ = [] | 1 => v_ = .bool false ∧ p_ = [] | 2 => v_ = .bool false ∧ p_ = [] | 3 => v_ = undef ∧ p_ = [] | 4 => v_ = undef ∧ p_ = [] | 5 => v_ = undef ∧ p_ = [] | 6 => v_ = undef ∧ p_ = [] | 7 => v_ = undef ∧ p_ = [] | 8 => v_ = undef ∧ p_ = [] | 9 => v_ = undef ∧ p_ = [] | 10 => v_ = undef ∧ p_ = [] | 11 => v_ = undef ∧ p_ = [] | 12 => v_ = undef ∧ p_ = [] | 13 => v_ = .bool false ∧ p_ = [] | _ => True) (List.take_append_drop 14 _).symm (by kernel_rfl) (by kernel_rfl) rfl rfl ?_ ?_
   ·
    refine ⟨?_, ?_, ?_, ?_, ?_, ?_, ?_, ?_, ?_, ?_, ?_, ?_, ?_, ?_, trivial⟩
    ·
     intro vf pf hR
     refine Or.inl ⟨rfl, ?_⟩
     refine rq_less (sx 5 rfl (sub_nil _)) (List.sublist_append_right _ _) ?_
     exact rq_v (rv_ev rfl)
    ·
     intro vf pf hR
     have e0 : (vf 0) = .int .i64 (k : Int) ∧ (pf 0) = [] := hR 0 (by decide)
     refine Or.inl ⟨rfl, ?_⟩
     refine rq_less (sx 17 (congrArg some e0.1) (sub_nil _)) (List.sublist_append_right _ _) ?_
     exact rq_mono (rq_v (rv_cmp rfl rfl rfl rfl)) (fun _ _ h => ⟨h.1.trans (congrArg Value.bool hb6), h.2⟩)
    ·
     intro vf pf hR
     have e1 : (vf 1) = .bool false ∧ (pf 1) = [] := hR 1 (by decide)
     refine Or.inl ⟨rfl, ?_⟩
     refine rq_less (sx 18 (congrArg some e1.1) (sub_nil _)) (List.sublist_append_right _ _) ?_
     exact rq_v (rv_ev rfl)
    ·
     intro vf pf hR
     have e2 : (vf 2) = .bool false ∧ (pf 2) = [] := hR 2 (by decide)
     exact Or.inr ⟨want_of (congrArg some e2.1) rfl, rfl, rfl⟩
    ·
     intro vf pf hR
     have e2 : (vf 2) = .bool false ∧ (pf 2) = [] := hR 2 (by decide)
     exact Or.inr ⟨want_of (congrArg some e2.1) rfl, rfl, rfl⟩
    ·
     intro vf pf hR
     have e2 : (vf 2) = .bool false ∧ (pf 2) = [] := hR 2 (by decide)
     exact Or.inr ⟨want_of (congrArg some e2.1) rfl, rfl, rfl⟩
    ·
     intro vf pf hR
     have e2 : (vf 2) = .bool false ∧ (pf 2) = [] := hR 2 (by decide)
     exact Or.inr ⟨want_of (congrArg some e2.1) rfl, rfl, rfl⟩
    ·
     intro vf pf hR
     have e2 : (vf 2) = .bool false ∧ (pf 2) = [] := hR 2 (by decide)
     exact Or.inr ⟨want_of (congrArg some e2.1) rfl, rfl, rfl⟩
    ·
     intro vf pf hR
     have e2 : (vf 2) = .bool false ∧ (pf 2) = [] := hR 2 (by decide)
     exact Or.inr ⟨want_of (congrArg some e2.1) rfl, rfl, rfl⟩
    ·
     intro vf pf hR
     have e2 : (vf 2) = .bool false ∧ (pf 2) = [] := hR 2 (by decide)
     exact Or.inr ⟨want_of (congrArg some e2.1) rfl, rfl, rfl⟩
    ·
     intro vf pf hR
     have e2 : (vf 2) = .bool false ∧ (pf 2) = [] := hR 2 (by decide)
     exact Or.inr ⟨want_of (congrArg some e2.1) rfl, rfl, rfl⟩
    ·
     intro vf pf hR
     have e2 : (vf 2) = .bool false ∧ (pf 2) = [] := hR 2 (by decide)
     exact Or.inr ⟨want_of (congrArg some e2.1) rfl, rfl, rfl⟩
    ·
     intro vf pf hR
     have e2 : (vf 2) = .bool false ∧ (pf 2) = [] := hR 2 (by decide)
     exact Or.inr ⟨want_of (congrArg some e2.1) rfl, rfl, rfl⟩
    ·
     intro vf pf hR
     have e2 : (vf 2) = .bool false ∧ (pf 2) = [] := hR 2 (by decide)
     have e12 : (vf 12) = undef ∧ (pf 12) = [] := hR 12 (by decide)
     refine Or.inl ⟨rfl, ?_⟩
     refine rq_less (sx 19 (congrArg some e2.1) (sx 29 (congrArg some e12.1) (sub_nil _))) (List.sublist_append_right _ _) ?_
     exact rq_v (rv_ev rfl)
   ·
    intro vf pf hR
    have e13 : (vf 13) = .bool false ∧ (pf 13) = [] := hR 13 (by decide)
    refine hl_less (l' := [rowE 3 1 v2 ys.length (ys.map (Value.int .i64))]) (sx 0 rfl (sx 2 rfl (sx 3 rfl (sx 4 rfl (sx 5 rfl (sx 13 rfl (sx 30 (congrArg some e13.1) (sub_nil _)))))))) (List.sublist_append_right _ _) ?_
    simp only [List.drop_succ_cons, List.drop_zero]
    refine hl_less (sx 0 rfl (sx 2 rfl (sx 3 rfl (sx 4 rfl (sx 5 rfl (sx 13 rfl (sx 30 rfl (sub_nil _)))))))) (.refl _) ?_
    refine hl_nil ?_
    refine hq_then ?_
    refine hc_false rfl ?_
    refine hc_exit ?_
    refine hq_then_exit ?_
    refine hq_then_exit ?_
    refine hq_block_exit ?_
    refine hq_block_normal ?_
    refine hq_then ?_
    refine hc_region ?_
    refine hl_v rfl rfl rfl (rv_ev rfl) ?_
    refine hl_v rfl rfl rfl (rv_add rfl rfl rfl (by constructor <;> omega)) ?_
    refine hl_v rfl rfl rfl (rv_ev rfl) ?_
    refine hl_less (sx 0 rfl (sx 2 rfl (sx 3 rfl (sx 4 rfl (sx 5 rfl (sx 13 rfl (sx 30 rfl (sub_nil _)))))))) (.refl _) ?_
    refine hl_nil ?_
    exact hq_round2 (i + 1) ys ⟨by omega, by omega, by rw [hy]; exact midS_end xs (i + 1) k (by omega) (by omega) hy1 (by first | (left; omega) | (right; omega))⟩ (by omega) (sx 0 rfl (sx 2 rfl (sx 3 rfl (sx 4 rfl (sub_nil _))))) ((.cons_cons _ .slnil))
 ·
  refine hl_less (sx 0 rfl (sx 2 rfl (sx 3 rfl (sx 4 rfl (sx 13 rfl (sub_nil _)))))) (.refl _) ?_
  refine hl_nil ?_
  refine hq_then ?_
  refine hc_false rfl ?_
  refine hc_exit ?_
  refine hq_then_exit ?_
  refine hq_then_exit ?_
  refine hq_block_exit ?_
  refine hq_then ?_
  refine hc_seq ?_
  refine hc_region ?_
  refine hl_v rfl rfl rfl (rv_ev rfl) ?_
  refine hl_v rfl rfl rfl (rv_ev rfl) ?_
  refine hl_less (sx 0 rfl (sx 2 rfl (sx 3 rfl (sx 4 rfl (sx 13 rfl (sub_nil _)))))) (.refl _) ?_
  refine hl_nil ?_
  refine hq_then ?_
  refine hc_ret ?_
  exact hq_retR (post := [rowE 3 1 v2 zs.length (zs.map (Value.int .i64))]) rfl rfl ((.cons_cons _ .slnil)) (by rw [hz, List.take_of_length_le (by omega), List.drop_eq_nil_of_le (by omega), List.append_nil])
theorem bel_fin {w X : World} {d : Dev} {o o1 o2 : Obj} (h : DevS (w.alloc o) w.heap.size d X) : Below w.heap.size w ((X.alloc o1).alloc o2).drew.drew := ((bel_alloc (bel_alloc (devS_end h) o1) o2).drew).drew
theorem k4' {d : Dev} {t : Int} (h : (((t % d.W == 0) = true ∨ (t / d.W == 0) = true) ∨ (t % d.W == d.W - 1) = true) ∨ (t / d.W == d.H - 1) = true) : 0 = kindI d t := by
  rcases h with ((h | h) | h) | h
  · exact k4_o (.inl (.inl (.inl h)))
  · exact k4_o (.inl (.inr h))
  · exact k4_o (.inl (.inl (.inr h)))
  · exact k4_o (.inr h)
theorem k5' {d : Dev} {t : Int} (h : (((t % d.W == 0) = false ∧ (t / d.W == 0) = false) ∧ (t % d.W == d.W - 1) = false) ∧ (t / d.W == d.H - 1) = false) (h2 : (t % d.W == d.R) = true) : 2 = kindI d t :=
  k5 ⟨⟨⟨h.1.1.1, h.1.2⟩, h.1.1.2⟩, h.2⟩ h2
theorem k6' {d : Dev} {t : Int} (h : (((t % d.W == 0) = false ∧ (t / d.W == 0) = false) ∧ (t % d.W == d.W - 1) = false) ∧ (t / d.W == d.H - 1) = false) (h2 : (t % d.W == d.R) = false) : 1 = kindI d t :=
  k6 ⟨⟨⟨h.1.1.1, h.1.2⟩, h.1.1.2⟩, h.2⟩ h2
set_option maxHeartbeats 4000000 in
theorem specTileKind_any (d : Dev) (t : Int) (w : World) :
    Calls Try.prog 51 #[.agg #[.int .i64 d.W, .int .i64 d.H, .int .i64 d.T, .int .i64 d.R], .int .i64 t] w fun e w' => e = .returned (.int .i64 (tileKindI d t)) ∧ Below w.heap.size w w' := by
  rcases Bool.eq_false_or_eq_true (devB d) with hv | hv
  rotate_left
  · have hf := Lib.hid (show tileKindI d t = -1 from if_neg (by simp [tOk, hv]))
    have hS0 := devS_start w d
    have HS0 := Lib.hid hS0
    go_enter Try.func51, Try.ntmps51
    go_wp2_with fail
    refine (specDeviceOk_any d _).mono ?_
    rintro e w1 ⟨rfl, hb1⟩
    have hS1 := devS_step HS0.out hb1
    have HS1 := Lib.hid hS1
    clear hS0
    obtain ⟨c0, c1, c2, c3, -⟩ := hS1
    clear hb1
    have hz1 : w.heap.size < w1.heap.size := World.block_lt_of_cell? _ _ c0
    go_wp2
    go_ret
    exact ⟨rt_int hf.out.symm, devS_end HS1.out⟩
  obtain ⟨m1, m2⟩ := area_le hv
  obtain ⟨⟨a1, a2⟩, ⟨b1, b2⟩, -, -⟩ := (devB_iff d).1 hv
  by_cases h0 : t < 0
  · have hf := Lib.hid (show tileKindI d t = -1 from if_neg (by rw [tOk_iff]; omega))
    have hS0 := devS_start w d
    have HS0 := Lib.hid hS0
    go_enter Try.func51, Try.ntmps51
    go_wp2_with fail
    refine (specDeviceOk_any d _).mono ?_
    rintro e w1 ⟨rfl, hb1⟩
    have hS1 := devS_step HS0.out hb1
    have HS1 := Lib.hid hS1
    clear hS0
    obtain ⟨c0, c1, c2, c3, -⟩ := hS1
    clear hb1
    have hz1 : w.heap.size < w1.heap.size := World.block_lt_of_cell? _ _ c0
    go_wp2
    go_ret
    exact ⟨rt_int hf.out.symm, devS_end HS1.out⟩
  by_cases h1 : d.W * d.H ≤ t
  · have hf := Lib.hid (show tileKindI d t = -1 from if_neg (by rw [tOk_iff]; omega))
    have hS0 := devS_start w d
    have HS0 := Lib.hid hS0
    go_enter Try.func51, Try.ntmps51
    go_wp2_with fail
    refine (specDeviceOk_any d _).mono ?_
    rintro e w1 ⟨rfl, hb1⟩
    have hS1 := devS_step HS0.out hb1
    have HS1 := Lib.hid hS1
    clear hS0
    obtain ⟨c0, c1, c2, c3, -⟩ := hS1
    clear hb1
    have hz1 : w.heap.size < w1.heap.size := World.block_lt_of_cell? _ _ c0
    go_wp2
    go_ret
    exact ⟨rt_int hf.out.symm, devS_end HS1.out⟩
  · have hf := Lib.hid (show tileKindI d t = kindI d t from if_pos ((tOk_iff d t).2 ⟨hv, by omega, by omega⟩))
    have o1 := @k1_o d t
    have o2 := @k2_o d t
    have o3 := @k3_o d t
    have z : t ≤ 35 := by omega
    have hS0 := devS_start w d
    have HS0 := Lib.hid hS0
    go_enter Try.func51, Try.ntmps51
    go_wp2_with fail
    refine (specDeviceOk_any d _).mono ?_
    rintro e w1 ⟨rfl, hb1⟩
    have hS1 := devS_step HS0.out hb1
    have HS1 := Lib.hid hS1
    clear hS0
    obtain ⟨c0, c1, c2, c3, -⟩ := hS1
    clear hb1
    have hz1 : w.heap.size < w1.heap.size := World.block_lt_of_cell? _ _ c0
    clear o1 o2 o3
    go_wp2
    all_goals go_ret
    all_goals refine ⟨rt_int ?_, devS_end HS1.out⟩
    all_goals rw [hf.out]
    all_goals first | exact k1_o (by assumption) | exact k2_o (by assumption) | exact k3_o (by assumption) | exact k4' (by assumption) | exact k5' (by assumption) (by assumption) | exact k6' (by assumption) (by assumption)
set_option maxHeartbeats 400000 in
theorem specPer_any (d : Dev) (hv : devB d = true) (w : World) : Calls Try.prog 52 #[.agg #[.int .i64 d.W, .int .i64 d.H, .int .i64 d.T, .int .i64 d.R]] w fun e w' => e = .returned (.int .i64 (perI d)) ∧ Below w.heap.size w w' := by
  obtain ⟨-, -, ⟨t1, t2⟩, -⟩ := (devB_iff d).1 hv
  go_enter Try.func52, Try.ntmps52
  go_wp2
  go_ret
  exact ⟨rfl, bel_alloc (Below.refl _ _) _⟩
set_option maxHeartbeats 400000 in
theorem specInPins_any (k : Int) (h : k = 0 ∨ k = 1 ∨ k = 2) (w : World) : Calls Try.prog 81 #[.int .i64 k] w fun e w' => e = .returned (.int .i64 (inPinsI k)) ∧ w = w' := by
  rcases h with rfl | rfl | rfl
  all_goals
    go_enter Try.func81, Try.ntmps81
    go_wp2
    go_ret
    exact ⟨rfl, rfl⟩
set_option maxHeartbeats 400000 in
theorem specOutPins_any (k : Int) (h : k = 0 ∨ k = 1 ∨ k = 2) (w : World) : Calls Try.prog 50 #[.int .i64 k] w fun e w' => e = .returned (.int .i64 (outPinsI k)) ∧ w = w' := by
  rcases h with rfl | rfl | rfl
  all_goals
    go_enter Try.func50, Try.ntmps50
    go_wp2
    go_ret
    exact ⟨rfl, rfl⟩
set_option maxHeartbeats 1000000 in
theorem specRouteNodes_yes (d : Dev)  (hv : devB d = true) (w : World) :
    Calls Try.prog 25 #[.agg #[.int .i64 d.W, .int .i64 d.H, .int .i64 d.T, .int .i64 d.R]] w fun e w' => e = .returned (.int .i64 (allI d)) ∧ Below w.heap.size w w' := by
  obtain ⟨h1, h2⟩ := per_rng hv
  obtain ⟨m1, m2⟩ := area_le hv
  obtain ⟨h3, h4⟩ := all_rng hv
  unfold allI at h3 h4
  have e1 : IntKind.i64.wrap (d.W * d.H) = d.W * d.H := IntWalk.i64_in _ (by omega)
  have e2 : IntKind.i64.wrap (d.W * d.H * perI d) = d.W * d.H * perI d := IntWalk.i64_in _ (by omega)
  have hS0 := devS_start w d
  have HS0 := Lib.hid hS0
  go_enter Try.func25, Try.ntmps25
  go_wp2_with fail
  refine (specDeviceOk_any d _).mono ?_
  rintro e w1 ⟨rfl, hb1⟩
  have hS1 := devS_step HS0.out hb1
  have HS1 := Lib.hid hS1
  clear hS0
  obtain ⟨c0, c1, c2, c3, -⟩ := hS1
  clear hb1
  have hz1 : w.heap.size < w1.heap.size := World.block_lt_of_cell? _ _ c0
  have hS := HS1.out
  clear c0 c1 c2 c3
  go_wp2
  go_region_held3 (fun w' => DevS (w.alloc (.cells #[.int .i64 d.W, .int .i64 d.H, .int .i64 d.T, .int .i64 d.R] 25)) w.heap.size d w') (first | assumption | exact devS_drew (by assumption) | exact devS_alloc (by assumption) _ | exact devS_step (by assumption) (by assumption)) (first | (go_at_call 52; refine (specPer_any d hv _).mono ?_; rintro e w1 ⟨rfl, hb1⟩))
  go_wp2
  go_ret
  exact ⟨rfl, devS_end (by assumption)⟩
set_option maxHeartbeats 1000000 in
theorem specRouteNodes_no (d : Dev)  (hv : devB d = false) (w : World) :
    Calls Try.prog 25 #[.agg #[.int .i64 d.W, .int .i64 d.H, .int .i64 d.T, .int .i64 d.R]] w fun e w' => e = .returned (.int .i64 0) ∧ Below w.heap.size w w' := by
  have hS0 := devS_start w d
  have HS0 := Lib.hid hS0
  go_enter Try.func25, Try.ntmps25
  go_wp2_with fail
  refine (specDeviceOk_any d _).mono ?_
  rintro e w1 ⟨rfl, hb1⟩
  have hS1 := devS_step HS0.out hb1
  have HS1 := Lib.hid hS1
  clear hS0
  obtain ⟨c0, c1, c2, c3, -⟩ := hS1
  clear hb1
  have hz1 : w.heap.size < w1.heap.size := World.block_lt_of_cell? _ _ c0
  go_wp2
  go_ret
  exact ⟨rfl, devS_end HS1.out⟩
set_option maxHeartbeats 1000000 in
theorem specWire_any (d : Dev) (n : Int) (hv : devB d = true) (n0 : 0 ≤ n) (n1 : n ≤ allI d - 1) (k7 : 7 ≤ n % perI d) (w : World) :
    Calls Try.prog 58 #[.agg #[.int .i64 d.W, .int .i64 d.H, .int .i64 d.T, .int .i64 d.R], .int .i64 n] w fun e w' => e = .returned (.tuple #[.int .i64 ((n % perI d - 7) / d.T), .int .i64 ((n % perI d - 7) % d.T)]) ∧ Below w.heap.size w w' := by
  obtain ⟨h1, h2⟩ := per_rng hv
  obtain ⟨m1, m2⟩ := all_rng hv
  obtain ⟨p0, p1, p2, p3, p4⟩ := place_rng hv n0 n1
  obtain ⟨-, -, ⟨t1, t2⟩, -⟩ := (devB_iff d).1 hv
  obtain ⟨g0, g1, g2, g3⟩ := wire_rng hv k7 p3
  have hS0 := devS_start w d
  have HS0 := Lib.hid hS0
  go_enter Try.func58, Try.ntmps58
  go_wp2_with fail
  refine (specPer_any d hv _).mono ?_
  rintro e w1 ⟨rfl, hb1⟩
  have hS1 := devS_step HS0.out hb1
  have HS1 := Lib.hid hS1
  clear hS0
  obtain ⟨c0, c1, c2, c3, -⟩ := hS1
  clear hb1
  have hz1 : w.heap.size < w1.heap.size := World.block_lt_of_cell? _ _ c0
  go_wp2
  go_quiet (fail)
  go_wp2
  go_ret2
  exact ⟨rfl, bel_drewN (devS_end HS1.out) _⟩
set_option maxHeartbeats 4000000 in
theorem specTileStep_any (d : Dev) (t dir s : Int) (w : World) :
    Calls Try.prog 60 #[.agg #[.int .i64 d.W, .int .i64 d.H, .int .i64 d.T, .int .i64 d.R], .int .i64 t, .int .i64 dir, .int .i64 s] w fun e w' => e = .returned (.int .i64 (tileStepI d t dir s)) ∧ Below w.heap.size w w' := by
  rcases Bool.eq_false_or_eq_true (tOk d t) with hd | hd
  rotate_left
  · have hf := Lib.hid (show tileStepI d t dir s = -1 from if_neg (by simp [hd]))
    have hk := Lib.hid (show tileKindI d t = -1 from if_neg (by simp [hd]))
    have hS0 := devS_start w d
    have HS0 := Lib.hid hS0
    go_enter Try.func60, Try.ntmps60
    go_wp2_with fail
    refine (specTileKind_any d t _).mono ?_
    rintro e w1 ⟨rfl, hb1⟩
    have hS1 := devS_step HS0.out hb1
    have HS1 := Lib.hid hS1
    clear hS0
    obtain ⟨c0, c1, c2, c3, -⟩ := hS1
    clear hb1
    have hz1 : w.heap.size < w1.heap.size := World.block_lt_of_cell? _ _ c0
    rw [hk.out]
    go_wp2
    go_ret
    exact ⟨rt_int hf.out.symm, devS_end HS1.out⟩
  have hk : 0 ≤ tileKindI d t := by rw [show tileKindI d t = kindI d t from if_pos hd]; rcases kind_cases d t with h | h | h <;> omega
  rcases Bool.eq_false_or_eq_true (inR dir 0 3) with h1 | h1
  rotate_left
  · have hf := Lib.hid (show tileStepI d t dir s = -1 from if_neg (by simp [h1]))
    have hS0 := devS_start w d
    have HS0 := Lib.hid hS0
    go_enter Try.func60, Try.ntmps60
    go_wp2_with fail
    refine (specTileKind_any d t _).mono ?_
    rintro e w1 ⟨rfl, hb1⟩
    have hS1 := devS_step HS0.out hb1
    have HS1 := Lib.hid hS1
    clear hS0
    obtain ⟨c0, c1, c2, c3, -⟩ := hS1
    clear hb1
    have hz1 : w.heap.size < w1.heap.size := World.block_lt_of_cell? _ _ c0
    go_wp2_with fail
    refine (l01In_any _ _ _ _).mono ?_
    rintro e w' ⟨rfl, rfl⟩
    go_wp2
    go_ret
    exact ⟨rt_int hf.out.symm, devS_end HS1.out⟩
  rcases Bool.eq_false_or_eq_true (inR s 0 6) with h2 | h2
  rotate_left
  · have hf := Lib.hid (show tileStepI d t dir s = -1 from if_neg (by simp [h2]))
    have hS0 := devS_start w d
    have HS0 := Lib.hid hS0
    go_enter Try.func60, Try.ntmps60
    go_wp2_with fail
    refine (specTileKind_any d t _).mono ?_
    rintro e w1 ⟨rfl, hb1⟩
    have hS1 := devS_step HS0.out hb1
    have HS1 := Lib.hid hS1
    clear hS0
    obtain ⟨c0, c1, c2, c3, -⟩ := hS1
    clear hb1
    have hz1 : w.heap.size < w1.heap.size := World.block_lt_of_cell? _ _ c0
    go_wp2_with fail
    refine (l01In_any _ _ _ _).mono ?_
    rintro e w' ⟨rfl, rfl⟩
    go_wp2_with fail
    refine (l01In_any _ _ _ _).mono ?_
    rintro e w' ⟨rfl, rfl⟩
    go_wp2
    go_ret
    exact ⟨rt_int hf.out.symm, devS_end HS1.out⟩
  have hf0 : tileStepI d t dir s = stepI d t dir s := if_pos ⟨hd, h1, h2⟩
  obtain ⟨hv, t0, t1⟩ := (tOk_iff d t).1 hd
  obtain ⟨r0, r1⟩ := (inR_iff _ _ _).1 h1
  obtain ⟨s0, s1⟩ := (inR_iff _ _ _).1 h2
  obtain ⟨x0, x1, y0, y1, -⟩ := tile_xy hv t0 t1
  obtain ⟨m1, m2⟩ := area_le hv
  obtain ⟨⟨a1, a2⟩, ⟨b1, b2⟩, -, -⟩ := (devB_iff d).1 hv
  have q1 : ¬ d.W = 0 := by omega
  have q2 : IntKind.i64.wrap (t.tdiv d.W) = t / d.W := IntWalk.i64_quo _ _ (by omega)
  have q3 : t.tmod d.W = t % d.W := Int.tmod_eq_emod_of_nonneg t0
  obtain rfl | rfl | rfl | rfl : dir = 0 ∨ dir = 1 ∨ dir = 2 ∨ dir = 3 := by omega
  · have ex : dX 0 s = s := by simp [dX]
    have ey : dY 0 s = 0 := by simp [dY]
    have gx : t % d.W + dX 0 s = t % d.W + s := by first | (rw [ex]; done) | (rw [ex]; omega)
    have gy : t / d.W + dY 0 s = t / d.W := by first | (rw [ey]; done) | (rw [ey]; omega)
    have o1 := @step_out1 d t 0 s
    have o2 := @step_out2 d t 0 s
    have o3 := @step_in d t 0 s
    rw [gx] at o1 o3
    rw [gy] at o2 o3
    clear ex ey gx gy
    rcases Bool.eq_false_or_eq_true (inR (t % d.W + s) 0 (d.W - 1)) with h3 | h3
    rotate_left
    · have hf := Lib.hid (hf0.trans (o1 h3).symm)
      clear o1 o2 o3 hf0
      have hS0 := devS_start w d
      have HS0 := Lib.hid hS0
      go_enter Try.func60, Try.ntmps60
      go_wp2_with fail
      refine (specTileKind_any d t _).mono ?_
      rintro e w1 ⟨rfl, hb1⟩
      have hS1 := devS_step HS0.out hb1
      have HS1 := Lib.hid hS1
      clear hS0
      obtain ⟨c0, c1, c2, c3, -⟩ := hS1
      clear hb1
      have hz1 : w.heap.size < w1.heap.size := World.block_lt_of_cell? _ _ c0
      go_wp2_with fail
      refine (l01In_any _ _ _ _).mono ?_
      rintro e w' ⟨rfl, rfl⟩
      go_wp2_with fail
      refine (l01In_any _ _ _ _).mono ?_
      rintro e w' ⟨rfl, rfl⟩
      go_wp2
      go_region
      go_wp2
      go_region
      go_wp2_with (go_at_call 80; refine (l01In_any _ _ _ _).mono ?_; rintro e w' ⟨rfl, rfl⟩)
      go_ret
      exact ⟨rt_int hf.out.symm, bel_fin HS1.out⟩
    rcases Bool.eq_false_or_eq_true (inR (t / d.W) 0 (d.H - 1)) with h4 | h4
    rotate_left
    · have hf := Lib.hid (hf0.trans (o2 h4).symm)
      clear o1 o2 o3 hf0
      have hS0 := devS_start w d
      have HS0 := Lib.hid hS0
      go_enter Try.func60, Try.ntmps60
      go_wp2_with fail
      refine (specTileKind_any d t _).mono ?_
      rintro e w1 ⟨rfl, hb1⟩
      have hS1 := devS_step HS0.out hb1
      have HS1 := Lib.hid hS1
      clear hS0
      obtain ⟨c0, c1, c2, c3, -⟩ := hS1
      clear hb1
      have hz1 : w.heap.size < w1.heap.size := World.block_lt_of_cell? _ _ c0
      go_wp2_with fail
      refine (l01In_any _ _ _ _).mono ?_
      rintro e w' ⟨rfl, rfl⟩
      go_wp2_with fail
      refine (l01In_any _ _ _ _).mono ?_
      rintro e w' ⟨rfl, rfl⟩
      go_wp2
      go_region
      go_wp2
      go_region
      go_wp2_with (go_at_call 80; refine (l01In_any _ _ _ _).mono ?_; rintro e w' ⟨rfl, rfl⟩)
      go_ret
      exact ⟨rt_int hf.out.symm, bel_fin HS1.out⟩
    · have hf := Lib.hid (hf0.trans (o3 h3 h4).symm)
      clear o1 o2 o3 hf0
      obtain ⟨i1, i2⟩ := (inR_iff _ _ _).1 h3
      obtain ⟨i3, i4⟩ := (inR_iff _ _ _).1 h4
      have i5 : 0 ≤ (t / d.W) * d.W ∧ (t / d.W) * d.W ≤ 36 := ⟨Int.mul_nonneg i3 (by omega), Int.le_trans (Int.mul_le_mul (show t / d.W ≤ 6 by omega) a2 (by omega) (by omega)) (by omega)⟩
      have hS0 := devS_start w d
      have HS0 := Lib.hid hS0
      go_enter Try.func60, Try.ntmps60
      go_wp2_with fail
      refine (specTileKind_any d t _).mono ?_
      rintro e w1 ⟨rfl, hb1⟩
      have hS1 := devS_step HS0.out hb1
      have HS1 := Lib.hid hS1
      clear hS0
      obtain ⟨c0, c1, c2, c3, -⟩ := hS1
      clear hb1
      have hz1 : w.heap.size < w1.heap.size := World.block_lt_of_cell? _ _ c0
      go_wp2_with fail
      refine (l01In_any _ _ _ _).mono ?_
      rintro e w' ⟨rfl, rfl⟩
      go_wp2_with fail
      refine (l01In_any _ _ _ _).mono ?_
      rintro e w' ⟨rfl, rfl⟩
      go_wp2
      go_region
      go_wp2
      go_region
      go_wp2_with (go_at_call 80; refine (l01In_any _ _ _ _).mono ?_; rintro e w' ⟨rfl, rfl⟩)
      go_ret
      exact ⟨rt_int hf.out.symm, bel_fin HS1.out⟩
  · have ex : dX 1 s = 0 := by simp [dX]
    have ey : dY 1 s = s := by simp [dY]
    have gx : t % d.W + dX 1 s = t % d.W := by first | (rw [ex]; done) | (rw [ex]; omega)
    have gy : t / d.W + dY 1 s = t / d.W + s := by first | (rw [ey]; done) | (rw [ey]; omega)
    have o1 := @step_out1 d t 1 s
    have o2 := @step_out2 d t 1 s
    have o3 := @step_in d t 1 s
    rw [gx] at o1 o3
    rw [gy] at o2 o3
    clear ex ey gx gy
    rcases Bool.eq_false_or_eq_true (inR (t % d.W) 0 (d.W - 1)) with h3 | h3
    rotate_left
    · have hf := Lib.hid (hf0.trans (o1 h3).symm)
      clear o1 o2 o3 hf0
      have hS0 := devS_start w d
      have HS0 := Lib.hid hS0
      go_enter Try.func60, Try.ntmps60
      go_wp2_with fail
      refine (specTileKind_any d t _).mono ?_
      rintro e w1 ⟨rfl, hb1⟩
      have hS1 := devS_step HS0.out hb1
      have HS1 := Lib.hid hS1
      clear hS0
      obtain ⟨c0, c1, c2, c3, -⟩ := hS1
      clear hb1
      have hz1 : w.heap.size < w1.heap.size := World.block_lt_of_cell? _ _ c0
      go_wp2_with fail
      refine (l01In_any _ _ _ _).mono ?_
      rintro e w' ⟨rfl, rfl⟩
      go_wp2_with fail
      refine (l01In_any _ _ _ _).mono ?_
      rintro e w' ⟨rfl, rfl⟩
      go_wp2
      go_region
      go_wp2
      go_region
      go_wp2_with (go_at_call 80; refine (l01In_any _ _ _ _).mono ?_; rintro e w' ⟨rfl, rfl⟩)
      go_ret
      exact ⟨rt_int hf.out.symm, bel_fin HS1.out⟩
    rcases Bool.eq_false_or_eq_true (inR (t / d.W + s) 0 (d.H - 1)) with h4 | h4
    rotate_left
    · have hf := Lib.hid (hf0.trans (o2 h4).symm)
      clear o1 o2 o3 hf0
      have hS0 := devS_start w d
      have HS0 := Lib.hid hS0
      go_enter Try.func60, Try.ntmps60
      go_wp2_with fail
      refine (specTileKind_any d t _).mono ?_
      rintro e w1 ⟨rfl, hb1⟩
      have hS1 := devS_step HS0.out hb1
      have HS1 := Lib.hid hS1
      clear hS0
      obtain ⟨c0, c1, c2, c3, -⟩ := hS1
      clear hb1
      have hz1 : w.heap.size < w1.heap.size := World.block_lt_of_cell? _ _ c0
      go_wp2_with fail
      refine (l01In_any _ _ _ _).mono ?_
      rintro e w' ⟨rfl, rfl⟩
      go_wp2_with fail
      refine (l01In_any _ _ _ _).mono ?_
      rintro e w' ⟨rfl, rfl⟩
      go_wp2
      go_region
      go_wp2
      go_region
      go_wp2_with (go_at_call 80; refine (l01In_any _ _ _ _).mono ?_; rintro e w' ⟨rfl, rfl⟩)
      go_ret
      exact ⟨rt_int hf.out.symm, bel_fin HS1.out⟩
    · have hf := Lib.hid (hf0.trans (o3 h3 h4).symm)
      clear o1 o2 o3 hf0
      obtain ⟨i1, i2⟩ := (inR_iff _ _ _).1 h3
      obtain ⟨i3, i4⟩ := (inR_iff _ _ _).1 h4
      have i5 : 0 ≤ (t / d.W + s) * d.W ∧ (t / d.W + s) * d.W ≤ 36 := ⟨Int.mul_nonneg i3 (by omega), Int.le_trans (Int.mul_le_mul (show t / d.W + s ≤ 6 by omega) a2 (by omega) (by omega)) (by omega)⟩
      have hS0 := devS_start w d
      have HS0 := Lib.hid hS0
      go_enter Try.func60, Try.ntmps60
      go_wp2_with fail
      refine (specTileKind_any d t _).mono ?_
      rintro e w1 ⟨rfl, hb1⟩
      have hS1 := devS_step HS0.out hb1
      have HS1 := Lib.hid hS1
      clear hS0
      obtain ⟨c0, c1, c2, c3, -⟩ := hS1
      clear hb1
      have hz1 : w.heap.size < w1.heap.size := World.block_lt_of_cell? _ _ c0
      go_wp2_with fail
      refine (l01In_any _ _ _ _).mono ?_
      rintro e w' ⟨rfl, rfl⟩
      go_wp2_with fail
      refine (l01In_any _ _ _ _).mono ?_
      rintro e w' ⟨rfl, rfl⟩
      go_wp2
      go_region
      go_wp2
      go_region
      go_wp2_with (go_at_call 80; refine (l01In_any _ _ _ _).mono ?_; rintro e w' ⟨rfl, rfl⟩)
      go_ret
      exact ⟨rt_int hf.out.symm, bel_fin HS1.out⟩
  · have ex : dX 2 s = -s := by simp [dX]
    have ey : dY 2 s = 0 := by simp [dY]
    have gx : t % d.W + dX 2 s = t % d.W + -s := by first | (rw [ex]; done) | (rw [ex]; omega)
    have gy : t / d.W + dY 2 s = t / d.W := by first | (rw [ey]; done) | (rw [ey]; omega)
    have o1 := @step_out1 d t 2 s
    have o2 := @step_out2 d t 2 s
    have o3 := @step_in d t 2 s
    rw [gx] at o1 o3
    rw [gy] at o2 o3
    clear ex ey gx gy
    rcases Bool.eq_false_or_eq_true (inR (t % d.W + -s) 0 (d.W - 1)) with h3 | h3
    rotate_left
    · have hf := Lib.hid (hf0.trans (o1 h3).symm)
      clear o1 o2 o3 hf0
      have hS0 := devS_start w d
      have HS0 := Lib.hid hS0
      go_enter Try.func60, Try.ntmps60
      go_wp2_with fail
      refine (specTileKind_any d t _).mono ?_
      rintro e w1 ⟨rfl, hb1⟩
      have hS1 := devS_step HS0.out hb1
      have HS1 := Lib.hid hS1
      clear hS0
      obtain ⟨c0, c1, c2, c3, -⟩ := hS1
      clear hb1
      have hz1 : w.heap.size < w1.heap.size := World.block_lt_of_cell? _ _ c0
      go_wp2_with fail
      refine (l01In_any _ _ _ _).mono ?_
      rintro e w' ⟨rfl, rfl⟩
      go_wp2_with fail
      refine (l01In_any _ _ _ _).mono ?_
      rintro e w' ⟨rfl, rfl⟩
      go_wp2
      go_region
      go_wp2
      go_region
      go_wp2_with (go_at_call 80; refine (l01In_any _ _ _ _).mono ?_; rintro e w' ⟨rfl, rfl⟩)
      go_ret
      exact ⟨rt_int hf.out.symm, bel_fin HS1.out⟩
    rcases Bool.eq_false_or_eq_true (inR (t / d.W) 0 (d.H - 1)) with h4 | h4
    rotate_left
    · have hf := Lib.hid (hf0.trans (o2 h4).symm)
      clear o1 o2 o3 hf0
      have hS0 := devS_start w d
      have HS0 := Lib.hid hS0
      go_enter Try.func60, Try.ntmps60
      go_wp2_with fail
      refine (specTileKind_any d t _).mono ?_
      rintro e w1 ⟨rfl, hb1⟩
      have hS1 := devS_step HS0.out hb1
      have HS1 := Lib.hid hS1
      clear hS0
      obtain ⟨c0, c1, c2, c3, -⟩ := hS1
      clear hb1
      have hz1 : w.heap.size < w1.heap.size := World.block_lt_of_cell? _ _ c0
      go_wp2_with fail
      refine (l01In_any _ _ _ _).mono ?_
      rintro e w' ⟨rfl, rfl⟩
      go_wp2_with fail
      refine (l01In_any _ _ _ _).mono ?_
      rintro e w' ⟨rfl, rfl⟩
      go_wp2
      go_region
      go_wp2
      go_region
      go_wp2_with (go_at_call 80; refine (l01In_any _ _ _ _).mono ?_; rintro e w' ⟨rfl, rfl⟩)
      go_ret
      exact ⟨rt_int hf.out.symm, bel_fin HS1.out⟩
    · have hf := Lib.hid (hf0.trans (o3 h3 h4).symm)
      clear o1 o2 o3 hf0
      obtain ⟨i1, i2⟩ := (inR_iff _ _ _).1 h3
      obtain ⟨i3, i4⟩ := (inR_iff _ _ _).1 h4
      have i5 : 0 ≤ (t / d.W) * d.W ∧ (t / d.W) * d.W ≤ 36 := ⟨Int.mul_nonneg i3 (by omega), Int.le_trans (Int.mul_le_mul (show t / d.W ≤ 6 by omega) a2 (by omega) (by omega)) (by omega)⟩
      have hS0 := devS_start w d
      have HS0 := Lib.hid hS0
      go_enter Try.func60, Try.ntmps60
      go_wp2_with fail
      refine (specTileKind_any d t _).mono ?_
      rintro e w1 ⟨rfl, hb1⟩
      have hS1 := devS_step HS0.out hb1
      have HS1 := Lib.hid hS1
      clear hS0
      obtain ⟨c0, c1, c2, c3, -⟩ := hS1
      clear hb1
      have hz1 : w.heap.size < w1.heap.size := World.block_lt_of_cell? _ _ c0
      go_wp2_with fail
      refine (l01In_any _ _ _ _).mono ?_
      rintro e w' ⟨rfl, rfl⟩
      go_wp2_with fail
      refine (l01In_any _ _ _ _).mono ?_
      rintro e w' ⟨rfl, rfl⟩
      go_wp2
      go_region
      go_wp2
      go_region
      go_wp2_with (go_at_call 80; refine (l01In_any _ _ _ _).mono ?_; rintro e w' ⟨rfl, rfl⟩)
      go_ret
      exact ⟨rt_int hf.out.symm, bel_fin HS1.out⟩
  · have ex : dX 3 s = 0 := by simp [dX]
    have ey : dY 3 s = -s := by simp [dY]
    have gx : t % d.W + dX 3 s = t % d.W := by first | (rw [ex]; done) | (rw [ex]; omega)
    have gy : t / d.W + dY 3 s = t / d.W + -s := by first | (rw [ey]; done) | (rw [ey]; omega)
    have o1 := @step_out1 d t 3 s
    have o2 := @step_out2 d t 3 s
    have o3 := @step_in d t 3 s
    rw [gx] at o1 o3
    rw [gy] at o2 o3
    clear ex ey gx gy
    rcases Bool.eq_false_or_eq_true (inR (t % d.W) 0 (d.W - 1)) with h3 | h3
    rotate_left
    · have hf := Lib.hid (hf0.trans (o1 h3).symm)
      clear o1 o2 o3 hf0
      have hS0 := devS_start w d
      have HS0 := Lib.hid hS0
      go_enter Try.func60, Try.ntmps60
      go_wp2_with fail
      refine (specTileKind_any d t _).mono ?_
      rintro e w1 ⟨rfl, hb1⟩
      have hS1 := devS_step HS0.out hb1
      have HS1 := Lib.hid hS1
      clear hS0
      obtain ⟨c0, c1, c2, c3, -⟩ := hS1
      clear hb1
      have hz1 : w.heap.size < w1.heap.size := World.block_lt_of_cell? _ _ c0
      go_wp2_with fail
      refine (l01In_any _ _ _ _).mono ?_
      rintro e w' ⟨rfl, rfl⟩
      go_wp2_with fail
      refine (l01In_any _ _ _ _).mono ?_
      rintro e w' ⟨rfl, rfl⟩
      go_wp2
      go_region
      go_wp2
      go_region
      go_wp2_with (go_at_call 80; refine (l01In_any _ _ _ _).mono ?_; rintro e w' ⟨rfl, rfl⟩)
      go_ret
      exact ⟨rt_int hf.out.symm, bel_fin HS1.out⟩
    rcases Bool.eq_false_or_eq_true (inR (t / d.W + -s) 0 (d.H - 1)) with h4 | h4
    rotate_left
    · have hf := Lib.hid (hf0.trans (o2 h4).symm)
      clear o1 o2 o3 hf0
      have hS0 := devS_start w d
      have HS0 := Lib.hid hS0
      go_enter Try.func60, Try.ntmps60
      go_wp2_with fail
      refine (specTileKind_any d t _).mono ?_
      rintro e w1 ⟨rfl, hb1⟩
      have hS1 := devS_step HS0.out hb1
      have HS1 := Lib.hid hS1
      clear hS0
      obtain ⟨c0, c1, c2, c3, -⟩ := hS1
      clear hb1
      have hz1 : w.heap.size < w1.heap.size := World.block_lt_of_cell? _ _ c0
      go_wp2_with fail
      refine (l01In_any _ _ _ _).mono ?_
      rintro e w' ⟨rfl, rfl⟩
      go_wp2_with fail
      refine (l01In_any _ _ _ _).mono ?_
      rintro e w' ⟨rfl, rfl⟩
      go_wp2
      go_region
      go_wp2
      go_region
      go_wp2_with (go_at_call 80; refine (l01In_any _ _ _ _).mono ?_; rintro e w' ⟨rfl, rfl⟩)
      go_ret
      exact ⟨rt_int hf.out.symm, bel_fin HS1.out⟩
    · have hf := Lib.hid (hf0.trans (o3 h3 h4).symm)
      clear o1 o2 o3 hf0
      obtain ⟨i1, i2⟩ := (inR_iff _ _ _).1 h3
      obtain ⟨i3, i4⟩ := (inR_iff _ _ _).1 h4
      have i5 : 0 ≤ (t / d.W + -s) * d.W ∧ (t / d.W + -s) * d.W ≤ 36 := ⟨Int.mul_nonneg i3 (by omega), Int.le_trans (Int.mul_le_mul (show t / d.W + -s ≤ 6 by omega) a2 (by omega) (by omega)) (by omega)⟩
      have hS0 := devS_start w d
      have HS0 := Lib.hid hS0
      go_enter Try.func60, Try.ntmps60
      go_wp2_with fail
      refine (specTileKind_any d t _).mono ?_
      rintro e w1 ⟨rfl, hb1⟩
      have hS1 := devS_step HS0.out hb1
      have HS1 := Lib.hid hS1
      clear hS0
      obtain ⟨c0, c1, c2, c3, -⟩ := hS1
      clear hb1
      have hz1 : w.heap.size < w1.heap.size := World.block_lt_of_cell? _ _ c0
      go_wp2_with fail
      refine (l01In_any _ _ _ _).mono ?_
      rintro e w' ⟨rfl, rfl⟩
      go_wp2_with fail
      refine (l01In_any _ _ _ _).mono ?_
      rintro e w' ⟨rfl, rfl⟩
      go_wp2
      go_region
      go_wp2
      go_region
      go_wp2_with (go_at_call 80; refine (l01In_any _ _ _ _).mono ?_; rintro e w' ⟨rfl, rfl⟩)
      go_ret
      exact ⟨rt_int hf.out.symm, bel_fin HS1.out⟩
theorem tileStep_eq {d : Dev} {t dir s : Int} (h : tOk d t = true) (r0 : 0 ≤ dir) (r1 : dir ≤ 3) (s0 : 0 ≤ s) (s1 : s ≤ 6) : tileStepI d t dir s = stepI d t dir s := if_pos ⟨h, inR_true r0 r1, inR_true s0 s1⟩
theorem tileKind_eq {d : Dev} {t : Int} (h : tOk d t = true) : tileKindI d t = kindI d t := if_pos h
set_option maxHeartbeats 4000000 in
theorem specRouteNodeOk_any (d : Dev) (n : Int) (w : World) :
    Calls Try.prog 57 #[.agg #[.int .i64 d.W, .int .i64 d.H, .int .i64 d.T, .int .i64 d.R], .int .i64 n] w fun e w' => e = .returned (.bool (nodeOkI d n)) ∧ Below w.heap.size w w' := by
  by_cases hneg : n < 0
  · have hf : Hid (nodeOkI d n = false) := nodeOk_out (inR_false (.inl hneg))
    have hS0 := devS_start w d
    have HS0 := Lib.hid hS0
    go_enter Try.func57, Try.ntmps57
    go_wp2
    go_ret
    exact ⟨rt_bool hf.out.symm, devS_end HS0.out⟩
  rcases Bool.eq_false_or_eq_true (devB d) with hv | hv
  rotate_left
  · have hf := Lib.hid (nodeOk_dev (n := n) hv)
    have hS0 := devS_start w d
    have HS0 := Lib.hid hS0
    go_enter Try.func57, Try.ntmps57
    go_wp2_with fail
    refine (specRouteNodes_no d hv _).mono ?_
    rintro e w1 ⟨rfl, hb1⟩
    have hS1 := devS_step HS0.out hb1
    have HS1 := Lib.hid hS1
    clear hS0
    obtain ⟨c0, c1, c2, c3, -⟩ := hS1
    clear hb1
    have hz1 : w.heap.size < w1.heap.size := World.block_lt_of_cell? _ _ c0
    go_wp2
    go_ret
    exact ⟨rt_bool hf.out.symm, devS_end HS1.out⟩
  obtain ⟨m1, m2⟩ := all_rng hv
  by_cases hbig : allI d ≤ n
  · have hf : Hid (nodeOkI d n = false) := nodeOk_out (inR_false (.inr (by omega)))
    have hS0 := devS_start w d
    have HS0 := Lib.hid hS0
    go_enter Try.func57, Try.ntmps57
    go_wp2_with fail
    refine (specRouteNodes_yes d hv _).mono ?_
    rintro e w1 ⟨rfl, hb1⟩
    have hS1 := devS_step HS0.out hb1
    have HS1 := Lib.hid hS1
    clear hS0
    obtain ⟨c0, c1, c2, c3, -⟩ := hS1
    clear hb1
    have hz1 : w.heap.size < w1.heap.size := World.block_lt_of_cell? _ _ c0
    go_wp2
    go_ret
    exact ⟨rt_bool hf.out.symm, devS_end HS1.out⟩
  have n0 : 0 ≤ n := by omega
  have n1 : n ≤ allI d - 1 := by omega
  have hf0 := nodeOk_in hv (inR_true n0 n1)
  obtain ⟨h1, h2⟩ := per_rng hv
  obtain ⟨p0, p1, p2, p3, p4⟩ := place_rng hv n0 n1
  obtain ⟨-, -, ⟨t1, t2⟩, -⟩ := (devB_iff d).1 hv
  have q1 : ¬ perI d = 0 := by omega
  by_cases k5 : n % perI d < 5
  · have hf := Lib.hid (hf0.trans (nodeB_in k5))
    clear hf0
    have kc := kind_cases d (n / perI d)
    have ke := Lib.hid (tileKind_eq p4)
    have hS0 := devS_start w d
    have HS0 := Lib.hid hS0
    go_enter Try.func57, Try.ntmps57
    go_wp2_with fail
    refine (specRouteNodes_yes d hv _).mono ?_
    rintro e w1 ⟨rfl, hb1⟩
    have hS1 := devS_step HS0.out hb1
    have HS1 := Lib.hid hS1
    clear hS0
    obtain ⟨c0, c1, c2, c3, -⟩ := hS1
    clear hb1
    have hz1 : w.heap.size < w1.heap.size := World.block_lt_of_cell? _ _ c0
    go_wp2_with fail
    refine (specPer_any d hv _).mono ?_
    rintro e w2 ⟨rfl, hb2⟩
    have hS2 := devS_step HS1.out hb2
    have HS2 := Lib.hid hS2
    clear c0 c1 c2 c3
    obtain ⟨c0, c1, c2, c3, -⟩ := hS2
    clear hb2
    have hz2 : w.heap.size < w2.heap.size := World.block_lt_of_cell? _ _ c0
    go_wp2_with fail
    refine (specPer_any d hv _).mono ?_
    rintro e w3 ⟨rfl, hb3⟩
    have hS3 := devS_step HS2.out hb3
    have HS3 := Lib.hid hS3
    clear c0 c1 c2 c3
    obtain ⟨c0, c1, c2, c3, -⟩ := hS3
    clear hb3
    have hz3 : w.heap.size < w3.heap.size := World.block_lt_of_cell? _ _ c0
    go_wp2_with fail
    refine (specTileKind_any d _ _).mono ?_
    rintro e w4 ⟨rfl, hb4⟩
    have hS4 := devS_step HS3.out hb4
    have HS4 := Lib.hid hS4
    clear c0 c1 c2 c3
    obtain ⟨c0, c1, c2, c3, -⟩ := hS4
    clear hb4
    have hz4 : w.heap.size < w4.heap.size := World.block_lt_of_cell? _ _ c0
    rw [ke.out]
    go_wp2_with fail
    refine (specInPins_any _ kc _).mono ?_
    rintro e w' ⟨rfl, rfl⟩
    go_wp2
    go_ret
    exact ⟨rt_bool hf.out.symm, devS_end HS4.out⟩
  by_cases k7 : n % perI d < 7
  · have hf := Lib.hid (hf0.trans (nodeB_out (by omega) k7))
    clear hf0
    have kc := kind_cases d (n / perI d)
    have ke := Lib.hid (tileKind_eq p4)
    have hS0 := devS_start w d
    have HS0 := Lib.hid hS0
    go_enter Try.func57, Try.ntmps57
    go_wp2_with fail
    refine (specRouteNodes_yes d hv _).mono ?_
    rintro e w1 ⟨rfl, hb1⟩
    have hS1 := devS_step HS0.out hb1
    have HS1 := Lib.hid hS1
    clear hS0
    obtain ⟨c0, c1, c2, c3, -⟩ := hS1
    clear hb1
    have hz1 : w.heap.size < w1.heap.size := World.block_lt_of_cell? _ _ c0
    go_wp2_with fail
    refine (specPer_any d hv _).mono ?_
    rintro e w2 ⟨rfl, hb2⟩
    have hS2 := devS_step HS1.out hb2
    have HS2 := Lib.hid hS2
    clear c0 c1 c2 c3
    obtain ⟨c0, c1, c2, c3, -⟩ := hS2
    clear hb2
    have hz2 : w.heap.size < w2.heap.size := World.block_lt_of_cell? _ _ c0
    go_wp2_with fail
    refine (specPer_any d hv _).mono ?_
    rintro e w3 ⟨rfl, hb3⟩
    have hS3 := devS_step HS2.out hb3
    have HS3 := Lib.hid hS3
    clear c0 c1 c2 c3
    obtain ⟨c0, c1, c2, c3, -⟩ := hS3
    clear hb3
    have hz3 : w.heap.size < w3.heap.size := World.block_lt_of_cell? _ _ c0
    go_wp2_with fail
    refine (specTileKind_any d _ _).mono ?_
    rintro e w4 ⟨rfl, hb4⟩
    have hS4 := devS_step HS3.out hb4
    have HS4 := Lib.hid hS4
    clear c0 c1 c2 c3
    obtain ⟨c0, c1, c2, c3, -⟩ := hS4
    clear hb4
    have hz4 : w.heap.size < w4.heap.size := World.block_lt_of_cell? _ _ c0
    rw [ke.out]
    go_wp2_with fail
    refine (specOutPins_any _ kc _).mono ?_
    rintro e w' ⟨rfl, rfl⟩
    go_wp2
    go_ret
    exact ⟨rt_bool hf.out.symm, devS_end HS4.out⟩
  · have hf := Lib.hid (hf0.trans (nodeB_wire (by omega)))
    clear hf0
    obtain ⟨g0, g1, g2, g3⟩ := wire_rng hv (by omega) p3
    have z : 0 ≤ 1 + (n % perI d - 7) % d.T % 2 ∧ 1 + (n % perI d - 7) % d.T % 2 ≤ 2 := by omega
    have se := Lib.hid (tileStep_eq p4 g0 g1 z.1 (by omega))
    have hS0 := devS_start w d
    have HS0 := Lib.hid hS0
    go_enter Try.func57, Try.ntmps57
    go_wp2_with fail
    refine (specRouteNodes_yes d hv _).mono ?_
    rintro e w1 ⟨rfl, hb1⟩
    have hS1 := devS_step HS0.out hb1
    have HS1 := Lib.hid hS1
    clear hS0
    obtain ⟨c0, c1, c2, c3, -⟩ := hS1
    clear hb1
    have hz1 : w.heap.size < w1.heap.size := World.block_lt_of_cell? _ _ c0
    go_wp2_with fail
    refine (specPer_any d hv _).mono ?_
    rintro e w2 ⟨rfl, hb2⟩
    have hS2 := devS_step HS1.out hb2
    have HS2 := Lib.hid hS2
    clear c0 c1 c2 c3
    obtain ⟨c0, c1, c2, c3, -⟩ := hS2
    clear hb2
    have hz2 : w.heap.size < w2.heap.size := World.block_lt_of_cell? _ _ c0
    go_wp2_with fail
    refine (specPer_any d hv _).mono ?_
    rintro e w3 ⟨rfl, hb3⟩
    have hS3 := devS_step HS2.out hb3
    have HS3 := Lib.hid hS3
    clear c0 c1 c2 c3
    obtain ⟨c0, c1, c2, c3, -⟩ := hS3
    clear hb3
    have hz3 : w.heap.size < w3.heap.size := World.block_lt_of_cell? _ _ c0
    go_wp2_with fail
    refine (specWire_any d n hv n0 n1 (by omega) _).mono ?_
    rintro e w4 ⟨rfl, hb4⟩
    have hS4 := devS_step HS3.out hb4
    have HS4 := Lib.hid hS4
    clear c0 c1 c2 c3
    obtain ⟨c0, c1, c2, c3, -⟩ := hS4
    clear hb4
    have hz4 : w.heap.size < w4.heap.size := World.block_lt_of_cell? _ _ c0
    go_wp2_with fail
    refine (specTileStep_any d _ _ _ _).mono ?_
    rintro e w5 ⟨rfl, hb5⟩
    have hS5 := devS_step HS4.out hb5
    have HS5 := Lib.hid hS5
    clear c0 c1 c2 c3
    obtain ⟨c0, c1, c2, c3, -⟩ := hS5
    clear hb5
    have hz5 : w.heap.size < w5.heap.size := World.block_lt_of_cell? _ _ c0
    rw [se.out]
    go_wp2
    go_ret
    exact ⟨rt_bool hf.out.symm, devS_end HS5.out⟩
open Go.RowKit
theorem tk_pos {d : Dev} {t : Int} (h : 0 ≤ tileKindI d t) : devB d = true ∧ (0 ≤ t ∧ t ≤ d.W * d.H - 1) ∧ tOk d t = true := by
  unfold tileKindI at h
  split at h
  · rename_i ht; obtain ⟨a, b, c⟩ := (tOk_iff _ _).1 ht; exact ⟨a, ⟨b, c⟩, ht⟩
  · omega
theorem tk_neg {d : Dev} {t : Int} (h : tileKindI d t < 0) : tOk d t ≠ true := by
  intro ht
  unfold tileKindI at h
  rw [if_pos ht] at h
  rcases kind_cases d t with e | e | e <;> omega
def wireNodeS (d : Dev) (t dir k : Int) : Int := if tOk d t = true ∧ 0 ≤ k ∧ k < d.T ∧ 0 ≤ tileStepI d t dir (1 + k % 2) then wireN d t dir k else -1
theorem dirT_rng {d : Dev} {dir : Int} (hv : devB d = true) (r0 : 0 ≤ dir) (r1 : dir ≤ 3) : 0 ≤ dir * d.T ∧ dir * d.T ≤ 12 := by
  obtain ⟨-, -, ⟨l1, l2⟩, -⟩ := (devB_iff d).1 hv
  exact ⟨Int.mul_nonneg r0 (by omega), Int.le_trans (Int.mul_le_mul r1 l2 (by omega) (by omega)) (by omega)⟩
set_option maxHeartbeats 4000000 in
set_option maxRecDepth 100000 in
theorem specWireNode_ans (d : Dev) (t dir k : Int) (w : World) (r0 : 0 ≤ dir) (r1 : dir ≤ 3) (k0 : -1000 ≤ k) (k1_o : k ≤ 1000) :
  Calls Try.prog 59 #[.agg #[.int .i64 d.W, .int .i64 d.H, .int .i64 d.T, .int .i64 d.R], .int .i64 t, .int .i64 dir, .int .i64 k] w (Ans w (.int .i64 (wireNodeS d t dir k))) := by
 refine calls_hc (N := 45) (args := [.agg #[.int .i64 d.W, .int .i64 d.H, .int .i64 d.T, .int .i64 d.R], .int .i64 t, .int .i64 dir, .int .i64 k]) Try.func59 rfl rfl ?_
 refine hc_less _ (sx 0 rfl (sx 1 rfl (sx 2 rfl (sx 3 rfl (sub_nil _))))) (.refl _) ?_
 refine hc_seq ?_
 refine hc_region ?_
 refine hl_box rfl rfl rfl (rq_box rfl rfl) ?_
 intro b1
 refine hl_v rfl rfl rfl (rv_ev rfl) ?_
 refine hl_less (sx 0 rfl (sx 1 rfl (sx 2 rfl (sx 3 rfl (sx 4 rfl (sx 8 rfl (sub_nil _))))))) (.refl _) ?_
 refine hl_nil ?_
 refine hq_then ?_
 refine hc_seq ?_
 refine hc_seq ?_
 refine hc_region ?_
 refine hl_v rfl rfl rfl (rv_loadN (cs := [.int .i64 d.W, .int .i64 d.H, .int .i64 d.T, .int .i64 d.R]) rfl (by kernel_rfl) (by kernel_rfl) rfl rfl (box_part 0 rfl 0 rfl)) ?_
 refine hl_v rfl rfl rfl (rv_ev rfl) ?_
 refine hl_callV rfl rfl rfl (rq_call (by kernel_rfl) rfl (fun w hm => ret_ans (specTileKind_any d _ w))) ?_
 refine hl_lss rfl rfl rfl rfl rfl rfl (fun h2 => ?_) (fun h2 => ?_)
 ·
  refine hl_v rfl rfl rfl (rv_ev rfl) ?_
  refine hl_skip rfl rfl rfl ?_
  refine hl_skip rfl rfl rfl ?_
  refine hl_v rfl rfl rfl (rv_ev rfl) ?_
  refine hl_v rfl rfl rfl (rv_ev rfl) ?_
  refine hl_skip rfl rfl rfl ?_
  refine hl_skip rfl rfl rfl ?_
  refine hl_skip rfl rfl rfl ?_
  refine hl_skip rfl rfl rfl ?_
  refine hl_v rfl rfl rfl (rv_ev rfl) ?_
  refine hl_v rfl rfl rfl (rv_ev rfl) ?_
  refine hl_skip rfl rfl rfl ?_
  refine hl_skip rfl rfl rfl ?_
  refine hl_skip rfl rfl rfl ?_
  refine hl_skip rfl rfl rfl ?_
  refine hl_skip rfl rfl rfl ?_
  refine hl_skip rfl rfl rfl ?_
  refine hl_skip rfl rfl rfl ?_
  refine hl_skip rfl rfl rfl ?_
  refine hl_v rfl rfl rfl (rv_ev rfl) ?_
  refine hl_less (sx 0 rfl (sx 1 rfl (sx 2 rfl (sx 3 rfl (sx 4 rfl (sx 8 rfl (sx 32 rfl (sub_nil _)))))))) (.refl _) ?_
  refine hl_nil ?_
  refine hq_then ?_
  refine hc_true rfl ?_
  refine hc_seq ?_
  refine hc_region ?_
  refine hl_v rfl rfl rfl (rv_ev rfl) ?_
  refine hl_less (sx 0 rfl (sx 1 rfl (sx 2 rfl (sx 3 rfl (sx 4 rfl (sx 8 rfl (sx 32 rfl (sub_nil _)))))))) (.refl _) ?_
  refine hl_nil ?_
  refine hq_then ?_
  refine hc_ret ?_
  refine hq_then_ret ?_
  exact hq_ans rfl rfl (by unfold wireNodeS; rw [if_neg (by rintro ⟨q1, q2, q3, q4⟩; first | omega | exact tk_neg (by assumption) q1)])
 ·
  refine hl_v rfl rfl rfl (rv_ev rfl) ?_
  refine hl_v rfl rfl rfl (rv_ev rfl) ?_
  refine hl_lss rfl rfl rfl rfl rfl rfl (fun h3 => ?_) (fun h3 => ?_)
  ·
   refine hl_v rfl rfl rfl (rv_ev rfl) ?_
   refine hl_v rfl rfl rfl (rv_ev rfl) ?_
   refine hl_skip rfl rfl rfl ?_
   refine hl_skip rfl rfl rfl ?_
   refine hl_skip rfl rfl rfl ?_
   refine hl_skip rfl rfl rfl ?_
   refine hl_v rfl rfl rfl (rv_ev rfl) ?_
   refine hl_v rfl rfl rfl (rv_ev rfl) ?_
   refine hl_skip rfl rfl rfl ?_
   refine hl_skip rfl rfl rfl ?_
   refine hl_skip rfl rfl rfl ?_
   refine hl_skip rfl rfl rfl ?_
   refine hl_skip rfl rfl rfl ?_
   refine hl_skip rfl rfl rfl ?_
   refine hl_skip rfl rfl rfl ?_
   refine hl_skip rfl rfl rfl ?_
   refine hl_v rfl rfl rfl (rv_ev rfl) ?_
   refine hl_less (sx 0 rfl (sx 1 rfl (sx 2 rfl (sx 3 rfl (sx 4 rfl (sx 8 rfl (sx 32 rfl (sub_nil _)))))))) (.refl _) ?_
   refine hl_nil ?_
   refine hq_then ?_
   refine hc_true rfl ?_
   refine hc_seq ?_
   refine hc_region ?_
   refine hl_v rfl rfl rfl (rv_ev rfl) ?_
   refine hl_less (sx 0 rfl (sx 1 rfl (sx 2 rfl (sx 3 rfl (sx 4 rfl (sx 8 rfl (sx 32 rfl (sub_nil _)))))))) (.refl _) ?_
   refine hl_nil ?_
   refine hq_then ?_
   refine hc_ret ?_
   refine hq_then_ret ?_
   exact hq_ans rfl rfl (by unfold wireNodeS; rw [if_neg (by rintro ⟨q1, q2, q3, q4⟩; first | omega | exact tk_neg (by assumption) q1)])
  ·
   refine hl_v rfl rfl rfl (rv_ev rfl) ?_
   refine hl_v rfl rfl rfl (rv_ev rfl) ?_
   refine hl_v rfl rfl rfl (rv_ev rfl) ?_
   refine hl_v rfl rfl rfl (rv_field (k0 := 2) rfl (by kernel_rfl) rfl) ?_
   refine hl_v rfl rfl rfl (rv_load rfl (by kernel_rfl) rfl (box_cell 0 rfl rfl)) ?_
   refine hl_geq rfl rfl rfl rfl rfl rfl (fun h4 => ?_) (fun h4 => ?_)
   ·
    refine hl_v rfl rfl rfl (rv_ev rfl) ?_
    refine hl_v rfl rfl rfl (rv_ev rfl) ?_
    refine hl_skip rfl rfl rfl ?_
    refine hl_skip rfl rfl rfl ?_
    refine hl_skip rfl rfl rfl ?_
    refine hl_skip rfl rfl rfl ?_
    refine hl_skip rfl rfl rfl ?_
    refine hl_skip rfl rfl rfl ?_
    refine hl_skip rfl rfl rfl ?_
    refine hl_skip rfl rfl rfl ?_
    refine hl_v rfl rfl rfl (rv_ev rfl) ?_
    refine hl_less (sx 0 rfl (sx 1 rfl (sx 2 rfl (sx 3 rfl (sx 4 rfl (sx 8 rfl (sx 32 rfl (sub_nil _)))))))) (.refl _) ?_
    refine hl_nil ?_
    refine hq_then ?_
    refine hc_true rfl ?_
    refine hc_seq ?_
    refine hc_region ?_
    refine hl_v rfl rfl rfl (rv_ev rfl) ?_
    refine hl_less (sx 0 rfl (sx 1 rfl (sx 2 rfl (sx 3 rfl (sx 4 rfl (sx 8 rfl (sx 32 rfl (sub_nil _)))))))) (.refl _) ?_
    refine hl_nil ?_
    refine hq_then ?_
    refine hc_ret ?_
    refine hq_then_ret ?_
    exact hq_ans rfl rfl (by unfold wireNodeS; rw [if_neg (by rintro ⟨q1, q2, q3, q4⟩; first | omega | exact tk_neg (by assumption) q1)])
   ·
    refine hl_v rfl rfl rfl (rv_ev rfl) ?_
    refine hl_v rfl rfl rfl (rv_ev rfl) ?_
    refine hl_v rfl rfl rfl (rv_loadN (cs := [.int .i64 d.W, .int .i64 d.H, .int .i64 d.T, .int .i64 d.R]) rfl (by kernel_rfl) (by kernel_rfl) rfl rfl (box_part 0 rfl 0 rfl)) ?_
    refine hl_v rfl rfl rfl (rv_ev rfl) ?_
    refine hl_v rfl rfl rfl (rv_ev rfl) ?_
    refine hl_v rfl rfl rfl (rv_ev rfl) ?_
    refine hl_v rfl rfl rfl (rv_rem rfl rfl rfl (by constructor <;> omega)) ?_
    refine hl_v rfl rfl rfl (rv_add rfl rfl rfl (by constructor <;> omega)) ?_
    refine hl_callV rfl rfl rfl (rq_call (by kernel_rfl) rfl (fun w hm => ret_ans (specTileStep_any d _ _ _ w))) ?_
    refine hl_lss rfl rfl rfl rfl rfl rfl (fun h5 => ?_) (fun h5 => ?_)
    ·
     refine hl_v rfl rfl rfl (rv_ev rfl) ?_
     refine hl_less (sx 0 rfl (sx 1 rfl (sx 2 rfl (sx 3 rfl (sx 4 rfl (sx 8 rfl (sx 32 rfl (sub_nil _)))))))) (.refl _) ?_
     refine hl_nil ?_
     refine hq_then ?_
     refine hc_true rfl ?_
     refine hc_seq ?_
     refine hc_region ?_
     refine hl_v rfl rfl rfl (rv_ev rfl) ?_
     refine hl_less (sx 0 rfl (sx 1 rfl (sx 2 rfl (sx 3 rfl (sx 4 rfl (sx 8 rfl (sx 32 rfl (sub_nil _)))))))) (.refl _) ?_
     refine hl_nil ?_
     refine hq_then ?_
     refine hc_ret ?_
     refine hq_then_ret ?_
     exact hq_ans rfl rfl (by unfold wireNodeS; rw [if_neg (by rintro ⟨q1, q2, q3, q4⟩; first | omega | exact tk_neg (by assumption) q1)])
    ·
     refine hl_v rfl rfl rfl (rv_ev rfl) ?_
     refine hl_less (sx 0 rfl (sx 1 rfl (sx 2 rfl (sx 3 rfl (sx 4 rfl (sx 8 rfl (sx 32 rfl (sub_nil _)))))))) (.refl _) ?_
     refine hl_nil ?_
     refine hq_then ?_
     refine hc_false rfl ?_
     refine hc_skip ?_
     refine hq_then ?_
     refine hc_seq ?_
     obtain ⟨hv, ⟨ht0, ht1⟩, hto⟩ := tk_pos (by assumption)
     have hpm := per_mul hv ht0 ht1
     have hdm := dirT_rng hv r0 r1
     refine hc_draw (by kernel_rfl) 12 [0, 1, 2, 3, 4, 5, 6, 7, 8, 9, 10, 11] (List.take 12 _) (List.drop 12 _) [[], [], [1], [0, 2], [3], [], [], [6], [5, 7], [4, 8], [], [9, 10]] [33, 34, 35, 36, 37, 38, 39, 40, 41, 42, 43, 44] (fun i_ vs_ v_ p_ => match i_ with | 0 => v_ = .int .i64 t ∧ p_ = [] | 1 => v_ = .agg #[.int .i64 d.W, .int .i64 d.H, .int .i64 d.T, .int .i64 d.R] ∧ p_ = [] | 2 => v_ = .int .i64 (perI d) ∧ p_ = [] | 3 => v_ = .int .i64 (t * (perI d)) ∧ p_ = [] | 4 => v_ = .int .i64 ((t * (perI d)) + 7) ∧ p_ = [] | 5 => v_ = .int .i64 dir ∧ p_ = [] | 6 => v_ = .pointer (some ⟨b1, 0 + 2, none⟩) ∧ p_ = [] | 7 => v_ = .int .i64 d.T ∧ p_ = [] | 8 => v_ = .int .i64 (dir * d.T) ∧ p_ = [] | 9 => v_ = .int .i64 (((t * (perI d)) + 7) + (dir * d.T)) ∧ p_ = [] | 10 => v_ = .int .i64 k ∧ p_ = [] | 11 => v_ = .int .i64 ((((t * (perI d)) + 7) + (dir * d.T)) + k) ∧ p_ = [] | _ => True) (List.take_append_drop 12 _).symm (by kernel_rfl) (by kernel_rfl) rfl rfl ?_ ?_
     ·
      refine ⟨?_, ?_, ?_, ?_, ?_, ?_, ?_, ?_, ?_, ?_, ?_, ?_, trivial⟩
      ·
       intro vf pf hR
       refine Or.inl ⟨rfl, ?_⟩
       refine rq_less (sx 1 rfl (sub_nil _)) (List.sublist_append_right _ _) ?_
       exact rq_v (rv_ev rfl)
      ·
       intro vf pf hR
       refine Or.inl ⟨rfl, ?_⟩
       refine rq_less (sx 4 rfl (sub_nil _)) (List.sublist_append_right _ _) ?_
       exact rq_v (rv_loadN (cs := [.int .i64 d.W, .int .i64 d.H, .int .i64 d.T, .int .i64 d.R]) rfl (by kernel_rfl) (by kernel_rfl) rfl rfl (box_part 0 rfl 0 rfl))
      ·
       intro vf pf hR
       have e1 : (vf 1) = .agg #[.int .i64 d.W, .int .i64 d.H, .int .i64 d.T, .int .i64 d.R] ∧ (pf 1) = [] := hR 1 (by decide)
       refine Or.inl ⟨rfl, ?_⟩
       refine rq_less (sx 34 (congrArg some e1.1) (sub_nil _)) (List.sublist_append_right _ _) ?_
       exact (rq_call (by kernel_rfl) rfl (fun w hm => ret_ans (specPer_any d hv w)))
      ·
       intro vf pf hR
       have e0 : (vf 0) = .int .i64 t ∧ (pf 0) = [] := hR 0 (by decide)
       have e2 : (vf 2) = .int .i64 (perI d) ∧ (pf 2) = [] := hR 2 (by decide)
       refine Or.inl ⟨rfl, ?_⟩
       refine rq_less (sx 33 (congrArg some e0.1) (sx 35 (congrArg some e2.1) (sub_nil _))) (List.sublist_append_right _ _) ?_
       exact rq_v (rv_mul rfl rfl rfl (by constructor <;> omega))
      ·
       intro vf pf hR
       have e3 : (vf 3) = .int .i64 (t * (perI d)) ∧ (pf 3) = [] := hR 3 (by decide)
       refine Or.inl ⟨rfl, ?_⟩
       refine rq_less (sx 36 (congrArg some e3.1) (sub_nil _)) (List.sublist_append_right _ _) ?_
       exact rq_v (rv_add rfl rfl rfl (by constructor <;> omega))
      ·
       intro vf pf hR
       refine Or.inl ⟨rfl, ?_⟩
       refine rq_less (sx 2 rfl (sub_nil _)) (List.sublist_append_right _ _) ?_
       exact rq_v (rv_ev rfl)
      ·
       intro vf pf hR
       refine Or.inl ⟨rfl, ?_⟩
       refine rq_less (sx 4 rfl (sub_nil _)) (List.sublist_append_right _ _) ?_
       exact rq_v (rv_field (k0 := 2) rfl (by kernel_rfl) rfl)
      ·
       intro vf pf hR
       have e6 : (vf 6) = .pointer (some ⟨b1, 0 + 2, none⟩) ∧ (pf 6) = [] := hR 6 (by decide)
       refine Or.inl ⟨rfl, ?_⟩
       refine rq_less (sx 39 (congrArg some e6.1) (sub_nil _)) (List.sublist_append_right _ _) ?_
       exact rq_v (rv_load rfl (by kernel_rfl) rfl (box_cell 0 rfl rfl))
      ·
       intro vf pf hR
       have e5 : (vf 5) = .int .i64 dir ∧ (pf 5) = [] := hR 5 (by decide)
       have e7 : (vf 7) = .int .i64 d.T ∧ (pf 7) = [] := hR 7 (by decide)
       refine Or.inl ⟨rfl, ?_⟩
       refine rq_less (sx 38 (congrArg some e5.1) (sx 40 (congrArg some e7.1) (sub_nil _))) (List.sublist_append_right _ _) ?_
       exact rq_v (rv_mul rfl rfl rfl (by constructor <;> omega))
      ·
       intro vf pf hR
       have e4 : (vf 4) = .int .i64 ((t * (perI d)) + 7) ∧ (pf 4) = [] := hR 4 (by decide)
       have e8 : (vf 8) = .int .i64 (dir * d.T) ∧ (pf 8) = [] := hR 8 (by decide)
       refine Or.inl ⟨rfl, ?_⟩
       refine rq_less (sx 37 (congrArg some e4.1) (sx 41 (congrArg some e8.1) (sub_nil _))) (List.sublist_append_right _ _) ?_
       exact rq_v (rv_add rfl rfl rfl (by constructor <;> omega))
      ·
       intro vf pf hR
       refine Or.inl ⟨rfl, ?_⟩
       refine rq_less (sx 3 rfl (sub_nil _)) (List.sublist_append_right _ _) ?_
       exact rq_v (rv_ev rfl)
      ·
       intro vf pf hR
       have e9 : (vf 9) = .int .i64 (((t * (perI d)) + 7) + (dir * d.T)) ∧ (pf 9) = [] := hR 9 (by decide)
       have e10 : (vf 10) = .int .i64 k ∧ (pf 10) = [] := hR 10 (by decide)
       refine Or.inl ⟨rfl, ?_⟩
       refine rq_less (sx 42 (congrArg some e9.1) (sx 43 (congrArg some e10.1) (sub_nil _))) (List.sublist_append_right _ _) ?_
       exact rq_v (rv_add rfl rfl rfl (by constructor <;> omega))
     ·
      intro vf pf hR
      have e11 : (vf 11) = .int .i64 ((((t * (perI d)) + 7) + (dir * d.T)) + k) ∧ (pf 11) = [] := hR 11 (by decide)
      refine hl_less (l' := [boxE b1 #[.int .i64 d.W, .int .i64 d.H, .int .i64 d.T, .int .i64 d.R] 25]) (sx 0 rfl (sx 1 rfl (sx 2 rfl (sx 3 rfl (sx 4 rfl (sx 8 rfl (sx 32 rfl (sx 44 (congrArg some e11.1) (sub_nil _))))))))) (List.sublist_append_right _ _) ?_
      simp only [List.drop_succ_cons, List.drop_zero]
      refine hl_v rfl rfl rfl (rv_ev rfl) ?_
      refine hl_less (sx 0 rfl (sx 1 rfl (sx 2 rfl (sx 3 rfl (sx 4 rfl (sx 8 rfl (sx 32 rfl (sub_nil _)))))))) (.refl _) ?_
      refine hl_nil ?_
      refine hq_then ?_
      refine hc_ret ?_
      exact hq_ans rfl rfl (by unfold wireNodeS; rw [if_pos ⟨hto, by omega, by omega, by omega⟩]; unfold wireN; rfl)
set_option maxHeartbeats 4000000 in
set_option maxRecDepth 100000 in
theorem specOutPin_ans (d : Dev) (t p : Int) (w : World) (ht : tOk d t = true) (p0 : -1000 ≤ p) (p1 : p ≤ 1000) :
  Calls Try.prog 23 #[.agg #[.int .i64 d.W, .int .i64 d.H, .int .i64 d.T, .int .i64 d.R], .int .i64 t, .int .i64 p] w (Ans w (.int .i64 (outPinI d t p))) := by
 obtain ⟨hv, t0, t1⟩ := (tOk_iff _ _).1 ht
 have hpm := per_mul hv t0 t1
 have h35 := tile_35 hv t1
 refine calls_hc (N := 24) (args := [.agg #[.int .i64 d.W, .int .i64 d.H, .int .i64 d.T, .int .i64 d.R], .int .i64 t, .int .i64 p]) Try.func23 rfl rfl ?_
 refine hc_less _ (sx 0 rfl (sx 1 rfl (sx 2 rfl (sub_nil _)))) (.refl _) ?_
 refine hc_seq ?_
 refine hc_region ?_
 refine hl_box rfl rfl rfl (rq_box rfl rfl) ?_
 intro b1
 refine hl_v rfl rfl rfl (rv_ev rfl) ?_
 refine hl_less (sx 0 rfl (sx 1 rfl (sx 2 rfl (sx 3 rfl (sx 6 rfl (sub_nil _)))))) (.refl _) ?_
 refine hl_nil ?_
 refine hq_then ?_
 refine hc_seq ?_
 refine hc_seq ?_
 refine hc_region ?_
 refine hl_v rfl rfl rfl (rv_ev rfl) ?_
 refine hl_lss rfl rfl rfl rfl rfl rfl (fun h2 => ?_) (fun h2 => ?_)
 ·
  refine hl_v rfl rfl rfl (rv_ev rfl) ?_
  refine hl_skip rfl rfl rfl ?_
  refine hl_skip rfl rfl rfl ?_
  refine hl_skip rfl rfl rfl ?_
  refine hl_skip rfl rfl rfl ?_
  refine hl_skip rfl rfl rfl ?_
  refine hl_skip rfl rfl rfl ?_
  refine hl_v rfl rfl rfl (rv_ev rfl) ?_
  refine hl_less (sx 0 rfl (sx 1 rfl (sx 2 rfl (sx 3 rfl (sx 6 rfl (sx 16 rfl (sub_nil _))))))) (.refl _) ?_
  refine hl_nil ?_
  refine hq_then ?_
  refine hc_true rfl ?_
  refine hc_seq ?_
  refine hc_region ?_
  refine hl_v rfl rfl rfl (rv_ev rfl) ?_
  refine hl_less (sx 0 rfl (sx 1 rfl (sx 2 rfl (sx 3 rfl (sx 6 rfl (sx 16 rfl (sub_nil _))))))) (.refl _) ?_
  refine hl_nil ?_
  refine hq_then ?_
  refine hc_ret ?_
  refine hq_then_ret ?_
  exact hq_ans rfl rfl (by (try rw [tileKind_eq ht] at *); unfold outPinI; first | rw [if_pos ⟨ht, by omega, by omega⟩] | rw [if_neg (by rintro ⟨q1, q2, q3⟩; omega)])
 ·
  refine hl_v rfl rfl rfl (rv_ev rfl) ?_
  refine hl_v rfl rfl rfl (rv_ev rfl) ?_
  refine hl_v rfl rfl rfl (rv_loadN (cs := [.int .i64 d.W, .int .i64 d.H, .int .i64 d.T, .int .i64 d.R]) rfl (by kernel_rfl) (by kernel_rfl) rfl rfl (box_part 0 rfl 0 rfl)) ?_
  refine hl_v rfl rfl rfl (rv_ev rfl) ?_
  refine hl_callV rfl rfl rfl (rq_call (by kernel_rfl) rfl (fun w hm => ret_ans (specTileKind_any d _ w))) ?_
  refine hl_callV rfl rfl rfl (rq_call (by kernel_rfl) rfl (fun w hm => ret_ans (ans_of (specOutPins_any _ (by rw [tileKind_eq ht]; exact kind_cases d t) w)))) ?_
  refine hl_geq rfl rfl rfl rfl rfl rfl (fun h3 => ?_) (fun h3 => ?_)
  ·
   refine hl_v rfl rfl rfl (rv_ev rfl) ?_
   refine hl_less (sx 0 rfl (sx 1 rfl (sx 2 rfl (sx 3 rfl (sx 6 rfl (sx 16 rfl (sub_nil _))))))) (.refl _) ?_
   refine hl_nil ?_
   refine hq_then ?_
   refine hc_true rfl ?_
   refine hc_seq ?_
   refine hc_region ?_
   refine hl_v rfl rfl rfl (rv_ev rfl) ?_
   refine hl_less (sx 0 rfl (sx 1 rfl (sx 2 rfl (sx 3 rfl (sx 6 rfl (sx 16 rfl (sub_nil _))))))) (.refl _) ?_
   refine hl_nil ?_
   refine hq_then ?_
   refine hc_ret ?_
   refine hq_then_ret ?_
   exact hq_ans rfl rfl (by (try rw [tileKind_eq ht] at *); unfold outPinI; first | rw [if_pos ⟨ht, by omega, by omega⟩] | rw [if_neg (by rintro ⟨q1, q2, q3⟩; omega)])
  ·
   refine hl_v rfl rfl rfl (rv_ev rfl) ?_
   refine hl_less (sx 0 rfl (sx 1 rfl (sx 2 rfl (sx 3 rfl (sx 6 rfl (sx 16 rfl (sub_nil _))))))) (.refl _) ?_
   refine hl_nil ?_
   refine hq_then ?_
   refine hc_false rfl ?_
   refine hc_skip ?_
   refine hq_then ?_
   refine hc_seq ?_
   refine hc_region ?_
   refine hl_v rfl rfl rfl (rv_ev rfl) ?_
   refine hl_v rfl rfl rfl (rv_loadN (cs := [.int .i64 d.W, .int .i64 d.H, .int .i64 d.T, .int .i64 d.R]) rfl (by kernel_rfl) (by kernel_rfl) rfl rfl (box_part 0 rfl 0 rfl)) ?_
   refine hl_callV rfl rfl rfl (rq_call (by kernel_rfl) rfl (fun w hm => ret_ans (specPer_any d hv w))) ?_
   refine hl_v rfl rfl rfl (rv_mul rfl rfl rfl (by constructor <;> omega)) ?_
   refine hl_v rfl rfl rfl (rv_add rfl rfl rfl (by constructor <;> omega)) ?_
   refine hl_v rfl rfl rfl (rv_ev rfl) ?_
   refine hl_v rfl rfl rfl (rv_add rfl rfl rfl (by constructor <;> omega)) ?_
   refine hl_v rfl rfl rfl (rv_ev rfl) ?_
   refine hl_less (sx 0 rfl (sx 1 rfl (sx 2 rfl (sx 3 rfl (sx 6 rfl (sx 16 rfl (sub_nil _))))))) (.refl _) ?_
   refine hl_nil ?_
   refine hq_then ?_
   refine hc_ret ?_
   exact hq_ans rfl rfl (by (try rw [tileKind_eq ht] at *); unfold outPinI; first | rw [if_pos ⟨ht, by omega, by omega⟩] | rw [if_neg (by rintro ⟨q1, q2, q3⟩; omega)])
def dirI (d : Dev) (p : Int) : Int := if 7 ≤ p then (p - 7) / d.T else 0
def trackI (d : Dev) (p : Int) : Int := if 7 ≤ p then (p - 7) % d.T else 0
def baseS (d : Dev) (t p : Int) : List Int := if 7 ≤ p then (if 1 < outPinsI (kindI d t) then [outPinI d t 0, outPinI d t 1] else [outPinI d t 0]) else []
def sS (d : Dev) (t p r k : Int) (xs : List Int) (s : Nat) : List Int :=
  if 7 ≤ p ∧ (s : Int) + 1 < 1 + k % 2 then xs else if 0 ≤ wireNodeS d (tileStepI d t ((r + 2) % 4) ((s : Int) + 1)) r k then xs ++ [wireNodeS d (tileStepI d t ((r + 2) % 4) ((s : Int) + 1)) r k] else xs
def sK (d : Dev) (t p r k : Int) (xs : List Int) (j : Nat) : List Int := (List.range j).foldl (sS d t p r k) xs
theorem sK_succ (d : Dev) (t p r k : Int) (xs : List Int) (j : Nat) : sK d t p r k xs (j + 1) = sS d t p r k (sK d t p r k xs j) j := by unfold sK; rw [List.range_succ, List.foldl_append]; rfl
/-- (r, k) is passed over -/
def Skip (T p dir track r k : Int) : Prop := (7 ≤ p ∧ (r = (dir + 2) % 4 ∨ (k ≠ track ∧ k ≠ (track + 1) % T))) ∨ (p < 7 ∧ 1 < T ∧ (k + p) % 2 = 1)
instance (T p dir track r k : Int) : Decidable (Skip T p dir track r k) := by unfold Skip; exact inferInstance
def sR (d : Dev) (t p dir track r : Int) (xs : List Int) (j : Nat) : List Int := (List.range j).foldl (fun xs (k : Nat) => if Skip d.T p dir track r k then xs else sK d t p r k xs (1 + k % 2)) xs
theorem sR_succ (d : Dev) (t p dir track r : Int) (xs : List Int) (j : Nat) : sR d t p dir track r xs (j + 1) = if Skip d.T p dir track r j then sR d t p dir track r xs j else sK d t p r j (sR d t p dir track r xs j) (1 + j % 2) := by unfold sR; rw [List.range_succ, List.foldl_append]; rfl
def sO (d : Dev) (t p dir track : Int) (j : Nat) : List Int := (List.range j).foldl (fun xs (r : Nat) => sR d t p dir track r xs d.T.toNat) (baseS d t p)
theorem sO_succ (d : Dev) (t p dir track : Int) (j : Nat) : sO d t p dir track (j + 1) = sR d t p dir track j (sO d t p dir track j) d.T.toNat := by unfold sO; rw [List.range_succ, List.foldl_append]; rfl
def srcS (d : Dev) (n : Int) : List Int := if nodeOkI d n = true ∧ n % perI d ≠ 5 ∧ n % perI d ≠ 6 then sortR (sO d (n / perI d) (n % perI d) (dirI d (n % perI d)) (trackI d (n % perI d)) 4) else []
theorem dir_rng {d : Dev} {p : Int} (hv : devB d = true) (p0 : 0 ≤ p) (p1 : p ≤ perI d - 1) : 0 ≤ dirI d p ∧ dirI d p ≤ 3 ∧ 0 ≤ trackI d p ∧ trackI d p ≤ d.T - 1 := by
  obtain ⟨-, -, ⟨l1, l2⟩, -⟩ := (devB_iff d).1 hv
  unfold dirI trackI
  split
  · exact wire_rng hv (by assumption) p1
  · omega
set_option maxHeartbeats 4000000 in
set_option maxRecDepth 100000 in
theorem specSources_ret (d : Dev) (n : Int) (w : World)  :
  Calls Try.prog 26 #[.agg #[.int .i64 d.W, .int .i64 d.H, .int .i64 d.T, .int .i64 d.R], .int .i64 n] w (Ret w (fun v' post => post = [rowE 3 1 v' (srcS d n).length ((srcS d n).map (Value.int .i64))])) := by
 refine calls_hc (N := 144) (args := [.agg #[.int .i64 d.W, .int .i64 d.H, .int .i64 d.T, .int .i64 d.R], .int .i64 n]) Try.func26 rfl rfl ?_
 refine hc_less _ (sx 0 rfl (sx 1 rfl (sub_nil _))) (.refl _) ?_
 refine hc_seq ?_
 refine hc_region ?_
 refine hl_box rfl rfl rfl (rq_box rfl rfl) ?_
 intro b1
 refine hl_v rfl rfl rfl (rv_ev rfl) ?_
 refine hl_less (sx 0 rfl (sx 1 rfl (sx 2 rfl (sx 4 rfl (sub_nil _))))) (.refl _) ?_
 refine hl_nil ?_
 refine hq_then ?_
 refine hc_seq ?_
 refine hc_region ?_
 refine hl_row rfl rfl rfl (rq_slice0 (s := 1) rfl Try.underlying26 (by kernel_rfl)) ?_
 intro g2
 refine hl_v rfl rfl rfl (rv_ev rfl) ?_
 refine hl_less (sx 0 rfl (sx 1 rfl (sx 2 rfl (sx 4 rfl (sx 5 rfl (sub_nil _)))))) (.refl _) ?_
 refine hl_nil ?_
 refine hq_then ?_
 refine hc_seq ?_
 refine hc_seq ?_
 refine hc_region ?_
 refine hl_v rfl rfl rfl (rv_loadN (cs := [.int .i64 d.W, .int .i64 d.H, .int .i64 d.T, .int .i64 d.R]) rfl (by kernel_rfl) (by kernel_rfl) rfl rfl (box_part 1 rfl 0 rfl)) ?_
 refine hl_v rfl rfl rfl (rv_ev rfl) ?_
 refine hl_callV rfl rfl rfl (rq_call (by kernel_rfl) rfl (fun w hm => ret_ans (specRouteNodeOk_any d _ w))) ?_
 refine hl_bool (fun h3 => ?_) (fun h3 => ?_)
 ·
  obtain ⟨hv, n0, n1⟩ := nodeOk_rng h3
  obtain ⟨p0, p1, p2, p3, p4⟩ := place_rng hv n0 n1
  obtain ⟨m1, m2⟩ := all_rng hv
  obtain ⟨q1, q2⟩ := per_rng hv
  obtain ⟨-, -, ⟨l1, l2⟩, -⟩ := (devB_iff d).1 hv
  obtain ⟨dg0, dg1, dg2, dg3⟩ := dir_rng hv p2 p3
  have hto := outPins_rng d (n / perI d)
  refine hl_v rfl rfl rfl (rv_ev rfl) ?_
  refine hl_less (sx 0 rfl (sx 1 rfl (sx 2 rfl (sx 4 rfl (sx 5 rfl (sx 18 rfl (sub_nil _))))))) (.refl _) ?_
  refine hl_nil ?_
  refine hq_then ?_
  refine hc_false rfl ?_
  refine hc_skip ?_
  refine hq_then ?_
  refine hc_seq ?_
  refine hc_region ?_
  refine hl_v rfl rfl rfl (rv_ev rfl) ?_
  refine hl_v rfl rfl rfl (rv_loadN (cs := [.int .i64 d.W, .int .i64 d.H, .int .i64 d.T, .int .i64 d.R]) rfl (by kernel_rfl) (by kernel_rfl) rfl rfl (box_part 1 rfl 0 rfl)) ?_
  refine hl_callV rfl rfl rfl (rq_call (by kernel_rfl) rfl (fun w hm => ret_ans (specPer_any d hv w))) ?_
  refine hl_v rfl rfl rfl (rv_quo rfl rfl rfl (by refine ⟨?_, ?_, ?_⟩ <;> omega)) ?_
  refine hl_v rfl rfl rfl (rv_ev rfl) ?_
  refine hl_less (sx 0 rfl (sx 1 rfl (sx 2 rfl (sx 4 rfl (sx 5 rfl (sx 6 rfl (sx 18 rfl (sub_nil _)))))))) (.refl _) ?_
  refine hl_nil ?_
  refine hq_then ?_
  refine hc_seq ?_
  refine hc_region ?_
  refine hl_v rfl rfl rfl (rv_ev rfl) ?_
  refine hl_v rfl rfl rfl (rv_loadN (cs := [.int .i64 d.W, .int .i64 d.H, .int .i64 d.T, .int .i64 d.R]) rfl (by kernel_rfl) (by kernel_rfl) rfl rfl (box_part 1 rfl 0 rfl)) ?_
  refine hl_callV rfl rfl rfl (rq_call (by kernel_rfl) rfl (fun w hm => ret_ans (specPer_any d hv w))) ?_
  refine hl_v rfl rfl rfl (rv_rem rfl rfl rfl (by constructor <;> omega)) ?_
  refine hl_v rfl rfl rfl (rv_ev rfl) ?_
  refine hl_less (sx 0 rfl (sx 1 rfl (sx 2 rfl (sx 4 rfl (sx 5 rfl (sx 6 rfl (sx 7 rfl (sx 18 rfl (sub_nil _))))))))) (.refl _) ?_
  refine hl_nil ?_
  refine hq_then ?_
  refine hc_seq ?_
  refine hc_seq ?_
  refine hc_region ?_
  refine hl_v rfl rfl rfl (rv_ev rfl) ?_
  refine hl_eql rfl rfl rfl rfl rfl rfl (fun h4 => ?_) (fun h4 => ?_)
  ·
   refine hl_v rfl rfl rfl (rv_ev rfl) ?_
   refine hl_skip rfl rfl rfl ?_
   refine hl_skip rfl rfl rfl ?_
   refine hl_v rfl rfl rfl (rv_ev rfl) ?_
   refine hl_less (sx 0 rfl (sx 1 rfl (sx 2 rfl (sx 4 rfl (sx 5 rfl (sx 6 rfl (sx 7 rfl (sx 18 rfl (sx 33 rfl (sub_nil _)))))))))) (.refl _) ?_
   refine hl_nil ?_
   refine hq_then ?_
   refine hc_true rfl ?_
   refine hc_seq ?_
   refine hc_region ?_
   refine hl_v rfl rfl rfl (rv_ev rfl) ?_
   refine hl_v rfl rfl rfl (rv_ev rfl) ?_
   refine hl_less (sx 0 rfl (sx 1 rfl (sx 2 rfl (sx 4 rfl (sx 5 rfl (sx 6 rfl (sx 7 rfl (sx 18 rfl (sx 33 rfl (sub_nil _)))))))))) (.refl _) ?_
   refine hl_nil ?_
   refine hq_then ?_
   refine hc_ret ?_
   refine hq_then_ret ?_
   exact hq_retR (post := [rowE 3 1 (.slice (some ⟨g2, 0, none⟩) 0 0) 0 ([])]) rfl rfl ((.cons_cons _ (.cons _ .slnil))) (by unfold srcS; first | rw [if_pos ⟨by assumption, by omega, by omega⟩, hy, show r = 4 by omega, hd1, hd2] | (rw [if_neg (by rintro ⟨q1, q2, q3⟩; first | omega | simp_all)]; rfl))
  ·
   refine hl_v rfl rfl rfl (rv_ev rfl) ?_
   refine hl_v rfl rfl rfl (rv_ev rfl) ?_
   refine hl_eql rfl rfl rfl rfl rfl rfl (fun h5 => ?_) (fun h5 => ?_)
   ·
    refine hl_v rfl rfl rfl (rv_ev rfl) ?_
    refine hl_less (sx 0 rfl (sx 1 rfl (sx 2 rfl (sx 4 rfl (sx 5 rfl (sx 6 rfl (sx 7 rfl (sx 18 rfl (sx 33 rfl (sub_nil _)))))))))) (.refl _) ?_
    refine hl_nil ?_
    refine hq_then ?_
    refine hc_true rfl ?_
    refine hc_seq ?_
    refine hc_region ?_
    refine hl_v rfl rfl rfl (rv_ev rfl) ?_
    refine hl_v rfl rfl rfl (rv_ev rfl) ?_
    refine hl_less (sx 0 rfl (sx 1 rfl (sx 2 rfl (sx 4 rfl (sx 5 rfl (sx 6 rfl (sx 7 rfl (sx 18 rfl (sx 33 rfl (sub_nil _)))))))))) (.refl _) ?_
    refine hl_nil ?_
    refine hq_then ?_
    refine hc_ret ?_
    refine hq_then_ret ?_
    exact hq_retR (post := [rowE 3 1 (.slice (some ⟨g2, 0, none⟩) 0 0) 0 ([])]) rfl rfl ((.cons_cons _ (.cons _ .slnil))) (by unfold srcS; first | rw [if_pos ⟨by assumption, by omega, by omega⟩, hy, show r = 4 by omega, hd1, hd2] | (rw [if_neg (by rintro ⟨q1, q2, q3⟩; first | omega | simp_all)]; rfl))
   ·
    refine hl_v rfl rfl rfl (rv_ev rfl) ?_
    refine hl_less (sx 0 rfl (sx 1 rfl (sx 2 rfl (sx 4 rfl (sx 5 rfl (sx 6 rfl (sx 7 rfl (sx 18 rfl (sx 33 rfl (sub_nil _)))))))))) (.refl _) ?_
    refine hl_nil ?_
    refine hq_then ?_
    refine hc_false rfl ?_
    refine hc_skip ?_
    refine hq_then ?_
    refine hc_seq ?_
    refine hc_region ?_
    refine hl_v rfl rfl rfl (rv_ev rfl) ?_
    refine hl_less (sx 0 rfl (sx 1 rfl (sx 2 rfl (sx 4 rfl (sx 5 rfl (sx 6 rfl (sx 7 rfl (sx 8 rfl (sx 18 rfl (sx 33 rfl (sub_nil _))))))))))) (.refl _) ?_
    refine hl_nil ?_
    refine hq_then ?_
    refine hc_seq ?_
    refine hc_region ?_
    refine hl_v rfl rfl rfl (rv_ev rfl) ?_
    refine hl_less (sx 0 rfl (sx 1 rfl (sx 2 rfl (sx 4 rfl (sx 5 rfl (sx 6 rfl (sx 7 rfl (sx 8 rfl (sx 9 rfl (sx 18 rfl (sx 33 rfl (sub_nil _)))))))))))) (.refl _) ?_
    refine hl_nil ?_
    refine hq_then ?_
    refine hc_meet4 (α := Int) (β := Int) (γ := Value) (δ := List Int) (fun dir track v xs => [rowE 3 1 v xs.length (xs.map (Value.int .i64)), boxE b1 #[.int .i64 d.W, .int .i64 d.H, .int .i64 d.T, .int .i64 d.R] 25]) (fun dir track v xs => [(0, .agg #[.int .i64 d.W, .int .i64 d.H, .int .i64 d.T, .int .i64 d.R]), (1, .int .i64 n), (2, .pointer (some ⟨b1, 0, none⟩)), (4, .slice none 0 0), (5, v), (6, .int .i64 (n / (perI d))), (7, .int .i64 (n % (perI d))), (8, .int .i64 dir), (9, .int .i64 track), (18, .bool false), (33, .bool false)]) (fun dir track v xs => dir = dirI d (n % perI d) ∧ track = trackI d (n % perI d) ∧ xs = baseS d (n / perI d) (n % perI d) ∧ xs.length ≤ 2) ?_ ?_
    ·
     refine hc_seq ?_
     refine hc_region ?_
     refine hl_v rfl rfl rfl (rv_ev rfl) ?_
     refine hl_geq rfl rfl rfl rfl rfl rfl (fun h6 => ?_) (fun h6 => ?_)
     ·
      refine hl_less (sx 0 rfl (sx 1 rfl (sx 2 rfl (sx 4 rfl (sx 5 rfl (sx 6 rfl (sx 7 rfl (sx 8 rfl (sx 9 rfl (sx 18 rfl (sx 33 rfl (sx 36 rfl (sub_nil _))))))))))))) (.refl _) ?_
      refine hl_nil ?_
      refine hq_then ?_
      refine hc_true rfl ?_
      refine hc_seq ?_
      refine hc_region ?_
      refine hl_v rfl rfl rfl (rv_loadN (cs := [.int .i64 d.W, .int .i64 d.H, .int .i64 d.T, .int .i64 d.R]) rfl (by kernel_rfl) (by kernel_rfl) rfl rfl (box_part 1 rfl 0 rfl)) ?_
      refine hl_v rfl rfl rfl (rv_ev rfl) ?_
      refine hl_callV rfl rfl rfl (rq_call (by kernel_rfl) rfl (fun w hm => ret_ans (specWire_any d _ hv n0 n1 (by omega) w))) ?_
      refine hl_v rfl rfl rfl (rv_ev rfl) ?_
      refine hl_v rfl rfl rfl (rv_ev rfl) ?_
      refine hl_v rfl rfl rfl (rv_ev rfl) ?_
      refine hl_v rfl rfl rfl (rv_ev rfl) ?_
      refine hl_v rfl rfl rfl (rv_ev rfl) ?_
      refine hl_less (sx 0 rfl (sx 1 rfl (sx 2 rfl (sx 4 rfl (sx 5 rfl (sx 6 rfl (sx 7 rfl (sx 8 rfl (sx 9 rfl (sx 18 rfl (sx 33 rfl (sx 36 rfl (sub_nil _))))))))))))) (.refl _) ?_
      refine hl_nil ?_
      refine hq_then ?_
      refine hc_seq ?_
      refine hc_region ?_
      refine hl_v rfl rfl rfl (rv_ev rfl) ?_
      refine hl_v rfl rfl rfl (rv_loadN (cs := [.int .i64 d.W, .int .i64 d.H, .int .i64 d.T, .int .i64 d.R]) rfl (by kernel_rfl) (by kernel_rfl) rfl rfl (box_part 1 rfl 0 rfl)) ?_
      refine hl_v rfl rfl rfl (rv_ev rfl) ?_
      refine hl_callV rfl rfl rfl (rq_call (by kernel_rfl) rfl (fun w hm => ret_ans (specOutPin_ans d _ _ w p4 (by omega) (by omega)))) ?_
      refine hl_row rfl rfl rfl (rq_buildSlice (z := .int .i64 0) (s := 1) (cs := ([outPinI d (n / (perI d)) 0].map (Value.int .i64))) rfl Try.underlying26 (by kernel_rfl) (by decide) rfl (by kernel_rfl) rfl) ?_
      intro g7
      refine hl_append (i := 1) (z := .int .i64 0) (bytes := 8) (n' := ([outPinI d (n / (perI d)) 0]).length) (xs' := (([outPinI d (n / (perI d)) 0]).map (Value.int .i64))) (L := fun v8 => [rowE 3 1 (.slice (some ⟨g7, 0, none⟩) 1 1) 1 ([outPinI d (n / (perI d)) 0].map (Value.int .i64)), rowE 3 1 v8 (([outPinI d (n / (perI d)) 0]).length) (([outPinI d (n / (perI d)) 0]).map (Value.int .i64)), boxE b1 #[.int .i64 d.W, .int .i64 d.H, .int .i64 d.T, .int .i64 d.R] 25]) rfl rfl rfl rfl Try.underlying26 (by kernel_rfl) (by kernel_rfl) rfl rfl rfl (rd_row 0 rfl) (ints_one _) (by simp) ((Nat.zero_add _)) ((List.nil_append _)) (fun _ => rfl) ?_
      intro v8
      refine hl_v rfl rfl rfl (rv_ev rfl) ?_
      refine hl_less (sx 0 rfl (sx 1 rfl (sx 2 rfl (sx 4 rfl (sx 5 rfl (sx 6 rfl (sx 7 rfl (sx 8 rfl (sx 9 rfl (sx 18 rfl (sx 33 rfl (sx 36 rfl (sub_nil _))))))))))))) (.refl _) ?_
      refine hl_nil ?_
      refine hq_then ?_
      refine hc_seq ?_
      refine hc_region ?_
      refine hl_v rfl rfl rfl (rv_loadN (cs := [.int .i64 d.W, .int .i64 d.H, .int .i64 d.T, .int .i64 d.R]) rfl (by kernel_rfl) (by kernel_rfl) rfl rfl (box_part 2 rfl 0 rfl)) ?_
      refine hl_v rfl rfl rfl (rv_ev rfl) ?_
      refine hl_callV rfl rfl rfl (rq_call (by kernel_rfl) rfl (fun w hm => ret_ans (specTileKind_any d _ w))) ?_
      refine hl_callV rfl rfl rfl (rq_call (by kernel_rfl) rfl (fun w hm => ret_ans (ans_of (specOutPins_any _ (by rw [tileKind_eq p4]; exact kind_cases d _) w)))) ?_
      refine hl_gtr rfl rfl rfl rfl rfl rfl (fun h9 => ?_) (fun h9 => ?_)
      ·
       refine hl_less (sx 0 rfl (sx 1 rfl (sx 2 rfl (sx 4 rfl (sx 5 rfl (sx 6 rfl (sx 7 rfl (sx 8 rfl (sx 9 rfl (sx 18 rfl (sx 33 rfl (sx 36 rfl (sx 53 rfl (sub_nil _)))))))))))))) (.refl _) ?_
       refine hl_nil ?_
       refine hq_then ?_
       refine hc_true rfl ?_
       refine hc_region ?_
       refine hl_v rfl rfl rfl (rv_ev rfl) ?_
       refine hl_v rfl rfl rfl (rv_loadN (cs := [.int .i64 d.W, .int .i64 d.H, .int .i64 d.T, .int .i64 d.R]) rfl (by kernel_rfl) (by kernel_rfl) rfl rfl (box_part 2 rfl 0 rfl)) ?_
       refine hl_v rfl rfl rfl (rv_ev rfl) ?_
       refine hl_callV rfl rfl rfl (rq_call (by kernel_rfl) rfl (fun w hm => ret_ans (specOutPin_ans d _ _ w p4 (by omega) (by omega)))) ?_
       refine hl_row rfl rfl rfl (rq_buildSlice (z := .int .i64 0) (s := 1) (cs := ([outPinI d (n / (perI d)) 1].map (Value.int .i64))) rfl Try.underlying26 (by kernel_rfl) (by decide) rfl (by kernel_rfl) rfl) ?_
       intro g10
       refine hl_append (i := 2) (z := .int .i64 0) (bytes := 8) (n' := (([outPinI d (n / (perI d)) 0]) ++ ([outPinI d (n / (perI d)) 1])).length) (xs' := ((([outPinI d (n / (perI d)) 0]) ++ ([outPinI d (n / (perI d)) 1])).map (Value.int .i64))) (L := fun v11 => [rowE 3 1 (.slice (some ⟨g10, 0, none⟩) 1 1) 1 ([outPinI d (n / (perI d)) 1].map (Value.int .i64)), rowE 3 1 (.slice (some ⟨g7, 0, none⟩) 1 1) 1 ([outPinI d (n / (perI d)) 0].map (Value.int .i64)), rowE 3 1 v11 ((([outPinI d (n / (perI d)) 0]) ++ ([outPinI d (n / (perI d)) 1])).length) ((([outPinI d (n / (perI d)) 0]) ++ ([outPinI d (n / (perI d)) 1])).map (Value.int .i64)), boxE b1 #[.int .i64 d.W, .int .i64 d.H, .int .i64 d.T, .int .i64 d.R] 25]) rfl rfl rfl rfl Try.underlying26 (by kernel_rfl) (by kernel_rfl) rfl rfl rfl (rd_row 0 rfl) (ints_one _) (by simp) (len_app ([outPinI d (n / (perI d)) 0]) ([outPinI d (n / (perI d)) 1])) (ints_app ([outPinI d (n / (perI d)) 0]) ([outPinI d (n / (perI d)) 1])) (fun _ => rfl) ?_
       intro v11
       refine hl_v rfl rfl rfl (rv_ev rfl) ?_
       refine hl_less (sx 0 rfl (sx 1 rfl (sx 2 rfl (sx 4 rfl (sx 5 rfl (sx 6 rfl (sx 7 rfl (sx 8 rfl (sx 9 rfl (sx 18 rfl (sx 33 rfl (sx 36 rfl (sx 53 rfl (sub_nil _)))))))))))))) (.refl _) ?_
       refine hl_nil ?_
       exact hq_meet4 ((n % perI d - 7) / d.T) ((n % perI d - 7) % d.T) _ (([outPinI d (n / (perI d)) 0]) ++ ([outPinI d (n / (perI d)) 1])) ⟨by unfold dirI; rw [if_pos (by omega)], by unfold trackI; rw [if_pos (by omega)], by unfold baseS; rw [if_pos (by omega)]; rw [tileKind_eq p4] at *; (first | rw [if_pos (by omega)] | rw [if_neg (by omega)]) <;> rfl, by simp⟩ (sx 0 rfl (sx 1 rfl (sx 2 rfl (sx 4 rfl (sx 5 rfl (sx 6 rfl (sx 7 rfl (sx 8 rfl (sx 9 rfl (sx 18 rfl (sx 33 rfl (sub_nil _)))))))))))) ((.cons _ (.cons _ (.cons_cons _ (.cons_cons _ .slnil)))))
      ·
       refine hl_less (sx 0 rfl (sx 1 rfl (sx 2 rfl (sx 4 rfl (sx 5 rfl (sx 6 rfl (sx 7 rfl (sx 8 rfl (sx 9 rfl (sx 18 rfl (sx 33 rfl (sx 36 rfl (sx 53 rfl (sub_nil _)))))))))))))) (.refl _) ?_
       refine hl_nil ?_
       refine hq_then ?_
       refine hc_false rfl ?_
       refine hc_skip ?_
       exact hq_meet4 ((n % perI d - 7) / d.T) ((n % perI d - 7) % d.T) _ ([outPinI d (n / (perI d)) 0]) ⟨by unfold dirI; rw [if_pos (by omega)], by unfold trackI; rw [if_pos (by omega)], by unfold baseS; rw [if_pos (by omega)]; rw [tileKind_eq p4] at *; (first | rw [if_pos (by omega)] | rw [if_neg (by omega)]) <;> rfl, by simp⟩ (sx 0 rfl (sx 1 rfl (sx 2 rfl (sx 4 rfl (sx 5 rfl (sx 6 rfl (sx 7 rfl (sx 8 rfl (sx 9 rfl (sx 18 rfl (sx 33 rfl (sub_nil _)))))))))))) ((.cons _ (.cons_cons _ (.cons_cons _ .slnil))))
     ·
      refine hl_less (sx 0 rfl (sx 1 rfl (sx 2 rfl (sx 4 rfl (sx 5 rfl (sx 6 rfl (sx 7 rfl (sx 8 rfl (sx 9 rfl (sx 18 rfl (sx 33 rfl (sx 36 rfl (sub_nil _))))))))))))) (.refl _) ?_
      refine hl_nil ?_
      refine hq_then ?_
      refine hc_false rfl ?_
      refine hc_skip ?_
      exact hq_meet4 0 0 _ ([]) ⟨by unfold dirI; rw [if_neg (by omega)], by unfold trackI; rw [if_neg (by omega)], by unfold baseS; rw [if_neg (by omega)], by simp⟩ (sx 0 rfl (sx 1 rfl (sx 2 rfl (sx 4 rfl (sx 5 rfl (sx 6 rfl (sx 7 rfl (sx 8 rfl (sx 9 rfl (sx 18 rfl (sx 33 rfl (sub_nil _)))))))))))) ((.cons_cons _ (.cons_cons _ .slnil)))
    intro dir track v xs hm12
    obtain ⟨hd1, hd2, hx, hxl⟩ := hm12
    refine hc_seq ?_
    refine hc_seq ?_
    refine hc_region ?_
    refine hl_v rfl rfl rfl (rv_ev rfl) ?_
    refine hl_less (sx 0 rfl (sx 1 rfl (sx 2 rfl (sx 4 rfl (sx 5 rfl (sx 6 rfl (sx 7 rfl (sx 8 rfl (sx 9 rfl (sx 10 rfl (sx 18 rfl (sx 33 rfl (sub_nil _))))))))))))) (.refl _) ?_
    refine hl_nil ?_
    refine hq_then ?_
    refine hc_block ?_
    refine hc_loop3 (α := Nat) (β := Value) (γ := List Int) (fun r u ys => [rowE 3 1 u ys.length (ys.map (Value.int .i64)), boxE b1 #[.int .i64 d.W, .int .i64 d.H, .int .i64 d.T, .int .i64 d.R] 25]) (fun r u ys => [(0, .agg #[.int .i64 d.W, .int .i64 d.H, .int .i64 d.T, .int .i64 d.R]), (1, .int .i64 n), (2, .pointer (some ⟨b1, 0, none⟩)), (4, .slice none 0 0), (5, u), (6, .int .i64 (n / (perI d))), (7, .int .i64 (n % (perI d))), (8, .int .i64 dir), (9, .int .i64 track), (10, .int .i64 (r : Int)), (18, .bool false), (33, .bool false)]) (fun r u ys => r ≤ 4 ∧ ys = sO d (n / perI d) (n % perI d) dir track r ∧ ys.length ≤ 2 + 8 * r) (fun r u ys => 5 - r) 0 _ xs ⟨by omega, by rw [hx]; rfl, by omega⟩ (sx 0 rfl (sx 1 rfl (sx 2 rfl (sx 4 rfl (sx 5 rfl (sx 6 rfl (sx 7 rfl (sx 8 rfl (sx 9 rfl (sx 10 rfl (sx 18 rfl (sx 33 rfl (sub_nil _))))))))))))) ((.cons_cons _ (.cons_cons _ .slnil))) ?_
    intro r u ys hi13
    obtain ⟨hr, hy, hyl⟩ := hi13
    refine hc_seq ?_
    refine hc_seq ?_
    refine hc_region ?_
    refine hl_v rfl rfl rfl (rv_ev rfl) ?_
    refine hl_lss rfl rfl rfl rfl rfl rfl (fun h14 => ?_) (fun h14 => ?_)
    ·
     refine hl_less (sx 0 rfl (sx 1 rfl (sx 2 rfl (sx 4 rfl (sx 5 rfl (sx 6 rfl (sx 7 rfl (sx 8 rfl (sx 9 rfl (sx 10 rfl (sx 18 rfl (sx 33 rfl (sx 61 rfl (sub_nil _)))))))))))))) (.refl _) ?_
     refine hl_nil ?_
     refine hq_then ?_
     refine hc_true rfl ?_
     refine hc_skip ?_
     refine hq_then ?_
     refine hc_seq ?_
     refine hc_block ?_
     refine hc_seq ?_
     refine hc_region ?_
     refine hl_v rfl rfl rfl (rv_ev rfl) ?_
     refine hl_less (sx 0 rfl (sx 1 rfl (sx 2 rfl (sx 4 rfl (sx 5 rfl (sx 6 rfl (sx 7 rfl (sx 8 rfl (sx 9 rfl (sx 10 rfl (sx 11 rfl (sx 18 rfl (sx 33 rfl (sx 61 rfl (sub_nil _))))))))))))))) (.refl _) ?_
     refine hl_nil ?_
     refine hq_then ?_
     refine hc_block ?_
     refine hc_loop3 (α := Nat) (β := Value) (γ := List Int) (fun k q zs => [rowE 3 1 q zs.length (zs.map (Value.int .i64)), boxE b1 #[.int .i64 d.W, .int .i64 d.H, .int .i64 d.T, .int .i64 d.R] 25]) (fun k q zs => [(0, .agg #[.int .i64 d.W, .int .i64 d.H, .int .i64 d.T, .int .i64 d.R]), (1, .int .i64 n), (2, .pointer (some ⟨b1, 0, none⟩)), (4, .slice none 0 0), (5, q), (6, .int .i64 (n / (perI d))), (7, .int .i64 (n % (perI d))), (8, .int .i64 dir), (9, .int .i64 track), (10, .int .i64 (r : Int)), (11, .int .i64 (k : Int)), (18, .bool false), (33, .bool false), (61, .bool true)]) (fun k q zs => (k : Int) ≤ d.T ∧ zs = sR d (n / perI d) (n % perI d) dir track r ys k ∧ zs.length ≤ ys.length + 2 * k) (fun k q zs => 5 - k) 0 _ ys ⟨by omega, rfl, by simp⟩ (sx 0 rfl (sx 1 rfl (sx 2 rfl (sx 4 rfl (sx 5 rfl (sx 6 rfl (sx 7 rfl (sx 8 rfl (sx 9 rfl (sx 10 rfl (sx 11 rfl (sx 18 rfl (sx 33 rfl (sx 61 rfl (sub_nil _))))))))))))))) ((.cons_cons _ (.cons_cons _ .slnil))) ?_
     intro k q zs hi15
     obtain ⟨hk, hz, hzl⟩ := hi15
     refine hc_seq ?_
     refine hc_seq ?_
     refine hc_region ?_
     refine hl_v rfl rfl rfl (rv_ev rfl) ?_
     refine hl_v rfl rfl rfl (rv_field (k0 := 2) rfl (by kernel_rfl) rfl) ?_
     refine hl_v rfl rfl rfl (rv_load rfl (by kernel_rfl) rfl (box_cell 1 rfl rfl)) ?_
     refine hl_lss rfl rfl rfl rfl rfl rfl (fun h16 => ?_) (fun h16 => ?_)
     ·
      refine hl_less (sx 0 rfl (sx 1 rfl (sx 2 rfl (sx 4 rfl (sx 5 rfl (sx 6 rfl (sx 7 rfl (sx 8 rfl (sx 9 rfl (sx 10 rfl (sx 11 rfl (sx 18 rfl (sx 33 rfl (sx 61 rfl (sx 67 rfl (sub_nil _)))))))))))))))) (.refl _) ?_
      refine hl_nil ?_
      refine hq_then ?_
      refine hc_true rfl ?_
      refine hc_skip ?_
      refine hq_then ?_
      refine hc_seq ?_
      refine hc_block ?_
      refine hc_meet1 (α := Unit) (fun u0 => [rowE 3 1 q zs.length (zs.map (Value.int .i64)), boxE b1 #[.int .i64 d.W, .int .i64 d.H, .int .i64 d.T, .int .i64 d.R] 25]) (fun u0 => [(0, .agg #[.int .i64 d.W, .int .i64 d.H, .int .i64 d.T, .int .i64 d.R]), (1, .int .i64 n), (2, .pointer (some ⟨b1, 0, none⟩)), (4, .slice none 0 0), (5, q), (6, .int .i64 (n / (perI d))), (7, .int .i64 (n % (perI d))), (8, .int .i64 dir), (9, .int .i64 track), (10, .int .i64 (r : Int)), (11, .int .i64 (k : Int)), (18, .bool false), (33, .bool false), (61, .bool true), (67, .bool true)]) (fun u0 => ¬ Skip d.T (n % perI d) dir track r k) ?_ ?_
      ·
       refine hc_seq ?_
       refine hc_region ?_
       refine hl_v rfl rfl rfl (rv_ev rfl) ?_
       refine hl_geq rfl rfl rfl rfl rfl rfl (fun h17 => ?_) (fun h17 => ?_)
       ·
        refine hl_v rfl rfl rfl (rv_ev rfl) ?_
        refine hl_v rfl rfl rfl (rv_ev rfl) ?_
        refine hl_v rfl rfl rfl (rv_ev rfl) ?_
        refine hl_v rfl rfl rfl (rv_add rfl rfl rfl (by constructor <;> omega)) ?_
        refine hl_v rfl rfl rfl (rv_rem rfl rfl rfl (by constructor <;> omega)) ?_
        refine hl_eql rfl rfl rfl rfl rfl rfl (fun h18 => ?_) (fun h18 => ?_)
        ·
         refine hl_v rfl rfl rfl (rv_ev rfl) ?_
         refine hl_skip rfl rfl rfl ?_
         refine hl_skip rfl rfl rfl ?_
         refine hl_skip rfl rfl rfl ?_
         refine hl_skip rfl rfl rfl ?_
         refine hl_skip rfl rfl rfl ?_
         refine hl_skip rfl rfl rfl ?_
         refine hl_skip rfl rfl rfl ?_
         refine hl_skip rfl rfl rfl ?_
         refine hl_skip rfl rfl rfl ?_
         refine hl_skip rfl rfl rfl ?_
         refine hl_skip rfl rfl rfl ?_
         refine hl_skip rfl rfl rfl ?_
         refine hl_v rfl rfl rfl (rv_ev rfl) ?_
         refine hl_v rfl rfl rfl (rv_ev rfl) ?_
         refine hl_v rfl rfl rfl (rv_ev rfl) ?_
         refine hl_skip rfl rfl rfl ?_
         refine hl_skip rfl rfl rfl ?_
         refine hl_skip rfl rfl rfl ?_
         refine hl_skip rfl rfl rfl ?_
         refine hl_skip rfl rfl rfl ?_
         refine hl_skip rfl rfl rfl ?_
         refine hl_skip rfl rfl rfl ?_
         refine hl_skip rfl rfl rfl ?_
         refine hl_skip rfl rfl rfl ?_
         refine hl_skip rfl rfl rfl ?_
         refine hl_skip rfl rfl rfl ?_
         refine hl_skip rfl rfl rfl ?_
         refine hl_skip rfl rfl rfl ?_
         refine hl_skip rfl rfl rfl ?_
         refine hl_v rfl rfl rfl (rv_ev rfl) ?_
         refine hl_less (sx 0 rfl (sx 1 rfl (sx 2 rfl (sx 4 rfl (sx 5 rfl (sx 6 rfl (sx 7 rfl (sx 8 rfl (sx 9 rfl (sx 10 rfl (sx 11 rfl (sx 18 rfl (sx 33 rfl (sx 61 rfl (sx 67 rfl (sx 108 rfl (sub_nil _))))))))))))))))) (.refl _) ?_
         refine hl_nil ?_
         refine hq_then ?_
         refine hc_true rfl ?_
         refine hc_exit ?_
         refine hq_then_exit ?_
         refine hq_block_exit ?_
         refine hq_then ?_
         refine hc_region ?_
         refine hl_v rfl rfl rfl (rv_ev rfl) ?_
         refine hl_v rfl rfl rfl (rv_add rfl rfl rfl (by constructor <;> omega)) ?_
         refine hl_v rfl rfl rfl (rv_ev rfl) ?_
         refine hl_less (sx 0 rfl (sx 1 rfl (sx 2 rfl (sx 4 rfl (sx 5 rfl (sx 6 rfl (sx 7 rfl (sx 8 rfl (sx 9 rfl (sx 10 rfl (sx 11 rfl (sx 18 rfl (sx 33 rfl (sx 61 rfl (sx 67 rfl (sx 108 rfl (sub_nil _))))))))))))))))) (.refl _) ?_
         refine hl_nil ?_
         exact hq_round3 (k + 1) _ _ ⟨by omega, by rw [sR_succ]; rw [if_pos (by unfold Skip; omega)]; exact hz, by omega⟩ (by omega) (sx 0 rfl (sx 1 rfl (sx 2 rfl (sx 4 rfl (sx 5 rfl (sx 6 rfl (sx 7 rfl (sx 8 rfl (sx 9 rfl (sx 10 rfl (sx 11 rfl (sx 18 rfl (sx 33 rfl (sx 61 rfl (sub_nil _))))))))))))))) ((.cons_cons _ (.cons_cons _ .slnil)))
        ·
         refine hl_v rfl rfl rfl (rv_ev rfl) ?_
         refine hl_v rfl rfl rfl (rv_ev rfl) ?_
         refine hl_v rfl rfl rfl (rv_ev rfl) ?_
         refine hl_neq rfl rfl rfl rfl rfl rfl (fun h19 => ?_) (fun h19 => ?_)
         ·
          refine hl_v rfl rfl rfl (rv_ev rfl) ?_
          refine hl_v rfl rfl rfl (rv_ev rfl) ?_
          refine hl_v rfl rfl rfl (rv_ev rfl) ?_
          refine hl_v rfl rfl rfl (rv_add rfl rfl rfl (by constructor <;> omega)) ?_
          refine hl_v rfl rfl rfl (rv_field (k0 := 2) rfl (by kernel_rfl) rfl) ?_
          refine hl_v rfl rfl rfl (rv_load rfl (by kernel_rfl) rfl (box_cell 1 rfl rfl)) ?_
          refine hl_v rfl rfl rfl (rv_rem rfl rfl rfl (by constructor <;> omega)) ?_
          refine hl_neq rfl rfl rfl rfl rfl rfl (fun h20 => ?_) (fun h20 => ?_)
          ·
           refine hl_v rfl rfl rfl (rv_ev rfl) ?_
           refine hl_v rfl rfl rfl (rv_ev rfl) ?_
           refine hl_v rfl rfl rfl (rv_ev rfl) ?_
           refine hl_v rfl rfl rfl (rv_ev rfl) ?_
           refine hl_skip rfl rfl rfl ?_
           refine hl_skip rfl rfl rfl ?_
           refine hl_skip rfl rfl rfl ?_
           refine hl_skip rfl rfl rfl ?_
           refine hl_skip rfl rfl rfl ?_
           refine hl_skip rfl rfl rfl ?_
           refine hl_skip rfl rfl rfl ?_
           refine hl_skip rfl rfl rfl ?_
           refine hl_skip rfl rfl rfl ?_
           refine hl_skip rfl rfl rfl ?_
           refine hl_skip rfl rfl rfl ?_
           refine hl_skip rfl rfl rfl ?_
           refine hl_skip rfl rfl rfl ?_
           refine hl_skip rfl rfl rfl ?_
           refine hl_v rfl rfl rfl (rv_ev rfl) ?_
           refine hl_less (sx 0 rfl (sx 1 rfl (sx 2 rfl (sx 4 rfl (sx 5 rfl (sx 6 rfl (sx 7 rfl (sx 8 rfl (sx 9 rfl (sx 10 rfl (sx 11 rfl (sx 18 rfl (sx 33 rfl (sx 61 rfl (sx 67 rfl (sx 108 rfl (sub_nil _))))))))))))))))) (.refl _) ?_
           refine hl_nil ?_
           refine hq_then ?_
           refine hc_true rfl ?_
           refine hc_exit ?_
           refine hq_then_exit ?_
           refine hq_block_exit ?_
           refine hq_then ?_
           refine hc_region ?_
           refine hl_v rfl rfl rfl (rv_ev rfl) ?_
           refine hl_v rfl rfl rfl (rv_add rfl rfl rfl (by constructor <;> omega)) ?_
           refine hl_v rfl rfl rfl (rv_ev rfl) ?_
           refine hl_less (sx 0 rfl (sx 1 rfl (sx 2 rfl (sx 4 rfl (sx 5 rfl (sx 6 rfl (sx 7 rfl (sx 8 rfl (sx 9 rfl (sx 10 rfl (sx 11 rfl (sx 18 rfl (sx 33 rfl (sx 61 rfl (sx 67 rfl (sx 108 rfl (sub_nil _))))))))))))))))) (.refl _) ?_
           refine hl_nil ?_
           exact hq_round3 (k + 1) _ _ ⟨by omega, by rw [sR_succ]; rw [if_pos (by unfold Skip; omega)]; exact hz, by omega⟩ (by omega) (sx 0 rfl (sx 1 rfl (sx 2 rfl (sx 4 rfl (sx 5 rfl (sx 6 rfl (sx 7 rfl (sx 8 rfl (sx 9 rfl (sx 10 rfl (sx 11 rfl (sx 18 rfl (sx 33 rfl (sx 61 rfl (sub_nil _))))))))))))))) ((.cons_cons _ (.cons_cons _ .slnil)))
          ·
           refine hl_v rfl rfl rfl (rv_ev rfl) ?_
           refine hl_v rfl rfl rfl (rv_ev rfl) ?_
           refine hl_v rfl rfl rfl (rv_ev rfl) ?_
           refine hl_v rfl rfl rfl (rv_ev rfl) ?_
           refine hl_v rfl rfl rfl (rv_ev rfl) ?_
           refine hl_lss rfl rfl rfl rfl rfl rfl (fun h21 => ?_) (fun h21 => ?_)
           ·
            refine hl_v rfl rfl rfl (rv_ev rfl) ?_
            refine hl_v rfl rfl rfl (rv_field (k0 := 2) rfl (by kernel_rfl) rfl) ?_
            refine hl_v rfl rfl rfl (rv_load rfl (by kernel_rfl) rfl (box_cell 1 rfl rfl)) ?_
            refine hl_gtr rfl rfl rfl rfl rfl rfl (fun h22 => ?_) (fun h22 => ?_)
            ·
             refine hl_v rfl rfl rfl (rv_ev rfl) ?_
             refine hl_v rfl rfl rfl (rv_ev rfl) ?_
             refine hl_v rfl rfl rfl (rv_ev rfl) ?_
             refine hl_v rfl rfl rfl (rv_ev rfl) ?_
             refine hl_v rfl rfl rfl (rv_add rfl rfl rfl (by constructor <;> omega)) ?_
             refine hl_v rfl rfl rfl (rv_rem rfl rfl rfl (by constructor <;> omega)) ?_
             refine hl_eql rfl rfl rfl rfl rfl rfl (fun h23 => ?_) (fun h23 => ?_)
             ·
              refine hl_v rfl rfl rfl (rv_ev rfl) ?_
              refine hl_v rfl rfl rfl (rv_ev rfl) ?_
              refine hl_less (sx 0 rfl (sx 1 rfl (sx 2 rfl (sx 4 rfl (sx 5 rfl (sx 6 rfl (sx 7 rfl (sx 8 rfl (sx 9 rfl (sx 10 rfl (sx 11 rfl (sx 18 rfl (sx 33 rfl (sx 61 rfl (sx 67 rfl (sx 108 rfl (sub_nil _))))))))))))))))) (.refl _) ?_
              refine hl_nil ?_
              refine hq_then ?_
              refine hc_true rfl ?_
              refine hc_exit ?_
              refine hq_then_exit ?_
              refine hq_block_exit ?_
              refine hq_then ?_
              refine hc_region ?_
              refine hl_v rfl rfl rfl (rv_ev rfl) ?_
              refine hl_v rfl rfl rfl (rv_add rfl rfl rfl (by constructor <;> omega)) ?_
              refine hl_v rfl rfl rfl (rv_ev rfl) ?_
              refine hl_less (sx 0 rfl (sx 1 rfl (sx 2 rfl (sx 4 rfl (sx 5 rfl (sx 6 rfl (sx 7 rfl (sx 8 rfl (sx 9 rfl (sx 10 rfl (sx 11 rfl (sx 18 rfl (sx 33 rfl (sx 61 rfl (sx 67 rfl (sx 108 rfl (sub_nil _))))))))))))))))) (.refl _) ?_
              refine hl_nil ?_
              exact hq_round3 (k + 1) _ _ ⟨by omega, by rw [sR_succ]; rw [if_pos (by unfold Skip; omega)]; exact hz, by omega⟩ (by omega) (sx 0 rfl (sx 1 rfl (sx 2 rfl (sx 4 rfl (sx 5 rfl (sx 6 rfl (sx 7 rfl (sx 8 rfl (sx 9 rfl (sx 10 rfl (sx 11 rfl (sx 18 rfl (sx 33 rfl (sx 61 rfl (sub_nil _))))))))))))))) ((.cons_cons _ (.cons_cons _ .slnil)))
             ·
              refine hl_v rfl rfl rfl (rv_ev rfl) ?_
              refine hl_v rfl rfl rfl (rv_ev rfl) ?_
              refine hl_less (sx 0 rfl (sx 1 rfl (sx 2 rfl (sx 4 rfl (sx 5 rfl (sx 6 rfl (sx 7 rfl (sx 8 rfl (sx 9 rfl (sx 10 rfl (sx 11 rfl (sx 18 rfl (sx 33 rfl (sx 61 rfl (sx 67 rfl (sx 108 rfl (sub_nil _))))))))))))))))) (.refl _) ?_
              refine hl_nil ?_
              refine hq_then ?_
              refine hc_false rfl ?_
              refine hc_skip ?_
              exact hq_meet1 () (by unfold Skip; omega) (sx 0 rfl (sx 1 rfl (sx 2 rfl (sx 4 rfl (sx 5 rfl (sx 6 rfl (sx 7 rfl (sx 8 rfl (sx 9 rfl (sx 10 rfl (sx 11 rfl (sx 18 rfl (sx 33 rfl (sx 61 rfl (sx 67 rfl (sub_nil _)))))))))))))))) ((.cons_cons _ (.cons_cons _ .slnil)))
            ·
             refine hl_v rfl rfl rfl (rv_ev rfl) ?_
             refine hl_v rfl rfl rfl (rv_ev rfl) ?_
             refine hl_skip rfl rfl rfl ?_
             refine hl_skip rfl rfl rfl ?_
             refine hl_skip rfl rfl rfl ?_
             refine hl_skip rfl rfl rfl ?_
             refine hl_skip rfl rfl rfl ?_
             refine hl_v rfl rfl rfl (rv_ev rfl) ?_
             refine hl_v rfl rfl rfl (rv_ev rfl) ?_
             refine hl_less (sx 0 rfl (sx 1 rfl (sx 2 rfl (sx 4 rfl (sx 5 rfl (sx 6 rfl (sx 7 rfl (sx 8 rfl (sx 9 rfl (sx 10 rfl (sx 11 rfl (sx 18 rfl (sx 33 rfl (sx 61 rfl (sx 67 rfl (sx 108 rfl (sub_nil _))))))))))))))))) (.refl _) ?_
             refine hl_nil ?_
             refine hq_then ?_
             refine hc_false rfl ?_
             refine hc_skip ?_
             exact hq_meet1 () (by unfold Skip; omega) (sx 0 rfl (sx 1 rfl (sx 2 rfl (sx 4 rfl (sx 5 rfl (sx 6 rfl (sx 7 rfl (sx 8 rfl (sx 9 rfl (sx 10 rfl (sx 11 rfl (sx 18 rfl (sx 33 rfl (sx 61 rfl (sx 67 rfl (sub_nil _)))))))))))))))) ((.cons_cons _ (.cons_cons _ .slnil)))
           ·
            refine hl_v rfl rfl rfl (rv_ev rfl) ?_
            refine hl_skip rfl rfl rfl ?_
            refine hl_skip rfl rfl rfl ?_
            refine hl_skip rfl rfl rfl ?_
            refine hl_v rfl rfl rfl (rv_ev rfl) ?_
            refine hl_v rfl rfl rfl (rv_ev rfl) ?_
            refine hl_skip rfl rfl rfl ?_
            refine hl_skip rfl rfl rfl ?_
            refine hl_skip rfl rfl rfl ?_
            refine hl_skip rfl rfl rfl ?_
            refine hl_skip rfl rfl rfl ?_
            refine hl_v rfl rfl rfl (rv_ev rfl) ?_
            refine hl_v rfl rfl rfl (rv_ev rfl) ?_
            refine hl_less (sx 0 rfl (sx 1 rfl (sx 2 rfl (sx 4 rfl (sx 5 rfl (sx 6 rfl (sx 7 rfl (sx 8 rfl (sx 9 rfl (sx 10 rfl (sx 11 rfl (sx 18 rfl (sx 33 rfl (sx 61 rfl (sx 67 rfl (sx 108 rfl (sub_nil _))))))))))))))))) (.refl _) ?_
            refine hl_nil ?_
            refine hq_then ?_
            refine hc_false rfl ?_
            refine hc_skip ?_
            exact hq_meet1 () (by unfold Skip; omega) (sx 0 rfl (sx 1 rfl (sx 2 rfl (sx 4 rfl (sx 5 rfl (sx 6 rfl (sx 7 rfl (sx 8 rfl (sx 9 rfl (sx 10 rfl (sx 11 rfl (sx 18 rfl (sx 33 rfl (sx 61 rfl (sx 67 rfl (sub_nil _)))))))))))))))) ((.cons_cons _ (.cons_cons _ .slnil)))
         ·
          refine hl_v rfl rfl rfl (rv_ev rfl) ?_
          refine hl_skip rfl rfl rfl ?_
          refine hl_skip rfl rfl rfl ?_
          refine hl_skip rfl rfl rfl ?_
          refine hl_skip rfl rfl rfl ?_
          refine hl_skip rfl rfl rfl ?_
          refine hl_skip rfl rfl rfl ?_
          refine hl_skip rfl rfl rfl ?_
          refine hl_v rfl rfl rfl (rv_ev rfl) ?_
          refine hl_v rfl rfl rfl (rv_ev rfl) ?_
          refine hl_v rfl rfl rfl (rv_ev rfl) ?_
          refine hl_v rfl rfl rfl (rv_ev rfl) ?_
          refine hl_v rfl rfl rfl (rv_ev rfl) ?_
          refine hl_lss rfl rfl rfl rfl rfl rfl (fun h24 => ?_) (fun h24 => ?_)
          ·
           refine hl_v rfl rfl rfl (rv_ev rfl) ?_
           refine hl_v rfl rfl rfl (rv_field (k0 := 2) rfl (by kernel_rfl) rfl) ?_
           refine hl_v rfl rfl rfl (rv_load rfl (by kernel_rfl) rfl (box_cell 1 rfl rfl)) ?_
           refine hl_gtr rfl rfl rfl rfl rfl rfl (fun h25 => ?_) (fun h25 => ?_)
           ·
            refine hl_v rfl rfl rfl (rv_ev rfl) ?_
            refine hl_v rfl rfl rfl (rv_ev rfl) ?_
            refine hl_v rfl rfl rfl (rv_ev rfl) ?_
            refine hl_v rfl rfl rfl (rv_ev rfl) ?_
            refine hl_v rfl rfl rfl (rv_add rfl rfl rfl (by constructor <;> omega)) ?_
            refine hl_v rfl rfl rfl (rv_rem rfl rfl rfl (by constructor <;> omega)) ?_
            refine hl_eql rfl rfl rfl rfl rfl rfl (fun h26 => ?_) (fun h26 => ?_)
            ·
             refine hl_v rfl rfl rfl (rv_ev rfl) ?_
             refine hl_v rfl rfl rfl (rv_ev rfl) ?_
             refine hl_less (sx 0 rfl (sx 1 rfl (sx 2 rfl (sx 4 rfl (sx 5 rfl (sx 6 rfl (sx 7 rfl (sx 8 rfl (sx 9 rfl (sx 10 rfl (sx 11 rfl (sx 18 rfl (sx 33 rfl (sx 61 rfl (sx 67 rfl (sx 108 rfl (sub_nil _))))))))))))))))) (.refl _) ?_
             refine hl_nil ?_
             refine hq_then ?_
             refine hc_true rfl ?_
             refine hc_exit ?_
             refine hq_then_exit ?_
             refine hq_block_exit ?_
             refine hq_then ?_
             refine hc_region ?_
             refine hl_v rfl rfl rfl (rv_ev rfl) ?_
             refine hl_v rfl rfl rfl (rv_add rfl rfl rfl (by constructor <;> omega)) ?_
             refine hl_v rfl rfl rfl (rv_ev rfl) ?_
             refine hl_less (sx 0 rfl (sx 1 rfl (sx 2 rfl (sx 4 rfl (sx 5 rfl (sx 6 rfl (sx 7 rfl (sx 8 rfl (sx 9 rfl (sx 10 rfl (sx 11 rfl (sx 18 rfl (sx 33 rfl (sx 61 rfl (sx 67 rfl (sx 108 rfl (sub_nil _))))))))))))))))) (.refl _) ?_
             refine hl_nil ?_
             exact hq_round3 (k + 1) _ _ ⟨by omega, by rw [sR_succ]; rw [if_pos (by unfold Skip; omega)]; exact hz, by omega⟩ (by omega) (sx 0 rfl (sx 1 rfl (sx 2 rfl (sx 4 rfl (sx 5 rfl (sx 6 rfl (sx 7 rfl (sx 8 rfl (sx 9 rfl (sx 10 rfl (sx 11 rfl (sx 18 rfl (sx 33 rfl (sx 61 rfl (sub_nil _))))))))))))))) ((.cons_cons _ (.cons_cons _ .slnil)))
            ·
             refine hl_v rfl rfl rfl (rv_ev rfl) ?_
             refine hl_v rfl rfl rfl (rv_ev rfl) ?_
             refine hl_less (sx 0 rfl (sx 1 rfl (sx 2 rfl (sx 4 rfl (sx 5 rfl (sx 6 rfl (sx 7 rfl (sx 8 rfl (sx 9 rfl (sx 10 rfl (sx 11 rfl (sx 18 rfl (sx 33 rfl (sx 61 rfl (sx 67 rfl (sx 108 rfl (sub_nil _))))))))))))))))) (.refl _) ?_
             refine hl_nil ?_
             refine hq_then ?_
             refine hc_false rfl ?_
             refine hc_skip ?_
             exact hq_meet1 () (by unfold Skip; omega) (sx 0 rfl (sx 1 rfl (sx 2 rfl (sx 4 rfl (sx 5 rfl (sx 6 rfl (sx 7 rfl (sx 8 rfl (sx 9 rfl (sx 10 rfl (sx 11 rfl (sx 18 rfl (sx 33 rfl (sx 61 rfl (sx 67 rfl (sub_nil _)))))))))))))))) ((.cons_cons _ (.cons_cons _ .slnil)))
           ·
            refine hl_v rfl rfl rfl (rv_ev rfl) ?_
            refine hl_v rfl rfl rfl (rv_ev rfl) ?_
            refine hl_skip rfl rfl rfl ?_
            refine hl_skip rfl rfl rfl ?_
            refine hl_skip rfl rfl rfl ?_
            refine hl_skip rfl rfl rfl ?_
            refine hl_skip rfl rfl rfl ?_
            refine hl_v rfl rfl rfl (rv_ev rfl) ?_
            refine hl_v rfl rfl rfl (rv_ev rfl) ?_
            refine hl_less (sx 0 rfl (sx 1 rfl (sx 2 rfl (sx 4 rfl (sx 5 rfl (sx 6 rfl (sx 7 rfl (sx 8 rfl (sx 9 rfl (sx 10 rfl (sx 11 rfl (sx 18 rfl (sx 33 rfl (sx 61 rfl (sx 67 rfl (sx 108 rfl (sub_nil _))))))))))))))))) (.refl _) ?_
            refine hl_nil ?_
            refine hq_then ?_
            refine hc_false rfl ?_
            refine hc_skip ?_
            exact hq_meet1 () (by unfold Skip; omega) (sx 0 rfl (sx 1 rfl (sx 2 rfl (sx 4 rfl (sx 5 rfl (sx 6 rfl (sx 7 rfl (sx 8 rfl (sx 9 rfl (sx 10 rfl (sx 11 rfl (sx 18 rfl (sx 33 rfl (sx 61 rfl (sx 67 rfl (sub_nil _)))))))))))))))) ((.cons_cons _ (.cons_cons _ .slnil)))
          ·
           refine hl_v rfl rfl rfl (rv_ev rfl) ?_
           refine hl_skip rfl rfl rfl ?_
           refine hl_skip rfl rfl rfl ?_
           refine hl_skip rfl rfl rfl ?_
           refine hl_v rfl rfl rfl (rv_ev rfl) ?_
           refine hl_v rfl rfl rfl (rv_ev rfl) ?_
           refine hl_skip rfl rfl rfl ?_
           refine hl_skip rfl rfl rfl ?_
           refine hl_skip rfl rfl rfl ?_
           refine hl_skip rfl rfl rfl ?_
           refine hl_skip rfl rfl rfl ?_
           refine hl_v rfl rfl rfl (rv_ev rfl) ?_
           refine hl_v rfl rfl rfl (rv_ev rfl) ?_
           refine hl_less (sx 0 rfl (sx 1 rfl (sx 2 rfl (sx 4 rfl (sx 5 rfl (sx 6 rfl (sx 7 rfl (sx 8 rfl (sx 9 rfl (sx 10 rfl (sx 11 rfl (sx 18 rfl (sx 33 rfl (sx 61 rfl (sx 67 rfl (sx 108 rfl (sub_nil _))))))))))))))))) (.refl _) ?_
           refine hl_nil ?_
           refine hq_then ?_
           refine hc_false rfl ?_
           refine hc_skip ?_
           exact hq_meet1 () (by unfold Skip; omega) (sx 0 rfl (sx 1 rfl (sx 2 rfl (sx 4 rfl (sx 5 rfl (sx 6 rfl (sx 7 rfl (sx 8 rfl (sx 9 rfl (sx 10 rfl (sx 11 rfl (sx 18 rfl (sx 33 rfl (sx 61 rfl (sx 67 rfl (sub_nil _)))))))))))))))) ((.cons_cons _ (.cons_cons _ .slnil)))
       ·
        refine hl_v rfl rfl rfl (rv_ev rfl) ?_
        refine hl_skip rfl rfl rfl ?_
        refine hl_skip rfl rfl rfl ?_
        refine hl_skip rfl rfl rfl ?_
        refine hl_skip rfl rfl rfl ?_
        refine hl_skip rfl rfl rfl ?_
        refine hl_skip rfl rfl rfl ?_
        refine hl_skip rfl rfl rfl ?_
        refine hl_skip rfl rfl rfl ?_
        refine hl_skip rfl rfl rfl ?_
        refine hl_skip rfl rfl rfl ?_
        refine hl_skip rfl rfl rfl ?_
        refine hl_skip rfl rfl rfl ?_
        refine hl_skip rfl rfl rfl ?_
        refine hl_skip rfl rfl rfl ?_
        refine hl_skip rfl rfl rfl ?_
        refine hl_skip rfl rfl rfl ?_
        refine hl_skip rfl rfl rfl ?_
        refine hl_skip rfl rfl rfl ?_
        refine hl_skip rfl rfl rfl ?_
        refine hl_v rfl rfl rfl (rv_ev rfl) ?_
        refine hl_v rfl rfl rfl (rv_ev rfl) ?_
        refine hl_v rfl rfl rfl (rv_ev rfl) ?_
        refine hl_lss rfl rfl rfl rfl rfl rfl (fun h27 => ?_) (fun h27 => ?_)
        ·
         refine hl_v rfl rfl rfl (rv_ev rfl) ?_
         refine hl_v rfl rfl rfl (rv_field (k0 := 2) rfl (by kernel_rfl) rfl) ?_
         refine hl_v rfl rfl rfl (rv_load rfl (by kernel_rfl) rfl (box_cell 1 rfl rfl)) ?_
         refine hl_gtr rfl rfl rfl rfl rfl rfl (fun h28 => ?_) (fun h28 => ?_)
         ·
          refine hl_v rfl rfl rfl (rv_ev rfl) ?_
          refine hl_v rfl rfl rfl (rv_ev rfl) ?_
          refine hl_v rfl rfl rfl (rv_ev rfl) ?_
          refine hl_v rfl rfl rfl (rv_ev rfl) ?_
          refine hl_v rfl rfl rfl (rv_add rfl rfl rfl (by constructor <;> omega)) ?_
          refine hl_v rfl rfl rfl (rv_rem rfl rfl rfl (by constructor <;> omega)) ?_
          refine hl_eql rfl rfl rfl rfl rfl rfl (fun h29 => ?_) (fun h29 => ?_)
          ·
           refine hl_v rfl rfl rfl (rv_ev rfl) ?_
           refine hl_v rfl rfl rfl (rv_ev rfl) ?_
           refine hl_less (sx 0 rfl (sx 1 rfl (sx 2 rfl (sx 4 rfl (sx 5 rfl (sx 6 rfl (sx 7 rfl (sx 8 rfl (sx 9 rfl (sx 10 rfl (sx 11 rfl (sx 18 rfl (sx 33 rfl (sx 61 rfl (sx 67 rfl (sx 108 rfl (sub_nil _))))))))))))))))) (.refl _) ?_
           refine hl_nil ?_
           refine hq_then ?_
           refine hc_true rfl ?_
           refine hc_exit ?_
           refine hq_then_exit ?_
           refine hq_block_exit ?_
           refine hq_then ?_
           refine hc_region ?_
           refine hl_v rfl rfl rfl (rv_ev rfl) ?_
           refine hl_v rfl rfl rfl (rv_add rfl rfl rfl (by constructor <;> omega)) ?_
           refine hl_v rfl rfl rfl (rv_ev rfl) ?_
           refine hl_less (sx 0 rfl (sx 1 rfl (sx 2 rfl (sx 4 rfl (sx 5 rfl (sx 6 rfl (sx 7 rfl (sx 8 rfl (sx 9 rfl (sx 10 rfl (sx 11 rfl (sx 18 rfl (sx 33 rfl (sx 61 rfl (sx 67 rfl (sx 108 rfl (sub_nil _))))))))))))))))) (.refl _) ?_
           refine hl_nil ?_
           exact hq_round3 (k + 1) _ _ ⟨by omega, by rw [sR_succ]; rw [if_pos (by unfold Skip; omega)]; exact hz, by omega⟩ (by omega) (sx 0 rfl (sx 1 rfl (sx 2 rfl (sx 4 rfl (sx 5 rfl (sx 6 rfl (sx 7 rfl (sx 8 rfl (sx 9 rfl (sx 10 rfl (sx 11 rfl (sx 18 rfl (sx 33 rfl (sx 61 rfl (sub_nil _))))))))))))))) ((.cons_cons _ (.cons_cons _ .slnil)))
          ·
           refine hl_v rfl rfl rfl (rv_ev rfl) ?_
           refine hl_v rfl rfl rfl (rv_ev rfl) ?_
           refine hl_less (sx 0 rfl (sx 1 rfl (sx 2 rfl (sx 4 rfl (sx 5 rfl (sx 6 rfl (sx 7 rfl (sx 8 rfl (sx 9 rfl (sx 10 rfl (sx 11 rfl (sx 18 rfl (sx 33 rfl (sx 61 rfl (sx 67 rfl (sx 108 rfl (sub_nil _))))))))))))))))) (.refl _) ?_
           refine hl_nil ?_
           refine hq_then ?_
           refine hc_false rfl ?_
           refine hc_skip ?_
           exact hq_meet1 () (by unfold Skip; omega) (sx 0 rfl (sx 1 rfl (sx 2 rfl (sx 4 rfl (sx 5 rfl (sx 6 rfl (sx 7 rfl (sx 8 rfl (sx 9 rfl (sx 10 rfl (sx 11 rfl (sx 18 rfl (sx 33 rfl (sx 61 rfl (sx 67 rfl (sub_nil _)))))))))))))))) ((.cons_cons _ (.cons_cons _ .slnil)))
         ·
          refine hl_v rfl rfl rfl (rv_ev rfl) ?_
          refine hl_v rfl rfl rfl (rv_ev rfl) ?_
          refine hl_skip rfl rfl rfl ?_
          refine hl_skip rfl rfl rfl ?_
          refine hl_skip rfl rfl rfl ?_
          refine hl_skip rfl rfl rfl ?_
          refine hl_skip rfl rfl rfl ?_
          refine hl_v rfl rfl rfl (rv_ev rfl) ?_
          refine hl_v rfl rfl rfl (rv_ev rfl) ?_
          refine hl_less (sx 0 rfl (sx 1 rfl (sx 2 rfl (sx 4 rfl (sx 5 rfl (sx 6 rfl (sx 7 rfl (sx 8 rfl (sx 9 rfl (sx 10 rfl (sx 11 rfl (sx 18 rfl (sx 33 rfl (sx 61 rfl (sx 67 rfl (sx 108 rfl (sub_nil _))))))))))))))))) (.refl _) ?_
          refine hl_nil ?_
          refine hq_then ?_
          refine hc_false rfl ?_
          refine hc_skip ?_
          exact hq_meet1 () (by unfold Skip; omega) (sx 0 rfl (sx 1 rfl (sx 2 rfl (sx 4 rfl (sx 5 rfl (sx 6 rfl (sx 7 rfl (sx 8 rfl (sx 9 rfl (sx 10 rfl (sx 11 rfl (sx 18 rfl (sx 33 rfl (sx 61 rfl (sx 67 rfl (sub_nil _)))))))))))))))) ((.cons_cons _ (.cons_cons _ .slnil)))
        ·
         refine hl_v rfl rfl rfl (rv_ev rfl) ?_
         refine hl_skip rfl rfl rfl ?_
         refine hl_skip rfl rfl rfl ?_
         refine hl_skip rfl rfl rfl ?_
         refine hl_v rfl rfl rfl (rv_ev rfl) ?_
         refine hl_v rfl rfl rfl (rv_ev rfl) ?_
         refine hl_skip rfl rfl rfl ?_
         refine hl_skip rfl rfl rfl ?_
         refine hl_skip rfl rfl rfl ?_
         refine hl_skip rfl rfl rfl ?_
         refine hl_skip rfl rfl rfl ?_
         refine hl_v rfl rfl rfl (rv_ev rfl) ?_
         refine hl_v rfl rfl rfl (rv_ev rfl) ?_
         refine hl_less (sx 0 rfl (sx 1 rfl (sx 2 rfl (sx 4 rfl (sx 5 rfl (sx 6 rfl (sx 7 rfl (sx 8 rfl (sx 9 rfl (sx 10 rfl (sx 11 rfl (sx 18 rfl (sx 33 rfl (sx 61 rfl (sx 67 rfl (sx 108 rfl (sub_nil _))))))))))))))))) (.refl _) ?_
         refine hl_nil ?_
         refine hq_then ?_
         refine hc_false rfl ?_
         refine hc_skip ?_
         exact hq_meet1 () (by unfold Skip; omega) (sx 0 rfl (sx 1 rfl (sx 2 rfl (sx 4 rfl (sx 5 rfl (sx 6 rfl (sx 7 rfl (sx 8 rfl (sx 9 rfl (sx 10 rfl (sx 11 rfl (sx 18 rfl (sx 33 rfl (sx 61 rfl (sx 67 rfl (sub_nil _)))))))))))))))) ((.cons_cons _ (.cons_cons _ .slnil)))
      intro u0 hm30
      have hskip := hm30
      refine hc_seq ?_
      refine hc_region ?_
      refine hl_v rfl rfl rfl (rv_ev rfl) ?_
      refine hl_less (sx 0 rfl (sx 1 rfl (sx 2 rfl (sx 4 rfl (sx 5 rfl (sx 6 rfl (sx 7 rfl (sx 8 rfl (sx 9 rfl (sx 10 rfl (sx 11 rfl (sx 12 rfl (sx 18 rfl (sx 33 rfl (sx 61 rfl (sx 67 rfl (sub_nil _))))))))))))))))) (.refl _) ?_
      refine hl_nil ?_
      refine hq_then ?_
      refine hc_block ?_
      refine hc_loop3 (α := Nat) (β := Value) (γ := List Int) (fun j b cs => [rowE 3 1 b cs.length (cs.map (Value.int .i64)), boxE b1 #[.int .i64 d.W, .int .i64 d.H, .int .i64 d.T, .int .i64 d.R] 25]) (fun j b cs => [(0, .agg #[.int .i64 d.W, .int .i64 d.H, .int .i64 d.T, .int .i64 d.R]), (1, .int .i64 n), (2, .pointer (some ⟨b1, 0, none⟩)), (4, .slice none 0 0), (5, b), (6, .int .i64 (n / (perI d))), (7, .int .i64 (n % (perI d))), (8, .int .i64 dir), (9, .int .i64 track), (10, .int .i64 (r : Int)), (11, .int .i64 (k : Int)), (12, .int .i64 ((j : Int) + 1)), (18, .bool false), (33, .bool false), (61, .bool true), (67, .bool true)]) (fun j b cs => j ≤ 1 + k % 2 ∧ cs = sK d (n / perI d) (n % perI d) r k zs j ∧ cs.length ≤ zs.length + j) (fun j b cs => 3 - j) 0 _ zs ⟨by omega, rfl, by simp⟩ (sx 0 rfl (sx 1 rfl (sx 2 rfl (sx 4 rfl (sx 5 rfl (sx 6 rfl (sx 7 rfl (sx 8 rfl (sx 9 rfl (sx 10 rfl (sx 11 rfl (sx 12 rfl (sx 18 rfl (sx 33 rfl (sx 61 rfl (sx 67 rfl (sub_nil _))))))))))))))))) ((.cons_cons _ (.cons_cons _ .slnil))) ?_
      intro j b cs hi31
      obtain ⟨hj, ha, hal⟩ := hi31
      refine hc_seq ?_
      refine hc_seq ?_
      refine hc_region ?_
      refine hl_v rfl rfl rfl (rv_ev rfl) ?_
      refine hl_v rfl rfl rfl (rv_ev rfl) ?_
      refine hl_v rfl rfl rfl (rv_rem rfl rfl rfl (by constructor <;> omega)) ?_
      refine hl_v rfl rfl rfl (rv_add rfl rfl rfl (by constructor <;> omega)) ?_
      refine hl_leq rfl rfl rfl rfl rfl rfl (fun h32 => ?_) (fun h32 => ?_)
      ·
       refine hl_less (sx 0 rfl (sx 1 rfl (sx 2 rfl (sx 4 rfl (sx 5 rfl (sx 6 rfl (sx 7 rfl (sx 8 rfl (sx 9 rfl (sx 10 rfl (sx 11 rfl (sx 12 rfl (sx 18 rfl (sx 33 rfl (sx 61 rfl (sx 67 rfl (sx 113 rfl (sub_nil _)))))))))))))))))) (.refl _) ?_
       refine hl_nil ?_
       refine hq_then ?_
       refine hc_true rfl ?_
       refine hc_skip ?_
       refine hq_then ?_
       refine hc_seq ?_
       refine hc_block ?_
       refine hc_seq ?_
       refine hc_seq ?_
       refine hc_region ?_
       refine hl_v rfl rfl rfl (rv_ev rfl) ?_
       refine hl_geq rfl rfl rfl rfl rfl rfl (fun h33 => ?_) (fun h33 => ?_)
       ·
        refine hl_v rfl rfl rfl (rv_ev rfl) ?_
        refine hl_v rfl rfl rfl (rv_ev rfl) ?_
        refine hl_v rfl rfl rfl (rv_ev rfl) ?_
        refine hl_v rfl rfl rfl (rv_rem rfl rfl rfl (by constructor <;> omega)) ?_
        refine hl_v rfl rfl rfl (rv_add rfl rfl rfl (by constructor <;> omega)) ?_
        refine hl_lss rfl rfl rfl rfl rfl rfl (fun h34 => ?_) (fun h34 => ?_)
        ·
         refine hl_v rfl rfl rfl (rv_ev rfl) ?_
         refine hl_less (sx 0 rfl (sx 1 rfl (sx 2 rfl (sx 4 rfl (sx 5 rfl (sx 6 rfl (sx 7 rfl (sx 8 rfl (sx 9 rfl (sx 10 rfl (sx 11 rfl (sx 12 rfl (sx 18 rfl (sx 33 rfl (sx 61 rfl (sx 67 rfl (sx 113 rfl (sx 124 rfl (sub_nil _))))))))))))))))))) (.refl _) ?_
         refine hl_nil ?_
         refine hq_then ?_
         refine hc_true rfl ?_
         refine hc_exit ?_
         refine hq_then_exit ?_
         refine hq_block_exit ?_
         refine hq_then ?_
         refine hc_region ?_
         refine hl_v rfl rfl rfl (rv_ev rfl) ?_
         refine hl_v rfl rfl rfl (rv_add rfl rfl rfl (by constructor <;> omega)) ?_
         refine hl_v rfl rfl rfl (rv_ev rfl) ?_
         refine hl_less (sx 0 rfl (sx 1 rfl (sx 2 rfl (sx 4 rfl (sx 5 rfl (sx 6 rfl (sx 7 rfl (sx 8 rfl (sx 9 rfl (sx 10 rfl (sx 11 rfl (sx 12 rfl (sx 18 rfl (sx 33 rfl (sx 61 rfl (sx 67 rfl (sx 113 rfl (sx 124 rfl (sub_nil _))))))))))))))))))) (.refl _) ?_
         refine hl_nil ?_
         exact hq_round3 (j + 1) _ _ ⟨by omega, by rw [sK_succ, ← ha]; unfold sS; first | rw [if_pos (by omega)] | rw [if_neg (by omega), if_pos (by assumption)] | rw [if_neg (by omega), if_neg (by omega)], by first | omega | (simp; omega)⟩ (by omega) (sx 0 rfl (sx 1 rfl (sx 2 rfl (sx 4 rfl (sx 5 rfl (sx 6 rfl (sx 7 rfl (sx 8 rfl (sx 9 rfl (sx 10 rfl (sx 11 rfl (sx 12 rfl (sx 18 rfl (sx 33 rfl (sx 61 rfl (sx 67 rfl (sub_nil _))))))))))))))))) ((.cons_cons _ (.cons_cons _ .slnil)))
        ·
         refine hl_v rfl rfl rfl (rv_ev rfl) ?_
         refine hl_less (sx 0 rfl (sx 1 rfl (sx 2 rfl (sx 4 rfl (sx 5 rfl (sx 6 rfl (sx 7 rfl (sx 8 rfl (sx 9 rfl (sx 10 rfl (sx 11 rfl (sx 12 rfl (sx 18 rfl (sx 33 rfl (sx 61 rfl (sx 67 rfl (sx 113 rfl (sx 124 rfl (sub_nil _))))))))))))))))))) (.refl _) ?_
         refine hl_nil ?_
         refine hq_then ?_
         refine hc_false rfl ?_
         refine hc_skip ?_
         refine hq_then ?_
         refine hc_seq ?_
         refine hc_draw (by kernel_rfl) 11 [0, 1, 2, 3, 4, 5, 6, 7, 8, 9, 10] (List.take 11 _) (List.drop 11 _) [[], [], [], [], [3], [4], [], [1, 2, 5, 6], [], [], [0, 7, 8, 9]] [125, 126, 127, 128, 129, 130, 131, 132, 133, 134, 135] (fun i_ vs_ v_ p_ => match i_ with | 0 => v_ = .agg #[.int .i64 d.W, .int .i64 d.H, .int .i64 d.T, .int .i64 d.R] ∧ p_ = [] | 1 => v_ = .agg #[.int .i64 d.W, .int .i64 d.H, .int .i64 d.T, .int .i64 d.R] ∧ p_ = [] | 2 => v_ = .int .i64 (n / (perI d)) ∧ p_ = [] | 3 => v_ = .int .i64 (r : Int) ∧ p_ = [] | 4 => v_ = .int .i64 ((r : Int) + 2) ∧ p_ = [] | 5 => v_ = .int .i64 (((r : Int) + 2) % 4) ∧ p_ = [] | 6 => v_ = .int .i64 ((j : Int) + 1) ∧ p_ = [] | 7 => v_ = .int .i64 (tileStepI d (n / (perI d)) (((r : Int) + 2) % 4) ((j : Int) + 1)) ∧ p_ = [] | 8 => v_ = .int .i64 (r : Int) ∧ p_ = [] | 9 => v_ = .int .i64 (k : Int) ∧ p_ = [] | 10 => v_ = .int .i64 (wireNodeS d (tileStepI d (n / (perI d)) (((r : Int) + 2) % 4) ((j : Int) + 1)) (r : Int) (k : Int)) ∧ p_ = [] | _ => True) (List.take_append_drop 11 _).symm (by kernel_rfl) (by kernel_rfl) rfl rfl ?_ ?_
         ·
          refine ⟨?_, ?_, ?_, ?_, ?_, ?_, ?_, ?_, ?_, ?_, ?_, trivial⟩
          ·
           intro vf pf hR
           refine Or.inl ⟨rfl, ?_⟩
           refine rq_less (sx 2 rfl (sub_nil _)) (List.sublist_append_right _ _) ?_
           exact rq_v (rv_loadN (cs := [.int .i64 d.W, .int .i64 d.H, .int .i64 d.T, .int .i64 d.R]) rfl (by kernel_rfl) (by kernel_rfl) rfl rfl (box_part 1 rfl 0 rfl))
          ·
           intro vf pf hR
           refine Or.inl ⟨rfl, ?_⟩
           refine rq_less (sx 2 rfl (sub_nil _)) (List.sublist_append_right _ _) ?_
           exact rq_v (rv_loadN (cs := [.int .i64 d.W, .int .i64 d.H, .int .i64 d.T, .int .i64 d.R]) rfl (by kernel_rfl) (by kernel_rfl) rfl rfl (box_part 1 rfl 0 rfl))
          ·
           intro vf pf hR
           refine Or.inl ⟨rfl, ?_⟩
           refine rq_less (sx 6 rfl (sub_nil _)) (List.sublist_append_right _ _) ?_
           exact rq_v (rv_ev rfl)
          ·
           intro vf pf hR
           refine Or.inl ⟨rfl, ?_⟩
           refine rq_less (sx 10 rfl (sub_nil _)) (List.sublist_append_right _ _) ?_
           exact rq_v (rv_ev rfl)
          ·
           intro vf pf hR
           have e3 : (vf 3) = .int .i64 (r : Int) ∧ (pf 3) = [] := hR 3 (by decide)
           refine Or.inl ⟨rfl, ?_⟩
           refine rq_less (sx 128 (congrArg some e3.1) (sub_nil _)) (List.sublist_append_right _ _) ?_
           exact rq_v (rv_add rfl rfl rfl (by constructor <;> omega))
          ·
           intro vf pf hR
           have e4 : (vf 4) = .int .i64 ((r : Int) + 2) ∧ (pf 4) = [] := hR 4 (by decide)
           refine Or.inl ⟨rfl, ?_⟩
           refine rq_less (sx 129 (congrArg some e4.1) (sub_nil _)) (List.sublist_append_right _ _) ?_
           exact rq_v (rv_rem rfl rfl rfl (by constructor <;> omega))
          ·
           intro vf pf hR
           refine Or.inl ⟨rfl, ?_⟩
           refine rq_less (sx 12 rfl (sub_nil _)) (List.sublist_append_right _ _) ?_
           exact rq_v (rv_ev rfl)
          ·
           intro vf pf hR
           have e1 : (vf 1) = .agg #[.int .i64 d.W, .int .i64 d.H, .int .i64 d.T, .int .i64 d.R] ∧ (pf 1) = [] := hR 1 (by decide)
           have e2 : (vf 2) = .int .i64 (n / (perI d)) ∧ (pf 2) = [] := hR 2 (by decide)
           have e5 : (vf 5) = .int .i64 (((r : Int) + 2) % 4) ∧ (pf 5) = [] := hR 5 (by decide)
           have e6 : (vf 6) = .int .i64 ((j : Int) + 1) ∧ (pf 6) = [] := hR 6 (by decide)
           refine Or.inl ⟨rfl, ?_⟩
           refine rq_less (sx 126 (congrArg some e1.1) (sx 127 (congrArg some e2.1) (sx 130 (congrArg some e5.1) (sx 131 (congrArg some e6.1) (sub_nil _))))) (List.sublist_append_right _ _) ?_
           exact (rq_call (by kernel_rfl) rfl (fun w hm => ret_ans (specTileStep_any d _ _ _ w)))
          ·
           intro vf pf hR
           refine Or.inl ⟨rfl, ?_⟩
           refine rq_less (sx 10 rfl (sub_nil _)) (List.sublist_append_right _ _) ?_
           exact rq_v (rv_ev rfl)
          ·
           intro vf pf hR
           refine Or.inl ⟨rfl, ?_⟩
           refine rq_less (sx 11 rfl (sub_nil _)) (List.sublist_append_right _ _) ?_
           exact rq_v (rv_ev rfl)
          ·
           intro vf pf hR
           have e0 : (vf 0) = .agg #[.int .i64 d.W, .int .i64 d.H, .int .i64 d.T, .int .i64 d.R] ∧ (pf 0) = [] := hR 0 (by decide)
           have e7 : (vf 7) = .int .i64 (tileStepI d (n / (perI d)) (((r : Int) + 2) % 4) ((j : Int) + 1)) ∧ (pf 7) = [] := hR 7 (by decide)
           have e8 : (vf 8) = .int .i64 (r : Int) ∧ (pf 8) = [] := hR 8 (by decide)
           have e9 : (vf 9) = .int .i64 (k : Int) ∧ (pf 9) = [] := hR 9 (by decide)
           refine Or.inl ⟨rfl, ?_⟩
           refine rq_less (sx 125 (congrArg some e0.1) (sx 132 (congrArg some e7.1) (sx 133 (congrArg some e8.1) (sx 134 (congrArg some e9.1) (sub_nil _))))) (List.sublist_append_right _ _) ?_
           exact (rq_call (by kernel_rfl) rfl (fun w hm => ret_ans (specWireNode_ans d _ _ _ w (by omega) (by omega) (by omega) (by omega))))
         ·
          intro vf pf hR
          have e10 : (vf 10) = .int .i64 (wireNodeS d (tileStepI d (n / (perI d)) (((r : Int) + 2) % 4) ((j : Int) + 1)) (r : Int) (k : Int)) ∧ (pf 10) = [] := hR 10 (by decide)
          refine hl_less (l' := [rowE 3 1 b cs.length (cs.map (Value.int .i64)), boxE b1 #[.int .i64 d.W, .int .i64 d.H, .int .i64 d.T, .int .i64 d.R] 25]) (sx 0 rfl (sx 1 rfl (sx 2 rfl (sx 4 rfl (sx 5 rfl (sx 6 rfl (sx 7 rfl (sx 8 rfl (sx 9 rfl (sx 10 rfl (sx 11 rfl (sx 12 rfl (sx 18 rfl (sx 33 rfl (sx 61 rfl (sx 67 rfl (sx 113 rfl (sx 124 rfl (sx 135 (congrArg some e10.1) (sub_nil _)))))))))))))))))))) (List.sublist_append_right _ _) ?_
          simp only [List.drop_succ_cons, List.drop_zero]
          refine hl_v rfl rfl rfl (rv_ev rfl) ?_
          refine hl_less (sx 0 rfl (sx 1 rfl (sx 2 rfl (sx 4 rfl (sx 5 rfl (sx 6 rfl (sx 7 rfl (sx 8 rfl (sx 9 rfl (sx 10 rfl (sx 11 rfl (sx 12 rfl (sx 13 rfl (sx 18 rfl (sx 33 rfl (sx 61 rfl (sx 67 rfl (sx 113 rfl (sx 124 rfl (sub_nil _)))))))))))))))))))) (.refl _) ?_
          refine hl_nil ?_
          refine hq_then ?_
          refine hc_seq ?_
          refine hc_region ?_
          refine hl_v rfl rfl rfl (rv_ev rfl) ?_
          refine hl_geq rfl rfl rfl rfl rfl rfl (fun h35 => ?_) (fun h35 => ?_)
          ·
           refine hl_less (sx 0 rfl (sx 1 rfl (sx 2 rfl (sx 4 rfl (sx 5 rfl (sx 6 rfl (sx 7 rfl (sx 8 rfl (sx 9 rfl (sx 10 rfl (sx 11 rfl (sx 12 rfl (sx 13 rfl (sx 18 rfl (sx 33 rfl (sx 61 rfl (sx 67 rfl (sx 113 rfl (sx 124 rfl (sx 137 rfl (sub_nil _))))))))))))))))))))) (.refl _) ?_
           refine hl_nil ?_
           refine hq_then ?_
           refine hc_true rfl ?_
           refine hc_region ?_
           refine hl_v rfl rfl rfl (rv_ev rfl) ?_
           refine hl_v rfl rfl rfl (rv_ev rfl) ?_
           refine hl_row rfl rfl rfl (rq_buildSlice (z := .int .i64 0) (s := 1) (cs := ([wireNodeS d (tileStepI d (n / (perI d)) (((r : Int) + 2) % 4) ((j : Int) + 1)) (r : Int) (k : Int)].map (Value.int .i64))) rfl Try.underlying26 (by kernel_rfl) (by decide) rfl (by kernel_rfl) rfl) ?_
           intro g36
           refine hl_append (i := 1) (z := .int .i64 0) (bytes := 8) (n' := (cs ++ ([wireNodeS d (tileStepI d (n / (perI d)) (((r : Int) + 2) % 4) ((j : Int) + 1)) (r : Int) (k : Int)])).length) (xs' := ((cs ++ ([wireNodeS d (tileStepI d (n / (perI d)) (((r : Int) + 2) % 4) ((j : Int) + 1)) (r : Int) (k : Int)])).map (Value.int .i64))) (L := fun v37 => [rowE 3 1 (.slice (some ⟨g36, 0, none⟩) 1 1) 1 ([wireNodeS d (tileStepI d (n / (perI d)) (((r : Int) + 2) % 4) ((j : Int) + 1)) (r : Int) (k : Int)].map (Value.int .i64)), rowE 3 1 v37 ((cs ++ ([wireNodeS d (tileStepI d (n / (perI d)) (((r : Int) + 2) % 4) ((j : Int) + 1)) (r : Int) (k : Int)])).length) ((cs ++ ([wireNodeS d (tileStepI d (n / (perI d)) (((r : Int) + 2) % 4) ((j : Int) + 1)) (r : Int) (k : Int)])).map (Value.int .i64)), boxE b1 #[.int .i64 d.W, .int .i64 d.H, .int .i64 d.T, .int .i64 d.R] 25]) rfl rfl rfl rfl Try.underlying26 (by kernel_rfl) (by kernel_rfl) rfl rfl rfl (rd_row 0 rfl) (ints_one _) (by simp; omega) (len_app cs ([wireNodeS d (tileStepI d (n / (perI d)) (((r : Int) + 2) % 4) ((j : Int) + 1)) (r : Int) (k : Int)])) (ints_app cs ([wireNodeS d (tileStepI d (n / (perI d)) (((r : Int) + 2) % 4) ((j : Int) + 1)) (r : Int) (k : Int)])) (fun _ => rfl) ?_
           intro v37
           refine hl_v rfl rfl rfl (rv_ev rfl) ?_
           refine hl_less (sx 0 rfl (sx 1 rfl (sx 2 rfl (sx 4 rfl (sx 5 rfl (sx 6 rfl (sx 7 rfl (sx 8 rfl (sx 9 rfl (sx 10 rfl (sx 11 rfl (sx 12 rfl (sx 13 rfl (sx 18 rfl (sx 33 rfl (sx 61 rfl (sx 67 rfl (sx 113 rfl (sx 124 rfl (sx 137 rfl (sub_nil _))))))))))))))))))))) (.refl _) ?_
           refine hl_nil ?_
           refine hq_block_normal ?_
           refine hq_then ?_
           refine hc_region ?_
           refine hl_v rfl rfl rfl (rv_ev rfl) ?_
           refine hl_v rfl rfl rfl (rv_add rfl rfl rfl (by constructor <;> omega)) ?_
           refine hl_v rfl rfl rfl (rv_ev rfl) ?_
           refine hl_less (sx 0 rfl (sx 1 rfl (sx 2 rfl (sx 4 rfl (sx 5 rfl (sx 6 rfl (sx 7 rfl (sx 8 rfl (sx 9 rfl (sx 10 rfl (sx 11 rfl (sx 12 rfl (sx 13 rfl (sx 18 rfl (sx 33 rfl (sx 61 rfl (sx 67 rfl (sx 113 rfl (sx 124 rfl (sx 137 rfl (sub_nil _))))))))))))))))))))) (.refl _) ?_
           refine hl_nil ?_
           exact hq_round3 (j + 1) _ _ ⟨by omega, by rw [sK_succ, ← ha]; unfold sS; first | rw [if_pos (by omega)] | rw [if_neg (by omega), if_pos (by assumption)] | rw [if_neg (by omega), if_neg (by omega)], by first | omega | (simp; omega)⟩ (by omega) (sx 0 rfl (sx 1 rfl (sx 2 rfl (sx 4 rfl (sx 5 rfl (sx 6 rfl (sx 7 rfl (sx 8 rfl (sx 9 rfl (sx 10 rfl (sx 11 rfl (sx 12 rfl (sx 18 rfl (sx 33 rfl (sx 61 rfl (sx 67 rfl (sub_nil _))))))))))))))))) ((.cons _ (.cons_cons _ (.cons_cons _ .slnil))))
          ·
           refine hl_less (sx 0 rfl (sx 1 rfl (sx 2 rfl (sx 4 rfl (sx 5 rfl (sx 6 rfl (sx 7 rfl (sx 8 rfl (sx 9 rfl (sx 10 rfl (sx 11 rfl (sx 12 rfl (sx 13 rfl (sx 18 rfl (sx 33 rfl (sx 61 rfl (sx 67 rfl (sx 113 rfl (sx 124 rfl (sx 137 rfl (sub_nil _))))))))))))))))))))) (.refl _) ?_
           refine hl_nil ?_
           refine hq_then ?_
           refine hc_false rfl ?_
           refine hc_skip ?_
           refine hq_block_normal ?_
           refine hq_then ?_
           refine hc_region ?_
           refine hl_v rfl rfl rfl (rv_ev rfl) ?_
           refine hl_v rfl rfl rfl (rv_add rfl rfl rfl (by constructor <;> omega)) ?_
           refine hl_v rfl rfl rfl (rv_ev rfl) ?_
           refine hl_less (sx 0 rfl (sx 1 rfl (sx 2 rfl (sx 4 rfl (sx 5 rfl (sx 6 rfl (sx 7 rfl (sx 8 rfl (sx 9 rfl (sx 10 rfl (sx 11 rfl (sx 12 rfl (sx 13 rfl (sx 18 rfl (sx 33 rfl (sx 61 rfl (sx 67 rfl (sx 113 rfl (sx 124 rfl (sx 137 rfl (sub_nil _))))))))))))))))))))) (.refl _) ?_
           refine hl_nil ?_
           exact hq_round3 (j + 1) _ _ ⟨by omega, by rw [sK_succ, ← ha]; unfold sS; first | rw [if_pos (by omega)] | rw [if_neg (by omega), if_pos (by assumption)] | rw [if_neg (by omega), if_neg (by omega)], by first | omega | (simp; omega)⟩ (by omega) (sx 0 rfl (sx 1 rfl (sx 2 rfl (sx 4 rfl (sx 5 rfl (sx 6 rfl (sx 7 rfl (sx 8 rfl (sx 9 rfl (sx 10 rfl (sx 11 rfl (sx 12 rfl (sx 18 rfl (sx 33 rfl (sx 61 rfl (sx 67 rfl (sub_nil _))))))))))))))))) ((.cons_cons _ (.cons_cons _ .slnil)))
       ·
        refine hl_v rfl rfl rfl (rv_ev rfl) ?_
        refine hl_skip rfl rfl rfl ?_
        refine hl_skip rfl rfl rfl ?_
        refine hl_skip rfl rfl rfl ?_
        refine hl_skip rfl rfl rfl ?_
        refine hl_skip rfl rfl rfl ?_
        refine hl_v rfl rfl rfl (rv_ev rfl) ?_
        refine hl_less (sx 0 rfl (sx 1 rfl (sx 2 rfl (sx 4 rfl (sx 5 rfl (sx 6 rfl (sx 7 rfl (sx 8 rfl (sx 9 rfl (sx 10 rfl (sx 11 rfl (sx 12 rfl (sx 18 rfl (sx 33 rfl (sx 61 rfl (sx 67 rfl (sx 113 rfl (sx 124 rfl (sub_nil _))))))))))))))))))) (.refl _) ?_
        refine hl_nil ?_
        refine hq_then ?_
        refine hc_false rfl ?_
        refine hc_skip ?_
        refine hq_then ?_
        refine hc_seq ?_
        refine hc_draw (by kernel_rfl) 11 [0, 1, 2, 3, 4, 5, 6, 7, 8, 9, 10] (List.take 11 _) (List.drop 11 _) [[], [], [], [], [3], [4], [], [1, 2, 5, 6], [], [], [0, 7, 8, 9]] [125, 126, 127, 128, 129, 130, 131, 132, 133, 134, 135] (fun i_ vs_ v_ p_ => match i_ with | 0 => v_ = .agg #[.int .i64 d.W, .int .i64 d.H, .int .i64 d.T, .int .i64 d.R] ∧ p_ = [] | 1 => v_ = .agg #[.int .i64 d.W, .int .i64 d.H, .int .i64 d.T, .int .i64 d.R] ∧ p_ = [] | 2 => v_ = .int .i64 (n / (perI d)) ∧ p_ = [] | 3 => v_ = .int .i64 (r : Int) ∧ p_ = [] | 4 => v_ = .int .i64 ((r : Int) + 2) ∧ p_ = [] | 5 => v_ = .int .i64 (((r : Int) + 2) % 4) ∧ p_ = [] | 6 => v_ = .int .i64 ((j : Int) + 1) ∧ p_ = [] | 7 => v_ = .int .i64 (tileStepI d (n / (perI d)) (((r : Int) + 2) % 4) ((j : Int) + 1)) ∧ p_ = [] | 8 => v_ = .int .i64 (r : Int) ∧ p_ = [] | 9 => v_ = .int .i64 (k : Int) ∧ p_ = [] | 10 => v_ = .int .i64 (wireNodeS d (tileStepI d (n / (perI d)) (((r : Int) + 2) % 4) ((j : Int) + 1)) (r : Int) (k : Int)) ∧ p_ = [] | _ => True) (List.take_append_drop 11 _).symm (by kernel_rfl) (by kernel_rfl) rfl rfl ?_ ?_
        ·
         refine ⟨?_, ?_, ?_, ?_, ?_, ?_, ?_, ?_, ?_, ?_, ?_, trivial⟩
         ·
          intro vf pf hR
          refine Or.inl ⟨rfl, ?_⟩
          refine rq_less (sx 2 rfl (sub_nil _)) (List.sublist_append_right _ _) ?_
          exact rq_v (rv_loadN (cs := [.int .i64 d.W, .int .i64 d.H, .int .i64 d.T, .int .i64 d.R]) rfl (by kernel_rfl) (by kernel_rfl) rfl rfl (box_part 1 rfl 0 rfl))
         ·
          intro vf pf hR
          refine Or.inl ⟨rfl, ?_⟩
          refine rq_less (sx 2 rfl (sub_nil _)) (List.sublist_append_right _ _) ?_
          exact rq_v (rv_loadN (cs := [.int .i64 d.W, .int .i64 d.H, .int .i64 d.T, .int .i64 d.R]) rfl (by kernel_rfl) (by kernel_rfl) rfl rfl (box_part 1 rfl 0 rfl))
         ·
          intro vf pf hR
          refine Or.inl ⟨rfl, ?_⟩
          refine rq_less (sx 6 rfl (sub_nil _)) (List.sublist_append_right _ _) ?_
          exact rq_v (rv_ev rfl)
         ·
          intro vf pf hR
          refine Or.inl ⟨rfl, ?_⟩
          refine rq_less (sx 10 rfl (sub_nil _)) (List.sublist_append_right _ _) ?_
          exact rq_v (rv_ev rfl)
         ·
          intro vf pf hR
          have e3 : (vf 3) = .int .i64 (r : Int) ∧ (pf 3) = [] := hR 3 (by decide)
          refine Or.inl ⟨rfl, ?_⟩
          refine rq_less (sx 128 (congrArg some e3.1) (sub_nil _)) (List.sublist_append_right _ _) ?_
          exact rq_v (rv_add rfl rfl rfl (by constructor <;> omega))
         ·
          intro vf pf hR
          have e4 : (vf 4) = .int .i64 ((r : Int) + 2) ∧ (pf 4) = [] := hR 4 (by decide)
          refine Or.inl ⟨rfl, ?_⟩
          refine rq_less (sx 129 (congrArg some e4.1) (sub_nil _)) (List.sublist_append_right _ _) ?_
          exact rq_v (rv_rem rfl rfl rfl (by constructor <;> omega))
         ·
          intro vf pf hR
          refine Or.inl ⟨rfl, ?_⟩
          refine rq_less (sx 12 rfl (sub_nil _)) (List.sublist_append_right _ _) ?_
          exact rq_v (rv_ev rfl)
         ·
          intro vf pf hR
          have e1 : (vf 1) = .agg #[.int .i64 d.W, .int .i64 d.H, .int .i64 d.T, .int .i64 d.R] ∧ (pf 1) = [] := hR 1 (by decide)
          have e2 : (vf 2) = .int .i64 (n / (perI d)) ∧ (pf 2) = [] := hR 2 (by decide)
          have e5 : (vf 5) = .int .i64 (((r : Int) + 2) % 4) ∧ (pf 5) = [] := hR 5 (by decide)
          have e6 : (vf 6) = .int .i64 ((j : Int) + 1) ∧ (pf 6) = [] := hR 6 (by decide)
          refine Or.inl ⟨rfl, ?_⟩
          refine rq_less (sx 126 (congrArg some e1.1) (sx 127 (congrArg some e2.1) (sx 130 (congrArg some e5.1) (sx 131 (congrArg some e6.1) (sub_nil _))))) (List.sublist_append_right _ _) ?_
          exact (rq_call (by kernel_rfl) rfl (fun w hm => ret_ans (specTileStep_any d _ _ _ w)))
         ·
          intro vf pf hR
          refine Or.inl ⟨rfl, ?_⟩
          refine rq_less (sx 10 rfl (sub_nil _)) (List.sublist_append_right _ _) ?_
          exact rq_v (rv_ev rfl)
         ·
          intro vf pf hR
          refine Or.inl ⟨rfl, ?_⟩
          refine rq_less (sx 11 rfl (sub_nil _)) (List.sublist_append_right _ _) ?_
          exact rq_v (rv_ev rfl)
         ·
          intro vf pf hR
          have e0 : (vf 0) = .agg #[.int .i64 d.W, .int .i64 d.H, .int .i64 d.T, .int .i64 d.R] ∧ (pf 0) = [] := hR 0 (by decide)
          have e7 : (vf 7) = .int .i64 (tileStepI d (n / (perI d)) (((r : Int) + 2) % 4) ((j : Int) + 1)) ∧ (pf 7) = [] := hR 7 (by decide)
          have e8 : (vf 8) = .int .i64 (r : Int) ∧ (pf 8) = [] := hR 8 (by decide)
          have e9 : (vf 9) = .int .i64 (k : Int) ∧ (pf 9) = [] := hR 9 (by decide)
          refine Or.inl ⟨rfl, ?_⟩
          refine rq_less (sx 125 (congrArg some e0.1) (sx 132 (congrArg some e7.1) (sx 133 (congrArg some e8.1) (sx 134 (congrArg some e9.1) (sub_nil _))))) (List.sublist_append_right _ _) ?_
          exact (rq_call (by kernel_rfl) rfl (fun w hm => ret_ans (specWireNode_ans d _ _ _ w (by omega) (by omega) (by omega) (by omega))))
        ·
         intro vf pf hR
         have e10 : (vf 10) = .int .i64 (wireNodeS d (tileStepI d (n / (perI d)) (((r : Int) + 2) % 4) ((j : Int) + 1)) (r : Int) (k : Int)) ∧ (pf 10) = [] := hR 10 (by decide)
         refine hl_less (l' := [rowE 3 1 b cs.length (cs.map (Value.int .i64)), boxE b1 #[.int .i64 d.W, .int .i64 d.H, .int .i64 d.T, .int .i64 d.R] 25]) (sx 0 rfl (sx 1 rfl (sx 2 rfl (sx 4 rfl (sx 5 rfl (sx 6 rfl (sx 7 rfl (sx 8 rfl (sx 9 rfl (sx 10 rfl (sx 11 rfl (sx 12 rfl (sx 18 rfl (sx 33 rfl (sx 61 rfl (sx 67 rfl (sx 113 rfl (sx 124 rfl (sx 135 (congrArg some e10.1) (sub_nil _)))))))))))))))))))) (List.sublist_append_right _ _) ?_
         simp only [List.drop_succ_cons, List.drop_zero]
         refine hl_v rfl rfl rfl (rv_ev rfl) ?_
         refine hl_less (sx 0 rfl (sx 1 rfl (sx 2 rfl (sx 4 rfl (sx 5 rfl (sx 6 rfl (sx 7 rfl (sx 8 rfl (sx 9 rfl (sx 10 rfl (sx 11 rfl (sx 12 rfl (sx 13 rfl (sx 18 rfl (sx 33 rfl (sx 61 rfl (sx 67 rfl (sx 113 rfl (sx 124 rfl (sub_nil _)))))))))))))))))))) (.refl _) ?_
         refine hl_nil ?_
         refine hq_then ?_
         refine hc_seq ?_
         refine hc_region ?_
         refine hl_v rfl rfl rfl (rv_ev rfl) ?_
         refine hl_geq rfl rfl rfl rfl rfl rfl (fun h38 => ?_) (fun h38 => ?_)
         ·
          refine hl_less (sx 0 rfl (sx 1 rfl (sx 2 rfl (sx 4 rfl (sx 5 rfl (sx 6 rfl (sx 7 rfl (sx 8 rfl (sx 9 rfl (sx 10 rfl (sx 11 rfl (sx 12 rfl (sx 13 rfl (sx 18 rfl (sx 33 rfl (sx 61 rfl (sx 67 rfl (sx 113 rfl (sx 124 rfl (sx 137 rfl (sub_nil _))))))))))))))))))))) (.refl _) ?_
          refine hl_nil ?_
          refine hq_then ?_
          refine hc_true rfl ?_
          refine hc_region ?_
          refine hl_v rfl rfl rfl (rv_ev rfl) ?_
          refine hl_v rfl rfl rfl (rv_ev rfl) ?_
          refine hl_row rfl rfl rfl (rq_buildSlice (z := .int .i64 0) (s := 1) (cs := ([wireNodeS d (tileStepI d (n / (perI d)) (((r : Int) + 2) % 4) ((j : Int) + 1)) (r : Int) (k : Int)].map (Value.int .i64))) rfl Try.underlying26 (by kernel_rfl) (by decide) rfl (by kernel_rfl) rfl) ?_
          intro g39
          refine hl_append (i := 1) (z := .int .i64 0) (bytes := 8) (n' := (cs ++ ([wireNodeS d (tileStepI d (n / (perI d)) (((r : Int) + 2) % 4) ((j : Int) + 1)) (r : Int) (k : Int)])).length) (xs' := ((cs ++ ([wireNodeS d (tileStepI d (n / (perI d)) (((r : Int) + 2) % 4) ((j : Int) + 1)) (r : Int) (k : Int)])).map (Value.int .i64))) (L := fun v40 => [rowE 3 1 (.slice (some ⟨g39, 0, none⟩) 1 1) 1 ([wireNodeS d (tileStepI d (n / (perI d)) (((r : Int) + 2) % 4) ((j : Int) + 1)) (r : Int) (k : Int)].map (Value.int .i64)), rowE 3 1 v40 ((cs ++ ([wireNodeS d (tileStepI d (n / (perI d)) (((r : Int) + 2) % 4) ((j : Int) + 1)) (r : Int) (k : Int)])).length) ((cs ++ ([wireNodeS d (tileStepI d (n / (perI d)) (((r : Int) + 2) % 4) ((j : Int) + 1)) (r : Int) (k : Int)])).map (Value.int .i64)), boxE b1 #[.int .i64 d.W, .int .i64 d.H, .int .i64 d.T, .int .i64 d.R] 25]) rfl rfl rfl rfl Try.underlying26 (by kernel_rfl) (by kernel_rfl) rfl rfl rfl (rd_row 0 rfl) (ints_one _) (by simp; omega) (len_app cs ([wireNodeS d (tileStepI d (n / (perI d)) (((r : Int) + 2) % 4) ((j : Int) + 1)) (r : Int) (k : Int)])) (ints_app cs ([wireNodeS d (tileStepI d (n / (perI d)) (((r : Int) + 2) % 4) ((j : Int) + 1)) (r : Int) (k : Int)])) (fun _ => rfl) ?_
          intro v40
          refine hl_v rfl rfl rfl (rv_ev rfl) ?_
          refine hl_less (sx 0 rfl (sx 1 rfl (sx 2 rfl (sx 4 rfl (sx 5 rfl (sx 6 rfl (sx 7 rfl (sx 8 rfl (sx 9 rfl (sx 10 rfl (sx 11 rfl (sx 12 rfl (sx 13 rfl (sx 18 rfl (sx 33 rfl (sx 61 rfl (sx 67 rfl (sx 113 rfl (sx 124 rfl (sx 137 rfl (sub_nil _))))))))))))))))))))) (.refl _) ?_
          refine hl_nil ?_
          refine hq_block_normal ?_
          refine hq_then ?_
          refine hc_region ?_
          refine hl_v rfl rfl rfl (rv_ev rfl) ?_
          refine hl_v rfl rfl rfl (rv_add rfl rfl rfl (by constructor <;> omega)) ?_
          refine hl_v rfl rfl rfl (rv_ev rfl) ?_
          refine hl_less (sx 0 rfl (sx 1 rfl (sx 2 rfl (sx 4 rfl (sx 5 rfl (sx 6 rfl (sx 7 rfl (sx 8 rfl (sx 9 rfl (sx 10 rfl (sx 11 rfl (sx 12 rfl (sx 13 rfl (sx 18 rfl (sx 33 rfl (sx 61 rfl (sx 67 rfl (sx 113 rfl (sx 124 rfl (sx 137 rfl (sub_nil _))))))))))))))))))))) (.refl _) ?_
          refine hl_nil ?_
          exact hq_round3 (j + 1) _ _ ⟨by omega, by rw [sK_succ, ← ha]; unfold sS; first | rw [if_pos (by omega)] | rw [if_neg (by omega), if_pos (by assumption)] | rw [if_neg (by omega), if_neg (by omega)], by first | omega | (simp; omega)⟩ (by omega) (sx 0 rfl (sx 1 rfl (sx 2 rfl (sx 4 rfl (sx 5 rfl (sx 6 rfl (sx 7 rfl (sx 8 rfl (sx 9 rfl (sx 10 rfl (sx 11 rfl (sx 12 rfl (sx 18 rfl (sx 33 rfl (sx 61 rfl (sx 67 rfl (sub_nil _))))))))))))))))) ((.cons _ (.cons_cons _ (.cons_cons _ .slnil))))
         ·
          refine hl_less (sx 0 rfl (sx 1 rfl (sx 2 rfl (sx 4 rfl (sx 5 rfl (sx 6 rfl (sx 7 rfl (sx 8 rfl (sx 9 rfl (sx 10 rfl (sx 11 rfl (sx 12 rfl (sx 13 rfl (sx 18 rfl (sx 33 rfl (sx 61 rfl (sx 67 rfl (sx 113 rfl (sx 124 rfl (sx 137 rfl (sub_nil _))))))))))))))))))))) (.refl _) ?_
          refine hl_nil ?_
          refine hq_then ?_
          refine hc_false rfl ?_
          refine hc_skip ?_
          refine hq_block_normal ?_
          refine hq_then ?_
          refine hc_region ?_
          refine hl_v rfl rfl rfl (rv_ev rfl) ?_
          refine hl_v rfl rfl rfl (rv_add rfl rfl rfl (by constructor <;> omega)) ?_
          refine hl_v rfl rfl rfl (rv_ev rfl) ?_
          refine hl_less (sx 0 rfl (sx 1 rfl (sx 2 rfl (sx 4 rfl (sx 5 rfl (sx 6 rfl (sx 7 rfl (sx 8 rfl (sx 9 rfl (sx 10 rfl (sx 11 rfl (sx 12 rfl (sx 13 rfl (sx 18 rfl (sx 33 rfl (sx 61 rfl (sx 67 rfl (sx 113 rfl (sx 124 rfl (sx 137 rfl (sub_nil _))))))))))))))))))))) (.refl _) ?_
          refine hl_nil ?_
          exact hq_round3 (j + 1) _ _ ⟨by omega, by rw [sK_succ, ← ha]; unfold sS; first | rw [if_pos (by omega)] | rw [if_neg (by omega), if_pos (by assumption)] | rw [if_neg (by omega), if_neg (by omega)], by first | omega | (simp; omega)⟩ (by omega) (sx 0 rfl (sx 1 rfl (sx 2 rfl (sx 4 rfl (sx 5 rfl (sx 6 rfl (sx 7 rfl (sx 8 rfl (sx 9 rfl (sx 10 rfl (sx 11 rfl (sx 12 rfl (sx 18 rfl (sx 33 rfl (sx 61 rfl (sx 67 rfl (sub_nil _))))))))))))))))) ((.cons_cons _ (.cons_cons _ .slnil)))
      ·
       refine hl_less (sx 0 rfl (sx 1 rfl (sx 2 rfl (sx 4 rfl (sx 5 rfl (sx 6 rfl (sx 7 rfl (sx 8 rfl (sx 9 rfl (sx 10 rfl (sx 11 rfl (sx 12 rfl (sx 18 rfl (sx 33 rfl (sx 61 rfl (sx 67 rfl (sx 113 rfl (sub_nil _)))))))))))))))))) (.refl _) ?_
       refine hl_nil ?_
       refine hq_then ?_
       refine hc_false rfl ?_
       refine hc_exit ?_
       refine hq_then_exit ?_
       refine hq_then_exit ?_
       refine hq_block_exit ?_
       refine hq_block_normal ?_
       refine hq_then ?_
       refine hc_region ?_
       refine hl_v rfl rfl rfl (rv_ev rfl) ?_
       refine hl_v rfl rfl rfl (rv_add rfl rfl rfl (by constructor <;> omega)) ?_
       refine hl_v rfl rfl rfl (rv_ev rfl) ?_
       refine hl_less (sx 0 rfl (sx 1 rfl (sx 2 rfl (sx 4 rfl (sx 5 rfl (sx 6 rfl (sx 7 rfl (sx 8 rfl (sx 9 rfl (sx 10 rfl (sx 11 rfl (sx 12 rfl (sx 18 rfl (sx 33 rfl (sx 61 rfl (sx 67 rfl (sx 113 rfl (sub_nil _)))))))))))))))))) (.refl _) ?_
       refine hl_nil ?_
       exact hq_round3 (k + 1) _ _ ⟨by omega, by rw [sR_succ]; rw [if_neg hskip, ← hz, ha]; congr 1; omega, by omega⟩ (by omega) (sx 0 rfl (sx 1 rfl (sx 2 rfl (sx 4 rfl (sx 5 rfl (sx 6 rfl (sx 7 rfl (sx 8 rfl (sx 9 rfl (sx 10 rfl (sx 11 rfl (sx 18 rfl (sx 33 rfl (sx 61 rfl (sub_nil _))))))))))))))) ((.cons_cons _ (.cons_cons _ .slnil)))
     ·
      refine hl_less (sx 0 rfl (sx 1 rfl (sx 2 rfl (sx 4 rfl (sx 5 rfl (sx 6 rfl (sx 7 rfl (sx 8 rfl (sx 9 rfl (sx 10 rfl (sx 11 rfl (sx 18 rfl (sx 33 rfl (sx 61 rfl (sx 67 rfl (sub_nil _)))))))))))))))) (.refl _) ?_
      refine hl_nil ?_
      refine hq_then ?_
      refine hc_false rfl ?_
      refine hc_exit ?_
      refine hq_then_exit ?_
      refine hq_then_exit ?_
      refine hq_block_exit ?_
      refine hq_block_normal ?_
      refine hq_then ?_
      refine hc_region ?_
      refine hl_v rfl rfl rfl (rv_ev rfl) ?_
      refine hl_v rfl rfl rfl (rv_add rfl rfl rfl (by constructor <;> omega)) ?_
      refine hl_v rfl rfl rfl (rv_ev rfl) ?_
      refine hl_less (sx 0 rfl (sx 1 rfl (sx 2 rfl (sx 4 rfl (sx 5 rfl (sx 6 rfl (sx 7 rfl (sx 8 rfl (sx 9 rfl (sx 10 rfl (sx 11 rfl (sx 18 rfl (sx 33 rfl (sx 61 rfl (sx 67 rfl (sub_nil _)))))))))))))))) (.refl _) ?_
      refine hl_nil ?_
      exact hq_round3 (r + 1) _ _ ⟨by omega, by rw [sO_succ, ← hy, hz]; congr 1; omega, by omega⟩ (by omega) (sx 0 rfl (sx 1 rfl (sx 2 rfl (sx 4 rfl (sx 5 rfl (sx 6 rfl (sx 7 rfl (sx 8 rfl (sx 9 rfl (sx 10 rfl (sx 18 rfl (sx 33 rfl (sub_nil _))))))))))))) ((.cons_cons _ (.cons_cons _ .slnil)))
    ·
     refine hl_less (sx 0 rfl (sx 1 rfl (sx 2 rfl (sx 4 rfl (sx 5 rfl (sx 6 rfl (sx 7 rfl (sx 8 rfl (sx 9 rfl (sx 10 rfl (sx 18 rfl (sx 33 rfl (sx 61 rfl (sub_nil _)))))))))))))) (.refl _) ?_
     refine hl_nil ?_
     refine hq_then ?_
     refine hc_false rfl ?_
     refine hc_exit ?_
     refine hq_then_exit ?_
     refine hq_then_exit ?_
     refine hq_block_exit ?_
     refine hq_then ?_
     refine hc_seq ?_
     refine hc_region ?_
     refine hl_v rfl rfl rfl (rv_ev rfl) ?_
     refine hl_q rfl rfl rfl (rq_call (by kernel_rfl) rfl (fun w hm => l27Sort_ret _ ys w (rdsW_own (hm.holds _ (mem_at (i := 0) rfl))) (by omega))) ?_
     intro v41 p42 hR43
     subst hR43
     refine hl_v rfl rfl rfl (rv_ev rfl) ?_
     refine hl_less (sx 0 rfl (sx 1 rfl (sx 2 rfl (sx 4 rfl (sx 5 rfl (sx 6 rfl (sx 7 rfl (sx 8 rfl (sx 9 rfl (sx 10 rfl (sx 18 rfl (sx 33 rfl (sx 61 rfl (sub_nil _)))))))))))))) (.refl _) ?_
     refine hl_nil ?_
     refine hq_then ?_
     refine hc_ret ?_
     exact hq_retR (post := [rowE 3 1 v41 ((sortR ys).length) ((sortR ys).map (Value.int .i64))]) rfl rfl ((.cons_cons _ (.cons _ (.cons _ .slnil)))) (by unfold srcS; first | rw [if_pos ⟨by assumption, by omega, by omega⟩, hy, show r = 4 by omega, hd1, hd2] | (rw [if_neg (by rintro ⟨q1, q2, q3⟩; first | omega | simp_all)]; rfl))
 ·
  refine hl_v rfl rfl rfl (rv_ev rfl) ?_
  refine hl_less (sx 0 rfl (sx 1 rfl (sx 2 rfl (sx 4 rfl (sx 5 rfl (sx 18 rfl (sub_nil _))))))) (.refl _) ?_
  refine hl_nil ?_
  refine hq_then ?_
  refine hc_true rfl ?_
  refine hc_seq ?_
  refine hc_region ?_
  refine hl_v rfl rfl rfl (rv_ev rfl) ?_
  refine hl_v rfl rfl rfl (rv_ev rfl) ?_
  refine hl_less (sx 0 rfl (sx 1 rfl (sx 2 rfl (sx 4 rfl (sx 5 rfl (sx 18 rfl (sub_nil _))))))) (.refl _) ?_
  refine hl_nil ?_
  refine hq_then ?_
  refine hc_ret ?_
  refine hq_then_ret ?_
  exact hq_retR (post := [rowE 3 1 (.slice (some ⟨g2, 0, none⟩) 0 0) 0 ([])]) rfl rfl ((.cons_cons _ (.cons _ .slnil))) (by unfold srcS; first | rw [if_pos ⟨by assumption, by omega, by omega⟩, hy, show r = 4 by omega, hd1, hd2] | (rw [if_neg (by rintro ⟨q1, q2, q3⟩; first | omega | simp_all)]; rfl))
theorem insI_mem (xs : List Int) (x y : Int) : y ∈ insI xs x ↔ y = x ∨ y ∈ xs := by
  induction xs with
  | nil => simp [insI]
  | cons z zs ih =>
    simp only [insI]
    split
    · rw [List.mem_cons, ih, List.mem_cons]
      constructor
      · rintro (h | h | h)
        · exact .inr (.inl h)
        · exact .inl h
        · exact .inr (.inr h)
      · rintro (h | h | h)
        · exact .inr (.inl h)
        · exact .inl h
        · exact .inr (.inr h)
    · split
      · rename_i h; subst h; simp
      · simp
theorem insI_sorted (xs : List Int) (x : Int) (h : xs.Pairwise (· < ·)) : (insI xs x).Pairwise (· < ·) := by
  induction xs with
  | nil => simp [insI]
  | cons z zs ih =>
    rw [List.pairwise_cons] at h
    simp only [insI]
    split
    · rw [List.pairwise_cons]
      refine ⟨fun y hy => ?_, ih h.2⟩
      rcases (insI_mem _ _ _).1 hy with rfl | hy
      · assumption
      · exact h.1 y hy
    · split
      · exact List.pairwise_cons.2 h
      · rw [List.pairwise_cons]
        refine ⟨fun y hy => ?_, List.pairwise_cons.2 h⟩
        rcases List.mem_cons.1 hy with rfl | hy
        · omega
        · have := h.1 y hy; omega
theorem sorted_ext : ∀ (a b : List Int), a.Pairwise (· < ·) → b.Pairwise (· < ·) → (∀ x, x ∈ a ↔ x ∈ b) → a = b
  | [], [], _, _, _ => rfl
  | [], y :: b, _, _, h => by have := (h y).2 (by simp); simp at this
  | x :: a, [], _, _, h => by have := (h x).1 (by simp); simp at this
  | x :: a, y :: b, ha, hb, h => by
    rw [List.pairwise_cons] at ha hb
    have hxy : x = y := by
      rcases List.mem_cons.1 ((h x).1 (by simp)) with e | e
      · exact e
      · rcases List.mem_cons.1 ((h y).2 (by simp)) with e2 | e2
        · exact e2.symm
        · have h1 := hb.1 x e
          have h2 := ha.1 y e2
          omega
    subst hxy
    congr 1
    refine sorted_ext a b ha.2 hb.2 fun z => ?_
    constructor
    · intro hz
      have h1 := ha.1 z hz
      rcases List.mem_cons.1 ((h z).1 (by simp [hz])) with e | e
      · omega
      · exact e
    · intro hz
      have h1 := hb.1 z hz
      rcases List.mem_cons.1 ((h z).2 (by simp [hz])) with e | e
      · omega
      · exact e
theorem insR_perm (P : List Int) (x : Int) : (insR P x).Perm (x :: P) := by
  unfold insR
  refine (List.perm_middle).trans ?_
  rw [List.take_append_drop]
theorem sortR_perm (xs : List Int) : (sortR xs).Perm xs := by
  have : ∀ (xs acc : List Int), (xs.foldl insR acc).Perm (xs ++ acc) := by
    intro xs
    induction xs with
    | nil => intro acc; exact .refl _
    | cons x xs ih =>
      intro acc
      rw [List.foldl_cons]
      exact (ih _).trans (((insR_perm acc x).append_left xs).trans List.perm_middle)
  simpa [sortR] using this xs []
theorem insR_sorted (P : List Int) (x : Int) (h : P.Pairwise (· ≤ ·)) : (insR P x).Pairwise (· ≤ ·) := by
  have hc : ∃ k, k ≤ P.length ∧ (∀ j, k ≤ j → j < P.length → x < P.getD j 0) ∧ (k = 0 ∨ P.getD (k - 1) 0 ≤ x) := by
    have : ∀ n, n ≤ P.length → (∀ j, n ≤ j → j < P.length → x < P.getD j 0) → ∃ k, k ≤ P.length ∧ (∀ j, k ≤ j → j < P.length → x < P.getD j 0) ∧ (k = 0 ∨ P.getD (k - 1) 0 ≤ x) := by
      intro n
      induction n with
      | zero => intro hn h1; exact ⟨0, hn, h1, .inl rfl⟩
      | succ n ih =>
        intro hn h1
        by_cases hx : P.getD n 0 ≤ x
        · exact ⟨n + 1, hn, h1, .inr hx⟩
        · refine ih (by omega) fun j hj hl => ?_
          by_cases e : j = n
          · subst e; omega
          · exact h1 j (by omega) hl
    exact this P.length (Nat.le_refl _) (fun j h1 h2 => by omega)
  obtain ⟨k, hk, h1, h2⟩ := hc
  rw [insR_at P x k hk h1 h2]
  have hlt : ∀ i j, i < j → j < P.length → P.getD i 0 ≤ P.getD j 0 := by
    intro i j hij hj
    have := List.pairwise_iff_getElem.1 h i j (by omega) hj hij
    rw [List.getD_eq_getElem?_getD, List.getElem?_eq_getElem (by omega), List.getD_eq_getElem?_getD, List.getElem?_eq_getElem hj]; exact this
  rw [List.pairwise_append]
  refine ⟨h.sublist (List.take_sublist _ _), List.pairwise_cons.2 ⟨fun y hy => ?_, h.sublist (List.drop_sublist _ _)⟩, fun y hy z hz => ?_⟩
  · obtain ⟨j, hj, rfl⟩ := List.mem_iff_getElem.1 hy
    rw [List.length_drop] at hj
    have := h1 (k + j) (by omega) (by omega)
    rw [List.getD_eq_getElem?_getD, List.getElem?_eq_getElem (by omega)] at this
    have e : (P.drop k)[j]'(by simpa using hj) = P[k + j]'(by omega) := by simp
    rw [e]; simp at this; omega
  · obtain ⟨j, hj, rfl⟩ := List.mem_iff_getElem.1 hy
    have hj' : j < k ∧ j < P.length := by rw [List.length_take] at hj; omega
    have ey : (P.take k)[j] = P.getD j 0 := by rw [List.getElem_take, List.getD_eq_getElem?_getD, List.getElem?_eq_getElem hj'.2]; rfl
    have hyx : P.getD j 0 ≤ x := by
      rcases h2 with rfl | h2
      · omega
      · by_cases e : j = k - 1
        · subst e; exact h2
        · have := hlt j (k - 1) (by omega) (by omega); omega
    rw [ey]
    rcases List.mem_cons.1 hz with rfl | hz
    · exact hyx
    · obtain ⟨i, hi, rfl⟩ := List.mem_iff_getElem.1 hz
      rw [List.length_drop] at hi
      have := h1 (k + i) (by omega) (by omega)
      rw [List.getD_eq_getElem?_getD, List.getElem?_eq_getElem (by omega)] at this
      have e : (P.drop k)[i]'(by simpa using hi) = P[k + i]'(by omega) := by simp
      rw [e]; simp at this; omega
theorem sortR_sorted (xs : List Int) : (sortR xs).Pairwise (· ≤ ·) := by
  have : ∀ (xs acc : List Int), acc.Pairwise (· ≤ ·) → (xs.foldl insR acc).Pairwise (· ≤ ·) := by
    intro xs
    induction xs with
    | nil => intro acc h; exact h
    | cons x xs ih => intro acc h; exact ih _ (insR_sorted acc x h)
  exact this xs [] .nil
theorem sortR_strict (xs : List Int) (h : xs.Nodup) : (sortR xs).Pairwise (· < ·) := by
  have h1 := sortR_sorted xs
  have h2 : (sortR xs).Pairwise (· ≠ ·) := (sortR_perm xs).nodup_iff.2 h
  exact (h1.and h2).imp fun ⟨a, b⟩ => by omega
theorem fold_ins {α : Type} (f : List Int → α → List Int) (P : α → Int → Prop) (hf : ∀ xs i y, y ∈ f xs i ↔ y ∈ xs ∨ P i y) : ∀ (l : List α) (xs : List Int) (y : Int), y ∈ l.foldl f xs ↔ y ∈ xs ∨ ∃ i ∈ l, P i y
  | [], xs, y => by simp
  | i :: l, xs, y => by
    rw [List.foldl_cons, fold_ins f P hf l, hf]
    constructor
    · rintro ((h | h) | ⟨j, hj, h⟩)
      · exact .inl h
      · exact .inr ⟨i, by simp, h⟩
      · exact .inr ⟨j, by simp [hj], h⟩
    · rintro (h | ⟨j, hj, h⟩)
      · exact .inl (.inl h)
      · rcases List.mem_cons.1 hj with rfl | hj
        · exact .inl (.inr h)
        · exact .inr ⟨j, hj, h⟩
theorem fold_sorted {α : Type} (f : List Int → α → List Int) (hf : ∀ xs i, xs.Pairwise (· < ·) → (f xs i).Pairwise (· < ·)) : ∀ (l : List α) (xs : List Int), xs.Pairwise (· < ·) → (l.foldl f xs).Pairwise (· < ·)
  | [], xs, h => h
  | i :: l, xs, h => fold_sorted f hf l _ (hf xs i h)
theorem fold_app {α : Type} (f : List Int → α → List Int) (g : α → List Int) (hf : ∀ xs i, f xs i = xs ++ g i) : ∀ (l : List α) (xs : List Int), l.foldl f xs = xs ++ l.flatMap g
  | [], xs => by simp
  | i :: l, xs => by rw [List.foldl_cons, fold_app f g hf l, hf]; simp
/-- y is the wire that begins s steps back from t in direction r, on track k -/
def Cand (d : Dev) (t r k s y : Int) : Prop := 0 ≤ stepI d t ((r + 2) % 4) s ∧ 0 ≤ wireNodeI d (stepI d t ((r + 2) % 4) s) r k ∧ y = wireNodeI d (stepI d t ((r + 2) % 4) s) r k
theorem pinS_mem (d : Dev) (t r k : Int) (xs : List Int) (s : Nat) (y : Int) : y ∈ pinS d t r k xs s ↔ y ∈ xs ∨ Cand d t r k ((s : Int) + 1) y := by
  unfold pinS Cand
  split
  · constructor
    · exact .inl
    · rintro (h | ⟨h, _⟩)
      · exact h
      · omega
  · split
    · rw [insI_mem]
      constructor
      · rintro (h | h)
        · exact .inr ⟨by omega, by assumption, h⟩
        · exact .inl h
      · rintro (h | ⟨_, _, h⟩)
        · exact .inr h
        · exact .inl h
    · constructor
      · exact .inl
      · rintro (h | ⟨_, h, _⟩)
        · exact h
        · omega
theorem pinS_sorted (d : Dev) (t r k : Int) (xs : List Int) (s : Nat) (h : xs.Pairwise (· < ·)) : (pinS d t r k xs s).Pairwise (· < ·) := by
  unfold pinS
  split
  · exact h
  · split
    · exact insI_sorted _ _ h
    · exact h
theorem pinO_sorted (d : Dev) (t p : Int) (j : Nat) : (pinO d t p j).Pairwise (· < ·) := by
  refine fold_sorted _ (fun xs r h => fold_sorted _ (fun xs k h => ?_) _ _ h) _ _ .nil
  split
  · exact h
  · exact fold_sorted _ (fun xs s h => pinS_sorted d t _ _ xs s h) _ _ h
theorem pinO_mem (d : Dev) (t p : Int) (j : Nat) (y : Int) : y ∈ pinO d t p j ↔ ∃ r ∈ List.range j, ∃ k ∈ List.range d.T.toNat, ¬ (1 < d.T ∧ ((k : Int) + p) % 2 ≠ 0) ∧ ∃ s ∈ List.range (1 + k % 2), Cand d t r k ((s : Int) + 1) y := by
  unfold pinO
  rw [fold_ins (P := fun (r : Nat) y => ∃ k ∈ List.range d.T.toNat, ¬ (1 < d.T ∧ ((k : Int) + p) % 2 ≠ 0) ∧ ∃ s ∈ List.range (1 + k % 2), Cand d t r k ((s : Int) + 1) y)]
  · simp
  · intro xs r y
    unfold pinR
    rw [fold_ins (P := fun (k : Nat) y => ¬ (1 < d.T ∧ ((k : Int) + p) % 2 ≠ 0) ∧ ∃ s ∈ List.range (1 + k % 2), Cand d t r k ((s : Int) + 1) y)]
    intro xs k y
    split
    · rename_i h; simp [h]
    · rename_i h
      unfold pinK
      rw [fold_ins (P := fun (s : Nat) y => Cand d t r k ((s : Int) + 1) y) _ (fun xs s y => pinS_mem d t r k xs s y)]
      simp only [h, not_false_eq_true, true_and]
theorem wireN_inj {d : Dev} (hv : devB d = true) {f r k f' r' k' : Int} (r0 : 0 ≤ r) (r1 : r ≤ 3) (k0 : 0 ≤ k) (k1_o : k ≤ d.T - 1) (r0' : 0 ≤ r') (r1' : r' ≤ 3) (k0' : 0 ≤ k') (k1' : k' ≤ d.T - 1) (h : wireN d f r k = wireN d f' r' k') : f = f' ∧ r = r' ∧ k = k' := by
  obtain ⟨-, -, ⟨l1, l2⟩, -⟩ := (devB_iff d).1 hv
  have a1 := dirT_rng hv r0 r1
  have a2 := dirT_rng hv r0' r1'
  unfold wireN perI at h
  have b1 : r * d.T ≤ 3 * d.T := Int.mul_le_mul_of_nonneg_right r1 (by omega)
  have b2 : r' * d.T ≤ 3 * d.T := Int.mul_le_mul_of_nonneg_right r1' (by omega)
  have hf : f = f' := by
    have e1 : (f * (7 + 4 * d.T) + (7 + r * d.T + k)) / (7 + 4 * d.T) = f := by
      rw [Int.add_comm, Int.add_mul_ediv_right _ _ (by omega), Int.ediv_eq_zero_of_lt (by omega) (by omega)]; omega
    have e2 : (f' * (7 + 4 * d.T) + (7 + r' * d.T + k')) / (7 + 4 * d.T) = f' := by
      rw [Int.add_comm, Int.add_mul_ediv_right _ _ (by omega), Int.ediv_eq_zero_of_lt (by omega) (by omega)]; omega
    rw [← e1, ← e2]; congr 1; omega
  subst hf
  have h2 : r * d.T + k = r' * d.T + k' := by omega
  have hr : r = r' := by
    have e1 : (r * d.T + k) / d.T = r := by rw [Int.add_comm, Int.add_mul_ediv_right _ _ (by omega), Int.ediv_eq_zero_of_lt (by omega) (by omega)]; omega
    have e2 : (r' * d.T + k') / d.T = r' := by rw [Int.add_comm, Int.add_mul_ediv_right _ _ (by omega), Int.ediv_eq_zero_of_lt (by omega) (by omega)]; omega
    rw [← e1, ← e2, h2]
  subst hr
  exact ⟨rfl, rfl, by omega⟩
theorem wireNodeI_nonneg {d : Dev} {f r k : Int} (h : 0 ≤ wireNodeI d f r k) : wireNodeI d f r k = wireN d f r k := by
  unfold wireNodeI at *
  split
  · rfl
  · rename_i hh; rw [if_neg hh] at h; omega
theorem wS_eq {d : Dev} {t r k s : Int} (ht : tOk d t = true) (r0 : 0 ≤ r) (r1 : r ≤ 3) (k0 : 0 ≤ k) (k1_o : k ≤ d.T - 1) (s0 : 0 ≤ s) (s1 : s ≤ 2) :
    wireNodeS d (tileStepI d t ((r + 2) % 4) s) r k = if 0 ≤ stepI d t ((r + 2) % 4) s then wireNodeI d (stepI d t ((r + 2) % 4) s) r k else -1 := by
  obtain ⟨hv, _, _⟩ := (tOk_iff d t).1 ht
  rw [tileStep_eq ht (by omega) (by omega) s0 (by omega)]
  split
  · rename_i h
    have hto := step_tOk hv (show ¬ stepI d t ((r + 2) % 4) s < 0 by omega)
    unfold wireNodeS wireNodeI
    rw [tileStep_eq hto r0 r1 (by omega) (by omega)]
    by_cases h2 : 0 ≤ stepI d (stepI d t ((r + 2) % 4) s) r (1 + k % 2)
    · rw [if_pos h2, if_pos ⟨hto, k0, by omega, h2⟩]
    · rw [if_neg h2, if_neg (fun hh => h2 hh.2.2.2)]
  · rename_i h
    unfold wireNodeS
    rw [if_neg]
    rintro ⟨h1, _⟩
    have := (tOk_iff _ _).1 h1
    omega
def gS (d : Dev) (t p r k : Int) (s : Nat) : List Int := if 7 ≤ p ∧ (s : Int) + 1 < 1 + k % 2 then [] else if 0 ≤ wireNodeS d (tileStepI d t ((r + 2) % 4) ((s : Int) + 1)) r k then [wireNodeS d (tileStepI d t ((r + 2) % 4) ((s : Int) + 1)) r k] else []
theorem sS_app (d : Dev) (t p r k : Int) (xs : List Int) (s : Nat) : sS d t p r k xs s = xs ++ gS d t p r k s := by
  unfold sS gS; split
  · simp
  · split <;> simp
def gK (d : Dev) (t p dir track r : Int) (k : Nat) : List Int := if Skip d.T p dir track r k then [] else (List.range (1 + k % 2)).flatMap (gS d t p r k)
theorem sO_app (d : Dev) (t p dir track : Int) (j : Nat) : sO d t p dir track j = baseS d t p ++ (List.range j).flatMap (fun (r : Nat) => (List.range d.T.toNat).flatMap (gK d t p dir track r)) := by
  unfold sO
  rw [fold_app _ (fun (r : Nat) => (List.range d.T.toNat).flatMap (gK d t p dir track r))]
  intro xs r
  unfold sR
  rw [fold_app _ (gK d t p dir track r)]
  intro xs k
  unfold gK
  split
  · simp
  · unfold sK; rw [fold_app _ (gS d t p r k) (fun xs s => sS_app d t p r k xs s)]
theorem gS_mem {d : Dev} {t p r k : Int} {s : Nat} {y : Int} (ht : tOk d t = true) (r0 : 0 ≤ r) (r1 : r ≤ 3) (k0 : 0 ≤ k) (k1_o : k ≤ d.T - 1) (s1 : s ≤ 1) : y ∈ gS d t p r k s ↔ ¬ (7 ≤ p ∧ (s : Int) + 1 < 1 + k % 2) ∧ Cand d t r k ((s : Int) + 1) y := by
  unfold gS Cand
  rw [wS_eq ht r0 r1 k0 k1_o (by omega) (by omega)]
  by_cases h1 : 7 ≤ p ∧ (s : Int) + 1 < 1 + k % 2
  · simp [h1]
  · rw [if_neg h1]
    by_cases h2 : 0 ≤ stepI d t ((r + 2) % 4) ((s : Int) + 1)
    · rw [if_pos h2]
      by_cases h3 : 0 ≤ wireNodeI d (stepI d t ((r + 2) % 4) ((s : Int) + 1)) r k
      · rw [if_pos h3]; simp [h1, h2, h3]
      · rw [if_neg h3]; simp [h3]
    · rw [if_neg h2, if_neg (by omega)]; simp [h2]
theorem sO_mem {d : Dev} {t p dir track : Int} {y : Int} (ht : tOk d t = true) : y ∈ sO d t p dir track 4 ↔ y ∈ baseS d t p ∨ ∃ r ∈ List.range 4, ∃ k ∈ List.range d.T.toNat, ¬ Skip d.T p dir track r k ∧ ∃ s ∈ List.range (1 + k % 2), ¬ (7 ≤ p ∧ (s : Int) + 1 < 1 + (k : Int) % 2) ∧ Cand d t r k ((s : Int) + 1) y := by
  rw [sO_app, List.mem_append]
  have key : ∀ r ∈ List.range 4, ∀ k ∈ List.range d.T.toNat, (y ∈ gK d t p dir track (r : Int) k ↔ ¬ Skip d.T p dir track r k ∧ ∃ s ∈ List.range (1 + k % 2), ¬ (7 ≤ p ∧ (s : Int) + 1 < 1 + (k : Int) % 2) ∧ Cand d t r k ((s : Int) + 1) y) := by
    intro r hr k hk
    rw [List.mem_range] at hr hk
    unfold gK
    split
    · rename_i h; simp [h]
    · rename_i h
      simp only [h, not_false_eq_true, true_and]
      rw [List.mem_flatMap]
      constructor
      · rintro ⟨s, hs, hy⟩
        have := List.mem_range.1 hs
        exact ⟨s, hs, (gS_mem ht (by omega) (by omega) (by omega) (by omega) (by omega)).1 hy⟩
      · rintro ⟨s, hs, hy⟩
        have := List.mem_range.1 hs
        exact ⟨s, hs, (gS_mem ht (by omega) (by omega) (by omega) (by omega) (by omega)).2 hy⟩
  constructor
  · rintro (h | h)
    · exact .inl h
    · obtain ⟨r, hr, h⟩ := List.mem_flatMap.1 h
      obtain ⟨k, hk, h⟩ := List.mem_flatMap.1 h
      exact .inr ⟨r, hr, k, hk, (key r hr k hk).1 h⟩
  · rintro (h | ⟨r, hr, k, hk, h⟩)
    · exact .inl h
    · exact .inr (List.mem_flatMap.2 ⟨r, hr, List.mem_flatMap.2 ⟨k, hk, (key r hr k hk).2 h⟩⟩)
theorem wireN_mod {d : Dev} (hv : devB d = true) {f r k : Int} (r0 : 0 ≤ r) (r1 : r ≤ 3) (k0 : 0 ≤ k) (k1_o : k ≤ d.T - 1) : 7 ≤ wireN d f r k % perI d := by
  obtain ⟨-, -, ⟨l1, l2⟩, -⟩ := (devB_iff d).1 hv
  have a1 := dirT_rng hv r0 r1
  have b1 : r * d.T ≤ 3 * d.T := Int.mul_le_mul_of_nonneg_right r1 (by omega)
  unfold wireN perI
  rw [show f * (7 + 4 * d.T) + 7 + r * d.T + k = (7 + r * d.T + k) + f * (7 + 4 * d.T) by omega, Int.add_mul_emod_self_right, Int.emod_eq_of_lt (by omega) (by omega)]
  omega
theorem out_mod {d : Dev} (hv : devB d = true) {t p : Int} (p0 : 0 ≤ p) (p1 : p ≤ 1) : (t * perI d + 5 + p) % perI d = 5 + p := by
  obtain ⟨h1, h2⟩ := per_rng hv
  rw [show t * perI d + 5 + p = (5 + p) + t * perI d by omega, Int.add_mul_emod_self_right, Int.emod_eq_of_lt (by omega) (by omega)]
theorem base_mem {d : Dev} {t p y : Int} (ht : tOk d t = true) (h : y ∈ baseS d t p) : ∃ q, 0 ≤ q ∧ q ≤ 1 ∧ y = t * perI d + 5 + q := by
  have ho := outPins_rng d t
  unfold baseS at h
  split at h
  · split at h
    · simp only [List.mem_cons, List.not_mem_nil, or_false] at h
      rcases h with rfl | rfl
      · exact ⟨0, by omega, by omega, by unfold outPinI; rw [if_pos ⟨ht, by omega, by omega⟩]⟩
      · exact ⟨1, by omega, by omega, by unfold outPinI; rw [if_pos ⟨ht, by omega, by omega⟩]⟩
    · simp only [List.mem_cons, List.not_mem_nil, or_false] at h
      subst h
      exact ⟨0, by omega, by omega, by unfold outPinI; rw [if_pos ⟨ht, by omega, by omega⟩]⟩
  · simp at h
theorem base_nodup {d : Dev} {t p : Int} (ht : tOk d t = true) : (baseS d t p).Nodup := by
  have ho := outPins_rng d t
  unfold baseS
  split
  · split
    · rename_i h
      have e0 : outPinI d t 0 = t * perI d + 5 + 0 := by unfold outPinI; rw [if_pos ⟨ht, by omega, by omega⟩]
      have e1 : outPinI d t 1 = t * perI d + 5 + 1 := by unfold outPinI; rw [if_pos ⟨ht, by omega, by omega⟩]
      rw [e0, e1, List.nodup_cons]
      exact ⟨by simp; omega, by simp⟩
    · simp
  · exact List.nodup_nil
theorem step_inj {d : Dev} {t r s s' : Int} (ht : tOk d t = true) (r0 : 0 ≤ r) (r1 : r ≤ 3) (s0 : 0 ≤ s) (s1 : s ≤ 6) (s0' : 0 ≤ s') (s1' : s' ≤ 6) (h : 0 ≤ stepI d t r s) (e : stepI d t r s = stepI d t r s') : s = s' := by
  have e1 := tileStep_eq ht r0 r1 s0 s1
  have e2 := tileStep_eq ht r0 r1 s0' s1'
  have h1 := (step_back d t r s ht r0 r1 s0 s1 (by omega)).2.1
  have h2 := (step_back d t r s' ht r0 r1 s0' s1' (by omega)).2.1
  rw [e1] at h1
  rw [e2] at h2
  rw [← h1, ← h2, e]
theorem sO_nodup {d : Dev} {t p dir track : Int} (ht : tOk d t = true) : (sO d t p dir track 4).Nodup := by
  obtain ⟨hv, _, _⟩ := (tOk_iff d t).1 ht
  have memK : ∀ (r : Nat), r < 4 → ∀ (k : Nat), k < d.T.toNat → ∀ y, y ∈ gK d t p dir track r k → ∃ s : Nat, s < 1 + k % 2 ∧ y ∈ gS d t p r k s := by
    intro r hr k hk y hy
    unfold gK at hy
    split at hy
    · simp at hy
    · obtain ⟨s, hs, h⟩ := List.mem_flatMap.1 hy
      exact ⟨s, List.mem_range.1 hs, h⟩
  have val : ∀ (r : Nat), r < 4 → ∀ (k : Nat), k < d.T.toNat → ∀ (s : Nat), s < 1 + k % 2 → ∀ y, y ∈ gS d t p r k s → y = wireN d (stepI d t (((r : Int) + 2) % 4) ((s : Int) + 1)) r k ∧ 0 ≤ stepI d t (((r : Int) + 2) % 4) ((s : Int) + 1) := by
    intro r hr k hk s hs y hy
    obtain ⟨_, c1, c2, c3⟩ := (gS_mem ht (by omega) (by omega) (by omega) (by omega) (by omega)).1 hy
    exact ⟨c3.trans (wireNodeI_nonneg c2), c1⟩
  rw [sO_app]
  refine List.nodup_append.2 ⟨base_nodup ht, ?_, ?_⟩
  · refine List.pairwise_flatMap.2 ⟨fun r hr => ?_, ?_⟩
    · rw [List.mem_range] at hr
      refine List.pairwise_flatMap.2 ⟨fun k hk => ?_, ?_⟩
      · rw [List.mem_range] at hk
        unfold gK
        split
        · exact .nil
        · refine List.pairwise_flatMap.2 ⟨fun s hs => ?_, ?_⟩
          · unfold gS; split
            · exact .nil
            · split
              · simp
              · exact .nil
          · refine (List.pairwise_lt_range).imp_of_mem fun {s s'} hs hs' hlt x hx y hy hxy => ?_
            rw [List.mem_range] at hs hs'
            obtain ⟨a1, a2⟩ := val r hr k hk s hs x hx
            obtain ⟨b1, b2⟩ := val r hr k hk s' hs' y hy
            obtain ⟨c1, _, _⟩ := wireN_inj hv (by omega) (by omega) (by omega) (by omega) (by omega) (by omega) (by omega) (by omega) (a1.symm.trans (hxy.trans b1))
            have := step_inj ht (by omega) (by omega) (by omega) (by omega) (by omega) (by omega) a2 c1
            omega
      · refine (List.pairwise_lt_range).imp_of_mem fun {k k'} hk hk' hlt x hx y hy hxy => ?_
        rw [List.mem_range] at hk hk'
        obtain ⟨s, hs, hx⟩ := memK r hr k hk x hx
        obtain ⟨s', hs', hy⟩ := memK r hr k' hk' y hy
        obtain ⟨a1, a2⟩ := val r hr k hk s hs x hx
        obtain ⟨b1, b2⟩ := val r hr k' hk' s' hs' y hy
        obtain ⟨_, _, c1⟩ := wireN_inj hv (by omega) (by omega) (by omega) (by omega) (by omega) (by omega) (by omega) (by omega) (a1.symm.trans (hxy.trans b1))
        omega
    · refine (List.pairwise_lt_range).imp_of_mem fun {r r'} hr hr' hlt x hx y hy hxy => ?_
      rw [List.mem_range] at hr hr'
      obtain ⟨k, hk, hx⟩ := List.mem_flatMap.1 hx
      obtain ⟨k', hk', hy⟩ := List.mem_flatMap.1 hy
      rw [List.mem_range] at hk hk'
      obtain ⟨s, hs, hx⟩ := memK r hr k hk x hx
      obtain ⟨s', hs', hy⟩ := memK r' hr' k' hk' y hy
      obtain ⟨a1, a2⟩ := val r hr k hk s hs x hx
      obtain ⟨b1, b2⟩ := val r' hr' k' hk' s' hs' y hy
      obtain ⟨_, c1, _⟩ := wireN_inj hv (by omega) (by omega) (by omega) (by omega) (by omega) (by omega) (by omega) (by omega) (a1.symm.trans (hxy.trans b1))
      omega
  · intro x hx y hy hxy
    obtain ⟨q, q0, q1, rfl⟩ := base_mem ht hx
    obtain ⟨r, hr, hy⟩ := List.mem_flatMap.1 hy
    obtain ⟨k, hk, hy⟩ := List.mem_flatMap.1 hy
    rw [List.mem_range] at hr hk
    obtain ⟨s, hs, hy⟩ := memK r hr k hk y hy
    obtain ⟨a1, _⟩ := val r hr k hk s hs y hy
    have e1 := out_mod hv (t := t) q0 q1
    have e2 := wireN_mod hv (f := stepI d t (((r : Int) + 2) % 4) ((s : Int) + 1)) (r := (r : Int)) (k := (k : Int)) (by omega) (by omega) (by omega) (by omega)
    rw [← a1, ← hxy, e1] at e2
    omega
theorem wireO_sorted (d : Dev) (t dir track : Int) (j : Nat) : (wireO d t dir track j).Pairwise (· < ·) := by
  refine fold_sorted _ (fun xs r h => ?_) _ _ (fold_sorted _ (fun xs p h => ?_) _ _ .nil)
  · unfold wireR
    split
    · exact h
    · refine fold_sorted _ (fun xs k h => ?_) _ _ h
      unfold wireW
      split
      · exact insI_sorted _ _ h
      · exact h
  · unfold outS
    split
    · exact insI_sorted _ _ h
    · exact h
theorem wireO_mem (d : Dev) (t dir track : Int) (y : Int) : y ∈ wireO d t dir track 4 ↔ (∃ p ∈ List.range 2, 0 ≤ outPinI d t (p : Nat) ∧ y = outPinI d t (p : Nat)) ∨ ∃ r ∈ List.range 4, ¬ ((r : Nat) : Int) = (dir + 2) % 4 ∧ ∃ k ∈ [track, (track + 1) % d.T], 0 ≤ stepI d t (((r : Nat) + 2) % 4) (1 + k % 2) ∧ y = wireNodeI d (stepI d t (((r : Nat) + 2) % 4) (1 + k % 2)) (r : Nat) k := by
  unfold wireO
  rw [fold_ins (P := fun (r : Nat) y => ¬ ((r : Nat) : Int) = (dir + 2) % 4 ∧ ∃ k ∈ [track, (track + 1) % d.T], 0 ≤ stepI d t (((r : Nat) + 2) % 4) (1 + k % 2) ∧ y = wireNodeI d (stepI d t (((r : Nat) + 2) % 4) (1 + k % 2)) (r : Nat) k)]
  · unfold outO
    rw [fold_ins (P := fun (p : Nat) y => 0 ≤ outPinI d t (p : Nat) ∧ y = outPinI d t (p : Nat))]
    · simp
    · intro xs p y
      unfold outS
      split
      · rename_i h; rw [insI_mem]; simp only [h, true_and]; exact Or.comm
      · rename_i h; simp [h]
  · intro xs r y
    unfold wireR
    split
    · rename_i h; simp [h]
    · rename_i h
      unfold wireK
      rw [fold_ins (P := fun (k : Int) y => 0 ≤ stepI d t (((r : Nat) + 2) % 4) (1 + k % 2) ∧ y = wireNodeI d (stepI d t (((r : Nat) + 2) % 4) (1 + k % 2)) (r : Nat) k)]
      · simp only [h, not_false_eq_true, true_and]; rfl
      · intro xs k y
        unfold wireW
        split
        · rename_i h; rw [insI_mem]; simp only [h, true_and]; exact Or.comm
        · rename_i h; simp [h]
theorem src_eq (d : Dev) (n : Int) : srcS d n = srcI d n := by
  unfold srcS srcI
  cases hn : nodeOkI d n with
  | false => simp
  | true =>
    obtain ⟨hv, n0, n1⟩ := nodeOk_rng hn
    obtain ⟨p0, p1, p2, p3, ht⟩ := place_rng hv n0 n1
    obtain ⟨-, -, ⟨l1, l2⟩, -⟩ := (devB_iff d).1 hv
    obtain ⟨dg0, dg1, dg2, dg3⟩ := dir_rng hv p2 p3
    generalize n % perI d = p at *
    generalize n / perI d = t at *
    simp only [true_and, if_true]
    by_cases h5 : p < 5
    · rw [if_pos ⟨by omega, by omega⟩, if_pos h5]
      refine sorted_ext _ _ (sortR_strict _ (sO_nodup ht)) (pinO_sorted d t p 4) fun y => ?_
      rw [(sortR_perm _).mem_iff, sO_mem ht, pinO_mem]
      have hb : baseS d t p = [] := if_neg (by omega)
      rw [hb]
      constructor
      · rintro (h | ⟨r, hr, k, hk, hs, s, hs2, _, hc⟩)
        · simp at h
        · rw [List.mem_range] at hk
          exact ⟨r, hr, k, by simpa using hk, fun hh => hs (.inr ⟨by omega, hh.1, by omega⟩), s, hs2, hc⟩
      · rintro ⟨r, hr, k, hk, hs, s, hs2, hc⟩
        refine .inr ⟨r, hr, k, hk, fun hh => ?_, s, hs2, by omega, hc⟩
        rcases hh with hh | hh
        · omega
        · exact hs ⟨hh.2.1, by omega⟩
    · by_cases h7 : p < 7
      · rw [if_neg (by omega), if_neg h5, if_pos h7]
      · rw [if_pos ⟨by omega, by omega⟩, if_neg h5, if_neg h7]
        have hd : dirI d p = (p - 7) / d.T := if_pos (by omega)
        have hk : trackI d p = (p - 7) % d.T := if_pos (by omega)
        rw [hd] at dg0 dg1 ⊢
        rw [hk] at dg2 dg3 ⊢
        generalize (p - 7) / d.T = dir at *
        generalize (p - 7) % d.T = track at *
        have hmr := mod_rng (a := track + 1) l1
        have ho := outPins_rng d t
        refine sorted_ext _ _ (sortR_strict _ (sO_nodup ht)) (wireO_sorted d t dir track 4) fun y => ?_
        rw [(sortR_perm _).mem_iff, sO_mem ht, wireO_mem]
        have e0 : outPinI d t 0 = t * perI d + 5 + 0 := by unfold outPinI; rw [if_pos ⟨ht, by omega, by omega⟩]
        have hpm := per_mul hv (by omega) p1
        have hbase : y ∈ baseS d t p ↔ ∃ q ∈ List.range 2, 0 ≤ outPinI d t ((q : Nat) : Int) ∧ y = outPinI d t ((q : Nat) : Int) := by
          unfold baseS
          rw [if_pos (by omega)]
          have e2 : List.range 2 = [0, 1] := rfl
          rw [e2]
          by_cases h1 : 1 < outPinsI (kindI d t)
          · have e1 : outPinI d t 1 = t * perI d + 5 + 1 := by unfold outPinI; rw [if_pos ⟨ht, by omega, by omega⟩]
            rw [if_pos h1]
            simp only [List.mem_cons, List.not_mem_nil, or_false, exists_eq_or_imp, exists_eq_left, Int.natCast_zero, Int.natCast_one]
            constructor
            · rintro (h | h)
              · exact .inl ⟨by omega, h⟩
              · exact .inr ⟨by omega, h⟩
            · rintro (h | h)
              · exact .inl h.2
              · exact .inr h.2
          · have e1 : outPinI d t 1 = -1 := by unfold outPinI; rw [if_neg (by rintro ⟨_, _, _⟩; omega)]
            rw [if_neg h1]
            simp only [List.mem_cons, List.not_mem_nil, or_false, exists_eq_or_imp, exists_eq_left, Int.natCast_zero, Int.natCast_one]
            constructor
            · intro h; exact .inl ⟨by omega, h⟩
            · rintro (h | h)
              · exact h.2
              · omega
        rw [hbase]
        constructor
        · rintro (h | ⟨r, hr, k, hk, hs, s, hs2, hs3, hc⟩)
          · exact .inl h
          · rw [List.mem_range] at hk hs2
            refine .inr ⟨r, hr, fun e => hs (.inl ⟨by omega, .inl e⟩), (k : Int), ?_, ?_⟩
            · have : (k : Int) = track ∨ (k : Int) = (track + 1) % d.T := by
                by_cases e : (k : Int) = track
                · exact .inl e
                · by_cases e2 : (k : Int) = (track + 1) % d.T
                  · exact .inr e2
                  · exact absurd (.inl ⟨by omega, .inr ⟨e, e2⟩⟩) hs
              rcases this with e | e <;> simp [← e]
            · have es : (s : Int) + 1 = 1 + (k : Int) % 2 := by omega
              rw [es] at hc
              exact ⟨hc.1, hc.2.2⟩
        · rintro (h | ⟨r, hr, hne, k, hk, h1, h2⟩)
          · exact .inl h
          · rw [List.mem_range] at hr
            have hkr : (k = track ∨ k = (track + 1) % d.T) := by simpa using hk
            have hk0 : 0 ≤ k ∧ k ≤ d.T - 1 := by rcases hkr with e | e <;> omega
            obtain ⟨m, rfl⟩ := Int.eq_ofNat_of_zero_le hk0.1
            refine .inr ⟨r, List.mem_range.2 hr, m, List.mem_range.2 (by omega), ?_, m % 2, List.mem_range.2 (by omega), by omega, ?_⟩
            · rintro (⟨_, hh | hh⟩ | hh)
              · exact hne hh
              · rcases hkr with e | e
                · exact hh.1 e
                · exact hh.2 e
              · omega
            · have es : ((m % 2 : Nat) : Int) + 1 = 1 + (m : Int) % 2 := by omega
              unfold Cand
              rw [es]
              refine ⟨h1, ?_, h2⟩
              have e1 := tileStep_eq ht (dir := ((r : Int) + 2) % 4) (s := 1 + (m : Int) % 2) (by omega) (by omega) (by omega) (by omega)
              have hb := step_back d t (((r : Int) + 2) % 4) (1 + (m : Int) % 2) ht (by omega) (by omega) (by omega) (by omega) (by omega)
              rw [e1] at hb
              have hto := hb.2.2
              have e2 := tileStep_eq hto (dir := ((((r : Int) + 2) % 4) + 2) % 4) (s := 1 + (m : Int) % 2) (by omega) (by omega) (by omega) (by omega)
              have er : ((((r : Int) + 2) % 4) + 2) % 4 = (r : Int) := by omega
              rw [e2, er] at hb
              unfold wireNodeI
              rw [if_pos (by rw [hb.1]; omega)]
              obtain ⟨hv2, f0, f1⟩ := (tOk_iff _ _).1 hto
              have g1 := per_mul hv2 f0 f1
              have g2 := dirT_rng hv (dir := (r : Int)) (by omega) (by omega)
              unfold wireN
              omega
open Go.RowKit
theorem fold_bound {α : Type} (f : List Int → α → List Int) (c : Nat) (hf : ∀ xs a, (f xs a).length ≤ xs.length + c) : ∀ (l : List α) (xs : List Int), (l.foldl f xs).length ≤ xs.length + l.length * c
  | [], xs => by simp
  | a :: l, xs => by
    have h1 := fold_bound f c hf l (f xs a)
    have h2 := hf xs a
    have h3 : (l.length + 1) * c = l.length * c + c := by rw [Nat.add_mul, Nat.one_mul]
    simp only [List.foldl_cons, List.length_cons]
    omega
theorem BRow.drew {k : IntKind} {w : World} {a : Option Addr} {len cap : Nat} {zs : List Int} (h : BRow k w a len cap zs) : BRow k w.drew a len cap zs := h.below (bel_drew (Below.refl _ _))
theorem wire_parts {d : Dev} {t dir k : Int} (ht : tOk d t = true) (r0 : 0 ≤ dir) (r1 : dir ≤ 3) (k0 : 0 ≤ k) (k1_o : k ≤ d.T - 1) (hs : 0 ≤ stepI d t dir (1 + k % 2)) :
    0 ≤ wireN d t dir k ∧ wireN d t dir k ≤ allI d - 1 ∧ wireN d t dir k / perI d = t ∧ 7 ≤ wireN d t dir k % perI d ∧ (wireN d t dir k % perI d - 7) / d.T = dir ∧ (wireN d t dir k % perI d - 7) % d.T = k ∧ nodeOkI d (wireN d t dir k) = true := by
  obtain ⟨hv, t0, t1⟩ := (tOk_iff d t).1 ht
  obtain ⟨-, -, ⟨l1, l2⟩, -⟩ := (devB_iff d).1 hv
  have e9 : 0 ≤ dir * d.T ∧ dir * d.T ≤ 3 * d.T := ⟨Int.mul_nonneg r0 (by omega), Int.mul_le_mul_of_nonneg_right r1 (by omega)⟩
  have hp : perI d = 7 + 4 * d.T := rfl
  have e : wireN d t dir k = t * perI d + (7 + dir * d.T + k) := by unfold wireN; omega
  obtain ⟨f1, f2⟩ := xy_of (W := perI d) (x := 7 + dir * d.T + k) (y := t) (by omega) (by omega) (by omega)
  obtain ⟨f3, f4⟩ := xy_of (W := d.T) (x := k) (y := dir) (by omega) k0 (by omega)
  have e8 : 0 ≤ t * perI d := Int.mul_nonneg t0 (by omega)
  have e7 : t * perI d ≤ (d.W * d.H - 1) * perI d := Int.mul_le_mul_of_nonneg_right t1 (by omega)
  have e6 : (d.W * d.H - 1) * perI d = allI d - perI d := by rw [Int.sub_mul, Int.one_mul]; rfl
  rw [e, f1, f2, show 7 + dir * d.T + k - 7 = dir * d.T + k by omega, f3, f4]
  refine ⟨by omega, by omega, rfl, by omega, rfl, rfl, ?_⟩
  rw [nodeOk_in hv (inR_true (by omega) (by omega)), f1, f2, nodeB_wire (by omega), show 7 + dir * d.T + k - 7 = dir * d.T + k by omega, f3, f4, decide_eq_true hs]
set_option maxHeartbeats 1000000 in
theorem implRouteNodes_yes (d : Dev) (hv : devB d = true) (w : World) :
    Calls Try.prog 35 #[.agg #[.int .i64 d.W, .int .i64 d.H, .int .i64 d.T, .int .i64 d.R]] w fun e w' => e = .returned (.int .i64 (allI d)) ∧ Below w.heap.size w w' := by
  have hS0 := devS_start w d
  have HS0 := Lib.hid hS0
  go_enter Try.func35, Try.ntmps35
  go_wp2_with fail
  refine (implDeviceOk_any d _).mono ?_
  rintro e w1 ⟨rfl, hb1⟩
  have hS1 := devS_step HS0.out hb1
  have HS1 := Lib.hid hS1
  clear hS0
  obtain ⟨c0, c1, c2, c3, -⟩ := hS1
  clear hb1
  have hz1 : w.heap.size < w1.heap.size := World.block_lt_of_cell? _ _ c0
  go_wp2_with fail
  refine (implAll_any d hv _).mono ?_
  rintro e w2 ⟨rfl, hb2⟩
  have hS2 := devS_step HS1.out hb2
  have HS2 := Lib.hid hS2
  clear c0 c1 c2 c3
  obtain ⟨c0, c1, c2, c3, -⟩ := hS2
  clear hb2
  have hz2 : w.heap.size < w2.heap.size := World.block_lt_of_cell? _ _ c0
  go_wp2
  go_ret
  exact ⟨rfl, devS_end HS2.out⟩
theorem stepI_back {d : Dev} {t r s : Int} (ht : tOk d t = true) (r0 : 0 ≤ r) (r1 : r ≤ 3) (s0 : 0 ≤ s) (s1 : s ≤ 6) (h : 0 ≤ stepI d t r s) : stepI d (stepI d t r s) ((r + 2) % 4) s = t ∧ tOk d (stepI d t r s) = true := by
  have e1 := tileStep_eq ht r0 r1 s0 s1
  obtain ⟨h1, _, h3⟩ := step_back d t r s ht r0 r1 s0 s1 (by omega)
  rw [e1] at h1 h3
  rw [tileStep_eq h3 (by omega) (by omega) s0 s1] at h1
  exact ⟨h1, h3⟩
def Loc (d : Dev) (k y : Int) : Prop := nodeOkI d y = true ∧ ((5 ≤ y % perI d ∧ y % perI d < 7 ∧ y / perI d = k / perI d ∧ 7 ≤ k % perI d) ∨
  (7 ≤ y % perI d ∧ ∃ s : Int, 1 ≤ s ∧ s ≤ 1 + (y % perI d - 7) % d.T % 2 ∧ stepI d (y / perI d) ((y % perI d - 7) / d.T) s = k / perI d ∧ (7 ≤ k % perI d → s = 1 + (y % perI d - 7) % d.T % 2 ∧ (y % perI d - 7) / d.T ≠ ((k % perI d - 7) / d.T + 2) % 4)))
theorem loc_wire {d : Dev} {k r q s : Int} (ht : tOk d (k / perI d) = true) (r0 : 0 ≤ r) (r1 : r ≤ 3) (q0 : 0 ≤ q) (q1 : q ≤ d.T - 1) (s0 : 1 ≤ s) (s1 : s ≤ 1 + q % 2) (h1 : 0 ≤ stepI d (k / perI d) ((r + 2) % 4) s)
    (h2 : 0 ≤ stepI d (stepI d (k / perI d) ((r + 2) % 4) s) r (1 + q % 2)) (h3 : 7 ≤ k % perI d → s = 1 + q % 2 ∧ r ≠ ((k % perI d - 7) / d.T + 2) % 4) : Loc d k (wireN d (stepI d (k / perI d) ((r + 2) % 4) s) r q) := by
  obtain ⟨b1, b2⟩ := stepI_back ht (show 0 ≤ (r + 2) % 4 by omega) (by omega) (show 0 ≤ s by omega) (by omega) h1
  rw [show ((r + 2) % 4 + 2) % 4 = r by omega] at b1
  obtain ⟨v0, v1, v2, v3, v4, v5, v6⟩ := wire_parts b2 r0 r1 q0 q1 h2
  refine ⟨v6, .inr ⟨v3, s, s0, ?_, ?_, ?_⟩⟩
  · rw [v5]; exact s1
  · rw [v2, v4]; exact b1
  · rw [v4, v5]; exact h3
theorem loc_out {d : Dev} {k p : Int} (ht : tOk d (k / perI d) = true) (hk : 7 ≤ k % perI d) (p0 : 0 ≤ p) (h : 0 ≤ outPinI d (k / perI d) p) : Loc d k (outPinI d (k / perI d) p) := by
  obtain ⟨hv, t0, t1⟩ := (tOk_iff _ _).1 ht
  obtain ⟨q1, q2⟩ := per_rng hv
  obtain ⟨o1, o2⟩ := outPins_rng d (k / perI d)
  unfold outPinI at *
  split at h
  · rename_i hh
    rw [if_pos hh]
    obtain ⟨-, h2, h3⟩ := hh
    obtain ⟨f1, f2⟩ := xy_of (W := perI d) (x := 5 + p) (y := k / perI d) (by omega) (by omega) (by omega)
    have e : k / perI d * perI d + 5 + p = k / perI d * perI d + (5 + p) := by omega
    have m := per_mul hv t0 t1
    have e7 : k / perI d * perI d ≤ (d.W * d.H - 1) * perI d := Int.mul_le_mul_of_nonneg_right t1 (by omega)
    have e6 : (d.W * d.H - 1) * perI d = allI d - perI d := by rw [Int.sub_mul, Int.one_mul]; rfl
    rw [e]
    refine ⟨?_, .inl ⟨by omega, by omega, f2, hk⟩⟩
    rw [nodeOk_in hv (inR_true (by omega) (by omega)), f2, f1, nodeB_out (by omega) (by omega)]
    exact decide_eq_true (by omega)
  · omega
end Go.Proofs.Ytagjmgfcbmbkhaa
