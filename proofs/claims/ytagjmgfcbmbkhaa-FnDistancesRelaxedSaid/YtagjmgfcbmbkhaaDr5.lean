/- Texts of the law FnDistancesRelaxed, part 5: what it uses. -/
import Derived.Test.YtagjmgfcbmbkhaaDr4
set_option linter.unusedVariables false
set_option linter.unusedSimpArgs false
namespace Go.Proofs.Ytagjmgfcbmbkhaa
open Go.RowKit Go.ChangeShapes
open Go.RowKit
open Go.Maps
set_option maxHeartbeats 4000000 in
set_option maxRecDepth 100000 in
theorem l33Costs_mut (g : Nat) (a : Option Addr) (len cap : Nat) (z : List Int) (d : Dev) (w0 : World) (l : List HP) (w : World) (hm0 : Mem w0 (curE g a len cap :: l) w) (hb : BRow .u8 w0 a len cap z) (hd : devB d = true) :
  Calls Try.prog 49 #[.pointer (some ⟨g, 0, none⟩), .agg #[.int .i64 d.W, .int .i64 d.H, .int .i64 d.T, .int .i64 d.R]] w (fun e_ w_ => ∃ v_ p_, e_ = .returned v_ ∧ (fun u_ p_ => ∃ cs : List Int, p_ = bigE [curE g a len cap, rowE 3 1 u_ cs.length (cs.map (Value.int .i64))] ∧ u_.oneCell' = true ∧ (cs.length : Int) = allI d ∧ ∀ k, k < cs.length → 1 ≤ cs.getD k 0 ∧ cs.getD k 0 ≤ 50) v_ p_ ∧ Mem w0 (p_ :: l) w_) := by
 obtain ⟨ra1, ra2⟩ := all_rng hd
 refine calls_hcM (N := 26) (args := [.pointer (some ⟨g, 0, none⟩), .agg #[.int .i64 d.W, .int .i64 d.H, .int .i64 d.T, .int .i64 d.R]]) Try.func49 rfl rfl hm0 ?_
 refine hc_less _ (sx 0 rfl (sx 1 rfl (sub_nil _))) (.refl _) ?_
 refine hc_seq ?_
 refine hc_region ?_
 refine hl_box rfl rfl rfl (rq_box rfl rfl) ?_
 intro b1
 refine hl_v rfl rfl rfl (rv_ev rfl) ?_
 refine hl_less (sx 0 rfl (sx 1 rfl (sx 3 rfl (sx 4 rfl (sub_nil _))))) (.refl _) ?_
 refine hl_nil ?_
 refine hq_then ?_
 refine hc_seq ?_
 refine hc_region ?_
 refine hl_row rfl rfl rfl (rq_slice0 (s := 1) rfl Try.underlying26 (by kernel_rfl)) ?_
 intro g2
 refine hl_v rfl rfl rfl (rv_ev rfl) ?_
 refine hl_less (sx 0 rfl (sx 1 rfl (sx 3 rfl (sx 4 rfl (sx 5 rfl (sub_nil _)))))) (.refl _) ?_
 refine hl_nil ?_
 refine hq_then ?_
 refine hc_seq ?_
 refine hc_region ?_
 refine hl_v rfl rfl rfl (rv_ev rfl) ?_
 refine hl_row rfl rfl rfl (rq_buildSlice (z := .int .i64 0) (s := 1) (cs := ([1, 5, 50].map (Value.int .i64))) rfl Try.underlying26 (by kernel_rfl) (by decide) rfl (by kernel_rfl) rfl) ?_
 intro g3
 refine hl_callM2 (R := (fun u_ p_ => (∃ x : Int, u_ = .int .i64 x ∧ x ∈ [1, 5, 50]) ∧ p_ = curE g a len cap)) 3 rfl rfl (by kernel_rfl) rfl rfl (fun L w hX hm => pickInt_mut g a len cap z (.slice (some ⟨g3, 0, none⟩) 3 3) [1, 5, 50] _ _ _ hm hb (fun w hm => (rd_row (l := (rowE 3 1 (.slice (some ⟨g3, 0, none⟩) 3 3) 3 ([1, 5, 50].map (Value.int .i64)) :: rowE 3 1 (.slice (some ⟨g2, 0, none⟩) 0 0) 0 ([]) :: boxE b1 #[.int .i64 d.W, .int .i64 d.H, .int .i64 d.T, .int .i64 d.R] 25 :: l)) 0 rfl) w (hX w hm)) (by decide)) ?_
 intro v4 p5 hR6
 obtain ⟨⟨xhR6, rfl, mhR6⟩, rfl⟩ := hR6
 have qhR6 := mem_three mhR6
 refine hl_eqL (l' := (rowE 3 1 (.slice (some ⟨g3, 0, none⟩) 3 3) 3 ([1, 5, 50].map (Value.int .i64)) :: rowE 3 1 (.slice (some ⟨g2, 0, none⟩) 0 0) 0 ([]) :: boxE b1 #[.int .i64 d.W, .int .i64 d.H, .int .i64 d.T, .int .i64 d.R] 25 :: curE g a len cap :: l)) rfl ?_
 refine hl_v rfl rfl rfl (rv_ev rfl) ?_
 refine hl_less (sx 0 rfl (sx 1 rfl (sx 3 rfl (sx 4 rfl (sx 5 rfl (sx 6 rfl (sub_nil _))))))) (.refl _) ?_
 refine hl_nil ?_
 refine hq_then ?_
 refine hc_seq ?_
 refine hc_seq ?_
 refine hc_region ?_
 refine hl_v rfl rfl rfl (rv_ev rfl) ?_
 refine hl_less (sx 0 rfl (sx 1 rfl (sx 3 rfl (sx 4 rfl (sx 5 rfl (sx 6 rfl (sx 7 rfl (sub_nil _)))))))) (.refl _) ?_
 refine hl_nil ?_
 refine hq_then ?_
 refine hc_block ?_
 refine hc_loop3 (α := Nat) (β := Value) (γ := List Int) (fun k u zs => (rowE 3 1 u zs.length (zs.map (Value.int .i64)) :: boxE b1 #[.int .i64 d.W, .int .i64 d.H, .int .i64 d.T, .int .i64 d.R] 25 :: curE g a len cap :: l)) (fun k u zs => [(0, .pointer (some ⟨g, 0, none⟩)), (1, .agg #[.int .i64 d.W, .int .i64 d.H, .int .i64 d.T, .int .i64 d.R]), (3, .pointer (some ⟨b1, 0, none⟩)), (4, .slice none 0 0), (5, u), (6, .int .i64 xhR6), (7, .int .i64 (k : Int))]) (fun k u zs => (k : Int) ≤ allI d ∧ zs.length = k ∧ ∀ i, i < zs.length → 1 ≤ zs.getD i 0 ∧ zs.getD i 0 ≤ 50) (fun k u zs => (allI d).toNat - k) 0 _ [] ⟨by omega, rfl, fun i h => absurd h (by simp)⟩ (sx 0 rfl (sx 1 rfl (sx 3 rfl (sx 4 rfl (sx 5 rfl (sx 6 rfl (sx 7 rfl (sub_nil _)))))))) ((.cons _ (.cons_cons _ (.cons_cons _ (.cons_cons _ (.refl _)))))) ?_
 intro k u zs hi7
 obtain ⟨hk, hzl, hzr⟩ := hi7
 refine hc_seq ?_
 refine hc_seq ?_
 refine hc_region ?_
 refine hl_v rfl rfl rfl (rv_ev rfl) ?_
 refine hl_v rfl rfl rfl (rv_loadN (cs := [.int .i64 d.W, .int .i64 d.H, .int .i64 d.T, .int .i64 d.R]) rfl (by kernel_rfl) (by kernel_rfl) rfl rfl (box_part 1 rfl 0 rfl)) ?_
 refine hl_callV rfl rfl rfl (rq_call (by kernel_rfl) rfl (fun w hm => ret_ans (specRouteNodes_yes d hd w))) ?_
 refine hl_lss rfl rfl rfl rfl rfl rfl (fun h8 => ?_) (fun h8 => ?_)
 ·
  refine hl_less (sx 0 rfl (sx 1 rfl (sx 3 rfl (sx 4 rfl (sx 5 rfl (sx 6 rfl (sx 7 rfl (sx 15 rfl (sub_nil _))))))))) (.refl _) ?_
  refine hl_nil ?_
  refine hq_then ?_
  refine hc_true rfl ?_
  refine hc_skip ?_
  refine hq_then ?_
  refine hc_seq ?_
  refine hc_block ?_
  refine hc_region ?_
  refine hl_v rfl rfl rfl (rv_ev rfl) ?_
  refine hl_v rfl rfl rfl (rv_ev rfl) ?_
  refine hl_v rfl rfl rfl (rv_ev rfl) ?_
  refine hl_callM (R := (fun u_ p_ => (∃ x_ : Int, u_ = .int .i64 x_ ∧ 0 ≤ x_ ∧ x_ < xhR6) ∧ p_ = curE g a len cap)) 2 rfl rfl (by kernel_rfl) rfl rfl (fun l' w hm => belowN_mut g a len cap z xhR6 _ _ _ hm hb (by constructor <;> omega)) ?_
  intro v9 p10 hR11
  obtain ⟨⟨xhR11, rfl, xhR110, xhR111⟩, rfl⟩ := hR11
  refine hl_eqL (l' := (rowE 3 1 u zs.length (zs.map (Value.int .i64)) :: boxE b1 #[.int .i64 d.W, .int .i64 d.H, .int .i64 d.T, .int .i64 d.R] 25 :: curE g a len cap :: l)) rfl ?_
  refine hl_v rfl rfl rfl (rv_add rfl rfl rfl (by constructor <;> omega)) ?_
  refine hl_row rfl rfl rfl (rq_buildSlice (z := .int .i64 0) (s := 1) (cs := ([1 + xhR11].map (Value.int .i64))) rfl Try.underlying26 (by kernel_rfl) (by decide) rfl (by kernel_rfl) rfl) ?_
  intro g12
  refine hl_append (i := 1) (z := .int .i64 0) (bytes := 8) (n' := (zs ++ ([1 + xhR11])).length) (xs' := ((zs ++ ([1 + xhR11])).map (Value.int .i64))) (L := fun v13 => (rowE 3 1 (.slice (some ⟨g12, 0, none⟩) 1 1) 1 ([1 + xhR11].map (Value.int .i64)) :: rowE 3 1 v13 ((zs ++ ([1 + xhR11])).length) ((zs ++ ([1 + xhR11])).map (Value.int .i64)) :: boxE b1 #[.int .i64 d.W, .int .i64 d.H, .int .i64 d.T, .int .i64 d.R] 25 :: curE g a len cap :: l)) rfl rfl rfl rfl Try.underlying26 (by kernel_rfl) (by kernel_rfl) rfl rfl rfl (rd_row 0 rfl) (ints_one _) (by first | omega | (simp; omega)) (len_app zs ([1 + xhR11])) (ints_app zs ([1 + xhR11])) (fun _ => rfl) ?_
  intro v13
  refine hl_v rfl rfl rfl (rv_ev rfl) ?_
  refine hl_less (sx 0 rfl (sx 1 rfl (sx 3 rfl (sx 4 rfl (sx 5 rfl (sx 6 rfl (sx 7 rfl (sx 15 rfl (sub_nil _))))))))) (.refl _) ?_
  refine hl_nil ?_
  refine hq_block_normal ?_
  refine hq_then ?_
  refine hc_region ?_
  refine hl_v rfl rfl rfl (rv_ev rfl) ?_
  refine hl_v rfl rfl rfl (rv_add rfl rfl rfl (by constructor <;> omega)) ?_
  refine hl_v rfl rfl rfl (rv_ev rfl) ?_
  refine hl_less (sx 0 rfl (sx 1 rfl (sx 3 rfl (sx 4 rfl (sx 5 rfl (sx 6 rfl (sx 7 rfl (sx 15 rfl (sub_nil _))))))))) (.refl _) ?_
  refine hl_nil ?_
  exact hq_round3 (k + 1) v13 (zs ++ ([1 + xhR11])) ⟨by omega, by simp; omega, app_rng hzr (by omega)⟩ (by omega) (sx 0 rfl (sx 1 rfl (sx 3 rfl (sx 4 rfl (sx 5 rfl (sx 6 rfl (sx 7 rfl (sub_nil _)))))))) ((.cons _ (.cons_cons _ (.cons_cons _ (.cons_cons _ (.refl _))))))
 ·
  refine hl_less (sx 0 rfl (sx 1 rfl (sx 3 rfl (sx 4 rfl (sx 5 rfl (sx 6 rfl (sx 7 rfl (sx 15 rfl (sub_nil _))))))))) (.refl _) ?_
  refine hl_nil ?_
  refine hq_then ?_
  refine hc_false rfl ?_
  refine hc_exit ?_
  refine hq_then_exit ?_
  refine hq_then_exit ?_
  refine hq_block_exit ?_
  refine hq_then ?_
  refine hc_seq ?_
  refine hc_region ?_
  refine hl_v rfl rfl rfl (rv_ev rfl) ?_
  refine hl_v rfl rfl rfl (rv_ev rfl) ?_
  refine hl_less (sx 0 rfl (sx 1 rfl (sx 3 rfl (sx 4 rfl (sx 5 rfl (sx 6 rfl (sx 7 rfl (sx 15 rfl (sub_nil _))))))))) (.refl _) ?_
  refine hl_nil ?_
  refine hq_then ?_
  refine hc_ret ?_
  refine hq_one (i := 0) rfl (fun oR => ?_)
  refine hq_conv (curE g a len cap :: rowE 3 1 u zs.length (zs.map (Value.int .i64)) :: l) (conv_pick (src := [rowE 3 1 u zs.length (zs.map (Value.int .i64)), boxE b1 #[.int .i64 d.W, .int .i64 d.H, .int .i64 d.T, .int .i64 d.R] 25, curE g a len cap]) (dst := [curE g a len cap, rowE 3 1 u zs.length (zs.map (Value.int .i64))]) (l := l) [2, 0] (by decide) rfl) ?_
  refine hq_conv (bigE [curE g a len cap, rowE 3 1 u zs.length (zs.map (Value.int .i64))] :: l) (fun w hm => Mem.big (ps := [curE g a len cap, rowE 3 1 u zs.length (zs.map (Value.int .i64))]) hm) ?_
  exact hq_retMut (p' := bigE [curE g a len cap, rowE 3 1 u zs.length (zs.map (Value.int .i64))]) rfl rfl (.cons_cons _ (.refl _)) ⟨zs, rfl, oR, by omega, hzr⟩
set_option maxHeartbeats 4000000 in
set_option maxRecDepth 100000 in
theorem DrawCosts_ret (a : Option Addr) (len cap : Nat) (z : List Int) (w : World) (hb : BRow .u8 w a len cap z) (hlen : len ≤ 1048576) :
  Calls Try.prog 22 #[.slice a len cap] w (Ret w (fun v' post => ∃ (d : Dev) (cv : Value) (cs : List Int), Drawn d ∧ v' = .tuple #[.agg #[.int .i64 d.W, .int .i64 d.H, .int .i64 d.T, .int .i64 d.R], cv] ∧ post = [rowE 3 1 cv cs.length (cs.map (Value.int .i64))] ∧ cv.oneCell' = true ∧ (cs.length : Int) = allI d ∧ ∀ k, k < cs.length → 1 ≤ cs.getD k 0 ∧ cs.getD k 0 ≤ 50)) := by
 refine calls_hc (N := 14) (args := [.slice a len cap]) Try.func22 rfl rfl ?_
 refine hc_less _ (sx 0 rfl (sub_nil _)) (.refl _) ?_
 refine hc_seq ?_
 refine hc_region ?_
 refine hl_box rfl rfl rfl (rq_alloc (z := .agg #[.int .i64 0, .int .i64 0, .int .i64 0, .int .i64 0]) rfl (by kernel_rfl)) ?_
 intro b1
 refine hl_v rfl rfl rfl (rv_ev rfl) ?_
 refine hl_less (sx 0 rfl (sx 2 rfl (sx 3 rfl (sub_nil _)))) (.refl _) ?_
 refine hl_nil ?_
 refine hq_then ?_
 refine hc_seq ?_
 refine hc_region ?_
 refine hl_v rfl rfl rfl (rv_ev rfl) ?_
 refine hl_q rfl rfl rfl (rq_call (by kernel_rfl) rfl (fun w hm => new_ret (hb.below hm.bel) hlen)) ?_
 intro v2 p3 hR4
 obtain ⟨ghR4, rfl, rfl⟩ := hR4
 refine hl_v rfl rfl rfl (rv_ev rfl) ?_
 refine hl_less (sx 0 rfl (sx 2 rfl (sx 3 rfl (sx 4 rfl (sub_nil _))))) (.refl _) ?_
 refine hl_nil ?_
 refine hq_then ?_
 refine hc_seq ?_
 refine hc_region ?_
 refine hl_v rfl rfl rfl (rv_ev rfl) ?_
 refine hl_callM (R := (fun u_ p_ => (∃ d : Dev, Drawn d ∧ u_ = .agg #[.int .i64 d.W, .int .i64 d.H, .int .i64 d.T, .int .i64 d.R]) ∧ p_ = curE ghR4 a len cap)) 0 rfl rfl (by kernel_rfl) rfl rfl (fun l' w hm => device_mut hm hb) ?_
 intro v5 p6 hR7
 obtain ⟨⟨d, hdr, rfl⟩, rfl⟩ := hR7
 have hd := hdr.ok
 obtain ⟨dr1, dr2, dr3, dr4, dr5, dr6, -⟩ := id hdr
 have har : 0 ≤ (d.W - 1) * (d.H - 1) ∧ 0 ≤ (5 - d.W) * d.H := ⟨Int.mul_nonneg (by omega) (by omega), Int.mul_nonneg (by omega) (by omega)⟩
 have e1 : (d.W - 1) * (d.H - 1) = d.W * d.H - d.W - d.H + 1 := by rw [Int.sub_mul, Int.mul_sub]; omega
 have e2 : (5 - d.W) * d.H = 5 * d.H - d.W * d.H := by rw [Int.sub_mul]
 rw [e1, e2] at har
 obtain ⟨ra1, ra2⟩ := all_rng hd
 obtain ⟨q1, q2⟩ := per_rng hd
 refine hl_eqL (l' := [curE ghR4 a len cap, boxE b1 #[.int .i64 0, .int .i64 0, .int .i64 0, .int .i64 0] 25]) rfl ?_
 refine hl_box rfl rfl rfl (rq_alloc (z := .agg #[.int .i64 0, .int .i64 0, .int .i64 0, .int .i64 0]) rfl (by kernel_rfl)) ?_
 intro b8
 refine hl_storeBoxN (i := 0) (off := 0) (us := [.int .i64 d.W, .int .i64 d.H, .int .i64 d.T, .int .i64 d.R]) (l' := [boxE b8 #[.int .i64 d.W, .int .i64 d.H, .int .i64 d.T, .int .i64 d.R] 25, curE ghR4 a len cap, boxE b1 #[.int .i64 0, .int .i64 0, .int .i64 0, .int .i64 0] 25]) rfl rfl rfl (by kernel_rfl) rfl rfl rfl (all_cons rfl (all_cons rfl (all_cons rfl (all_cons rfl all_nil)))) rfl rfl rfl ?_
 refine hl_less (sx 0 rfl (sx 2 rfl (sx 3 rfl (sx 4 rfl (sx 5 rfl (sub_nil _)))))) (.refl _) ?_
 refine hl_nil ?_
 refine hq_then ?_
 refine hc_seq ?_
 refine hc_conv [curE ghR4 a len cap, boxE b8 #[.int .i64 d.W, .int .i64 d.H, .int .i64 d.T, .int .i64 d.R] 25, boxE b1 #[.int .i64 0, .int .i64 0, .int .i64 0, .int .i64 0] 25] (conv_pick (src := [boxE b8 #[.int .i64 d.W, .int .i64 d.H, .int .i64 d.T, .int .i64 d.R] 25, curE ghR4 a len cap, boxE b1 #[.int .i64 0, .int .i64 0, .int .i64 0, .int .i64 0] 25]) (dst := [curE ghR4 a len cap, boxE b8 #[.int .i64 d.W, .int .i64 d.H, .int .i64 d.T, .int .i64 d.R] 25, boxE b1 #[.int .i64 0, .int .i64 0, .int .i64 0, .int .i64 0] 25]) (l := []) [1, 0, 2] (by decide) rfl) ?_
 refine hc_draw2 (l := [boxE b8 #[.int .i64 d.W, .int .i64 d.H, .int .i64 d.T, .int .i64 d.R] 25, boxE b1 #[.int .i64 0, .int .i64 0, .int .i64 0, .int .i64 0] 25]) (by kernel_rfl) 4 [0, 1, 2, 3] (List.take 4 _) (List.drop 4 _) [[], [], [], [1, 2]] [10, 11, 12, 13] (fun i_ vs_ v_ p_ => match i_ with | 0 => v_ = .agg #[.int .i64 d.W, .int .i64 d.H, .int .i64 d.T, .int .i64 d.R] ∧ p_ = [] | 1 => v_ = .pointer (some ⟨ghR4, 0, none⟩) ∧ p_ = [] | 2 => v_ = .agg #[.int .i64 d.W, .int .i64 d.H, .int .i64 d.T, .int .i64 d.R] ∧ p_ = [] | 3 => (∃ pm_, p_ = [pm_] ∧ (fun u_ p_ => ∃ cs : List Int, p_ = bigE [curE ghR4 a len cap, rowE 3 1 u_ cs.length (cs.map (Value.int .i64))] ∧ u_.oneCell' = true ∧ (cs.length : Int) = allI d ∧ ∀ k, k < cs.length → 1 ≤ cs.getD k 0 ∧ cs.getD k 0 ≤ 50) v_ pm_) | _ => True) [[], [], [], [1, 2]] [none, none, none, some 6] [curE ghR4 a len cap] [0, 1, 2, 3] 6 (List.take_append_drop 4 _).symm (by kernel_rfl) (by kernel_rfl) (by kernel_rfl) rfl rfl ?_ ?_
 ·
  refine ⟨?_, ?_, ?_, ?_, trivial⟩
  ·
   intro vf pf hmu hR
   refine Or.inl ⟨rfl, ?_⟩
   show RunQ _ _ _ (([] : List Nat).flatMap pf ++ _) (envOf _ vf [] ++ _) _ _
   refine rq_less (sx 5 rfl (sub_nil _)) (List.sublist_append_right _ _) ?_
   exact rq_v (rv_loadN (cs := [.int .i64 d.W, .int .i64 d.H, .int .i64 d.T, .int .i64 d.R]) rfl (by kernel_rfl) (by kernel_rfl) rfl rfl (box_part 0 rfl 0 rfl))
  ·
   intro vf pf hmu hR
   refine Or.inl ⟨rfl, ?_⟩
   show RunQ _ _ _ (([] : List Nat).flatMap pf ++ _) (envOf _ vf [] ++ _) _ _
   refine rq_less (sx 4 rfl (sub_nil _)) (List.sublist_append_right _ _) ?_
   exact rq_v (rv_ev rfl)
  ·
   intro vf pf hmu hR
   refine Or.inl ⟨rfl, ?_⟩
   show RunQ _ _ _ (([] : List Nat).flatMap pf ++ _) (envOf _ vf [] ++ _) _ _
   refine rq_less (sx 5 rfl (sub_nil _)) (List.sublist_append_right _ _) ?_
   exact rq_v (rv_loadN (cs := [.int .i64 d.W, .int .i64 d.H, .int .i64 d.T, .int .i64 d.R]) rfl (by kernel_rfl) (by kernel_rfl) rfl rfl (box_part 0 rfl 0 rfl))
  ·
   intro vf pf hmu hR
   have e1 : (vf 1) = .pointer (some ⟨ghR4, 0, none⟩) ∧ (pf 1) = [] := hR 1 (by decide)
   have e2 : (vf 2) = .agg #[.int .i64 d.W, .int .i64 d.H, .int .i64 d.T, .int .i64 d.R] ∧ (pf 2) = [] := hR 2 (by decide)
   refine Or.inl ⟨rfl, ?_⟩
   show RunM _ _ _ (pf 6) (([1, 2] : List Nat).flatMap pf ++ _) (envOf _ vf [1, 2] ++ _) _ _
   rw [hmu]
   refine rm_less (X' := [boxE b8 #[.int .i64 d.W, .int .i64 d.H, .int .i64 d.T, .int .i64 d.R] 25, boxE b1 #[.int .i64 0, .int .i64 0, .int .i64 0, .int .i64 0] 25]) (sx 11 (congrArg some e1.1) (sx 12 (congrArg some e2.1) (sub_nil _))) (by first | (simp only [e1.2, e2.2, List.flatMap_cons, List.flatMap_nil, List.append_nil, List.nil_append, List.cons_append]; exact List.Sublist.refl _) | simp [e1.2, e2.2]) ?_
   exact rq_callM (R := (fun u_ p_ => ∃ cs : List Int, p_ = bigE [curE ghR4 a len cap, rowE 3 1 u_ cs.length (cs.map (Value.int .i64))] ∧ u_.oneCell' = true ∧ (cs.length : Int) = allI d ∧ ∀ k, k < cs.length → 1 ≤ cs.getD k 0 ∧ cs.getD k 0 ≤ 50)) (by kernel_rfl) rfl (fun L w hX hm => l33Costs_mut ghR4 a len cap z d _ _ _ hm hb hd)
 ·
  intro vf pf hmu hR
  have e0 : (vf 0) = .agg #[.int .i64 d.W, .int .i64 d.H, .int .i64 d.T, .int .i64 d.R] ∧ (pf 0) = [] := hR 0 (by decide)
  have e3 : (∃ pm_, (pf 3) = [pm_] ∧ (fun u_ p_ => ∃ cs : List Int, p_ = bigE [curE ghR4 a len cap, rowE 3 1 u_ cs.length (cs.map (Value.int .i64))] ∧ u_.oneCell' = true ∧ (cs.length : Int) = allI d ∧ ∀ k, k < cs.length → 1 ≤ cs.getD k 0 ∧ cs.getD k 0 ≤ 50) (vf 3) pm_) := hR 3 (by decide)
  obtain ⟨p10, p3, hR11⟩ := e3
  obtain ⟨v9, v3⟩ : ∃ x, vf 3 = x := ⟨_, rfl⟩
  rw [v3] at hR11
  obtain ⟨cs, rfl, hone, hcl, hcr⟩ := hR11
  have q0 : (vf 0) = .agg #[.int .i64 d.W, .int .i64 d.H, .int .i64 d.T, .int .i64 d.R] ∧ (pf 0) = [] := hR 0 (by decide)
  have q1 : (vf 1) = .pointer (some ⟨ghR4, 0, none⟩) ∧ (pf 1) = [] := hR 1 (by decide)
  have q2 : (vf 2) = .agg #[.int .i64 d.W, .int .i64 d.H, .int .i64 d.T, .int .i64 d.R] ∧ (pf 2) = [] := hR 2 (by decide)
  refine hl_less (l' := [bigE [curE ghR4 a len cap, rowE 3 1 v9 cs.length (cs.map (Value.int .i64))], boxE b8 #[.int .i64 d.W, .int .i64 d.H, .int .i64 d.T, .int .i64 d.R] 25, boxE b1 #[.int .i64 0, .int .i64 0, .int .i64 0, .int .i64 0] 25]) (sx 0 rfl (sx 2 rfl (sx 3 rfl (sx 4 rfl (sx 5 rfl (sx 10 (congrArg some e0.1) (sx 13 (congrArg some v3) (sub_nil _)))))))) (by first | (simp only [p3, v3, q0.2, q1.2, q2.2, List.flatMap_cons, List.flatMap_nil, List.append_nil, List.nil_append, List.cons_append]; exact List.Sublist.refl _) | simp [p3, v3, q0.2, q1.2, q2.2]) ?_
  simp only [List.drop_succ_cons, List.drop_zero]
  refine hl_storeBoxN (i := 2) (off := 0) (us := [.int .i64 d.W, .int .i64 d.H, .int .i64 d.T, .int .i64 d.R]) (l' := [bigE [curE ghR4 a len cap, rowE 3 1 v9 cs.length (cs.map (Value.int .i64))], boxE b8 #[.int .i64 d.W, .int .i64 d.H, .int .i64 d.T, .int .i64 d.R] 25, boxE b1 #[.int .i64 d.W, .int .i64 d.H, .int .i64 d.T, .int .i64 d.R] 25]) rfl rfl rfl (by kernel_rfl) rfl rfl rfl (all_cons rfl (all_cons rfl (all_cons rfl (all_cons rfl all_nil)))) rfl rfl rfl ?_
  refine hl_v rfl rfl rfl (rv_ev rfl) ?_
  refine hl_less (sx 0 rfl (sx 2 rfl (sx 3 rfl (sx 4 rfl (sx 5 rfl (sub_nil _)))))) (.refl _) ?_
  refine hl_nil ?_
  refine hq_then ?_
  refine hc_ret ?_
  refine hq_conv [bigE [curE ghR4 a len cap, rowE 3 1 v9 cs.length (cs.map (Value.int .i64))], boxE b8 #[.int .i64 d.W, .int .i64 d.H, .int .i64 d.T, .int .i64 d.R] 25, boxE b1 #[.int .i64 d.W, .int .i64 d.H, .int .i64 d.T, .int .i64 d.R] 25] (conv_pick (src := [bigE [curE ghR4 a len cap, rowE 3 1 v9 cs.length (cs.map (Value.int .i64))], boxE b8 #[.int .i64 d.W, .int .i64 d.H, .int .i64 d.T, .int .i64 d.R] 25, boxE b1 #[.int .i64 d.W, .int .i64 d.H, .int .i64 d.T, .int .i64 d.R] 25]) (dst := [bigE [curE ghR4 a len cap, rowE 3 1 v9 cs.length (cs.map (Value.int .i64))], boxE b8 #[.int .i64 d.W, .int .i64 d.H, .int .i64 d.T, .int .i64 d.R] 25, boxE b1 #[.int .i64 d.W, .int .i64 d.H, .int .i64 d.T, .int .i64 d.R] 25]) (l := []) [0, 1, 2] (by decide) rfl) ?_
  refine hq_conv [curE ghR4 a len cap, rowE 3 1 v9 cs.length (cs.map (Value.int .i64)), boxE b8 #[.int .i64 d.W, .int .i64 d.H, .int .i64 d.T, .int .i64 d.R] 25, boxE b1 #[.int .i64 d.W, .int .i64 d.H, .int .i64 d.T, .int .i64 d.R] 25] conv_unbig ?_
  exact hq_retM (rs := [.cell 2 25, .tmp 3]) (vs := [.agg #[.int .i64 d.W, .int .i64 d.H, .int .i64 d.T, .int .i64 d.R], v9]) (post := [rowE 3 1 v9 cs.length (cs.map (Value.int .i64))]) rfl ⟨⟨b1, 0, [.int .i64 d.W, .int .i64 d.H, .int .i64 d.T, .int .i64 d.R], rfl, rfl, by kernel_rfl, by kernel_rfl, box_part 3 rfl 0 rfl⟩, rfl, trivial⟩ rfl ((.cons _ (.cons_cons _ (.cons _ (.cons _ .slnil))))) ⟨d, _, cs, hdr, rfl, rfl, hone, hcl, hcr⟩
theorem specSources_retI (d : Dev) (k : Int) (w : World) : Calls Try.prog 26 #[.agg #[.int .i64 d.W, .int .i64 d.H, .int .i64 d.T, .int .i64 d.R], .int .i64 k] w (Ret w (fun v' post => post = [rowE 3 1 v' (srcI d k).length ((srcI d k).map (Value.int .i64))])) := by
  have h := specSources_ret d k w
  rw [src_eq] at h
  exact h
theorem dist_tight {N : Nat} {S : Int → List Int} {cs D : List Int} {s0 : Int} (h : DistOk N S cs [s0] D) {k : Int} (k0 : 0 ≤ k) (k1_o : k < N) {b : Bool} {i : Nat} (hi : (S k).length ≤ i)
    (hinv : b = true ∨ (k ≠ s0 ∧ gI D k ≠ -1 ∧ ∀ j, j < i → ¬ (0 ≤ gI D ((S k).getD j 0) ∧ gI D k = gI D ((S k).getD j 0) + gI cs k))) : b = true := by
  rcases hinv with hb | ⟨h1, h2, h3⟩
  · exact hb
  · exfalso
    obtain ⟨s, hs, h4, h5⟩ := h.tig k k0 k1_o (by simpa using h1) ((h.rng k k0 k1_o).resolve_left h2).1
    obtain ⟨j, hj, e⟩ := mem_getD hs
    exact h3 j (by omega) (by rw [e]; exact ⟨h4, h5⟩)
theorem gI_nat (l : List Int) (k : Nat) : gI l (k : Int) = l.getD k 0 := rfl
set_option maxHeartbeats 4000000 in
set_option maxRecDepth 100000 in
theorem walk_FnDistancesRelaxed (a0 : Option Addr) (len0 cap0 : Nat) (z0 : List Int) (w : World) (hbr : BRow .u8 w a0 len0 cap0 z0) :
  Calls Try.prog 5 #[.slice a0 len0 cap0] w (Ans w (.bool true)) := by
 have hcd0 := cod_le hbr 0
 refine calls_hc (N := 120) (args := [.slice a0 len0 cap0]) Try.func5 rfl rfl ?_
 refine hc_less _ (sx 0 rfl (sub_nil _)) (.refl _) ?_
 refine hc_seq ?_
 refine hc_region ?_
 refine hl_v rfl rfl rfl (rv_ev rfl) ?_
 refine hl_less (sx 0 rfl (sx 2 rfl (sub_nil _))) (.refl _) ?_
 refine hl_nil ?_
 refine hq_then ?_
 refine hc_seq ?_
 refine hc_seq ?_
 refine hc_region ?_
 refine hl_v rfl rfl rfl (rv_ev rfl) ?_
 refine hl_callV rfl rfl rfl (rq_call (by kernel_rfl) rfl (fun w hm => ret_ans (ans_of (big_any a0 len0 cap0 w (hbr.len_le))))) ?_
 refine hl_bool (fun h1 => ?_) (fun h1 => ?_)
 ·
  have h1p := of_decide_eq_true h1
  refine hl_less (sx 0 rfl (sx 2 rfl (sx 13 rfl (sub_nil _)))) (.refl _) ?_
  refine hl_nil ?_
  refine hq_then ?_
  refine hc_true rfl ?_
  refine hc_seq ?_
  refine hc_region ?_
  refine hl_v rfl rfl rfl (rv_ev rfl) ?_
  refine hl_less (sx 0 rfl (sx 2 rfl (sx 13 rfl (sub_nil _)))) (.refl _) ?_
  refine hl_nil ?_
  refine hq_then ?_
  refine hc_ret ?_
  refine hq_then_ret ?_
  exact hq_ans rfl rfl rfl
 ·
  have h1p := of_decide_eq_false h1
  refine hl_less (sx 0 rfl (sx 2 rfl (sx 13 rfl (sub_nil _)))) (.refl _) ?_
  refine hl_nil ?_
  refine hq_then ?_
  refine hc_false rfl ?_
  refine hc_skip ?_
  refine hq_then ?_
  refine hc_seq ?_
  refine hc_region ?_
  refine hl_v rfl rfl rfl (rv_ev rfl) ?_
  refine hl_q rfl rfl rfl (rq_call (by kernel_rfl) rfl (fun w hm => DrawCosts_ret _ _ _ z0 w (hbr.below hm.bel) (by omega))) ?_
  intro v2 p3 hR4
  obtain ⟨d, cv, cs, hdr, rfl, rfl, hone, hcl, hcr⟩ := hR4
  have hd := hdr.ok
  obtain ⟨dr1, dr2, dr3, dr4, dr5, dr6, -⟩ := id hdr
  have har : 0 ≤ (d.W - 1) * (d.H - 1) ∧ 0 ≤ (5 - d.W) * d.H := ⟨Int.mul_nonneg (by omega) (by omega), Int.mul_nonneg (by omega) (by omega)⟩
  have e1 : (d.W - 1) * (d.H - 1) = d.W * d.H - d.W - d.H + 1 := by rw [Int.sub_mul, Int.mul_sub]; omega
  have e2 : (5 - d.W) * d.H = 5 * d.H - d.W * d.H := by rw [Int.sub_mul]
  rw [e1, e2] at har
  obtain ⟨ra1, ra2⟩ := all_rng hd
  obtain ⟨q1, q2⟩ := per_rng hd
  obtain ⟨ar1, ar2⟩ := area_le hd
  refine hl_v rfl rfl rfl (rv_ev rfl) ?_
  refine hl_v rfl rfl rfl (rv_ev rfl) ?_
  refine hl_v rfl rfl rfl (rv_ev rfl) ?_
  refine hl_box rfl rfl rfl (rq_alloc (z := .agg #[.int .i64 0, .int .i64 0, .int .i64 0, .int .i64 0]) rfl (by kernel_rfl)) ?_
  intro b5
  refine hl_storeBoxN (i := 0) (off := 0) (us := [.int .i64 d.W, .int .i64 d.H, .int .i64 d.T, .int .i64 d.R]) (l' := [boxE b5 #[.int .i64 d.W, .int .i64 d.H, .int .i64 d.T, .int .i64 d.R] 25, rowE 3 1 cv cs.length (cs.map (Value.int .i64))]) rfl rfl rfl (by kernel_rfl) rfl rfl rfl (all_cons rfl (all_cons rfl (all_cons rfl (all_cons rfl all_nil)))) rfl rfl rfl ?_
  refine hl_v rfl rfl rfl (rv_ev rfl) ?_
  refine hl_less (sx 0 rfl (sx 2 rfl (sx 3 rfl (sx 4 rfl (sx 13 rfl (sub_nil _)))))) (.refl _) ?_
  refine hl_nil ?_
  refine hq_then ?_
  refine hc_seq ?_
  have hx0 : 0 ≤ (cod z0 len0 0 : Int) % (d.W * d.H) := Int.emod_nonneg _ (by omega)
  have hx1 : (cod z0 len0 0 : Int) % (d.W * d.H) < d.W * d.H := Int.emod_lt_of_pos _ (by omega)
  refine hc_draw (by kernel_rfl) 10 [0, 1, 2, 3, 4, 5, 6, 7, 8, 9] (List.take 10 _) (List.drop 10 _) [[], [], [1], [], [3], [], [5], [4, 6], [2, 7], [0, 8]] [19, 20, 21, 22, 23, 24, 25, 26, 27, 28] (fun i_ vs_ v_ p_ => match i_ with | 0 => v_ = .agg #[.int .i64 d.W, .int .i64 d.H, .int .i64 d.T, .int .i64 d.R] ∧ p_ = [] | 1 => v_ = .slice a0 len0 cap0 ∧ p_ = [] | 2 => v_ = .int .i64 (cod z0 len0 0 : Int) ∧ p_ = [] | 3 => v_ = .pointer (some ⟨b5, 0 + 0, none⟩) ∧ p_ = [] | 4 => v_ = .int .i64 d.W ∧ p_ = [] | 5 => v_ = .pointer (some ⟨b5, 0 + 1, none⟩) ∧ p_ = [] | 6 => v_ = .int .i64 d.H ∧ p_ = [] | 7 => v_ = .int .i64 (d.W * d.H) ∧ p_ = [] | 8 => v_ = .int .i64 ((cod z0 len0 0 : Int) % (d.W * d.H)) ∧ p_ = [] | 9 => v_ = .int .i64 (outPinI d ((cod z0 len0 0 : Int) % (d.W * d.H)) 0) ∧ p_ = [] | _ => True) (List.take_append_drop 10 _).symm (by kernel_rfl) (by kernel_rfl) rfl rfl ?_ ?_
  ·
   refine ⟨?_, ?_, ?_, ?_, ?_, ?_, ?_, ?_, ?_, ?_, trivial⟩
   ·
    intro vf pf hR
    refine Or.inl ⟨rfl, ?_⟩
    refine rq_less (sx 3 rfl (sub_nil _)) (List.sublist_append_right _ _) ?_
    exact rq_v (rv_loadN (cs := [.int .i64 d.W, .int .i64 d.H, .int .i64 d.T, .int .i64 d.R]) rfl (by kernel_rfl) (by kernel_rfl) rfl rfl (box_part 0 rfl 0 rfl))
   ·
    intro vf pf hR
    refine Or.inl ⟨rfl, ?_⟩
    refine rq_less (sx 0 rfl (sub_nil _)) (List.sublist_append_right _ _) ?_
    exact rq_v (rv_ev rfl)
   ·
    intro vf pf hR
    have e1 : (vf 1) = .slice a0 len0 cap0 ∧ (pf 1) = [] := hR 1 (by decide)
    refine Or.inl ⟨rfl, ?_⟩
    refine rq_less (sx 20 (congrArg some e1.1) (sub_nil _)) (List.sublist_append_right _ _) ?_
    exact (rq_call (by kernel_rfl) rfl (fun w hm => ret_ans (at_ans hbr 0 (by omega) w hm)))
   ·
    intro vf pf hR
    refine Or.inl ⟨rfl, ?_⟩
    refine rq_less (sx 3 rfl (sub_nil _)) (List.sublist_append_right _ _) ?_
    exact rq_v (rv_field (k0 := 0) rfl (by kernel_rfl) rfl)
   ·
    intro vf pf hR
    have e3 : (vf 3) = .pointer (some ⟨b5, 0 + 0, none⟩) ∧ (pf 3) = [] := hR 3 (by decide)
    refine Or.inl ⟨rfl, ?_⟩
    refine rq_less (sx 22 (congrArg some e3.1) (sub_nil _)) (List.sublist_append_right _ _) ?_
    exact rq_v (rv_load rfl (by kernel_rfl) rfl (box_cell 0 rfl rfl))
   ·
    intro vf pf hR
    refine Or.inl ⟨rfl, ?_⟩
    refine rq_less (sx 3 rfl (sub_nil _)) (List.sublist_append_right _ _) ?_
    exact rq_v (rv_field (k0 := 1) rfl (by kernel_rfl) rfl)
   ·
    intro vf pf hR
    have e5 : (vf 5) = .pointer (some ⟨b5, 0 + 1, none⟩) ∧ (pf 5) = [] := hR 5 (by decide)
    refine Or.inl ⟨rfl, ?_⟩
    refine rq_less (sx 24 (congrArg some e5.1) (sub_nil _)) (List.sublist_append_right _ _) ?_
    exact rq_v (rv_load rfl (by kernel_rfl) rfl (box_cell 0 rfl rfl))
   ·
    intro vf pf hR
    have e4 : (vf 4) = .int .i64 d.W ∧ (pf 4) = [] := hR 4 (by decide)
    have e6 : (vf 6) = .int .i64 d.H ∧ (pf 6) = [] := hR 6 (by decide)
    refine Or.inl ⟨rfl, ?_⟩
    refine rq_less (sx 23 (congrArg some e4.1) (sx 25 (congrArg some e6.1) (sub_nil _))) (List.sublist_append_right _ _) ?_
    exact rq_v (rv_mul rfl rfl rfl (by constructor <;> omega))
   ·
    intro vf pf hR
    have e2 : (vf 2) = .int .i64 (cod z0 len0 0 : Int) ∧ (pf 2) = [] := hR 2 (by decide)
    have e7 : (vf 7) = .int .i64 (d.W * d.H) ∧ (pf 7) = [] := hR 7 (by decide)
    refine Or.inl ⟨rfl, ?_⟩
    refine rq_less (sx 21 (congrArg some e2.1) (sx 26 (congrArg some e7.1) (sub_nil _))) (List.sublist_append_right _ _) ?_
    exact rq_v (rv_rem rfl rfl rfl (by constructor <;> omega))
   ·
    intro vf pf hR
    have e0 : (vf 0) = .agg #[.int .i64 d.W, .int .i64 d.H, .int .i64 d.T, .int .i64 d.R] ∧ (pf 0) = [] := hR 0 (by decide)
    have e8 : (vf 8) = .int .i64 ((cod z0 len0 0 : Int) % (d.W * d.H)) ∧ (pf 8) = [] := hR 8 (by decide)
    refine Or.inl ⟨rfl, ?_⟩
    refine rq_less (sx 19 (congrArg some e0.1) (sx 27 (congrArg some e8.1) (sub_nil _))) (List.sublist_append_right _ _) ?_
    exact (rq_call (by kernel_rfl) rfl (fun w hm => ret_ans (opin_ans d ((cod z0 len0 0 : Int) % (d.W * d.H)) w hd hx0 hx1)))
  ·
   intro vf pf hR
   have e9 : (vf 9) = .int .i64 (outPinI d ((cod z0 len0 0 : Int) % (d.W * d.H)) 0) ∧ (pf 9) = [] := hR 9 (by decide)
   refine hl_less (l' := [boxE b5 #[.int .i64 d.W, .int .i64 d.H, .int .i64 d.T, .int .i64 d.R] 25, rowE 3 1 cv cs.length (cs.map (Value.int .i64))]) (sx 0 rfl (sx 2 rfl (sx 3 rfl (sx 4 rfl (sx 13 rfl (sx 28 (congrArg some e9.1) (sub_nil _))))))) (List.sublist_append_right _ _) ?_
   simp only [List.drop_succ_cons, List.drop_zero]
   refine hl_v rfl rfl rfl (rv_ev rfl) ?_
   refine hl_less (sx 0 rfl (sx 2 rfl (sx 3 rfl (sx 4 rfl (sx 5 rfl (sx 13 rfl (sub_nil _))))))) (.refl _) ?_
   refine hl_nil ?_
   refine hq_then ?_
   refine hc_seq ?_
   refine hc_region ?_
   obtain ⟨hs1, hs2, hs3, hs4, hs5⟩ := out0 hd hx0 hx1
   have hnst : nodeOkI d (outPinI d ((cod z0 len0 0 : Int) % (d.W * d.H)) 0) = true := node_out hd hx0 hx1
   refine hl_v rfl rfl rfl (rv_loadN (cs := [.int .i64 d.W, .int .i64 d.H, .int .i64 d.T, .int .i64 d.R]) rfl (by kernel_rfl) (by kernel_rfl) rfl rfl (box_part 0 rfl 0 rfl)) ?_
   refine hl_v rfl rfl rfl (rv_ev rfl) ?_
   refine hl_v rfl rfl rfl (rv_ev rfl) ?_
   refine hl_row rfl rfl rfl (rq_buildSlice (z := .int .i64 0) (s := 1) (cs := ([outPinI d ((cod z0 len0 0 : Int) % (d.W * d.H)) 0].map (Value.int .i64))) rfl Try.underlying26 (by kernel_rfl) (by decide) rfl (by kernel_rfl) rfl) ?_
   intro g6
   refine hl_q rfl rfl rfl (rq_call (by kernel_rfl) rfl (fun w hm => Distances_ret d cs [outPinI d ((cod z0 len0 0 : Int) % (d.W * d.H)) 0] _ _ w hd ((rd_row 2 rfl) w hm) hcl (fun k hk => by have := hcr k hk; omega) ((rd_row 0 rfl) w hm) (by simp) (by rw [List.forall_mem_singleton]; exact hnst))) ?_
   intro v7 p8 hR9
   obtain ⟨D, rfl, hD⟩ := hR9
   have hDl := hD.len
   refine hl_v rfl rfl rfl (rv_ev rfl) ?_
   refine hl_less (sx 0 rfl (sx 2 rfl (sx 3 rfl (sx 4 rfl (sx 5 rfl (sx 6 rfl (sx 13 rfl (sub_nil _)))))))) (.refl _) ?_
   refine hl_nil ?_
   refine hq_then ?_
   refine hc_seq ?_
   refine hc_seq ?_
   refine hc_region ?_
   have hd0 : gI D (outPinI d ((cod z0 len0 0 : Int) % (d.W * d.H)) 0) = 0 := hD.sts _ (List.mem_singleton.2 rfl)
   have hd1 : D.getD (outPinI d ((cod z0 len0 0 : Int) % (d.W * d.H)) 0).toNat 0 = 0 := hd0
   refine hl_v rfl rfl rfl (rv_ev rfl) ?_
   refine hl_v rfl rfl rfl (rv_len rfl Try.underlying26 rfl (rd_row 0 rfl)) ?_
   refine hl_v rfl rfl rfl (rv_loadN (cs := [.int .i64 d.W, .int .i64 d.H, .int .i64 d.T, .int .i64 d.R]) rfl (by kernel_rfl) (by kernel_rfl) rfl rfl (box_part 2 rfl 0 rfl)) ?_
   refine hl_callV rfl rfl rfl (rq_call (by kernel_rfl) rfl (fun w hm => ret_ans (specRouteNodes_yes d hd w))) ?_
   refine hl_neq rfl rfl rfl rfl rfl rfl (fun h10 => absurd h10 (by omega)) (fun h10 => ?_)
   refine hl_v rfl rfl rfl (rv_ev rfl) ?_
   refine hl_v rfl rfl rfl (rv_ev rfl) ?_
   refine hl_v rfl rfl rfl (rv_ev rfl) ?_
   refine hl_v rfl rfl rfl (rv_index (s := 1) rfl Try.underlying26 (by kernel_rfl) rfl rfl (rd_row 0 rfl) (by omega) (by first | omega | (simp only [List.length_set]; omega))) ?_
   refine hl_v rfl rfl rfl (rv_loadEl (u := .int .i64 (D.getD ((outPinI d ((cod z0 len0 0 : Int) % (d.W * d.H)) 0).toNat) 0)) rfl (by kernel_rfl) rfl (rd_row 0 rfl) (ints_at1 (show _ < D.length by first | omega | (simp only [List.length_set]; omega)))) ?_
   refine hl_neq rfl rfl rfl rfl rfl rfl (fun h11 => absurd h11 (by omega)) (fun h11 => ?_)
   refine hl_v rfl rfl rfl (rv_ev rfl) ?_
   refine hl_less (sx 0 rfl (sx 2 rfl (sx 3 rfl (sx 4 rfl (sx 5 rfl (sx 6 rfl (sx 13 rfl (sx 45 rfl (sub_nil _))))))))) (.refl _) ?_
   refine hl_nil ?_
   refine hq_then ?_
   refine hc_false rfl ?_
   refine hc_skip ?_
   refine hq_then ?_
   refine hc_seq ?_
   refine hc_seq ?_
   refine hc_region ?_
   refine hl_v rfl rfl rfl (rv_ev rfl) ?_
   refine hl_less (sx 0 rfl (sx 2 rfl (sx 3 rfl (sx 4 rfl (sx 5 rfl (sx 6 rfl (sx 7 rfl (sx 13 rfl (sx 45 rfl (sub_nil _)))))))))) (.refl _) ?_
   refine hl_nil ?_
   refine hq_then ?_
   refine hc_block ?_
   refine hc_loop1 (α := Nat) (fun k => [rowE 3 1 v7 D.length (D.map (Value.int .i64)), boxE b5 #[.int .i64 d.W, .int .i64 d.H, .int .i64 d.T, .int .i64 d.R] 25, rowE 3 1 cv cs.length (cs.map (Value.int .i64))]) (fun k => [(0, .slice a0 len0 cap0), (2, .bool false), (3, .pointer (some ⟨b5, 0, none⟩)), (4, cv), (5, .int .i64 (outPinI d ((cod z0 len0 0 : Int) % (d.W * d.H)) 0)), (6, v7), (7, .int .i64 (k : Int)), (13, .bool false), (45, .bool false)]) (fun k => k ≤ D.length) (fun k => D.length - k) 0 (by omega) (sx 0 rfl (sx 2 rfl (sx 3 rfl (sx 4 rfl (sx 5 rfl (sx 6 rfl (sx 7 rfl (sx 13 rfl (sx 45 rfl (sub_nil _)))))))))) ((.cons_cons _ (.cons _ (.cons_cons _ (.cons_cons _ .slnil))))) ?_
   intro k hi12
   have hk := hi12
   refine hc_seq ?_
   refine hc_seq ?_
   refine hc_region ?_
   refine hl_v rfl rfl rfl (rv_ev rfl) ?_
   refine hl_v rfl rfl rfl (rv_ev rfl) ?_
   refine hl_v rfl rfl rfl (rv_len rfl Try.underlying26 rfl (rd_row 0 rfl)) ?_
   refine hl_lss rfl rfl rfl rfl rfl rfl (fun h13 => ?_) (fun h13 => ?_)
   ·
    refine hl_less (sx 0 rfl (sx 2 rfl (sx 3 rfl (sx 4 rfl (sx 5 rfl (sx 6 rfl (sx 7 rfl (sx 13 rfl (sx 45 rfl (sx 49 rfl (sub_nil _))))))))))) (.refl _) ?_
    refine hl_nil ?_
    refine hq_then ?_
    refine hc_true rfl ?_
    refine hc_skip ?_
    refine hq_then ?_
    refine hc_seq ?_
    refine hc_block ?_
    refine hc_seq ?_
    refine hc_region ?_
    refine hl_v rfl rfl rfl (rv_loadN (cs := [.int .i64 d.W, .int .i64 d.H, .int .i64 d.T, .int .i64 d.R]) rfl (by kernel_rfl) (by kernel_rfl) rfl rfl (box_part 1 rfl 0 rfl)) ?_
    refine hl_v rfl rfl rfl (rv_ev rfl) ?_
    refine hl_q rfl rfl rfl (rq_call (by kernel_rfl) rfl (fun w hm => specSources_retI d (k : Int) w)) ?_
    intro v14 p15 hR16
    subst hR16
    refine hl_v rfl rfl rfl (rv_ev rfl) ?_
    refine hl_less (sx 0 rfl (sx 2 rfl (sx 3 rfl (sx 4 rfl (sx 5 rfl (sx 6 rfl (sx 7 rfl (sx 8 rfl (sx 13 rfl (sx 45 rfl (sx 49 rfl (sub_nil _)))))))))))) (.refl _) ?_
    refine hl_nil ?_
    refine hq_then ?_
    refine hc_meet1 (α := Bool) (fun b0 => [rowE 3 1 v14 ((srcI d k).length) ((srcI d k).map (Value.int .i64)), rowE 3 1 v7 D.length (D.map (Value.int .i64)), boxE b5 #[.int .i64 d.W, .int .i64 d.H, .int .i64 d.T, .int .i64 d.R] 25, rowE 3 1 cv cs.length (cs.map (Value.int .i64))]) (fun b0 => [(0, .slice a0 len0 cap0), (2, .bool false), (3, .pointer (some ⟨b5, 0, none⟩)), (4, cv), (5, .int .i64 (outPinI d ((cod z0 len0 0 : Int) % (d.W * d.H)) 0)), (6, v7), (7, .int .i64 (k : Int)), (8, v14), (9, .bool b0), (13, .bool false), (45, .bool false), (49, .bool true)]) (fun b0 => b0 = true ∨ ((k : Int) ≠ outPinI d ((cod z0 len0 0 : Int) % (d.W * d.H)) 0 ∧ gI D k ≠ -1)) ?_ ?_
    ·
     refine hc_region ?_
     refine hl_v rfl rfl rfl (rv_ev rfl) ?_
     refine hl_v rfl rfl rfl (rv_ev rfl) ?_
     refine hl_eql rfl rfl rfl rfl rfl rfl (fun h17 => ?_) (fun h17 => ?_)
     ·
      refine hl_v rfl rfl rfl (rv_ev rfl) ?_
      refine hl_skip rfl rfl rfl ?_
      refine hl_skip rfl rfl rfl ?_
      refine hl_skip rfl rfl rfl ?_
      refine hl_skip rfl rfl rfl ?_
      refine hl_skip rfl rfl rfl ?_
      refine hl_v rfl rfl rfl (rv_ev rfl) ?_
      refine hl_v rfl rfl rfl (rv_ev rfl) ?_
      refine hl_less (sx 0 rfl (sx 2 rfl (sx 3 rfl (sx 4 rfl (sx 5 rfl (sx 6 rfl (sx 7 rfl (sx 8 rfl (sx 9 rfl (sx 13 rfl (sx 45 rfl (sx 49 rfl (sub_nil _))))))))))))) (.refl _) ?_
      refine hl_nil ?_
      exact hq_meet1 true (.inl rfl) (sx 0 rfl (sx 2 rfl (sx 3 rfl (sx 4 rfl (sx 5 rfl (sx 6 rfl (sx 7 rfl (sx 8 rfl (sx 9 rfl (sx 13 rfl (sx 45 rfl (sx 49 rfl (sub_nil _))))))))))))) ((.cons_cons _ (.cons_cons _ (.cons_cons _ (.cons_cons _ .slnil)))))
     ·
      refine hl_v rfl rfl rfl (rv_ev rfl) ?_
      refine hl_v rfl rfl rfl (rv_ev rfl) ?_
      refine hl_v rfl rfl rfl (rv_ev rfl) ?_
      refine hl_v rfl rfl rfl (rv_index (s := 1) rfl Try.underlying26 (by kernel_rfl) rfl rfl (rd_row 1 rfl) (by omega) (by first | omega | (simp only [List.length_set]; omega))) ?_
      refine hl_v rfl rfl rfl (rv_loadEl (u := .int .i64 (D.getD k 0)) rfl (by kernel_rfl) rfl (rd_row 1 rfl) (ints_at1 (show _ < D.length by first | omega | (simp only [List.length_set]; omega)))) ?_
      refine hl_eql rfl rfl rfl rfl rfl rfl (fun h18 => ?_) (fun h18 => ?_)
      ·
       refine hl_v rfl rfl rfl (rv_ev rfl) ?_
       refine hl_v rfl rfl rfl (rv_ev rfl) ?_
       refine hl_less (sx 0 rfl (sx 2 rfl (sx 3 rfl (sx 4 rfl (sx 5 rfl (sx 6 rfl (sx 7 rfl (sx 8 rfl (sx 9 rfl (sx 13 rfl (sx 45 rfl (sx 49 rfl (sub_nil _))))))))))))) (.refl _) ?_
       refine hl_nil ?_
       exact hq_meet1 true (.inl rfl) (sx 0 rfl (sx 2 rfl (sx 3 rfl (sx 4 rfl (sx 5 rfl (sx 6 rfl (sx 7 rfl (sx 8 rfl (sx 9 rfl (sx 13 rfl (sx 45 rfl (sx 49 rfl (sub_nil _))))))))))))) ((.cons_cons _ (.cons_cons _ (.cons_cons _ (.cons_cons _ .slnil)))))
      ·
       refine hl_v rfl rfl rfl (rv_ev rfl) ?_
       refine hl_v rfl rfl rfl (rv_ev rfl) ?_
       refine hl_less (sx 0 rfl (sx 2 rfl (sx 3 rfl (sx 4 rfl (sx 5 rfl (sx 6 rfl (sx 7 rfl (sx 8 rfl (sx 9 rfl (sx 13 rfl (sx 45 rfl (sx 49 rfl (sub_nil _))))))))))))) (.refl _) ?_
       refine hl_nil ?_
       exact hq_meet1 false (.inr ⟨by omega, by rw [gI_nat]; omega⟩) (sx 0 rfl (sx 2 rfl (sx 3 rfl (sx 4 rfl (sx 5 rfl (sx 6 rfl (sx 7 rfl (sx 8 rfl (sx 9 rfl (sx 13 rfl (sx 45 rfl (sx 49 rfl (sub_nil _))))))))))))) ((.cons_cons _ (.cons_cons _ (.cons_cons _ (.cons_cons _ .slnil)))))
    intro b0 hm19
    have hb0 := hm19
    refine hc_seq ?_
    refine hc_seq ?_
    refine hc_region ?_
    refine hl_v rfl rfl rfl (rv_ev rfl) ?_
    refine hl_less (sx 0 rfl (sx 2 rfl (sx 3 rfl (sx 4 rfl (sx 5 rfl (sx 6 rfl (sx 7 rfl (sx 8 rfl (sx 9 rfl (sx 10 rfl (sx 13 rfl (sx 45 rfl (sx 49 rfl (sub_nil _)))))))))))))) (.refl _) ?_
    refine hl_nil ?_
    refine hq_then ?_
    refine hc_block ?_
    refine hc_loop2 (α := Nat) (β := Bool) (fun i b => [rowE 3 1 v14 ((srcI d k).length) ((srcI d k).map (Value.int .i64)), rowE 3 1 v7 D.length (D.map (Value.int .i64)), boxE b5 #[.int .i64 d.W, .int .i64 d.H, .int .i64 d.T, .int .i64 d.R] 25, rowE 3 1 cv cs.length (cs.map (Value.int .i64))]) (fun i b => [(0, .slice a0 len0 cap0), (2, .bool false), (3, .pointer (some ⟨b5, 0, none⟩)), (4, cv), (5, .int .i64 (outPinI d ((cod z0 len0 0 : Int) % (d.W * d.H)) 0)), (6, v7), (7, .int .i64 (k : Int)), (8, v14), (9, .bool b), (10, .int .i64 (i : Int)), (13, .bool false), (45, .bool false), (49, .bool true)]) (fun i b => i ≤ (srcI d k).length ∧ (b = true ∨ ((k : Int) ≠ outPinI d ((cod z0 len0 0 : Int) % (d.W * d.H)) 0 ∧ gI D k ≠ -1 ∧ ∀ j, j < i → ¬ (0 ≤ gI D ((srcI d k).getD j 0) ∧ gI D k = gI D ((srcI d k).getD j 0) + gI cs k)))) (fun i b => (srcI d k).length - i) 0 b0 ⟨by omega, hb0.imp (fun h => h) (fun h => ⟨h.1, h.2, fun j hj => absurd hj (by omega)⟩)⟩ (sx 0 rfl (sx 2 rfl (sx 3 rfl (sx 4 rfl (sx 5 rfl (sx 6 rfl (sx 7 rfl (sx 8 rfl (sx 9 rfl (sx 10 rfl (sx 13 rfl (sx 45 rfl (sx 49 rfl (sub_nil _)))))))))))))) ((.cons_cons _ (.cons_cons _ (.cons_cons _ (.cons_cons _ .slnil))))) ?_
    intro i b hi20
    obtain ⟨hi, hinv⟩ := hi20
    have hsl16 := src_len16 d (k : Int)
    refine hc_seq ?_
    refine hc_seq ?_
    refine hc_region ?_
    refine hl_v rfl rfl rfl (rv_ev rfl) ?_
    refine hl_v rfl rfl rfl (rv_ev rfl) ?_
    refine hl_v rfl rfl rfl (rv_len rfl Try.underlying26 rfl (rd_row 0 rfl)) ?_
    refine hl_lss rfl rfl rfl rfl rfl rfl (fun h21 => ?_) (fun h21 => ?_)
    ·
     refine hl_less (sx 0 rfl (sx 2 rfl (sx 3 rfl (sx 4 rfl (sx 5 rfl (sx 6 rfl (sx 7 rfl (sx 8 rfl (sx 9 rfl (sx 10 rfl (sx 13 rfl (sx 45 rfl (sx 49 rfl (sx 68 rfl (sub_nil _))))))))))))))) (.refl _) ?_
     refine hl_nil ?_
     refine hq_then ?_
     refine hc_true rfl ?_
     refine hc_skip ?_
     refine hq_then ?_
     refine hc_seq ?_
     refine hc_block ?_
     refine hc_seq ?_
     refine hc_region ?_
     obtain ⟨hsr0, hsr1⟩ := src_rng (getD_memZ (show i < (srcI d k).length by omega))
     have hrl := hD.rel k (by omega) (by omega) ((srcI d k).getD i 0) (getD_memZ (by omega))
     have hry := hD.rng ((srcI d k).getD i 0) hsr0 (by omega)
     have hrk := hD.rng k (by omega) (by omega)
     rw [gI_nat] at hrk hrl
     have hck := hcr k (by omega)
     have hry2 : D.getD ((srcI d k).getD i 0).toNat 0 = -1 ∨ (0 ≤ D.getD ((srcI d k).getD i 0).toNat 0 ∧ D.getD ((srcI d k).getD i 0).toNat 0 ≤ 100000 * (cs.length : Int)) := hry
     rw [gI_nat cs] at hrl
     have hrl2 : 0 ≤ D.getD ((srcI d k).getD i 0).toNat 0 → 0 ≤ D.getD k 0 ∧ D.getD k 0 ≤ D.getD ((srcI d k).getD i 0).toNat 0 + cs.getD k 0 := hrl
     refine hl_v rfl rfl rfl (rv_ev rfl) ?_
     refine hl_v rfl rfl rfl (rv_ev rfl) ?_
     refine hl_v rfl rfl rfl (rv_ev rfl) ?_
     refine hl_v rfl rfl rfl (rv_index (s := 1) rfl Try.underlying26 (by kernel_rfl) rfl rfl (rd_row 0 rfl) (by omega) (by first | omega | (simp only [List.length_set]; omega))) ?_
     refine hl_v rfl rfl rfl (rv_loadEl (u := .int .i64 ((srcI d k).getD i 0)) rfl (by kernel_rfl) rfl (rd_row 0 rfl) (ints_at1 (show _ < (srcI d k).length by first | omega | (simp only [List.length_set]; omega)))) ?_
     refine hl_v rfl rfl rfl (rv_index (s := 1) rfl Try.underlying26 (by kernel_rfl) rfl rfl (rd_row 1 rfl) (by omega) (by first | omega | (simp only [List.length_set]; omega))) ?_
     refine hl_v rfl rfl rfl (rv_loadEl (u := .int .i64 (D.getD (((srcI d k).getD i 0).toNat) 0)) rfl (by kernel_rfl) rfl (rd_row 1 rfl) (ints_at1 (show _ < D.length by first | omega | (simp only [List.length_set]; omega)))) ?_
     refine hl_v rfl rfl rfl (rv_ev rfl) ?_
     refine hl_less (sx 0 rfl (sx 2 rfl (sx 3 rfl (sx 4 rfl (sx 5 rfl (sx 6 rfl (sx 7 rfl (sx 8 rfl (sx 9 rfl (sx 10 rfl (sx 11 rfl (sx 13 rfl (sx 45 rfl (sx 49 rfl (sx 68 rfl (sub_nil _)))))))))))))))) (.refl _) ?_
     refine hl_nil ?_
     refine hq_then ?_
     refine hc_seq ?_
     refine hc_seq ?_
     rcases Bool.eq_false_or_eq_true (decide (0 ≤ D.getD (((srcI d k).getD i 0).toNat) 0)) with hb22 | hb22
     ·
      have hb22p : 0 ≤ D.getD (((srcI d k).getD i 0).toNat) 0 := of_decide_eq_true hb22
      rcases Bool.eq_false_or_eq_true (decide (D.getD k 0 < 0)) with hb23 | hb23
      ·
       have hb23p : D.getD k 0 < 0 := of_decide_eq_true hb23
       refine hc_draw (by kernel_rfl) 22 [0, 1, 2, 3, 4, 5, 6, 7, 8, 9, 10, 11, 12, 13, 14, 15, 16, 17, 18, 19, 20, 21] (List.take 22 _) (List.drop 22 _) [[], [0], [1], [2], [2], [2, 3, 4], [2, 5], [2, 6], [2, 7], [8], [8], [8], [8], [8], [8], [8], [8], [8], [8], [8], [2, 8, 19], [2, 20]] [78, 79, 80, 81, 82, 83, 84, 85, 86, 87, 88, 89, 90, 91, 92, 93, 94, 95, 96, 97, 98, 99] (fun i_ vs_ v_ p_ => match i_ with | 0 => v_ = .int .i64 (D.getD (((srcI d k).getD i 0).toNat) 0) ∧ p_ = [] | 1 => v_ = .bool true ∧ p_ = [] | 2 => v_ = .bool true ∧ p_ = [] | 3 => v_ = v7 ∧ p_ = [] | 4 => v_ = .int .i64 (k : Int) ∧ p_ = [] | 5 => v_ = elP v7 (((k : Int)).toNat * 1) ∧ p_ = [] | 6 => v_ = .int .i64 (D.getD k 0) ∧ p_ = [] | 7 => v_ = .bool true ∧ p_ = [] | 8 => v_ = .bool true ∧ p_ = [] | 9 => v_ = undef ∧ p_ = [] | 10 => v_ = undef ∧ p_ = [] | 11 => v_ = undef ∧ p_ = [] | 12 => v_ = undef ∧ p_ = [] | 13 => v_ = undef ∧ p_ = [] | 14 => v_ = undef ∧ p_ = [] | 15 => v_ = undef ∧ p_ = [] | 16 => v_ = undef ∧ p_ = [] | 17 => v_ = undef ∧ p_ = [] | 18 => v_ = undef ∧ p_ = [] | 19 => v_ = undef ∧ p_ = [] | 20 => v_ = .bool true ∧ p_ = [] | 21 => v_ = .bool true ∧ p_ = [] | _ => True) (List.take_append_drop 22 _).symm (by kernel_rfl) (by kernel_rfl) rfl rfl ?_ ?_
       ·
        refine ⟨?_, ?_, ?_, ?_, ?_, ?_, ?_, ?_, ?_, ?_, ?_, ?_, ?_, ?_, ?_, ?_, ?_, ?_, ?_, ?_, ?_, ?_, trivial⟩
        ·
         intro vf pf hR
         refine Or.inl ⟨rfl, ?_⟩
         refine rq_less (sx 11 rfl (sub_nil _)) (List.sublist_append_right _ _) ?_
         exact rq_v (rv_ev rfl)
        ·
         intro vf pf hR
         have e0 : (vf 0) = .int .i64 (D.getD (((srcI d k).getD i 0).toNat) 0) ∧ (pf 0) = [] := hR 0 (by decide)
         refine Or.inl ⟨rfl, ?_⟩
         refine rq_less (sx 78 (congrArg some e0.1) (sub_nil _)) (List.sublist_append_right _ _) ?_
         exact rq_mono (rq_v (rv_cmp rfl rfl rfl rfl)) (fun _ _ h => ⟨h.1.trans (congrArg Value.bool hb22), h.2⟩)
        ·
         intro vf pf hR
         have e1 : (vf 1) = .bool true ∧ (pf 1) = [] := hR 1 (by decide)
         refine Or.inl ⟨rfl, ?_⟩
         refine rq_less (sx 79 (congrArg some e1.1) (sub_nil _)) (List.sublist_append_right _ _) ?_
         exact rq_v (rv_ev rfl)
        ·
         intro vf pf hR
         have e2 : (vf 2) = .bool true ∧ (pf 2) = [] := hR 2 (by decide)
         refine Or.inl ⟨want_of (congrArg some e2.1) rfl, ?_⟩
         refine rq_less (sx 6 rfl (sub_nil _)) (List.sublist_append_right _ _) ?_
         exact rq_v (rv_ev rfl)
        ·
         intro vf pf hR
         have e2 : (vf 2) = .bool true ∧ (pf 2) = [] := hR 2 (by decide)
         refine Or.inl ⟨want_of (congrArg some e2.1) rfl, ?_⟩
         refine rq_less (sx 7 rfl (sub_nil _)) (List.sublist_append_right _ _) ?_
         exact rq_v (rv_ev rfl)
        ·
         intro vf pf hR
         have e2 : (vf 2) = .bool true ∧ (pf 2) = [] := hR 2 (by decide)
         have e3 : (vf 3) = v7 ∧ (pf 3) = [] := hR 3 (by decide)
         have e4 : (vf 4) = .int .i64 (k : Int) ∧ (pf 4) = [] := hR 4 (by decide)
         refine Or.inl ⟨want_of (congrArg some e2.1) rfl, ?_⟩
         refine rq_less (sx 81 (congrArg some e3.1) (sx 82 (congrArg some e4.1) (sub_nil _))) (List.sublist_append_right _ _) ?_
         exact rq_v (rv_index (s := 1) rfl Try.underlying26 (by kernel_rfl) rfl rfl (rd_row 1 rfl) (by omega) (by first | omega | (simp only [List.length_set]; omega)))
        ·
         intro vf pf hR
         have e2 : (vf 2) = .bool true ∧ (pf 2) = [] := hR 2 (by decide)
         have e5 : (vf 5) = elP v7 (((k : Int)).toNat * 1) ∧ (pf 5) = [] := hR 5 (by decide)
         refine Or.inl ⟨want_of (congrArg some e2.1) rfl, ?_⟩
         refine rq_less (sx 83 (congrArg some e5.1) (sub_nil _)) (List.sublist_append_right _ _) ?_
         exact rq_v (rv_loadEl (u := .int .i64 (D.getD k 0)) rfl (by kernel_rfl) rfl (rd_row 1 rfl) (ints_at1 (show _ < D.length by first | omega | (simp only [List.length_set]; omega))))
        ·
         intro vf pf hR
         have e2 : (vf 2) = .bool true ∧ (pf 2) = [] := hR 2 (by decide)
         have e6 : (vf 6) = .int .i64 (D.getD k 0) ∧ (pf 6) = [] := hR 6 (by decide)
         refine Or.inl ⟨want_of (congrArg some e2.1) rfl, ?_⟩
         refine rq_less (sx 84 (congrArg some e6.1) (sub_nil _)) (List.sublist_append_right _ _) ?_
         exact rq_mono (rq_v (rv_cmp rfl rfl rfl rfl)) (fun _ _ h => ⟨h.1.trans (congrArg Value.bool hb23), h.2⟩)
        ·
         intro vf pf hR
         have e2 : (vf 2) = .bool true ∧ (pf 2) = [] := hR 2 (by decide)
         have e7 : (vf 7) = .bool true ∧ (pf 7) = [] := hR 7 (by decide)
         refine Or.inl ⟨want_of (congrArg some e2.1) rfl, ?_⟩
         refine rq_less (sx 85 (congrArg some e7.1) (sub_nil _)) (List.sublist_append_right _ _) ?_
         exact rq_v (rv_ev rfl)
        ·
         intro vf pf hR
         have e8 : (vf 8) = .bool true ∧ (pf 8) = [] := hR 8 (by decide)
         exact Or.inr ⟨want_of (congrArg some e8.1) rfl, rfl, rfl⟩
        ·
         intro vf pf hR
         have e8 : (vf 8) = .bool true ∧ (pf 8) = [] := hR 8 (by decide)
         exact Or.inr ⟨want_of (congrArg some e8.1) rfl, rfl, rfl⟩
        ·
         intro vf pf hR
         have e8 : (vf 8) = .bool true ∧ (pf 8) = [] := hR 8 (by decide)
         exact Or.inr ⟨want_of (congrArg some e8.1) rfl, rfl, rfl⟩
        ·
         intro vf pf hR
         have e8 : (vf 8) = .bool true ∧ (pf 8) = [] := hR 8 (by decide)
         exact Or.inr ⟨want_of (congrArg some e8.1) rfl, rfl, rfl⟩
        ·
         intro vf pf hR
         have e8 : (vf 8) = .bool true ∧ (pf 8) = [] := hR 8 (by decide)
         exact Or.inr ⟨want_of (congrArg some e8.1) rfl, rfl, rfl⟩
        ·
         intro vf pf hR
         have e8 : (vf 8) = .bool true ∧ (pf 8) = [] := hR 8 (by decide)
         exact Or.inr ⟨want_of (congrArg some e8.1) rfl, rfl, rfl⟩
        ·
         intro vf pf hR
         have e8 : (vf 8) = .bool true ∧ (pf 8) = [] := hR 8 (by decide)
         exact Or.inr ⟨want_of (congrArg some e8.1) rfl, rfl, rfl⟩
        ·
         intro vf pf hR
         have e8 : (vf 8) = .bool true ∧ (pf 8) = [] := hR 8 (by decide)
         exact Or.inr ⟨want_of (congrArg some e8.1) rfl, rfl, rfl⟩
        ·
         intro vf pf hR
         have e8 : (vf 8) = .bool true ∧ (pf 8) = [] := hR 8 (by decide)
         exact Or.inr ⟨want_of (congrArg some e8.1) rfl, rfl, rfl⟩
        ·
         intro vf pf hR
         have e8 : (vf 8) = .bool true ∧ (pf 8) = [] := hR 8 (by decide)
         exact Or.inr ⟨want_of (congrArg some e8.1) rfl, rfl, rfl⟩
        ·
         intro vf pf hR
         have e8 : (vf 8) = .bool true ∧ (pf 8) = [] := hR 8 (by decide)
         exact Or.inr ⟨want_of (congrArg some e8.1) rfl, rfl, rfl⟩
        ·
         intro vf pf hR
         have e2 : (vf 2) = .bool true ∧ (pf 2) = [] := hR 2 (by decide)
         have e8 : (vf 8) = .bool true ∧ (pf 8) = [] := hR 8 (by decide)
         have e19 : (vf 19) = undef ∧ (pf 19) = [] := hR 19 (by decide)
         refine Or.inl ⟨want_of (congrArg some e2.1) rfl, ?_⟩
         refine rq_less (sx 86 (congrArg some e8.1) (sx 97 (congrArg some e19.1) (sub_nil _))) (List.sublist_append_right _ _) ?_
         exact rq_v (rv_ev rfl)
        ·
         intro vf pf hR
         have e2 : (vf 2) = .bool true ∧ (pf 2) = [] := hR 2 (by decide)
         have e20 : (vf 20) = .bool true ∧ (pf 20) = [] := hR 20 (by decide)
         refine Or.inl ⟨rfl, ?_⟩
         refine rq_less (sx 80 (congrArg some e2.1) (sx 98 (congrArg some e20.1) (sub_nil _))) (List.sublist_append_right _ _) ?_
         exact rq_v (rv_ev rfl)
       ·
        intro vf pf hR
        have e21 : (vf 21) = .bool true ∧ (pf 21) = [] := hR 21 (by decide)
        refine hl_less (l' := [rowE 3 1 v14 ((srcI d k).length) ((srcI d k).map (Value.int .i64)), rowE 3 1 v7 D.length (D.map (Value.int .i64)), boxE b5 #[.int .i64 d.W, .int .i64 d.H, .int .i64 d.T, .int .i64 d.R] 25, rowE 3 1 cv cs.length (cs.map (Value.int .i64))]) (sx 0 rfl (sx 2 rfl (sx 3 rfl (sx 4 rfl (sx 5 rfl (sx 6 rfl (sx 7 rfl (sx 8 rfl (sx 9 rfl (sx 10 rfl (sx 11 rfl (sx 13 rfl (sx 45 rfl (sx 49 rfl (sx 68 rfl (sx 99 (congrArg some e21.1) (sub_nil _))))))))))))))))) (List.sublist_append_right _ _) ?_
        simp only [List.drop_succ_cons, List.drop_zero]
        refine hl_less (sx 0 rfl (sx 2 rfl (sx 3 rfl (sx 4 rfl (sx 5 rfl (sx 6 rfl (sx 7 rfl (sx 8 rfl (sx 9 rfl (sx 10 rfl (sx 11 rfl (sx 13 rfl (sx 45 rfl (sx 49 rfl (sx 68 rfl (sx 99 rfl (sub_nil _))))))))))))))))) (.refl _) ?_
        refine hl_nil ?_
        refine hq_then ?_
        refine hc_true rfl ?_
        refine hc_seq ?_
        refine hc_region ?_
        refine hl_v rfl rfl rfl (rv_ev rfl) ?_
        refine hl_less (sx 0 rfl (sx 2 rfl (sx 3 rfl (sx 4 rfl (sx 5 rfl (sx 6 rfl (sx 7 rfl (sx 8 rfl (sx 9 rfl (sx 10 rfl (sx 11 rfl (sx 13 rfl (sx 45 rfl (sx 49 rfl (sx 68 rfl (sx 99 rfl (sub_nil _))))))))))))))))) (.refl _) ?_
        refine hl_nil ?_
        refine hq_then ?_
        refine hc_ret ?_
        refine hq_then_ret ?_
        refine hq_block_ret ?_
        refine hq_then_ret ?_
        refine hq_then_ret ?_
        refine hq_block_ret ?_
        refine hq_then_ret ?_
        refine hq_block_ret ?_
        refine hq_then_ret ?_
        refine hq_then_ret ?_
        refine hq_block_ret ?_
        refine hq_then_ret ?_
        exfalso
        omega
      ·
       have hb23p : ¬ (D.getD k 0 < 0) := of_decide_eq_false hb23
       rcases Bool.eq_false_or_eq_true (decide ((D.getD (((srcI d k).getD i 0).toNat) 0) + (cs.getD k 0) < D.getD k 0)) with hb24 | hb24
       ·
        have hb24p : (D.getD (((srcI d k).getD i 0).toNat) 0) + (cs.getD k 0) < D.getD k 0 := of_decide_eq_true hb24
        refine hc_draw (by kernel_rfl) 22 [0, 1, 2, 3, 4, 5, 6, 7, 8, 9, 10, 11, 12, 13, 14, 15, 16, 17, 18, 19, 20, 21] (List.take 22 _) (List.drop 22 _) [[], [0], [1], [2], [2], [2, 3, 4], [2, 5], [2, 6], [2, 7], [8], [8], [8, 9, 10], [8, 11], [8], [8], [8], [8, 14, 15], [8, 16], [8, 13, 17], [8, 12, 18], [2, 8, 19], [2, 20]] [78, 79, 80, 81, 82, 83, 84, 85, 86, 87, 88, 89, 90, 91, 92, 93, 94, 95, 96, 97, 98, 99] (fun i_ vs_ v_ p_ => match i_ with | 0 => v_ = .int .i64 (D.getD (((srcI d k).getD i 0).toNat) 0) ∧ p_ = [] | 1 => v_ = .bool true ∧ p_ = [] | 2 => v_ = .bool true ∧ p_ = [] | 3 => v_ = v7 ∧ p_ = [] | 4 => v_ = .int .i64 (k : Int) ∧ p_ = [] | 5 => v_ = elP v7 (((k : Int)).toNat * 1) ∧ p_ = [] | 6 => v_ = .int .i64 (D.getD k 0) ∧ p_ = [] | 7 => v_ = .bool false ∧ p_ = [] | 8 => v_ = .bool false ∧ p_ = [] | 9 => v_ = v7 ∧ p_ = [] | 10 => v_ = .int .i64 (k : Int) ∧ p_ = [] | 11 => v_ = elP v7 (((k : Int)).toNat * 1) ∧ p_ = [] | 12 => v_ = .int .i64 (D.getD k 0) ∧ p_ = [] | 13 => v_ = .int .i64 (D.getD (((srcI d k).getD i 0).toNat) 0) ∧ p_ = [] | 14 => v_ = cv ∧ p_ = [] | 15 => v_ = .int .i64 (k : Int) ∧ p_ = [] | 16 => v_ = elP cv (((k : Int)).toNat * 1) ∧ p_ = [] | 17 => v_ = .int .i64 (cs.getD k 0) ∧ p_ = [] | 18 => v_ = .int .i64 ((D.getD (((srcI d k).getD i 0).toNat) 0) + (cs.getD k 0)) ∧ p_ = [] | 19 => v_ = .bool true ∧ p_ = [] | 20 => v_ = .bool true ∧ p_ = [] | 21 => v_ = .bool true ∧ p_ = [] | _ => True) (List.take_append_drop 22 _).symm (by kernel_rfl) (by kernel_rfl) rfl rfl ?_ ?_
        ·
         refine ⟨?_, ?_, ?_, ?_, ?_, ?_, ?_, ?_, ?_, ?_, ?_, ?_, ?_, ?_, ?_, ?_, ?_, ?_, ?_, ?_, ?_, ?_, trivial⟩
         ·
          intro vf pf hR
          refine Or.inl ⟨rfl, ?_⟩
          refine rq_less (sx 11 rfl (sub_nil _)) (List.sublist_append_right _ _) ?_
          exact rq_v (rv_ev rfl)
         ·
          intro vf pf hR
          have e0 : (vf 0) = .int .i64 (D.getD (((srcI d k).getD i 0).toNat) 0) ∧ (pf 0) = [] := hR 0 (by decide)
          refine Or.inl ⟨rfl, ?_⟩
          refine rq_less (sx 78 (congrArg some e0.1) (sub_nil _)) (List.sublist_append_right _ _) ?_
          exact rq_mono (rq_v (rv_cmp rfl rfl rfl rfl)) (fun _ _ h => ⟨h.1.trans (congrArg Value.bool hb22), h.2⟩)
         ·
          intro vf pf hR
          have e1 : (vf 1) = .bool true ∧ (pf 1) = [] := hR 1 (by decide)
          refine Or.inl ⟨rfl, ?_⟩
          refine rq_less (sx 79 (congrArg some e1.1) (sub_nil _)) (List.sublist_append_right _ _) ?_
          exact rq_v (rv_ev rfl)
         ·
          intro vf pf hR
          have e2 : (vf 2) = .bool true ∧ (pf 2) = [] := hR 2 (by decide)
          refine Or.inl ⟨want_of (congrArg some e2.1) rfl, ?_⟩
          refine rq_less (sx 6 rfl (sub_nil _)) (List.sublist_append_right _ _) ?_
          exact rq_v (rv_ev rfl)
         ·
          intro vf pf hR
          have e2 : (vf 2) = .bool true ∧ (pf 2) = [] := hR 2 (by decide)
          refine Or.inl ⟨want_of (congrArg some e2.1) rfl, ?_⟩
          refine rq_less (sx 7 rfl (sub_nil _)) (List.sublist_append_right _ _) ?_
          exact rq_v (rv_ev rfl)
         ·
          intro vf pf hR
          have e2 : (vf 2) = .bool true ∧ (pf 2) = [] := hR 2 (by decide)
          have e3 : (vf 3) = v7 ∧ (pf 3) = [] := hR 3 (by decide)
          have e4 : (vf 4) = .int .i64 (k : Int) ∧ (pf 4) = [] := hR 4 (by decide)
          refine Or.inl ⟨want_of (congrArg some e2.1) rfl, ?_⟩
          refine rq_less (sx 81 (congrArg some e3.1) (sx 82 (congrArg some e4.1) (sub_nil _))) (List.sublist_append_right _ _) ?_
          exact rq_v (rv_index (s := 1) rfl Try.underlying26 (by kernel_rfl) rfl rfl (rd_row 1 rfl) (by omega) (by first | omega | (simp only [List.length_set]; omega)))
         ·
          intro vf pf hR
          have e2 : (vf 2) = .bool true ∧ (pf 2) = [] := hR 2 (by decide)
          have e5 : (vf 5) = elP v7 (((k : Int)).toNat * 1) ∧ (pf 5) = [] := hR 5 (by decide)
          refine Or.inl ⟨want_of (congrArg some e2.1) rfl, ?_⟩
          refine rq_less (sx 83 (congrArg some e5.1) (sub_nil _)) (List.sublist_append_right _ _) ?_
          exact rq_v (rv_loadEl (u := .int .i64 (D.getD k 0)) rfl (by kernel_rfl) rfl (rd_row 1 rfl) (ints_at1 (show _ < D.length by first | omega | (simp only [List.length_set]; omega))))
         ·
          intro vf pf hR
          have e2 : (vf 2) = .bool true ∧ (pf 2) = [] := hR 2 (by decide)
          have e6 : (vf 6) = .int .i64 (D.getD k 0) ∧ (pf 6) = [] := hR 6 (by decide)
          refine Or.inl ⟨want_of (congrArg some e2.1) rfl, ?_⟩
          refine rq_less (sx 84 (congrArg some e6.1) (sub_nil _)) (List.sublist_append_right _ _) ?_
          exact rq_mono (rq_v (rv_cmp rfl rfl rfl rfl)) (fun _ _ h => ⟨h.1.trans (congrArg Value.bool hb23), h.2⟩)
         ·
          intro vf pf hR
          have e2 : (vf 2) = .bool true ∧ (pf 2) = [] := hR 2 (by decide)
          have e7 : (vf 7) = .bool false ∧ (pf 7) = [] := hR 7 (by decide)
          refine Or.inl ⟨want_of (congrArg some e2.1) rfl, ?_⟩
          refine rq_less (sx 85 (congrArg some e7.1) (sub_nil _)) (List.sublist_append_right _ _) ?_
          exact rq_v (rv_ev rfl)
         ·
          intro vf pf hR
          have e8 : (vf 8) = .bool false ∧ (pf 8) = [] := hR 8 (by decide)
          refine Or.inl ⟨want_of (congrArg some e8.1) rfl, ?_⟩
          refine rq_less (sx 6 rfl (sub_nil _)) (List.sublist_append_right _ _) ?_
          exact rq_v (rv_ev rfl)
         ·
          intro vf pf hR
          have e8 : (vf 8) = .bool false ∧ (pf 8) = [] := hR 8 (by decide)
          refine Or.inl ⟨want_of (congrArg some e8.1) rfl, ?_⟩
          refine rq_less (sx 7 rfl (sub_nil _)) (List.sublist_append_right _ _) ?_
          exact rq_v (rv_ev rfl)
         ·
          intro vf pf hR
          have e8 : (vf 8) = .bool false ∧ (pf 8) = [] := hR 8 (by decide)
          have e9 : (vf 9) = v7 ∧ (pf 9) = [] := hR 9 (by decide)
          have e10 : (vf 10) = .int .i64 (k : Int) ∧ (pf 10) = [] := hR 10 (by decide)
          refine Or.inl ⟨want_of (congrArg some e8.1) rfl, ?_⟩
          refine rq_less (sx 87 (congrArg some e9.1) (sx 88 (congrArg some e10.1) (sub_nil _))) (List.sublist_append_right _ _) ?_
          exact rq_v (rv_index (s := 1) rfl Try.underlying26 (by kernel_rfl) rfl rfl (rd_row 1 rfl) (by omega) (by first | omega | (simp only [List.length_set]; omega)))
         ·
          intro vf pf hR
          have e8 : (vf 8) = .bool false ∧ (pf 8) = [] := hR 8 (by decide)
          have e11 : (vf 11) = elP v7 (((k : Int)).toNat * 1) ∧ (pf 11) = [] := hR 11 (by decide)
          refine Or.inl ⟨want_of (congrArg some e8.1) rfl, ?_⟩
          refine rq_less (sx 89 (congrArg some e11.1) (sub_nil _)) (List.sublist_append_right _ _) ?_
          exact rq_v (rv_loadEl (u := .int .i64 (D.getD k 0)) rfl (by kernel_rfl) rfl (rd_row 1 rfl) (ints_at1 (show _ < D.length by first | omega | (simp only [List.length_set]; omega))))
         ·
          intro vf pf hR
          have e8 : (vf 8) = .bool false ∧ (pf 8) = [] := hR 8 (by decide)
          refine Or.inl ⟨want_of (congrArg some e8.1) rfl, ?_⟩
          refine rq_less (sx 11 rfl (sub_nil _)) (List.sublist_append_right _ _) ?_
          exact rq_v (rv_ev rfl)
         ·
          intro vf pf hR
          have e8 : (vf 8) = .bool false ∧ (pf 8) = [] := hR 8 (by decide)
          refine Or.inl ⟨want_of (congrArg some e8.1) rfl, ?_⟩
          refine rq_less (sx 4 rfl (sub_nil _)) (List.sublist_append_right _ _) ?_
          exact rq_v (rv_ev rfl)
         ·
          intro vf pf hR
          have e8 : (vf 8) = .bool false ∧ (pf 8) = [] := hR 8 (by decide)
          refine Or.inl ⟨want_of (congrArg some e8.1) rfl, ?_⟩
          refine rq_less (sx 7 rfl (sub_nil _)) (List.sublist_append_right _ _) ?_
          exact rq_v (rv_ev rfl)
         ·
          intro vf pf hR
          have e8 : (vf 8) = .bool false ∧ (pf 8) = [] := hR 8 (by decide)
          have e14 : (vf 14) = cv ∧ (pf 14) = [] := hR 14 (by decide)
          have e15 : (vf 15) = .int .i64 (k : Int) ∧ (pf 15) = [] := hR 15 (by decide)
          refine Or.inl ⟨want_of (congrArg some e8.1) rfl, ?_⟩
          refine rq_less (sx 92 (congrArg some e14.1) (sx 93 (congrArg some e15.1) (sub_nil _))) (List.sublist_append_right _ _) ?_
          exact rq_v (rv_index (s := 1) rfl Try.underlying26 (by kernel_rfl) rfl rfl (rd_row 3 rfl) (by omega) (by first | omega | (simp only [List.length_set]; omega)))
         ·
          intro vf pf hR
          have e8 : (vf 8) = .bool false ∧ (pf 8) = [] := hR 8 (by decide)
          have e16 : (vf 16) = elP cv (((k : Int)).toNat * 1) ∧ (pf 16) = [] := hR 16 (by decide)
          refine Or.inl ⟨want_of (congrArg some e8.1) rfl, ?_⟩
          refine rq_less (sx 94 (congrArg some e16.1) (sub_nil _)) (List.sublist_append_right _ _) ?_
          exact rq_v (rv_loadEl (u := .int .i64 (cs.getD k 0)) rfl (by kernel_rfl) rfl (rd_row 3 rfl) (ints_at1 (show _ < cs.length by first | omega | (simp only [List.length_set]; omega))))
         ·
          intro vf pf hR
          have e8 : (vf 8) = .bool false ∧ (pf 8) = [] := hR 8 (by decide)
          have e13 : (vf 13) = .int .i64 (D.getD (((srcI d k).getD i 0).toNat) 0) ∧ (pf 13) = [] := hR 13 (by decide)
          have e17 : (vf 17) = .int .i64 (cs.getD k 0) ∧ (pf 17) = [] := hR 17 (by decide)
          refine Or.inl ⟨want_of (congrArg some e8.1) rfl, ?_⟩
          refine rq_less (sx 91 (congrArg some e13.1) (sx 95 (congrArg some e17.1) (sub_nil _))) (List.sublist_append_right _ _) ?_
          exact rq_v (rv_add rfl rfl rfl (by constructor <;> omega))
         ·
          intro vf pf hR
          have e8 : (vf 8) = .bool false ∧ (pf 8) = [] := hR 8 (by decide)
          have e12 : (vf 12) = .int .i64 (D.getD k 0) ∧ (pf 12) = [] := hR 12 (by decide)
          have e18 : (vf 18) = .int .i64 ((D.getD (((srcI d k).getD i 0).toNat) 0) + (cs.getD k 0)) ∧ (pf 18) = [] := hR 18 (by decide)
          refine Or.inl ⟨want_of (congrArg some e8.1) rfl, ?_⟩
          refine rq_less (sx 90 (congrArg some e12.1) (sx 96 (congrArg some e18.1) (sub_nil _))) (List.sublist_append_right _ _) ?_
          exact rq_mono (rq_v (rv_cmp rfl rfl rfl rfl)) (fun _ _ h => ⟨h.1.trans (congrArg Value.bool hb24), h.2⟩)
         ·
          intro vf pf hR
          have e2 : (vf 2) = .bool true ∧ (pf 2) = [] := hR 2 (by decide)
          have e8 : (vf 8) = .bool false ∧ (pf 8) = [] := hR 8 (by decide)
          have e19 : (vf 19) = .bool true ∧ (pf 19) = [] := hR 19 (by decide)
          refine Or.inl ⟨want_of (congrArg some e2.1) rfl, ?_⟩
          refine rq_less (sx 86 (congrArg some e8.1) (sx 97 (congrArg some e19.1) (sub_nil _))) (List.sublist_append_right _ _) ?_
          exact rq_v (rv_ev rfl)
         ·
          intro vf pf hR
          have e2 : (vf 2) = .bool true ∧ (pf 2) = [] := hR 2 (by decide)
          have e20 : (vf 20) = .bool true ∧ (pf 20) = [] := hR 20 (by decide)
          refine Or.inl ⟨rfl, ?_⟩
          refine rq_less (sx 80 (congrArg some e2.1) (sx 98 (congrArg some e20.1) (sub_nil _))) (List.sublist_append_right _ _) ?_
          exact rq_v (rv_ev rfl)
        ·
         intro vf pf hR
         have e21 : (vf 21) = .bool true ∧ (pf 21) = [] := hR 21 (by decide)
         refine hl_less (l' := [rowE 3 1 v14 ((srcI d k).length) ((srcI d k).map (Value.int .i64)), rowE 3 1 v7 D.length (D.map (Value.int .i64)), boxE b5 #[.int .i64 d.W, .int .i64 d.H, .int .i64 d.T, .int .i64 d.R] 25, rowE 3 1 cv cs.length (cs.map (Value.int .i64))]) (sx 0 rfl (sx 2 rfl (sx 3 rfl (sx 4 rfl (sx 5 rfl (sx 6 rfl (sx 7 rfl (sx 8 rfl (sx 9 rfl (sx 10 rfl (sx 11 rfl (sx 13 rfl (sx 45 rfl (sx 49 rfl (sx 68 rfl (sx 99 (congrArg some e21.1) (sub_nil _))))))))))))))))) (List.sublist_append_right _ _) ?_
         simp only [List.drop_succ_cons, List.drop_zero]
         refine hl_less (sx 0 rfl (sx 2 rfl (sx 3 rfl (sx 4 rfl (sx 5 rfl (sx 6 rfl (sx 7 rfl (sx 8 rfl (sx 9 rfl (sx 10 rfl (sx 11 rfl (sx 13 rfl (sx 45 rfl (sx 49 rfl (sx 68 rfl (sx 99 rfl (sub_nil _))))))))))))))))) (.refl _) ?_
         refine hl_nil ?_
         refine hq_then ?_
         refine hc_true rfl ?_
         refine hc_seq ?_
         refine hc_region ?_
         refine hl_v rfl rfl rfl (rv_ev rfl) ?_
         refine hl_less (sx 0 rfl (sx 2 rfl (sx 3 rfl (sx 4 rfl (sx 5 rfl (sx 6 rfl (sx 7 rfl (sx 8 rfl (sx 9 rfl (sx 10 rfl (sx 11 rfl (sx 13 rfl (sx 45 rfl (sx 49 rfl (sx 68 rfl (sx 99 rfl (sub_nil _))))))))))))))))) (.refl _) ?_
         refine hl_nil ?_
         refine hq_then ?_
         refine hc_ret ?_
         refine hq_then_ret ?_
         refine hq_block_ret ?_
         refine hq_then_ret ?_
         refine hq_then_ret ?_
         refine hq_block_ret ?_
         refine hq_then_ret ?_
         refine hq_block_ret ?_
         refine hq_then_ret ?_
         refine hq_then_ret ?_
         refine hq_block_ret ?_
         refine hq_then_ret ?_
         exfalso
         omega
       ·
        have hb24p : ¬ ((D.getD (((srcI d k).getD i 0).toNat) 0) + (cs.getD k 0) < D.getD k 0) := of_decide_eq_false hb24
        refine hc_draw (by kernel_rfl) 22 [0, 1, 2, 3, 4, 5, 6, 7, 8, 9, 10, 11, 12, 13, 14, 15, 16, 17, 18, 19, 20, 21] (List.take 22 _) (List.drop 22 _) [[], [0], [1], [2], [2], [2, 3, 4], [2, 5], [2, 6], [2, 7], [8], [8], [8, 9, 10], [8, 11], [8], [8], [8], [8, 14, 15], [8, 16], [8, 13, 17], [8, 12, 18], [2, 8, 19], [2, 20]] [78, 79, 80, 81, 82, 83, 84, 85, 86, 87, 88, 89, 90, 91, 92, 93, 94, 95, 96, 97, 98, 99] (fun i_ vs_ v_ p_ => match i_ with | 0 => v_ = .int .i64 (D.getD (((srcI d k).getD i 0).toNat) 0) ∧ p_ = [] | 1 => v_ = .bool true ∧ p_ = [] | 2 => v_ = .bool true ∧ p_ = [] | 3 => v_ = v7 ∧ p_ = [] | 4 => v_ = .int .i64 (k : Int) ∧ p_ = [] | 5 => v_ = elP v7 (((k : Int)).toNat * 1) ∧ p_ = [] | 6 => v_ = .int .i64 (D.getD k 0) ∧ p_ = [] | 7 => v_ = .bool false ∧ p_ = [] | 8 => v_ = .bool false ∧ p_ = [] | 9 => v_ = v7 ∧ p_ = [] | 10 => v_ = .int .i64 (k : Int) ∧ p_ = [] | 11 => v_ = elP v7 (((k : Int)).toNat * 1) ∧ p_ = [] | 12 => v_ = .int .i64 (D.getD k 0) ∧ p_ = [] | 13 => v_ = .int .i64 (D.getD (((srcI d k).getD i 0).toNat) 0) ∧ p_ = [] | 14 => v_ = cv ∧ p_ = [] | 15 => v_ = .int .i64 (k : Int) ∧ p_ = [] | 16 => v_ = elP cv (((k : Int)).toNat * 1) ∧ p_ = [] | 17 => v_ = .int .i64 (cs.getD k 0) ∧ p_ = [] | 18 => v_ = .int .i64 ((D.getD (((srcI d k).getD i 0).toNat) 0) + (cs.getD k 0)) ∧ p_ = [] | 19 => v_ = .bool false ∧ p_ = [] | 20 => v_ = .bool false ∧ p_ = [] | 21 => v_ = .bool false ∧ p_ = [] | _ => True) (List.take_append_drop 22 _).symm (by kernel_rfl) (by kernel_rfl) rfl rfl ?_ ?_
        ·
         refine ⟨?_, ?_, ?_, ?_, ?_, ?_, ?_, ?_, ?_, ?_, ?_, ?_, ?_, ?_, ?_, ?_, ?_, ?_, ?_, ?_, ?_, ?_, trivial⟩
         ·
          intro vf pf hR
          refine Or.inl ⟨rfl, ?_⟩
          refine rq_less (sx 11 rfl (sub_nil _)) (List.sublist_append_right _ _) ?_
          exact rq_v (rv_ev rfl)
         ·
          intro vf pf hR
          have e0 : (vf 0) = .int .i64 (D.getD (((srcI d k).getD i 0).toNat) 0) ∧ (pf 0) = [] := hR 0 (by decide)
          refine Or.inl ⟨rfl, ?_⟩
          refine rq_less (sx 78 (congrArg some e0.1) (sub_nil _)) (List.sublist_append_right _ _) ?_
          exact rq_mono (rq_v (rv_cmp rfl rfl rfl rfl)) (fun _ _ h => ⟨h.1.trans (congrArg Value.bool hb22), h.2⟩)
         ·
          intro vf pf hR
          have e1 : (vf 1) = .bool true ∧ (pf 1) = [] := hR 1 (by decide)
          refine Or.inl ⟨rfl, ?_⟩
          refine rq_less (sx 79 (congrArg some e1.1) (sub_nil _)) (List.sublist_append_right _ _) ?_
          exact rq_v (rv_ev rfl)
         ·
          intro vf pf hR
          have e2 : (vf 2) = .bool true ∧ (pf 2) = [] := hR 2 (by decide)
          refine Or.inl ⟨want_of (congrArg some e2.1) rfl, ?_⟩
          refine rq_less (sx 6 rfl (sub_nil _)) (List.sublist_append_right _ _) ?_
          exact rq_v (rv_ev rfl)
         ·
          intro vf pf hR
          have e2 : (vf 2) = .bool true ∧ (pf 2) = [] := hR 2 (by decide)
          refine Or.inl ⟨want_of (congrArg some e2.1) rfl, ?_⟩
          refine rq_less (sx 7 rfl (sub_nil _)) (List.sublist_append_right _ _) ?_
          exact rq_v (rv_ev rfl)
         ·
          intro vf pf hR
          have e2 : (vf 2) = .bool true ∧ (pf 2) = [] := hR 2 (by decide)
          have e3 : (vf 3) = v7 ∧ (pf 3) = [] := hR 3 (by decide)
          have e4 : (vf 4) = .int .i64 (k : Int) ∧ (pf 4) = [] := hR 4 (by decide)
          refine Or.inl ⟨want_of (congrArg some e2.1) rfl, ?_⟩
          refine rq_less (sx 81 (congrArg some e3.1) (sx 82 (congrArg some e4.1) (sub_nil _))) (List.sublist_append_right _ _) ?_
          exact rq_v (rv_index (s := 1) rfl Try.underlying26 (by kernel_rfl) rfl rfl (rd_row 1 rfl) (by omega) (by first | omega | (simp only [List.length_set]; omega)))
         ·
          intro vf pf hR
          have e2 : (vf 2) = .bool true ∧ (pf 2) = [] := hR 2 (by decide)
          have e5 : (vf 5) = elP v7 (((k : Int)).toNat * 1) ∧ (pf 5) = [] := hR 5 (by decide)
          refine Or.inl ⟨want_of (congrArg some e2.1) rfl, ?_⟩
          refine rq_less (sx 83 (congrArg some e5.1) (sub_nil _)) (List.sublist_append_right _ _) ?_
          exact rq_v (rv_loadEl (u := .int .i64 (D.getD k 0)) rfl (by kernel_rfl) rfl (rd_row 1 rfl) (ints_at1 (show _ < D.length by first | omega | (simp only [List.length_set]; omega))))
         ·
          intro vf pf hR
          have e2 : (vf 2) = .bool true ∧ (pf 2) = [] := hR 2 (by decide)
          have e6 : (vf 6) = .int .i64 (D.getD k 0) ∧ (pf 6) = [] := hR 6 (by decide)
          refine Or.inl ⟨want_of (congrArg some e2.1) rfl, ?_⟩
          refine rq_less (sx 84 (congrArg some e6.1) (sub_nil _)) (List.sublist_append_right _ _) ?_
          exact rq_mono (rq_v (rv_cmp rfl rfl rfl rfl)) (fun _ _ h => ⟨h.1.trans (congrArg Value.bool hb23), h.2⟩)
         ·
          intro vf pf hR
          have e2 : (vf 2) = .bool true ∧ (pf 2) = [] := hR 2 (by decide)
          have e7 : (vf 7) = .bool false ∧ (pf 7) = [] := hR 7 (by decide)
          refine Or.inl ⟨want_of (congrArg some e2.1) rfl, ?_⟩
          refine rq_less (sx 85 (congrArg some e7.1) (sub_nil _)) (List.sublist_append_right _ _) ?_
          exact rq_v (rv_ev rfl)
         ·
          intro vf pf hR
          have e8 : (vf 8) = .bool false ∧ (pf 8) = [] := hR 8 (by decide)
          refine Or.inl ⟨want_of (congrArg some e8.1) rfl, ?_⟩
          refine rq_less (sx 6 rfl (sub_nil _)) (List.sublist_append_right _ _) ?_
          exact rq_v (rv_ev rfl)
         ·
          intro vf pf hR
          have e8 : (vf 8) = .bool false ∧ (pf 8) = [] := hR 8 (by decide)
          refine Or.inl ⟨want_of (congrArg some e8.1) rfl, ?_⟩
          refine rq_less (sx 7 rfl (sub_nil _)) (List.sublist_append_right _ _) ?_
          exact rq_v (rv_ev rfl)
         ·
          intro vf pf hR
          have e8 : (vf 8) = .bool false ∧ (pf 8) = [] := hR 8 (by decide)
          have e9 : (vf 9) = v7 ∧ (pf 9) = [] := hR 9 (by decide)
          have e10 : (vf 10) = .int .i64 (k : Int) ∧ (pf 10) = [] := hR 10 (by decide)
          refine Or.inl ⟨want_of (congrArg some e8.1) rfl, ?_⟩
          refine rq_less (sx 87 (congrArg some e9.1) (sx 88 (congrArg some e10.1) (sub_nil _))) (List.sublist_append_right _ _) ?_
          exact rq_v (rv_index (s := 1) rfl Try.underlying26 (by kernel_rfl) rfl rfl (rd_row 1 rfl) (by omega) (by first | omega | (simp only [List.length_set]; omega)))
         ·
          intro vf pf hR
          have e8 : (vf 8) = .bool false ∧ (pf 8) = [] := hR 8 (by decide)
          have e11 : (vf 11) = elP v7 (((k : Int)).toNat * 1) ∧ (pf 11) = [] := hR 11 (by decide)
          refine Or.inl ⟨want_of (congrArg some e8.1) rfl, ?_⟩
          refine rq_less (sx 89 (congrArg some e11.1) (sub_nil _)) (List.sublist_append_right _ _) ?_
          exact rq_v (rv_loadEl (u := .int .i64 (D.getD k 0)) rfl (by kernel_rfl) rfl (rd_row 1 rfl) (ints_at1 (show _ < D.length by first | omega | (simp only [List.length_set]; omega))))
         ·
          intro vf pf hR
          have e8 : (vf 8) = .bool false ∧ (pf 8) = [] := hR 8 (by decide)
          refine Or.inl ⟨want_of (congrArg some e8.1) rfl, ?_⟩
          refine rq_less (sx 11 rfl (sub_nil _)) (List.sublist_append_right _ _) ?_
          exact rq_v (rv_ev rfl)
         ·
          intro vf pf hR
          have e8 : (vf 8) = .bool false ∧ (pf 8) = [] := hR 8 (by decide)
          refine Or.inl ⟨want_of (congrArg some e8.1) rfl, ?_⟩
          refine rq_less (sx 4 rfl (sub_nil _)) (List.sublist_append_right _ _) ?_
          exact rq_v (rv_ev rfl)
         ·
          intro vf pf hR
          have e8 : (vf 8) = .bool false ∧ (pf 8) = [] := hR 8 (by decide)
          refine Or.inl ⟨want_of (congrArg some e8.1) rfl, ?_⟩
          refine rq_less (sx 7 rfl (sub_nil _)) (List.sublist_append_right _ _) ?_
          exact rq_v (rv_ev rfl)
         ·
          intro vf pf hR
          have e8 : (vf 8) = .bool false ∧ (pf 8) = [] := hR 8 (by decide)
          have e14 : (vf 14) = cv ∧ (pf 14) = [] := hR 14 (by decide)
          have e15 : (vf 15) = .int .i64 (k : Int) ∧ (pf 15) = [] := hR 15 (by decide)
          refine Or.inl ⟨want_of (congrArg some e8.1) rfl, ?_⟩
          refine rq_less (sx 92 (congrArg some e14.1) (sx 93 (congrArg some e15.1) (sub_nil _))) (List.sublist_append_right _ _) ?_
          exact rq_v (rv_index (s := 1) rfl Try.underlying26 (by kernel_rfl) rfl rfl (rd_row 3 rfl) (by omega) (by first | omega | (simp only [List.length_set]; omega)))
         ·
          intro vf pf hR
          have e8 : (vf 8) = .bool false ∧ (pf 8) = [] := hR 8 (by decide)
          have e16 : (vf 16) = elP cv (((k : Int)).toNat * 1) ∧ (pf 16) = [] := hR 16 (by decide)
          refine Or.inl ⟨want_of (congrArg some e8.1) rfl, ?_⟩
          refine rq_less (sx 94 (congrArg some e16.1) (sub_nil _)) (List.sublist_append_right _ _) ?_
          exact rq_v (rv_loadEl (u := .int .i64 (cs.getD k 0)) rfl (by kernel_rfl) rfl (rd_row 3 rfl) (ints_at1 (show _ < cs.length by first | omega | (simp only [List.length_set]; omega))))
         ·
          intro vf pf hR
          have e8 : (vf 8) = .bool false ∧ (pf 8) = [] := hR 8 (by decide)
          have e13 : (vf 13) = .int .i64 (D.getD (((srcI d k).getD i 0).toNat) 0) ∧ (pf 13) = [] := hR 13 (by decide)
          have e17 : (vf 17) = .int .i64 (cs.getD k 0) ∧ (pf 17) = [] := hR 17 (by decide)
          refine Or.inl ⟨want_of (congrArg some e8.1) rfl, ?_⟩
          refine rq_less (sx 91 (congrArg some e13.1) (sx 95 (congrArg some e17.1) (sub_nil _))) (List.sublist_append_right _ _) ?_
          exact rq_v (rv_add rfl rfl rfl (by constructor <;> omega))
         ·
          intro vf pf hR
          have e8 : (vf 8) = .bool false ∧ (pf 8) = [] := hR 8 (by decide)
          have e12 : (vf 12) = .int .i64 (D.getD k 0) ∧ (pf 12) = [] := hR 12 (by decide)
          have e18 : (vf 18) = .int .i64 ((D.getD (((srcI d k).getD i 0).toNat) 0) + (cs.getD k 0)) ∧ (pf 18) = [] := hR 18 (by decide)
          refine Or.inl ⟨want_of (congrArg some e8.1) rfl, ?_⟩
          refine rq_less (sx 90 (congrArg some e12.1) (sx 96 (congrArg some e18.1) (sub_nil _))) (List.sublist_append_right _ _) ?_
          exact rq_mono (rq_v (rv_cmp rfl rfl rfl rfl)) (fun _ _ h => ⟨h.1.trans (congrArg Value.bool hb24), h.2⟩)
         ·
          intro vf pf hR
          have e2 : (vf 2) = .bool true ∧ (pf 2) = [] := hR 2 (by decide)
          have e8 : (vf 8) = .bool false ∧ (pf 8) = [] := hR 8 (by decide)
          have e19 : (vf 19) = .bool false ∧ (pf 19) = [] := hR 19 (by decide)
          refine Or.inl ⟨want_of (congrArg some e2.1) rfl, ?_⟩
          refine rq_less (sx 86 (congrArg some e8.1) (sx 97 (congrArg some e19.1) (sub_nil _))) (List.sublist_append_right _ _) ?_
          exact rq_v (rv_ev rfl)
         ·
          intro vf pf hR
          have e2 : (vf 2) = .bool true ∧ (pf 2) = [] := hR 2 (by decide)
          have e20 : (vf 20) = .bool false ∧ (pf 20) = [] := hR 20 (by decide)
          refine Or.inl ⟨rfl, ?_⟩
          refine rq_less (sx 80 (congrArg some e2.1) (sx 98 (congrArg some e20.1) (sub_nil _))) (List.sublist_append_right _ _) ?_
          exact rq_v (rv_ev rfl)
        ·
         intro vf pf hR
         have e21 : (vf 21) = .bool false ∧ (pf 21) = [] := hR 21 (by decide)
         refine hl_less (l' := [rowE 3 1 v14 ((srcI d k).length) ((srcI d k).map (Value.int .i64)), rowE 3 1 v7 D.length (D.map (Value.int .i64)), boxE b5 #[.int .i64 d.W, .int .i64 d.H, .int .i64 d.T, .int .i64 d.R] 25, rowE 3 1 cv cs.length (cs.map (Value.int .i64))]) (sx 0 rfl (sx 2 rfl (sx 3 rfl (sx 4 rfl (sx 5 rfl (sx 6 rfl (sx 7 rfl (sx 8 rfl (sx 9 rfl (sx 10 rfl (sx 11 rfl (sx 13 rfl (sx 45 rfl (sx 49 rfl (sx 68 rfl (sx 99 (congrArg some e21.1) (sub_nil _))))))))))))))))) (List.sublist_append_right _ _) ?_
         simp only [List.drop_succ_cons, List.drop_zero]
         refine hl_less (sx 0 rfl (sx 2 rfl (sx 3 rfl (sx 4 rfl (sx 5 rfl (sx 6 rfl (sx 7 rfl (sx 8 rfl (sx 9 rfl (sx 10 rfl (sx 11 rfl (sx 13 rfl (sx 45 rfl (sx 49 rfl (sx 68 rfl (sx 99 rfl (sub_nil _))))))))))))))))) (.refl _) ?_
         refine hl_nil ?_
         refine hq_then ?_
         refine hc_false rfl ?_
         refine hc_skip ?_
         refine hq_then ?_
         rcases Bool.eq_false_or_eq_true (b) with hb25 | hb25
         ·
          refine hc_draw (by kernel_rfl) 18 [0, 1, 2, 3, 4, 5, 6, 7, 8, 9, 10, 11, 12, 13, 14, 15, 16, 17] (List.take 18 _) (List.drop 18 _) [[], [0], [1], [1], [1], [4], [4], [4], [4], [4], [4], [4], [4], [4], [4], [4], [1], [1, 16]] [100, 101, 102, 103, 104, 105, 106, 107, 108, 109, 110, 111, 112, 113, 114, 115, 116, 117] (fun i_ vs_ v_ p_ => match i_ with | 0 => v_ = .bool true ∧ p_ = [] | 1 => v_ = .bool true ∧ p_ = [] | 2 => v_ = undef ∧ p_ = [] | 3 => v_ = undef ∧ p_ = [] | 4 => v_ = undef ∧ p_ = [] | 5 => v_ = undef ∧ p_ = [] | 6 => v_ = undef ∧ p_ = [] | 7 => v_ = undef ∧ p_ = [] | 8 => v_ = undef ∧ p_ = [] | 9 => v_ = undef ∧ p_ = [] | 10 => v_ = undef ∧ p_ = [] | 11 => v_ = undef ∧ p_ = [] | 12 => v_ = undef ∧ p_ = [] | 13 => v_ = undef ∧ p_ = [] | 14 => v_ = undef ∧ p_ = [] | 15 => v_ = undef ∧ p_ = [] | 16 => v_ = undef ∧ p_ = [] | 17 => v_ = .bool true ∧ p_ = [] | _ => True) (List.take_append_drop 18 _).symm (by kernel_rfl) (by kernel_rfl) rfl rfl ?_ ?_
          ·
           refine ⟨?_, ?_, ?_, ?_, ?_, ?_, ?_, ?_, ?_, ?_, ?_, ?_, ?_, ?_, ?_, ?_, ?_, ?_, trivial⟩
           ·
            intro vf pf hR
            refine Or.inl ⟨rfl, ?_⟩
            refine rq_less (sx 9 rfl (sub_nil _)) (List.sublist_append_right _ _) ?_
            exact rq_mono (rq_v (rv_ev rfl)) (fun _ _ h => ⟨h.1.trans (congrArg Value.bool hb25), h.2⟩)
           ·
            intro vf pf hR
            have e0 : (vf 0) = .bool true ∧ (pf 0) = [] := hR 0 (by decide)
            refine Or.inl ⟨rfl, ?_⟩
            refine rq_less (sx 100 (congrArg some e0.1) (sub_nil _)) (List.sublist_append_right _ _) ?_
            exact rq_v (rv_ev rfl)
           ·
            intro vf pf hR
            have e1 : (vf 1) = .bool true ∧ (pf 1) = [] := hR 1 (by decide)
            exact Or.inr ⟨want_of (congrArg some e1.1) rfl, rfl, rfl⟩
           ·
            intro vf pf hR
            have e1 : (vf 1) = .bool true ∧ (pf 1) = [] := hR 1 (by decide)
            exact Or.inr ⟨want_of (congrArg some e1.1) rfl, rfl, rfl⟩
           ·
            intro vf pf hR
            have e1 : (vf 1) = .bool true ∧ (pf 1) = [] := hR 1 (by decide)
            exact Or.inr ⟨want_of (congrArg some e1.1) rfl, rfl, rfl⟩
           ·
            intro vf pf hR
            have e4 : (vf 4) = undef ∧ (pf 4) = [] := hR 4 (by decide)
            exact Or.inr ⟨want_un (congrArg some e4.1), rfl, rfl⟩
           ·
            intro vf pf hR
            have e4 : (vf 4) = undef ∧ (pf 4) = [] := hR 4 (by decide)
            exact Or.inr ⟨want_un (congrArg some e4.1), rfl, rfl⟩
           ·
            intro vf pf hR
            have e4 : (vf 4) = undef ∧ (pf 4) = [] := hR 4 (by decide)
            exact Or.inr ⟨want_un (congrArg some e4.1), rfl, rfl⟩
           ·
            intro vf pf hR
            have e4 : (vf 4) = undef ∧ (pf 4) = [] := hR 4 (by decide)
            exact Or.inr ⟨want_un (congrArg some e4.1), rfl, rfl⟩
           ·
            intro vf pf hR
            have e4 : (vf 4) = undef ∧ (pf 4) = [] := hR 4 (by decide)
            exact Or.inr ⟨want_un (congrArg some e4.1), rfl, rfl⟩
           ·
            intro vf pf hR
            have e4 : (vf 4) = undef ∧ (pf 4) = [] := hR 4 (by decide)
            exact Or.inr ⟨want_un (congrArg some e4.1), rfl, rfl⟩
           ·
            intro vf pf hR
            have e4 : (vf 4) = undef ∧ (pf 4) = [] := hR 4 (by decide)
            exact Or.inr ⟨want_un (congrArg some e4.1), rfl, rfl⟩
           ·
            intro vf pf hR
            have e4 : (vf 4) = undef ∧ (pf 4) = [] := hR 4 (by decide)
            exact Or.inr ⟨want_un (congrArg some e4.1), rfl, rfl⟩
           ·
            intro vf pf hR
            have e4 : (vf 4) = undef ∧ (pf 4) = [] := hR 4 (by decide)
            exact Or.inr ⟨want_un (congrArg some e4.1), rfl, rfl⟩
           ·
            intro vf pf hR
            have e4 : (vf 4) = undef ∧ (pf 4) = [] := hR 4 (by decide)
            exact Or.inr ⟨want_un (congrArg some e4.1), rfl, rfl⟩
           ·
            intro vf pf hR
            have e4 : (vf 4) = undef ∧ (pf 4) = [] := hR 4 (by decide)
            exact Or.inr ⟨want_un (congrArg some e4.1), rfl, rfl⟩
           ·
            intro vf pf hR
            have e1 : (vf 1) = .bool true ∧ (pf 1) = [] := hR 1 (by decide)
            exact Or.inr ⟨want_of (congrArg some e1.1) rfl, rfl, rfl⟩
           ·
            intro vf pf hR
            have e1 : (vf 1) = .bool true ∧ (pf 1) = [] := hR 1 (by decide)
            have e16 : (vf 16) = undef ∧ (pf 16) = [] := hR 16 (by decide)
            refine Or.inl ⟨rfl, ?_⟩
            refine rq_less (sx 101 (congrArg some e1.1) (sx 116 (congrArg some e16.1) (sub_nil _))) (List.sublist_append_right _ _) ?_
            exact rq_v (rv_ev rfl)
          ·
           intro vf pf hR
           have e17 : (vf 17) = .bool true ∧ (pf 17) = [] := hR 17 (by decide)
           refine hl_less (l' := [rowE 3 1 v14 ((srcI d k).length) ((srcI d k).map (Value.int .i64)), rowE 3 1 v7 D.length (D.map (Value.int .i64)), boxE b5 #[.int .i64 d.W, .int .i64 d.H, .int .i64 d.T, .int .i64 d.R] 25, rowE 3 1 cv cs.length (cs.map (Value.int .i64))]) (sx 0 rfl (sx 2 rfl (sx 3 rfl (sx 4 rfl (sx 5 rfl (sx 6 rfl (sx 7 rfl (sx 8 rfl (sx 9 rfl (sx 10 rfl (sx 11 rfl (sx 13 rfl (sx 45 rfl (sx 49 rfl (sx 68 rfl (sx 99 rfl (sx 117 (congrArg some e17.1) (sub_nil _)))))))))))))))))) (List.sublist_append_right _ _) ?_
           simp only [List.drop_succ_cons, List.drop_zero]
           refine hl_v rfl rfl rfl (rv_ev rfl) ?_
           refine hl_less (sx 0 rfl (sx 2 rfl (sx 3 rfl (sx 4 rfl (sx 5 rfl (sx 6 rfl (sx 7 rfl (sx 8 rfl (sx 9 rfl (sx 10 rfl (sx 11 rfl (sx 13 rfl (sx 45 rfl (sx 49 rfl (sx 68 rfl (sx 99 rfl (sub_nil _))))))))))))))))) (.refl _) ?_
           refine hl_nil ?_
           refine hq_block_normal ?_
           refine hq_then ?_
           refine hc_region ?_
           refine hl_v rfl rfl rfl (rv_ev rfl) ?_
           refine hl_v rfl rfl rfl (rv_add rfl rfl rfl (by constructor <;> omega)) ?_
           refine hl_v rfl rfl rfl (rv_ev rfl) ?_
           refine hl_less (sx 0 rfl (sx 2 rfl (sx 3 rfl (sx 4 rfl (sx 5 rfl (sx 6 rfl (sx 7 rfl (sx 8 rfl (sx 9 rfl (sx 10 rfl (sx 11 rfl (sx 13 rfl (sx 45 rfl (sx 49 rfl (sx 68 rfl (sx 99 rfl (sub_nil _))))))))))))))))) (.refl _) ?_
           refine hl_nil ?_
           exact hq_round2 (i + 1) true ⟨by omega, .inl rfl⟩ (by omega) (sx 0 rfl (sx 2 rfl (sx 3 rfl (sx 4 rfl (sx 5 rfl (sx 6 rfl (sx 7 rfl (sx 8 rfl (sx 9 rfl (sx 10 rfl (sx 13 rfl (sx 45 rfl (sx 49 rfl (sub_nil _)))))))))))))) ((.cons_cons _ (.cons_cons _ (.cons_cons _ (.cons_cons _ .slnil)))))
         ·
          have hb26 : (decide (0 ≤ D.getD (((srcI d k).getD i 0).toNat) 0)) = true := hb22
          rcases Bool.eq_false_or_eq_true ((D.getD k 0) == ((D.getD (((srcI d k).getD i 0).toNat) 0) + (cs.getD k 0))) with hb27 | hb27
          ·
           have hb27p : D.getD k 0 = (D.getD (((srcI d k).getD i 0).toNat) 0) + (cs.getD k 0) := beq_iff_eq.1 hb27
           refine hc_draw (by kernel_rfl) 18 [0, 1, 2, 3, 4, 5, 6, 7, 8, 9, 10, 11, 12, 13, 14, 15, 16, 17] (List.take 18 _) (List.drop 18 _) [[], [0], [1], [1, 2], [1, 3], [4], [4], [4, 5, 6], [4, 7], [4], [4], [4], [4, 10, 11], [4, 12], [4, 9, 13], [4, 8, 14], [1, 4, 15], [1, 16]] [100, 101, 102, 103, 104, 105, 106, 107, 108, 109, 110, 111, 112, 113, 114, 115, 116, 117] (fun i_ vs_ v_ p_ => match i_ with | 0 => v_ = .bool false ∧ p_ = [] | 1 => v_ = .bool false ∧ p_ = [] | 2 => v_ = .int .i64 (D.getD (((srcI d k).getD i 0).toNat) 0) ∧ p_ = [] | 3 => v_ = .bool true ∧ p_ = [] | 4 => v_ = .bool true ∧ p_ = [] | 5 => v_ = v7 ∧ p_ = [] | 6 => v_ = .int .i64 (k : Int) ∧ p_ = [] | 7 => v_ = elP v7 (((k : Int)).toNat * 1) ∧ p_ = [] | 8 => v_ = .int .i64 (D.getD k 0) ∧ p_ = [] | 9 => v_ = .int .i64 (D.getD (((srcI d k).getD i 0).toNat) 0) ∧ p_ = [] | 10 => v_ = cv ∧ p_ = [] | 11 => v_ = .int .i64 (k : Int) ∧ p_ = [] | 12 => v_ = elP cv (((k : Int)).toNat * 1) ∧ p_ = [] | 13 => v_ = .int .i64 (cs.getD k 0) ∧ p_ = [] | 14 => v_ = .int .i64 ((D.getD (((srcI d k).getD i 0).toNat) 0) + (cs.getD k 0)) ∧ p_ = [] | 15 => v_ = .bool true ∧ p_ = [] | 16 => v_ = .bool true ∧ p_ = [] | 17 => v_ = .bool true ∧ p_ = [] | _ => True) (List.take_append_drop 18 _).symm (by kernel_rfl) (by kernel_rfl) rfl rfl ?_ ?_
           ·
            refine ⟨?_, ?_, ?_, ?_, ?_, ?_, ?_, ?_, ?_, ?_, ?_, ?_, ?_, ?_, ?_, ?_, ?_, ?_, trivial⟩
            ·
             intro vf pf hR
             refine Or.inl ⟨rfl, ?_⟩
             refine rq_less (sx 9 rfl (sub_nil _)) (List.sublist_append_right _ _) ?_
             exact rq_mono (rq_v (rv_ev rfl)) (fun _ _ h => ⟨h.1.trans (congrArg Value.bool hb25), h.2⟩)
            ·
             intro vf pf hR
             have e0 : (vf 0) = .bool false ∧ (pf 0) = [] := hR 0 (by decide)
             refine Or.inl ⟨rfl, ?_⟩
             refine rq_less (sx 100 (congrArg some e0.1) (sub_nil _)) (List.sublist_append_right _ _) ?_
             exact rq_v (rv_ev rfl)
            ·
             intro vf pf hR
             have e1 : (vf 1) = .bool false ∧ (pf 1) = [] := hR 1 (by decide)
             refine Or.inl ⟨want_of (congrArg some e1.1) rfl, ?_⟩
             refine rq_less (sx 11 rfl (sub_nil _)) (List.sublist_append_right _ _) ?_
             exact rq_v (rv_ev rfl)
            ·
             intro vf pf hR
             have e1 : (vf 1) = .bool false ∧ (pf 1) = [] := hR 1 (by decide)
             have e2 : (vf 2) = .int .i64 (D.getD (((srcI d k).getD i 0).toNat) 0) ∧ (pf 2) = [] := hR 2 (by decide)
             refine Or.inl ⟨want_of (congrArg some e1.1) rfl, ?_⟩
             refine rq_less (sx 102 (congrArg some e2.1) (sub_nil _)) (List.sublist_append_right _ _) ?_
             exact rq_mono (rq_v (rv_cmp rfl rfl rfl rfl)) (fun _ _ h => ⟨h.1.trans (congrArg Value.bool hb26), h.2⟩)
            ·
             intro vf pf hR
             have e1 : (vf 1) = .bool false ∧ (pf 1) = [] := hR 1 (by decide)
             have e3 : (vf 3) = .bool true ∧ (pf 3) = [] := hR 3 (by decide)
             refine Or.inl ⟨want_of (congrArg some e1.1) rfl, ?_⟩
             refine rq_less (sx 103 (congrArg some e3.1) (sub_nil _)) (List.sublist_append_right _ _) ?_
             exact rq_v (rv_ev rfl)
            ·
             intro vf pf hR
             have e4 : (vf 4) = .bool true ∧ (pf 4) = [] := hR 4 (by decide)
             refine Or.inl ⟨want_of (congrArg some e4.1) rfl, ?_⟩
             refine rq_less (sx 6 rfl (sub_nil _)) (List.sublist_append_right _ _) ?_
             exact rq_v (rv_ev rfl)
            ·
             intro vf pf hR
             have e4 : (vf 4) = .bool true ∧ (pf 4) = [] := hR 4 (by decide)
             refine Or.inl ⟨want_of (congrArg some e4.1) rfl, ?_⟩
             refine rq_less (sx 7 rfl (sub_nil _)) (List.sublist_append_right _ _) ?_
             exact rq_v (rv_ev rfl)
            ·
             intro vf pf hR
             have e4 : (vf 4) = .bool true ∧ (pf 4) = [] := hR 4 (by decide)
             have e5 : (vf 5) = v7 ∧ (pf 5) = [] := hR 5 (by decide)
             have e6 : (vf 6) = .int .i64 (k : Int) ∧ (pf 6) = [] := hR 6 (by decide)
             refine Or.inl ⟨want_of (congrArg some e4.1) rfl, ?_⟩
             refine rq_less (sx 105 (congrArg some e5.1) (sx 106 (congrArg some e6.1) (sub_nil _))) (List.sublist_append_right _ _) ?_
             exact rq_v (rv_index (s := 1) rfl Try.underlying26 (by kernel_rfl) rfl rfl (rd_row 1 rfl) (by omega) (by first | omega | (simp only [List.length_set]; omega)))
            ·
             intro vf pf hR
             have e4 : (vf 4) = .bool true ∧ (pf 4) = [] := hR 4 (by decide)
             have e7 : (vf 7) = elP v7 (((k : Int)).toNat * 1) ∧ (pf 7) = [] := hR 7 (by decide)
             refine Or.inl ⟨want_of (congrArg some e4.1) rfl, ?_⟩
             refine rq_less (sx 107 (congrArg some e7.1) (sub_nil _)) (List.sublist_append_right _ _) ?_
             exact rq_v (rv_loadEl (u := .int .i64 (D.getD k 0)) rfl (by kernel_rfl) rfl (rd_row 1 rfl) (ints_at1 (show _ < D.length by first | omega | (simp only [List.length_set]; omega))))
            ·
             intro vf pf hR
             have e4 : (vf 4) = .bool true ∧ (pf 4) = [] := hR 4 (by decide)
             refine Or.inl ⟨want_of (congrArg some e4.1) rfl, ?_⟩
             refine rq_less (sx 11 rfl (sub_nil _)) (List.sublist_append_right _ _) ?_
             exact rq_v (rv_ev rfl)
            ·
             intro vf pf hR
             have e4 : (vf 4) = .bool true ∧ (pf 4) = [] := hR 4 (by decide)
             refine Or.inl ⟨want_of (congrArg some e4.1) rfl, ?_⟩
             refine rq_less (sx 4 rfl (sub_nil _)) (List.sublist_append_right _ _) ?_
             exact rq_v (rv_ev rfl)
            ·
             intro vf pf hR
             have e4 : (vf 4) = .bool true ∧ (pf 4) = [] := hR 4 (by decide)
             refine Or.inl ⟨want_of (congrArg some e4.1) rfl, ?_⟩
             refine rq_less (sx 7 rfl (sub_nil _)) (List.sublist_append_right _ _) ?_
             exact rq_v (rv_ev rfl)
            ·
             intro vf pf hR
             have e4 : (vf 4) = .bool true ∧ (pf 4) = [] := hR 4 (by decide)
             have e10 : (vf 10) = cv ∧ (pf 10) = [] := hR 10 (by decide)
             have e11 : (vf 11) = .int .i64 (k : Int) ∧ (pf 11) = [] := hR 11 (by decide)
             refine Or.inl ⟨want_of (congrArg some e4.1) rfl, ?_⟩
             refine rq_less (sx 110 (congrArg some e10.1) (sx 111 (congrArg some e11.1) (sub_nil _))) (List.sublist_append_right _ _) ?_
             exact rq_v (rv_index (s := 1) rfl Try.underlying26 (by kernel_rfl) rfl rfl (rd_row 3 rfl) (by omega) (by first | omega | (simp only [List.length_set]; omega)))
            ·
             intro vf pf hR
             have e4 : (vf 4) = .bool true ∧ (pf 4) = [] := hR 4 (by decide)
             have e12 : (vf 12) = elP cv (((k : Int)).toNat * 1) ∧ (pf 12) = [] := hR 12 (by decide)
             refine Or.inl ⟨want_of (congrArg some e4.1) rfl, ?_⟩
             refine rq_less (sx 112 (congrArg some e12.1) (sub_nil _)) (List.sublist_append_right _ _) ?_
             exact rq_v (rv_loadEl (u := .int .i64 (cs.getD k 0)) rfl (by kernel_rfl) rfl (rd_row 3 rfl) (ints_at1 (show _ < cs.length by first | omega | (simp only [List.length_set]; omega))))
            ·
             intro vf pf hR
             have e4 : (vf 4) = .bool true ∧ (pf 4) = [] := hR 4 (by decide)
             have e9 : (vf 9) = .int .i64 (D.getD (((srcI d k).getD i 0).toNat) 0) ∧ (pf 9) = [] := hR 9 (by decide)
             have e13 : (vf 13) = .int .i64 (cs.getD k 0) ∧ (pf 13) = [] := hR 13 (by decide)
             refine Or.inl ⟨want_of (congrArg some e4.1) rfl, ?_⟩
             refine rq_less (sx 109 (congrArg some e9.1) (sx 113 (congrArg some e13.1) (sub_nil _))) (List.sublist_append_right _ _) ?_
             exact rq_v (rv_add rfl rfl rfl (by constructor <;> omega))
            ·
             intro vf pf hR
             have e4 : (vf 4) = .bool true ∧ (pf 4) = [] := hR 4 (by decide)
             have e8 : (vf 8) = .int .i64 (D.getD k 0) ∧ (pf 8) = [] := hR 8 (by decide)
             have e14 : (vf 14) = .int .i64 ((D.getD (((srcI d k).getD i 0).toNat) 0) + (cs.getD k 0)) ∧ (pf 14) = [] := hR 14 (by decide)
             refine Or.inl ⟨want_of (congrArg some e4.1) rfl, ?_⟩
             refine rq_less (sx 108 (congrArg some e8.1) (sx 114 (congrArg some e14.1) (sub_nil _))) (List.sublist_append_right _ _) ?_
             exact rq_mono (rq_v (rv_cmp rfl rfl rfl rfl)) (fun _ _ h => ⟨h.1.trans (congrArg Value.bool hb27), h.2⟩)
            ·
             intro vf pf hR
             have e1 : (vf 1) = .bool false ∧ (pf 1) = [] := hR 1 (by decide)
             have e4 : (vf 4) = .bool true ∧ (pf 4) = [] := hR 4 (by decide)
             have e15 : (vf 15) = .bool true ∧ (pf 15) = [] := hR 15 (by decide)
             refine Or.inl ⟨want_of (congrArg some e1.1) rfl, ?_⟩
             refine rq_less (sx 104 (congrArg some e4.1) (sx 115 (congrArg some e15.1) (sub_nil _))) (List.sublist_append_right _ _) ?_
             exact rq_v (rv_ev rfl)
            ·
             intro vf pf hR
             have e1 : (vf 1) = .bool false ∧ (pf 1) = [] := hR 1 (by decide)
             have e16 : (vf 16) = .bool true ∧ (pf 16) = [] := hR 16 (by decide)
             refine Or.inl ⟨rfl, ?_⟩
             refine rq_less (sx 101 (congrArg some e1.1) (sx 116 (congrArg some e16.1) (sub_nil _))) (List.sublist_append_right _ _) ?_
             exact rq_v (rv_ev rfl)
           ·
            intro vf pf hR
            have e17 : (vf 17) = .bool true ∧ (pf 17) = [] := hR 17 (by decide)
            refine hl_less (l' := [rowE 3 1 v14 ((srcI d k).length) ((srcI d k).map (Value.int .i64)), rowE 3 1 v7 D.length (D.map (Value.int .i64)), boxE b5 #[.int .i64 d.W, .int .i64 d.H, .int .i64 d.T, .int .i64 d.R] 25, rowE 3 1 cv cs.length (cs.map (Value.int .i64))]) (sx 0 rfl (sx 2 rfl (sx 3 rfl (sx 4 rfl (sx 5 rfl (sx 6 rfl (sx 7 rfl (sx 8 rfl (sx 9 rfl (sx 10 rfl (sx 11 rfl (sx 13 rfl (sx 45 rfl (sx 49 rfl (sx 68 rfl (sx 99 rfl (sx 117 (congrArg some e17.1) (sub_nil _)))))))))))))))))) (List.sublist_append_right _ _) ?_
            simp only [List.drop_succ_cons, List.drop_zero]
            refine hl_v rfl rfl rfl (rv_ev rfl) ?_
            refine hl_less (sx 0 rfl (sx 2 rfl (sx 3 rfl (sx 4 rfl (sx 5 rfl (sx 6 rfl (sx 7 rfl (sx 8 rfl (sx 9 rfl (sx 10 rfl (sx 11 rfl (sx 13 rfl (sx 45 rfl (sx 49 rfl (sx 68 rfl (sx 99 rfl (sub_nil _))))))))))))))))) (.refl _) ?_
            refine hl_nil ?_
            refine hq_block_normal ?_
            refine hq_then ?_
            refine hc_region ?_
            refine hl_v rfl rfl rfl (rv_ev rfl) ?_
            refine hl_v rfl rfl rfl (rv_add rfl rfl rfl (by constructor <;> omega)) ?_
            refine hl_v rfl rfl rfl (rv_ev rfl) ?_
            refine hl_less (sx 0 rfl (sx 2 rfl (sx 3 rfl (sx 4 rfl (sx 5 rfl (sx 6 rfl (sx 7 rfl (sx 8 rfl (sx 9 rfl (sx 10 rfl (sx 11 rfl (sx 13 rfl (sx 45 rfl (sx 49 rfl (sx 68 rfl (sx 99 rfl (sub_nil _))))))))))))))))) (.refl _) ?_
            refine hl_nil ?_
            exact hq_round2 (i + 1) true ⟨by omega, .inl rfl⟩ (by omega) (sx 0 rfl (sx 2 rfl (sx 3 rfl (sx 4 rfl (sx 5 rfl (sx 6 rfl (sx 7 rfl (sx 8 rfl (sx 9 rfl (sx 10 rfl (sx 13 rfl (sx 45 rfl (sx 49 rfl (sub_nil _)))))))))))))) ((.cons_cons _ (.cons_cons _ (.cons_cons _ (.cons_cons _ .slnil)))))
          ·
           have hb27p : D.getD k 0 ≠ (D.getD (((srcI d k).getD i 0).toNat) 0) + (cs.getD k 0) := beq_eq_false_iff_ne.1 hb27
           refine hc_draw (by kernel_rfl) 18 [0, 1, 2, 3, 4, 5, 6, 7, 8, 9, 10, 11, 12, 13, 14, 15, 16, 17] (List.take 18 _) (List.drop 18 _) [[], [0], [1], [1, 2], [1, 3], [4], [4], [4, 5, 6], [4, 7], [4], [4], [4], [4, 10, 11], [4, 12], [4, 9, 13], [4, 8, 14], [1, 4, 15], [1, 16]] [100, 101, 102, 103, 104, 105, 106, 107, 108, 109, 110, 111, 112, 113, 114, 115, 116, 117] (fun i_ vs_ v_ p_ => match i_ with | 0 => v_ = .bool false ∧ p_ = [] | 1 => v_ = .bool false ∧ p_ = [] | 2 => v_ = .int .i64 (D.getD (((srcI d k).getD i 0).toNat) 0) ∧ p_ = [] | 3 => v_ = .bool true ∧ p_ = [] | 4 => v_ = .bool true ∧ p_ = [] | 5 => v_ = v7 ∧ p_ = [] | 6 => v_ = .int .i64 (k : Int) ∧ p_ = [] | 7 => v_ = elP v7 (((k : Int)).toNat * 1) ∧ p_ = [] | 8 => v_ = .int .i64 (D.getD k 0) ∧ p_ = [] | 9 => v_ = .int .i64 (D.getD (((srcI d k).getD i 0).toNat) 0) ∧ p_ = [] | 10 => v_ = cv ∧ p_ = [] | 11 => v_ = .int .i64 (k : Int) ∧ p_ = [] | 12 => v_ = elP cv (((k : Int)).toNat * 1) ∧ p_ = [] | 13 => v_ = .int .i64 (cs.getD k 0) ∧ p_ = [] | 14 => v_ = .int .i64 ((D.getD (((srcI d k).getD i 0).toNat) 0) + (cs.getD k 0)) ∧ p_ = [] | 15 => v_ = .bool false ∧ p_ = [] | 16 => v_ = .bool false ∧ p_ = [] | 17 => v_ = .bool false ∧ p_ = [] | _ => True) (List.take_append_drop 18 _).symm (by kernel_rfl) (by kernel_rfl) rfl rfl ?_ ?_
           ·
            refine ⟨?_, ?_, ?_, ?_, ?_, ?_, ?_, ?_, ?_, ?_, ?_, ?_, ?_, ?_, ?_, ?_, ?_, ?_, trivial⟩
            ·
             intro vf pf hR
             refine Or.inl ⟨rfl, ?_⟩
             refine rq_less (sx 9 rfl (sub_nil _)) (List.sublist_append_right _ _) ?_
             exact rq_mono (rq_v (rv_ev rfl)) (fun _ _ h => ⟨h.1.trans (congrArg Value.bool hb25), h.2⟩)
            ·
             intro vf pf hR
             have e0 : (vf 0) = .bool false ∧ (pf 0) = [] := hR 0 (by decide)
             refine Or.inl ⟨rfl, ?_⟩
             refine rq_less (sx 100 (congrArg some e0.1) (sub_nil _)) (List.sublist_append_right _ _) ?_
             exact rq_v (rv_ev rfl)
            ·
             intro vf pf hR
             have e1 : (vf 1) = .bool false ∧ (pf 1) = [] := hR 1 (by decide)
             refine Or.inl ⟨want_of (congrArg some e1.1) rfl, ?_⟩
             refine rq_less (sx 11 rfl (sub_nil _)) (List.sublist_append_right _ _) ?_
             exact rq_v (rv_ev rfl)
            ·
             intro vf pf hR
             have e1 : (vf 1) = .bool false ∧ (pf 1) = [] := hR 1 (by decide)
             have e2 : (vf 2) = .int .i64 (D.getD (((srcI d k).getD i 0).toNat) 0) ∧ (pf 2) = [] := hR 2 (by decide)
             refine Or.inl ⟨want_of (congrArg some e1.1) rfl, ?_⟩
             refine rq_less (sx 102 (congrArg some e2.1) (sub_nil _)) (List.sublist_append_right _ _) ?_
             exact rq_mono (rq_v (rv_cmp rfl rfl rfl rfl)) (fun _ _ h => ⟨h.1.trans (congrArg Value.bool hb26), h.2⟩)
            ·
             intro vf pf hR
             have e1 : (vf 1) = .bool false ∧ (pf 1) = [] := hR 1 (by decide)
             have e3 : (vf 3) = .bool true ∧ (pf 3) = [] := hR 3 (by decide)
             refine Or.inl ⟨want_of (congrArg some e1.1) rfl, ?_⟩
             refine rq_less (sx 103 (congrArg some e3.1) (sub_nil _)) (List.sublist_append_right _ _) ?_
             exact rq_v (rv_ev rfl)
            ·
             intro vf pf hR
             have e4 : (vf 4) = .bool true ∧ (pf 4) = [] := hR 4 (by decide)
             refine Or.inl ⟨want_of (congrArg some e4.1) rfl, ?_⟩
             refine rq_less (sx 6 rfl (sub_nil _)) (List.sublist_append_right _ _) ?_
             exact rq_v (rv_ev rfl)
            ·
             intro vf pf hR
             have e4 : (vf 4) = .bool true ∧ (pf 4) = [] := hR 4 (by decide)
             refine Or.inl ⟨want_of (congrArg some e4.1) rfl, ?_⟩
             refine rq_less (sx 7 rfl (sub_nil _)) (List.sublist_append_right _ _) ?_
             exact rq_v (rv_ev rfl)
            ·
             intro vf pf hR
             have e4 : (vf 4) = .bool true ∧ (pf 4) = [] := hR 4 (by decide)
             have e5 : (vf 5) = v7 ∧ (pf 5) = [] := hR 5 (by decide)
             have e6 : (vf 6) = .int .i64 (k : Int) ∧ (pf 6) = [] := hR 6 (by decide)
             refine Or.inl ⟨want_of (congrArg some e4.1) rfl, ?_⟩
             refine rq_less (sx 105 (congrArg some e5.1) (sx 106 (congrArg some e6.1) (sub_nil _))) (List.sublist_append_right _ _) ?_
             exact rq_v (rv_index (s := 1) rfl Try.underlying26 (by kernel_rfl) rfl rfl (rd_row 1 rfl) (by omega) (by first | omega | (simp only [List.length_set]; omega)))
            ·
             intro vf pf hR
             have e4 : (vf 4) = .bool true ∧ (pf 4) = [] := hR 4 (by decide)
             have e7 : (vf 7) = elP v7 (((k : Int)).toNat * 1) ∧ (pf 7) = [] := hR 7 (by decide)
             refine Or.inl ⟨want_of (congrArg some e4.1) rfl, ?_⟩
             refine rq_less (sx 107 (congrArg some e7.1) (sub_nil _)) (List.sublist_append_right _ _) ?_
             exact rq_v (rv_loadEl (u := .int .i64 (D.getD k 0)) rfl (by kernel_rfl) rfl (rd_row 1 rfl) (ints_at1 (show _ < D.length by first | omega | (simp only [List.length_set]; omega))))
            ·
             intro vf pf hR
             have e4 : (vf 4) = .bool true ∧ (pf 4) = [] := hR 4 (by decide)
             refine Or.inl ⟨want_of (congrArg some e4.1) rfl, ?_⟩
             refine rq_less (sx 11 rfl (sub_nil _)) (List.sublist_append_right _ _) ?_
             exact rq_v (rv_ev rfl)
            ·
             intro vf pf hR
             have e4 : (vf 4) = .bool true ∧ (pf 4) = [] := hR 4 (by decide)
             refine Or.inl ⟨want_of (congrArg some e4.1) rfl, ?_⟩
             refine rq_less (sx 4 rfl (sub_nil _)) (List.sublist_append_right _ _) ?_
             exact rq_v (rv_ev rfl)
            ·
             intro vf pf hR
             have e4 : (vf 4) = .bool true ∧ (pf 4) = [] := hR 4 (by decide)
             refine Or.inl ⟨want_of (congrArg some e4.1) rfl, ?_⟩
             refine rq_less (sx 7 rfl (sub_nil _)) (List.sublist_append_right _ _) ?_
             exact rq_v (rv_ev rfl)
            ·
             intro vf pf hR
             have e4 : (vf 4) = .bool true ∧ (pf 4) = [] := hR 4 (by decide)
             have e10 : (vf 10) = cv ∧ (pf 10) = [] := hR 10 (by decide)
             have e11 : (vf 11) = .int .i64 (k : Int) ∧ (pf 11) = [] := hR 11 (by decide)
             refine Or.inl ⟨want_of (congrArg some e4.1) rfl, ?_⟩
             refine rq_less (sx 110 (congrArg some e10.1) (sx 111 (congrArg some e11.1) (sub_nil _))) (List.sublist_append_right _ _) ?_
             exact rq_v (rv_index (s := 1) rfl Try.underlying26 (by kernel_rfl) rfl rfl (rd_row 3 rfl) (by omega) (by first | omega | (simp only [List.length_set]; omega)))
            ·
             intro vf pf hR
             have e4 : (vf 4) = .bool true ∧ (pf 4) = [] := hR 4 (by decide)
             have e12 : (vf 12) = elP cv (((k : Int)).toNat * 1) ∧ (pf 12) = [] := hR 12 (by decide)
             refine Or.inl ⟨want_of (congrArg some e4.1) rfl, ?_⟩
             refine rq_less (sx 112 (congrArg some e12.1) (sub_nil _)) (List.sublist_append_right _ _) ?_
             exact rq_v (rv_loadEl (u := .int .i64 (cs.getD k 0)) rfl (by kernel_rfl) rfl (rd_row 3 rfl) (ints_at1 (show _ < cs.length by first | omega | (simp only [List.length_set]; omega))))
            ·
             intro vf pf hR
             have e4 : (vf 4) = .bool true ∧ (pf 4) = [] := hR 4 (by decide)
             have e9 : (vf 9) = .int .i64 (D.getD (((srcI d k).getD i 0).toNat) 0) ∧ (pf 9) = [] := hR 9 (by decide)
             have e13 : (vf 13) = .int .i64 (cs.getD k 0) ∧ (pf 13) = [] := hR 13 (by decide)
             refine Or.inl ⟨want_of (congrArg some e4.1) rfl, ?_⟩
             refine rq_less (sx 109 (congrArg some e9.1) (sx 113 (congrArg some e13.1) (sub_nil _))) (List.sublist_append_right _ _) ?_
             exact rq_v (rv_add rfl rfl rfl (by constructor <;> omega))
            ·
             intro vf pf hR
             have e4 : (vf 4) = .bool true ∧ (pf 4) = [] := hR 4 (by decide)
             have e8 : (vf 8) = .int .i64 (D.getD k 0) ∧ (pf 8) = [] := hR 8 (by decide)
             have e14 : (vf 14) = .int .i64 ((D.getD (((srcI d k).getD i 0).toNat) 0) + (cs.getD k 0)) ∧ (pf 14) = [] := hR 14 (by decide)
             refine Or.inl ⟨want_of (congrArg some e4.1) rfl, ?_⟩
             refine rq_less (sx 108 (congrArg some e8.1) (sx 114 (congrArg some e14.1) (sub_nil _))) (List.sublist_append_right _ _) ?_
             exact rq_mono (rq_v (rv_cmp rfl rfl rfl rfl)) (fun _ _ h => ⟨h.1.trans (congrArg Value.bool hb27), h.2⟩)
            ·
             intro vf pf hR
             have e1 : (vf 1) = .bool false ∧ (pf 1) = [] := hR 1 (by decide)
             have e4 : (vf 4) = .bool true ∧ (pf 4) = [] := hR 4 (by decide)
             have e15 : (vf 15) = .bool false ∧ (pf 15) = [] := hR 15 (by decide)
             refine Or.inl ⟨want_of (congrArg some e1.1) rfl, ?_⟩
             refine rq_less (sx 104 (congrArg some e4.1) (sx 115 (congrArg some e15.1) (sub_nil _))) (List.sublist_append_right _ _) ?_
             exact rq_v (rv_ev rfl)
            ·
             intro vf pf hR
             have e1 : (vf 1) = .bool false ∧ (pf 1) = [] := hR 1 (by decide)
             have e16 : (vf 16) = .bool false ∧ (pf 16) = [] := hR 16 (by decide)
             refine Or.inl ⟨rfl, ?_⟩
             refine rq_less (sx 101 (congrArg some e1.1) (sx 116 (congrArg some e16.1) (sub_nil _))) (List.sublist_append_right _ _) ?_
             exact rq_v (rv_ev rfl)
           ·
            intro vf pf hR
            have e17 : (vf 17) = .bool false ∧ (pf 17) = [] := hR 17 (by decide)
            refine hl_less (l' := [rowE 3 1 v14 ((srcI d k).length) ((srcI d k).map (Value.int .i64)), rowE 3 1 v7 D.length (D.map (Value.int .i64)), boxE b5 #[.int .i64 d.W, .int .i64 d.H, .int .i64 d.T, .int .i64 d.R] 25, rowE 3 1 cv cs.length (cs.map (Value.int .i64))]) (sx 0 rfl (sx 2 rfl (sx 3 rfl (sx 4 rfl (sx 5 rfl (sx 6 rfl (sx 7 rfl (sx 8 rfl (sx 9 rfl (sx 10 rfl (sx 11 rfl (sx 13 rfl (sx 45 rfl (sx 49 rfl (sx 68 rfl (sx 99 rfl (sx 117 (congrArg some e17.1) (sub_nil _)))))))))))))))))) (List.sublist_append_right _ _) ?_
            simp only [List.drop_succ_cons, List.drop_zero]
            refine hl_v rfl rfl rfl (rv_ev rfl) ?_
            refine hl_less (sx 0 rfl (sx 2 rfl (sx 3 rfl (sx 4 rfl (sx 5 rfl (sx 6 rfl (sx 7 rfl (sx 8 rfl (sx 9 rfl (sx 10 rfl (sx 11 rfl (sx 13 rfl (sx 45 rfl (sx 49 rfl (sx 68 rfl (sx 99 rfl (sub_nil _))))))))))))))))) (.refl _) ?_
            refine hl_nil ?_
            refine hq_block_normal ?_
            refine hq_then ?_
            refine hc_region ?_
            refine hl_v rfl rfl rfl (rv_ev rfl) ?_
            refine hl_v rfl rfl rfl (rv_add rfl rfl rfl (by constructor <;> omega)) ?_
            refine hl_v rfl rfl rfl (rv_ev rfl) ?_
            refine hl_less (sx 0 rfl (sx 2 rfl (sx 3 rfl (sx 4 rfl (sx 5 rfl (sx 6 rfl (sx 7 rfl (sx 8 rfl (sx 9 rfl (sx 10 rfl (sx 11 rfl (sx 13 rfl (sx 45 rfl (sx 49 rfl (sx 68 rfl (sx 99 rfl (sub_nil _))))))))))))))))) (.refl _) ?_
            refine hl_nil ?_
            have hbf : b = false := by assumption
            have hv9 := hinv.resolve_left (by rw [hbf]; decide)
            exact hq_round2 (i + 1) false ⟨by omega, .inr ⟨hv9.1, hv9.2.1, fun j hj hc => by by_cases hji : j = i; (subst hji; simp only [gI, Int.toNat_natCast] at hc; omega); exact hv9.2.2 j (by omega) hc⟩⟩ (by omega) (sx 0 rfl (sx 2 rfl (sx 3 rfl (sx 4 rfl (sx 5 rfl (sx 6 rfl (sx 7 rfl (sx 8 rfl (sx 9 rfl (sx 10 rfl (sx 13 rfl (sx 45 rfl (sx 49 rfl (sub_nil _)))))))))))))) ((.cons_cons _ (.cons_cons _ (.cons_cons _ (.cons_cons _ .slnil)))))
     ·
      have hb22p : ¬ (0 ≤ D.getD (((srcI d k).getD i 0).toNat) 0) := of_decide_eq_false hb22
      refine hc_draw (by kernel_rfl) 22 [0, 1, 2, 3, 4, 5, 6, 7, 8, 9, 10, 11, 12, 13, 14, 15, 16, 17, 18, 19, 20, 21] (List.take 22 _) (List.drop 22 _) [[], [0], [1], [2], [2], [2], [2], [2], [2], [8], [8], [8], [8], [8], [8], [8], [8], [8], [8], [8], [2], [2, 20]] [78, 79, 80, 81, 82, 83, 84, 85, 86, 87, 88, 89, 90, 91, 92, 93, 94, 95, 96, 97, 98, 99] (fun i_ vs_ v_ p_ => match i_ with | 0 => v_ = .int .i64 (D.getD (((srcI d k).getD i 0).toNat) 0) ∧ p_ = [] | 1 => v_ = .bool false ∧ p_ = [] | 2 => v_ = .bool false ∧ p_ = [] | 3 => v_ = undef ∧ p_ = [] | 4 => v_ = undef ∧ p_ = [] | 5 => v_ = undef ∧ p_ = [] | 6 => v_ = undef ∧ p_ = [] | 7 => v_ = undef ∧ p_ = [] | 8 => v_ = undef ∧ p_ = [] | 9 => v_ = undef ∧ p_ = [] | 10 => v_ = undef ∧ p_ = [] | 11 => v_ = undef ∧ p_ = [] | 12 => v_ = undef ∧ p_ = [] | 13 => v_ = undef ∧ p_ = [] | 14 => v_ = undef ∧ p_ = [] | 15 => v_ = undef ∧ p_ = [] | 16 => v_ = undef ∧ p_ = [] | 17 => v_ = undef ∧ p_ = [] | 18 => v_ = undef ∧ p_ = [] | 19 => v_ = undef ∧ p_ = [] | 20 => v_ = undef ∧ p_ = [] | 21 => v_ = .bool false ∧ p_ = [] | _ => True) (List.take_append_drop 22 _).symm (by kernel_rfl) (by kernel_rfl) rfl rfl ?_ ?_
      ·
       refine ⟨?_, ?_, ?_, ?_, ?_, ?_, ?_, ?_, ?_, ?_, ?_, ?_, ?_, ?_, ?_, ?_, ?_, ?_, ?_, ?_, ?_, ?_, trivial⟩
       ·
        intro vf pf hR
        refine Or.inl ⟨rfl, ?_⟩
        refine rq_less (sx 11 rfl (sub_nil _)) (List.sublist_append_right _ _) ?_
        exact rq_v (rv_ev rfl)
       ·
        intro vf pf hR
        have e0 : (vf 0) = .int .i64 (D.getD (((srcI d k).getD i 0).toNat) 0) ∧ (pf 0) = [] := hR 0 (by decide)
        refine Or.inl ⟨rfl, ?_⟩
        refine rq_less (sx 78 (congrArg some e0.1) (sub_nil _)) (List.sublist_append_right _ _) ?_
        exact rq_mono (rq_v (rv_cmp rfl rfl rfl rfl)) (fun _ _ h => ⟨h.1.trans (congrArg Value.bool hb22), h.2⟩)
       ·
        intro vf pf hR
        have e1 : (vf 1) = .bool false ∧ (pf 1) = [] := hR 1 (by decide)
        refine Or.inl ⟨rfl, ?_⟩
        refine rq_less (sx 79 (congrArg some e1.1) (sub_nil _)) (List.sublist_append_right _ _) ?_
        exact rq_v (rv_ev rfl)
       ·
        intro vf pf hR
        have e2 : (vf 2) = .bool false ∧ (pf 2) = [] := hR 2 (by decide)
        exact Or.inr ⟨want_of (congrArg some e2.1) rfl, rfl, rfl⟩
       ·
        intro vf pf hR
        have e2 : (vf 2) = .bool false ∧ (pf 2) = [] := hR 2 (by decide)
        exact Or.inr ⟨want_of (congrArg some e2.1) rfl, rfl, rfl⟩
       ·
        intro vf pf hR
        have e2 : (vf 2) = .bool false ∧ (pf 2) = [] := hR 2 (by decide)
        exact Or.inr ⟨want_of (congrArg some e2.1) rfl, rfl, rfl⟩
       ·
        intro vf pf hR
        have e2 : (vf 2) = .bool false ∧ (pf 2) = [] := hR 2 (by decide)
        exact Or.inr ⟨want_of (congrArg some e2.1) rfl, rfl, rfl⟩
       ·
        intro vf pf hR
        have e2 : (vf 2) = .bool false ∧ (pf 2) = [] := hR 2 (by decide)
        exact Or.inr ⟨want_of (congrArg some e2.1) rfl, rfl, rfl⟩
       ·
        intro vf pf hR
        have e2 : (vf 2) = .bool false ∧ (pf 2) = [] := hR 2 (by decide)
        exact Or.inr ⟨want_of (congrArg some e2.1) rfl, rfl, rfl⟩
       ·
        intro vf pf hR
        have e8 : (vf 8) = undef ∧ (pf 8) = [] := hR 8 (by decide)
        exact Or.inr ⟨want_un (congrArg some e8.1), rfl, rfl⟩
       ·
        intro vf pf hR
        have e8 : (vf 8) = undef ∧ (pf 8) = [] := hR 8 (by decide)
        exact Or.inr ⟨want_un (congrArg some e8.1), rfl, rfl⟩
       ·
        intro vf pf hR
        have e8 : (vf 8) = undef ∧ (pf 8) = [] := hR 8 (by decide)
        exact Or.inr ⟨want_un (congrArg some e8.1), rfl, rfl⟩
       ·
        intro vf pf hR
        have e8 : (vf 8) = undef ∧ (pf 8) = [] := hR 8 (by decide)
        exact Or.inr ⟨want_un (congrArg some e8.1), rfl, rfl⟩
       ·
        intro vf pf hR
        have e8 : (vf 8) = undef ∧ (pf 8) = [] := hR 8 (by decide)
        exact Or.inr ⟨want_un (congrArg some e8.1), rfl, rfl⟩
       ·
        intro vf pf hR
        have e8 : (vf 8) = undef ∧ (pf 8) = [] := hR 8 (by decide)
        exact Or.inr ⟨want_un (congrArg some e8.1), rfl, rfl⟩
       ·
        intro vf pf hR
        have e8 : (vf 8) = undef ∧ (pf 8) = [] := hR 8 (by decide)
        exact Or.inr ⟨want_un (congrArg some e8.1), rfl, rfl⟩
       ·
        intro vf pf hR
        have e8 : (vf 8) = undef ∧ (pf 8) = [] := hR 8 (by decide)
        exact Or.inr ⟨want_un (congrArg some e8.1), rfl, rfl⟩
       ·
        intro vf pf hR
        have e8 : (vf 8) = undef ∧ (pf 8) = [] := hR 8 (by decide)
        exact Or.inr ⟨want_un (congrArg some e8.1), rfl, rfl⟩
       ·
        intro vf pf hR
        have e8 : (vf 8) = undef ∧ (pf 8) = [] := hR 8 (by decide)
        exact Or.inr ⟨want_un (congrArg some e8.1), rfl, rfl⟩
       ·
        intro vf pf hR
        have e8 : (vf 8) = undef ∧ (pf 8) = [] := hR 8 (by decide)
        exact Or.inr ⟨want_un (congrArg some e8.1), rfl, rfl⟩
       ·
        intro vf pf hR
        have e2 : (vf 2) = .bool false ∧ (pf 2) = [] := hR 2 (by decide)
        exact Or.inr ⟨want_of (congrArg some e2.1) rfl, rfl, rfl⟩
       ·
        intro vf pf hR
        have e2 : (vf 2) = .bool false ∧ (pf 2) = [] := hR 2 (by decide)
        have e20 : (vf 20) = undef ∧ (pf 20) = [] := hR 20 (by decide)
        refine Or.inl ⟨rfl, ?_⟩
        refine rq_less (sx 80 (congrArg some e2.1) (sx 98 (congrArg some e20.1) (sub_nil _))) (List.sublist_append_right _ _) ?_
        exact rq_v (rv_ev rfl)
      ·
       intro vf pf hR
       have e21 : (vf 21) = .bool false ∧ (pf 21) = [] := hR 21 (by decide)
       refine hl_less (l' := [rowE 3 1 v14 ((srcI d k).length) ((srcI d k).map (Value.int .i64)), rowE 3 1 v7 D.length (D.map (Value.int .i64)), boxE b5 #[.int .i64 d.W, .int .i64 d.H, .int .i64 d.T, .int .i64 d.R] 25, rowE 3 1 cv cs.length (cs.map (Value.int .i64))]) (sx 0 rfl (sx 2 rfl (sx 3 rfl (sx 4 rfl (sx 5 rfl (sx 6 rfl (sx 7 rfl (sx 8 rfl (sx 9 rfl (sx 10 rfl (sx 11 rfl (sx 13 rfl (sx 45 rfl (sx 49 rfl (sx 68 rfl (sx 99 (congrArg some e21.1) (sub_nil _))))))))))))))))) (List.sublist_append_right _ _) ?_
       simp only [List.drop_succ_cons, List.drop_zero]
       refine hl_less (sx 0 rfl (sx 2 rfl (sx 3 rfl (sx 4 rfl (sx 5 rfl (sx 6 rfl (sx 7 rfl (sx 8 rfl (sx 9 rfl (sx 10 rfl (sx 11 rfl (sx 13 rfl (sx 45 rfl (sx 49 rfl (sx 68 rfl (sx 99 rfl (sub_nil _))))))))))))))))) (.refl _) ?_
       refine hl_nil ?_
       refine hq_then ?_
       refine hc_false rfl ?_
       refine hc_skip ?_
       refine hq_then ?_
       rcases Bool.eq_false_or_eq_true (b) with hb28 | hb28
       ·
        refine hc_draw (by kernel_rfl) 18 [0, 1, 2, 3, 4, 5, 6, 7, 8, 9, 10, 11, 12, 13, 14, 15, 16, 17] (List.take 18 _) (List.drop 18 _) [[], [0], [1], [1], [1], [4], [4], [4], [4], [4], [4], [4], [4], [4], [4], [4], [1], [1, 16]] [100, 101, 102, 103, 104, 105, 106, 107, 108, 109, 110, 111, 112, 113, 114, 115, 116, 117] (fun i_ vs_ v_ p_ => match i_ with | 0 => v_ = .bool true ∧ p_ = [] | 1 => v_ = .bool true ∧ p_ = [] | 2 => v_ = undef ∧ p_ = [] | 3 => v_ = undef ∧ p_ = [] | 4 => v_ = undef ∧ p_ = [] | 5 => v_ = undef ∧ p_ = [] | 6 => v_ = undef ∧ p_ = [] | 7 => v_ = undef ∧ p_ = [] | 8 => v_ = undef ∧ p_ = [] | 9 => v_ = undef ∧ p_ = [] | 10 => v_ = undef ∧ p_ = [] | 11 => v_ = undef ∧ p_ = [] | 12 => v_ = undef ∧ p_ = [] | 13 => v_ = undef ∧ p_ = [] | 14 => v_ = undef ∧ p_ = [] | 15 => v_ = undef ∧ p_ = [] | 16 => v_ = undef ∧ p_ = [] | 17 => v_ = .bool true ∧ p_ = [] | _ => True) (List.take_append_drop 18 _).symm (by kernel_rfl) (by kernel_rfl) rfl rfl ?_ ?_
        ·
         refine ⟨?_, ?_, ?_, ?_, ?_, ?_, ?_, ?_, ?_, ?_, ?_, ?_, ?_, ?_, ?_, ?_, ?_, ?_, trivial⟩
         ·
          intro vf pf hR
          refine Or.inl ⟨rfl, ?_⟩
          refine rq_less (sx 9 rfl (sub_nil _)) (List.sublist_append_right _ _) ?_
          exact rq_mono (rq_v (rv_ev rfl)) (fun _ _ h => ⟨h.1.trans (congrArg Value.bool hb28), h.2⟩)
         ·
          intro vf pf hR
          have e0 : (vf 0) = .bool true ∧ (pf 0) = [] := hR 0 (by decide)
          refine Or.inl ⟨rfl, ?_⟩
          refine rq_less (sx 100 (congrArg some e0.1) (sub_nil _)) (List.sublist_append_right _ _) ?_
          exact rq_v (rv_ev rfl)
         ·
          intro vf pf hR
          have e1 : (vf 1) = .bool true ∧ (pf 1) = [] := hR 1 (by decide)
          exact Or.inr ⟨want_of (congrArg some e1.1) rfl, rfl, rfl⟩
         ·
          intro vf pf hR
          have e1 : (vf 1) = .bool true ∧ (pf 1) = [] := hR 1 (by decide)
          exact Or.inr ⟨want_of (congrArg some e1.1) rfl, rfl, rfl⟩
         ·
          intro vf pf hR
          have e1 : (vf 1) = .bool true ∧ (pf 1) = [] := hR 1 (by decide)
          exact Or.inr ⟨want_of (congrArg some e1.1) rfl, rfl, rfl⟩
         ·
          intro vf pf hR
          have e4 : (vf 4) = undef ∧ (pf 4) = [] := hR 4 (by decide)
          exact Or.inr ⟨want_un (congrArg some e4.1), rfl, rfl⟩
         ·
          intro vf pf hR
          have e4 : (vf 4) = undef ∧ (pf 4) = [] := hR 4 (by decide)
          exact Or.inr ⟨want_un (congrArg some e4.1), rfl, rfl⟩
         ·
          intro vf pf hR
          have e4 : (vf 4) = undef ∧ (pf 4) = [] := hR 4 (by decide)
          exact Or.inr ⟨want_un (congrArg some e4.1), rfl, rfl⟩
         ·
          intro vf pf hR
          have e4 : (vf 4) = undef ∧ (pf 4) = [] := hR 4 (by decide)
          exact Or.inr ⟨want_un (congrArg some e4.1), rfl, rfl⟩
         ·
          intro vf pf hR
          have e4 : (vf 4) = undef ∧ (pf 4) = [] := hR 4 (by decide)
          exact Or.inr ⟨want_un (congrArg some e4.1), rfl, rfl⟩
         ·
          intro vf pf hR
          have e4 : (vf 4) = undef ∧ (pf 4) = [] := hR 4 (by decide)
          exact Or.inr ⟨want_un (congrArg some e4.1), rfl, rfl⟩
         ·
          intro vf pf hR
          have e4 : (vf 4) = undef ∧ (pf 4) = [] := hR 4 (by decide)
          exact Or.inr ⟨want_un (congrArg some e4.1), rfl, rfl⟩
         ·
          intro vf pf hR
          have e4 : (vf 4) = undef ∧ (pf 4) = [] := hR 4 (by decide)
          exact Or.inr ⟨want_un (congrArg some e4.1), rfl, rfl⟩
         ·
          intro vf pf hR
          have e4 : (vf 4) = undef ∧ (pf 4) = [] := hR 4 (by decide)
          exact Or.inr ⟨want_un (congrArg some e4.1), rfl, rfl⟩
         ·
          intro vf pf hR
          have e4 : (vf 4) = undef ∧ (pf 4) = [] := hR 4 (by decide)
          exact Or.inr ⟨want_un (congrArg some e4.1), rfl, rfl⟩
         ·
          intro vf pf hR
          have e4 : (vf 4) = undef ∧ (pf 4) = [] := hR 4 (by decide)
          exact Or.inr ⟨want_un (congrArg some e4.1), rfl, rfl⟩
         ·
          intro vf pf hR
          have e1 : (vf 1) = .bool true ∧ (pf 1) = [] := hR 1 (by decide)
          exact Or.inr ⟨want_of (congrArg some e1.1) rfl, rfl, rfl⟩
         ·
          intro vf pf hR
          have e1 : (vf 1) = .bool true ∧ (pf 1) = [] := hR 1 (by decide)
          have e16 : (vf 16) = undef ∧ (pf 16) = [] := hR 16 (by decide)
          refine Or.inl ⟨rfl, ?_⟩
          refine rq_less (sx 101 (congrArg some e1.1) (sx 116 (congrArg some e16.1) (sub_nil _))) (List.sublist_append_right _ _) ?_
          exact rq_v (rv_ev rfl)
        ·
         intro vf pf hR
         have e17 : (vf 17) = .bool true ∧ (pf 17) = [] := hR 17 (by decide)
         refine hl_less (l' := [rowE 3 1 v14 ((srcI d k).length) ((srcI d k).map (Value.int .i64)), rowE 3 1 v7 D.length (D.map (Value.int .i64)), boxE b5 #[.int .i64 d.W, .int .i64 d.H, .int .i64 d.T, .int .i64 d.R] 25, rowE 3 1 cv cs.length (cs.map (Value.int .i64))]) (sx 0 rfl (sx 2 rfl (sx 3 rfl (sx 4 rfl (sx 5 rfl (sx 6 rfl (sx 7 rfl (sx 8 rfl (sx 9 rfl (sx 10 rfl (sx 11 rfl (sx 13 rfl (sx 45 rfl (sx 49 rfl (sx 68 rfl (sx 99 rfl (sx 117 (congrArg some e17.1) (sub_nil _)))))))))))))))))) (List.sublist_append_right _ _) ?_
         simp only [List.drop_succ_cons, List.drop_zero]
         refine hl_v rfl rfl rfl (rv_ev rfl) ?_
         refine hl_less (sx 0 rfl (sx 2 rfl (sx 3 rfl (sx 4 rfl (sx 5 rfl (sx 6 rfl (sx 7 rfl (sx 8 rfl (sx 9 rfl (sx 10 rfl (sx 11 rfl (sx 13 rfl (sx 45 rfl (sx 49 rfl (sx 68 rfl (sx 99 rfl (sub_nil _))))))))))))))))) (.refl _) ?_
         refine hl_nil ?_
         refine hq_block_normal ?_
         refine hq_then ?_
         refine hc_region ?_
         refine hl_v rfl rfl rfl (rv_ev rfl) ?_
         refine hl_v rfl rfl rfl (rv_add rfl rfl rfl (by constructor <;> omega)) ?_
         refine hl_v rfl rfl rfl (rv_ev rfl) ?_
         refine hl_less (sx 0 rfl (sx 2 rfl (sx 3 rfl (sx 4 rfl (sx 5 rfl (sx 6 rfl (sx 7 rfl (sx 8 rfl (sx 9 rfl (sx 10 rfl (sx 11 rfl (sx 13 rfl (sx 45 rfl (sx 49 rfl (sx 68 rfl (sx 99 rfl (sub_nil _))))))))))))))))) (.refl _) ?_
         refine hl_nil ?_
         exact hq_round2 (i + 1) true ⟨by omega, .inl rfl⟩ (by omega) (sx 0 rfl (sx 2 rfl (sx 3 rfl (sx 4 rfl (sx 5 rfl (sx 6 rfl (sx 7 rfl (sx 8 rfl (sx 9 rfl (sx 10 rfl (sx 13 rfl (sx 45 rfl (sx 49 rfl (sub_nil _)))))))))))))) ((.cons_cons _ (.cons_cons _ (.cons_cons _ (.cons_cons _ .slnil)))))
       ·
        have hb29 : (decide (0 ≤ D.getD (((srcI d k).getD i 0).toNat) 0)) = false := hb22
        refine hc_draw (by kernel_rfl) 18 [0, 1, 2, 3, 4, 5, 6, 7, 8, 9, 10, 11, 12, 13, 14, 15, 16, 17] (List.take 18 _) (List.drop 18 _) [[], [0], [1], [1, 2], [1, 3], [4], [4], [4], [4], [4], [4], [4], [4], [4], [4], [4], [1, 4, 15], [1, 16]] [100, 101, 102, 103, 104, 105, 106, 107, 108, 109, 110, 111, 112, 113, 114, 115, 116, 117] (fun i_ vs_ v_ p_ => match i_ with | 0 => v_ = .bool false ∧ p_ = [] | 1 => v_ = .bool false ∧ p_ = [] | 2 => v_ = .int .i64 (D.getD (((srcI d k).getD i 0).toNat) 0) ∧ p_ = [] | 3 => v_ = .bool false ∧ p_ = [] | 4 => v_ = .bool false ∧ p_ = [] | 5 => v_ = undef ∧ p_ = [] | 6 => v_ = undef ∧ p_ = [] | 7 => v_ = undef ∧ p_ = [] | 8 => v_ = undef ∧ p_ = [] | 9 => v_ = undef ∧ p_ = [] | 10 => v_ = undef ∧ p_ = [] | 11 => v_ = undef ∧ p_ = [] | 12 => v_ = undef ∧ p_ = [] | 13 => v_ = undef ∧ p_ = [] | 14 => v_ = undef ∧ p_ = [] | 15 => v_ = undef ∧ p_ = [] | 16 => v_ = .bool false ∧ p_ = [] | 17 => v_ = .bool false ∧ p_ = [] | _ => True) (List.take_append_drop 18 _).symm (by kernel_rfl) (by kernel_rfl) rfl rfl ?_ ?_
        ·
         refine ⟨?_, ?_, ?_, ?_, ?_, ?_, ?_, ?_, ?_, ?_, ?_, ?_, ?_, ?_, ?_, ?_, ?_, ?_, trivial⟩
         ·
          intro vf pf hR
          refine Or.inl ⟨rfl, ?_⟩
          refine rq_less (sx 9 rfl (sub_nil _)) (List.sublist_append_right _ _) ?_
          exact rq_mono (rq_v (rv_ev rfl)) (fun _ _ h => ⟨h.1.trans (congrArg Value.bool hb28), h.2⟩)
         ·
          intro vf pf hR
          have e0 : (vf 0) = .bool false ∧ (pf 0) = [] := hR 0 (by decide)
          refine Or.inl ⟨rfl, ?_⟩
          refine rq_less (sx 100 (congrArg some e0.1) (sub_nil _)) (List.sublist_append_right _ _) ?_
          exact rq_v (rv_ev rfl)
         ·
          intro vf pf hR
          have e1 : (vf 1) = .bool false ∧ (pf 1) = [] := hR 1 (by decide)
          refine Or.inl ⟨want_of (congrArg some e1.1) rfl, ?_⟩
          refine rq_less (sx 11 rfl (sub_nil _)) (List.sublist_append_right _ _) ?_
          exact rq_v (rv_ev rfl)
         ·
          intro vf pf hR
          have e1 : (vf 1) = .bool false ∧ (pf 1) = [] := hR 1 (by decide)
          have e2 : (vf 2) = .int .i64 (D.getD (((srcI d k).getD i 0).toNat) 0) ∧ (pf 2) = [] := hR 2 (by decide)
          refine Or.inl ⟨want_of (congrArg some e1.1) rfl, ?_⟩
          refine rq_less (sx 102 (congrArg some e2.1) (sub_nil _)) (List.sublist_append_right _ _) ?_
          exact rq_mono (rq_v (rv_cmp rfl rfl rfl rfl)) (fun _ _ h => ⟨h.1.trans (congrArg Value.bool hb29), h.2⟩)
         ·
          intro vf pf hR
          have e1 : (vf 1) = .bool false ∧ (pf 1) = [] := hR 1 (by decide)
          have e3 : (vf 3) = .bool false ∧ (pf 3) = [] := hR 3 (by decide)
          refine Or.inl ⟨want_of (congrArg some e1.1) rfl, ?_⟩
          refine rq_less (sx 103 (congrArg some e3.1) (sub_nil _)) (List.sublist_append_right _ _) ?_
          exact rq_v (rv_ev rfl)
         ·
          intro vf pf hR
          have e4 : (vf 4) = .bool false ∧ (pf 4) = [] := hR 4 (by decide)
          exact Or.inr ⟨want_of (congrArg some e4.1) rfl, rfl, rfl⟩
         ·
          intro vf pf hR
          have e4 : (vf 4) = .bool false ∧ (pf 4) = [] := hR 4 (by decide)
          exact Or.inr ⟨want_of (congrArg some e4.1) rfl, rfl, rfl⟩
         ·
          intro vf pf hR
          have e4 : (vf 4) = .bool false ∧ (pf 4) = [] := hR 4 (by decide)
          exact Or.inr ⟨want_of (congrArg some e4.1) rfl, rfl, rfl⟩
         ·
          intro vf pf hR
          have e4 : (vf 4) = .bool false ∧ (pf 4) = [] := hR 4 (by decide)
          exact Or.inr ⟨want_of (congrArg some e4.1) rfl, rfl, rfl⟩
         ·
          intro vf pf hR
          have e4 : (vf 4) = .bool false ∧ (pf 4) = [] := hR 4 (by decide)
          exact Or.inr ⟨want_of (congrArg some e4.1) rfl, rfl, rfl⟩
         ·
          intro vf pf hR
          have e4 : (vf 4) = .bool false ∧ (pf 4) = [] := hR 4 (by decide)
          exact Or.inr ⟨want_of (congrArg some e4.1) rfl, rfl, rfl⟩
         ·
          intro vf pf hR
          have e4 : (vf 4) = .bool false ∧ (pf 4) = [] := hR 4 (by decide)
          exact Or.inr ⟨want_of (congrArg some e4.1) rfl, rfl, rfl⟩
         ·
          intro vf pf hR
          have e4 : (vf 4) = .bool false ∧ (pf 4) = [] := hR 4 (by decide)
          exact Or.inr ⟨want_of (congrArg some e4.1) rfl, rfl, rfl⟩
         ·
          intro vf pf hR
          have e4 : (vf 4) = .bool false ∧ (pf 4) = [] := hR 4 (by decide)
          exact Or.inr ⟨want_of (congrArg some e4.1) rfl, rfl, rfl⟩
         ·
          intro vf pf hR
          have e4 : (vf 4) = .bool false ∧ (pf 4) = [] := hR 4 (by decide)
          exact Or.inr ⟨want_of (congrArg some e4.1) rfl, rfl, rfl⟩
         ·
          intro vf pf hR
          have e4 : (vf 4) = .bool false ∧ (pf 4) = [] := hR 4 (by decide)
          exact Or.inr ⟨want_of (congrArg some e4.1) rfl, rfl, rfl⟩
         ·
          intro vf pf hR
          have e1 : (vf 1) = .bool false ∧ (pf 1) = [] := hR 1 (by decide)
          have e4 : (vf 4) = .bool false ∧ (pf 4) = [] := hR 4 (by decide)
          have e15 : (vf 15) = undef ∧ (pf 15) = [] := hR 15 (by decide)
          refine Or.inl ⟨want_of (congrArg some e1.1) rfl, ?_⟩
          refine rq_less (sx 104 (congrArg some e4.1) (sx 115 (congrArg some e15.1) (sub_nil _))) (List.sublist_append_right _ _) ?_
          exact rq_v (rv_ev rfl)
         ·
          intro vf pf hR
          have e1 : (vf 1) = .bool false ∧ (pf 1) = [] := hR 1 (by decide)
          have e16 : (vf 16) = .bool false ∧ (pf 16) = [] := hR 16 (by decide)
          refine Or.inl ⟨rfl, ?_⟩
          refine rq_less (sx 101 (congrArg some e1.1) (sx 116 (congrArg some e16.1) (sub_nil _))) (List.sublist_append_right _ _) ?_
          exact rq_v (rv_ev rfl)
        ·
         intro vf pf hR
         have e17 : (vf 17) = .bool false ∧ (pf 17) = [] := hR 17 (by decide)
         refine hl_less (l' := [rowE 3 1 v14 ((srcI d k).length) ((srcI d k).map (Value.int .i64)), rowE 3 1 v7 D.length (D.map (Value.int .i64)), boxE b5 #[.int .i64 d.W, .int .i64 d.H, .int .i64 d.T, .int .i64 d.R] 25, rowE 3 1 cv cs.length (cs.map (Value.int .i64))]) (sx 0 rfl (sx 2 rfl (sx 3 rfl (sx 4 rfl (sx 5 rfl (sx 6 rfl (sx 7 rfl (sx 8 rfl (sx 9 rfl (sx 10 rfl (sx 11 rfl (sx 13 rfl (sx 45 rfl (sx 49 rfl (sx 68 rfl (sx 99 rfl (sx 117 (congrArg some e17.1) (sub_nil _)))))))))))))))))) (List.sublist_append_right _ _) ?_
         simp only [List.drop_succ_cons, List.drop_zero]
         refine hl_v rfl rfl rfl (rv_ev rfl) ?_
         refine hl_less (sx 0 rfl (sx 2 rfl (sx 3 rfl (sx 4 rfl (sx 5 rfl (sx 6 rfl (sx 7 rfl (sx 8 rfl (sx 9 rfl (sx 10 rfl (sx 11 rfl (sx 13 rfl (sx 45 rfl (sx 49 rfl (sx 68 rfl (sx 99 rfl (sub_nil _))))))))))))))))) (.refl _) ?_
         refine hl_nil ?_
         refine hq_block_normal ?_
         refine hq_then ?_
         refine hc_region ?_
         refine hl_v rfl rfl rfl (rv_ev rfl) ?_
         refine hl_v rfl rfl rfl (rv_add rfl rfl rfl (by constructor <;> omega)) ?_
         refine hl_v rfl rfl rfl (rv_ev rfl) ?_
         refine hl_less (sx 0 rfl (sx 2 rfl (sx 3 rfl (sx 4 rfl (sx 5 rfl (sx 6 rfl (sx 7 rfl (sx 8 rfl (sx 9 rfl (sx 10 rfl (sx 11 rfl (sx 13 rfl (sx 45 rfl (sx 49 rfl (sx 68 rfl (sx 99 rfl (sub_nil _))))))))))))))))) (.refl _) ?_
         refine hl_nil ?_
         have hbf : b = false := by assumption
         have hv9 := hinv.resolve_left (by rw [hbf]; decide)
         exact hq_round2 (i + 1) false ⟨by omega, .inr ⟨hv9.1, hv9.2.1, fun j hj hc => by by_cases hji : j = i; (subst hji; simp only [gI, Int.toNat_natCast] at hc; omega); exact hv9.2.2 j (by omega) hc⟩⟩ (by omega) (sx 0 rfl (sx 2 rfl (sx 3 rfl (sx 4 rfl (sx 5 rfl (sx 6 rfl (sx 7 rfl (sx 8 rfl (sx 9 rfl (sx 10 rfl (sx 13 rfl (sx 45 rfl (sx 49 rfl (sub_nil _)))))))))))))) ((.cons_cons _ (.cons_cons _ (.cons_cons _ (.cons_cons _ .slnil)))))
    ·
     refine hl_less (sx 0 rfl (sx 2 rfl (sx 3 rfl (sx 4 rfl (sx 5 rfl (sx 6 rfl (sx 7 rfl (sx 8 rfl (sx 9 rfl (sx 10 rfl (sx 13 rfl (sx 45 rfl (sx 49 rfl (sx 68 rfl (sub_nil _))))))))))))))) (.refl _) ?_
     refine hl_nil ?_
     refine hq_then ?_
     refine hc_false rfl ?_
     refine hc_exit ?_
     refine hq_then_exit ?_
     refine hq_then_exit ?_
     refine hq_block_exit ?_
     refine hq_then ?_
     refine hc_seq ?_
     refine hc_region ?_
     refine hl_v rfl rfl rfl (rv_ev rfl) ?_
     refine hl_bool (fun h30 => ?_) (fun h30 => absurd (((dist_tight hD (k := (k : Int)) (by omega) (by omega) (by omega) hinv)).symm.trans h30) (by decide))
     refine hl_v rfl rfl rfl (rv_ev rfl) ?_
     refine hl_less (sx 0 rfl (sx 2 rfl (sx 3 rfl (sx 4 rfl (sx 5 rfl (sx 6 rfl (sx 7 rfl (sx 8 rfl (sx 9 rfl (sx 10 rfl (sx 13 rfl (sx 45 rfl (sx 49 rfl (sx 68 rfl (sx 119 rfl (sub_nil _)))))))))))))))) (.refl _) ?_
     refine hl_nil ?_
     refine hq_then ?_
     refine hc_false rfl ?_
     refine hc_skip ?_
     refine hq_block_normal ?_
     refine hq_then ?_
     refine hc_region ?_
     refine hl_v rfl rfl rfl (rv_ev rfl) ?_
     refine hl_v rfl rfl rfl (rv_add rfl rfl rfl (by constructor <;> omega)) ?_
     refine hl_v rfl rfl rfl (rv_ev rfl) ?_
     refine hl_less (sx 0 rfl (sx 2 rfl (sx 3 rfl (sx 4 rfl (sx 5 rfl (sx 6 rfl (sx 7 rfl (sx 8 rfl (sx 9 rfl (sx 10 rfl (sx 13 rfl (sx 45 rfl (sx 49 rfl (sx 68 rfl (sx 119 rfl (sub_nil _)))))))))))))))) (.refl _) ?_
     refine hl_nil ?_
     exact hq_round1 (k + 1) (by omega) (by omega) (sx 0 rfl (sx 2 rfl (sx 3 rfl (sx 4 rfl (sx 5 rfl (sx 6 rfl (sx 7 rfl (sx 13 rfl (sx 45 rfl (sub_nil _)))))))))) ((.cons _ (.cons_cons _ (.cons_cons _ (.cons_cons _ .slnil)))))
   ·
    refine hl_less (sx 0 rfl (sx 2 rfl (sx 3 rfl (sx 4 rfl (sx 5 rfl (sx 6 rfl (sx 7 rfl (sx 13 rfl (sx 45 rfl (sx 49 rfl (sub_nil _))))))))))) (.refl _) ?_
    refine hl_nil ?_
    refine hq_then ?_
    refine hc_false rfl ?_
    refine hc_exit ?_
    refine hq_then_exit ?_
    refine hq_then_exit ?_
    refine hq_block_exit ?_
    refine hq_then ?_
    refine hc_seq ?_
    refine hc_region ?_
    refine hl_v rfl rfl rfl (rv_ev rfl) ?_
    refine hl_less (sx 0 rfl (sx 2 rfl (sx 3 rfl (sx 4 rfl (sx 5 rfl (sx 6 rfl (sx 7 rfl (sx 13 rfl (sx 45 rfl (sx 49 rfl (sub_nil _))))))))))) (.refl _) ?_
    refine hl_nil ?_
    refine hq_then ?_
    refine hc_ret ?_
    exact hq_ans rfl rfl rfl
end Go.Proofs.Ytagjmgfcbmbkhaa
