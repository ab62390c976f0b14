/- Texts of the law FnSharedPrice, part 3: what it uses. -/
import Derived.Test.YtnnkbpcfjjijbaaSp2
set_option linter.unusedVariables false
set_option linter.unusedSimpArgs false
namespace Go.Proofs.Ytnnkbpcfjjijbaa
open Go.RowKit Go.ChangeShapes
open Go.RowKit
open Go.Maps
set_option maxHeartbeats 4000000 in
set_option maxRecDepth 100000 in
theorem l32Walk_mut (g : Nat) (a : Option Addr) (len cap : Nat) (z : List Int) (d : Dev) (s0 : Int) (w0 : World) (l : List HP) (w : World) (hm0 : Mem w0 (curE g a len cap :: l) w) (hb : BRow .u8 w0 a len cap z) (hd : devB d = true) (hs : 0 ≤ s0 ∧ s0 < allI d) :
  Calls Try.prog 111 #[.pointer (some ⟨g, 0, none⟩), .agg #[.int .i64 d.W, .int .i64 d.H, .int .i64 d.T, .int .i64 d.R], .int .i64 s0] w (fun e_ w_ => ∃ v_ p_, e_ = .returned v_ ∧ (fun u_ p_ => ∃ (r : Rt) (sv : Value) (ks : List Int), u_ = .tuple #[r.agg, sv] ∧ p_ = bigE [curE g a len cap, rtE r, rowE 3 1 sv ks.length (ks.map (Value.int .i64))] ∧ (r.nv.oneCell' = true ∧ r.fv.oneCell' = true ∧ sv.oneCell' = true) ∧ Tree d s0 r.ns r.fs ks) v_ p_ ∧ Mem w0 (p_ :: l) w_) := by
 obtain ⟨ra1, ra2⟩ := all_rng hd
 obtain ⟨q1, q2⟩ := per_rng hd
 refine calls_hcM (N := 98) (args := [.pointer (some ⟨g, 0, none⟩), .agg #[.int .i64 d.W, .int .i64 d.H, .int .i64 d.T, .int .i64 d.R], .int .i64 s0]) Try.func111 rfl rfl hm0 ?_
 refine hc_less _ (sx 0 rfl (sx 1 rfl (sx 2 rfl (sub_nil _)))) (.refl _) ?_
 refine hc_seq ?_
 refine hc_region ?_
 refine hl_box rfl rfl rfl (rq_box rfl rfl) ?_
 intro b1
 refine hl_box rfl rfl rfl (rq_alloc (z := .agg #[.slice none 0 0, .slice none 0 0]) rfl (by kernel_rfl)) ?_
 intro b2
 refine hl_v rfl rfl rfl (rv_ev rfl) ?_
 refine hl_less (sx 0 rfl (sx 1 rfl (sx 2 rfl (sx 4 rfl (sx 6 rfl (sx 7 rfl (sub_nil _))))))) (.refl _) ?_
 refine hl_nil ?_
 refine hq_then ?_
 refine hc_seq ?_
 refine hc_region ?_
 refine hl_v rfl rfl rfl (rv_ev rfl) ?_
 refine hl_row rfl rfl rfl (rq_buildSlice (z := .int .i64 0) (s := 1) (cs := ([s0].map (Value.int .i64))) rfl Try.underlying30 (by kernel_rfl) (by decide) rfl (by kernel_rfl) rfl) ?_
 intro g3
 refine hl_row rfl rfl rfl (rq_buildSlice (z := .int .i64 0) (s := 1) (cs := ([0].map (Value.int .i64))) rfl Try.underlying30 (by kernel_rfl) (by decide) rfl (by kernel_rfl) rfl) ?_
 intro g4
 refine hl_v rfl rfl rfl (rv_build (cs := #[.slice (some ⟨g3, 0, none⟩) 1 1, .slice (some ⟨g4, 0, none⟩) 1 1]) rfl rfl (by kernel_rfl)) ?_
 refine hl_box rfl rfl rfl (rq_alloc (z := .agg #[.slice none 0 0, .slice none 0 0]) rfl (by kernel_rfl)) ?_
 intro b5
 refine hl_storeBoxN (i := 0) (off := 0) (us := [.slice (some ⟨g3, 0, none⟩) 1 1, .slice (some ⟨g4, 0, none⟩) 1 1]) (l' := (boxE b5 #[.slice (some ⟨g3, 0, none⟩) 1 1, .slice (some ⟨g4, 0, none⟩) 1 1] 64 :: rowE 3 1 (.slice (some ⟨g4, 0, none⟩) 1 1) 1 ([0].map (Value.int .i64)) :: rowE 3 1 (.slice (some ⟨g3, 0, none⟩) 1 1) 1 ([s0].map (Value.int .i64)) :: boxE b2 #[.slice none 0 0, .slice none 0 0] 64 :: boxE b1 #[.int .i64 d.W, .int .i64 d.H, .int .i64 d.T, .int .i64 d.R] 25 :: curE g a len cap :: l)) rfl rfl rfl (by kernel_rfl) rfl rfl rfl (all_cons rfl (all_cons rfl all_nil)) rfl rfl rfl ?_
 refine hl_less (sx 0 rfl (sx 1 rfl (sx 2 rfl (sx 4 rfl (sx 6 rfl (sx 7 rfl (sx 8 rfl (sub_nil _)))))))) (.refl _) ?_
 refine hl_nil ?_
 refine hq_then ?_
 refine hc_seq ?_
 refine hc_region ?_
 refine hl_row rfl rfl rfl (rq_slice0 (s := 1) rfl Try.underlying30 (by kernel_rfl)) ?_
 intro g6
 refine hl_v rfl rfl rfl (rv_ev rfl) ?_
 refine hl_less (sx 0 rfl (sx 1 rfl (sx 2 rfl (sx 4 rfl (sx 6 rfl (sx 7 rfl (sx 8 rfl (sx 9 rfl (sub_nil _))))))))) (.refl _) ?_
 refine hl_nil ?_
 refine hq_then ?_
 refine hc_seq ?_
 refine hc_region ?_
 refine hl_v rfl rfl rfl (rv_loadN (cs := [.int .i64 d.W, .int .i64 d.H, .int .i64 d.T, .int .i64 d.R]) rfl (by kernel_rfl) (by kernel_rfl) rfl rfl (box_part 5 rfl 0 rfl)) ?_
 refine hl_callV rfl rfl rfl (rq_call (by kernel_rfl) rfl (fun w hm => ret_ans (specRouteNodes_yes d hd w))) ?_
 refine hl_v rfl rfl rfl (rv_ev rfl) ?_
 refine hl_less (sx 0 rfl (sx 1 rfl (sx 2 rfl (sx 4 rfl (sx 6 rfl (sx 7 rfl (sx 8 rfl (sx 9 rfl (sx 10 rfl (sub_nil _)))))))))) (.refl _) ?_
 refine hl_nil ?_
 refine hq_then ?_
 refine hc_seq ?_
 refine hc_seq ?_
 refine hc_region ?_
 refine hl_v rfl rfl rfl (rv_ev rfl) ?_
 refine hl_callM (R := (fun u_ p_ => (∃ x_ : Int, u_ = .int .i64 x_ ∧ 0 ≤ x_ ∧ x_ < 7) ∧ p_ = curE g a len cap)) 6 rfl rfl (by kernel_rfl) rfl rfl (fun l' w hm => belowN_mut g a len cap z 7 _ _ _ hm hb (by constructor <;> omega)) ?_
 intro v7 p8 hR9
 obtain ⟨⟨xhR9, rfl, xhR90, xhR91⟩, rfl⟩ := hR9
 refine hl_eqL (l' := (rowE 3 1 (.slice (some ⟨g6, 0, none⟩) 0 0) 0 ([]) :: boxE b5 #[.slice (some ⟨g3, 0, none⟩) 1 1, .slice (some ⟨g4, 0, none⟩) 1 1] 64 :: rowE 3 1 (.slice (some ⟨g4, 0, none⟩) 1 1) 1 ([0].map (Value.int .i64)) :: rowE 3 1 (.slice (some ⟨g3, 0, none⟩) 1 1) 1 ([s0].map (Value.int .i64)) :: boxE b2 #[.slice none 0 0, .slice none 0 0] 64 :: boxE b1 #[.int .i64 d.W, .int .i64 d.H, .int .i64 d.T, .int .i64 d.R] 25 :: curE g a len cap :: l)) rfl ?_
 refine hl_v rfl rfl rfl (rv_ev rfl) ?_
 refine hl_less (sx 0 rfl (sx 1 rfl (sx 2 rfl (sx 4 rfl (sx 6 rfl (sx 7 rfl (sx 8 rfl (sx 9 rfl (sx 10 rfl (sx 11 rfl (sub_nil _))))))))))) (.refl _) ?_
 refine hl_nil ?_
 refine hq_then ?_
 refine hc_block ?_
 refine hc_loop4 (α := Int) (β := Rt) (γ := Value) (δ := List Int) (fun q r sv ks => (rowE 3 1 sv ks.length (ks.map (Value.int .i64)) :: boxE b5 #[r.nv, r.fv] 64 :: rowE 3 1 r.fv r.fs.length (r.fs.map (Value.int .i64)) :: rowE 3 1 r.nv r.ns.length (r.ns.map (Value.int .i64)) :: boxE b2 #[.slice none 0 0, .slice none 0 0] 64 :: boxE b1 #[.int .i64 d.W, .int .i64 d.H, .int .i64 d.T, .int .i64 d.R] 25 :: curE g a len cap :: l)) (fun q r sv ks => [(0, .pointer (some ⟨g, 0, none⟩)), (1, .agg #[.int .i64 d.W, .int .i64 d.H, .int .i64 d.T, .int .i64 d.R]), (2, .int .i64 s0), (4, .pointer (some ⟨b1, 0, none⟩)), (6, .pointer (some ⟨b2, 0, none⟩)), (7, .slice none 0 0), (8, .pointer (some ⟨b5, 0, none⟩)), (9, sv), (10, .int .i64 (allI d)), (11, .int .i64 q)]) (fun q r sv ks => (0 ≤ q ∧ q ≤ 6) ∧ (r.ns.length : Int) + q ≤ 7 ∧ Tree d s0 r.ns r.fs ks) (fun q r sv ks => q.toNat) _ ⟨.slice (some ⟨g3, 0, none⟩) 1 1, .slice (some ⟨g4, 0, none⟩) 1 1, [s0], [0]⟩ _ [] ⟨by omega, by dsimp only; simp only [List.length_singleton]; omega, tree_one hs⟩ (sx 0 rfl (sx 1 rfl (sx 2 rfl (sx 4 rfl (sx 6 rfl (sx 7 rfl (sx 8 rfl (sx 9 rfl (sx 10 rfl (sx 11 rfl (sub_nil _))))))))))) ((.cons_cons _ (.cons_cons _ (.cons_cons _ (.cons_cons _ (.cons_cons _ (.cons_cons _ (.cons_cons _ (.refl _))))))))) ?_
 intro q r sv ks hi10
 obtain ⟨hq, hlq, htr⟩ := hi10
 have ht1 := htr.len
 have ht2 := htr.l0
 have ht3 := htr.l1
 have ht4 : ks.length ≤ 7 := by rw [htr.sinks]; have := List.length_filter_le (fun x => decide (x % perI d < 5)) (r.ns.drop 1); rw [List.length_drop] at this; omega
 refine hc_seq ?_
 refine hc_seq ?_
 refine hc_region ?_
 refine hl_v rfl rfl rfl (rv_ev rfl) ?_
 refine hl_gtr rfl rfl rfl rfl rfl rfl (fun h11 => ?_) (fun h11 => ?_)
 ·
  refine hl_v rfl rfl rfl (rv_ev rfl) ?_
  refine hl_v rfl rfl rfl (rv_ev rfl) ?_
  refine hl_gtr rfl rfl rfl rfl rfl rfl (fun h12 => ?_) (fun h12 => ?_)
  ·
   refine hl_v rfl rfl rfl (rv_ev rfl) ?_
   refine hl_less (sx 0 rfl (sx 1 rfl (sx 2 rfl (sx 4 rfl (sx 6 rfl (sx 7 rfl (sx 8 rfl (sx 9 rfl (sx 10 rfl (sx 11 rfl (sx 32 rfl (sub_nil _)))))))))))) (.refl _) ?_
   refine hl_nil ?_
   refine hq_then ?_
   refine hc_true rfl ?_
   refine hc_skip ?_
   refine hq_then ?_
   refine hc_seq ?_
   refine hc_block ?_
   refine hc_seq ?_
   refine hc_region ?_
   refine hl_v rfl rfl rfl (rv_ev rfl) ?_
   refine hl_v rfl rfl rfl (rv_ev rfl) ?_
   refine hl_callM (R := (fun u_ p_ => (∃ x_ : Int, u_ = .int .i64 x_ ∧ 0 ≤ x_ ∧ x_ < allI d) ∧ p_ = curE g a len cap)) 6 rfl rfl (by kernel_rfl) rfl rfl (fun l' w hm => belowN_mut g a len cap z (allI d) _ _ _ hm hb (by constructor <;> omega)) ?_
   intro v13 p14 hR15
   obtain ⟨⟨xhR15, rfl, xhR150, xhR151⟩, rfl⟩ := hR15
   refine hl_eqL (l' := (rowE 3 1 sv ks.length (ks.map (Value.int .i64)) :: boxE b5 #[r.nv, r.fv] 64 :: rowE 3 1 r.fv r.fs.length (r.fs.map (Value.int .i64)) :: rowE 3 1 r.nv r.ns.length (r.ns.map (Value.int .i64)) :: boxE b2 #[.slice none 0 0, .slice none 0 0] 64 :: boxE b1 #[.int .i64 d.W, .int .i64 d.H, .int .i64 d.T, .int .i64 d.R] 25 :: curE g a len cap :: l)) rfl ?_
   refine hl_v rfl rfl rfl (rv_ev rfl) ?_
   refine hl_less (sx 0 rfl (sx 1 rfl (sx 2 rfl (sx 4 rfl (sx 6 rfl (sx 7 rfl (sx 8 rfl (sx 9 rfl (sx 10 rfl (sx 11 rfl (sx 12 rfl (sx 32 rfl (sub_nil _))))))))))))) (.refl _) ?_
   refine hl_nil ?_
   refine hq_then ?_
   refine hc_seq ?_
   refine hc_region ?_
   refine hl_v rfl rfl rfl (rv_ev rfl) ?_
   refine hl_less (sx 0 rfl (sx 1 rfl (sx 2 rfl (sx 4 rfl (sx 6 rfl (sx 7 rfl (sx 8 rfl (sx 9 rfl (sx 10 rfl (sx 11 rfl (sx 12 rfl (sx 13 rfl (sx 32 rfl (sub_nil _)))))))))))))) (.refl _) ?_
   refine hl_nil ?_
   refine hq_then ?_
   refine hc_block ?_
   refine hc_loop1 (α := Int) (fun j => (rowE 3 1 sv ks.length (ks.map (Value.int .i64)) :: boxE b5 #[r.nv, r.fv] 64 :: rowE 3 1 r.fv r.fs.length (r.fs.map (Value.int .i64)) :: rowE 3 1 r.nv r.ns.length (r.ns.map (Value.int .i64)) :: boxE b2 #[.slice none 0 0, .slice none 0 0] 64 :: boxE b1 #[.int .i64 d.W, .int .i64 d.H, .int .i64 d.T, .int .i64 d.R] 25 :: curE g a len cap :: l)) (fun j => [(0, .pointer (some ⟨g, 0, none⟩)), (1, .agg #[.int .i64 d.W, .int .i64 d.H, .int .i64 d.T, .int .i64 d.R]), (2, .int .i64 s0), (4, .pointer (some ⟨b1, 0, none⟩)), (6, .pointer (some ⟨b2, 0, none⟩)), (7, .slice none 0 0), (8, .pointer (some ⟨b5, 0, none⟩)), (9, sv), (10, .int .i64 (allI d)), (11, .int .i64 q), (12, .int .i64 xhR15), (13, .int .i64 j), (32, .bool true)]) (fun j => 0 ≤ j ∧ j ≤ allI d) (fun j => (allI d - j).toNat) 0 ⟨by omega, by omega⟩ (sx 0 rfl (sx 1 rfl (sx 2 rfl (sx 4 rfl (sx 6 rfl (sx 7 rfl (sx 8 rfl (sx 9 rfl (sx 10 rfl (sx 11 rfl (sx 12 rfl (sx 13 rfl (sx 32 rfl (sub_nil _)))))))))))))) ((.cons_cons _ (.cons_cons _ (.cons_cons _ (.cons_cons _ (.cons_cons _ (.cons_cons _ (.cons_cons _ (.refl _))))))))) ?_
   intro j hi16
   have hj := hi16
   refine hc_seq ?_
   refine hc_seq ?_
   refine hc_region ?_
   refine hl_v rfl rfl rfl (rv_ev rfl) ?_
   refine hl_v rfl rfl rfl (rv_ev rfl) ?_
   refine hl_lss rfl rfl rfl rfl rfl rfl (fun h17 => ?_) (fun h17 => ?_)
   ·
    refine hl_less (sx 0 rfl (sx 1 rfl (sx 2 rfl (sx 4 rfl (sx 6 rfl (sx 7 rfl (sx 8 rfl (sx 9 rfl (sx 10 rfl (sx 11 rfl (sx 12 rfl (sx 13 rfl (sx 32 rfl (sx 40 rfl (sub_nil _))))))))))))))) (.refl _) ?_
    refine hl_nil ?_
    refine hq_then ?_
    refine hc_true rfl ?_
    refine hc_skip ?_
    refine hq_then ?_
    refine hc_seq ?_
    refine hc_block ?_
    refine hc_seq ?_
    refine hc_region ?_
    refine hl_v rfl rfl rfl (rv_ev rfl) ?_
    refine hl_v rfl rfl rfl (rv_ev rfl) ?_
    refine hl_v rfl rfl rfl (rv_add rfl rfl rfl (by constructor <;> omega)) ?_
    refine hl_v rfl rfl rfl (rv_ev rfl) ?_
    refine hl_v rfl rfl rfl (rv_rem rfl rfl rfl (by constructor <;> omega)) ?_
    refine hl_v rfl rfl rfl (rv_ev rfl) ?_
    obtain ⟨x, hx⟩ : ∃ x, (xhR15 + j) % (allI d) = x := ⟨_, rfl⟩
    rw [hx]
    obtain ⟨x0, x1⟩ : 0 ≤ x ∧ x ≤ allI d - 1 := hx ▸ loc_mod (by omega)
    have hsl : (srcS d x).length ≤ 16 := by rw [src_eq]; exact src_len16 _ _
    refine hl_less (sx 0 rfl (sx 1 rfl (sx 2 rfl (sx 4 rfl (sx 6 rfl (sx 7 rfl (sx 8 rfl (sx 9 rfl (sx 10 rfl (sx 11 rfl (sx 12 rfl (sx 13 rfl (sx 14 rfl (sx 32 rfl (sx 40 rfl (sub_nil _)))))))))))))))) (.refl _) ?_
    refine hl_nil ?_
    refine hq_then ?_
    refine hc_seq ?_
    refine hc_region ?_
    refine hl_v rfl rfl rfl (rv_ev rfl) ?_
    refine hl_less (sx 0 rfl (sx 1 rfl (sx 2 rfl (sx 4 rfl (sx 6 rfl (sx 7 rfl (sx 8 rfl (sx 9 rfl (sx 10 rfl (sx 11 rfl (sx 12 rfl (sx 13 rfl (sx 14 rfl (sx 15 rfl (sx 32 rfl (sx 40 rfl (sub_nil _))))))))))))))))) (.refl _) ?_
    refine hl_nil ?_
    refine hq_then ?_
    refine hc_seq ?_
    refine hc_region ?_
    refine hl_v rfl rfl rfl (rv_loadN (cs := [.int .i64 d.W, .int .i64 d.H, .int .i64 d.T, .int .i64 d.R]) rfl (by kernel_rfl) (by kernel_rfl) rfl rfl (box_part 5 rfl 0 rfl)) ?_
    refine hl_v rfl rfl rfl (rv_ev rfl) ?_
    refine hl_q rfl rfl rfl (rq_call (by kernel_rfl) rfl (fun w hm => specSources_ret d _ w)) ?_
    intro v18 p19 hR20
    subst hR20
    refine hl_v rfl rfl rfl (rv_ev rfl) ?_
    refine hl_less (sx 0 rfl (sx 1 rfl (sx 2 rfl (sx 4 rfl (sx 6 rfl (sx 7 rfl (sx 8 rfl (sx 9 rfl (sx 10 rfl (sx 11 rfl (sx 12 rfl (sx 13 rfl (sx 14 rfl (sx 15 rfl (sx 16 rfl (sx 32 rfl (sx 40 rfl (sub_nil _)))))))))))))))))) (.refl _) ?_
    refine hl_nil ?_
    refine hq_then ?_
    refine hc_seq ?_
    refine hc_seq ?_
    refine hc_region ?_
    refine hl_v rfl rfl rfl (rv_ev rfl) ?_
    refine hl_less (sx 0 rfl (sx 1 rfl (sx 2 rfl (sx 4 rfl (sx 6 rfl (sx 7 rfl (sx 8 rfl (sx 9 rfl (sx 10 rfl (sx 11 rfl (sx 12 rfl (sx 13 rfl (sx 14 rfl (sx 15 rfl (sx 16 rfl (sx 17 rfl (sx 32 rfl (sx 40 rfl (sub_nil _))))))))))))))))))) (.refl _) ?_
    refine hl_nil ?_
    refine hq_then ?_
    refine hc_block ?_
    refine hc_loop2 (α := Nat) (β := Int) (fun i at_ => (rowE 3 1 v18 ((srcS d x).length) ((srcS d x).map (Value.int .i64)) :: rowE 3 1 sv ks.length (ks.map (Value.int .i64)) :: boxE b5 #[r.nv, r.fv] 64 :: rowE 3 1 r.fv r.fs.length (r.fs.map (Value.int .i64)) :: rowE 3 1 r.nv r.ns.length (r.ns.map (Value.int .i64)) :: boxE b2 #[.slice none 0 0, .slice none 0 0] 64 :: boxE b1 #[.int .i64 d.W, .int .i64 d.H, .int .i64 d.T, .int .i64 d.R] 25 :: curE g a len cap :: l)) (fun i at_ => [(0, .pointer (some ⟨g, 0, none⟩)), (1, .agg #[.int .i64 d.W, .int .i64 d.H, .int .i64 d.T, .int .i64 d.R]), (2, .int .i64 s0), (4, .pointer (some ⟨b1, 0, none⟩)), (6, .pointer (some ⟨b2, 0, none⟩)), (7, .slice none 0 0), (8, .pointer (some ⟨b5, 0, none⟩)), (9, sv), (10, .int .i64 (allI d)), (11, .int .i64 q), (12, .int .i64 xhR15), (13, .int .i64 j), (14, .int .i64 x), (15, .int .i64 at_), (16, v18), (17, .int .i64 (i : Int)), (32, .bool true), (40, .bool true)]) (fun i at_ => i ≤ r.ns.length ∧ (at_ = -1 ∨ ((0 ≤ at_ ∧ at_ < r.ns.length) ∧ hasB (srcI d x) (r.ns.getD at_.toNat 0) = true))) (fun i at_ => r.ns.length - i) 0 (-1) ⟨by omega, .inl rfl⟩ (sx 0 rfl (sx 1 rfl (sx 2 rfl (sx 4 rfl (sx 6 rfl (sx 7 rfl (sx 8 rfl (sx 9 rfl (sx 10 rfl (sx 11 rfl (sx 12 rfl (sx 13 rfl (sx 14 rfl (sx 15 rfl (sx 16 rfl (sx 17 rfl (sx 32 rfl (sx 40 rfl (sub_nil _))))))))))))))))))) ((.cons_cons _ (.cons_cons _ (.cons_cons _ (.cons_cons _ (.cons_cons _ (.cons_cons _ (.cons_cons _ (.cons_cons _ (.refl _)))))))))) ?_
    intro i at_ hi21
    obtain ⟨hi1, hat⟩ := hi21
    refine hc_seq ?_
    refine hc_seq ?_
    refine hc_region ?_
    refine hl_v rfl rfl rfl (rv_ev rfl) ?_
    refine hl_v rfl rfl rfl (rv_field (k0 := 0) rfl (by kernel_rfl) rfl) ?_
    refine hl_v rfl rfl rfl (rv_load rfl (by kernel_rfl) rfl (box_cell 2 rfl rfl)) ?_
    refine hl_v rfl rfl rfl (rv_len rfl Try.underlying30 rfl (rd_row 4 rfl)) ?_
    refine hl_lss rfl rfl rfl rfl rfl rfl (fun h22 => ?_) (fun h22 => ?_)
    ·
     refine hl_less (sx 0 rfl (sx 1 rfl (sx 2 rfl (sx 4 rfl (sx 6 rfl (sx 7 rfl (sx 8 rfl (sx 9 rfl (sx 10 rfl (sx 11 rfl (sx 12 rfl (sx 13 rfl (sx 14 rfl (sx 15 rfl (sx 16 rfl (sx 17 rfl (sx 32 rfl (sx 40 rfl (sx 55 rfl (sub_nil _)))))))))))))))))))) (.refl _) ?_
     refine hl_nil ?_
     refine hq_then ?_
     refine hc_true rfl ?_
     refine hc_skip ?_
     refine hq_then ?_
     refine hc_seq ?_
     refine hc_block ?_
     refine hc_seq ?_
     refine hc_region ?_
     refine hl_v rfl rfl rfl (rv_ev rfl) ?_
     refine hl_v rfl rfl rfl (rv_field (k0 := 0) rfl (by kernel_rfl) rfl) ?_
     refine hl_v rfl rfl rfl (rv_load rfl (by kernel_rfl) rfl (box_cell 2 rfl rfl)) ?_
     refine hl_v rfl rfl rfl (rv_ev rfl) ?_
     refine hl_v rfl rfl rfl (rv_index (s := 1) rfl Try.underlying30 (by kernel_rfl) rfl rfl (rd_row 4 rfl) (by omega) (by first | omega | (simp only [List.length_set]; omega))) ?_
     refine hl_v rfl rfl rfl (rv_loadEl (u := .int .i64 (r.ns.getD i 0)) rfl (by kernel_rfl) rfl (rd_row 4 rfl) (ints_at1 (show _ < r.ns.length by first | omega | (simp only [List.length_set]; omega)))) ?_
     refine hl_callV rfl rfl rfl (rq_call (by kernel_rfl) rfl (fun w hm => ret_ans (l13Has_ans (srcS d x) (r.ns.getD i 0) _ w ((rd_row 0 rfl) w hm) (by omega)))) ?_
     refine hl_bool (fun h23 => ?_) (fun h23 => ?_)
     ·
      refine hl_less (sx 0 rfl (sx 1 rfl (sx 2 rfl (sx 4 rfl (sx 6 rfl (sx 7 rfl (sx 8 rfl (sx 9 rfl (sx 10 rfl (sx 11 rfl (sx 12 rfl (sx 13 rfl (sx 14 rfl (sx 15 rfl (sx 16 rfl (sx 17 rfl (sx 32 rfl (sx 40 rfl (sx 55 rfl (sx 64 rfl (sub_nil _))))))))))))))))))))) (.refl _) ?_
      refine hl_nil ?_
      refine hq_then ?_
      refine hc_true rfl ?_
      refine hc_region ?_
      refine hl_v rfl rfl rfl (rv_ev rfl) ?_
      refine hl_v rfl rfl rfl (rv_ev rfl) ?_
      refine hl_less (sx 0 rfl (sx 1 rfl (sx 2 rfl (sx 4 rfl (sx 6 rfl (sx 7 rfl (sx 8 rfl (sx 9 rfl (sx 10 rfl (sx 11 rfl (sx 12 rfl (sx 13 rfl (sx 14 rfl (sx 15 rfl (sx 16 rfl (sx 17 rfl (sx 32 rfl (sx 40 rfl (sx 55 rfl (sx 64 rfl (sub_nil _))))))))))))))))))))) (.refl _) ?_
      refine hl_nil ?_
      refine hq_block_normal ?_
      refine hq_then ?_
      refine hc_region ?_
      refine hl_v rfl rfl rfl (rv_ev rfl) ?_
      refine hl_v rfl rfl rfl (rv_add rfl rfl rfl (by constructor <;> omega)) ?_
      refine hl_v rfl rfl rfl (rv_ev rfl) ?_
      refine hl_less (sx 0 rfl (sx 1 rfl (sx 2 rfl (sx 4 rfl (sx 6 rfl (sx 7 rfl (sx 8 rfl (sx 9 rfl (sx 10 rfl (sx 11 rfl (sx 12 rfl (sx 13 rfl (sx 14 rfl (sx 15 rfl (sx 16 rfl (sx 17 rfl (sx 32 rfl (sx 40 rfl (sx 55 rfl (sx 64 rfl (sub_nil _))))))))))))))))))))) (.refl _) ?_
      refine hl_nil ?_
      exact hq_round2 (i + 1) (i : Int) ⟨by omega, .inr ⟨by omega, by rw [← src_eq]; assumption⟩⟩ (by omega) (sx 0 rfl (sx 1 rfl (sx 2 rfl (sx 4 rfl (sx 6 rfl (sx 7 rfl (sx 8 rfl (sx 9 rfl (sx 10 rfl (sx 11 rfl (sx 12 rfl (sx 13 rfl (sx 14 rfl (sx 15 rfl (sx 16 rfl (sx 17 rfl (sx 32 rfl (sx 40 rfl (sub_nil _))))))))))))))))))) ((.cons_cons _ (.cons_cons _ (.cons_cons _ (.cons_cons _ (.cons_cons _ (.cons_cons _ (.cons_cons _ (.cons_cons _ (.refl _))))))))))
     ·
      refine hl_less (sx 0 rfl (sx 1 rfl (sx 2 rfl (sx 4 rfl (sx 6 rfl (sx 7 rfl (sx 8 rfl (sx 9 rfl (sx 10 rfl (sx 11 rfl (sx 12 rfl (sx 13 rfl (sx 14 rfl (sx 15 rfl (sx 16 rfl (sx 17 rfl (sx 32 rfl (sx 40 rfl (sx 55 rfl (sx 64 rfl (sub_nil _))))))))))))))))))))) (.refl _) ?_
      refine hl_nil ?_
      refine hq_then ?_
      refine hc_false rfl ?_
      refine hc_skip ?_
      refine hq_block_normal ?_
      refine hq_then ?_
      refine hc_region ?_
      refine hl_v rfl rfl rfl (rv_ev rfl) ?_
      refine hl_v rfl rfl rfl (rv_add rfl rfl rfl (by constructor <;> omega)) ?_
      refine hl_v rfl rfl rfl (rv_ev rfl) ?_
      refine hl_less (sx 0 rfl (sx 1 rfl (sx 2 rfl (sx 4 rfl (sx 6 rfl (sx 7 rfl (sx 8 rfl (sx 9 rfl (sx 10 rfl (sx 11 rfl (sx 12 rfl (sx 13 rfl (sx 14 rfl (sx 15 rfl (sx 16 rfl (sx 17 rfl (sx 32 rfl (sx 40 rfl (sx 55 rfl (sx 64 rfl (sub_nil _))))))))))))))))))))) (.refl _) ?_
      refine hl_nil ?_
      exact hq_round2 (i + 1) at_ ⟨by omega, hat⟩ (by omega) (sx 0 rfl (sx 1 rfl (sx 2 rfl (sx 4 rfl (sx 6 rfl (sx 7 rfl (sx 8 rfl (sx 9 rfl (sx 10 rfl (sx 11 rfl (sx 12 rfl (sx 13 rfl (sx 14 rfl (sx 15 rfl (sx 16 rfl (sx 17 rfl (sx 32 rfl (sx 40 rfl (sub_nil _))))))))))))))))))) ((.cons_cons _ (.cons_cons _ (.cons_cons _ (.cons_cons _ (.cons_cons _ (.cons_cons _ (.cons_cons _ (.cons_cons _ (.refl _))))))))))
    ·
     refine hl_less (sx 0 rfl (sx 1 rfl (sx 2 rfl (sx 4 rfl (sx 6 rfl (sx 7 rfl (sx 8 rfl (sx 9 rfl (sx 10 rfl (sx 11 rfl (sx 12 rfl (sx 13 rfl (sx 14 rfl (sx 15 rfl (sx 16 rfl (sx 17 rfl (sx 32 rfl (sx 40 rfl (sx 55 rfl (sub_nil _)))))))))))))))))))) (.refl _) ?_
     refine hl_nil ?_
     refine hq_then ?_
     refine hc_false rfl ?_
     refine hc_exit ?_
     refine hq_then_exit ?_
     refine hq_then_exit ?_
     refine hq_block_exit ?_
     refine hq_then ?_
     refine hc_seq ?_
     refine hc_region ?_
     refine hl_v rfl rfl rfl (rv_ev rfl) ?_
     refine hl_geq rfl rfl rfl rfl rfl rfl (fun h24 => ?_) (fun h24 => ?_)
     ·
      refine hl_v rfl rfl rfl (rv_ev rfl) ?_
      refine hl_v rfl rfl rfl (rv_field (k0 := 0) rfl (by kernel_rfl) rfl) ?_
      refine hl_v rfl rfl rfl (rv_load rfl (by kernel_rfl) rfl (box_cell 2 rfl rfl)) ?_
      refine hl_v rfl rfl rfl (rv_ev rfl) ?_
      refine hl_callV rfl rfl rfl (rq_call (by kernel_rfl) rfl (fun w hm => ret_ans (l13Has_ans r.ns x _ w ((rd_row 4 rfl) w hm) (by omega)))) ?_
      refine hl_bool (fun h25 => ?_) (fun h25 => ?_)
      ·
       refine hl_v rfl rfl rfl (rv_ev rfl) ?_
       refine hl_v rfl rfl rfl (rv_ev rfl) ?_
       refine hl_less (sx 0 rfl (sx 1 rfl (sx 2 rfl (sx 4 rfl (sx 6 rfl (sx 7 rfl (sx 8 rfl (sx 9 rfl (sx 10 rfl (sx 11 rfl (sx 12 rfl (sx 13 rfl (sx 14 rfl (sx 15 rfl (sx 16 rfl (sx 17 rfl (sx 32 rfl (sx 40 rfl (sx 55 rfl (sx 74 rfl (sub_nil _))))))))))))))))))))) (.refl _) ?_
       refine hl_nil ?_
       refine hq_then ?_
       refine hc_false rfl ?_
       refine hc_skip ?_
       refine hq_block_normal ?_
       refine hq_then ?_
       refine hc_region ?_
       refine hl_v rfl rfl rfl (rv_ev rfl) ?_
       refine hl_v rfl rfl rfl (rv_add rfl rfl rfl (by constructor <;> omega)) ?_
       refine hl_v rfl rfl rfl (rv_ev rfl) ?_
       refine hl_less (sx 0 rfl (sx 1 rfl (sx 2 rfl (sx 4 rfl (sx 6 rfl (sx 7 rfl (sx 8 rfl (sx 9 rfl (sx 10 rfl (sx 11 rfl (sx 12 rfl (sx 13 rfl (sx 14 rfl (sx 15 rfl (sx 16 rfl (sx 17 rfl (sx 32 rfl (sx 40 rfl (sx 55 rfl (sx 74 rfl (sub_nil _))))))))))))))))))))) (.refl _) ?_
       refine hl_nil ?_
       exact hq_round1 (j + 1) (by omega) (by omega) (sx 0 rfl (sx 1 rfl (sx 2 rfl (sx 4 rfl (sx 6 rfl (sx 7 rfl (sx 8 rfl (sx 9 rfl (sx 10 rfl (sx 11 rfl (sx 12 rfl (sx 13 rfl (sx 32 rfl (sub_nil _)))))))))))))) ((.cons _ (.cons_cons _ (.cons_cons _ (.cons_cons _ (.cons_cons _ (.cons_cons _ (.cons_cons _ (.cons_cons _ (.refl _))))))))))
      ·
       refine hl_v rfl rfl rfl (rv_ev rfl) ?_
       refine hl_v rfl rfl rfl (rv_ev rfl) ?_
       refine hl_less (sx 0 rfl (sx 1 rfl (sx 2 rfl (sx 4 rfl (sx 6 rfl (sx 7 rfl (sx 8 rfl (sx 9 rfl (sx 10 rfl (sx 11 rfl (sx 12 rfl (sx 13 rfl (sx 14 rfl (sx 15 rfl (sx 16 rfl (sx 17 rfl (sx 32 rfl (sx 40 rfl (sx 55 rfl (sx 74 rfl (sub_nil _))))))))))))))))))))) (.refl _) ?_
       refine hl_nil ?_
       refine hq_then ?_
       refine hc_true rfl ?_
       refine hc_seq ?_
       refine hc_region ?_
       refine hl_v rfl rfl rfl (rv_field (k0 := 0) rfl (by kernel_rfl) rfl) ?_
       refine hl_v rfl rfl rfl (rv_load rfl (by kernel_rfl) rfl (box_cell 2 rfl rfl)) ?_
       refine hl_v rfl rfl rfl (rv_ev rfl) ?_
       refine hl_row rfl rfl rfl (rq_buildSlice (z := .int .i64 0) (s := 1) (cs := ([x].map (Value.int .i64))) rfl Try.underlying30 (by kernel_rfl) (by decide) rfl (by kernel_rfl) rfl) ?_
       intro g26
       refine hl_append (i := 5) (z := .int .i64 0) (bytes := 8) (n' := (r.ns ++ ([x])).length) (xs' := ((r.ns ++ ([x])).map (Value.int .i64))) (L := fun v27 => (rowE 3 1 (.slice (some ⟨g26, 0, none⟩) 1 1) 1 ([x].map (Value.int .i64)) :: rowE 3 1 v18 ((srcS d x).length) ((srcS d x).map (Value.int .i64)) :: rowE 3 1 sv ks.length (ks.map (Value.int .i64)) :: boxE b5 #[r.nv, r.fv] 64 :: rowE 3 1 r.fv r.fs.length (r.fs.map (Value.int .i64)) :: rowE 3 1 v27 ((r.ns ++ ([x])).length) ((r.ns ++ ([x])).map (Value.int .i64)) :: boxE b2 #[.slice none 0 0, .slice none 0 0] 64 :: boxE b1 #[.int .i64 d.W, .int .i64 d.H, .int .i64 d.T, .int .i64 d.R] 25 :: curE g a len cap :: l)) rfl rfl rfl rfl Try.underlying30 (by kernel_rfl) (by kernel_rfl) rfl rfl rfl (rd_row 0 rfl) (ints_one _) (by first | omega | (simp; omega)) (len_app r.ns ([x])) (ints_app r.ns ([x])) (fun _ => rfl) ?_
       intro v27
       refine hl_v rfl rfl rfl (rv_field (k0 := 0) rfl (by kernel_rfl) rfl) ?_
       refine hl_one (i := 5) rfl (fun ho28 => ?_)
       refine hl_storeBox (i := 3) (l' := (rowE 3 1 (.slice (some ⟨g26, 0, none⟩) 1 1) 1 ([x].map (Value.int .i64)) :: rowE 3 1 v18 ((srcS d x).length) ((srcS d x).map (Value.int .i64)) :: rowE 3 1 sv ks.length (ks.map (Value.int .i64)) :: boxE b5 #[v27, r.fv] 64 :: rowE 3 1 r.fv r.fs.length (r.fs.map (Value.int .i64)) :: rowE 3 1 v27 ((r.ns ++ ([x])).length) ((r.ns ++ ([x])).map (Value.int .i64)) :: boxE b2 #[.slice none 0 0, .slice none 0 0] 64 :: boxE b1 #[.int .i64 d.W, .int .i64 d.H, .int .i64 d.T, .int .i64 d.R] 25 :: curE g a len cap :: l)) rfl rfl rfl (by kernel_rfl) rfl rfl ho28 rfl rfl rfl ?_
       refine hl_less (sx 0 rfl (sx 1 rfl (sx 2 rfl (sx 4 rfl (sx 6 rfl (sx 7 rfl (sx 8 rfl (sx 9 rfl (sx 10 rfl (sx 11 rfl (sx 12 rfl (sx 13 rfl (sx 14 rfl (sx 15 rfl (sx 16 rfl (sx 17 rfl (sx 32 rfl (sx 40 rfl (sx 55 rfl (sx 74 rfl (sub_nil _))))))))))))))))))))) (.refl _) ?_
       refine hl_nil ?_
       refine hq_then ?_
       refine hc_seq ?_
       refine hc_region ?_
       refine hl_v rfl rfl rfl (rv_field (k0 := 1) rfl (by kernel_rfl) rfl) ?_
       refine hl_v rfl rfl rfl (rv_load rfl (by kernel_rfl) rfl (box_cell 3 rfl rfl)) ?_
       refine hl_v rfl rfl rfl (rv_ev rfl) ?_
       refine hl_row rfl rfl rfl (rq_buildSlice (z := .int .i64 0) (s := 1) (cs := ([at_].map (Value.int .i64))) rfl Try.underlying30 (by kernel_rfl) (by decide) rfl (by kernel_rfl) rfl) ?_
       intro g29
       refine hl_append (i := 5) (z := .int .i64 0) (bytes := 8) (n' := (r.fs ++ ([at_])).length) (xs' := ((r.fs ++ ([at_])).map (Value.int .i64))) (L := fun v30 => (rowE 3 1 (.slice (some ⟨g29, 0, none⟩) 1 1) 1 ([at_].map (Value.int .i64)) :: rowE 3 1 (.slice (some ⟨g26, 0, none⟩) 1 1) 1 ([x].map (Value.int .i64)) :: rowE 3 1 v18 ((srcS d x).length) ((srcS d x).map (Value.int .i64)) :: rowE 3 1 sv ks.length (ks.map (Value.int .i64)) :: boxE b5 #[v27, r.fv] 64 :: rowE 3 1 v30 ((r.fs ++ ([at_])).length) ((r.fs ++ ([at_])).map (Value.int .i64)) :: rowE 3 1 v27 ((r.ns ++ ([x])).length) ((r.ns ++ ([x])).map (Value.int .i64)) :: boxE b2 #[.slice none 0 0, .slice none 0 0] 64 :: boxE b1 #[.int .i64 d.W, .int .i64 d.H, .int .i64 d.T, .int .i64 d.R] 25 :: curE g a len cap :: l)) rfl rfl rfl rfl Try.underlying30 (by kernel_rfl) (by kernel_rfl) rfl rfl rfl (rd_row 0 rfl) (ints_one _) (by first | omega | (simp; omega)) (len_app r.fs ([at_])) (ints_app r.fs ([at_])) (fun _ => rfl) ?_
       intro v30
       refine hl_v rfl rfl rfl (rv_field (k0 := 1) rfl (by kernel_rfl) rfl) ?_
       refine hl_one (i := 5) rfl (fun ho31 => ?_)
       refine hl_storeBox (i := 4) (l' := (rowE 3 1 (.slice (some ⟨g29, 0, none⟩) 1 1) 1 ([at_].map (Value.int .i64)) :: rowE 3 1 (.slice (some ⟨g26, 0, none⟩) 1 1) 1 ([x].map (Value.int .i64)) :: rowE 3 1 v18 ((srcS d x).length) ((srcS d x).map (Value.int .i64)) :: rowE 3 1 sv ks.length (ks.map (Value.int .i64)) :: boxE b5 #[v27, v30] 64 :: rowE 3 1 v30 ((r.fs ++ ([at_])).length) ((r.fs ++ ([at_])).map (Value.int .i64)) :: rowE 3 1 v27 ((r.ns ++ ([x])).length) ((r.ns ++ ([x])).map (Value.int .i64)) :: boxE b2 #[.slice none 0 0, .slice none 0 0] 64 :: boxE b1 #[.int .i64 d.W, .int .i64 d.H, .int .i64 d.T, .int .i64 d.R] 25 :: curE g a len cap :: l)) rfl rfl rfl (by kernel_rfl) rfl rfl ho31 rfl rfl rfl ?_
       refine hl_less (sx 0 rfl (sx 1 rfl (sx 2 rfl (sx 4 rfl (sx 6 rfl (sx 7 rfl (sx 8 rfl (sx 9 rfl (sx 10 rfl (sx 11 rfl (sx 12 rfl (sx 13 rfl (sx 14 rfl (sx 15 rfl (sx 16 rfl (sx 17 rfl (sx 32 rfl (sx 40 rfl (sx 55 rfl (sx 74 rfl (sub_nil _))))))))))))))))))))) (.refl _) ?_
       refine hl_nil ?_
       refine hq_then ?_
       refine hc_seq ?_
       refine hc_seq ?_
       refine hc_region ?_
       refine hl_v rfl rfl rfl (rv_ev rfl) ?_
       refine hl_v rfl rfl rfl (rv_loadN (cs := [.int .i64 d.W, .int .i64 d.H, .int .i64 d.T, .int .i64 d.R]) rfl (by kernel_rfl) (by kernel_rfl) rfl rfl (box_part 8 rfl 0 rfl)) ?_
       refine hl_callV rfl rfl rfl (rq_call (by kernel_rfl) rfl (fun w hm => ret_ans (specPer_any d hd w))) ?_
       refine hl_v rfl rfl rfl (rv_rem rfl rfl rfl (by constructor <;> omega)) ?_
       refine hl_lss rfl rfl rfl rfl rfl rfl (fun h32 => ?_) (fun h32 => ?_)
       ·
        refine hl_less (sx 0 rfl (sx 1 rfl (sx 2 rfl (sx 4 rfl (sx 6 rfl (sx 7 rfl (sx 8 rfl (sx 9 rfl (sx 10 rfl (sx 11 rfl (sx 12 rfl (sx 13 rfl (sx 14 rfl (sx 15 rfl (sx 16 rfl (sx 17 rfl (sx 32 rfl (sx 40 rfl (sx 55 rfl (sx 74 rfl (sx 91 rfl (sub_nil _)))))))))))))))))))))) (.refl _) ?_
        refine hl_nil ?_
        refine hq_then ?_
        refine hc_true rfl ?_
        refine hc_region ?_
        refine hl_v rfl rfl rfl (rv_ev rfl) ?_
        refine hl_v rfl rfl rfl (rv_ev rfl) ?_
        refine hl_row rfl rfl rfl (rq_buildSlice (z := .int .i64 0) (s := 1) (cs := ([x].map (Value.int .i64))) rfl Try.underlying30 (by kernel_rfl) (by decide) rfl (by kernel_rfl) rfl) ?_
        intro g33
        refine hl_append (i := 4) (z := .int .i64 0) (bytes := 8) (n' := (ks ++ ([x])).length) (xs' := ((ks ++ ([x])).map (Value.int .i64))) (L := fun v34 => (rowE 3 1 (.slice (some ⟨g33, 0, none⟩) 1 1) 1 ([x].map (Value.int .i64)) :: rowE 3 1 (.slice (some ⟨g29, 0, none⟩) 1 1) 1 ([at_].map (Value.int .i64)) :: rowE 3 1 (.slice (some ⟨g26, 0, none⟩) 1 1) 1 ([x].map (Value.int .i64)) :: rowE 3 1 v18 ((srcS d x).length) ((srcS d x).map (Value.int .i64)) :: rowE 3 1 v34 ((ks ++ ([x])).length) ((ks ++ ([x])).map (Value.int .i64)) :: boxE b5 #[v27, v30] 64 :: rowE 3 1 v30 ((r.fs ++ ([at_])).length) ((r.fs ++ ([at_])).map (Value.int .i64)) :: rowE 3 1 v27 ((r.ns ++ ([x])).length) ((r.ns ++ ([x])).map (Value.int .i64)) :: boxE b2 #[.slice none 0 0, .slice none 0 0] 64 :: boxE b1 #[.int .i64 d.W, .int .i64 d.H, .int .i64 d.T, .int .i64 d.R] 25 :: curE g a len cap :: l)) rfl rfl rfl rfl Try.underlying30 (by kernel_rfl) (by kernel_rfl) rfl rfl rfl (rd_row 0 rfl) (ints_one _) (by first | omega | (simp; omega)) (len_app ks ([x])) (ints_app ks ([x])) (fun _ => rfl) ?_
        intro v34
        refine hl_v rfl rfl rfl (rv_ev rfl) ?_
        refine hl_less (sx 0 rfl (sx 1 rfl (sx 2 rfl (sx 4 rfl (sx 6 rfl (sx 7 rfl (sx 8 rfl (sx 9 rfl (sx 10 rfl (sx 11 rfl (sx 12 rfl (sx 13 rfl (sx 14 rfl (sx 15 rfl (sx 16 rfl (sx 17 rfl (sx 32 rfl (sx 40 rfl (sx 55 rfl (sx 74 rfl (sx 91 rfl (sub_nil _)))))))))))))))))))))) (.refl _) ?_
        refine hl_nil ?_
        refine hq_then ?_
        refine hc_exit ?_
        refine hq_block_past rfl ?_
        refine hq_then_exit ?_
        refine hq_then_exit ?_
        refine hq_block_exit ?_
        refine hq_block_normal ?_
        refine hq_then ?_
        refine hc_region ?_
        refine hl_v rfl rfl rfl (rv_ev rfl) ?_
        refine hl_v rfl rfl rfl (rv_sub rfl rfl rfl (by constructor <;> omega)) ?_
        refine hl_v rfl rfl rfl (rv_ev rfl) ?_
        refine hl_less (sx 0 rfl (sx 1 rfl (sx 2 rfl (sx 4 rfl (sx 6 rfl (sx 7 rfl (sx 8 rfl (sx 9 rfl (sx 10 rfl (sx 11 rfl (sx 12 rfl (sx 13 rfl (sx 14 rfl (sx 15 rfl (sx 16 rfl (sx 17 rfl (sx 32 rfl (sx 40 rfl (sx 55 rfl (sx 74 rfl (sx 91 rfl (sub_nil _)))))))))))))))))))))) (.refl _) ?_
        refine hl_nil ?_
        exact hq_round4 (q - 1) ⟨v27, v30, r.ns ++ ([x]), r.fs ++ ([at_])⟩ v34 (ks ++ ([x])) ⟨by omega, by dsimp only; simp only [List.length_append, List.length_singleton]; omega, by have h9 := tree_app htr (by omega) (by omega) (by assumption) (hat.resolve_left (by omega)).1 (hat.resolve_left (by omega)).2; rw [if_pos (by omega)] at h9; exact h9⟩ (by omega) (sx 0 rfl (sx 1 rfl (sx 2 rfl (sx 4 rfl (sx 6 rfl (sx 7 rfl (sx 8 rfl (sx 9 rfl (sx 10 rfl (sx 11 rfl (sub_nil _))))))))))) ((.cons _ (.cons _ (.cons _ (.cons _ (.cons_cons _ (.cons_cons _ (.cons_cons _ (.cons_cons _ (.cons_cons _ (.cons_cons _ (.cons_cons _ (.refl _)))))))))))))
       ·
        refine hl_less (sx 0 rfl (sx 1 rfl (sx 2 rfl (sx 4 rfl (sx 6 rfl (sx 7 rfl (sx 8 rfl (sx 9 rfl (sx 10 rfl (sx 11 rfl (sx 12 rfl (sx 13 rfl (sx 14 rfl (sx 15 rfl (sx 16 rfl (sx 17 rfl (sx 32 rfl (sx 40 rfl (sx 55 rfl (sx 74 rfl (sx 91 rfl (sub_nil _)))))))))))))))))))))) (.refl _) ?_
        refine hl_nil ?_
        refine hq_then ?_
        refine hc_false rfl ?_
        refine hc_skip ?_
        refine hq_then ?_
        refine hc_exit ?_
        refine hq_block_past rfl ?_
        refine hq_then_exit ?_
        refine hq_then_exit ?_
        refine hq_block_exit ?_
        refine hq_block_normal ?_
        refine hq_then ?_
        refine hc_region ?_
        refine hl_v rfl rfl rfl (rv_ev rfl) ?_
        refine hl_v rfl rfl rfl (rv_sub rfl rfl rfl (by constructor <;> omega)) ?_
        refine hl_v rfl rfl rfl (rv_ev rfl) ?_
        refine hl_less (sx 0 rfl (sx 1 rfl (sx 2 rfl (sx 4 rfl (sx 6 rfl (sx 7 rfl (sx 8 rfl (sx 9 rfl (sx 10 rfl (sx 11 rfl (sx 12 rfl (sx 13 rfl (sx 14 rfl (sx 15 rfl (sx 16 rfl (sx 17 rfl (sx 32 rfl (sx 40 rfl (sx 55 rfl (sx 74 rfl (sx 91 rfl (sub_nil _)))))))))))))))))))))) (.refl _) ?_
        refine hl_nil ?_
        exact hq_round4 (q - 1) ⟨v27, v30, r.ns ++ ([x]), r.fs ++ ([at_])⟩ sv ks ⟨by omega, by dsimp only; simp only [List.length_append, List.length_singleton]; omega, by have h9 := tree_app htr (by omega) (by omega) (by assumption) (hat.resolve_left (by omega)).1 (hat.resolve_left (by omega)).2; rw [if_neg (by omega)] at h9; exact h9⟩ (by omega) (sx 0 rfl (sx 1 rfl (sx 2 rfl (sx 4 rfl (sx 6 rfl (sx 7 rfl (sx 8 rfl (sx 9 rfl (sx 10 rfl (sx 11 rfl (sub_nil _))))))))))) ((.cons _ (.cons _ (.cons _ (.cons_cons _ (.cons_cons _ (.cons_cons _ (.cons_cons _ (.cons_cons _ (.cons_cons _ (.cons_cons _ (.refl _))))))))))))
     ·
      refine hl_v rfl rfl rfl (rv_ev rfl) ?_
      refine hl_skip rfl rfl rfl ?_
      refine hl_skip rfl rfl rfl ?_
      refine hl_skip rfl rfl rfl ?_
      refine hl_skip rfl rfl rfl ?_
      refine hl_skip rfl rfl rfl ?_
      refine hl_v rfl rfl rfl (rv_ev rfl) ?_
      refine hl_less (sx 0 rfl (sx 1 rfl (sx 2 rfl (sx 4 rfl (sx 6 rfl (sx 7 rfl (sx 8 rfl (sx 9 rfl (sx 10 rfl (sx 11 rfl (sx 12 rfl (sx 13 rfl (sx 14 rfl (sx 15 rfl (sx 16 rfl (sx 17 rfl (sx 32 rfl (sx 40 rfl (sx 55 rfl (sx 74 rfl (sub_nil _))))))))))))))))))))) (.refl _) ?_
      refine hl_nil ?_
      refine hq_then ?_
      refine hc_false rfl ?_
      refine hc_skip ?_
      refine hq_block_normal ?_
      refine hq_then ?_
      refine hc_region ?_
      refine hl_v rfl rfl rfl (rv_ev rfl) ?_
      refine hl_v rfl rfl rfl (rv_add rfl rfl rfl (by constructor <;> omega)) ?_
      refine hl_v rfl rfl rfl (rv_ev rfl) ?_
      refine hl_less (sx 0 rfl (sx 1 rfl (sx 2 rfl (sx 4 rfl (sx 6 rfl (sx 7 rfl (sx 8 rfl (sx 9 rfl (sx 10 rfl (sx 11 rfl (sx 12 rfl (sx 13 rfl (sx 14 rfl (sx 15 rfl (sx 16 rfl (sx 17 rfl (sx 32 rfl (sx 40 rfl (sx 55 rfl (sx 74 rfl (sub_nil _))))))))))))))))))))) (.refl _) ?_
      refine hl_nil ?_
      exact hq_round1 (j + 1) (by omega) (by omega) (sx 0 rfl (sx 1 rfl (sx 2 rfl (sx 4 rfl (sx 6 rfl (sx 7 rfl (sx 8 rfl (sx 9 rfl (sx 10 rfl (sx 11 rfl (sx 12 rfl (sx 13 rfl (sx 32 rfl (sub_nil _)))))))))))))) ((.cons _ (.cons_cons _ (.cons_cons _ (.cons_cons _ (.cons_cons _ (.cons_cons _ (.cons_cons _ (.cons_cons _ (.refl _))))))))))
   ·
    refine hl_less (sx 0 rfl (sx 1 rfl (sx 2 rfl (sx 4 rfl (sx 6 rfl (sx 7 rfl (sx 8 rfl (sx 9 rfl (sx 10 rfl (sx 11 rfl (sx 12 rfl (sx 13 rfl (sx 32 rfl (sx 40 rfl (sub_nil _))))))))))))))) (.refl _) ?_
    refine hl_nil ?_
    refine hq_then ?_
    refine hc_false rfl ?_
    refine hc_exit ?_
    refine hq_then_exit ?_
    refine hq_then_exit ?_
    refine hq_block_exit ?_
    refine hq_block_normal ?_
    refine hq_then ?_
    refine hc_region ?_
    refine hl_v rfl rfl rfl (rv_ev rfl) ?_
    refine hl_v rfl rfl rfl (rv_sub rfl rfl rfl (by constructor <;> omega)) ?_
    refine hl_v rfl rfl rfl (rv_ev rfl) ?_
    refine hl_less (sx 0 rfl (sx 1 rfl (sx 2 rfl (sx 4 rfl (sx 6 rfl (sx 7 rfl (sx 8 rfl (sx 9 rfl (sx 10 rfl (sx 11 rfl (sx 12 rfl (sx 13 rfl (sx 32 rfl (sx 40 rfl (sub_nil _))))))))))))))) (.refl _) ?_
    refine hl_nil ?_
    exact hq_round4 (q - 1) ⟨r.nv, r.fv, r.ns, r.fs⟩ sv ks ⟨by omega, by dsimp only; omega, htr⟩ (by omega) (sx 0 rfl (sx 1 rfl (sx 2 rfl (sx 4 rfl (sx 6 rfl (sx 7 rfl (sx 8 rfl (sx 9 rfl (sx 10 rfl (sx 11 rfl (sub_nil _))))))))))) ((.cons_cons _ (.cons_cons _ (.cons_cons _ (.cons_cons _ (.cons_cons _ (.cons_cons _ (.cons_cons _ (.refl _)))))))))
  ·
   refine hl_v rfl rfl rfl (rv_ev rfl) ?_
   refine hl_less (sx 0 rfl (sx 1 rfl (sx 2 rfl (sx 4 rfl (sx 6 rfl (sx 7 rfl (sx 8 rfl (sx 9 rfl (sx 10 rfl (sx 11 rfl (sx 32 rfl (sub_nil _)))))))))))) (.refl _) ?_
   refine hl_nil ?_
   refine hq_then ?_
   refine hc_false rfl ?_
   refine hc_exit ?_
   refine hq_then_exit ?_
   refine hq_then_exit ?_
   refine hq_block_exit ?_
   refine hq_then ?_
   refine hc_seq ?_
   refine hc_region ?_
   refine hl_v rfl rfl rfl (rv_loadN (cs := [r.nv, r.fv]) rfl (by kernel_rfl) (by kernel_rfl) rfl rfl (box_part 1 rfl 0 rfl)) ?_
   refine hl_v rfl rfl rfl (rv_ev rfl) ?_
   refine hl_one (i := 2) rfl (fun ho35 => ?_)
   refine hl_one (i := 3) rfl (fun ho36 => ?_)
   refine hl_storeBoxN (i := 4) (off := 0) (us := [r.nv, r.fv]) (l' := (rowE 3 1 sv ks.length (ks.map (Value.int .i64)) :: boxE b5 #[r.nv, r.fv] 64 :: rowE 3 1 r.fv r.fs.length (r.fs.map (Value.int .i64)) :: rowE 3 1 r.nv r.ns.length (r.ns.map (Value.int .i64)) :: boxE b2 #[r.nv, r.fv] 64 :: boxE b1 #[.int .i64 d.W, .int .i64 d.H, .int .i64 d.T, .int .i64 d.R] 25 :: curE g a len cap :: l)) rfl rfl rfl (by kernel_rfl) rfl rfl rfl (all_cons ho36 (all_cons ho35 all_nil)) rfl rfl rfl ?_
   refine hl_v rfl rfl rfl (rv_ev rfl) ?_
   refine hl_less (sx 0 rfl (sx 1 rfl (sx 2 rfl (sx 4 rfl (sx 6 rfl (sx 7 rfl (sx 8 rfl (sx 9 rfl (sx 10 rfl (sx 11 rfl (sx 32 rfl (sub_nil _)))))))))))) (.refl _) ?_
   refine hl_nil ?_
   refine hq_then ?_
   refine hc_ret ?_
   refine hq_one (i := 3) rfl (fun ornv => ?_)
   refine hq_one (i := 2) rfl (fun orfv => ?_)
   refine hq_one (i := 0) rfl (fun osv => ?_)
   refine hq_conv (rowE 3 1 r.nv r.ns.length (r.ns.map (Value.int .i64)) :: rowE 3 1 r.fv r.fs.length (r.fs.map (Value.int .i64)) :: rowE 3 1 sv ks.length (ks.map (Value.int .i64)) :: curE g a len cap :: boxE b2 #[r.nv, r.fv] 64 :: l) (conv_pick (src := [rowE 3 1 sv ks.length (ks.map (Value.int .i64)), boxE b5 #[r.nv, r.fv] 64, rowE 3 1 r.fv r.fs.length (r.fs.map (Value.int .i64)), rowE 3 1 r.nv r.ns.length (r.ns.map (Value.int .i64)), boxE b2 #[r.nv, r.fv] 64, boxE b1 #[.int .i64 d.W, .int .i64 d.H, .int .i64 d.T, .int .i64 d.R] 25, curE g a len cap]) (dst := [rowE 3 1 r.nv r.ns.length (r.ns.map (Value.int .i64)), rowE 3 1 r.fv r.fs.length (r.fs.map (Value.int .i64)), rowE 3 1 sv ks.length (ks.map (Value.int .i64)), curE g a len cap, boxE b2 #[r.nv, r.fv] 64]) (l := l) [3, 2, 0, 6, 4] (by decide) rfl) ?_
   refine hq_conv (bigE [curE g a len cap, rtE r, rowE 3 1 sv ks.length (ks.map (Value.int .i64))] :: boxE b2 #[r.nv, r.fv] 64 :: l) (fun w hm => by
     have h1 : Mem _ ([rowE 3 1 r.nv r.ns.length (r.ns.map (Value.int .i64)), rowE 3 1 r.fv r.fs.length (r.fs.map (Value.int .i64))] ++ (rowE 3 1 sv ks.length (ks.map (Value.int .i64)) :: curE g a len cap :: boxE b2 #[r.nv, r.fv] 64 :: l)) w := hm
     have h2 : Mem _ (rtE r :: rowE 3 1 sv ks.length (ks.map (Value.int .i64)) :: curE g a len cap :: boxE b2 #[r.nv, r.fv] 64 :: l) w := h1.big
     have h3 : Mem _ (curE g a len cap :: rtE r :: rowE 3 1 sv ks.length (ks.map (Value.int .i64)) :: boxE b2 #[r.nv, r.fv] 64 :: l) w := h2.perm ((List.Perm.cons _ (.swap _ _ _)).trans (.swap _ _ _))
     exact Mem.big (ps := [curE g a len cap, rtE r, rowE 3 1 sv ks.length (ks.map (Value.int .i64))]) h3) ?_
   exact hq_ret (rs := [.cell 6 64, .tmp 7]) (vs := [.agg #[r.nv, r.fv], sv]) rfl ⟨⟨b2, 0, [r.nv, r.fv], rfl, rfl, by kernel_rfl, by kernel_rfl, box_part 1 rfl 0 rfl⟩, rfl, trivial⟩ rfl (fun w hm => ⟨_, bigE [curE g a len cap, rtE r, rowE 3 1 sv ks.length (ks.map (Value.int .i64))], rfl, ⟨r, sv, ks, rfl, rfl, ⟨ornv, orfv, osv⟩, htr⟩, hm.sub (.cons_cons _ (.cons _ (.refl _)))⟩)
 ·
  refine hl_v rfl rfl rfl (rv_ev rfl) ?_
  refine hl_skip rfl rfl rfl ?_
  refine hl_skip rfl rfl rfl ?_
  refine hl_v rfl rfl rfl (rv_ev rfl) ?_
  refine hl_less (sx 0 rfl (sx 1 rfl (sx 2 rfl (sx 4 rfl (sx 6 rfl (sx 7 rfl (sx 8 rfl (sx 9 rfl (sx 10 rfl (sx 11 rfl (sx 32 rfl (sub_nil _)))))))))))) (.refl _) ?_
  refine hl_nil ?_
  refine hq_then ?_
  refine hc_false rfl ?_
  refine hc_exit ?_
  refine hq_then_exit ?_
  refine hq_then_exit ?_
  refine hq_block_exit ?_
  refine hq_then ?_
  refine hc_seq ?_
  refine hc_region ?_
  refine hl_v rfl rfl rfl (rv_loadN (cs := [r.nv, r.fv]) rfl (by kernel_rfl) (by kernel_rfl) rfl rfl (box_part 1 rfl 0 rfl)) ?_
  refine hl_v rfl rfl rfl (rv_ev rfl) ?_
  refine hl_one (i := 2) rfl (fun ho37 => ?_)
  refine hl_one (i := 3) rfl (fun ho38 => ?_)
  refine hl_storeBoxN (i := 4) (off := 0) (us := [r.nv, r.fv]) (l' := (rowE 3 1 sv ks.length (ks.map (Value.int .i64)) :: boxE b5 #[r.nv, r.fv] 64 :: rowE 3 1 r.fv r.fs.length (r.fs.map (Value.int .i64)) :: rowE 3 1 r.nv r.ns.length (r.ns.map (Value.int .i64)) :: boxE b2 #[r.nv, r.fv] 64 :: boxE b1 #[.int .i64 d.W, .int .i64 d.H, .int .i64 d.T, .int .i64 d.R] 25 :: curE g a len cap :: l)) rfl rfl rfl (by kernel_rfl) rfl rfl rfl (all_cons ho38 (all_cons ho37 all_nil)) rfl rfl rfl ?_
  refine hl_v rfl rfl rfl (rv_ev rfl) ?_
  refine hl_less (sx 0 rfl (sx 1 rfl (sx 2 rfl (sx 4 rfl (sx 6 rfl (sx 7 rfl (sx 8 rfl (sx 9 rfl (sx 10 rfl (sx 11 rfl (sx 32 rfl (sub_nil _)))))))))))) (.refl _) ?_
  refine hl_nil ?_
  refine hq_then ?_
  refine hc_ret ?_
  refine hq_one (i := 3) rfl (fun ornv => ?_)
  refine hq_one (i := 2) rfl (fun orfv => ?_)
  refine hq_one (i := 0) rfl (fun osv => ?_)
  refine hq_conv (rowE 3 1 r.nv r.ns.length (r.ns.map (Value.int .i64)) :: rowE 3 1 r.fv r.fs.length (r.fs.map (Value.int .i64)) :: rowE 3 1 sv ks.length (ks.map (Value.int .i64)) :: curE g a len cap :: boxE b2 #[r.nv, r.fv] 64 :: l) (conv_pick (src := [rowE 3 1 sv ks.length (ks.map (Value.int .i64)), boxE b5 #[r.nv, r.fv] 64, rowE 3 1 r.fv r.fs.length (r.fs.map (Value.int .i64)), rowE 3 1 r.nv r.ns.length (r.ns.map (Value.int .i64)), boxE b2 #[r.nv, r.fv] 64, boxE b1 #[.int .i64 d.W, .int .i64 d.H, .int .i64 d.T, .int .i64 d.R] 25, curE g a len cap]) (dst := [rowE 3 1 r.nv r.ns.length (r.ns.map (Value.int .i64)), rowE 3 1 r.fv r.fs.length (r.fs.map (Value.int .i64)), rowE 3 1 sv ks.length (ks.map (Value.int .i64)), curE g a len cap, boxE b2 #[r.nv, r.fv] 64]) (l := l) [3, 2, 0, 6, 4] (by decide) rfl) ?_
  refine hq_conv (bigE [curE g a len cap, rtE r, rowE 3 1 sv ks.length (ks.map (Value.int .i64))] :: boxE b2 #[r.nv, r.fv] 64 :: l) (fun w hm => by
    have h1 : Mem _ ([rowE 3 1 r.nv r.ns.length (r.ns.map (Value.int .i64)), rowE 3 1 r.fv r.fs.length (r.fs.map (Value.int .i64))] ++ (rowE 3 1 sv ks.length (ks.map (Value.int .i64)) :: curE g a len cap :: boxE b2 #[r.nv, r.fv] 64 :: l)) w := hm
    have h2 : Mem _ (rtE r :: rowE 3 1 sv ks.length (ks.map (Value.int .i64)) :: curE g a len cap :: boxE b2 #[r.nv, r.fv] 64 :: l) w := h1.big
    have h3 : Mem _ (curE g a len cap :: rtE r :: rowE 3 1 sv ks.length (ks.map (Value.int .i64)) :: boxE b2 #[r.nv, r.fv] 64 :: l) w := h2.perm ((List.Perm.cons _ (.swap _ _ _)).trans (.swap _ _ _))
    exact Mem.big (ps := [curE g a len cap, rtE r, rowE 3 1 sv ks.length (ks.map (Value.int .i64))]) h3) ?_
  exact hq_ret (rs := [.cell 6 64, .tmp 7]) (vs := [.agg #[r.nv, r.fv], sv]) rfl ⟨⟨b2, 0, [r.nv, r.fv], rfl, rfl, by kernel_rfl, by kernel_rfl, box_part 1 rfl 0 rfl⟩, rfl, trivial⟩ rfl (fun w hm => ⟨_, bigE [curE g a len cap, rtE r, rowE 3 1 sv ks.length (ks.map (Value.int .i64))], rfl, ⟨r, sv, ks, rfl, rfl, ⟨ornv, orfv, osv⟩, htr⟩, hm.sub (.cons_cons _ (.cons _ (.refl _)))⟩)
open Go.RowKit
theorem tok_in {d : Dev} {t : Int} (hd : devB d = true) (h0 : 0 ≤ t) (h1 : t < d.W * d.H) : tOk d t = true := (tOk_iff _ _).2 ⟨hd, h0, by omega⟩
theorem out0 {d : Dev} {t : Int} (hd : devB d = true) (h0 : 0 ≤ t) (h1 : t < d.W * d.H) : outPinI d t 0 = t * perI d + 5 ∧ 0 ≤ outPinI d t 0 ∧ outPinI d t 0 < allI d ∧ outPinI d t 0 % perI d = 5 ∧ outPinI d t 0 / perI d = t := by
  obtain ⟨q1, q2⟩ := per_rng hd
  have h2 := outPins_rng d t
  have e : outPinI d t 0 = t * perI d + 5 := by unfold outPinI; rw [if_pos ⟨tok_in hd h0 h1, by omega, by omega⟩]; omega
  obtain ⟨f1, f2⟩ := xy_of (W := perI d) (x := 5) (y := t) (by omega) (by omega) (by omega)
  have m := per_mul hd h0 (show t ≤ d.W * d.H - 1 by omega)
  have e7 : t * perI d ≤ (d.W * d.H - 1) * perI d := Int.mul_le_mul_of_nonneg_right (by omega) (by omega)
  have e6 : (d.W * d.H - 1) * perI d = allI d - perI d := by rw [Int.sub_mul, Int.one_mul]; rfl
  rw [e]
  exact ⟨rfl, by omega, by omega, f1, f2⟩
theorem opin_ans (d : Dev) (t : Int) (w : World) (hd : devB d = true) (h0 : 0 ≤ t) (h1 : t < d.W * d.H) :
    Calls Try.prog 109 #[.agg #[.int .i64 d.W, .int .i64 d.H, .int .i64 d.T, .int .i64 d.R], .int .i64 t, .int .i64 0] w (Ans w (.int .i64 (outPinI d t 0))) := specOutPin_ans d t 0 w (tok_in hd h0 h1) (by omega) (by omega)
set_option maxHeartbeats 4000000 in
set_option maxRecDepth 100000 in
theorem DrawWalk_ret (a : Option Addr) (len cap : Nat) (z : List Int) (w : World) (hb : BRow .u8 w a len cap z) (hlen : len ≤ 1048576) :
  Calls Try.prog 55 #[.slice a len cap] w (Ret w (fun v' post => ∃ (d : Dev) (s0 : Int) (r : Rt) (sv : Value) (ks : List Int), Drawn d ∧ (∃ t, (0 ≤ t ∧ t < d.W * d.H) ∧ s0 = outPinI d t 0) ∧ v' = .tuple #[.agg #[.int .i64 d.W, .int .i64 d.H, .int .i64 d.T, .int .i64 d.R], .int .i64 s0, sv, r.agg] ∧ post = [rtE r, rowE 3 1 sv ks.length (ks.map (Value.int .i64))] ∧ (r.nv.oneCell' = true ∧ r.fv.oneCell' = true ∧ sv.oneCell' = true) ∧ Tree d s0 r.ns r.fs ks)) := by
 refine calls_hc (N := 35) (args := [.slice a len cap]) Try.func55 rfl rfl ?_
 refine hc_less _ (sx 0 rfl (sub_nil _)) (.refl _) ?_
 refine hc_seq ?_
 refine hc_region ?_
 refine hl_box rfl rfl rfl (rq_alloc (z := .agg #[.int .i64 0, .int .i64 0, .int .i64 0, .int .i64 0]) rfl (by kernel_rfl)) ?_
 intro b1
 refine hl_v rfl rfl rfl (rv_ev rfl) ?_
 refine hl_v rfl rfl rfl (rv_ev rfl) ?_
 refine hl_box rfl rfl rfl (rq_alloc (z := .agg #[.slice none 0 0, .slice none 0 0]) rfl (by kernel_rfl)) ?_
 intro b2
 refine hl_less (sx 0 rfl (sx 2 rfl (sx 3 rfl (sx 4 rfl (sx 5 rfl (sub_nil _)))))) (.refl _) ?_
 refine hl_nil ?_
 refine hq_then ?_
 refine hc_seq ?_
 refine hc_region ?_
 refine hl_v rfl rfl rfl (rv_ev rfl) ?_
 refine hl_q rfl rfl rfl (rq_call (by kernel_rfl) rfl (fun w hm => new_ret (hb.below hm.bel) hlen)) ?_
 intro v3 p4 hR5
 obtain ⟨ghR5, rfl, rfl⟩ := hR5
 refine hl_v rfl rfl rfl (rv_ev rfl) ?_
 refine hl_less (sx 0 rfl (sx 2 rfl (sx 3 rfl (sx 4 rfl (sx 5 rfl (sx 6 rfl (sub_nil _))))))) (.refl _) ?_
 refine hl_nil ?_
 refine hq_then ?_
 refine hc_seq ?_
 refine hc_region ?_
 refine hl_v rfl rfl rfl (rv_ev rfl) ?_
 refine hl_callM (R := (fun u_ p_ => (∃ d : Dev, Drawn d ∧ u_ = .agg #[.int .i64 d.W, .int .i64 d.H, .int .i64 d.T, .int .i64 d.R]) ∧ p_ = curE ghR5 a len cap)) 0 rfl rfl (by kernel_rfl) rfl rfl (fun l' w hm => device_mut hm hb) ?_
 intro v6 p7 hR8
 obtain ⟨⟨d, hdr, rfl⟩, rfl⟩ := hR8
 have hd := hdr.ok
 obtain ⟨dr1, dr2, dr3, dr4, dr5, dr6, -⟩ := id hdr
 have har : 0 ≤ (d.W - 1) * (d.H - 1) ∧ 0 ≤ (5 - d.W) * d.H := ⟨Int.mul_nonneg (by omega) (by omega), Int.mul_nonneg (by omega) (by omega)⟩
 have e1 : (d.W - 1) * (d.H - 1) = d.W * d.H - d.W - d.H + 1 := by rw [Int.sub_mul, Int.mul_sub]; omega
 have e2 : (5 - d.W) * d.H = 5 * d.H - d.W * d.H := by rw [Int.sub_mul]
 rw [e1, e2] at har
 obtain ⟨ra1, ra2⟩ := all_rng hd
 obtain ⟨q1, q2⟩ := per_rng hd
 refine hl_eqL (l' := [curE ghR5 a len cap, boxE b2 #[.slice none 0 0, .slice none 0 0] 64, boxE b1 #[.int .i64 0, .int .i64 0, .int .i64 0, .int .i64 0] 25]) rfl ?_
 refine hl_box rfl rfl rfl (rq_alloc (z := .agg #[.int .i64 0, .int .i64 0, .int .i64 0, .int .i64 0]) rfl (by kernel_rfl)) ?_
 intro b9
 refine hl_storeBoxN (i := 0) (off := 0) (us := [.int .i64 d.W, .int .i64 d.H, .int .i64 d.T, .int .i64 d.R]) (l' := [boxE b9 #[.int .i64 d.W, .int .i64 d.H, .int .i64 d.T, .int .i64 d.R] 25, curE ghR5 a len cap, boxE b2 #[.slice none 0 0, .slice none 0 0] 64, boxE b1 #[.int .i64 0, .int .i64 0, .int .i64 0, .int .i64 0] 25]) rfl rfl rfl (by kernel_rfl) rfl rfl rfl (all_cons rfl (all_cons rfl (all_cons rfl (all_cons rfl all_nil)))) rfl rfl rfl ?_
 refine hl_less (sx 0 rfl (sx 2 rfl (sx 3 rfl (sx 4 rfl (sx 5 rfl (sx 6 rfl (sx 7 rfl (sub_nil _)))))))) (.refl _) ?_
 refine hl_nil ?_
 refine hq_then ?_
 refine hc_seq ?_
 refine hc_conv [curE ghR5 a len cap, boxE b9 #[.int .i64 d.W, .int .i64 d.H, .int .i64 d.T, .int .i64 d.R] 25, boxE b2 #[.slice none 0 0, .slice none 0 0] 64, boxE b1 #[.int .i64 0, .int .i64 0, .int .i64 0, .int .i64 0] 25] (conv_pick (src := [boxE b9 #[.int .i64 d.W, .int .i64 d.H, .int .i64 d.T, .int .i64 d.R] 25, curE ghR5 a len cap, boxE b2 #[.slice none 0 0, .slice none 0 0] 64, boxE b1 #[.int .i64 0, .int .i64 0, .int .i64 0, .int .i64 0] 25]) (dst := [curE ghR5 a len cap, boxE b9 #[.int .i64 d.W, .int .i64 d.H, .int .i64 d.T, .int .i64 d.R] 25, boxE b2 #[.slice none 0 0, .slice none 0 0] 64, boxE b1 #[.int .i64 0, .int .i64 0, .int .i64 0, .int .i64 0] 25]) (l := []) [1, 0, 2, 3] (by decide) rfl) ?_
 refine hc_draw2 (l := [boxE b9 #[.int .i64 d.W, .int .i64 d.H, .int .i64 d.T, .int .i64 d.R] 25, boxE b2 #[.slice none 0 0, .slice none 0 0] 64, boxE b1 #[.int .i64 0, .int .i64 0, .int .i64 0, .int .i64 0] 25]) (by kernel_rfl) 9 [0, 1, 2, 3, 4, 5, 6, 7, 8] (List.take 9 _) (List.drop 9 _) [[], [], [], [2], [], [4], [3, 5], [1, 6], [0, 7]] [15, 16, 17, 18, 19, 20, 21, 22, 23] (fun i_ vs_ v_ p_ => match i_ with | 0 => v_ = .agg #[.int .i64 d.W, .int .i64 d.H, .int .i64 d.T, .int .i64 d.R] ∧ p_ = [] | 1 => v_ = .pointer (some ⟨ghR5, 0, none⟩) ∧ p_ = [] | 2 => v_ = .pointer (some ⟨b9, 0 + 0, none⟩) ∧ p_ = [] | 3 => v_ = .int .i64 d.W ∧ p_ = [] | 4 => v_ = .pointer (some ⟨b9, 0 + 1, none⟩) ∧ p_ = [] | 5 => v_ = .int .i64 d.H ∧ p_ = [] | 6 => v_ = .int .i64 (d.W * d.H) ∧ p_ = [] | 7 => (∃ pm_, p_ = [pm_] ∧ (fun u_ p_ => (∃ x_ : Int, u_ = .int .i64 x_ ∧ 0 ≤ x_ ∧ x_ < d.W * d.H) ∧ p_ = curE ghR5 a len cap) v_ pm_) | 8 => v_ = .int .i64 (outPinI d (intOf_o (List.getD vs_ 1 undef)) 0) ∧ p_ = [] | _ => True) [[], [], [], [2], [], [4], [3, 5], [1, 6], [0, 7]] [none, none, none, none, none, none, none, some 10, none] [curE ghR5 a len cap] [0, 1, 2, 3, 4, 5, 6, 7, 8] 10 (List.take_append_drop 9 _).symm (by kernel_rfl) (by kernel_rfl) (by kernel_rfl) rfl rfl ?_ ?_
 ·
  refine ⟨?_, ?_, ?_, ?_, ?_, ?_, ?_, ?_, ?_, trivial⟩
  ·
   intro vf pf hmu hR
   refine Or.inl ⟨rfl, ?_⟩
   show RunQ _ _ _ (([] : List Nat).flatMap pf ++ _) (envOf _ vf [] ++ _) _ _
   refine rq_less (sx 7 rfl (sub_nil _)) (List.sublist_append_right _ _) ?_
   exact rq_v (rv_loadN (cs := [.int .i64 d.W, .int .i64 d.H, .int .i64 d.T, .int .i64 d.R]) rfl (by kernel_rfl) (by kernel_rfl) rfl rfl (box_part 0 rfl 0 rfl))
  ·
   intro vf pf hmu hR
   refine Or.inl ⟨rfl, ?_⟩
   show RunQ _ _ _ (([] : List Nat).flatMap pf ++ _) (envOf _ vf [] ++ _) _ _
   refine rq_less (sx 6 rfl (sub_nil _)) (List.sublist_append_right _ _) ?_
   exact rq_v (rv_ev rfl)
  ·
   intro vf pf hmu hR
   refine Or.inl ⟨rfl, ?_⟩
   show RunQ _ _ _ (([] : List Nat).flatMap pf ++ _) (envOf _ vf [] ++ _) _ _
   refine rq_less (sx 7 rfl (sub_nil _)) (List.sublist_append_right _ _) ?_
   exact rq_v (rv_field (k0 := 0) rfl (by kernel_rfl) rfl)
  ·
   intro vf pf hmu hR
   have e2 : (vf 2) = .pointer (some ⟨b9, 0 + 0, none⟩) ∧ (pf 2) = [] := hR 2 (by decide)
   refine Or.inl ⟨rfl, ?_⟩
   show RunQ _ _ _ (([2] : List Nat).flatMap pf ++ _) (envOf _ vf [2] ++ _) _ _
   refine rq_less (sx 17 (congrArg some e2.1) (sub_nil _)) (List.sublist_append_right _ _) ?_
   exact rq_v (rv_load rfl (by kernel_rfl) rfl (box_cell 0 rfl rfl))
  ·
   intro vf pf hmu hR
   refine Or.inl ⟨rfl, ?_⟩
   show RunQ _ _ _ (([] : List Nat).flatMap pf ++ _) (envOf _ vf [] ++ _) _ _
   refine rq_less (sx 7 rfl (sub_nil _)) (List.sublist_append_right _ _) ?_
   exact rq_v (rv_field (k0 := 1) rfl (by kernel_rfl) rfl)
  ·
   intro vf pf hmu hR
   have e4 : (vf 4) = .pointer (some ⟨b9, 0 + 1, none⟩) ∧ (pf 4) = [] := hR 4 (by decide)
   refine Or.inl ⟨rfl, ?_⟩
   show RunQ _ _ _ (([4] : List Nat).flatMap pf ++ _) (envOf _ vf [4] ++ _) _ _
   refine rq_less (sx 19 (congrArg some e4.1) (sub_nil _)) (List.sublist_append_right _ _) ?_
   exact rq_v (rv_load rfl (by kernel_rfl) rfl (box_cell 0 rfl rfl))
  ·
   intro vf pf hmu hR
   have e3 : (vf 3) = .int .i64 d.W ∧ (pf 3) = [] := hR 3 (by decide)
   have e5 : (vf 5) = .int .i64 d.H ∧ (pf 5) = [] := hR 5 (by decide)
   refine Or.inl ⟨rfl, ?_⟩
   show RunQ _ _ _ (([3, 5] : List Nat).flatMap pf ++ _) (envOf _ vf [3, 5] ++ _) _ _
   refine rq_less (sx 18 (congrArg some e3.1) (sx 20 (congrArg some e5.1) (sub_nil _))) (List.sublist_append_right _ _) ?_
   exact rq_v (rv_mul rfl rfl rfl (by constructor <;> omega))
  ·
   intro vf pf hmu hR
   have e1 : (vf 1) = .pointer (some ⟨ghR5, 0, none⟩) ∧ (pf 1) = [] := hR 1 (by decide)
   have e6 : (vf 6) = .int .i64 (d.W * d.H) ∧ (pf 6) = [] := hR 6 (by decide)
   refine Or.inl ⟨rfl, ?_⟩
   show RunM _ _ _ (pf 10) (([1, 6] : List Nat).flatMap pf ++ _) (envOf _ vf [1, 6] ++ _) _ _
   rw [hmu]
   refine rm_less (X' := [boxE b9 #[.int .i64 d.W, .int .i64 d.H, .int .i64 d.T, .int .i64 d.R] 25, boxE b2 #[.slice none 0 0, .slice none 0 0] 64, boxE b1 #[.int .i64 0, .int .i64 0, .int .i64 0, .int .i64 0] 25]) (sx 16 (congrArg some e1.1) (sx 21 (congrArg some e6.1) (sub_nil _))) (by first | (simp only [e1.2, e6.2, List.flatMap_cons, List.flatMap_nil, List.append_nil, List.nil_append, List.cons_append]; exact List.Sublist.refl _) | simp [e1.2, e6.2]) ?_
   exact rq_callM (R := (fun u_ p_ => (∃ x_ : Int, u_ = .int .i64 x_ ∧ 0 ≤ x_ ∧ x_ < d.W * d.H) ∧ p_ = curE ghR5 a len cap)) (by kernel_rfl) rfl (fun L w hX hm => belowN_mut ghR5 a len cap z (d.W * d.H) _ _ _ hm hb (by constructor <;> omega))
  ·
   intro vf pf hmu hR
   have e0 : (vf 0) = .agg #[.int .i64 d.W, .int .i64 d.H, .int .i64 d.T, .int .i64 d.R] ∧ (pf 0) = [] := hR 0 (by decide)
   have e7 : (∃ pm_, (pf 7) = [pm_] ∧ (fun u_ p_ => (∃ x_ : Int, u_ = .int .i64 x_ ∧ 0 ≤ x_ ∧ x_ < d.W * d.H) ∧ p_ = curE ghR5 a len cap) (vf 7) pm_) := hR 7 (by decide)
   obtain ⟨p11, p7, hR12⟩ := e7
   obtain ⟨v10, v7⟩ : ∃ x, vf 7 = x := ⟨_, rfl⟩
   rw [v7] at hR12
   obtain ⟨⟨xhR12, rfl, xhR120, xhR121⟩, rfl⟩ := hR12
   refine Or.inl ⟨rfl, ?_⟩
   show RunQ _ _ _ (([0, 7] : List Nat).flatMap pf ++ _) (envOf _ vf [0, 7] ++ _) _ _
   refine rq_less (l' := [curE ghR5 a len cap, boxE b9 #[.int .i64 d.W, .int .i64 d.H, .int .i64 d.T, .int .i64 d.R] 25, boxE b2 #[.slice none 0 0, .slice none 0 0] 64, boxE b1 #[.int .i64 0, .int .i64 0, .int .i64 0, .int .i64 0] 25]) (sx 15 (congrArg some e0.1) (sx 22 (congrArg some v7) (sub_nil _))) (by first | (simp only [p7, v7, e0.2, List.flatMap_cons, List.flatMap_nil, List.append_nil, List.nil_append, List.cons_append]; exact List.Sublist.refl _) | simp [p7, v7, e0.2]) ?_
   exact rq_mono ((rq_call (by kernel_rfl) rfl (fun w hm => ret_ans (opin_ans d xhR12 w hd (by omega) (by omega))))) (fun _ _ h => ⟨h.1.trans (by show _ = (.int .i64 (outPinI d (intOf_o (vf 7)) 0) : Value); first | (rw [v7]; done) | (rw [v7]; rfl)), h.2⟩)
 ·
  intro vf pf hmu hR
  have e7 : (∃ pm_, (pf 7) = [pm_] ∧ (fun u_ p_ => (∃ x_ : Int, u_ = .int .i64 x_ ∧ 0 ≤ x_ ∧ x_ < d.W * d.H) ∧ p_ = curE ghR5 a len cap) (vf 7) pm_) := hR 7 (by decide)
  obtain ⟨p11, p7, hR12⟩ := e7
  obtain ⟨v10, v7⟩ : ∃ x, vf 7 = x := ⟨_, rfl⟩
  rw [v7] at hR12
  obtain ⟨⟨xhR12, rfl, xhR120, xhR121⟩, rfl⟩ := hR12
  have e8 : (vf 8) = .int .i64 (outPinI d (intOf_o (vf 7)) 0) ∧ (pf 8) = [] := hR 8 (by decide)
  rw [v7] at e8
  have q0 : (vf 0) = .agg #[.int .i64 d.W, .int .i64 d.H, .int .i64 d.T, .int .i64 d.R] ∧ (pf 0) = [] := hR 0 (by decide)
  have q1 : (vf 1) = .pointer (some ⟨ghR5, 0, none⟩) ∧ (pf 1) = [] := hR 1 (by decide)
  have q2 : (vf 2) = .pointer (some ⟨b9, 0 + 0, none⟩) ∧ (pf 2) = [] := hR 2 (by decide)
  have q3 : (vf 3) = .int .i64 d.W ∧ (pf 3) = [] := hR 3 (by decide)
  have q4 : (vf 4) = .pointer (some ⟨b9, 0 + 1, none⟩) ∧ (pf 4) = [] := hR 4 (by decide)
  have q5 : (vf 5) = .int .i64 d.H ∧ (pf 5) = [] := hR 5 (by decide)
  have q6 : (vf 6) = .int .i64 (d.W * d.H) ∧ (pf 6) = [] := hR 6 (by decide)
  have q8 : (vf 8) = .int .i64 (outPinI d (intOf_o (vf 7)) 0) ∧ (pf 8) = [] := hR 8 (by decide)
  refine hl_less (l' := [curE ghR5 a len cap, boxE b9 #[.int .i64 d.W, .int .i64 d.H, .int .i64 d.T, .int .i64 d.R] 25, boxE b2 #[.slice none 0 0, .slice none 0 0] 64, boxE b1 #[.int .i64 0, .int .i64 0, .int .i64 0, .int .i64 0] 25]) (sx 0 rfl (sx 2 rfl (sx 3 rfl (sx 4 rfl (sx 5 rfl (sx 6 rfl (sx 7 rfl (sx 23 (congrArg some e8.1) (sub_nil _))))))))) (by first | (simp only [p7, v7, q0.2, q1.2, q2.2, q3.2, q4.2, q5.2, q6.2, q8.2, List.flatMap_cons, List.flatMap_nil, List.append_nil, List.nil_append, List.cons_append]; exact List.Sublist.refl _) | simp [p7, v7, q0.2, q1.2, q2.2, q3.2, q4.2, q5.2, q6.2, q8.2]) ?_
  simp only [List.drop_succ_cons, List.drop_zero]
  refine hl_v rfl rfl rfl (rv_ev rfl) ?_
  refine hl_less (sx 0 rfl (sx 2 rfl (sx 3 rfl (sx 4 rfl (sx 5 rfl (sx 6 rfl (sx 7 rfl (sx 8 rfl (sub_nil _))))))))) (.refl _) ?_
  refine hl_nil ?_
  refine hq_then ?_
  refine hc_seq ?_
  refine hc_region ?_
  obtain ⟨hs1, hs2, hs3, hs4, hs5⟩ := out0 hd (t := xhR12) (by omega) (by omega)
  refine hl_v rfl rfl rfl (rv_ev rfl) ?_
  refine hl_v rfl rfl rfl (rv_loadN (cs := [.int .i64 d.W, .int .i64 d.H, .int .i64 d.T, .int .i64 d.R]) rfl (by kernel_rfl) (by kernel_rfl) rfl rfl (box_part 1 rfl 0 rfl)) ?_
  refine hl_v rfl rfl rfl (rv_ev rfl) ?_
  refine hl_callM (R := (fun u_ p_ => ∃ (r : Rt) (sv : Value) (ks : List Int), u_ = .tuple #[r.agg, sv] ∧ p_ = bigE [curE ghR5 a len cap, rtE r, rowE 3 1 sv ks.length (ks.map (Value.int .i64))] ∧ (r.nv.oneCell' = true ∧ r.fv.oneCell' = true ∧ sv.oneCell' = true) ∧ Tree d (outPinI d xhR12 0) r.ns r.fs ks)) 0 rfl rfl (by kernel_rfl) rfl rfl (fun l' w hm => l32Walk_mut ghR5 a len cap z d (outPinI d xhR12 0) _ _ _ hm hb hd ⟨by omega, by omega⟩) ?_
  intro v13 p14 hR15
  obtain ⟨r, sv, ks, rfl, rfl, ⟨o1r, o2r, o3r⟩, htr⟩ := hR15
  refine hl_eqL (l' := [bigE [curE ghR5 a len cap, rtE r, rowE 3 1 sv ks.length (ks.map (Value.int .i64))], boxE b9 #[.int .i64 d.W, .int .i64 d.H, .int .i64 d.T, .int .i64 d.R] 25, boxE b2 #[.slice none 0 0, .slice none 0 0] 64, boxE b1 #[.int .i64 0, .int .i64 0, .int .i64 0, .int .i64 0] 25]) rfl ?_
  refine hl_v rfl rfl rfl (rv_ev rfl) ?_
  refine hl_v rfl rfl rfl (rv_ev rfl) ?_
  refine hl_v rfl rfl rfl (rv_ev rfl) ?_
  refine hl_box rfl rfl rfl (rq_alloc (z := .agg #[.slice none 0 0, .slice none 0 0]) rfl (by kernel_rfl)) ?_
  intro b16
  refine hl_storeBoxN (i := 0) (off := 0) (us := [r.nv, r.fv]) (l' := [boxE b16 #[r.nv, r.fv] 64, bigE [curE ghR5 a len cap, rtE r, rowE 3 1 sv ks.length (ks.map (Value.int .i64))], boxE b9 #[.int .i64 d.W, .int .i64 d.H, .int .i64 d.T, .int .i64 d.R] 25, boxE b2 #[.slice none 0 0, .slice none 0 0] 64, boxE b1 #[.int .i64 0, .int .i64 0, .int .i64 0, .int .i64 0] 25]) rfl rfl rfl (by kernel_rfl) rfl rfl rfl (all_cons o1r (all_cons o2r all_nil)) rfl rfl rfl ?_
  refine hl_v rfl rfl rfl (rv_ev rfl) ?_
  refine hl_less (sx 0 rfl (sx 2 rfl (sx 3 rfl (sx 4 rfl (sx 5 rfl (sx 6 rfl (sx 7 rfl (sx 8 rfl (sx 9 rfl (sx 10 rfl (sub_nil _))))))))))) (.refl _) ?_
  refine hl_nil ?_
  refine hq_then ?_
  refine hc_seq ?_
  refine hc_less _ (sx 0 rfl (sx 2 rfl (sx 5 rfl (sx 6 rfl (sx 7 rfl (sx 8 rfl (sx 9 rfl (sx 10 rfl (sub_nil _))))))))) (.refl _) ?_
  refine hc_conv [boxE b1 #[.int .i64 0, .int .i64 0, .int .i64 0, .int .i64 0] 25, boxE b16 #[r.nv, r.fv] 64, bigE [curE ghR5 a len cap, rtE r, rowE 3 1 sv ks.length (ks.map (Value.int .i64))], boxE b9 #[.int .i64 d.W, .int .i64 d.H, .int .i64 d.T, .int .i64 d.R] 25, boxE b2 #[.slice none 0 0, .slice none 0 0] 64] (conv_pick (src := [boxE b16 #[r.nv, r.fv] 64, bigE [curE ghR5 a len cap, rtE r, rowE 3 1 sv ks.length (ks.map (Value.int .i64))], boxE b9 #[.int .i64 d.W, .int .i64 d.H, .int .i64 d.T, .int .i64 d.R] 25, boxE b2 #[.slice none 0 0, .slice none 0 0] 64, boxE b1 #[.int .i64 0, .int .i64 0, .int .i64 0, .int .i64 0] 25]) (dst := [boxE b1 #[.int .i64 0, .int .i64 0, .int .i64 0, .int .i64 0] 25, boxE b16 #[r.nv, r.fv] 64, bigE [curE ghR5 a len cap, rtE r, rowE 3 1 sv ks.length (ks.map (Value.int .i64))], boxE b9 #[.int .i64 d.W, .int .i64 d.H, .int .i64 d.T, .int .i64 d.R] 25, boxE b2 #[.slice none 0 0, .slice none 0 0] 64]) (l := []) [4, 0, 1, 2, 3] (by decide) rfl) ?_
  refine hc_draw3 (l := [boxE b16 #[r.nv, r.fv] 64, bigE [curE ghR5 a len cap, rtE r, rowE 3 1 sv ks.length (ks.map (Value.int .i64))], boxE b9 #[.int .i64 d.W, .int .i64 d.H, .int .i64 d.T, .int .i64 d.R] 25, boxE b2 #[.slice none 0 0, .slice none 0 0] 64]) (by kernel_rfl) 7 [0, 1, 2, 3, 4, 5, 6] (List.take 7 _) (List.drop 7 _) [[], [], [], [], [0], [1], [2]] [some 31, some 32, some 33, some 34, none, some 3, some 4] (fun i_ vs_ v_ p_ => match i_ with | 0 => v_ = .agg #[.int .i64 d.W, .int .i64 d.H, .int .i64 d.T, .int .i64 d.R] ∧ p_ = [] | 1 => v_ = .int .i64 (outPinI d xhR12 0) ∧ p_ = [] | 2 => v_ = sv ∧ p_ = [] | 3 => v_ = .agg #[r.nv, r.fv] ∧ p_ = [] | 4 => p_ = [boxE b1 #[.int .i64 d.W, .int .i64 d.H, .int .i64 d.T, .int .i64 d.R] 25] | 5 => v_ = .int .i64 (outPinI d xhR12 0) ∧ p_ = [] | 6 => v_ = sv ∧ p_ = [] | _ => True) [[], [], [], [], [0], [1], [2]] [none, none, none, none, some 8, none, none] [[boxE b1 #[.int .i64 0, .int .i64 0, .int .i64 0, .int .i64 0] 25]] [0, 1, 2, 3, 4, 5, 6] 8 (List.take_append_drop 7 _).symm (by kernel_rfl) (by kernel_rfl) (by kernel_rfl) rfl rfl ?_ ?_
  ·
   refine ⟨?_, ?_, ?_, ?_, ?_, ?_, ?_, trivial⟩
   ·
    intro vf pf hmu hR
    refine Or.inl ⟨rfl, ?_⟩
    show RunQ _ _ _ (([] : List Nat).flatMap pf ++ _) (envOf3 _ vf [] ++ _) _ _
    refine rq_less (sx 7 rfl (sub_nil _)) (List.sublist_append_right _ _) ?_
    exact rq_v (rv_loadN (cs := [.int .i64 d.W, .int .i64 d.H, .int .i64 d.T, .int .i64 d.R]) rfl (by kernel_rfl) (by kernel_rfl) rfl rfl (box_part 2 rfl 0 rfl))
   ·
    intro vf pf hmu hR
    refine Or.inl ⟨rfl, ?_⟩
    show RunQ _ _ _ (([] : List Nat).flatMap pf ++ _) (envOf3 _ vf [] ++ _) _ _
    refine rq_less (sx 8 rfl (sub_nil _)) (List.sublist_append_right _ _) ?_
    exact rq_v (rv_ev rfl)
   ·
    intro vf pf hmu hR
    refine Or.inl ⟨rfl, ?_⟩
    show RunQ _ _ _ (([] : List Nat).flatMap pf ++ _) (envOf3 _ vf [] ++ _) _ _
    refine rq_less (sx 10 rfl (sub_nil _)) (List.sublist_append_right _ _) ?_
    exact rq_v (rv_ev rfl)
   ·
    intro vf pf hmu hR
    refine Or.inl ⟨rfl, ?_⟩
    show RunQ _ _ _ (([] : List Nat).flatMap pf ++ _) (envOf3 _ vf [] ++ _) _ _
    refine rq_less (sx 9 rfl (sub_nil _)) (List.sublist_append_right _ _) ?_
    exact rq_v (rv_loadN (cs := [r.nv, r.fv]) rfl (by kernel_rfl) (by kernel_rfl) rfl rfl (box_part 0 rfl 0 rfl))
   ·
    intro vf pf hmu hR
    have e0 : (vf 0) = .agg #[.int .i64 d.W, .int .i64 d.H, .int .i64 d.T, .int .i64 d.R] ∧ (pf 0) = [] := hR 0 (by decide)
    refine Or.inl ⟨rfl, ?_⟩
    show RunM _ _ _ (pf 8) (([0] : List Nat).flatMap pf ++ _) (envOf3 _ vf [0] ++ _) _ _
    have hmu0 : pf 8 = [boxE b1 #[.int .i64 0, .int .i64 0, .int .i64 0, .int .i64 0] 25] := hmu 0 (show 0 < 1 by omega)
    rw [hmu0]
    refine rm_less (X' := [boxE b16 #[r.nv, r.fv] 64, bigE [curE ghR5 a len cap, rtE r, rowE 3 1 sv ks.length (ks.map (Value.int .i64))], boxE b9 #[.int .i64 d.W, .int .i64 d.H, .int .i64 d.T, .int .i64 d.R] 25, boxE b2 #[.slice none 0 0, .slice none 0 0] 64]) (sx 2 rfl (sx 31 (congrArg some e0.1) (sub_nil _))) (by first | (simp only [e0.2, List.flatMap_cons, List.flatMap_nil, List.append_nil, List.nil_append, List.cons_append]; exact List.Sublist.refl _) | simp [e0.2]) ?_
    exact rm_mono (rm_storeBoxN (us := [.int .i64 d.W, .int .i64 d.H, .int .i64 d.T, .int .i64 d.R]) (off := 0) 0 rfl rfl (by kernel_rfl) rfl rfl rfl (all_cons rfl (all_cons rfl (all_cons rfl (all_cons rfl all_nil)))) rfl rfl) (fun v_ p_ h => by show p_ = [boxE b1 #[.int .i64 d.W, .int .i64 d.H, .int .i64 d.T, .int .i64 d.R] 25]; exact h)
   ·
    intro vf pf hmu hR
    have e1 : (vf 1) = .int .i64 (outPinI d xhR12 0) ∧ (pf 1) = [] := hR 1 (by decide)
    refine Or.inl ⟨rfl, ?_⟩
    show RunQ _ _ _ (([1] : List Nat).flatMap pf ++ _) (envOf3 _ vf [1] ++ _) _ _
    refine rq_less (sx 32 (congrArg some e1.1) (sub_nil _)) (List.sublist_append_right _ _) ?_
    exact rq_v (rv_ev rfl)
   ·
    intro vf pf hmu hR
    have e2 : (vf 2) = sv ∧ (pf 2) = [] := hR 2 (by decide)
    refine Or.inl ⟨rfl, ?_⟩
    show RunQ _ _ _ (([2] : List Nat).flatMap pf ++ _) (envOf3 _ vf [2] ++ _) _ _
    refine rq_less (sx 33 (congrArg some e2.1) (sub_nil _)) (List.sublist_append_right _ _) ?_
    exact rq_v (rv_ev rfl)
  ·
   intro vf pf hmu hR
   have e3 : (vf 3) = .agg #[r.nv, r.fv] ∧ (pf 3) = [] := hR 3 (by decide)
   have e4 : (pf 4) = [boxE b1 #[.int .i64 d.W, .int .i64 d.H, .int .i64 d.T, .int .i64 d.R] 25] := hR 4 (by decide)
   have p4 := e4
   have e5 : (vf 5) = .int .i64 (outPinI d xhR12 0) ∧ (pf 5) = [] := hR 5 (by decide)
   have e6 : (vf 6) = sv ∧ (pf 6) = [] := hR 6 (by decide)
   have q0 : (vf 0) = .agg #[.int .i64 d.W, .int .i64 d.H, .int .i64 d.T, .int .i64 d.R] ∧ (pf 0) = [] := hR 0 (by decide)
   have q1 : (vf 1) = .int .i64 (outPinI d xhR12 0) ∧ (pf 1) = [] := hR 1 (by decide)
   have q2 : (vf 2) = sv ∧ (pf 2) = [] := hR 2 (by decide)
   have q3 : (vf 3) = .agg #[r.nv, r.fv] ∧ (pf 3) = [] := hR 3 (by decide)
   have q5 : (vf 5) = .int .i64 (outPinI d xhR12 0) ∧ (pf 5) = [] := hR 5 (by decide)
   have q6 : (vf 6) = sv ∧ (pf 6) = [] := hR 6 (by decide)
   refine hl_less (l' := [boxE b1 #[.int .i64 d.W, .int .i64 d.H, .int .i64 d.T, .int .i64 d.R] 25, boxE b16 #[r.nv, r.fv] 64, bigE [curE ghR5 a len cap, rtE r, rowE 3 1 sv ks.length (ks.map (Value.int .i64))], boxE b9 #[.int .i64 d.W, .int .i64 d.H, .int .i64 d.T, .int .i64 d.R] 25, boxE b2 #[.slice none 0 0, .slice none 0 0] 64]) (sx 0 rfl (sx 2 rfl (sx 3 (congrArg some e5.1) (sx 4 (congrArg some e6.1) (sx 5 rfl (sx 6 rfl (sx 7 rfl (sx 8 rfl (sx 9 rfl (sx 10 rfl (sx 34 (congrArg some e3.1) (sub_nil _)))))))))))) (by first | (simp only [p4, q0.2, q1.2, q2.2, q3.2, q5.2, q6.2, List.flatMap_cons, List.flatMap_nil, List.append_nil, List.nil_append, List.cons_append]; exact List.Sublist.refl _) | simp [p4, q0.2, q1.2, q2.2, q3.2, q5.2, q6.2]) ?_
   simp only [List.drop_succ_cons, List.drop_zero]
   refine hl_storeBoxN (i := 4) (off := 0) (us := [r.nv, r.fv]) (l' := [boxE b1 #[.int .i64 d.W, .int .i64 d.H, .int .i64 d.T, .int .i64 d.R] 25, boxE b16 #[r.nv, r.fv] 64, bigE [curE ghR5 a len cap, rtE r, rowE 3 1 sv ks.length (ks.map (Value.int .i64))], boxE b9 #[.int .i64 d.W, .int .i64 d.H, .int .i64 d.T, .int .i64 d.R] 25, boxE b2 #[r.nv, r.fv] 64]) rfl rfl rfl (by kernel_rfl) rfl rfl rfl (all_cons o1r (all_cons o2r all_nil)) rfl rfl rfl ?_
   refine hl_less (sx 0 rfl (sx 2 rfl (sx 3 rfl (sx 4 rfl (sx 5 rfl (sx 6 rfl (sx 7 rfl (sx 8 rfl (sx 9 rfl (sx 10 rfl (sub_nil _))))))))))) (.refl _) ?_
   refine hl_nil ?_
   refine hq_then ?_
   refine hc_ret ?_
   refine hq_conv [bigE [curE ghR5 a len cap, rtE r, rowE 3 1 sv ks.length (ks.map (Value.int .i64))], boxE b1 #[.int .i64 d.W, .int .i64 d.H, .int .i64 d.T, .int .i64 d.R] 25, boxE b16 #[r.nv, r.fv] 64, boxE b9 #[.int .i64 d.W, .int .i64 d.H, .int .i64 d.T, .int .i64 d.R] 25, boxE b2 #[r.nv, r.fv] 64] (conv_pick (src := [boxE b1 #[.int .i64 d.W, .int .i64 d.H, .int .i64 d.T, .int .i64 d.R] 25, boxE b16 #[r.nv, r.fv] 64, bigE [curE ghR5 a len cap, rtE r, rowE 3 1 sv ks.length (ks.map (Value.int .i64))], boxE b9 #[.int .i64 d.W, .int .i64 d.H, .int .i64 d.T, .int .i64 d.R] 25, boxE b2 #[r.nv, r.fv] 64]) (dst := [bigE [curE ghR5 a len cap, rtE r, rowE 3 1 sv ks.length (ks.map (Value.int .i64))], boxE b1 #[.int .i64 d.W, .int .i64 d.H, .int .i64 d.T, .int .i64 d.R] 25, boxE b16 #[r.nv, r.fv] 64, boxE b9 #[.int .i64 d.W, .int .i64 d.H, .int .i64 d.T, .int .i64 d.R] 25, boxE b2 #[r.nv, r.fv] 64]) (l := []) [2, 0, 1, 3, 4] (by decide) rfl) ?_
   refine hq_conv [curE ghR5 a len cap, rtE r, rowE 3 1 sv ks.length (ks.map (Value.int .i64)), boxE b1 #[.int .i64 d.W, .int .i64 d.H, .int .i64 d.T, .int .i64 d.R] 25, boxE b16 #[r.nv, r.fv] 64, boxE b9 #[.int .i64 d.W, .int .i64 d.H, .int .i64 d.T, .int .i64 d.R] 25, boxE b2 #[r.nv, r.fv] 64] conv_unbig ?_
   exact hq_retM (rs := [.cell 2 25, .tmp 3, .tmp 4, .cell 5 64]) (vs := [.agg #[.int .i64 d.W, .int .i64 d.H, .int .i64 d.T, .int .i64 d.R], .int .i64 (outPinI d xhR12 0), sv, .agg #[r.nv, r.fv]]) (post := [rtE r, rowE 3 1 sv ks.length (ks.map (Value.int .i64))]) rfl ⟨⟨b1, 0, [.int .i64 d.W, .int .i64 d.H, .int .i64 d.T, .int .i64 d.R], rfl, rfl, by kernel_rfl, by kernel_rfl, box_part 3 rfl 0 rfl⟩, rfl, rfl, ⟨b2, 0, [r.nv, r.fv], rfl, rfl, by kernel_rfl, by kernel_rfl, box_part 6 rfl 0 rfl⟩, trivial⟩ rfl ((.cons _ (.cons_cons _ (.cons_cons _ (.cons _ (.cons _ (.cons _ (.cons _ .slnil)))))))) ⟨d, outPinI d xhR12 0, r, sv, ks, hdr, ⟨_, ⟨by omega, by omega⟩, rfl⟩, rfl, rfl, ⟨o1r, o2r, o3r⟩, htr⟩
theorem rdsrt_nil (w : World) : RdsRt w (.slice none 0 0) [] := ⟨rd_nil (w0 := w) (l := []) w (Mem.refl w), fun r hr => absurd hr (by simp), fun r hr => absurd hr (by simp)⟩
theorem ns_all {N : Nat} {r : Rt} (h : NsOk N r.ns) (rs : List Rt) (h3 : ∀ x ∈ rs, x = r) : ∀ k, k < rs.length → NsOk N (rs.getD k rt0).ns := fun k hk => by rw [h3 _ (getD_mem' hk)]; exact h
set_option maxHeartbeats 4000000 in
set_option maxRecDepth 100000 in
theorem btoi_t  (w : World)  :
  Calls Try.prog 58 #[.bool true] w (Ans w (.int .i64 1)) := by
 refine calls_hc (N := 4) (args := [.bool true]) Try.func58 rfl rfl ?_
 refine hc_less _ (sx 0 rfl (sub_nil _)) (.refl _) ?_
 refine hc_seq ?_
 refine hc_region ?_
 refine hl_v rfl rfl rfl (rv_ev rfl) ?_
 refine hl_less (sx 0 rfl (sx 2 rfl (sub_nil _))) (.refl _) ?_
 refine hl_nil ?_
 refine hq_then ?_
 refine hc_seq ?_
 refine hc_seq ?_
 refine hc_region ?_
 refine hl_v rfl rfl rfl (rv_ev rfl) ?_
 refine hl_less (sx 0 rfl (sx 2 rfl (sx 3 rfl (sub_nil _)))) (.refl _) ?_
 refine hl_nil ?_
 refine hq_then ?_
 refine hc_true rfl ?_
 refine hc_seq ?_
 refine hc_region ?_
 refine hl_v rfl rfl rfl (rv_ev rfl) ?_
 refine hl_less (sx 0 rfl (sx 2 rfl (sx 3 rfl (sub_nil _)))) (.refl _) ?_
 refine hl_nil ?_
 refine hq_then ?_
 refine hc_ret ?_
 refine hq_then_ret ?_
 exact hq_ans rfl rfl rfl
set_option maxHeartbeats 4000000 in
set_option maxRecDepth 100000 in
theorem btoi_f  (w : World)  :
  Calls Try.prog 58 #[.bool false] w (Ans w (.int .i64 0)) := by
 refine calls_hc (N := 4) (args := [.bool false]) Try.func58 rfl rfl ?_
 refine hc_less _ (sx 0 rfl (sub_nil _)) (.refl _) ?_
 refine hc_seq ?_
 refine hc_region ?_
 refine hl_v rfl rfl rfl (rv_ev rfl) ?_
 refine hl_less (sx 0 rfl (sx 2 rfl (sub_nil _))) (.refl _) ?_
 refine hl_nil ?_
 refine hq_then ?_
 refine hc_seq ?_
 refine hc_seq ?_
 refine hc_region ?_
 refine hl_v rfl rfl rfl (rv_ev rfl) ?_
 refine hl_less (sx 0 rfl (sx 2 rfl (sx 3 rfl (sub_nil _)))) (.refl _) ?_
 refine hl_nil ?_
 refine hq_then ?_
 refine hc_false rfl ?_
 refine hc_skip ?_
 refine hq_then ?_
 refine hc_seq ?_
 refine hc_region ?_
 refine hl_v rfl rfl rfl (rv_ev rfl) ?_
 refine hl_less (sx 0 rfl (sx 2 rfl (sx 3 rfl (sub_nil _)))) (.refl _) ?_
 refine hl_nil ?_
 refine hq_then ?_
 refine hc_ret ?_
 exact hq_ans rfl rfl rfl
set_option maxHeartbeats 4000000 in
set_option maxRecDepth 100000 in
theorem walk_FnSharedPrice (a0 : Option Addr) (len0 cap0 : Nat) (z0 : List Int) (w : World) (hbr : BRow .u8 w a0 len0 cap0 z0) :
  Calls Try.prog 11 #[.slice a0 len0 cap0] w (Ans w (.bool true)) := by
 have hcd0 := cod_le hbr 0
 refine calls_hc (N := 102) (args := [.slice a0 len0 cap0]) Try.func11 rfl rfl ?_
 refine hc_less _ (sx 0 rfl (sub_nil _)) (.refl _) ?_
 refine hc_seq ?_
 refine hc_region ?_
 refine hl_v rfl rfl rfl (rv_ev rfl) ?_
 refine hl_less (sx 0 rfl (sx 2 rfl (sub_nil _))) (.refl _) ?_
 refine hl_nil ?_
 refine hq_then ?_
 refine hc_seq ?_
 refine hc_seq ?_
 refine hc_region ?_
 refine hl_v rfl rfl rfl (rv_ev rfl) ?_
 refine hl_callV rfl rfl rfl (rq_call (by kernel_rfl) rfl (fun w hm => ret_ans (ans_of (big_any a0 len0 cap0 w (hbr.len_le))))) ?_
 refine hl_bool (fun h1 => ?_) (fun h1 => ?_)
 ·
  have h1p := of_decide_eq_true h1
  refine hl_less (sx 0 rfl (sx 2 rfl (sx 13 rfl (sub_nil _)))) (.refl _) ?_
  refine hl_nil ?_
  refine hq_then ?_
  refine hc_true rfl ?_
  refine hc_seq ?_
  refine hc_region ?_
  refine hl_v rfl rfl rfl (rv_ev rfl) ?_
  refine hl_less (sx 0 rfl (sx 2 rfl (sx 13 rfl (sub_nil _)))) (.refl _) ?_
  refine hl_nil ?_
  refine hq_then ?_
  refine hc_ret ?_
  refine hq_then_ret ?_
  exact hq_ans rfl rfl rfl
 ·
  have h1p := of_decide_eq_false h1
  refine hl_less (sx 0 rfl (sx 2 rfl (sx 13 rfl (sub_nil _)))) (.refl _) ?_
  refine hl_nil ?_
  refine hq_then ?_
  refine hc_false rfl ?_
  refine hc_skip ?_
  refine hq_then ?_
  refine hc_seq ?_
  refine hc_region ?_
  refine hl_v rfl rfl rfl (rv_ev rfl) ?_
  refine hl_q rfl rfl rfl (rq_call (by kernel_rfl) rfl (fun w hm => DrawWalk_ret _ _ _ z0 w (hbr.below hm.bel) (by omega))) ?_
  intro v2 p3 hR4
  obtain ⟨d, s0, r, sv, ks, hdr, ⟨t, ⟨ht0, ht1⟩, hst⟩, rfl, rfl, ⟨o1r, o2r, o3r⟩, htr⟩ := hR4
  have hd := hdr.ok
  obtain ⟨dr1, dr2, dr3, dr4, dr5, dr6, -⟩ := id hdr
  have har : 0 ≤ (d.W - 1) * (d.H - 1) ∧ 0 ≤ (5 - d.W) * d.H := ⟨Int.mul_nonneg (by omega) (by omega), Int.mul_nonneg (by omega) (by omega)⟩
  have e1 : (d.W - 1) * (d.H - 1) = d.W * d.H - d.W - d.H + 1 := by rw [Int.sub_mul, Int.mul_sub]; omega
  have e2 : (5 - d.W) * d.H = 5 * d.H - d.W * d.H := by rw [Int.sub_mul]
  rw [e1, e2] at har
  obtain ⟨ra1, ra2⟩ := all_rng hd
  obtain ⟨q1, q2⟩ := per_rng hd
  obtain ⟨hs1, hs2, hs3, hs4, hs5⟩ := out0 hd ht0 ht1
  rw [← hst] at hs1 hs2 hs3 hs4 hs5
  have ht1 := htr.len
  have ht2 := htr.l0
  have ht3 := htr.l1
  have hns := htr.nsok (by omega)
  have hk7 : ks.length ≤ 7 := by rw [htr.sinks]; have := List.length_filter_le (fun x => decide (x % perI d < 5)) (r.ns.drop 1); rw [List.length_drop] at this; omega
  refine hl_v rfl rfl rfl (rv_ev rfl) ?_
  refine hl_v rfl rfl rfl (rv_ev rfl) ?_
  refine hl_v rfl rfl rfl (rv_ev rfl) ?_
  refine hl_v rfl rfl rfl (rv_ev rfl) ?_
  refine hl_v rfl rfl rfl (rv_ev rfl) ?_
  refine hl_box rfl rfl rfl (rq_alloc (z := .agg #[.int .i64 0, .int .i64 0, .int .i64 0, .int .i64 0]) rfl (by kernel_rfl)) ?_
  intro b5
  refine hl_box rfl rfl rfl (rq_alloc (z := .agg #[.slice none 0 0, .slice none 0 0]) rfl (by kernel_rfl)) ?_
  intro b6
  refine hl_storeBoxN (i := 1) (off := 0) (us := [.int .i64 d.W, .int .i64 d.H, .int .i64 d.T, .int .i64 d.R]) (l' := [boxE b6 #[.slice none 0 0, .slice none 0 0] 64, boxE b5 #[.int .i64 d.W, .int .i64 d.H, .int .i64 d.T, .int .i64 d.R] 25, rtE r, rowE 3 1 sv ks.length (ks.map (Value.int .i64))]) rfl rfl rfl (by kernel_rfl) rfl rfl rfl (all_cons rfl (all_cons rfl (all_cons rfl (all_cons rfl all_nil)))) rfl rfl rfl ?_
  refine hl_v rfl rfl rfl (rv_ev rfl) ?_
  refine hl_v rfl rfl rfl (rv_ev rfl) ?_
  refine hl_storeBoxN (i := 0) (off := 0) (us := [r.nv, r.fv]) (l' := [boxE b6 #[r.nv, r.fv] 64, boxE b5 #[.int .i64 d.W, .int .i64 d.H, .int .i64 d.T, .int .i64 d.R] 25, rtE r, rowE 3 1 sv ks.length (ks.map (Value.int .i64))]) rfl rfl rfl (by kernel_rfl) rfl rfl rfl (all_cons o1r (all_cons o2r all_nil)) rfl rfl rfl ?_
  refine hl_less (sx 0 rfl (sx 2 rfl (sx 3 rfl (sx 4 rfl (sx 6 rfl (sx 13 rfl (sub_nil _))))))) (.refl _) ?_
  refine hl_nil ?_
  refine hq_then ?_
  refine hc_seq ?_
  refine hc_region ?_
  refine hl_v rfl rfl rfl (rv_loadN (cs := [.int .i64 d.W, .int .i64 d.H, .int .i64 d.T, .int .i64 d.R]) rfl (by kernel_rfl) (by kernel_rfl) rfl rfl (box_part 1 rfl 0 rfl)) ?_
  refine hl_callV rfl rfl rfl (rq_call (by kernel_rfl) rfl (fun w hm => ret_ans (specRouteNodes_yes d hd w))) ?_
  refine hl_row rfl rfl rfl (rq_make (z := .int .i64 0) (s := 1) (bytes := 8) (n := (List.replicate (allI d).toNat (0 : Int)).length) (cs := ((List.replicate (allI d).toNat (0 : Int)).map (Value.int .i64))) rfl Try.underlying30 (by kernel_rfl) (by decide) rfl rfl (by first | (rw [List.length_replicate]; done) | (rw [List.length_replicate]; omega)) (by first | (rw [List.length_replicate]; done) | (rw [List.length_replicate]; omega)) (by rw [List.length_replicate]; omega) (ints_make _)) ?_
  intro g7
  refine hl_v rfl rfl rfl (rv_ev rfl) ?_
  refine hl_less (sx 0 rfl (sx 2 rfl (sx 3 rfl (sx 4 rfl (sx 6 rfl (sx 7 rfl (sx 13 rfl (sub_nil _)))))))) (.refl _) ?_
  refine hl_nil ?_
  refine hq_then ?_
  refine hc_seq ?_
  refine hc_region ?_
  refine hl_v rfl rfl rfl (rv_ev rfl) ?_
  refine hl_callV rfl rfl rfl (rq_call (by kernel_rfl) rfl (fun w hm => ret_ans (at_ans hbr 0 (by omega) w hm))) ?_
  refine hl_v rfl rfl rfl (rv_ev rfl) ?_
  refine hl_less (sx 0 rfl (sx 2 rfl (sx 3 rfl (sx 4 rfl (sx 6 rfl (sx 7 rfl (sx 8 rfl (sx 13 rfl (sub_nil _))))))))) (.refl _) ?_
  refine hl_nil ?_
  refine hq_then ?_
  refine hc_seq ?_
  refine hc_region ?_
  refine hl_v rfl rfl rfl (rv_loadN (cs := [.int .i64 d.W, .int .i64 d.H, .int .i64 d.T, .int .i64 d.R]) rfl (by kernel_rfl) (by kernel_rfl) rfl rfl (box_part 2 rfl 0 rfl)) ?_
  refine hl_v rfl rfl rfl (rv_ev rfl) ?_
  refine hl_v rfl rfl rfl (rv_ev rfl) ?_
  refine hl_q rfl rfl rfl (rq_call (by kernel_rfl) rfl (fun w hm => SharedCosts_ret d (List.replicate (allI d).toNat (0 : Int)) _ [] _ (cod z0 len0 0 : Int) w hd ((rd_row 0 rfl) w hm) (by rw [List.length_replicate]; omega) (fun i hi => by rw [List.length_replicate] at hi; rw [List.getD_eq_getElem?_getD, List.getElem?_replicate, if_pos (by omega)]; exact ⟨by decide, by decide⟩) (rdsrt_nil w) (by simp) (fun k hk => absurd hk (by simp)) (by omega))) ?_
  intro v8 p9 hR10
  subst hR10
  refine hl_v rfl rfl rfl (rv_ev rfl) ?_
  refine hl_less (sx 0 rfl (sx 2 rfl (sx 3 rfl (sx 4 rfl (sx 6 rfl (sx 7 rfl (sx 8 rfl (sx 9 rfl (sx 13 rfl (sub_nil _)))))))))) (.refl _) ?_
  refine hl_nil ?_
  refine hq_then ?_
  refine hc_seq ?_
  refine hc_region ?_
  refine hl_v rfl rfl rfl (rv_loadN (cs := [.int .i64 d.W, .int .i64 d.H, .int .i64 d.T, .int .i64 d.R]) rfl (by kernel_rfl) (by kernel_rfl) rfl rfl (box_part 3 rfl 0 rfl)) ?_
  refine hl_v rfl rfl rfl (rv_ev rfl) ?_
  refine hl_v rfl rfl rfl (rv_loadN (cs := [r.nv, r.fv]) rfl (by kernel_rfl) (by kernel_rfl) rfl rfl (box_part 2 rfl 0 rfl)) ?_
  refine hl_row rfl rfl rfl (rq_buildSlice (z := .agg #[.slice none 0 0, .slice none 0 0]) (s := 2) (cs := [r.nv, r.fv]) rfl Try.underlying68 (by kernel_rfl) (by decide) rfl (by kernel_rfl) rfl) ?_
  intro g11
  refine hl_v rfl rfl rfl (rv_ev rfl) ?_
  refine hl_q rfl rfl rfl (rq_call (by kernel_rfl) rfl (fun w hm => SharedCosts_ret d (List.replicate (allI d).toNat (0 : Int)) _ [r] _ (cod z0 len0 0 : Int) w hd ((rd_row 2 rfl) w hm) (by rw [List.length_replicate]; omega) (fun i hi => by rw [List.length_replicate] at hi; rw [List.getD_eq_getElem?_getD, List.getElem?_replicate, if_pos (by omega)]; exact ⟨by decide, by decide⟩) (rdsrt_of (r := r) (rs := [r]) (rd_row 0 rfl w hm) (rt_rds 5 rfl w hm) (by simp)) (by simp) (ns_all hns [r] (by simp)) (by omega))) ?_
  intro v12 p13 hR14
  subst hR14
  refine hl_v rfl rfl rfl (rv_ev rfl) ?_
  refine hl_less (sx 0 rfl (sx 2 rfl (sx 3 rfl (sx 4 rfl (sx 6 rfl (sx 7 rfl (sx 8 rfl (sx 9 rfl (sx 10 rfl (sx 13 rfl (sub_nil _))))))))))) (.refl _) ?_
  refine hl_nil ?_
  refine hq_then ?_
  refine hc_seq ?_
  refine hc_seq ?_
  refine hc_region ?_
  have hHl : (List.replicate (allI d).toNat (0 : Int)).length = (allI d).toNat := List.length_replicate
  have hAl : (shL (List.replicate (allI d).toNat (0 : Int)) (useL (allI d).toNat []) (cod z0 len0 0 : Int) (List.replicate (allI d).toNat (0 : Int)).length).length = (List.replicate (allI d).toNat (0 : Int)).length := sh_len _ _ _ _
  have hBl : (shL (List.replicate (allI d).toNat (0 : Int)) (useL (allI d).toNat [r]) (cod z0 len0 0 : Int) (List.replicate (allI d).toNat (0 : Int)).length).length = (List.replicate (allI d).toNat (0 : Int)).length := sh_len _ _ _ _
  refine hl_v rfl rfl rfl (rv_ev rfl) ?_
  refine hl_v rfl rfl rfl (rv_len rfl Try.underlying30 rfl (rd_row 2 rfl)) ?_
  refine hl_v rfl rfl rfl (rv_ev rfl) ?_
  refine hl_v rfl rfl rfl (rv_len rfl Try.underlying30 rfl (rd_row 3 rfl)) ?_
  refine hl_neq rfl rfl rfl rfl rfl rfl (fun h15 => absurd h15 (by omega)) (fun h15 => ?_)
  refine hl_v rfl rfl rfl (rv_ev rfl) ?_
  refine hl_v rfl rfl rfl (rv_ev rfl) ?_
  refine hl_v rfl rfl rfl (rv_len rfl Try.underlying30 rfl (rd_row 0 rfl)) ?_
  refine hl_v rfl rfl rfl (rv_ev rfl) ?_
  refine hl_v rfl rfl rfl (rv_len rfl Try.underlying30 rfl (rd_row 3 rfl)) ?_
  refine hl_neq rfl rfl rfl rfl rfl rfl (fun h16 => absurd h16 (by omega)) (fun h16 => ?_)
  refine hl_v rfl rfl rfl (rv_ev rfl) ?_
  refine hl_less (sx 0 rfl (sx 2 rfl (sx 3 rfl (sx 4 rfl (sx 6 rfl (sx 7 rfl (sx 8 rfl (sx 9 rfl (sx 10 rfl (sx 13 rfl (sx 47 rfl (sub_nil _)))))))))))) (.refl _) ?_
  refine hl_nil ?_
  refine hq_then ?_
  refine hc_false rfl ?_
  refine hc_skip ?_
  refine hq_then ?_
  refine hc_seq ?_
  refine hc_seq ?_
  refine hc_region ?_
  refine hl_v rfl rfl rfl (rv_ev rfl) ?_
  refine hl_less (sx 0 rfl (sx 2 rfl (sx 3 rfl (sx 4 rfl (sx 6 rfl (sx 7 rfl (sx 8 rfl (sx 9 rfl (sx 10 rfl (sx 11 rfl (sx 13 rfl (sx 47 rfl (sub_nil _))))))))))))) (.refl _) ?_
  refine hl_nil ?_
  refine hq_then ?_
  refine hc_block ?_
  refine hc_loop1 (α := Nat) (fun k => [rowE 3 1 v12 ((shL (List.replicate (allI d).toNat (0 : Int)) (useL (allI d).toNat [r]) (cod z0 len0 0 : Int) (List.replicate (allI d).toNat (0 : Int)).length).length) ((shL (List.replicate (allI d).toNat (0 : Int)) (useL (allI d).toNat [r]) (cod z0 len0 0 : Int) (List.replicate (allI d).toNat (0 : Int)).length).map (Value.int .i64)), rowE 64 2 (.slice (some ⟨g11, 0, none⟩) 1 1) 1 ([r.nv, r.fv]), rowE 3 1 v8 ((shL (List.replicate (allI d).toNat (0 : Int)) (useL (allI d).toNat []) (cod z0 len0 0 : Int) (List.replicate (allI d).toNat (0 : Int)).length).length) ((shL (List.replicate (allI d).toNat (0 : Int)) (useL (allI d).toNat []) (cod z0 len0 0 : Int) (List.replicate (allI d).toNat (0 : Int)).length).map (Value.int .i64)), rowE 3 1 (.slice (some ⟨g7, 0, none⟩) ((List.replicate (allI d).toNat (0 : Int)).length) ((List.replicate (allI d).toNat (0 : Int)).length)) ((List.replicate (allI d).toNat (0 : Int)).length) ((List.replicate (allI d).toNat (0 : Int)).map (Value.int .i64)), boxE b6 #[r.nv, r.fv] 64, boxE b5 #[.int .i64 d.W, .int .i64 d.H, .int .i64 d.T, .int .i64 d.R] 25, rtE r, rowE 3 1 sv ks.length (ks.map (Value.int .i64))]) (fun k => [(0, .slice a0 len0 cap0), (2, .bool false), (3, .pointer (some ⟨b5, 0, none⟩)), (4, .int .i64 s0), (6, .pointer (some ⟨b6, 0, none⟩)), (7, .slice (some ⟨g7, 0, none⟩) ((List.replicate (allI d).toNat (0 : Int)).length) ((List.replicate (allI d).toNat (0 : Int)).length)), (8, .int .i64 (cod z0 len0 0 : Int)), (9, v8), (10, v12), (11, .int .i64 (k : Int)), (13, .bool false), (47, .bool false)]) (fun k => k ≤ (allI d).toNat) (fun k => (allI d).toNat - k) 0 (by omega) (sx 0 rfl (sx 2 rfl (sx 3 rfl (sx 4 rfl (sx 6 rfl (sx 7 rfl (sx 8 rfl (sx 9 rfl (sx 10 rfl (sx 11 rfl (sx 13 rfl (sx 47 rfl (sub_nil _))))))))))))) ((.cons_cons _ (.cons_cons _ (.cons_cons _ (.cons_cons _ (.cons_cons _ (.cons_cons _ (.cons_cons _ (.cons_cons _ .slnil))))))))) ?_
  intro k hi17
  have hk0 := hi17
  refine hc_seq ?_
  refine hc_seq ?_
  refine hc_region ?_
  refine hl_v rfl rfl rfl (rv_ev rfl) ?_
  refine hl_v rfl rfl rfl (rv_ev rfl) ?_
  refine hl_v rfl rfl rfl (rv_len rfl Try.underlying30 rfl (rd_row 2 rfl)) ?_
  refine hl_lss rfl rfl rfl rfl rfl rfl (fun h18 => ?_) (fun h18 => ?_)
  ·
   refine hl_less (sx 0 rfl (sx 2 rfl (sx 3 rfl (sx 4 rfl (sx 6 rfl (sx 7 rfl (sx 8 rfl (sx 9 rfl (sx 10 rfl (sx 11 rfl (sx 13 rfl (sx 47 rfl (sx 51 rfl (sub_nil _)))))))))))))) (.refl _) ?_
   refine hl_nil ?_
   refine hq_then ?_
   refine hc_true rfl ?_
   refine hc_skip ?_
   refine hq_then ?_
   refine hc_seq ?_
   refine hc_block ?_
   refine hc_seq ?_
   have e1 : (shL (List.replicate (allI d).toNat (0 : Int)) (useL (allI d).toNat []) (cod z0 len0 0 : Int) (List.replicate (allI d).toNat (0 : Int)).length).getD k 0 = 10 := by rw [sh_at _ _ _ (by omega), use_at _ (by omega), List.getD_eq_getElem?_getD, List.getElem?_replicate, if_pos (by omega)]; show shI 0 (cntI [] k) _ = 10; unfold shI; rw [show cntI [] k = 0 from rfl]; simp
   have e2 : (shL (List.replicate (allI d).toNat (0 : Int)) (useL (allI d).toNat [r]) (cod z0 len0 0 : Int) (List.replicate (allI d).toNat (0 : Int)).length).getD k 0 = if hasB r.ns (k : Int) = true then 10 + (cod z0 len0 0 : Int) else 10 := by rw [sh_at _ _ _ (by omega), use_at _ (by omega), List.getD_eq_getElem?_getD, List.getElem?_replicate, if_pos (by omega), cnt_one]; show shI 0 _ _ = _; unfold shI; split <;> (rw [if_pos (by omega)]; omega)
   rcases Bool.eq_false_or_eq_true (hasB r.ns (k : Int)) with hb19 | hb19
   ·
    rw [if_pos (hb19 : _ = _)] at e2
    have e1 : (shL (List.replicate (allI d).toNat (0 : Int)) (useL (allI d).toNat []) (cod z0 len0 0 : Int) (List.replicate (allI d).toNat (0 : Int)).length).getD k 0 = 10 := by rw [sh_at _ _ _ (by omega), use_at _ (by omega), List.getD_eq_getElem?_getD, List.getElem?_replicate, if_pos (by omega)]; show shI 0 (cntI [] k) _ = 10; unfold shI; rw [show cntI [] k = 0 from rfl]; simp
    have e2 : (shL (List.replicate (allI d).toNat (0 : Int)) (useL (allI d).toNat [r]) (cod z0 len0 0 : Int) (List.replicate (allI d).toNat (0 : Int)).length).getD k 0 = if hasB r.ns (k : Int) = true then 10 + (cod z0 len0 0 : Int) else 10 := by rw [sh_at _ _ _ (by omega), use_at _ (by omega), List.getD_eq_getElem?_getD, List.getElem?_replicate, if_pos (by omega), cnt_one]; show shI 0 _ _ = _; unfold shI; split <;> (rw [if_pos (by omega)]; omega)
    have hb20 : ((((shL (List.replicate (allI d).toNat (0 : Int)) (useL (allI d).toNat [r]) (cod z0 len0 0 : Int) (List.replicate (allI d).toNat (0 : Int)).length).getD k 0) - ((shL (List.replicate (allI d).toNat (0 : Int)) (useL (allI d).toNat []) (cod z0 len0 0 : Int) (List.replicate (allI d).toNat (0 : Int)).length).getD k 0)) != ((cod z0 len0 0 : Int) * 1)) = false := Bool.eq_false_iff.2 (fun h => bne_iff_ne.1 h (by omega))
    have hb21 : (((shL (List.replicate (allI d).toNat (0 : Int)) (useL (allI d).toNat []) (cod z0 len0 0 : Int) (List.replicate (allI d).toNat (0 : Int)).length).getD k 0) != 10) = false := Bool.eq_false_iff.2 (fun h => bne_iff_ne.1 h (by omega))
    refine hc_draw (by kernel_rfl) 24 [0, 1, 2, 3, 4, 5, 6, 7, 8, 9, 10, 11, 12, 13, 14, 15, 16, 17, 18, 19, 20, 21, 22, 23] (List.take 24 _) (List.drop 24 _) [[], [], [0, 1], [2], [], [], [4, 5], [6], [3, 7], [], [], [10], [], [11, 12], [13], [9, 14], [8, 15], [16], [17], [17], [17, 18, 19], [17, 20], [17, 21], [17, 22]] [54, 55, 56, 57, 58, 59, 60, 61, 62, 63, 64, 65, 66, 67, 68, 69, 70, 71, 72, 73, 74, 75, 76, 77] (fun i_ vs_ v_ p_ => match i_ with | 0 => v_ = v12 ∧ p_ = [] | 1 => v_ = .int .i64 (k : Int) ∧ p_ = [] | 2 => v_ = elP v12 (((k : Int)).toNat * 1) ∧ p_ = [] | 3 => v_ = .int .i64 ((shL (List.replicate (allI d).toNat (0 : Int)) (useL (allI d).toNat [r]) (cod z0 len0 0 : Int) (List.replicate (allI d).toNat (0 : Int)).length).getD k 0) ∧ p_ = [] | 4 => v_ = v8 ∧ p_ = [] | 5 => v_ = .int .i64 (k : Int) ∧ p_ = [] | 6 => v_ = elP v8 (((k : Int)).toNat * 1) ∧ p_ = [] | 7 => v_ = .int .i64 ((shL (List.replicate (allI d).toNat (0 : Int)) (useL (allI d).toNat []) (cod z0 len0 0 : Int) (List.replicate (allI d).toNat (0 : Int)).length).getD k 0) ∧ p_ = [] | 8 => v_ = .int .i64 (((shL (List.replicate (allI d).toNat (0 : Int)) (useL (allI d).toNat [r]) (cod z0 len0 0 : Int) (List.replicate (allI d).toNat (0 : Int)).length).getD k 0) - ((shL (List.replicate (allI d).toNat (0 : Int)) (useL (allI d).toNat []) (cod z0 len0 0 : Int) (List.replicate (allI d).toNat (0 : Int)).length).getD k 0)) ∧ p_ = [] | 9 => v_ = .int .i64 (cod z0 len0 0 : Int) ∧ p_ = [] | 10 => v_ = .pointer (some ⟨b6, 0 + 0, none⟩) ∧ p_ = [] | 11 => v_ = r.nv ∧ p_ = [] | 12 => v_ = .int .i64 (k : Int) ∧ p_ = [] | 13 => v_ = .bool true ∧ p_ = [] | 14 => v_ = .int .i64 1 ∧ p_ = [] | 15 => v_ = .int .i64 ((cod z0 len0 0 : Int) * 1) ∧ p_ = [] | 16 => v_ = .bool false ∧ p_ = [] | 17 => v_ = .bool false ∧ p_ = [] | 18 => v_ = v8 ∧ p_ = [] | 19 => v_ = .int .i64 (k : Int) ∧ p_ = [] | 20 => v_ = elP v8 (((k : Int)).toNat * 1) ∧ p_ = [] | 21 => v_ = .int .i64 ((shL (List.replicate (allI d).toNat (0 : Int)) (useL (allI d).toNat []) (cod z0 len0 0 : Int) (List.replicate (allI d).toNat (0 : Int)).length).getD k 0) ∧ p_ = [] | 22 => v_ = .bool false ∧ p_ = [] | 23 => v_ = .bool false ∧ p_ = [] | _ => True) (List.take_append_drop 24 _).symm (by kernel_rfl) (by kernel_rfl) rfl rfl ?_ ?_
    ·
     refine ⟨?_, ?_, ?_, ?_, ?_, ?_, ?_, ?_, ?_, ?_, ?_, ?_, ?_, ?_, ?_, ?_, ?_, ?_, ?_, ?_, ?_, ?_, ?_, ?_, trivial⟩
     ·
      intro vf pf hR
      refine Or.inl ⟨rfl, ?_⟩
      refine rq_less (sx 10 rfl (sub_nil _)) (List.sublist_append_right _ _) ?_
      exact rq_v (rv_ev rfl)
     ·
      intro vf pf hR
      refine Or.inl ⟨rfl, ?_⟩
      refine rq_less (sx 11 rfl (sub_nil _)) (List.sublist_append_right _ _) ?_
      exact rq_v (rv_ev rfl)
     ·
      intro vf pf hR
      have e0 : (vf 0) = v12 ∧ (pf 0) = [] := hR 0 (by decide)
      have e1 : (vf 1) = .int .i64 (k : Int) ∧ (pf 1) = [] := hR 1 (by decide)
      refine Or.inl ⟨rfl, ?_⟩
      refine rq_less (sx 54 (congrArg some e0.1) (sx 55 (congrArg some e1.1) (sub_nil _))) (List.sublist_append_right _ _) ?_
      exact rq_v (rv_index (s := 1) rfl Try.underlying30 (by kernel_rfl) rfl rfl (rd_row 0 rfl) (by omega) (by first | omega | (simp only [List.length_set]; omega)))
     ·
      intro vf pf hR
      have e2 : (vf 2) = elP v12 (((k : Int)).toNat * 1) ∧ (pf 2) = [] := hR 2 (by decide)
      refine Or.inl ⟨rfl, ?_⟩
      refine rq_less (sx 56 (congrArg some e2.1) (sub_nil _)) (List.sublist_append_right _ _) ?_
      exact rq_v (rv_loadEl (u := .int .i64 ((shL (List.replicate (allI d).toNat (0 : Int)) (useL (allI d).toNat [r]) (cod z0 len0 0 : Int) (List.replicate (allI d).toNat (0 : Int)).length).getD k 0)) rfl (by kernel_rfl) rfl (rd_row 0 rfl) (ints_at1 (show _ < (shL (List.replicate (allI d).toNat (0 : Int)) (useL (allI d).toNat [r]) (cod z0 len0 0 : Int) (List.replicate (allI d).toNat (0 : Int)).length).length by first | omega | (simp only [List.length_set]; omega))))
     ·
      intro vf pf hR
      refine Or.inl ⟨rfl, ?_⟩
      refine rq_less (sx 9 rfl (sub_nil _)) (List.sublist_append_right _ _) ?_
      exact rq_v (rv_ev rfl)
     ·
      intro vf pf hR
      refine Or.inl ⟨rfl, ?_⟩
      refine rq_less (sx 11 rfl (sub_nil _)) (List.sublist_append_right _ _) ?_
      exact rq_v (rv_ev rfl)
     ·
      intro vf pf hR
      have e4 : (vf 4) = v8 ∧ (pf 4) = [] := hR 4 (by decide)
      have e5 : (vf 5) = .int .i64 (k : Int) ∧ (pf 5) = [] := hR 5 (by decide)
      refine Or.inl ⟨rfl, ?_⟩
      refine rq_less (sx 58 (congrArg some e4.1) (sx 59 (congrArg some e5.1) (sub_nil _))) (List.sublist_append_right _ _) ?_
      exact rq_v (rv_index (s := 1) rfl Try.underlying30 (by kernel_rfl) rfl rfl (rd_row 2 rfl) (by omega) (by first | omega | (simp only [List.length_set]; omega)))
     ·
      intro vf pf hR
      have e6 : (vf 6) = elP v8 (((k : Int)).toNat * 1) ∧ (pf 6) = [] := hR 6 (by decide)
      refine Or.inl ⟨rfl, ?_⟩
      refine rq_less (sx 60 (congrArg some e6.1) (sub_nil _)) (List.sublist_append_right _ _) ?_
      exact rq_v (rv_loadEl (u := .int .i64 ((shL (List.replicate (allI d).toNat (0 : Int)) (useL (allI d).toNat []) (cod z0 len0 0 : Int) (List.replicate (allI d).toNat (0 : Int)).length).getD k 0)) rfl (by kernel_rfl) rfl (rd_row 2 rfl) (ints_at1 (show _ < (shL (List.replicate (allI d).toNat (0 : Int)) (useL (allI d).toNat []) (cod z0 len0 0 : Int) (List.replicate (allI d).toNat (0 : Int)).length).length by first | omega | (simp only [List.length_set]; omega))))
     ·
      intro vf pf hR
      have e3 : (vf 3) = .int .i64 ((shL (List.replicate (allI d).toNat (0 : Int)) (useL (allI d).toNat [r]) (cod z0 len0 0 : Int) (List.replicate (allI d).toNat (0 : Int)).length).getD k 0) ∧ (pf 3) = [] := hR 3 (by decide)
      have e7 : (vf 7) = .int .i64 ((shL (List.replicate (allI d).toNat (0 : Int)) (useL (allI d).toNat []) (cod z0 len0 0 : Int) (List.replicate (allI d).toNat (0 : Int)).length).getD k 0) ∧ (pf 7) = [] := hR 7 (by decide)
      refine Or.inl ⟨rfl, ?_⟩
      refine rq_less (sx 57 (congrArg some e3.1) (sx 61 (congrArg some e7.1) (sub_nil _))) (List.sublist_append_right _ _) ?_
      exact rq_v (rv_sub rfl rfl rfl (by constructor <;> omega))
     ·
      intro vf pf hR
      refine Or.inl ⟨rfl, ?_⟩
      refine rq_less (sx 8 rfl (sub_nil _)) (List.sublist_append_right _ _) ?_
      exact rq_v (rv_ev rfl)
     ·
      intro vf pf hR
      refine Or.inl ⟨rfl, ?_⟩
      refine rq_less (sx 6 rfl (sub_nil _)) (List.sublist_append_right _ _) ?_
      exact rq_v (rv_field (k0 := 0) rfl (by kernel_rfl) rfl)
     ·
      intro vf pf hR
      have e10 : (vf 10) = .pointer (some ⟨b6, 0 + 0, none⟩) ∧ (pf 10) = [] := hR 10 (by decide)
      refine Or.inl ⟨rfl, ?_⟩
      refine rq_less (sx 64 (congrArg some e10.1) (sub_nil _)) (List.sublist_append_right _ _) ?_
      exact rq_v (rv_load rfl (by kernel_rfl) rfl (box_cell 4 rfl rfl))
     ·
      intro vf pf hR
      refine Or.inl ⟨rfl, ?_⟩
      refine rq_less (sx 11 rfl (sub_nil _)) (List.sublist_append_right _ _) ?_
      exact rq_v (rv_ev rfl)
     ·
      intro vf pf hR
      have e11 : (vf 11) = r.nv ∧ (pf 11) = [] := hR 11 (by decide)
      have e12 : (vf 12) = .int .i64 (k : Int) ∧ (pf 12) = [] := hR 12 (by decide)
      refine Or.inl ⟨rfl, ?_⟩
      refine rq_less (sx 65 (congrArg some e11.1) (sx 66 (congrArg some e12.1) (sub_nil _))) (List.sublist_append_right _ _) ?_
      exact rq_mono (rq_call (by kernel_rfl) rfl (fun w hm => ret_ans (lawsHas_ans r.ns (k : Int) _ w ((fun w hm => (rt_rds 6 rfl w hm).1) w hm) (by omega)))) (fun _ _ h => ⟨h.1.trans (congrArg Value.bool hb19), h.2⟩)
     ·
      intro vf pf hR
      have e13 : (vf 13) = .bool true ∧ (pf 13) = [] := hR 13 (by decide)
      refine Or.inl ⟨rfl, ?_⟩
      refine rq_less (sx 67 (congrArg some e13.1) (sub_nil _)) (List.sublist_append_right _ _) ?_
      exact (rq_call (by kernel_rfl) rfl (fun w hm => ret_ans (btoi_t w)))
     ·
      intro vf pf hR
      have e9 : (vf 9) = .int .i64 (cod z0 len0 0 : Int) ∧ (pf 9) = [] := hR 9 (by decide)
      have e14 : (vf 14) = .int .i64 1 ∧ (pf 14) = [] := hR 14 (by decide)
      refine Or.inl ⟨rfl, ?_⟩
      refine rq_less (sx 63 (congrArg some e9.1) (sx 68 (congrArg some e14.1) (sub_nil _))) (List.sublist_append_right _ _) ?_
      exact rq_v (rv_mul rfl rfl rfl (by constructor <;> omega))
     ·
      intro vf pf hR
      have e8 : (vf 8) = .int .i64 (((shL (List.replicate (allI d).toNat (0 : Int)) (useL (allI d).toNat [r]) (cod z0 len0 0 : Int) (List.replicate (allI d).toNat (0 : Int)).length).getD k 0) - ((shL (List.replicate (allI d).toNat (0 : Int)) (useL (allI d).toNat []) (cod z0 len0 0 : Int) (List.replicate (allI d).toNat (0 : Int)).length).getD k 0)) ∧ (pf 8) = [] := hR 8 (by decide)
      have e15 : (vf 15) = .int .i64 ((cod z0 len0 0 : Int) * 1) ∧ (pf 15) = [] := hR 15 (by decide)
      refine Or.inl ⟨rfl, ?_⟩
      refine rq_less (sx 62 (congrArg some e8.1) (sx 69 (congrArg some e15.1) (sub_nil _))) (List.sublist_append_right _ _) ?_
      exact rq_mono (rq_v (rv_cmp rfl rfl rfl rfl)) (fun _ _ h => ⟨h.1.trans (congrArg Value.bool hb20), h.2⟩)
     ·
      intro vf pf hR
      have e16 : (vf 16) = .bool false ∧ (pf 16) = [] := hR 16 (by decide)
      refine Or.inl ⟨rfl, ?_⟩
      refine rq_less (sx 70 (congrArg some e16.1) (sub_nil _)) (List.sublist_append_right _ _) ?_
      exact rq_v (rv_ev rfl)
     ·
      intro vf pf hR
      have e17 : (vf 17) = .bool false ∧ (pf 17) = [] := hR 17 (by decide)
      refine Or.inl ⟨want_of (congrArg some e17.1) rfl, ?_⟩
      refine rq_less (sx 9 rfl (sub_nil _)) (List.sublist_append_right _ _) ?_
      exact rq_v (rv_ev rfl)
     ·
      intro vf pf hR
      have e17 : (vf 17) = .bool false ∧ (pf 17) = [] := hR 17 (by decide)
      refine Or.inl ⟨want_of (congrArg some e17.1) rfl, ?_⟩
      refine rq_less (sx 11 rfl (sub_nil _)) (List.sublist_append_right _ _) ?_
      exact rq_v (rv_ev rfl)
     ·
      intro vf pf hR
      have e17 : (vf 17) = .bool false ∧ (pf 17) = [] := hR 17 (by decide)
      have e18 : (vf 18) = v8 ∧ (pf 18) = [] := hR 18 (by decide)
      have e19 : (vf 19) = .int .i64 (k : Int) ∧ (pf 19) = [] := hR 19 (by decide)
      refine Or.inl ⟨want_of (congrArg some e17.1) rfl, ?_⟩
      refine rq_less (sx 72 (congrArg some e18.1) (sx 73 (congrArg some e19.1) (sub_nil _))) (List.sublist_append_right _ _) ?_
      exact rq_v (rv_index (s := 1) rfl Try.underlying30 (by kernel_rfl) rfl rfl (rd_row 2 rfl) (by omega) (by first | omega | (simp only [List.length_set]; omega)))
     ·
      intro vf pf hR
      have e17 : (vf 17) = .bool false ∧ (pf 17) = [] := hR 17 (by decide)
      have e20 : (vf 20) = elP v8 (((k : Int)).toNat * 1) ∧ (pf 20) = [] := hR 20 (by decide)
      refine Or.inl ⟨want_of (congrArg some e17.1) rfl, ?_⟩
      refine rq_less (sx 74 (congrArg some e20.1) (sub_nil _)) (List.sublist_append_right _ _) ?_
      exact rq_v (rv_loadEl (u := .int .i64 ((shL (List.replicate (allI d).toNat (0 : Int)) (useL (allI d).toNat []) (cod z0 len0 0 : Int) (List.replicate (allI d).toNat (0 : Int)).length).getD k 0)) rfl (by kernel_rfl) rfl (rd_row 2 rfl) (ints_at1 (show _ < (shL (List.replicate (allI d).toNat (0 : Int)) (useL (allI d).toNat []) (cod z0 len0 0 : Int) (List.replicate (allI d).toNat (0 : Int)).length).length by first | omega | (simp only [List.length_set]; omega))))
     ·
      intro vf pf hR
      have e17 : (vf 17) = .bool false ∧ (pf 17) = [] := hR 17 (by decide)
      have e21 : (vf 21) = .int .i64 ((shL (List.replicate (allI d).toNat (0 : Int)) (useL (allI d).toNat []) (cod z0 len0 0 : Int) (List.replicate (allI d).toNat (0 : Int)).length).getD k 0) ∧ (pf 21) = [] := hR 21 (by decide)
      refine Or.inl ⟨want_of (congrArg some e17.1) rfl, ?_⟩
      refine rq_less (sx 75 (congrArg some e21.1) (sub_nil _)) (List.sublist_append_right _ _) ?_
      exact rq_mono (rq_v (rv_cmp rfl rfl rfl rfl)) (fun _ _ h => ⟨h.1.trans (congrArg Value.bool hb21), h.2⟩)
     ·
      intro vf pf hR
      have e17 : (vf 17) = .bool false ∧ (pf 17) = [] := hR 17 (by decide)
      have e22 : (vf 22) = .bool false ∧ (pf 22) = [] := hR 22 (by decide)
      refine Or.inl ⟨rfl, ?_⟩
      refine rq_less (sx 71 (congrArg some e17.1) (sx 76 (congrArg some e22.1) (sub_nil _))) (List.sublist_append_right _ _) ?_
      exact rq_v (rv_ev rfl)
    ·
     intro vf pf hR
     have e23 : (vf 23) = .bool false ∧ (pf 23) = [] := hR 23 (by decide)
     refine hl_less (l' := [rowE 3 1 v12 ((shL (List.replicate (allI d).toNat (0 : Int)) (useL (allI d).toNat [r]) (cod z0 len0 0 : Int) (List.replicate (allI d).toNat (0 : Int)).length).length) ((shL (List.replicate (allI d).toNat (0 : Int)) (useL (allI d).toNat [r]) (cod z0 len0 0 : Int) (List.replicate (allI d).toNat (0 : Int)).length).map (Value.int .i64)), rowE 64 2 (.slice (some ⟨g11, 0, none⟩) 1 1) 1 ([r.nv, r.fv]), rowE 3 1 v8 ((shL (List.replicate (allI d).toNat (0 : Int)) (useL (allI d).toNat []) (cod z0 len0 0 : Int) (List.replicate (allI d).toNat (0 : Int)).length).length) ((shL (List.replicate (allI d).toNat (0 : Int)) (useL (allI d).toNat []) (cod z0 len0 0 : Int) (List.replicate (allI d).toNat (0 : Int)).length).map (Value.int .i64)), rowE 3 1 (.slice (some ⟨g7, 0, none⟩) ((List.replicate (allI d).toNat (0 : Int)).length) ((List.replicate (allI d).toNat (0 : Int)).length)) ((List.replicate (allI d).toNat (0 : Int)).length) ((List.replicate (allI d).toNat (0 : Int)).map (Value.int .i64)), boxE b6 #[r.nv, r.fv] 64, boxE b5 #[.int .i64 d.W, .int .i64 d.H, .int .i64 d.T, .int .i64 d.R] 25, rtE r, rowE 3 1 sv ks.length (ks.map (Value.int .i64))]) (sx 0 rfl (sx 2 rfl (sx 3 rfl (sx 4 rfl (sx 6 rfl (sx 7 rfl (sx 8 rfl (sx 9 rfl (sx 10 rfl (sx 11 rfl (sx 13 rfl (sx 47 rfl (sx 51 rfl (sx 77 (congrArg some e23.1) (sub_nil _))))))))))))))) (List.sublist_append_right _ _) ?_
     simp only [List.drop_succ_cons, List.drop_zero]
     refine hl_less (sx 0 rfl (sx 2 rfl (sx 3 rfl (sx 4 rfl (sx 6 rfl (sx 7 rfl (sx 8 rfl (sx 9 rfl (sx 10 rfl (sx 11 rfl (sx 13 rfl (sx 47 rfl (sx 51 rfl (sx 77 rfl (sub_nil _))))))))))))))) (.refl _) ?_
     refine hl_nil ?_
     refine hq_then ?_
     refine hc_false rfl ?_
     refine hc_skip ?_
     refine hq_block_normal ?_
     refine hq_then ?_
     refine hc_region ?_
     refine hl_v rfl rfl rfl (rv_ev rfl) ?_
     refine hl_v rfl rfl rfl (rv_add rfl rfl rfl (by constructor <;> omega)) ?_
     refine hl_v rfl rfl rfl (rv_ev rfl) ?_
     refine hl_less (sx 0 rfl (sx 2 rfl (sx 3 rfl (sx 4 rfl (sx 6 rfl (sx 7 rfl (sx 8 rfl (sx 9 rfl (sx 10 rfl (sx 11 rfl (sx 13 rfl (sx 47 rfl (sx 51 rfl (sx 77 rfl (sub_nil _))))))))))))))) (.refl _) ?_
     refine hl_nil ?_
     exact hq_round1 (k + 1) (by omega) (by omega) (sx 0 rfl (sx 2 rfl (sx 3 rfl (sx 4 rfl (sx 6 rfl (sx 7 rfl (sx 8 rfl (sx 9 rfl (sx 10 rfl (sx 11 rfl (sx 13 rfl (sx 47 rfl (sub_nil _))))))))))))) ((.cons_cons _ (.cons_cons _ (.cons_cons _ (.cons_cons _ (.cons_cons _ (.cons_cons _ (.cons_cons _ (.cons_cons _ .slnil)))))))))
   ·
    rw [if_neg (by rw [hb19]; decide)] at e2
    have e1 : (shL (List.replicate (allI d).toNat (0 : Int)) (useL (allI d).toNat []) (cod z0 len0 0 : Int) (List.replicate (allI d).toNat (0 : Int)).length).getD k 0 = 10 := by rw [sh_at _ _ _ (by omega), use_at _ (by omega), List.getD_eq_getElem?_getD, List.getElem?_replicate, if_pos (by omega)]; show shI 0 (cntI [] k) _ = 10; unfold shI; rw [show cntI [] k = 0 from rfl]; simp
    have e2 : (shL (List.replicate (allI d).toNat (0 : Int)) (useL (allI d).toNat [r]) (cod z0 len0 0 : Int) (List.replicate (allI d).toNat (0 : Int)).length).getD k 0 = if hasB r.ns (k : Int) = true then 10 + (cod z0 len0 0 : Int) else 10 := by rw [sh_at _ _ _ (by omega), use_at _ (by omega), List.getD_eq_getElem?_getD, List.getElem?_replicate, if_pos (by omega), cnt_one]; show shI 0 _ _ = _; unfold shI; split <;> (rw [if_pos (by omega)]; omega)
    have hb22 : ((((shL (List.replicate (allI d).toNat (0 : Int)) (useL (allI d).toNat [r]) (cod z0 len0 0 : Int) (List.replicate (allI d).toNat (0 : Int)).length).getD k 0) - ((shL (List.replicate (allI d).toNat (0 : Int)) (useL (allI d).toNat []) (cod z0 len0 0 : Int) (List.replicate (allI d).toNat (0 : Int)).length).getD k 0)) != ((cod z0 len0 0 : Int) * 0)) = false := Bool.eq_false_iff.2 (fun h => bne_iff_ne.1 h (by omega))
    have hb23 : (((shL (List.replicate (allI d).toNat (0 : Int)) (useL (allI d).toNat []) (cod z0 len0 0 : Int) (List.replicate (allI d).toNat (0 : Int)).length).getD k 0) != 10) = false := Bool.eq_false_iff.2 (fun h => bne_iff_ne.1 h (by omega))
    refine hc_draw (by kernel_rfl) 24 [0, 1, 2, 3, 4, 5, 6, 7, 8, 9, 10, 11, 12, 13, 14, 15, 16, 17, 18, 19, 20, 21, 22, 23] (List.take 24 _) (List.drop 24 _) [[], [], [0, 1], [2], [], [], [4, 5], [6], [3, 7], [], [], [10], [], [11, 12], [13], [9, 14], [8, 15], [16], [17], [17], [17, 18, 19], [17, 20], [17, 21], [17, 22]] [54, 55, 56, 57, 58, 59, 60, 61, 62, 63, 64, 65, 66, 67, 68, 69, 70, 71, 72, 73, 74, 75, 76, 77] (fun i_ vs_ v_ p_ => match i_ with | 0 => v_ = v12 ∧ p_ = [] | 1 => v_ = .int .i64 (k : Int) ∧ p_ = [] | 2 => v_ = elP v12 (((k : Int)).toNat * 1) ∧ p_ = [] | 3 => v_ = .int .i64 ((shL (List.replicate (allI d).toNat (0 : Int)) (useL (allI d).toNat [r]) (cod z0 len0 0 : Int) (List.replicate (allI d).toNat (0 : Int)).length).getD k 0) ∧ p_ = [] | 4 => v_ = v8 ∧ p_ = [] | 5 => v_ = .int .i64 (k : Int) ∧ p_ = [] | 6 => v_ = elP v8 (((k : Int)).toNat * 1) ∧ p_ = [] | 7 => v_ = .int .i64 ((shL (List.replicate (allI d).toNat (0 : Int)) (useL (allI d).toNat []) (cod z0 len0 0 : Int) (List.replicate (allI d).toNat (0 : Int)).length).getD k 0) ∧ p_ = [] | 8 => v_ = .int .i64 (((shL (List.replicate (allI d).toNat (0 : Int)) (useL (allI d).toNat [r]) (cod z0 len0 0 : Int) (List.replicate (allI d).toNat (0 : Int)).length).getD k 0) - ((shL (List.replicate (allI d).toNat (0 : Int)) (useL (allI d).toNat []) (cod z0 len0 0 : Int) (List.replicate (allI d).toNat (0 : Int)).length).getD k 0)) ∧ p_ = [] | 9 => v_ = .int .i64 (cod z0 len0 0 : Int) ∧ p_ = [] | 10 => v_ = .pointer (some ⟨b6, 0 + 0, none⟩) ∧ p_ = [] | 11 => v_ = r.nv ∧ p_ = [] | 12 => v_ = .int .i64 (k : Int) ∧ p_ = [] | 13 => v_ = .bool false ∧ p_ = [] | 14 => v_ = .int .i64 0 ∧ p_ = [] | 15 => v_ = .int .i64 ((cod z0 len0 0 : Int) * 0) ∧ p_ = [] | 16 => v_ = .bool false ∧ p_ = [] | 17 => v_ = .bool false ∧ p_ = [] | 18 => v_ = v8 ∧ p_ = [] | 19 => v_ = .int .i64 (k : Int) ∧ p_ = [] | 20 => v_ = elP v8 (((k : Int)).toNat * 1) ∧ p_ = [] | 21 => v_ = .int .i64 ((shL (List.replicate (allI d).toNat (0 : Int)) (useL (allI d).toNat []) (cod z0 len0 0 : Int) (List.replicate (allI d).toNat (0 : Int)).length).getD k 0) ∧ p_ = [] | 22 => v_ = .bool false ∧ p_ = [] | 23 => v_ = .bool false ∧ p_ = [] | _ => True) (List.take_append_drop 24 _).symm (by kernel_rfl) (by kernel_rfl) rfl rfl ?_ ?_
    ·
     refine ⟨?_, ?_, ?_, ?_, ?_, ?_, ?_, ?_, ?_, ?_, ?_, ?_, ?_, ?_, ?_, ?_, ?_, ?_, ?_, ?_, ?_, ?_, ?_, ?_, trivial⟩
     ·
      intro vf pf hR
      refine Or.inl ⟨rfl, ?_⟩
      refine rq_less (sx 10 rfl (sub_nil _)) (List.sublist_append_right _ _) ?_
      exact rq_v (rv_ev rfl)
     ·
      intro vf pf hR
      refine Or.inl ⟨rfl, ?_⟩
      refine rq_less (sx 11 rfl (sub_nil _)) (List.sublist_append_right _ _) ?_
      exact rq_v (rv_ev rfl)
     ·
      intro vf pf hR
      have e0 : (vf 0) = v12 ∧ (pf 0) = [] := hR 0 (by decide)
      have e1 : (vf 1) = .int .i64 (k : Int) ∧ (pf 1) = [] := hR 1 (by decide)
      refine Or.inl ⟨rfl, ?_⟩
      refine rq_less (sx 54 (congrArg some e0.1) (sx 55 (congrArg some e1.1) (sub_nil _))) (List.sublist_append_right _ _) ?_
      exact rq_v (rv_index (s := 1) rfl Try.underlying30 (by kernel_rfl) rfl rfl (rd_row 0 rfl) (by omega) (by first | omega | (simp only [List.length_set]; omega)))
     ·
      intro vf pf hR
      have e2 : (vf 2) = elP v12 (((k : Int)).toNat * 1) ∧ (pf 2) = [] := hR 2 (by decide)
      refine Or.inl ⟨rfl, ?_⟩
      refine rq_less (sx 56 (congrArg some e2.1) (sub_nil _)) (List.sublist_append_right _ _) ?_
      exact rq_v (rv_loadEl (u := .int .i64 ((shL (List.replicate (allI d).toNat (0 : Int)) (useL (allI d).toNat [r]) (cod z0 len0 0 : Int) (List.replicate (allI d).toNat (0 : Int)).length).getD k 0)) rfl (by kernel_rfl) rfl (rd_row 0 rfl) (ints_at1 (show _ < (shL (List.replicate (allI d).toNat (0 : Int)) (useL (allI d).toNat [r]) (cod z0 len0 0 : Int) (List.replicate (allI d).toNat (0 : Int)).length).length by first | omega | (simp only [List.length_set]; omega))))
     ·
      intro vf pf hR
      refine Or.inl ⟨rfl, ?_⟩
      refine rq_less (sx 9 rfl (sub_nil _)) (List.sublist_append_right _ _) ?_
      exact rq_v (rv_ev rfl)
     ·
      intro vf pf hR
      refine Or.inl ⟨rfl, ?_⟩
      refine rq_less (sx 11 rfl (sub_nil _)) (List.sublist_append_right _ _) ?_
      exact rq_v (rv_ev rfl)
     ·
      intro vf pf hR
      have e4 : (vf 4) = v8 ∧ (pf 4) = [] := hR 4 (by decide)
      have e5 : (vf 5) = .int .i64 (k : Int) ∧ (pf 5) = [] := hR 5 (by decide)
      refine Or.inl ⟨rfl, ?_⟩
      refine rq_less (sx 58 (congrArg some e4.1) (sx 59 (congrArg some e5.1) (sub_nil _))) (List.sublist_append_right _ _) ?_
      exact rq_v (rv_index (s := 1) rfl Try.underlying30 (by kernel_rfl) rfl rfl (rd_row 2 rfl) (by omega) (by first | omega | (simp only [List.length_set]; omega)))
     ·
      intro vf pf hR
      have e6 : (vf 6) = elP v8 (((k : Int)).toNat * 1) ∧ (pf 6) = [] := hR 6 (by decide)
      refine Or.inl ⟨rfl, ?_⟩
      refine rq_less (sx 60 (congrArg some e6.1) (sub_nil _)) (List.sublist_append_right _ _) ?_
      exact rq_v (rv_loadEl (u := .int .i64 ((shL (List.replicate (allI d).toNat (0 : Int)) (useL (allI d).toNat []) (cod z0 len0 0 : Int) (List.replicate (allI d).toNat (0 : Int)).length).getD k 0)) rfl (by kernel_rfl) rfl (rd_row 2 rfl) (ints_at1 (show _ < (shL (List.replicate (allI d).toNat (0 : Int)) (useL (allI d).toNat []) (cod z0 len0 0 : Int) (List.replicate (allI d).toNat (0 : Int)).length).length by first | omega | (simp only [List.length_set]; omega))))
     ·
      intro vf pf hR
      have e3 : (vf 3) = .int .i64 ((shL (List.replicate (allI d).toNat (0 : Int)) (useL (allI d).toNat [r]) (cod z0 len0 0 : Int) (List.replicate (allI d).toNat (0 : Int)).length).getD k 0) ∧ (pf 3) = [] := hR 3 (by decide)
      have e7 : (vf 7) = .int .i64 ((shL (List.replicate (allI d).toNat (0 : Int)) (useL (allI d).toNat []) (cod z0 len0 0 : Int) (List.replicate (allI d).toNat (0 : Int)).length).getD k 0) ∧ (pf 7) = [] := hR 7 (by decide)
      refine Or.inl ⟨rfl, ?_⟩
      refine rq_less (sx 57 (congrArg some e3.1) (sx 61 (congrArg some e7.1) (sub_nil _))) (List.sublist_append_right _ _) ?_
      exact rq_v (rv_sub rfl rfl rfl (by constructor <;> omega))
     ·
      intro vf pf hR
      refine Or.inl ⟨rfl, ?_⟩
      refine rq_less (sx 8 rfl (sub_nil _)) (List.sublist_append_right _ _) ?_
      exact rq_v (rv_ev rfl)
     ·
      intro vf pf hR
      refine Or.inl ⟨rfl, ?_⟩
      refine rq_less (sx 6 rfl (sub_nil _)) (List.sublist_append_right _ _) ?_
      exact rq_v (rv_field (k0 := 0) rfl (by kernel_rfl) rfl)
     ·
      intro vf pf hR
      have e10 : (vf 10) = .pointer (some ⟨b6, 0 + 0, none⟩) ∧ (pf 10) = [] := hR 10 (by decide)
      refine Or.inl ⟨rfl, ?_⟩
      refine rq_less (sx 64 (congrArg some e10.1) (sub_nil _)) (List.sublist_append_right _ _) ?_
      exact rq_v (rv_load rfl (by kernel_rfl) rfl (box_cell 4 rfl rfl))
     ·
      intro vf pf hR
      refine Or.inl ⟨rfl, ?_⟩
      refine rq_less (sx 11 rfl (sub_nil _)) (List.sublist_append_right _ _) ?_
      exact rq_v (rv_ev rfl)
     ·
      intro vf pf hR
      have e11 : (vf 11) = r.nv ∧ (pf 11) = [] := hR 11 (by decide)
      have e12 : (vf 12) = .int .i64 (k : Int) ∧ (pf 12) = [] := hR 12 (by decide)
      refine Or.inl ⟨rfl, ?_⟩
      refine rq_less (sx 65 (congrArg some e11.1) (sx 66 (congrArg some e12.1) (sub_nil _))) (List.sublist_append_right _ _) ?_
      exact rq_mono (rq_call (by kernel_rfl) rfl (fun w hm => ret_ans (lawsHas_ans r.ns (k : Int) _ w ((fun w hm => (rt_rds 6 rfl w hm).1) w hm) (by omega)))) (fun _ _ h => ⟨h.1.trans (congrArg Value.bool hb19), h.2⟩)
     ·
      intro vf pf hR
      have e13 : (vf 13) = .bool false ∧ (pf 13) = [] := hR 13 (by decide)
      refine Or.inl ⟨rfl, ?_⟩
      refine rq_less (sx 67 (congrArg some e13.1) (sub_nil _)) (List.sublist_append_right _ _) ?_
      exact (rq_call (by kernel_rfl) rfl (fun w hm => ret_ans (btoi_f w)))
     ·
      intro vf pf hR
      have e9 : (vf 9) = .int .i64 (cod z0 len0 0 : Int) ∧ (pf 9) = [] := hR 9 (by decide)
      have e14 : (vf 14) = .int .i64 0 ∧ (pf 14) = [] := hR 14 (by decide)
      refine Or.inl ⟨rfl, ?_⟩
      refine rq_less (sx 63 (congrArg some e9.1) (sx 68 (congrArg some e14.1) (sub_nil _))) (List.sublist_append_right _ _) ?_
      exact rq_v (rv_mul rfl rfl rfl (by constructor <;> omega))
     ·
      intro vf pf hR
      have e8 : (vf 8) = .int .i64 (((shL (List.replicate (allI d).toNat (0 : Int)) (useL (allI d).toNat [r]) (cod z0 len0 0 : Int) (List.replicate (allI d).toNat (0 : Int)).length).getD k 0) - ((shL (List.replicate (allI d).toNat (0 : Int)) (useL (allI d).toNat []) (cod z0 len0 0 : Int) (List.replicate (allI d).toNat (0 : Int)).length).getD k 0)) ∧ (pf 8) = [] := hR 8 (by decide)
      have e15 : (vf 15) = .int .i64 ((cod z0 len0 0 : Int) * 0) ∧ (pf 15) = [] := hR 15 (by decide)
      refine Or.inl ⟨rfl, ?_⟩
      refine rq_less (sx 62 (congrArg some e8.1) (sx 69 (congrArg some e15.1) (sub_nil _))) (List.sublist_append_right _ _) ?_
      exact rq_mono (rq_v (rv_cmp rfl rfl rfl rfl)) (fun _ _ h => ⟨h.1.trans (congrArg Value.bool hb22), h.2⟩)
     ·
      intro vf pf hR
      have e16 : (vf 16) = .bool false ∧ (pf 16) = [] := hR 16 (by decide)
      refine Or.inl ⟨rfl, ?_⟩
      refine rq_less (sx 70 (congrArg some e16.1) (sub_nil _)) (List.sublist_append_right _ _) ?_
      exact rq_v (rv_ev rfl)
     ·
      intro vf pf hR
      have e17 : (vf 17) = .bool false ∧ (pf 17) = [] := hR 17 (by decide)
      refine Or.inl ⟨want_of (congrArg some e17.1) rfl, ?_⟩
      refine rq_less (sx 9 rfl (sub_nil _)) (List.sublist_append_right _ _) ?_
      exact rq_v (rv_ev rfl)
     ·
      intro vf pf hR
      have e17 : (vf 17) = .bool false ∧ (pf 17) = [] := hR 17 (by decide)
      refine Or.inl ⟨want_of (congrArg some e17.1) rfl, ?_⟩
      refine rq_less (sx 11 rfl (sub_nil _)) (List.sublist_append_right _ _) ?_
      exact rq_v (rv_ev rfl)
     ·
      intro vf pf hR
      have e17 : (vf 17) = .bool false ∧ (pf 17) = [] := hR 17 (by decide)
      have e18 : (vf 18) = v8 ∧ (pf 18) = [] := hR 18 (by decide)
      have e19 : (vf 19) = .int .i64 (k : Int) ∧ (pf 19) = [] := hR 19 (by decide)
      refine Or.inl ⟨want_of (congrArg some e17.1) rfl, ?_⟩
      refine rq_less (sx 72 (congrArg some e18.1) (sx 73 (congrArg some e19.1) (sub_nil _))) (List.sublist_append_right _ _) ?_
      exact rq_v (rv_index (s := 1) rfl Try.underlying30 (by kernel_rfl) rfl rfl (rd_row 2 rfl) (by omega) (by first | omega | (simp only [List.length_set]; omega)))
     ·
      intro vf pf hR
      have e17 : (vf 17) = .bool false ∧ (pf 17) = [] := hR 17 (by decide)
      have e20 : (vf 20) = elP v8 (((k : Int)).toNat * 1) ∧ (pf 20) = [] := hR 20 (by decide)
      refine Or.inl ⟨want_of (congrArg some e17.1) rfl, ?_⟩
      refine rq_less (sx 74 (congrArg some e20.1) (sub_nil _)) (List.sublist_append_right _ _) ?_
      exact rq_v (rv_loadEl (u := .int .i64 ((shL (List.replicate (allI d).toNat (0 : Int)) (useL (allI d).toNat []) (cod z0 len0 0 : Int) (List.replicate (allI d).toNat (0 : Int)).length).getD k 0)) rfl (by kernel_rfl) rfl (rd_row 2 rfl) (ints_at1 (show _ < (shL (List.replicate (allI d).toNat (0 : Int)) (useL (allI d).toNat []) (cod z0 len0 0 : Int) (List.replicate (allI d).toNat (0 : Int)).length).length by first | omega | (simp only [List.length_set]; omega))))
     ·
      intro vf pf hR
      have e17 : (vf 17) = .bool false ∧ (pf 17) = [] := hR 17 (by decide)
      have e21 : (vf 21) = .int .i64 ((shL (List.replicate (allI d).toNat (0 : Int)) (useL (allI d).toNat []) (cod z0 len0 0 : Int) (List.replicate (allI d).toNat (0 : Int)).length).getD k 0) ∧ (pf 21) = [] := hR 21 (by decide)
      refine Or.inl ⟨want_of (congrArg some e17.1) rfl, ?_⟩
      refine rq_less (sx 75 (congrArg some e21.1) (sub_nil _)) (List.sublist_append_right _ _) ?_
      exact rq_mono (rq_v (rv_cmp rfl rfl rfl rfl)) (fun _ _ h => ⟨h.1.trans (congrArg Value.bool hb23), h.2⟩)
     ·
      intro vf pf hR
      have e17 : (vf 17) = .bool false ∧ (pf 17) = [] := hR 17 (by decide)
      have e22 : (vf 22) = .bool false ∧ (pf 22) = [] := hR 22 (by decide)
      refine Or.inl ⟨rfl, ?_⟩
      refine rq_less (sx 71 (congrArg some e17.1) (sx 76 (congrArg some e22.1) (sub_nil _))) (List.sublist_append_right _ _) ?_
      exact rq_v (rv_ev rfl)
    ·
     intro vf pf hR
     have e23 : (vf 23) = .bool false ∧ (pf 23) = [] := hR 23 (by decide)
     refine hl_less (l' := [rowE 3 1 v12 ((shL (List.replicate (allI d).toNat (0 : Int)) (useL (allI d).toNat [r]) (cod z0 len0 0 : Int) (List.replicate (allI d).toNat (0 : Int)).length).length) ((shL (List.replicate (allI d).toNat (0 : Int)) (useL (allI d).toNat [r]) (cod z0 len0 0 : Int) (List.replicate (allI d).toNat (0 : Int)).length).map (Value.int .i64)), rowE 64 2 (.slice (some ⟨g11, 0, none⟩) 1 1) 1 ([r.nv, r.fv]), rowE 3 1 v8 ((shL (List.replicate (allI d).toNat (0 : Int)) (useL (allI d).toNat []) (cod z0 len0 0 : Int) (List.replicate (allI d).toNat (0 : Int)).length).length) ((shL (List.replicate (allI d).toNat (0 : Int)) (useL (allI d).toNat []) (cod z0 len0 0 : Int) (List.replicate (allI d).toNat (0 : Int)).length).map (Value.int .i64)), rowE 3 1 (.slice (some ⟨g7, 0, none⟩) ((List.replicate (allI d).toNat (0 : Int)).length) ((List.replicate (allI d).toNat (0 : Int)).length)) ((List.replicate (allI d).toNat (0 : Int)).length) ((List.replicate (allI d).toNat (0 : Int)).map (Value.int .i64)), boxE b6 #[r.nv, r.fv] 64, boxE b5 #[.int .i64 d.W, .int .i64 d.H, .int .i64 d.T, .int .i64 d.R] 25, rtE r, rowE 3 1 sv ks.length (ks.map (Value.int .i64))]) (sx 0 rfl (sx 2 rfl (sx 3 rfl (sx 4 rfl (sx 6 rfl (sx 7 rfl (sx 8 rfl (sx 9 rfl (sx 10 rfl (sx 11 rfl (sx 13 rfl (sx 47 rfl (sx 51 rfl (sx 77 (congrArg some e23.1) (sub_nil _))))))))))))))) (List.sublist_append_right _ _) ?_
     simp only [List.drop_succ_cons, List.drop_zero]
     refine hl_less (sx 0 rfl (sx 2 rfl (sx 3 rfl (sx 4 rfl (sx 6 rfl (sx 7 rfl (sx 8 rfl (sx 9 rfl (sx 10 rfl (sx 11 rfl (sx 13 rfl (sx 47 rfl (sx 51 rfl (sx 77 rfl (sub_nil _))))))))))))))) (.refl _) ?_
     refine hl_nil ?_
     refine hq_then ?_
     refine hc_false rfl ?_
     refine hc_skip ?_
     refine hq_block_normal ?_
     refine hq_then ?_
     refine hc_region ?_
     refine hl_v rfl rfl rfl (rv_ev rfl) ?_
     refine hl_v rfl rfl rfl (rv_add rfl rfl rfl (by constructor <;> omega)) ?_
     refine hl_v rfl rfl rfl (rv_ev rfl) ?_
     refine hl_less (sx 0 rfl (sx 2 rfl (sx 3 rfl (sx 4 rfl (sx 6 rfl (sx 7 rfl (sx 8 rfl (sx 9 rfl (sx 10 rfl (sx 11 rfl (sx 13 rfl (sx 47 rfl (sx 51 rfl (sx 77 rfl (sub_nil _))))))))))))))) (.refl _) ?_
     refine hl_nil ?_
     exact hq_round1 (k + 1) (by omega) (by omega) (sx 0 rfl (sx 2 rfl (sx 3 rfl (sx 4 rfl (sx 6 rfl (sx 7 rfl (sx 8 rfl (sx 9 rfl (sx 10 rfl (sx 11 rfl (sx 13 rfl (sx 47 rfl (sub_nil _))))))))))))) ((.cons_cons _ (.cons_cons _ (.cons_cons _ (.cons_cons _ (.cons_cons _ (.cons_cons _ (.cons_cons _ (.cons_cons _ .slnil)))))))))
  ·
   refine hl_less (sx 0 rfl (sx 2 rfl (sx 3 rfl (sx 4 rfl (sx 6 rfl (sx 7 rfl (sx 8 rfl (sx 9 rfl (sx 10 rfl (sx 11 rfl (sx 13 rfl (sx 47 rfl (sx 51 rfl (sub_nil _)))))))))))))) (.refl _) ?_
   refine hl_nil ?_
   refine hq_then ?_
   refine hc_false rfl ?_
   refine hc_exit ?_
   refine hq_then_exit ?_
   refine hq_then_exit ?_
   refine hq_block_exit ?_
   refine hq_then ?_
   refine hc_seq ?_
   have ov1 : (ovL (useL (allI d).toNat [r]) (allI d).toNat).length = 0 := by rw [ov_one]; rfl
   have ov2 : (ovL (useL (allI d).toNat [r, r]) (allI d).toNat).length = r.ns.length := ov_two r hns
   have hb28 : (((ovL (useL (allI d).toNat [r]) (allI d).toNat).length : Int) == 0) = true := beq_iff_eq.2 (by omega)
   have hb33 : (((ovL (useL (allI d).toNat [r, r]) (allI d).toNat).length : Int) == (r.ns.length : Int)) = true := beq_iff_eq.2 (by omega)
   have hb34 : (hasB r.ns s0) = true := (hasB_at r.ns s0 0 (by omega) htr.root)
   refine hc_draw (by kernel_rfl) 24 [0, 1, 2, 3, 4, 5, 6, 7, 8, 9, 10, 11, 12, 13, 14, 15, 16, 17, 18, 19, 20, 21, 22, 23] (List.take 24 _) (List.drop 24 _) [[], [], [1], [0, 2], [3], [3, 4], [5], [6], [6], [6], [6, 8, 9], [6, 7, 10], [6, 11], [6], [6, 13], [6, 14], [6, 11, 12, 15], [6, 16], [17], [18], [18, 19], [18], [18, 20, 21], [18, 22]] [78, 79, 80, 81, 82, 83, 84, 85, 86, 87, 88, 89, 90, 91, 92, 93, 94, 95, 96, 97, 98, 99, 100, 101] (fun i_ vs_ v_ p_ => match i_ with | 0 => v_ = .agg #[.int .i64 d.W, .int .i64 d.H, .int .i64 d.T, .int .i64 d.R] ∧ p_ = [] | 1 => v_ = .agg #[r.nv, r.fv] ∧ p_ = [] | 2 => IsRow_o 64 2 1 ([r.nv, r.fv]) v_ p_ | 3 => (fun v' post => post = [rowE 3 1 v' (ovL (useL (allI d).toNat [r]) (allI d).toNat).length ((ovL (useL (allI d).toNat [r]) (allI d).toNat).map (Value.int .i64))]) v_ p_ | 4 => v_ = .int .i64 ((ovL (useL (allI d).toNat [r]) (allI d).toNat).length : Int) ∧ p_ = [] | 5 => v_ = .bool true ∧ p_ = [] | 6 => v_ = .bool true ∧ p_ = [] | 7 => v_ = .agg #[.int .i64 d.W, .int .i64 d.H, .int .i64 d.T, .int .i64 d.R] ∧ p_ = [] | 8 => v_ = .agg #[r.nv, r.fv] ∧ p_ = [] | 9 => v_ = .agg #[r.nv, r.fv] ∧ p_ = [] | 10 => IsRow_o 64 2 2 ([r.nv, r.fv, r.nv, r.fv]) v_ p_ | 11 => (fun v' post => post = [rowE 3 1 v' (ovL (useL (allI d).toNat [r, r]) (allI d).toNat).length ((ovL (useL (allI d).toNat [r, r]) (allI d).toNat).map (Value.int .i64))]) v_ p_ | 12 => v_ = .int .i64 ((ovL (useL (allI d).toNat [r, r]) (allI d).toNat).length : Int) ∧ p_ = [] | 13 => v_ = .pointer (some ⟨b6, 0 + 0, none⟩) ∧ p_ = [] | 14 => v_ = r.nv ∧ p_ = [] | 15 => v_ = .int .i64 (r.ns.length : Int) ∧ p_ = [] | 16 => v_ = .bool true ∧ p_ = [] | 17 => v_ = .bool true ∧ p_ = [] | 18 => v_ = .bool true ∧ p_ = [] | 19 => v_ = .pointer (some ⟨b6, 0 + 0, none⟩) ∧ p_ = [] | 20 => v_ = r.nv ∧ p_ = [] | 21 => v_ = .int .i64 s0 ∧ p_ = [] | 22 => v_ = .bool true ∧ p_ = [] | 23 => v_ = .bool true ∧ p_ = [] | _ => True) (List.take_append_drop 24 _).symm (by kernel_rfl) (by kernel_rfl) rfl rfl ?_ ?_
   ·
    refine ⟨?_, ?_, ?_, ?_, ?_, ?_, ?_, ?_, ?_, ?_, ?_, ?_, ?_, ?_, ?_, ?_, ?_, ?_, ?_, ?_, ?_, ?_, ?_, ?_, trivial⟩
    ·
     intro vf pf hR
     refine Or.inl ⟨rfl, ?_⟩
     refine rq_less (sx 3 rfl (sub_nil _)) (List.sublist_append_right _ _) ?_
     exact rq_v (rv_loadN (cs := [.int .i64 d.W, .int .i64 d.H, .int .i64 d.T, .int .i64 d.R]) rfl (by kernel_rfl) (by kernel_rfl) rfl rfl (box_part 5 rfl 0 rfl))
    ·
     intro vf pf hR
     refine Or.inl ⟨rfl, ?_⟩
     refine rq_less (sx 6 rfl (sub_nil _)) (List.sublist_append_right _ _) ?_
     exact rq_v (rv_loadN (cs := [r.nv, r.fv]) rfl (by kernel_rfl) (by kernel_rfl) rfl rfl (box_part 4 rfl 0 rfl))
    ·
     intro vf pf hR
     have e1 : (vf 1) = .agg #[r.nv, r.fv] ∧ (pf 1) = [] := hR 1 (by decide)
     refine Or.inl ⟨rfl, ?_⟩
     refine rq_less (sx 79 (congrArg some e1.1) (sub_nil _)) (List.sublist_append_right _ _) ?_
     exact rq_buildSlice (z := .agg #[.slice none 0 0, .slice none 0 0]) (s := 2) (cs := [r.nv, r.fv]) rfl Try.underlying68 (by kernel_rfl) (by decide) rfl (by kernel_rfl) rfl
    ·
     intro vf pf hR
     have e0 : (vf 0) = .agg #[.int .i64 d.W, .int .i64 d.H, .int .i64 d.T, .int .i64 d.R] ∧ (pf 0) = [] := hR 0 (by decide)
     have e2 : IsRow_o 64 2 1 ([r.nv, r.fv]) (vf 2) (pf 2) := hR 2 (by decide)
     obtain ⟨g24, v2, p2⟩ := e2
     refine Or.inl ⟨rfl, ?_⟩
     refine rq_less (l' := [rowE 64 2 (.slice (some ⟨g24, 0, none⟩) 1 1) 1 ([r.nv, r.fv]), rowE 3 1 v12 ((shL (List.replicate (allI d).toNat (0 : Int)) (useL (allI d).toNat [r]) (cod z0 len0 0 : Int) (List.replicate (allI d).toNat (0 : Int)).length).length) ((shL (List.replicate (allI d).toNat (0 : Int)) (useL (allI d).toNat [r]) (cod z0 len0 0 : Int) (List.replicate (allI d).toNat (0 : Int)).length).map (Value.int .i64)), rowE 64 2 (.slice (some ⟨g11, 0, none⟩) 1 1) 1 ([r.nv, r.fv]), rowE 3 1 v8 ((shL (List.replicate (allI d).toNat (0 : Int)) (useL (allI d).toNat []) (cod z0 len0 0 : Int) (List.replicate (allI d).toNat (0 : Int)).length).length) ((shL (List.replicate (allI d).toNat (0 : Int)) (useL (allI d).toNat []) (cod z0 len0 0 : Int) (List.replicate (allI d).toNat (0 : Int)).length).map (Value.int .i64)), rowE 3 1 (.slice (some ⟨g7, 0, none⟩) ((List.replicate (allI d).toNat (0 : Int)).length) ((List.replicate (allI d).toNat (0 : Int)).length)) ((List.replicate (allI d).toNat (0 : Int)).length) ((List.replicate (allI d).toNat (0 : Int)).map (Value.int .i64)), boxE b6 #[r.nv, r.fv] 64, boxE b5 #[.int .i64 d.W, .int .i64 d.H, .int .i64 d.T, .int .i64 d.R] 25, rtE r, rowE 3 1 sv ks.length (ks.map (Value.int .i64))]) (sx 78 (congrArg some e0.1) (sx 80 (congrArg some v2) (sub_nil _))) (by first | (simp only [p2, v2, e0.2, List.flatMap_cons, List.flatMap_nil, List.append_nil, List.nil_append, List.cons_append]; exact List.Sublist.refl _) | simp [p2, v2, e0.2]) ?_
     exact rq_call (by kernel_rfl) rfl (fun w hm => Overused_ret d [r] _ w hd (rdsrt_of (r := r) (rs := [r]) (rd_row 0 rfl w hm) (rt_rds 7 rfl w hm) (by simp)) (by simp) (ns_all hns [r] (by simp)))
    ·
     intro vf pf hR
     have e3 : (fun v' post => post = [rowE 3 1 v' (ovL (useL (allI d).toNat [r]) (allI d).toNat).length ((ovL (useL (allI d).toNat [r]) (allI d).toNat).map (Value.int .i64))]) (vf 3) (pf 3) := hR 3 (by decide)
     obtain ⟨v25, v3⟩ : ∃ x, vf 3 = x := ⟨_, rfl⟩
     obtain ⟨p26, p3⟩ : ∃ x, pf 3 = x := ⟨_, rfl⟩
     have hR27 := e3
     rw [v3, p3] at hR27
     subst hR27
     refine Or.inl ⟨rfl, ?_⟩
     refine rq_less (l' := [rowE 3 1 v25 ((ovL (useL (allI d).toNat [r]) (allI d).toNat).length) ((ovL (useL (allI d).toNat [r]) (allI d).toNat).map (Value.int .i64)), rowE 3 1 v12 ((shL (List.replicate (allI d).toNat (0 : Int)) (useL (allI d).toNat [r]) (cod z0 len0 0 : Int) (List.replicate (allI d).toNat (0 : Int)).length).length) ((shL (List.replicate (allI d).toNat (0 : Int)) (useL (allI d).toNat [r]) (cod z0 len0 0 : Int) (List.replicate (allI d).toNat (0 : Int)).length).map (Value.int .i64)), rowE 64 2 (.slice (some ⟨g11, 0, none⟩) 1 1) 1 ([r.nv, r.fv]), rowE 3 1 v8 ((shL (List.replicate (allI d).toNat (0 : Int)) (useL (allI d).toNat []) (cod z0 len0 0 : Int) (List.replicate (allI d).toNat (0 : Int)).length).length) ((shL (List.replicate (allI d).toNat (0 : Int)) (useL (allI d).toNat []) (cod z0 len0 0 : Int) (List.replicate (allI d).toNat (0 : Int)).length).map (Value.int .i64)), rowE 3 1 (.slice (some ⟨g7, 0, none⟩) ((List.replicate (allI d).toNat (0 : Int)).length) ((List.replicate (allI d).toNat (0 : Int)).length)) ((List.replicate (allI d).toNat (0 : Int)).length) ((List.replicate (allI d).toNat (0 : Int)).map (Value.int .i64)), boxE b6 #[r.nv, r.fv] 64, boxE b5 #[.int .i64 d.W, .int .i64 d.H, .int .i64 d.T, .int .i64 d.R] 25, rtE r, rowE 3 1 sv ks.length (ks.map (Value.int .i64))]) (sx 81 (congrArg some v3) (sub_nil _)) (by first | (simp only [p3, v3, List.flatMap_cons, List.flatMap_nil, List.append_nil, List.nil_append, List.cons_append]; exact List.Sublist.refl _) | simp [p3, v3]) ?_
     exact rq_v (rv_len rfl Try.underlying30 rfl (rd_row 0 rfl))
    ·
     intro vf pf hR
     have e3 : (fun v' post => post = [rowE 3 1 v' (ovL (useL (allI d).toNat [r]) (allI d).toNat).length ((ovL (useL (allI d).toNat [r]) (allI d).toNat).map (Value.int .i64))]) (vf 3) (pf 3) := hR 3 (by decide)
     obtain ⟨v25, v3⟩ : ∃ x, vf 3 = x := ⟨_, rfl⟩
     obtain ⟨p26, p3⟩ : ∃ x, pf 3 = x := ⟨_, rfl⟩
     have hR27 := e3
     rw [v3, p3] at hR27
     subst hR27
     have e4 : (vf 4) = .int .i64 ((ovL (useL (allI d).toNat [r]) (allI d).toNat).length : Int) ∧ (pf 4) = [] := hR 4 (by decide)
     refine Or.inl ⟨rfl, ?_⟩
     refine rq_less (l' := [rowE 3 1 v25 ((ovL (useL (allI d).toNat [r]) (allI d).toNat).length) ((ovL (useL (allI d).toNat [r]) (allI d).toNat).map (Value.int .i64)), rowE 3 1 v12 ((shL (List.replicate (allI d).toNat (0 : Int)) (useL (allI d).toNat [r]) (cod z0 len0 0 : Int) (List.replicate (allI d).toNat (0 : Int)).length).length) ((shL (List.replicate (allI d).toNat (0 : Int)) (useL (allI d).toNat [r]) (cod z0 len0 0 : Int) (List.replicate (allI d).toNat (0 : Int)).length).map (Value.int .i64)), rowE 64 2 (.slice (some ⟨g11, 0, none⟩) 1 1) 1 ([r.nv, r.fv]), rowE 3 1 v8 ((shL (List.replicate (allI d).toNat (0 : Int)) (useL (allI d).toNat []) (cod z0 len0 0 : Int) (List.replicate (allI d).toNat (0 : Int)).length).length) ((shL (List.replicate (allI d).toNat (0 : Int)) (useL (allI d).toNat []) (cod z0 len0 0 : Int) (List.replicate (allI d).toNat (0 : Int)).length).map (Value.int .i64)), rowE 3 1 (.slice (some ⟨g7, 0, none⟩) ((List.replicate (allI d).toNat (0 : Int)).length) ((List.replicate (allI d).toNat (0 : Int)).length)) ((List.replicate (allI d).toNat (0 : Int)).length) ((List.replicate (allI d).toNat (0 : Int)).map (Value.int .i64)), boxE b6 #[r.nv, r.fv] 64, boxE b5 #[.int .i64 d.W, .int .i64 d.H, .int .i64 d.T, .int .i64 d.R] 25, rtE r, rowE 3 1 sv ks.length (ks.map (Value.int .i64))]) (sx 82 (congrArg some e4.1) (sub_nil _)) (by first | (simp only [p3, v3, e4.2, List.flatMap_cons, List.flatMap_nil, List.append_nil, List.nil_append, List.cons_append]; exact List.Sublist.refl _) | simp [p3, v3, e4.2]) ?_
     exact rq_mono (rq_v (rv_cmp rfl rfl rfl rfl)) (fun _ _ h => ⟨h.1.trans (congrArg Value.bool hb28), h.2⟩)
    ·
     intro vf pf hR
     have e5 : (vf 5) = .bool true ∧ (pf 5) = [] := hR 5 (by decide)
     refine Or.inl ⟨rfl, ?_⟩
     refine rq_less (sx 83 (congrArg some e5.1) (sub_nil _)) (List.sublist_append_right _ _) ?_
     exact rq_v (rv_ev rfl)
    ·
     intro vf pf hR
     have e6 : (vf 6) = .bool true ∧ (pf 6) = [] := hR 6 (by decide)
     refine Or.inl ⟨want_of (congrArg some e6.1) rfl, ?_⟩
     refine rq_less (sx 3 rfl (sub_nil _)) (List.sublist_append_right _ _) ?_
     exact rq_v (rv_loadN (cs := [.int .i64 d.W, .int .i64 d.H, .int .i64 d.T, .int .i64 d.R]) rfl (by kernel_rfl) (by kernel_rfl) rfl rfl (box_part 5 rfl 0 rfl))
    ·
     intro vf pf hR
     have e6 : (vf 6) = .bool true ∧ (pf 6) = [] := hR 6 (by decide)
     refine Or.inl ⟨want_of (congrArg some e6.1) rfl, ?_⟩
     refine rq_less (sx 6 rfl (sub_nil _)) (List.sublist_append_right _ _) ?_
     exact rq_v (rv_loadN (cs := [r.nv, r.fv]) rfl (by kernel_rfl) (by kernel_rfl) rfl rfl (box_part 4 rfl 0 rfl))
    ·
     intro vf pf hR
     have e6 : (vf 6) = .bool true ∧ (pf 6) = [] := hR 6 (by decide)
     refine Or.inl ⟨want_of (congrArg some e6.1) rfl, ?_⟩
     refine rq_less (sx 6 rfl (sub_nil _)) (List.sublist_append_right _ _) ?_
     exact rq_v (rv_loadN (cs := [r.nv, r.fv]) rfl (by kernel_rfl) (by kernel_rfl) rfl rfl (box_part 4 rfl 0 rfl))
    ·
     intro vf pf hR
     have e6 : (vf 6) = .bool true ∧ (pf 6) = [] := hR 6 (by decide)
     have e8 : (vf 8) = .agg #[r.nv, r.fv] ∧ (pf 8) = [] := hR 8 (by decide)
     have e9 : (vf 9) = .agg #[r.nv, r.fv] ∧ (pf 9) = [] := hR 9 (by decide)
     refine Or.inl ⟨want_of (congrArg some e6.1) rfl, ?_⟩
     refine rq_less (sx 86 (congrArg some e8.1) (sx 87 (congrArg some e9.1) (sub_nil _))) (List.sublist_append_right _ _) ?_
     exact rq_buildSlice (z := .agg #[.slice none 0 0, .slice none 0 0]) (s := 2) (cs := [r.nv, r.fv, r.nv, r.fv]) rfl Try.underlying68 (by kernel_rfl) (by decide) rfl (by kernel_rfl) rfl
    ·
     intro vf pf hR
     have e6 : (vf 6) = .bool true ∧ (pf 6) = [] := hR 6 (by decide)
     have e7 : (vf 7) = .agg #[.int .i64 d.W, .int .i64 d.H, .int .i64 d.T, .int .i64 d.R] ∧ (pf 7) = [] := hR 7 (by decide)
     have e10 : IsRow_o 64 2 2 ([r.nv, r.fv, r.nv, r.fv]) (vf 10) (pf 10) := hR 10 (by decide)
     obtain ⟨g29, v10, p10⟩ := e10
     refine Or.inl ⟨want_of (congrArg some e6.1) rfl, ?_⟩
     refine rq_less (l' := [rowE 64 2 (.slice (some ⟨g29, 0, none⟩) 2 2) 2 ([r.nv, r.fv, r.nv, r.fv]), rowE 3 1 v12 ((shL (List.replicate (allI d).toNat (0 : Int)) (useL (allI d).toNat [r]) (cod z0 len0 0 : Int) (List.replicate (allI d).toNat (0 : Int)).length).length) ((shL (List.replicate (allI d).toNat (0 : Int)) (useL (allI d).toNat [r]) (cod z0 len0 0 : Int) (List.replicate (allI d).toNat (0 : Int)).length).map (Value.int .i64)), rowE 64 2 (.slice (some ⟨g11, 0, none⟩) 1 1) 1 ([r.nv, r.fv]), rowE 3 1 v8 ((shL (List.replicate (allI d).toNat (0 : Int)) (useL (allI d).toNat []) (cod z0 len0 0 : Int) (List.replicate (allI d).toNat (0 : Int)).length).length) ((shL (List.replicate (allI d).toNat (0 : Int)) (useL (allI d).toNat []) (cod z0 len0 0 : Int) (List.replicate (allI d).toNat (0 : Int)).length).map (Value.int .i64)), rowE 3 1 (.slice (some ⟨g7, 0, none⟩) ((List.replicate (allI d).toNat (0 : Int)).length) ((List.replicate (allI d).toNat (0 : Int)).length)) ((List.replicate (allI d).toNat (0 : Int)).length) ((List.replicate (allI d).toNat (0 : Int)).map (Value.int .i64)), boxE b6 #[r.nv, r.fv] 64, boxE b5 #[.int .i64 d.W, .int .i64 d.H, .int .i64 d.T, .int .i64 d.R] 25, rtE r, rowE 3 1 sv ks.length (ks.map (Value.int .i64))]) (sx 85 (congrArg some e7.1) (sx 88 (congrArg some v10) (sub_nil _))) (by first | (simp only [p10, v10, e6.2, e7.2, List.flatMap_cons, List.flatMap_nil, List.append_nil, List.nil_append, List.cons_append]; exact List.Sublist.refl _) | simp [p10, v10, e6.2, e7.2]) ?_
     exact rq_call (by kernel_rfl) rfl (fun w hm => Overused_ret d [r, r] _ w hd (rdsrt_of (r := r) (rs := [r, r]) (rd_row 0 rfl w hm) (rt_rds 7 rfl w hm) (by simp)) (by simp) (ns_all hns [r, r] (by simp)))
    ·
     intro vf pf hR
     have e6 : (vf 6) = .bool true ∧ (pf 6) = [] := hR 6 (by decide)
     have e11 : (fun v' post => post = [rowE 3 1 v' (ovL (useL (allI d).toNat [r, r]) (allI d).toNat).length ((ovL (useL (allI d).toNat [r, r]) (allI d).toNat).map (Value.int .i64))]) (vf 11) (pf 11) := hR 11 (by decide)
     obtain ⟨v30, v11⟩ : ∃ x, vf 11 = x := ⟨_, rfl⟩
     obtain ⟨p31, p11⟩ : ∃ x, pf 11 = x := ⟨_, rfl⟩
     have hR32 := e11
     rw [v11, p11] at hR32
     subst hR32
     refine Or.inl ⟨want_of (congrArg some e6.1) rfl, ?_⟩
     refine rq_less (l' := [rowE 3 1 v30 ((ovL (useL (allI d).toNat [r, r]) (allI d).toNat).length) ((ovL (useL (allI d).toNat [r, r]) (allI d).toNat).map (Value.int .i64)), rowE 3 1 v12 ((shL (List.replicate (allI d).toNat (0 : Int)) (useL (allI d).toNat [r]) (cod z0 len0 0 : Int) (List.replicate (allI d).toNat (0 : Int)).length).length) ((shL (List.replicate (allI d).toNat (0 : Int)) (useL (allI d).toNat [r]) (cod z0 len0 0 : Int) (List.replicate (allI d).toNat (0 : Int)).length).map (Value.int .i64)), rowE 64 2 (.slice (some ⟨g11, 0, none⟩) 1 1) 1 ([r.nv, r.fv]), rowE 3 1 v8 ((shL (List.replicate (allI d).toNat (0 : Int)) (useL (allI d).toNat []) (cod z0 len0 0 : Int) (List.replicate (allI d).toNat (0 : Int)).length).length) ((shL (List.replicate (allI d).toNat (0 : Int)) (useL (allI d).toNat []) (cod z0 len0 0 : Int) (List.replicate (allI d).toNat (0 : Int)).length).map (Value.int .i64)), rowE 3 1 (.slice (some ⟨g7, 0, none⟩) ((List.replicate (allI d).toNat (0 : Int)).length) ((List.replicate (allI d).toNat (0 : Int)).length)) ((List.replicate (allI d).toNat (0 : Int)).length) ((List.replicate (allI d).toNat (0 : Int)).map (Value.int .i64)), boxE b6 #[r.nv, r.fv] 64, boxE b5 #[.int .i64 d.W, .int .i64 d.H, .int .i64 d.T, .int .i64 d.R] 25, rtE r, rowE 3 1 sv ks.length (ks.map (Value.int .i64))]) (sx 89 (congrArg some v11) (sub_nil _)) (by first | (simp only [p11, v11, e6.2, List.flatMap_cons, List.flatMap_nil, List.append_nil, List.nil_append, List.cons_append]; exact List.Sublist.refl _) | simp [p11, v11, e6.2]) ?_
     exact rq_v (rv_len rfl Try.underlying30 rfl (rd_row 0 rfl))
    ·
     intro vf pf hR
     have e6 : (vf 6) = .bool true ∧ (pf 6) = [] := hR 6 (by decide)
     refine Or.inl ⟨want_of (congrArg some e6.1) rfl, ?_⟩
     refine rq_less (sx 6 rfl (sub_nil _)) (List.sublist_append_right _ _) ?_
     exact rq_v (rv_field (k0 := 0) rfl (by kernel_rfl) rfl)
    ·
     intro vf pf hR
     have e6 : (vf 6) = .bool true ∧ (pf 6) = [] := hR 6 (by decide)
     have e13 : (vf 13) = .pointer (some ⟨b6, 0 + 0, none⟩) ∧ (pf 13) = [] := hR 13 (by decide)
     refine Or.inl ⟨want_of (congrArg some e6.1) rfl, ?_⟩
     refine rq_less (sx 91 (congrArg some e13.1) (sub_nil _)) (List.sublist_append_right _ _) ?_
     exact rq_v (rv_load rfl (by kernel_rfl) rfl (box_cell 4 rfl rfl))
    ·
     intro vf pf hR
     have e6 : (vf 6) = .bool true ∧ (pf 6) = [] := hR 6 (by decide)
     have e14 : (vf 14) = r.nv ∧ (pf 14) = [] := hR 14 (by decide)
     refine Or.inl ⟨want_of (congrArg some e6.1) rfl, ?_⟩
     refine rq_less (sx 92 (congrArg some e14.1) (sub_nil _)) (List.sublist_append_right _ _) ?_
     exact rq_v (rv_len rfl Try.underlying30 rfl (fun w hm => (rt_rds 6 rfl w hm).1))
    ·
     intro vf pf hR
     have e6 : (vf 6) = .bool true ∧ (pf 6) = [] := hR 6 (by decide)
     have e11 : (fun v' post => post = [rowE 3 1 v' (ovL (useL (allI d).toNat [r, r]) (allI d).toNat).length ((ovL (useL (allI d).toNat [r, r]) (allI d).toNat).map (Value.int .i64))]) (vf 11) (pf 11) := hR 11 (by decide)
     obtain ⟨v30, v11⟩ : ∃ x, vf 11 = x := ⟨_, rfl⟩
     obtain ⟨p31, p11⟩ : ∃ x, pf 11 = x := ⟨_, rfl⟩
     have hR32 := e11
     rw [v11, p11] at hR32
     subst hR32
     have e12 : (vf 12) = .int .i64 ((ovL (useL (allI d).toNat [r, r]) (allI d).toNat).length : Int) ∧ (pf 12) = [] := hR 12 (by decide)
     have e15 : (vf 15) = .int .i64 (r.ns.length : Int) ∧ (pf 15) = [] := hR 15 (by decide)
     refine Or.inl ⟨want_of (congrArg some e6.1) rfl, ?_⟩
     refine rq_less (l' := [rowE 3 1 v30 ((ovL (useL (allI d).toNat [r, r]) (allI d).toNat).length) ((ovL (useL (allI d).toNat [r, r]) (allI d).toNat).map (Value.int .i64)), rowE 3 1 v12 ((shL (List.replicate (allI d).toNat (0 : Int)) (useL (allI d).toNat [r]) (cod z0 len0 0 : Int) (List.replicate (allI d).toNat (0 : Int)).length).length) ((shL (List.replicate (allI d).toNat (0 : Int)) (useL (allI d).toNat [r]) (cod z0 len0 0 : Int) (List.replicate (allI d).toNat (0 : Int)).length).map (Value.int .i64)), rowE 64 2 (.slice (some ⟨g11, 0, none⟩) 1 1) 1 ([r.nv, r.fv]), rowE 3 1 v8 ((shL (List.replicate (allI d).toNat (0 : Int)) (useL (allI d).toNat []) (cod z0 len0 0 : Int) (List.replicate (allI d).toNat (0 : Int)).length).length) ((shL (List.replicate (allI d).toNat (0 : Int)) (useL (allI d).toNat []) (cod z0 len0 0 : Int) (List.replicate (allI d).toNat (0 : Int)).length).map (Value.int .i64)), rowE 3 1 (.slice (some ⟨g7, 0, none⟩) ((List.replicate (allI d).toNat (0 : Int)).length) ((List.replicate (allI d).toNat (0 : Int)).length)) ((List.replicate (allI d).toNat (0 : Int)).length) ((List.replicate (allI d).toNat (0 : Int)).map (Value.int .i64)), boxE b6 #[r.nv, r.fv] 64, boxE b5 #[.int .i64 d.W, .int .i64 d.H, .int .i64 d.T, .int .i64 d.R] 25, rtE r, rowE 3 1 sv ks.length (ks.map (Value.int .i64))]) (sx 90 (congrArg some e12.1) (sx 93 (congrArg some e15.1) (sub_nil _))) (by first | (simp only [p11, v11, e6.2, e12.2, e15.2, List.flatMap_cons, List.flatMap_nil, List.append_nil, List.nil_append, List.cons_append]; exact List.Sublist.refl _) | simp [p11, v11, e6.2, e12.2, e15.2]) ?_
     exact rq_mono (rq_v (rv_cmp rfl rfl rfl rfl)) (fun _ _ h => ⟨h.1.trans (congrArg Value.bool hb33), h.2⟩)
    ·
     intro vf pf hR
     have e6 : (vf 6) = .bool true ∧ (pf 6) = [] := hR 6 (by decide)
     have e16 : (vf 16) = .bool true ∧ (pf 16) = [] := hR 16 (by decide)
     refine Or.inl ⟨rfl, ?_⟩
     refine rq_less (sx 84 (congrArg some e6.1) (sx 94 (congrArg some e16.1) (sub_nil _))) (List.sublist_append_right _ _) ?_
     exact rq_v (rv_ev rfl)
    ·
     intro vf pf hR
     have e17 : (vf 17) = .bool true ∧ (pf 17) = [] := hR 17 (by decide)
     refine Or.inl ⟨rfl, ?_⟩
     refine rq_less (sx 95 (congrArg some e17.1) (sub_nil _)) (List.sublist_append_right _ _) ?_
     exact rq_v (rv_ev rfl)
    ·
     intro vf pf hR
     have e18 : (vf 18) = .bool true ∧ (pf 18) = [] := hR 18 (by decide)
     refine Or.inl ⟨want_of (congrArg some e18.1) rfl, ?_⟩
     refine rq_less (sx 6 rfl (sub_nil _)) (List.sublist_append_right _ _) ?_
     exact rq_v (rv_field (k0 := 0) rfl (by kernel_rfl) rfl)
    ·
     intro vf pf hR
     have e18 : (vf 18) = .bool true ∧ (pf 18) = [] := hR 18 (by decide)
     have e19 : (vf 19) = .pointer (some ⟨b6, 0 + 0, none⟩) ∧ (pf 19) = [] := hR 19 (by decide)
     refine Or.inl ⟨want_of (congrArg some e18.1) rfl, ?_⟩
     refine rq_less (sx 97 (congrArg some e19.1) (sub_nil _)) (List.sublist_append_right _ _) ?_
     exact rq_v (rv_load rfl (by kernel_rfl) rfl (box_cell 4 rfl rfl))
    ·
     intro vf pf hR
     have e18 : (vf 18) = .bool true ∧ (pf 18) = [] := hR 18 (by decide)
     refine Or.inl ⟨want_of (congrArg some e18.1) rfl, ?_⟩
     refine rq_less (sx 4 rfl (sub_nil _)) (List.sublist_append_right _ _) ?_
     exact rq_v (rv_ev rfl)
    ·
     intro vf pf hR
     have e18 : (vf 18) = .bool true ∧ (pf 18) = [] := hR 18 (by decide)
     have e20 : (vf 20) = r.nv ∧ (pf 20) = [] := hR 20 (by decide)
     have e21 : (vf 21) = .int .i64 s0 ∧ (pf 21) = [] := hR 21 (by decide)
     refine Or.inl ⟨want_of (congrArg some e18.1) rfl, ?_⟩
     refine rq_less (sx 98 (congrArg some e20.1) (sx 99 (congrArg some e21.1) (sub_nil _))) (List.sublist_append_right _ _) ?_
     exact rq_mono (rq_call (by kernel_rfl) rfl (fun w hm => ret_ans (lawsHas_ans r.ns s0 _ w ((fun w hm => (rt_rds 6 rfl w hm).1) w hm) (by omega)))) (fun _ _ h => ⟨h.1.trans (congrArg Value.bool hb34), h.2⟩)
    ·
     intro vf pf hR
     have e18 : (vf 18) = .bool true ∧ (pf 18) = [] := hR 18 (by decide)
     have e22 : (vf 22) = .bool true ∧ (pf 22) = [] := hR 22 (by decide)
     refine Or.inl ⟨rfl, ?_⟩
     refine rq_less (sx 96 (congrArg some e18.1) (sx 100 (congrArg some e22.1) (sub_nil _))) (List.sublist_append_right _ _) ?_
     exact rq_v (rv_ev rfl)
   ·
    intro vf pf hR
    have e2 : IsRow_o 64 2 1 ([r.nv, r.fv]) (vf 2) (pf 2) := hR 2 (by decide)
    obtain ⟨g24, v2, p2⟩ := e2
    have e3 : (fun v' post => post = [rowE 3 1 v' (ovL (useL (allI d).toNat [r]) (allI d).toNat).length ((ovL (useL (allI d).toNat [r]) (allI d).toNat).map (Value.int .i64))]) (vf 3) (pf 3) := hR 3 (by decide)
    obtain ⟨v25, v3⟩ : ∃ x, vf 3 = x := ⟨_, rfl⟩
    obtain ⟨p26, p3⟩ : ∃ x, pf 3 = x := ⟨_, rfl⟩
    have hR27 := e3
    rw [v3, p3] at hR27
    subst hR27
    have e10 : IsRow_o 64 2 2 ([r.nv, r.fv, r.nv, r.fv]) (vf 10) (pf 10) := hR 10 (by decide)
    obtain ⟨g29, v10, p10⟩ := e10
    have e11 : (fun v' post => post = [rowE 3 1 v' (ovL (useL (allI d).toNat [r, r]) (allI d).toNat).length ((ovL (useL (allI d).toNat [r, r]) (allI d).toNat).map (Value.int .i64))]) (vf 11) (pf 11) := hR 11 (by decide)
    obtain ⟨v30, v11⟩ : ∃ x, vf 11 = x := ⟨_, rfl⟩
    obtain ⟨p31, p11⟩ : ∃ x, pf 11 = x := ⟨_, rfl⟩
    have hR32 := e11
    rw [v11, p11] at hR32
    subst hR32
    have e23 : (vf 23) = .bool true ∧ (pf 23) = [] := hR 23 (by decide)
    have q0 : (vf 0) = .agg #[.int .i64 d.W, .int .i64 d.H, .int .i64 d.T, .int .i64 d.R] ∧ (pf 0) = [] := hR 0 (by decide)
    have q1 : (vf 1) = .agg #[r.nv, r.fv] ∧ (pf 1) = [] := hR 1 (by decide)
    have q4 : (vf 4) = .int .i64 ((ovL (useL (allI d).toNat [r]) (allI d).toNat).length : Int) ∧ (pf 4) = [] := hR 4 (by decide)
    have q5 : (vf 5) = .bool true ∧ (pf 5) = [] := hR 5 (by decide)
    have q6 : (vf 6) = .bool true ∧ (pf 6) = [] := hR 6 (by decide)
    have q7 : (vf 7) = .agg #[.int .i64 d.W, .int .i64 d.H, .int .i64 d.T, .int .i64 d.R] ∧ (pf 7) = [] := hR 7 (by decide)
    have q8 : (vf 8) = .agg #[r.nv, r.fv] ∧ (pf 8) = [] := hR 8 (by decide)
    have q9 : (vf 9) = .agg #[r.nv, r.fv] ∧ (pf 9) = [] := hR 9 (by decide)
    have q12 : (vf 12) = .int .i64 ((ovL (useL (allI d).toNat [r, r]) (allI d).toNat).length : Int) ∧ (pf 12) = [] := hR 12 (by decide)
    have q13 : (vf 13) = .pointer (some ⟨b6, 0 + 0, none⟩) ∧ (pf 13) = [] := hR 13 (by decide)
    have q14 : (vf 14) = r.nv ∧ (pf 14) = [] := hR 14 (by decide)
    have q15 : (vf 15) = .int .i64 (r.ns.length : Int) ∧ (pf 15) = [] := hR 15 (by decide)
    have q16 : (vf 16) = .bool true ∧ (pf 16) = [] := hR 16 (by decide)
    have q17 : (vf 17) = .bool true ∧ (pf 17) = [] := hR 17 (by decide)
    have q18 : (vf 18) = .bool true ∧ (pf 18) = [] := hR 18 (by decide)
    have q19 : (vf 19) = .pointer (some ⟨b6, 0 + 0, none⟩) ∧ (pf 19) = [] := hR 19 (by decide)
    have q20 : (vf 20) = r.nv ∧ (pf 20) = [] := hR 20 (by decide)
    have q21 : (vf 21) = .int .i64 s0 ∧ (pf 21) = [] := hR 21 (by decide)
    have q22 : (vf 22) = .bool true ∧ (pf 22) = [] := hR 22 (by decide)
    have q23 : (vf 23) = .bool true ∧ (pf 23) = [] := hR 23 (by decide)
    refine hl_less (l' := [rowE 64 2 (.slice (some ⟨g24, 0, none⟩) 1 1) 1 ([r.nv, r.fv]), rowE 3 1 v25 ((ovL (useL (allI d).toNat [r]) (allI d).toNat).length) ((ovL (useL (allI d).toNat [r]) (allI d).toNat).map (Value.int .i64)), rowE 64 2 (.slice (some ⟨g29, 0, none⟩) 2 2) 2 ([r.nv, r.fv, r.nv, r.fv]), rowE 3 1 v30 ((ovL (useL (allI d).toNat [r, r]) (allI d).toNat).length) ((ovL (useL (allI d).toNat [r, r]) (allI d).toNat).map (Value.int .i64)), rowE 3 1 v12 ((shL (List.replicate (allI d).toNat (0 : Int)) (useL (allI d).toNat [r]) (cod z0 len0 0 : Int) (List.replicate (allI d).toNat (0 : Int)).length).length) ((shL (List.replicate (allI d).toNat (0 : Int)) (useL (allI d).toNat [r]) (cod z0 len0 0 : Int) (List.replicate (allI d).toNat (0 : Int)).length).map (Value.int .i64)), rowE 64 2 (.slice (some ⟨g11, 0, none⟩) 1 1) 1 ([r.nv, r.fv]), rowE 3 1 v8 ((shL (List.replicate (allI d).toNat (0 : Int)) (useL (allI d).toNat []) (cod z0 len0 0 : Int) (List.replicate (allI d).toNat (0 : Int)).length).length) ((shL (List.replicate (allI d).toNat (0 : Int)) (useL (allI d).toNat []) (cod z0 len0 0 : Int) (List.replicate (allI d).toNat (0 : Int)).length).map (Value.int .i64)), rowE 3 1 (.slice (some ⟨g7, 0, none⟩) ((List.replicate (allI d).toNat (0 : Int)).length) ((List.replicate (allI d).toNat (0 : Int)).length)) ((List.replicate (allI d).toNat (0 : Int)).length) ((List.replicate (allI d).toNat (0 : Int)).map (Value.int .i64)), boxE b6 #[r.nv, r.fv] 64, boxE b5 #[.int .i64 d.W, .int .i64 d.H, .int .i64 d.T, .int .i64 d.R] 25, rtE r, rowE 3 1 sv ks.length (ks.map (Value.int .i64))]) (sx 0 rfl (sx 2 rfl (sx 3 rfl (sx 4 rfl (sx 6 rfl (sx 7 rfl (sx 8 rfl (sx 9 rfl (sx 10 rfl (sx 11 rfl (sx 13 rfl (sx 47 rfl (sx 51 rfl (sx 101 (congrArg some e23.1) (sub_nil _))))))))))))))) (by first | (simp only [p2, v2, p3, v3, p10, v10, p11, v11, q0.2, q1.2, q4.2, q5.2, q6.2, q7.2, q8.2, q9.2, q12.2, q13.2, q14.2, q15.2, q16.2, q17.2, q18.2, q19.2, q20.2, q21.2, q22.2, q23.2, List.flatMap_cons, List.flatMap_nil, List.append_nil, List.nil_append, List.cons_append]; exact List.Sublist.refl _) | simp [p2, v2, p3, v3, p10, v10, p11, v11, q0.2, q1.2, q4.2, q5.2, q6.2, q7.2, q8.2, q9.2, q12.2, q13.2, q14.2, q15.2, q16.2, q17.2, q18.2, q19.2, q20.2, q21.2, q22.2, q23.2]) ?_
    simp only [List.drop_succ_cons, List.drop_zero]
    refine hl_v rfl rfl rfl (rv_ev rfl) ?_
    refine hl_less (sx 0 rfl (sx 2 rfl (sx 3 rfl (sx 4 rfl (sx 6 rfl (sx 7 rfl (sx 8 rfl (sx 9 rfl (sx 10 rfl (sx 11 rfl (sx 13 rfl (sx 47 rfl (sx 51 rfl (sub_nil _)))))))))))))) (.refl _) ?_
    refine hl_nil ?_
    refine hq_then ?_
    refine hc_ret ?_
    exact hq_ans rfl rfl rfl
end Go.Proofs.Ytnnkbpcfjjijbaa
