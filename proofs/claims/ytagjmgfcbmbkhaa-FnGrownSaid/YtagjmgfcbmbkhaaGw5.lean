/- Texts of the law FnGrown, part 5: what it uses. -/
import Derived.Test.YtagjmgfcbmbkhaaGw4
set_option linter.unusedVariables false
set_option linter.unusedSimpArgs false
namespace Go.Proofs.Ytagjmgfcbmbkhaa
open Go.RowKit Go.ChangeShapes
open Go.RowKit
open Go.Maps
theorem CP.more {N : Nat} {S : Int → List Int} {cs st D : List Int} {t x y : Int} {xs : List Int} (h : CP N S cs st D t x xs) (hx : ¬ x ∈ st) (hy : y ∈ S x) (y0 : 0 ≤ y) (y1 : y < N) (hd : 0 ≤ gI D y) (he : gI D y + gI cs x = gI D x) (hc : 1 ≤ gI cs x) : CP N S cs st D t y ([y] ++ xs) := by
  have hl := h.l0
  have e : ([y] ++ xs).length = xs.length + 1 := by simp
  refine ⟨by omega, rfl, ?_, fun i hi => ?_, fun i hi => ?_, fun i hi => ?_, hd, by rw [e]; have := h.len; omega⟩
  · rw [e, show xs.length + 1 - 1 = (xs.length - 1) + 1 by omega, gcS]; exact h.last
  · rw [e] at hi
    cases i with
    | zero => exact ⟨y0, y1⟩
    | succ i => rw [gcS]; exact h.rng i (by omega)
  · rw [e] at hi
    cases i with
    | zero => rw [gc0, gcS, h.first]; exact ⟨hy, hd, by omega⟩
    | succ i => rw [gcS, gcS]; exact h.chain i (by omega)
  · rw [e] at hi
    cases i with
    | zero => rw [gcS, h.first]; exact hx
    | succ i => rw [gcS]; exact h.nst i (by omega)
/-- every node of a tree can be reached -/
theorem tree_reach {d : Dev} {s0 : Int} {ns fs ks cs D st : List Int} {N : Nat} (hN : (N : Int) = allI d) (ht : Tree d s0 ns fs ks) (h : DistOk N (srcI d) cs st D) (h0 : s0 ∈ st) : ∀ m k : Nat, k ≤ m → k < ns.length → 0 ≤ gI D (ns.getD k 0)
  | m, 0, _, _ => by rw [ht.root, h.sts _ h0]; exact Int.le_refl _
  | 0, k + 1, hk, _ => by omega
  | m + 1, k + 1, hk, hl => by
    obtain ⟨h1, h2, h3⟩ := ht.step (k + 1) (by omega) hl
    have ih := tree_reach hN ht h h0 m (fs.getD (k + 1) 0).toNat (by omega) (by omega)
    have hr := ht.rng _ (getD_inX hl)
    exact (h.rel _ hr.1 (by omega) _ (hasB_mem.1 h3) ih).1
set_option maxHeartbeats 4000000 in
set_option maxRecDepth 100000 in
theorem cheapestPath_ret (d : Dev) (b : Nat) (g : Gr) (cs st : List Int) (cv sv : Value) (t : Int) (w : World) (hg : RdsGr w b g) (hgk : GrOk d (allI d).toNat g) (hd : devB d = true) (hcv : RdsW w cv 1 cs.length (cs.map (Value.int .i64))) (hcl : (cs.length : Int) = allI d) (hcr : ∀ k, k < cs.length → 1 ≤ cs.getD k 0 ∧ cs.getD k 0 ≤ 100000) (hsv : RdsW w sv 1 st.length (st.map (Value.int .i64))) (hsl : st.length ≤ 1000000) (hst : ∀ s ∈ st, 0 ≤ s ∧ s < allI d) (ht : 0 ≤ t ∧ t < allI d) (hreach : ∀ D, DistOk cs.length (srcI d) cs st D → 0 ≤ gI D t) :
  Calls Try.prog 62 #[.pointer (some ⟨b, 0, none⟩), cv, sv, .int .i64 t] w (Ret w (fun v' post => ∃ xs : List Int, post = [rowE 3 1 v' xs.length (xs.map (Value.int .i64))] ∧ ∃ D x, DistOk cs.length (srcI d) cs st D ∧ x ∈ st ∧ CP cs.length (srcI d) cs st D t x xs)) := by
 obtain ⟨ra1, ra2⟩ := all_rng hd
 refine calls_hc (N := 78) (args := [.pointer (some ⟨b, 0, none⟩), cv, sv, .int .i64 t]) Try.func62 rfl rfl ?_
 refine hc_less _ (sx 0 rfl (sx 1 rfl (sx 2 rfl (sx 3 rfl (sub_nil _))))) (.refl _) ?_
 refine hc_seq ?_
 refine hc_region ?_
 refine hl_v rfl rfl rfl (rv_ev rfl) ?_
 refine hl_less (sx 0 rfl (sx 1 rfl (sx 2 rfl (sx 3 rfl (sx 8 rfl (sub_nil _)))))) (.refl _) ?_
 refine hl_nil ?_
 refine hq_then ?_
 refine hc_seq ?_
 refine hc_region ?_
 refine hl_v rfl rfl rfl (rv_ev rfl) ?_
 refine hl_v rfl rfl rfl (rv_ev rfl) ?_
 refine hl_v rfl rfl rfl (rv_ev rfl) ?_
 refine hl_q rfl rfl rfl (rq_call (by kernel_rfl) rfl (fun w hm => distances_ret b g cs st _ _ (srcI d) w (hg.below hm.bel) (by rw [hgk.ks.len]; omega) (fun x hx => by have := hgk.ks.sz x (by omega); omega) (hgk.srcs' hd hcl hcr) ((rd_old hcv) w hm) ((rd_old hsv) w hm) hsl (fun s hs => by have := hst s hs; omega))) ?_
 intro v1 p2 hR3
 obtain ⟨D, rfl, hD⟩ := hR3
 have hDl := hD.len
 have htp := hreach D hD
 have hDt := (hD.rng t ht.1 (by omega)).resolve_left (by omega)
 have htp2 : 0 ≤ D.getD t.toNat 0 ∧ D.getD t.toNat 0 ≤ 100000 * (cs.length : Int) := hDt
 refine hl_v rfl rfl rfl (rv_ev rfl) ?_
 refine hl_less (sx 0 rfl (sx 1 rfl (sx 2 rfl (sx 3 rfl (sx 8 rfl (sx 9 rfl (sub_nil _))))))) (.refl _) ?_
 refine hl_nil ?_
 refine hq_then ?_
 refine hc_seq ?_
 refine hc_seq ?_
 refine hc_region ?_
 refine hl_v rfl rfl rfl (rv_ev rfl) ?_
 refine hl_v rfl rfl rfl (rv_ev rfl) ?_
 refine hl_v rfl rfl rfl (rv_len rfl Try.underlying26 rfl (rd_row 0 rfl)) ?_
 refine hl_v rfl rfl rfl (rv_sub rfl rfl rfl (by constructor <;> omega)) ?_
 refine hl_callV rfl rfl rfl (rq_call (by kernel_rfl) rfl (fun w hm => ret_ans (ans_of (inRange_any _ _ _ w)))) ?_
 refine hl_bool (fun h4 => ?_) (fun h4 => absurd (((inr_in (by omega))).symm.trans h4) (by decide))
 refine hl_v rfl rfl rfl (rv_ev rfl) ?_
 refine hl_v rfl rfl rfl (rv_ev rfl) ?_
 refine hl_v rfl rfl rfl (rv_ev rfl) ?_
 refine hl_v rfl rfl rfl (rv_ev rfl) ?_
 refine hl_v rfl rfl rfl (rv_index (s := 1) rfl Try.underlying26 (by kernel_rfl) rfl rfl (rd_row 0 rfl) (by omega) (by first | omega | (simp only [List.length_set]; omega))) ?_
 refine hl_v rfl rfl rfl (rv_loadEl (u := .int .i64 (D.getD ((t).toNat) 0)) rfl (by kernel_rfl) rfl (rd_row 0 rfl) (ints_at1 (show _ < D.length by first | omega | (simp only [List.length_set]; omega)))) ?_
 refine hl_eql rfl rfl rfl rfl rfl rfl (fun h5 => absurd h5 (by omega)) (fun h5 => ?_)
 refine hl_v rfl rfl rfl (rv_ev rfl) ?_
 refine hl_less (sx 0 rfl (sx 1 rfl (sx 2 rfl (sx 3 rfl (sx 8 rfl (sx 9 rfl (sx 30 rfl (sub_nil _)))))))) (.refl _) ?_
 refine hl_nil ?_
 refine hq_then ?_
 refine hc_false rfl ?_
 refine hc_skip ?_
 refine hq_then ?_
 refine hc_seq ?_
 refine hc_region ?_
 refine hl_v rfl rfl rfl (rv_ev rfl) ?_
 refine hl_row rfl rfl rfl (rq_buildSlice (z := .int .i64 0) (s := 1) (cs := ([t].map (Value.int .i64))) rfl Try.underlying26 (by kernel_rfl) (by decide) rfl (by kernel_rfl) rfl) ?_
 intro g6
 refine hl_v rfl rfl rfl (rv_ev rfl) ?_
 refine hl_less (sx 0 rfl (sx 1 rfl (sx 2 rfl (sx 3 rfl (sx 8 rfl (sx 9 rfl (sx 10 rfl (sx 30 rfl (sub_nil _))))))))) (.refl _) ?_
 refine hl_nil ?_
 refine hq_then ?_
 refine hc_seq ?_
 refine hc_seq ?_
 refine hc_region ?_
 refine hl_v rfl rfl rfl (rv_ev rfl) ?_
 refine hl_v rfl rfl rfl (rv_ev rfl) ?_
 refine hl_less (sx 0 rfl (sx 1 rfl (sx 2 rfl (sx 3 rfl (sx 8 rfl (sx 9 rfl (sx 10 rfl (sx 11 rfl (sx 30 rfl (sub_nil _)))))))))) (.refl _) ?_
 refine hl_nil ?_
 refine hq_then ?_
 refine hc_block ?_
 refine hc_loop3 (α := Int) (β := Value) (γ := List Int) (fun x u xs => [rowE 3 1 u xs.length (xs.map (Value.int .i64)), rowE 3 1 v1 D.length (D.map (Value.int .i64))]) (fun x u xs => [(0, .pointer (some ⟨b, 0, none⟩)), (1, cv), (2, sv), (3, .int .i64 t), (8, .slice none 0 0), (9, v1), (10, u), (11, .int .i64 x), (30, .bool false)]) (fun x u xs => (0 ≤ x ∧ x < allI d) ∧ CP cs.length (srcI d) cs st D t x xs) (fun x u xs => (gI D x).toNat) t _ [t] ⟨ht, cp_one ht.1 (by omega) htp⟩ (sx 0 rfl (sx 1 rfl (sx 2 rfl (sx 3 rfl (sx 8 rfl (sx 9 rfl (sx 10 rfl (sx 11 rfl (sx 30 rfl (sub_nil _)))))))))) ((.cons_cons _ (.cons_cons _ .slnil))) ?_
 intro x u xs hi7
 obtain ⟨⟨hx0, hx1⟩, hcp⟩ := hi7
 have hxl := hcp.l0
 have hxm := hcp.len
 have hxp := hcp.pos
 have htp3 : gI D t = D.getD t.toNat 0 := rfl
 have hxp3 : gI D x = D.getD x.toNat 0 := rfl
 refine hc_seq ?_
 refine hc_seq ?_
 refine hc_region ?_
 refine hl_v rfl rfl rfl (rv_ev rfl) ?_
 refine hl_v rfl rfl rfl (rv_ev rfl) ?_
 refine hl_callV rfl rfl rfl (rq_call (by kernel_rfl) rfl (fun w hm => ret_ans (hasInt_ans st x _ w ((rd_old hsv) w hm) (by first | omega | simp)))) ?_
 refine hl_bool (fun h8 => ?_) (fun h8 => ?_)
 ·
  have hxyb := h8
  refine hl_v rfl rfl rfl (rv_ev rfl) ?_
  refine hl_less (sx 0 rfl (sx 1 rfl (sx 2 rfl (sx 3 rfl (sx 8 rfl (sx 9 rfl (sx 10 rfl (sx 11 rfl (sx 30 rfl (sx 37 rfl (sub_nil _))))))))))) (.refl _) ?_
  refine hl_nil ?_
  refine hq_then ?_
  refine hc_false rfl ?_
  refine hc_exit ?_
  refine hq_then_exit ?_
  refine hq_then_exit ?_
  refine hq_block_exit ?_
  refine hq_then ?_
  refine hc_seq ?_
  refine hc_region ?_
  refine hl_v rfl rfl rfl (rv_ev rfl) ?_
  refine hl_v rfl rfl rfl (rv_ev rfl) ?_
  refine hl_less (sx 0 rfl (sx 1 rfl (sx 2 rfl (sx 3 rfl (sx 8 rfl (sx 9 rfl (sx 10 rfl (sx 11 rfl (sx 30 rfl (sx 37 rfl (sub_nil _))))))))))) (.refl _) ?_
  refine hl_nil ?_
  refine hq_then ?_
  refine hc_ret ?_
  exact hq_retR (post := [rowE 3 1 u xs.length (xs.map (Value.int .i64))]) rfl rfl ((.cons_cons _ (.cons _ .slnil))) ⟨xs, rfl, D, x, hD, hasB_mem.1 hxyb, hcp⟩
 ·
  have hxnb := h8
  refine hl_v rfl rfl rfl (rv_ev rfl) ?_
  refine hl_less (sx 0 rfl (sx 1 rfl (sx 2 rfl (sx 3 rfl (sx 8 rfl (sx 9 rfl (sx 10 rfl (sx 11 rfl (sx 30 rfl (sx 37 rfl (sub_nil _))))))))))) (.refl _) ?_
  refine hl_nil ?_
  refine hq_then ?_
  refine hc_true rfl ?_
  refine hc_skip ?_
  refine hq_then ?_
  refine hc_block ?_
  refine hc_seq ?_
  refine hc_seq ?_
  refine hc_region ?_
  refine hl_v rfl rfl rfl (rv_ev rfl) ?_
  have hsol := hgk.so.len
  have hsn : (g.so.getD ((x).toNat) ir0).xs = srcI d x := by have := hgk.so.src x.toNat (by omega); rwa [Int.toNat_of_nonneg hx0] at this
  have hs16 : (g.so.getD ((x).toNat) ir0).xs.length ≤ 16 := by rw [hsn]; exact src_len16 _ _
  have hxn : ¬ x ∈ st := by rw [← hasB_mem]; simpa using hxnb
  have hck := hcr x.toNat (by omega)
  refine hl_v rfl rfl rfl (rv_nilCheck rfl rfl) ?_
  refine hl_v rfl rfl rfl (rv_field (k0 := 0) rfl (by kernel_rfl) rfl) ?_
  refine hl_v rfl rfl rfl (rv_load rfl (by kernel_rfl) rfl (fun w hm => (hm.bel.cell (p := ⟨b, 0 + 0, none⟩) hg.lt).trans hg.c0)) ?_
  refine hl_v rfl rfl rfl (rv_ev rfl) ?_
  refine hl_v rfl rfl rfl (rv_index (s := 1) rfl Try.underlying99 (by kernel_rfl) rfl rfl (fun w hm => (hg.so.below hm.bel).row) (by omega) (by first | omega | (simp only [List.length_set]; omega))) ?_
  refine hl_v rfl rfl rfl (rv_loadEl (u := (g.so.getD ((x).toNat) ir0).v) rfl (by kernel_rfl) rfl (fun w hm => (hg.so.below hm.bel).row) (flat_one irC (fun r => r.v) (fun _ => rfl) g.so ir0 (show (x).toNat < _ by first | omega | (simp only [List.length_set]; omega)))) ?_
  refine hl_v rfl rfl rfl (rv_len rfl Try.underlying26 rfl (fun w hm => (hg.so.at (k := x.toNat) (by omega)).below hm.bel)) ?_
  refine hl_v rfl rfl rfl (rv_ev rfl) ?_
  refine hl_less (sx 0 rfl (sx 1 rfl (sx 2 rfl (sx 3 rfl (sx 8 rfl (sx 9 rfl (sx 10 rfl (sx 11 rfl (sx 30 rfl (sx 37 rfl (sx 44 rfl (sx 45 rfl (sx 46 rfl (sub_nil _)))))))))))))) (.refl _) ?_
  refine hl_nil ?_
  refine hq_then ?_
  refine hc_block ?_
  refine hc_loop1 (α := Nat) (fun j => [rowE 3 1 u xs.length (xs.map (Value.int .i64)), rowE 3 1 v1 D.length (D.map (Value.int .i64))]) (fun j => [(0, .pointer (some ⟨b, 0, none⟩)), (1, cv), (2, sv), (3, .int .i64 t), (8, .slice none 0 0), (9, v1), (10, u), (11, .int .i64 x), (30, .bool false), (37, .bool true), (44, (g.so.getD ((x).toNat) ir0).v), (45, .int .i64 (((g.so.getD ((x).toNat) ir0).xs).length : Int)), (46, .int .i64 (j : Int))]) (fun j => j ≤ (g.so.getD ((x).toNat) ir0).xs.length ∧ ∀ i, i < j → ¬ (D.getD (((g.so.getD ((x).toNat) ir0).xs).getD i 0).toNat 0 ≠ -1 ∧ D.getD (((g.so.getD ((x).toNat) ir0).xs).getD i 0).toNat 0 + cs.getD x.toNat 0 = D.getD x.toNat 0)) (fun j => (g.so.getD ((x).toNat) ir0).xs.length - j) 0 ⟨by omega, fun i hi => absurd hi (by omega)⟩ (sx 0 rfl (sx 1 rfl (sx 2 rfl (sx 3 rfl (sx 8 rfl (sx 9 rfl (sx 10 rfl (sx 11 rfl (sx 30 rfl (sx 37 rfl (sx 44 rfl (sx 45 rfl (sx 46 rfl (sub_nil _)))))))))))))) ((.cons_cons _ (.cons_cons _ .slnil))) ?_
  intro j hi9
  obtain ⟨hj, hno⟩ := hi9
  refine hc_seq ?_
  refine hc_region ?_
  refine hl_lss rfl rfl rfl rfl rfl rfl (fun h10 => ?_) (fun h10 => ?_)
  ·
   refine hl_less (sx 0 rfl (sx 1 rfl (sx 2 rfl (sx 3 rfl (sx 8 rfl (sx 9 rfl (sx 10 rfl (sx 11 rfl (sx 30 rfl (sx 37 rfl (sx 44 rfl (sx 45 rfl (sx 46 rfl (sx 47 rfl (sub_nil _))))))))))))))) (.refl _) ?_
   refine hl_nil ?_
   refine hq_then ?_
   refine hc_seq ?_
   refine hc_true rfl ?_
   refine hc_skip ?_
   refine hq_then ?_
   refine hc_seq ?_
   refine hc_block ?_
   refine hc_seq ?_
   refine hc_region ?_
   refine hl_v rfl rfl rfl (rv_index (s := 1) rfl Try.underlying26 (by kernel_rfl) rfl rfl (fun w hm => (hg.so.at (k := x.toNat) (by omega)).below hm.bel) (by omega) (by first | omega | (simp only [List.length_set]; omega))) ?_
   refine hl_v rfl rfl rfl (rv_loadEl (u := .int .i64 (((g.so.getD ((x).toNat) ir0).xs).getD j 0)) rfl (by kernel_rfl) rfl (fun w hm => (hg.so.at (k := x.toNat) (by omega)).below hm.bel) (ints_at1 (show _ < ((g.so.getD ((x).toNat) ir0).xs).length by first | omega | (simp only [List.length_set]; omega)))) ?_
   refine hl_v rfl rfl rfl (rv_ev rfl) ?_
   refine hl_less (sx 0 rfl (sx 1 rfl (sx 2 rfl (sx 3 rfl (sx 8 rfl (sx 9 rfl (sx 10 rfl (sx 11 rfl (sx 13 rfl (sx 30 rfl (sx 37 rfl (sx 44 rfl (sx 45 rfl (sx 46 rfl (sx 47 rfl (sub_nil _)))))))))))))))) (.refl _) ?_
   refine hl_nil ?_
   refine hq_then ?_
   refine hc_seq ?_
   have hym : (((g.so.getD ((x).toNat) ir0).xs).getD j 0) ∈ srcI d x := by rw [← hsn]; exact getD_memZ (by omega)
   have hyr := src_rng hym
   have hyd := hD.rng (((g.so.getD ((x).toNat) ir0).xs).getD j 0) hyr.1 (by omega)
   have hyd2 : D.getD (((g.so.getD ((x).toNat) ir0).xs).getD j 0).toNat 0 = -1 ∨ (0 ≤ D.getD (((g.so.getD ((x).toNat) ir0).xs).getD j 0).toNat 0 ∧ D.getD (((g.so.getD ((x).toNat) ir0).xs).getD j 0).toNat 0 ≤ 100000 * (cs.length : Int)) := hyd
   rcases Bool.eq_false_or_eq_true ((D.getD ((((g.so.getD ((x).toNat) ir0).xs).getD j 0).toNat) 0) != (-1)) with hb11 | hb11
   ·
    have hb11p : D.getD ((((g.so.getD ((x).toNat) ir0).xs).getD j 0).toNat) 0 ≠ -1 := bne_iff_ne.1 hb11
    have hym : (((g.so.getD ((x).toNat) ir0).xs).getD j 0) ∈ srcI d x := by rw [← hsn]; exact getD_memZ (by omega)
    have hyr := src_rng hym
    have hyd := hD.rng (((g.so.getD ((x).toNat) ir0).xs).getD j 0) hyr.1 (by omega)
    have hyd2 : D.getD (((g.so.getD ((x).toNat) ir0).xs).getD j 0).toNat 0 = -1 ∨ (0 ≤ D.getD (((g.so.getD ((x).toNat) ir0).xs).getD j 0).toNat 0 ∧ D.getD (((g.so.getD ((x).toNat) ir0).xs).getD j 0).toNat 0 ≤ 100000 * (cs.length : Int)) := hyd
    rcases Bool.eq_false_or_eq_true (((D.getD ((((g.so.getD ((x).toNat) ir0).xs).getD j 0).toNat) 0) + (cs.getD ((x).toNat) 0)) == (D.getD ((x).toNat) 0)) with hb12 | hb12
    ·
     have hb12p : (D.getD ((((g.so.getD ((x).toNat) ir0).xs).getD j 0).toNat) 0) + (cs.getD ((x).toNat) 0) = D.getD ((x).toNat) 0 := beq_iff_eq.1 hb12
     have hym : (((g.so.getD ((x).toNat) ir0).xs).getD j 0) ∈ srcI d x := by rw [← hsn]; exact getD_memZ (by omega)
     have hyr := src_rng hym
     have hyd := hD.rng (((g.so.getD ((x).toNat) ir0).xs).getD j 0) hyr.1 (by omega)
     have hyd2 : D.getD (((g.so.getD ((x).toNat) ir0).xs).getD j 0).toNat 0 = -1 ∨ (0 ≤ D.getD (((g.so.getD ((x).toNat) ir0).xs).getD j 0).toNat 0 ∧ D.getD (((g.so.getD ((x).toNat) ir0).xs).getD j 0).toNat 0 ≤ 100000 * (cs.length : Int)) := hyd
     refine hc_draw (by kernel_rfl) 21 [0, 1, 2, 3, 4, 5, 6, 7, 8, 9, 10, 11, 12, 13, 14, 15, 16, 17, 18, 19, 20] (List.take 21 _) (List.drop 21 _) [[], [], [0, 1], [2], [3], [4], [5], [5], [5, 6, 7], [5, 8], [5], [5], [5, 10, 11], [5, 12], [5, 9, 13], [5], [5], [5, 15, 16], [5, 17], [5, 14, 18], [5, 19]] [50, 51, 52, 53, 54, 55, 56, 57, 58, 59, 60, 61, 62, 63, 64, 65, 66, 67, 68, 69, 70] (fun i_ vs_ v_ p_ => match i_ with | 0 => v_ = v1 ∧ p_ = [] | 1 => v_ = .int .i64 (((g.so.getD ((x).toNat) ir0).xs).getD j 0) ∧ p_ = [] | 2 => v_ = elP v1 ((((g.so.getD ((x).toNat) ir0).xs).getD j 0).toNat * 1) ∧ p_ = [] | 3 => v_ = .int .i64 (D.getD ((((g.so.getD ((x).toNat) ir0).xs).getD j 0).toNat) 0) ∧ p_ = [] | 4 => v_ = .bool true ∧ p_ = [] | 5 => v_ = .bool true ∧ p_ = [] | 6 => v_ = v1 ∧ p_ = [] | 7 => v_ = .int .i64 (((g.so.getD ((x).toNat) ir0).xs).getD j 0) ∧ p_ = [] | 8 => v_ = elP v1 ((((g.so.getD ((x).toNat) ir0).xs).getD j 0).toNat * 1) ∧ p_ = [] | 9 => v_ = .int .i64 (D.getD ((((g.so.getD ((x).toNat) ir0).xs).getD j 0).toNat) 0) ∧ p_ = [] | 10 => v_ = cv ∧ p_ = [] | 11 => v_ = .int .i64 x ∧ p_ = [] | 12 => v_ = elP cv ((x).toNat * 1) ∧ p_ = [] | 13 => v_ = .int .i64 (cs.getD ((x).toNat) 0) ∧ p_ = [] | 14 => v_ = .int .i64 ((D.getD ((((g.so.getD ((x).toNat) ir0).xs).getD j 0).toNat) 0) + (cs.getD ((x).toNat) 0)) ∧ p_ = [] | 15 => v_ = v1 ∧ p_ = [] | 16 => v_ = .int .i64 x ∧ p_ = [] | 17 => v_ = elP v1 ((x).toNat * 1) ∧ p_ = [] | 18 => v_ = .int .i64 (D.getD ((x).toNat) 0) ∧ p_ = [] | 19 => v_ = .bool true ∧ p_ = [] | 20 => v_ = .bool true ∧ p_ = [] | _ => True) (List.take_append_drop 21 _).symm (by kernel_rfl) (by kernel_rfl) rfl rfl ?_ ?_
     ·
      refine ⟨?_, ?_, ?_, ?_, ?_, ?_, ?_, ?_, ?_, ?_, ?_, ?_, ?_, ?_, ?_, ?_, ?_, ?_, ?_, ?_, ?_, trivial⟩
      ·
       intro vf pf hR
       refine Or.inl ⟨rfl, ?_⟩
       refine rq_less (sx 9 rfl (sub_nil _)) (List.sublist_append_right _ _) ?_
       exact rq_v (rv_ev rfl)
      ·
       intro vf pf hR
       refine Or.inl ⟨rfl, ?_⟩
       refine rq_less (sx 13 rfl (sub_nil _)) (List.sublist_append_right _ _) ?_
       exact rq_v (rv_ev rfl)
      ·
       intro vf pf hR
       have e0 : (vf 0) = v1 ∧ (pf 0) = [] := hR 0 (by decide)
       have e1 : (vf 1) = .int .i64 (((g.so.getD ((x).toNat) ir0).xs).getD j 0) ∧ (pf 1) = [] := hR 1 (by decide)
       refine Or.inl ⟨rfl, ?_⟩
       refine rq_less (sx 50 (congrArg some e0.1) (sx 51 (congrArg some e1.1) (sub_nil _))) (List.sublist_append_right _ _) ?_
       exact rq_v (rv_index (s := 1) rfl Try.underlying26 (by kernel_rfl) rfl rfl (rd_row 1 rfl) (by omega) (by first | omega | (simp only [List.length_set]; omega)))
      ·
       intro vf pf hR
       have e2 : (vf 2) = elP v1 ((((g.so.getD ((x).toNat) ir0).xs).getD j 0).toNat * 1) ∧ (pf 2) = [] := hR 2 (by decide)
       refine Or.inl ⟨rfl, ?_⟩
       refine rq_less (sx 52 (congrArg some e2.1) (sub_nil _)) (List.sublist_append_right _ _) ?_
       exact rq_v (rv_loadEl (u := .int .i64 (D.getD ((((g.so.getD ((x).toNat) ir0).xs).getD j 0).toNat) 0)) rfl (by kernel_rfl) rfl (rd_row 1 rfl) (ints_at1 (show _ < D.length by first | omega | (simp only [List.length_set]; omega))))
      ·
       intro vf pf hR
       have e3 : (vf 3) = .int .i64 (D.getD ((((g.so.getD ((x).toNat) ir0).xs).getD j 0).toNat) 0) ∧ (pf 3) = [] := hR 3 (by decide)
       refine Or.inl ⟨rfl, ?_⟩
       refine rq_less (sx 53 (congrArg some e3.1) (sub_nil _)) (List.sublist_append_right _ _) ?_
       exact rq_mono (rq_v (rv_cmp rfl rfl rfl rfl)) (fun _ _ h => ⟨h.1.trans (congrArg Value.bool hb11), h.2⟩)
      ·
       intro vf pf hR
       have e4 : (vf 4) = .bool true ∧ (pf 4) = [] := hR 4 (by decide)
       refine Or.inl ⟨rfl, ?_⟩
       refine rq_less (sx 54 (congrArg some e4.1) (sub_nil _)) (List.sublist_append_right _ _) ?_
       exact rq_v (rv_ev rfl)
      ·
       intro vf pf hR
       have e5 : (vf 5) = .bool true ∧ (pf 5) = [] := hR 5 (by decide)
       refine Or.inl ⟨want_of (congrArg some e5.1) rfl, ?_⟩
       refine rq_less (sx 9 rfl (sub_nil _)) (List.sublist_append_right _ _) ?_
       exact rq_v (rv_ev rfl)
      ·
       intro vf pf hR
       have e5 : (vf 5) = .bool true ∧ (pf 5) = [] := hR 5 (by decide)
       refine Or.inl ⟨want_of (congrArg some e5.1) rfl, ?_⟩
       refine rq_less (sx 13 rfl (sub_nil _)) (List.sublist_append_right _ _) ?_
       exact rq_v (rv_ev rfl)
      ·
       intro vf pf hR
       have e5 : (vf 5) = .bool true ∧ (pf 5) = [] := hR 5 (by decide)
       have e6 : (vf 6) = v1 ∧ (pf 6) = [] := hR 6 (by decide)
       have e7 : (vf 7) = .int .i64 (((g.so.getD ((x).toNat) ir0).xs).getD j 0) ∧ (pf 7) = [] := hR 7 (by decide)
       refine Or.inl ⟨want_of (congrArg some e5.1) rfl, ?_⟩
       refine rq_less (sx 56 (congrArg some e6.1) (sx 57 (congrArg some e7.1) (sub_nil _))) (List.sublist_append_right _ _) ?_
       exact rq_v (rv_index (s := 1) rfl Try.underlying26 (by kernel_rfl) rfl rfl (rd_row 1 rfl) (by omega) (by first | omega | (simp only [List.length_set]; omega)))
      ·
       intro vf pf hR
       have e5 : (vf 5) = .bool true ∧ (pf 5) = [] := hR 5 (by decide)
       have e8 : (vf 8) = elP v1 ((((g.so.getD ((x).toNat) ir0).xs).getD j 0).toNat * 1) ∧ (pf 8) = [] := hR 8 (by decide)
       refine Or.inl ⟨want_of (congrArg some e5.1) rfl, ?_⟩
       refine rq_less (sx 58 (congrArg some e8.1) (sub_nil _)) (List.sublist_append_right _ _) ?_
       exact rq_v (rv_loadEl (u := .int .i64 (D.getD ((((g.so.getD ((x).toNat) ir0).xs).getD j 0).toNat) 0)) rfl (by kernel_rfl) rfl (rd_row 1 rfl) (ints_at1 (show _ < D.length by first | omega | (simp only [List.length_set]; omega))))
      ·
       intro vf pf hR
       have e5 : (vf 5) = .bool true ∧ (pf 5) = [] := hR 5 (by decide)
       refine Or.inl ⟨want_of (congrArg some e5.1) rfl, ?_⟩
       refine rq_less (sx 1 rfl (sub_nil _)) (List.sublist_append_right _ _) ?_
       exact rq_v (rv_ev rfl)
      ·
       intro vf pf hR
       have e5 : (vf 5) = .bool true ∧ (pf 5) = [] := hR 5 (by decide)
       refine Or.inl ⟨want_of (congrArg some e5.1) rfl, ?_⟩
       refine rq_less (sx 11 rfl (sub_nil _)) (List.sublist_append_right _ _) ?_
       exact rq_v (rv_ev rfl)
      ·
       intro vf pf hR
       have e5 : (vf 5) = .bool true ∧ (pf 5) = [] := hR 5 (by decide)
       have e10 : (vf 10) = cv ∧ (pf 10) = [] := hR 10 (by decide)
       have e11 : (vf 11) = .int .i64 x ∧ (pf 11) = [] := hR 11 (by decide)
       refine Or.inl ⟨want_of (congrArg some e5.1) rfl, ?_⟩
       refine rq_less (sx 60 (congrArg some e10.1) (sx 61 (congrArg some e11.1) (sub_nil _))) (List.sublist_append_right _ _) ?_
       exact rq_v (rv_index (s := 1) rfl Try.underlying26 (by kernel_rfl) rfl rfl (rd_old hcv) (by omega) (by first | omega | (simp only [List.length_set]; omega)))
      ·
       intro vf pf hR
       have e5 : (vf 5) = .bool true ∧ (pf 5) = [] := hR 5 (by decide)
       have e12 : (vf 12) = elP cv ((x).toNat * 1) ∧ (pf 12) = [] := hR 12 (by decide)
       refine Or.inl ⟨want_of (congrArg some e5.1) rfl, ?_⟩
       refine rq_less (sx 62 (congrArg some e12.1) (sub_nil _)) (List.sublist_append_right _ _) ?_
       exact rq_v (rv_loadEl (u := .int .i64 (cs.getD ((x).toNat) 0)) rfl (by kernel_rfl) rfl (rd_old hcv) (ints_at1 (show _ < cs.length by first | omega | (simp only [List.length_set]; omega))))
      ·
       intro vf pf hR
       have e5 : (vf 5) = .bool true ∧ (pf 5) = [] := hR 5 (by decide)
       have e9 : (vf 9) = .int .i64 (D.getD ((((g.so.getD ((x).toNat) ir0).xs).getD j 0).toNat) 0) ∧ (pf 9) = [] := hR 9 (by decide)
       have e13 : (vf 13) = .int .i64 (cs.getD ((x).toNat) 0) ∧ (pf 13) = [] := hR 13 (by decide)
       refine Or.inl ⟨want_of (congrArg some e5.1) rfl, ?_⟩
       refine rq_less (sx 59 (congrArg some e9.1) (sx 63 (congrArg some e13.1) (sub_nil _))) (List.sublist_append_right _ _) ?_
       exact rq_v (rv_add rfl rfl rfl (by constructor <;> omega))
      ·
       intro vf pf hR
       have e5 : (vf 5) = .bool true ∧ (pf 5) = [] := hR 5 (by decide)
       refine Or.inl ⟨want_of (congrArg some e5.1) rfl, ?_⟩
       refine rq_less (sx 9 rfl (sub_nil _)) (List.sublist_append_right _ _) ?_
       exact rq_v (rv_ev rfl)
      ·
       intro vf pf hR
       have e5 : (vf 5) = .bool true ∧ (pf 5) = [] := hR 5 (by decide)
       refine Or.inl ⟨want_of (congrArg some e5.1) rfl, ?_⟩
       refine rq_less (sx 11 rfl (sub_nil _)) (List.sublist_append_right _ _) ?_
       exact rq_v (rv_ev rfl)
      ·
       intro vf pf hR
       have e5 : (vf 5) = .bool true ∧ (pf 5) = [] := hR 5 (by decide)
       have e15 : (vf 15) = v1 ∧ (pf 15) = [] := hR 15 (by decide)
       have e16 : (vf 16) = .int .i64 x ∧ (pf 16) = [] := hR 16 (by decide)
       refine Or.inl ⟨want_of (congrArg some e5.1) rfl, ?_⟩
       refine rq_less (sx 65 (congrArg some e15.1) (sx 66 (congrArg some e16.1) (sub_nil _))) (List.sublist_append_right _ _) ?_
       exact rq_v (rv_index (s := 1) rfl Try.underlying26 (by kernel_rfl) rfl rfl (rd_row 1 rfl) (by omega) (by first | omega | (simp only [List.length_set]; omega)))
      ·
       intro vf pf hR
       have e5 : (vf 5) = .bool true ∧ (pf 5) = [] := hR 5 (by decide)
       have e17 : (vf 17) = elP v1 ((x).toNat * 1) ∧ (pf 17) = [] := hR 17 (by decide)
       refine Or.inl ⟨want_of (congrArg some e5.1) rfl, ?_⟩
       refine rq_less (sx 67 (congrArg some e17.1) (sub_nil _)) (List.sublist_append_right _ _) ?_
       exact rq_v (rv_loadEl (u := .int .i64 (D.getD ((x).toNat) 0)) rfl (by kernel_rfl) rfl (rd_row 1 rfl) (ints_at1 (show _ < D.length by first | omega | (simp only [List.length_set]; omega))))
      ·
       intro vf pf hR
       have e5 : (vf 5) = .bool true ∧ (pf 5) = [] := hR 5 (by decide)
       have e14 : (vf 14) = .int .i64 ((D.getD ((((g.so.getD ((x).toNat) ir0).xs).getD j 0).toNat) 0) + (cs.getD ((x).toNat) 0)) ∧ (pf 14) = [] := hR 14 (by decide)
       have e18 : (vf 18) = .int .i64 (D.getD ((x).toNat) 0) ∧ (pf 18) = [] := hR 18 (by decide)
       refine Or.inl ⟨want_of (congrArg some e5.1) rfl, ?_⟩
       refine rq_less (sx 64 (congrArg some e14.1) (sx 68 (congrArg some e18.1) (sub_nil _))) (List.sublist_append_right _ _) ?_
       exact rq_mono (rq_v (rv_cmp rfl rfl rfl rfl)) (fun _ _ h => ⟨h.1.trans (congrArg Value.bool hb12), h.2⟩)
      ·
       intro vf pf hR
       have e5 : (vf 5) = .bool true ∧ (pf 5) = [] := hR 5 (by decide)
       have e19 : (vf 19) = .bool true ∧ (pf 19) = [] := hR 19 (by decide)
       refine Or.inl ⟨rfl, ?_⟩
       refine rq_less (sx 55 (congrArg some e5.1) (sx 69 (congrArg some e19.1) (sub_nil _))) (List.sublist_append_right _ _) ?_
       exact rq_v (rv_ev rfl)
     ·
      intro vf pf hR
      have e20 : (vf 20) = .bool true ∧ (pf 20) = [] := hR 20 (by decide)
      refine hl_less (l' := [rowE 3 1 u xs.length (xs.map (Value.int .i64)), rowE 3 1 v1 D.length (D.map (Value.int .i64))]) (sx 0 rfl (sx 1 rfl (sx 2 rfl (sx 3 rfl (sx 8 rfl (sx 9 rfl (sx 10 rfl (sx 11 rfl (sx 13 rfl (sx 30 rfl (sx 37 rfl (sx 44 rfl (sx 45 rfl (sx 46 rfl (sx 47 rfl (sx 70 (congrArg some e20.1) (sub_nil _))))))))))))))))) (List.sublist_append_right _ _) ?_
      simp only [List.drop_succ_cons, List.drop_zero]
      refine hl_less (sx 0 rfl (sx 1 rfl (sx 2 rfl (sx 3 rfl (sx 8 rfl (sx 9 rfl (sx 10 rfl (sx 11 rfl (sx 13 rfl (sx 30 rfl (sx 37 rfl (sx 44 rfl (sx 45 rfl (sx 46 rfl (sx 47 rfl (sx 70 rfl (sub_nil _))))))))))))))))) (.refl _) ?_
      refine hl_nil ?_
      refine hq_then ?_
      refine hc_true rfl ?_
      refine hc_seq ?_
      refine hc_region ?_
      refine hl_v rfl rfl rfl (rv_ev rfl) ?_
      refine hl_v rfl rfl rfl (rv_ev rfl) ?_
      refine hl_less (sx 0 rfl (sx 1 rfl (sx 2 rfl (sx 3 rfl (sx 8 rfl (sx 9 rfl (sx 10 rfl (sx 11 rfl (sx 13 rfl (sx 30 rfl (sx 37 rfl (sx 44 rfl (sx 45 rfl (sx 46 rfl (sx 47 rfl (sx 70 rfl (sub_nil _))))))))))))))))) (.refl _) ?_
      refine hl_nil ?_
      refine hq_then ?_
      refine hc_exit ?_
      refine hq_block_past rfl ?_
      refine hq_then_exit ?_
      refine hq_then_exit ?_
      refine hq_block_exit ?_
      refine hq_then ?_
      refine hc_region ?_
      refine hl_v rfl rfl rfl (rv_ev rfl) ?_
      refine hl_row rfl rfl rfl (rq_buildSlice (z := .int .i64 0) (s := 1) (cs := ([((g.so.getD ((x).toNat) ir0).xs).getD j 0].map (Value.int .i64))) rfl Try.underlying26 (by kernel_rfl) (by decide) rfl (by kernel_rfl) rfl) ?_
      intro g13
      refine hl_v rfl rfl rfl (rv_ev rfl) ?_
      refine hl_append (i := 0) (z := .int .i64 0) (bytes := 8) (n' := (([((g.so.getD ((x).toNat) ir0).xs).getD j 0]) ++ xs).length) (xs' := ((([((g.so.getD ((x).toNat) ir0).xs).getD j 0]) ++ xs).map (Value.int .i64))) (L := fun v14 => [rowE 3 1 v14 ((([((g.so.getD ((x).toNat) ir0).xs).getD j 0]) ++ xs).length) ((([((g.so.getD ((x).toNat) ir0).xs).getD j 0]) ++ xs).map (Value.int .i64)), rowE 3 1 u xs.length (xs.map (Value.int .i64)), rowE 3 1 v1 D.length (D.map (Value.int .i64))]) rfl rfl rfl rfl Try.underlying26 (by kernel_rfl) (by kernel_rfl) rfl rfl rfl (rd_row 1 rfl) (ints_one _) (by first | omega | (simp; omega)) (len_app ([((g.so.getD ((x).toNat) ir0).xs).getD j 0]) xs) (ints_app ([((g.so.getD ((x).toNat) ir0).xs).getD j 0]) xs) (fun _ => rfl) ?_
      intro v14
      refine hl_v rfl rfl rfl (rv_ev rfl) ?_
      refine hl_less (sx 0 rfl (sx 1 rfl (sx 2 rfl (sx 3 rfl (sx 8 rfl (sx 9 rfl (sx 10 rfl (sx 11 rfl (sx 13 rfl (sx 30 rfl (sx 37 rfl (sx 44 rfl (sx 45 rfl (sx 46 rfl (sx 47 rfl (sx 70 rfl (sub_nil _))))))))))))))))) (.refl _) ?_
      refine hl_nil ?_
      refine hq_block_normal ?_
      exact hq_round3 (((g.so.getD ((x).toNat) ir0).xs).getD j 0) v14 (([((g.so.getD ((x).toNat) ir0).xs).getD j 0]) ++ xs) ⟨hyr, hcp.more hxn hym hyr.1 (by omega) (by unfold gI; omega) (by unfold gI; omega) (by unfold gI; omega)⟩ (by unfold gI; omega) (sx 0 rfl (sx 1 rfl (sx 2 rfl (sx 3 rfl (sx 8 rfl (sx 9 rfl (sx 10 rfl (sx 11 rfl (sx 30 rfl (sub_nil _)))))))))) ((.cons_cons _ (.cons _ (.cons_cons _ .slnil))))
    ·
     have hb12p : (D.getD ((((g.so.getD ((x).toNat) ir0).xs).getD j 0).toNat) 0) + (cs.getD ((x).toNat) 0) ≠ D.getD ((x).toNat) 0 := beq_eq_false_iff_ne.1 hb12
     have hym : (((g.so.getD ((x).toNat) ir0).xs).getD j 0) ∈ srcI d x := by rw [← hsn]; exact getD_memZ (by omega)
     have hyr := src_rng hym
     have hyd := hD.rng (((g.so.getD ((x).toNat) ir0).xs).getD j 0) hyr.1 (by omega)
     have hyd2 : D.getD (((g.so.getD ((x).toNat) ir0).xs).getD j 0).toNat 0 = -1 ∨ (0 ≤ D.getD (((g.so.getD ((x).toNat) ir0).xs).getD j 0).toNat 0 ∧ D.getD (((g.so.getD ((x).toNat) ir0).xs).getD j 0).toNat 0 ≤ 100000 * (cs.length : Int)) := hyd
     refine hc_draw (by kernel_rfl) 21 [0, 1, 2, 3, 4, 5, 6, 7, 8, 9, 10, 11, 12, 13, 14, 15, 16, 17, 18, 19, 20] (List.take 21 _) (List.drop 21 _) [[], [], [0, 1], [2], [3], [4], [5], [5], [5, 6, 7], [5, 8], [5], [5], [5, 10, 11], [5, 12], [5, 9, 13], [5], [5], [5, 15, 16], [5, 17], [5, 14, 18], [5, 19]] [50, 51, 52, 53, 54, 55, 56, 57, 58, 59, 60, 61, 62, 63, 64, 65, 66, 67, 68, 69, 70] (fun i_ vs_ v_ p_ => match i_ with | 0 => v_ = v1 ∧ p_ = [] | 1 => v_ = .int .i64 (((g.so.getD ((x).toNat) ir0).xs).getD j 0) ∧ p_ = [] | 2 => v_ = elP v1 ((((g.so.getD ((x).toNat) ir0).xs).getD j 0).toNat * 1) ∧ p_ = [] | 3 => v_ = .int .i64 (D.getD ((((g.so.getD ((x).toNat) ir0).xs).getD j 0).toNat) 0) ∧ p_ = [] | 4 => v_ = .bool true ∧ p_ = [] | 5 => v_ = .bool true ∧ p_ = [] | 6 => v_ = v1 ∧ p_ = [] | 7 => v_ = .int .i64 (((g.so.getD ((x).toNat) ir0).xs).getD j 0) ∧ p_ = [] | 8 => v_ = elP v1 ((((g.so.getD ((x).toNat) ir0).xs).getD j 0).toNat * 1) ∧ p_ = [] | 9 => v_ = .int .i64 (D.getD ((((g.so.getD ((x).toNat) ir0).xs).getD j 0).toNat) 0) ∧ p_ = [] | 10 => v_ = cv ∧ p_ = [] | 11 => v_ = .int .i64 x ∧ p_ = [] | 12 => v_ = elP cv ((x).toNat * 1) ∧ p_ = [] | 13 => v_ = .int .i64 (cs.getD ((x).toNat) 0) ∧ p_ = [] | 14 => v_ = .int .i64 ((D.getD ((((g.so.getD ((x).toNat) ir0).xs).getD j 0).toNat) 0) + (cs.getD ((x).toNat) 0)) ∧ p_ = [] | 15 => v_ = v1 ∧ p_ = [] | 16 => v_ = .int .i64 x ∧ p_ = [] | 17 => v_ = elP v1 ((x).toNat * 1) ∧ p_ = [] | 18 => v_ = .int .i64 (D.getD ((x).toNat) 0) ∧ p_ = [] | 19 => v_ = .bool false ∧ p_ = [] | 20 => v_ = .bool false ∧ p_ = [] | _ => True) (List.take_append_drop 21 _).symm (by kernel_rfl) (by kernel_rfl) rfl rfl ?_ ?_
     ·
      refine ⟨?_, ?_, ?_, ?_, ?_, ?_, ?_, ?_, ?_, ?_, ?_, ?_, ?_, ?_, ?_, ?_, ?_, ?_, ?_, ?_, ?_, trivial⟩
      ·
       intro vf pf hR
       refine Or.inl ⟨rfl, ?_⟩
       refine rq_less (sx 9 rfl (sub_nil _)) (List.sublist_append_right _ _) ?_
       exact rq_v (rv_ev rfl)
      ·
       intro vf pf hR
       refine Or.inl ⟨rfl, ?_⟩
       refine rq_less (sx 13 rfl (sub_nil _)) (List.sublist_append_right _ _) ?_
       exact rq_v (rv_ev rfl)
      ·
       intro vf pf hR
       have e0 : (vf 0) = v1 ∧ (pf 0) = [] := hR 0 (by decide)
       have e1 : (vf 1) = .int .i64 (((g.so.getD ((x).toNat) ir0).xs).getD j 0) ∧ (pf 1) = [] := hR 1 (by decide)
       refine Or.inl ⟨rfl, ?_⟩
       refine rq_less (sx 50 (congrArg some e0.1) (sx 51 (congrArg some e1.1) (sub_nil _))) (List.sublist_append_right _ _) ?_
       exact rq_v (rv_index (s := 1) rfl Try.underlying26 (by kernel_rfl) rfl rfl (rd_row 1 rfl) (by omega) (by first | omega | (simp only [List.length_set]; omega)))
      ·
       intro vf pf hR
       have e2 : (vf 2) = elP v1 ((((g.so.getD ((x).toNat) ir0).xs).getD j 0).toNat * 1) ∧ (pf 2) = [] := hR 2 (by decide)
       refine Or.inl ⟨rfl, ?_⟩
       refine rq_less (sx 52 (congrArg some e2.1) (sub_nil _)) (List.sublist_append_right _ _) ?_
       exact rq_v (rv_loadEl (u := .int .i64 (D.getD ((((g.so.getD ((x).toNat) ir0).xs).getD j 0).toNat) 0)) rfl (by kernel_rfl) rfl (rd_row 1 rfl) (ints_at1 (show _ < D.length by first | omega | (simp only [List.length_set]; omega))))
      ·
       intro vf pf hR
       have e3 : (vf 3) = .int .i64 (D.getD ((((g.so.getD ((x).toNat) ir0).xs).getD j 0).toNat) 0) ∧ (pf 3) = [] := hR 3 (by decide)
       refine Or.inl ⟨rfl, ?_⟩
       refine rq_less (sx 53 (congrArg some e3.1) (sub_nil _)) (List.sublist_append_right _ _) ?_
       exact rq_mono (rq_v (rv_cmp rfl rfl rfl rfl)) (fun _ _ h => ⟨h.1.trans (congrArg Value.bool hb11), h.2⟩)
      ·
       intro vf pf hR
       have e4 : (vf 4) = .bool true ∧ (pf 4) = [] := hR 4 (by decide)
       refine Or.inl ⟨rfl, ?_⟩
       refine rq_less (sx 54 (congrArg some e4.1) (sub_nil _)) (List.sublist_append_right _ _) ?_
       exact rq_v (rv_ev rfl)
      ·
       intro vf pf hR
       have e5 : (vf 5) = .bool true ∧ (pf 5) = [] := hR 5 (by decide)
       refine Or.inl ⟨want_of (congrArg some e5.1) rfl, ?_⟩
       refine rq_less (sx 9 rfl (sub_nil _)) (List.sublist_append_right _ _) ?_
       exact rq_v (rv_ev rfl)
      ·
       intro vf pf hR
       have e5 : (vf 5) = .bool true ∧ (pf 5) = [] := hR 5 (by decide)
       refine Or.inl ⟨want_of (congrArg some e5.1) rfl, ?_⟩
       refine rq_less (sx 13 rfl (sub_nil _)) (List.sublist_append_right _ _) ?_
       exact rq_v (rv_ev rfl)
      ·
       intro vf pf hR
       have e5 : (vf 5) = .bool true ∧ (pf 5) = [] := hR 5 (by decide)
       have e6 : (vf 6) = v1 ∧ (pf 6) = [] := hR 6 (by decide)
       have e7 : (vf 7) = .int .i64 (((g.so.getD ((x).toNat) ir0).xs).getD j 0) ∧ (pf 7) = [] := hR 7 (by decide)
       refine Or.inl ⟨want_of (congrArg some e5.1) rfl, ?_⟩
       refine rq_less (sx 56 (congrArg some e6.1) (sx 57 (congrArg some e7.1) (sub_nil _))) (List.sublist_append_right _ _) ?_
       exact rq_v (rv_index (s := 1) rfl Try.underlying26 (by kernel_rfl) rfl rfl (rd_row 1 rfl) (by omega) (by first | omega | (simp only [List.length_set]; omega)))
      ·
       intro vf pf hR
       have e5 : (vf 5) = .bool true ∧ (pf 5) = [] := hR 5 (by decide)
       have e8 : (vf 8) = elP v1 ((((g.so.getD ((x).toNat) ir0).xs).getD j 0).toNat * 1) ∧ (pf 8) = [] := hR 8 (by decide)
       refine Or.inl ⟨want_of (congrArg some e5.1) rfl, ?_⟩
       refine rq_less (sx 58 (congrArg some e8.1) (sub_nil _)) (List.sublist_append_right _ _) ?_
       exact rq_v (rv_loadEl (u := .int .i64 (D.getD ((((g.so.getD ((x).toNat) ir0).xs).getD j 0).toNat) 0)) rfl (by kernel_rfl) rfl (rd_row 1 rfl) (ints_at1 (show _ < D.length by first | omega | (simp only [List.length_set]; omega))))
      ·
       intro vf pf hR
       have e5 : (vf 5) = .bool true ∧ (pf 5) = [] := hR 5 (by decide)
       refine Or.inl ⟨want_of (congrArg some e5.1) rfl, ?_⟩
       refine rq_less (sx 1 rfl (sub_nil _)) (List.sublist_append_right _ _) ?_
       exact rq_v (rv_ev rfl)
      ·
       intro vf pf hR
       have e5 : (vf 5) = .bool true ∧ (pf 5) = [] := hR 5 (by decide)
       refine Or.inl ⟨want_of (congrArg some e5.1) rfl, ?_⟩
       refine rq_less (sx 11 rfl (sub_nil _)) (List.sublist_append_right _ _) ?_
       exact rq_v (rv_ev rfl)
      ·
       intro vf pf hR
       have e5 : (vf 5) = .bool true ∧ (pf 5) = [] := hR 5 (by decide)
       have e10 : (vf 10) = cv ∧ (pf 10) = [] := hR 10 (by decide)
       have e11 : (vf 11) = .int .i64 x ∧ (pf 11) = [] := hR 11 (by decide)
       refine Or.inl ⟨want_of (congrArg some e5.1) rfl, ?_⟩
       refine rq_less (sx 60 (congrArg some e10.1) (sx 61 (congrArg some e11.1) (sub_nil _))) (List.sublist_append_right _ _) ?_
       exact rq_v (rv_index (s := 1) rfl Try.underlying26 (by kernel_rfl) rfl rfl (rd_old hcv) (by omega) (by first | omega | (simp only [List.length_set]; omega)))
      ·
       intro vf pf hR
       have e5 : (vf 5) = .bool true ∧ (pf 5) = [] := hR 5 (by decide)
       have e12 : (vf 12) = elP cv ((x).toNat * 1) ∧ (pf 12) = [] := hR 12 (by decide)
       refine Or.inl ⟨want_of (congrArg some e5.1) rfl, ?_⟩
       refine rq_less (sx 62 (congrArg some e12.1) (sub_nil _)) (List.sublist_append_right _ _) ?_
       exact rq_v (rv_loadEl (u := .int .i64 (cs.getD ((x).toNat) 0)) rfl (by kernel_rfl) rfl (rd_old hcv) (ints_at1 (show _ < cs.length by first | omega | (simp only [List.length_set]; omega))))
      ·
       intro vf pf hR
       have e5 : (vf 5) = .bool true ∧ (pf 5) = [] := hR 5 (by decide)
       have e9 : (vf 9) = .int .i64 (D.getD ((((g.so.getD ((x).toNat) ir0).xs).getD j 0).toNat) 0) ∧ (pf 9) = [] := hR 9 (by decide)
       have e13 : (vf 13) = .int .i64 (cs.getD ((x).toNat) 0) ∧ (pf 13) = [] := hR 13 (by decide)
       refine Or.inl ⟨want_of (congrArg some e5.1) rfl, ?_⟩
       refine rq_less (sx 59 (congrArg some e9.1) (sx 63 (congrArg some e13.1) (sub_nil _))) (List.sublist_append_right _ _) ?_
       exact rq_v (rv_add rfl rfl rfl (by constructor <;> omega))
      ·
       intro vf pf hR
       have e5 : (vf 5) = .bool true ∧ (pf 5) = [] := hR 5 (by decide)
       refine Or.inl ⟨want_of (congrArg some e5.1) rfl, ?_⟩
       refine rq_less (sx 9 rfl (sub_nil _)) (List.sublist_append_right _ _) ?_
       exact rq_v (rv_ev rfl)
      ·
       intro vf pf hR
       have e5 : (vf 5) = .bool true ∧ (pf 5) = [] := hR 5 (by decide)
       refine Or.inl ⟨want_of (congrArg some e5.1) rfl, ?_⟩
       refine rq_less (sx 11 rfl (sub_nil _)) (List.sublist_append_right _ _) ?_
       exact rq_v (rv_ev rfl)
      ·
       intro vf pf hR
       have e5 : (vf 5) = .bool true ∧ (pf 5) = [] := hR 5 (by decide)
       have e15 : (vf 15) = v1 ∧ (pf 15) = [] := hR 15 (by decide)
       have e16 : (vf 16) = .int .i64 x ∧ (pf 16) = [] := hR 16 (by decide)
       refine Or.inl ⟨want_of (congrArg some e5.1) rfl, ?_⟩
       refine rq_less (sx 65 (congrArg some e15.1) (sx 66 (congrArg some e16.1) (sub_nil _))) (List.sublist_append_right _ _) ?_
       exact rq_v (rv_index (s := 1) rfl Try.underlying26 (by kernel_rfl) rfl rfl (rd_row 1 rfl) (by omega) (by first | omega | (simp only [List.length_set]; omega)))
      ·
       intro vf pf hR
       have e5 : (vf 5) = .bool true ∧ (pf 5) = [] := hR 5 (by decide)
       have e17 : (vf 17) = elP v1 ((x).toNat * 1) ∧ (pf 17) = [] := hR 17 (by decide)
       refine Or.inl ⟨want_of (congrArg some e5.1) rfl, ?_⟩
       refine rq_less (sx 67 (congrArg some e17.1) (sub_nil _)) (List.sublist_append_right _ _) ?_
       exact rq_v (rv_loadEl (u := .int .i64 (D.getD ((x).toNat) 0)) rfl (by kernel_rfl) rfl (rd_row 1 rfl) (ints_at1 (show _ < D.length by first | omega | (simp only [List.length_set]; omega))))
      ·
       intro vf pf hR
       have e5 : (vf 5) = .bool true ∧ (pf 5) = [] := hR 5 (by decide)
       have e14 : (vf 14) = .int .i64 ((D.getD ((((g.so.getD ((x).toNat) ir0).xs).getD j 0).toNat) 0) + (cs.getD ((x).toNat) 0)) ∧ (pf 14) = [] := hR 14 (by decide)
       have e18 : (vf 18) = .int .i64 (D.getD ((x).toNat) 0) ∧ (pf 18) = [] := hR 18 (by decide)
       refine Or.inl ⟨want_of (congrArg some e5.1) rfl, ?_⟩
       refine rq_less (sx 64 (congrArg some e14.1) (sx 68 (congrArg some e18.1) (sub_nil _))) (List.sublist_append_right _ _) ?_
       exact rq_mono (rq_v (rv_cmp rfl rfl rfl rfl)) (fun _ _ h => ⟨h.1.trans (congrArg Value.bool hb12), h.2⟩)
      ·
       intro vf pf hR
       have e5 : (vf 5) = .bool true ∧ (pf 5) = [] := hR 5 (by decide)
       have e19 : (vf 19) = .bool false ∧ (pf 19) = [] := hR 19 (by decide)
       refine Or.inl ⟨rfl, ?_⟩
       refine rq_less (sx 55 (congrArg some e5.1) (sx 69 (congrArg some e19.1) (sub_nil _))) (List.sublist_append_right _ _) ?_
       exact rq_v (rv_ev rfl)
     ·
      intro vf pf hR
      have e20 : (vf 20) = .bool false ∧ (pf 20) = [] := hR 20 (by decide)
      refine hl_less (l' := [rowE 3 1 u xs.length (xs.map (Value.int .i64)), rowE 3 1 v1 D.length (D.map (Value.int .i64))]) (sx 0 rfl (sx 1 rfl (sx 2 rfl (sx 3 rfl (sx 8 rfl (sx 9 rfl (sx 10 rfl (sx 11 rfl (sx 13 rfl (sx 30 rfl (sx 37 rfl (sx 44 rfl (sx 45 rfl (sx 46 rfl (sx 47 rfl (sx 70 (congrArg some e20.1) (sub_nil _))))))))))))))))) (List.sublist_append_right _ _) ?_
      simp only [List.drop_succ_cons, List.drop_zero]
      refine hl_less (sx 0 rfl (sx 1 rfl (sx 2 rfl (sx 3 rfl (sx 8 rfl (sx 9 rfl (sx 10 rfl (sx 11 rfl (sx 13 rfl (sx 30 rfl (sx 37 rfl (sx 44 rfl (sx 45 rfl (sx 46 rfl (sx 47 rfl (sx 70 rfl (sub_nil _))))))))))))))))) (.refl _) ?_
      refine hl_nil ?_
      refine hq_then ?_
      refine hc_false rfl ?_
      refine hc_skip ?_
      refine hq_block_normal ?_
      refine hq_then ?_
      refine hc_region ?_
      refine hl_v rfl rfl rfl (rv_add rfl rfl rfl (by constructor <;> omega)) ?_
      refine hl_v rfl rfl rfl (rv_ev rfl) ?_
      refine hl_less (sx 0 rfl (sx 1 rfl (sx 2 rfl (sx 3 rfl (sx 8 rfl (sx 9 rfl (sx 10 rfl (sx 11 rfl (sx 13 rfl (sx 30 rfl (sx 37 rfl (sx 44 rfl (sx 45 rfl (sx 46 rfl (sx 47 rfl (sx 70 rfl (sub_nil _))))))))))))))))) (.refl _) ?_
      refine hl_nil ?_
      exact hq_round1 (j + 1) ⟨by omega, fun i hi => by by_cases hij : i = j; (subst hij; omega); exact hno i (by omega)⟩ (by omega) (sx 0 rfl (sx 1 rfl (sx 2 rfl (sx 3 rfl (sx 8 rfl (sx 9 rfl (sx 10 rfl (sx 11 rfl (sx 30 rfl (sx 37 rfl (sx 44 rfl (sx 45 rfl (sx 46 rfl (sub_nil _)))))))))))))) ((.cons_cons _ (.cons_cons _ .slnil)))
   ·
    have hb11p : D.getD ((((g.so.getD ((x).toNat) ir0).xs).getD j 0).toNat) 0 = -1 := by simpa using hb11
    have hym : (((g.so.getD ((x).toNat) ir0).xs).getD j 0) ∈ srcI d x := by rw [← hsn]; exact getD_memZ (by omega)
    have hyr := src_rng hym
    have hyd := hD.rng (((g.so.getD ((x).toNat) ir0).xs).getD j 0) hyr.1 (by omega)
    have hyd2 : D.getD (((g.so.getD ((x).toNat) ir0).xs).getD j 0).toNat 0 = -1 ∨ (0 ≤ D.getD (((g.so.getD ((x).toNat) ir0).xs).getD j 0).toNat 0 ∧ D.getD (((g.so.getD ((x).toNat) ir0).xs).getD j 0).toNat 0 ≤ 100000 * (cs.length : Int)) := hyd
    refine hc_draw (by kernel_rfl) 21 [0, 1, 2, 3, 4, 5, 6, 7, 8, 9, 10, 11, 12, 13, 14, 15, 16, 17, 18, 19, 20] (List.take 21 _) (List.drop 21 _) [[], [], [0, 1], [2], [3], [4], [5], [5], [5], [5], [5], [5], [5], [5], [5], [5], [5], [5], [5], [5], [5, 19]] [50, 51, 52, 53, 54, 55, 56, 57, 58, 59, 60, 61, 62, 63, 64, 65, 66, 67, 68, 69, 70] (fun i_ vs_ v_ p_ => match i_ with | 0 => v_ = v1 ∧ p_ = [] | 1 => v_ = .int .i64 (((g.so.getD ((x).toNat) ir0).xs).getD j 0) ∧ p_ = [] | 2 => v_ = elP v1 ((((g.so.getD ((x).toNat) ir0).xs).getD j 0).toNat * 1) ∧ p_ = [] | 3 => v_ = .int .i64 (D.getD ((((g.so.getD ((x).toNat) ir0).xs).getD j 0).toNat) 0) ∧ p_ = [] | 4 => v_ = .bool false ∧ p_ = [] | 5 => v_ = .bool false ∧ p_ = [] | 6 => v_ = undef ∧ p_ = [] | 7 => v_ = undef ∧ p_ = [] | 8 => v_ = undef ∧ p_ = [] | 9 => v_ = undef ∧ p_ = [] | 10 => v_ = undef ∧ p_ = [] | 11 => v_ = undef ∧ p_ = [] | 12 => v_ = undef ∧ p_ = [] | 13 => v_ = undef ∧ p_ = [] | 14 => v_ = undef ∧ p_ = [] | 15 => v_ = undef ∧ p_ = [] | 16 => v_ = undef ∧ p_ = [] | 17 => v_ = undef ∧ p_ = [] | 18 => v_ = undef ∧ p_ = [] | 19 => v_ = undef ∧ p_ = [] | 20 => v_ = .bool false ∧ p_ = [] | _ => True) (List.take_append_drop 21 _).symm (by kernel_rfl) (by kernel_rfl) rfl rfl ?_ ?_
    ·
     refine ⟨?_, ?_, ?_, ?_, ?_, ?_, ?_, ?_, ?_, ?_, ?_, ?_, ?_, ?_, ?_, ?_, ?_, ?_, ?_, ?_, ?_, trivial⟩
     ·
      intro vf pf hR
      refine Or.inl ⟨rfl, ?_⟩
      refine rq_less (sx 9 rfl (sub_nil _)) (List.sublist_append_right _ _) ?_
      exact rq_v (rv_ev rfl)
     ·
      intro vf pf hR
      refine Or.inl ⟨rfl, ?_⟩
      refine rq_less (sx 13 rfl (sub_nil _)) (List.sublist_append_right _ _) ?_
      exact rq_v (rv_ev rfl)
     ·
      intro vf pf hR
      have e0 : (vf 0) = v1 ∧ (pf 0) = [] := hR 0 (by decide)
      have e1 : (vf 1) = .int .i64 (((g.so.getD ((x).toNat) ir0).xs).getD j 0) ∧ (pf 1) = [] := hR 1 (by decide)
      refine Or.inl ⟨rfl, ?_⟩
      refine rq_less (sx 50 (congrArg some e0.1) (sx 51 (congrArg some e1.1) (sub_nil _))) (List.sublist_append_right _ _) ?_
      exact rq_v (rv_index (s := 1) rfl Try.underlying26 (by kernel_rfl) rfl rfl (rd_row 1 rfl) (by omega) (by first | omega | (simp only [List.length_set]; omega)))
     ·
      intro vf pf hR
      have e2 : (vf 2) = elP v1 ((((g.so.getD ((x).toNat) ir0).xs).getD j 0).toNat * 1) ∧ (pf 2) = [] := hR 2 (by decide)
      refine Or.inl ⟨rfl, ?_⟩
      refine rq_less (sx 52 (congrArg some e2.1) (sub_nil _)) (List.sublist_append_right _ _) ?_
      exact rq_v (rv_loadEl (u := .int .i64 (D.getD ((((g.so.getD ((x).toNat) ir0).xs).getD j 0).toNat) 0)) rfl (by kernel_rfl) rfl (rd_row 1 rfl) (ints_at1 (show _ < D.length by first | omega | (simp only [List.length_set]; omega))))
     ·
      intro vf pf hR
      have e3 : (vf 3) = .int .i64 (D.getD ((((g.so.getD ((x).toNat) ir0).xs).getD j 0).toNat) 0) ∧ (pf 3) = [] := hR 3 (by decide)
      refine Or.inl ⟨rfl, ?_⟩
      refine rq_less (sx 53 (congrArg some e3.1) (sub_nil _)) (List.sublist_append_right _ _) ?_
      exact rq_mono (rq_v (rv_cmp rfl rfl rfl rfl)) (fun _ _ h => ⟨h.1.trans (congrArg Value.bool hb11), h.2⟩)
     ·
      intro vf pf hR
      have e4 : (vf 4) = .bool false ∧ (pf 4) = [] := hR 4 (by decide)
      refine Or.inl ⟨rfl, ?_⟩
      refine rq_less (sx 54 (congrArg some e4.1) (sub_nil _)) (List.sublist_append_right _ _) ?_
      exact rq_v (rv_ev rfl)
     ·
      intro vf pf hR
      have e5 : (vf 5) = .bool false ∧ (pf 5) = [] := hR 5 (by decide)
      exact Or.inr ⟨want_of (congrArg some e5.1) rfl, rfl, rfl⟩
     ·
      intro vf pf hR
      have e5 : (vf 5) = .bool false ∧ (pf 5) = [] := hR 5 (by decide)
      exact Or.inr ⟨want_of (congrArg some e5.1) rfl, rfl, rfl⟩
     ·
      intro vf pf hR
      have e5 : (vf 5) = .bool false ∧ (pf 5) = [] := hR 5 (by decide)
      exact Or.inr ⟨want_of (congrArg some e5.1) rfl, rfl, rfl⟩
     ·
      intro vf pf hR
      have e5 : (vf 5) = .bool false ∧ (pf 5) = [] := hR 5 (by decide)
      exact Or.inr ⟨want_of (congrArg some e5.1) rfl, rfl, rfl⟩
     ·
      intro vf pf hR
      have e5 : (vf 5) = .bool false ∧ (pf 5) = [] := hR 5 (by decide)
      exact Or.inr ⟨want_of (congrArg some e5.1) rfl, rfl, rfl⟩
     ·
      intro vf pf hR
      have e5 : (vf 5) = .bool false ∧ (pf 5) = [] := hR 5 (by decide)
      exact Or.inr ⟨want_of (congrArg some e5.1) rfl, rfl, rfl⟩
     ·
      intro vf pf hR
      have e5 : (vf 5) = .bool false ∧ (pf 5) = [] := hR 5 (by decide)
      exact Or.inr ⟨want_of (congrArg some e5.1) rfl, rfl, rfl⟩
     ·
      intro vf pf hR
      have e5 : (vf 5) = .bool false ∧ (pf 5) = [] := hR 5 (by decide)
      exact Or.inr ⟨want_of (congrArg some e5.1) rfl, rfl, rfl⟩
     ·
      intro vf pf hR
      have e5 : (vf 5) = .bool false ∧ (pf 5) = [] := hR 5 (by decide)
      exact Or.inr ⟨want_of (congrArg some e5.1) rfl, rfl, rfl⟩
     ·
      intro vf pf hR
      have e5 : (vf 5) = .bool false ∧ (pf 5) = [] := hR 5 (by decide)
      exact Or.inr ⟨want_of (congrArg some e5.1) rfl, rfl, rfl⟩
     ·
      intro vf pf hR
      have e5 : (vf 5) = .bool false ∧ (pf 5) = [] := hR 5 (by decide)
      exact Or.inr ⟨want_of (congrArg some e5.1) rfl, rfl, rfl⟩
     ·
      intro vf pf hR
      have e5 : (vf 5) = .bool false ∧ (pf 5) = [] := hR 5 (by decide)
      exact Or.inr ⟨want_of (congrArg some e5.1) rfl, rfl, rfl⟩
     ·
      intro vf pf hR
      have e5 : (vf 5) = .bool false ∧ (pf 5) = [] := hR 5 (by decide)
      exact Or.inr ⟨want_of (congrArg some e5.1) rfl, rfl, rfl⟩
     ·
      intro vf pf hR
      have e5 : (vf 5) = .bool false ∧ (pf 5) = [] := hR 5 (by decide)
      exact Or.inr ⟨want_of (congrArg some e5.1) rfl, rfl, rfl⟩
     ·
      intro vf pf hR
      have e5 : (vf 5) = .bool false ∧ (pf 5) = [] := hR 5 (by decide)
      have e19 : (vf 19) = undef ∧ (pf 19) = [] := hR 19 (by decide)
      refine Or.inl ⟨rfl, ?_⟩
      refine rq_less (sx 55 (congrArg some e5.1) (sx 69 (congrArg some e19.1) (sub_nil _))) (List.sublist_append_right _ _) ?_
      exact rq_v (rv_ev rfl)
    ·
     intro vf pf hR
     have e20 : (vf 20) = .bool false ∧ (pf 20) = [] := hR 20 (by decide)
     refine hl_less (l' := [rowE 3 1 u xs.length (xs.map (Value.int .i64)), rowE 3 1 v1 D.length (D.map (Value.int .i64))]) (sx 0 rfl (sx 1 rfl (sx 2 rfl (sx 3 rfl (sx 8 rfl (sx 9 rfl (sx 10 rfl (sx 11 rfl (sx 13 rfl (sx 30 rfl (sx 37 rfl (sx 44 rfl (sx 45 rfl (sx 46 rfl (sx 47 rfl (sx 70 (congrArg some e20.1) (sub_nil _))))))))))))))))) (List.sublist_append_right _ _) ?_
     simp only [List.drop_succ_cons, List.drop_zero]
     refine hl_less (sx 0 rfl (sx 1 rfl (sx 2 rfl (sx 3 rfl (sx 8 rfl (sx 9 rfl (sx 10 rfl (sx 11 rfl (sx 13 rfl (sx 30 rfl (sx 37 rfl (sx 44 rfl (sx 45 rfl (sx 46 rfl (sx 47 rfl (sx 70 rfl (sub_nil _))))))))))))))))) (.refl _) ?_
     refine hl_nil ?_
     refine hq_then ?_
     refine hc_false rfl ?_
     refine hc_skip ?_
     refine hq_block_normal ?_
     refine hq_then ?_
     refine hc_region ?_
     refine hl_v rfl rfl rfl (rv_add rfl rfl rfl (by constructor <;> omega)) ?_
     refine hl_v rfl rfl rfl (rv_ev rfl) ?_
     refine hl_less (sx 0 rfl (sx 1 rfl (sx 2 rfl (sx 3 rfl (sx 8 rfl (sx 9 rfl (sx 10 rfl (sx 11 rfl (sx 13 rfl (sx 30 rfl (sx 37 rfl (sx 44 rfl (sx 45 rfl (sx 46 rfl (sx 47 rfl (sx 70 rfl (sub_nil _))))))))))))))))) (.refl _) ?_
     refine hl_nil ?_
     exact hq_round1 (j + 1) ⟨by omega, fun i hi => by by_cases hij : i = j; (subst hij; omega); exact hno i (by omega)⟩ (by omega) (sx 0 rfl (sx 1 rfl (sx 2 rfl (sx 3 rfl (sx 8 rfl (sx 9 rfl (sx 10 rfl (sx 11 rfl (sx 30 rfl (sx 37 rfl (sx 44 rfl (sx 45 rfl (sx 46 rfl (sub_nil _)))))))))))))) ((.cons_cons _ (.cons_cons _ .slnil)))
  ·
   refine hl_less (sx 0 rfl (sx 1 rfl (sx 2 rfl (sx 3 rfl (sx 8 rfl (sx 9 rfl (sx 10 rfl (sx 11 rfl (sx 30 rfl (sx 37 rfl (sx 44 rfl (sx 45 rfl (sx 46 rfl (sx 47 rfl (sub_nil _))))))))))))))) (.refl _) ?_
   refine hl_nil ?_
   refine hq_then ?_
   refine hc_seq ?_
   refine hc_false rfl ?_
   refine hc_exit ?_
   refine hq_then_exit ?_
   refine hq_then_exit ?_
   refine hq_block_exit ?_
   refine hq_then ?_
   refine hc_region ?_
   refine hl_v rfl rfl rfl (rv_ev rfl) ?_
   refine hl_row rfl rfl rfl (rq_buildSlice (z := .int .i64 0) (s := 1) (cs := ([x].map (Value.int .i64))) rfl Try.underlying26 (by kernel_rfl) (by decide) rfl (by kernel_rfl) rfl) ?_
   intro g15
   refine hl_v rfl rfl rfl (rv_ev rfl) ?_
   refine hl_append (i := 0) (z := .int .i64 0) (bytes := 8) (n' := (([x]) ++ xs).length) (xs' := ((([x]) ++ xs).map (Value.int .i64))) (L := fun v16 => [rowE 3 1 v16 ((([x]) ++ xs).length) ((([x]) ++ xs).map (Value.int .i64)), rowE 3 1 u xs.length (xs.map (Value.int .i64)), rowE 3 1 v1 D.length (D.map (Value.int .i64))]) rfl rfl rfl rfl Try.underlying26 (by kernel_rfl) (by kernel_rfl) rfl rfl rfl (rd_row 1 rfl) (ints_one _) (by first | omega | (simp; omega)) (len_app ([x]) xs) (ints_app ([x]) xs) (fun _ => rfl) ?_
   intro v16
   refine hl_v rfl rfl rfl (rv_ev rfl) ?_
   refine hl_less (sx 0 rfl (sx 1 rfl (sx 2 rfl (sx 3 rfl (sx 8 rfl (sx 9 rfl (sx 10 rfl (sx 11 rfl (sx 30 rfl (sx 37 rfl (sx 44 rfl (sx 45 rfl (sx 46 rfl (sx 47 rfl (sub_nil _))))))))))))))) (.refl _) ?_
   refine hl_nil ?_
   refine hq_block_normal ?_
   exfalso
   obtain ⟨q9, hq9, h91, h92⟩ := hD.tig x hx0 (by omega) hxn hcp.pos
   obtain ⟨j9, hj9, e9⟩ := mem_getD hq9
   exact hno j9 (by rw [← hsn] at hj9; omega) (by rw [hsn, e9]; unfold gI at h91 h92; omega)
theorem nodup_le {ns : List Int} {N : Nat} (hn : ns.Nodup) (hr : ∀ x ∈ ns, 0 ≤ x ∧ x < N) : ns.length ≤ N := by
  have h1 := countP_mem ns N hn hr
  have h2 := List.countP_le_length (p := fun k : Nat => ns.contains (k : Int)) (l := List.range N)
  rw [List.length_range] at h2
  omega
/-- a tree along sources -/
structure TreeG (d : Dev) (s : Int) (ns fs : List Int) : Prop where
  len : ns.length = fs.length
  l0 : 1 ≤ ns.length
  l1 : (ns.length : Int) ≤ allI d
  root : ns.getD 0 0 = s
  from0 : fs.getD 0 0 = 0
  rng : ∀ x ∈ ns, 0 ≤ x ∧ x < allI d
  nd : ns.Nodup
  step : ∀ k, 0 < k → k < ns.length → 0 ≤ fs.getD k 0 ∧ fs.getD k 0 < k ∧ hasB (srcI d (ns.getD k 0)) (ns.getD (fs.getD k 0).toNat 0) = true
theorem TreeG.nsok {d : Dev} {s : Int} {ns fs : List Int} (h : TreeG d s ns fs) (hd : 99 ≤ allI d ∧ allI d ≤ 828) : NsOk (allI d).toNat ns := ⟨h.nd, fun x hx => by have := h.rng x hx; omega, by have := h.l1; omega⟩
structure RtG (d : Dev) (s0 : Int) (ns fs : List Int) : Prop where
  tr : TreeG d s0 ns fs
  ok : nodeOkI d s0 = true
  out : s0 % perI d = 5
theorem RtG.node {d : Dev} {s0 : Int} {ns fs : List Int} (h : RtG d s0 ns fs) {k : Nat} (hk : k < ns.length) : nodeOkI d (ns.getD k 0) = true := by
  by_cases h0 : k = 0
  · rw [h0, h.tr.root]; exact h.ok
  · have h1 := (h.tr.step k (by omega) hk).2.2
    apply Decidable.byContradiction
    intro hc
    rw [src_no d _ hc] at h1
    exact absurd h1 (by simp [hasB])
theorem tg_one {d : Dev} {s : Int} (h : 0 ≤ s ∧ s < allI d) : TreeG d s [s] [0] := ⟨rfl, by simp, by simp; omega, rfl, rfl, by simpa using h, by simp, fun k h0 h1 => by simp at h1; omega⟩
theorem TreeG.app {d : Dev} {s x f : Int} {ns fs : List Int} (h : TreeG d s ns fs) (hx : 0 ≤ x ∧ x < allI d) (hn : ¬ x ∈ ns) (hf : 0 ≤ f ∧ f < ns.length) (hs : hasB (srcI d x) (ns.getD f.toNat 0) = true) : TreeG d s (ns ++ [x]) (fs ++ [f]) := by
  have hlen := h.len
  have hl0 := h.l0
  have hrng : ∀ y ∈ ns ++ [x], 0 ≤ y ∧ y < allI d := fun y hy => by
    rcases List.mem_append.1 hy with hy | hy
    · exact h.rng y hy
    · rw [List.mem_singleton] at hy; subst hy; exact hx
  have hnd : (ns ++ [x]).Nodup := by
    rw [List.nodup_append]
    refine ⟨h.nd, by simp, fun a ha b hb => ?_⟩
    rw [List.mem_singleton] at hb; subst hb
    intro e; subst e; exact hn ha
  have hle := nodup_le (N := (allI d).toNat) hnd (fun y hy => by have := hrng y hy; omega)
  refine ⟨by simp [hlen], by simp, by omega, by rw [gl_o (by omega)]; exact h.root, by rw [gl_o (by omega)]; exact h.from0, hrng, hnd, fun k k0 k1_o => ?_⟩
  rw [List.length_append, List.length_singleton] at k1_o
  by_cases hk : k = ns.length
  · rw [gr (l := fs) (by omega), gr (l := ns) (k := k) (by omega), show k - fs.length = 0 by omega, show k - ns.length = 0 by omega]
    show 0 ≤ f ∧ f < k ∧ hasB (srcI d x) ((ns ++ [x]).getD f.toNat 0) = true
    rw [gl_o (by omega)]
    exact ⟨hf.1, by omega, hs⟩
  · have := h.step k k0 (by omega)
    rw [gl_o (l := fs) (by omega), gl_o (l := ns) (k := k) (by omega), gl_o (l := ns) (k := (fs.getD k 0).toNat) (by omega)]
    exact this
structure GInv (d : Dev) (s0 : Int) (ks : List Int) (i : Nat) (r : Rt) : Prop where
  tr : TreeG d s0 r.ns r.fs
  has : ∀ j, j < i → ks.getD j 0 ∈ r.ns
  pin : ∀ x ∈ r.ns, x % perI d < 5 → x ∈ ks
structure GStep (d : Dev) (s0 : Int) (xs : List Int) (r : Rt) (j : Nat) (r2 : Rt) (f : Int) : Prop where
  tr : TreeG d s0 r2.ns r2.fs
  ns : r2.ns = r.ns ++ (xs.drop 1).take j
  f0 : 0 ≤ f
  f1 : f < r2.ns.length
  at_ : r2.ns.getD f.toNat 0 = xs.getD j 0
theorem GStep.start {d : Dev} {s0 : Int} {xs ks : List Int} {r : Rt} {i : Nat} {f : Int} (h : GInv d s0 ks i r) (h0 : 0 ≤ f) (h1 : f < r.ns.length) (ha : r.ns.getD f.toNat 0 = xs.getD 0 0) : GStep d s0 xs r 0 ⟨r.nv, r.fv, r.ns, r.fs⟩ f :=
  ⟨h.tr, by simp, h0, h1, ha⟩
theorem drop1_get {xs : List Int} {j : Nat} : (xs.drop 1).getD j 0 = xs.getD (j + 1) 0 := by
  rw [List.getD_eq_getElem?_getD, List.getElem?_drop, List.getD_eq_getElem?_getD, Nat.add_comm]
theorem CP.inc {N : Nat} {S : Int → List Int} {cs st D : List Int} {t x : Int} {xs : List Int} (h : CP N S cs st D t x xs) (hc : ∀ k : Int, 0 ≤ k → k < N → 1 ≤ gI cs k) {i : Nat} : ∀ k, i < k → k < xs.length → gI D (xs.getD i 0) < gI D (xs.getD k 0)
  | 0, hk, _ => by omega
  | k + 1, hk, hl => by
    have h1 := (h.chain k hl).2.2
    have h2 := h.rng (k + 1) hl
    have h3 := hc _ h2.1 h2.2
    by_cases e : i = k
    · subst e; omega
    · have := h.inc hc (i := i) k (by omega) (by omega); omega
theorem GStep.next {d : Dev} {s0 t x0 : Int} {xs cs st D : List Int} {r r2 : Rt} {j : Nat} {f : Int} (h : GStep d s0 xs r j r2 f) (hcl : (cs.length : Int) = allI d) (hcr : ∀ k, k < cs.length → 1 ≤ cs.getD k 0 ∧ cs.getD k 0 ≤ 100000) (hp : CP cs.length (srcI d) cs st D t x0 xs) (hst : st = r.ns) (hj : j < (xs.drop 1).length) (v1 v2 : Value) :
    GStep d s0 xs r (j + 1) ⟨v1, v2, r2.ns ++ [(xs.drop 1).getD j 0], r2.fs ++ [f]⟩ (((r2.ns ++ [(xs.drop 1).getD j 0]).length : Int) - 1) := by
  have hl := h.tr.len
  rw [List.length_drop] at hj
  have hr := hp.rng (j + 1) (by omega)
  have hn : ¬ (xs.drop 1).getD j 0 ∈ r2.ns := by
    rw [h.ns, List.mem_append, drop1_get]
    rintro (hc | hc)
    · exact hp.nst j (by omega) (by rw [hst]; exact hc)
    · obtain ⟨q, hq, e⟩ := mem_getD hc
      rw [List.length_take, List.length_drop] at hq
      have e2 : ((xs.drop 1).take j).getD q 0 = xs.getD (q + 1) 0 := by
        rw [List.getD_eq_getElem?_getD, List.getElem?_take, if_pos (by omega), ← List.getD_eq_getElem?_getD, drop1_get]
      rw [e2] at e
      have := hp.inc (fun k k0 k1_o => (hcr k.toNat (by omega)).1) (i := q + 1) (j + 1) (by omega) (by omega)
      rw [e] at this
      omega
  have htr := h.tr.app (x := (xs.drop 1).getD j 0) (f := f) (by rw [drop1_get]; omega) hn ⟨h.f0, h.f1⟩ (by rw [drop1_get, h.at_]; exact hasB_mem.2 (hp.chain j (by omega)).1)
  refine ⟨htr, ?_, ?_, ?_, ?_⟩
  · show r2.ns ++ _ = _
    rw [h.ns, List.append_assoc, take_snocZ (by rw [List.length_drop]; omega)]
  · rw [List.length_append, List.length_singleton]; omega
  · show _ < ((r2.ns ++ [(xs.drop 1).getD j 0]).length : Int); omega
  · show (r2.ns ++ [(xs.drop 1).getD j 0]).getD _ 0 = _
    rw [List.length_append, List.length_singleton, show (((r2.ns.length + 1 : Nat) : Int) - 1).toNat = r2.ns.length by omega, gr (Nat.le_refl _), Nat.sub_self]
    exact drop1_get
theorem src_notin {d : Dev} {k s : Int} (h : s ∈ srcI d k) : ¬ s % perI d < 5 := by
  have hk : nodeOkI d k = true := by
    apply Decidable.byContradiction
    intro hc
    rw [src_no d k hc] at h; simp at h
  obtain ⟨hd, k0, k1_o⟩ := nodeOk_rng hk
  rcases (src_loc hd k0 k1_o s h).2 with h1 | h1
  · omega
  · omega
theorem GStep.done {d : Dev} {s0 t x0 : Int} {xs cs st D ks : List Int} {r r2 : Rt} {i j : Nat} {f : Int} (h : GStep d s0 xs r j r2 f) (hg : GInv d s0 ks i r) (hp : CP cs.length (srcI d) cs st D t x0 xs) (hx : x0 ∈ r.ns) (hj : (xs.drop 1).length ≤ j) (hi : i < ks.length) (ht : ks.getD i 0 = t) : GInv d s0 ks (i + 1) r2 := by
  have hns : r2.ns = r.ns ++ xs.drop 1 := by rw [h.ns, List.take_of_length_le hj]
  have hl := hp.l0
  refine ⟨h.tr, fun q hq => ?_, fun x hx2 h5 => ?_⟩
  · rw [hns, List.mem_append]
    by_cases e : q = i
    · subst e
      rw [ht, ← hp.last]
      by_cases e1 : xs.length = 1
      · left; rw [e1]; show xs.getD 0 0 ∈ _; rw [hp.first]; exact hx
      · right
        have : xs.getD (xs.length - 1) 0 = (xs.drop 1).getD (xs.length - 2) 0 := by rw [drop1_get]; congr 1; omega
        rw [this]; exact getD_memZ (by rw [List.length_drop]; omega)
    · exact .inl (hg.has q (by omega))
  · rw [hns, List.mem_append] at hx2
    rcases hx2 with hx2 | hx2
    · exact hg.pin x hx2 h5
    · obtain ⟨q, hq, e⟩ := mem_getD hx2
      rw [List.length_drop] at hq
      rw [drop1_get] at e
      by_cases e1 : q + 1 = xs.length - 1
      · rw [e1, hp.last, ← ht] at e
        rw [← e]; exact getD_memZ hi
      · exfalso
        have := src_notin (hp.chain (q + 1) (by omega)).1
        rw [e] at this
        exact this h5
theorem GInv.same {d : Dev} {s0 t : Int} {ks : List Int} {r : Rt} {i : Nat} (h : GInv d s0 ks i r) (ht : ks.getD i 0 = t) (hh : hasB r.ns t = true) : GInv d s0 ks (i + 1) r :=
  ⟨h.tr, fun q hq => by
    by_cases e : q = i
    · subst e; rw [ht]; exact hasB_mem.1 hh
    · exact h.has q (by omega), h.pin⟩
theorem GInv.okR {d : Dev} {s0 : Int} {ks : List Int} {r : Rt} (h : GInv d s0 ks ks.length r) : okR d r.ns ks = true :=
  okR_yes (fun k hk h5 => hasB_mem.2 (h.pin _ (getD_inX hk) h5)) (fun k hk => hasB_mem.2 (h.has k hk))
theorem sub_le : ∀ (us ns : List Int), us.Nodup → (∀ x ∈ us, x ∈ ns) → us.length ≤ ns.length
  | [], ns, _, _ => Nat.zero_le _
  | a :: us, ns, hn, h => by
    rw [List.nodup_cons] at hn
    have ha := h a List.mem_cons_self
    have ih := sub_le us (ns.erase a) hn.2 (fun x hx => (List.mem_erase_of_ne (fun e => hn.1 (by rw [← e]; exact hx))).2 (h x (List.mem_cons_of_mem _ hx)))
    rw [List.length_erase_of_mem ha] at ih
    have := List.length_pos_of_mem ha
    rw [List.length_cons]; omega
theorem GInv.more {d : Dev} {s0 : Int} {ks : List Int} {r : Rt} (h : GInv d s0 ks ks.length r) (hn : ks.Nodup) (h5 : ∀ x ∈ ks, x % perI d < 5) (ho : s0 % perI d = 5) : ks.length < r.ns.length := by
  have h0 : s0 ∈ r.ns := by rw [← h.tr.root]; exact getD_memZ h.tr.l0
  have := sub_le (s0 :: ks) r.ns (List.nodup_cons.2 ⟨fun hc => by have := h5 _ hc; omega, hn⟩) (fun x hx => by
    rcases List.mem_cons.1 hx with rfl | hx
    · exact h0
    · obtain ⟨k, hk, e⟩ := mem_getD hx
      rw [← e]; exact h.has k hk)
  rw [List.length_cons] at this; omega
theorem rng_of {qs : List Int} (h : ∀ x ∈ qs, -1 ≤ x ∧ x ≤ 1000000) : ∀ k, k < qs.length → -9223372036854775808 ≤ qs.getD k 0 ∧ qs.getD k 0 ≤ 9223372036854775807 := fun k hk => by
  have := h _ (getD_inX hk)
  omega
theorem kSmall {d : Dev} {s0 : Int} {ns fs ks : List Int} (h : RtOk d s0 ns fs ks) (hd : devB d = true) : ∀ x ∈ ks, -1 ≤ x ∧ x ≤ 1000000 := fun x hx => by
  have := h.tr.rng x (h.inpin.1 hx).1
  have := all_rng hd
  omega
set_option maxHeartbeats 4000000 in
set_option maxRecDepth 100000 in
theorem RouteOkG_ans (d : Dev) (s0 : Int) (r : Rt) (qs : List Int) (qv : Value) (w : World) (hd : devB d = true) (hrt : RtG d s0 r.ns r.fs) (hrn : RdsW w r.nv 1 r.ns.length (r.ns.map (Value.int .i64))) (hrf : RdsW w r.fv 1 r.fs.length (r.fs.map (Value.int .i64))) (hq : RdsW w qv 1 qs.length (qs.map (Value.int .i64))) (hql : qs.length ≤ 100000) (hqr : ∀ k, k < qs.length → -9223372036854775808 ≤ qs.getD k 0 ∧ qs.getD k 0 ≤ 9223372036854775807) :
  Calls Try.prog 10 #[.agg #[.int .i64 d.W, .int .i64 d.H, .int .i64 d.T, .int .i64 d.R], .int .i64 s0, qv, .agg #[r.nv, r.fv]] w (Ans w (.bool (okR d r.ns qs))) := by
 have ht1 := hrt.tr.len
 have ht2 := hrt.tr.l0
 have ht3 := hrt.tr.l1
 obtain ⟨ra1, ra2⟩ := all_rng hd
 have hr0 := hrt.tr.root
 have hf0 := hrt.tr.from0
 have hns := hrt.tr.nsok (by omega)
 refine calls_hc (N := 126) (args := [.agg #[.int .i64 d.W, .int .i64 d.H, .int .i64 d.T, .int .i64 d.R], .int .i64 s0, qv, .agg #[r.nv, r.fv]]) Try.func10 rfl rfl ?_
 refine hc_less _ (sx 0 rfl (sx 1 rfl (sx 2 rfl (sx 3 rfl (sub_nil _))))) (.refl _) ?_
 refine hc_seq ?_
 refine hc_region ?_
 refine hl_box rfl rfl rfl (rq_box rfl rfl) ?_
 intro b1
 refine hl_box rfl rfl rfl (rq_box rfl rfl) ?_
 intro b2
 refine hl_v rfl rfl rfl (rv_ev rfl) ?_
 refine hl_less (sx 0 rfl (sx 1 rfl (sx 2 rfl (sx 3 rfl (sx 4 rfl (sx 7 rfl (sx 8 rfl (sub_nil _)))))))) (.refl _) ?_
 refine hl_nil ?_
 refine hq_then ?_
 refine hc_seq ?_
 refine hc_seq ?_
 have hb3 : (decide ((r.ns.length : Int) < 1)) = false := decide_eq_false (by omega)
 have hb4 : (decide (allI d < (r.ns.length : Int))) = false := decide_eq_false (by omega)
 have hb5 : ((r.fs.length : Int) != (r.ns.length : Int)) = false := Bool.eq_false_iff.2 (fun h => bne_iff_ne.1 h (by omega))
 have hb6 : ((r.ns.getD 0 0) != s0) = false := Bool.eq_false_iff.2 (fun h => bne_iff_ne.1 h (by omega))
 have hb7 : ((r.fs.getD 0 0) != 0) = false := Bool.eq_false_iff.2 (fun h => bne_iff_ne.1 h (by omega))
 refine hc_draw (by kernel_rfl) 42 [0, 1, 2, 3, 4, 5, 6, 7, 8, 9, 10, 11, 12, 13, 14, 15, 16, 17, 18, 19, 20, 21, 22, 23, 24, 25, 26, 27, 28, 29, 30, 31, 32, 33, 34, 35, 36, 37, 38, 39, 40, 41] (List.take 42 _) (List.drop 42 _) [[], [0], [1], [2], [3], [4], [4, 5], [4, 6], [4], [4, 8], [4, 7, 9], [4, 10], [11], [12], [12, 13], [12, 14], [12], [12, 16], [12, 17], [12, 15, 18], [12, 19], [20], [21], [21, 22], [21, 23], [21, 24], [21], [21, 25, 26], [21, 27], [28], [29], [29], [29, 30, 31], [29, 32], [29, 33], [34], [35], [35, 36], [35, 37], [35, 38], [35, 39], [35, 40]] [14, 15, 16, 17, 18, 19, 20, 21, 22, 23, 24, 25, 26, 27, 28, 29, 30, 31, 32, 33, 34, 35, 36, 37, 38, 39, 40, 41, 42, 43, 44, 45, 46, 47, 48, 49, 50, 51, 52, 53, 54, 55] (fun i_ vs_ v_ p_ => match i_ with | 0 => v_ = .pointer (some ⟨b2, 0 + 0, none⟩) ∧ p_ = [] | 1 => v_ = r.nv ∧ p_ = [] | 2 => v_ = .int .i64 (r.ns.length : Int) ∧ p_ = [] | 3 => v_ = .bool false ∧ p_ = [] | 4 => v_ = .bool false ∧ p_ = [] | 5 => v_ = .pointer (some ⟨b2, 0 + 0, none⟩) ∧ p_ = [] | 6 => v_ = r.nv ∧ p_ = [] | 7 => v_ = .int .i64 (r.ns.length : Int) ∧ p_ = [] | 8 => v_ = .agg #[.int .i64 d.W, .int .i64 d.H, .int .i64 d.T, .int .i64 d.R] ∧ p_ = [] | 9 => v_ = .int .i64 (allI d) ∧ p_ = [] | 10 => v_ = .bool false ∧ p_ = [] | 11 => v_ = .bool false ∧ p_ = [] | 12 => v_ = .bool false ∧ p_ = [] | 13 => v_ = .pointer (some ⟨b2, 0 + 1, none⟩) ∧ p_ = [] | 14 => v_ = r.fv ∧ p_ = [] | 15 => v_ = .int .i64 (r.fs.length : Int) ∧ p_ = [] | 16 => v_ = .pointer (some ⟨b2, 0 + 0, none⟩) ∧ p_ = [] | 17 => v_ = r.nv ∧ p_ = [] | 18 => v_ = .int .i64 (r.ns.length : Int) ∧ p_ = [] | 19 => v_ = .bool false ∧ p_ = [] | 20 => v_ = .bool false ∧ p_ = [] | 21 => v_ = .bool false ∧ p_ = [] | 22 => v_ = .pointer (some ⟨b2, 0 + 0, none⟩) ∧ p_ = [] | 23 => v_ = r.nv ∧ p_ = [] | 24 => v_ = elP r.nv ((0 : Int).toNat * 1) ∧ p_ = [] | 25 => v_ = .int .i64 (r.ns.getD 0 0) ∧ p_ = [] | 26 => v_ = .int .i64 s0 ∧ p_ = [] | 27 => v_ = .bool false ∧ p_ = [] | 28 => v_ = .bool false ∧ p_ = [] | 29 => v_ = .bool false ∧ p_ = [] | 30 => v_ = .agg #[.int .i64 d.W, .int .i64 d.H, .int .i64 d.T, .int .i64 d.R] ∧ p_ = [] | 31 => v_ = .int .i64 s0 ∧ p_ = [] | 32 => v_ = .bool true ∧ p_ = [] | 33 => v_ = .bool false ∧ p_ = [] | 34 => v_ = .bool false ∧ p_ = [] | 35 => v_ = .bool false ∧ p_ = [] | 36 => v_ = .pointer (some ⟨b2, 0 + 1, none⟩) ∧ p_ = [] | 37 => v_ = r.fv ∧ p_ = [] | 38 => v_ = elP r.fv ((0 : Int).toNat * 1) ∧ p_ = [] | 39 => v_ = .int .i64 (r.fs.getD 0 0) ∧ p_ = [] | 40 => v_ = .bool false ∧ p_ = [] | 41 => v_ = .bool false ∧ p_ = [] | _ => True) (List.take_append_drop 42 _).symm (by kernel_rfl) (by kernel_rfl) rfl rfl ?_ ?_
 ·
  refine ⟨?_, ?_, ?_, ?_, ?_, ?_, ?_, ?_, ?_, ?_, ?_, ?_, ?_, ?_, ?_, ?_, ?_, ?_, ?_, ?_, ?_, ?_, ?_, ?_, ?_, ?_, ?_, ?_, ?_, ?_, ?_, ?_, ?_, ?_, ?_, ?_, ?_, ?_, ?_, ?_, ?_, ?_, trivial⟩
  ·
   intro vf pf hR
   refine Or.inl ⟨rfl, ?_⟩
   refine rq_less (sx 7 rfl (sub_nil _)) (List.sublist_append_right _ _) ?_
   exact rq_v (rv_field (k0 := 0) rfl (by kernel_rfl) rfl)
  ·
   intro vf pf hR
   have e0 : (vf 0) = .pointer (some ⟨b2, 0 + 0, none⟩) ∧ (pf 0) = [] := hR 0 (by decide)
   refine Or.inl ⟨rfl, ?_⟩
   refine rq_less (sx 14 (congrArg some e0.1) (sub_nil _)) (List.sublist_append_right _ _) ?_
   exact rq_v (rv_load rfl (by kernel_rfl) rfl (box_cell 0 rfl rfl))
  ·
   intro vf pf hR
   have e1 : (vf 1) = r.nv ∧ (pf 1) = [] := hR 1 (by decide)
   refine Or.inl ⟨rfl, ?_⟩
   refine rq_less (sx 15 (congrArg some e1.1) (sub_nil _)) (List.sublist_append_right _ _) ?_
   exact rq_v (rv_len rfl Try.underlying26 rfl (rd_old hrn))
  ·
   intro vf pf hR
   have e2 : (vf 2) = .int .i64 (r.ns.length : Int) ∧ (pf 2) = [] := hR 2 (by decide)
   refine Or.inl ⟨rfl, ?_⟩
   refine rq_less (sx 16 (congrArg some e2.1) (sub_nil _)) (List.sublist_append_right _ _) ?_
   exact rq_mono (rq_v (rv_cmp rfl rfl rfl rfl)) (fun _ _ h => ⟨h.1.trans (congrArg Value.bool hb3), h.2⟩)
  ·
   intro vf pf hR
   have e3 : (vf 3) = .bool false ∧ (pf 3) = [] := hR 3 (by decide)
   refine Or.inl ⟨rfl, ?_⟩
   refine rq_less (sx 17 (congrArg some e3.1) (sub_nil _)) (List.sublist_append_right _ _) ?_
   exact rq_v (rv_ev rfl)
  ·
   intro vf pf hR
   have e4 : (vf 4) = .bool false ∧ (pf 4) = [] := hR 4 (by decide)
   refine Or.inl ⟨want_of (congrArg some e4.1) rfl, ?_⟩
   refine rq_less (sx 7 rfl (sub_nil _)) (List.sublist_append_right _ _) ?_
   exact rq_v (rv_field (k0 := 0) rfl (by kernel_rfl) rfl)
  ·
   intro vf pf hR
   have e4 : (vf 4) = .bool false ∧ (pf 4) = [] := hR 4 (by decide)
   have e5 : (vf 5) = .pointer (some ⟨b2, 0 + 0, none⟩) ∧ (pf 5) = [] := hR 5 (by decide)
   refine Or.inl ⟨want_of (congrArg some e4.1) rfl, ?_⟩
   refine rq_less (sx 19 (congrArg some e5.1) (sub_nil _)) (List.sublist_append_right _ _) ?_
   exact rq_v (rv_load rfl (by kernel_rfl) rfl (box_cell 0 rfl rfl))
  ·
   intro vf pf hR
   have e4 : (vf 4) = .bool false ∧ (pf 4) = [] := hR 4 (by decide)
   have e6 : (vf 6) = r.nv ∧ (pf 6) = [] := hR 6 (by decide)
   refine Or.inl ⟨want_of (congrArg some e4.1) rfl, ?_⟩
   refine rq_less (sx 20 (congrArg some e6.1) (sub_nil _)) (List.sublist_append_right _ _) ?_
   exact rq_v (rv_len rfl Try.underlying26 rfl (rd_old hrn))
  ·
   intro vf pf hR
   have e4 : (vf 4) = .bool false ∧ (pf 4) = [] := hR 4 (by decide)
   refine Or.inl ⟨want_of (congrArg some e4.1) rfl, ?_⟩
   refine rq_less (sx 4 rfl (sub_nil _)) (List.sublist_append_right _ _) ?_
   exact rq_v (rv_loadN (cs := [.int .i64 d.W, .int .i64 d.H, .int .i64 d.T, .int .i64 d.R]) rfl (by kernel_rfl) (by kernel_rfl) rfl rfl (box_part 1 rfl 0 rfl))
  ·
   intro vf pf hR
   have e4 : (vf 4) = .bool false ∧ (pf 4) = [] := hR 4 (by decide)
   have e8 : (vf 8) = .agg #[.int .i64 d.W, .int .i64 d.H, .int .i64 d.T, .int .i64 d.R] ∧ (pf 8) = [] := hR 8 (by decide)
   refine Or.inl ⟨want_of (congrArg some e4.1) rfl, ?_⟩
   refine rq_less (sx 22 (congrArg some e8.1) (sub_nil _)) (List.sublist_append_right _ _) ?_
   exact (rq_call (by kernel_rfl) rfl (fun w hm => ret_ans (implRouteNodes_yes d hd w)))
  ·
   intro vf pf hR
   have e4 : (vf 4) = .bool false ∧ (pf 4) = [] := hR 4 (by decide)
   have e7 : (vf 7) = .int .i64 (r.ns.length : Int) ∧ (pf 7) = [] := hR 7 (by decide)
   have e9 : (vf 9) = .int .i64 (allI d) ∧ (pf 9) = [] := hR 9 (by decide)
   refine Or.inl ⟨want_of (congrArg some e4.1) rfl, ?_⟩
   refine rq_less (sx 21 (congrArg some e7.1) (sx 23 (congrArg some e9.1) (sub_nil _))) (List.sublist_append_right _ _) ?_
   exact rq_mono (rq_v (rv_cmp rfl rfl rfl rfl)) (fun _ _ h => ⟨h.1.trans (congrArg Value.bool hb4), h.2⟩)
  ·
   intro vf pf hR
   have e4 : (vf 4) = .bool false ∧ (pf 4) = [] := hR 4 (by decide)
   have e10 : (vf 10) = .bool false ∧ (pf 10) = [] := hR 10 (by decide)
   refine Or.inl ⟨rfl, ?_⟩
   refine rq_less (sx 18 (congrArg some e4.1) (sx 24 (congrArg some e10.1) (sub_nil _))) (List.sublist_append_right _ _) ?_
   exact rq_v (rv_ev rfl)
  ·
   intro vf pf hR
   have e11 : (vf 11) = .bool false ∧ (pf 11) = [] := hR 11 (by decide)
   refine Or.inl ⟨rfl, ?_⟩
   refine rq_less (sx 25 (congrArg some e11.1) (sub_nil _)) (List.sublist_append_right _ _) ?_
   exact rq_v (rv_ev rfl)
  ·
   intro vf pf hR
   have e12 : (vf 12) = .bool false ∧ (pf 12) = [] := hR 12 (by decide)
   refine Or.inl ⟨want_of (congrArg some e12.1) rfl, ?_⟩
   refine rq_less (sx 7 rfl (sub_nil _)) (List.sublist_append_right _ _) ?_
   exact rq_v (rv_field (k0 := 1) rfl (by kernel_rfl) rfl)
  ·
   intro vf pf hR
   have e12 : (vf 12) = .bool false ∧ (pf 12) = [] := hR 12 (by decide)
   have e13 : (vf 13) = .pointer (some ⟨b2, 0 + 1, none⟩) ∧ (pf 13) = [] := hR 13 (by decide)
   refine Or.inl ⟨want_of (congrArg some e12.1) rfl, ?_⟩
   refine rq_less (sx 27 (congrArg some e13.1) (sub_nil _)) (List.sublist_append_right _ _) ?_
   exact rq_v (rv_load rfl (by kernel_rfl) rfl (box_cell 0 rfl rfl))
  ·
   intro vf pf hR
   have e12 : (vf 12) = .bool false ∧ (pf 12) = [] := hR 12 (by decide)
   have e14 : (vf 14) = r.fv ∧ (pf 14) = [] := hR 14 (by decide)
   refine Or.inl ⟨want_of (congrArg some e12.1) rfl, ?_⟩
   refine rq_less (sx 28 (congrArg some e14.1) (sub_nil _)) (List.sublist_append_right _ _) ?_
   exact rq_v (rv_len rfl Try.underlying26 rfl (rd_old hrf))
  ·
   intro vf pf hR
   have e12 : (vf 12) = .bool false ∧ (pf 12) = [] := hR 12 (by decide)
   refine Or.inl ⟨want_of (congrArg some e12.1) rfl, ?_⟩
   refine rq_less (sx 7 rfl (sub_nil _)) (List.sublist_append_right _ _) ?_
   exact rq_v (rv_field (k0 := 0) rfl (by kernel_rfl) rfl)
  ·
   intro vf pf hR
   have e12 : (vf 12) = .bool false ∧ (pf 12) = [] := hR 12 (by decide)
   have e16 : (vf 16) = .pointer (some ⟨b2, 0 + 0, none⟩) ∧ (pf 16) = [] := hR 16 (by decide)
   refine Or.inl ⟨want_of (congrArg some e12.1) rfl, ?_⟩
   refine rq_less (sx 30 (congrArg some e16.1) (sub_nil _)) (List.sublist_append_right _ _) ?_
   exact rq_v (rv_load rfl (by kernel_rfl) rfl (box_cell 0 rfl rfl))
  ·
   intro vf pf hR
   have e12 : (vf 12) = .bool false ∧ (pf 12) = [] := hR 12 (by decide)
   have e17 : (vf 17) = r.nv ∧ (pf 17) = [] := hR 17 (by decide)
   refine Or.inl ⟨want_of (congrArg some e12.1) rfl, ?_⟩
   refine rq_less (sx 31 (congrArg some e17.1) (sub_nil _)) (List.sublist_append_right _ _) ?_
   exact rq_v (rv_len rfl Try.underlying26 rfl (rd_old hrn))
  ·
   intro vf pf hR
   have e12 : (vf 12) = .bool false ∧ (pf 12) = [] := hR 12 (by decide)
   have e15 : (vf 15) = .int .i64 (r.fs.length : Int) ∧ (pf 15) = [] := hR 15 (by decide)
   have e18 : (vf 18) = .int .i64 (r.ns.length : Int) ∧ (pf 18) = [] := hR 18 (by decide)
   refine Or.inl ⟨want_of (congrArg some e12.1) rfl, ?_⟩
   refine rq_less (sx 29 (congrArg some e15.1) (sx 32 (congrArg some e18.1) (sub_nil _))) (List.sublist_append_right _ _) ?_
   exact rq_mono (rq_v (rv_cmp rfl rfl rfl rfl)) (fun _ _ h => ⟨h.1.trans (congrArg Value.bool hb5), h.2⟩)
  ·
   intro vf pf hR
   have e12 : (vf 12) = .bool false ∧ (pf 12) = [] := hR 12 (by decide)
   have e19 : (vf 19) = .bool false ∧ (pf 19) = [] := hR 19 (by decide)
   refine Or.inl ⟨rfl, ?_⟩
   refine rq_less (sx 26 (congrArg some e12.1) (sx 33 (congrArg some e19.1) (sub_nil _))) (List.sublist_append_right _ _) ?_
   exact rq_v (rv_ev rfl)
  ·
   intro vf pf hR
   have e20 : (vf 20) = .bool false ∧ (pf 20) = [] := hR 20 (by decide)
   refine Or.inl ⟨rfl, ?_⟩
   refine rq_less (sx 34 (congrArg some e20.1) (sub_nil _)) (List.sublist_append_right _ _) ?_
   exact rq_v (rv_ev rfl)
  ·
   intro vf pf hR
   have e21 : (vf 21) = .bool false ∧ (pf 21) = [] := hR 21 (by decide)
   refine Or.inl ⟨want_of (congrArg some e21.1) rfl, ?_⟩
   refine rq_less (sx 7 rfl (sub_nil _)) (List.sublist_append_right _ _) ?_
   exact rq_v (rv_field (k0 := 0) rfl (by kernel_rfl) rfl)
  ·
   intro vf pf hR
   have e21 : (vf 21) = .bool false ∧ (pf 21) = [] := hR 21 (by decide)
   have e22 : (vf 22) = .pointer (some ⟨b2, 0 + 0, none⟩) ∧ (pf 22) = [] := hR 22 (by decide)
   refine Or.inl ⟨want_of (congrArg some e21.1) rfl, ?_⟩
   refine rq_less (sx 36 (congrArg some e22.1) (sub_nil _)) (List.sublist_append_right _ _) ?_
   exact rq_v (rv_load rfl (by kernel_rfl) rfl (box_cell 0 rfl rfl))
  ·
   intro vf pf hR
   have e21 : (vf 21) = .bool false ∧ (pf 21) = [] := hR 21 (by decide)
   have e23 : (vf 23) = r.nv ∧ (pf 23) = [] := hR 23 (by decide)
   refine Or.inl ⟨want_of (congrArg some e21.1) rfl, ?_⟩
   refine rq_less (sx 37 (congrArg some e23.1) (sub_nil _)) (List.sublist_append_right _ _) ?_
   exact rq_v (rv_index (s := 1) rfl Try.underlying26 (by kernel_rfl) rfl rfl (rd_old hrn) (by omega) (by first | omega | (simp only [List.length_set]; omega)))
  ·
   intro vf pf hR
   have e21 : (vf 21) = .bool false ∧ (pf 21) = [] := hR 21 (by decide)
   have e24 : (vf 24) = elP r.nv ((0 : Int).toNat * 1) ∧ (pf 24) = [] := hR 24 (by decide)
   refine Or.inl ⟨want_of (congrArg some e21.1) rfl, ?_⟩
   refine rq_less (sx 38 (congrArg some e24.1) (sub_nil _)) (List.sublist_append_right _ _) ?_
   exact rq_v (rv_loadEl (u := .int .i64 (r.ns.getD 0 0)) rfl (by kernel_rfl) rfl (rd_old hrn) (ints_at1 (show _ < r.ns.length by first | omega | (simp only [List.length_set]; omega))))
  ·
   intro vf pf hR
   have e21 : (vf 21) = .bool false ∧ (pf 21) = [] := hR 21 (by decide)
   refine Or.inl ⟨want_of (congrArg some e21.1) rfl, ?_⟩
   refine rq_less (sx 1 rfl (sub_nil _)) (List.sublist_append_right _ _) ?_
   exact rq_v (rv_ev rfl)
  ·
   intro vf pf hR
   have e21 : (vf 21) = .bool false ∧ (pf 21) = [] := hR 21 (by decide)
   have e25 : (vf 25) = .int .i64 (r.ns.getD 0 0) ∧ (pf 25) = [] := hR 25 (by decide)
   have e26 : (vf 26) = .int .i64 s0 ∧ (pf 26) = [] := hR 26 (by decide)
   refine Or.inl ⟨want_of (congrArg some e21.1) rfl, ?_⟩
   refine rq_less (sx 39 (congrArg some e25.1) (sx 40 (congrArg some e26.1) (sub_nil _))) (List.sublist_append_right _ _) ?_
   exact rq_mono (rq_v (rv_cmp rfl rfl rfl rfl)) (fun _ _ h => ⟨h.1.trans (congrArg Value.bool hb6), h.2⟩)
  ·
   intro vf pf hR
   have e21 : (vf 21) = .bool false ∧ (pf 21) = [] := hR 21 (by decide)
   have e27 : (vf 27) = .bool false ∧ (pf 27) = [] := hR 27 (by decide)
   refine Or.inl ⟨rfl, ?_⟩
   refine rq_less (sx 35 (congrArg some e21.1) (sx 41 (congrArg some e27.1) (sub_nil _))) (List.sublist_append_right _ _) ?_
   exact rq_v (rv_ev rfl)
  ·
   intro vf pf hR
   have e28 : (vf 28) = .bool false ∧ (pf 28) = [] := hR 28 (by decide)
   refine Or.inl ⟨rfl, ?_⟩
   refine rq_less (sx 42 (congrArg some e28.1) (sub_nil _)) (List.sublist_append_right _ _) ?_
   exact rq_v (rv_ev rfl)
  ·
   intro vf pf hR
   have e29 : (vf 29) = .bool false ∧ (pf 29) = [] := hR 29 (by decide)
   refine Or.inl ⟨want_of (congrArg some e29.1) rfl, ?_⟩
   refine rq_less (sx 4 rfl (sub_nil _)) (List.sublist_append_right _ _) ?_
   exact rq_v (rv_loadN (cs := [.int .i64 d.W, .int .i64 d.H, .int .i64 d.T, .int .i64 d.R]) rfl (by kernel_rfl) (by kernel_rfl) rfl rfl (box_part 1 rfl 0 rfl))
  ·
   intro vf pf hR
   have e29 : (vf 29) = .bool false ∧ (pf 29) = [] := hR 29 (by decide)
   refine Or.inl ⟨want_of (congrArg some e29.1) rfl, ?_⟩
   refine rq_less (sx 1 rfl (sub_nil _)) (List.sublist_append_right _ _) ?_
   exact rq_v (rv_ev rfl)
  ·
   intro vf pf hR
   have e29 : (vf 29) = .bool false ∧ (pf 29) = [] := hR 29 (by decide)
   have e30 : (vf 30) = .agg #[.int .i64 d.W, .int .i64 d.H, .int .i64 d.T, .int .i64 d.R] ∧ (pf 30) = [] := hR 30 (by decide)
   have e31 : (vf 31) = .int .i64 s0 ∧ (pf 31) = [] := hR 31 (by decide)
   refine Or.inl ⟨want_of (congrArg some e29.1) rfl, ?_⟩
   refine rq_less (sx 44 (congrArg some e30.1) (sx 45 (congrArg some e31.1) (sub_nil _))) (List.sublist_append_right _ _) ?_
   exact (rq_call (by kernel_rfl) rfl (fun w hm => ret_ans (isOutPin_yes d s0 w hd hrt.ok hrt.out)))
  ·
   intro vf pf hR
   have e29 : (vf 29) = .bool false ∧ (pf 29) = [] := hR 29 (by decide)
   have e32 : (vf 32) = .bool true ∧ (pf 32) = [] := hR 32 (by decide)
   refine Or.inl ⟨want_of (congrArg some e29.1) rfl, ?_⟩
   refine rq_less (sx 46 (congrArg some e32.1) (sub_nil _)) (List.sublist_append_right _ _) ?_
   exact rq_v (rv_ev rfl)
  ·
   intro vf pf hR
   have e29 : (vf 29) = .bool false ∧ (pf 29) = [] := hR 29 (by decide)
   have e33 : (vf 33) = .bool false ∧ (pf 33) = [] := hR 33 (by decide)
   refine Or.inl ⟨rfl, ?_⟩
   refine rq_less (sx 43 (congrArg some e29.1) (sx 47 (congrArg some e33.1) (sub_nil _))) (List.sublist_append_right _ _) ?_
   exact rq_v (rv_ev rfl)
  ·
   intro vf pf hR
   have e34 : (vf 34) = .bool false ∧ (pf 34) = [] := hR 34 (by decide)
   refine Or.inl ⟨rfl, ?_⟩
   refine rq_less (sx 48 (congrArg some e34.1) (sub_nil _)) (List.sublist_append_right _ _) ?_
   exact rq_v (rv_ev rfl)
  ·
   intro vf pf hR
   have e35 : (vf 35) = .bool false ∧ (pf 35) = [] := hR 35 (by decide)
   refine Or.inl ⟨want_of (congrArg some e35.1) rfl, ?_⟩
   refine rq_less (sx 7 rfl (sub_nil _)) (List.sublist_append_right _ _) ?_
   exact rq_v (rv_field (k0 := 1) rfl (by kernel_rfl) rfl)
  ·
   intro vf pf hR
   have e35 : (vf 35) = .bool false ∧ (pf 35) = [] := hR 35 (by decide)
   have e36 : (vf 36) = .pointer (some ⟨b2, 0 + 1, none⟩) ∧ (pf 36) = [] := hR 36 (by decide)
   refine Or.inl ⟨want_of (congrArg some e35.1) rfl, ?_⟩
   refine rq_less (sx 50 (congrArg some e36.1) (sub_nil _)) (List.sublist_append_right _ _) ?_
   exact rq_v (rv_load rfl (by kernel_rfl) rfl (box_cell 0 rfl rfl))
  ·
   intro vf pf hR
   have e35 : (vf 35) = .bool false ∧ (pf 35) = [] := hR 35 (by decide)
   have e37 : (vf 37) = r.fv ∧ (pf 37) = [] := hR 37 (by decide)
   refine Or.inl ⟨want_of (congrArg some e35.1) rfl, ?_⟩
   refine rq_less (sx 51 (congrArg some e37.1) (sub_nil _)) (List.sublist_append_right _ _) ?_
   exact rq_v (rv_index (s := 1) rfl Try.underlying26 (by kernel_rfl) rfl rfl (rd_old hrf) (by omega) (by first | omega | (simp only [List.length_set]; omega)))
  ·
   intro vf pf hR
   have e35 : (vf 35) = .bool false ∧ (pf 35) = [] := hR 35 (by decide)
   have e38 : (vf 38) = elP r.fv ((0 : Int).toNat * 1) ∧ (pf 38) = [] := hR 38 (by decide)
   refine Or.inl ⟨want_of (congrArg some e35.1) rfl, ?_⟩
   refine rq_less (sx 52 (congrArg some e38.1) (sub_nil _)) (List.sublist_append_right _ _) ?_
   exact rq_v (rv_loadEl (u := .int .i64 (r.fs.getD 0 0)) rfl (by kernel_rfl) rfl (rd_old hrf) (ints_at1 (show _ < r.fs.length by first | omega | (simp only [List.length_set]; omega))))
  ·
   intro vf pf hR
   have e35 : (vf 35) = .bool false ∧ (pf 35) = [] := hR 35 (by decide)
   have e39 : (vf 39) = .int .i64 (r.fs.getD 0 0) ∧ (pf 39) = [] := hR 39 (by decide)
   refine Or.inl ⟨want_of (congrArg some e35.1) rfl, ?_⟩
   refine rq_less (sx 53 (congrArg some e39.1) (sub_nil _)) (List.sublist_append_right _ _) ?_
   exact rq_mono (rq_v (rv_cmp rfl rfl rfl rfl)) (fun _ _ h => ⟨h.1.trans (congrArg Value.bool hb7), h.2⟩)
  ·
   intro vf pf hR
   have e35 : (vf 35) = .bool false ∧ (pf 35) = [] := hR 35 (by decide)
   have e40 : (vf 40) = .bool false ∧ (pf 40) = [] := hR 40 (by decide)
   refine Or.inl ⟨rfl, ?_⟩
   refine rq_less (sx 49 (congrArg some e35.1) (sx 54 (congrArg some e40.1) (sub_nil _))) (List.sublist_append_right _ _) ?_
   exact rq_v (rv_ev rfl)
 ·
  intro vf pf hR
  have e41 : (vf 41) = .bool false ∧ (pf 41) = [] := hR 41 (by decide)
  refine hl_less (l' := [boxE b2 #[r.nv, r.fv] 28, boxE b1 #[.int .i64 d.W, .int .i64 d.H, .int .i64 d.T, .int .i64 d.R] 25]) (sx 0 rfl (sx 1 rfl (sx 2 rfl (sx 3 rfl (sx 4 rfl (sx 7 rfl (sx 8 rfl (sx 55 (congrArg some e41.1) (sub_nil _))))))))) (List.sublist_append_right _ _) ?_
  simp only [List.drop_succ_cons, List.drop_zero]
  refine hl_less (sx 0 rfl (sx 1 rfl (sx 2 rfl (sx 3 rfl (sx 4 rfl (sx 7 rfl (sx 8 rfl (sx 55 rfl (sub_nil _))))))))) (.refl _) ?_
  refine hl_nil ?_
  refine hq_then ?_
  refine hc_false rfl ?_
  refine hc_skip ?_
  refine hq_then ?_
  refine hc_seq ?_
  refine hc_region ?_
  refine hl_q rfl rfl rfl (rq_makeSet rfl) ?_
  intro v8 p9 hR10
  obtain ⟨mhR10, rfl, rfl⟩ := hR10
  refine hl_v rfl rfl rfl (rv_ev rfl) ?_
  refine hl_less (sx 0 rfl (sx 1 rfl (sx 2 rfl (sx 3 rfl (sx 4 rfl (sx 7 rfl (sx 8 rfl (sx 9 rfl (sx 55 rfl (sub_nil _)))))))))) (.refl _) ?_
  refine hl_nil ?_
  refine hq_then ?_
  refine hc_seq ?_
  refine hc_seq ?_
  refine hc_region ?_
  refine hl_v rfl rfl rfl (rv_field (k0 := 0) rfl (by kernel_rfl) rfl) ?_
  refine hl_v rfl rfl rfl (rv_load rfl (by kernel_rfl) rfl (box_cell 1 rfl rfl)) ?_
  refine hl_v rfl rfl rfl (rv_len rfl Try.underlying26 rfl (rd_old hrn)) ?_
  refine hl_v rfl rfl rfl (rv_ev rfl) ?_
  refine hl_less (sx 0 rfl (sx 1 rfl (sx 2 rfl (sx 3 rfl (sx 4 rfl (sx 7 rfl (sx 8 rfl (sx 9 rfl (sx 55 rfl (sx 58 rfl (sx 59 rfl (sx 60 rfl (sub_nil _))))))))))))) (.refl _) ?_
  refine hl_nil ?_
  refine hq_then ?_
  refine hc_block ?_
  refine hc_loop2 (α := Nat) (β := List Int) (fun k sn => [setE mhR10 sn, boxE b2 #[r.nv, r.fv] 28, boxE b1 #[.int .i64 d.W, .int .i64 d.H, .int .i64 d.T, .int .i64 d.R] 25]) (fun k sn => [(0, .agg #[.int .i64 d.W, .int .i64 d.H, .int .i64 d.T, .int .i64 d.R]), (1, .int .i64 s0), (2, qv), (3, .agg #[r.nv, r.fv]), (4, .pointer (some ⟨b1, 0, none⟩)), (7, .pointer (some ⟨b2, 0, none⟩)), (8, .bool false), (9, .map (some mhR10)), (55, .bool false), (58, r.nv), (59, .int .i64 (r.ns.length : Int)), (60, .int .i64 (k : Int))]) (fun k sn => k ≤ r.ns.length ∧ sn = (r.ns.take k).reverse ∧ ∀ i, i < k → r.ns.getD i 0 % perI d < 5 → hasB qs (r.ns.getD i 0) = true) (fun k sn => r.ns.length - k) 0 [] ⟨by omega, rfl, fun i hi => absurd hi (by omega)⟩ (sx 0 rfl (sx 1 rfl (sx 2 rfl (sx 3 rfl (sx 4 rfl (sx 7 rfl (sx 8 rfl (sx 9 rfl (sx 55 rfl (sx 58 rfl (sx 59 rfl (sx 60 rfl (sub_nil _))))))))))))) ((.cons_cons _ (.cons_cons _ (.cons_cons _ .slnil)))) ?_
  intro k sn hi11
  obtain ⟨hk, hsn, hin⟩ := hi11
  refine hc_seq ?_
  refine hc_region ?_
  refine hl_lss rfl rfl rfl rfl rfl rfl (fun h12 => ?_) (fun h12 => ?_)
  ·
   refine hl_less (sx 0 rfl (sx 1 rfl (sx 2 rfl (sx 3 rfl (sx 4 rfl (sx 7 rfl (sx 8 rfl (sx 9 rfl (sx 55 rfl (sx 58 rfl (sx 59 rfl (sx 60 rfl (sx 61 rfl (sub_nil _)))))))))))))) (.refl _) ?_
   refine hl_nil ?_
   refine hq_then ?_
   refine hc_seq ?_
   refine hc_true rfl ?_
   refine hc_skip ?_
   refine hq_then ?_
   refine hc_seq ?_
   refine hc_block ?_
   refine hc_seq ?_
   refine hc_region ?_
   refine hl_v rfl rfl rfl (rv_ev rfl) ?_
   refine hl_v rfl rfl rfl (rv_index (s := 1) rfl Try.underlying26 (by kernel_rfl) rfl rfl (rd_old hrn) (by omega) (by first | omega | (simp only [List.length_set]; omega))) ?_
   refine hl_v rfl rfl rfl (rv_loadEl (u := .int .i64 (r.ns.getD k 0)) rfl (by kernel_rfl) rfl (rd_old hrn) (ints_at1 (show _ < r.ns.length by first | omega | (simp only [List.length_set]; omega)))) ?_
   refine hl_v rfl rfl rfl (rv_ev rfl) ?_
   refine hl_v rfl rfl rfl (rv_ev rfl) ?_
   refine hl_less (sx 0 rfl (sx 1 rfl (sx 2 rfl (sx 3 rfl (sx 4 rfl (sx 7 rfl (sx 8 rfl (sx 9 rfl (sx 10 rfl (sx 11 rfl (sx 55 rfl (sx 58 rfl (sx 59 rfl (sx 60 rfl (sx 61 rfl (sub_nil _)))))))))))))))) (.refl _) ?_
   refine hl_nil ?_
   refine hq_then ?_
   refine hc_seq ?_
   refine hc_seq ?_
   refine hc_region ?_
   have hno := hrt.node (k := k) (by omega)
   have hxr := hns.rng (r.ns.getD k 0) (getD_inX (by omega))
   have hnc : List.contains sn (r.ns.getD k 0) = false := by rw [hsn]; exact seen_no hns (by omega)
   have hsl : sn.length = k := by rw [hsn, List.length_reverse, List.length_take]; omega
   have hstp : 0 < k → 0 ≤ r.fs.getD k 0 ∧ r.fs.getD k 0 < k ∧ hasB (srcI d (r.ns.getD k 0)) (r.ns.getD (r.fs.getD k 0).toNat 0) = true := fun h => hrt.tr.step k h (by omega)
   have hs16 := src_len16 d (r.ns.getD k 0)
   refine hl_v rfl rfl rfl (rv_loadN (cs := [.int .i64 d.W, .int .i64 d.H, .int .i64 d.T, .int .i64 d.R]) rfl (by kernel_rfl) (by kernel_rfl) rfl rfl (box_part 2 rfl 0 rfl)) ?_
   refine hl_v rfl rfl rfl (rv_ev rfl) ?_
   refine hl_callV rfl rfl rfl (rq_call (by kernel_rfl) rfl (fun w hm => ret_ans (implRouteNodeOk_any d _ w))) ?_
   refine hl_bool (fun h13 => ?_) (fun h13 => absurd ((hno).symm.trans h13) (by decide))
   refine hl_v rfl rfl rfl (rv_ev rfl) ?_
   refine hl_v rfl rfl rfl (rv_ev rfl) ?_
   refine hl_v rfl rfl rfl (rv_ev rfl) ?_
   refine hl_v rfl rfl rfl (rv_ev rfl) ?_
   refine hl_v rfl rfl rfl (rv_inSet (i := 0) (S := sn) (k := r.ns.getD k 0) rfl Try.underlying66 rfl rfl (wf_small (by omega)) rfl) ?_
   refine hl_bool (fun h14 => absurd ((hnc).symm.trans h14) (by decide)) (fun h14 => ?_)
   refine hl_v rfl rfl rfl (rv_ev rfl) ?_
   refine hl_less (sx 0 rfl (sx 1 rfl (sx 2 rfl (sx 3 rfl (sx 4 rfl (sx 7 rfl (sx 8 rfl (sx 9 rfl (sx 10 rfl (sx 11 rfl (sx 55 rfl (sx 58 rfl (sx 59 rfl (sx 60 rfl (sx 61 rfl (sx 73 rfl (sub_nil _))))))))))))))))) (.refl _) ?_
   refine hl_nil ?_
   refine hq_then ?_
   refine hc_false rfl ?_
   refine hc_skip ?_
   refine hq_then ?_
   refine hc_seq ?_
   refine hc_region ?_
   refine hl_v rfl rfl rfl (rv_ev rfl) ?_
   refine hl_v rfl rfl rfl (rv_ev rfl) ?_
   refine hl_intoSet (i := 0) (k := r.ns.getD k 0) (l' := [setE mhR10 ((r.ns.getD k 0) :: sn), boxE b2 #[r.nv, r.fv] 28, boxE b1 #[.int .i64 d.W, .int .i64 d.H, .int .i64 d.T, .int .i64 d.R] 25]) rfl rfl rfl Try.underlying66 rfl rfl rfl (wf_small (by omega)) rfl (by first | omega | (simp; omega)) rfl ?_
   refine hl_less (sx 0 rfl (sx 1 rfl (sx 2 rfl (sx 3 rfl (sx 4 rfl (sx 7 rfl (sx 8 rfl (sx 9 rfl (sx 10 rfl (sx 11 rfl (sx 55 rfl (sx 58 rfl (sx 59 rfl (sx 60 rfl (sx 61 rfl (sx 73 rfl (sub_nil _))))))))))))))))) (.refl _) ?_
   refine hl_nil ?_
   refine hq_then ?_
   refine hc_seq ?_
   refine hc_seq ?_
   have hst2 : 0 < k → 0 ≤ r.fs.getD k 0 ∧ r.fs.getD k 0 < k := fun h => ⟨(hstp h).1, (hstp h).2.1⟩
   rcases Bool.eq_false_or_eq_true (decide (0 < (k : Int))) with hb15 | hb15
   ·
    have hb15p : 0 < (k : Int) := of_decide_eq_true hb15
    have hst2 : 0 < k → 0 ≤ r.fs.getD k 0 ∧ r.fs.getD k 0 < k := fun h => ⟨(hstp h).1, (hstp h).2.1⟩
    have hb16 : (inR (r.fs.getD k 0) 0 ((k : Int) - 1)) = true := (inr_in (by omega))
    have hb20 : (hasB (srcI d (r.ns.getD k 0)) (r.ns.getD ((r.fs.getD k 0).toNat) 0)) = true := (hstp (by omega)).2.2
    refine hc_draw (by kernel_rfl) 29 [0, 1, 2, 3, 4, 5, 6, 7, 8, 9, 10, 11, 12, 13, 14, 15, 16, 17, 18, 19, 20, 21, 22, 23, 24, 25, 26, 27, 28] (List.take 29 _) (List.drop 29 _) [[], [0], [1], [2], [2, 3], [2], [2, 4, 5], [2, 6], [2], [2, 8], [2, 7, 9], [2, 10], [2, 11], [12], [12], [12, 13, 14], [12], [12, 16], [12], [12, 18], [12], [12, 19, 20], [12, 21], [12, 17, 22], [12, 23], [12, 15, 24], [12, 25], [2, 12, 26], [2, 27]] [76, 77, 78, 79, 80, 81, 82, 83, 84, 85, 86, 87, 88, 89, 90, 91, 92, 93, 94, 95, 96, 97, 98, 99, 100, 101, 102, 103, 104] (fun i_ vs_ v_ p_ => match i_ with | 0 => v_ = .int .i64 (k : Int) ∧ p_ = [] | 1 => v_ = .bool true ∧ p_ = [] | 2 => v_ = .bool true ∧ p_ = [] | 3 => v_ = .pointer (some ⟨b2, 0 + 1, none⟩) ∧ p_ = [] | 4 => v_ = r.fv ∧ p_ = [] | 5 => v_ = .int .i64 (k : Int) ∧ p_ = [] | 6 => v_ = elP r.fv (((k : Int)).toNat * 1) ∧ p_ = [] | 7 => v_ = .int .i64 (r.fs.getD k 0) ∧ p_ = [] | 8 => v_ = .int .i64 (k : Int) ∧ p_ = [] | 9 => v_ = .int .i64 ((k : Int) - 1) ∧ p_ = [] | 10 => v_ = .bool true ∧ p_ = [] | 11 => v_ = .bool false ∧ p_ = [] | 12 => v_ = .bool false ∧ p_ = [] | 13 => v_ = .agg #[.int .i64 d.W, .int .i64 d.H, .int .i64 d.T, .int .i64 d.R] ∧ p_ = [] | 14 => v_ = .int .i64 (r.ns.getD k 0) ∧ p_ = [] | 15 => (fun v' post => post = [rowE 3 1 v' (srcI d (r.ns.getD k 0)).length ((srcI d (r.ns.getD k 0)).map (Value.int .i64))]) v_ p_ | 16 => v_ = .pointer (some ⟨b2, 0 + 0, none⟩) ∧ p_ = [] | 17 => v_ = r.nv ∧ p_ = [] | 18 => v_ = .pointer (some ⟨b2, 0 + 1, none⟩) ∧ p_ = [] | 19 => v_ = r.fv ∧ p_ = [] | 20 => v_ = .int .i64 (k : Int) ∧ p_ = [] | 21 => v_ = elP r.fv (((k : Int)).toNat * 1) ∧ p_ = [] | 22 => v_ = .int .i64 (r.fs.getD k 0) ∧ p_ = [] | 23 => v_ = elP r.nv ((r.fs.getD k 0).toNat * 1) ∧ p_ = [] | 24 => v_ = .int .i64 (r.ns.getD ((r.fs.getD k 0).toNat) 0) ∧ p_ = [] | 25 => v_ = .bool true ∧ p_ = [] | 26 => v_ = .bool false ∧ p_ = [] | 27 => v_ = .bool false ∧ p_ = [] | 28 => v_ = .bool false ∧ p_ = [] | _ => True) (List.take_append_drop 29 _).symm (by kernel_rfl) (by kernel_rfl) rfl rfl ?_ ?_
    ·
     refine ⟨?_, ?_, ?_, ?_, ?_, ?_, ?_, ?_, ?_, ?_, ?_, ?_, ?_, ?_, ?_, ?_, ?_, ?_, ?_, ?_, ?_, ?_, ?_, ?_, ?_, ?_, ?_, ?_, ?_, trivial⟩
     ·
      intro vf pf hR
      refine Or.inl ⟨rfl, ?_⟩
      refine rq_less (sx 10 rfl (sub_nil _)) (List.sublist_append_right _ _) ?_
      exact rq_v (rv_ev rfl)
     ·
      intro vf pf hR
      have e0 : (vf 0) = .int .i64 (k : Int) ∧ (pf 0) = [] := hR 0 (by decide)
      refine Or.inl ⟨rfl, ?_⟩
      refine rq_less (sx 76 (congrArg some e0.1) (sub_nil _)) (List.sublist_append_right _ _) ?_
      exact rq_mono (rq_v (rv_cmp rfl rfl rfl rfl)) (fun _ _ h => ⟨h.1.trans (congrArg Value.bool hb15), h.2⟩)
     ·
      intro vf pf hR
      have e1 : (vf 1) = .bool true ∧ (pf 1) = [] := hR 1 (by decide)
      refine Or.inl ⟨rfl, ?_⟩
      refine rq_less (sx 77 (congrArg some e1.1) (sub_nil _)) (List.sublist_append_right _ _) ?_
      exact rq_v (rv_ev rfl)
     ·
      intro vf pf hR
      have e2 : (vf 2) = .bool true ∧ (pf 2) = [] := hR 2 (by decide)
      refine Or.inl ⟨want_of (congrArg some e2.1) rfl, ?_⟩
      refine rq_less (sx 7 rfl (sub_nil _)) (List.sublist_append_right _ _) ?_
      exact rq_v (rv_field (k0 := 1) rfl (by kernel_rfl) rfl)
     ·
      intro vf pf hR
      have e2 : (vf 2) = .bool true ∧ (pf 2) = [] := hR 2 (by decide)
      have e3 : (vf 3) = .pointer (some ⟨b2, 0 + 1, none⟩) ∧ (pf 3) = [] := hR 3 (by decide)
      refine Or.inl ⟨want_of (congrArg some e2.1) rfl, ?_⟩
      refine rq_less (sx 79 (congrArg some e3.1) (sub_nil _)) (List.sublist_append_right _ _) ?_
      exact rq_v (rv_load rfl (by kernel_rfl) rfl (box_cell 1 rfl rfl))
     ·
      intro vf pf hR
      have e2 : (vf 2) = .bool true ∧ (pf 2) = [] := hR 2 (by decide)
      refine Or.inl ⟨want_of (congrArg some e2.1) rfl, ?_⟩
      refine rq_less (sx 10 rfl (sub_nil _)) (List.sublist_append_right _ _) ?_
      exact rq_v (rv_ev rfl)
     ·
      intro vf pf hR
      have e2 : (vf 2) = .bool true ∧ (pf 2) = [] := hR 2 (by decide)
      have e4 : (vf 4) = r.fv ∧ (pf 4) = [] := hR 4 (by decide)
      have e5 : (vf 5) = .int .i64 (k : Int) ∧ (pf 5) = [] := hR 5 (by decide)
      refine Or.inl ⟨want_of (congrArg some e2.1) rfl, ?_⟩
      refine rq_less (sx 80 (congrArg some e4.1) (sx 81 (congrArg some e5.1) (sub_nil _))) (List.sublist_append_right _ _) ?_
      exact rq_v (rv_index (s := 1) rfl Try.underlying26 (by kernel_rfl) rfl rfl (rd_old hrf) (by omega) (by first | omega | (simp only [List.length_set]; omega)))
     ·
      intro vf pf hR
      have e2 : (vf 2) = .bool true ∧ (pf 2) = [] := hR 2 (by decide)
      have e6 : (vf 6) = elP r.fv (((k : Int)).toNat * 1) ∧ (pf 6) = [] := hR 6 (by decide)
      refine Or.inl ⟨want_of (congrArg some e2.1) rfl, ?_⟩
      refine rq_less (sx 82 (congrArg some e6.1) (sub_nil _)) (List.sublist_append_right _ _) ?_
      exact rq_v (rv_loadEl (u := .int .i64 (r.fs.getD k 0)) rfl (by kernel_rfl) rfl (rd_old hrf) (ints_at1 (show _ < r.fs.length by first | omega | (simp only [List.length_set]; omega))))
     ·
      intro vf pf hR
      have e2 : (vf 2) = .bool true ∧ (pf 2) = [] := hR 2 (by decide)
      refine Or.inl ⟨want_of (congrArg some e2.1) rfl, ?_⟩
      refine rq_less (sx 10 rfl (sub_nil _)) (List.sublist_append_right _ _) ?_
      exact rq_v (rv_ev rfl)
     ·
      intro vf pf hR
      have e2 : (vf 2) = .bool true ∧ (pf 2) = [] := hR 2 (by decide)
      have e8 : (vf 8) = .int .i64 (k : Int) ∧ (pf 8) = [] := hR 8 (by decide)
      refine Or.inl ⟨want_of (congrArg some e2.1) rfl, ?_⟩
      refine rq_less (sx 84 (congrArg some e8.1) (sub_nil _)) (List.sublist_append_right _ _) ?_
      exact rq_v (rv_sub rfl rfl rfl (by constructor <;> omega))
     ·
      intro vf pf hR
      have e2 : (vf 2) = .bool true ∧ (pf 2) = [] := hR 2 (by decide)
      have e7 : (vf 7) = .int .i64 (r.fs.getD k 0) ∧ (pf 7) = [] := hR 7 (by decide)
      have e9 : (vf 9) = .int .i64 ((k : Int) - 1) ∧ (pf 9) = [] := hR 9 (by decide)
      refine Or.inl ⟨want_of (congrArg some e2.1) rfl, ?_⟩
      refine rq_less (sx 83 (congrArg some e7.1) (sx 85 (congrArg some e9.1) (sub_nil _))) (List.sublist_append_right _ _) ?_
      exact rq_mono (rq_call (by kernel_rfl) rfl (fun w hm => ret_ans (ans_of (inRange_any _ _ _ w)))) (fun _ _ h => ⟨h.1.trans (congrArg Value.bool hb16), h.2⟩)
     ·
      intro vf pf hR
      have e2 : (vf 2) = .bool true ∧ (pf 2) = [] := hR 2 (by decide)
      have e10 : (vf 10) = .bool true ∧ (pf 10) = [] := hR 10 (by decide)
      refine Or.inl ⟨want_of (congrArg some e2.1) rfl, ?_⟩
      refine rq_less (sx 86 (congrArg some e10.1) (sub_nil _)) (List.sublist_append_right _ _) ?_
      exact rq_v (rv_ev rfl)
     ·
      intro vf pf hR
      have e2 : (vf 2) = .bool true ∧ (pf 2) = [] := hR 2 (by decide)
      have e11 : (vf 11) = .bool false ∧ (pf 11) = [] := hR 11 (by decide)
      refine Or.inl ⟨want_of (congrArg some e2.1) rfl, ?_⟩
      refine rq_less (sx 87 (congrArg some e11.1) (sub_nil _)) (List.sublist_append_right _ _) ?_
      exact rq_v (rv_ev rfl)
     ·
      intro vf pf hR
      have e12 : (vf 12) = .bool false ∧ (pf 12) = [] := hR 12 (by decide)
      refine Or.inl ⟨want_of (congrArg some e12.1) rfl, ?_⟩
      refine rq_less (sx 4 rfl (sub_nil _)) (List.sublist_append_right _ _) ?_
      exact rq_v (rv_loadN (cs := [.int .i64 d.W, .int .i64 d.H, .int .i64 d.T, .int .i64 d.R]) rfl (by kernel_rfl) (by kernel_rfl) rfl rfl (box_part 2 rfl 0 rfl))
     ·
      intro vf pf hR
      have e12 : (vf 12) = .bool false ∧ (pf 12) = [] := hR 12 (by decide)
      refine Or.inl ⟨want_of (congrArg some e12.1) rfl, ?_⟩
      refine rq_less (sx 11 rfl (sub_nil _)) (List.sublist_append_right _ _) ?_
      exact rq_v (rv_ev rfl)
     ·
      intro vf pf hR
      have e12 : (vf 12) = .bool false ∧ (pf 12) = [] := hR 12 (by decide)
      have e13 : (vf 13) = .agg #[.int .i64 d.W, .int .i64 d.H, .int .i64 d.T, .int .i64 d.R] ∧ (pf 13) = [] := hR 13 (by decide)
      have e14 : (vf 14) = .int .i64 (r.ns.getD k 0) ∧ (pf 14) = [] := hR 14 (by decide)
      refine Or.inl ⟨want_of (congrArg some e12.1) rfl, ?_⟩
      refine rq_less (sx 89 (congrArg some e13.1) (sx 90 (congrArg some e14.1) (sub_nil _))) (List.sublist_append_right _ _) ?_
      exact rq_call (by kernel_rfl) rfl (fun w hm => implSources_ret d _ w)
     ·
      intro vf pf hR
      have e12 : (vf 12) = .bool false ∧ (pf 12) = [] := hR 12 (by decide)
      refine Or.inl ⟨want_of (congrArg some e12.1) rfl, ?_⟩
      refine rq_less (sx 7 rfl (sub_nil _)) (List.sublist_append_right _ _) ?_
      exact rq_v (rv_field (k0 := 0) rfl (by kernel_rfl) rfl)
     ·
      intro vf pf hR
      have e12 : (vf 12) = .bool false ∧ (pf 12) = [] := hR 12 (by decide)
      have e16 : (vf 16) = .pointer (some ⟨b2, 0 + 0, none⟩) ∧ (pf 16) = [] := hR 16 (by decide)
      refine Or.inl ⟨want_of (congrArg some e12.1) rfl, ?_⟩
      refine rq_less (sx 92 (congrArg some e16.1) (sub_nil _)) (List.sublist_append_right _ _) ?_
      exact rq_v (rv_load rfl (by kernel_rfl) rfl (box_cell 1 rfl rfl))
     ·
      intro vf pf hR
      have e12 : (vf 12) = .bool false ∧ (pf 12) = [] := hR 12 (by decide)
      refine Or.inl ⟨want_of (congrArg some e12.1) rfl, ?_⟩
      refine rq_less (sx 7 rfl (sub_nil _)) (List.sublist_append_right _ _) ?_
      exact rq_v (rv_field (k0 := 1) rfl (by kernel_rfl) rfl)
     ·
      intro vf pf hR
      have e12 : (vf 12) = .bool false ∧ (pf 12) = [] := hR 12 (by decide)
      have e18 : (vf 18) = .pointer (some ⟨b2, 0 + 1, none⟩) ∧ (pf 18) = [] := hR 18 (by decide)
      refine Or.inl ⟨want_of (congrArg some e12.1) rfl, ?_⟩
      refine rq_less (sx 94 (congrArg some e18.1) (sub_nil _)) (List.sublist_append_right _ _) ?_
      exact rq_v (rv_load rfl (by kernel_rfl) rfl (box_cell 1 rfl rfl))
     ·
      intro vf pf hR
      have e12 : (vf 12) = .bool false ∧ (pf 12) = [] := hR 12 (by decide)
      refine Or.inl ⟨want_of (congrArg some e12.1) rfl, ?_⟩
      refine rq_less (sx 10 rfl (sub_nil _)) (List.sublist_append_right _ _) ?_
      exact rq_v (rv_ev rfl)
     ·
      intro vf pf hR
      have e12 : (vf 12) = .bool false ∧ (pf 12) = [] := hR 12 (by decide)
      have e19 : (vf 19) = r.fv ∧ (pf 19) = [] := hR 19 (by decide)
      have e20 : (vf 20) = .int .i64 (k : Int) ∧ (pf 20) = [] := hR 20 (by decide)
      refine Or.inl ⟨want_of (congrArg some e12.1) rfl, ?_⟩
      refine rq_less (sx 95 (congrArg some e19.1) (sx 96 (congrArg some e20.1) (sub_nil _))) (List.sublist_append_right _ _) ?_
      exact rq_v (rv_index (s := 1) rfl Try.underlying26 (by kernel_rfl) rfl rfl (rd_old hrf) (by omega) (by first | omega | (simp only [List.length_set]; omega)))
     ·
      intro vf pf hR
      have e12 : (vf 12) = .bool false ∧ (pf 12) = [] := hR 12 (by decide)
      have e21 : (vf 21) = elP r.fv (((k : Int)).toNat * 1) ∧ (pf 21) = [] := hR 21 (by decide)
      refine Or.inl ⟨want_of (congrArg some e12.1) rfl, ?_⟩
      refine rq_less (sx 97 (congrArg some e21.1) (sub_nil _)) (List.sublist_append_right _ _) ?_
      exact rq_v (rv_loadEl (u := .int .i64 (r.fs.getD k 0)) rfl (by kernel_rfl) rfl (rd_old hrf) (ints_at1 (show _ < r.fs.length by first | omega | (simp only [List.length_set]; omega))))
     ·
      intro vf pf hR
      have e12 : (vf 12) = .bool false ∧ (pf 12) = [] := hR 12 (by decide)
      have e17 : (vf 17) = r.nv ∧ (pf 17) = [] := hR 17 (by decide)
      have e22 : (vf 22) = .int .i64 (r.fs.getD k 0) ∧ (pf 22) = [] := hR 22 (by decide)
      refine Or.inl ⟨want_of (congrArg some e12.1) rfl, ?_⟩
      refine rq_less (sx 93 (congrArg some e17.1) (sx 98 (congrArg some e22.1) (sub_nil _))) (List.sublist_append_right _ _) ?_
      exact rq_v (rv_index (s := 1) rfl Try.underlying26 (by kernel_rfl) rfl rfl (rd_old hrn) (by omega) (by first | omega | (simp only [List.length_set]; omega)))
     ·
      intro vf pf hR
      have e12 : (vf 12) = .bool false ∧ (pf 12) = [] := hR 12 (by decide)
      have e23 : (vf 23) = elP r.nv ((r.fs.getD k 0).toNat * 1) ∧ (pf 23) = [] := hR 23 (by decide)
      refine Or.inl ⟨want_of (congrArg some e12.1) rfl, ?_⟩
      refine rq_less (sx 99 (congrArg some e23.1) (sub_nil _)) (List.sublist_append_right _ _) ?_
      exact rq_v (rv_loadEl (u := .int .i64 (r.ns.getD ((r.fs.getD k 0).toNat) 0)) rfl (by kernel_rfl) rfl (rd_old hrn) (ints_at1 (show _ < r.ns.length by first | omega | (simp only [List.length_set]; omega))))
     ·
      intro vf pf hR
      have e12 : (vf 12) = .bool false ∧ (pf 12) = [] := hR 12 (by decide)
      have e15 : (fun v' post => post = [rowE 3 1 v' (srcI d (r.ns.getD k 0)).length ((srcI d (r.ns.getD k 0)).map (Value.int .i64))]) (vf 15) (pf 15) := hR 15 (by decide)
      obtain ⟨v17, v15⟩ : ∃ x, vf 15 = x := ⟨_, rfl⟩
      obtain ⟨p18, p15⟩ : ∃ x, pf 15 = x := ⟨_, rfl⟩
      have hR19 := e15
      rw [v15, p15] at hR19
      subst hR19
      have e24 : (vf 24) = .int .i64 (r.ns.getD ((r.fs.getD k 0).toNat) 0) ∧ (pf 24) = [] := hR 24 (by decide)
      refine Or.inl ⟨want_of (congrArg some e12.1) rfl, ?_⟩
      refine rq_less (l' := [rowE 3 1 v17 ((srcI d (r.ns.getD k 0)).length) ((srcI d (r.ns.getD k 0)).map (Value.int .i64)), setE mhR10 ((r.ns.getD k 0) :: sn), boxE b2 #[r.nv, r.fv] 28, boxE b1 #[.int .i64 d.W, .int .i64 d.H, .int .i64 d.T, .int .i64 d.R] 25]) (sx 91 (congrArg some v15) (sx 100 (congrArg some e24.1) (sub_nil _))) (by first | (simp only [p15, v15, e12.2, e24.2, List.flatMap_cons, List.flatMap_nil, List.append_nil, List.nil_append, List.cons_append]; exact List.Sublist.refl _) | simp [p15, v15, e12.2, e24.2]) ?_
      exact rq_mono (rq_call (by kernel_rfl) rfl (fun w hm => ret_ans (hasInt_ans (srcI d (r.ns.getD k 0)) (r.ns.getD ((r.fs.getD k 0).toNat) 0) _ w ((rd_row 0 rfl) w hm) (by omega)))) (fun _ _ h => ⟨h.1.trans (congrArg Value.bool hb20), h.2⟩)
     ·
      intro vf pf hR
      have e12 : (vf 12) = .bool false ∧ (pf 12) = [] := hR 12 (by decide)
      have e25 : (vf 25) = .bool true ∧ (pf 25) = [] := hR 25 (by decide)
      refine Or.inl ⟨want_of (congrArg some e12.1) rfl, ?_⟩
      refine rq_less (sx 101 (congrArg some e25.1) (sub_nil _)) (List.sublist_append_right _ _) ?_
      exact rq_v (rv_ev rfl)
     ·
      intro vf pf hR
      have e2 : (vf 2) = .bool true ∧ (pf 2) = [] := hR 2 (by decide)
      have e12 : (vf 12) = .bool false ∧ (pf 12) = [] := hR 12 (by decide)
      have e26 : (vf 26) = .bool false ∧ (pf 26) = [] := hR 26 (by decide)
      refine Or.inl ⟨want_of (congrArg some e2.1) rfl, ?_⟩
      refine rq_less (sx 88 (congrArg some e12.1) (sx 102 (congrArg some e26.1) (sub_nil _))) (List.sublist_append_right _ _) ?_
      exact rq_v (rv_ev rfl)
     ·
      intro vf pf hR
      have e2 : (vf 2) = .bool true ∧ (pf 2) = [] := hR 2 (by decide)
      have e27 : (vf 27) = .bool false ∧ (pf 27) = [] := hR 27 (by decide)
      refine Or.inl ⟨rfl, ?_⟩
      refine rq_less (sx 78 (congrArg some e2.1) (sx 103 (congrArg some e27.1) (sub_nil _))) (List.sublist_append_right _ _) ?_
      exact rq_v (rv_ev rfl)
    ·
     intro vf pf hR
     have e15 : (fun v' post => post = [rowE 3 1 v' (srcI d (r.ns.getD k 0)).length ((srcI d (r.ns.getD k 0)).map (Value.int .i64))]) (vf 15) (pf 15) := hR 15 (by decide)
     obtain ⟨v17, v15⟩ : ∃ x, vf 15 = x := ⟨_, rfl⟩
     obtain ⟨p18, p15⟩ : ∃ x, pf 15 = x := ⟨_, rfl⟩
     have hR19 := e15
     rw [v15, p15] at hR19
     subst hR19
     have e28 : (vf 28) = .bool false ∧ (pf 28) = [] := hR 28 (by decide)
     have q0 : (vf 0) = .int .i64 (k : Int) ∧ (pf 0) = [] := hR 0 (by decide)
     have q1 : (vf 1) = .bool true ∧ (pf 1) = [] := hR 1 (by decide)
     have q2 : (vf 2) = .bool true ∧ (pf 2) = [] := hR 2 (by decide)
     have q3 : (vf 3) = .pointer (some ⟨b2, 0 + 1, none⟩) ∧ (pf 3) = [] := hR 3 (by decide)
     have q4 : (vf 4) = r.fv ∧ (pf 4) = [] := hR 4 (by decide)
     have q5 : (vf 5) = .int .i64 (k : Int) ∧ (pf 5) = [] := hR 5 (by decide)
     have q6 : (vf 6) = elP r.fv (((k : Int)).toNat * 1) ∧ (pf 6) = [] := hR 6 (by decide)
     have q7 : (vf 7) = .int .i64 (r.fs.getD k 0) ∧ (pf 7) = [] := hR 7 (by decide)
     have q8 : (vf 8) = .int .i64 (k : Int) ∧ (pf 8) = [] := hR 8 (by decide)
     have q9 : (vf 9) = .int .i64 ((k : Int) - 1) ∧ (pf 9) = [] := hR 9 (by decide)
     have q10 : (vf 10) = .bool true ∧ (pf 10) = [] := hR 10 (by decide)
     have q11 : (vf 11) = .bool false ∧ (pf 11) = [] := hR 11 (by decide)
     have q12 : (vf 12) = .bool false ∧ (pf 12) = [] := hR 12 (by decide)
     have q13 : (vf 13) = .agg #[.int .i64 d.W, .int .i64 d.H, .int .i64 d.T, .int .i64 d.R] ∧ (pf 13) = [] := hR 13 (by decide)
     have q14 : (vf 14) = .int .i64 (r.ns.getD k 0) ∧ (pf 14) = [] := hR 14 (by decide)
     have q16 : (vf 16) = .pointer (some ⟨b2, 0 + 0, none⟩) ∧ (pf 16) = [] := hR 16 (by decide)
     have q17 : (vf 17) = r.nv ∧ (pf 17) = [] := hR 17 (by decide)
     have q18 : (vf 18) = .pointer (some ⟨b2, 0 + 1, none⟩) ∧ (pf 18) = [] := hR 18 (by decide)
     have q19 : (vf 19) = r.fv ∧ (pf 19) = [] := hR 19 (by decide)
     have q20 : (vf 20) = .int .i64 (k : Int) ∧ (pf 20) = [] := hR 20 (by decide)
     have q21 : (vf 21) = elP r.fv (((k : Int)).toNat * 1) ∧ (pf 21) = [] := hR 21 (by decide)
     have q22 : (vf 22) = .int .i64 (r.fs.getD k 0) ∧ (pf 22) = [] := hR 22 (by decide)
     have q23 : (vf 23) = elP r.nv ((r.fs.getD k 0).toNat * 1) ∧ (pf 23) = [] := hR 23 (by decide)
     have q24 : (vf 24) = .int .i64 (r.ns.getD ((r.fs.getD k 0).toNat) 0) ∧ (pf 24) = [] := hR 24 (by decide)
     have q25 : (vf 25) = .bool true ∧ (pf 25) = [] := hR 25 (by decide)
     have q26 : (vf 26) = .bool false ∧ (pf 26) = [] := hR 26 (by decide)
     have q27 : (vf 27) = .bool false ∧ (pf 27) = [] := hR 27 (by decide)
     have q28 : (vf 28) = .bool false ∧ (pf 28) = [] := hR 28 (by decide)
     refine hl_less (l' := [rowE 3 1 v17 ((srcI d (r.ns.getD k 0)).length) ((srcI d (r.ns.getD k 0)).map (Value.int .i64)), setE mhR10 ((r.ns.getD k 0) :: sn), boxE b2 #[r.nv, r.fv] 28, boxE b1 #[.int .i64 d.W, .int .i64 d.H, .int .i64 d.T, .int .i64 d.R] 25]) (sx 0 rfl (sx 1 rfl (sx 2 rfl (sx 3 rfl (sx 4 rfl (sx 7 rfl (sx 8 rfl (sx 9 rfl (sx 10 rfl (sx 11 rfl (sx 55 rfl (sx 58 rfl (sx 59 rfl (sx 60 rfl (sx 61 rfl (sx 73 rfl (sx 104 (congrArg some e28.1) (sub_nil _)))))))))))))))))) (by first | (simp only [p15, v15, q0.2, q1.2, q2.2, q3.2, q4.2, q5.2, q6.2, q7.2, q8.2, q9.2, q10.2, q11.2, q12.2, q13.2, q14.2, q16.2, q17.2, q18.2, q19.2, q20.2, q21.2, q22.2, q23.2, q24.2, q25.2, q26.2, q27.2, q28.2, List.flatMap_cons, List.flatMap_nil, List.append_nil, List.nil_append, List.cons_append]; exact List.Sublist.refl _) | simp [p15, v15, q0.2, q1.2, q2.2, q3.2, q4.2, q5.2, q6.2, q7.2, q8.2, q9.2, q10.2, q11.2, q12.2, q13.2, q14.2, q16.2, q17.2, q18.2, q19.2, q20.2, q21.2, q22.2, q23.2, q24.2, q25.2, q26.2, q27.2, q28.2]) ?_
     simp only [List.drop_succ_cons, List.drop_zero]
     refine hl_less (sx 0 rfl (sx 1 rfl (sx 2 rfl (sx 3 rfl (sx 4 rfl (sx 7 rfl (sx 8 rfl (sx 9 rfl (sx 10 rfl (sx 11 rfl (sx 55 rfl (sx 58 rfl (sx 59 rfl (sx 60 rfl (sx 61 rfl (sx 73 rfl (sx 104 rfl (sub_nil _)))))))))))))))))) (.refl _) ?_
     refine hl_nil ?_
     refine hq_then ?_
     refine hc_false rfl ?_
     refine hc_skip ?_
     refine hq_then ?_
     refine hc_seq ?_
     refine hc_region ?_
     refine hl_v rfl rfl rfl (rv_loadN (cs := [.int .i64 d.W, .int .i64 d.H, .int .i64 d.T, .int .i64 d.R]) rfl (by kernel_rfl) (by kernel_rfl) rfl rfl (box_part 3 rfl 0 rfl)) ?_
     refine hl_v rfl rfl rfl (rv_ev rfl) ?_
     refine hl_callV rfl rfl rfl (rq_call (by kernel_rfl) rfl (fun w hm => ret_ans (isInPin_yes d (r.ns.getD k 0) w hd hno))) ?_
     refine hl_bool (fun h21 => ?_) (fun h21 => ?_)
     ·
      refine hl_v rfl rfl rfl (rv_ev rfl) ?_
      refine hl_v rfl rfl rfl (rv_ev rfl) ?_
      refine hl_v rfl rfl rfl (rv_ev rfl) ?_
      refine hl_callV rfl rfl rfl (rq_call (by kernel_rfl) rfl (fun w hm => ret_ans (hasInt_ans qs (r.ns.getD k 0) _ w ((rd_old hq) w hm) (by omega)))) ?_
      refine hl_bool (fun h22 => ?_) (fun h22 => ?_)
      ·
       refine hl_v rfl rfl rfl (rv_ev rfl) ?_
       refine hl_v rfl rfl rfl (rv_ev rfl) ?_
       refine hl_less (sx 0 rfl (sx 1 rfl (sx 2 rfl (sx 3 rfl (sx 4 rfl (sx 7 rfl (sx 8 rfl (sx 9 rfl (sx 10 rfl (sx 11 rfl (sx 55 rfl (sx 58 rfl (sx 59 rfl (sx 60 rfl (sx 61 rfl (sx 73 rfl (sx 104 rfl (sx 113 rfl (sub_nil _))))))))))))))))))) (.refl _) ?_
       refine hl_nil ?_
       refine hq_then ?_
       refine hc_false rfl ?_
       refine hc_skip ?_
       refine hq_block_normal ?_
       refine hq_then ?_
       refine hc_region ?_
       refine hl_v rfl rfl rfl (rv_add rfl rfl rfl (by constructor <;> omega)) ?_
       refine hl_v rfl rfl rfl (rv_ev rfl) ?_
       refine hl_less (sx 0 rfl (sx 1 rfl (sx 2 rfl (sx 3 rfl (sx 4 rfl (sx 7 rfl (sx 8 rfl (sx 9 rfl (sx 10 rfl (sx 11 rfl (sx 55 rfl (sx 58 rfl (sx 59 rfl (sx 60 rfl (sx 61 rfl (sx 73 rfl (sx 104 rfl (sx 113 rfl (sub_nil _))))))))))))))))))) (.refl _) ?_
       refine hl_nil ?_
       exact hq_round2 (k + 1) ((r.ns.getD k 0) :: sn) ⟨by omega, by rw [hsn]; exact seen_rev _ (by omega), fun i hi hpc => by by_cases hik : i = k; (rw [hik] at hpc ⊢; assumption); exact hin i (by omega) hpc⟩ (by omega) (sx 0 rfl (sx 1 rfl (sx 2 rfl (sx 3 rfl (sx 4 rfl (sx 7 rfl (sx 8 rfl (sx 9 rfl (sx 55 rfl (sx 58 rfl (sx 59 rfl (sx 60 rfl (sub_nil _))))))))))))) ((.cons _ (.cons_cons _ (.cons_cons _ (.cons_cons _ .slnil)))))
      ·
       refine hl_v rfl rfl rfl (rv_ev rfl) ?_
       refine hl_v rfl rfl rfl (rv_ev rfl) ?_
       refine hl_less (sx 0 rfl (sx 1 rfl (sx 2 rfl (sx 3 rfl (sx 4 rfl (sx 7 rfl (sx 8 rfl (sx 9 rfl (sx 10 rfl (sx 11 rfl (sx 55 rfl (sx 58 rfl (sx 59 rfl (sx 60 rfl (sx 61 rfl (sx 73 rfl (sx 104 rfl (sx 113 rfl (sub_nil _))))))))))))))))))) (.refl _) ?_
       refine hl_nil ?_
       refine hq_then ?_
       refine hc_true rfl ?_
       refine hc_seq ?_
       refine hc_region ?_
       refine hl_v rfl rfl rfl (rv_ev rfl) ?_
       refine hl_less (sx 0 rfl (sx 1 rfl (sx 2 rfl (sx 3 rfl (sx 4 rfl (sx 7 rfl (sx 8 rfl (sx 9 rfl (sx 10 rfl (sx 11 rfl (sx 55 rfl (sx 58 rfl (sx 59 rfl (sx 60 rfl (sx 61 rfl (sx 73 rfl (sx 104 rfl (sx 113 rfl (sub_nil _))))))))))))))))))) (.refl _) ?_
       refine hl_nil ?_
       refine hq_then ?_
       refine hc_ret ?_
       refine hq_block_ret ?_
       refine hq_then_ret ?_
       refine hq_then_ret ?_
       refine hq_block_ret ?_
       refine hq_then_ret ?_
       exact hq_ans rfl rfl (congrArg _ (okR_in (k := k) (by omega) (of_decide_eq_true (by assumption)) (by assumption)).symm)
     ·
      refine hl_v rfl rfl rfl (rv_ev rfl) ?_
      refine hl_skip rfl rfl rfl ?_
      refine hl_skip rfl rfl rfl ?_
      refine hl_skip rfl rfl rfl ?_
      refine hl_skip rfl rfl rfl ?_
      refine hl_v rfl rfl rfl (rv_ev rfl) ?_
      refine hl_less (sx 0 rfl (sx 1 rfl (sx 2 rfl (sx 3 rfl (sx 4 rfl (sx 7 rfl (sx 8 rfl (sx 9 rfl (sx 10 rfl (sx 11 rfl (sx 55 rfl (sx 58 rfl (sx 59 rfl (sx 60 rfl (sx 61 rfl (sx 73 rfl (sx 104 rfl (sx 113 rfl (sub_nil _))))))))))))))))))) (.refl _) ?_
      refine hl_nil ?_
      refine hq_then ?_
      refine hc_false rfl ?_
      refine hc_skip ?_
      refine hq_block_normal ?_
      refine hq_then ?_
      refine hc_region ?_
      refine hl_v rfl rfl rfl (rv_add rfl rfl rfl (by constructor <;> omega)) ?_
      refine hl_v rfl rfl rfl (rv_ev rfl) ?_
      refine hl_less (sx 0 rfl (sx 1 rfl (sx 2 rfl (sx 3 rfl (sx 4 rfl (sx 7 rfl (sx 8 rfl (sx 9 rfl (sx 10 rfl (sx 11 rfl (sx 55 rfl (sx 58 rfl (sx 59 rfl (sx 60 rfl (sx 61 rfl (sx 73 rfl (sx 104 rfl (sx 113 rfl (sub_nil _))))))))))))))))))) (.refl _) ?_
      refine hl_nil ?_
      exact hq_round2 (k + 1) ((r.ns.getD k 0) :: sn) ⟨by omega, by rw [hsn]; exact seen_rev _ (by omega), fun i hi hpc => by by_cases hik : i = k; (rw [hik] at hpc ⊢; exact absurd (decide_eq_true hpc) (by rw [show decide (r.ns.getD k 0 % perI d < 5) = false by assumption]; decide)); exact hin i (by omega) hpc⟩ (by omega) (sx 0 rfl (sx 1 rfl (sx 2 rfl (sx 3 rfl (sx 4 rfl (sx 7 rfl (sx 8 rfl (sx 9 rfl (sx 55 rfl (sx 58 rfl (sx 59 rfl (sx 60 rfl (sub_nil _))))))))))))) ((.cons _ (.cons_cons _ (.cons_cons _ (.cons_cons _ .slnil)))))
   ·
    have hb15p : ¬ (0 < (k : Int)) := of_decide_eq_false hb15
    have hst2 : 0 < k → 0 ≤ r.fs.getD k 0 ∧ r.fs.getD k 0 < k := fun h => ⟨(hstp h).1, (hstp h).2.1⟩
    refine hc_draw (by kernel_rfl) 29 [0, 1, 2, 3, 4, 5, 6, 7, 8, 9, 10, 11, 12, 13, 14, 15, 16, 17, 18, 19, 20, 21, 22, 23, 24, 25, 26, 27, 28] (List.take 29 _) (List.drop 29 _) [[], [0], [1], [2], [2], [2], [2], [2], [2], [2], [2], [2], [2], [12], [12], [12], [12], [12], [12], [12], [12], [12], [12], [12], [12], [12], [12], [2], [2, 27]] [76, 77, 78, 79, 80, 81, 82, 83, 84, 85, 86, 87, 88, 89, 90, 91, 92, 93, 94, 95, 96, 97, 98, 99, 100, 101, 102, 103, 104] (fun i_ vs_ v_ p_ => match i_ with | 0 => v_ = .int .i64 (k : Int) ∧ p_ = [] | 1 => v_ = .bool false ∧ p_ = [] | 2 => v_ = .bool false ∧ p_ = [] | 3 => v_ = undef ∧ p_ = [] | 4 => v_ = undef ∧ p_ = [] | 5 => v_ = undef ∧ p_ = [] | 6 => v_ = undef ∧ p_ = [] | 7 => v_ = undef ∧ p_ = [] | 8 => v_ = undef ∧ p_ = [] | 9 => v_ = undef ∧ p_ = [] | 10 => v_ = undef ∧ p_ = [] | 11 => v_ = undef ∧ p_ = [] | 12 => v_ = undef ∧ p_ = [] | 13 => v_ = undef ∧ p_ = [] | 14 => v_ = undef ∧ p_ = [] | 15 => v_ = undef ∧ p_ = [] | 16 => v_ = undef ∧ p_ = [] | 17 => v_ = undef ∧ p_ = [] | 18 => v_ = undef ∧ p_ = [] | 19 => v_ = undef ∧ p_ = [] | 20 => v_ = undef ∧ p_ = [] | 21 => v_ = undef ∧ p_ = [] | 22 => v_ = undef ∧ p_ = [] | 23 => v_ = undef ∧ p_ = [] | 24 => v_ = undef ∧ p_ = [] | 25 => v_ = undef ∧ p_ = [] | 26 => v_ = undef ∧ p_ = [] | 27 => v_ = undef ∧ p_ = [] | 28 => v_ = .bool false ∧ p_ = [] | _ => True) (List.take_append_drop 29 _).symm (by kernel_rfl) (by kernel_rfl) rfl rfl ?_ ?_
    ·
     refine ⟨?_, ?_, ?_, ?_, ?_, ?_, ?_, ?_, ?_, ?_, ?_, ?_, ?_, ?_, ?_, ?_, ?_, ?_, ?_, ?_, ?_, ?_, ?_, ?_, ?_, ?_, ?_, ?_, ?_, trivial⟩
     ·
      intro vf pf hR
      refine Or.inl ⟨rfl, ?_⟩
      refine rq_less (sx 10 rfl (sub_nil _)) (List.sublist_append_right _ _) ?_
      exact rq_v (rv_ev rfl)
     ·
      intro vf pf hR
      have e0 : (vf 0) = .int .i64 (k : Int) ∧ (pf 0) = [] := hR 0 (by decide)
      refine Or.inl ⟨rfl, ?_⟩
      refine rq_less (sx 76 (congrArg some e0.1) (sub_nil _)) (List.sublist_append_right _ _) ?_
      exact rq_mono (rq_v (rv_cmp rfl rfl rfl rfl)) (fun _ _ h => ⟨h.1.trans (congrArg Value.bool hb15), h.2⟩)
     ·
      intro vf pf hR
      have e1 : (vf 1) = .bool false ∧ (pf 1) = [] := hR 1 (by decide)
      refine Or.inl ⟨rfl, ?_⟩
      refine rq_less (sx 77 (congrArg some e1.1) (sub_nil _)) (List.sublist_append_right _ _) ?_
      exact rq_v (rv_ev rfl)
     ·
      intro vf pf hR
      have e2 : (vf 2) = .bool false ∧ (pf 2) = [] := hR 2 (by decide)
      exact Or.inr ⟨want_of (congrArg some e2.1) rfl, rfl, rfl⟩
     ·
      intro vf pf hR
      have e2 : (vf 2) = .bool false ∧ (pf 2) = [] := hR 2 (by decide)
      exact Or.inr ⟨want_of (congrArg some e2.1) rfl, rfl, rfl⟩
     ·
      intro vf pf hR
      have e2 : (vf 2) = .bool false ∧ (pf 2) = [] := hR 2 (by decide)
      exact Or.inr ⟨want_of (congrArg some e2.1) rfl, rfl, rfl⟩
     ·
      intro vf pf hR
      have e2 : (vf 2) = .bool false ∧ (pf 2) = [] := hR 2 (by decide)
      exact Or.inr ⟨want_of (congrArg some e2.1) rfl, rfl, rfl⟩
     ·
      intro vf pf hR
      have e2 : (vf 2) = .bool false ∧ (pf 2) = [] := hR 2 (by decide)
      exact Or.inr ⟨want_of (congrArg some e2.1) rfl, rfl, rfl⟩
     ·
      intro vf pf hR
      have e2 : (vf 2) = .bool false ∧ (pf 2) = [] := hR 2 (by decide)
      exact Or.inr ⟨want_of (congrArg some e2.1) rfl, rfl, rfl⟩
     ·
      intro vf pf hR
      have e2 : (vf 2) = .bool false ∧ (pf 2) = [] := hR 2 (by decide)
      exact Or.inr ⟨want_of (congrArg some e2.1) rfl, rfl, rfl⟩
     ·
      intro vf pf hR
      have e2 : (vf 2) = .bool false ∧ (pf 2) = [] := hR 2 (by decide)
      exact Or.inr ⟨want_of (congrArg some e2.1) rfl, rfl, rfl⟩
     ·
      intro vf pf hR
      have e2 : (vf 2) = .bool false ∧ (pf 2) = [] := hR 2 (by decide)
      exact Or.inr ⟨want_of (congrArg some e2.1) rfl, rfl, rfl⟩
     ·
      intro vf pf hR
      have e2 : (vf 2) = .bool false ∧ (pf 2) = [] := hR 2 (by decide)
      exact Or.inr ⟨want_of (congrArg some e2.1) rfl, rfl, rfl⟩
     ·
      intro vf pf hR
      have e12 : (vf 12) = undef ∧ (pf 12) = [] := hR 12 (by decide)
      exact Or.inr ⟨want_un (congrArg some e12.1), rfl, rfl⟩
     ·
      intro vf pf hR
      have e12 : (vf 12) = undef ∧ (pf 12) = [] := hR 12 (by decide)
      exact Or.inr ⟨want_un (congrArg some e12.1), rfl, rfl⟩
     ·
      intro vf pf hR
      have e12 : (vf 12) = undef ∧ (pf 12) = [] := hR 12 (by decide)
      exact Or.inr ⟨want_un (congrArg some e12.1), rfl, rfl⟩
     ·
      intro vf pf hR
      have e12 : (vf 12) = undef ∧ (pf 12) = [] := hR 12 (by decide)
      exact Or.inr ⟨want_un (congrArg some e12.1), rfl, rfl⟩
     ·
      intro vf pf hR
      have e12 : (vf 12) = undef ∧ (pf 12) = [] := hR 12 (by decide)
      exact Or.inr ⟨want_un (congrArg some e12.1), rfl, rfl⟩
     ·
      intro vf pf hR
      have e12 : (vf 12) = undef ∧ (pf 12) = [] := hR 12 (by decide)
      exact Or.inr ⟨want_un (congrArg some e12.1), rfl, rfl⟩
     ·
      intro vf pf hR
      have e12 : (vf 12) = undef ∧ (pf 12) = [] := hR 12 (by decide)
      exact Or.inr ⟨want_un (congrArg some e12.1), rfl, rfl⟩
     ·
      intro vf pf hR
      have e12 : (vf 12) = undef ∧ (pf 12) = [] := hR 12 (by decide)
      exact Or.inr ⟨want_un (congrArg some e12.1), rfl, rfl⟩
     ·
      intro vf pf hR
      have e12 : (vf 12) = undef ∧ (pf 12) = [] := hR 12 (by decide)
      exact Or.inr ⟨want_un (congrArg some e12.1), rfl, rfl⟩
     ·
      intro vf pf hR
      have e12 : (vf 12) = undef ∧ (pf 12) = [] := hR 12 (by decide)
      exact Or.inr ⟨want_un (congrArg some e12.1), rfl, rfl⟩
     ·
      intro vf pf hR
      have e12 : (vf 12) = undef ∧ (pf 12) = [] := hR 12 (by decide)
      exact Or.inr ⟨want_un (congrArg some e12.1), rfl, rfl⟩
     ·
      intro vf pf hR
      have e12 : (vf 12) = undef ∧ (pf 12) = [] := hR 12 (by decide)
      exact Or.inr ⟨want_un (congrArg some e12.1), rfl, rfl⟩
     ·
      intro vf pf hR
      have e12 : (vf 12) = undef ∧ (pf 12) = [] := hR 12 (by decide)
      exact Or.inr ⟨want_un (congrArg some e12.1), rfl, rfl⟩
     ·
      intro vf pf hR
      have e12 : (vf 12) = undef ∧ (pf 12) = [] := hR 12 (by decide)
      exact Or.inr ⟨want_un (congrArg some e12.1), rfl, rfl⟩
     ·
      intro vf pf hR
      have e2 : (vf 2) = .bool false ∧ (pf 2) = [] := hR 2 (by decide)
      exact Or.inr ⟨want_of (congrArg some e2.1) rfl, rfl, rfl⟩
     ·
      intro vf pf hR
      have e2 : (vf 2) = .bool false ∧ (pf 2) = [] := hR 2 (by decide)
      have e27 : (vf 27) = undef ∧ (pf 27) = [] := hR 27 (by decide)
      refine Or.inl ⟨rfl, ?_⟩
      refine rq_less (sx 78 (congrArg some e2.1) (sx 103 (congrArg some e27.1) (sub_nil _))) (List.sublist_append_right _ _) ?_
      exact rq_v (rv_ev rfl)
    ·
     intro vf pf hR
     have e28 : (vf 28) = .bool false ∧ (pf 28) = [] := hR 28 (by decide)
     refine hl_less (l' := [setE mhR10 ((r.ns.getD k 0) :: sn), boxE b2 #[r.nv, r.fv] 28, boxE b1 #[.int .i64 d.W, .int .i64 d.H, .int .i64 d.T, .int .i64 d.R] 25]) (sx 0 rfl (sx 1 rfl (sx 2 rfl (sx 3 rfl (sx 4 rfl (sx 7 rfl (sx 8 rfl (sx 9 rfl (sx 10 rfl (sx 11 rfl (sx 55 rfl (sx 58 rfl (sx 59 rfl (sx 60 rfl (sx 61 rfl (sx 73 rfl (sx 104 (congrArg some e28.1) (sub_nil _)))))))))))))))))) (List.sublist_append_right _ _) ?_
     simp only [List.drop_succ_cons, List.drop_zero]
     refine hl_less (sx 0 rfl (sx 1 rfl (sx 2 rfl (sx 3 rfl (sx 4 rfl (sx 7 rfl (sx 8 rfl (sx 9 rfl (sx 10 rfl (sx 11 rfl (sx 55 rfl (sx 58 rfl (sx 59 rfl (sx 60 rfl (sx 61 rfl (sx 73 rfl (sx 104 rfl (sub_nil _)))))))))))))))))) (.refl _) ?_
     refine hl_nil ?_
     refine hq_then ?_
     refine hc_false rfl ?_
     refine hc_skip ?_
     refine hq_then ?_
     refine hc_seq ?_
     refine hc_region ?_
     refine hl_v rfl rfl rfl (rv_loadN (cs := [.int .i64 d.W, .int .i64 d.H, .int .i64 d.T, .int .i64 d.R]) rfl (by kernel_rfl) (by kernel_rfl) rfl rfl (box_part 2 rfl 0 rfl)) ?_
     refine hl_v rfl rfl rfl (rv_ev rfl) ?_
     refine hl_callV rfl rfl rfl (rq_call (by kernel_rfl) rfl (fun w hm => ret_ans (isInPin_yes d (r.ns.getD k 0) w hd hno))) ?_
     refine hl_bool (fun h23 => ?_) (fun h23 => ?_)
     ·
      refine hl_v rfl rfl rfl (rv_ev rfl) ?_
      refine hl_v rfl rfl rfl (rv_ev rfl) ?_
      refine hl_v rfl rfl rfl (rv_ev rfl) ?_
      refine hl_callV rfl rfl rfl (rq_call (by kernel_rfl) rfl (fun w hm => ret_ans (hasInt_ans qs (r.ns.getD k 0) _ w ((rd_old hq) w hm) (by omega)))) ?_
      refine hl_bool (fun h24 => ?_) (fun h24 => ?_)
      ·
       refine hl_v rfl rfl rfl (rv_ev rfl) ?_
       refine hl_v rfl rfl rfl (rv_ev rfl) ?_
       refine hl_less (sx 0 rfl (sx 1 rfl (sx 2 rfl (sx 3 rfl (sx 4 rfl (sx 7 rfl (sx 8 rfl (sx 9 rfl (sx 10 rfl (sx 11 rfl (sx 55 rfl (sx 58 rfl (sx 59 rfl (sx 60 rfl (sx 61 rfl (sx 73 rfl (sx 104 rfl (sx 113 rfl (sub_nil _))))))))))))))))))) (.refl _) ?_
       refine hl_nil ?_
       refine hq_then ?_
       refine hc_false rfl ?_
       refine hc_skip ?_
       refine hq_block_normal ?_
       refine hq_then ?_
       refine hc_region ?_
       refine hl_v rfl rfl rfl (rv_add rfl rfl rfl (by constructor <;> omega)) ?_
       refine hl_v rfl rfl rfl (rv_ev rfl) ?_
       refine hl_less (sx 0 rfl (sx 1 rfl (sx 2 rfl (sx 3 rfl (sx 4 rfl (sx 7 rfl (sx 8 rfl (sx 9 rfl (sx 10 rfl (sx 11 rfl (sx 55 rfl (sx 58 rfl (sx 59 rfl (sx 60 rfl (sx 61 rfl (sx 73 rfl (sx 104 rfl (sx 113 rfl (sub_nil _))))))))))))))))))) (.refl _) ?_
       refine hl_nil ?_
       exact hq_round2 (k + 1) ((r.ns.getD k 0) :: sn) ⟨by omega, by rw [hsn]; exact seen_rev _ (by omega), fun i hi hpc => by by_cases hik : i = k; (rw [hik] at hpc ⊢; assumption); exact hin i (by omega) hpc⟩ (by omega) (sx 0 rfl (sx 1 rfl (sx 2 rfl (sx 3 rfl (sx 4 rfl (sx 7 rfl (sx 8 rfl (sx 9 rfl (sx 55 rfl (sx 58 rfl (sx 59 rfl (sx 60 rfl (sub_nil _))))))))))))) ((.cons_cons _ (.cons_cons _ (.cons_cons _ .slnil))))
      ·
       refine hl_v rfl rfl rfl (rv_ev rfl) ?_
       refine hl_v rfl rfl rfl (rv_ev rfl) ?_
       refine hl_less (sx 0 rfl (sx 1 rfl (sx 2 rfl (sx 3 rfl (sx 4 rfl (sx 7 rfl (sx 8 rfl (sx 9 rfl (sx 10 rfl (sx 11 rfl (sx 55 rfl (sx 58 rfl (sx 59 rfl (sx 60 rfl (sx 61 rfl (sx 73 rfl (sx 104 rfl (sx 113 rfl (sub_nil _))))))))))))))))))) (.refl _) ?_
       refine hl_nil ?_
       refine hq_then ?_
       refine hc_true rfl ?_
       refine hc_seq ?_
       refine hc_region ?_
       refine hl_v rfl rfl rfl (rv_ev rfl) ?_
       refine hl_less (sx 0 rfl (sx 1 rfl (sx 2 rfl (sx 3 rfl (sx 4 rfl (sx 7 rfl (sx 8 rfl (sx 9 rfl (sx 10 rfl (sx 11 rfl (sx 55 rfl (sx 58 rfl (sx 59 rfl (sx 60 rfl (sx 61 rfl (sx 73 rfl (sx 104 rfl (sx 113 rfl (sub_nil _))))))))))))))))))) (.refl _) ?_
       refine hl_nil ?_
       refine hq_then ?_
       refine hc_ret ?_
       refine hq_block_ret ?_
       refine hq_then_ret ?_
       refine hq_then_ret ?_
       refine hq_block_ret ?_
       refine hq_then_ret ?_
       exact hq_ans rfl rfl (congrArg _ (okR_in (k := k) (by omega) (of_decide_eq_true (by assumption)) (by assumption)).symm)
     ·
      refine hl_v rfl rfl rfl (rv_ev rfl) ?_
      refine hl_skip rfl rfl rfl ?_
      refine hl_skip rfl rfl rfl ?_
      refine hl_skip rfl rfl rfl ?_
      refine hl_skip rfl rfl rfl ?_
      refine hl_v rfl rfl rfl (rv_ev rfl) ?_
      refine hl_less (sx 0 rfl (sx 1 rfl (sx 2 rfl (sx 3 rfl (sx 4 rfl (sx 7 rfl (sx 8 rfl (sx 9 rfl (sx 10 rfl (sx 11 rfl (sx 55 rfl (sx 58 rfl (sx 59 rfl (sx 60 rfl (sx 61 rfl (sx 73 rfl (sx 104 rfl (sx 113 rfl (sub_nil _))))))))))))))))))) (.refl _) ?_
      refine hl_nil ?_
      refine hq_then ?_
      refine hc_false rfl ?_
      refine hc_skip ?_
      refine hq_block_normal ?_
      refine hq_then ?_
      refine hc_region ?_
      refine hl_v rfl rfl rfl (rv_add rfl rfl rfl (by constructor <;> omega)) ?_
      refine hl_v rfl rfl rfl (rv_ev rfl) ?_
      refine hl_less (sx 0 rfl (sx 1 rfl (sx 2 rfl (sx 3 rfl (sx 4 rfl (sx 7 rfl (sx 8 rfl (sx 9 rfl (sx 10 rfl (sx 11 rfl (sx 55 rfl (sx 58 rfl (sx 59 rfl (sx 60 rfl (sx 61 rfl (sx 73 rfl (sx 104 rfl (sx 113 rfl (sub_nil _))))))))))))))))))) (.refl _) ?_
      refine hl_nil ?_
      exact hq_round2 (k + 1) ((r.ns.getD k 0) :: sn) ⟨by omega, by rw [hsn]; exact seen_rev _ (by omega), fun i hi hpc => by by_cases hik : i = k; (rw [hik] at hpc ⊢; exact absurd (decide_eq_true hpc) (by rw [show decide (r.ns.getD k 0 % perI d < 5) = false by assumption]; decide)); exact hin i (by omega) hpc⟩ (by omega) (sx 0 rfl (sx 1 rfl (sx 2 rfl (sx 3 rfl (sx 4 rfl (sx 7 rfl (sx 8 rfl (sx 9 rfl (sx 55 rfl (sx 58 rfl (sx 59 rfl (sx 60 rfl (sub_nil _))))))))))))) ((.cons_cons _ (.cons_cons _ (.cons_cons _ .slnil))))
  ·
   refine hl_less (sx 0 rfl (sx 1 rfl (sx 2 rfl (sx 3 rfl (sx 4 rfl (sx 7 rfl (sx 8 rfl (sx 9 rfl (sx 55 rfl (sx 58 rfl (sx 59 rfl (sx 60 rfl (sx 61 rfl (sub_nil _)))))))))))))) (.refl _) ?_
   refine hl_nil ?_
   refine hq_then ?_
   refine hc_seq ?_
   refine hc_false rfl ?_
   refine hc_exit ?_
   refine hq_then_exit ?_
   refine hq_then_exit ?_
   refine hq_block_exit ?_
   refine hq_then ?_
   refine hc_seq ?_
   refine hc_seq ?_
   refine hc_region ?_
   refine hl_v rfl rfl rfl (rv_ev rfl) ?_
   refine hl_v rfl rfl rfl (rv_len rfl Try.underlying26 rfl (rd_old hq)) ?_
   refine hl_v rfl rfl rfl (rv_ev rfl) ?_
   refine hl_less (sx 0 rfl (sx 1 rfl (sx 2 rfl (sx 3 rfl (sx 4 rfl (sx 7 rfl (sx 8 rfl (sx 9 rfl (sx 55 rfl (sx 58 rfl (sx 59 rfl (sx 60 rfl (sx 61 rfl (sx 115 rfl (sx 116 rfl (sx 117 rfl (sub_nil _))))))))))))))))) (.refl _) ?_
   refine hl_nil ?_
   refine hq_then ?_
   refine hc_block ?_
   have hke : k = r.ns.length := by omega
   have hsa : sn = r.ns.reverse := by rw [hsn, hke, List.take_length]
   refine hc_loop1 (α := Nat) (fun j => [setE mhR10 sn, boxE b2 #[r.nv, r.fv] 28, boxE b1 #[.int .i64 d.W, .int .i64 d.H, .int .i64 d.T, .int .i64 d.R] 25]) (fun j => [(0, .agg #[.int .i64 d.W, .int .i64 d.H, .int .i64 d.T, .int .i64 d.R]), (1, .int .i64 s0), (2, qv), (3, .agg #[r.nv, r.fv]), (4, .pointer (some ⟨b1, 0, none⟩)), (7, .pointer (some ⟨b2, 0, none⟩)), (8, .bool false), (9, .map (some mhR10)), (55, .bool false), (58, r.nv), (59, .int .i64 (r.ns.length : Int)), (60, .int .i64 (k : Int)), (61, .bool false), (115, qv), (116, .int .i64 (qs.length : Int)), (117, .int .i64 (j : Int))]) (fun j => j ≤ qs.length ∧ ∀ i, i < j → hasB r.ns (qs.getD i 0) = true) (fun j => qs.length - j) 0 ⟨by omega, fun i hi => absurd hi (by omega)⟩ (sx 0 rfl (sx 1 rfl (sx 2 rfl (sx 3 rfl (sx 4 rfl (sx 7 rfl (sx 8 rfl (sx 9 rfl (sx 55 rfl (sx 58 rfl (sx 59 rfl (sx 60 rfl (sx 61 rfl (sx 115 rfl (sx 116 rfl (sx 117 rfl (sub_nil _))))))))))))))))) ((.cons_cons _ (.cons_cons _ (.cons_cons _ .slnil)))) ?_
   intro j hi25
   obtain ⟨hj, hq2⟩ := hi25
   refine hc_seq ?_
   refine hc_region ?_
   refine hl_lss rfl rfl rfl rfl rfl rfl (fun h26 => ?_) (fun h26 => ?_)
   ·
    refine hl_less (sx 0 rfl (sx 1 rfl (sx 2 rfl (sx 3 rfl (sx 4 rfl (sx 7 rfl (sx 8 rfl (sx 9 rfl (sx 55 rfl (sx 58 rfl (sx 59 rfl (sx 60 rfl (sx 61 rfl (sx 115 rfl (sx 116 rfl (sx 117 rfl (sx 118 rfl (sub_nil _)))))))))))))))))) (.refl _) ?_
    refine hl_nil ?_
    refine hq_then ?_
    refine hc_seq ?_
    refine hc_true rfl ?_
    refine hc_skip ?_
    refine hq_then ?_
    refine hc_seq ?_
    refine hc_block ?_
    refine hc_seq ?_
    refine hc_region ?_
    refine hl_v rfl rfl rfl (rv_index (s := 1) rfl Try.underlying26 (by kernel_rfl) rfl rfl (rd_old hq) (by omega) (by first | omega | (simp only [List.length_set]; omega))) ?_
    refine hl_v rfl rfl rfl (rv_loadEl (u := .int .i64 (qs.getD j 0)) rfl (by kernel_rfl) rfl (rd_old hq) (ints_at1 (show _ < qs.length by first | omega | (simp only [List.length_set]; omega)))) ?_
    refine hl_v rfl rfl rfl (rv_ev rfl) ?_
    refine hl_less (sx 0 rfl (sx 1 rfl (sx 2 rfl (sx 3 rfl (sx 4 rfl (sx 7 rfl (sx 8 rfl (sx 9 rfl (sx 13 rfl (sx 55 rfl (sx 58 rfl (sx 59 rfl (sx 60 rfl (sx 61 rfl (sx 115 rfl (sx 116 rfl (sx 117 rfl (sx 118 rfl (sub_nil _))))))))))))))))))) (.refl _) ?_
    refine hl_nil ?_
    refine hq_then ?_
    refine hc_seq ?_
    refine hc_region ?_
    have hqm := hqr j (by omega)
    refine hl_v rfl rfl rfl (rv_ev rfl) ?_
    refine hl_v rfl rfl rfl (rv_ev rfl) ?_
    refine hl_v rfl rfl rfl (rv_inSet (i := 0) (S := sn) (k := qs.getD j 0) rfl Try.underlying66 rfl rfl (wf_small (by omega)) rfl) ?_
    refine hl_bool (fun h27 => ?_) (fun h27 => ?_)
    ·
     have hyj : hasB r.ns (qs.getD j 0) = true := by rw [← h27, hsa]; unfold hasB; rw [List.contains_reverse]
     refine hl_v rfl rfl rfl (rv_ev rfl) ?_
     refine hl_less (sx 0 rfl (sx 1 rfl (sx 2 rfl (sx 3 rfl (sx 4 rfl (sx 7 rfl (sx 8 rfl (sx 9 rfl (sx 13 rfl (sx 55 rfl (sx 58 rfl (sx 59 rfl (sx 60 rfl (sx 61 rfl (sx 115 rfl (sx 116 rfl (sx 117 rfl (sx 118 rfl (sx 124 rfl (sub_nil _)))))))))))))))))))) (.refl _) ?_
     refine hl_nil ?_
     refine hq_then ?_
     refine hc_false rfl ?_
     refine hc_skip ?_
     refine hq_block_normal ?_
     refine hq_then ?_
     refine hc_region ?_
     refine hl_v rfl rfl rfl (rv_add rfl rfl rfl (by constructor <;> omega)) ?_
     refine hl_v rfl rfl rfl (rv_ev rfl) ?_
     refine hl_less (sx 0 rfl (sx 1 rfl (sx 2 rfl (sx 3 rfl (sx 4 rfl (sx 7 rfl (sx 8 rfl (sx 9 rfl (sx 13 rfl (sx 55 rfl (sx 58 rfl (sx 59 rfl (sx 60 rfl (sx 61 rfl (sx 115 rfl (sx 116 rfl (sx 117 rfl (sx 118 rfl (sx 124 rfl (sub_nil _)))))))))))))))))))) (.refl _) ?_
     refine hl_nil ?_
     exact hq_round1 (j + 1) ⟨by omega, fun i hi => by by_cases hij : i = j; (subst hij; exact hyj); exact hq2 i (by omega)⟩ (by omega) (sx 0 rfl (sx 1 rfl (sx 2 rfl (sx 3 rfl (sx 4 rfl (sx 7 rfl (sx 8 rfl (sx 9 rfl (sx 55 rfl (sx 58 rfl (sx 59 rfl (sx 60 rfl (sx 61 rfl (sx 115 rfl (sx 116 rfl (sx 117 rfl (sub_nil _))))))))))))))))) ((.cons_cons _ (.cons_cons _ (.cons_cons _ .slnil))))
    ·
     have hnj : hasB r.ns (qs.getD j 0) = false := by rw [← h27, hsa]; unfold hasB; rw [List.contains_reverse]
     refine hl_v rfl rfl rfl (rv_ev rfl) ?_
     refine hl_less (sx 0 rfl (sx 1 rfl (sx 2 rfl (sx 3 rfl (sx 4 rfl (sx 7 rfl (sx 8 rfl (sx 9 rfl (sx 13 rfl (sx 55 rfl (sx 58 rfl (sx 59 rfl (sx 60 rfl (sx 61 rfl (sx 115 rfl (sx 116 rfl (sx 117 rfl (sx 118 rfl (sx 124 rfl (sub_nil _)))))))))))))))))))) (.refl _) ?_
     refine hl_nil ?_
     refine hq_then ?_
     refine hc_true rfl ?_
     refine hc_seq ?_
     refine hc_region ?_
     refine hl_v rfl rfl rfl (rv_ev rfl) ?_
     refine hl_less (sx 0 rfl (sx 1 rfl (sx 2 rfl (sx 3 rfl (sx 4 rfl (sx 7 rfl (sx 8 rfl (sx 9 rfl (sx 13 rfl (sx 55 rfl (sx 58 rfl (sx 59 rfl (sx 60 rfl (sx 61 rfl (sx 115 rfl (sx 116 rfl (sx 117 rfl (sx 118 rfl (sx 124 rfl (sub_nil _)))))))))))))))))))) (.refl _) ?_
     refine hl_nil ?_
     refine hq_then ?_
     refine hc_ret ?_
     refine hq_block_ret ?_
     refine hq_then_ret ?_
     refine hq_then_ret ?_
     refine hq_block_ret ?_
     refine hq_then_ret ?_
     exact hq_ans rfl rfl (congrArg _ (okR_out (k := j) (by omega) hnj).symm)
   ·
    refine hl_less (sx 0 rfl (sx 1 rfl (sx 2 rfl (sx 3 rfl (sx 4 rfl (sx 7 rfl (sx 8 rfl (sx 9 rfl (sx 55 rfl (sx 58 rfl (sx 59 rfl (sx 60 rfl (sx 61 rfl (sx 115 rfl (sx 116 rfl (sx 117 rfl (sx 118 rfl (sub_nil _)))))))))))))))))) (.refl _) ?_
    refine hl_nil ?_
    refine hq_then ?_
    refine hc_seq ?_
    refine hc_false rfl ?_
    refine hc_exit ?_
    refine hq_then_exit ?_
    refine hq_then_exit ?_
    refine hq_block_exit ?_
    refine hq_then ?_
    refine hc_seq ?_
    refine hc_region ?_
    refine hl_v rfl rfl rfl (rv_ev rfl) ?_
    refine hl_less (sx 0 rfl (sx 1 rfl (sx 2 rfl (sx 3 rfl (sx 4 rfl (sx 7 rfl (sx 8 rfl (sx 9 rfl (sx 55 rfl (sx 58 rfl (sx 59 rfl (sx 60 rfl (sx 61 rfl (sx 115 rfl (sx 116 rfl (sx 117 rfl (sx 118 rfl (sub_nil _)))))))))))))))))) (.refl _) ?_
    refine hl_nil ?_
    refine hq_then ?_
    refine hc_ret ?_
    exact hq_ans rfl rfl (congrArg _ (okR_yes (fun k hk => hin k (by omega)) (fun k hk => hq2 k (by omega))).symm)
set_option maxHeartbeats 4000000 in
set_option maxRecDepth 100000 in
theorem growRoute_ret (d : Dev) (b : Nat) (g : Gr) (cs ks : List Int) (cv kv : Value) (s0 : Int) (w : World) (hg : RdsGr w b g) (hgk : GrOk d (allI d).toNat g) (hd : devB d = true) (hcv : RdsW w cv 1 cs.length (cs.map (Value.int .i64))) (hcl : (cs.length : Int) = allI d) (hcr : ∀ k, k < cs.length → 1 ≤ cs.getD k 0 ∧ cs.getD k 0 ≤ 100000) (hkv : RdsW w kv 1 ks.length (ks.map (Value.int .i64))) (hkl : ks.length ≤ 1000) (hkr : ∀ q ∈ ks, 0 ≤ q ∧ q < allI d) (hreach : (∀ q ∈ ks, ∀ (st D : List Int), s0 ∈ st → DistOk cs.length (srcI d) cs st D → 0 ≤ gI D q)) (hs0 : 0 ≤ s0 ∧ s0 < allI d) (hso : s0 % perI d = 5) :
  Calls Try.prog 65 #[.pointer (some ⟨b, 0, none⟩), cv, .int .i64 s0, kv] w (Ret w (fun v' post => ∃ r : Rt, v' = .tuple #[r.agg, .bool true] ∧ post = [rtE r] ∧ (r.nv.oneCell' = true ∧ r.fv.oneCell' = true) ∧ GInv d s0 ks ks.length r)) := by
 obtain ⟨ra1, ra2⟩ := all_rng hd
 refine calls_hc (N := 83) (args := [.pointer (some ⟨b, 0, none⟩), cv, .int .i64 s0, kv]) Try.func65 rfl rfl ?_
 refine hc_less _ (sx 0 rfl (sx 1 rfl (sx 2 rfl (sx 3 rfl (sub_nil _))))) (.refl _) ?_
 refine hc_seq ?_
 refine hc_region ?_
 refine hl_box rfl rfl rfl (rq_alloc (z := .agg #[.slice none 0 0, .slice none 0 0]) rfl (by kernel_rfl)) ?_
 intro b1
 refine hl_v rfl rfl rfl (rv_ev rfl) ?_
 refine hl_less (sx 0 rfl (sx 1 rfl (sx 2 rfl (sx 3 rfl (sx 8 rfl (sx 9 rfl (sub_nil _))))))) (.refl _) ?_
 refine hl_nil ?_
 refine hq_then ?_
 refine hc_seq ?_
 refine hc_region ?_
 refine hl_v rfl rfl rfl (rv_ev rfl) ?_
 refine hl_row rfl rfl rfl (rq_buildSlice (z := .int .i64 0) (s := 1) (cs := ([s0].map (Value.int .i64))) rfl Try.underlying26 (by kernel_rfl) (by decide) rfl (by kernel_rfl) rfl) ?_
 intro g2
 refine hl_row rfl rfl rfl (rq_buildSlice (z := .int .i64 0) (s := 1) (cs := ([0].map (Value.int .i64))) rfl Try.underlying26 (by kernel_rfl) (by decide) rfl (by kernel_rfl) rfl) ?_
 intro g3
 refine hl_v rfl rfl rfl (rv_build (cs := #[.slice (some ⟨g2, 0, none⟩) 1 1, .slice (some ⟨g3, 0, none⟩) 1 1]) rfl rfl (by kernel_rfl)) ?_
 refine hl_box rfl rfl rfl (rq_alloc (z := .agg #[.slice none 0 0, .slice none 0 0]) rfl (by kernel_rfl)) ?_
 intro b4
 refine hl_storeBoxN (i := 0) (off := 0) (us := [.slice (some ⟨g2, 0, none⟩) 1 1, .slice (some ⟨g3, 0, none⟩) 1 1]) (l' := [boxE b4 #[.slice (some ⟨g2, 0, none⟩) 1 1, .slice (some ⟨g3, 0, none⟩) 1 1] 28, rowE 3 1 (.slice (some ⟨g3, 0, none⟩) 1 1) 1 ([0].map (Value.int .i64)), rowE 3 1 (.slice (some ⟨g2, 0, none⟩) 1 1) 1 ([s0].map (Value.int .i64)), boxE b1 #[.slice none 0 0, .slice none 0 0] 28]) rfl rfl rfl (by kernel_rfl) rfl rfl rfl (all_cons rfl (all_cons rfl all_nil)) rfl rfl rfl ?_
 refine hl_less (sx 0 rfl (sx 1 rfl (sx 2 rfl (sx 3 rfl (sx 8 rfl (sx 9 rfl (sx 10 rfl (sub_nil _)))))))) (.refl _) ?_
 refine hl_nil ?_
 refine hq_then ?_
 refine hc_seq ?_
 refine hc_seq ?_
 refine hc_region ?_
 refine hl_v rfl rfl rfl (rv_ev rfl) ?_
 refine hl_v rfl rfl rfl (rv_len rfl Try.underlying26 rfl (rd_old hkv)) ?_
 refine hl_v rfl rfl rfl (rv_ev rfl) ?_
 refine hl_less (sx 0 rfl (sx 1 rfl (sx 2 rfl (sx 3 rfl (sx 8 rfl (sx 9 rfl (sx 10 rfl (sx 23 rfl (sx 24 rfl (sx 25 rfl (sub_nil _))))))))))) (.refl _) ?_
 refine hl_nil ?_
 refine hq_then ?_
 refine hc_block ?_
 refine hc_loop2 (α := Nat) (β := Rt) (fun i r => [boxE b4 #[r.nv, r.fv] 28, rowE 3 1 r.fv r.fs.length (r.fs.map (Value.int .i64)), rowE 3 1 r.nv r.ns.length (r.ns.map (Value.int .i64)), boxE b1 #[.slice none 0 0, .slice none 0 0] 28]) (fun i r => [(0, .pointer (some ⟨b, 0, none⟩)), (1, cv), (2, .int .i64 s0), (3, kv), (8, .pointer (some ⟨b1, 0, none⟩)), (9, .bool false), (10, .pointer (some ⟨b4, 0, none⟩)), (23, kv), (24, .int .i64 (ks.length : Int)), (25, .int .i64 (i : Int))]) (fun i r => i ≤ ks.length ∧ GInv d s0 ks i r) (fun i r => ks.length - i) 0 (Rt.mk (.slice (some ⟨g2, 0, none⟩) 1 1) (.slice (some ⟨g3, 0, none⟩) 1 1) ([s0]) ([0])) ⟨by omega, ⟨tg_one hs0, fun j hj => absurd hj (by omega), fun x hx h5 => by rw [List.mem_singleton.1 hx] at h5; omega⟩⟩ (sx 0 rfl (sx 1 rfl (sx 2 rfl (sx 3 rfl (sx 8 rfl (sx 9 rfl (sx 10 rfl (sx 23 rfl (sx 24 rfl (sx 25 rfl (sub_nil _))))))))))) ((.cons_cons _ (.cons_cons _ (.cons_cons _ (.cons_cons _ .slnil))))) ?_
 intro i r hi5
 obtain ⟨hi, hgi⟩ := hi5
 have hgl := hgi.tr.len
 have hg0 := hgi.tr.l0
 have hg1 := hgi.tr.l1
 refine hc_seq ?_
 refine hc_region ?_
 refine hl_lss rfl rfl rfl rfl rfl rfl (fun h6 => ?_) (fun h6 => ?_)
 ·
  refine hl_less (sx 0 rfl (sx 1 rfl (sx 2 rfl (sx 3 rfl (sx 8 rfl (sx 9 rfl (sx 10 rfl (sx 23 rfl (sx 24 rfl (sx 25 rfl (sx 26 rfl (sub_nil _)))))))))))) (.refl _) ?_
  refine hl_nil ?_
  refine hq_then ?_
  refine hc_seq ?_
  refine hc_true rfl ?_
  refine hc_skip ?_
  refine hq_then ?_
  refine hc_seq ?_
  refine hc_block ?_
  refine hc_seq ?_
  refine hc_region ?_
  refine hl_v rfl rfl rfl (rv_index (s := 1) rfl Try.underlying26 (by kernel_rfl) rfl rfl (rd_old hkv) (by omega) (by first | omega | (simp only [List.length_set]; omega))) ?_
  refine hl_v rfl rfl rfl (rv_loadEl (u := .int .i64 (ks.getD i 0)) rfl (by kernel_rfl) rfl (rd_old hkv) (ints_at1 (show _ < ks.length by first | omega | (simp only [List.length_set]; omega)))) ?_
  refine hl_v rfl rfl rfl (rv_ev rfl) ?_
  refine hl_less (sx 0 rfl (sx 1 rfl (sx 2 rfl (sx 3 rfl (sx 8 rfl (sx 9 rfl (sx 10 rfl (sx 12 rfl (sx 23 rfl (sx 24 rfl (sx 25 rfl (sx 26 rfl (sub_nil _))))))))))))) (.refl _) ?_
  refine hl_nil ?_
  refine hq_then ?_
  refine hc_seq ?_
  refine hc_seq ?_
  refine hc_region ?_
  refine hl_v rfl rfl rfl (rv_field (k0 := 0) rfl (by kernel_rfl) rfl) ?_
  refine hl_v rfl rfl rfl (rv_load rfl (by kernel_rfl) rfl (box_cell 0 rfl rfl)) ?_
  refine hl_v rfl rfl rfl (rv_ev rfl) ?_
  refine hl_callV rfl rfl rfl (rq_call (by kernel_rfl) rfl (fun w hm => ret_ans (hasInt_ans r.ns (ks.getD i 0) _ w ((rd_row 2 rfl) w hm) (by first | omega | simp)))) ?_
  refine hl_bool (fun h7 => ?_) (fun h7 => ?_)
  ·
   refine hl_less (sx 0 rfl (sx 1 rfl (sx 2 rfl (sx 3 rfl (sx 8 rfl (sx 9 rfl (sx 10 rfl (sx 12 rfl (sx 23 rfl (sx 24 rfl (sx 25 rfl (sx 26 rfl (sx 32 rfl (sub_nil _)))))))))))))) (.refl _) ?_
   refine hl_nil ?_
   refine hq_then ?_
   refine hc_true rfl ?_
   refine hc_exit ?_
   refine hq_then_exit ?_
   refine hq_block_exit ?_
   refine hq_then ?_
   refine hc_region ?_
   refine hl_v rfl rfl rfl (rv_add rfl rfl rfl (by constructor <;> omega)) ?_
   refine hl_v rfl rfl rfl (rv_ev rfl) ?_
   refine hl_less (sx 0 rfl (sx 1 rfl (sx 2 rfl (sx 3 rfl (sx 8 rfl (sx 9 rfl (sx 10 rfl (sx 12 rfl (sx 23 rfl (sx 24 rfl (sx 25 rfl (sx 26 rfl (sx 32 rfl (sub_nil _)))))))))))))) (.refl _) ?_
   refine hl_nil ?_
   exact hq_round2 (i + 1) (Rt.mk r.nv r.fv r.ns r.fs) ⟨by omega, hgi.same rfl (by assumption)⟩ (by omega) (sx 0 rfl (sx 1 rfl (sx 2 rfl (sx 3 rfl (sx 8 rfl (sx 9 rfl (sx 10 rfl (sx 23 rfl (sx 24 rfl (sx 25 rfl (sub_nil _))))))))))) ((.cons_cons _ (.cons_cons _ (.cons_cons _ (.cons_cons _ .slnil)))))
  ·
   refine hl_less (sx 0 rfl (sx 1 rfl (sx 2 rfl (sx 3 rfl (sx 8 rfl (sx 9 rfl (sx 10 rfl (sx 12 rfl (sx 23 rfl (sx 24 rfl (sx 25 rfl (sx 26 rfl (sx 32 rfl (sub_nil _)))))))))))))) (.refl _) ?_
   refine hl_nil ?_
   refine hq_then ?_
   refine hc_false rfl ?_
   refine hc_skip ?_
   refine hq_then ?_
   refine hc_seq ?_
   refine hc_region ?_
   refine hl_v rfl rfl rfl (rv_ev rfl) ?_
   refine hl_v rfl rfl rfl (rv_ev rfl) ?_
   refine hl_v rfl rfl rfl (rv_field (k0 := 0) rfl (by kernel_rfl) rfl) ?_
   refine hl_v rfl rfl rfl (rv_load rfl (by kernel_rfl) rfl (box_cell 0 rfl rfl)) ?_
   refine hl_v rfl rfl rfl (rv_ev rfl) ?_
   refine hl_q rfl rfl rfl (rq_call (by kernel_rfl) rfl (fun w hm => cheapestPath_ret d b g cs r.ns _ _ (ks.getD i 0) w (hg.below hm.bel) hgk hd ((rd_old hcv) w hm) hcl hcr ((rd_row 2 rfl) w hm) (by omega) hgi.tr.rng (hkr _ (getD_memZ (by omega))) (fun D hD => hreach _ (getD_memZ (by omega)) _ D (by have := hgi.tr.root; rw [← this]; exact getD_memZ (by omega)) hD))) ?_
   intro v8 p9 hR10
   obtain ⟨xs, rfl, D2, x0, hD2, hx0, hcp⟩ := hR10
   have hxl := hcp.l0
   have hxm := hcp.len
   refine hl_v rfl rfl rfl (rv_ev rfl) ?_
   refine hl_less (sx 0 rfl (sx 1 rfl (sx 2 rfl (sx 3 rfl (sx 8 rfl (sx 9 rfl (sx 10 rfl (sx 12 rfl (sx 13 rfl (sx 23 rfl (sx 24 rfl (sx 25 rfl (sx 26 rfl (sx 32 rfl (sub_nil _))))))))))))))) (.refl _) ?_
   refine hl_nil ?_
   refine hq_then ?_
   refine hc_seq ?_
   refine hc_seq ?_
   refine hc_region ?_
   have hkri := hkr _ (getD_memZ (show i < ks.length by omega))
   have hxb := hD2.rng (ks.getD i 0) hkri.1 (by omega)
   have hxz := hcp.pos
   refine hl_v rfl rfl rfl (rv_ev rfl) ?_
   refine hl_v rfl rfl rfl (rv_eqlNil rfl Try.underlying26 rfl rfl (rd_row 0 rfl) (by omega)) ?_
   refine hl_less (sx 0 rfl (sx 1 rfl (sx 2 rfl (sx 3 rfl (sx 8 rfl (sx 9 rfl (sx 10 rfl (sx 12 rfl (sx 13 rfl (sx 23 rfl (sx 24 rfl (sx 25 rfl (sx 26 rfl (sx 32 rfl (sx 40 rfl (sub_nil _)))))))))))))))) (.refl _) ?_
   refine hl_nil ?_
   refine hq_then ?_
   refine hc_false rfl ?_
   refine hc_skip ?_
   refine hq_then ?_
   refine hc_seq ?_
   refine hc_region ?_
   refine hl_v rfl rfl rfl (rv_ev rfl) ?_
   refine hl_less (sx 0 rfl (sx 1 rfl (sx 2 rfl (sx 3 rfl (sx 8 rfl (sx 9 rfl (sx 10 rfl (sx 12 rfl (sx 13 rfl (sx 14 rfl (sx 23 rfl (sx 24 rfl (sx 25 rfl (sx 26 rfl (sx 32 rfl (sx 40 rfl (sub_nil _))))))))))))))))) (.refl _) ?_
   refine hl_nil ?_
   refine hq_then ?_
   refine hc_seq ?_
   refine hc_seq ?_
   refine hc_region ?_
   refine hl_v rfl rfl rfl (rv_field (k0 := 0) rfl (by kernel_rfl) rfl) ?_
   refine hl_v rfl rfl rfl (rv_load rfl (by kernel_rfl) rfl (box_cell 1 rfl rfl)) ?_
   refine hl_v rfl rfl rfl (rv_len rfl Try.underlying26 rfl (rd_row 3 rfl)) ?_
   refine hl_v rfl rfl rfl (rv_ev rfl) ?_
   refine hl_less (sx 0 rfl (sx 1 rfl (sx 2 rfl (sx 3 rfl (sx 8 rfl (sx 9 rfl (sx 10 rfl (sx 12 rfl (sx 13 rfl (sx 14 rfl (sx 23 rfl (sx 24 rfl (sx 25 rfl (sx 26 rfl (sx 32 rfl (sx 40 rfl (sx 43 rfl (sx 44 rfl (sx 45 rfl (sub_nil _)))))))))))))))))))) (.refl _) ?_
   refine hl_nil ?_
   refine hq_then ?_
   refine hc_block ?_
   refine hc_loop2 (α := Nat) (β := Int) (fun q f => [rowE 3 1 v8 xs.length (xs.map (Value.int .i64)), boxE b4 #[r.nv, r.fv] 28, rowE 3 1 r.fv r.fs.length (r.fs.map (Value.int .i64)), rowE 3 1 r.nv r.ns.length (r.ns.map (Value.int .i64)), boxE b1 #[.slice none 0 0, .slice none 0 0] 28]) (fun q f => [(0, .pointer (some ⟨b, 0, none⟩)), (1, cv), (2, .int .i64 s0), (3, kv), (8, .pointer (some ⟨b1, 0, none⟩)), (9, .bool false), (10, .pointer (some ⟨b4, 0, none⟩)), (12, .int .i64 (ks.getD i 0)), (13, v8), (14, .int .i64 f), (23, kv), (24, .int .i64 (ks.length : Int)), (25, .int .i64 (i : Int)), (26, .bool true), (32, .bool false), (40, .bool false), (43, r.nv), (44, .int .i64 (r.ns.length : Int)), (45, .int .i64 (q : Int))]) (fun q f => q ≤ r.ns.length ∧ ((f = 0 ∧ ∀ i, i < q → r.ns.getD i 0 ≠ x0) ∨ ((0 ≤ f ∧ f < q) ∧ r.ns.getD f.toNat 0 = x0))) (fun q f => r.ns.length - q) 0 0 ⟨by omega, .inl ⟨rfl, fun i hi => absurd hi (by omega)⟩⟩ (sx 0 rfl (sx 1 rfl (sx 2 rfl (sx 3 rfl (sx 8 rfl (sx 9 rfl (sx 10 rfl (sx 12 rfl (sx 13 rfl (sx 14 rfl (sx 23 rfl (sx 24 rfl (sx 25 rfl (sx 26 rfl (sx 32 rfl (sx 40 rfl (sx 43 rfl (sx 44 rfl (sx 45 rfl (sub_nil _)))))))))))))))))))) ((.cons_cons _ (.cons_cons _ (.cons_cons _ (.cons_cons _ (.cons_cons _ .slnil)))))) ?_
   intro q f hi11
   obtain ⟨hq, hf⟩ := hi11
   refine hc_seq ?_
   refine hc_region ?_
   refine hl_lss rfl rfl rfl rfl rfl rfl (fun h12 => ?_) (fun h12 => ?_)
   ·
    refine hl_less (sx 0 rfl (sx 1 rfl (sx 2 rfl (sx 3 rfl (sx 8 rfl (sx 9 rfl (sx 10 rfl (sx 12 rfl (sx 13 rfl (sx 14 rfl (sx 23 rfl (sx 24 rfl (sx 25 rfl (sx 26 rfl (sx 32 rfl (sx 40 rfl (sx 43 rfl (sx 44 rfl (sx 45 rfl (sx 46 rfl (sub_nil _))))))))))))))))))))) (.refl _) ?_
    refine hl_nil ?_
    refine hq_then ?_
    refine hc_seq ?_
    refine hc_true rfl ?_
    refine hc_skip ?_
    refine hq_then ?_
    refine hc_seq ?_
    refine hc_block ?_
    refine hc_seq ?_
    refine hc_region ?_
    refine hl_v rfl rfl rfl (rv_ev rfl) ?_
    refine hl_v rfl rfl rfl (rv_index (s := 1) rfl Try.underlying26 (by kernel_rfl) rfl rfl (rd_row 3 rfl) (by omega) (by first | omega | (simp only [List.length_set]; omega))) ?_
    refine hl_v rfl rfl rfl (rv_loadEl (u := .int .i64 (r.ns.getD q 0)) rfl (by kernel_rfl) rfl (rd_row 3 rfl) (ints_at1 (show _ < r.ns.length by first | omega | (simp only [List.length_set]; omega)))) ?_
    refine hl_v rfl rfl rfl (rv_ev rfl) ?_
    refine hl_v rfl rfl rfl (rv_ev rfl) ?_
    refine hl_less (sx 0 rfl (sx 1 rfl (sx 2 rfl (sx 3 rfl (sx 8 rfl (sx 9 rfl (sx 10 rfl (sx 12 rfl (sx 13 rfl (sx 14 rfl (sx 15 rfl (sx 16 rfl (sx 23 rfl (sx 24 rfl (sx 25 rfl (sx 26 rfl (sx 32 rfl (sx 40 rfl (sx 43 rfl (sx 44 rfl (sx 45 rfl (sx 46 rfl (sub_nil _))))))))))))))))))))))) (.refl _) ?_
    refine hl_nil ?_
    refine hq_then ?_
    refine hc_seq ?_
    refine hc_region ?_
    refine hl_v rfl rfl rfl (rv_ev rfl) ?_
    refine hl_v rfl rfl rfl (rv_ev rfl) ?_
    refine hl_v rfl rfl rfl (rv_index (s := 1) rfl Try.underlying26 (by kernel_rfl) rfl rfl (rd_row 0 rfl) (by omega) (by first | omega | (simp only [List.length_set]; omega))) ?_
    refine hl_v rfl rfl rfl (rv_loadEl (u := .int .i64 (xs.getD 0 0)) rfl (by kernel_rfl) rfl (rd_row 0 rfl) (ints_at1 (show _ < xs.length by first | omega | (simp only [List.length_set]; omega)))) ?_
    refine hl_eql rfl rfl rfl rfl rfl rfl (fun h13 => ?_) (fun h13 => ?_)
    ·
     refine hl_less (sx 0 rfl (sx 1 rfl (sx 2 rfl (sx 3 rfl (sx 8 rfl (sx 9 rfl (sx 10 rfl (sx 12 rfl (sx 13 rfl (sx 14 rfl (sx 15 rfl (sx 16 rfl (sx 23 rfl (sx 24 rfl (sx 25 rfl (sx 26 rfl (sx 32 rfl (sx 40 rfl (sx 43 rfl (sx 44 rfl (sx 45 rfl (sx 46 rfl (sx 54 rfl (sub_nil _)))))))))))))))))))))))) (.refl _) ?_
     refine hl_nil ?_
     refine hq_then ?_
     refine hc_true rfl ?_
     refine hc_region ?_
     refine hl_v rfl rfl rfl (rv_ev rfl) ?_
     refine hl_v rfl rfl rfl (rv_ev rfl) ?_
     refine hl_less (sx 0 rfl (sx 1 rfl (sx 2 rfl (sx 3 rfl (sx 8 rfl (sx 9 rfl (sx 10 rfl (sx 12 rfl (sx 13 rfl (sx 14 rfl (sx 15 rfl (sx 16 rfl (sx 23 rfl (sx 24 rfl (sx 25 rfl (sx 26 rfl (sx 32 rfl (sx 40 rfl (sx 43 rfl (sx 44 rfl (sx 45 rfl (sx 46 rfl (sx 54 rfl (sub_nil _)))))))))))))))))))))))) (.refl _) ?_
     refine hl_nil ?_
     refine hq_block_normal ?_
     refine hq_then ?_
     refine hc_region ?_
     refine hl_v rfl rfl rfl (rv_add rfl rfl rfl (by constructor <;> omega)) ?_
     refine hl_v rfl rfl rfl (rv_ev rfl) ?_
     refine hl_less (sx 0 rfl (sx 1 rfl (sx 2 rfl (sx 3 rfl (sx 8 rfl (sx 9 rfl (sx 10 rfl (sx 12 rfl (sx 13 rfl (sx 14 rfl (sx 15 rfl (sx 16 rfl (sx 23 rfl (sx 24 rfl (sx 25 rfl (sx 26 rfl (sx 32 rfl (sx 40 rfl (sx 43 rfl (sx 44 rfl (sx 45 rfl (sx 46 rfl (sx 54 rfl (sub_nil _)))))))))))))))))))))))) (.refl _) ?_
     refine hl_nil ?_
     exact hq_round2 (q + 1) (q : Int) ⟨by omega, .inr ⟨by omega, by rw [Int.toNat_natCast, ← hcp.first]; assumption⟩⟩ (by omega) (sx 0 rfl (sx 1 rfl (sx 2 rfl (sx 3 rfl (sx 8 rfl (sx 9 rfl (sx 10 rfl (sx 12 rfl (sx 13 rfl (sx 14 rfl (sx 23 rfl (sx 24 rfl (sx 25 rfl (sx 26 rfl (sx 32 rfl (sx 40 rfl (sx 43 rfl (sx 44 rfl (sx 45 rfl (sub_nil _)))))))))))))))))))) ((.cons_cons _ (.cons_cons _ (.cons_cons _ (.cons_cons _ (.cons_cons _ .slnil))))))
    ·
     refine hl_less (sx 0 rfl (sx 1 rfl (sx 2 rfl (sx 3 rfl (sx 8 rfl (sx 9 rfl (sx 10 rfl (sx 12 rfl (sx 13 rfl (sx 14 rfl (sx 15 rfl (sx 16 rfl (sx 23 rfl (sx 24 rfl (sx 25 rfl (sx 26 rfl (sx 32 rfl (sx 40 rfl (sx 43 rfl (sx 44 rfl (sx 45 rfl (sx 46 rfl (sx 54 rfl (sub_nil _)))))))))))))))))))))))) (.refl _) ?_
     refine hl_nil ?_
     refine hq_then ?_
     refine hc_false rfl ?_
     refine hc_skip ?_
     refine hq_block_normal ?_
     refine hq_then ?_
     refine hc_region ?_
     refine hl_v rfl rfl rfl (rv_add rfl rfl rfl (by constructor <;> omega)) ?_
     refine hl_v rfl rfl rfl (rv_ev rfl) ?_
     refine hl_less (sx 0 rfl (sx 1 rfl (sx 2 rfl (sx 3 rfl (sx 8 rfl (sx 9 rfl (sx 10 rfl (sx 12 rfl (sx 13 rfl (sx 14 rfl (sx 15 rfl (sx 16 rfl (sx 23 rfl (sx 24 rfl (sx 25 rfl (sx 26 rfl (sx 32 rfl (sx 40 rfl (sx 43 rfl (sx 44 rfl (sx 45 rfl (sx 46 rfl (sx 54 rfl (sub_nil _)))))))))))))))))))))))) (.refl _) ?_
     refine hl_nil ?_
     exact hq_round2 (q + 1) f ⟨by omega, hf.imp (fun h => ⟨h.1, fun i hi => by by_cases e : i = q; (subst e; rw [← hcp.first]; assumption); exact h.2 i (by omega)⟩) (fun h => ⟨by omega, h.2⟩)⟩ (by omega) (sx 0 rfl (sx 1 rfl (sx 2 rfl (sx 3 rfl (sx 8 rfl (sx 9 rfl (sx 10 rfl (sx 12 rfl (sx 13 rfl (sx 14 rfl (sx 23 rfl (sx 24 rfl (sx 25 rfl (sx 26 rfl (sx 32 rfl (sx 40 rfl (sx 43 rfl (sx 44 rfl (sx 45 rfl (sub_nil _)))))))))))))))))))) ((.cons_cons _ (.cons_cons _ (.cons_cons _ (.cons_cons _ (.cons_cons _ .slnil))))))
   ·
    refine hl_less (sx 0 rfl (sx 1 rfl (sx 2 rfl (sx 3 rfl (sx 8 rfl (sx 9 rfl (sx 10 rfl (sx 12 rfl (sx 13 rfl (sx 14 rfl (sx 23 rfl (sx 24 rfl (sx 25 rfl (sx 26 rfl (sx 32 rfl (sx 40 rfl (sx 43 rfl (sx 44 rfl (sx 45 rfl (sx 46 rfl (sub_nil _))))))))))))))))))))) (.refl _) ?_
    refine hl_nil ?_
    refine hq_then ?_
    refine hc_seq ?_
    refine hc_false rfl ?_
    refine hc_exit ?_
    refine hq_then_exit ?_
    refine hq_then_exit ?_
    refine hq_block_exit ?_
    refine hq_then ?_
    refine hc_seq ?_
    refine hc_region ?_
    refine hl_v rfl rfl rfl (rv_ev rfl) ?_
    refine hl_v rfl rfl rfl (rv_slL rfl Try.underlying26 (by kernel_rfl) rfl rfl (rd_row 0 rfl) (by omega) (by omega)) ?_
    refine hl_v rfl rfl rfl (rv_len rfl Try.underlying26 rfl (rd_slL (rd_row 0 rfl) (by omega))) ?_
    refine hl_v rfl rfl rfl (rv_ev rfl) ?_
    refine hl_less (sx 0 rfl (sx 1 rfl (sx 2 rfl (sx 3 rfl (sx 8 rfl (sx 9 rfl (sx 10 rfl (sx 12 rfl (sx 13 rfl (sx 14 rfl (sx 23 rfl (sx 24 rfl (sx 25 rfl (sx 26 rfl (sx 32 rfl (sx 40 rfl (sx 43 rfl (sx 44 rfl (sx 45 rfl (sx 46 rfl (sx 58 rfl (sx 59 rfl (sx 60 rfl (sub_nil _)))))))))))))))))))))))) (.refl _) ?_
    refine hl_nil ?_
    refine hq_then ?_
    refine hc_block ?_
    have hf9 : (0 ≤ f ∧ f < r.ns.length) ∧ r.ns.getD f.toNat 0 = x0 := by
      rcases hf with h | h
      · exfalso; obtain ⟨k9, hk9, e9⟩ := mem_getD hx0; exact h.2 k9 (by omega) e9
      · exact ⟨by omega, h.2⟩
    refine hc_loop3 (α := Nat) (β := Rt) (γ := Int) (fun j r2 f2 => [rowE 3 1 v8 xs.length (xs.map (Value.int .i64)), boxE b4 #[r2.nv, r2.fv] 28, rowE 3 1 r2.fv r2.fs.length (r2.fs.map (Value.int .i64)), rowE 3 1 r2.nv r2.ns.length (r2.ns.map (Value.int .i64)), boxE b1 #[.slice none 0 0, .slice none 0 0] 28]) (fun j r2 f2 => [(0, .pointer (some ⟨b, 0, none⟩)), (1, cv), (2, .int .i64 s0), (3, kv), (8, .pointer (some ⟨b1, 0, none⟩)), (9, .bool false), (10, .pointer (some ⟨b4, 0, none⟩)), (12, .int .i64 (ks.getD i 0)), (13, v8), (14, .int .i64 f2), (23, kv), (24, .int .i64 (ks.length : Int)), (25, .int .i64 (i : Int)), (26, .bool true), (32, .bool false), (40, .bool false), (46, .bool false), (58, slV v8 (1 : Int).toNat xs.length 1), (59, .int .i64 ((xs.drop (1 : Int).toNat).length : Int)), (60, .int .i64 (j : Int))]) (fun j r2 f2 => j ≤ (xs.drop 1).length ∧ GStep d s0 xs r j r2 f2) (fun j r2 f2 => (xs.drop 1).length - j) 0 (Rt.mk r.nv r.fv r.ns r.fs) f ⟨by omega, GStep.start hgi hf9.1.1 hf9.1.2 (hf9.2.trans hcp.first.symm)⟩ (sx 0 rfl (sx 1 rfl (sx 2 rfl (sx 3 rfl (sx 8 rfl (sx 9 rfl (sx 10 rfl (sx 12 rfl (sx 13 rfl (sx 14 rfl (sx 23 rfl (sx 24 rfl (sx 25 rfl (sx 26 rfl (sx 32 rfl (sx 40 rfl (sx 46 rfl (sx 58 rfl (sx 59 rfl (sx 60 rfl (sub_nil _))))))))))))))))))))) ((.cons_cons _ (.cons_cons _ (.cons_cons _ (.cons_cons _ (.cons_cons _ .slnil)))))) ?_
    intro j r2 f2 hi14
    obtain ⟨hj, hst2⟩ := hi14
    have hdr1 : (List.drop (Int.toNat 1) xs).length = (xs.drop 1).length := rfl
    have hdr2 : (xs.drop 1).length = xs.length - 1 := List.length_drop
    have hs2l := hst2.tr.len
    have hs20 := hst2.tr.l0
    have hs21 := hst2.tr.l1
    have hsf0 := hst2.f0
    have hsf1 := hst2.f1
    refine hc_seq ?_
    refine hc_region ?_
    refine hl_lss rfl rfl rfl rfl rfl rfl (fun h15 => ?_) (fun h15 => ?_)
    ·
     refine hl_less (sx 0 rfl (sx 1 rfl (sx 2 rfl (sx 3 rfl (sx 8 rfl (sx 9 rfl (sx 10 rfl (sx 12 rfl (sx 13 rfl (sx 14 rfl (sx 23 rfl (sx 24 rfl (sx 25 rfl (sx 26 rfl (sx 32 rfl (sx 40 rfl (sx 46 rfl (sx 58 rfl (sx 59 rfl (sx 60 rfl (sx 61 rfl (sub_nil _)))))))))))))))))))))) (.refl _) ?_
     refine hl_nil ?_
     refine hq_then ?_
     refine hc_seq ?_
     refine hc_true rfl ?_
     refine hc_skip ?_
     refine hq_then ?_
     refine hc_seq ?_
     refine hc_block ?_
     refine hc_seq ?_
     refine hc_region ?_
     refine hl_v rfl rfl rfl (rv_index (s := 1) rfl Try.underlying26 (by kernel_rfl) rfl rfl (rd_slL (rd_row 0 rfl) (by omega)) (by omega) (by first | omega | (simp only [List.length_set]; omega))) ?_
     refine hl_v rfl rfl rfl (rv_loadEl (u := .int .i64 ((xs.drop (1 : Int).toNat).getD j 0)) rfl (by kernel_rfl) rfl (rd_slL (rd_row 0 rfl) (by omega)) (ints_at1 (show _ < (xs.drop (1 : Int).toNat).length by first | omega | (simp only [List.length_set]; omega)))) ?_
     refine hl_v rfl rfl rfl (rv_ev rfl) ?_
     refine hl_less (sx 0 rfl (sx 1 rfl (sx 2 rfl (sx 3 rfl (sx 8 rfl (sx 9 rfl (sx 10 rfl (sx 12 rfl (sx 13 rfl (sx 14 rfl (sx 18 rfl (sx 23 rfl (sx 24 rfl (sx 25 rfl (sx 26 rfl (sx 32 rfl (sx 40 rfl (sx 46 rfl (sx 58 rfl (sx 59 rfl (sx 60 rfl (sx 61 rfl (sub_nil _))))))))))))))))))))))) (.refl _) ?_
     refine hl_nil ?_
     refine hq_then ?_
     refine hc_seq ?_
     refine hc_region ?_
     refine hl_v rfl rfl rfl (rv_field (k0 := 0) rfl (by kernel_rfl) rfl) ?_
     refine hl_v rfl rfl rfl (rv_load rfl (by kernel_rfl) rfl (box_cell 1 rfl rfl)) ?_
     refine hl_v rfl rfl rfl (rv_ev rfl) ?_
     refine hl_row rfl rfl rfl (rq_buildSlice (z := .int .i64 0) (s := 1) (cs := ([(xs.drop (1 : Int).toNat).getD j 0].map (Value.int .i64))) rfl Try.underlying26 (by kernel_rfl) (by decide) rfl (by kernel_rfl) rfl) ?_
     intro g16
     refine hl_append (i := 4) (z := .int .i64 0) (bytes := 8) (n' := (r2.ns ++ ([(xs.drop (1 : Int).toNat).getD j 0])).length) (xs' := ((r2.ns ++ ([(xs.drop (1 : Int).toNat).getD j 0])).map (Value.int .i64))) (L := fun v17 => [rowE 3 1 (.slice (some ⟨g16, 0, none⟩) 1 1) 1 ([(xs.drop (1 : Int).toNat).getD j 0].map (Value.int .i64)), rowE 3 1 v8 xs.length (xs.map (Value.int .i64)), boxE b4 #[r2.nv, r2.fv] 28, rowE 3 1 r2.fv r2.fs.length (r2.fs.map (Value.int .i64)), rowE 3 1 v17 ((r2.ns ++ ([(xs.drop (1 : Int).toNat).getD j 0])).length) ((r2.ns ++ ([(xs.drop (1 : Int).toNat).getD j 0])).map (Value.int .i64)), boxE b1 #[.slice none 0 0, .slice none 0 0] 28]) rfl rfl rfl rfl Try.underlying26 (by kernel_rfl) (by kernel_rfl) rfl rfl rfl (rd_row 0 rfl) (ints_one _) (by first | omega | (simp; omega)) (len_app r2.ns ([(xs.drop (1 : Int).toNat).getD j 0])) (ints_app r2.ns ([(xs.drop (1 : Int).toNat).getD j 0])) (fun _ => rfl) ?_
     intro v17
     refine hl_v rfl rfl rfl (rv_field (k0 := 0) rfl (by kernel_rfl) rfl) ?_
     refine hl_one (i := 4) rfl (fun ho18 => ?_)
     refine hl_storeBox (i := 2) (l' := [rowE 3 1 (.slice (some ⟨g16, 0, none⟩) 1 1) 1 ([(xs.drop (1 : Int).toNat).getD j 0].map (Value.int .i64)), rowE 3 1 v8 xs.length (xs.map (Value.int .i64)), boxE b4 #[v17, r2.fv] 28, rowE 3 1 r2.fv r2.fs.length (r2.fs.map (Value.int .i64)), rowE 3 1 v17 ((r2.ns ++ ([(xs.drop (1 : Int).toNat).getD j 0])).length) ((r2.ns ++ ([(xs.drop (1 : Int).toNat).getD j 0])).map (Value.int .i64)), boxE b1 #[.slice none 0 0, .slice none 0 0] 28]) rfl rfl rfl (by kernel_rfl) rfl rfl ho18 rfl rfl rfl ?_
     refine hl_less (sx 0 rfl (sx 1 rfl (sx 2 rfl (sx 3 rfl (sx 8 rfl (sx 9 rfl (sx 10 rfl (sx 12 rfl (sx 13 rfl (sx 14 rfl (sx 18 rfl (sx 23 rfl (sx 24 rfl (sx 25 rfl (sx 26 rfl (sx 32 rfl (sx 40 rfl (sx 46 rfl (sx 58 rfl (sx 59 rfl (sx 60 rfl (sx 61 rfl (sub_nil _))))))))))))))))))))))) (.refl _) ?_
     refine hl_nil ?_
     refine hq_then ?_
     refine hc_seq ?_
     refine hc_region ?_
     refine hl_v rfl rfl rfl (rv_field (k0 := 1) rfl (by kernel_rfl) rfl) ?_
     refine hl_v rfl rfl rfl (rv_load rfl (by kernel_rfl) rfl (box_cell 2 rfl rfl)) ?_
     refine hl_v rfl rfl rfl (rv_ev rfl) ?_
     refine hl_row rfl rfl rfl (rq_buildSlice (z := .int .i64 0) (s := 1) (cs := ([f2].map (Value.int .i64))) rfl Try.underlying26 (by kernel_rfl) (by decide) rfl (by kernel_rfl) rfl) ?_
     intro g19
     refine hl_append (i := 4) (z := .int .i64 0) (bytes := 8) (n' := (r2.fs ++ ([f2])).length) (xs' := ((r2.fs ++ ([f2])).map (Value.int .i64))) (L := fun v20 => [rowE 3 1 (.slice (some ⟨g19, 0, none⟩) 1 1) 1 ([f2].map (Value.int .i64)), rowE 3 1 (.slice (some ⟨g16, 0, none⟩) 1 1) 1 ([(xs.drop (1 : Int).toNat).getD j 0].map (Value.int .i64)), rowE 3 1 v8 xs.length (xs.map (Value.int .i64)), boxE b4 #[v17, r2.fv] 28, rowE 3 1 v20 ((r2.fs ++ ([f2])).length) ((r2.fs ++ ([f2])).map (Value.int .i64)), rowE 3 1 v17 ((r2.ns ++ ([(xs.drop (1 : Int).toNat).getD j 0])).length) ((r2.ns ++ ([(xs.drop (1 : Int).toNat).getD j 0])).map (Value.int .i64)), boxE b1 #[.slice none 0 0, .slice none 0 0] 28]) rfl rfl rfl rfl Try.underlying26 (by kernel_rfl) (by kernel_rfl) rfl rfl rfl (rd_row 0 rfl) (ints_one _) (by first | omega | (simp; omega)) (len_app r2.fs ([f2])) (ints_app r2.fs ([f2])) (fun _ => rfl) ?_
     intro v20
     refine hl_v rfl rfl rfl (rv_field (k0 := 1) rfl (by kernel_rfl) rfl) ?_
     refine hl_one (i := 4) rfl (fun ho21 => ?_)
     refine hl_storeBox (i := 3) (l' := [rowE 3 1 (.slice (some ⟨g19, 0, none⟩) 1 1) 1 ([f2].map (Value.int .i64)), rowE 3 1 (.slice (some ⟨g16, 0, none⟩) 1 1) 1 ([(xs.drop (1 : Int).toNat).getD j 0].map (Value.int .i64)), rowE 3 1 v8 xs.length (xs.map (Value.int .i64)), boxE b4 #[v17, v20] 28, rowE 3 1 v20 ((r2.fs ++ ([f2])).length) ((r2.fs ++ ([f2])).map (Value.int .i64)), rowE 3 1 v17 ((r2.ns ++ ([(xs.drop (1 : Int).toNat).getD j 0])).length) ((r2.ns ++ ([(xs.drop (1 : Int).toNat).getD j 0])).map (Value.int .i64)), boxE b1 #[.slice none 0 0, .slice none 0 0] 28]) rfl rfl rfl (by kernel_rfl) rfl rfl ho21 rfl rfl rfl ?_
     refine hl_less (sx 0 rfl (sx 1 rfl (sx 2 rfl (sx 3 rfl (sx 8 rfl (sx 9 rfl (sx 10 rfl (sx 12 rfl (sx 13 rfl (sx 14 rfl (sx 18 rfl (sx 23 rfl (sx 24 rfl (sx 25 rfl (sx 26 rfl (sx 32 rfl (sx 40 rfl (sx 46 rfl (sx 58 rfl (sx 59 rfl (sx 60 rfl (sx 61 rfl (sub_nil _))))))))))))))))))))))) (.refl _) ?_
     refine hl_nil ?_
     refine hq_then ?_
     refine hc_region ?_
     refine hl_v rfl rfl rfl (rv_field (k0 := 0) rfl (by kernel_rfl) rfl) ?_
     refine hl_v rfl rfl rfl (rv_load rfl (by kernel_rfl) rfl (box_cell 3 rfl rfl)) ?_
     refine hl_v rfl rfl rfl (rv_len rfl Try.underlying26 rfl (rd_row 5 rfl)) ?_
     refine hl_v rfl rfl rfl (rv_sub rfl rfl rfl (by constructor <;> (simp only [List.length_append, List.length_singleton]; omega))) ?_
     refine hl_v rfl rfl rfl (rv_ev rfl) ?_
     refine hl_less (sx 0 rfl (sx 1 rfl (sx 2 rfl (sx 3 rfl (sx 8 rfl (sx 9 rfl (sx 10 rfl (sx 12 rfl (sx 13 rfl (sx 14 rfl (sx 18 rfl (sx 23 rfl (sx 24 rfl (sx 25 rfl (sx 26 rfl (sx 32 rfl (sx 40 rfl (sx 46 rfl (sx 58 rfl (sx 59 rfl (sx 60 rfl (sx 61 rfl (sub_nil _))))))))))))))))))))))) (.refl _) ?_
     refine hl_nil ?_
     refine hq_block_normal ?_
     refine hq_then ?_
     refine hc_region ?_
     refine hl_v rfl rfl rfl (rv_add rfl rfl rfl (by constructor <;> omega)) ?_
     refine hl_v rfl rfl rfl (rv_ev rfl) ?_
     refine hl_less (sx 0 rfl (sx 1 rfl (sx 2 rfl (sx 3 rfl (sx 8 rfl (sx 9 rfl (sx 10 rfl (sx 12 rfl (sx 13 rfl (sx 14 rfl (sx 18 rfl (sx 23 rfl (sx 24 rfl (sx 25 rfl (sx 26 rfl (sx 32 rfl (sx 40 rfl (sx 46 rfl (sx 58 rfl (sx 59 rfl (sx 60 rfl (sx 61 rfl (sub_nil _))))))))))))))))))))))) (.refl _) ?_
     refine hl_nil ?_
     exact hq_round3 (j + 1) (Rt.mk v17 v20 (r2.ns ++ ([(xs.drop (1 : Int).toNat).getD j 0])) (r2.fs ++ ([f2]))) (((r2.ns ++ ([(xs.drop (1 : Int).toNat).getD j 0])).length : Int) - 1) ⟨by omega, hst2.next hcl hcr hcp rfl (by omega) _ _⟩ (by omega) (sx 0 rfl (sx 1 rfl (sx 2 rfl (sx 3 rfl (sx 8 rfl (sx 9 rfl (sx 10 rfl (sx 12 rfl (sx 13 rfl (sx 14 rfl (sx 23 rfl (sx 24 rfl (sx 25 rfl (sx 26 rfl (sx 32 rfl (sx 40 rfl (sx 46 rfl (sx 58 rfl (sx 59 rfl (sx 60 rfl (sub_nil _))))))))))))))))))))) ((.cons _ (.cons _ (.cons_cons _ (.cons_cons _ (.cons_cons _ (.cons_cons _ (.cons_cons _ .slnil))))))))
    ·
     refine hl_less (sx 0 rfl (sx 1 rfl (sx 2 rfl (sx 3 rfl (sx 8 rfl (sx 9 rfl (sx 10 rfl (sx 12 rfl (sx 13 rfl (sx 14 rfl (sx 23 rfl (sx 24 rfl (sx 25 rfl (sx 26 rfl (sx 32 rfl (sx 40 rfl (sx 46 rfl (sx 58 rfl (sx 59 rfl (sx 60 rfl (sx 61 rfl (sub_nil _)))))))))))))))))))))) (.refl _) ?_
     refine hl_nil ?_
     refine hq_then ?_
     refine hc_seq ?_
     refine hc_false rfl ?_
     refine hc_exit ?_
     refine hq_then_exit ?_
     refine hq_then_exit ?_
     refine hq_block_exit ?_
     refine hq_block_normal ?_
     refine hq_then ?_
     refine hc_region ?_
     refine hl_v rfl rfl rfl (rv_add rfl rfl rfl (by constructor <;> omega)) ?_
     refine hl_v rfl rfl rfl (rv_ev rfl) ?_
     refine hl_less (sx 0 rfl (sx 1 rfl (sx 2 rfl (sx 3 rfl (sx 8 rfl (sx 9 rfl (sx 10 rfl (sx 12 rfl (sx 13 rfl (sx 14 rfl (sx 23 rfl (sx 24 rfl (sx 25 rfl (sx 26 rfl (sx 32 rfl (sx 40 rfl (sx 46 rfl (sx 58 rfl (sx 59 rfl (sx 60 rfl (sx 61 rfl (sub_nil _)))))))))))))))))))))) (.refl _) ?_
     refine hl_nil ?_
     exact hq_round2 (i + 1) (Rt.mk r2.nv r2.fv r2.ns r2.fs) ⟨by omega, hst2.done hgi hcp hx0 (by omega) (by omega) rfl⟩ (by omega) (sx 0 rfl (sx 1 rfl (sx 2 rfl (sx 3 rfl (sx 8 rfl (sx 9 rfl (sx 10 rfl (sx 23 rfl (sx 24 rfl (sx 25 rfl (sub_nil _))))))))))) ((.cons _ (.cons_cons _ (.cons_cons _ (.cons_cons _ (.cons_cons _ .slnil))))))
 ·
  refine hl_less (sx 0 rfl (sx 1 rfl (sx 2 rfl (sx 3 rfl (sx 8 rfl (sx 9 rfl (sx 10 rfl (sx 23 rfl (sx 24 rfl (sx 25 rfl (sx 26 rfl (sub_nil _)))))))))))) (.refl _) ?_
  refine hl_nil ?_
  refine hq_then ?_
  refine hc_seq ?_
  refine hc_false rfl ?_
  refine hc_exit ?_
  refine hq_then_exit ?_
  refine hq_then_exit ?_
  refine hq_block_exit ?_
  refine hq_then ?_
  refine hc_seq ?_
  refine hc_region ?_
  refine hl_v rfl rfl rfl (rv_loadN (cs := [r.nv, r.fv]) rfl (by kernel_rfl) (by kernel_rfl) rfl rfl (box_part 0 rfl 0 rfl)) ?_
  refine hl_one (i := 1) rfl (fun ho22 => ?_)
  refine hl_one (i := 2) rfl (fun ho23 => ?_)
  refine hl_storeBoxN (i := 3) (off := 0) (us := [r.nv, r.fv]) (l' := [boxE b4 #[r.nv, r.fv] 28, rowE 3 1 r.fv r.fs.length (r.fs.map (Value.int .i64)), rowE 3 1 r.nv r.ns.length (r.ns.map (Value.int .i64)), boxE b1 #[r.nv, r.fv] 28]) rfl rfl rfl (by kernel_rfl) rfl rfl rfl (all_cons ho23 (all_cons ho22 all_nil)) rfl rfl rfl ?_
  refine hl_v rfl rfl rfl (rv_ev rfl) ?_
  refine hl_less (sx 0 rfl (sx 1 rfl (sx 2 rfl (sx 3 rfl (sx 8 rfl (sx 9 rfl (sx 10 rfl (sx 23 rfl (sx 24 rfl (sx 25 rfl (sx 26 rfl (sub_nil _)))))))))))) (.refl _) ?_
  refine hl_nil ?_
  refine hq_then ?_
  refine hc_ret ?_
  have hin : i = ks.length := by omega
  subst hin
  refine hq_one (i := 2) rfl (fun ornv => ?_)
  refine hq_one (i := 1) rfl (fun orfv => ?_)
  refine hq_conv [rowE 3 1 r.nv r.ns.length (r.ns.map (Value.int .i64)), rowE 3 1 r.fv r.fs.length (r.fs.map (Value.int .i64)), boxE b4 #[r.nv, r.fv] 28, boxE b1 #[r.nv, r.fv] 28] (conv_pick (src := [boxE b4 #[r.nv, r.fv] 28, rowE 3 1 r.fv r.fs.length (r.fs.map (Value.int .i64)), rowE 3 1 r.nv r.ns.length (r.ns.map (Value.int .i64)), boxE b1 #[r.nv, r.fv] 28]) (dst := [rowE 3 1 r.nv r.ns.length (r.ns.map (Value.int .i64)), rowE 3 1 r.fv r.fs.length (r.fs.map (Value.int .i64)), boxE b4 #[r.nv, r.fv] 28, boxE b1 #[r.nv, r.fv] 28]) (l := []) [2, 1, 0, 3] (by decide) rfl) ?_
  refine hq_conv [rtE r, boxE b4 #[r.nv, r.fv] 28, boxE b1 #[r.nv, r.fv] 28] (fun w hm => Mem.big (ps := [rowE 3 1 r.nv r.ns.length (r.ns.map (Value.int .i64)), rowE 3 1 r.fv r.fs.length (r.fs.map (Value.int .i64))]) hm) ?_
  exact hq_retM (rs := [.cell 8 28, .tmp 9]) (vs := [.agg #[r.nv, r.fv], .bool true]) (post := [rtE r]) rfl ⟨⟨b1, 0, [r.nv, r.fv], rfl, rfl, by kernel_rfl, by kernel_rfl, box_part 2 rfl 0 rfl⟩, rfl, trivial⟩ rfl ((.cons_cons _ (.cons _ (.cons _ .slnil)))) ⟨r, rfl, rfl, ⟨ornv, orfv⟩, hgi⟩
set_option maxHeartbeats 4000000 in
set_option maxRecDepth 100000 in
theorem GrowRoute_ret (d : Dev) (cs ks : List Int) (cv kv : Value) (s0 : Int) (w : World) (hd : devB d = true) (hcv : RdsW w cv 1 cs.length (cs.map (Value.int .i64))) (hcl : (cs.length : Int) = allI d) (hcr : ∀ k, k < cs.length → 1 ≤ cs.getD k 0 ∧ cs.getD k 0 ≤ 100000) (hkv : RdsW w kv 1 ks.length (ks.map (Value.int .i64))) (hkl : ks.length ≤ 1000) (hkr : ∀ q ∈ ks, 0 ≤ q ∧ q < allI d) (hreach : (∀ q ∈ ks, ∀ (st D : List Int), s0 ∈ st → DistOk cs.length (srcI d) cs st D → 0 ≤ gI D q)) (hs0 : 0 ≤ s0 ∧ s0 < allI d) (hso : s0 % perI d = 5) (hno : nodeOkI d s0 = true) :
  Calls Try.prog 30 #[.agg #[.int .i64 d.W, .int .i64 d.H, .int .i64 d.T, .int .i64 d.R], cv, .int .i64 s0, kv] w (Ret w (fun v' post => ∃ r : Rt, v' = .tuple #[r.agg, .bool true] ∧ post = [rtE r] ∧ (r.nv.oneCell' = true ∧ r.fv.oneCell' = true) ∧ GInv d s0 ks ks.length r)) := by
 obtain ⟨ra1, ra2⟩ := all_rng hd
 refine calls_hc (N := 29) (args := [.agg #[.int .i64 d.W, .int .i64 d.H, .int .i64 d.T, .int .i64 d.R], cv, .int .i64 s0, kv]) Try.func30 rfl rfl ?_
 refine hc_less _ (sx 0 rfl (sx 1 rfl (sx 2 rfl (sx 3 rfl (sub_nil _))))) (.refl _) ?_
 refine hc_seq ?_
 refine hc_region ?_
 refine hl_box rfl rfl rfl (rq_box rfl rfl) ?_
 intro b1
 refine hl_box rfl rfl rfl (rq_alloc (z := .agg #[.slice none 0 0, .slice none 0 0]) rfl (by kernel_rfl)) ?_
 intro b2
 refine hl_v rfl rfl rfl (rv_ev rfl) ?_
 refine hl_less (sx 0 rfl (sx 1 rfl (sx 2 rfl (sx 3 rfl (sx 4 rfl (sx 8 rfl (sx 9 rfl (sub_nil _)))))))) (.refl _) ?_
 refine hl_nil ?_
 refine hq_then ?_
 refine hc_seq ?_
 refine hc_seq ?_
 refine hc_region ?_
 refine hl_v rfl rfl rfl (rv_loadN (cs := [.int .i64 d.W, .int .i64 d.H, .int .i64 d.T, .int .i64 d.R]) rfl (by kernel_rfl) (by kernel_rfl) rfl rfl (box_part 1 rfl 0 rfl)) ?_
 refine hl_v rfl rfl rfl (rv_ev rfl) ?_
 refine hl_callV rfl rfl rfl (rq_call (by kernel_rfl) rfl (fun w hm => ret_ans (CostsOk_yes d cs _ w hd ((rd_old hcv) w hm) hcl hcr))) ?_
 refine hl_v rfl rfl rfl (rv_ev rfl) ?_
 refine hl_v rfl rfl rfl (rv_ev rfl) ?_
 refine hl_v rfl rfl rfl (rv_loadN (cs := [.int .i64 d.W, .int .i64 d.H, .int .i64 d.T, .int .i64 d.R]) rfl (by kernel_rfl) (by kernel_rfl) rfl rfl (box_part 1 rfl 0 rfl)) ?_
 refine hl_v rfl rfl rfl (rv_ev rfl) ?_
 refine hl_callV rfl rfl rfl (rq_call (by kernel_rfl) rfl (fun w hm => ret_ans (implRouteNodeOk_any d _ w))) ?_
 refine hl_bool (fun h3 => ?_) (fun h3 => absurd ((hno).symm.trans h3) (by decide))
 refine hl_v rfl rfl rfl (rv_ev rfl) ?_
 refine hl_v rfl rfl rfl (rv_ev rfl) ?_
 refine hl_less (sx 0 rfl (sx 1 rfl (sx 2 rfl (sx 3 rfl (sx 4 rfl (sx 8 rfl (sx 9 rfl (sx 19 rfl (sub_nil _))))))))) (.refl _) ?_
 refine hl_nil ?_
 refine hq_then ?_
 refine hc_false rfl ?_
 refine hc_skip ?_
 refine hq_then ?_
 refine hc_seq ?_
 refine hc_region ?_
 refine hl_v rfl rfl rfl (rv_loadN (cs := [.int .i64 d.W, .int .i64 d.H, .int .i64 d.T, .int .i64 d.R]) rfl (by kernel_rfl) (by kernel_rfl) rfl rfl (box_part 1 rfl 0 rfl)) ?_
 refine hl_q rfl rfl rfl (rq_call (by kernel_rfl) rfl (fun w hm => graphOf_ret d w hd)) ?_
 intro v4 p5 hR6
 obtain ⟨b, g, rfl, rfl, hgk⟩ := hR6
 refine hl_v rfl rfl rfl (rv_ev rfl) ?_
 refine hl_v rfl rfl rfl (rv_ev rfl) ?_
 refine hl_v rfl rfl rfl (rv_ev rfl) ?_
 refine hl_q rfl rfl rfl (rq_call (by kernel_rfl) rfl (fun w hm => growRoute_ret d b g cs ks _ _ s0 w (gr_rds 0 rfl w hm) hgk hd ((rd_old hcv) w hm) hcl hcr ((rd_old hkv) w hm) hkl hkr hreach hs0 hso)) ?_
 intro v7 p8 hR9
 obtain ⟨r, rfl, rfl, ⟨ornv, orfv⟩, hgi⟩ := hR9
 refine hl_v rfl rfl rfl (rv_ev rfl) ?_
 refine hl_v rfl rfl rfl (rv_ev rfl) ?_
 refine hl_storeBoxN (i := 2) (off := 0) (us := [r.nv, r.fv]) (l' := [rtE r, grE b g, boxE b2 #[r.nv, r.fv] 28, boxE b1 #[.int .i64 d.W, .int .i64 d.H, .int .i64 d.T, .int .i64 d.R] 25]) rfl rfl rfl (by kernel_rfl) rfl rfl rfl (all_cons ornv (all_cons orfv all_nil)) rfl rfl rfl ?_
 refine hl_v rfl rfl rfl (rv_ev rfl) ?_
 refine hl_less (sx 0 rfl (sx 1 rfl (sx 2 rfl (sx 3 rfl (sx 4 rfl (sx 8 rfl (sx 9 rfl (sx 19 rfl (sub_nil _))))))))) (.refl _) ?_
 refine hl_nil ?_
 refine hq_then ?_
 refine hc_ret ?_
 exact hq_retM (rs := [.cell 8 28, .tmp 9]) (vs := [.agg #[r.nv, r.fv], .bool true]) (post := [rtE r]) rfl ⟨⟨b2, 0, [r.nv, r.fv], rfl, rfl, by kernel_rfl, by kernel_rfl, box_part 2 rfl 0 rfl⟩, rfl, trivial⟩ rfl ((.cons_cons _ (.cons _ (.cons _ (.cons _ .slnil))))) ⟨r, rfl, rfl, ⟨ornv, orfv⟩, hgi⟩
theorem ks_reach {d : Dev} {s0 : Int} {ns fs ks cs : List Int} (ht : Tree d s0 ns fs ks) (hrt : RtOk d s0 ns fs ks) (hcl : (cs.length : Int) = allI d) : ∀ q ∈ ks, ∀ (st D : List Int), s0 ∈ st → DistOk cs.length (srcI d) cs st D → 0 ≤ gI D q := fun q hq st D h0 hD => by
  obtain ⟨k, hk, e⟩ := mem_getD (hrt.inpin.1 hq).1
  rw [← e]
  exact tree_reach hcl ht hD h0 k k (Nat.le_refl _) hk
set_option maxHeartbeats 4000000 in
set_option maxRecDepth 100000 in
theorem walk_FnGrown (a0 : Option Addr) (len0 cap0 : Nat) (z0 : List Int) (w : World) (hbr : BRow .u8 w a0 len0 cap0 z0) :
  Calls Try.prog 7 #[.slice a0 len0 cap0] w (Ans w (.bool true)) := by
 have hcd0 := cod_le hbr 0
 refine calls_hc (N := 59) (args := [.slice a0 len0 cap0]) Try.func7 rfl rfl ?_
 refine hc_less _ (sx 0 rfl (sub_nil _)) (.refl _) ?_
 refine hc_seq ?_
 refine hc_region ?_
 refine hl_v rfl rfl rfl (rv_ev rfl) ?_
 refine hl_less (sx 0 rfl (sx 2 rfl (sub_nil _))) (.refl _) ?_
 refine hl_nil ?_
 refine hq_then ?_
 refine hc_seq ?_
 refine hc_seq ?_
 refine hc_region ?_
 refine hl_v rfl rfl rfl (rv_ev rfl) ?_
 refine hl_callV rfl rfl rfl (rq_call (by kernel_rfl) rfl (fun w hm => ret_ans (ans_of (big_any a0 len0 cap0 w (hbr.len_le))))) ?_
 refine hl_bool (fun h1 => ?_) (fun h1 => ?_)
 ·
  have h1p := of_decide_eq_true h1
  refine hl_less (sx 0 rfl (sx 2 rfl (sx 12 rfl (sub_nil _)))) (.refl _) ?_
  refine hl_nil ?_
  refine hq_then ?_
  refine hc_true rfl ?_
  refine hc_seq ?_
  refine hc_region ?_
  refine hl_v rfl rfl rfl (rv_ev rfl) ?_
  refine hl_less (sx 0 rfl (sx 2 rfl (sx 12 rfl (sub_nil _)))) (.refl _) ?_
  refine hl_nil ?_
  refine hq_then ?_
  refine hc_ret ?_
  refine hq_then_ret ?_
  exact hq_ans rfl rfl rfl
 ·
  have h1p := of_decide_eq_false h1
  refine hl_less (sx 0 rfl (sx 2 rfl (sx 12 rfl (sub_nil _)))) (.refl _) ?_
  refine hl_nil ?_
  refine hq_then ?_
  refine hc_false rfl ?_
  refine hc_skip ?_
  refine hq_then ?_
  refine hc_seq ?_
  refine hc_region ?_
  refine hl_v rfl rfl rfl (rv_ev rfl) ?_
  refine hl_q rfl rfl rfl (rq_call (by kernel_rfl) rfl (fun w hm => DrawWalk_ret _ _ _ z0 w (hbr.below hm.bel) (by omega))) ?_
  intro v2 p3 hR4
  obtain ⟨d, s0, r, sv, ks, hdr, ⟨t, ⟨ht0, ht1⟩, hst⟩, rfl, rfl, ⟨o1r, o2r, o3r⟩, htr⟩ := hR4
  have hd := hdr.ok
  obtain ⟨dr1, dr2, dr3, dr4, dr5, dr6, -⟩ := id hdr
  have har : 0 ≤ (d.W - 1) * (d.H - 1) ∧ 0 ≤ (5 - d.W) * d.H := ⟨Int.mul_nonneg (by omega) (by omega), Int.mul_nonneg (by omega) (by omega)⟩
  have e1 : (d.W - 1) * (d.H - 1) = d.W * d.H - d.W - d.H + 1 := by rw [Int.sub_mul, Int.mul_sub]; omega
  have e2 : (5 - d.W) * d.H = 5 * d.H - d.W * d.H := by rw [Int.sub_mul]
  rw [e1, e2] at har
  obtain ⟨ra1, ra2⟩ := all_rng hd
  obtain ⟨q1, q2⟩ := per_rng hd
  obtain ⟨hs1, hs2, hs3, hs4, hs5⟩ := out0 hd ht0 ht1
  rw [← hst] at hs1 hs2 hs3 hs4 hs5
  have ht1 := htr.len
  have ht2 := htr.l0
  have ht3 := htr.l1
  have hns := htr.nsok (by omega)
  have hk7 : ks.length ≤ 7 := by rw [htr.sinks]; have := List.length_filter_le (fun x => decide (x % perI d < 5)) (r.ns.drop 1); rw [List.length_drop] at this; omega
  have hrt : RtOk d s0 r.ns r.fs ks := ⟨htr, by rw [hst]; exact node_out hd ht0 (by assumption), by omega⟩
  have hwa := wcnt_all hrt hd
  refine hl_v rfl rfl rfl (rv_ev rfl) ?_
  refine hl_v rfl rfl rfl (rv_ev rfl) ?_
  refine hl_v rfl rfl rfl (rv_ev rfl) ?_
  refine hl_v rfl rfl rfl (rv_ev rfl) ?_
  refine hl_v rfl rfl rfl (rv_ev rfl) ?_
  refine hl_box rfl rfl rfl (rq_alloc (z := .agg #[.int .i64 0, .int .i64 0, .int .i64 0, .int .i64 0]) rfl (by kernel_rfl)) ?_
  intro b5
  refine hl_box rfl rfl rfl (rq_alloc (z := .agg #[.slice none 0 0, .slice none 0 0]) rfl (by kernel_rfl)) ?_
  intro b6
  refine hl_storeBoxN (i := 1) (off := 0) (us := [.int .i64 d.W, .int .i64 d.H, .int .i64 d.T, .int .i64 d.R]) (l' := [boxE b6 #[.slice none 0 0, .slice none 0 0] 28, boxE b5 #[.int .i64 d.W, .int .i64 d.H, .int .i64 d.T, .int .i64 d.R] 25, rtE r, rowE 3 1 sv ks.length (ks.map (Value.int .i64))]) rfl rfl rfl (by kernel_rfl) rfl rfl rfl (all_cons rfl (all_cons rfl (all_cons rfl (all_cons rfl all_nil)))) rfl rfl rfl ?_
  refine hl_v rfl rfl rfl (rv_ev rfl) ?_
  refine hl_v rfl rfl rfl (rv_ev rfl) ?_
  refine hl_storeBoxN (i := 0) (off := 0) (us := [r.nv, r.fv]) (l' := [boxE b6 #[r.nv, r.fv] 28, boxE b5 #[.int .i64 d.W, .int .i64 d.H, .int .i64 d.T, .int .i64 d.R] 25, rtE r, rowE 3 1 sv ks.length (ks.map (Value.int .i64))]) rfl rfl rfl (by kernel_rfl) rfl rfl rfl (all_cons o1r (all_cons o2r all_nil)) rfl rfl rfl ?_
  refine hl_less (sx 0 rfl (sx 2 rfl (sx 3 rfl (sx 4 rfl (sx 5 rfl (sx 12 rfl (sub_nil _))))))) (.refl _) ?_
  refine hl_nil ?_
  refine hq_then ?_
  refine hc_seq ?_
  refine hc_region ?_
  refine hl_row rfl rfl rfl (rq_slice0 (s := 1) rfl Try.underlying26 (by kernel_rfl)) ?_
  intro g7
  refine hl_v rfl rfl rfl (rv_ev rfl) ?_
  refine hl_less (sx 0 rfl (sx 2 rfl (sx 3 rfl (sx 4 rfl (sx 5 rfl (sx 7 rfl (sx 12 rfl (sub_nil _)))))))) (.refl _) ?_
  refine hl_nil ?_
  refine hq_then ?_
  refine hc_seq ?_
  refine hc_seq ?_
  refine hc_region ?_
  refine hl_v rfl rfl rfl (rv_ev rfl) ?_
  refine hl_less (sx 0 rfl (sx 2 rfl (sx 3 rfl (sx 4 rfl (sx 5 rfl (sx 7 rfl (sx 8 rfl (sx 12 rfl (sub_nil _))))))))) (.refl _) ?_
  refine hl_nil ?_
  refine hq_then ?_
  refine hc_block ?_
  refine hc_loop3 (α := Nat) (β := Value) (γ := List Int) (fun q u zs => [rowE 3 1 u zs.length (zs.map (Value.int .i64)), boxE b6 #[r.nv, r.fv] 28, boxE b5 #[.int .i64 d.W, .int .i64 d.H, .int .i64 d.T, .int .i64 d.R] 25, rtE r, rowE 3 1 sv ks.length (ks.map (Value.int .i64))]) (fun q u zs => [(0, .slice a0 len0 cap0), (2, .bool false), (3, .pointer (some ⟨b5, 0, none⟩)), (4, .int .i64 s0), (5, sv), (7, u), (8, .int .i64 (q : Int)), (12, .bool false)]) (fun q u zs => (q : Int) ≤ allI d ∧ zs.length = q ∧ ∀ i, i < zs.length → 1 ≤ zs.getD i 0 ∧ zs.getD i 0 ≤ 50) (fun q u zs => (allI d).toNat - q) 0 _ [] ⟨by omega, rfl, fun i h => absurd h (by simp)⟩ (sx 0 rfl (sx 2 rfl (sx 3 rfl (sx 4 rfl (sx 5 rfl (sx 7 rfl (sx 8 rfl (sx 12 rfl (sub_nil _))))))))) ((.cons_cons _ (.cons_cons _ (.cons_cons _ (.cons_cons _ (.cons_cons _ .slnil)))))) ?_
  intro q u zs hi8
  obtain ⟨hq, hzl, hzr⟩ := hi8
  have hcdq := cod_le hbr q
  refine hc_seq ?_
  refine hc_seq ?_
  refine hc_region ?_
  refine hl_v rfl rfl rfl (rv_ev rfl) ?_
  refine hl_v rfl rfl rfl (rv_loadN (cs := [.int .i64 d.W, .int .i64 d.H, .int .i64 d.T, .int .i64 d.R]) rfl (by kernel_rfl) (by kernel_rfl) rfl rfl (box_part 2 rfl 0 rfl)) ?_
  refine hl_callV rfl rfl rfl (rq_call (by kernel_rfl) rfl (fun w hm => ret_ans (specRouteNodes_yes d hd w))) ?_
  refine hl_lss rfl rfl rfl rfl rfl rfl (fun h9 => ?_) (fun h9 => ?_)
  ·
   refine hl_less (sx 0 rfl (sx 2 rfl (sx 3 rfl (sx 4 rfl (sx 5 rfl (sx 7 rfl (sx 8 rfl (sx 12 rfl (sx 24 rfl (sub_nil _)))))))))) (.refl _) ?_
   refine hl_nil ?_
   refine hq_then ?_
   refine hc_true rfl ?_
   refine hc_skip ?_
   refine hq_then ?_
   refine hc_seq ?_
   refine hc_block ?_
   refine hc_region ?_
   refine hl_v rfl rfl rfl (rv_ev rfl) ?_
   refine hl_v rfl rfl rfl (rv_ev rfl) ?_
   refine hl_v rfl rfl rfl (rv_ev rfl) ?_
   refine hl_callV rfl rfl rfl (rq_call (by kernel_rfl) rfl (fun w hm => ret_ans (at_ans hbr q (by omega) w hm))) ?_
   refine hl_v rfl rfl rfl (rv_rem rfl rfl rfl (by constructor <;> omega)) ?_
   refine hl_v rfl rfl rfl (rv_add rfl rfl rfl (by constructor <;> omega)) ?_
   refine hl_row rfl rfl rfl (rq_buildSlice (z := .int .i64 0) (s := 1) (cs := ([1 + ((cod z0 len0 q : Int) % 9)].map (Value.int .i64))) rfl Try.underlying26 (by kernel_rfl) (by decide) rfl (by kernel_rfl) rfl) ?_
   intro g10
   refine hl_append (i := 1) (z := .int .i64 0) (bytes := 8) (n' := (zs ++ ([1 + ((cod z0 len0 q : Int) % 9)])).length) (xs' := ((zs ++ ([1 + ((cod z0 len0 q : Int) % 9)])).map (Value.int .i64))) (L := fun v11 => [rowE 3 1 (.slice (some ⟨g10, 0, none⟩) 1 1) 1 ([1 + ((cod z0 len0 q : Int) % 9)].map (Value.int .i64)), rowE 3 1 v11 ((zs ++ ([1 + ((cod z0 len0 q : Int) % 9)])).length) ((zs ++ ([1 + ((cod z0 len0 q : Int) % 9)])).map (Value.int .i64)), boxE b6 #[r.nv, r.fv] 28, boxE b5 #[.int .i64 d.W, .int .i64 d.H, .int .i64 d.T, .int .i64 d.R] 25, rtE r, rowE 3 1 sv ks.length (ks.map (Value.int .i64))]) rfl rfl rfl rfl Try.underlying26 (by kernel_rfl) (by kernel_rfl) rfl rfl rfl (rd_row 0 rfl) (ints_one _) (by first | omega | (simp; omega)) (len_app zs ([1 + ((cod z0 len0 q : Int) % 9)])) (ints_app zs ([1 + ((cod z0 len0 q : Int) % 9)])) (fun _ => rfl) ?_
   intro v11
   refine hl_v rfl rfl rfl (rv_ev rfl) ?_
   refine hl_less (sx 0 rfl (sx 2 rfl (sx 3 rfl (sx 4 rfl (sx 5 rfl (sx 7 rfl (sx 8 rfl (sx 12 rfl (sx 24 rfl (sub_nil _)))))))))) (.refl _) ?_
   refine hl_nil ?_
   refine hq_block_normal ?_
   refine hq_then ?_
   refine hc_region ?_
   refine hl_v rfl rfl rfl (rv_ev rfl) ?_
   refine hl_v rfl rfl rfl (rv_add rfl rfl rfl (by constructor <;> omega)) ?_
   refine hl_v rfl rfl rfl (rv_ev rfl) ?_
   refine hl_less (sx 0 rfl (sx 2 rfl (sx 3 rfl (sx 4 rfl (sx 5 rfl (sx 7 rfl (sx 8 rfl (sx 12 rfl (sx 24 rfl (sub_nil _)))))))))) (.refl _) ?_
   refine hl_nil ?_
   exact hq_round3 (q + 1) v11 (zs ++ ([1 + ((cod z0 len0 q : Int) % 9)])) ⟨by omega, by simp; omega, app_rng hzr (by omega)⟩ (by omega) (sx 0 rfl (sx 2 rfl (sx 3 rfl (sx 4 rfl (sx 5 rfl (sx 7 rfl (sx 8 rfl (sx 12 rfl (sub_nil _))))))))) ((.cons _ (.cons_cons _ (.cons_cons _ (.cons_cons _ (.cons_cons _ (.cons_cons _ .slnil)))))))
  ·
   refine hl_less (sx 0 rfl (sx 2 rfl (sx 3 rfl (sx 4 rfl (sx 5 rfl (sx 7 rfl (sx 8 rfl (sx 12 rfl (sx 24 rfl (sub_nil _)))))))))) (.refl _) ?_
   refine hl_nil ?_
   refine hq_then ?_
   refine hc_false rfl ?_
   refine hc_exit ?_
   refine hq_then_exit ?_
   refine hq_then_exit ?_
   refine hq_block_exit ?_
   refine hq_then ?_
   refine hc_seq ?_
   refine hc_region ?_
   have hcl : (zs.length : Int) = allI d := by omega
   have hcr : ∀ k, k < zs.length → 1 ≤ zs.getD k 0 ∧ zs.getD k 0 ≤ 100000 := fun k hk => by have := hzr k hk; omega
   refine hl_v rfl rfl rfl (rv_loadN (cs := [.int .i64 d.W, .int .i64 d.H, .int .i64 d.T, .int .i64 d.R]) rfl (by kernel_rfl) (by kernel_rfl) rfl rfl (box_part 2 rfl 0 rfl)) ?_
   refine hl_v rfl rfl rfl (rv_ev rfl) ?_
   refine hl_v rfl rfl rfl (rv_ev rfl) ?_
   refine hl_v rfl rfl rfl (rv_ev rfl) ?_
   refine hl_q rfl rfl rfl (rq_call (by kernel_rfl) rfl (fun w hm => GrowRoute_ret d zs ks _ _ s0 w hd ((rd_row 0 rfl) w hm) hcl hcr ((rd_row 4 rfl) w hm) (by omega) (fun q hq => htr.rng q (hrt.inpin.1 hq).1) (ks_reach htr hrt hcl) ⟨by omega, by omega⟩ hrt.out hrt.ok)) ?_
   intro v12 p13 hR14
   obtain ⟨r2, rfl, rfl, ⟨or2nv, or2fv⟩, hgi2⟩ := hR14
   have hg2l := hgi2.more hrt.nd (fun x hx => (hrt.inpin.1 hx).2) hrt.out
   refine hl_v rfl rfl rfl (rv_ev rfl) ?_
   refine hl_v rfl rfl rfl (rv_ev rfl) ?_
   refine hl_v rfl rfl rfl (rv_ev rfl) ?_
   refine hl_box rfl rfl rfl (rq_alloc (z := .agg #[.slice none 0 0, .slice none 0 0]) rfl (by kernel_rfl)) ?_
   intro b15
   refine hl_storeBoxN (i := 0) (off := 0) (us := [r2.nv, r2.fv]) (l' := [boxE b15 #[r2.nv, r2.fv] 28, rtE r2, rowE 3 1 u zs.length (zs.map (Value.int .i64)), boxE b6 #[r.nv, r.fv] 28, boxE b5 #[.int .i64 d.W, .int .i64 d.H, .int .i64 d.T, .int .i64 d.R] 25, rtE r, rowE 3 1 sv ks.length (ks.map (Value.int .i64))]) rfl rfl rfl (by kernel_rfl) rfl rfl rfl (all_cons or2nv (all_cons or2fv all_nil)) rfl rfl rfl ?_
   refine hl_v rfl rfl rfl (rv_ev rfl) ?_
   refine hl_less (sx 0 rfl (sx 2 rfl (sx 3 rfl (sx 4 rfl (sx 5 rfl (sx 7 rfl (sx 8 rfl (sx 9 rfl (sx 10 rfl (sx 12 rfl (sx 24 rfl (sub_nil _)))))))))))) (.refl _) ?_
   refine hl_nil ?_
   refine hq_then ?_
   refine hc_seq ?_
   refine hc_region ?_
   refine hl_v rfl rfl rfl (rv_ev rfl) ?_
   refine hl_v rfl rfl rfl (rv_ev rfl) ?_
   refine hl_v rfl rfl rfl (rv_loadN (cs := [.int .i64 d.W, .int .i64 d.H, .int .i64 d.T, .int .i64 d.R]) rfl (by kernel_rfl) (by kernel_rfl) rfl rfl (box_part 4 rfl 0 rfl)) ?_
   refine hl_v rfl rfl rfl (rv_ev rfl) ?_
   refine hl_v rfl rfl rfl (rv_ev rfl) ?_
   refine hl_v rfl rfl rfl (rv_loadN (cs := [r2.nv, r2.fv]) rfl (by kernel_rfl) (by kernel_rfl) rfl rfl (box_part 0 rfl 0 rfl)) ?_
   refine hl_callV rfl rfl rfl (rq_call (by kernel_rfl) rfl (fun w hm => ret_ans (RouteOkG_ans d s0 r2 ks _ w hd ⟨hgi2.tr, hrt.ok, hrt.out⟩ (rt_rds 1 rfl w hm).1 (rt_rds 1 rfl w hm).2 ((rd_row 6 rfl) w hm) (by omega) (rng_of (kSmall hrt hd))))) ?_
   refine hl_bool (fun h16 => ?_) (fun h16 => absurd ((hgi2.okR).symm.trans h16) (by decide))
   refine hl_v rfl rfl rfl (rv_ev rfl) ?_
   refine hl_v rfl rfl rfl (rv_ev rfl) ?_
   refine hl_v rfl rfl rfl (rv_field (k0 := 0) rfl (by kernel_rfl) rfl) ?_
   refine hl_v rfl rfl rfl (rv_load rfl (by kernel_rfl) rfl (box_cell 0 rfl rfl)) ?_
   refine hl_v rfl rfl rfl (rv_len rfl Try.underlying26 rfl (fun w hm => (rt_rds 1 rfl w hm).1)) ?_
   refine hl_v rfl rfl rfl (rv_ev rfl) ?_
   refine hl_v rfl rfl rfl (rv_len rfl Try.underlying26 rfl (rd_row 6 rfl)) ?_
   refine hl_gtr rfl rfl rfl rfl rfl rfl (fun h17 => ?_) (fun h17 => absurd h17 (by omega))
   refine hl_v rfl rfl rfl (rv_ev rfl) ?_
   refine hl_v rfl rfl rfl (rv_ev rfl) ?_
   refine hl_less (sx 0 rfl (sx 2 rfl (sx 3 rfl (sx 4 rfl (sx 5 rfl (sx 7 rfl (sx 8 rfl (sx 9 rfl (sx 10 rfl (sx 12 rfl (sx 24 rfl (sub_nil _)))))))))))) (.refl _) ?_
   refine hl_nil ?_
   refine hq_then ?_
   refine hc_ret ?_
   exact hq_ans rfl rfl rfl
end Go.Proofs.Ytagjmgfcbmbkhaa
