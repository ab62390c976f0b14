/- Texts of the law FnLineSeparates, part 3: what it uses. -/
import Derived.Test.YtcaeakapeinobaaLns2
set_option linter.unusedVariables false
set_option linter.unusedSimpArgs false
namespace Go.Proofs.Ytcaeakapeinobaa
open Go.RowKit Go.ChangeShapes
open Go.RowKit
open Go.Maps
set_option maxHeartbeats 4000000 in
set_option maxRecDepth 100000 in
theorem wireSetOk_yes (d : Dev) (ws : List Int) (wv : Value) (w : World) (hwv : RdsW w wv 1 ws.length (ws.map (Value.int .i64))) (hwl : ws.length ≤ 100000) (hasc : ws.Pairwise (· < ·)) (hws : ∀ x ∈ ws, isWireI d x = true ∧ 0 ≤ x ∧ x < allI d) :
  Calls Try.prog 19 #[.agg #[.int .i64 d.W, .int .i64 d.H, .int .i64 d.T, .int .i64 d.R], wv] w (Ans w (.bool true)) := by
 refine calls_hc (N := 21) (args := [.agg #[.int .i64 d.W, .int .i64 d.H, .int .i64 d.T, .int .i64 d.R], wv]) Try.func19 rfl rfl ?_
 refine hc_less _ (sx 0 rfl (sx 1 rfl (sub_nil _))) (.refl _) ?_
 refine hc_seq ?_
 refine hc_region ?_
 refine hl_box rfl rfl rfl (rq_box rfl rfl) ?_
 intro b1
 refine hl_v rfl rfl rfl (rv_ev rfl) ?_
 refine hl_less (sx 0 rfl (sx 1 rfl (sx 2 rfl (sx 4 rfl (sub_nil _))))) (.refl _) ?_
 refine hl_nil ?_
 refine hq_then ?_
 refine hc_seq ?_
 refine hc_seq ?_
 refine hc_region ?_
 refine hl_v rfl rfl rfl (rv_ev rfl) ?_
 refine hl_callV rfl rfl rfl (rq_call (by kernel_rfl) rfl (fun w hm => ret_ans (strictlyAscending_yes ws _ w (hwv.below hm.bel) hwl hasc))) ?_
 refine hl_v rfl rfl rfl (rv_ev rfl) ?_
 refine hl_less (sx 0 rfl (sx 1 rfl (sx 2 rfl (sx 4 rfl (sx 9 rfl (sub_nil _)))))) (.refl _) ?_
 refine hl_nil ?_
 refine hq_then ?_
 refine hc_false rfl ?_
 refine hc_skip ?_
 refine hq_then ?_
 refine hc_seq ?_
 refine hc_seq ?_
 refine hc_region ?_
 refine hl_v rfl rfl rfl (rv_ev rfl) ?_
 refine hl_v rfl rfl rfl (rv_len rfl Try.underlying28 rfl (rd_old hwv)) ?_
 refine hl_v rfl rfl rfl (rv_ev rfl) ?_
 refine hl_less (sx 0 rfl (sx 1 rfl (sx 2 rfl (sx 4 rfl (sx 9 rfl (sx 10 rfl (sx 11 rfl (sx 12 rfl (sub_nil _))))))))) (.refl _) ?_
 refine hl_nil ?_
 refine hq_then ?_
 refine hc_block ?_
 refine hc_loop1 (α := Nat) (fun i => [boxE b1 #[.int .i64 d.W, .int .i64 d.H, .int .i64 d.T, .int .i64 d.R] 25]) (fun i => [(0, .agg #[.int .i64 d.W, .int .i64 d.H, .int .i64 d.T, .int .i64 d.R]), (1, wv), (2, .pointer (some ⟨b1, 0, none⟩)), (4, .bool false), (9, .bool false), (10, wv), (11, .int .i64 (ws.length : Int)), (12, .int .i64 (i : Int))]) (fun i => i ≤ ws.length) (fun i => ws.length - i) 0 (by omega) (sx 0 rfl (sx 1 rfl (sx 2 rfl (sx 4 rfl (sx 9 rfl (sx 10 rfl (sx 11 rfl (sx 12 rfl (sub_nil _))))))))) ((.cons_cons _ .slnil)) ?_
 intro i hi2
 have hi := hi2
 refine hc_seq ?_
 refine hc_region ?_
 refine hl_lss rfl rfl rfl rfl rfl rfl (fun h3 => ?_) (fun h3 => ?_)
 ·
  refine hl_less (sx 0 rfl (sx 1 rfl (sx 2 rfl (sx 4 rfl (sx 9 rfl (sx 10 rfl (sx 11 rfl (sx 12 rfl (sx 13 rfl (sub_nil _)))))))))) (.refl _) ?_
  refine hl_nil ?_
  refine hq_then ?_
  refine hc_seq ?_
  refine hc_true rfl ?_
  refine hc_skip ?_
  refine hq_then ?_
  refine hc_seq ?_
  refine hc_block ?_
  refine hc_seq ?_
  refine hc_region ?_
  refine hl_v rfl rfl rfl (rv_index (s := 1) rfl Try.underlying28 (by kernel_rfl) rfl rfl (rd_old hwv) (by omega) (by first | omega | (simp only [List.length_set]; omega))) ?_
  refine hl_v rfl rfl rfl (rv_loadEl (u := .int .i64 (ws.getD i 0)) rfl (by kernel_rfl) rfl (rd_old hwv) (ints_at1 (show _ < ws.length by first | omega | (simp only [List.length_set]; omega)))) ?_
  refine hl_v rfl rfl rfl (rv_ev rfl) ?_
  refine hl_less (sx 0 rfl (sx 1 rfl (sx 2 rfl (sx 4 rfl (sx 6 rfl (sx 9 rfl (sx 10 rfl (sx 11 rfl (sx 12 rfl (sx 13 rfl (sub_nil _))))))))))) (.refl _) ?_
  refine hl_nil ?_
  refine hq_then ?_
  refine hc_seq ?_
  refine hc_region ?_
  refine hl_v rfl rfl rfl (rv_loadN (cs := [.int .i64 d.W, .int .i64 d.H, .int .i64 d.T, .int .i64 d.R]) rfl (by kernel_rfl) (by kernel_rfl) rfl rfl (box_part 0 rfl 0 rfl)) ?_
  refine hl_v rfl rfl rfl (rv_ev rfl) ?_
  refine hl_callV rfl rfl rfl (rq_call (by kernel_rfl) rfl (fun w hm => ret_ans (isWire_ans d _ w))) ?_
  refine hl_bool (fun h4 => ?_) (fun h4 => absurd (((hws _ (getD_memZ (by omega))).1).symm.trans h4) (by decide))
  refine hl_v rfl rfl rfl (rv_ev rfl) ?_
  refine hl_less (sx 0 rfl (sx 1 rfl (sx 2 rfl (sx 4 rfl (sx 6 rfl (sx 9 rfl (sx 10 rfl (sx 11 rfl (sx 12 rfl (sx 13 rfl (sx 19 rfl (sub_nil _)))))))))))) (.refl _) ?_
  refine hl_nil ?_
  refine hq_then ?_
  refine hc_false rfl ?_
  refine hc_skip ?_
  refine hq_block_normal ?_
  refine hq_then ?_
  refine hc_region ?_
  refine hl_v rfl rfl rfl (rv_add rfl rfl rfl (by constructor <;> omega)) ?_
  refine hl_v rfl rfl rfl (rv_ev rfl) ?_
  refine hl_less (sx 0 rfl (sx 1 rfl (sx 2 rfl (sx 4 rfl (sx 6 rfl (sx 9 rfl (sx 10 rfl (sx 11 rfl (sx 12 rfl (sx 13 rfl (sx 19 rfl (sub_nil _)))))))))))) (.refl _) ?_
  refine hl_nil ?_
  exact hq_round1 (i + 1) (by omega) (by omega) (sx 0 rfl (sx 1 rfl (sx 2 rfl (sx 4 rfl (sx 9 rfl (sx 10 rfl (sx 11 rfl (sx 12 rfl (sub_nil _))))))))) ((.cons_cons _ .slnil))
 ·
  refine hl_less (sx 0 rfl (sx 1 rfl (sx 2 rfl (sx 4 rfl (sx 9 rfl (sx 10 rfl (sx 11 rfl (sx 12 rfl (sx 13 rfl (sub_nil _)))))))))) (.refl _) ?_
  refine hl_nil ?_
  refine hq_then ?_
  refine hc_seq ?_
  refine hc_false rfl ?_
  refine hc_exit ?_
  refine hq_then_exit ?_
  refine hq_then_exit ?_
  refine hq_block_exit ?_
  refine hq_then ?_
  refine hc_seq ?_
  refine hc_region ?_
  refine hl_v rfl rfl rfl (rv_ev rfl) ?_
  refine hl_less (sx 0 rfl (sx 1 rfl (sx 2 rfl (sx 4 rfl (sx 9 rfl (sx 10 rfl (sx 11 rfl (sx 12 rfl (sx 13 rfl (sub_nil _)))))))))) (.refl _) ?_
  refine hl_nil ?_
  refine hq_then ?_
  refine hc_ret ?_
  exact hq_ans rfl rfl rfl
set_option maxHeartbeats 4000000 in
set_option maxRecDepth 100000 in
theorem crossing_ret (d : Dev) (low : Int → Bool) (f : FuncId) (cs : List Value) (w : World) (hd : devB d = true) (hgo : goesB Try.prog f = true) (hF : ∀ w', Below w.heap.size w w' → ∀ t : Int, 0 ≤ t → t < d.W * d.H → Calls Try.prog f (([.int .i64 t] : List Value) ++ cs).toArray w' (Ans w' (.bool (low t)))) :
  Calls Try.prog 16 #[.agg #[.int .i64 d.W, .int .i64 d.H, .int .i64 d.T, .int .i64 d.R], .func (.func f) #[] cs.toArray] w (Ret w (fun v' post => post = [rowE 3 1 v' (crL d low (allI d).toNat).length ((crL d low (allI d).toNat).map (Value.int .i64))])) := by
 obtain ⟨ra1, ra2⟩ := all_rng hd
 have hln : ∀ n, (reachS d n).length ≤ 2 := fun n => by
  unfold reachS; split
  · rw [reachN_len]; omega
  · simp
 refine calls_hc (N := 48) (args := [.agg #[.int .i64 d.W, .int .i64 d.H, .int .i64 d.T, .int .i64 d.R], .func (.func f) #[] cs.toArray]) Try.func16 rfl rfl ?_
 refine hc_less _ (sx 0 rfl (sx 1 rfl (sub_nil _))) (.refl _) ?_
 refine hc_seq ?_
 refine hc_region ?_
 refine hl_box rfl rfl rfl (rq_box rfl rfl) ?_
 intro b1
 refine hl_v rfl rfl rfl (rv_ev rfl) ?_
 refine hl_less (sx 0 rfl (sx 1 rfl (sx 2 rfl (sx 4 rfl (sub_nil _))))) (.refl _) ?_
 refine hl_nil ?_
 refine hq_then ?_
 refine hc_seq ?_
 refine hc_region ?_
 refine hl_nilRow 3 1 ?_
 refine hl_v rfl rfl rfl (rv_ev rfl) ?_
 refine hl_less (sx 0 rfl (sx 1 rfl (sx 2 rfl (sx 4 rfl (sx 5 rfl (sub_nil _)))))) (.refl _) ?_
 refine hl_nil ?_
 refine hq_then ?_
 refine hc_seq ?_
 refine hc_seq ?_
 refine hc_region ?_
 refine hl_v rfl rfl rfl (rv_ev rfl) ?_
 refine hl_less (sx 0 rfl (sx 1 rfl (sx 2 rfl (sx 4 rfl (sx 5 rfl (sx 6 rfl (sub_nil _))))))) (.refl _) ?_
 refine hl_nil ?_
 refine hq_then ?_
 refine hc_block ?_
 refine hc_loop3 (α := Nat) (β := Value) (γ := List Int) (fun k u zs => [rowE 3 1 u zs.length (zs.map (Value.int .i64)), boxE b1 #[.int .i64 d.W, .int .i64 d.H, .int .i64 d.T, .int .i64 d.R] 25]) (fun k u zs => [(0, .agg #[.int .i64 d.W, .int .i64 d.H, .int .i64 d.T, .int .i64 d.R]), (1, .func (.func f) #[] cs.toArray), (2, .pointer (some ⟨b1, 0, none⟩)), (4, .slice none 0 0), (5, u), (6, .int .i64 (k : Int))]) (fun k u zs => k ≤ (allI d).toNat ∧ zs = crL d low k) (fun k u zs => (allI d).toNat - k) 0 _ [] ⟨by omega, rfl⟩ (sx 0 rfl (sx 1 rfl (sx 2 rfl (sx 4 rfl (sx 5 rfl (sx 6 rfl (sub_nil _))))))) ((.cons_cons _ (.cons_cons _ .slnil))) ?_
 intro k u zs hi3
 obtain ⟨hk, hz⟩ := hi3
 have hzl : zs.length ≤ k := by rw [hz]; exact crL_len _ _ _
 refine hc_seq ?_
 refine hc_seq ?_
 refine hc_region ?_
 refine hl_v rfl rfl rfl (rv_ev rfl) ?_
 refine hl_v rfl rfl rfl (rv_loadN (cs := [.int .i64 d.W, .int .i64 d.H, .int .i64 d.T, .int .i64 d.R]) rfl (by kernel_rfl) (by kernel_rfl) rfl rfl (box_part 1 rfl 0 rfl)) ?_
 refine hl_callV rfl rfl rfl (rq_call (by kernel_rfl) rfl (fun w hm => ret_ans (implrouteNodes_yes d w hd))) ?_
 refine hl_lss rfl rfl rfl rfl rfl rfl (fun h4 => ?_) (fun h4 => ?_)
 ·
  refine hl_less (sx 0 rfl (sx 1 rfl (sx 2 rfl (sx 4 rfl (sx 5 rfl (sx 6 rfl (sx 14 rfl (sub_nil _)))))))) (.refl _) ?_
  refine hl_nil ?_
  refine hq_then ?_
  refine hc_true rfl ?_
  refine hc_skip ?_
  refine hq_then ?_
  refine hc_seq ?_
  refine hc_block ?_
  refine hc_seq ?_
  refine hc_seq ?_
  refine hc_region ?_
  refine hl_v rfl rfl rfl (rv_loadN (cs := [.int .i64 d.W, .int .i64 d.H, .int .i64 d.T, .int .i64 d.R]) rfl (by kernel_rfl) (by kernel_rfl) rfl rfl (box_part 1 rfl 0 rfl)) ?_
  refine hl_v rfl rfl rfl (rv_ev rfl) ?_
  refine hl_callV rfl rfl rfl (rq_call (by kernel_rfl) rfl (fun w hm => ret_ans (isWire_ans d _ w))) ?_
  refine hl_bool (fun h5 => ?_) (fun h5 => ?_)
  ·
   refine hl_v rfl rfl rfl (rv_ev rfl) ?_
   refine hl_less (sx 0 rfl (sx 1 rfl (sx 2 rfl (sx 4 rfl (sx 5 rfl (sx 6 rfl (sx 14 rfl (sx 20 rfl (sub_nil _))))))))) (.refl _) ?_
   refine hl_nil ?_
   refine hq_then ?_
   refine hc_false rfl ?_
   refine hc_skip ?_
   refine hq_then ?_
   refine hc_seq ?_
   refine hc_region ?_
   refine hl_v rfl rfl rfl (rv_loadN (cs := [.int .i64 d.W, .int .i64 d.H, .int .i64 d.T, .int .i64 d.R]) rfl (by kernel_rfl) (by kernel_rfl) rfl rfl (box_part 1 rfl 0 rfl)) ?_
   refine hl_v rfl rfl rfl (rv_ev rfl) ?_
   refine hl_callV rfl rfl rfl (rq_call (by kernel_rfl) rfl (fun w hm => ret_ans (nodePlace_any d _ hd (by omega) (by omega) w))) ?_
   refine hl_v rfl rfl rfl (rv_ev rfl) ?_
   refine hl_v rfl rfl rfl (rv_ev rfl) ?_
   refine hl_v rfl rfl rfl (rv_ev rfl) ?_
   refine hl_v rfl rfl rfl (rv_ev rfl) ?_
   refine hl_v rfl rfl rfl (rv_ev rfl) ?_
   refine hl_less (sx 0 rfl (sx 1 rfl (sx 2 rfl (sx 4 rfl (sx 5 rfl (sx 6 rfl (sx 7 rfl (sx 14 rfl (sx 20 rfl (sub_nil _)))))))))) (.refl _) ?_
   refine hl_nil ?_
   refine hq_then ?_
   refine hc_seq ?_
   refine hc_region ?_
   refine hl_v rfl rfl rfl (rv_loadN (cs := [.int .i64 d.W, .int .i64 d.H, .int .i64 d.T, .int .i64 d.R]) rfl (by kernel_rfl) (by kernel_rfl) rfl rfl (box_part 1 rfl 0 rfl)) ?_
   refine hl_v rfl rfl rfl (rv_ev rfl) ?_
   refine hl_q rfl rfl rfl (rq_call (by kernel_rfl) rfl (fun w hm => wireReaches_ret d _ w)) ?_
   intro v6 p7 hR8
   subst hR8
   have hln9 := hln (k : Int)
   refine hl_v rfl rfl rfl (rv_len rfl Try.underlying28 rfl (rd_row 0 rfl)) ?_
   refine hl_v rfl rfl rfl (rv_ev rfl) ?_
   refine hl_less (sx 0 rfl (sx 1 rfl (sx 2 rfl (sx 4 rfl (sx 5 rfl (sx 6 rfl (sx 7 rfl (sx 14 rfl (sx 20 rfl (sx 29 rfl (sx 30 rfl (sx 31 rfl (sub_nil _))))))))))))) (.refl _) ?_
   refine hl_nil ?_
   refine hq_then ?_
   refine hc_block ?_
   refine hc_loop1 (α := Nat) (fun j => [rowE 3 1 v6 ((reachS d (k : Int)).length) ((reachS d (k : Int)).map (Value.int .i64)), rowE 3 1 u zs.length (zs.map (Value.int .i64)), boxE b1 #[.int .i64 d.W, .int .i64 d.H, .int .i64 d.T, .int .i64 d.R] 25]) (fun j => [(0, .agg #[.int .i64 d.W, .int .i64 d.H, .int .i64 d.T, .int .i64 d.R]), (1, .func (.func f) #[] cs.toArray), (2, .pointer (some ⟨b1, 0, none⟩)), (4, .slice none 0 0), (5, u), (6, .int .i64 (k : Int)), (7, .int .i64 ((k : Int) / perI d)), (14, .bool true), (20, .bool false), (29, v6), (30, .int .i64 ((reachS d (k : Int)).length : Int)), (31, .int .i64 (j : Int))]) (fun j => j ≤ (reachS d (k : Int)).length ∧ ∀ i, i < j → (low ((k : Int) / perI d) != low ((reachS d (k : Int)).getD i 0)) = false) (fun j => (reachS d (k : Int)).length - j) 0 ⟨by omega, fun i hi => absurd hi (by omega)⟩ (sx 0 rfl (sx 1 rfl (sx 2 rfl (sx 4 rfl (sx 5 rfl (sx 6 rfl (sx 7 rfl (sx 14 rfl (sx 20 rfl (sx 29 rfl (sx 30 rfl (sx 31 rfl (sub_nil _))))))))))))) ((.cons_cons _ (.cons_cons _ (.cons_cons _ .slnil)))) ?_
   intro j hi9
   obtain ⟨hj, hno⟩ := hi9
   refine hc_seq ?_
   refine hc_region ?_
   refine hl_lss rfl rfl rfl rfl rfl rfl (fun h10 => ?_) (fun h10 => ?_)
   ·
    refine hl_less (sx 0 rfl (sx 1 rfl (sx 2 rfl (sx 4 rfl (sx 5 rfl (sx 6 rfl (sx 7 rfl (sx 14 rfl (sx 20 rfl (sx 29 rfl (sx 30 rfl (sx 31 rfl (sx 32 rfl (sub_nil _)))))))))))))) (.refl _) ?_
    refine hl_nil ?_
    refine hq_then ?_
    refine hc_seq ?_
    refine hc_true rfl ?_
    refine hc_skip ?_
    refine hq_then ?_
    refine hc_seq ?_
    refine hc_block ?_
    refine hc_seq ?_
    refine hc_region ?_
    refine hl_v rfl rfl rfl (rv_index (s := 1) rfl Try.underlying28 (by kernel_rfl) rfl rfl (rd_row 0 rfl) (by omega) (by first | omega | (simp only [List.length_set]; omega))) ?_
    refine hl_v rfl rfl rfl (rv_loadEl (u := .int .i64 ((reachS d (k : Int)).getD j 0)) rfl (by kernel_rfl) rfl (rd_row 0 rfl) (ints_at1 (show _ < (reachS d (k : Int)).length by first | omega | (simp only [List.length_set]; omega)))) ?_
    refine hl_v rfl rfl rfl (rv_ev rfl) ?_
    refine hl_less (sx 0 rfl (sx 1 rfl (sx 2 rfl (sx 4 rfl (sx 5 rfl (sx 6 rfl (sx 7 rfl (sx 10 rfl (sx 14 rfl (sx 20 rfl (sx 29 rfl (sx 30 rfl (sx 31 rfl (sx 32 rfl (sub_nil _))))))))))))))) (.refl _) ?_
    refine hl_nil ?_
    refine hq_then ?_
    refine hc_seq ?_
    refine hc_region ?_
    obtain ⟨p0, p1, p2, p3, p4⟩ := place_rng hd (n := (k : Int)) (by omega) (by omega)
    obtain ⟨t0, t1⟩ := reach_tile h5 (j := j) (by omega)
    refine hl_v rfl rfl rfl (rv_ev rfl) ?_
    refine hl_v rfl rfl rfl (rv_ev rfl) ?_
    refine hl_callV rfl rfl rfl (rq_callF hgo rfl rfl (fun w hm => ret_ans (hF w hm.bel ((k : Int) / perI d) (by omega) (by omega)))) ?_
    refine hl_v rfl rfl rfl (rv_ev rfl) ?_
    refine hl_v rfl rfl rfl (rv_ev rfl) ?_
    refine hl_callV rfl rfl rfl (rq_callF hgo rfl rfl (fun w hm => ret_ans (hF w hm.bel ((reachS d (k : Int)).getD j 0) (by omega) (by omega)))) ?_
    refine hl_v rfl rfl rfl (rv_bneq (m := low ((k : Int) / perI d)) (n := low ((reachS d (k : Int)).getD j 0)) rfl Try.underlying4 rfl rfl) ?_
    refine hl_bool (fun h11 => ?_) (fun h11 => ?_)
    ·
     refine hl_less (sx 0 rfl (sx 1 rfl (sx 2 rfl (sx 4 rfl (sx 5 rfl (sx 6 rfl (sx 7 rfl (sx 10 rfl (sx 14 rfl (sx 20 rfl (sx 29 rfl (sx 30 rfl (sx 31 rfl (sx 32 rfl (sx 41 rfl (sub_nil _)))))))))))))))) (.refl _) ?_
     refine hl_nil ?_
     refine hq_then ?_
     refine hc_true rfl ?_
     refine hc_seq ?_
     refine hc_region ?_
     refine hl_v rfl rfl rfl (rv_ev rfl) ?_
     refine hl_v rfl rfl rfl (rv_ev rfl) ?_
     refine hl_row rfl rfl rfl (rq_buildSlice (z := .int .i64 0) (s := 1) (cs := ([(k : Int)].map (Value.int .i64))) rfl Try.underlying28 (by kernel_rfl) (by decide) rfl (by kernel_rfl) rfl) ?_
     intro g12
     refine hl_append (i := 2) (z := .int .i64 0) (bytes := 8) (n' := (zs ++ ([(k : Int)])).length) (xs' := ((zs ++ ([(k : Int)])).map (Value.int .i64))) (L := fun v13 => [rowE 3 1 (.slice (some ⟨g12, 0, none⟩) 1 1) 1 ([(k : Int)].map (Value.int .i64)), rowE 3 1 v6 ((reachS d (k : Int)).length) ((reachS d (k : Int)).map (Value.int .i64)), rowE 3 1 v13 ((zs ++ ([(k : Int)])).length) ((zs ++ ([(k : Int)])).map (Value.int .i64)), boxE b1 #[.int .i64 d.W, .int .i64 d.H, .int .i64 d.T, .int .i64 d.R] 25]) rfl rfl rfl rfl Try.underlying28 (by kernel_rfl) (by kernel_rfl) rfl rfl rfl (rd_row 0 rfl) (ints_one _) (by first | omega | (simp; omega)) (len_app zs ([(k : Int)])) (ints_app zs ([(k : Int)])) (fun _ => rfl) ?_
     intro v13
     refine hl_v rfl rfl rfl (rv_ev rfl) ?_
     refine hl_less (sx 0 rfl (sx 1 rfl (sx 2 rfl (sx 4 rfl (sx 5 rfl (sx 6 rfl (sx 7 rfl (sx 10 rfl (sx 14 rfl (sx 20 rfl (sx 29 rfl (sx 30 rfl (sx 31 rfl (sx 32 rfl (sx 41 rfl (sub_nil _)))))))))))))))) (.refl _) ?_
     refine hl_nil ?_
     refine hq_then ?_
     refine hc_exit ?_
     refine hq_block_past rfl ?_
     refine hq_then_exit ?_
     refine hq_then_exit ?_
     refine hq_block_exit ?_
     refine hq_block_normal ?_
     refine hq_then ?_
     refine hc_region ?_
     refine hl_v rfl rfl rfl (rv_ev rfl) ?_
     refine hl_v rfl rfl rfl (rv_add rfl rfl rfl (by constructor <;> omega)) ?_
     refine hl_v rfl rfl rfl (rv_ev rfl) ?_
     refine hl_less (sx 0 rfl (sx 1 rfl (sx 2 rfl (sx 4 rfl (sx 5 rfl (sx 6 rfl (sx 7 rfl (sx 10 rfl (sx 14 rfl (sx 20 rfl (sx 29 rfl (sx 30 rfl (sx 31 rfl (sx 32 rfl (sx 41 rfl (sub_nil _)))))))))))))))) (.refl _) ?_
     refine hl_nil ?_
     exact hq_round3 (k + 1) v13 (zs ++ ([(k : Int)])) ⟨by omega, by rw [hz]; exact crL_yes (crossB_yes h5 (show j < _ by omega) h11)⟩ (by omega) (sx 0 rfl (sx 1 rfl (sx 2 rfl (sx 4 rfl (sx 5 rfl (sx 6 rfl (sub_nil _))))))) ((.cons _ (.cons _ (.cons_cons _ (.cons_cons _ .slnil)))))
    ·
     refine hl_less (sx 0 rfl (sx 1 rfl (sx 2 rfl (sx 4 rfl (sx 5 rfl (sx 6 rfl (sx 7 rfl (sx 10 rfl (sx 14 rfl (sx 20 rfl (sx 29 rfl (sx 30 rfl (sx 31 rfl (sx 32 rfl (sx 41 rfl (sub_nil _)))))))))))))))) (.refl _) ?_
     refine hl_nil ?_
     refine hq_then ?_
     refine hc_false rfl ?_
     refine hc_skip ?_
     refine hq_block_normal ?_
     refine hq_then ?_
     refine hc_region ?_
     refine hl_v rfl rfl rfl (rv_add rfl rfl rfl (by constructor <;> omega)) ?_
     refine hl_v rfl rfl rfl (rv_ev rfl) ?_
     refine hl_less (sx 0 rfl (sx 1 rfl (sx 2 rfl (sx 4 rfl (sx 5 rfl (sx 6 rfl (sx 7 rfl (sx 10 rfl (sx 14 rfl (sx 20 rfl (sx 29 rfl (sx 30 rfl (sx 31 rfl (sx 32 rfl (sx 41 rfl (sub_nil _)))))))))))))))) (.refl _) ?_
     refine hl_nil ?_
     exact hq_round1 (j + 1) ⟨by omega, fun i hi => by by_cases hij : i = j; (subst hij; exact h11); exact hno i (by omega)⟩ (by omega) (sx 0 rfl (sx 1 rfl (sx 2 rfl (sx 4 rfl (sx 5 rfl (sx 6 rfl (sx 7 rfl (sx 14 rfl (sx 20 rfl (sx 29 rfl (sx 30 rfl (sx 31 rfl (sub_nil _))))))))))))) ((.cons_cons _ (.cons_cons _ (.cons_cons _ .slnil))))
   ·
    refine hl_less (sx 0 rfl (sx 1 rfl (sx 2 rfl (sx 4 rfl (sx 5 rfl (sx 6 rfl (sx 7 rfl (sx 14 rfl (sx 20 rfl (sx 29 rfl (sx 30 rfl (sx 31 rfl (sx 32 rfl (sub_nil _)))))))))))))) (.refl _) ?_
    refine hl_nil ?_
    refine hq_then ?_
    refine hc_seq ?_
    refine hc_false rfl ?_
    refine hc_exit ?_
    refine hq_then_exit ?_
    refine hq_then_exit ?_
    refine hq_block_exit ?_
    refine hq_block_normal ?_
    refine hq_then ?_
    refine hc_region ?_
    refine hl_v rfl rfl rfl (rv_ev rfl) ?_
    refine hl_v rfl rfl rfl (rv_add rfl rfl rfl (by constructor <;> omega)) ?_
    refine hl_v rfl rfl rfl (rv_ev rfl) ?_
    refine hl_less (sx 0 rfl (sx 1 rfl (sx 2 rfl (sx 4 rfl (sx 5 rfl (sx 6 rfl (sx 7 rfl (sx 14 rfl (sx 20 rfl (sx 29 rfl (sx 30 rfl (sx 31 rfl (sx 32 rfl (sub_nil _)))))))))))))) (.refl _) ?_
    refine hl_nil ?_
    exact hq_round3 (k + 1) u zs ⟨by omega, by rw [hz]; exact crL_no (crossB_no (fun i hi => hno i (by omega)))⟩ (by omega) (sx 0 rfl (sx 1 rfl (sx 2 rfl (sx 4 rfl (sx 5 rfl (sx 6 rfl (sub_nil _))))))) ((.cons _ (.cons_cons _ (.cons_cons _ .slnil))))
  ·
   refine hl_v rfl rfl rfl (rv_ev rfl) ?_
   refine hl_less (sx 0 rfl (sx 1 rfl (sx 2 rfl (sx 4 rfl (sx 5 rfl (sx 6 rfl (sx 14 rfl (sx 20 rfl (sub_nil _))))))))) (.refl _) ?_
   refine hl_nil ?_
   refine hq_then ?_
   refine hc_true rfl ?_
   refine hc_exit ?_
   refine hq_then_exit ?_
   refine hq_block_exit ?_
   refine hq_then ?_
   refine hc_region ?_
   refine hl_v rfl rfl rfl (rv_ev rfl) ?_
   refine hl_v rfl rfl rfl (rv_add rfl rfl rfl (by constructor <;> omega)) ?_
   refine hl_v rfl rfl rfl (rv_ev rfl) ?_
   refine hl_less (sx 0 rfl (sx 1 rfl (sx 2 rfl (sx 4 rfl (sx 5 rfl (sx 6 rfl (sx 14 rfl (sx 20 rfl (sub_nil _))))))))) (.refl _) ?_
   refine hl_nil ?_
   exact hq_round3 (k + 1) u zs ⟨by omega, by rw [hz]; exact crL_no (crossB_nw h5)⟩ (by omega) (sx 0 rfl (sx 1 rfl (sx 2 rfl (sx 4 rfl (sx 5 rfl (sx 6 rfl (sub_nil _))))))) ((.cons_cons _ (.cons_cons _ .slnil)))
 ·
  refine hl_less (sx 0 rfl (sx 1 rfl (sx 2 rfl (sx 4 rfl (sx 5 rfl (sx 6 rfl (sx 14 rfl (sub_nil _)))))))) (.refl _) ?_
  refine hl_nil ?_
  refine hq_then ?_
  refine hc_false rfl ?_
  refine hc_exit ?_
  refine hq_then_exit ?_
  refine hq_then_exit ?_
  refine hq_block_exit ?_
  refine hq_then ?_
  refine hc_seq ?_
  refine hc_region ?_
  refine hl_v rfl rfl rfl (rv_ev rfl) ?_
  refine hl_v rfl rfl rfl (rv_ev rfl) ?_
  refine hl_less (sx 0 rfl (sx 1 rfl (sx 2 rfl (sx 4 rfl (sx 5 rfl (sx 6 rfl (sx 14 rfl (sub_nil _)))))))) (.refl _) ?_
  refine hl_nil ?_
  refine hq_then ?_
  refine hc_ret ?_
  exact hq_retR (post := [rowE 3 1 u zs.length (zs.map (Value.int .i64))]) rfl rfl ((.cons_cons _ (.cons _ .slnil))) (by rw [hz, show k = (allI d).toNat by omega])
set_option maxHeartbeats 4000000 in
set_option maxRecDepth 100000 in
theorem colCut1_ans (d : Dev) (b1 b2 : Nat) (x t : Int) (w : World) (hbd : b1 < w.heap.size) (hcd : w.cell? ⟨b1, 0, none⟩ = some (.int .i64 d.W)) (hbx : b2 < w.heap.size) (hcx : w.cell? ⟨b2, 0, none⟩ = some (.int .i64 x)) (hW : 3 ≤ d.W ∧ d.W ≤ 6) (ht : 0 ≤ t ∧ t ≤ 1000) :
  Calls Try.prog 17 #[.int .i64 t, .pointer (some ⟨b1, 0, none⟩), .pointer (some ⟨b2, 0, none⟩)] w (Ans w (.bool (decide (t % d.W ≤ x)))) := by
 refine calls_hc (N := 11) (args := [.int .i64 t, .pointer (some ⟨b1, 0, none⟩), .pointer (some ⟨b2, 0, none⟩)]) Try.func17 rfl rfl ?_
 refine hc_less _ (sx 0 rfl (sx 1 rfl (sx 2 rfl (sub_nil _)))) (.refl _) ?_
 refine hc_seq ?_
 refine hc_region ?_
 refine hl_v rfl rfl rfl (rv_ev rfl) ?_
 refine hl_less (sx 0 rfl (sx 1 rfl (sx 2 rfl (sx 4 rfl (sub_nil _))))) (.refl _) ?_
 refine hl_nil ?_
 refine hq_then ?_
 refine hc_seq ?_
 rcases Bool.eq_false_or_eq_true (decide (t % d.W ≤ x)) with hb1 | hb1
 ·
  have hb1p : t % d.W ≤ x := of_decide_eq_true hb1
  refine hc_draw (by kernel_rfl) 6 [0, 1, 2, 3, 4, 5] (List.take 6 _) (List.drop 6 _) [[], [], [1], [0, 2], [], [3, 4]] [5, 6, 7, 8, 9, 10] (fun i_ vs_ v_ p_ => match i_ with | 0 => v_ = .int .i64 t ∧ p_ = [] | 1 => v_ = .pointer (some ⟨b1, 0 + 0, none⟩) ∧ p_ = [] | 2 => v_ = .int .i64 d.W ∧ p_ = [] | 3 => v_ = .int .i64 (t % d.W) ∧ p_ = [] | 4 => v_ = .int .i64 x ∧ p_ = [] | 5 => v_ = .bool true ∧ p_ = [] | _ => True) (List.take_append_drop 6 _).symm (by kernel_rfl) (by kernel_rfl) rfl rfl ?_ ?_
  ·
   refine ⟨?_, ?_, ?_, ?_, ?_, ?_, trivial⟩
   ·
    intro vf pf hR
    refine Or.inl ⟨rfl, ?_⟩
    refine rq_less (sx 0 rfl (sub_nil _)) (List.sublist_append_right _ _) ?_
    exact rq_v (rv_ev rfl)
   ·
    intro vf pf hR
    refine Or.inl ⟨rfl, ?_⟩
    refine rq_less (sx 1 rfl (sub_nil _)) (List.sublist_append_right _ _) ?_
    exact rq_v (rv_field (k0 := 0) rfl (by kernel_rfl) rfl)
   ·
    intro vf pf hR
    have e1 : (vf 1) = .pointer (some ⟨b1, 0 + 0, none⟩) ∧ (pf 1) = [] := hR 1 (by decide)
    refine Or.inl ⟨rfl, ?_⟩
    refine rq_less (sx 6 (congrArg some e1.1) (sub_nil _)) (List.sublist_append_right _ _) ?_
    exact rq_v (rv_load rfl (by kernel_rfl) rfl (fun w hm => (hm.bel.cell (p := ⟨b1, 0 + 0, none⟩) hbd).trans hcd))
   ·
    intro vf pf hR
    have e0 : (vf 0) = .int .i64 t ∧ (pf 0) = [] := hR 0 (by decide)
    have e2 : (vf 2) = .int .i64 d.W ∧ (pf 2) = [] := hR 2 (by decide)
    refine Or.inl ⟨rfl, ?_⟩
    refine rq_less (sx 5 (congrArg some e0.1) (sx 7 (congrArg some e2.1) (sub_nil _))) (List.sublist_append_right _ _) ?_
    exact rq_v (rv_rem rfl rfl rfl (by constructor <;> omega))
   ·
    intro vf pf hR
    refine Or.inl ⟨rfl, ?_⟩
    refine rq_less (sx 2 rfl (sub_nil _)) (List.sublist_append_right _ _) ?_
    exact rq_v (rv_load rfl (by kernel_rfl) rfl (fun w hm => (hm.bel.cell (p := ⟨b2, 0, none⟩) hbx).trans hcx))
   ·
    intro vf pf hR
    have e3 : (vf 3) = .int .i64 (t % d.W) ∧ (pf 3) = [] := hR 3 (by decide)
    have e4 : (vf 4) = .int .i64 x ∧ (pf 4) = [] := hR 4 (by decide)
    refine Or.inl ⟨rfl, ?_⟩
    refine rq_less (sx 8 (congrArg some e3.1) (sx 9 (congrArg some e4.1) (sub_nil _))) (List.sublist_append_right _ _) ?_
    exact rq_mono (rq_v (rv_cmp rfl rfl rfl rfl)) (fun _ _ h => ⟨h.1.trans (congrArg Value.bool hb1), h.2⟩)
  ·
   intro vf pf hR
   have e5 : (vf 5) = .bool true ∧ (pf 5) = [] := hR 5 (by decide)
   refine hl_less (l' := []) (sx 0 rfl (sx 1 rfl (sx 2 rfl (sx 4 rfl (sx 10 (congrArg some e5.1) (sub_nil _)))))) (List.sublist_append_right _ _) ?_
   simp only [List.drop_succ_cons, List.drop_zero]
   refine hl_v rfl rfl rfl (rv_ev rfl) ?_
   refine hl_less (sx 0 rfl (sx 1 rfl (sx 2 rfl (sx 4 rfl (sub_nil _))))) (.refl _) ?_
   refine hl_nil ?_
   refine hq_then ?_
   refine hc_ret ?_
   exact hq_ans rfl rfl (congrArg _ (decide_eq_true (by omega)).symm)
 ·
  have hb1p : ¬ (t % d.W ≤ x) := of_decide_eq_false hb1
  refine hc_draw (by kernel_rfl) 6 [0, 1, 2, 3, 4, 5] (List.take 6 _) (List.drop 6 _) [[], [], [1], [0, 2], [], [3, 4]] [5, 6, 7, 8, 9, 10] (fun i_ vs_ v_ p_ => match i_ with | 0 => v_ = .int .i64 t ∧ p_ = [] | 1 => v_ = .pointer (some ⟨b1, 0 + 0, none⟩) ∧ p_ = [] | 2 => v_ = .int .i64 d.W ∧ p_ = [] | 3 => v_ = .int .i64 (t % d.W) ∧ p_ = [] | 4 => v_ = .int .i64 x ∧ p_ = [] | 5 => v_ = .bool false ∧ p_ = [] | _ => True) (List.take_append_drop 6 _).symm (by kernel_rfl) (by kernel_rfl) rfl rfl ?_ ?_
  ·
   refine ⟨?_, ?_, ?_, ?_, ?_, ?_, trivial⟩
   ·
    intro vf pf hR
    refine Or.inl ⟨rfl, ?_⟩
    refine rq_less (sx 0 rfl (sub_nil _)) (List.sublist_append_right _ _) ?_
    exact rq_v (rv_ev rfl)
   ·
    intro vf pf hR
    refine Or.inl ⟨rfl, ?_⟩
    refine rq_less (sx 1 rfl (sub_nil _)) (List.sublist_append_right _ _) ?_
    exact rq_v (rv_field (k0 := 0) rfl (by kernel_rfl) rfl)
   ·
    intro vf pf hR
    have e1 : (vf 1) = .pointer (some ⟨b1, 0 + 0, none⟩) ∧ (pf 1) = [] := hR 1 (by decide)
    refine Or.inl ⟨rfl, ?_⟩
    refine rq_less (sx 6 (congrArg some e1.1) (sub_nil _)) (List.sublist_append_right _ _) ?_
    exact rq_v (rv_load rfl (by kernel_rfl) rfl (fun w hm => (hm.bel.cell (p := ⟨b1, 0 + 0, none⟩) hbd).trans hcd))
   ·
    intro vf pf hR
    have e0 : (vf 0) = .int .i64 t ∧ (pf 0) = [] := hR 0 (by decide)
    have e2 : (vf 2) = .int .i64 d.W ∧ (pf 2) = [] := hR 2 (by decide)
    refine Or.inl ⟨rfl, ?_⟩
    refine rq_less (sx 5 (congrArg some e0.1) (sx 7 (congrArg some e2.1) (sub_nil _))) (List.sublist_append_right _ _) ?_
    exact rq_v (rv_rem rfl rfl rfl (by constructor <;> omega))
   ·
    intro vf pf hR
    refine Or.inl ⟨rfl, ?_⟩
    refine rq_less (sx 2 rfl (sub_nil _)) (List.sublist_append_right _ _) ?_
    exact rq_v (rv_load rfl (by kernel_rfl) rfl (fun w hm => (hm.bel.cell (p := ⟨b2, 0, none⟩) hbx).trans hcx))
   ·
    intro vf pf hR
    have e3 : (vf 3) = .int .i64 (t % d.W) ∧ (pf 3) = [] := hR 3 (by decide)
    have e4 : (vf 4) = .int .i64 x ∧ (pf 4) = [] := hR 4 (by decide)
    refine Or.inl ⟨rfl, ?_⟩
    refine rq_less (sx 8 (congrArg some e3.1) (sx 9 (congrArg some e4.1) (sub_nil _))) (List.sublist_append_right _ _) ?_
    exact rq_mono (rq_v (rv_cmp rfl rfl rfl rfl)) (fun _ _ h => ⟨h.1.trans (congrArg Value.bool hb1), h.2⟩)
  ·
   intro vf pf hR
   have e5 : (vf 5) = .bool false ∧ (pf 5) = [] := hR 5 (by decide)
   refine hl_less (l' := []) (sx 0 rfl (sx 1 rfl (sx 2 rfl (sx 4 rfl (sx 10 (congrArg some e5.1) (sub_nil _)))))) (List.sublist_append_right _ _) ?_
   simp only [List.drop_succ_cons, List.drop_zero]
   refine hl_v rfl rfl rfl (rv_ev rfl) ?_
   refine hl_less (sx 0 rfl (sx 1 rfl (sx 2 rfl (sx 4 rfl (sub_nil _))))) (.refl _) ?_
   refine hl_nil ?_
   refine hq_then ?_
   refine hc_ret ?_
   exact hq_ans rfl rfl (congrArg _ (decide_eq_false (by omega)).symm)
set_option maxHeartbeats 4000000 in
set_option maxRecDepth 100000 in
theorem colCut_ret (d : Dev) (x : Int) (w : World) (hd : devB d = true) (hx : 0 ≤ x ∧ x ≤ d.W - 2) :
  Calls Try.prog 7 #[.agg #[.int .i64 d.W, .int .i64 d.H, .int .i64 d.T, .int .i64 d.R], .int .i64 x] w (Ret w (fun v' post => post = [rowE 3 1 v' (crL d (fun t => decide (t % d.W ≤ x)) (allI d).toNat).length ((crL d (fun t => decide (t % d.W ≤ x)) (allI d).toNat).map (Value.int .i64))])) := by
 obtain ⟨⟨a1, a2⟩, ⟨b1, b2⟩, -, -⟩ := (devB_iff d).1 hd
 refine calls_hc (N := 19) (args := [.agg #[.int .i64 d.W, .int .i64 d.H, .int .i64 d.T, .int .i64 d.R], .int .i64 x]) Try.func7 rfl rfl ?_
 refine hc_less _ (sx 0 rfl (sx 1 rfl (sub_nil _))) (.refl _) ?_
 refine hc_seq ?_
 refine hc_region ?_
 refine hl_box rfl rfl rfl (rq_box rfl rfl) ?_
 intro b1
 refine hl_box rfl rfl rfl (rq_box rfl rfl) ?_
 intro b2
 refine hl_v rfl rfl rfl (rv_ev rfl) ?_
 refine hl_less (sx 0 rfl (sx 1 rfl (sx 2 rfl (sx 3 rfl (sx 4 rfl (sub_nil _)))))) (.refl _) ?_
 refine hl_nil ?_
 refine hq_then ?_
 refine hc_seq ?_
 refine hc_seq ?_
 refine hc_region ?_
 refine hl_v rfl rfl rfl (rv_loadN (cs := [.int .i64 d.W, .int .i64 d.H, .int .i64 d.T, .int .i64 d.R]) rfl (by kernel_rfl) (by kernel_rfl) rfl rfl (box_part 1 rfl 0 rfl)) ?_
 refine hl_callV rfl rfl rfl (rq_call (by kernel_rfl) rfl (fun w hm => ret_ans (implDeviceOk_any d w))) ?_
 refine hl_bool (fun h3 => ?_) (fun h3 => absurd ((hd).symm.trans h3) (by decide))
 refine hl_v rfl rfl rfl (rv_ev rfl) ?_
 refine hl_v rfl rfl rfl (rv_ev rfl) ?_
 refine hl_v rfl rfl rfl (rv_load rfl (by kernel_rfl) rfl (box_cell 0 rfl rfl)) ?_
 refine hl_v rfl rfl rfl (rv_field (k0 := 0) rfl (by kernel_rfl) rfl) ?_
 refine hl_v rfl rfl rfl (rv_load rfl (by kernel_rfl) rfl (box_cell 1 rfl rfl)) ?_
 refine hl_v rfl rfl rfl (rv_sub rfl rfl rfl (by constructor <;> omega)) ?_
 refine hl_callV rfl rfl rfl (rq_call (by kernel_rfl) rfl (fun w hm => ret_ans (ans_of (inRange_any _ _ _ w)))) ?_
 refine hl_bool (fun h4 => ?_) (fun h4 => absurd (((inr_in (by omega))).symm.trans h4) (by decide))
 refine hl_v rfl rfl rfl (rv_ev rfl) ?_
 refine hl_v rfl rfl rfl (rv_ev rfl) ?_
 refine hl_less (sx 0 rfl (sx 1 rfl (sx 2 rfl (sx 3 rfl (sx 4 rfl (sx 15 rfl (sub_nil _))))))) (.refl _) ?_
 refine hl_nil ?_
 refine hq_then ?_
 refine hc_false rfl ?_
 refine hc_skip ?_
 refine hq_then ?_
 refine hc_seq ?_
 refine hc_region ?_
 refine hl_v rfl rfl rfl (rv_loadN (cs := [.int .i64 d.W, .int .i64 d.H, .int .i64 d.T, .int .i64 d.R]) rfl (by kernel_rfl) (by kernel_rfl) rfl rfl (box_part 1 rfl 0 rfl)) ?_
 refine hl_v rfl rfl rfl (rv_makeFunc (us := []) (vs := [.pointer (some ⟨b1, 0, none⟩), .pointer (some ⟨b2, 0, none⟩)]) rfl rfl rfl) ?_
 refine hl_q rfl rfl rfl (rq_call (by kernel_rfl) rfl (fun w hm => by
     have hc1 : w.cell? ⟨b1, 0, none⟩ = some (.int .i64 d.W) := box_cell (l := [boxE b2 #[.int .i64 x] 3, boxE b1 #[.int .i64 d.W, .int .i64 d.H, .int .i64 d.T, .int .i64 d.R] 25]) (o := 0) 1 rfl rfl w hm
     have hc2 : w.cell? ⟨b2, 0, none⟩ = some (.int .i64 x) := box_cell (l := [boxE b2 #[.int .i64 x] 3, boxE b1 #[.int .i64 d.W, .int .i64 d.H, .int .i64 d.T, .int .i64 d.R] 25]) (o := 0) 0 rfl rfl w hm
     exact crossing_ret d (fun t => decide (t % d.W ≤ x)) 17 [.pointer (some ⟨b1, 0, none⟩), .pointer (some ⟨b2, 0, none⟩)] w hd (by kernel_rfl) (fun w' hb t t0 t1 => colCut1_ans d b1 b2 x t w' (Nat.lt_of_lt_of_le (World.block_lt_of_cell? _ _ hc1) hb.size) ((hb.cell (p := ⟨b1, 0, none⟩) (World.block_lt_of_cell? _ _ hc1)).trans hc1) (Nat.lt_of_lt_of_le (World.block_lt_of_cell? _ _ hc2) hb.size) ((hb.cell (p := ⟨b2, 0, none⟩) (World.block_lt_of_cell? _ _ hc2)).trans hc2) (by omega) ⟨t0, by have := area_le hd; omega⟩))) ?_
 intro v5 p6 hR7
 subst hR7
 refine hl_v rfl rfl rfl (rv_ev rfl) ?_
 refine hl_less (sx 0 rfl (sx 1 rfl (sx 2 rfl (sx 3 rfl (sx 4 rfl (sx 15 rfl (sub_nil _))))))) (.refl _) ?_
 refine hl_nil ?_
 refine hq_then ?_
 refine hc_ret ?_
 exact hq_retR (post := [rowE 3 1 v5 ((crL d (fun t => decide (t % d.W ≤ x)) (allI d).toNat).length) ((crL d (fun t => decide (t % d.W ≤ x)) (allI d).toNat).map (Value.int .i64))]) rfl rfl ((.cons_cons _ (.cons _ (.cons _ .slnil)))) rfl
set_option maxHeartbeats 4000000 in
set_option maxRecDepth 100000 in
theorem rowCut1_ans (d : Dev) (b1 b2 : Nat) (x t : Int) (w : World) (hbd : b1 < w.heap.size) (hcd : w.cell? ⟨b1, 0, none⟩ = some (.int .i64 d.W)) (hbx : b2 < w.heap.size) (hcx : w.cell? ⟨b2, 0, none⟩ = some (.int .i64 x)) (hW : 3 ≤ d.W ∧ d.W ≤ 6) (ht : 0 ≤ t ∧ t ≤ 1000) :
  Calls Try.prog 18 #[.int .i64 t, .pointer (some ⟨b1, 0, none⟩), .pointer (some ⟨b2, 0, none⟩)] w (Ans w (.bool (decide (t / d.W ≤ x)))) := by
 refine calls_hc (N := 11) (args := [.int .i64 t, .pointer (some ⟨b1, 0, none⟩), .pointer (some ⟨b2, 0, none⟩)]) Try.func18 rfl rfl ?_
 refine hc_less _ (sx 0 rfl (sx 1 rfl (sx 2 rfl (sub_nil _)))) (.refl _) ?_
 refine hc_seq ?_
 refine hc_region ?_
 refine hl_v rfl rfl rfl (rv_ev rfl) ?_
 refine hl_less (sx 0 rfl (sx 1 rfl (sx 2 rfl (sx 4 rfl (sub_nil _))))) (.refl _) ?_
 refine hl_nil ?_
 refine hq_then ?_
 refine hc_seq ?_
 rcases Bool.eq_false_or_eq_true (decide (t / d.W ≤ x)) with hb1 | hb1
 ·
  have hb1p : t / d.W ≤ x := of_decide_eq_true hb1
  refine hc_draw (by kernel_rfl) 6 [0, 1, 2, 3, 4, 5] (List.take 6 _) (List.drop 6 _) [[], [], [1], [0, 2], [], [3, 4]] [5, 6, 7, 8, 9, 10] (fun i_ vs_ v_ p_ => match i_ with | 0 => v_ = .int .i64 t ∧ p_ = [] | 1 => v_ = .pointer (some ⟨b1, 0 + 0, none⟩) ∧ p_ = [] | 2 => v_ = .int .i64 d.W ∧ p_ = [] | 3 => v_ = .int .i64 (t / d.W) ∧ p_ = [] | 4 => v_ = .int .i64 x ∧ p_ = [] | 5 => v_ = .bool true ∧ p_ = [] | _ => True) (List.take_append_drop 6 _).symm (by kernel_rfl) (by kernel_rfl) rfl rfl ?_ ?_
  ·
   refine ⟨?_, ?_, ?_, ?_, ?_, ?_, trivial⟩
   ·
    intro vf pf hR
    refine Or.inl ⟨rfl, ?_⟩
    refine rq_less (sx 0 rfl (sub_nil _)) (List.sublist_append_right _ _) ?_
    exact rq_v (rv_ev rfl)
   ·
    intro vf pf hR
    refine Or.inl ⟨rfl, ?_⟩
    refine rq_less (sx 1 rfl (sub_nil _)) (List.sublist_append_right _ _) ?_
    exact rq_v (rv_field (k0 := 0) rfl (by kernel_rfl) rfl)
   ·
    intro vf pf hR
    have e1 : (vf 1) = .pointer (some ⟨b1, 0 + 0, none⟩) ∧ (pf 1) = [] := hR 1 (by decide)
    refine Or.inl ⟨rfl, ?_⟩
    refine rq_less (sx 6 (congrArg some e1.1) (sub_nil _)) (List.sublist_append_right _ _) ?_
    exact rq_v (rv_load rfl (by kernel_rfl) rfl (fun w hm => (hm.bel.cell (p := ⟨b1, 0 + 0, none⟩) hbd).trans hcd))
   ·
    intro vf pf hR
    have e0 : (vf 0) = .int .i64 t ∧ (pf 0) = [] := hR 0 (by decide)
    have e2 : (vf 2) = .int .i64 d.W ∧ (pf 2) = [] := hR 2 (by decide)
    refine Or.inl ⟨rfl, ?_⟩
    refine rq_less (sx 5 (congrArg some e0.1) (sx 7 (congrArg some e2.1) (sub_nil _))) (List.sublist_append_right _ _) ?_
    exact rq_v (rv_quo rfl rfl rfl (by refine ⟨?_, ?_, ?_⟩ <;> omega))
   ·
    intro vf pf hR
    refine Or.inl ⟨rfl, ?_⟩
    refine rq_less (sx 2 rfl (sub_nil _)) (List.sublist_append_right _ _) ?_
    exact rq_v (rv_load rfl (by kernel_rfl) rfl (fun w hm => (hm.bel.cell (p := ⟨b2, 0, none⟩) hbx).trans hcx))
   ·
    intro vf pf hR
    have e3 : (vf 3) = .int .i64 (t / d.W) ∧ (pf 3) = [] := hR 3 (by decide)
    have e4 : (vf 4) = .int .i64 x ∧ (pf 4) = [] := hR 4 (by decide)
    refine Or.inl ⟨rfl, ?_⟩
    refine rq_less (sx 8 (congrArg some e3.1) (sx 9 (congrArg some e4.1) (sub_nil _))) (List.sublist_append_right _ _) ?_
    exact rq_mono (rq_v (rv_cmp rfl rfl rfl rfl)) (fun _ _ h => ⟨h.1.trans (congrArg Value.bool hb1), h.2⟩)
  ·
   intro vf pf hR
   have e5 : (vf 5) = .bool true ∧ (pf 5) = [] := hR 5 (by decide)
   refine hl_less (l' := []) (sx 0 rfl (sx 1 rfl (sx 2 rfl (sx 4 rfl (sx 10 (congrArg some e5.1) (sub_nil _)))))) (List.sublist_append_right _ _) ?_
   simp only [List.drop_succ_cons, List.drop_zero]
   refine hl_v rfl rfl rfl (rv_ev rfl) ?_
   refine hl_less (sx 0 rfl (sx 1 rfl (sx 2 rfl (sx 4 rfl (sub_nil _))))) (.refl _) ?_
   refine hl_nil ?_
   refine hq_then ?_
   refine hc_ret ?_
   exact hq_ans rfl rfl (congrArg _ (decide_eq_true (by omega)).symm)
 ·
  have hb1p : ¬ (t / d.W ≤ x) := of_decide_eq_false hb1
  refine hc_draw (by kernel_rfl) 6 [0, 1, 2, 3, 4, 5] (List.take 6 _) (List.drop 6 _) [[], [], [1], [0, 2], [], [3, 4]] [5, 6, 7, 8, 9, 10] (fun i_ vs_ v_ p_ => match i_ with | 0 => v_ = .int .i64 t ∧ p_ = [] | 1 => v_ = .pointer (some ⟨b1, 0 + 0, none⟩) ∧ p_ = [] | 2 => v_ = .int .i64 d.W ∧ p_ = [] | 3 => v_ = .int .i64 (t / d.W) ∧ p_ = [] | 4 => v_ = .int .i64 x ∧ p_ = [] | 5 => v_ = .bool false ∧ p_ = [] | _ => True) (List.take_append_drop 6 _).symm (by kernel_rfl) (by kernel_rfl) rfl rfl ?_ ?_
  ·
   refine ⟨?_, ?_, ?_, ?_, ?_, ?_, trivial⟩
   ·
    intro vf pf hR
    refine Or.inl ⟨rfl, ?_⟩
    refine rq_less (sx 0 rfl (sub_nil _)) (List.sublist_append_right _ _) ?_
    exact rq_v (rv_ev rfl)
   ·
    intro vf pf hR
    refine Or.inl ⟨rfl, ?_⟩
    refine rq_less (sx 1 rfl (sub_nil _)) (List.sublist_append_right _ _) ?_
    exact rq_v (rv_field (k0 := 0) rfl (by kernel_rfl) rfl)
   ·
    intro vf pf hR
    have e1 : (vf 1) = .pointer (some ⟨b1, 0 + 0, none⟩) ∧ (pf 1) = [] := hR 1 (by decide)
    refine Or.inl ⟨rfl, ?_⟩
    refine rq_less (sx 6 (congrArg some e1.1) (sub_nil _)) (List.sublist_append_right _ _) ?_
    exact rq_v (rv_load rfl (by kernel_rfl) rfl (fun w hm => (hm.bel.cell (p := ⟨b1, 0 + 0, none⟩) hbd).trans hcd))
   ·
    intro vf pf hR
    have e0 : (vf 0) = .int .i64 t ∧ (pf 0) = [] := hR 0 (by decide)
    have e2 : (vf 2) = .int .i64 d.W ∧ (pf 2) = [] := hR 2 (by decide)
    refine Or.inl ⟨rfl, ?_⟩
    refine rq_less (sx 5 (congrArg some e0.1) (sx 7 (congrArg some e2.1) (sub_nil _))) (List.sublist_append_right _ _) ?_
    exact rq_v (rv_quo rfl rfl rfl (by refine ⟨?_, ?_, ?_⟩ <;> omega))
   ·
    intro vf pf hR
    refine Or.inl ⟨rfl, ?_⟩
    refine rq_less (sx 2 rfl (sub_nil _)) (List.sublist_append_right _ _) ?_
    exact rq_v (rv_load rfl (by kernel_rfl) rfl (fun w hm => (hm.bel.cell (p := ⟨b2, 0, none⟩) hbx).trans hcx))
   ·
    intro vf pf hR
    have e3 : (vf 3) = .int .i64 (t / d.W) ∧ (pf 3) = [] := hR 3 (by decide)
    have e4 : (vf 4) = .int .i64 x ∧ (pf 4) = [] := hR 4 (by decide)
    refine Or.inl ⟨rfl, ?_⟩
    refine rq_less (sx 8 (congrArg some e3.1) (sx 9 (congrArg some e4.1) (sub_nil _))) (List.sublist_append_right _ _) ?_
    exact rq_mono (rq_v (rv_cmp rfl rfl rfl rfl)) (fun _ _ h => ⟨h.1.trans (congrArg Value.bool hb1), h.2⟩)
  ·
   intro vf pf hR
   have e5 : (vf 5) = .bool false ∧ (pf 5) = [] := hR 5 (by decide)
   refine hl_less (l' := []) (sx 0 rfl (sx 1 rfl (sx 2 rfl (sx 4 rfl (sx 10 (congrArg some e5.1) (sub_nil _)))))) (List.sublist_append_right _ _) ?_
   simp only [List.drop_succ_cons, List.drop_zero]
   refine hl_v rfl rfl rfl (rv_ev rfl) ?_
   refine hl_less (sx 0 rfl (sx 1 rfl (sx 2 rfl (sx 4 rfl (sub_nil _))))) (.refl _) ?_
   refine hl_nil ?_
   refine hq_then ?_
   refine hc_ret ?_
   exact hq_ans rfl rfl (congrArg _ (decide_eq_false (by omega)).symm)
set_option maxHeartbeats 4000000 in
set_option maxRecDepth 100000 in
theorem rowCut_ret (d : Dev) (x : Int) (w : World) (hd : devB d = true) (hx : 0 ≤ x ∧ x ≤ d.H - 2) :
  Calls Try.prog 8 #[.agg #[.int .i64 d.W, .int .i64 d.H, .int .i64 d.T, .int .i64 d.R], .int .i64 x] w (Ret w (fun v' post => post = [rowE 3 1 v' (crL d (fun t => decide (t / d.W ≤ x)) (allI d).toNat).length ((crL d (fun t => decide (t / d.W ≤ x)) (allI d).toNat).map (Value.int .i64))])) := by
 obtain ⟨⟨a1, a2⟩, ⟨b1, b2⟩, -, -⟩ := (devB_iff d).1 hd
 refine calls_hc (N := 19) (args := [.agg #[.int .i64 d.W, .int .i64 d.H, .int .i64 d.T, .int .i64 d.R], .int .i64 x]) Try.func8 rfl rfl ?_
 refine hc_less _ (sx 0 rfl (sx 1 rfl (sub_nil _))) (.refl _) ?_
 refine hc_seq ?_
 refine hc_region ?_
 refine hl_box rfl rfl rfl (rq_box rfl rfl) ?_
 intro b1
 refine hl_box rfl rfl rfl (rq_box rfl rfl) ?_
 intro b2
 refine hl_v rfl rfl rfl (rv_ev rfl) ?_
 refine hl_less (sx 0 rfl (sx 1 rfl (sx 2 rfl (sx 3 rfl (sx 4 rfl (sub_nil _)))))) (.refl _) ?_
 refine hl_nil ?_
 refine hq_then ?_
 refine hc_seq ?_
 refine hc_seq ?_
 refine hc_region ?_
 refine hl_v rfl rfl rfl (rv_loadN (cs := [.int .i64 d.W, .int .i64 d.H, .int .i64 d.T, .int .i64 d.R]) rfl (by kernel_rfl) (by kernel_rfl) rfl rfl (box_part 1 rfl 0 rfl)) ?_
 refine hl_callV rfl rfl rfl (rq_call (by kernel_rfl) rfl (fun w hm => ret_ans (implDeviceOk_any d w))) ?_
 refine hl_bool (fun h3 => ?_) (fun h3 => absurd ((hd).symm.trans h3) (by decide))
 refine hl_v rfl rfl rfl (rv_ev rfl) ?_
 refine hl_v rfl rfl rfl (rv_ev rfl) ?_
 refine hl_v rfl rfl rfl (rv_load rfl (by kernel_rfl) rfl (box_cell 0 rfl rfl)) ?_
 refine hl_v rfl rfl rfl (rv_field (k0 := 1) rfl (by kernel_rfl) rfl) ?_
 refine hl_v rfl rfl rfl (rv_load rfl (by kernel_rfl) rfl (box_cell 1 rfl rfl)) ?_
 refine hl_v rfl rfl rfl (rv_sub rfl rfl rfl (by constructor <;> omega)) ?_
 refine hl_callV rfl rfl rfl (rq_call (by kernel_rfl) rfl (fun w hm => ret_ans (ans_of (inRange_any _ _ _ w)))) ?_
 refine hl_bool (fun h4 => ?_) (fun h4 => absurd (((inr_in (by omega))).symm.trans h4) (by decide))
 refine hl_v rfl rfl rfl (rv_ev rfl) ?_
 refine hl_v rfl rfl rfl (rv_ev rfl) ?_
 refine hl_less (sx 0 rfl (sx 1 rfl (sx 2 rfl (sx 3 rfl (sx 4 rfl (sx 15 rfl (sub_nil _))))))) (.refl _) ?_
 refine hl_nil ?_
 refine hq_then ?_
 refine hc_false rfl ?_
 refine hc_skip ?_
 refine hq_then ?_
 refine hc_seq ?_
 refine hc_region ?_
 refine hl_v rfl rfl rfl (rv_loadN (cs := [.int .i64 d.W, .int .i64 d.H, .int .i64 d.T, .int .i64 d.R]) rfl (by kernel_rfl) (by kernel_rfl) rfl rfl (box_part 1 rfl 0 rfl)) ?_
 refine hl_v rfl rfl rfl (rv_makeFunc (us := []) (vs := [.pointer (some ⟨b1, 0, none⟩), .pointer (some ⟨b2, 0, none⟩)]) rfl rfl rfl) ?_
 refine hl_q rfl rfl rfl (rq_call (by kernel_rfl) rfl (fun w hm => by
     have hc1 : w.cell? ⟨b1, 0, none⟩ = some (.int .i64 d.W) := box_cell (l := [boxE b2 #[.int .i64 x] 3, boxE b1 #[.int .i64 d.W, .int .i64 d.H, .int .i64 d.T, .int .i64 d.R] 25]) (o := 0) 1 rfl rfl w hm
     have hc2 : w.cell? ⟨b2, 0, none⟩ = some (.int .i64 x) := box_cell (l := [boxE b2 #[.int .i64 x] 3, boxE b1 #[.int .i64 d.W, .int .i64 d.H, .int .i64 d.T, .int .i64 d.R] 25]) (o := 0) 0 rfl rfl w hm
     exact crossing_ret d (fun t => decide (t / d.W ≤ x)) 18 [.pointer (some ⟨b1, 0, none⟩), .pointer (some ⟨b2, 0, none⟩)] w hd (by kernel_rfl) (fun w' hb t t0 t1 => rowCut1_ans d b1 b2 x t w' (Nat.lt_of_lt_of_le (World.block_lt_of_cell? _ _ hc1) hb.size) ((hb.cell (p := ⟨b1, 0, none⟩) (World.block_lt_of_cell? _ _ hc1)).trans hc1) (Nat.lt_of_lt_of_le (World.block_lt_of_cell? _ _ hc2) hb.size) ((hb.cell (p := ⟨b2, 0, none⟩) (World.block_lt_of_cell? _ _ hc2)).trans hc2) (by omega) ⟨t0, by have := area_le hd; omega⟩))) ?_
 intro v5 p6 hR7
 subst hR7
 refine hl_v rfl rfl rfl (rv_ev rfl) ?_
 refine hl_less (sx 0 rfl (sx 1 rfl (sx 2 rfl (sx 3 rfl (sx 4 rfl (sx 15 rfl (sub_nil _))))))) (.refl _) ?_
 refine hl_nil ?_
 refine hq_then ?_
 refine hc_ret ?_
 exact hq_retR (post := [rowE 3 1 v5 ((crL d (fun t => decide (t / d.W ≤ x)) (allI d).toNat).length) ((crL d (fun t => decide (t / d.W ≤ x)) (allI d).toNat).map (Value.int .i64))]) rfl rfl ((.cons_cons _ (.cons _ (.cons _ .slnil)))) rfl
set_option maxHeartbeats 4000000 in
set_option maxRecDepth 100000 in
theorem isSeparated_ret (d : Dev) (b : Nat) (g : Gr) (pl : List Int) (pv : Value) (c : Cn) (ws : List Int) (wv : Value) (w : World) (hd : devB d = true) (hg : RdsGr w b g) (hgk : GrOk d (allI d).toNat g) (hpl : RdsW w pv 1 pl.length (pl.map (Value.int .i64))) (hpn : pl.length ≤ 64) (hs : PnOk pl.length c.sb c.sp) (hc : RdsW w c.sv 2 c.ps.length (c.ps.flatMap pnC)) (hcl : 1 ≤ c.ps.length ∧ c.ps.length ≤ 120) (hok : ∀ k, k < c.ps.length → PnOk pl.length (c.ps.getD k pn0).b (c.ps.getD k pn0).p) (hin : ∀ k, k < c.ps.length → 0 ≤ inPinI d (pl.getD (c.ps.getD k pn0).b.toNat 0) (c.ps.getD k pn0).p) (hso : 0 ≤ (outPinI d (pl.getD c.sb.toNat 0) c.sp) ∧ (outPinI d (pl.getD c.sb.toNat 0) c.sp) < allI d ∧ ¬ (outPinI d (pl.getD c.sb.toNat 0) c.sp) ∈ ws) (hsk : ∀ k, k < (snkL d pl c.ps c.ps.length).length → 0 ≤ (snkL d pl c.ps c.ps.length).getD k 0 ∧ (snkL d pl c.ps c.ps.length).getD k 0 < allI d) (hwv : RdsW w wv 1 ws.length (ws.map (Value.int .i64))) (hwl : ws.length ≤ 100000) (hws : ∀ x ∈ ws, isWireI d x = true ∧ 0 ≤ x ∧ x < allI d) :
  Calls Try.prog 20 #[.agg #[.int .i64 d.W, .int .i64 d.H, .int .i64 d.T, .int .i64 d.R], .pointer (some ⟨b, 0, none⟩), pv, .agg #[.int .i64 c.nd, .int .i64 c.sb, .int .i64 c.sp, c.sv], wv] w (Ret w (fun v' post => ∃ b_ : Bool, v' = .bool b_ ∧ post = [] ∧ (SepQ d ws (outPinI d (pl.getD c.sb.toNat 0) c.sp) ((snkL d pl c.ps c.ps.length).getD 0 0) → b_ = true))) := by
 obtain ⟨ra1, ra2⟩ := all_rng hd
 have hqsl : (snkL d pl c.ps c.ps.length).length = c.ps.length := snk_len _ _ (Nat.le_refl _)
 have hrl : (List.replicate (allI d).toNat bl0).length = (allI d).toNat := List.length_replicate
 obtain ⟨hso0, hso1, hso2⟩ := id hso
 refine calls_hc (N := 109) (args := [.agg #[.int .i64 d.W, .int .i64 d.H, .int .i64 d.T, .int .i64 d.R], .pointer (some ⟨b, 0, none⟩), pv, .agg #[.int .i64 c.nd, .int .i64 c.sb, .int .i64 c.sp, c.sv], wv]) Try.func20 rfl rfl ?_
 refine hc_less _ (sx 0 rfl (sx 1 rfl (sx 2 rfl (sx 3 rfl (sx 4 rfl (sub_nil _)))))) (.refl _) ?_
 refine hc_seq ?_
 refine hc_region ?_
 refine hl_box rfl rfl rfl (rq_box rfl rfl) ?_
 intro b1
 refine hl_box rfl rfl rfl (rq_box rfl rfl) ?_
 intro b2
 refine hl_v rfl rfl rfl (rv_ev rfl) ?_
 refine hl_less (sx 0 rfl (sx 1 rfl (sx 2 rfl (sx 3 rfl (sx 4 rfl (sx 5 rfl (sx 8 rfl (sx 10 rfl (sub_nil _))))))))) (.refl _) ?_
 refine hl_nil ?_
 refine hq_then ?_
 refine hc_seq ?_
 refine hc_draw (by kernel_rfl) 8 [0, 1, 2, 3, 4, 5, 6, 7] (List.take 8 _) (List.drop 8 _) [[], [], [], [0, 1, 2], [], [], [], [4, 5, 6]] [23, 24, 25, 26, 27, 28, 29, 30] (fun i_ vs_ v_ p_ => match i_ with | 0 => v_ = .agg #[.int .i64 d.W, .int .i64 d.H, .int .i64 d.T, .int .i64 d.R] ∧ p_ = [] | 1 => v_ = pv ∧ p_ = [] | 2 => v_ = .agg #[.int .i64 c.nd, .int .i64 c.sb, .int .i64 c.sp, c.sv] ∧ p_ = [] | 3 => v_ = .int .i64 (outPinI d (pl.getD c.sb.toNat 0) c.sp) ∧ p_ = [] | 4 => v_ = .agg #[.int .i64 d.W, .int .i64 d.H, .int .i64 d.T, .int .i64 d.R] ∧ p_ = [] | 5 => v_ = pv ∧ p_ = [] | 6 => v_ = .agg #[.int .i64 c.nd, .int .i64 c.sb, .int .i64 c.sp, c.sv] ∧ p_ = [] | 7 => (fun v' post => post = [rowE 3 1 v' ((snkL d pl c.ps c.ps.length)).length (((snkL d pl c.ps c.ps.length)).map (Value.int .i64))]) v_ p_ | _ => True) (List.take_append_drop 8 _).symm (by kernel_rfl) (by kernel_rfl) rfl rfl ?_ ?_
 ·
  refine ⟨?_, ?_, ?_, ?_, ?_, ?_, ?_, ?_, trivial⟩
  ·
   intro vf pf hR
   refine Or.inl ⟨rfl, ?_⟩
   refine rq_less (sx 5 rfl (sub_nil _)) (List.sublist_append_right _ _) ?_
   exact rq_v (rv_loadN (cs := [.int .i64 d.W, .int .i64 d.H, .int .i64 d.T, .int .i64 d.R]) rfl (by kernel_rfl) (by kernel_rfl) rfl rfl (box_part 1 rfl 0 rfl))
  ·
   intro vf pf hR
   refine Or.inl ⟨rfl, ?_⟩
   refine rq_less (sx 2 rfl (sub_nil _)) (List.sublist_append_right _ _) ?_
   exact rq_v (rv_ev rfl)
  ·
   intro vf pf hR
   refine Or.inl ⟨rfl, ?_⟩
   refine rq_less (sx 8 rfl (sub_nil _)) (List.sublist_append_right _ _) ?_
   exact rq_v (rv_loadN (cs := [.int .i64 c.nd, .int .i64 c.sb, .int .i64 c.sp, c.sv]) rfl (by kernel_rfl) (by kernel_rfl) rfl rfl (box_part 0 rfl 0 rfl))
  ·
   intro vf pf hR
   have e0 : (vf 0) = .agg #[.int .i64 d.W, .int .i64 d.H, .int .i64 d.T, .int .i64 d.R] ∧ (pf 0) = [] := hR 0 (by decide)
   have e1 : (vf 1) = pv ∧ (pf 1) = [] := hR 1 (by decide)
   have e2 : (vf 2) = .agg #[.int .i64 c.nd, .int .i64 c.sb, .int .i64 c.sp, c.sv] ∧ (pf 2) = [] := hR 2 (by decide)
   refine Or.inl ⟨rfl, ?_⟩
   refine rq_less (sx 23 (congrArg some e0.1) (sx 24 (congrArg some e1.1) (sx 25 (congrArg some e2.1) (sub_nil _)))) (List.sublist_append_right _ _) ?_
   exact (rq_call (by kernel_rfl) rfl (fun w hm => ret_ans (SourceNode_ans d pl _ c w (hpl.below hm.bel) hpn hs hc.one)))
  ·
   intro vf pf hR
   refine Or.inl ⟨rfl, ?_⟩
   refine rq_less (sx 5 rfl (sub_nil _)) (List.sublist_append_right _ _) ?_
   exact rq_v (rv_loadN (cs := [.int .i64 d.W, .int .i64 d.H, .int .i64 d.T, .int .i64 d.R]) rfl (by kernel_rfl) (by kernel_rfl) rfl rfl (box_part 1 rfl 0 rfl))
  ·
   intro vf pf hR
   refine Or.inl ⟨rfl, ?_⟩
   refine rq_less (sx 2 rfl (sub_nil _)) (List.sublist_append_right _ _) ?_
   exact rq_v (rv_ev rfl)
  ·
   intro vf pf hR
   refine Or.inl ⟨rfl, ?_⟩
   refine rq_less (sx 8 rfl (sub_nil _)) (List.sublist_append_right _ _) ?_
   exact rq_v (rv_loadN (cs := [.int .i64 c.nd, .int .i64 c.sb, .int .i64 c.sp, c.sv]) rfl (by kernel_rfl) (by kernel_rfl) rfl rfl (box_part 0 rfl 0 rfl))
  ·
   intro vf pf hR
   have e4 : (vf 4) = .agg #[.int .i64 d.W, .int .i64 d.H, .int .i64 d.T, .int .i64 d.R] ∧ (pf 4) = [] := hR 4 (by decide)
   have e5 : (vf 5) = pv ∧ (pf 5) = [] := hR 5 (by decide)
   have e6 : (vf 6) = .agg #[.int .i64 c.nd, .int .i64 c.sb, .int .i64 c.sp, c.sv] ∧ (pf 6) = [] := hR 6 (by decide)
   refine Or.inl ⟨rfl, ?_⟩
   refine rq_less (sx 27 (congrArg some e4.1) (sx 28 (congrArg some e5.1) (sx 29 (congrArg some e6.1) (sub_nil _)))) (List.sublist_append_right _ _) ?_
   exact rq_call (by kernel_rfl) rfl (fun w hm => SinkNodes_ret d pl _ c w (hpl.below hm.bel) hpn (hc.below hm.bel) hcl.2 hok hin)
 ·
  intro vf pf hR
  have e3 : (vf 3) = .int .i64 (outPinI d (pl.getD c.sb.toNat 0) c.sp) ∧ (pf 3) = [] := hR 3 (by decide)
  have e7 : (fun v' post => post = [rowE 3 1 v' ((snkL d pl c.ps c.ps.length)).length (((snkL d pl c.ps c.ps.length)).map (Value.int .i64))]) (vf 7) (pf 7) := hR 7 (by decide)
  obtain ⟨v3, v7⟩ : ∃ x, vf 7 = x := ⟨_, rfl⟩
  obtain ⟨p4, p7⟩ : ∃ x, pf 7 = x := ⟨_, rfl⟩
  have hR5 := e7
  rw [v7, p7] at hR5
  subst hR5
  have q0 : (vf 0) = .agg #[.int .i64 d.W, .int .i64 d.H, .int .i64 d.T, .int .i64 d.R] ∧ (pf 0) = [] := hR 0 (by decide)
  have q1 : (vf 1) = pv ∧ (pf 1) = [] := hR 1 (by decide)
  have q2 : (vf 2) = .agg #[.int .i64 c.nd, .int .i64 c.sb, .int .i64 c.sp, c.sv] ∧ (pf 2) = [] := hR 2 (by decide)
  have q3 : (vf 3) = .int .i64 (outPinI d (pl.getD c.sb.toNat 0) c.sp) ∧ (pf 3) = [] := hR 3 (by decide)
  have q4 : (vf 4) = .agg #[.int .i64 d.W, .int .i64 d.H, .int .i64 d.T, .int .i64 d.R] ∧ (pf 4) = [] := hR 4 (by decide)
  have q5 : (vf 5) = pv ∧ (pf 5) = [] := hR 5 (by decide)
  have q6 : (vf 6) = .agg #[.int .i64 c.nd, .int .i64 c.sb, .int .i64 c.sp, c.sv] ∧ (pf 6) = [] := hR 6 (by decide)
  refine hl_less (l' := [rowE 3 1 v3 ((snkL d pl c.ps c.ps.length).length) ((snkL d pl c.ps c.ps.length).map (Value.int .i64)), boxE b2 #[.int .i64 c.nd, .int .i64 c.sb, .int .i64 c.sp, c.sv] 33, boxE b1 #[.int .i64 d.W, .int .i64 d.H, .int .i64 d.T, .int .i64 d.R] 25]) (sx 0 rfl (sx 1 rfl (sx 2 rfl (sx 3 rfl (sx 4 rfl (sx 5 rfl (sx 8 rfl (sx 10 rfl (sx 26 (congrArg some e3.1) (sx 30 (congrArg some v7) (sub_nil _))))))))))) (by first | (simp only [p7, v7, q0.2, q1.2, q2.2, q3.2, q4.2, q5.2, q6.2, List.flatMap_cons, List.flatMap_nil, List.append_nil, List.nil_append, List.cons_append]; exact List.Sublist.refl _) | simp [p7, v7, q0.2, q1.2, q2.2, q3.2, q4.2, q5.2, q6.2]) ?_
  simp only [List.drop_succ_cons, List.drop_zero]
  refine hl_v rfl rfl rfl (rv_ev rfl) ?_
  refine hl_v rfl rfl rfl (rv_ev rfl) ?_
  refine hl_less (sx 0 rfl (sx 1 rfl (sx 2 rfl (sx 3 rfl (sx 4 rfl (sx 5 rfl (sx 8 rfl (sx 10 rfl (sx 11 rfl (sx 12 rfl (sub_nil _))))))))))) (.refl _) ?_
  refine hl_nil ?_
  refine hq_then ?_
  refine hc_seq ?_
  refine hc_seq ?_
  refine hc_region ?_
  refine hl_v rfl rfl rfl (rv_ev rfl) ?_
  refine hl_lss rfl rfl rfl rfl rfl rfl (fun h6 => absurd h6 (by omega)) (fun h6 => ?_)
  refine hl_v rfl rfl rfl (rv_ev rfl) ?_
  refine hl_v rfl rfl rfl (rv_ev rfl) ?_
  refine hl_v rfl rfl rfl (rv_eqlNil rfl Try.underlying28 rfl rfl (rd_row 0 rfl) (by omega)) ?_
  refine hl_v rfl rfl rfl (rv_ev rfl) ?_
  refine hl_less (sx 0 rfl (sx 1 rfl (sx 2 rfl (sx 3 rfl (sx 4 rfl (sx 5 rfl (sx 8 rfl (sx 10 rfl (sx 11 rfl (sx 12 rfl (sx 36 rfl (sub_nil _)))))))))))) (.refl _) ?_
  refine hl_nil ?_
  refine hq_then ?_
  refine hc_false rfl ?_
  refine hc_skip ?_
  refine hq_then ?_
  refine hc_seq ?_
  refine hc_region ?_
  refine hl_v rfl rfl rfl (rv_loadN (cs := [.int .i64 d.W, .int .i64 d.H, .int .i64 d.T, .int .i64 d.R]) rfl (by kernel_rfl) (by kernel_rfl) rfl rfl (box_part 2 rfl 0 rfl)) ?_
  refine hl_callV rfl rfl rfl (rq_call (by kernel_rfl) rfl (fun w hm => ret_ans (implrouteNodes_yes d w hd))) ?_
  refine hl_row rfl rfl rfl (rq_make (z := .bool false) (s := 1) (bytes := 1) (n := (List.replicate (allI d).toNat bl0).length) (cs := ((List.replicate (allI d).toNat bl0).flatMap blC)) rfl Try.underlying62 (by kernel_rfl) (by decide) rfl rfl (by first | (rw [List.length_replicate]; done) | (rw [List.length_replicate]; omega)) (by first | (rw [List.length_replicate]; done) | (rw [List.length_replicate]; omega)) (by rw [List.length_replicate]; omega) (made_flat blC 1 (fun _ => rfl) bl0 _ rfl (allI d).toNat)) ?_
  intro g7
  refine hl_v rfl rfl rfl (rv_ev rfl) ?_
  refine hl_less (sx 0 rfl (sx 1 rfl (sx 2 rfl (sx 3 rfl (sx 4 rfl (sx 5 rfl (sx 8 rfl (sx 10 rfl (sx 11 rfl (sx 12 rfl (sx 13 rfl (sx 36 rfl (sub_nil _))))))))))))) (.refl _) ?_
  refine hl_nil ?_
  refine hq_then ?_
  refine hc_seq ?_
  refine hc_seq ?_
  refine hc_region ?_
  refine hl_v rfl rfl rfl (rv_ev rfl) ?_
  refine hl_v rfl rfl rfl (rv_len rfl Try.underlying28 rfl (rd_old hwv)) ?_
  refine hl_v rfl rfl rfl (rv_ev rfl) ?_
  refine hl_less (sx 0 rfl (sx 1 rfl (sx 2 rfl (sx 3 rfl (sx 4 rfl (sx 5 rfl (sx 8 rfl (sx 10 rfl (sx 11 rfl (sx 12 rfl (sx 13 rfl (sx 36 rfl (sx 40 rfl (sx 41 rfl (sx 42 rfl (sub_nil _)))))))))))))))) (.refl _) ?_
  refine hl_nil ?_
  refine hq_then ?_
  refine hc_block ?_
  refine hc_loop2 (α := Nat) (β := List Bl) (fun i bs => [rowE 4 1 (.slice (some ⟨g7, 0, none⟩) ((List.replicate (allI d).toNat bl0).length) ((List.replicate (allI d).toNat bl0).length)) bs.length (bs.flatMap blC), rowE 3 1 v3 ((snkL d pl c.ps c.ps.length).length) ((snkL d pl c.ps c.ps.length).map (Value.int .i64)), boxE b2 #[.int .i64 c.nd, .int .i64 c.sb, .int .i64 c.sp, c.sv] 33, boxE b1 #[.int .i64 d.W, .int .i64 d.H, .int .i64 d.T, .int .i64 d.R] 25]) (fun i bs => [(0, .agg #[.int .i64 d.W, .int .i64 d.H, .int .i64 d.T, .int .i64 d.R]), (1, .pointer (some ⟨b, 0, none⟩)), (2, pv), (3, .agg #[.int .i64 c.nd, .int .i64 c.sb, .int .i64 c.sp, c.sv]), (4, wv), (5, .pointer (some ⟨b1, 0, none⟩)), (8, .pointer (some ⟨b2, 0, none⟩)), (10, .bool false), (11, .int .i64 (outPinI d (pl.getD c.sb.toNat 0) c.sp)), (12, v3), (13, .slice (some ⟨g7, 0, none⟩) ((List.replicate (allI d).toNat bl0).length) ((List.replicate (allI d).toNat bl0).length)), (36, .bool false), (40, wv), (41, .int .i64 (ws.length : Int)), (42, .int .i64 (i : Int))]) (fun i bs => i ≤ ws.length ∧ WsM (allI d).toNat ws i bs) (fun i bs => ws.length - i) 0 (List.replicate (allI d).toNat bl0) ⟨by omega, wsm_start _ _⟩ (sx 0 rfl (sx 1 rfl (sx 2 rfl (sx 3 rfl (sx 4 rfl (sx 5 rfl (sx 8 rfl (sx 10 rfl (sx 11 rfl (sx 12 rfl (sx 13 rfl (sx 36 rfl (sx 40 rfl (sx 41 rfl (sx 42 rfl (sub_nil _)))))))))))))))) ((.cons_cons _ (.cons_cons _ (.cons_cons _ (.cons_cons _ .slnil))))) ?_
  intro i bs hi8
  obtain ⟨hi, hwm⟩ := hi8
  have hbl := hwm.len
  refine hc_seq ?_
  refine hc_region ?_
  refine hl_lss rfl rfl rfl rfl rfl rfl (fun h9 => ?_) (fun h9 => ?_)
  ·
   refine hl_less (sx 0 rfl (sx 1 rfl (sx 2 rfl (sx 3 rfl (sx 4 rfl (sx 5 rfl (sx 8 rfl (sx 10 rfl (sx 11 rfl (sx 12 rfl (sx 13 rfl (sx 36 rfl (sx 40 rfl (sx 41 rfl (sx 42 rfl (sx 43 rfl (sub_nil _))))))))))))))))) (.refl _) ?_
   refine hl_nil ?_
   refine hq_then ?_
   refine hc_seq ?_
   refine hc_true rfl ?_
   refine hc_skip ?_
   refine hq_then ?_
   refine hc_seq ?_
   refine hc_block ?_
   refine hc_seq ?_
   refine hc_region ?_
   refine hl_v rfl rfl rfl (rv_index (s := 1) rfl Try.underlying28 (by kernel_rfl) rfl rfl (rd_old hwv) (by omega) (by first | omega | (simp only [List.length_set]; omega))) ?_
   refine hl_v rfl rfl rfl (rv_loadEl (u := .int .i64 (ws.getD i 0)) rfl (by kernel_rfl) rfl (rd_old hwv) (ints_at1 (show _ < ws.length by first | omega | (simp only [List.length_set]; omega)))) ?_
   refine hl_v rfl rfl rfl (rv_ev rfl) ?_
   refine hl_less (sx 0 rfl (sx 1 rfl (sx 2 rfl (sx 3 rfl (sx 4 rfl (sx 5 rfl (sx 8 rfl (sx 10 rfl (sx 11 rfl (sx 12 rfl (sx 13 rfl (sx 15 rfl (sx 36 rfl (sx 40 rfl (sx 41 rfl (sx 42 rfl (sx 43 rfl (sub_nil _)))))))))))))))))) (.refl _) ?_
   refine hl_nil ?_
   refine hq_then ?_
   refine hc_region ?_
   obtain ⟨hw0, hw1, hw2⟩ := hws (ws.getD i 0) (getD_memZ (by omega))
   refine hl_v rfl rfl rfl (rv_ev rfl) ?_
   refine hl_v rfl rfl rfl (rv_ev rfl) ?_
   refine hl_v rfl rfl rfl (rv_index (s := 1) rfl Try.underlying62 (by kernel_rfl) rfl rfl (rd_row 0 rfl) (by omega) (by first | omega | (simp only [List.length_set]; omega))) ?_
   refine hl_storeEl (i := 0) (n' := (bs.set ((ws.getD i 0).toNat) { bs.getD ((ws.getD i 0).toNat) bl0 with b := true }).length) (xs' := ((bs.set ((ws.getD i 0).toNat) { bs.getD ((ws.getD i 0).toNat) bl0 with b := true }).flatMap blC)) (l' := [rowE 4 1 (.slice (some ⟨g7, 0, none⟩) ((List.replicate (allI d).toNat bl0).length) ((List.replicate (allI d).toNat bl0).length)) ((bs.set ((ws.getD i 0).toNat) { bs.getD ((ws.getD i 0).toNat) bl0 with b := true }).length) ((bs.set ((ws.getD i 0).toNat) { bs.getD ((ws.getD i 0).toNat) bl0 with b := true }).flatMap blC), rowE 3 1 v3 ((snkL d pl c.ps c.ps.length).length) ((snkL d pl c.ps c.ps.length).map (Value.int .i64)), boxE b2 #[.int .i64 c.nd, .int .i64 c.sb, .int .i64 c.sp, c.sv] 33, boxE b1 #[.int .i64 d.W, .int .i64 d.H, .int .i64 d.T, .int .i64 d.R] 25]) rfl rfl rfl (by kernel_rfl) rfl rfl rfl rfl (by first | omega | (simp only [List.length_set]; omega)) List.length_set.symm (flat_set1 blC (fun r => .bool r.b) (fun _ => rfl) _ ({ bs.getD ((ws.getD i 0).toNat) bl0 with b := true }) rfl) rfl ?_
   refine hl_less (sx 0 rfl (sx 1 rfl (sx 2 rfl (sx 3 rfl (sx 4 rfl (sx 5 rfl (sx 8 rfl (sx 10 rfl (sx 11 rfl (sx 12 rfl (sx 13 rfl (sx 15 rfl (sx 36 rfl (sx 40 rfl (sx 41 rfl (sx 42 rfl (sx 43 rfl (sub_nil _)))))))))))))))))) (.refl _) ?_
   refine hl_nil ?_
   refine hq_block_normal ?_
   refine hq_then ?_
   refine hc_region ?_
   refine hl_v rfl rfl rfl (rv_add rfl rfl rfl (by constructor <;> omega)) ?_
   refine hl_v rfl rfl rfl (rv_ev rfl) ?_
   refine hl_less (sx 0 rfl (sx 1 rfl (sx 2 rfl (sx 3 rfl (sx 4 rfl (sx 5 rfl (sx 8 rfl (sx 10 rfl (sx 11 rfl (sx 12 rfl (sx 13 rfl (sx 15 rfl (sx 36 rfl (sx 40 rfl (sx 41 rfl (sx 42 rfl (sx 43 rfl (sub_nil _)))))))))))))))))) (.refl _) ?_
   refine hl_nil ?_
   exact hq_round2 (i + 1) (bs.set ((ws.getD i 0).toNat) { bs.getD ((ws.getD i 0).toNat) bl0 with b := true }) ⟨by omega, hwm.more (by omega) (by omega) rfl⟩ (by omega) (sx 0 rfl (sx 1 rfl (sx 2 rfl (sx 3 rfl (sx 4 rfl (sx 5 rfl (sx 8 rfl (sx 10 rfl (sx 11 rfl (sx 12 rfl (sx 13 rfl (sx 36 rfl (sx 40 rfl (sx 41 rfl (sx 42 rfl (sub_nil _)))))))))))))))) ((.cons_cons _ (.cons_cons _ (.cons_cons _ (.cons_cons _ .slnil)))))
  ·
   refine hl_less (sx 0 rfl (sx 1 rfl (sx 2 rfl (sx 3 rfl (sx 4 rfl (sx 5 rfl (sx 8 rfl (sx 10 rfl (sx 11 rfl (sx 12 rfl (sx 13 rfl (sx 36 rfl (sx 40 rfl (sx 41 rfl (sx 42 rfl (sx 43 rfl (sub_nil _))))))))))))))))) (.refl _) ?_
   refine hl_nil ?_
   refine hq_then ?_
   refine hc_seq ?_
   refine hc_false rfl ?_
   refine hc_exit ?_
   refine hq_then_exit ?_
   refine hq_then_exit ?_
   refine hq_block_exit ?_
   refine hq_then ?_
   refine hc_seq ?_
   refine hc_region ?_
   refine hl_row rfl rfl rfl (rq_slice0 (s := 1) rfl Try.underlying62 (by kernel_rfl)) ?_
   intro g10
   refine hl_v rfl rfl rfl (rv_ev rfl) ?_
   refine hl_append (i := 0) (z := .bool false) (bytes := 1) (n' := bs.length) (xs' := (bs.flatMap blC)) (L := fun v11 => [rowE 4 1 v11 bs.length (bs.flatMap blC), rowE 4 1 (.slice (some ⟨g7, 0, none⟩) ((List.replicate (allI d).toNat bl0).length) ((List.replicate (allI d).toNat bl0).length)) bs.length (bs.flatMap blC), rowE 3 1 v3 ((snkL d pl c.ps c.ps.length).length) ((snkL d pl c.ps c.ps.length).map (Value.int .i64)), boxE b2 #[.int .i64 c.nd, .int .i64 c.sb, .int .i64 c.sp, c.sv] 33, boxE b1 #[.int .i64 d.W, .int .i64 d.H, .int .i64 d.T, .int .i64 d.R] 25]) rfl rfl rfl rfl Try.underlying62 (by kernel_rfl) (by kernel_rfl) rfl rfl rfl (rd_row 1 rfl) (flat_ones blC bs (fun r u hu => by simp [blC] at hu; subst hu; rfl)) (by omega) (Nat.zero_add _) (List.nil_append _) (fun _ => rfl) ?_
   intro v11
   refine hl_v rfl rfl rfl (rv_ev rfl) ?_
   refine hl_less (sx 0 rfl (sx 1 rfl (sx 2 rfl (sx 3 rfl (sx 4 rfl (sx 5 rfl (sx 8 rfl (sx 10 rfl (sx 11 rfl (sx 12 rfl (sx 13 rfl (sx 16 rfl (sx 36 rfl (sx 40 rfl (sx 41 rfl (sx 42 rfl (sx 43 rfl (sub_nil _)))))))))))))))))) (.refl _) ?_
   refine hl_nil ?_
   refine hq_then ?_
   refine hc_seq ?_
   refine hc_region ?_
   refine hl_v rfl rfl rfl (rv_ev rfl) ?_
   refine hl_v rfl rfl rfl (rv_ev rfl) ?_
   refine hl_v rfl rfl rfl (rv_index (s := 1) rfl Try.underlying62 (by kernel_rfl) rfl rfl (rd_row 1 rfl) (by omega) (by first | omega | (simp only [List.length_set]; omega))) ?_
   refine hl_storeEl (i := 1) (n' := (bs.set (((outPinI d (pl.getD c.sb.toNat 0) c.sp)).toNat) { bs.getD (((outPinI d (pl.getD c.sb.toNat 0) c.sp)).toNat) bl0 with b := true }).length) (xs' := ((bs.set (((outPinI d (pl.getD c.sb.toNat 0) c.sp)).toNat) { bs.getD (((outPinI d (pl.getD c.sb.toNat 0) c.sp)).toNat) bl0 with b := true }).flatMap blC)) (l' := [rowE 4 1 v11 bs.length (bs.flatMap blC), rowE 4 1 (.slice (some ⟨g7, 0, none⟩) ((List.replicate (allI d).toNat bl0).length) ((List.replicate (allI d).toNat bl0).length)) ((bs.set (((outPinI d (pl.getD c.sb.toNat 0) c.sp)).toNat) { bs.getD (((outPinI d (pl.getD c.sb.toNat 0) c.sp)).toNat) bl0 with b := true }).length) ((bs.set (((outPinI d (pl.getD c.sb.toNat 0) c.sp)).toNat) { bs.getD (((outPinI d (pl.getD c.sb.toNat 0) c.sp)).toNat) bl0 with b := true }).flatMap blC), rowE 3 1 v3 ((snkL d pl c.ps c.ps.length).length) ((snkL d pl c.ps c.ps.length).map (Value.int .i64)), boxE b2 #[.int .i64 c.nd, .int .i64 c.sb, .int .i64 c.sp, c.sv] 33, boxE b1 #[.int .i64 d.W, .int .i64 d.H, .int .i64 d.T, .int .i64 d.R] 25]) rfl rfl rfl (by kernel_rfl) rfl rfl rfl rfl (by first | omega | (simp only [List.length_set]; omega)) List.length_set.symm (flat_set1 blC (fun r => .bool r.b) (fun _ => rfl) _ ({ bs.getD (((outPinI d (pl.getD c.sb.toNat 0) c.sp)).toNat) bl0 with b := true }) rfl) rfl ?_
   refine hl_less (sx 0 rfl (sx 1 rfl (sx 2 rfl (sx 3 rfl (sx 4 rfl (sx 5 rfl (sx 8 rfl (sx 10 rfl (sx 11 rfl (sx 12 rfl (sx 13 rfl (sx 16 rfl (sx 36 rfl (sx 40 rfl (sx 41 rfl (sx 42 rfl (sx 43 rfl (sub_nil _)))))))))))))))))) (.refl _) ?_
   refine hl_nil ?_
   refine hq_then ?_
   refine hc_seq ?_
   refine hc_region ?_
   refine hl_v rfl rfl rfl (rv_ev rfl) ?_
   refine hl_row rfl rfl rfl (rq_buildSlice (z := .int .i64 0) (s := 1) (cs := ([(outPinI d (pl.getD c.sb.toNat 0) c.sp)].map (Value.int .i64))) rfl Try.underlying28 (by kernel_rfl) (by decide) rfl (by kernel_rfl) rfl) ?_
   intro g12
   refine hl_v rfl rfl rfl (rv_ev rfl) ?_
   refine hl_less (sx 0 rfl (sx 1 rfl (sx 2 rfl (sx 3 rfl (sx 4 rfl (sx 5 rfl (sx 8 rfl (sx 10 rfl (sx 11 rfl (sx 12 rfl (sx 13 rfl (sx 16 rfl (sx 17 rfl (sx 36 rfl (sx 40 rfl (sx 41 rfl (sx 42 rfl (sx 43 rfl (sub_nil _))))))))))))))))))) (.refl _) ?_
   refine hl_nil ?_
   refine hq_then ?_
   refine hc_seq ?_
   refine hc_block ?_
   refine hc_conv [rowE 3 1 (.slice (some ⟨g12, 0, none⟩) 1 1) 1 ([(outPinI d (pl.getD c.sb.toNat 0) c.sp)].map (Value.int .i64)), rowE 4 1 v11 bs.length (bs.flatMap blC), rowE 4 1 (.slice (some ⟨g7, 0, none⟩) ((List.replicate (allI d).toNat bl0).length) ((List.replicate (allI d).toNat bl0).length)) ((bs.set (((outPinI d (pl.getD c.sb.toNat 0) c.sp)).toNat) { bs.getD (((outPinI d (pl.getD c.sb.toNat 0) c.sp)).toNat) bl0 with b := true }).length) ((bs.set (((outPinI d (pl.getD c.sb.toNat 0) c.sp)).toNat) { bs.getD (((outPinI d (pl.getD c.sb.toNat 0) c.sp)).toNat) bl0 with b := true }).flatMap blC), rowE 3 1 v3 ((snkL d pl c.ps c.ps.length).length) ((snkL d pl c.ps c.ps.length).map (Value.int .i64)), boxE b2 #[.int .i64 c.nd, .int .i64 c.sb, .int .i64 c.sp, c.sv] 33, boxE b1 #[.int .i64 d.W, .int .i64 d.H, .int .i64 d.T, .int .i64 d.R] 25] (conv_pick (src := [rowE 3 1 (.slice (some ⟨g12, 0, none⟩) 1 1) 1 ([(outPinI d (pl.getD c.sb.toNat 0) c.sp)].map (Value.int .i64)), rowE 4 1 v11 bs.length (bs.flatMap blC), rowE 4 1 (.slice (some ⟨g7, 0, none⟩) ((List.replicate (allI d).toNat bl0).length) ((List.replicate (allI d).toNat bl0).length)) ((bs.set (((outPinI d (pl.getD c.sb.toNat 0) c.sp)).toNat) { bs.getD (((outPinI d (pl.getD c.sb.toNat 0) c.sp)).toNat) bl0 with b := true }).length) ((bs.set (((outPinI d (pl.getD c.sb.toNat 0) c.sp)).toNat) { bs.getD (((outPinI d (pl.getD c.sb.toNat 0) c.sp)).toNat) bl0 with b := true }).flatMap blC), rowE 3 1 v3 ((snkL d pl c.ps c.ps.length).length) ((snkL d pl c.ps c.ps.length).map (Value.int .i64)), boxE b2 #[.int .i64 c.nd, .int .i64 c.sb, .int .i64 c.sp, c.sv] 33, boxE b1 #[.int .i64 d.W, .int .i64 d.H, .int .i64 d.T, .int .i64 d.R] 25]) (dst := [rowE 3 1 (.slice (some ⟨g12, 0, none⟩) 1 1) 1 ([(outPinI d (pl.getD c.sb.toNat 0) c.sp)].map (Value.int .i64)), rowE 4 1 v11 bs.length (bs.flatMap blC), rowE 4 1 (.slice (some ⟨g7, 0, none⟩) ((List.replicate (allI d).toNat bl0).length) ((List.replicate (allI d).toNat bl0).length)) ((bs.set (((outPinI d (pl.getD c.sb.toNat 0) c.sp)).toNat) { bs.getD (((outPinI d (pl.getD c.sb.toNat 0) c.sp)).toNat) bl0 with b := true }).length) ((bs.set (((outPinI d (pl.getD c.sb.toNat 0) c.sp)).toNat) { bs.getD (((outPinI d (pl.getD c.sb.toNat 0) c.sp)).toNat) bl0 with b := true }).flatMap blC), rowE 3 1 v3 ((snkL d pl c.ps c.ps.length).length) ((snkL d pl c.ps c.ps.length).map (Value.int .i64)), boxE b2 #[.int .i64 c.nd, .int .i64 c.sb, .int .i64 c.sp, c.sv] 33, boxE b1 #[.int .i64 d.W, .int .i64 d.H, .int .i64 d.T, .int .i64 d.R] 25]) (l := []) [0, 1, 2, 3, 4, 5] (by decide) rfl) ?_
   refine hc_conv [rowQ 3 (.slice (some ⟨g12, 0, none⟩) 1 1) (([(outPinI d (pl.getD c.sb.toNat 0) c.sp)]).length) (([(outPinI d (pl.getD c.sb.toNat 0) c.sp)]).map (Value.int .i64)), rowE 4 1 v11 bs.length (bs.flatMap blC), rowE 4 1 (.slice (some ⟨g7, 0, none⟩) ((List.replicate (allI d).toNat bl0).length) ((List.replicate (allI d).toNat bl0).length)) ((bs.set (((outPinI d (pl.getD c.sb.toNat 0) c.sp)).toNat) { bs.getD (((outPinI d (pl.getD c.sb.toNat 0) c.sp)).toNat) bl0 with b := true }).length) ((bs.set (((outPinI d (pl.getD c.sb.toNat 0) c.sp)).toNat) { bs.getD (((outPinI d (pl.getD c.sb.toNat 0) c.sp)).toNat) bl0 with b := true }).flatMap blC), rowE 3 1 v3 ((snkL d pl c.ps c.ps.length).length) ((snkL d pl c.ps c.ps.length).map (Value.int .i64)), boxE b2 #[.int .i64 c.nd, .int .i64 c.sb, .int .i64 c.sp, c.sv] 33, boxE b1 #[.int .i64 d.W, .int .i64 d.H, .int .i64 d.T, .int .i64 d.R] 25] (fun w hm => Mem.toQ (by simp) hm) ?_
   have hbm : ∀ x : Int, 0 ≤ x → x < ((allI d).toNat : Int) → ((bs.getD x.toNat bl0).b = true ↔ x ∈ ws) := fun x x0 x1 => by have h9 := hwm.mks x x0 x1; rwa [show i = ws.length by omega, List.take_length] at h9
   have hsf : (bs.getD (outPinI d (pl.getD c.sb.toNat 0) c.sp).toNat bl0).b = false := by rw [Bool.eq_false_iff]; intro h9; exact hso.2.2 ((hbm (outPinI d (pl.getD c.sb.toNat 0) c.sp) hso.1 (by omega)).1 h9)
   have hcs0 := cntF_set bs (outPinI d (pl.getD c.sb.toNat 0) c.sp).toNat { bs.getD (((outPinI d (pl.getD c.sb.toNat 0) c.sp)).toNat) bl0 with b := true } (by omega) hsf rfl
   have hcl0 := cntF_le bs
   refine hc_loop3 (α := Value) (β := List Int) (γ := List Bl) (fun u td bs2 => [rowQ 3 u td.length (td.map (Value.int .i64)), rowE 4 1 v11 bs.length (bs.flatMap blC), rowE 4 1 (.slice (some ⟨g7, 0, none⟩) ((List.replicate (allI d).toNat bl0).length) ((List.replicate (allI d).toNat bl0).length)) bs2.length (bs2.flatMap blC), rowE 3 1 v3 ((snkL d pl c.ps c.ps.length).length) ((snkL d pl c.ps c.ps.length).map (Value.int .i64)), boxE b2 #[.int .i64 c.nd, .int .i64 c.sb, .int .i64 c.sp, c.sv] 33, boxE b1 #[.int .i64 d.W, .int .i64 d.H, .int .i64 d.T, .int .i64 d.R] 25]) (fun u td bs2 => [(0, .agg #[.int .i64 d.W, .int .i64 d.H, .int .i64 d.T, .int .i64 d.R]), (1, .pointer (some ⟨b, 0, none⟩)), (2, pv), (3, .agg #[.int .i64 c.nd, .int .i64 c.sb, .int .i64 c.sp, c.sv]), (4, wv), (5, .pointer (some ⟨b1, 0, none⟩)), (8, .pointer (some ⟨b2, 0, none⟩)), (10, .bool false), (11, .int .i64 (outPinI d (pl.getD c.sb.toNat 0) c.sp)), (12, v3), (13, .slice (some ⟨g7, 0, none⟩) ((List.replicate (allI d).toNat bl0).length) ((List.replicate (allI d).toNat bl0).length)), (16, v11), (17, u), (36, .bool false), (40, wv), (41, .int .i64 (ws.length : Int)), (43, .bool false)]) (fun u td bs2 => SepInv d (allI d).toNat ws (outPinI d (pl.getD c.sb.toNat 0) c.sp) bs2 td ∧ td.length + cntF bs2 ≤ (allI d).toNat) (fun u td bs2 => td.length + cntF bs2) (.slice (some ⟨g12, 0, none⟩) 1 1) [(outPinI d (pl.getD c.sb.toNat 0) c.sp)] (bs.set (((outPinI d (pl.getD c.sb.toNat 0) c.sp)).toNat) { bs.getD (((outPinI d (pl.getD c.sb.toNat 0) c.sp)).toNat) bl0 with b := true }) ⟨sep_start rfl (fun x hx => by have h9 := hws x hx; omega) hbl hbm hso.1 (by omega) hso.2.2, by (try dsimp only); (try dsimp only at hcs0); simp only [List.length_cons, List.length_nil]; omega⟩ (sx 0 rfl (sx 1 rfl (sx 2 rfl (sx 3 rfl (sx 4 rfl (sx 5 rfl (sx 8 rfl (sx 10 rfl (sx 11 rfl (sx 12 rfl (sx 13 rfl (sx 16 rfl (sx 17 rfl (sx 36 rfl (sx 40 rfl (sx 41 rfl (sx 43 rfl (sub_nil _)))))))))))))))))) ((.cons_cons _ (.cons_cons _ (.cons_cons _ (.cons_cons _ (.cons_cons _ (.cons_cons _ .slnil))))))) ?_
   intro u td bs2 hi13
   obtain ⟨hsi, hct⟩ := hi13
   have hbl2 := hsi.len
   refine hc_seq ?_
   refine hc_seq ?_
   refine hc_region ?_
   refine hl_v rfl rfl rfl (rv_ev rfl) ?_
   refine hl_v rfl rfl rfl (rv_len rfl Try.underlying28 rfl (rd_Q 0 rfl)) ?_
   refine hl_gtr rfl rfl rfl rfl rfl rfl (fun h14 => ?_) (fun h14 => ?_)
   ·
    refine hl_less (sx 0 rfl (sx 1 rfl (sx 2 rfl (sx 3 rfl (sx 4 rfl (sx 5 rfl (sx 8 rfl (sx 10 rfl (sx 11 rfl (sx 12 rfl (sx 13 rfl (sx 16 rfl (sx 17 rfl (sx 36 rfl (sx 40 rfl (sx 41 rfl (sx 43 rfl (sx 60 rfl (sub_nil _))))))))))))))))))) (.refl _) ?_
    refine hl_nil ?_
    refine hq_then ?_
    refine hc_true rfl ?_
    refine hc_skip ?_
    refine hq_then ?_
    refine hc_block ?_
    refine hc_seq ?_
    refine hc_region ?_
    refine hl_v rfl rfl rfl (rv_ev rfl) ?_
    refine hl_v rfl rfl rfl (rv_index (s := 1) rfl Try.underlying28 (by kernel_rfl) rfl rfl (rd_Q 0 rfl) (by omega) (by first | omega | (simp only [List.length_set]; omega))) ?_
    refine hl_v rfl rfl rfl (rv_loadEl (u := .int .i64 (td.getD 0 0)) rfl (by kernel_rfl) rfl (rd_Q 0 rfl) (ints_at1 (show _ < td.length by first | omega | (simp only [List.length_set]; omega)))) ?_
    refine hl_v rfl rfl rfl (rv_ev rfl) ?_
    refine hl_less (sx 0 rfl (sx 1 rfl (sx 2 rfl (sx 3 rfl (sx 4 rfl (sx 5 rfl (sx 8 rfl (sx 10 rfl (sx 11 rfl (sx 12 rfl (sx 13 rfl (sx 16 rfl (sx 17 rfl (sx 18 rfl (sx 36 rfl (sx 40 rfl (sx 41 rfl (sx 43 rfl (sx 60 rfl (sub_nil _)))))))))))))))))))) (.refl _) ?_
    refine hl_nil ?_
    refine hq_then ?_
    refine hc_seq ?_
    refine hc_region ?_
    obtain ⟨⟨⟨hx0, hx1⟩, hxw⟩, hxs⟩ := hsi.tdo (td.getD 0 0) (getD_memZ (by omega))
    refine hl_v rfl rfl rfl (rv_ev rfl) ?_
    refine hl_v rfl rfl rfl (rv_slL rfl Try.underlying28 (by kernel_rfl) rfl rfl (rd_Q 0 rfl) (by omega) (by omega)) ?_
    refine hl_v rfl rfl rfl (rv_ev rfl) ?_
    refine hl_less (sx 0 rfl (sx 1 rfl (sx 2 rfl (sx 3 rfl (sx 4 rfl (sx 5 rfl (sx 8 rfl (sx 10 rfl (sx 11 rfl (sx 12 rfl (sx 13 rfl (sx 16 rfl (sx 17 rfl (sx 18 rfl (sx 36 rfl (sx 40 rfl (sx 41 rfl (sx 43 rfl (sx 60 rfl (sub_nil _)))))))))))))))))))) (.refl _) ?_
    refine hl_nil ?_
    refine hq_then ?_
    refine hc_seq ?_
    refine hc_region ?_
    refine hl_conv [rowQ 3 u td.length (td.map (Value.int .i64)), rowE 4 1 v11 bs.length (bs.flatMap blC), rowE 4 1 (.slice (some ⟨g7, 0, none⟩) ((List.replicate (allI d).toNat bl0).length) ((List.replicate (allI d).toNat bl0).length)) bs2.length (bs2.flatMap blC), rowE 3 1 v3 ((snkL d pl c.ps c.ps.length).length) ((snkL d pl c.ps c.ps.length).map (Value.int .i64)), boxE b2 #[.int .i64 c.nd, .int .i64 c.sb, .int .i64 c.sp, c.sv] 33, boxE b1 #[.int .i64 d.W, .int .i64 d.H, .int .i64 d.T, .int .i64 d.R] 25] (conv_pick (src := [rowQ 3 u td.length (td.map (Value.int .i64)), rowE 4 1 v11 bs.length (bs.flatMap blC), rowE 4 1 (.slice (some ⟨g7, 0, none⟩) ((List.replicate (allI d).toNat bl0).length) ((List.replicate (allI d).toNat bl0).length)) bs2.length (bs2.flatMap blC), rowE 3 1 v3 ((snkL d pl c.ps c.ps.length).length) ((snkL d pl c.ps c.ps.length).map (Value.int .i64)), boxE b2 #[.int .i64 c.nd, .int .i64 c.sb, .int .i64 c.sp, c.sv] 33, boxE b1 #[.int .i64 d.W, .int .i64 d.H, .int .i64 d.T, .int .i64 d.R] 25]) (dst := [rowQ 3 u td.length (td.map (Value.int .i64)), rowE 4 1 v11 bs.length (bs.flatMap blC), rowE 4 1 (.slice (some ⟨g7, 0, none⟩) ((List.replicate (allI d).toNat bl0).length) ((List.replicate (allI d).toNat bl0).length)) bs2.length (bs2.flatMap blC), rowE 3 1 v3 ((snkL d pl c.ps c.ps.length).length) ((snkL d pl c.ps c.ps.length).map (Value.int .i64)), boxE b2 #[.int .i64 c.nd, .int .i64 c.sb, .int .i64 c.sp, c.sv] 33, boxE b1 #[.int .i64 d.W, .int .i64 d.H, .int .i64 d.T, .int .i64 d.R] 25]) (l := []) [0, 1, 2, 3, 4, 5] (by decide) rfl) ?_
    refine hl_conv [rowQ 3 (slV u (1 : Int).toNat td.length 1) ((td.drop 1).length) ((td.drop 1).map (Value.int .i64)), rowE 4 1 v11 bs.length (bs.flatMap blC), rowE 4 1 (.slice (some ⟨g7, 0, none⟩) ((List.replicate (allI d).toNat bl0).length) ((List.replicate (allI d).toNat bl0).length)) bs2.length (bs2.flatMap blC), rowE 3 1 v3 ((snkL d pl c.ps c.ps.length).length) ((snkL d pl c.ps c.ps.length).map (Value.int .i64)), boxE b2 #[.int .i64 c.nd, .int .i64 c.sb, .int .i64 c.sp, c.sv] 33, boxE b1 #[.int .i64 d.W, .int .i64 d.H, .int .i64 d.T, .int .i64 d.R] 25] (fun w hm => Mem.tailI (by omega) hm) ?_
    have hkl := hgk.ks.len
    have hkz := hgk.ks.sz ((td.getD 0 0).toNat) (by omega)
    refine hl_v rfl rfl rfl (rv_ev rfl) ?_
    refine hl_v rfl rfl rfl (rv_nilCheck rfl rfl) ?_
    refine hl_v rfl rfl rfl (rv_field (k0 := 1) rfl (by kernel_rfl) rfl) ?_
    refine hl_v rfl rfl rfl (rv_load rfl (by kernel_rfl) rfl (fun w hm => (hm.bel.cell (p := ⟨b, 0 + 1, none⟩) hg.lt).trans hg.c1)) ?_
    refine hl_v rfl rfl rfl (rv_ev rfl) ?_
    refine hl_v rfl rfl rfl (rv_index (s := 1) rfl Try.underlying63 (by kernel_rfl) rfl rfl (fun w hm => (hg.ks.below hm.bel).row) (by omega) (by first | omega | (simp only [List.length_set]; omega))) ?_
    refine hl_v rfl rfl rfl (rv_loadEl (u := (g.ks.getD ((td.getD 0 0).toNat) ir0).v) rfl (by kernel_rfl) rfl (fun w hm => (hg.ks.below hm.bel).row) (flat_one irC (fun r => r.v) (fun _ => rfl) g.ks ir0 (show (td.getD 0 0).toNat < _ by first | omega | (simp only [List.length_set]; omega)))) ?_
    refine hl_v rfl rfl rfl (rv_len rfl Try.underlying28 rfl (fun w hm => (hg.ks.at (k := (td.getD 0 0).toNat) (by omega)).below hm.bel)) ?_
    refine hl_v rfl rfl rfl (rv_ev rfl) ?_
    refine hl_less (sx 0 rfl (sx 1 rfl (sx 2 rfl (sx 3 rfl (sx 4 rfl (sx 5 rfl (sx 8 rfl (sx 10 rfl (sx 11 rfl (sx 12 rfl (sx 13 rfl (sx 16 rfl (sx 17 rfl (sx 18 rfl (sx 36 rfl (sx 40 rfl (sx 41 rfl (sx 43 rfl (sx 60 rfl (sx 72 rfl (sx 73 rfl (sx 74 rfl (sub_nil _))))))))))))))))))))))) (.refl _) ?_
    refine hl_nil ?_
    refine hq_then ?_
    refine hc_block ?_
    refine hc_loop4 (α := Nat) (β := Value) (γ := List Int) (δ := List Bl) (fun j u2 td2 bs3 => [rowQ 3 u2 td2.length (td2.map (Value.int .i64)), rowE 4 1 v11 bs.length (bs.flatMap blC), rowE 4 1 (.slice (some ⟨g7, 0, none⟩) ((List.replicate (allI d).toNat bl0).length) ((List.replicate (allI d).toNat bl0).length)) bs3.length (bs3.flatMap blC), rowE 3 1 v3 ((snkL d pl c.ps c.ps.length).length) ((snkL d pl c.ps c.ps.length).map (Value.int .i64)), boxE b2 #[.int .i64 c.nd, .int .i64 c.sb, .int .i64 c.sp, c.sv] 33, boxE b1 #[.int .i64 d.W, .int .i64 d.H, .int .i64 d.T, .int .i64 d.R] 25]) (fun j u2 td2 bs3 => [(0, .agg #[.int .i64 d.W, .int .i64 d.H, .int .i64 d.T, .int .i64 d.R]), (1, .pointer (some ⟨b, 0, none⟩)), (2, pv), (3, .agg #[.int .i64 c.nd, .int .i64 c.sb, .int .i64 c.sp, c.sv]), (4, wv), (5, .pointer (some ⟨b1, 0, none⟩)), (8, .pointer (some ⟨b2, 0, none⟩)), (10, .bool false), (11, .int .i64 (outPinI d (pl.getD c.sb.toNat 0) c.sp)), (12, v3), (13, .slice (some ⟨g7, 0, none⟩) ((List.replicate (allI d).toNat bl0).length) ((List.replicate (allI d).toNat bl0).length)), (16, v11), (17, u2), (18, .int .i64 (td.getD 0 0)), (36, .bool false), (40, wv), (41, .int .i64 (ws.length : Int)), (43, .bool false), (60, .bool true), (72, (g.ks.getD ((td.getD 0 0).toNat) ir0).v), (73, .int .i64 (((g.ks.getD ((td.getD 0 0).toNat) ir0).xs).length : Int)), (74, .int .i64 (j : Int))]) (fun j u2 td2 bs3 => j ≤ (g.ks.getD ((td.getD 0 0).toNat) ir0).xs.length ∧ (bs3.getD ((td.getD 0 0).toNat) bl0).b = true ∧ SepInv d (allI d).toNat ws (outPinI d (pl.getD c.sb.toNat 0) c.sp) bs3 td2 ∧ td2.length + cntF bs3 + 1 = td.length + cntF bs2) (fun j u2 td2 bs3 => (g.ks.getD ((td.getD 0 0).toNat) ir0).xs.length - j) 0 (slV u (1 : Int).toNat td.length 1) (td.drop 1) bs2 ⟨by omega, hxs, hsi.tail, by rw [List.length_drop]; omega⟩ (sx 0 rfl (sx 1 rfl (sx 2 rfl (sx 3 rfl (sx 4 rfl (sx 5 rfl (sx 8 rfl (sx 10 rfl (sx 11 rfl (sx 12 rfl (sx 13 rfl (sx 16 rfl (sx 17 rfl (sx 18 rfl (sx 36 rfl (sx 40 rfl (sx 41 rfl (sx 43 rfl (sx 60 rfl (sx 72 rfl (sx 73 rfl (sx 74 rfl (sub_nil _))))))))))))))))))))))) ((.cons_cons _ (.cons_cons _ (.cons_cons _ (.cons_cons _ (.cons_cons _ (.cons_cons _ .slnil))))))) ?_
    intro j u2 td2 bs3 hi15
    obtain ⟨hj, hxs3, hsj, hcj⟩ := hi15
    have hbl3 := hsj.len
    refine hc_seq ?_
    refine hc_region ?_
    refine hl_lss rfl rfl rfl rfl rfl rfl (fun h16 => ?_) (fun h16 => ?_)
    ·
     refine hl_less (sx 0 rfl (sx 1 rfl (sx 2 rfl (sx 3 rfl (sx 4 rfl (sx 5 rfl (sx 8 rfl (sx 10 rfl (sx 11 rfl (sx 12 rfl (sx 13 rfl (sx 16 rfl (sx 17 rfl (sx 18 rfl (sx 36 rfl (sx 40 rfl (sx 41 rfl (sx 43 rfl (sx 60 rfl (sx 72 rfl (sx 73 rfl (sx 74 rfl (sx 75 rfl (sub_nil _)))))))))))))))))))))))) (.refl _) ?_
     refine hl_nil ?_
     refine hq_then ?_
     refine hc_seq ?_
     refine hc_true rfl ?_
     refine hc_skip ?_
     refine hq_then ?_
     refine hc_seq ?_
     refine hc_block ?_
     refine hc_seq ?_
     refine hc_region ?_
     refine hl_v rfl rfl rfl (rv_index (s := 1) rfl Try.underlying28 (by kernel_rfl) rfl rfl (fun w hm => (hg.ks.at (k := (td.getD 0 0).toNat) (by omega)).below hm.bel) (by omega) (by first | omega | (simp only [List.length_set]; omega))) ?_
     refine hl_v rfl rfl rfl (rv_loadEl (u := .int .i64 (((g.ks.getD ((td.getD 0 0).toNat) ir0).xs).getD j 0)) rfl (by kernel_rfl) rfl (fun w hm => (hg.ks.at (k := (td.getD 0 0).toNat) (by omega)).below hm.bel) (ints_at1 (show _ < ((g.ks.getD ((td.getD 0 0).toNat) ir0).xs).length by first | omega | (simp only [List.length_set]; omega)))) ?_
     refine hl_v rfl rfl rfl (rv_ev rfl) ?_
     refine hl_less (sx 0 rfl (sx 1 rfl (sx 2 rfl (sx 3 rfl (sx 4 rfl (sx 5 rfl (sx 8 rfl (sx 10 rfl (sx 11 rfl (sx 12 rfl (sx 13 rfl (sx 16 rfl (sx 17 rfl (sx 18 rfl (sx 20 rfl (sx 36 rfl (sx 40 rfl (sx 41 rfl (sx 43 rfl (sx 60 rfl (sx 72 rfl (sx 73 rfl (sx 74 rfl (sx 75 rfl (sub_nil _))))))))))))))))))))))))) (.refl _) ?_
     refine hl_nil ?_
     refine hq_then ?_
     refine hc_seq ?_
     refine hc_region ?_
     obtain ⟨hn0, hn1, hns⟩ := sinks_mem hgk (x := td.getD 0 0) hx0 hx1 (n := ((g.ks.getD ((td.getD 0 0).toNat) ir0).xs.getD j 0)) (getD_memZ (by omega))
     refine hl_v rfl rfl rfl (rv_ev rfl) ?_
     refine hl_v rfl rfl rfl (rv_ev rfl) ?_
     refine hl_v rfl rfl rfl (rv_index (s := 1) rfl Try.underlying62 (by kernel_rfl) rfl rfl (rd_row 2 rfl) (by omega) (by first | omega | (simp only [List.length_set]; omega))) ?_
     refine hl_v rfl rfl rfl (rv_loadEl (u := .bool ((bs3.getD ((((g.ks.getD ((td.getD 0 0).toNat) ir0).xs).getD j 0).toNat) bl0).b)) rfl (by kernel_rfl) rfl (rd_row 2 rfl) (flat_one blC (fun r => .bool r.b) (fun _ => rfl) bs3 bl0 (show (((g.ks.getD ((td.getD 0 0).toNat) ir0).xs).getD j 0).toNat < _ by first | omega | (simp only [List.length_set]; omega)))) ?_
     refine hl_bool (fun h17 => ?_) (fun h17 => ?_)
     ·
      refine hl_v rfl rfl rfl (rv_ev rfl) ?_
      refine hl_less (sx 0 rfl (sx 1 rfl (sx 2 rfl (sx 3 rfl (sx 4 rfl (sx 5 rfl (sx 8 rfl (sx 10 rfl (sx 11 rfl (sx 12 rfl (sx 13 rfl (sx 16 rfl (sx 17 rfl (sx 18 rfl (sx 20 rfl (sx 36 rfl (sx 40 rfl (sx 41 rfl (sx 43 rfl (sx 60 rfl (sx 72 rfl (sx 73 rfl (sx 74 rfl (sx 75 rfl (sx 82 rfl (sub_nil _)))))))))))))))))))))))))) (.refl _) ?_
      refine hl_nil ?_
      refine hq_then ?_
      refine hc_false rfl ?_
      refine hc_skip ?_
      refine hq_block_normal ?_
      refine hq_then ?_
      refine hc_region ?_
      refine hl_v rfl rfl rfl (rv_add rfl rfl rfl (by constructor <;> omega)) ?_
      refine hl_v rfl rfl rfl (rv_ev rfl) ?_
      refine hl_less (sx 0 rfl (sx 1 rfl (sx 2 rfl (sx 3 rfl (sx 4 rfl (sx 5 rfl (sx 8 rfl (sx 10 rfl (sx 11 rfl (sx 12 rfl (sx 13 rfl (sx 16 rfl (sx 17 rfl (sx 18 rfl (sx 20 rfl (sx 36 rfl (sx 40 rfl (sx 41 rfl (sx 43 rfl (sx 60 rfl (sx 72 rfl (sx 73 rfl (sx 74 rfl (sx 75 rfl (sx 82 rfl (sub_nil _)))))))))))))))))))))))))) (.refl _) ?_
      refine hl_nil ?_
      exact hq_round4 (j + 1) u2 td2 bs3 ⟨by omega, hxs3, hsj, hcj⟩ (by omega) (sx 0 rfl (sx 1 rfl (sx 2 rfl (sx 3 rfl (sx 4 rfl (sx 5 rfl (sx 8 rfl (sx 10 rfl (sx 11 rfl (sx 12 rfl (sx 13 rfl (sx 16 rfl (sx 17 rfl (sx 18 rfl (sx 36 rfl (sx 40 rfl (sx 41 rfl (sx 43 rfl (sx 60 rfl (sx 72 rfl (sx 73 rfl (sx 74 rfl (sub_nil _))))))))))))))))))))))) ((.cons_cons _ (.cons_cons _ (.cons_cons _ (.cons_cons _ (.cons_cons _ (.cons_cons _ .slnil)))))))
     ·
      refine hl_v rfl rfl rfl (rv_ev rfl) ?_
      refine hl_less (sx 0 rfl (sx 1 rfl (sx 2 rfl (sx 3 rfl (sx 4 rfl (sx 5 rfl (sx 8 rfl (sx 10 rfl (sx 11 rfl (sx 12 rfl (sx 13 rfl (sx 16 rfl (sx 17 rfl (sx 18 rfl (sx 20 rfl (sx 36 rfl (sx 40 rfl (sx 41 rfl (sx 43 rfl (sx 60 rfl (sx 72 rfl (sx 73 rfl (sx 74 rfl (sx 75 rfl (sx 82 rfl (sub_nil _)))))))))))))))))))))))))) (.refl _) ?_
      refine hl_nil ?_
      refine hq_then ?_
      refine hc_true rfl ?_
      refine hc_seq ?_
      refine hc_region ?_
      refine hl_v rfl rfl rfl (rv_ev rfl) ?_
      refine hl_v rfl rfl rfl (rv_ev rfl) ?_
      refine hl_v rfl rfl rfl (rv_index (s := 1) rfl Try.underlying62 (by kernel_rfl) rfl rfl (rd_row 2 rfl) (by omega) (by first | omega | (simp only [List.length_set]; omega))) ?_
      refine hl_storeEl (i := 2) (n' := (bs3.set ((((g.ks.getD ((td.getD 0 0).toNat) ir0).xs).getD j 0).toNat) { bs3.getD ((((g.ks.getD ((td.getD 0 0).toNat) ir0).xs).getD j 0).toNat) bl0 with b := true }).length) (xs' := ((bs3.set ((((g.ks.getD ((td.getD 0 0).toNat) ir0).xs).getD j 0).toNat) { bs3.getD ((((g.ks.getD ((td.getD 0 0).toNat) ir0).xs).getD j 0).toNat) bl0 with b := true }).flatMap blC)) (l' := [rowQ 3 u2 td2.length (td2.map (Value.int .i64)), rowE 4 1 v11 bs.length (bs.flatMap blC), rowE 4 1 (.slice (some ⟨g7, 0, none⟩) ((List.replicate (allI d).toNat bl0).length) ((List.replicate (allI d).toNat bl0).length)) ((bs3.set ((((g.ks.getD ((td.getD 0 0).toNat) ir0).xs).getD j 0).toNat) { bs3.getD ((((g.ks.getD ((td.getD 0 0).toNat) ir0).xs).getD j 0).toNat) bl0 with b := true }).length) ((bs3.set ((((g.ks.getD ((td.getD 0 0).toNat) ir0).xs).getD j 0).toNat) { bs3.getD ((((g.ks.getD ((td.getD 0 0).toNat) ir0).xs).getD j 0).toNat) bl0 with b := true }).flatMap blC), rowE 3 1 v3 ((snkL d pl c.ps c.ps.length).length) ((snkL d pl c.ps c.ps.length).map (Value.int .i64)), boxE b2 #[.int .i64 c.nd, .int .i64 c.sb, .int .i64 c.sp, c.sv] 33, boxE b1 #[.int .i64 d.W, .int .i64 d.H, .int .i64 d.T, .int .i64 d.R] 25]) rfl rfl rfl (by kernel_rfl) rfl rfl rfl rfl (by first | omega | (simp only [List.length_set]; omega)) List.length_set.symm (flat_set1 blC (fun r => .bool r.b) (fun _ => rfl) _ ({ bs3.getD ((((g.ks.getD ((td.getD 0 0).toNat) ir0).xs).getD j 0).toNat) bl0 with b := true }) rfl) rfl ?_
      refine hl_less (sx 0 rfl (sx 1 rfl (sx 2 rfl (sx 3 rfl (sx 4 rfl (sx 5 rfl (sx 8 rfl (sx 10 rfl (sx 11 rfl (sx 12 rfl (sx 13 rfl (sx 16 rfl (sx 17 rfl (sx 18 rfl (sx 20 rfl (sx 36 rfl (sx 40 rfl (sx 41 rfl (sx 43 rfl (sx 60 rfl (sx 72 rfl (sx 73 rfl (sx 74 rfl (sx 75 rfl (sx 82 rfl (sub_nil _)))))))))))))))))))))))))) (.refl _) ?_
      refine hl_nil ?_
      refine hq_then ?_
      refine hc_region ?_
      refine hl_v rfl rfl rfl (rv_ev rfl) ?_
      refine hl_v rfl rfl rfl (rv_ev rfl) ?_
      refine hl_row rfl rfl rfl (rq_buildSlice (z := .int .i64 0) (s := 1) (cs := ([((g.ks.getD ((td.getD 0 0).toNat) ir0).xs).getD j 0].map (Value.int .i64))) rfl Try.underlying28 (by kernel_rfl) (by decide) rfl (by kernel_rfl) rfl) ?_
      intro g18
      refine hl_appendQ (i := 1) (z := .int .i64 0) (bytes := 8) (q := .int .i64 (((g.ks.getD ((td.getD 0 0).toNat) ir0).xs).getD j 0)) (n' := (td2 ++ [((g.ks.getD ((td.getD 0 0).toNat) ir0).xs).getD j 0]).length) (xs' := ((td2 ++ [((g.ks.getD ((td.getD 0 0).toNat) ir0).xs).getD j 0]).map (Value.int .i64))) (L := fun v19 => [rowE 3 1 (.slice (some ⟨g18, 0, none⟩) 1 1) 1 ([((g.ks.getD ((td.getD 0 0).toNat) ir0).xs).getD j 0].map (Value.int .i64)), rowQ 3 v19 ((td2 ++ [((g.ks.getD ((td.getD 0 0).toNat) ir0).xs).getD j 0]).length) ((td2 ++ [((g.ks.getD ((td.getD 0 0).toNat) ir0).xs).getD j 0]).map (Value.int .i64)), rowE 4 1 v11 bs.length (bs.flatMap blC), rowE 4 1 (.slice (some ⟨g7, 0, none⟩) ((List.replicate (allI d).toNat bl0).length) ((List.replicate (allI d).toNat bl0).length)) ((bs3.set ((((g.ks.getD ((td.getD 0 0).toNat) ir0).xs).getD j 0).toNat) { bs3.getD ((((g.ks.getD ((td.getD 0 0).toNat) ir0).xs).getD j 0).toNat) bl0 with b := true }).length) ((bs3.set ((((g.ks.getD ((td.getD 0 0).toNat) ir0).xs).getD j 0).toNat) { bs3.getD ((((g.ks.getD ((td.getD 0 0).toNat) ir0).xs).getD j 0).toNat) bl0 with b := true }).flatMap blC), rowE 3 1 v3 ((snkL d pl c.ps c.ps.length).length) ((snkL d pl c.ps c.ps.length).map (Value.int .i64)), boxE b2 #[.int .i64 c.nd, .int .i64 c.sb, .int .i64 c.sp, c.sv] 33, boxE b1 #[.int .i64 d.W, .int .i64 d.H, .int .i64 d.T, .int .i64 d.R] 25]) rfl rfl rfl rfl Try.underlying28 (by kernel_rfl) (by kernel_rfl) rfl rfl rfl (rd_row 0 rfl) rfl (by omega) (len_app td2 [((g.ks.getD ((td.getD 0 0).toNat) ir0).xs).getD j 0]) (ints_app td2 [((g.ks.getD ((td.getD 0 0).toNat) ir0).xs).getD j 0]) (fun _ => rfl) ?_
      intro v19
      refine hl_v rfl rfl rfl (rv_ev rfl) ?_
      refine hl_less (sx 0 rfl (sx 1 rfl (sx 2 rfl (sx 3 rfl (sx 4 rfl (sx 5 rfl (sx 8 rfl (sx 10 rfl (sx 11 rfl (sx 12 rfl (sx 13 rfl (sx 16 rfl (sx 17 rfl (sx 18 rfl (sx 20 rfl (sx 36 rfl (sx 40 rfl (sx 41 rfl (sx 43 rfl (sx 60 rfl (sx 72 rfl (sx 73 rfl (sx 74 rfl (sx 75 rfl (sx 82 rfl (sub_nil _)))))))))))))))))))))))))) (.refl _) ?_
      refine hl_nil ?_
      refine hq_block_normal ?_
      refine hq_then ?_
      refine hc_region ?_
      refine hl_v rfl rfl rfl (rv_add rfl rfl rfl (by constructor <;> omega)) ?_
      refine hl_v rfl rfl rfl (rv_ev rfl) ?_
      refine hl_less (sx 0 rfl (sx 1 rfl (sx 2 rfl (sx 3 rfl (sx 4 rfl (sx 5 rfl (sx 8 rfl (sx 10 rfl (sx 11 rfl (sx 12 rfl (sx 13 rfl (sx 16 rfl (sx 17 rfl (sx 18 rfl (sx 20 rfl (sx 36 rfl (sx 40 rfl (sx 41 rfl (sx 43 rfl (sx 60 rfl (sx 72 rfl (sx 73 rfl (sx 74 rfl (sx 75 rfl (sx 82 rfl (sub_nil _)))))))))))))))))))))))))) (.refl _) ?_
      refine hl_nil ?_
      have hnb : (bs3.getD (((g.ks.getD ((td.getD 0 0).toNat) ir0).xs.getD j 0)).toNat bl0).b = false := h17
      have hcs := cntF_set bs3 ((((g.ks.getD ((td.getD 0 0).toNat) ir0).xs.getD j 0)).toNat) { bs3.getD ((((g.ks.getD ((td.getD 0 0).toNat) ir0).xs).getD j 0).toNat) bl0 with b := true } (by omega) hnb rfl
      exact hq_round4 (j + 1) v19 (td2 ++ [((g.ks.getD ((td.getD 0 0).toNat) ir0).xs).getD j 0]) (bs3.set ((((g.ks.getD ((td.getD 0 0).toNat) ir0).xs).getD j 0).toNat) { bs3.getD ((((g.ks.getD ((td.getD 0 0).toNat) ir0).xs).getD j 0).toNat) bl0 with b := true }) ⟨by omega, by rw [bl_set (by omega)]; split <;> first | rfl | exact hxs3, hsj.more (rest := []) hxs3 ⟨⟨hx0, hx1⟩, hxw⟩ hn0 hn1 hns (fun h9 => by have h8 := (hsj.wal _ h9).2.2; rw [hnb] at h8; exact absurd h8 (by decide)) rfl, by (try dsimp only); (try dsimp only at hcs); simp only [List.length_append, List.length_cons, List.length_nil]; omega⟩ (by omega) (sx 0 rfl (sx 1 rfl (sx 2 rfl (sx 3 rfl (sx 4 rfl (sx 5 rfl (sx 8 rfl (sx 10 rfl (sx 11 rfl (sx 12 rfl (sx 13 rfl (sx 16 rfl (sx 17 rfl (sx 18 rfl (sx 36 rfl (sx 40 rfl (sx 41 rfl (sx 43 rfl (sx 60 rfl (sx 72 rfl (sx 73 rfl (sx 74 rfl (sub_nil _))))))))))))))))))))))) ((.cons _ (.cons_cons _ (.cons_cons _ (.cons_cons _ (.cons_cons _ (.cons_cons _ (.cons_cons _ .slnil))))))))
    ·
     refine hl_less (sx 0 rfl (sx 1 rfl (sx 2 rfl (sx 3 rfl (sx 4 rfl (sx 5 rfl (sx 8 rfl (sx 10 rfl (sx 11 rfl (sx 12 rfl (sx 13 rfl (sx 16 rfl (sx 17 rfl (sx 18 rfl (sx 36 rfl (sx 40 rfl (sx 41 rfl (sx 43 rfl (sx 60 rfl (sx 72 rfl (sx 73 rfl (sx 74 rfl (sx 75 rfl (sub_nil _)))))))))))))))))))))))) (.refl _) ?_
     refine hl_nil ?_
     refine hq_then ?_
     refine hc_seq ?_
     refine hc_false rfl ?_
     refine hc_exit ?_
     refine hq_then_exit ?_
     refine hq_then_exit ?_
     refine hq_block_exit ?_
     refine hq_block_normal ?_
     exact hq_round3 u2 td2 bs3 ⟨hsj, by omega⟩ (by omega) (sx 0 rfl (sx 1 rfl (sx 2 rfl (sx 3 rfl (sx 4 rfl (sx 5 rfl (sx 8 rfl (sx 10 rfl (sx 11 rfl (sx 12 rfl (sx 13 rfl (sx 16 rfl (sx 17 rfl (sx 36 rfl (sx 40 rfl (sx 41 rfl (sx 43 rfl (sub_nil _)))))))))))))))))) ((.cons_cons _ (.cons_cons _ (.cons_cons _ (.cons_cons _ (.cons_cons _ (.cons_cons _ .slnil)))))))
   ·
    refine hl_less (sx 0 rfl (sx 1 rfl (sx 2 rfl (sx 3 rfl (sx 4 rfl (sx 5 rfl (sx 8 rfl (sx 10 rfl (sx 11 rfl (sx 12 rfl (sx 13 rfl (sx 16 rfl (sx 17 rfl (sx 36 rfl (sx 40 rfl (sx 41 rfl (sx 43 rfl (sx 60 rfl (sub_nil _))))))))))))))))))) (.refl _) ?_
    refine hl_nil ?_
    refine hq_then ?_
    refine hc_false rfl ?_
    refine hc_exit ?_
    refine hq_then_exit ?_
    refine hq_then_exit ?_
    refine hq_block_exit ?_
    refine hq_then ?_
    refine hc_seq ?_
    refine hc_seq ?_
    refine hc_region ?_
    refine hl_v rfl rfl rfl (rv_ev rfl) ?_
    refine hl_v rfl rfl rfl (rv_len rfl Try.underlying28 rfl (rd_row 3 rfl)) ?_
    refine hl_v rfl rfl rfl (rv_ev rfl) ?_
    refine hl_less (sx 0 rfl (sx 1 rfl (sx 2 rfl (sx 3 rfl (sx 4 rfl (sx 5 rfl (sx 8 rfl (sx 10 rfl (sx 11 rfl (sx 12 rfl (sx 13 rfl (sx 16 rfl (sx 17 rfl (sx 36 rfl (sx 40 rfl (sx 41 rfl (sx 43 rfl (sx 60 rfl (sx 91 rfl (sx 92 rfl (sx 93 rfl (sub_nil _)))))))))))))))))))))) (.refl _) ?_
    refine hl_nil ?_
    refine hq_then ?_
    refine hc_block ?_
    refine hc_loop1 (α := Nat) (fun q => [rowQ 3 u td.length (td.map (Value.int .i64)), rowE 4 1 v11 bs.length (bs.flatMap blC), rowE 4 1 (.slice (some ⟨g7, 0, none⟩) ((List.replicate (allI d).toNat bl0).length) ((List.replicate (allI d).toNat bl0).length)) bs2.length (bs2.flatMap blC), rowE 3 1 v3 ((snkL d pl c.ps c.ps.length).length) ((snkL d pl c.ps c.ps.length).map (Value.int .i64)), boxE b2 #[.int .i64 c.nd, .int .i64 c.sb, .int .i64 c.sp, c.sv] 33, boxE b1 #[.int .i64 d.W, .int .i64 d.H, .int .i64 d.T, .int .i64 d.R] 25]) (fun q => [(0, .agg #[.int .i64 d.W, .int .i64 d.H, .int .i64 d.T, .int .i64 d.R]), (1, .pointer (some ⟨b, 0, none⟩)), (2, pv), (3, .agg #[.int .i64 c.nd, .int .i64 c.sb, .int .i64 c.sp, c.sv]), (4, wv), (5, .pointer (some ⟨b1, 0, none⟩)), (8, .pointer (some ⟨b2, 0, none⟩)), (10, .bool false), (11, .int .i64 (outPinI d (pl.getD c.sb.toNat 0) c.sp)), (12, v3), (13, .slice (some ⟨g7, 0, none⟩) ((List.replicate (allI d).toNat bl0).length) ((List.replicate (allI d).toNat bl0).length)), (16, v11), (17, u), (36, .bool false), (40, wv), (41, .int .i64 (ws.length : Int)), (43, .bool false), (60, .bool false), (91, v3), (92, .int .i64 ((snkL d pl c.ps c.ps.length).length : Int)), (93, .int .i64 (q : Int))]) (fun q => q ≤ (snkL d pl c.ps c.ps.length).length ∧ ∀ r, r < q → (bs2.getD ((snkL d pl c.ps c.ps.length).getD r 0).toNat bl0).b = true ∧ ¬ (snkL d pl c.ps c.ps.length).getD r 0 ∈ ws) (fun q => (snkL d pl c.ps c.ps.length).length - q) 0 ⟨by omega, fun r hr => absurd hr (by omega)⟩ (sx 0 rfl (sx 1 rfl (sx 2 rfl (sx 3 rfl (sx 4 rfl (sx 5 rfl (sx 8 rfl (sx 10 rfl (sx 11 rfl (sx 12 rfl (sx 13 rfl (sx 16 rfl (sx 17 rfl (sx 36 rfl (sx 40 rfl (sx 41 rfl (sx 43 rfl (sx 60 rfl (sx 91 rfl (sx 92 rfl (sx 93 rfl (sub_nil _)))))))))))))))))))))) ((.cons_cons _ (.cons_cons _ (.cons_cons _ (.cons_cons _ (.cons_cons _ (.cons_cons _ .slnil))))))) ?_
    intro q hi20
    obtain ⟨hq, hqa⟩ := hi20
    refine hc_seq ?_
    refine hc_region ?_
    refine hl_lss rfl rfl rfl rfl rfl rfl (fun h21 => ?_) (fun h21 => ?_)
    ·
     refine hl_less (sx 0 rfl (sx 1 rfl (sx 2 rfl (sx 3 rfl (sx 4 rfl (sx 5 rfl (sx 8 rfl (sx 10 rfl (sx 11 rfl (sx 12 rfl (sx 13 rfl (sx 16 rfl (sx 17 rfl (sx 36 rfl (sx 40 rfl (sx 41 rfl (sx 43 rfl (sx 60 rfl (sx 91 rfl (sx 92 rfl (sx 93 rfl (sx 94 rfl (sub_nil _))))))))))))))))))))))) (.refl _) ?_
     refine hl_nil ?_
     refine hq_then ?_
     refine hc_seq ?_
     refine hc_true rfl ?_
     refine hc_skip ?_
     refine hq_then ?_
     refine hc_seq ?_
     refine hc_block ?_
     refine hc_seq ?_
     refine hc_region ?_
     refine hl_v rfl rfl rfl (rv_index (s := 1) rfl Try.underlying28 (by kernel_rfl) rfl rfl (rd_row 3 rfl) (by omega) (by first | omega | (simp only [List.length_set]; omega))) ?_
     refine hl_v rfl rfl rfl (rv_loadEl (u := .int .i64 ((snkL d pl c.ps c.ps.length).getD q 0)) rfl (by kernel_rfl) rfl (rd_row 3 rfl) (ints_at1 (show _ < (snkL d pl c.ps c.ps.length).length by first | omega | (simp only [List.length_set]; omega)))) ?_
     refine hl_v rfl rfl rfl (rv_ev rfl) ?_
     refine hl_less (sx 0 rfl (sx 1 rfl (sx 2 rfl (sx 3 rfl (sx 4 rfl (sx 5 rfl (sx 8 rfl (sx 10 rfl (sx 11 rfl (sx 12 rfl (sx 13 rfl (sx 16 rfl (sx 17 rfl (sx 22 rfl (sx 36 rfl (sx 40 rfl (sx 41 rfl (sx 43 rfl (sx 60 rfl (sx 91 rfl (sx 92 rfl (sx 93 rfl (sx 94 rfl (sub_nil _)))))))))))))))))))))))) (.refl _) ?_
     refine hl_nil ?_
     refine hq_then ?_
     refine hc_seq ?_
     refine hc_region ?_
     have hskq := hsk q (by omega)
     refine hl_v rfl rfl rfl (rv_ev rfl) ?_
     refine hl_v rfl rfl rfl (rv_ev rfl) ?_
     refine hl_v rfl rfl rfl (rv_index (s := 1) rfl Try.underlying62 (by kernel_rfl) rfl rfl (rd_row 2 rfl) (by omega) (by first | omega | (simp only [List.length_set]; omega))) ?_
     refine hl_v rfl rfl rfl (rv_loadEl (u := .bool ((bs2.getD (((snkL d pl c.ps c.ps.length).getD q 0).toNat) bl0).b)) rfl (by kernel_rfl) rfl (rd_row 2 rfl) (flat_one blC (fun r => .bool r.b) (fun _ => rfl) bs2 bl0 (show ((snkL d pl c.ps c.ps.length).getD q 0).toNat < _ by first | omega | (simp only [List.length_set]; omega)))) ?_
     refine hl_bool (fun h22 => ?_) (fun h22 => ?_)
     ·
      refine hl_v rfl rfl rfl (rv_ev rfl) ?_
      refine hl_v rfl rfl rfl (rv_ev rfl) ?_
      refine hl_v rfl rfl rfl (rv_ev rfl) ?_
      refine hl_v rfl rfl rfl (rv_ev rfl) ?_
      refine hl_v rfl rfl rfl (rv_index (s := 1) rfl Try.underlying62 (by kernel_rfl) rfl rfl (rd_row 1 rfl) (by omega) (by first | omega | (simp only [List.length_set]; omega))) ?_
      refine hl_v rfl rfl rfl (rv_loadEl (u := .bool ((bs.getD (((snkL d pl c.ps c.ps.length).getD q 0).toNat) bl0).b)) rfl (by kernel_rfl) rfl (rd_row 1 rfl) (flat_one blC (fun r => .bool r.b) (fun _ => rfl) bs bl0 (show ((snkL d pl c.ps c.ps.length).getD q 0).toNat < _ by first | omega | (simp only [List.length_set]; omega)))) ?_
      refine hl_bool (fun h23 => ?_) (fun h23 => ?_)
      ·
       refine hl_v rfl rfl rfl (rv_ev rfl) ?_
       refine hl_less (sx 0 rfl (sx 1 rfl (sx 2 rfl (sx 3 rfl (sx 4 rfl (sx 5 rfl (sx 8 rfl (sx 10 rfl (sx 11 rfl (sx 12 rfl (sx 13 rfl (sx 16 rfl (sx 17 rfl (sx 22 rfl (sx 36 rfl (sx 40 rfl (sx 41 rfl (sx 43 rfl (sx 60 rfl (sx 91 rfl (sx 92 rfl (sx 93 rfl (sx 94 rfl (sx 107 rfl (sub_nil _))))))))))))))))))))))))) (.refl _) ?_
       refine hl_nil ?_
       refine hq_then ?_
       refine hc_true rfl ?_
       refine hc_seq ?_
       refine hc_region ?_
       refine hl_v rfl rfl rfl (rv_ev rfl) ?_
       refine hl_less (sx 0 rfl (sx 1 rfl (sx 2 rfl (sx 3 rfl (sx 4 rfl (sx 5 rfl (sx 8 rfl (sx 10 rfl (sx 11 rfl (sx 12 rfl (sx 13 rfl (sx 16 rfl (sx 17 rfl (sx 22 rfl (sx 36 rfl (sx 40 rfl (sx 41 rfl (sx 43 rfl (sx 60 rfl (sx 91 rfl (sx 92 rfl (sx 93 rfl (sx 94 rfl (sx 107 rfl (sub_nil _))))))))))))))))))))))))) (.refl _) ?_
       refine hl_nil ?_
       refine hq_then ?_
       refine hc_ret ?_
       refine hq_block_ret ?_
       refine hq_then_ret ?_
       refine hq_then_ret ?_
       refine hq_block_ret ?_
       refine hq_then_ret ?_
       exact hq_retR (post := []) rfl rfl ((.cons _ (.cons _ (.cons _ (.cons _ (.cons _ (.cons _ .slnil))))))) ⟨true, rfl, rfl, fun _ => rfl⟩
      ·
       refine hl_v rfl rfl rfl (rv_ev rfl) ?_
       refine hl_less (sx 0 rfl (sx 1 rfl (sx 2 rfl (sx 3 rfl (sx 4 rfl (sx 5 rfl (sx 8 rfl (sx 10 rfl (sx 11 rfl (sx 12 rfl (sx 13 rfl (sx 16 rfl (sx 17 rfl (sx 22 rfl (sx 36 rfl (sx 40 rfl (sx 41 rfl (sx 43 rfl (sx 60 rfl (sx 91 rfl (sx 92 rfl (sx 93 rfl (sx 94 rfl (sx 107 rfl (sub_nil _))))))))))))))))))))))))) (.refl _) ?_
       refine hl_nil ?_
       refine hq_then ?_
       refine hc_false rfl ?_
       refine hc_skip ?_
       refine hq_block_normal ?_
       refine hq_then ?_
       refine hc_region ?_
       refine hl_v rfl rfl rfl (rv_add rfl rfl rfl (by constructor <;> omega)) ?_
       refine hl_v rfl rfl rfl (rv_ev rfl) ?_
       refine hl_less (sx 0 rfl (sx 1 rfl (sx 2 rfl (sx 3 rfl (sx 4 rfl (sx 5 rfl (sx 8 rfl (sx 10 rfl (sx 11 rfl (sx 12 rfl (sx 13 rfl (sx 16 rfl (sx 17 rfl (sx 22 rfl (sx 36 rfl (sx 40 rfl (sx 41 rfl (sx 43 rfl (sx 60 rfl (sx 91 rfl (sx 92 rfl (sx 93 rfl (sx 94 rfl (sx 107 rfl (sub_nil _))))))))))))))))))))))))) (.refl _) ?_
       refine hl_nil ?_
       exact hq_round1 (q + 1) ⟨by omega, fun r hr => by by_cases hrq : r = q; (subst hrq; exact ⟨h22, fun h9 => by have h8 := (hbm _ hskq.1 (by omega)).2 h9; rw [h23] at h8; exact absurd h8 (by decide)⟩); exact hqa r (by omega)⟩ (by omega) (sx 0 rfl (sx 1 rfl (sx 2 rfl (sx 3 rfl (sx 4 rfl (sx 5 rfl (sx 8 rfl (sx 10 rfl (sx 11 rfl (sx 12 rfl (sx 13 rfl (sx 16 rfl (sx 17 rfl (sx 36 rfl (sx 40 rfl (sx 41 rfl (sx 43 rfl (sx 60 rfl (sx 91 rfl (sx 92 rfl (sx 93 rfl (sub_nil _)))))))))))))))))))))) ((.cons_cons _ (.cons_cons _ (.cons_cons _ (.cons_cons _ (.cons_cons _ (.cons_cons _ .slnil)))))))
     ·
      refine hl_v rfl rfl rfl (rv_ev rfl) ?_
      refine hl_v rfl rfl rfl (rv_ev rfl) ?_
      refine hl_skip rfl rfl rfl ?_
      refine hl_skip rfl rfl rfl ?_
      refine hl_skip rfl rfl rfl ?_
      refine hl_skip rfl rfl rfl ?_
      refine hl_v rfl rfl rfl (rv_ev rfl) ?_
      refine hl_less (sx 0 rfl (sx 1 rfl (sx 2 rfl (sx 3 rfl (sx 4 rfl (sx 5 rfl (sx 8 rfl (sx 10 rfl (sx 11 rfl (sx 12 rfl (sx 13 rfl (sx 16 rfl (sx 17 rfl (sx 22 rfl (sx 36 rfl (sx 40 rfl (sx 41 rfl (sx 43 rfl (sx 60 rfl (sx 91 rfl (sx 92 rfl (sx 93 rfl (sx 94 rfl (sx 107 rfl (sub_nil _))))))))))))))))))))))))) (.refl _) ?_
      refine hl_nil ?_
      refine hq_then ?_
      refine hc_true rfl ?_
      refine hc_seq ?_
      refine hc_region ?_
      refine hl_v rfl rfl rfl (rv_ev rfl) ?_
      refine hl_less (sx 0 rfl (sx 1 rfl (sx 2 rfl (sx 3 rfl (sx 4 rfl (sx 5 rfl (sx 8 rfl (sx 10 rfl (sx 11 rfl (sx 12 rfl (sx 13 rfl (sx 16 rfl (sx 17 rfl (sx 22 rfl (sx 36 rfl (sx 40 rfl (sx 41 rfl (sx 43 rfl (sx 60 rfl (sx 91 rfl (sx 92 rfl (sx 93 rfl (sx 94 rfl (sx 107 rfl (sub_nil _))))))))))))))))))))))))) (.refl _) ?_
      refine hl_nil ?_
      refine hq_then ?_
      refine hc_ret ?_
      refine hq_block_ret ?_
      refine hq_then_ret ?_
      refine hq_then_ret ?_
      refine hq_block_ret ?_
      refine hq_then_ret ?_
      exact hq_retR (post := []) rfl rfl ((.cons _ (.cons _ (.cons _ (.cons _ (.cons _ (.cons _ .slnil))))))) ⟨true, rfl, rfl, fun _ => rfl⟩
    ·
     refine hl_less (sx 0 rfl (sx 1 rfl (sx 2 rfl (sx 3 rfl (sx 4 rfl (sx 5 rfl (sx 8 rfl (sx 10 rfl (sx 11 rfl (sx 12 rfl (sx 13 rfl (sx 16 rfl (sx 17 rfl (sx 36 rfl (sx 40 rfl (sx 41 rfl (sx 43 rfl (sx 60 rfl (sx 91 rfl (sx 92 rfl (sx 93 rfl (sx 94 rfl (sub_nil _))))))))))))))))))))))) (.refl _) ?_
     refine hl_nil ?_
     refine hq_then ?_
     refine hc_seq ?_
     refine hc_false rfl ?_
     refine hc_exit ?_
     refine hq_then_exit ?_
     refine hq_then_exit ?_
     refine hq_block_exit ?_
     refine hq_then ?_
     refine hc_seq ?_
     refine hc_region ?_
     refine hl_v rfl rfl rfl (rv_ev rfl) ?_
     refine hl_less (sx 0 rfl (sx 1 rfl (sx 2 rfl (sx 3 rfl (sx 4 rfl (sx 5 rfl (sx 8 rfl (sx 10 rfl (sx 11 rfl (sx 12 rfl (sx 13 rfl (sx 16 rfl (sx 17 rfl (sx 36 rfl (sx 40 rfl (sx 41 rfl (sx 43 rfl (sx 60 rfl (sx 91 rfl (sx 92 rfl (sx 93 rfl (sx 94 rfl (sub_nil _))))))))))))))))))))))) (.refl _) ?_
     refine hl_nil ?_
     refine hq_then ?_
     refine hc_ret ?_
     have hsk0 := hsk 0 (by omega)
     exact hq_retR (post := []) rfl rfl ((.cons _ (.cons _ (.cons _ (.cons _ (.cons _ (.cons _ .slnil))))))) ⟨false, rfl, rfl, hsi.says hsk0.1 hsk0.2 (fun _ => hqa 0 (by omega))⟩
set_option maxHeartbeats 4000000 in
set_option maxRecDepth 100000 in
theorem IsSeparated_yes (d : Dev) (pl : List Int) (pv : Value) (c : Cn) (ws : List Int) (wv : Value) (w : World) (hd : devB d = true) (hpl : RdsW w pv 1 pl.length (pl.map (Value.int .i64))) (hpn : pl.length ≤ 64) (hs : PnOk pl.length c.sb c.sp) (hc : RdsW w c.sv 2 c.ps.length (c.ps.flatMap pnC)) (hcl : 1 ≤ c.ps.length ∧ c.ps.length ≤ 120) (hok : ∀ k, k < c.ps.length → PnOk pl.length (c.ps.getD k pn0).b (c.ps.getD k pn0).p) (hin : ∀ k, k < c.ps.length → 0 ≤ inPinI d (pl.getD (c.ps.getD k pn0).b.toNat 0) (c.ps.getD k pn0).p) (hso : 0 ≤ (outPinI d (pl.getD c.sb.toNat 0) c.sp) ∧ (outPinI d (pl.getD c.sb.toNat 0) c.sp) < allI d ∧ ¬ (outPinI d (pl.getD c.sb.toNat 0) c.sp) ∈ ws) (hsk : ∀ k, k < (snkL d pl c.ps c.ps.length).length → 0 ≤ (snkL d pl c.ps c.ps.length).getD k 0 ∧ (snkL d pl c.ps c.ps.length).getD k 0 < allI d) (hwv : RdsW w wv 1 ws.length (ws.map (Value.int .i64))) (hwl : ws.length ≤ 100000) (hasc : ws.Pairwise (· < ·)) (hws : ∀ x ∈ ws, isWireI d x = true ∧ 0 ≤ x ∧ x < allI d) (hq : SepQ d ws (outPinI d (pl.getD c.sb.toNat 0) c.sp) ((snkL d pl c.ps c.ps.length).getD 0 0)) :
  Calls Try.prog 9 #[.agg #[.int .i64 d.W, .int .i64 d.H, .int .i64 d.T, .int .i64 d.R], pv, .agg #[.int .i64 c.nd, .int .i64 c.sb, .int .i64 c.sp, c.sv], wv] w (Ans w (.bool true)) := by
 refine calls_hc (N := 25) (args := [.agg #[.int .i64 d.W, .int .i64 d.H, .int .i64 d.T, .int .i64 d.R], pv, .agg #[.int .i64 c.nd, .int .i64 c.sb, .int .i64 c.sp, c.sv], wv]) Try.func9 rfl rfl ?_
 refine hc_less _ (sx 0 rfl (sx 1 rfl (sx 2 rfl (sx 3 rfl (sub_nil _))))) (.refl _) ?_
 refine hc_seq ?_
 refine hc_region ?_
 refine hl_box rfl rfl rfl (rq_box rfl rfl) ?_
 intro b1
 refine hl_box rfl rfl rfl (rq_box rfl rfl) ?_
 intro b2
 refine hl_v rfl rfl rfl (rv_ev rfl) ?_
 refine hl_less (sx 0 rfl (sx 1 rfl (sx 2 rfl (sx 3 rfl (sx 4 rfl (sx 6 rfl (sx 8 rfl (sub_nil _)))))))) (.refl _) ?_
 refine hl_nil ?_
 refine hq_then ?_
 refine hc_seq ?_
 have hb3 : (devB d) = true := hd
 refine hc_draw (by kernel_rfl) 16 [0, 1, 2, 3, 4, 5, 6, 7, 8, 9, 10, 11, 12, 13, 14, 15] (List.take 16 _) (List.drop 16 _) [[], [0], [1], [2], [2], [2, 3, 4], [2, 5], [6], [7], [7], [7, 9], [7], [7], [7], [7, 8, 10, 11, 12, 13], [7, 10, 14]] [9, 10, 11, 12, 13, 14, 15, 16, 17, 18, 19, 20, 21, 22, 23, 24] (fun i_ vs_ v_ p_ => match i_ with | 0 => v_ = .agg #[.int .i64 d.W, .int .i64 d.H, .int .i64 d.T, .int .i64 d.R] ∧ p_ = [] | 1 => v_ = .bool true ∧ p_ = [] | 2 => v_ = .bool true ∧ p_ = [] | 3 => v_ = .agg #[.int .i64 d.W, .int .i64 d.H, .int .i64 d.T, .int .i64 d.R] ∧ p_ = [] | 4 => v_ = wv ∧ p_ = [] | 5 => v_ = .bool true ∧ p_ = [] | 6 => v_ = .bool true ∧ p_ = [] | 7 => v_ = .bool true ∧ p_ = [] | 8 => v_ = .agg #[.int .i64 d.W, .int .i64 d.H, .int .i64 d.T, .int .i64 d.R] ∧ p_ = [] | 9 => v_ = .agg #[.int .i64 d.W, .int .i64 d.H, .int .i64 d.T, .int .i64 d.R] ∧ p_ = [] | 10 => (fun v' post => ∃ (b : Nat) (g : Gr), v' = .pointer (some ⟨b, 0, none⟩) ∧ post = [grE b g] ∧ GrOk d (allI d).toNat g) v_ p_ | 11 => v_ = pv ∧ p_ = [] | 12 => v_ = .agg #[.int .i64 c.nd, .int .i64 c.sb, .int .i64 c.sp, c.sv] ∧ p_ = [] | 13 => v_ = wv ∧ p_ = [] | 14 => v_ = .bool true ∧ p_ = [] | 15 => v_ = .bool true ∧ p_ = [] | _ => True) (List.take_append_drop 16 _).symm (by kernel_rfl) (by kernel_rfl) rfl rfl ?_ ?_
 ·
  refine ⟨?_, ?_, ?_, ?_, ?_, ?_, ?_, ?_, ?_, ?_, ?_, ?_, ?_, ?_, ?_, ?_, trivial⟩
  ·
   intro vf pf hR
   refine Or.inl ⟨rfl, ?_⟩
   refine rq_less (sx 4 rfl (sub_nil _)) (List.sublist_append_right _ _) ?_
   exact rq_v (rv_loadN (cs := [.int .i64 d.W, .int .i64 d.H, .int .i64 d.T, .int .i64 d.R]) rfl (by kernel_rfl) (by kernel_rfl) rfl rfl (box_part 1 rfl 0 rfl))
  ·
   intro vf pf hR
   have e0 : (vf 0) = .agg #[.int .i64 d.W, .int .i64 d.H, .int .i64 d.T, .int .i64 d.R] ∧ (pf 0) = [] := hR 0 (by decide)
   refine Or.inl ⟨rfl, ?_⟩
   refine rq_less (sx 9 (congrArg some e0.1) (sub_nil _)) (List.sublist_append_right _ _) ?_
   exact rq_mono (rq_call (by kernel_rfl) rfl (fun w hm => ret_ans (implDeviceOk_any d w))) (fun _ _ h => ⟨h.1.trans (congrArg Value.bool hb3), h.2⟩)
  ·
   intro vf pf hR
   have e1 : (vf 1) = .bool true ∧ (pf 1) = [] := hR 1 (by decide)
   refine Or.inl ⟨rfl, ?_⟩
   refine rq_less (sx 10 (congrArg some e1.1) (sub_nil _)) (List.sublist_append_right _ _) ?_
   exact rq_v (rv_ev rfl)
  ·
   intro vf pf hR
   have e2 : (vf 2) = .bool true ∧ (pf 2) = [] := hR 2 (by decide)
   refine Or.inl ⟨want_of (congrArg some e2.1) rfl, ?_⟩
   refine rq_less (sx 4 rfl (sub_nil _)) (List.sublist_append_right _ _) ?_
   exact rq_v (rv_loadN (cs := [.int .i64 d.W, .int .i64 d.H, .int .i64 d.T, .int .i64 d.R]) rfl (by kernel_rfl) (by kernel_rfl) rfl rfl (box_part 1 rfl 0 rfl))
  ·
   intro vf pf hR
   have e2 : (vf 2) = .bool true ∧ (pf 2) = [] := hR 2 (by decide)
   refine Or.inl ⟨want_of (congrArg some e2.1) rfl, ?_⟩
   refine rq_less (sx 3 rfl (sub_nil _)) (List.sublist_append_right _ _) ?_
   exact rq_v (rv_ev rfl)
  ·
   intro vf pf hR
   have e2 : (vf 2) = .bool true ∧ (pf 2) = [] := hR 2 (by decide)
   have e3 : (vf 3) = .agg #[.int .i64 d.W, .int .i64 d.H, .int .i64 d.T, .int .i64 d.R] ∧ (pf 3) = [] := hR 3 (by decide)
   have e4 : (vf 4) = wv ∧ (pf 4) = [] := hR 4 (by decide)
   refine Or.inl ⟨want_of (congrArg some e2.1) rfl, ?_⟩
   refine rq_less (sx 12 (congrArg some e3.1) (sx 13 (congrArg some e4.1) (sub_nil _))) (List.sublist_append_right _ _) ?_
   exact (rq_call (by kernel_rfl) rfl (fun w hm => ret_ans (wireSetOk_yes d ws _ w (hwv.below hm.bel) hwl hasc hws)))
  ·
   intro vf pf hR
   have e2 : (vf 2) = .bool true ∧ (pf 2) = [] := hR 2 (by decide)
   have e5 : (vf 5) = .bool true ∧ (pf 5) = [] := hR 5 (by decide)
   refine Or.inl ⟨rfl, ?_⟩
   refine rq_less (sx 11 (congrArg some e2.1) (sx 14 (congrArg some e5.1) (sub_nil _))) (List.sublist_append_right _ _) ?_
   exact rq_v (rv_ev rfl)
  ·
   intro vf pf hR
   have e6 : (vf 6) = .bool true ∧ (pf 6) = [] := hR 6 (by decide)
   refine Or.inl ⟨rfl, ?_⟩
   refine rq_less (sx 15 (congrArg some e6.1) (sub_nil _)) (List.sublist_append_right _ _) ?_
   exact rq_v (rv_ev rfl)
  ·
   intro vf pf hR
   have e7 : (vf 7) = .bool true ∧ (pf 7) = [] := hR 7 (by decide)
   refine Or.inl ⟨want_of (congrArg some e7.1) rfl, ?_⟩
   refine rq_less (sx 4 rfl (sub_nil _)) (List.sublist_append_right _ _) ?_
   exact rq_v (rv_loadN (cs := [.int .i64 d.W, .int .i64 d.H, .int .i64 d.T, .int .i64 d.R]) rfl (by kernel_rfl) (by kernel_rfl) rfl rfl (box_part 1 rfl 0 rfl))
  ·
   intro vf pf hR
   have e7 : (vf 7) = .bool true ∧ (pf 7) = [] := hR 7 (by decide)
   refine Or.inl ⟨want_of (congrArg some e7.1) rfl, ?_⟩
   refine rq_less (sx 4 rfl (sub_nil _)) (List.sublist_append_right _ _) ?_
   exact rq_v (rv_loadN (cs := [.int .i64 d.W, .int .i64 d.H, .int .i64 d.T, .int .i64 d.R]) rfl (by kernel_rfl) (by kernel_rfl) rfl rfl (box_part 1 rfl 0 rfl))
  ·
   intro vf pf hR
   have e7 : (vf 7) = .bool true ∧ (pf 7) = [] := hR 7 (by decide)
   have e9 : (vf 9) = .agg #[.int .i64 d.W, .int .i64 d.H, .int .i64 d.T, .int .i64 d.R] ∧ (pf 9) = [] := hR 9 (by decide)
   refine Or.inl ⟨want_of (congrArg some e7.1) rfl, ?_⟩
   refine rq_less (sx 18 (congrArg some e9.1) (sub_nil _)) (List.sublist_append_right _ _) ?_
   exact rq_call (by kernel_rfl) rfl (fun w hm => graphOf_ret d w hd)
  ·
   intro vf pf hR
   have e7 : (vf 7) = .bool true ∧ (pf 7) = [] := hR 7 (by decide)
   refine Or.inl ⟨want_of (congrArg some e7.1) rfl, ?_⟩
   refine rq_less (sx 1 rfl (sub_nil _)) (List.sublist_append_right _ _) ?_
   exact rq_v (rv_ev rfl)
  ·
   intro vf pf hR
   have e7 : (vf 7) = .bool true ∧ (pf 7) = [] := hR 7 (by decide)
   refine Or.inl ⟨want_of (congrArg some e7.1) rfl, ?_⟩
   refine rq_less (sx 6 rfl (sub_nil _)) (List.sublist_append_right _ _) ?_
   exact rq_v (rv_loadN (cs := [.int .i64 c.nd, .int .i64 c.sb, .int .i64 c.sp, c.sv]) rfl (by kernel_rfl) (by kernel_rfl) rfl rfl (box_part 0 rfl 0 rfl))
  ·
   intro vf pf hR
   have e7 : (vf 7) = .bool true ∧ (pf 7) = [] := hR 7 (by decide)
   refine Or.inl ⟨want_of (congrArg some e7.1) rfl, ?_⟩
   refine rq_less (sx 3 rfl (sub_nil _)) (List.sublist_append_right _ _) ?_
   exact rq_v (rv_ev rfl)
  ·
   intro vf pf hR
   have e7 : (vf 7) = .bool true ∧ (pf 7) = [] := hR 7 (by decide)
   have e8 : (vf 8) = .agg #[.int .i64 d.W, .int .i64 d.H, .int .i64 d.T, .int .i64 d.R] ∧ (pf 8) = [] := hR 8 (by decide)
   have e10 : (fun v' post => ∃ (b : Nat) (g : Gr), v' = .pointer (some ⟨b, 0, none⟩) ∧ post = [grE b g] ∧ GrOk d (allI d).toNat g) (vf 10) (pf 10) := hR 10 (by decide)
   obtain ⟨v4, v10⟩ : ∃ x, vf 10 = x := ⟨_, rfl⟩
   obtain ⟨p5, p10⟩ : ∃ x, pf 10 = x := ⟨_, rfl⟩
   have hR6 := e10
   rw [v10, p10] at hR6
   obtain ⟨b, g, rfl, rfl, hgk⟩ := hR6
   have e11 : (vf 11) = pv ∧ (pf 11) = [] := hR 11 (by decide)
   have e12 : (vf 12) = .agg #[.int .i64 c.nd, .int .i64 c.sb, .int .i64 c.sp, c.sv] ∧ (pf 12) = [] := hR 12 (by decide)
   have e13 : (vf 13) = wv ∧ (pf 13) = [] := hR 13 (by decide)
   refine Or.inl ⟨want_of (congrArg some e7.1) rfl, ?_⟩
   refine rq_less (l' := [grE b g, boxE b2 #[.int .i64 c.nd, .int .i64 c.sb, .int .i64 c.sp, c.sv] 33, boxE b1 #[.int .i64 d.W, .int .i64 d.H, .int .i64 d.T, .int .i64 d.R] 25]) (sx 17 (congrArg some e8.1) (sx 19 (congrArg some v10) (sx 20 (congrArg some e11.1) (sx 21 (congrArg some e12.1) (sx 22 (congrArg some e13.1) (sub_nil _)))))) (by first | (simp only [p10, v10, e7.2, e8.2, e11.2, e12.2, e13.2, List.flatMap_cons, List.flatMap_nil, List.append_nil, List.nil_append, List.cons_append]; exact List.Sublist.refl _) | simp [p10, v10, e7.2, e8.2, e11.2, e12.2, e13.2]) ?_
   exact (rq_mono (rq_call (by kernel_rfl) rfl (fun w hm => isSeparated_ret d b g pl _ c ws _ w hd (gr_rds 0 rfl w hm) hgk (hpl.below hm.bel) hpn hs (hc.below hm.bel) hcl hok hin hso hsk (hwv.below hm.bel) hwl hws)) (fun v_ p_ h => by obtain ⟨b_, rfl, rfl, hb_⟩ := h; exact ⟨by rw [hb_ hq], rfl⟩))
  ·
   intro vf pf hR
   have e7 : (vf 7) = .bool true ∧ (pf 7) = [] := hR 7 (by decide)
   have e10 : (fun v' post => ∃ (b : Nat) (g : Gr), v' = .pointer (some ⟨b, 0, none⟩) ∧ post = [grE b g] ∧ GrOk d (allI d).toNat g) (vf 10) (pf 10) := hR 10 (by decide)
   obtain ⟨v4, v10⟩ : ∃ x, vf 10 = x := ⟨_, rfl⟩
   obtain ⟨p5, p10⟩ : ∃ x, pf 10 = x := ⟨_, rfl⟩
   have hR6 := e10
   rw [v10, p10] at hR6
   obtain ⟨b, g, rfl, rfl, hgk⟩ := hR6
   have e14 : (vf 14) = .bool true ∧ (pf 14) = [] := hR 14 (by decide)
   refine Or.inl ⟨rfl, ?_⟩
   refine rq_less (l' := [grE b g, boxE b2 #[.int .i64 c.nd, .int .i64 c.sb, .int .i64 c.sp, c.sv] 33, boxE b1 #[.int .i64 d.W, .int .i64 d.H, .int .i64 d.T, .int .i64 d.R] 25]) (sx 16 (congrArg some e7.1) (sx 23 (congrArg some e14.1) (sub_nil _))) (by first | (simp only [p10, v10, e7.2, e14.2, List.flatMap_cons, List.flatMap_nil, List.append_nil, List.nil_append, List.cons_append]; exact List.Sublist.refl _) | simp [p10, v10, e7.2, e14.2]) ?_
   exact rq_v (rv_ev rfl)
 ·
  intro vf pf hR
  have e10 : (fun v' post => ∃ (b : Nat) (g : Gr), v' = .pointer (some ⟨b, 0, none⟩) ∧ post = [grE b g] ∧ GrOk d (allI d).toNat g) (vf 10) (pf 10) := hR 10 (by decide)
  obtain ⟨v4, v10⟩ : ∃ x, vf 10 = x := ⟨_, rfl⟩
  obtain ⟨p5, p10⟩ : ∃ x, pf 10 = x := ⟨_, rfl⟩
  have hR6 := e10
  rw [v10, p10] at hR6
  obtain ⟨b, g, rfl, rfl, hgk⟩ := hR6
  have e15 : (vf 15) = .bool true ∧ (pf 15) = [] := hR 15 (by decide)
  have q0 : (vf 0) = .agg #[.int .i64 d.W, .int .i64 d.H, .int .i64 d.T, .int .i64 d.R] ∧ (pf 0) = [] := hR 0 (by decide)
  have q1 : (vf 1) = .bool true ∧ (pf 1) = [] := hR 1 (by decide)
  have q2 : (vf 2) = .bool true ∧ (pf 2) = [] := hR 2 (by decide)
  have q3 : (vf 3) = .agg #[.int .i64 d.W, .int .i64 d.H, .int .i64 d.T, .int .i64 d.R] ∧ (pf 3) = [] := hR 3 (by decide)
  have q4 : (vf 4) = wv ∧ (pf 4) = [] := hR 4 (by decide)
  have q5 : (vf 5) = .bool true ∧ (pf 5) = [] := hR 5 (by decide)
  have q6 : (vf 6) = .bool true ∧ (pf 6) = [] := hR 6 (by decide)
  have q7 : (vf 7) = .bool true ∧ (pf 7) = [] := hR 7 (by decide)
  have q8 : (vf 8) = .agg #[.int .i64 d.W, .int .i64 d.H, .int .i64 d.T, .int .i64 d.R] ∧ (pf 8) = [] := hR 8 (by decide)
  have q9 : (vf 9) = .agg #[.int .i64 d.W, .int .i64 d.H, .int .i64 d.T, .int .i64 d.R] ∧ (pf 9) = [] := hR 9 (by decide)
  have q11 : (vf 11) = pv ∧ (pf 11) = [] := hR 11 (by decide)
  have q12 : (vf 12) = .agg #[.int .i64 c.nd, .int .i64 c.sb, .int .i64 c.sp, c.sv] ∧ (pf 12) = [] := hR 12 (by decide)
  have q13 : (vf 13) = wv ∧ (pf 13) = [] := hR 13 (by decide)
  have q14 : (vf 14) = .bool true ∧ (pf 14) = [] := hR 14 (by decide)
  have q15 : (vf 15) = .bool true ∧ (pf 15) = [] := hR 15 (by decide)
  refine hl_less (l' := [grE b g, boxE b2 #[.int .i64 c.nd, .int .i64 c.sb, .int .i64 c.sp, c.sv] 33, boxE b1 #[.int .i64 d.W, .int .i64 d.H, .int .i64 d.T, .int .i64 d.R] 25]) (sx 0 rfl (sx 1 rfl (sx 2 rfl (sx 3 rfl (sx 4 rfl (sx 6 rfl (sx 8 rfl (sx 24 (congrArg some e15.1) (sub_nil _))))))))) (by first | (simp only [p10, v10, q0.2, q1.2, q2.2, q3.2, q4.2, q5.2, q6.2, q7.2, q8.2, q9.2, q11.2, q12.2, q13.2, q14.2, q15.2, List.flatMap_cons, List.flatMap_nil, List.append_nil, List.nil_append, List.cons_append]; exact List.Sublist.refl _) | simp [p10, v10, q0.2, q1.2, q2.2, q3.2, q4.2, q5.2, q6.2, q7.2, q8.2, q9.2, q11.2, q12.2, q13.2, q14.2, q15.2]) ?_
  simp only [List.drop_succ_cons, List.drop_zero]
  refine hl_v rfl rfl rfl (rv_ev rfl) ?_
  refine hl_less (sx 0 rfl (sx 1 rfl (sx 2 rfl (sx 3 rfl (sx 4 rfl (sx 6 rfl (sx 8 rfl (sub_nil _)))))))) (.refl _) ?_
  refine hl_nil ?_
  refine hq_then ?_
  refine hc_ret ?_
  exact hq_ans rfl rfl rfl
set_option maxHeartbeats 4000000 in
set_option maxRecDepth 100000 in
theorem separatedCount_ret (d : Dev) (b : Nat) (g : Gr) (pl : List Int) (pv : Value) (c : Cn) (cs : List Cn) (cv : Value) (ws : List Int) (wv : Value) (w : World) (hd : devB d = true) (hg : RdsGr w b g) (hgk : GrOk d (allI d).toNat g) (hpl : RdsW w pv 1 pl.length (pl.map (Value.int .i64))) (hpn : pl.length ≤ 64) (hs : PnOk pl.length c.sb c.sp) (hc : RdsW w c.sv 2 c.ps.length (c.ps.flatMap pnC)) (hcl : 1 ≤ c.ps.length ∧ c.ps.length ≤ 120) (hok : ∀ k, k < c.ps.length → PnOk pl.length (c.ps.getD k pn0).b (c.ps.getD k pn0).p) (hin : ∀ k, k < c.ps.length → 0 ≤ inPinI d (pl.getD (c.ps.getD k pn0).b.toNat 0) (c.ps.getD k pn0).p) (hso : 0 ≤ (outPinI d (pl.getD c.sb.toNat 0) c.sp) ∧ (outPinI d (pl.getD c.sb.toNat 0) c.sp) < allI d ∧ ¬ (outPinI d (pl.getD c.sb.toNat 0) c.sp) ∈ ws) (hsk : ∀ k, k < (snkL d pl c.ps c.ps.length).length → 0 ≤ (snkL d pl c.ps c.ps.length).getD k 0 ∧ (snkL d pl c.ps c.ps.length).getD k 0 < allI d) (hwv : RdsW w wv 1 ws.length (ws.map (Value.int .i64))) (hwl : ws.length ≤ 100000) (hws : ∀ x ∈ ws, isWireI d x = true ∧ 0 ≤ x ∧ x < allI d) (hcs : RdsCn w cv cs) (hce : ∀ x ∈ cs, x = c) (hcn : cs.length ≤ 100) :
  Calls Try.prog 22 #[.agg #[.int .i64 d.W, .int .i64 d.H, .int .i64 d.T, .int .i64 d.R], .pointer (some ⟨b, 0, none⟩), pv, cv, wv] w (Ret w (fun v' post => ∃ k : Int, v' = .int .i64 k ∧ post = [] ∧ 0 ≤ k ∧ (SepQ d ws (outPinI d (pl.getD c.sb.toNat 0) c.sp) ((snkL d pl c.ps c.ps.length).getD 0 0) → k = cs.length))) := by
 refine calls_hc (N := 30) (args := [.agg #[.int .i64 d.W, .int .i64 d.H, .int .i64 d.T, .int .i64 d.R], .pointer (some ⟨b, 0, none⟩), pv, cv, wv]) Try.func22 rfl rfl ?_
 refine hc_less _ (sx 0 rfl (sx 1 rfl (sx 2 rfl (sx 3 rfl (sx 4 rfl (sub_nil _)))))) (.refl _) ?_
 refine hc_seq ?_
 refine hc_region ?_
 refine hl_box rfl rfl rfl (rq_box rfl rfl) ?_
 intro b1
 refine hl_v rfl rfl rfl (rv_ev rfl) ?_
 refine hl_less (sx 0 rfl (sx 1 rfl (sx 2 rfl (sx 3 rfl (sx 4 rfl (sx 5 rfl (sx 10 rfl (sub_nil _)))))))) (.refl _) ?_
 refine hl_nil ?_
 refine hq_then ?_
 refine hc_seq ?_
 refine hc_region ?_
 refine hl_v rfl rfl rfl (rv_ev rfl) ?_
 refine hl_less (sx 0 rfl (sx 1 rfl (sx 2 rfl (sx 3 rfl (sx 4 rfl (sx 5 rfl (sx 10 rfl (sx 11 rfl (sub_nil _))))))))) (.refl _) ?_
 refine hl_nil ?_
 refine hq_then ?_
 refine hc_seq ?_
 refine hc_seq ?_
 refine hc_region ?_
 refine hl_v rfl rfl rfl (rv_ev rfl) ?_
 refine hl_v rfl rfl rfl (rv_len rfl Try.underlying37 rfl (rd_old hcs.row)) ?_
 refine hl_v rfl rfl rfl (rv_ev rfl) ?_
 refine hl_less (sx 0 rfl (sx 1 rfl (sx 2 rfl (sx 3 rfl (sx 4 rfl (sx 5 rfl (sx 10 rfl (sx 11 rfl (sx 14 rfl (sx 15 rfl (sx 16 rfl (sub_nil _)))))))))))) (.refl _) ?_
 refine hl_nil ?_
 refine hq_then ?_
 refine hc_block ?_
 refine hc_loop2 (α := Nat) (β := Int) (fun i o => [boxE b1 #[.int .i64 d.W, .int .i64 d.H, .int .i64 d.T, .int .i64 d.R] 25]) (fun i o => [(0, .agg #[.int .i64 d.W, .int .i64 d.H, .int .i64 d.T, .int .i64 d.R]), (1, .pointer (some ⟨b, 0, none⟩)), (2, pv), (3, cv), (4, wv), (5, .pointer (some ⟨b1, 0, none⟩)), (10, .int .i64 0), (11, .int .i64 o), (14, cv), (15, .int .i64 (cs.length : Int)), (16, .int .i64 (i : Int))]) (fun i o => i ≤ cs.length ∧ 0 ≤ o ∧ o ≤ i ∧ (SepQ d ws (outPinI d (pl.getD c.sb.toNat 0) c.sp) ((snkL d pl c.ps c.ps.length).getD 0 0) → o = i)) (fun i o => cs.length - i) 0 0 ⟨by omega, by omega, by omega, fun _ => rfl⟩ (sx 0 rfl (sx 1 rfl (sx 2 rfl (sx 3 rfl (sx 4 rfl (sx 5 rfl (sx 10 rfl (sx 11 rfl (sx 14 rfl (sx 15 rfl (sx 16 rfl (sub_nil _)))))))))))) ((.cons_cons _ .slnil)) ?_
 intro i o hi2
 obtain ⟨hi, ho0, ho1, ho2⟩ := hi2
 refine hc_seq ?_
 refine hc_region ?_
 refine hl_lss rfl rfl rfl rfl rfl rfl (fun h3 => ?_) (fun h3 => ?_)
 ·
  refine hl_less (sx 0 rfl (sx 1 rfl (sx 2 rfl (sx 3 rfl (sx 4 rfl (sx 5 rfl (sx 10 rfl (sx 11 rfl (sx 14 rfl (sx 15 rfl (sx 16 rfl (sx 17 rfl (sub_nil _))))))))))))) (.refl _) ?_
  refine hl_nil ?_
  refine hq_then ?_
  refine hc_seq ?_
  refine hc_true rfl ?_
  refine hc_skip ?_
  refine hq_then ?_
  refine hc_seq ?_
  refine hc_block ?_
  refine hc_seq ?_
  refine hc_region ?_
  have hci : cs.getD i cn0 = c := hce _ (getD_mem' (by omega))
  refine hl_v rfl rfl rfl (rv_index (s := 4) rfl Try.underlying37 (by kernel_rfl) rfl rfl (rd_old hcs.row) (by omega) (by first | omega | (simp only [List.length_set]; omega))) ?_
  refine hl_v rfl rfl rfl (rv_loadElN (us := [.int .i64 ((cs.getD i cn0).nd), .int .i64 ((cs.getD i cn0).sb), .int .i64 ((cs.getD i cn0).sp), (cs.getD i cn0).sv]) rfl (by kernel_rfl) (by kernel_rfl) rfl (rd_old hcs.row) (by omega) rfl (flat_atN cnC 4 (fun _ => rfl) cs cn0 (show i < _ by first | omega | (simp only [List.length_set]; omega)) rfl)) ?_
  refine hl_box rfl rfl rfl (rq_alloc (z := .agg #[.int .i64 0, .int .i64 0, .int .i64 0, .slice none 0 0]) rfl (by kernel_rfl)) ?_
  intro b4
  refine hl_storeBoxN (i := 0) (off := 0) (us := [.int .i64 ((cs.getD i cn0).nd), .int .i64 ((cs.getD i cn0).sb), .int .i64 ((cs.getD i cn0).sp), (cs.getD i cn0).sv]) (l' := [boxE b4 #[.int .i64 ((cs.getD i cn0).nd), .int .i64 ((cs.getD i cn0).sb), .int .i64 ((cs.getD i cn0).sp), (cs.getD i cn0).sv] 33, boxE b1 #[.int .i64 d.W, .int .i64 d.H, .int .i64 d.T, .int .i64 d.R] 25]) rfl rfl rfl (by kernel_rfl) rfl rfl rfl (all_cons rfl (all_cons rfl (all_cons rfl (all_cons (hcs.at (k := i) (by omega)).one all_nil)))) rfl rfl rfl ?_
  refine hl_less (sx 0 rfl (sx 1 rfl (sx 2 rfl (sx 3 rfl (sx 4 rfl (sx 5 rfl (sx 10 rfl (sx 11 rfl (sx 13 rfl (sx 14 rfl (sx 15 rfl (sx 16 rfl (sx 17 rfl (sub_nil _)))))))))))))) (.refl _) ?_
  refine hl_nil ?_
  refine hq_then ?_
  refine hc_seq ?_
  refine hc_region ?_
  refine hl_v rfl rfl rfl (rv_loadN (cs := [.int .i64 d.W, .int .i64 d.H, .int .i64 d.T, .int .i64 d.R]) rfl (by kernel_rfl) (by kernel_rfl) rfl rfl (box_part 1 rfl 0 rfl)) ?_
  refine hl_v rfl rfl rfl (rv_ev rfl) ?_
  refine hl_v rfl rfl rfl (rv_ev rfl) ?_
  refine hl_v rfl rfl rfl (rv_loadN (cs := [.int .i64 ((cs.getD i cn0).nd), .int .i64 ((cs.getD i cn0).sb), .int .i64 ((cs.getD i cn0).sp), (cs.getD i cn0).sv]) rfl (by kernel_rfl) (by kernel_rfl) rfl rfl (box_part 0 rfl 0 rfl)) ?_
  refine hl_v rfl rfl rfl (rv_ev rfl) ?_
  refine hl_q rfl rfl rfl (rq_call (by kernel_rfl) rfl (fun w hm => (by
      have h9 := isSeparated_ret d b g pl pv c ws wv w hd (hg.below hm.bel) hgk (hpl.below hm.bel) hpn hs (hc.below hm.bel) hcl hok hin hso hsk (hwv.below hm.bel) hwl hws
      have h8 : ∀ c' : Cn, c' = c → Calls Try.prog 20 #[.agg #[.int .i64 d.W, .int .i64 d.H, .int .i64 d.T, .int .i64 d.R], .pointer (some ⟨b, 0, none⟩), pv, .agg #[.int .i64 c'.nd, .int .i64 c'.sb, .int .i64 c'.sp, c'.sv], wv] w (Ret w (fun v' post => ∃ b_ : Bool, v' = .bool b_ ∧ post = [] ∧ (SepQ d ws (outPinI d (pl.getD c.sb.toNat 0) c.sp) ((snkL d pl c.ps c.ps.length).getD 0 0) → b_ = true))) := fun c' e => by subst e; exact h9
      exact h8 _ hci))) ?_
  intro v5 p6 hR7
  obtain ⟨sbhR7, rfl, rfl, hshR7⟩ := hR7
  refine hl_less (sx 0 rfl (sx 1 rfl (sx 2 rfl (sx 3 rfl (sx 4 rfl (sx 5 rfl (sx 10 rfl (sx 11 rfl (sx 13 rfl (sx 14 rfl (sx 15 rfl (sx 16 rfl (sx 17 rfl (sx 25 rfl (sub_nil _))))))))))))))) (.refl _) ?_
  refine hl_nil ?_
  refine hq_then ?_
  refine hc_cond rfl (fun h8 => ?_) (fun h8 => ?_)
  ·
   refine hc_region ?_
   refine hl_v rfl rfl rfl (rv_ev rfl) ?_
   refine hl_v rfl rfl rfl (rv_add rfl rfl rfl (by constructor <;> omega)) ?_
   refine hl_v rfl rfl rfl (rv_ev rfl) ?_
   refine hl_less (sx 0 rfl (sx 1 rfl (sx 2 rfl (sx 3 rfl (sx 4 rfl (sx 5 rfl (sx 10 rfl (sx 11 rfl (sx 13 rfl (sx 14 rfl (sx 15 rfl (sx 16 rfl (sx 17 rfl (sx 25 rfl (sub_nil _))))))))))))))) (.refl _) ?_
   refine hl_nil ?_
   refine hq_block_normal ?_
   refine hq_then ?_
   refine hc_region ?_
   refine hl_v rfl rfl rfl (rv_add rfl rfl rfl (by constructor <;> omega)) ?_
   refine hl_v rfl rfl rfl (rv_ev rfl) ?_
   refine hl_less (sx 0 rfl (sx 1 rfl (sx 2 rfl (sx 3 rfl (sx 4 rfl (sx 5 rfl (sx 10 rfl (sx 11 rfl (sx 13 rfl (sx 14 rfl (sx 15 rfl (sx 16 rfl (sx 17 rfl (sx 25 rfl (sub_nil _))))))))))))))) (.refl _) ?_
   refine hl_nil ?_
   exact hq_round2 (i + 1) (o + 1) ⟨by omega, by omega, by omega, fun h9 => by have := ho2 h9; omega⟩ (by omega) (sx 0 rfl (sx 1 rfl (sx 2 rfl (sx 3 rfl (sx 4 rfl (sx 5 rfl (sx 10 rfl (sx 11 rfl (sx 14 rfl (sx 15 rfl (sx 16 rfl (sub_nil _)))))))))))) ((.cons _ (.cons_cons _ .slnil)))
  ·
   refine hc_skip ?_
   refine hq_block_normal ?_
   refine hq_then ?_
   refine hc_region ?_
   refine hl_v rfl rfl rfl (rv_add rfl rfl rfl (by constructor <;> omega)) ?_
   refine hl_v rfl rfl rfl (rv_ev rfl) ?_
   refine hl_less (sx 0 rfl (sx 1 rfl (sx 2 rfl (sx 3 rfl (sx 4 rfl (sx 5 rfl (sx 10 rfl (sx 11 rfl (sx 13 rfl (sx 14 rfl (sx 15 rfl (sx 16 rfl (sx 17 rfl (sx 25 rfl (sub_nil _))))))))))))))) (.refl _) ?_
   refine hl_nil ?_
   exact hq_round2 (i + 1) o ⟨by omega, by omega, by omega, fun h9 => absurd ((hshR7 h9).symm.trans (show sbhR7 = false by assumption)) (by decide)⟩ (by omega) (sx 0 rfl (sx 1 rfl (sx 2 rfl (sx 3 rfl (sx 4 rfl (sx 5 rfl (sx 10 rfl (sx 11 rfl (sx 14 rfl (sx 15 rfl (sx 16 rfl (sub_nil _)))))))))))) ((.cons _ (.cons_cons _ .slnil)))
 ·
  refine hl_less (sx 0 rfl (sx 1 rfl (sx 2 rfl (sx 3 rfl (sx 4 rfl (sx 5 rfl (sx 10 rfl (sx 11 rfl (sx 14 rfl (sx 15 rfl (sx 16 rfl (sx 17 rfl (sub_nil _))))))))))))) (.refl _) ?_
  refine hl_nil ?_
  refine hq_then ?_
  refine hc_seq ?_
  refine hc_false rfl ?_
  refine hc_exit ?_
  refine hq_then_exit ?_
  refine hq_then_exit ?_
  refine hq_block_exit ?_
  refine hq_then ?_
  refine hc_seq ?_
  refine hc_region ?_
  refine hl_v rfl rfl rfl (rv_ev rfl) ?_
  refine hl_v rfl rfl rfl (rv_ev rfl) ?_
  refine hl_less (sx 0 rfl (sx 1 rfl (sx 2 rfl (sx 3 rfl (sx 4 rfl (sx 5 rfl (sx 10 rfl (sx 11 rfl (sx 14 rfl (sx 15 rfl (sx 16 rfl (sx 17 rfl (sub_nil _))))))))))))) (.refl _) ?_
  refine hl_nil ?_
  refine hq_then ?_
  refine hc_ret ?_
  exact hq_retR (post := []) rfl rfl ((.cons _ .slnil)) ⟨o, rfl, rfl, ho0, fun h9 => by rw [ho2 h9]; omega⟩
set_option maxHeartbeats 4000000 in
set_option maxRecDepth 100000 in
theorem SeparatedCount_ret (d : Dev) (pl : List Int) (pv : Value) (c : Cn) (cs : List Cn) (cv : Value) (ws : List Int) (wv : Value) (w : World) (hd : devB d = true) (hpl : RdsW w pv 1 pl.length (pl.map (Value.int .i64))) (hpn : pl.length ≤ 64) (hs : PnOk pl.length c.sb c.sp) (hc : RdsW w c.sv 2 c.ps.length (c.ps.flatMap pnC)) (hcl : 1 ≤ c.ps.length ∧ c.ps.length ≤ 120) (hok : ∀ k, k < c.ps.length → PnOk pl.length (c.ps.getD k pn0).b (c.ps.getD k pn0).p) (hin : ∀ k, k < c.ps.length → 0 ≤ inPinI d (pl.getD (c.ps.getD k pn0).b.toNat 0) (c.ps.getD k pn0).p) (hso : 0 ≤ (outPinI d (pl.getD c.sb.toNat 0) c.sp) ∧ (outPinI d (pl.getD c.sb.toNat 0) c.sp) < allI d ∧ ¬ (outPinI d (pl.getD c.sb.toNat 0) c.sp) ∈ ws) (hsk : ∀ k, k < (snkL d pl c.ps c.ps.length).length → 0 ≤ (snkL d pl c.ps c.ps.length).getD k 0 ∧ (snkL d pl c.ps c.ps.length).getD k 0 < allI d) (hwv : RdsW w wv 1 ws.length (ws.map (Value.int .i64))) (hwl : ws.length ≤ 100000) (hasc : ws.Pairwise (· < ·)) (hws : ∀ x ∈ ws, isWireI d x = true ∧ 0 ≤ x ∧ x < allI d) (hcs : RdsCn w cv cs) (hce : ∀ x ∈ cs, x = c) (hcn : cs.length ≤ 100) :
  Calls Try.prog 10 #[.agg #[.int .i64 d.W, .int .i64 d.H, .int .i64 d.T, .int .i64 d.R], pv, cv, wv] w (Ret w (fun v' post => ∃ k : Int, v' = .int .i64 k ∧ post = [] ∧ 0 ≤ k ∧ (SepQ d ws (outPinI d (pl.getD c.sb.toNat 0) c.sp) ((snkL d pl c.ps c.ps.length).getD 0 0) → k = cs.length))) := by
 refine calls_hc (N := 25) (args := [.agg #[.int .i64 d.W, .int .i64 d.H, .int .i64 d.T, .int .i64 d.R], pv, cv, wv]) Try.func10 rfl rfl ?_
 refine hc_less _ (sx 0 rfl (sx 1 rfl (sx 2 rfl (sx 3 rfl (sub_nil _))))) (.refl _) ?_
 refine hc_seq ?_
 refine hc_region ?_
 refine hl_box rfl rfl rfl (rq_box rfl rfl) ?_
 intro b1
 refine hl_v rfl rfl rfl (rv_ev rfl) ?_
 refine hl_less (sx 0 rfl (sx 1 rfl (sx 2 rfl (sx 3 rfl (sx 4 rfl (sx 8 rfl (sub_nil _))))))) (.refl _) ?_
 refine hl_nil ?_
 refine hq_then ?_
 refine hc_seq ?_
 refine hc_seq ?_
 refine hc_region ?_
 refine hl_v rfl rfl rfl (rv_loadN (cs := [.int .i64 d.W, .int .i64 d.H, .int .i64 d.T, .int .i64 d.R]) rfl (by kernel_rfl) (by kernel_rfl) rfl rfl (box_part 0 rfl 0 rfl)) ?_
 refine hl_callV rfl rfl rfl (rq_call (by kernel_rfl) rfl (fun w hm => ret_ans (implDeviceOk_any d w))) ?_
 refine hl_bool (fun h2 => ?_) (fun h2 => absurd ((hd).symm.trans h2) (by decide))
 refine hl_v rfl rfl rfl (rv_ev rfl) ?_
 refine hl_v rfl rfl rfl (rv_ev rfl) ?_
 refine hl_v rfl rfl rfl (rv_loadN (cs := [.int .i64 d.W, .int .i64 d.H, .int .i64 d.T, .int .i64 d.R]) rfl (by kernel_rfl) (by kernel_rfl) rfl rfl (box_part 0 rfl 0 rfl)) ?_
 refine hl_v rfl rfl rfl (rv_ev rfl) ?_
 refine hl_callV rfl rfl rfl (rq_call (by kernel_rfl) rfl (fun w hm => ret_ans (wireSetOk_yes d ws _ w (hwv.below hm.bel) hwl hasc hws))) ?_
 refine hl_v rfl rfl rfl (rv_ev rfl) ?_
 refine hl_v rfl rfl rfl (rv_ev rfl) ?_
 refine hl_less (sx 0 rfl (sx 1 rfl (sx 2 rfl (sx 3 rfl (sx 4 rfl (sx 8 rfl (sx 17 rfl (sub_nil _)))))))) (.refl _) ?_
 refine hl_nil ?_
 refine hq_then ?_
 refine hc_false rfl ?_
 refine hc_skip ?_
 refine hq_then ?_
 refine hc_seq ?_
 refine hc_draw (by kernel_rfl) 7 [0, 1, 2, 3, 4, 5, 6] (List.take 7 _) (List.drop 7 _) [[], [], [1], [], [], [], [0, 2, 3, 4, 5]] [18, 19, 20, 21, 22, 23, 24] (fun i_ vs_ v_ p_ => match i_ with | 0 => v_ = .agg #[.int .i64 d.W, .int .i64 d.H, .int .i64 d.T, .int .i64 d.R] ∧ p_ = [] | 1 => v_ = .agg #[.int .i64 d.W, .int .i64 d.H, .int .i64 d.T, .int .i64 d.R] ∧ p_ = [] | 2 => (fun v' post => ∃ (b : Nat) (g : Gr), v' = .pointer (some ⟨b, 0, none⟩) ∧ post = [grE b g] ∧ GrOk d (allI d).toNat g) v_ p_ | 3 => v_ = pv ∧ p_ = [] | 4 => v_ = cv ∧ p_ = [] | 5 => v_ = wv ∧ p_ = [] | 6 => (fun v' post => ∃ k : Int, v' = .int .i64 k ∧ post = [] ∧ 0 ≤ k ∧ (SepQ d ws (outPinI d (pl.getD c.sb.toNat 0) c.sp) ((snkL d pl c.ps c.ps.length).getD 0 0) → k = cs.length)) v_ p_ | _ => True) (List.take_append_drop 7 _).symm (by kernel_rfl) (by kernel_rfl) rfl rfl ?_ ?_
 ·
  refine ⟨?_, ?_, ?_, ?_, ?_, ?_, ?_, trivial⟩
  ·
   intro vf pf hR
   refine Or.inl ⟨rfl, ?_⟩
   refine rq_less (sx 4 rfl (sub_nil _)) (List.sublist_append_right _ _) ?_
   exact rq_v (rv_loadN (cs := [.int .i64 d.W, .int .i64 d.H, .int .i64 d.T, .int .i64 d.R]) rfl (by kernel_rfl) (by kernel_rfl) rfl rfl (box_part 0 rfl 0 rfl))
  ·
   intro vf pf hR
   refine Or.inl ⟨rfl, ?_⟩
   refine rq_less (sx 4 rfl (sub_nil _)) (List.sublist_append_right _ _) ?_
   exact rq_v (rv_loadN (cs := [.int .i64 d.W, .int .i64 d.H, .int .i64 d.T, .int .i64 d.R]) rfl (by kernel_rfl) (by kernel_rfl) rfl rfl (box_part 0 rfl 0 rfl))
  ·
   intro vf pf hR
   have e1 : (vf 1) = .agg #[.int .i64 d.W, .int .i64 d.H, .int .i64 d.T, .int .i64 d.R] ∧ (pf 1) = [] := hR 1 (by decide)
   refine Or.inl ⟨rfl, ?_⟩
   refine rq_less (sx 19 (congrArg some e1.1) (sub_nil _)) (List.sublist_append_right _ _) ?_
   exact rq_call (by kernel_rfl) rfl (fun w hm => graphOf_ret d w hd)
  ·
   intro vf pf hR
   refine Or.inl ⟨rfl, ?_⟩
   refine rq_less (sx 1 rfl (sub_nil _)) (List.sublist_append_right _ _) ?_
   exact rq_v (rv_ev rfl)
  ·
   intro vf pf hR
   refine Or.inl ⟨rfl, ?_⟩
   refine rq_less (sx 2 rfl (sub_nil _)) (List.sublist_append_right _ _) ?_
   exact rq_v (rv_ev rfl)
  ·
   intro vf pf hR
   refine Or.inl ⟨rfl, ?_⟩
   refine rq_less (sx 3 rfl (sub_nil _)) (List.sublist_append_right _ _) ?_
   exact rq_v (rv_ev rfl)
  ·
   intro vf pf hR
   have e0 : (vf 0) = .agg #[.int .i64 d.W, .int .i64 d.H, .int .i64 d.T, .int .i64 d.R] ∧ (pf 0) = [] := hR 0 (by decide)
   have e2 : (fun v' post => ∃ (b : Nat) (g : Gr), v' = .pointer (some ⟨b, 0, none⟩) ∧ post = [grE b g] ∧ GrOk d (allI d).toNat g) (vf 2) (pf 2) := hR 2 (by decide)
   obtain ⟨v3, v2⟩ : ∃ x, vf 2 = x := ⟨_, rfl⟩
   obtain ⟨p4, p2⟩ : ∃ x, pf 2 = x := ⟨_, rfl⟩
   have hR5 := e2
   rw [v2, p2] at hR5
   obtain ⟨b, g, rfl, rfl, hgk⟩ := hR5
   have e3 : (vf 3) = pv ∧ (pf 3) = [] := hR 3 (by decide)
   have e4 : (vf 4) = cv ∧ (pf 4) = [] := hR 4 (by decide)
   have e5 : (vf 5) = wv ∧ (pf 5) = [] := hR 5 (by decide)
   refine Or.inl ⟨rfl, ?_⟩
   refine rq_less (l' := [grE b g, boxE b1 #[.int .i64 d.W, .int .i64 d.H, .int .i64 d.T, .int .i64 d.R] 25]) (sx 18 (congrArg some e0.1) (sx 20 (congrArg some v2) (sx 21 (congrArg some e3.1) (sx 22 (congrArg some e4.1) (sx 23 (congrArg some e5.1) (sub_nil _)))))) (by first | (simp only [p2, v2, e0.2, e3.2, e4.2, e5.2, List.flatMap_cons, List.flatMap_nil, List.append_nil, List.nil_append, List.cons_append]; exact List.Sublist.refl _) | simp [p2, v2, e0.2, e3.2, e4.2, e5.2]) ?_
   exact rq_call (by kernel_rfl) rfl (fun w hm => separatedCount_ret d b g pl _ c cs _ ws _ w hd (gr_rds 0 rfl w hm) hgk (hpl.below hm.bel) hpn hs (hc.below hm.bel) hcl hok hin hso hsk (hwv.below hm.bel) hwl hws (hcs.below hm.bel) hce hcn)
 ·
  intro vf pf hR
  have e2 : (fun v' post => ∃ (b : Nat) (g : Gr), v' = .pointer (some ⟨b, 0, none⟩) ∧ post = [grE b g] ∧ GrOk d (allI d).toNat g) (vf 2) (pf 2) := hR 2 (by decide)
  obtain ⟨v3, v2⟩ : ∃ x, vf 2 = x := ⟨_, rfl⟩
  obtain ⟨p4, p2⟩ : ∃ x, pf 2 = x := ⟨_, rfl⟩
  have hR5 := e2
  rw [v2, p2] at hR5
  obtain ⟨b, g, rfl, rfl, hgk⟩ := hR5
  have e6 : (fun v' post => ∃ k : Int, v' = .int .i64 k ∧ post = [] ∧ 0 ≤ k ∧ (SepQ d ws (outPinI d (pl.getD c.sb.toNat 0) c.sp) ((snkL d pl c.ps c.ps.length).getD 0 0) → k = cs.length)) (vf 6) (pf 6) := hR 6 (by decide)
  obtain ⟨v6, v6⟩ : ∃ x, vf 6 = x := ⟨_, rfl⟩
  obtain ⟨p7, p6⟩ : ∃ x, pf 6 = x := ⟨_, rfl⟩
  have hR8 := e6
  rw [v6, p6] at hR8
  obtain ⟨k, rfl, rfl, hk0, hk1⟩ := hR8
  have q0 : (vf 0) = .agg #[.int .i64 d.W, .int .i64 d.H, .int .i64 d.T, .int .i64 d.R] ∧ (pf 0) = [] := hR 0 (by decide)
  have q1 : (vf 1) = .agg #[.int .i64 d.W, .int .i64 d.H, .int .i64 d.T, .int .i64 d.R] ∧ (pf 1) = [] := hR 1 (by decide)
  have q3 : (vf 3) = pv ∧ (pf 3) = [] := hR 3 (by decide)
  have q4 : (vf 4) = cv ∧ (pf 4) = [] := hR 4 (by decide)
  have q5 : (vf 5) = wv ∧ (pf 5) = [] := hR 5 (by decide)
  refine hl_less (l' := [grE b g, boxE b1 #[.int .i64 d.W, .int .i64 d.H, .int .i64 d.T, .int .i64 d.R] 25]) (sx 0 rfl (sx 1 rfl (sx 2 rfl (sx 3 rfl (sx 4 rfl (sx 8 rfl (sx 17 rfl (sx 24 (congrArg some v6) (sub_nil _))))))))) (by first | (simp only [p2, v2, p6, v6, q0.2, q1.2, q3.2, q4.2, q5.2, List.flatMap_cons, List.flatMap_nil, List.append_nil, List.nil_append, List.cons_append]; exact List.Sublist.refl _) | simp [p2, v2, p6, v6, q0.2, q1.2, q3.2, q4.2, q5.2]) ?_
  simp only [List.drop_succ_cons, List.drop_zero]
  refine hl_v rfl rfl rfl (rv_ev rfl) ?_
  refine hl_less (sx 0 rfl (sx 1 rfl (sx 2 rfl (sx 3 rfl (sx 4 rfl (sx 8 rfl (sx 17 rfl (sub_nil _)))))))) (.refl _) ?_
  refine hl_nil ?_
  refine hq_then ?_
  refine hc_ret ?_
  exact hq_retR (post := []) rfl rfl ((.cons _ (.cons _ .slnil))) ⟨k, rfl, rfl, hk0, hk1⟩
theorem in0 {d : Dev} {t : Int} (hd : devB d = true) (h0 : 0 ≤ t) (h1 : t < d.W * d.H) : 0 ≤ inPinI d t 0 ∧ inPinI d t 0 < allI d ∧ inPinI d t 0 / perI d = t := by
  obtain ⟨q1, q2⟩ := per_rng hd
  have h2 := inPins_rng d t
  have e : inPinI d t 0 = t * perI d + 0 := by unfold inPinI; rw [if_pos ⟨tok_in hd h0 h1, by omega, by omega⟩]
  obtain ⟨f1, f2⟩ := xy_of (W := perI d) (x := 0) (y := t) (by omega) (by omega) (by omega)
  have m := per_mul hd h0 (show t ≤ d.W * d.H - 1 by omega)
  have e7 : t * perI d ≤ (d.W * d.H - 1) * perI d := Int.mul_le_mul_of_nonneg_right (by omega) (by omega)
  have e6 : (d.W * d.H - 1) * perI d = allI d - perI d := by rw [Int.sub_mul, Int.one_mul]; rfl
  rw [e]
  exact ⟨by omega, by omega, f2⟩
theorem sep_of {d : Dev} {low : Int → Bool} {p0 p1 : Int} (hd : devB d = true) (h0 : 0 ≤ p0 ∧ p0 < d.W * d.H) (h1 : 0 ≤ p1 ∧ p1 < d.W * d.H) (hne : low p0 ≠ low p1) : SepQ d (crL d low (allI d).toNat) (outPinI d p0 0) (inPinI d p1 0) := by
  obtain ⟨ra1, ra2⟩ := all_rng hd
  refine ⟨low, fun y y0 y1 hy => crL_mem.2 ⟨⟨y0, by omega⟩, hy⟩, ?_⟩
  rw [(out0 hd h0.1 h0.2).2.2.2.2, (in0 hd h1.1 h1.2).2.2]; exact hne
abbrev cnS (v : Value) : Cn := Cn.mk 1 0 0 v [Pn.mk 1 0]
theorem src_apart {d : Dev} {low : Int → Bool} {p0 : Int} (hd : devB d = true) (h0 : 0 ≤ p0 ∧ p0 < d.W * d.H) : 0 ≤ outPinI d p0 0 ∧ outPinI d p0 0 < allI d ∧ ¬ outPinI d p0 0 ∈ crL d low (allI d).toNat := by
  obtain ⟨-, e2, e3, e4, -⟩ := out0 hd h0.1 h0.2
  refine ⟨e2, e3, fun h => ?_⟩
  have := (isWire_rng (crL_wire h).1).2.2.2.1
  omega
theorem crL_ok {d : Dev} {low : Int → Bool} (hd : devB d = true) : ∀ x ∈ crL d low (allI d).toNat, isWireI d x = true ∧ 0 ≤ x ∧ x < allI d := fun x hx => by
  obtain ⟨ra1, ra2⟩ := all_rng hd
  obtain ⟨a, b, c⟩ := crL_wire hx
  exact ⟨a, b, by omega⟩
theorem pn_sink (v : Value) : ∀ k, k < (cnS v).ps.length → PnOk 2 ((cnS v).ps.getD k pn0).b ((cnS v).ps.getD k pn0).p := fun k hk => by
  have : k = 0 := by simpa using hk
  subst this
  exact ⟨by simp, by simp, by simp, by simp⟩
theorem pn_sin {d : Dev} {p0 p1 : Int} (v : Value) (hd : devB d = true) (h1 : 0 ≤ p1 ∧ p1 < d.W * d.H) : ∀ k, k < (cnS v).ps.length → 0 ≤ inPinI d ([p0, p1].getD ((cnS v).ps.getD k pn0).b.toNat 0) ((cnS v).ps.getD k pn0).p := fun k hk => by
  have : k = 0 := by simpa using hk
  subst this
  exact (in0 hd h1.1 h1.2).1
theorem pn_rng {d : Dev} {p0 p1 : Int} (v : Value) (hd : devB d = true) (h1 : 0 ≤ p1 ∧ p1 < d.W * d.H) : ∀ k, k < (snkL d [p0, p1] (cnS v).ps (cnS v).ps.length).length → 0 ≤ (snkL d [p0, p1] (cnS v).ps (cnS v).ps.length).getD k 0 ∧ (snkL d [p0, p1] (cnS v).ps (cnS v).ps.length).getD k 0 < allI d := fun k hk => by
  rw [snk_len _ _ (Nat.le_refl _)] at hk
  have : k = 0 := by simpa using hk
  subst this
  obtain ⟨a, b, -⟩ := in0 hd h1.1 h1.2
  exact ⟨a, b⟩
theorem IsSeparated_law (d : Dev) (low : Int → Bool) (p0 p1 : Int) (pv sv wv : Value) (w : World) (hd : devB d = true) (h0 : 0 ≤ p0 ∧ p0 < d.W * d.H) (h1 : 0 ≤ p1 ∧ p1 < d.W * d.H) (hpl : RdsW w pv 1 2 ([p0, p1].map (Value.int .i64))) (hc : RdsW w sv 2 1 ([Pn.mk 1 0].flatMap pnC))
    (hwv : RdsW w wv 1 (crL d low (allI d).toNat).length ((crL d low (allI d).toNat).map (Value.int .i64))) (hne : low p0 ≠ low p1) :
    Calls Try.prog 9 #[.agg #[.int .i64 d.W, .int .i64 d.H, .int .i64 d.T, .int .i64 d.R], pv, .agg #[.int .i64 1, .int .i64 0, .int .i64 0, sv], wv] w (Ans w (.bool true)) :=
  IsSeparated_yes d [p0, p1] pv (cnS sv) (crL d low (allI d).toNat) wv w hd hpl (by simp) ⟨by simp, by simp, by simp, by simp⟩ hc ⟨by simp, by simp⟩ (pn_sink sv) (pn_sin sv hd h1) (src_apart hd h0) (pn_rng sv hd h1) hwv
    (by obtain ⟨ra1, ra2⟩ := all_rng hd; have := crL_len d low (allI d).toNat; omega) (crL_sorted _ _ _) (crL_ok hd) (sep_of hd h0 h1 hne)
theorem SeparatedCount_law (d : Dev) (low : Int → Bool) (p0 p1 : Int) (pv sv cv wv : Value) (w : World) (hd : devB d = true) (h0 : 0 ≤ p0 ∧ p0 < d.W * d.H) (h1 : 0 ≤ p1 ∧ p1 < d.W * d.H) (hpl : RdsW w pv 1 2 ([p0, p1].map (Value.int .i64))) (hc : RdsW w sv 2 1 ([Pn.mk 1 0].flatMap pnC))
    (hcv : RdsW w cv 4 2 ([cnS sv, cnS sv].flatMap cnC)) (hwv : RdsW w wv 1 (crL d low (allI d).toNat).length ((crL d low (allI d).toNat).map (Value.int .i64))) :
    Calls Try.prog 10 #[.agg #[.int .i64 d.W, .int .i64 d.H, .int .i64 d.T, .int .i64 d.R], pv, cv, wv] w (Ret w (fun v' post => ∃ k : Int, v' = .int .i64 k ∧ post = [] ∧ 0 ≤ k ∧ (low p0 ≠ low p1 → k = 2))) := by
  refine (SeparatedCount_ret d [p0, p1] pv (cnS sv) [cnS sv, cnS sv] cv (crL d low (allI d).toNat) wv w hd hpl (by simp) ⟨by simp, by simp, by simp, by simp⟩ hc ⟨by simp, by simp⟩ (pn_sink sv) (pn_sin sv hd h1) (src_apart hd h0) (pn_rng sv hd h1) hwv
    (by obtain ⟨ra1, ra2⟩ := all_rng hd; have := crL_len d low (allI d).toNat; omega) (crL_sorted _ _ _) (crL_ok hd) ⟨hcv, fun x hx => by rcases List.mem_cons.1 hx with rfl | hx; exact hc; rw [List.mem_singleton.1 hx]; exact hc⟩ (fun x hx => by rcases List.mem_cons.1 hx with rfl | hx; rfl; exact List.mem_singleton.1 hx) (by simp)).mono ?_
  rintro e w' ⟨v, post, rfl, ⟨k, rfl, rfl, hk0, hk1⟩, hm⟩
  exact ⟨_, [], rfl, ⟨k, rfl, rfl, hk0, fun hne => hk1 (sep_of hd h0 h1 hne)⟩, hm⟩
set_option maxHeartbeats 4000000 in
set_option maxRecDepth 100000 in
theorem walk_FnLineSeparates (a0 : Option Addr) (len0 cap0 : Nat) (z0 : List Int) (w : World) (hbr : BRow .u8 w a0 len0 cap0 z0) :
  Calls Try.prog 3 #[.slice a0 len0 cap0] w (Ans w (.bool true)) := by
 have hcd0 := cod_le hbr 0
 have hcd1 := cod_le hbr 1
 have hcd2 := cod_le hbr 2
 have hcd3 := cod_le hbr 3
 refine calls_hc (N := 130) (args := [.slice a0 len0 cap0]) Try.func3 rfl rfl ?_
 refine hc_less _ (sx 0 rfl (sub_nil _)) (.refl _) ?_
 refine hc_seq ?_
 refine hc_region ?_
 refine hl_v rfl rfl rfl (rv_ev rfl) ?_
 refine hl_less (sx 0 rfl (sx 2 rfl (sub_nil _))) (.refl _) ?_
 refine hl_nil ?_
 refine hq_then ?_
 refine hc_seq ?_
 refine hc_seq ?_
 refine hc_region ?_
 refine hl_v rfl rfl rfl (rv_ev rfl) ?_
 refine hl_callV rfl rfl rfl (rq_call (by kernel_rfl) rfl (fun w hm => ret_ans (ans_of (big_any a0 len0 cap0 w (hbr.len_le))))) ?_
 refine hl_bool (fun h1 => ?_) (fun h1 => ?_)
 ·
  have h1p := of_decide_eq_true h1
  refine hl_less (sx 0 rfl (sx 2 rfl (sx 13 rfl (sub_nil _)))) (.refl _) ?_
  refine hl_nil ?_
  refine hq_then ?_
  refine hc_true rfl ?_
  refine hc_seq ?_
  refine hc_region ?_
  refine hl_v rfl rfl rfl (rv_ev rfl) ?_
  refine hl_less (sx 0 rfl (sx 2 rfl (sx 13 rfl (sub_nil _)))) (.refl _) ?_
  refine hl_nil ?_
  refine hq_then ?_
  refine hc_ret ?_
  refine hq_then_ret ?_
  exact hq_ans rfl rfl rfl
 ·
  have h1p := of_decide_eq_false h1
  refine hl_less (sx 0 rfl (sx 2 rfl (sx 13 rfl (sub_nil _)))) (.refl _) ?_
  refine hl_nil ?_
  refine hq_then ?_
  refine hc_false rfl ?_
  refine hc_skip ?_
  refine hq_then ?_
  refine hc_seq ?_
  refine hc_region ?_
  refine hl_v rfl rfl rfl (rv_ev rfl) ?_
  refine hl_q rfl rfl rfl (rq_call (by kernel_rfl) rfl (fun w hm => drawDev_ret hbr (by omega) w hm)) ?_
  intro v2 p3 hR4
  obtain ⟨d, hd, rfl, rfl⟩ := hR4
  have hv := hd.ok
  refine hl_box rfl rfl rfl (rq_alloc (z := .agg #[.int .i64 0, .int .i64 0, .int .i64 0, .int .i64 0]) rfl (by kernel_rfl)) ?_
  intro b5
  refine hl_storeBoxN (i := 0) (off := 0) (us := [.int .i64 d.W, .int .i64 d.H, .int .i64 d.T, .int .i64 d.R]) (l' := [boxE b5 #[.int .i64 d.W, .int .i64 d.H, .int .i64 d.T, .int .i64 d.R] 25]) rfl rfl rfl (by kernel_rfl) rfl rfl rfl (all_cons rfl (all_cons rfl (all_cons rfl (all_cons rfl all_nil)))) rfl rfl rfl ?_
  refine hl_less (sx 0 rfl (sx 2 rfl (sx 3 rfl (sx 13 rfl (sub_nil _))))) (.refl _) ?_
  refine hl_nil ?_
  refine hq_then ?_
  refine hc_seq ?_
  obtain ⟨⟨a1, a2⟩, ⟨b1, b2⟩, -, -⟩ := (devB_iff d).1 hv
  have har := area_le hv
  refine hc_draw (by kernel_rfl) 6 [0, 1, 2, 3, 4, 5] (List.take 6 _) (List.drop 6 _) [[], [0], [], [2], [3], [1, 4]] [16, 17, 18, 19, 20, 21] (fun i_ vs_ v_ p_ => match i_ with | 0 => v_ = .slice a0 len0 cap0 ∧ p_ = [] | 1 => v_ = .int .i64 (cod z0 len0 0 : Int) ∧ p_ = [] | 2 => v_ = .pointer (some ⟨b5, 0 + 0, none⟩) ∧ p_ = [] | 3 => v_ = .int .i64 d.W ∧ p_ = [] | 4 => v_ = .int .i64 (d.W - 1) ∧ p_ = [] | 5 => v_ = .int .i64 ((cod z0 len0 0 : Int) % (d.W - 1)) ∧ p_ = [] | _ => True) (List.take_append_drop 6 _).symm (by kernel_rfl) (by kernel_rfl) rfl rfl ?_ ?_
  ·
   refine ⟨?_, ?_, ?_, ?_, ?_, ?_, trivial⟩
   ·
    intro vf pf hR
    refine Or.inl ⟨rfl, ?_⟩
    refine rq_less (sx 0 rfl (sub_nil _)) (List.sublist_append_right _ _) ?_
    exact rq_v (rv_ev rfl)
   ·
    intro vf pf hR
    have e0 : (vf 0) = .slice a0 len0 cap0 ∧ (pf 0) = [] := hR 0 (by decide)
    refine Or.inl ⟨rfl, ?_⟩
    refine rq_less (sx 16 (congrArg some e0.1) (sub_nil _)) (List.sublist_append_right _ _) ?_
    exact (rq_call (by kernel_rfl) rfl (fun w hm => ret_ans (at_ans hbr 0 (by omega) w hm)))
   ·
    intro vf pf hR
    refine Or.inl ⟨rfl, ?_⟩
    refine rq_less (sx 3 rfl (sub_nil _)) (List.sublist_append_right _ _) ?_
    exact rq_v (rv_field (k0 := 0) rfl (by kernel_rfl) rfl)
   ·
    intro vf pf hR
    have e2 : (vf 2) = .pointer (some ⟨b5, 0 + 0, none⟩) ∧ (pf 2) = [] := hR 2 (by decide)
    refine Or.inl ⟨rfl, ?_⟩
    refine rq_less (sx 18 (congrArg some e2.1) (sub_nil _)) (List.sublist_append_right _ _) ?_
    exact rq_v (rv_load rfl (by kernel_rfl) rfl (box_cell 0 rfl rfl))
   ·
    intro vf pf hR
    have e3 : (vf 3) = .int .i64 d.W ∧ (pf 3) = [] := hR 3 (by decide)
    refine Or.inl ⟨rfl, ?_⟩
    refine rq_less (sx 19 (congrArg some e3.1) (sub_nil _)) (List.sublist_append_right _ _) ?_
    exact rq_v (rv_sub rfl rfl rfl (by constructor <;> omega))
   ·
    intro vf pf hR
    have e1 : (vf 1) = .int .i64 (cod z0 len0 0 : Int) ∧ (pf 1) = [] := hR 1 (by decide)
    have e4 : (vf 4) = .int .i64 (d.W - 1) ∧ (pf 4) = [] := hR 4 (by decide)
    refine Or.inl ⟨rfl, ?_⟩
    refine rq_less (sx 17 (congrArg some e1.1) (sx 20 (congrArg some e4.1) (sub_nil _))) (List.sublist_append_right _ _) ?_
    exact rq_v (rv_rem rfl rfl rfl (by constructor <;> omega))
  ·
   intro vf pf hR
   have e5 : (vf 5) = .int .i64 ((cod z0 len0 0 : Int) % (d.W - 1)) ∧ (pf 5) = [] := hR 5 (by decide)
   refine hl_less (l' := [boxE b5 #[.int .i64 d.W, .int .i64 d.H, .int .i64 d.T, .int .i64 d.R] 25]) (sx 0 rfl (sx 2 rfl (sx 3 rfl (sx 13 rfl (sx 21 (congrArg some e5.1) (sub_nil _)))))) (List.sublist_append_right _ _) ?_
   simp only [List.drop_succ_cons, List.drop_zero]
   refine hl_v rfl rfl rfl (rv_ev rfl) ?_
   refine hl_less (sx 0 rfl (sx 2 rfl (sx 3 rfl (sx 4 rfl (sx 13 rfl (sub_nil _)))))) (.refl _) ?_
   refine hl_nil ?_
   refine hq_then ?_
   refine hc_seq ?_
   refine hc_draw (by kernel_rfl) 6 [0, 1, 2, 3, 4, 5] (List.take 6 _) (List.drop 6 _) [[], [0], [], [2], [3], [1, 4]] [22, 23, 24, 25, 26, 27] (fun i_ vs_ v_ p_ => match i_ with | 0 => v_ = .slice a0 len0 cap0 ∧ p_ = [] | 1 => v_ = .int .i64 (cod z0 len0 1 : Int) ∧ p_ = [] | 2 => v_ = .pointer (some ⟨b5, 0 + 1, none⟩) ∧ p_ = [] | 3 => v_ = .int .i64 d.H ∧ p_ = [] | 4 => v_ = .int .i64 (d.H - 1) ∧ p_ = [] | 5 => v_ = .int .i64 ((cod z0 len0 1 : Int) % (d.H - 1)) ∧ p_ = [] | _ => True) (List.take_append_drop 6 _).symm (by kernel_rfl) (by kernel_rfl) rfl rfl ?_ ?_
   ·
    refine ⟨?_, ?_, ?_, ?_, ?_, ?_, trivial⟩
    ·
     intro vf pf hR
     refine Or.inl ⟨rfl, ?_⟩
     refine rq_less (sx 0 rfl (sub_nil _)) (List.sublist_append_right _ _) ?_
     exact rq_v (rv_ev rfl)
    ·
     intro vf pf hR
     have e0 : (vf 0) = .slice a0 len0 cap0 ∧ (pf 0) = [] := hR 0 (by decide)
     refine Or.inl ⟨rfl, ?_⟩
     refine rq_less (sx 22 (congrArg some e0.1) (sub_nil _)) (List.sublist_append_right _ _) ?_
     exact (rq_call (by kernel_rfl) rfl (fun w hm => ret_ans (at_ans hbr 1 (by omega) w hm)))
    ·
     intro vf pf hR
     refine Or.inl ⟨rfl, ?_⟩
     refine rq_less (sx 3 rfl (sub_nil _)) (List.sublist_append_right _ _) ?_
     exact rq_v (rv_field (k0 := 1) rfl (by kernel_rfl) rfl)
    ·
     intro vf pf hR
     have e2 : (vf 2) = .pointer (some ⟨b5, 0 + 1, none⟩) ∧ (pf 2) = [] := hR 2 (by decide)
     refine Or.inl ⟨rfl, ?_⟩
     refine rq_less (sx 24 (congrArg some e2.1) (sub_nil _)) (List.sublist_append_right _ _) ?_
     exact rq_v (rv_load rfl (by kernel_rfl) rfl (box_cell 0 rfl rfl))
    ·
     intro vf pf hR
     have e3 : (vf 3) = .int .i64 d.H ∧ (pf 3) = [] := hR 3 (by decide)
     refine Or.inl ⟨rfl, ?_⟩
     refine rq_less (sx 25 (congrArg some e3.1) (sub_nil _)) (List.sublist_append_right _ _) ?_
     exact rq_v (rv_sub rfl rfl rfl (by constructor <;> omega))
    ·
     intro vf pf hR
     have e1 : (vf 1) = .int .i64 (cod z0 len0 1 : Int) ∧ (pf 1) = [] := hR 1 (by decide)
     have e4 : (vf 4) = .int .i64 (d.H - 1) ∧ (pf 4) = [] := hR 4 (by decide)
     refine Or.inl ⟨rfl, ?_⟩
     refine rq_less (sx 23 (congrArg some e1.1) (sx 26 (congrArg some e4.1) (sub_nil _))) (List.sublist_append_right _ _) ?_
     exact rq_v (rv_rem rfl rfl rfl (by constructor <;> omega))
   ·
    intro vf pf hR
    have e5 : (vf 5) = .int .i64 ((cod z0 len0 1 : Int) % (d.H - 1)) ∧ (pf 5) = [] := hR 5 (by decide)
    refine hl_less (l' := [boxE b5 #[.int .i64 d.W, .int .i64 d.H, .int .i64 d.T, .int .i64 d.R] 25]) (sx 0 rfl (sx 2 rfl (sx 3 rfl (sx 4 rfl (sx 13 rfl (sx 27 (congrArg some e5.1) (sub_nil _))))))) (List.sublist_append_right _ _) ?_
    simp only [List.drop_succ_cons, List.drop_zero]
    refine hl_v rfl rfl rfl (rv_ev rfl) ?_
    refine hl_less (sx 0 rfl (sx 2 rfl (sx 3 rfl (sx 4 rfl (sx 5 rfl (sx 13 rfl (sub_nil _))))))) (.refl _) ?_
    refine hl_nil ?_
    refine hq_then ?_
    refine hc_seq ?_
    refine hc_draw (by kernel_rfl) 17 [0, 1, 2, 3, 4, 5, 6, 7, 8, 9, 10, 11, 12, 13, 14, 15, 16] (List.take 17 _) (List.drop 17 _) [[], [0], [], [2], [], [4], [3, 5], [1, 6], [], [8], [], [10], [], [12], [11, 13], [9, 14], [7, 15]] [28, 29, 30, 31, 32, 33, 34, 35, 36, 37, 38, 39, 40, 41, 42, 43, 44] (fun i_ vs_ v_ p_ => match i_ with | 0 => v_ = .slice a0 len0 cap0 ∧ p_ = [] | 1 => v_ = .int .i64 (cod z0 len0 2 : Int) ∧ p_ = [] | 2 => v_ = .pointer (some ⟨b5, 0 + 0, none⟩) ∧ p_ = [] | 3 => v_ = .int .i64 d.W ∧ p_ = [] | 4 => v_ = .pointer (some ⟨b5, 0 + 1, none⟩) ∧ p_ = [] | 5 => v_ = .int .i64 d.H ∧ p_ = [] | 6 => v_ = .int .i64 (d.W * d.H) ∧ p_ = [] | 7 => v_ = .int .i64 ((cod z0 len0 2 : Int) % (d.W * d.H)) ∧ p_ = [] | 8 => v_ = .slice a0 len0 cap0 ∧ p_ = [] | 9 => v_ = .int .i64 (cod z0 len0 3 : Int) ∧ p_ = [] | 10 => v_ = .pointer (some ⟨b5, 0 + 0, none⟩) ∧ p_ = [] | 11 => v_ = .int .i64 d.W ∧ p_ = [] | 12 => v_ = .pointer (some ⟨b5, 0 + 1, none⟩) ∧ p_ = [] | 13 => v_ = .int .i64 d.H ∧ p_ = [] | 14 => v_ = .int .i64 (d.W * d.H) ∧ p_ = [] | 15 => v_ = .int .i64 ((cod z0 len0 3 : Int) % (d.W * d.H)) ∧ p_ = [] | 16 => IsRow_o 3 1 2 ([(cod z0 len0 2 : Int) % (d.W * d.H), (cod z0 len0 3 : Int) % (d.W * d.H)].map (Value.int .i64)) v_ p_ | _ => True) (List.take_append_drop 17 _).symm (by kernel_rfl) (by kernel_rfl) rfl rfl ?_ ?_
    ·
     refine ⟨?_, ?_, ?_, ?_, ?_, ?_, ?_, ?_, ?_, ?_, ?_, ?_, ?_, ?_, ?_, ?_, ?_, trivial⟩
     ·
      intro vf pf hR
      refine Or.inl ⟨rfl, ?_⟩
      refine rq_less (sx 0 rfl (sub_nil _)) (List.sublist_append_right _ _) ?_
      exact rq_v (rv_ev rfl)
     ·
      intro vf pf hR
      have e0 : (vf 0) = .slice a0 len0 cap0 ∧ (pf 0) = [] := hR 0 (by decide)
      refine Or.inl ⟨rfl, ?_⟩
      refine rq_less (sx 28 (congrArg some e0.1) (sub_nil _)) (List.sublist_append_right _ _) ?_
      exact (rq_call (by kernel_rfl) rfl (fun w hm => ret_ans (at_ans hbr 2 (by omega) w hm)))
     ·
      intro vf pf hR
      refine Or.inl ⟨rfl, ?_⟩
      refine rq_less (sx 3 rfl (sub_nil _)) (List.sublist_append_right _ _) ?_
      exact rq_v (rv_field (k0 := 0) rfl (by kernel_rfl) rfl)
     ·
      intro vf pf hR
      have e2 : (vf 2) = .pointer (some ⟨b5, 0 + 0, none⟩) ∧ (pf 2) = [] := hR 2 (by decide)
      refine Or.inl ⟨rfl, ?_⟩
      refine rq_less (sx 30 (congrArg some e2.1) (sub_nil _)) (List.sublist_append_right _ _) ?_
      exact rq_v (rv_load rfl (by kernel_rfl) rfl (box_cell 0 rfl rfl))
     ·
      intro vf pf hR
      refine Or.inl ⟨rfl, ?_⟩
      refine rq_less (sx 3 rfl (sub_nil _)) (List.sublist_append_right _ _) ?_
      exact rq_v (rv_field (k0 := 1) rfl (by kernel_rfl) rfl)
     ·
      intro vf pf hR
      have e4 : (vf 4) = .pointer (some ⟨b5, 0 + 1, none⟩) ∧ (pf 4) = [] := hR 4 (by decide)
      refine Or.inl ⟨rfl, ?_⟩
      refine rq_less (sx 32 (congrArg some e4.1) (sub_nil _)) (List.sublist_append_right _ _) ?_
      exact rq_v (rv_load rfl (by kernel_rfl) rfl (box_cell 0 rfl rfl))
     ·
      intro vf pf hR
      have e3 : (vf 3) = .int .i64 d.W ∧ (pf 3) = [] := hR 3 (by decide)
      have e5 : (vf 5) = .int .i64 d.H ∧ (pf 5) = [] := hR 5 (by decide)
      refine Or.inl ⟨rfl, ?_⟩
      refine rq_less (sx 31 (congrArg some e3.1) (sx 33 (congrArg some e5.1) (sub_nil _))) (List.sublist_append_right _ _) ?_
      exact rq_v (rv_mul rfl rfl rfl (by constructor <;> omega))
     ·
      intro vf pf hR
      have e1 : (vf 1) = .int .i64 (cod z0 len0 2 : Int) ∧ (pf 1) = [] := hR 1 (by decide)
      have e6 : (vf 6) = .int .i64 (d.W * d.H) ∧ (pf 6) = [] := hR 6 (by decide)
      refine Or.inl ⟨rfl, ?_⟩
      refine rq_less (sx 29 (congrArg some e1.1) (sx 34 (congrArg some e6.1) (sub_nil _))) (List.sublist_append_right _ _) ?_
      exact rq_v (rv_rem rfl rfl rfl (by constructor <;> omega))
     ·
      intro vf pf hR
      refine Or.inl ⟨rfl, ?_⟩
      refine rq_less (sx 0 rfl (sub_nil _)) (List.sublist_append_right _ _) ?_
      exact rq_v (rv_ev rfl)
     ·
      intro vf pf hR
      have e8 : (vf 8) = .slice a0 len0 cap0 ∧ (pf 8) = [] := hR 8 (by decide)
      refine Or.inl ⟨rfl, ?_⟩
      refine rq_less (sx 36 (congrArg some e8.1) (sub_nil _)) (List.sublist_append_right _ _) ?_
      exact (rq_call (by kernel_rfl) rfl (fun w hm => ret_ans (at_ans hbr 3 (by omega) w hm)))
     ·
      intro vf pf hR
      refine Or.inl ⟨rfl, ?_⟩
      refine rq_less (sx 3 rfl (sub_nil _)) (List.sublist_append_right _ _) ?_
      exact rq_v (rv_field (k0 := 0) rfl (by kernel_rfl) rfl)
     ·
      intro vf pf hR
      have e10 : (vf 10) = .pointer (some ⟨b5, 0 + 0, none⟩) ∧ (pf 10) = [] := hR 10 (by decide)
      refine Or.inl ⟨rfl, ?_⟩
      refine rq_less (sx 38 (congrArg some e10.1) (sub_nil _)) (List.sublist_append_right _ _) ?_
      exact rq_v (rv_load rfl (by kernel_rfl) rfl (box_cell 0 rfl rfl))
     ·
      intro vf pf hR
      refine Or.inl ⟨rfl, ?_⟩
      refine rq_less (sx 3 rfl (sub_nil _)) (List.sublist_append_right _ _) ?_
      exact rq_v (rv_field (k0 := 1) rfl (by kernel_rfl) rfl)
     ·
      intro vf pf hR
      have e12 : (vf 12) = .pointer (some ⟨b5, 0 + 1, none⟩) ∧ (pf 12) = [] := hR 12 (by decide)
      refine Or.inl ⟨rfl, ?_⟩
      refine rq_less (sx 40 (congrArg some e12.1) (sub_nil _)) (List.sublist_append_right _ _) ?_
      exact rq_v (rv_load rfl (by kernel_rfl) rfl (box_cell 0 rfl rfl))
     ·
      intro vf pf hR
      have e11 : (vf 11) = .int .i64 d.W ∧ (pf 11) = [] := hR 11 (by decide)
      have e13 : (vf 13) = .int .i64 d.H ∧ (pf 13) = [] := hR 13 (by decide)
      refine Or.inl ⟨rfl, ?_⟩
      refine rq_less (sx 39 (congrArg some e11.1) (sx 41 (congrArg some e13.1) (sub_nil _))) (List.sublist_append_right _ _) ?_
      exact rq_v (rv_mul rfl rfl rfl (by constructor <;> omega))
     ·
      intro vf pf hR
      have e9 : (vf 9) = .int .i64 (cod z0 len0 3 : Int) ∧ (pf 9) = [] := hR 9 (by decide)
      have e14 : (vf 14) = .int .i64 (d.W * d.H) ∧ (pf 14) = [] := hR 14 (by decide)
      refine Or.inl ⟨rfl, ?_⟩
      refine rq_less (sx 37 (congrArg some e9.1) (sx 42 (congrArg some e14.1) (sub_nil _))) (List.sublist_append_right _ _) ?_
      exact rq_v (rv_rem rfl rfl rfl (by constructor <;> omega))
     ·
      intro vf pf hR
      have e7 : (vf 7) = .int .i64 ((cod z0 len0 2 : Int) % (d.W * d.H)) ∧ (pf 7) = [] := hR 7 (by decide)
      have e15 : (vf 15) = .int .i64 ((cod z0 len0 3 : Int) % (d.W * d.H)) ∧ (pf 15) = [] := hR 15 (by decide)
      refine Or.inl ⟨rfl, ?_⟩
      refine rq_less (sx 35 (congrArg some e7.1) (sx 43 (congrArg some e15.1) (sub_nil _))) (List.sublist_append_right _ _) ?_
      exact rq_buildSlice (z := .int .i64 0) (s := 1) (cs := ([(cod z0 len0 2 : Int) % (d.W * d.H), (cod z0 len0 3 : Int) % (d.W * d.H)].map (Value.int .i64))) rfl Try.underlying28 (by kernel_rfl) (by decide) rfl (by kernel_rfl) rfl
    ·
     intro vf pf hR
     have e16 : IsRow_o 3 1 2 ([(cod z0 len0 2 : Int) % (d.W * d.H), (cod z0 len0 3 : Int) % (d.W * d.H)].map (Value.int .i64)) (vf 16) (pf 16) := hR 16 (by decide)
     obtain ⟨g6, v16, p16⟩ := e16
     have q0 : (vf 0) = .slice a0 len0 cap0 ∧ (pf 0) = [] := hR 0 (by decide)
     have q1 : (vf 1) = .int .i64 (cod z0 len0 2 : Int) ∧ (pf 1) = [] := hR 1 (by decide)
     have q2 : (vf 2) = .pointer (some ⟨b5, 0 + 0, none⟩) ∧ (pf 2) = [] := hR 2 (by decide)
     have q3 : (vf 3) = .int .i64 d.W ∧ (pf 3) = [] := hR 3 (by decide)
     have q4 : (vf 4) = .pointer (some ⟨b5, 0 + 1, none⟩) ∧ (pf 4) = [] := hR 4 (by decide)
     have q5 : (vf 5) = .int .i64 d.H ∧ (pf 5) = [] := hR 5 (by decide)
     have q6 : (vf 6) = .int .i64 (d.W * d.H) ∧ (pf 6) = [] := hR 6 (by decide)
     have q7 : (vf 7) = .int .i64 ((cod z0 len0 2 : Int) % (d.W * d.H)) ∧ (pf 7) = [] := hR 7 (by decide)
     have q8 : (vf 8) = .slice a0 len0 cap0 ∧ (pf 8) = [] := hR 8 (by decide)
     have q9 : (vf 9) = .int .i64 (cod z0 len0 3 : Int) ∧ (pf 9) = [] := hR 9 (by decide)
     have q10 : (vf 10) = .pointer (some ⟨b5, 0 + 0, none⟩) ∧ (pf 10) = [] := hR 10 (by decide)
     have q11 : (vf 11) = .int .i64 d.W ∧ (pf 11) = [] := hR 11 (by decide)
     have q12 : (vf 12) = .pointer (some ⟨b5, 0 + 1, none⟩) ∧ (pf 12) = [] := hR 12 (by decide)
     have q13 : (vf 13) = .int .i64 d.H ∧ (pf 13) = [] := hR 13 (by decide)
     have q14 : (vf 14) = .int .i64 (d.W * d.H) ∧ (pf 14) = [] := hR 14 (by decide)
     have q15 : (vf 15) = .int .i64 ((cod z0 len0 3 : Int) % (d.W * d.H)) ∧ (pf 15) = [] := hR 15 (by decide)
     refine hl_less (l' := [rowE 3 1 (.slice (some ⟨g6, 0, none⟩) 2 2) 2 ([(cod z0 len0 2 : Int) % (d.W * d.H), (cod z0 len0 3 : Int) % (d.W * d.H)].map (Value.int .i64)), boxE b5 #[.int .i64 d.W, .int .i64 d.H, .int .i64 d.T, .int .i64 d.R] 25]) (sx 0 rfl (sx 2 rfl (sx 3 rfl (sx 4 rfl (sx 5 rfl (sx 13 rfl (sx 44 (congrArg some v16) (sub_nil _)))))))) (by first | (simp only [p16, v16, q0.2, q1.2, q2.2, q3.2, q4.2, q5.2, q6.2, q7.2, q8.2, q9.2, q10.2, q11.2, q12.2, q13.2, q14.2, q15.2, List.flatMap_cons, List.flatMap_nil, List.append_nil, List.nil_append, List.cons_append]; exact List.Sublist.refl _) | simp [p16, v16, q0.2, q1.2, q2.2, q3.2, q4.2, q5.2, q6.2, q7.2, q8.2, q9.2, q10.2, q11.2, q12.2, q13.2, q14.2, q15.2]) ?_
     simp only [List.drop_succ_cons, List.drop_zero]
     refine hl_v rfl rfl rfl (rv_ev rfl) ?_
     refine hl_less (sx 0 rfl (sx 2 rfl (sx 3 rfl (sx 4 rfl (sx 5 rfl (sx 6 rfl (sx 13 rfl (sub_nil _)))))))) (.refl _) ?_
     refine hl_nil ?_
     refine hq_then ?_
     refine hc_seq ?_
     refine hc_region ?_
     have hX0 : 0 ≤ (cod z0 len0 0 : Int) % (d.W - 1) ∧ (cod z0 len0 0 : Int) % (d.W - 1) < d.W - 1 := ⟨Int.emod_nonneg _ (by omega), Int.emod_lt_of_pos _ (by omega)⟩
     have hY0 : 0 ≤ (cod z0 len0 1 : Int) % (d.H - 1) ∧ (cod z0 len0 1 : Int) % (d.H - 1) < d.H - 1 := ⟨Int.emod_nonneg _ (by omega), Int.emod_lt_of_pos _ (by omega)⟩
     have hA0 : 0 ≤ (cod z0 len0 2 : Int) % (d.W * d.H) ∧ (cod z0 len0 2 : Int) % (d.W * d.H) < d.W * d.H := ⟨Int.emod_nonneg _ (by omega), Int.emod_lt_of_pos _ (by omega)⟩
     have hB0 : 0 ≤ (cod z0 len0 3 : Int) % (d.W * d.H) ∧ (cod z0 len0 3 : Int) % (d.W * d.H) < d.W * d.H := ⟨Int.emod_nonneg _ (by omega), Int.emod_lt_of_pos _ (by omega)⟩
     have hP0 : 0 ≤ [(cod z0 len0 2 : Int) % (d.W * d.H), (cod z0 len0 3 : Int) % (d.W * d.H)].getD 0 0 ∧ [(cod z0 len0 2 : Int) % (d.W * d.H), (cod z0 len0 3 : Int) % (d.W * d.H)].getD 0 0 < d.W * d.H := hA0
     have hP1 : 0 ≤ [(cod z0 len0 2 : Int) % (d.W * d.H), (cod z0 len0 3 : Int) % (d.W * d.H)].getD 1 0 ∧ [(cod z0 len0 2 : Int) % (d.W * d.H), (cod z0 len0 3 : Int) % (d.W * d.H)].getD 1 0 < d.W * d.H := hB0
     refine hl_v rfl rfl rfl (rv_build (cs := #[.int .i64 0, .int .i64 0]) rfl rfl (by kernel_rfl)) ?_
     refine hl_v rfl rfl rfl (rv_build (cs := #[.int .i64 1, .int .i64 0]) rfl rfl (by kernel_rfl)) ?_
     refine hl_row rfl rfl rfl (rq_buildSlice (z := .agg #[.int .i64 0, .int .i64 0]) (s := 2) (cs := ([1, 0].map (Value.int .i64))) rfl Try.underlying31 (by kernel_rfl) (by decide) rfl (by kernel_rfl) rfl) ?_
     intro g7
     refine hl_v rfl rfl rfl (rv_build (cs := #[.int .i64 1, .int .i64 0, .int .i64 0, .slice (some ⟨g7, 0, none⟩) 1 1]) rfl rfl (by kernel_rfl)) ?_
     refine hl_box rfl rfl rfl (rq_alloc (z := .agg #[.int .i64 0, .int .i64 0, .int .i64 0, .slice none 0 0]) rfl (by kernel_rfl)) ?_
     intro b8
     refine hl_storeBoxN (i := 0) (off := 0) (us := [.int .i64 1, .int .i64 0, .int .i64 0, .slice (some ⟨g7, 0, none⟩) 1 1]) (l' := [boxE b8 #[.int .i64 1, .int .i64 0, .int .i64 0, .slice (some ⟨g7, 0, none⟩) 1 1] 33, rowE 30 2 (.slice (some ⟨g7, 0, none⟩) 1 1) 1 ([1, 0].map (Value.int .i64)), rowE 3 1 (.slice (some ⟨g6, 0, none⟩) 2 2) 2 ([(cod z0 len0 2 : Int) % (d.W * d.H), (cod z0 len0 3 : Int) % (d.W * d.H)].map (Value.int .i64)), boxE b5 #[.int .i64 d.W, .int .i64 d.H, .int .i64 d.T, .int .i64 d.R] 25]) rfl rfl rfl (by kernel_rfl) rfl rfl rfl (all_cons rfl (all_cons rfl (all_cons rfl (all_cons rfl all_nil)))) rfl rfl rfl ?_
     refine hl_less (sx 0 rfl (sx 2 rfl (sx 3 rfl (sx 4 rfl (sx 5 rfl (sx 6 rfl (sx 7 rfl (sx 13 rfl (sub_nil _))))))))) (.refl _) ?_
     refine hl_nil ?_
     refine hq_then ?_
     refine hc_meet1 (α := Bool) (fun ac => [boxE b8 #[.int .i64 1, .int .i64 0, .int .i64 0, .slice (some ⟨g7, 0, none⟩) 1 1] 33, rowE 30 2 (.slice (some ⟨g7, 0, none⟩) 1 1) 1 ([1, 0].map (Value.int .i64)), rowE 3 1 (.slice (some ⟨g6, 0, none⟩) 2 2) 2 ([(cod z0 len0 2 : Int) % (d.W * d.H), (cod z0 len0 3 : Int) % (d.W * d.H)].map (Value.int .i64)), boxE b5 #[.int .i64 d.W, .int .i64 d.H, .int .i64 d.T, .int .i64 d.R] 25]) (fun ac => [(0, .slice a0 len0 cap0), (2, .bool false), (3, .pointer (some ⟨b5, 0, none⟩)), (4, .int .i64 ((cod z0 len0 0 : Int) % (d.W - 1))), (5, .int .i64 ((cod z0 len0 1 : Int) % (d.H - 1))), (6, .slice (some ⟨g6, 0, none⟩) 2 2), (7, .pointer (some ⟨b8, 0, none⟩)), (8, .bool ac), (13, .bool false)]) (fun ac => ac = true → decide ([(cod z0 len0 2 : Int) % (d.W * d.H), (cod z0 len0 3 : Int) % (d.W * d.H)].getD 0 0 % d.W ≤ (cod z0 len0 0 : Int) % (d.W - 1)) ≠ decide ([(cod z0 len0 2 : Int) % (d.W * d.H), (cod z0 len0 3 : Int) % (d.W * d.H)].getD 1 0 % d.W ≤ (cod z0 len0 0 : Int) % (d.W - 1))) ?_ ?_
     ·
      rcases Bool.eq_false_or_eq_true (decide ((([(cod z0 len0 2 : Int) % (d.W * d.H), (cod z0 len0 3 : Int) % (d.W * d.H)]).getD 0 0) % d.W ≤ (cod z0 len0 0 : Int) % (d.W - 1))) with hb9 | hb9
      ·
       have hb9p : (([(cod z0 len0 2 : Int) % (d.W * d.H), (cod z0 len0 3 : Int) % (d.W * d.H)]).getD 0 0) % d.W ≤ (cod z0 len0 0 : Int) % (d.W - 1) := of_decide_eq_true hb9
       rcases Bool.eq_false_or_eq_true (decide ((([(cod z0 len0 2 : Int) % (d.W * d.H), (cod z0 len0 3 : Int) % (d.W * d.H)]).getD 1 0) % d.W ≤ (cod z0 len0 0 : Int) % (d.W - 1))) with hb10 | hb10
       ·
        have hb10p : (([(cod z0 len0 2 : Int) % (d.W * d.H), (cod z0 len0 3 : Int) % (d.W * d.H)]).getD 1 0) % d.W ≤ (cod z0 len0 0 : Int) % (d.W - 1) := of_decide_eq_true hb10
        refine hc_draw (by kernel_rfl) 17 [0, 1, 2, 3, 4, 5, 6, 7, 8, 9, 10, 11, 12, 13, 14, 15, 16] (List.take 17 _) (List.drop 17 _) [[], [0], [1], [], [3], [2, 4], [], [5, 6], [], [8], [9], [], [11], [10, 12], [], [13, 14], [7, 15]] [49, 50, 51, 52, 53, 54, 55, 56, 57, 58, 59, 60, 61, 62, 63, 64, 65] (fun i_ vs_ v_ p_ => match i_ with | 0 => v_ = .slice (some ⟨g6, 0, none⟩) 2 2 ∧ p_ = [] | 1 => v_ = elP (.slice (some ⟨g6, 0, none⟩) 2 2) ((0 : Int).toNat * 1) ∧ p_ = [] | 2 => v_ = .int .i64 (([(cod z0 len0 2 : Int) % (d.W * d.H), (cod z0 len0 3 : Int) % (d.W * d.H)]).getD 0 0) ∧ p_ = [] | 3 => v_ = .pointer (some ⟨b5, 0 + 0, none⟩) ∧ p_ = [] | 4 => v_ = .int .i64 d.W ∧ p_ = [] | 5 => v_ = .int .i64 ((([(cod z0 len0 2 : Int) % (d.W * d.H), (cod z0 len0 3 : Int) % (d.W * d.H)]).getD 0 0) % d.W) ∧ p_ = [] | 6 => v_ = .int .i64 ((cod z0 len0 0 : Int) % (d.W - 1)) ∧ p_ = [] | 7 => v_ = .bool true ∧ p_ = [] | 8 => v_ = .slice (some ⟨g6, 0, none⟩) 2 2 ∧ p_ = [] | 9 => v_ = elP (.slice (some ⟨g6, 0, none⟩) 2 2) ((1 : Int).toNat * 1) ∧ p_ = [] | 10 => v_ = .int .i64 (([(cod z0 len0 2 : Int) % (d.W * d.H), (cod z0 len0 3 : Int) % (d.W * d.H)]).getD 1 0) ∧ p_ = [] | 11 => v_ = .pointer (some ⟨b5, 0 + 0, none⟩) ∧ p_ = [] | 12 => v_ = .int .i64 d.W ∧ p_ = [] | 13 => v_ = .int .i64 ((([(cod z0 len0 2 : Int) % (d.W * d.H), (cod z0 len0 3 : Int) % (d.W * d.H)]).getD 1 0) % d.W) ∧ p_ = [] | 14 => v_ = .int .i64 ((cod z0 len0 0 : Int) % (d.W - 1)) ∧ p_ = [] | 15 => v_ = .bool true ∧ p_ = [] | 16 => v_ = .bool false ∧ p_ = [] | _ => True) (List.take_append_drop 17 _).symm (by kernel_rfl) (by kernel_rfl) rfl rfl ?_ ?_
        ·
         refine ⟨?_, ?_, ?_, ?_, ?_, ?_, ?_, ?_, ?_, ?_, ?_, ?_, ?_, ?_, ?_, ?_, ?_, trivial⟩
         ·
          intro vf pf hR
          refine Or.inl ⟨rfl, ?_⟩
          refine rq_less (sx 6 rfl (sub_nil _)) (List.sublist_append_right _ _) ?_
          exact rq_v (rv_ev rfl)
         ·
          intro vf pf hR
          have e0 : (vf 0) = .slice (some ⟨g6, 0, none⟩) 2 2 ∧ (pf 0) = [] := hR 0 (by decide)
          refine Or.inl ⟨rfl, ?_⟩
          refine rq_less (sx 49 (congrArg some e0.1) (sub_nil _)) (List.sublist_append_right _ _) ?_
          exact rq_v (rv_index (s := 1) rfl Try.underlying28 (by kernel_rfl) rfl rfl (rd_row 2 rfl) (by omega) (by first | omega | (simp only [List.length_set]; omega)))
         ·
          intro vf pf hR
          have e1 : (vf 1) = elP (.slice (some ⟨g6, 0, none⟩) 2 2) ((0 : Int).toNat * 1) ∧ (pf 1) = [] := hR 1 (by decide)
          refine Or.inl ⟨rfl, ?_⟩
          refine rq_less (sx 50 (congrArg some e1.1) (sub_nil _)) (List.sublist_append_right _ _) ?_
          exact rq_v (rv_loadEl (u := .int .i64 (([(cod z0 len0 2 : Int) % (d.W * d.H), (cod z0 len0 3 : Int) % (d.W * d.H)]).getD 0 0)) rfl (by kernel_rfl) rfl (rd_row 2 rfl) (ints_at1 (show _ < 2 by first | omega | (simp only [List.length_set]; omega))))
         ·
          intro vf pf hR
          refine Or.inl ⟨rfl, ?_⟩
          refine rq_less (sx 3 rfl (sub_nil _)) (List.sublist_append_right _ _) ?_
          exact rq_v (rv_field (k0 := 0) rfl (by kernel_rfl) rfl)
         ·
          intro vf pf hR
          have e3 : (vf 3) = .pointer (some ⟨b5, 0 + 0, none⟩) ∧ (pf 3) = [] := hR 3 (by decide)
          refine Or.inl ⟨rfl, ?_⟩
          refine rq_less (sx 52 (congrArg some e3.1) (sub_nil _)) (List.sublist_append_right _ _) ?_
          exact rq_v (rv_load rfl (by kernel_rfl) rfl (box_cell 3 rfl rfl))
         ·
          intro vf pf hR
          have e2 : (vf 2) = .int .i64 (([(cod z0 len0 2 : Int) % (d.W * d.H), (cod z0 len0 3 : Int) % (d.W * d.H)]).getD 0 0) ∧ (pf 2) = [] := hR 2 (by decide)
          have e4 : (vf 4) = .int .i64 d.W ∧ (pf 4) = [] := hR 4 (by decide)
          refine Or.inl ⟨rfl, ?_⟩
          refine rq_less (sx 51 (congrArg some e2.1) (sx 53 (congrArg some e4.1) (sub_nil _))) (List.sublist_append_right _ _) ?_
          exact rq_v (rv_rem rfl rfl rfl (by constructor <;> omega))
         ·
          intro vf pf hR
          refine Or.inl ⟨rfl, ?_⟩
          refine rq_less (sx 4 rfl (sub_nil _)) (List.sublist_append_right _ _) ?_
          exact rq_v (rv_ev rfl)
         ·
          intro vf pf hR
          have e5 : (vf 5) = .int .i64 ((([(cod z0 len0 2 : Int) % (d.W * d.H), (cod z0 len0 3 : Int) % (d.W * d.H)]).getD 0 0) % d.W) ∧ (pf 5) = [] := hR 5 (by decide)
          have e6 : (vf 6) = .int .i64 ((cod z0 len0 0 : Int) % (d.W - 1)) ∧ (pf 6) = [] := hR 6 (by decide)
          refine Or.inl ⟨rfl, ?_⟩
          refine rq_less (sx 54 (congrArg some e5.1) (sx 55 (congrArg some e6.1) (sub_nil _))) (List.sublist_append_right _ _) ?_
          exact rq_mono (rq_v (rv_cmp rfl rfl rfl rfl)) (fun _ _ h => ⟨h.1.trans (congrArg Value.bool hb9), h.2⟩)
         ·
          intro vf pf hR
          refine Or.inl ⟨rfl, ?_⟩
          refine rq_less (sx 6 rfl (sub_nil _)) (List.sublist_append_right _ _) ?_
          exact rq_v (rv_ev rfl)
         ·
          intro vf pf hR
          have e8 : (vf 8) = .slice (some ⟨g6, 0, none⟩) 2 2 ∧ (pf 8) = [] := hR 8 (by decide)
          refine Or.inl ⟨rfl, ?_⟩
          refine rq_less (sx 57 (congrArg some e8.1) (sub_nil _)) (List.sublist_append_right _ _) ?_
          exact rq_v (rv_index (s := 1) rfl Try.underlying28 (by kernel_rfl) rfl rfl (rd_row 2 rfl) (by omega) (by first | omega | (simp only [List.length_set]; omega)))
         ·
          intro vf pf hR
          have e9 : (vf 9) = elP (.slice (some ⟨g6, 0, none⟩) 2 2) ((1 : Int).toNat * 1) ∧ (pf 9) = [] := hR 9 (by decide)
          refine Or.inl ⟨rfl, ?_⟩
          refine rq_less (sx 58 (congrArg some e9.1) (sub_nil _)) (List.sublist_append_right _ _) ?_
          exact rq_v (rv_loadEl (u := .int .i64 (([(cod z0 len0 2 : Int) % (d.W * d.H), (cod z0 len0 3 : Int) % (d.W * d.H)]).getD 1 0)) rfl (by kernel_rfl) rfl (rd_row 2 rfl) (ints_at1 (show _ < 2 by first | omega | (simp only [List.length_set]; omega))))
         ·
          intro vf pf hR
          refine Or.inl ⟨rfl, ?_⟩
          refine rq_less (sx 3 rfl (sub_nil _)) (List.sublist_append_right _ _) ?_
          exact rq_v (rv_field (k0 := 0) rfl (by kernel_rfl) rfl)
         ·
          intro vf pf hR
          have e11 : (vf 11) = .pointer (some ⟨b5, 0 + 0, none⟩) ∧ (pf 11) = [] := hR 11 (by decide)
          refine Or.inl ⟨rfl, ?_⟩
          refine rq_less (sx 60 (congrArg some e11.1) (sub_nil _)) (List.sublist_append_right _ _) ?_
          exact rq_v (rv_load rfl (by kernel_rfl) rfl (box_cell 3 rfl rfl))
         ·
          intro vf pf hR
          have e10 : (vf 10) = .int .i64 (([(cod z0 len0 2 : Int) % (d.W * d.H), (cod z0 len0 3 : Int) % (d.W * d.H)]).getD 1 0) ∧ (pf 10) = [] := hR 10 (by decide)
          have e12 : (vf 12) = .int .i64 d.W ∧ (pf 12) = [] := hR 12 (by decide)
          refine Or.inl ⟨rfl, ?_⟩
          refine rq_less (sx 59 (congrArg some e10.1) (sx 61 (congrArg some e12.1) (sub_nil _))) (List.sublist_append_right _ _) ?_
          exact rq_v (rv_rem rfl rfl rfl (by constructor <;> omega))
         ·
          intro vf pf hR
          refine Or.inl ⟨rfl, ?_⟩
          refine rq_less (sx 4 rfl (sub_nil _)) (List.sublist_append_right _ _) ?_
          exact rq_v (rv_ev rfl)
         ·
          intro vf pf hR
          have e13 : (vf 13) = .int .i64 ((([(cod z0 len0 2 : Int) % (d.W * d.H), (cod z0 len0 3 : Int) % (d.W * d.H)]).getD 1 0) % d.W) ∧ (pf 13) = [] := hR 13 (by decide)
          have e14 : (vf 14) = .int .i64 ((cod z0 len0 0 : Int) % (d.W - 1)) ∧ (pf 14) = [] := hR 14 (by decide)
          refine Or.inl ⟨rfl, ?_⟩
          refine rq_less (sx 62 (congrArg some e13.1) (sx 63 (congrArg some e14.1) (sub_nil _))) (List.sublist_append_right _ _) ?_
          exact rq_mono (rq_v (rv_cmp rfl rfl rfl rfl)) (fun _ _ h => ⟨h.1.trans (congrArg Value.bool hb10), h.2⟩)
         ·
          intro vf pf hR
          have e7 : (vf 7) = .bool true ∧ (pf 7) = [] := hR 7 (by decide)
          have e15 : (vf 15) = .bool true ∧ (pf 15) = [] := hR 15 (by decide)
          refine Or.inl ⟨rfl, ?_⟩
          refine rq_less (sx 56 (congrArg some e7.1) (sx 64 (congrArg some e15.1) (sub_nil _))) (List.sublist_append_right _ _) ?_
          exact rq_v (rv_bneq (m := true) (n := true) rfl Try.underlying4 rfl rfl)
        ·
         intro vf pf hR
         have e16 : (vf 16) = .bool false ∧ (pf 16) = [] := hR 16 (by decide)
         refine hl_less (l' := [boxE b8 #[.int .i64 1, .int .i64 0, .int .i64 0, .slice (some ⟨g7, 0, none⟩) 1 1] 33, rowE 30 2 (.slice (some ⟨g7, 0, none⟩) 1 1) 1 ([1, 0].map (Value.int .i64)), rowE 3 1 (.slice (some ⟨g6, 0, none⟩) 2 2) 2 ([(cod z0 len0 2 : Int) % (d.W * d.H), (cod z0 len0 3 : Int) % (d.W * d.H)].map (Value.int .i64)), boxE b5 #[.int .i64 d.W, .int .i64 d.H, .int .i64 d.T, .int .i64 d.R] 25]) (sx 0 rfl (sx 2 rfl (sx 3 rfl (sx 4 rfl (sx 5 rfl (sx 6 rfl (sx 7 rfl (sx 13 rfl (sx 65 (congrArg some e16.1) (sub_nil _)))))))))) (List.sublist_append_right _ _) ?_
         simp only [List.drop_succ_cons, List.drop_zero]
         refine hl_v rfl rfl rfl (rv_ev rfl) ?_
         refine hl_less (sx 0 rfl (sx 2 rfl (sx 3 rfl (sx 4 rfl (sx 5 rfl (sx 6 rfl (sx 7 rfl (sx 8 rfl (sx 13 rfl (sub_nil _)))))))))) (.refl _) ?_
         refine hl_nil ?_
         exact hq_meet1 false (fun h9 => absurd h9 (by decide)) (sx 0 rfl (sx 2 rfl (sx 3 rfl (sx 4 rfl (sx 5 rfl (sx 6 rfl (sx 7 rfl (sx 8 rfl (sx 13 rfl (sub_nil _)))))))))) ((.cons_cons _ (.cons_cons _ (.cons_cons _ (.cons_cons _ .slnil)))))
       ·
        have hb10p : ¬ ((([(cod z0 len0 2 : Int) % (d.W * d.H), (cod z0 len0 3 : Int) % (d.W * d.H)]).getD 1 0) % d.W ≤ (cod z0 len0 0 : Int) % (d.W - 1)) := of_decide_eq_false hb10
        refine hc_draw (by kernel_rfl) 17 [0, 1, 2, 3, 4, 5, 6, 7, 8, 9, 10, 11, 12, 13, 14, 15, 16] (List.take 17 _) (List.drop 17 _) [[], [0], [1], [], [3], [2, 4], [], [5, 6], [], [8], [9], [], [11], [10, 12], [], [13, 14], [7, 15]] [49, 50, 51, 52, 53, 54, 55, 56, 57, 58, 59, 60, 61, 62, 63, 64, 65] (fun i_ vs_ v_ p_ => match i_ with | 0 => v_ = .slice (some ⟨g6, 0, none⟩) 2 2 ∧ p_ = [] | 1 => v_ = elP (.slice (some ⟨g6, 0, none⟩) 2 2) ((0 : Int).toNat * 1) ∧ p_ = [] | 2 => v_ = .int .i64 (([(cod z0 len0 2 : Int) % (d.W * d.H), (cod z0 len0 3 : Int) % (d.W * d.H)]).getD 0 0) ∧ p_ = [] | 3 => v_ = .pointer (some ⟨b5, 0 + 0, none⟩) ∧ p_ = [] | 4 => v_ = .int .i64 d.W ∧ p_ = [] | 5 => v_ = .int .i64 ((([(cod z0 len0 2 : Int) % (d.W * d.H), (cod z0 len0 3 : Int) % (d.W * d.H)]).getD 0 0) % d.W) ∧ p_ = [] | 6 => v_ = .int .i64 ((cod z0 len0 0 : Int) % (d.W - 1)) ∧ p_ = [] | 7 => v_ = .bool true ∧ p_ = [] | 8 => v_ = .slice (some ⟨g6, 0, none⟩) 2 2 ∧ p_ = [] | 9 => v_ = elP (.slice (some ⟨g6, 0, none⟩) 2 2) ((1 : Int).toNat * 1) ∧ p_ = [] | 10 => v_ = .int .i64 (([(cod z0 len0 2 : Int) % (d.W * d.H), (cod z0 len0 3 : Int) % (d.W * d.H)]).getD 1 0) ∧ p_ = [] | 11 => v_ = .pointer (some ⟨b5, 0 + 0, none⟩) ∧ p_ = [] | 12 => v_ = .int .i64 d.W ∧ p_ = [] | 13 => v_ = .int .i64 ((([(cod z0 len0 2 : Int) % (d.W * d.H), (cod z0 len0 3 : Int) % (d.W * d.H)]).getD 1 0) % d.W) ∧ p_ = [] | 14 => v_ = .int .i64 ((cod z0 len0 0 : Int) % (d.W - 1)) ∧ p_ = [] | 15 => v_ = .bool false ∧ p_ = [] | 16 => v_ = .bool true ∧ p_ = [] | _ => True) (List.take_append_drop 17 _).symm (by kernel_rfl) (by kernel_rfl) rfl rfl ?_ ?_
        ·
         refine ⟨?_, ?_, ?_, ?_, ?_, ?_, ?_, ?_, ?_, ?_, ?_, ?_, ?_, ?_, ?_, ?_, ?_, trivial⟩
         ·
          intro vf pf hR
          refine Or.inl ⟨rfl, ?_⟩
          refine rq_less (sx 6 rfl (sub_nil _)) (List.sublist_append_right _ _) ?_
          exact rq_v (rv_ev rfl)
         ·
          intro vf pf hR
          have e0 : (vf 0) = .slice (some ⟨g6, 0, none⟩) 2 2 ∧ (pf 0) = [] := hR 0 (by decide)
          refine Or.inl ⟨rfl, ?_⟩
          refine rq_less (sx 49 (congrArg some e0.1) (sub_nil _)) (List.sublist_append_right _ _) ?_
          exact rq_v (rv_index (s := 1) rfl Try.underlying28 (by kernel_rfl) rfl rfl (rd_row 2 rfl) (by omega) (by first | omega | (simp only [List.length_set]; omega)))
         ·
          intro vf pf hR
          have e1 : (vf 1) = elP (.slice (some ⟨g6, 0, none⟩) 2 2) ((0 : Int).toNat * 1) ∧ (pf 1) = [] := hR 1 (by decide)
          refine Or.inl ⟨rfl, ?_⟩
          refine rq_less (sx 50 (congrArg some e1.1) (sub_nil _)) (List.sublist_append_right _ _) ?_
          exact rq_v (rv_loadEl (u := .int .i64 (([(cod z0 len0 2 : Int) % (d.W * d.H), (cod z0 len0 3 : Int) % (d.W * d.H)]).getD 0 0)) rfl (by kernel_rfl) rfl (rd_row 2 rfl) (ints_at1 (show _ < 2 by first | omega | (simp only [List.length_set]; omega))))
         ·
          intro vf pf hR
          refine Or.inl ⟨rfl, ?_⟩
          refine rq_less (sx 3 rfl (sub_nil _)) (List.sublist_append_right _ _) ?_
          exact rq_v (rv_field (k0 := 0) rfl (by kernel_rfl) rfl)
         ·
          intro vf pf hR
          have e3 : (vf 3) = .pointer (some ⟨b5, 0 + 0, none⟩) ∧ (pf 3) = [] := hR 3 (by decide)
          refine Or.inl ⟨rfl, ?_⟩
          refine rq_less (sx 52 (congrArg some e3.1) (sub_nil _)) (List.sublist_append_right _ _) ?_
          exact rq_v (rv_load rfl (by kernel_rfl) rfl (box_cell 3 rfl rfl))
         ·
          intro vf pf hR
          have e2 : (vf 2) = .int .i64 (([(cod z0 len0 2 : Int) % (d.W * d.H), (cod z0 len0 3 : Int) % (d.W * d.H)]).getD 0 0) ∧ (pf 2) = [] := hR 2 (by decide)
          have e4 : (vf 4) = .int .i64 d.W ∧ (pf 4) = [] := hR 4 (by decide)
          refine Or.inl ⟨rfl, ?_⟩
          refine rq_less (sx 51 (congrArg some e2.1) (sx 53 (congrArg some e4.1) (sub_nil _))) (List.sublist_append_right _ _) ?_
          exact rq_v (rv_rem rfl rfl rfl (by constructor <;> omega))
         ·
          intro vf pf hR
          refine Or.inl ⟨rfl, ?_⟩
          refine rq_less (sx 4 rfl (sub_nil _)) (List.sublist_append_right _ _) ?_
          exact rq_v (rv_ev rfl)
         ·
          intro vf pf hR
          have e5 : (vf 5) = .int .i64 ((([(cod z0 len0 2 : Int) % (d.W * d.H), (cod z0 len0 3 : Int) % (d.W * d.H)]).getD 0 0) % d.W) ∧ (pf 5) = [] := hR 5 (by decide)
          have e6 : (vf 6) = .int .i64 ((cod z0 len0 0 : Int) % (d.W - 1)) ∧ (pf 6) = [] := hR 6 (by decide)
          refine Or.inl ⟨rfl, ?_⟩
          refine rq_less (sx 54 (congrArg some e5.1) (sx 55 (congrArg some e6.1) (sub_nil _))) (List.sublist_append_right _ _) ?_
          exact rq_mono (rq_v (rv_cmp rfl rfl rfl rfl)) (fun _ _ h => ⟨h.1.trans (congrArg Value.bool hb9), h.2⟩)
         ·
          intro vf pf hR
          refine Or.inl ⟨rfl, ?_⟩
          refine rq_less (sx 6 rfl (sub_nil _)) (List.sublist_append_right _ _) ?_
          exact rq_v (rv_ev rfl)
         ·
          intro vf pf hR
          have e8 : (vf 8) = .slice (some ⟨g6, 0, none⟩) 2 2 ∧ (pf 8) = [] := hR 8 (by decide)
          refine Or.inl ⟨rfl, ?_⟩
          refine rq_less (sx 57 (congrArg some e8.1) (sub_nil _)) (List.sublist_append_right _ _) ?_
          exact rq_v (rv_index (s := 1) rfl Try.underlying28 (by kernel_rfl) rfl rfl (rd_row 2 rfl) (by omega) (by first | omega | (simp only [List.length_set]; omega)))
         ·
          intro vf pf hR
          have e9 : (vf 9) = elP (.slice (some ⟨g6, 0, none⟩) 2 2) ((1 : Int).toNat * 1) ∧ (pf 9) = [] := hR 9 (by decide)
          refine Or.inl ⟨rfl, ?_⟩
          refine rq_less (sx 58 (congrArg some e9.1) (sub_nil _)) (List.sublist_append_right _ _) ?_
          exact rq_v (rv_loadEl (u := .int .i64 (([(cod z0 len0 2 : Int) % (d.W * d.H), (cod z0 len0 3 : Int) % (d.W * d.H)]).getD 1 0)) rfl (by kernel_rfl) rfl (rd_row 2 rfl) (ints_at1 (show _ < 2 by first | omega | (simp only [List.length_set]; omega))))
         ·
          intro vf pf hR
          refine Or.inl ⟨rfl, ?_⟩
          refine rq_less (sx 3 rfl (sub_nil _)) (List.sublist_append_right _ _) ?_
          exact rq_v (rv_field (k0 := 0) rfl (by kernel_rfl) rfl)
         ·
          intro vf pf hR
          have e11 : (vf 11) = .pointer (some ⟨b5, 0 + 0, none⟩) ∧ (pf 11) = [] := hR 11 (by decide)
          refine Or.inl ⟨rfl, ?_⟩
          refine rq_less (sx 60 (congrArg some e11.1) (sub_nil _)) (List.sublist_append_right _ _) ?_
          exact rq_v (rv_load rfl (by kernel_rfl) rfl (box_cell 3 rfl rfl))
         ·
          intro vf pf hR
          have e10 : (vf 10) = .int .i64 (([(cod z0 len0 2 : Int) % (d.W * d.H), (cod z0 len0 3 : Int) % (d.W * d.H)]).getD 1 0) ∧ (pf 10) = [] := hR 10 (by decide)
          have e12 : (vf 12) = .int .i64 d.W ∧ (pf 12) = [] := hR 12 (by decide)
          refine Or.inl ⟨rfl, ?_⟩
          refine rq_less (sx 59 (congrArg some e10.1) (sx 61 (congrArg some e12.1) (sub_nil _))) (List.sublist_append_right _ _) ?_
          exact rq_v (rv_rem rfl rfl rfl (by constructor <;> omega))
         ·
          intro vf pf hR
          refine Or.inl ⟨rfl, ?_⟩
          refine rq_less (sx 4 rfl (sub_nil _)) (List.sublist_append_right _ _) ?_
          exact rq_v (rv_ev rfl)
         ·
          intro vf pf hR
          have e13 : (vf 13) = .int .i64 ((([(cod z0 len0 2 : Int) % (d.W * d.H), (cod z0 len0 3 : Int) % (d.W * d.H)]).getD 1 0) % d.W) ∧ (pf 13) = [] := hR 13 (by decide)
          have e14 : (vf 14) = .int .i64 ((cod z0 len0 0 : Int) % (d.W - 1)) ∧ (pf 14) = [] := hR 14 (by decide)
          refine Or.inl ⟨rfl, ?_⟩
          refine rq_less (sx 62 (congrArg some e13.1) (sx 63 (congrArg some e14.1) (sub_nil _))) (List.sublist_append_right _ _) ?_
          exact rq_mono (rq_v (rv_cmp rfl rfl rfl rfl)) (fun _ _ h => ⟨h.1.trans (congrArg Value.bool hb10), h.2⟩)
         ·
          intro vf pf hR
          have e7 : (vf 7) = .bool true ∧ (pf 7) = [] := hR 7 (by decide)
          have e15 : (vf 15) = .bool false ∧ (pf 15) = [] := hR 15 (by decide)
          refine Or.inl ⟨rfl, ?_⟩
          refine rq_less (sx 56 (congrArg some e7.1) (sx 64 (congrArg some e15.1) (sub_nil _))) (List.sublist_append_right _ _) ?_
          exact rq_v (rv_bneq (m := true) (n := false) rfl Try.underlying4 rfl rfl)
        ·
         intro vf pf hR
         have e16 : (vf 16) = .bool true ∧ (pf 16) = [] := hR 16 (by decide)
         refine hl_less (l' := [boxE b8 #[.int .i64 1, .int .i64 0, .int .i64 0, .slice (some ⟨g7, 0, none⟩) 1 1] 33, rowE 30 2 (.slice (some ⟨g7, 0, none⟩) 1 1) 1 ([1, 0].map (Value.int .i64)), rowE 3 1 (.slice (some ⟨g6, 0, none⟩) 2 2) 2 ([(cod z0 len0 2 : Int) % (d.W * d.H), (cod z0 len0 3 : Int) % (d.W * d.H)].map (Value.int .i64)), boxE b5 #[.int .i64 d.W, .int .i64 d.H, .int .i64 d.T, .int .i64 d.R] 25]) (sx 0 rfl (sx 2 rfl (sx 3 rfl (sx 4 rfl (sx 5 rfl (sx 6 rfl (sx 7 rfl (sx 13 rfl (sx 65 (congrArg some e16.1) (sub_nil _)))))))))) (List.sublist_append_right _ _) ?_
         simp only [List.drop_succ_cons, List.drop_zero]
         refine hl_v rfl rfl rfl (rv_ev rfl) ?_
         refine hl_less (sx 0 rfl (sx 2 rfl (sx 3 rfl (sx 4 rfl (sx 5 rfl (sx 6 rfl (sx 7 rfl (sx 8 rfl (sx 13 rfl (sub_nil _)))))))))) (.refl _) ?_
         refine hl_nil ?_
         exact hq_meet1 true (fun _ h9 => by have h8 := decide_eq_decide.1 h9; omega) (sx 0 rfl (sx 2 rfl (sx 3 rfl (sx 4 rfl (sx 5 rfl (sx 6 rfl (sx 7 rfl (sx 8 rfl (sx 13 rfl (sub_nil _)))))))))) ((.cons_cons _ (.cons_cons _ (.cons_cons _ (.cons_cons _ .slnil)))))
      ·
       have hb9p : ¬ ((([(cod z0 len0 2 : Int) % (d.W * d.H), (cod z0 len0 3 : Int) % (d.W * d.H)]).getD 0 0) % d.W ≤ (cod z0 len0 0 : Int) % (d.W - 1)) := of_decide_eq_false hb9
       rcases Bool.eq_false_or_eq_true (decide ((([(cod z0 len0 2 : Int) % (d.W * d.H), (cod z0 len0 3 : Int) % (d.W * d.H)]).getD 1 0) % d.W ≤ (cod z0 len0 0 : Int) % (d.W - 1))) with hb11 | hb11
       ·
        have hb11p : (([(cod z0 len0 2 : Int) % (d.W * d.H), (cod z0 len0 3 : Int) % (d.W * d.H)]).getD 1 0) % d.W ≤ (cod z0 len0 0 : Int) % (d.W - 1) := of_decide_eq_true hb11
        refine hc_draw (by kernel_rfl) 17 [0, 1, 2, 3, 4, 5, 6, 7, 8, 9, 10, 11, 12, 13, 14, 15, 16] (List.take 17 _) (List.drop 17 _) [[], [0], [1], [], [3], [2, 4], [], [5, 6], [], [8], [9], [], [11], [10, 12], [], [13, 14], [7, 15]] [49, 50, 51, 52, 53, 54, 55, 56, 57, 58, 59, 60, 61, 62, 63, 64, 65] (fun i_ vs_ v_ p_ => match i_ with | 0 => v_ = .slice (some ⟨g6, 0, none⟩) 2 2 ∧ p_ = [] | 1 => v_ = elP (.slice (some ⟨g6, 0, none⟩) 2 2) ((0 : Int).toNat * 1) ∧ p_ = [] | 2 => v_ = .int .i64 (([(cod z0 len0 2 : Int) % (d.W * d.H), (cod z0 len0 3 : Int) % (d.W * d.H)]).getD 0 0) ∧ p_ = [] | 3 => v_ = .pointer (some ⟨b5, 0 + 0, none⟩) ∧ p_ = [] | 4 => v_ = .int .i64 d.W ∧ p_ = [] | 5 => v_ = .int .i64 ((([(cod z0 len0 2 : Int) % (d.W * d.H), (cod z0 len0 3 : Int) % (d.W * d.H)]).getD 0 0) % d.W) ∧ p_ = [] | 6 => v_ = .int .i64 ((cod z0 len0 0 : Int) % (d.W - 1)) ∧ p_ = [] | 7 => v_ = .bool false ∧ p_ = [] | 8 => v_ = .slice (some ⟨g6, 0, none⟩) 2 2 ∧ p_ = [] | 9 => v_ = elP (.slice (some ⟨g6, 0, none⟩) 2 2) ((1 : Int).toNat * 1) ∧ p_ = [] | 10 => v_ = .int .i64 (([(cod z0 len0 2 : Int) % (d.W * d.H), (cod z0 len0 3 : Int) % (d.W * d.H)]).getD 1 0) ∧ p_ = [] | 11 => v_ = .pointer (some ⟨b5, 0 + 0, none⟩) ∧ p_ = [] | 12 => v_ = .int .i64 d.W ∧ p_ = [] | 13 => v_ = .int .i64 ((([(cod z0 len0 2 : Int) % (d.W * d.H), (cod z0 len0 3 : Int) % (d.W * d.H)]).getD 1 0) % d.W) ∧ p_ = [] | 14 => v_ = .int .i64 ((cod z0 len0 0 : Int) % (d.W - 1)) ∧ p_ = [] | 15 => v_ = .bool true ∧ p_ = [] | 16 => v_ = .bool true ∧ p_ = [] | _ => True) (List.take_append_drop 17 _).symm (by kernel_rfl) (by kernel_rfl) rfl rfl ?_ ?_
        ·
         refine ⟨?_, ?_, ?_, ?_, ?_, ?_, ?_, ?_, ?_, ?_, ?_, ?_, ?_, ?_, ?_, ?_, ?_, trivial⟩
         ·
          intro vf pf hR
          refine Or.inl ⟨rfl, ?_⟩
          refine rq_less (sx 6 rfl (sub_nil _)) (List.sublist_append_right _ _) ?_
          exact rq_v (rv_ev rfl)
         ·
          intro vf pf hR
          have e0 : (vf 0) = .slice (some ⟨g6, 0, none⟩) 2 2 ∧ (pf 0) = [] := hR 0 (by decide)
          refine Or.inl ⟨rfl, ?_⟩
          refine rq_less (sx 49 (congrArg some e0.1) (sub_nil _)) (List.sublist_append_right _ _) ?_
          exact rq_v (rv_index (s := 1) rfl Try.underlying28 (by kernel_rfl) rfl rfl (rd_row 2 rfl) (by omega) (by first | omega | (simp only [List.length_set]; omega)))
         ·
          intro vf pf hR
          have e1 : (vf 1) = elP (.slice (some ⟨g6, 0, none⟩) 2 2) ((0 : Int).toNat * 1) ∧ (pf 1) = [] := hR 1 (by decide)
          refine Or.inl ⟨rfl, ?_⟩
          refine rq_less (sx 50 (congrArg some e1.1) (sub_nil _)) (List.sublist_append_right _ _) ?_
          exact rq_v (rv_loadEl (u := .int .i64 (([(cod z0 len0 2 : Int) % (d.W * d.H), (cod z0 len0 3 : Int) % (d.W * d.H)]).getD 0 0)) rfl (by kernel_rfl) rfl (rd_row 2 rfl) (ints_at1 (show _ < 2 by first | omega | (simp only [List.length_set]; omega))))
         ·
          intro vf pf hR
          refine Or.inl ⟨rfl, ?_⟩
          refine rq_less (sx 3 rfl (sub_nil _)) (List.sublist_append_right _ _) ?_
          exact rq_v (rv_field (k0 := 0) rfl (by kernel_rfl) rfl)
         ·
          intro vf pf hR
          have e3 : (vf 3) = .pointer (some ⟨b5, 0 + 0, none⟩) ∧ (pf 3) = [] := hR 3 (by decide)
          refine Or.inl ⟨rfl, ?_⟩
          refine rq_less (sx 52 (congrArg some e3.1) (sub_nil _)) (List.sublist_append_right _ _) ?_
          exact rq_v (rv_load rfl (by kernel_rfl) rfl (box_cell 3 rfl rfl))
         ·
          intro vf pf hR
          have e2 : (vf 2) = .int .i64 (([(cod z0 len0 2 : Int) % (d.W * d.H), (cod z0 len0 3 : Int) % (d.W * d.H)]).getD 0 0) ∧ (pf 2) = [] := hR 2 (by decide)
          have e4 : (vf 4) = .int .i64 d.W ∧ (pf 4) = [] := hR 4 (by decide)
          refine Or.inl ⟨rfl, ?_⟩
          refine rq_less (sx 51 (congrArg some e2.1) (sx 53 (congrArg some e4.1) (sub_nil _))) (List.sublist_append_right _ _) ?_
          exact rq_v (rv_rem rfl rfl rfl (by constructor <;> omega))
         ·
          intro vf pf hR
          refine Or.inl ⟨rfl, ?_⟩
          refine rq_less (sx 4 rfl (sub_nil _)) (List.sublist_append_right _ _) ?_
          exact rq_v (rv_ev rfl)
         ·
          intro vf pf hR
          have e5 : (vf 5) = .int .i64 ((([(cod z0 len0 2 : Int) % (d.W * d.H), (cod z0 len0 3 : Int) % (d.W * d.H)]).getD 0 0) % d.W) ∧ (pf 5) = [] := hR 5 (by decide)
          have e6 : (vf 6) = .int .i64 ((cod z0 len0 0 : Int) % (d.W - 1)) ∧ (pf 6) = [] := hR 6 (by decide)
          refine Or.inl ⟨rfl, ?_⟩
          refine rq_less (sx 54 (congrArg some e5.1) (sx 55 (congrArg some e6.1) (sub_nil _))) (List.sublist_append_right _ _) ?_
          exact rq_mono (rq_v (rv_cmp rfl rfl rfl rfl)) (fun _ _ h => ⟨h.1.trans (congrArg Value.bool hb9), h.2⟩)
         ·
          intro vf pf hR
          refine Or.inl ⟨rfl, ?_⟩
          refine rq_less (sx 6 rfl (sub_nil _)) (List.sublist_append_right _ _) ?_
          exact rq_v (rv_ev rfl)
         ·
          intro vf pf hR
          have e8 : (vf 8) = .slice (some ⟨g6, 0, none⟩) 2 2 ∧ (pf 8) = [] := hR 8 (by decide)
          refine Or.inl ⟨rfl, ?_⟩
          refine rq_less (sx 57 (congrArg some e8.1) (sub_nil _)) (List.sublist_append_right _ _) ?_
          exact rq_v (rv_index (s := 1) rfl Try.underlying28 (by kernel_rfl) rfl rfl (rd_row 2 rfl) (by omega) (by first | omega | (simp only [List.length_set]; omega)))
         ·
          intro vf pf hR
          have e9 : (vf 9) = elP (.slice (some ⟨g6, 0, none⟩) 2 2) ((1 : Int).toNat * 1) ∧ (pf 9) = [] := hR 9 (by decide)
          refine Or.inl ⟨rfl, ?_⟩
          refine rq_less (sx 58 (congrArg some e9.1) (sub_nil _)) (List.sublist_append_right _ _) ?_
          exact rq_v (rv_loadEl (u := .int .i64 (([(cod z0 len0 2 : Int) % (d.W * d.H), (cod z0 len0 3 : Int) % (d.W * d.H)]).getD 1 0)) rfl (by kernel_rfl) rfl (rd_row 2 rfl) (ints_at1 (show _ < 2 by first | omega | (simp only [List.length_set]; omega))))
         ·
          intro vf pf hR
          refine Or.inl ⟨rfl, ?_⟩
          refine rq_less (sx 3 rfl (sub_nil _)) (List.sublist_append_right _ _) ?_
          exact rq_v (rv_field (k0 := 0) rfl (by kernel_rfl) rfl)
         ·
          intro vf pf hR
          have e11 : (vf 11) = .pointer (some ⟨b5, 0 + 0, none⟩) ∧ (pf 11) = [] := hR 11 (by decide)
          refine Or.inl ⟨rfl, ?_⟩
          refine rq_less (sx 60 (congrArg some e11.1) (sub_nil _)) (List.sublist_append_right _ _) ?_
          exact rq_v (rv_load rfl (by kernel_rfl) rfl (box_cell 3 rfl rfl))
         ·
          intro vf pf hR
          have e10 : (vf 10) = .int .i64 (([(cod z0 len0 2 : Int) % (d.W * d.H), (cod z0 len0 3 : Int) % (d.W * d.H)]).getD 1 0) ∧ (pf 10) = [] := hR 10 (by decide)
          have e12 : (vf 12) = .int .i64 d.W ∧ (pf 12) = [] := hR 12 (by decide)
          refine Or.inl ⟨rfl, ?_⟩
          refine rq_less (sx 59 (congrArg some e10.1) (sx 61 (congrArg some e12.1) (sub_nil _))) (List.sublist_append_right _ _) ?_
          exact rq_v (rv_rem rfl rfl rfl (by constructor <;> omega))
         ·
          intro vf pf hR
          refine Or.inl ⟨rfl, ?_⟩
          refine rq_less (sx 4 rfl (sub_nil _)) (List.sublist_append_right _ _) ?_
          exact rq_v (rv_ev rfl)
         ·
          intro vf pf hR
          have e13 : (vf 13) = .int .i64 ((([(cod z0 len0 2 : Int) % (d.W * d.H), (cod z0 len0 3 : Int) % (d.W * d.H)]).getD 1 0) % d.W) ∧ (pf 13) = [] := hR 13 (by decide)
          have e14 : (vf 14) = .int .i64 ((cod z0 len0 0 : Int) % (d.W - 1)) ∧ (pf 14) = [] := hR 14 (by decide)
          refine Or.inl ⟨rfl, ?_⟩
          refine rq_less (sx 62 (congrArg some e13.1) (sx 63 (congrArg some e14.1) (sub_nil _))) (List.sublist_append_right _ _) ?_
          exact rq_mono (rq_v (rv_cmp rfl rfl rfl rfl)) (fun _ _ h => ⟨h.1.trans (congrArg Value.bool hb11), h.2⟩)
         ·
          intro vf pf hR
          have e7 : (vf 7) = .bool false ∧ (pf 7) = [] := hR 7 (by decide)
          have e15 : (vf 15) = .bool true ∧ (pf 15) = [] := hR 15 (by decide)
          refine Or.inl ⟨rfl, ?_⟩
          refine rq_less (sx 56 (congrArg some e7.1) (sx 64 (congrArg some e15.1) (sub_nil _))) (List.sublist_append_right _ _) ?_
          exact rq_v (rv_bneq (m := false) (n := true) rfl Try.underlying4 rfl rfl)
        ·
         intro vf pf hR
         have e16 : (vf 16) = .bool true ∧ (pf 16) = [] := hR 16 (by decide)
         refine hl_less (l' := [boxE b8 #[.int .i64 1, .int .i64 0, .int .i64 0, .slice (some ⟨g7, 0, none⟩) 1 1] 33, rowE 30 2 (.slice (some ⟨g7, 0, none⟩) 1 1) 1 ([1, 0].map (Value.int .i64)), rowE 3 1 (.slice (some ⟨g6, 0, none⟩) 2 2) 2 ([(cod z0 len0 2 : Int) % (d.W * d.H), (cod z0 len0 3 : Int) % (d.W * d.H)].map (Value.int .i64)), boxE b5 #[.int .i64 d.W, .int .i64 d.H, .int .i64 d.T, .int .i64 d.R] 25]) (sx 0 rfl (sx 2 rfl (sx 3 rfl (sx 4 rfl (sx 5 rfl (sx 6 rfl (sx 7 rfl (sx 13 rfl (sx 65 (congrArg some e16.1) (sub_nil _)))))))))) (List.sublist_append_right _ _) ?_
         simp only [List.drop_succ_cons, List.drop_zero]
         refine hl_v rfl rfl rfl (rv_ev rfl) ?_
         refine hl_less (sx 0 rfl (sx 2 rfl (sx 3 rfl (sx 4 rfl (sx 5 rfl (sx 6 rfl (sx 7 rfl (sx 8 rfl (sx 13 rfl (sub_nil _)))))))))) (.refl _) ?_
         refine hl_nil ?_
         exact hq_meet1 true (fun _ h9 => by have h8 := decide_eq_decide.1 h9; omega) (sx 0 rfl (sx 2 rfl (sx 3 rfl (sx 4 rfl (sx 5 rfl (sx 6 rfl (sx 7 rfl (sx 8 rfl (sx 13 rfl (sub_nil _)))))))))) ((.cons_cons _ (.cons_cons _ (.cons_cons _ (.cons_cons _ .slnil)))))
       ·
        have hb11p : ¬ ((([(cod z0 len0 2 : Int) % (d.W * d.H), (cod z0 len0 3 : Int) % (d.W * d.H)]).getD 1 0) % d.W ≤ (cod z0 len0 0 : Int) % (d.W - 1)) := of_decide_eq_false hb11
        refine hc_draw (by kernel_rfl) 17 [0, 1, 2, 3, 4, 5, 6, 7, 8, 9, 10, 11, 12, 13, 14, 15, 16] (List.take 17 _) (List.drop 17 _) [[], [0], [1], [], [3], [2, 4], [], [5, 6], [], [8], [9], [], [11], [10, 12], [], [13, 14], [7, 15]] [49, 50, 51, 52, 53, 54, 55, 56, 57, 58, 59, 60, 61, 62, 63, 64, 65] (fun i_ vs_ v_ p_ => match i_ with | 0 => v_ = .slice (some ⟨g6, 0, none⟩) 2 2 ∧ p_ = [] | 1 => v_ = elP (.slice (some ⟨g6, 0, none⟩) 2 2) ((0 : Int).toNat * 1) ∧ p_ = [] | 2 => v_ = .int .i64 (([(cod z0 len0 2 : Int) % (d.W * d.H), (cod z0 len0 3 : Int) % (d.W * d.H)]).getD 0 0) ∧ p_ = [] | 3 => v_ = .pointer (some ⟨b5, 0 + 0, none⟩) ∧ p_ = [] | 4 => v_ = .int .i64 d.W ∧ p_ = [] | 5 => v_ = .int .i64 ((([(cod z0 len0 2 : Int) % (d.W * d.H), (cod z0 len0 3 : Int) % (d.W * d.H)]).getD 0 0) % d.W) ∧ p_ = [] | 6 => v_ = .int .i64 ((cod z0 len0 0 : Int) % (d.W - 1)) ∧ p_ = [] | 7 => v_ = .bool false ∧ p_ = [] | 8 => v_ = .slice (some ⟨g6, 0, none⟩) 2 2 ∧ p_ = [] | 9 => v_ = elP (.slice (some ⟨g6, 0, none⟩) 2 2) ((1 : Int).toNat * 1) ∧ p_ = [] | 10 => v_ = .int .i64 (([(cod z0 len0 2 : Int) % (d.W * d.H), (cod z0 len0 3 : Int) % (d.W * d.H)]).getD 1 0) ∧ p_ = [] | 11 => v_ = .pointer (some ⟨b5, 0 + 0, none⟩) ∧ p_ = [] | 12 => v_ = .int .i64 d.W ∧ p_ = [] | 13 => v_ = .int .i64 ((([(cod z0 len0 2 : Int) % (d.W * d.H), (cod z0 len0 3 : Int) % (d.W * d.H)]).getD 1 0) % d.W) ∧ p_ = [] | 14 => v_ = .int .i64 ((cod z0 len0 0 : Int) % (d.W - 1)) ∧ p_ = [] | 15 => v_ = .bool false ∧ p_ = [] | 16 => v_ = .bool false ∧ p_ = [] | _ => True) (List.take_append_drop 17 _).symm (by kernel_rfl) (by kernel_rfl) rfl rfl ?_ ?_
        ·
         refine ⟨?_, ?_, ?_, ?_, ?_, ?_, ?_, ?_, ?_, ?_, ?_, ?_, ?_, ?_, ?_, ?_, ?_, trivial⟩
         ·
          intro vf pf hR
          refine Or.inl ⟨rfl, ?_⟩
          refine rq_less (sx 6 rfl (sub_nil _)) (List.sublist_append_right _ _) ?_
          exact rq_v (rv_ev rfl)
         ·
          intro vf pf hR
          have e0 : (vf 0) = .slice (some ⟨g6, 0, none⟩) 2 2 ∧ (pf 0) = [] := hR 0 (by decide)
          refine Or.inl ⟨rfl, ?_⟩
          refine rq_less (sx 49 (congrArg some e0.1) (sub_nil _)) (List.sublist_append_right _ _) ?_
          exact rq_v (rv_index (s := 1) rfl Try.underlying28 (by kernel_rfl) rfl rfl (rd_row 2 rfl) (by omega) (by first | omega | (simp only [List.length_set]; omega)))
         ·
          intro vf pf hR
          have e1 : (vf 1) = elP (.slice (some ⟨g6, 0, none⟩) 2 2) ((0 : Int).toNat * 1) ∧ (pf 1) = [] := hR 1 (by decide)
          refine Or.inl ⟨rfl, ?_⟩
          refine rq_less (sx 50 (congrArg some e1.1) (sub_nil _)) (List.sublist_append_right _ _) ?_
          exact rq_v (rv_loadEl (u := .int .i64 (([(cod z0 len0 2 : Int) % (d.W * d.H), (cod z0 len0 3 : Int) % (d.W * d.H)]).getD 0 0)) rfl (by kernel_rfl) rfl (rd_row 2 rfl) (ints_at1 (show _ < 2 by first | omega | (simp only [List.length_set]; omega))))
         ·
          intro vf pf hR
          refine Or.inl ⟨rfl, ?_⟩
          refine rq_less (sx 3 rfl (sub_nil _)) (List.sublist_append_right _ _) ?_
          exact rq_v (rv_field (k0 := 0) rfl (by kernel_rfl) rfl)
         ·
          intro vf pf hR
          have e3 : (vf 3) = .pointer (some ⟨b5, 0 + 0, none⟩) ∧ (pf 3) = [] := hR 3 (by decide)
          refine Or.inl ⟨rfl, ?_⟩
          refine rq_less (sx 52 (congrArg some e3.1) (sub_nil _)) (List.sublist_append_right _ _) ?_
          exact rq_v (rv_load rfl (by kernel_rfl) rfl (box_cell 3 rfl rfl))
         ·
          intro vf pf hR
          have e2 : (vf 2) = .int .i64 (([(cod z0 len0 2 : Int) % (d.W * d.H), (cod z0 len0 3 : Int) % (d.W * d.H)]).getD 0 0) ∧ (pf 2) = [] := hR 2 (by decide)
          have e4 : (vf 4) = .int .i64 d.W ∧ (pf 4) = [] := hR 4 (by decide)
          refine Or.inl ⟨rfl, ?_⟩
          refine rq_less (sx 51 (congrArg some e2.1) (sx 53 (congrArg some e4.1) (sub_nil _))) (List.sublist_append_right _ _) ?_
          exact rq_v (rv_rem rfl rfl rfl (by constructor <;> omega))
         ·
          intro vf pf hR
          refine Or.inl ⟨rfl, ?_⟩
          refine rq_less (sx 4 rfl (sub_nil _)) (List.sublist_append_right _ _) ?_
          exact rq_v (rv_ev rfl)
         ·
          intro vf pf hR
          have e5 : (vf 5) = .int .i64 ((([(cod z0 len0 2 : Int) % (d.W * d.H), (cod z0 len0 3 : Int) % (d.W * d.H)]).getD 0 0) % d.W) ∧ (pf 5) = [] := hR 5 (by decide)
          have e6 : (vf 6) = .int .i64 ((cod z0 len0 0 : Int) % (d.W - 1)) ∧ (pf 6) = [] := hR 6 (by decide)
          refine Or.inl ⟨rfl, ?_⟩
          refine rq_less (sx 54 (congrArg some e5.1) (sx 55 (congrArg some e6.1) (sub_nil _))) (List.sublist_append_right _ _) ?_
          exact rq_mono (rq_v (rv_cmp rfl rfl rfl rfl)) (fun _ _ h => ⟨h.1.trans (congrArg Value.bool hb9), h.2⟩)
         ·
          intro vf pf hR
          refine Or.inl ⟨rfl, ?_⟩
          refine rq_less (sx 6 rfl (sub_nil _)) (List.sublist_append_right _ _) ?_
          exact rq_v (rv_ev rfl)
         ·
          intro vf pf hR
          have e8 : (vf 8) = .slice (some ⟨g6, 0, none⟩) 2 2 ∧ (pf 8) = [] := hR 8 (by decide)
          refine Or.inl ⟨rfl, ?_⟩
          refine rq_less (sx 57 (congrArg some e8.1) (sub_nil _)) (List.sublist_append_right _ _) ?_
          exact rq_v (rv_index (s := 1) rfl Try.underlying28 (by kernel_rfl) rfl rfl (rd_row 2 rfl) (by omega) (by first | omega | (simp only [List.length_set]; omega)))
         ·
          intro vf pf hR
          have e9 : (vf 9) = elP (.slice (some ⟨g6, 0, none⟩) 2 2) ((1 : Int).toNat * 1) ∧ (pf 9) = [] := hR 9 (by decide)
          refine Or.inl ⟨rfl, ?_⟩
          refine rq_less (sx 58 (congrArg some e9.1) (sub_nil _)) (List.sublist_append_right _ _) ?_
          exact rq_v (rv_loadEl (u := .int .i64 (([(cod z0 len0 2 : Int) % (d.W * d.H), (cod z0 len0 3 : Int) % (d.W * d.H)]).getD 1 0)) rfl (by kernel_rfl) rfl (rd_row 2 rfl) (ints_at1 (show _ < 2 by first | omega | (simp only [List.length_set]; omega))))
         ·
          intro vf pf hR
          refine Or.inl ⟨rfl, ?_⟩
          refine rq_less (sx 3 rfl (sub_nil _)) (List.sublist_append_right _ _) ?_
          exact rq_v (rv_field (k0 := 0) rfl (by kernel_rfl) rfl)
         ·
          intro vf pf hR
          have e11 : (vf 11) = .pointer (some ⟨b5, 0 + 0, none⟩) ∧ (pf 11) = [] := hR 11 (by decide)
          refine Or.inl ⟨rfl, ?_⟩
          refine rq_less (sx 60 (congrArg some e11.1) (sub_nil _)) (List.sublist_append_right _ _) ?_
          exact rq_v (rv_load rfl (by kernel_rfl) rfl (box_cell 3 rfl rfl))
         ·
          intro vf pf hR
          have e10 : (vf 10) = .int .i64 (([(cod z0 len0 2 : Int) % (d.W * d.H), (cod z0 len0 3 : Int) % (d.W * d.H)]).getD 1 0) ∧ (pf 10) = [] := hR 10 (by decide)
          have e12 : (vf 12) = .int .i64 d.W ∧ (pf 12) = [] := hR 12 (by decide)
          refine Or.inl ⟨rfl, ?_⟩
          refine rq_less (sx 59 (congrArg some e10.1) (sx 61 (congrArg some e12.1) (sub_nil _))) (List.sublist_append_right _ _) ?_
          exact rq_v (rv_rem rfl rfl rfl (by constructor <;> omega))
         ·
          intro vf pf hR
          refine Or.inl ⟨rfl, ?_⟩
          refine rq_less (sx 4 rfl (sub_nil _)) (List.sublist_append_right _ _) ?_
          exact rq_v (rv_ev rfl)
         ·
          intro vf pf hR
          have e13 : (vf 13) = .int .i64 ((([(cod z0 len0 2 : Int) % (d.W * d.H), (cod z0 len0 3 : Int) % (d.W * d.H)]).getD 1 0) % d.W) ∧ (pf 13) = [] := hR 13 (by decide)
          have e14 : (vf 14) = .int .i64 ((cod z0 len0 0 : Int) % (d.W - 1)) ∧ (pf 14) = [] := hR 14 (by decide)
          refine Or.inl ⟨rfl, ?_⟩
          refine rq_less (sx 62 (congrArg some e13.1) (sx 63 (congrArg some e14.1) (sub_nil _))) (List.sublist_append_right _ _) ?_
          exact rq_mono (rq_v (rv_cmp rfl rfl rfl rfl)) (fun _ _ h => ⟨h.1.trans (congrArg Value.bool hb11), h.2⟩)
         ·
          intro vf pf hR
          have e7 : (vf 7) = .bool false ∧ (pf 7) = [] := hR 7 (by decide)
          have e15 : (vf 15) = .bool false ∧ (pf 15) = [] := hR 15 (by decide)
          refine Or.inl ⟨rfl, ?_⟩
          refine rq_less (sx 56 (congrArg some e7.1) (sx 64 (congrArg some e15.1) (sub_nil _))) (List.sublist_append_right _ _) ?_
          exact rq_v (rv_bneq (m := false) (n := false) rfl Try.underlying4 rfl rfl)
        ·
         intro vf pf hR
         have e16 : (vf 16) = .bool false ∧ (pf 16) = [] := hR 16 (by decide)
         refine hl_less (l' := [boxE b8 #[.int .i64 1, .int .i64 0, .int .i64 0, .slice (some ⟨g7, 0, none⟩) 1 1] 33, rowE 30 2 (.slice (some ⟨g7, 0, none⟩) 1 1) 1 ([1, 0].map (Value.int .i64)), rowE 3 1 (.slice (some ⟨g6, 0, none⟩) 2 2) 2 ([(cod z0 len0 2 : Int) % (d.W * d.H), (cod z0 len0 3 : Int) % (d.W * d.H)].map (Value.int .i64)), boxE b5 #[.int .i64 d.W, .int .i64 d.H, .int .i64 d.T, .int .i64 d.R] 25]) (sx 0 rfl (sx 2 rfl (sx 3 rfl (sx 4 rfl (sx 5 rfl (sx 6 rfl (sx 7 rfl (sx 13 rfl (sx 65 (congrArg some e16.1) (sub_nil _)))))))))) (List.sublist_append_right _ _) ?_
         simp only [List.drop_succ_cons, List.drop_zero]
         refine hl_v rfl rfl rfl (rv_ev rfl) ?_
         refine hl_less (sx 0 rfl (sx 2 rfl (sx 3 rfl (sx 4 rfl (sx 5 rfl (sx 6 rfl (sx 7 rfl (sx 8 rfl (sx 13 rfl (sub_nil _)))))))))) (.refl _) ?_
         refine hl_nil ?_
         exact hq_meet1 false (fun h9 => absurd h9 (by decide)) (sx 0 rfl (sx 2 rfl (sx 3 rfl (sx 4 rfl (sx 5 rfl (sx 6 rfl (sx 7 rfl (sx 8 rfl (sx 13 rfl (sub_nil _)))))))))) ((.cons_cons _ (.cons_cons _ (.cons_cons _ (.cons_cons _ .slnil)))))
     intro ac hm12
     have hac := hm12
     refine hc_meet1 (α := Bool) (fun al => [boxE b8 #[.int .i64 1, .int .i64 0, .int .i64 0, .slice (some ⟨g7, 0, none⟩) 1 1] 33, rowE 30 2 (.slice (some ⟨g7, 0, none⟩) 1 1) 1 ([1, 0].map (Value.int .i64)), rowE 3 1 (.slice (some ⟨g6, 0, none⟩) 2 2) 2 ([(cod z0 len0 2 : Int) % (d.W * d.H), (cod z0 len0 3 : Int) % (d.W * d.H)].map (Value.int .i64)), boxE b5 #[.int .i64 d.W, .int .i64 d.H, .int .i64 d.T, .int .i64 d.R] 25]) (fun al => [(0, .slice a0 len0 cap0), (2, .bool false), (3, .pointer (some ⟨b5, 0, none⟩)), (4, .int .i64 ((cod z0 len0 0 : Int) % (d.W - 1))), (5, .int .i64 ((cod z0 len0 1 : Int) % (d.H - 1))), (6, .slice (some ⟨g6, 0, none⟩) 2 2), (7, .pointer (some ⟨b8, 0, none⟩)), (8, .bool ac), (9, .bool al), (13, .bool false)]) (fun al => al = true → decide ([(cod z0 len0 2 : Int) % (d.W * d.H), (cod z0 len0 3 : Int) % (d.W * d.H)].getD 0 0 / d.W ≤ (cod z0 len0 1 : Int) % (d.H - 1)) ≠ decide ([(cod z0 len0 2 : Int) % (d.W * d.H), (cod z0 len0 3 : Int) % (d.W * d.H)].getD 1 0 / d.W ≤ (cod z0 len0 1 : Int) % (d.H - 1))) ?_ ?_
     ·
      rcases Bool.eq_false_or_eq_true (decide ((([(cod z0 len0 2 : Int) % (d.W * d.H), (cod z0 len0 3 : Int) % (d.W * d.H)]).getD 0 0) / d.W ≤ (cod z0 len0 1 : Int) % (d.H - 1))) with hb13 | hb13
      ·
       have hb13p : (([(cod z0 len0 2 : Int) % (d.W * d.H), (cod z0 len0 3 : Int) % (d.W * d.H)]).getD 0 0) / d.W ≤ (cod z0 len0 1 : Int) % (d.H - 1) := of_decide_eq_true hb13
       rcases Bool.eq_false_or_eq_true (decide ((([(cod z0 len0 2 : Int) % (d.W * d.H), (cod z0 len0 3 : Int) % (d.W * d.H)]).getD 1 0) / d.W ≤ (cod z0 len0 1 : Int) % (d.H - 1))) with hb14 | hb14
       ·
        have hb14p : (([(cod z0 len0 2 : Int) % (d.W * d.H), (cod z0 len0 3 : Int) % (d.W * d.H)]).getD 1 0) / d.W ≤ (cod z0 len0 1 : Int) % (d.H - 1) := of_decide_eq_true hb14
        refine hc_draw (by kernel_rfl) 17 [0, 1, 2, 3, 4, 5, 6, 7, 8, 9, 10, 11, 12, 13, 14, 15, 16] (List.take 17 _) (List.drop 17 _) [[], [0], [1], [], [3], [2, 4], [], [5, 6], [], [8], [9], [], [11], [10, 12], [], [13, 14], [7, 15]] [66, 67, 68, 69, 70, 71, 72, 73, 74, 75, 76, 77, 78, 79, 80, 81, 82] (fun i_ vs_ v_ p_ => match i_ with | 0 => v_ = .slice (some ⟨g6, 0, none⟩) 2 2 ∧ p_ = [] | 1 => v_ = elP (.slice (some ⟨g6, 0, none⟩) 2 2) ((0 : Int).toNat * 1) ∧ p_ = [] | 2 => v_ = .int .i64 (([(cod z0 len0 2 : Int) % (d.W * d.H), (cod z0 len0 3 : Int) % (d.W * d.H)]).getD 0 0) ∧ p_ = [] | 3 => v_ = .pointer (some ⟨b5, 0 + 0, none⟩) ∧ p_ = [] | 4 => v_ = .int .i64 d.W ∧ p_ = [] | 5 => v_ = .int .i64 ((([(cod z0 len0 2 : Int) % (d.W * d.H), (cod z0 len0 3 : Int) % (d.W * d.H)]).getD 0 0) / d.W) ∧ p_ = [] | 6 => v_ = .int .i64 ((cod z0 len0 1 : Int) % (d.H - 1)) ∧ p_ = [] | 7 => v_ = .bool true ∧ p_ = [] | 8 => v_ = .slice (some ⟨g6, 0, none⟩) 2 2 ∧ p_ = [] | 9 => v_ = elP (.slice (some ⟨g6, 0, none⟩) 2 2) ((1 : Int).toNat * 1) ∧ p_ = [] | 10 => v_ = .int .i64 (([(cod z0 len0 2 : Int) % (d.W * d.H), (cod z0 len0 3 : Int) % (d.W * d.H)]).getD 1 0) ∧ p_ = [] | 11 => v_ = .pointer (some ⟨b5, 0 + 0, none⟩) ∧ p_ = [] | 12 => v_ = .int .i64 d.W ∧ p_ = [] | 13 => v_ = .int .i64 ((([(cod z0 len0 2 : Int) % (d.W * d.H), (cod z0 len0 3 : Int) % (d.W * d.H)]).getD 1 0) / d.W) ∧ p_ = [] | 14 => v_ = .int .i64 ((cod z0 len0 1 : Int) % (d.H - 1)) ∧ p_ = [] | 15 => v_ = .bool true ∧ p_ = [] | 16 => v_ = .bool false ∧ p_ = [] | _ => True) (List.take_append_drop 17 _).symm (by kernel_rfl) (by kernel_rfl) rfl rfl ?_ ?_
        ·
         refine ⟨?_, ?_, ?_, ?_, ?_, ?_, ?_, ?_, ?_, ?_, ?_, ?_, ?_, ?_, ?_, ?_, ?_, trivial⟩
         ·
          intro vf pf hR
          refine Or.inl ⟨rfl, ?_⟩
          refine rq_less (sx 6 rfl (sub_nil _)) (List.sublist_append_right _ _) ?_
          exact rq_v (rv_ev rfl)
         ·
          intro vf pf hR
          have e0 : (vf 0) = .slice (some ⟨g6, 0, none⟩) 2 2 ∧ (pf 0) = [] := hR 0 (by decide)
          refine Or.inl ⟨rfl, ?_⟩
          refine rq_less (sx 66 (congrArg some e0.1) (sub_nil _)) (List.sublist_append_right _ _) ?_
          exact rq_v (rv_index (s := 1) rfl Try.underlying28 (by kernel_rfl) rfl rfl (rd_row 2 rfl) (by omega) (by first | omega | (simp only [List.length_set]; omega)))
         ·
          intro vf pf hR
          have e1 : (vf 1) = elP (.slice (some ⟨g6, 0, none⟩) 2 2) ((0 : Int).toNat * 1) ∧ (pf 1) = [] := hR 1 (by decide)
          refine Or.inl ⟨rfl, ?_⟩
          refine rq_less (sx 67 (congrArg some e1.1) (sub_nil _)) (List.sublist_append_right _ _) ?_
          exact rq_v (rv_loadEl (u := .int .i64 (([(cod z0 len0 2 : Int) % (d.W * d.H), (cod z0 len0 3 : Int) % (d.W * d.H)]).getD 0 0)) rfl (by kernel_rfl) rfl (rd_row 2 rfl) (ints_at1 (show _ < 2 by first | omega | (simp only [List.length_set]; omega))))
         ·
          intro vf pf hR
          refine Or.inl ⟨rfl, ?_⟩
          refine rq_less (sx 3 rfl (sub_nil _)) (List.sublist_append_right _ _) ?_
          exact rq_v (rv_field (k0 := 0) rfl (by kernel_rfl) rfl)
         ·
          intro vf pf hR
          have e3 : (vf 3) = .pointer (some ⟨b5, 0 + 0, none⟩) ∧ (pf 3) = [] := hR 3 (by decide)
          refine Or.inl ⟨rfl, ?_⟩
          refine rq_less (sx 69 (congrArg some e3.1) (sub_nil _)) (List.sublist_append_right _ _) ?_
          exact rq_v (rv_load rfl (by kernel_rfl) rfl (box_cell 3 rfl rfl))
         ·
          intro vf pf hR
          have e2 : (vf 2) = .int .i64 (([(cod z0 len0 2 : Int) % (d.W * d.H), (cod z0 len0 3 : Int) % (d.W * d.H)]).getD 0 0) ∧ (pf 2) = [] := hR 2 (by decide)
          have e4 : (vf 4) = .int .i64 d.W ∧ (pf 4) = [] := hR 4 (by decide)
          refine Or.inl ⟨rfl, ?_⟩
          refine rq_less (sx 68 (congrArg some e2.1) (sx 70 (congrArg some e4.1) (sub_nil _))) (List.sublist_append_right _ _) ?_
          exact rq_v (rv_quo rfl rfl rfl (by refine ⟨?_, ?_, ?_⟩ <;> omega))
         ·
          intro vf pf hR
          refine Or.inl ⟨rfl, ?_⟩
          refine rq_less (sx 5 rfl (sub_nil _)) (List.sublist_append_right _ _) ?_
          exact rq_v (rv_ev rfl)
         ·
          intro vf pf hR
          have e5 : (vf 5) = .int .i64 ((([(cod z0 len0 2 : Int) % (d.W * d.H), (cod z0 len0 3 : Int) % (d.W * d.H)]).getD 0 0) / d.W) ∧ (pf 5) = [] := hR 5 (by decide)
          have e6 : (vf 6) = .int .i64 ((cod z0 len0 1 : Int) % (d.H - 1)) ∧ (pf 6) = [] := hR 6 (by decide)
          refine Or.inl ⟨rfl, ?_⟩
          refine rq_less (sx 71 (congrArg some e5.1) (sx 72 (congrArg some e6.1) (sub_nil _))) (List.sublist_append_right _ _) ?_
          exact rq_mono (rq_v (rv_cmp rfl rfl rfl rfl)) (fun _ _ h => ⟨h.1.trans (congrArg Value.bool hb13), h.2⟩)
         ·
          intro vf pf hR
          refine Or.inl ⟨rfl, ?_⟩
          refine rq_less (sx 6 rfl (sub_nil _)) (List.sublist_append_right _ _) ?_
          exact rq_v (rv_ev rfl)
         ·
          intro vf pf hR
          have e8 : (vf 8) = .slice (some ⟨g6, 0, none⟩) 2 2 ∧ (pf 8) = [] := hR 8 (by decide)
          refine Or.inl ⟨rfl, ?_⟩
          refine rq_less (sx 74 (congrArg some e8.1) (sub_nil _)) (List.sublist_append_right _ _) ?_
          exact rq_v (rv_index (s := 1) rfl Try.underlying28 (by kernel_rfl) rfl rfl (rd_row 2 rfl) (by omega) (by first | omega | (simp only [List.length_set]; omega)))
         ·
          intro vf pf hR
          have e9 : (vf 9) = elP (.slice (some ⟨g6, 0, none⟩) 2 2) ((1 : Int).toNat * 1) ∧ (pf 9) = [] := hR 9 (by decide)
          refine Or.inl ⟨rfl, ?_⟩
          refine rq_less (sx 75 (congrArg some e9.1) (sub_nil _)) (List.sublist_append_right _ _) ?_
          exact rq_v (rv_loadEl (u := .int .i64 (([(cod z0 len0 2 : Int) % (d.W * d.H), (cod z0 len0 3 : Int) % (d.W * d.H)]).getD 1 0)) rfl (by kernel_rfl) rfl (rd_row 2 rfl) (ints_at1 (show _ < 2 by first | omega | (simp only [List.length_set]; omega))))
         ·
          intro vf pf hR
          refine Or.inl ⟨rfl, ?_⟩
          refine rq_less (sx 3 rfl (sub_nil _)) (List.sublist_append_right _ _) ?_
          exact rq_v (rv_field (k0 := 0) rfl (by kernel_rfl) rfl)
         ·
          intro vf pf hR
          have e11 : (vf 11) = .pointer (some ⟨b5, 0 + 0, none⟩) ∧ (pf 11) = [] := hR 11 (by decide)
          refine Or.inl ⟨rfl, ?_⟩
          refine rq_less (sx 77 (congrArg some e11.1) (sub_nil _)) (List.sublist_append_right _ _) ?_
          exact rq_v (rv_load rfl (by kernel_rfl) rfl (box_cell 3 rfl rfl))
         ·
          intro vf pf hR
          have e10 : (vf 10) = .int .i64 (([(cod z0 len0 2 : Int) % (d.W * d.H), (cod z0 len0 3 : Int) % (d.W * d.H)]).getD 1 0) ∧ (pf 10) = [] := hR 10 (by decide)
          have e12 : (vf 12) = .int .i64 d.W ∧ (pf 12) = [] := hR 12 (by decide)
          refine Or.inl ⟨rfl, ?_⟩
          refine rq_less (sx 76 (congrArg some e10.1) (sx 78 (congrArg some e12.1) (sub_nil _))) (List.sublist_append_right _ _) ?_
          exact rq_v (rv_quo rfl rfl rfl (by refine ⟨?_, ?_, ?_⟩ <;> omega))
         ·
          intro vf pf hR
          refine Or.inl ⟨rfl, ?_⟩
          refine rq_less (sx 5 rfl (sub_nil _)) (List.sublist_append_right _ _) ?_
          exact rq_v (rv_ev rfl)
         ·
          intro vf pf hR
          have e13 : (vf 13) = .int .i64 ((([(cod z0 len0 2 : Int) % (d.W * d.H), (cod z0 len0 3 : Int) % (d.W * d.H)]).getD 1 0) / d.W) ∧ (pf 13) = [] := hR 13 (by decide)
          have e14 : (vf 14) = .int .i64 ((cod z0 len0 1 : Int) % (d.H - 1)) ∧ (pf 14) = [] := hR 14 (by decide)
          refine Or.inl ⟨rfl, ?_⟩
          refine rq_less (sx 79 (congrArg some e13.1) (sx 80 (congrArg some e14.1) (sub_nil _))) (List.sublist_append_right _ _) ?_
          exact rq_mono (rq_v (rv_cmp rfl rfl rfl rfl)) (fun _ _ h => ⟨h.1.trans (congrArg Value.bool hb14), h.2⟩)
         ·
          intro vf pf hR
          have e7 : (vf 7) = .bool true ∧ (pf 7) = [] := hR 7 (by decide)
          have e15 : (vf 15) = .bool true ∧ (pf 15) = [] := hR 15 (by decide)
          refine Or.inl ⟨rfl, ?_⟩
          refine rq_less (sx 73 (congrArg some e7.1) (sx 81 (congrArg some e15.1) (sub_nil _))) (List.sublist_append_right _ _) ?_
          exact rq_v (rv_bneq (m := true) (n := true) rfl Try.underlying4 rfl rfl)
        ·
         intro vf pf hR
         have e16 : (vf 16) = .bool false ∧ (pf 16) = [] := hR 16 (by decide)
         refine hl_less (l' := [boxE b8 #[.int .i64 1, .int .i64 0, .int .i64 0, .slice (some ⟨g7, 0, none⟩) 1 1] 33, rowE 30 2 (.slice (some ⟨g7, 0, none⟩) 1 1) 1 ([1, 0].map (Value.int .i64)), rowE 3 1 (.slice (some ⟨g6, 0, none⟩) 2 2) 2 ([(cod z0 len0 2 : Int) % (d.W * d.H), (cod z0 len0 3 : Int) % (d.W * d.H)].map (Value.int .i64)), boxE b5 #[.int .i64 d.W, .int .i64 d.H, .int .i64 d.T, .int .i64 d.R] 25]) (sx 0 rfl (sx 2 rfl (sx 3 rfl (sx 4 rfl (sx 5 rfl (sx 6 rfl (sx 7 rfl (sx 8 rfl (sx 13 rfl (sx 82 (congrArg some e16.1) (sub_nil _))))))))))) (List.sublist_append_right _ _) ?_
         simp only [List.drop_succ_cons, List.drop_zero]
         refine hl_v rfl rfl rfl (rv_ev rfl) ?_
         refine hl_less (sx 0 rfl (sx 2 rfl (sx 3 rfl (sx 4 rfl (sx 5 rfl (sx 6 rfl (sx 7 rfl (sx 8 rfl (sx 9 rfl (sx 13 rfl (sub_nil _))))))))))) (.refl _) ?_
         refine hl_nil ?_
         exact hq_meet1 false (fun h9 => absurd h9 (by decide)) (sx 0 rfl (sx 2 rfl (sx 3 rfl (sx 4 rfl (sx 5 rfl (sx 6 rfl (sx 7 rfl (sx 8 rfl (sx 9 rfl (sx 13 rfl (sub_nil _))))))))))) ((.cons_cons _ (.cons_cons _ (.cons_cons _ (.cons_cons _ .slnil)))))
       ·
        have hb14p : ¬ ((([(cod z0 len0 2 : Int) % (d.W * d.H), (cod z0 len0 3 : Int) % (d.W * d.H)]).getD 1 0) / d.W ≤ (cod z0 len0 1 : Int) % (d.H - 1)) := of_decide_eq_false hb14
        refine hc_draw (by kernel_rfl) 17 [0, 1, 2, 3, 4, 5, 6, 7, 8, 9, 10, 11, 12, 13, 14, 15, 16] (List.take 17 _) (List.drop 17 _) [[], [0], [1], [], [3], [2, 4], [], [5, 6], [], [8], [9], [], [11], [10, 12], [], [13, 14], [7, 15]] [66, 67, 68, 69, 70, 71, 72, 73, 74, 75, 76, 77, 78, 79, 80, 81, 82] (fun i_ vs_ v_ p_ => match i_ with | 0 => v_ = .slice (some ⟨g6, 0, none⟩) 2 2 ∧ p_ = [] | 1 => v_ = elP (.slice (some ⟨g6, 0, none⟩) 2 2) ((0 : Int).toNat * 1) ∧ p_ = [] | 2 => v_ = .int .i64 (([(cod z0 len0 2 : Int) % (d.W * d.H), (cod z0 len0 3 : Int) % (d.W * d.H)]).getD 0 0) ∧ p_ = [] | 3 => v_ = .pointer (some ⟨b5, 0 + 0, none⟩) ∧ p_ = [] | 4 => v_ = .int .i64 d.W ∧ p_ = [] | 5 => v_ = .int .i64 ((([(cod z0 len0 2 : Int) % (d.W * d.H), (cod z0 len0 3 : Int) % (d.W * d.H)]).getD 0 0) / d.W) ∧ p_ = [] | 6 => v_ = .int .i64 ((cod z0 len0 1 : Int) % (d.H - 1)) ∧ p_ = [] | 7 => v_ = .bool true ∧ p_ = [] | 8 => v_ = .slice (some ⟨g6, 0, none⟩) 2 2 ∧ p_ = [] | 9 => v_ = elP (.slice (some ⟨g6, 0, none⟩) 2 2) ((1 : Int).toNat * 1) ∧ p_ = [] | 10 => v_ = .int .i64 (([(cod z0 len0 2 : Int) % (d.W * d.H), (cod z0 len0 3 : Int) % (d.W * d.H)]).getD 1 0) ∧ p_ = [] | 11 => v_ = .pointer (some ⟨b5, 0 + 0, none⟩) ∧ p_ = [] | 12 => v_ = .int .i64 d.W ∧ p_ = [] | 13 => v_ = .int .i64 ((([(cod z0 len0 2 : Int) % (d.W * d.H), (cod z0 len0 3 : Int) % (d.W * d.H)]).getD 1 0) / d.W) ∧ p_ = [] | 14 => v_ = .int .i64 ((cod z0 len0 1 : Int) % (d.H - 1)) ∧ p_ = [] | 15 => v_ = .bool false ∧ p_ = [] | 16 => v_ = .bool true ∧ p_ = [] | _ => True) (List.take_append_drop 17 _).symm (by kernel_rfl) (by kernel_rfl) rfl rfl ?_ ?_
        ·
         refine ⟨?_, ?_, ?_, ?_, ?_, ?_, ?_, ?_, ?_, ?_, ?_, ?_, ?_, ?_, ?_, ?_, ?_, trivial⟩
         ·
          intro vf pf hR
          refine Or.inl ⟨rfl, ?_⟩
          refine rq_less (sx 6 rfl (sub_nil _)) (List.sublist_append_right _ _) ?_
          exact rq_v (rv_ev rfl)
         ·
          intro vf pf hR
          have e0 : (vf 0) = .slice (some ⟨g6, 0, none⟩) 2 2 ∧ (pf 0) = [] := hR 0 (by decide)
          refine Or.inl ⟨rfl, ?_⟩
          refine rq_less (sx 66 (congrArg some e0.1) (sub_nil _)) (List.sublist_append_right _ _) ?_
          exact rq_v (rv_index (s := 1) rfl Try.underlying28 (by kernel_rfl) rfl rfl (rd_row 2 rfl) (by omega) (by first | omega | (simp only [List.length_set]; omega)))
         ·
          intro vf pf hR
          have e1 : (vf 1) = elP (.slice (some ⟨g6, 0, none⟩) 2 2) ((0 : Int).toNat * 1) ∧ (pf 1) = [] := hR 1 (by decide)
          refine Or.inl ⟨rfl, ?_⟩
          refine rq_less (sx 67 (congrArg some e1.1) (sub_nil _)) (List.sublist_append_right _ _) ?_
          exact rq_v (rv_loadEl (u := .int .i64 (([(cod z0 len0 2 : Int) % (d.W * d.H), (cod z0 len0 3 : Int) % (d.W * d.H)]).getD 0 0)) rfl (by kernel_rfl) rfl (rd_row 2 rfl) (ints_at1 (show _ < 2 by first | omega | (simp only [List.length_set]; omega))))
         ·
          intro vf pf hR
          refine Or.inl ⟨rfl, ?_⟩
          refine rq_less (sx 3 rfl (sub_nil _)) (List.sublist_append_right _ _) ?_
          exact rq_v (rv_field (k0 := 0) rfl (by kernel_rfl) rfl)
         ·
          intro vf pf hR
          have e3 : (vf 3) = .pointer (some ⟨b5, 0 + 0, none⟩) ∧ (pf 3) = [] := hR 3 (by decide)
          refine Or.inl ⟨rfl, ?_⟩
          refine rq_less (sx 69 (congrArg some e3.1) (sub_nil _)) (List.sublist_append_right _ _) ?_
          exact rq_v (rv_load rfl (by kernel_rfl) rfl (box_cell 3 rfl rfl))
         ·
          intro vf pf hR
          have e2 : (vf 2) = .int .i64 (([(cod z0 len0 2 : Int) % (d.W * d.H), (cod z0 len0 3 : Int) % (d.W * d.H)]).getD 0 0) ∧ (pf 2) = [] := hR 2 (by decide)
          have e4 : (vf 4) = .int .i64 d.W ∧ (pf 4) = [] := hR 4 (by decide)
          refine Or.inl ⟨rfl, ?_⟩
          refine rq_less (sx 68 (congrArg some e2.1) (sx 70 (congrArg some e4.1) (sub_nil _))) (List.sublist_append_right _ _) ?_
          exact rq_v (rv_quo rfl rfl rfl (by refine ⟨?_, ?_, ?_⟩ <;> omega))
         ·
          intro vf pf hR
          refine Or.inl ⟨rfl, ?_⟩
          refine rq_less (sx 5 rfl (sub_nil _)) (List.sublist_append_right _ _) ?_
          exact rq_v (rv_ev rfl)
         ·
          intro vf pf hR
          have e5 : (vf 5) = .int .i64 ((([(cod z0 len0 2 : Int) % (d.W * d.H), (cod z0 len0 3 : Int) % (d.W * d.H)]).getD 0 0) / d.W) ∧ (pf 5) = [] := hR 5 (by decide)
          have e6 : (vf 6) = .int .i64 ((cod z0 len0 1 : Int) % (d.H - 1)) ∧ (pf 6) = [] := hR 6 (by decide)
          refine Or.inl ⟨rfl, ?_⟩
          refine rq_less (sx 71 (congrArg some e5.1) (sx 72 (congrArg some e6.1) (sub_nil _))) (List.sublist_append_right _ _) ?_
          exact rq_mono (rq_v (rv_cmp rfl rfl rfl rfl)) (fun _ _ h => ⟨h.1.trans (congrArg Value.bool hb13), h.2⟩)
         ·
          intro vf pf hR
          refine Or.inl ⟨rfl, ?_⟩
          refine rq_less (sx 6 rfl (sub_nil _)) (List.sublist_append_right _ _) ?_
          exact rq_v (rv_ev rfl)
         ·
          intro vf pf hR
          have e8 : (vf 8) = .slice (some ⟨g6, 0, none⟩) 2 2 ∧ (pf 8) = [] := hR 8 (by decide)
          refine Or.inl ⟨rfl, ?_⟩
          refine rq_less (sx 74 (congrArg some e8.1) (sub_nil _)) (List.sublist_append_right _ _) ?_
          exact rq_v (rv_index (s := 1) rfl Try.underlying28 (by kernel_rfl) rfl rfl (rd_row 2 rfl) (by omega) (by first | omega | (simp only [List.length_set]; omega)))
         ·
          intro vf pf hR
          have e9 : (vf 9) = elP (.slice (some ⟨g6, 0, none⟩) 2 2) ((1 : Int).toNat * 1) ∧ (pf 9) = [] := hR 9 (by decide)
          refine Or.inl ⟨rfl, ?_⟩
          refine rq_less (sx 75 (congrArg some e9.1) (sub_nil _)) (List.sublist_append_right _ _) ?_
          exact rq_v (rv_loadEl (u := .int .i64 (([(cod z0 len0 2 : Int) % (d.W * d.H), (cod z0 len0 3 : Int) % (d.W * d.H)]).getD 1 0)) rfl (by kernel_rfl) rfl (rd_row 2 rfl) (ints_at1 (show _ < 2 by first | omega | (simp only [List.length_set]; omega))))
         ·
          intro vf pf hR
          refine Or.inl ⟨rfl, ?_⟩
          refine rq_less (sx 3 rfl (sub_nil _)) (List.sublist_append_right _ _) ?_
          exact rq_v (rv_field (k0 := 0) rfl (by kernel_rfl) rfl)
         ·
          intro vf pf hR
          have e11 : (vf 11) = .pointer (some ⟨b5, 0 + 0, none⟩) ∧ (pf 11) = [] := hR 11 (by decide)
          refine Or.inl ⟨rfl, ?_⟩
          refine rq_less (sx 77 (congrArg some e11.1) (sub_nil _)) (List.sublist_append_right _ _) ?_
          exact rq_v (rv_load rfl (by kernel_rfl) rfl (box_cell 3 rfl rfl))
         ·
          intro vf pf hR
          have e10 : (vf 10) = .int .i64 (([(cod z0 len0 2 : Int) % (d.W * d.H), (cod z0 len0 3 : Int) % (d.W * d.H)]).getD 1 0) ∧ (pf 10) = [] := hR 10 (by decide)
          have e12 : (vf 12) = .int .i64 d.W ∧ (pf 12) = [] := hR 12 (by decide)
          refine Or.inl ⟨rfl, ?_⟩
          refine rq_less (sx 76 (congrArg some e10.1) (sx 78 (congrArg some e12.1) (sub_nil _))) (List.sublist_append_right _ _) ?_
          exact rq_v (rv_quo rfl rfl rfl (by refine ⟨?_, ?_, ?_⟩ <;> omega))
         ·
          intro vf pf hR
          refine Or.inl ⟨rfl, ?_⟩
          refine rq_less (sx 5 rfl (sub_nil _)) (List.sublist_append_right _ _) ?_
          exact rq_v (rv_ev rfl)
         ·
          intro vf pf hR
          have e13 : (vf 13) = .int .i64 ((([(cod z0 len0 2 : Int) % (d.W * d.H), (cod z0 len0 3 : Int) % (d.W * d.H)]).getD 1 0) / d.W) ∧ (pf 13) = [] := hR 13 (by decide)
          have e14 : (vf 14) = .int .i64 ((cod z0 len0 1 : Int) % (d.H - 1)) ∧ (pf 14) = [] := hR 14 (by decide)
          refine Or.inl ⟨rfl, ?_⟩
          refine rq_less (sx 79 (congrArg some e13.1) (sx 80 (congrArg some e14.1) (sub_nil _))) (List.sublist_append_right _ _) ?_
          exact rq_mono (rq_v (rv_cmp rfl rfl rfl rfl)) (fun _ _ h => ⟨h.1.trans (congrArg Value.bool hb14), h.2⟩)
         ·
          intro vf pf hR
          have e7 : (vf 7) = .bool true ∧ (pf 7) = [] := hR 7 (by decide)
          have e15 : (vf 15) = .bool false ∧ (pf 15) = [] := hR 15 (by decide)
          refine Or.inl ⟨rfl, ?_⟩
          refine rq_less (sx 73 (congrArg some e7.1) (sx 81 (congrArg some e15.1) (sub_nil _))) (List.sublist_append_right _ _) ?_
          exact rq_v (rv_bneq (m := true) (n := false) rfl Try.underlying4 rfl rfl)
        ·
         intro vf pf hR
         have e16 : (vf 16) = .bool true ∧ (pf 16) = [] := hR 16 (by decide)
         refine hl_less (l' := [boxE b8 #[.int .i64 1, .int .i64 0, .int .i64 0, .slice (some ⟨g7, 0, none⟩) 1 1] 33, rowE 30 2 (.slice (some ⟨g7, 0, none⟩) 1 1) 1 ([1, 0].map (Value.int .i64)), rowE 3 1 (.slice (some ⟨g6, 0, none⟩) 2 2) 2 ([(cod z0 len0 2 : Int) % (d.W * d.H), (cod z0 len0 3 : Int) % (d.W * d.H)].map (Value.int .i64)), boxE b5 #[.int .i64 d.W, .int .i64 d.H, .int .i64 d.T, .int .i64 d.R] 25]) (sx 0 rfl (sx 2 rfl (sx 3 rfl (sx 4 rfl (sx 5 rfl (sx 6 rfl (sx 7 rfl (sx 8 rfl (sx 13 rfl (sx 82 (congrArg some e16.1) (sub_nil _))))))))))) (List.sublist_append_right _ _) ?_
         simp only [List.drop_succ_cons, List.drop_zero]
         refine hl_v rfl rfl rfl (rv_ev rfl) ?_
         refine hl_less (sx 0 rfl (sx 2 rfl (sx 3 rfl (sx 4 rfl (sx 5 rfl (sx 6 rfl (sx 7 rfl (sx 8 rfl (sx 9 rfl (sx 13 rfl (sub_nil _))))))))))) (.refl _) ?_
         refine hl_nil ?_
         exact hq_meet1 true (fun _ h9 => by have h8 := decide_eq_decide.1 h9; omega) (sx 0 rfl (sx 2 rfl (sx 3 rfl (sx 4 rfl (sx 5 rfl (sx 6 rfl (sx 7 rfl (sx 8 rfl (sx 9 rfl (sx 13 rfl (sub_nil _))))))))))) ((.cons_cons _ (.cons_cons _ (.cons_cons _ (.cons_cons _ .slnil)))))
      ·
       have hb13p : ¬ ((([(cod z0 len0 2 : Int) % (d.W * d.H), (cod z0 len0 3 : Int) % (d.W * d.H)]).getD 0 0) / d.W ≤ (cod z0 len0 1 : Int) % (d.H - 1)) := of_decide_eq_false hb13
       rcases Bool.eq_false_or_eq_true (decide ((([(cod z0 len0 2 : Int) % (d.W * d.H), (cod z0 len0 3 : Int) % (d.W * d.H)]).getD 1 0) / d.W ≤ (cod z0 len0 1 : Int) % (d.H - 1))) with hb15 | hb15
       ·
        have hb15p : (([(cod z0 len0 2 : Int) % (d.W * d.H), (cod z0 len0 3 : Int) % (d.W * d.H)]).getD 1 0) / d.W ≤ (cod z0 len0 1 : Int) % (d.H - 1) := of_decide_eq_true hb15
        refine hc_draw (by kernel_rfl) 17 [0, 1, 2, 3, 4, 5, 6, 7, 8, 9, 10, 11, 12, 13, 14, 15, 16] (List.take 17 _) (List.drop 17 _) [[], [0], [1], [], [3], [2, 4], [], [5, 6], [], [8], [9], [], [11], [10, 12], [], [13, 14], [7, 15]] [66, 67, 68, 69, 70, 71, 72, 73, 74, 75, 76, 77, 78, 79, 80, 81, 82] (fun i_ vs_ v_ p_ => match i_ with | 0 => v_ = .slice (some ⟨g6, 0, none⟩) 2 2 ∧ p_ = [] | 1 => v_ = elP (.slice (some ⟨g6, 0, none⟩) 2 2) ((0 : Int).toNat * 1) ∧ p_ = [] | 2 => v_ = .int .i64 (([(cod z0 len0 2 : Int) % (d.W * d.H), (cod z0 len0 3 : Int) % (d.W * d.H)]).getD 0 0) ∧ p_ = [] | 3 => v_ = .pointer (some ⟨b5, 0 + 0, none⟩) ∧ p_ = [] | 4 => v_ = .int .i64 d.W ∧ p_ = [] | 5 => v_ = .int .i64 ((([(cod z0 len0 2 : Int) % (d.W * d.H), (cod z0 len0 3 : Int) % (d.W * d.H)]).getD 0 0) / d.W) ∧ p_ = [] | 6 => v_ = .int .i64 ((cod z0 len0 1 : Int) % (d.H - 1)) ∧ p_ = [] | 7 => v_ = .bool false ∧ p_ = [] | 8 => v_ = .slice (some ⟨g6, 0, none⟩) 2 2 ∧ p_ = [] | 9 => v_ = elP (.slice (some ⟨g6, 0, none⟩) 2 2) ((1 : Int).toNat * 1) ∧ p_ = [] | 10 => v_ = .int .i64 (([(cod z0 len0 2 : Int) % (d.W * d.H), (cod z0 len0 3 : Int) % (d.W * d.H)]).getD 1 0) ∧ p_ = [] | 11 => v_ = .pointer (some ⟨b5, 0 + 0, none⟩) ∧ p_ = [] | 12 => v_ = .int .i64 d.W ∧ p_ = [] | 13 => v_ = .int .i64 ((([(cod z0 len0 2 : Int) % (d.W * d.H), (cod z0 len0 3 : Int) % (d.W * d.H)]).getD 1 0) / d.W) ∧ p_ = [] | 14 => v_ = .int .i64 ((cod z0 len0 1 : Int) % (d.H - 1)) ∧ p_ = [] | 15 => v_ = .bool true ∧ p_ = [] | 16 => v_ = .bool true ∧ p_ = [] | _ => True) (List.take_append_drop 17 _).symm (by kernel_rfl) (by kernel_rfl) rfl rfl ?_ ?_
        ·
         refine ⟨?_, ?_, ?_, ?_, ?_, ?_, ?_, ?_, ?_, ?_, ?_, ?_, ?_, ?_, ?_, ?_, ?_, trivial⟩
         ·
          intro vf pf hR
          refine Or.inl ⟨rfl, ?_⟩
          refine rq_less (sx 6 rfl (sub_nil _)) (List.sublist_append_right _ _) ?_
          exact rq_v (rv_ev rfl)
         ·
          intro vf pf hR
          have e0 : (vf 0) = .slice (some ⟨g6, 0, none⟩) 2 2 ∧ (pf 0) = [] := hR 0 (by decide)
          refine Or.inl ⟨rfl, ?_⟩
          refine rq_less (sx 66 (congrArg some e0.1) (sub_nil _)) (List.sublist_append_right _ _) ?_
          exact rq_v (rv_index (s := 1) rfl Try.underlying28 (by kernel_rfl) rfl rfl (rd_row 2 rfl) (by omega) (by first | omega | (simp only [List.length_set]; omega)))
         ·
          intro vf pf hR
          have e1 : (vf 1) = elP (.slice (some ⟨g6, 0, none⟩) 2 2) ((0 : Int).toNat * 1) ∧ (pf 1) = [] := hR 1 (by decide)
          refine Or.inl ⟨rfl, ?_⟩
          refine rq_less (sx 67 (congrArg some e1.1) (sub_nil _)) (List.sublist_append_right _ _) ?_
          exact rq_v (rv_loadEl (u := .int .i64 (([(cod z0 len0 2 : Int) % (d.W * d.H), (cod z0 len0 3 : Int) % (d.W * d.H)]).getD 0 0)) rfl (by kernel_rfl) rfl (rd_row 2 rfl) (ints_at1 (show _ < 2 by first | omega | (simp only [List.length_set]; omega))))
         ·
          intro vf pf hR
          refine Or.inl ⟨rfl, ?_⟩
          refine rq_less (sx 3 rfl (sub_nil _)) (List.sublist_append_right _ _) ?_
          exact rq_v (rv_field (k0 := 0) rfl (by kernel_rfl) rfl)
         ·
          intro vf pf hR
          have e3 : (vf 3) = .pointer (some ⟨b5, 0 + 0, none⟩) ∧ (pf 3) = [] := hR 3 (by decide)
          refine Or.inl ⟨rfl, ?_⟩
          refine rq_less (sx 69 (congrArg some e3.1) (sub_nil _)) (List.sublist_append_right _ _) ?_
          exact rq_v (rv_load rfl (by kernel_rfl) rfl (box_cell 3 rfl rfl))
         ·
          intro vf pf hR
          have e2 : (vf 2) = .int .i64 (([(cod z0 len0 2 : Int) % (d.W * d.H), (cod z0 len0 3 : Int) % (d.W * d.H)]).getD 0 0) ∧ (pf 2) = [] := hR 2 (by decide)
          have e4 : (vf 4) = .int .i64 d.W ∧ (pf 4) = [] := hR 4 (by decide)
          refine Or.inl ⟨rfl, ?_⟩
          refine rq_less (sx 68 (congrArg some e2.1) (sx 70 (congrArg some e4.1) (sub_nil _))) (List.sublist_append_right _ _) ?_
          exact rq_v (rv_quo rfl rfl rfl (by refine ⟨?_, ?_, ?_⟩ <;> omega))
         ·
          intro vf pf hR
          refine Or.inl ⟨rfl, ?_⟩
          refine rq_less (sx 5 rfl (sub_nil _)) (List.sublist_append_right _ _) ?_
          exact rq_v (rv_ev rfl)
         ·
          intro vf pf hR
          have e5 : (vf 5) = .int .i64 ((([(cod z0 len0 2 : Int) % (d.W * d.H), (cod z0 len0 3 : Int) % (d.W * d.H)]).getD 0 0) / d.W) ∧ (pf 5) = [] := hR 5 (by decide)
          have e6 : (vf 6) = .int .i64 ((cod z0 len0 1 : Int) % (d.H - 1)) ∧ (pf 6) = [] := hR 6 (by decide)
          refine Or.inl ⟨rfl, ?_⟩
          refine rq_less (sx 71 (congrArg some e5.1) (sx 72 (congrArg some e6.1) (sub_nil _))) (List.sublist_append_right _ _) ?_
          exact rq_mono (rq_v (rv_cmp rfl rfl rfl rfl)) (fun _ _ h => ⟨h.1.trans (congrArg Value.bool hb13), h.2⟩)
         ·
          intro vf pf hR
          refine Or.inl ⟨rfl, ?_⟩
          refine rq_less (sx 6 rfl (sub_nil _)) (List.sublist_append_right _ _) ?_
          exact rq_v (rv_ev rfl)
         ·
          intro vf pf hR
          have e8 : (vf 8) = .slice (some ⟨g6, 0, none⟩) 2 2 ∧ (pf 8) = [] := hR 8 (by decide)
          refine Or.inl ⟨rfl, ?_⟩
          refine rq_less (sx 74 (congrArg some e8.1) (sub_nil _)) (List.sublist_append_right _ _) ?_
          exact rq_v (rv_index (s := 1) rfl Try.underlying28 (by kernel_rfl) rfl rfl (rd_row 2 rfl) (by omega) (by first | omega | (simp only [List.length_set]; omega)))
         ·
          intro vf pf hR
          have e9 : (vf 9) = elP (.slice (some ⟨g6, 0, none⟩) 2 2) ((1 : Int).toNat * 1) ∧ (pf 9) = [] := hR 9 (by decide)
          refine Or.inl ⟨rfl, ?_⟩
          refine rq_less (sx 75 (congrArg some e9.1) (sub_nil _)) (List.sublist_append_right _ _) ?_
          exact rq_v (rv_loadEl (u := .int .i64 (([(cod z0 len0 2 : Int) % (d.W * d.H), (cod z0 len0 3 : Int) % (d.W * d.H)]).getD 1 0)) rfl (by kernel_rfl) rfl (rd_row 2 rfl) (ints_at1 (show _ < 2 by first | omega | (simp only [List.length_set]; omega))))
         ·
          intro vf pf hR
          refine Or.inl ⟨rfl, ?_⟩
          refine rq_less (sx 3 rfl (sub_nil _)) (List.sublist_append_right _ _) ?_
          exact rq_v (rv_field (k0 := 0) rfl (by kernel_rfl) rfl)
         ·
          intro vf pf hR
          have e11 : (vf 11) = .pointer (some ⟨b5, 0 + 0, none⟩) ∧ (pf 11) = [] := hR 11 (by decide)
          refine Or.inl ⟨rfl, ?_⟩
          refine rq_less (sx 77 (congrArg some e11.1) (sub_nil _)) (List.sublist_append_right _ _) ?_
          exact rq_v (rv_load rfl (by kernel_rfl) rfl (box_cell 3 rfl rfl))
         ·
          intro vf pf hR
          have e10 : (vf 10) = .int .i64 (([(cod z0 len0 2 : Int) % (d.W * d.H), (cod z0 len0 3 : Int) % (d.W * d.H)]).getD 1 0) ∧ (pf 10) = [] := hR 10 (by decide)
          have e12 : (vf 12) = .int .i64 d.W ∧ (pf 12) = [] := hR 12 (by decide)
          refine Or.inl ⟨rfl, ?_⟩
          refine rq_less (sx 76 (congrArg some e10.1) (sx 78 (congrArg some e12.1) (sub_nil _))) (List.sublist_append_right _ _) ?_
          exact rq_v (rv_quo rfl rfl rfl (by refine ⟨?_, ?_, ?_⟩ <;> omega))
         ·
          intro vf pf hR
          refine Or.inl ⟨rfl, ?_⟩
          refine rq_less (sx 5 rfl (sub_nil _)) (List.sublist_append_right _ _) ?_
          exact rq_v (rv_ev rfl)
         ·
          intro vf pf hR
          have e13 : (vf 13) = .int .i64 ((([(cod z0 len0 2 : Int) % (d.W * d.H), (cod z0 len0 3 : Int) % (d.W * d.H)]).getD 1 0) / d.W) ∧ (pf 13) = [] := hR 13 (by decide)
          have e14 : (vf 14) = .int .i64 ((cod z0 len0 1 : Int) % (d.H - 1)) ∧ (pf 14) = [] := hR 14 (by decide)
          refine Or.inl ⟨rfl, ?_⟩
          refine rq_less (sx 79 (congrArg some e13.1) (sx 80 (congrArg some e14.1) (sub_nil _))) (List.sublist_append_right _ _) ?_
          exact rq_mono (rq_v (rv_cmp rfl rfl rfl rfl)) (fun _ _ h => ⟨h.1.trans (congrArg Value.bool hb15), h.2⟩)
         ·
          intro vf pf hR
          have e7 : (vf 7) = .bool false ∧ (pf 7) = [] := hR 7 (by decide)
          have e15 : (vf 15) = .bool true ∧ (pf 15) = [] := hR 15 (by decide)
          refine Or.inl ⟨rfl, ?_⟩
          refine rq_less (sx 73 (congrArg some e7.1) (sx 81 (congrArg some e15.1) (sub_nil _))) (List.sublist_append_right _ _) ?_
          exact rq_v (rv_bneq (m := false) (n := true) rfl Try.underlying4 rfl rfl)
        ·
         intro vf pf hR
         have e16 : (vf 16) = .bool true ∧ (pf 16) = [] := hR 16 (by decide)
         refine hl_less (l' := [boxE b8 #[.int .i64 1, .int .i64 0, .int .i64 0, .slice (some ⟨g7, 0, none⟩) 1 1] 33, rowE 30 2 (.slice (some ⟨g7, 0, none⟩) 1 1) 1 ([1, 0].map (Value.int .i64)), rowE 3 1 (.slice (some ⟨g6, 0, none⟩) 2 2) 2 ([(cod z0 len0 2 : Int) % (d.W * d.H), (cod z0 len0 3 : Int) % (d.W * d.H)].map (Value.int .i64)), boxE b5 #[.int .i64 d.W, .int .i64 d.H, .int .i64 d.T, .int .i64 d.R] 25]) (sx 0 rfl (sx 2 rfl (sx 3 rfl (sx 4 rfl (sx 5 rfl (sx 6 rfl (sx 7 rfl (sx 8 rfl (sx 13 rfl (sx 82 (congrArg some e16.1) (sub_nil _))))))))))) (List.sublist_append_right _ _) ?_
         simp only [List.drop_succ_cons, List.drop_zero]
         refine hl_v rfl rfl rfl (rv_ev rfl) ?_
         refine hl_less (sx 0 rfl (sx 2 rfl (sx 3 rfl (sx 4 rfl (sx 5 rfl (sx 6 rfl (sx 7 rfl (sx 8 rfl (sx 9 rfl (sx 13 rfl (sub_nil _))))))))))) (.refl _) ?_
         refine hl_nil ?_
         exact hq_meet1 true (fun _ h9 => by have h8 := decide_eq_decide.1 h9; omega) (sx 0 rfl (sx 2 rfl (sx 3 rfl (sx 4 rfl (sx 5 rfl (sx 6 rfl (sx 7 rfl (sx 8 rfl (sx 9 rfl (sx 13 rfl (sub_nil _))))))))))) ((.cons_cons _ (.cons_cons _ (.cons_cons _ (.cons_cons _ .slnil)))))
       ·
        have hb15p : ¬ ((([(cod z0 len0 2 : Int) % (d.W * d.H), (cod z0 len0 3 : Int) % (d.W * d.H)]).getD 1 0) / d.W ≤ (cod z0 len0 1 : Int) % (d.H - 1)) := of_decide_eq_false hb15
        refine hc_draw (by kernel_rfl) 17 [0, 1, 2, 3, 4, 5, 6, 7, 8, 9, 10, 11, 12, 13, 14, 15, 16] (List.take 17 _) (List.drop 17 _) [[], [0], [1], [], [3], [2, 4], [], [5, 6], [], [8], [9], [], [11], [10, 12], [], [13, 14], [7, 15]] [66, 67, 68, 69, 70, 71, 72, 73, 74, 75, 76, 77, 78, 79, 80, 81, 82] (fun i_ vs_ v_ p_ => match i_ with | 0 => v_ = .slice (some ⟨g6, 0, none⟩) 2 2 ∧ p_ = [] | 1 => v_ = elP (.slice (some ⟨g6, 0, none⟩) 2 2) ((0 : Int).toNat * 1) ∧ p_ = [] | 2 => v_ = .int .i64 (([(cod z0 len0 2 : Int) % (d.W * d.H), (cod z0 len0 3 : Int) % (d.W * d.H)]).getD 0 0) ∧ p_ = [] | 3 => v_ = .pointer (some ⟨b5, 0 + 0, none⟩) ∧ p_ = [] | 4 => v_ = .int .i64 d.W ∧ p_ = [] | 5 => v_ = .int .i64 ((([(cod z0 len0 2 : Int) % (d.W * d.H), (cod z0 len0 3 : Int) % (d.W * d.H)]).getD 0 0) / d.W) ∧ p_ = [] | 6 => v_ = .int .i64 ((cod z0 len0 1 : Int) % (d.H - 1)) ∧ p_ = [] | 7 => v_ = .bool false ∧ p_ = [] | 8 => v_ = .slice (some ⟨g6, 0, none⟩) 2 2 ∧ p_ = [] | 9 => v_ = elP (.slice (some ⟨g6, 0, none⟩) 2 2) ((1 : Int).toNat * 1) ∧ p_ = [] | 10 => v_ = .int .i64 (([(cod z0 len0 2 : Int) % (d.W * d.H), (cod z0 len0 3 : Int) % (d.W * d.H)]).getD 1 0) ∧ p_ = [] | 11 => v_ = .pointer (some ⟨b5, 0 + 0, none⟩) ∧ p_ = [] | 12 => v_ = .int .i64 d.W ∧ p_ = [] | 13 => v_ = .int .i64 ((([(cod z0 len0 2 : Int) % (d.W * d.H), (cod z0 len0 3 : Int) % (d.W * d.H)]).getD 1 0) / d.W) ∧ p_ = [] | 14 => v_ = .int .i64 ((cod z0 len0 1 : Int) % (d.H - 1)) ∧ p_ = [] | 15 => v_ = .bool false ∧ p_ = [] | 16 => v_ = .bool false ∧ p_ = [] | _ => True) (List.take_append_drop 17 _).symm (by kernel_rfl) (by kernel_rfl) rfl rfl ?_ ?_
        ·
         refine ⟨?_, ?_, ?_, ?_, ?_, ?_, ?_, ?_, ?_, ?_, ?_, ?_, ?_, ?_, ?_, ?_, ?_, trivial⟩
         ·
          intro vf pf hR
          refine Or.inl ⟨rfl, ?_⟩
          refine rq_less (sx 6 rfl (sub_nil _)) (List.sublist_append_right _ _) ?_
          exact rq_v (rv_ev rfl)
         ·
          intro vf pf hR
          have e0 : (vf 0) = .slice (some ⟨g6, 0, none⟩) 2 2 ∧ (pf 0) = [] := hR 0 (by decide)
          refine Or.inl ⟨rfl, ?_⟩
          refine rq_less (sx 66 (congrArg some e0.1) (sub_nil _)) (List.sublist_append_right _ _) ?_
          exact rq_v (rv_index (s := 1) rfl Try.underlying28 (by kernel_rfl) rfl rfl (rd_row 2 rfl) (by omega) (by first | omega | (simp only [List.length_set]; omega)))
         ·
          intro vf pf hR
          have e1 : (vf 1) = elP (.slice (some ⟨g6, 0, none⟩) 2 2) ((0 : Int).toNat * 1) ∧ (pf 1) = [] := hR 1 (by decide)
          refine Or.inl ⟨rfl, ?_⟩
          refine rq_less (sx 67 (congrArg some e1.1) (sub_nil _)) (List.sublist_append_right _ _) ?_
          exact rq_v (rv_loadEl (u := .int .i64 (([(cod z0 len0 2 : Int) % (d.W * d.H), (cod z0 len0 3 : Int) % (d.W * d.H)]).getD 0 0)) rfl (by kernel_rfl) rfl (rd_row 2 rfl) (ints_at1 (show _ < 2 by first | omega | (simp only [List.length_set]; omega))))
         ·
          intro vf pf hR
          refine Or.inl ⟨rfl, ?_⟩
          refine rq_less (sx 3 rfl (sub_nil _)) (List.sublist_append_right _ _) ?_
          exact rq_v (rv_field (k0 := 0) rfl (by kernel_rfl) rfl)
         ·
          intro vf pf hR
          have e3 : (vf 3) = .pointer (some ⟨b5, 0 + 0, none⟩) ∧ (pf 3) = [] := hR 3 (by decide)
          refine Or.inl ⟨rfl, ?_⟩
          refine rq_less (sx 69 (congrArg some e3.1) (sub_nil _)) (List.sublist_append_right _ _) ?_
          exact rq_v (rv_load rfl (by kernel_rfl) rfl (box_cell 3 rfl rfl))
         ·
          intro vf pf hR
          have e2 : (vf 2) = .int .i64 (([(cod z0 len0 2 : Int) % (d.W * d.H), (cod z0 len0 3 : Int) % (d.W * d.H)]).getD 0 0) ∧ (pf 2) = [] := hR 2 (by decide)
          have e4 : (vf 4) = .int .i64 d.W ∧ (pf 4) = [] := hR 4 (by decide)
          refine Or.inl ⟨rfl, ?_⟩
          refine rq_less (sx 68 (congrArg some e2.1) (sx 70 (congrArg some e4.1) (sub_nil _))) (List.sublist_append_right _ _) ?_
          exact rq_v (rv_quo rfl rfl rfl (by refine ⟨?_, ?_, ?_⟩ <;> omega))
         ·
          intro vf pf hR
          refine Or.inl ⟨rfl, ?_⟩
          refine rq_less (sx 5 rfl (sub_nil _)) (List.sublist_append_right _ _) ?_
          exact rq_v (rv_ev rfl)
         ·
          intro vf pf hR
          have e5 : (vf 5) = .int .i64 ((([(cod z0 len0 2 : Int) % (d.W * d.H), (cod z0 len0 3 : Int) % (d.W * d.H)]).getD 0 0) / d.W) ∧ (pf 5) = [] := hR 5 (by decide)
          have e6 : (vf 6) = .int .i64 ((cod z0 len0 1 : Int) % (d.H - 1)) ∧ (pf 6) = [] := hR 6 (by decide)
          refine Or.inl ⟨rfl, ?_⟩
          refine rq_less (sx 71 (congrArg some e5.1) (sx 72 (congrArg some e6.1) (sub_nil _))) (List.sublist_append_right _ _) ?_
          exact rq_mono (rq_v (rv_cmp rfl rfl rfl rfl)) (fun _ _ h => ⟨h.1.trans (congrArg Value.bool hb13), h.2⟩)
         ·
          intro vf pf hR
          refine Or.inl ⟨rfl, ?_⟩
          refine rq_less (sx 6 rfl (sub_nil _)) (List.sublist_append_right _ _) ?_
          exact rq_v (rv_ev rfl)
         ·
          intro vf pf hR
          have e8 : (vf 8) = .slice (some ⟨g6, 0, none⟩) 2 2 ∧ (pf 8) = [] := hR 8 (by decide)
          refine Or.inl ⟨rfl, ?_⟩
          refine rq_less (sx 74 (congrArg some e8.1) (sub_nil _)) (List.sublist_append_right _ _) ?_
          exact rq_v (rv_index (s := 1) rfl Try.underlying28 (by kernel_rfl) rfl rfl (rd_row 2 rfl) (by omega) (by first | omega | (simp only [List.length_set]; omega)))
         ·
          intro vf pf hR
          have e9 : (vf 9) = elP (.slice (some ⟨g6, 0, none⟩) 2 2) ((1 : Int).toNat * 1) ∧ (pf 9) = [] := hR 9 (by decide)
          refine Or.inl ⟨rfl, ?_⟩
          refine rq_less (sx 75 (congrArg some e9.1) (sub_nil _)) (List.sublist_append_right _ _) ?_
          exact rq_v (rv_loadEl (u := .int .i64 (([(cod z0 len0 2 : Int) % (d.W * d.H), (cod z0 len0 3 : Int) % (d.W * d.H)]).getD 1 0)) rfl (by kernel_rfl) rfl (rd_row 2 rfl) (ints_at1 (show _ < 2 by first | omega | (simp only [List.length_set]; omega))))
         ·
          intro vf pf hR
          refine Or.inl ⟨rfl, ?_⟩
          refine rq_less (sx 3 rfl (sub_nil _)) (List.sublist_append_right _ _) ?_
          exact rq_v (rv_field (k0 := 0) rfl (by kernel_rfl) rfl)
         ·
          intro vf pf hR
          have e11 : (vf 11) = .pointer (some ⟨b5, 0 + 0, none⟩) ∧ (pf 11) = [] := hR 11 (by decide)
          refine Or.inl ⟨rfl, ?_⟩
          refine rq_less (sx 77 (congrArg some e11.1) (sub_nil _)) (List.sublist_append_right _ _) ?_
          exact rq_v (rv_load rfl (by kernel_rfl) rfl (box_cell 3 rfl rfl))
         ·
          intro vf pf hR
          have e10 : (vf 10) = .int .i64 (([(cod z0 len0 2 : Int) % (d.W * d.H), (cod z0 len0 3 : Int) % (d.W * d.H)]).getD 1 0) ∧ (pf 10) = [] := hR 10 (by decide)
          have e12 : (vf 12) = .int .i64 d.W ∧ (pf 12) = [] := hR 12 (by decide)
          refine Or.inl ⟨rfl, ?_⟩
          refine rq_less (sx 76 (congrArg some e10.1) (sx 78 (congrArg some e12.1) (sub_nil _))) (List.sublist_append_right _ _) ?_
          exact rq_v (rv_quo rfl rfl rfl (by refine ⟨?_, ?_, ?_⟩ <;> omega))
         ·
          intro vf pf hR
          refine Or.inl ⟨rfl, ?_⟩
          refine rq_less (sx 5 rfl (sub_nil _)) (List.sublist_append_right _ _) ?_
          exact rq_v (rv_ev rfl)
         ·
          intro vf pf hR
          have e13 : (vf 13) = .int .i64 ((([(cod z0 len0 2 : Int) % (d.W * d.H), (cod z0 len0 3 : Int) % (d.W * d.H)]).getD 1 0) / d.W) ∧ (pf 13) = [] := hR 13 (by decide)
          have e14 : (vf 14) = .int .i64 ((cod z0 len0 1 : Int) % (d.H - 1)) ∧ (pf 14) = [] := hR 14 (by decide)
          refine Or.inl ⟨rfl, ?_⟩
          refine rq_less (sx 79 (congrArg some e13.1) (sx 80 (congrArg some e14.1) (sub_nil _))) (List.sublist_append_right _ _) ?_
          exact rq_mono (rq_v (rv_cmp rfl rfl rfl rfl)) (fun _ _ h => ⟨h.1.trans (congrArg Value.bool hb15), h.2⟩)
         ·
          intro vf pf hR
          have e7 : (vf 7) = .bool false ∧ (pf 7) = [] := hR 7 (by decide)
          have e15 : (vf 15) = .bool false ∧ (pf 15) = [] := hR 15 (by decide)
          refine Or.inl ⟨rfl, ?_⟩
          refine rq_less (sx 73 (congrArg some e7.1) (sx 81 (congrArg some e15.1) (sub_nil _))) (List.sublist_append_right _ _) ?_
          exact rq_v (rv_bneq (m := false) (n := false) rfl Try.underlying4 rfl rfl)
        ·
         intro vf pf hR
         have e16 : (vf 16) = .bool false ∧ (pf 16) = [] := hR 16 (by decide)
         refine hl_less (l' := [boxE b8 #[.int .i64 1, .int .i64 0, .int .i64 0, .slice (some ⟨g7, 0, none⟩) 1 1] 33, rowE 30 2 (.slice (some ⟨g7, 0, none⟩) 1 1) 1 ([1, 0].map (Value.int .i64)), rowE 3 1 (.slice (some ⟨g6, 0, none⟩) 2 2) 2 ([(cod z0 len0 2 : Int) % (d.W * d.H), (cod z0 len0 3 : Int) % (d.W * d.H)].map (Value.int .i64)), boxE b5 #[.int .i64 d.W, .int .i64 d.H, .int .i64 d.T, .int .i64 d.R] 25]) (sx 0 rfl (sx 2 rfl (sx 3 rfl (sx 4 rfl (sx 5 rfl (sx 6 rfl (sx 7 rfl (sx 8 rfl (sx 13 rfl (sx 82 (congrArg some e16.1) (sub_nil _))))))))))) (List.sublist_append_right _ _) ?_
         simp only [List.drop_succ_cons, List.drop_zero]
         refine hl_v rfl rfl rfl (rv_ev rfl) ?_
         refine hl_less (sx 0 rfl (sx 2 rfl (sx 3 rfl (sx 4 rfl (sx 5 rfl (sx 6 rfl (sx 7 rfl (sx 8 rfl (sx 9 rfl (sx 13 rfl (sub_nil _))))))))))) (.refl _) ?_
         refine hl_nil ?_
         exact hq_meet1 false (fun h9 => absurd h9 (by decide)) (sx 0 rfl (sx 2 rfl (sx 3 rfl (sx 4 rfl (sx 5 rfl (sx 6 rfl (sx 7 rfl (sx 8 rfl (sx 9 rfl (sx 13 rfl (sub_nil _))))))))))) ((.cons_cons _ (.cons_cons _ (.cons_cons _ (.cons_cons _ .slnil)))))
     intro al hm16
     have hal := hm16
     refine hc_seq ?_
     refine hc_region ?_
     refine hl_v rfl rfl rfl (rv_loadN (cs := [.int .i64 d.W, .int .i64 d.H, .int .i64 d.T, .int .i64 d.R]) rfl (by kernel_rfl) (by kernel_rfl) rfl rfl (box_part 3 rfl 0 rfl)) ?_
     refine hl_v rfl rfl rfl (rv_ev rfl) ?_
     refine hl_q rfl rfl rfl (rq_call (by kernel_rfl) rfl (fun w hm => colCut_ret d ((cod z0 len0 0 : Int) % (d.W - 1)) w hv ⟨hX0.1, by omega⟩)) ?_
     intro v17 p18 hR19
     subst hR19
     have hcolCuts := col_some hv hX0.1 (by omega)
     refine hl_v rfl rfl rfl (rv_ev rfl) ?_
     refine hl_less (sx 0 rfl (sx 2 rfl (sx 3 rfl (sx 4 rfl (sx 5 rfl (sx 6 rfl (sx 7 rfl (sx 8 rfl (sx 9 rfl (sx 10 rfl (sx 13 rfl (sub_nil _)))))))))))) (.refl _) ?_
     refine hl_nil ?_
     refine hq_then ?_
     refine hc_seq ?_
     refine hc_region ?_
     refine hl_v rfl rfl rfl (rv_loadN (cs := [.int .i64 d.W, .int .i64 d.H, .int .i64 d.T, .int .i64 d.R]) rfl (by kernel_rfl) (by kernel_rfl) rfl rfl (box_part 4 rfl 0 rfl)) ?_
     refine hl_v rfl rfl rfl (rv_ev rfl) ?_
     refine hl_q rfl rfl rfl (rq_call (by kernel_rfl) rfl (fun w hm => rowCut_ret d ((cod z0 len0 1 : Int) % (d.H - 1)) w hv ⟨hY0.1, by omega⟩)) ?_
     intro v20 p21 hR22
     subst hR22
     have hrowCuts := row_some hv hY0.1 (by omega)
     refine hl_v rfl rfl rfl (rv_ev rfl) ?_
     refine hl_less (sx 0 rfl (sx 2 rfl (sx 3 rfl (sx 4 rfl (sx 5 rfl (sx 6 rfl (sx 7 rfl (sx 8 rfl (sx 9 rfl (sx 10 rfl (sx 11 rfl (sx 13 rfl (sub_nil _))))))))))))) (.refl _) ?_
     refine hl_nil ?_
     refine hq_then ?_
     refine hc_seq ?_
     refine hc_seq ?_
     refine hc_region ?_
     refine hl_v rfl rfl rfl (rv_ev rfl) ?_
     refine hl_bool (fun h23 => ?_) (fun h23 => ?_)
     ·
      refine hl_v rfl rfl rfl (rv_ev rfl) ?_
      refine hl_v rfl rfl rfl (rv_loadN (cs := [.int .i64 d.W, .int .i64 d.H, .int .i64 d.T, .int .i64 d.R]) rfl (by kernel_rfl) (by kernel_rfl) rfl rfl (box_part 5 rfl 0 rfl)) ?_
      refine hl_v rfl rfl rfl (rv_ev rfl) ?_
      refine hl_v rfl rfl rfl (rv_loadN (cs := [.int .i64 1, .int .i64 0, .int .i64 0, .slice (some ⟨g7, 0, none⟩) 1 1]) rfl (by kernel_rfl) (by kernel_rfl) rfl rfl (box_part 2 rfl 0 rfl)) ?_
      refine hl_v rfl rfl rfl (rv_ev rfl) ?_
      refine hl_callV rfl rfl rfl (rq_call (by kernel_rfl) rfl (fun w hm => ret_ans (IsSeparated_law d (fun t => decide (t % d.W ≤ (cod z0 len0 0 : Int) % (d.W - 1))) ((cod z0 len0 2 : Int) % (d.W * d.H)) ((cod z0 len0 3 : Int) % (d.W * d.H)) _ (.slice (some ⟨g7, 0, none⟩) 1 1) _ w hv hA0 hB0 (rd_row 4 rfl w hm) (rd_row 3 rfl w hm) (rd_row 1 rfl w hm) (hac (by assumption))))) ?_
      refine hl_v rfl rfl rfl (rv_ev rfl) ?_
      refine hl_v rfl rfl rfl (rv_ev rfl) ?_
      refine hl_v rfl rfl rfl (rv_ev rfl) ?_
      refine hl_v rfl rfl rfl (rv_ev rfl) ?_
      refine hl_bool (fun h24 => ?_) (fun h24 => ?_)
      ·
       refine hl_v rfl rfl rfl (rv_ev rfl) ?_
       refine hl_v rfl rfl rfl (rv_loadN (cs := [.int .i64 d.W, .int .i64 d.H, .int .i64 d.T, .int .i64 d.R]) rfl (by kernel_rfl) (by kernel_rfl) rfl rfl (box_part 5 rfl 0 rfl)) ?_
       refine hl_v rfl rfl rfl (rv_ev rfl) ?_
       refine hl_v rfl rfl rfl (rv_loadN (cs := [.int .i64 1, .int .i64 0, .int .i64 0, .slice (some ⟨g7, 0, none⟩) 1 1]) rfl (by kernel_rfl) (by kernel_rfl) rfl rfl (box_part 2 rfl 0 rfl)) ?_
       refine hl_v rfl rfl rfl (rv_ev rfl) ?_
       refine hl_callV rfl rfl rfl (rq_call (by kernel_rfl) rfl (fun w hm => ret_ans (IsSeparated_law d (fun t => decide (t / d.W ≤ (cod z0 len0 1 : Int) % (d.H - 1))) ((cod z0 len0 2 : Int) % (d.W * d.H)) ((cod z0 len0 3 : Int) % (d.W * d.H)) _ (.slice (some ⟨g7, 0, none⟩) 1 1) _ w hv hA0 hB0 (rd_row 4 rfl w hm) (rd_row 3 rfl w hm) (rd_row 0 rfl w hm) (hal (by assumption))))) ?_
       refine hl_v rfl rfl rfl (rv_ev rfl) ?_
       refine hl_v rfl rfl rfl (rv_ev rfl) ?_
       refine hl_v rfl rfl rfl (rv_ev rfl) ?_
       refine hl_less (sx 0 rfl (sx 2 rfl (sx 3 rfl (sx 4 rfl (sx 5 rfl (sx 6 rfl (sx 7 rfl (sx 8 rfl (sx 9 rfl (sx 10 rfl (sx 11 rfl (sx 13 rfl (sx 108 rfl (sub_nil _)))))))))))))) (.refl _) ?_
       refine hl_nil ?_
       refine hq_then ?_
       refine hc_false rfl ?_
       refine hc_skip ?_
       refine hq_then ?_
       refine hc_seq ?_
       refine hc_region ?_
       refine hl_v rfl rfl rfl (rv_ev rfl) ?_
       refine hl_v rfl rfl rfl (rv_len rfl Try.underlying28 rfl (rd_row 1 rfl)) ?_
       refine hl_gtr rfl rfl rfl rfl rfl rfl (fun h25 => ?_) (fun h25 => absurd h25 (by omega))
       refine hl_v rfl rfl rfl (rv_ev rfl) ?_
       refine hl_v rfl rfl rfl (rv_ev rfl) ?_
       refine hl_v rfl rfl rfl (rv_len rfl Try.underlying28 rfl (rd_row 0 rfl)) ?_
       refine hl_gtr rfl rfl rfl rfl rfl rfl (fun h26 => ?_) (fun h26 => absurd h26 (by omega))
       refine hl_v rfl rfl rfl (rv_ev rfl) ?_
       refine hl_v rfl rfl rfl (rv_ev rfl) ?_
       refine hl_v rfl rfl rfl (rv_loadN (cs := [.int .i64 d.W, .int .i64 d.H, .int .i64 d.T, .int .i64 d.R]) rfl (by kernel_rfl) (by kernel_rfl) rfl rfl (box_part 5 rfl 0 rfl)) ?_
       refine hl_v rfl rfl rfl (rv_ev rfl) ?_
       refine hl_v rfl rfl rfl (rv_loadN (cs := [.int .i64 1, .int .i64 0, .int .i64 0, .slice (some ⟨g7, 0, none⟩) 1 1]) rfl (by kernel_rfl) (by kernel_rfl) rfl rfl (box_part 2 rfl 0 rfl)) ?_
       refine hl_v rfl rfl rfl (rv_loadN (cs := [.int .i64 1, .int .i64 0, .int .i64 0, .slice (some ⟨g7, 0, none⟩) 1 1]) rfl (by kernel_rfl) (by kernel_rfl) rfl rfl (box_part 2 rfl 0 rfl)) ?_
       refine hl_row rfl rfl rfl (rq_buildSlice (z := .agg #[.int .i64 0, .int .i64 0, .int .i64 0, .slice none 0 0]) (s := 4) (cs := [.int .i64 1, .int .i64 0, .int .i64 0, .slice (some ⟨g7, 0, none⟩) 1 1, .int .i64 1, .int .i64 0, .int .i64 0, .slice (some ⟨g7, 0, none⟩) 1 1]) rfl Try.underlying37 (by kernel_rfl) (by decide) rfl (by kernel_rfl) rfl) ?_
       intro g27
       refine hl_v rfl rfl rfl (rv_ev rfl) ?_
       refine hl_q rfl rfl rfl (rq_call (by kernel_rfl) rfl (fun w hm => SeparatedCount_law d (fun t => decide (t % d.W ≤ (cod z0 len0 0 : Int) % (d.W - 1))) ((cod z0 len0 2 : Int) % (d.W * d.H)) ((cod z0 len0 3 : Int) % (d.W * d.H)) _ (.slice (some ⟨g7, 0, none⟩) 1 1) _ _ w hv hA0 hB0 (rd_row 5 rfl w hm) (rd_row 4 rfl w hm) (rd_row 0 rfl w hm) (rd_row 2 rfl w hm))) ?_
       intro v28 p29 hR30
       obtain ⟨k, rfl, rfl, hk0, hk1⟩ := hR30
       have hk2 := hk1 (hac (by assumption))
       refine hl_v rfl rfl rfl (rv_ev rfl) ?_
       refine hl_bool (fun h31 => ?_) (fun h31 => absurd ((h23).symm.trans h31) (by decide))
       refine hl_callV rfl rfl rfl (rq_call (by kernel_rfl) rfl (fun w hm => ret_ans (btoi_t w))) ?_
       refine hl_v rfl rfl rfl (rv_mul rfl rfl rfl (by constructor <;> omega)) ?_
       refine hl_geq rfl rfl rfl rfl rfl rfl (fun h32 => ?_) (fun h32 => absurd h32 (by omega))
       refine hl_v rfl rfl rfl (rv_ev rfl) ?_
       refine hl_v rfl rfl rfl (rv_ev rfl) ?_
       refine hl_less (sx 0 rfl (sx 2 rfl (sx 3 rfl (sx 4 rfl (sx 5 rfl (sx 6 rfl (sx 7 rfl (sx 8 rfl (sx 9 rfl (sx 10 rfl (sx 11 rfl (sx 13 rfl (sx 108 rfl (sub_nil _)))))))))))))) (.refl _) ?_
       refine hl_nil ?_
       refine hq_then ?_
       refine hc_ret ?_
       exact hq_ans rfl rfl rfl
      ·
       refine hl_v rfl rfl rfl (rv_ev rfl) ?_
       refine hl_skip rfl rfl rfl ?_
       refine hl_skip rfl rfl rfl ?_
       refine hl_skip rfl rfl rfl ?_
       refine hl_skip rfl rfl rfl ?_
       refine hl_skip rfl rfl rfl ?_
       refine hl_skip rfl rfl rfl ?_
       refine hl_v rfl rfl rfl (rv_ev rfl) ?_
       refine hl_v rfl rfl rfl (rv_ev rfl) ?_
       refine hl_less (sx 0 rfl (sx 2 rfl (sx 3 rfl (sx 4 rfl (sx 5 rfl (sx 6 rfl (sx 7 rfl (sx 8 rfl (sx 9 rfl (sx 10 rfl (sx 11 rfl (sx 13 rfl (sx 108 rfl (sub_nil _)))))))))))))) (.refl _) ?_
       refine hl_nil ?_
       refine hq_then ?_
       refine hc_false rfl ?_
       refine hc_skip ?_
       refine hq_then ?_
       refine hc_seq ?_
       refine hc_region ?_
       refine hl_v rfl rfl rfl (rv_ev rfl) ?_
       refine hl_v rfl rfl rfl (rv_len rfl Try.underlying28 rfl (rd_row 1 rfl)) ?_
       refine hl_gtr rfl rfl rfl rfl rfl rfl (fun h33 => ?_) (fun h33 => absurd h33 (by omega))
       refine hl_v rfl rfl rfl (rv_ev rfl) ?_
       refine hl_v rfl rfl rfl (rv_ev rfl) ?_
       refine hl_v rfl rfl rfl (rv_len rfl Try.underlying28 rfl (rd_row 0 rfl)) ?_
       refine hl_gtr rfl rfl rfl rfl rfl rfl (fun h34 => ?_) (fun h34 => absurd h34 (by omega))
       refine hl_v rfl rfl rfl (rv_ev rfl) ?_
       refine hl_v rfl rfl rfl (rv_ev rfl) ?_
       refine hl_v rfl rfl rfl (rv_loadN (cs := [.int .i64 d.W, .int .i64 d.H, .int .i64 d.T, .int .i64 d.R]) rfl (by kernel_rfl) (by kernel_rfl) rfl rfl (box_part 5 rfl 0 rfl)) ?_
       refine hl_v rfl rfl rfl (rv_ev rfl) ?_
       refine hl_v rfl rfl rfl (rv_loadN (cs := [.int .i64 1, .int .i64 0, .int .i64 0, .slice (some ⟨g7, 0, none⟩) 1 1]) rfl (by kernel_rfl) (by kernel_rfl) rfl rfl (box_part 2 rfl 0 rfl)) ?_
       refine hl_v rfl rfl rfl (rv_loadN (cs := [.int .i64 1, .int .i64 0, .int .i64 0, .slice (some ⟨g7, 0, none⟩) 1 1]) rfl (by kernel_rfl) (by kernel_rfl) rfl rfl (box_part 2 rfl 0 rfl)) ?_
       refine hl_row rfl rfl rfl (rq_buildSlice (z := .agg #[.int .i64 0, .int .i64 0, .int .i64 0, .slice none 0 0]) (s := 4) (cs := [.int .i64 1, .int .i64 0, .int .i64 0, .slice (some ⟨g7, 0, none⟩) 1 1, .int .i64 1, .int .i64 0, .int .i64 0, .slice (some ⟨g7, 0, none⟩) 1 1]) rfl Try.underlying37 (by kernel_rfl) (by decide) rfl (by kernel_rfl) rfl) ?_
       intro g35
       refine hl_v rfl rfl rfl (rv_ev rfl) ?_
       refine hl_q rfl rfl rfl (rq_call (by kernel_rfl) rfl (fun w hm => SeparatedCount_law d (fun t => decide (t % d.W ≤ (cod z0 len0 0 : Int) % (d.W - 1))) ((cod z0 len0 2 : Int) % (d.W * d.H)) ((cod z0 len0 3 : Int) % (d.W * d.H)) _ (.slice (some ⟨g7, 0, none⟩) 1 1) _ _ w hv hA0 hB0 (rd_row 5 rfl w hm) (rd_row 4 rfl w hm) (rd_row 0 rfl w hm) (rd_row 2 rfl w hm))) ?_
       intro v36 p37 hR38
       obtain ⟨k, rfl, rfl, hk0, hk1⟩ := hR38
       have hk2 := hk1 (hac (by assumption))
       refine hl_v rfl rfl rfl (rv_ev rfl) ?_
       refine hl_bool (fun h39 => ?_) (fun h39 => absurd ((h23).symm.trans h39) (by decide))
       refine hl_callV rfl rfl rfl (rq_call (by kernel_rfl) rfl (fun w hm => ret_ans (btoi_t w))) ?_
       refine hl_v rfl rfl rfl (rv_mul rfl rfl rfl (by constructor <;> omega)) ?_
       refine hl_geq rfl rfl rfl rfl rfl rfl (fun h40 => ?_) (fun h40 => absurd h40 (by omega))
       refine hl_v rfl rfl rfl (rv_ev rfl) ?_
       refine hl_v rfl rfl rfl (rv_ev rfl) ?_
       refine hl_less (sx 0 rfl (sx 2 rfl (sx 3 rfl (sx 4 rfl (sx 5 rfl (sx 6 rfl (sx 7 rfl (sx 8 rfl (sx 9 rfl (sx 10 rfl (sx 11 rfl (sx 13 rfl (sx 108 rfl (sub_nil _)))))))))))))) (.refl _) ?_
       refine hl_nil ?_
       refine hq_then ?_
       refine hc_ret ?_
       exact hq_ans rfl rfl rfl
     ·
      refine hl_v rfl rfl rfl (rv_ev rfl) ?_
      refine hl_skip rfl rfl rfl ?_
      refine hl_skip rfl rfl rfl ?_
      refine hl_skip rfl rfl rfl ?_
      refine hl_skip rfl rfl rfl ?_
      refine hl_skip rfl rfl rfl ?_
      refine hl_skip rfl rfl rfl ?_
      refine hl_v rfl rfl rfl (rv_ev rfl) ?_
      refine hl_v rfl rfl rfl (rv_ev rfl) ?_
      refine hl_v rfl rfl rfl (rv_ev rfl) ?_
      refine hl_bool (fun h41 => ?_) (fun h41 => ?_)
      ·
       refine hl_v rfl rfl rfl (rv_ev rfl) ?_
       refine hl_v rfl rfl rfl (rv_loadN (cs := [.int .i64 d.W, .int .i64 d.H, .int .i64 d.T, .int .i64 d.R]) rfl (by kernel_rfl) (by kernel_rfl) rfl rfl (box_part 5 rfl 0 rfl)) ?_
       refine hl_v rfl rfl rfl (rv_ev rfl) ?_
       refine hl_v rfl rfl rfl (rv_loadN (cs := [.int .i64 1, .int .i64 0, .int .i64 0, .slice (some ⟨g7, 0, none⟩) 1 1]) rfl (by kernel_rfl) (by kernel_rfl) rfl rfl (box_part 2 rfl 0 rfl)) ?_
       refine hl_v rfl rfl rfl (rv_ev rfl) ?_
       refine hl_callV rfl rfl rfl (rq_call (by kernel_rfl) rfl (fun w hm => ret_ans (IsSeparated_law d (fun t => decide (t / d.W ≤ (cod z0 len0 1 : Int) % (d.H - 1))) ((cod z0 len0 2 : Int) % (d.W * d.H)) ((cod z0 len0 3 : Int) % (d.W * d.H)) _ (.slice (some ⟨g7, 0, none⟩) 1 1) _ w hv hA0 hB0 (rd_row 4 rfl w hm) (rd_row 3 rfl w hm) (rd_row 0 rfl w hm) (hal (by assumption))))) ?_
       refine hl_v rfl rfl rfl (rv_ev rfl) ?_
       refine hl_v rfl rfl rfl (rv_ev rfl) ?_
       refine hl_v rfl rfl rfl (rv_ev rfl) ?_
       refine hl_less (sx 0 rfl (sx 2 rfl (sx 3 rfl (sx 4 rfl (sx 5 rfl (sx 6 rfl (sx 7 rfl (sx 8 rfl (sx 9 rfl (sx 10 rfl (sx 11 rfl (sx 13 rfl (sx 108 rfl (sub_nil _)))))))))))))) (.refl _) ?_
       refine hl_nil ?_
       refine hq_then ?_
       refine hc_false rfl ?_
       refine hc_skip ?_
       refine hq_then ?_
       refine hc_seq ?_
       refine hc_region ?_
       refine hl_v rfl rfl rfl (rv_ev rfl) ?_
       refine hl_v rfl rfl rfl (rv_len rfl Try.underlying28 rfl (rd_row 1 rfl)) ?_
       refine hl_gtr rfl rfl rfl rfl rfl rfl (fun h42 => ?_) (fun h42 => absurd h42 (by omega))
       refine hl_v rfl rfl rfl (rv_ev rfl) ?_
       refine hl_v rfl rfl rfl (rv_ev rfl) ?_
       refine hl_v rfl rfl rfl (rv_len rfl Try.underlying28 rfl (rd_row 0 rfl)) ?_
       refine hl_gtr rfl rfl rfl rfl rfl rfl (fun h43 => ?_) (fun h43 => absurd h43 (by omega))
       refine hl_v rfl rfl rfl (rv_ev rfl) ?_
       refine hl_v rfl rfl rfl (rv_ev rfl) ?_
       refine hl_v rfl rfl rfl (rv_loadN (cs := [.int .i64 d.W, .int .i64 d.H, .int .i64 d.T, .int .i64 d.R]) rfl (by kernel_rfl) (by kernel_rfl) rfl rfl (box_part 5 rfl 0 rfl)) ?_
       refine hl_v rfl rfl rfl (rv_ev rfl) ?_
       refine hl_v rfl rfl rfl (rv_loadN (cs := [.int .i64 1, .int .i64 0, .int .i64 0, .slice (some ⟨g7, 0, none⟩) 1 1]) rfl (by kernel_rfl) (by kernel_rfl) rfl rfl (box_part 2 rfl 0 rfl)) ?_
       refine hl_v rfl rfl rfl (rv_loadN (cs := [.int .i64 1, .int .i64 0, .int .i64 0, .slice (some ⟨g7, 0, none⟩) 1 1]) rfl (by kernel_rfl) (by kernel_rfl) rfl rfl (box_part 2 rfl 0 rfl)) ?_
       refine hl_row rfl rfl rfl (rq_buildSlice (z := .agg #[.int .i64 0, .int .i64 0, .int .i64 0, .slice none 0 0]) (s := 4) (cs := [.int .i64 1, .int .i64 0, .int .i64 0, .slice (some ⟨g7, 0, none⟩) 1 1, .int .i64 1, .int .i64 0, .int .i64 0, .slice (some ⟨g7, 0, none⟩) 1 1]) rfl Try.underlying37 (by kernel_rfl) (by decide) rfl (by kernel_rfl) rfl) ?_
       intro g44
       refine hl_v rfl rfl rfl (rv_ev rfl) ?_
       refine hl_q rfl rfl rfl (rq_call (by kernel_rfl) rfl (fun w hm => SeparatedCount_law d (fun t => decide (t % d.W ≤ (cod z0 len0 0 : Int) % (d.W - 1))) ((cod z0 len0 2 : Int) % (d.W * d.H)) ((cod z0 len0 3 : Int) % (d.W * d.H)) _ (.slice (some ⟨g7, 0, none⟩) 1 1) _ _ w hv hA0 hB0 (rd_row 5 rfl w hm) (rd_row 4 rfl w hm) (rd_row 0 rfl w hm) (rd_row 2 rfl w hm))) ?_
       intro v45 p46 hR47
       obtain ⟨k, rfl, rfl, hk0, hk1⟩ := hR47
       refine hl_v rfl rfl rfl (rv_ev rfl) ?_
       refine hl_bool (fun h48 => absurd ((h23).symm.trans h48) (by decide)) (fun h48 => ?_)
       refine hl_callV rfl rfl rfl (rq_call (by kernel_rfl) rfl (fun w hm => ret_ans (btoi_f w))) ?_
       refine hl_v rfl rfl rfl (rv_mul rfl rfl rfl (by constructor <;> omega)) ?_
       refine hl_geq rfl rfl rfl rfl rfl rfl (fun h49 => ?_) (fun h49 => absurd h49 (by omega))
       refine hl_v rfl rfl rfl (rv_ev rfl) ?_
       refine hl_v rfl rfl rfl (rv_ev rfl) ?_
       refine hl_less (sx 0 rfl (sx 2 rfl (sx 3 rfl (sx 4 rfl (sx 5 rfl (sx 6 rfl (sx 7 rfl (sx 8 rfl (sx 9 rfl (sx 10 rfl (sx 11 rfl (sx 13 rfl (sx 108 rfl (sub_nil _)))))))))))))) (.refl _) ?_
       refine hl_nil ?_
       refine hq_then ?_
       refine hc_ret ?_
       exact hq_ans rfl rfl rfl
      ·
       refine hl_v rfl rfl rfl (rv_ev rfl) ?_
       refine hl_skip rfl rfl rfl ?_
       refine hl_skip rfl rfl rfl ?_
       refine hl_skip rfl rfl rfl ?_
       refine hl_skip rfl rfl rfl ?_
       refine hl_skip rfl rfl rfl ?_
       refine hl_skip rfl rfl rfl ?_
       refine hl_v rfl rfl rfl (rv_ev rfl) ?_
       refine hl_v rfl rfl rfl (rv_ev rfl) ?_
       refine hl_less (sx 0 rfl (sx 2 rfl (sx 3 rfl (sx 4 rfl (sx 5 rfl (sx 6 rfl (sx 7 rfl (sx 8 rfl (sx 9 rfl (sx 10 rfl (sx 11 rfl (sx 13 rfl (sx 108 rfl (sub_nil _)))))))))))))) (.refl _) ?_
       refine hl_nil ?_
       refine hq_then ?_
       refine hc_false rfl ?_
       refine hc_skip ?_
       refine hq_then ?_
       refine hc_seq ?_
       refine hc_region ?_
       refine hl_v rfl rfl rfl (rv_ev rfl) ?_
       refine hl_v rfl rfl rfl (rv_len rfl Try.underlying28 rfl (rd_row 1 rfl)) ?_
       refine hl_gtr rfl rfl rfl rfl rfl rfl (fun h50 => ?_) (fun h50 => absurd h50 (by omega))
       refine hl_v rfl rfl rfl (rv_ev rfl) ?_
       refine hl_v rfl rfl rfl (rv_ev rfl) ?_
       refine hl_v rfl rfl rfl (rv_len rfl Try.underlying28 rfl (rd_row 0 rfl)) ?_
       refine hl_gtr rfl rfl rfl rfl rfl rfl (fun h51 => ?_) (fun h51 => absurd h51 (by omega))
       refine hl_v rfl rfl rfl (rv_ev rfl) ?_
       refine hl_v rfl rfl rfl (rv_ev rfl) ?_
       refine hl_v rfl rfl rfl (rv_loadN (cs := [.int .i64 d.W, .int .i64 d.H, .int .i64 d.T, .int .i64 d.R]) rfl (by kernel_rfl) (by kernel_rfl) rfl rfl (box_part 5 rfl 0 rfl)) ?_
       refine hl_v rfl rfl rfl (rv_ev rfl) ?_
       refine hl_v rfl rfl rfl (rv_loadN (cs := [.int .i64 1, .int .i64 0, .int .i64 0, .slice (some ⟨g7, 0, none⟩) 1 1]) rfl (by kernel_rfl) (by kernel_rfl) rfl rfl (box_part 2 rfl 0 rfl)) ?_
       refine hl_v rfl rfl rfl (rv_loadN (cs := [.int .i64 1, .int .i64 0, .int .i64 0, .slice (some ⟨g7, 0, none⟩) 1 1]) rfl (by kernel_rfl) (by kernel_rfl) rfl rfl (box_part 2 rfl 0 rfl)) ?_
       refine hl_row rfl rfl rfl (rq_buildSlice (z := .agg #[.int .i64 0, .int .i64 0, .int .i64 0, .slice none 0 0]) (s := 4) (cs := [.int .i64 1, .int .i64 0, .int .i64 0, .slice (some ⟨g7, 0, none⟩) 1 1, .int .i64 1, .int .i64 0, .int .i64 0, .slice (some ⟨g7, 0, none⟩) 1 1]) rfl Try.underlying37 (by kernel_rfl) (by decide) rfl (by kernel_rfl) rfl) ?_
       intro g52
       refine hl_v rfl rfl rfl (rv_ev rfl) ?_
       refine hl_q rfl rfl rfl (rq_call (by kernel_rfl) rfl (fun w hm => SeparatedCount_law d (fun t => decide (t % d.W ≤ (cod z0 len0 0 : Int) % (d.W - 1))) ((cod z0 len0 2 : Int) % (d.W * d.H)) ((cod z0 len0 3 : Int) % (d.W * d.H)) _ (.slice (some ⟨g7, 0, none⟩) 1 1) _ _ w hv hA0 hB0 (rd_row 5 rfl w hm) (rd_row 4 rfl w hm) (rd_row 0 rfl w hm) (rd_row 2 rfl w hm))) ?_
       intro v53 p54 hR55
       obtain ⟨k, rfl, rfl, hk0, hk1⟩ := hR55
       refine hl_v rfl rfl rfl (rv_ev rfl) ?_
       refine hl_bool (fun h56 => absurd ((h23).symm.trans h56) (by decide)) (fun h56 => ?_)
       refine hl_callV rfl rfl rfl (rq_call (by kernel_rfl) rfl (fun w hm => ret_ans (btoi_f w))) ?_
       refine hl_v rfl rfl rfl (rv_mul rfl rfl rfl (by constructor <;> omega)) ?_
       refine hl_geq rfl rfl rfl rfl rfl rfl (fun h57 => ?_) (fun h57 => absurd h57 (by omega))
       refine hl_v rfl rfl rfl (rv_ev rfl) ?_
       refine hl_v rfl rfl rfl (rv_ev rfl) ?_
       refine hl_less (sx 0 rfl (sx 2 rfl (sx 3 rfl (sx 4 rfl (sx 5 rfl (sx 6 rfl (sx 7 rfl (sx 8 rfl (sx 9 rfl (sx 10 rfl (sx 11 rfl (sx 13 rfl (sx 108 rfl (sub_nil _)))))))))))))) (.refl _) ?_
       refine hl_nil ?_
       refine hq_then ?_
       refine hc_ret ?_
       exact hq_ans rfl rfl rfl
end Go.Proofs.Ytcaeakapeinobaa
