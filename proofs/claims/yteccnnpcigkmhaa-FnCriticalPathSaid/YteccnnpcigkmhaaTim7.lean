/- Longest delays of both; get: the walks. -/
import Derived.Test.YteccnnpcigkmhaaTim2
import Derived.Test.YteccnnpcigkmhaaClo
set_option linter.unusedVariables false
set_option linter.unusedSimpArgs false
namespace Go.Proofs.Yteccnnpcigkmhaa
open Go.RowKit

theorem del_start {n : Int} {gs : List Arc} (hg : GOk n gs) (lg : Bool) (s : Int) (k : Nat) (hk : (k : Int) = s) : (intoL gs k).foldl (stepD lg (delL lg gs s k)) 0 = 0 :=
  fold_skip _ _ (fun a ha => by
    have ho := into_ok hg ha
    rw [del_at lg gs s k _ (by omega), Dl_lt hg lg s _ (by omega)]; omega)
theorem del_node {n : Int} {gs : List Arc} (hg : GOk n gs) (lg : Bool) (s : Int) (k : Nat) {b b0 : Int} (hb0 : b0 = if (k : Int) = s then 0 else -1) (hb : b = (intoL gs k).foldl (stepD lg (delL lg gs s k)) b0) : b = Dl lg gs s k := by
  rw [hb, hb0, Dl_def]
  by_cases h : (k : Int) = s
  · rw [if_pos h, if_pos h]; exact del_start hg lg s k h
  · rw [if_neg h, if_neg h]
set_option maxHeartbeats 4000000 in
set_option maxRecDepth 100000 in
theorem lawsGet_ans (xs : List Int) (x : Int) (v : Value) (w : World) (hv : RdsW w v 1 xs.length (xs.map (Value.int .i64))) (hlen : xs.length ≤ 1000000000) :
    Calls Try.prog 18 #[v, .int .i64 x] w (Ans w (.int .i64 (getI xs x))) := by
  refine calls_hc (N := 17) (args := [v, .int .i64 x]) Try.func18 rfl rfl ?_
  refine hc_less _ (sub_cons (d := 0) rfl (sub_cons (d := 1) rfl (sub_nil _))) (.refl _) ?_
  refine hc_seq ?_
  refine hc_region ?_
  refine hl_v rfl rfl rfl (rv_ev rfl) ?_
  refine hl_less (sub_cons (d := 0) rfl (sub_cons (d := 1) rfl (sub_cons (d := 4) rfl (sub_nil _)))) (.refl _) ?_
  refine hl_nil ?_
  refine hq_then ?_
  refine hc_seq ?_
  refine hc_seq ?_
  refine hc_region ?_
  refine hl_v rfl rfl rfl (rv_ev rfl) ?_
  refine hl_lss rfl rfl rfl rfl rfl rfl (fun h1 => ?_) (fun h1 => ?_)
  ·
    refine hl_v rfl rfl rfl (rv_ev rfl) ?_
    refine hl_skip rfl rfl rfl ?_
    refine hl_skip rfl rfl rfl ?_
    refine hl_skip rfl rfl rfl ?_
    refine hl_skip rfl rfl rfl ?_
    refine hl_v rfl rfl rfl (rv_ev rfl) ?_
    refine hl_less (sub_cons (d := 0) rfl (sub_cons (d := 1) rfl (sub_cons (d := 4) rfl (sub_cons (d := 12) rfl (sub_nil _))))) (.refl _) ?_
    refine hl_nil ?_
    refine hq_then ?_
    refine hc_true rfl ?_
    refine hc_seq ?_
    refine hc_region ?_
    refine hl_v rfl rfl rfl (rv_ev rfl) ?_
    refine hl_less (sub_cons (d := 0) rfl (sub_cons (d := 1) rfl (sub_cons (d := 4) rfl (sub_cons (d := 12) rfl (sub_nil _))))) (.refl _) ?_
    refine hl_nil ?_
    refine hq_then ?_
    refine hc_ret ?_
    refine hq_then_ret ?_
    exact hq_ans rfl rfl (by unfold getI; rw [if_neg (by omega)])
  ·
    refine hl_v rfl rfl rfl (rv_ev rfl) ?_
    refine hl_v rfl rfl rfl (rv_ev rfl) ?_
    refine hl_v rfl rfl rfl (rv_ev rfl) ?_
    refine hl_v rfl rfl rfl (rv_len rfl Try.underlying43 rfl (rd_old hv)) ?_
    refine hl_geq rfl rfl rfl rfl rfl rfl (fun h2 => ?_) (fun h2 => ?_)
    ·
      refine hl_v rfl rfl rfl (rv_ev rfl) ?_
      refine hl_less (sub_cons (d := 0) rfl (sub_cons (d := 1) rfl (sub_cons (d := 4) rfl (sub_cons (d := 12) rfl (sub_nil _))))) (.refl _) ?_
      refine hl_nil ?_
      refine hq_then ?_
      refine hc_true rfl ?_
      refine hc_seq ?_
      refine hc_region ?_
      refine hl_v rfl rfl rfl (rv_ev rfl) ?_
      refine hl_less (sub_cons (d := 0) rfl (sub_cons (d := 1) rfl (sub_cons (d := 4) rfl (sub_cons (d := 12) rfl (sub_nil _))))) (.refl _) ?_
      refine hl_nil ?_
      refine hq_then ?_
      refine hc_ret ?_
      refine hq_then_ret ?_
      exact hq_ans rfl rfl (by unfold getI; rw [if_neg (by omega)])
    ·
      refine hl_v rfl rfl rfl (rv_ev rfl) ?_
      refine hl_less (sub_cons (d := 0) rfl (sub_cons (d := 1) rfl (sub_cons (d := 4) rfl (sub_cons (d := 12) rfl (sub_nil _))))) (.refl _) ?_
      refine hl_nil ?_
      refine hq_then ?_
      refine hc_false rfl ?_
      refine hc_skip ?_
      refine hq_then ?_
      refine hc_seq ?_
      refine hc_region ?_
      refine hl_v rfl rfl rfl (rv_ev rfl) ?_
      refine hl_v rfl rfl rfl (rv_ev rfl) ?_
      refine hl_v rfl rfl rfl (rv_index (s := 1) rfl Try.underlying43 (by kernel_rfl) rfl rfl (rd_old hv) (by omega) (by first | omega | (simp only [List.length_set]; omega))) ?_
      refine hl_v rfl rfl rfl (rv_loadEl (u := .int .i64 (xs.getD ((x).toNat) 0)) rfl (by kernel_rfl) rfl (rd_old hv) (ints_at1 (show _ < xs.length by first | omega | (simp only [List.length_set]; omega)))) ?_
      refine hl_v rfl rfl rfl (rv_ev rfl) ?_
      refine hl_less (sub_cons (d := 0) rfl (sub_cons (d := 1) rfl (sub_cons (d := 4) rfl (sub_cons (d := 12) rfl (sub_nil _))))) (.refl _) ?_
      refine hl_nil ?_
      refine hq_then ?_
      refine hc_ret ?_
      exact hq_ans rfl rfl (by unfold getI; rw [if_pos (by omega)])
set_option maxHeartbeats 4000000 in
set_option maxRecDepth 100000 in
theorem implLongest_ret (n : Int) (gs : List Arc) (v : Value) (s : Int) (w : World) (hg : GOk n gs) (hv : RdsW w v 3 gs.length (gs.flatMap arcC)) (hs : 0 ≤ s ∧ s < n) :
    Calls Try.prog 20 #[.agg #[.int .i64 n, v], .int .i64 s] w (Ret w (fun v' post => post = [rowE 3 1 v' (delL true gs s n.toNat).length ((delL true gs s n.toNat).map (Value.int .i64))])) := by
  obtain ⟨hn0, hn1, hgl, -⟩ := id hg
  refine calls_hc (N := 20) (args := [.agg #[.int .i64 n, v], .int .i64 s]) Try.func20 rfl rfl ?_
  refine hc_less _ (sub_cons (d := 0) rfl (sub_cons (d := 1) rfl (sub_nil _))) (.refl _) ?_
  refine hc_seq ?_
  refine hc_region ?_
  refine hl_box rfl rfl rfl (rq_box rfl rfl) ?_
  intro b1
  refine hl_v rfl rfl rfl (rv_ev rfl) ?_
  refine hl_less (sub_cons (d := 0) rfl (sub_cons (d := 1) rfl (sub_cons (d := 2) rfl (sub_cons (d := 4) rfl (sub_nil _))))) (.refl _) ?_
  refine hl_nil ?_
  refine hq_then ?_
  refine hc_seq ?_
  refine hc_seq ?_
  refine hc_region ?_
  refine hl_v rfl rfl rfl (rv_loadN (cs := [.int .i64 n, v]) rfl (by kernel_rfl) (by kernel_rfl) rfl rfl (box_part 0 rfl 0 rfl)) ?_
  refine hl_callV rfl rfl rfl (rq_call (by kernel_rfl) rfl (fun w hm => ret_ans (implTimingOk_yes n gs v w hg (hv.below hm.bel)))) ?_
  refine hl_v rfl rfl rfl (rv_ev rfl) ?_
  refine hl_v rfl rfl rfl (rv_ev rfl) ?_
  refine hl_v rfl rfl rfl (rv_ev rfl) ?_
  refine hl_v rfl rfl rfl (rv_field (k0 := 0) rfl (by kernel_rfl) rfl) ?_
  refine hl_v rfl rfl rfl (rv_load rfl (by kernel_rfl) rfl (box_cell 0 rfl rfl)) ?_
  refine hl_v rfl rfl rfl (rv_sub rfl rfl rfl (by constructor <;> omega)) ?_
  refine hl_callV rfl rfl rfl (rq_call (by kernel_rfl) rfl (fun w hm => ret_ans (inr_yes2 (by omega) (by omega) w))) ?_
  refine hl_v rfl rfl rfl (rv_ev rfl) ?_
  refine hl_v rfl rfl rfl (rv_ev rfl) ?_
  refine hl_less (sub_cons (d := 0) rfl (sub_cons (d := 1) rfl (sub_cons (d := 2) rfl (sub_cons (d := 4) rfl (sub_cons (d := 15) rfl (sub_nil _)))))) (.refl _) ?_
  refine hl_nil ?_
  refine hq_then ?_
  refine hc_false rfl ?_
  refine hc_skip ?_
  refine hq_then ?_
  refine hc_seq ?_
  refine hc_region ?_
  refine hl_v rfl rfl rfl (rv_loadN (cs := [.int .i64 n, v]) rfl (by kernel_rfl) (by kernel_rfl) rfl rfl (box_part 0 rfl 0 rfl)) ?_
  refine hl_q rfl rfl rfl (rq_call (by kernel_rfl) rfl (fun w hm => arcsInto_ret n gs v w hg (hv.below hm.bel))) ?_
  intro v2 p3 hR4
  obtain ⟨rs, rfl, hri⟩ := hR4
  have hrl := hri.1
  refine hl_v rfl rfl rfl (rv_ev rfl) ?_
  refine hl_q rfl rfl rfl (rq_call (by kernel_rfl) rfl (fun w hm => delaysFrom_ret n gs rs v2 s true w hg (into_rds (v := v2) (rs := rs) 0 rfl w hm) hri)) ?_
  intro v5 p6 hR7
  subst hR7
  refine hl_v rfl rfl rfl (rv_ev rfl) ?_
  refine hl_less (sub_cons (d := 0) rfl (sub_cons (d := 1) rfl (sub_cons (d := 2) rfl (sub_cons (d := 4) rfl (sub_cons (d := 15) rfl (sub_nil _)))))) (.refl _) ?_
  refine hl_nil ?_
  refine hq_then ?_
  refine hc_ret ?_
  exact hq_retR (post := [rowE 3 1 v5 ((delL true gs s rs.length).length) ((delL true gs s rs.length).map (Value.int .i64))]) rfl rfl ((.cons_cons _ (.cons _ (.cons _ .slnil)))) (by rw [hrl])
set_option maxHeartbeats 4000000 in
set_option maxRecDepth 100000 in
theorem l36Node_yes (n : Int) (gs : List Arc) (v : Value) (s : Int) (w : World) (hg : GOk n gs) (hv : RdsW w v 3 gs.length (gs.flatMap arcC)) (hs : 0 ≤ s ∧ s < n) :
    Calls Try.prog 44 #[.agg #[.int .i64 n, v], .int .i64 s] w (Ans w (.bool true)) := by
  obtain ⟨hn0, hn1, hgl, -⟩ := id hg
  refine calls_hc (N := 17) (args := [.agg #[.int .i64 n, v], .int .i64 s]) Try.func44 rfl rfl ?_
  refine hc_less _ (sub_cons (d := 0) rfl (sub_cons (d := 1) rfl (sub_nil _))) (.refl _) ?_
  refine hc_seq ?_
  refine hc_region ?_
  refine hl_box rfl rfl rfl (rq_box rfl rfl) ?_
  intro b1
  refine hl_v rfl rfl rfl (rv_ev rfl) ?_
  refine hl_less (sub_cons (d := 0) rfl (sub_cons (d := 1) rfl (sub_cons (d := 2) rfl (sub_cons (d := 4) rfl (sub_nil _))))) (.refl _) ?_
  refine hl_nil ?_
  refine hq_then ?_
  refine hc_seq ?_
  refine hc_region ?_
  refine hl_v rfl rfl rfl (rv_loadN (cs := [.int .i64 n, v]) rfl (by kernel_rfl) (by kernel_rfl) rfl rfl (box_part 0 rfl 0 rfl)) ?_
  refine hl_callV rfl rfl rfl (rq_call (by kernel_rfl) rfl (fun w hm => ret_ans (specTimingOk_yes n gs v w hg (hv.below hm.bel)))) ?_
  refine hl_v rfl rfl rfl (rv_ev rfl) ?_
  refine hl_v rfl rfl rfl (rv_ev rfl) ?_
  refine hl_geq rfl rfl rfl rfl rfl rfl (fun h2 => ?_) (fun h2 => absurd h2 (by omega))
  refine hl_v rfl rfl rfl (rv_ev rfl) ?_
  refine hl_v rfl rfl rfl (rv_ev rfl) ?_
  refine hl_v rfl rfl rfl (rv_ev rfl) ?_
  refine hl_v rfl rfl rfl (rv_field (k0 := 0) rfl (by kernel_rfl) rfl) ?_
  refine hl_v rfl rfl rfl (rv_load rfl (by kernel_rfl) rfl (box_cell 0 rfl rfl)) ?_
  refine hl_lss rfl rfl rfl rfl rfl rfl (fun h3 => ?_) (fun h3 => absurd h3 (by omega))
  refine hl_v rfl rfl rfl (rv_ev rfl) ?_
  refine hl_v rfl rfl rfl (rv_ev rfl) ?_
  refine hl_less (sub_cons (d := 0) rfl (sub_cons (d := 1) rfl (sub_cons (d := 2) rfl (sub_cons (d := 4) rfl (sub_nil _))))) (.refl _) ?_
  refine hl_nil ?_
  refine hq_then ?_
  refine hc_ret ?_
  exact hq_ans rfl rfl rfl
set_option maxHeartbeats 4000000 in
set_option maxRecDepth 100000 in
theorem l36Delays_ret (n : Int) (gs : List Arc) (v : Value) (s : Int) (w : World) (hg : GOk n gs) (hv : RdsW w v 3 gs.length (gs.flatMap arcC)) (hs : 0 ≤ s ∧ s < n) :
    Calls Try.prog 45 #[.agg #[.int .i64 n, v], .int .i64 s, .bool false] w (Ret w (fun v' post => post = [rowE 3 1 v' (delL true gs s n.toNat).length ((delL true gs s n.toNat).map (Value.int .i64))])) := by
  obtain ⟨hn0, hn1, hgl, -⟩ := id hg
  have hnn : (n.toNat : Int) = n := by omega
  refine calls_hc (N := 114) (args := [.agg #[.int .i64 n, v], .int .i64 s, .bool false]) Try.func45 rfl rfl ?_
  refine hc_less _ (sub_cons (d := 0) rfl (sub_cons (d := 1) rfl (sub_cons (d := 2) rfl (sub_nil _)))) (.refl _) ?_
  refine hc_seq ?_
  refine hc_region ?_
  refine hl_box rfl rfl rfl (rq_box rfl rfl) ?_
  intro b1
  refine hl_v rfl rfl rfl (rv_ev rfl) ?_
  refine hl_less (sub_cons (d := 0) rfl (sub_cons (d := 1) rfl (sub_cons (d := 2) rfl (sub_cons (d := 3) rfl (sub_cons (d := 6) rfl (sub_nil _)))))) (.refl _) ?_
  refine hl_nil ?_
  refine hq_then ?_
  refine hc_seq ?_
  refine hc_region ?_
  refine hl_row rfl rfl rfl (rq_slice0 (s := 1) rfl Try.underlying43 (by kernel_rfl)) ?_
  intro g2
  refine hl_v rfl rfl rfl (rv_ev rfl) ?_
  refine hl_less (sub_cons (d := 0) rfl (sub_cons (d := 1) rfl (sub_cons (d := 2) rfl (sub_cons (d := 3) rfl (sub_cons (d := 6) rfl (sub_cons (d := 7) rfl (sub_nil _))))))) (.refl _) ?_
  refine hl_nil ?_
  refine hq_then ?_
  refine hc_seq ?_
  refine hc_region ?_
  refine hl_v rfl rfl rfl (rv_field (k0 := 0) rfl (by kernel_rfl) rfl) ?_
  refine hl_v rfl rfl rfl (rv_load rfl (by kernel_rfl) rfl (box_cell 1 rfl rfl)) ?_
  refine hl_row rfl rfl rfl (rq_make (z := .slice none 0 0) (s := 1) (bytes := 24) (n := (List.replicate (n).toNat row0).length) (cs := ((List.replicate (n).toNat row0).flatMap rowC)) rfl Try.underlying78 (by kernel_rfl) (by decide) rfl rfl (by first | (rw [List.length_replicate]; done) | (rw [List.length_replicate]; omega)) (by first | (rw [List.length_replicate]; done) | (rw [List.length_replicate]; omega)) (by rw [List.length_replicate]; omega) (made_flat rowC 1 (fun _ => rfl) row0 _ rfl (n).toNat)) ?_
  intro g3
  refine hl_v rfl rfl rfl (rv_ev rfl) ?_
  refine hl_less (sub_cons (d := 0) rfl (sub_cons (d := 1) rfl (sub_cons (d := 2) rfl (sub_cons (d := 3) rfl (sub_cons (d := 6) rfl (sub_cons (d := 7) rfl (sub_cons (d := 8) rfl (sub_nil _)))))))) (.refl _) ?_
  refine hl_nil ?_
  refine hq_then ?_
  refine hc_seq ?_
  refine hc_seq ?_
  refine hc_region ?_
  refine hl_v rfl rfl rfl (rv_ev rfl) ?_
  refine hl_less (sub_cons (d := 0) rfl (sub_cons (d := 1) rfl (sub_cons (d := 2) rfl (sub_cons (d := 3) rfl (sub_cons (d := 6) rfl (sub_cons (d := 7) rfl (sub_cons (d := 8) rfl (sub_cons (d := 9) rfl (sub_nil _))))))))) (.refl _) ?_
  refine hl_nil ?_
  refine hq_then ?_
  refine hc_block ?_
  refine hc_conv [bigE ((List.replicate n.toNat row0).map aPart), rowE 36 1 (.slice (some ⟨g3, 0, none⟩) ((List.replicate (n).toNat row0).length) ((List.replicate (n).toNat row0).length)) ((List.replicate (n).toNat row0).length) ((List.replicate (n).toNat row0).flatMap rowC), rowE 3 1 (.slice (some ⟨g2, 0, none⟩) 0 0) 0 ([]), boxE b1 #[.int .i64 n, v] 38] (fun w hm => by have h2 := (hm.bigNil 82 3 n.toNat).big; rw [show List.replicate n.toNat (rowE 82 3 (.slice none 0 0) 0 []) = (List.replicate n.toNat row0).map aPart by rw [List.map_replicate]; rfl] at h2; exact h2) ?_
  refine hc_loop2 (α := Nat) (β := List ARow) (fun j rs => [bigE (rs.map aPart), rowE 36 1 (.slice (some ⟨g3, 0, none⟩) ((List.replicate (n).toNat row0).length) ((List.replicate (n).toNat row0).length)) rs.length (rs.flatMap rowC), rowE 3 1 (.slice (some ⟨g2, 0, none⟩) 0 0) 0 ([]), boxE b1 #[.int .i64 n, v] 38]) (fun j rs => [(0, .agg #[.int .i64 n, v]), (1, .int .i64 s), (2, .bool false), (3, .pointer (some ⟨b1, 0, none⟩)), (6, .slice none 0 0), (7, .slice (some ⟨g2, 0, none⟩) 0 0), (8, .slice (some ⟨g3, 0, none⟩) ((List.replicate (n).toNat row0).length) ((List.replicate (n).toNat row0).length)), (9, .int .i64 (j : Int))]) (fun j rs => j ≤ gs.length ∧ IntoOk (gs.take j) n rs) (fun j rs => gs.length - j) 0 _ ⟨by omega, by simp, fun k hk => by rw [List.getD_eq_getElem?_getD, List.getElem?_replicate]; simp only [List.length_replicate] at hk; rw [if_pos hk]; rfl⟩ (sub_cons (d := 0) rfl (sub_cons (d := 1) rfl (sub_cons (d := 2) rfl (sub_cons (d := 3) rfl (sub_cons (d := 6) rfl (sub_cons (d := 7) rfl (sub_cons (d := 8) rfl (sub_cons (d := 9) rfl (sub_nil _))))))))) ((.cons_cons _ (.cons_cons _ (.cons_cons _ (.cons_cons _ .slnil))))) ?_
  intro j rs hi4
  obtain ⟨hj, hri⟩ := hi4
  have hrl := hri.1
  refine hc_seq ?_
  refine hc_seq ?_
  refine hc_region ?_
  refine hl_v rfl rfl rfl (rv_ev rfl) ?_
  refine hl_v rfl rfl rfl (rv_field (k0 := 1) rfl (by kernel_rfl) rfl) ?_
  refine hl_v rfl rfl rfl (rv_load rfl (by kernel_rfl) rfl (box_cell 3 rfl rfl)) ?_
  refine hl_v rfl rfl rfl (rv_len rfl Try.underlying36 rfl (rd_old hv)) ?_
  refine hl_lss rfl rfl rfl rfl rfl rfl (fun h5 => ?_) (fun h5 => ?_)
  ·
    refine hl_less (sub_cons (d := 0) rfl (sub_cons (d := 1) rfl (sub_cons (d := 2) rfl (sub_cons (d := 3) rfl (sub_cons (d := 6) rfl (sub_cons (d := 7) rfl (sub_cons (d := 8) rfl (sub_cons (d := 9) rfl (sub_cons (d := 23) rfl (sub_nil _)))))))))) (.refl _) ?_
    refine hl_nil ?_
    refine hq_then ?_
    refine hc_true rfl ?_
    refine hc_skip ?_
    refine hq_then ?_
    refine hc_seq ?_
    refine hc_block ?_
    have haj := hg.at (i := j) (by omega)
    have hfl : (rs.getD (((gs.getD j arc0).t).toNat) row0).ar.length ≤ 2000 := by rw [hri.2 (((gs.getD j arc0).t).toNat) (by omega)]; have := into_len (gs.take j) (((gs.getD j arc0).t).toNat); rw [List.length_take] at this; omega
    refine hc_conv [rowE 82 3 ((rs.getD (((gs.getD j arc0).t).toNat) row0).v) (((rs.getD (((gs.getD j arc0).t).toNat) row0).ar).length) (((rs.getD (((gs.getD j arc0).t).toNat) row0).ar).flatMap arcC), bigE ((rs.map aPart).eraseIdx (((gs.getD j arc0).t).toNat)), rowE 36 1 (.slice (some ⟨g3, 0, none⟩) ((List.replicate (n).toNat row0).length) ((List.replicate (n).toNat row0).length)) rs.length (rs.flatMap rowC), rowE 3 1 (.slice (some ⟨g2, 0, none⟩) 0 0) 0 ([]), boxE b1 #[.int .i64 n, v] 38] (conv_focus (j := (((gs.getD j arc0).t).toNat)) (by rw [List.getElem?_map, getD_at (d := row0) (by rw [hri.1]; omega)]; rfl)) ?_
    refine hc_draw3 (l := [bigE ((rs.map aPart).eraseIdx (((gs.getD j arc0).t).toNat)), rowE 36 1 (.slice (some ⟨g3, 0, none⟩) ((List.replicate (n).toNat row0).length) ((List.replicate (n).toNat row0).length)) rs.length (rs.flatMap rowC), rowE 3 1 (.slice (some ⟨g2, 0, none⟩) 0 0) 0 ([]), boxE b1 #[.int .i64 n, v] 38]) (by kernel_rfl) 23 [0, 1, 2, 3, 4, 5, 6, 7, 8, 9, 10, 11, 12, 13, 14, 15, 16, 17, 18, 19, 20, 21, 22] (List.take 23 _) (List.drop 23 _) [[], [], [1], [], [2, 3], [4], [5], [], [], [8], [], [9, 10], [11], [12], [7, 13], [14], [], [16], [], [17, 18], [19], [20], [15, 21]] [some 26, some 27, some 28, some 29, some 30, some 31, some 32, some 33, some 34, some 35, some 36, some 37, some 38, some 39, some 40, some 41, some 42, some 43, some 44, some 45, some 46, some 47, some 48] (fun i_ vs_ v_ p_ => match i_ with | 0 => v_ = .slice (some ⟨g3, 0, none⟩) ((List.replicate (n).toNat row0).length) ((List.replicate (n).toNat row0).length) ∧ p_ = [] | 1 => v_ = .pointer (some ⟨b1, 0 + 1, none⟩) ∧ p_ = [] | 2 => v_ = v ∧ p_ = [] | 3 => v_ = .int .i64 (j : Int) ∧ p_ = [] | 4 => v_ = elP v (((j : Int)).toNat * 3) ∧ p_ = [] | 5 => v_ = elP v (((j : Int)).toNat * 3 + 1) ∧ p_ = [] | 6 => v_ = .int .i64 ((gs.getD j arc0).t) ∧ p_ = [] | 7 => v_ = .slice (some ⟨g3, 0, none⟩) ((List.replicate (n).toNat row0).length) ((List.replicate (n).toNat row0).length) ∧ p_ = [] | 8 => v_ = .pointer (some ⟨b1, 0 + 1, none⟩) ∧ p_ = [] | 9 => v_ = v ∧ p_ = [] | 10 => v_ = .int .i64 (j : Int) ∧ p_ = [] | 11 => v_ = elP v (((j : Int)).toNat * 3) ∧ p_ = [] | 12 => v_ = elP v (((j : Int)).toNat * 3 + 1) ∧ p_ = [] | 13 => v_ = .int .i64 ((gs.getD j arc0).t) ∧ p_ = [] | 14 => v_ = elP (.slice (some ⟨g3, 0, none⟩) ((List.replicate (n).toNat row0).length) ((List.replicate (n).toNat row0).length)) (((gs.getD j arc0).t).toNat * 1) ∧ p_ = [] | 15 => v_ = (rs.getD (((gs.getD j arc0).t).toNat) row0).v ∧ p_ = [] | 16 => v_ = .pointer (some ⟨b1, 0 + 1, none⟩) ∧ p_ = [] | 17 => v_ = v ∧ p_ = [] | 18 => v_ = .int .i64 (j : Int) ∧ p_ = [] | 19 => v_ = elP v (((j : Int)).toNat * 3) ∧ p_ = [] | 20 => v_ = .agg #[.int .i64 ((gs.getD j arc0).f), .int .i64 ((gs.getD j arc0).t), .int .i64 ((gs.getD j arc0).d)] ∧ p_ = [] | 21 => IsRow 82 3 1 ([(gs.getD j arc0).f, (gs.getD j arc0).t, (gs.getD j arc0).d].map (Value.int .i64)) v_ p_ | 22 => (∃ pm_, p_ = [pm_] ∧ (fun u_ p_ => p_ = rowE 82 3 u_ ((((rs.getD (((gs.getD j arc0).t).toNat) row0).ar) ++ [gs.getD j arc0]).length) ((((rs.getD (((gs.getD j arc0).t).toNat) row0).ar) ++ [gs.getD j arc0]).flatMap arcC)) v_ pm_) | _ => True) [[], [], [1], [], [2, 3], [4], [5], [], [], [8], [], [9, 10], [11], [12], [7, 13], [14], [], [16], [], [17, 18], [19], [20], [15, 21]] [none, none, none, none, none, none, none, none, none, none, none, none, none, none, none, none, none, none, none, none, none, none, some 25] [[rowE 82 3 ((rs.getD (((gs.getD j arc0).t).toNat) row0).v) (((rs.getD (((gs.getD j arc0).t).toNat) row0).ar).length) (((rs.getD (((gs.getD j arc0).t).toNat) row0).ar).flatMap arcC)]] [0, 1, 2, 3, 4, 5, 6, 7, 8, 9, 10, 11, 12, 13, 14, 15, 16, 17, 18, 19, 20, 21, 22] 25 (List.take_append_drop 23 _).symm (by kernel_rfl) (by kernel_rfl) (by kernel_rfl) rfl rfl ?_ ?_
    ·
      refine ⟨?_, ?_, ?_, ?_, ?_, ?_, ?_, ?_, ?_, ?_, ?_, ?_, ?_, ?_, ?_, ?_, ?_, ?_, ?_, ?_, ?_, ?_, ?_, trivial⟩
      ·
        intro vf pf hmu hR
        refine Or.inl ⟨rfl, ?_⟩
        show RunQ _ _ _ (([] : List Nat).flatMap pf ++ _) (envOf3 _ vf [] ++ _) _ _
        refine rq_less (l' := [bigE ((rs.map aPart).eraseIdx (((gs.getD j arc0).t).toNat)), rowE 36 1 (.slice (some ⟨g3, 0, none⟩) ((List.replicate (n).toNat row0).length) ((List.replicate (n).toNat row0).length)) rs.length (rs.flatMap rowC), rowE 3 1 (.slice (some ⟨g2, 0, none⟩) 0 0) 0 ([]), boxE b1 #[.int .i64 n, v] 38]) (sub_cons (d := 8) rfl (sub_nil _)) (List.sublist_append_right _ _) ?_
        exact rq_v (rv_ev rfl)
      ·
        intro vf pf hmu hR
        refine Or.inl ⟨rfl, ?_⟩
        show RunQ _ _ _ (([] : List Nat).flatMap pf ++ _) (envOf3 _ vf [] ++ _) _ _
        refine rq_less (l' := [bigE ((rs.map aPart).eraseIdx (((gs.getD j arc0).t).toNat)), rowE 36 1 (.slice (some ⟨g3, 0, none⟩) ((List.replicate (n).toNat row0).length) ((List.replicate (n).toNat row0).length)) rs.length (rs.flatMap rowC), rowE 3 1 (.slice (some ⟨g2, 0, none⟩) 0 0) 0 ([]), boxE b1 #[.int .i64 n, v] 38]) (sub_cons (d := 3) rfl (sub_nil _)) (List.sublist_append_right _ _) ?_
        exact rq_v (rv_field (k0 := 1) rfl (by kernel_rfl) rfl)
      ·
        intro vf pf hmu hR
        have e1 : (vf 1) = .pointer (some ⟨b1, 0 + 1, none⟩) ∧ (pf 1) = [] := hR 1 (by decide)
        refine Or.inl ⟨rfl, ?_⟩
        show RunQ _ _ _ (([1] : List Nat).flatMap pf ++ _) (envOf3 _ vf [1] ++ _) _ _
        refine rq_less (l' := [bigE ((rs.map aPart).eraseIdx (((gs.getD j arc0).t).toNat)), rowE 36 1 (.slice (some ⟨g3, 0, none⟩) ((List.replicate (n).toNat row0).length) ((List.replicate (n).toNat row0).length)) rs.length (rs.flatMap rowC), rowE 3 1 (.slice (some ⟨g2, 0, none⟩) 0 0) 0 ([]), boxE b1 #[.int .i64 n, v] 38]) (sub_cons (d := 27) (congrArg some e1.1) (sub_nil _)) (List.sublist_append_right _ _) ?_
        exact rq_v (rv_load rfl (by kernel_rfl) rfl (box_cell 3 rfl rfl))
      ·
        intro vf pf hmu hR
        refine Or.inl ⟨rfl, ?_⟩
        show RunQ _ _ _ (([] : List Nat).flatMap pf ++ _) (envOf3 _ vf [] ++ _) _ _
        refine rq_less (l' := [bigE ((rs.map aPart).eraseIdx (((gs.getD j arc0).t).toNat)), rowE 36 1 (.slice (some ⟨g3, 0, none⟩) ((List.replicate (n).toNat row0).length) ((List.replicate (n).toNat row0).length)) rs.length (rs.flatMap rowC), rowE 3 1 (.slice (some ⟨g2, 0, none⟩) 0 0) 0 ([]), boxE b1 #[.int .i64 n, v] 38]) (sub_cons (d := 9) rfl (sub_nil _)) (List.sublist_append_right _ _) ?_
        exact rq_v (rv_ev rfl)
      ·
        intro vf pf hmu hR
        have e2 : (vf 2) = v ∧ (pf 2) = [] := hR 2 (by decide)
        have e3 : (vf 3) = .int .i64 (j : Int) ∧ (pf 3) = [] := hR 3 (by decide)
        refine Or.inl ⟨rfl, ?_⟩
        show RunQ _ _ _ (([2, 3] : List Nat).flatMap pf ++ _) (envOf3 _ vf [2, 3] ++ _) _ _
        refine rq_less (l' := [bigE ((rs.map aPart).eraseIdx (((gs.getD j arc0).t).toNat)), rowE 36 1 (.slice (some ⟨g3, 0, none⟩) ((List.replicate (n).toNat row0).length) ((List.replicate (n).toNat row0).length)) rs.length (rs.flatMap rowC), rowE 3 1 (.slice (some ⟨g2, 0, none⟩) 0 0) 0 ([]), boxE b1 #[.int .i64 n, v] 38]) (sub_cons (d := 28) (congrArg some e2.1) (sub_cons (d := 29) (congrArg some e3.1) (sub_nil _))) (List.sublist_append_right _ _) ?_
        exact rq_v (rv_index (s := 3) rfl Try.underlying36 (by kernel_rfl) rfl rfl (rd_old hv) (by omega) (by first | omega | (simp only [List.length_set]; omega)))
      ·
        intro vf pf hmu hR
        have e4 : (vf 4) = elP v (((j : Int)).toNat * 3) ∧ (pf 4) = [] := hR 4 (by decide)
        refine Or.inl ⟨rfl, ?_⟩
        show RunQ _ _ _ (([4] : List Nat).flatMap pf ++ _) (envOf3 _ vf [4] ++ _) _ _
        refine rq_less (l' := [bigE ((rs.map aPart).eraseIdx (((gs.getD j arc0).t).toNat)), rowE 36 1 (.slice (some ⟨g3, 0, none⟩) ((List.replicate (n).toNat row0).length) ((List.replicate (n).toNat row0).length)) rs.length (rs.flatMap rowC), rowE 3 1 (.slice (some ⟨g2, 0, none⟩) 0 0) 0 ([]), boxE b1 #[.int .i64 n, v] 38]) (sub_cons (d := 30) (congrArg some e4.1) (sub_nil _)) (List.sublist_append_right _ _) ?_
        exact rq_v (rv_fieldEl (k0 := 1) rfl (by kernel_rfl) rfl (rd_old hv) (by first | omega | (simp only [List.length_set]; omega)))
      ·
        intro vf pf hmu hR
        have e5 : (vf 5) = elP v (((j : Int)).toNat * 3 + 1) ∧ (pf 5) = [] := hR 5 (by decide)
        refine Or.inl ⟨rfl, ?_⟩
        show RunQ _ _ _ (([5] : List Nat).flatMap pf ++ _) (envOf3 _ vf [5] ++ _) _ _
        refine rq_less (l' := [bigE ((rs.map aPart).eraseIdx (((gs.getD j arc0).t).toNat)), rowE 36 1 (.slice (some ⟨g3, 0, none⟩) ((List.replicate (n).toNat row0).length) ((List.replicate (n).toNat row0).length)) rs.length (rs.flatMap rowC), rowE 3 1 (.slice (some ⟨g2, 0, none⟩) 0 0) 0 ([]), boxE b1 #[.int .i64 n, v] 38]) (sub_cons (d := 31) (congrArg some e5.1) (sub_nil _)) (List.sublist_append_right _ _) ?_
        exact rq_v (rv_loadEl (u := .int .i64 ((gs.getD j arc0).t)) rfl (by kernel_rfl) rfl (rd_old hv) ((flat_at arcC 3 (fun _ => rfl) gs arc0 (show j < _ by first | omega | (simp only [List.length_set]; omega)) (by decide)).trans rfl))
      ·
        intro vf pf hmu hR
        refine Or.inl ⟨rfl, ?_⟩
        show RunQ _ _ _ (([] : List Nat).flatMap pf ++ _) (envOf3 _ vf [] ++ _) _ _
        refine rq_less (l' := [bigE ((rs.map aPart).eraseIdx (((gs.getD j arc0).t).toNat)), rowE 36 1 (.slice (some ⟨g3, 0, none⟩) ((List.replicate (n).toNat row0).length) ((List.replicate (n).toNat row0).length)) rs.length (rs.flatMap rowC), rowE 3 1 (.slice (some ⟨g2, 0, none⟩) 0 0) 0 ([]), boxE b1 #[.int .i64 n, v] 38]) (sub_cons (d := 8) rfl (sub_nil _)) (List.sublist_append_right _ _) ?_
        exact rq_v (rv_ev rfl)
      ·
        intro vf pf hmu hR
        refine Or.inl ⟨rfl, ?_⟩
        show RunQ _ _ _ (([] : List Nat).flatMap pf ++ _) (envOf3 _ vf [] ++ _) _ _
        refine rq_less (l' := [bigE ((rs.map aPart).eraseIdx (((gs.getD j arc0).t).toNat)), rowE 36 1 (.slice (some ⟨g3, 0, none⟩) ((List.replicate (n).toNat row0).length) ((List.replicate (n).toNat row0).length)) rs.length (rs.flatMap rowC), rowE 3 1 (.slice (some ⟨g2, 0, none⟩) 0 0) 0 ([]), boxE b1 #[.int .i64 n, v] 38]) (sub_cons (d := 3) rfl (sub_nil _)) (List.sublist_append_right _ _) ?_
        exact rq_v (rv_field (k0 := 1) rfl (by kernel_rfl) rfl)
      ·
        intro vf pf hmu hR
        have e8 : (vf 8) = .pointer (some ⟨b1, 0 + 1, none⟩) ∧ (pf 8) = [] := hR 8 (by decide)
        refine Or.inl ⟨rfl, ?_⟩
        show RunQ _ _ _ (([8] : List Nat).flatMap pf ++ _) (envOf3 _ vf [8] ++ _) _ _
        refine rq_less (l' := [bigE ((rs.map aPart).eraseIdx (((gs.getD j arc0).t).toNat)), rowE 36 1 (.slice (some ⟨g3, 0, none⟩) ((List.replicate (n).toNat row0).length) ((List.replicate (n).toNat row0).length)) rs.length (rs.flatMap rowC), rowE 3 1 (.slice (some ⟨g2, 0, none⟩) 0 0) 0 ([]), boxE b1 #[.int .i64 n, v] 38]) (sub_cons (d := 34) (congrArg some e8.1) (sub_nil _)) (List.sublist_append_right _ _) ?_
        exact rq_v (rv_load rfl (by kernel_rfl) rfl (box_cell 3 rfl rfl))
      ·
        intro vf pf hmu hR
        refine Or.inl ⟨rfl, ?_⟩
        show RunQ _ _ _ (([] : List Nat).flatMap pf ++ _) (envOf3 _ vf [] ++ _) _ _
        refine rq_less (l' := [bigE ((rs.map aPart).eraseIdx (((gs.getD j arc0).t).toNat)), rowE 36 1 (.slice (some ⟨g3, 0, none⟩) ((List.replicate (n).toNat row0).length) ((List.replicate (n).toNat row0).length)) rs.length (rs.flatMap rowC), rowE 3 1 (.slice (some ⟨g2, 0, none⟩) 0 0) 0 ([]), boxE b1 #[.int .i64 n, v] 38]) (sub_cons (d := 9) rfl (sub_nil _)) (List.sublist_append_right _ _) ?_
        exact rq_v (rv_ev rfl)
      ·
        intro vf pf hmu hR
        have e9 : (vf 9) = v ∧ (pf 9) = [] := hR 9 (by decide)
        have e10 : (vf 10) = .int .i64 (j : Int) ∧ (pf 10) = [] := hR 10 (by decide)
        refine Or.inl ⟨rfl, ?_⟩
        show RunQ _ _ _ (([9, 10] : List Nat).flatMap pf ++ _) (envOf3 _ vf [9, 10] ++ _) _ _
        refine rq_less (l' := [bigE ((rs.map aPart).eraseIdx (((gs.getD j arc0).t).toNat)), rowE 36 1 (.slice (some ⟨g3, 0, none⟩) ((List.replicate (n).toNat row0).length) ((List.replicate (n).toNat row0).length)) rs.length (rs.flatMap rowC), rowE 3 1 (.slice (some ⟨g2, 0, none⟩) 0 0) 0 ([]), boxE b1 #[.int .i64 n, v] 38]) (sub_cons (d := 35) (congrArg some e9.1) (sub_cons (d := 36) (congrArg some e10.1) (sub_nil _))) (List.sublist_append_right _ _) ?_
        exact rq_v (rv_index (s := 3) rfl Try.underlying36 (by kernel_rfl) rfl rfl (rd_old hv) (by omega) (by first | omega | (simp only [List.length_set]; omega)))
      ·
        intro vf pf hmu hR
        have e11 : (vf 11) = elP v (((j : Int)).toNat * 3) ∧ (pf 11) = [] := hR 11 (by decide)
        refine Or.inl ⟨rfl, ?_⟩
        show RunQ _ _ _ (([11] : List Nat).flatMap pf ++ _) (envOf3 _ vf [11] ++ _) _ _
        refine rq_less (l' := [bigE ((rs.map aPart).eraseIdx (((gs.getD j arc0).t).toNat)), rowE 36 1 (.slice (some ⟨g3, 0, none⟩) ((List.replicate (n).toNat row0).length) ((List.replicate (n).toNat row0).length)) rs.length (rs.flatMap rowC), rowE 3 1 (.slice (some ⟨g2, 0, none⟩) 0 0) 0 ([]), boxE b1 #[.int .i64 n, v] 38]) (sub_cons (d := 37) (congrArg some e11.1) (sub_nil _)) (List.sublist_append_right _ _) ?_
        exact rq_v (rv_fieldEl (k0 := 1) rfl (by kernel_rfl) rfl (rd_old hv) (by first | omega | (simp only [List.length_set]; omega)))
      ·
        intro vf pf hmu hR
        have e12 : (vf 12) = elP v (((j : Int)).toNat * 3 + 1) ∧ (pf 12) = [] := hR 12 (by decide)
        refine Or.inl ⟨rfl, ?_⟩
        show RunQ _ _ _ (([12] : List Nat).flatMap pf ++ _) (envOf3 _ vf [12] ++ _) _ _
        refine rq_less (l' := [bigE ((rs.map aPart).eraseIdx (((gs.getD j arc0).t).toNat)), rowE 36 1 (.slice (some ⟨g3, 0, none⟩) ((List.replicate (n).toNat row0).length) ((List.replicate (n).toNat row0).length)) rs.length (rs.flatMap rowC), rowE 3 1 (.slice (some ⟨g2, 0, none⟩) 0 0) 0 ([]), boxE b1 #[.int .i64 n, v] 38]) (sub_cons (d := 38) (congrArg some e12.1) (sub_nil _)) (List.sublist_append_right _ _) ?_
        exact rq_v (rv_loadEl (u := .int .i64 ((gs.getD j arc0).t)) rfl (by kernel_rfl) rfl (rd_old hv) ((flat_at arcC 3 (fun _ => rfl) gs arc0 (show j < _ by first | omega | (simp only [List.length_set]; omega)) (by decide)).trans rfl))
      ·
        intro vf pf hmu hR
        have e7 : (vf 7) = .slice (some ⟨g3, 0, none⟩) ((List.replicate (n).toNat row0).length) ((List.replicate (n).toNat row0).length) ∧ (pf 7) = [] := hR 7 (by decide)
        have e13 : (vf 13) = .int .i64 ((gs.getD j arc0).t) ∧ (pf 13) = [] := hR 13 (by decide)
        refine Or.inl ⟨rfl, ?_⟩
        show RunQ _ _ _ (([7, 13] : List Nat).flatMap pf ++ _) (envOf3 _ vf [7, 13] ++ _) _ _
        refine rq_less (l' := [bigE ((rs.map aPart).eraseIdx (((gs.getD j arc0).t).toNat)), rowE 36 1 (.slice (some ⟨g3, 0, none⟩) ((List.replicate (n).toNat row0).length) ((List.replicate (n).toNat row0).length)) rs.length (rs.flatMap rowC), rowE 3 1 (.slice (some ⟨g2, 0, none⟩) 0 0) 0 ([]), boxE b1 #[.int .i64 n, v] 38]) (sub_cons (d := 33) (congrArg some e7.1) (sub_cons (d := 39) (congrArg some e13.1) (sub_nil _))) (List.sublist_append_right _ _) ?_
        exact rq_v (rv_index (s := 1) rfl Try.underlying78 (by kernel_rfl) rfl rfl (rd_row 1 rfl) (by omega) (by first | omega | (simp only [List.length_set]; omega)))
      ·
        intro vf pf hmu hR
        have e14 : (vf 14) = elP (.slice (some ⟨g3, 0, none⟩) ((List.replicate (n).toNat row0).length) ((List.replicate (n).toNat row0).length)) (((gs.getD j arc0).t).toNat * 1) ∧ (pf 14) = [] := hR 14 (by decide)
        refine Or.inl ⟨rfl, ?_⟩
        show RunQ _ _ _ (([14] : List Nat).flatMap pf ++ _) (envOf3 _ vf [14] ++ _) _ _
        refine rq_less (l' := [bigE ((rs.map aPart).eraseIdx (((gs.getD j arc0).t).toNat)), rowE 36 1 (.slice (some ⟨g3, 0, none⟩) ((List.replicate (n).toNat row0).length) ((List.replicate (n).toNat row0).length)) rs.length (rs.flatMap rowC), rowE 3 1 (.slice (some ⟨g2, 0, none⟩) 0 0) 0 ([]), boxE b1 #[.int .i64 n, v] 38]) (sub_cons (d := 40) (congrArg some e14.1) (sub_nil _)) (List.sublist_append_right _ _) ?_
        exact rq_v (rv_loadEl (u := (rs.getD (((gs.getD j arc0).t).toNat) row0).v) rfl (by kernel_rfl) rfl (rd_row 1 rfl) (flat_one rowC (fun r => r.v) (fun _ => rfl) rs row0 (show ((gs.getD j arc0).t).toNat < _ by first | omega | (simp only [List.length_set]; omega))))
      ·
        intro vf pf hmu hR
        refine Or.inl ⟨rfl, ?_⟩
        show RunQ _ _ _ (([] : List Nat).flatMap pf ++ _) (envOf3 _ vf [] ++ _) _ _
        refine rq_less (l' := [bigE ((rs.map aPart).eraseIdx (((gs.getD j arc0).t).toNat)), rowE 36 1 (.slice (some ⟨g3, 0, none⟩) ((List.replicate (n).toNat row0).length) ((List.replicate (n).toNat row0).length)) rs.length (rs.flatMap rowC), rowE 3 1 (.slice (some ⟨g2, 0, none⟩) 0 0) 0 ([]), boxE b1 #[.int .i64 n, v] 38]) (sub_cons (d := 3) rfl (sub_nil _)) (List.sublist_append_right _ _) ?_
        exact rq_v (rv_field (k0 := 1) rfl (by kernel_rfl) rfl)
      ·
        intro vf pf hmu hR
        have e16 : (vf 16) = .pointer (some ⟨b1, 0 + 1, none⟩) ∧ (pf 16) = [] := hR 16 (by decide)
        refine Or.inl ⟨rfl, ?_⟩
        show RunQ _ _ _ (([16] : List Nat).flatMap pf ++ _) (envOf3 _ vf [16] ++ _) _ _
        refine rq_less (l' := [bigE ((rs.map aPart).eraseIdx (((gs.getD j arc0).t).toNat)), rowE 36 1 (.slice (some ⟨g3, 0, none⟩) ((List.replicate (n).toNat row0).length) ((List.replicate (n).toNat row0).length)) rs.length (rs.flatMap rowC), rowE 3 1 (.slice (some ⟨g2, 0, none⟩) 0 0) 0 ([]), boxE b1 #[.int .i64 n, v] 38]) (sub_cons (d := 42) (congrArg some e16.1) (sub_nil _)) (List.sublist_append_right _ _) ?_
        exact rq_v (rv_load rfl (by kernel_rfl) rfl (box_cell 3 rfl rfl))
      ·
        intro vf pf hmu hR
        refine Or.inl ⟨rfl, ?_⟩
        show RunQ _ _ _ (([] : List Nat).flatMap pf ++ _) (envOf3 _ vf [] ++ _) _ _
        refine rq_less (l' := [bigE ((rs.map aPart).eraseIdx (((gs.getD j arc0).t).toNat)), rowE 36 1 (.slice (some ⟨g3, 0, none⟩) ((List.replicate (n).toNat row0).length) ((List.replicate (n).toNat row0).length)) rs.length (rs.flatMap rowC), rowE 3 1 (.slice (some ⟨g2, 0, none⟩) 0 0) 0 ([]), boxE b1 #[.int .i64 n, v] 38]) (sub_cons (d := 9) rfl (sub_nil _)) (List.sublist_append_right _ _) ?_
        exact rq_v (rv_ev rfl)
      ·
        intro vf pf hmu hR
        have e17 : (vf 17) = v ∧ (pf 17) = [] := hR 17 (by decide)
        have e18 : (vf 18) = .int .i64 (j : Int) ∧ (pf 18) = [] := hR 18 (by decide)
        refine Or.inl ⟨rfl, ?_⟩
        show RunQ _ _ _ (([17, 18] : List Nat).flatMap pf ++ _) (envOf3 _ vf [17, 18] ++ _) _ _
        refine rq_less (l' := [bigE ((rs.map aPart).eraseIdx (((gs.getD j arc0).t).toNat)), rowE 36 1 (.slice (some ⟨g3, 0, none⟩) ((List.replicate (n).toNat row0).length) ((List.replicate (n).toNat row0).length)) rs.length (rs.flatMap rowC), rowE 3 1 (.slice (some ⟨g2, 0, none⟩) 0 0) 0 ([]), boxE b1 #[.int .i64 n, v] 38]) (sub_cons (d := 43) (congrArg some e17.1) (sub_cons (d := 44) (congrArg some e18.1) (sub_nil _))) (List.sublist_append_right _ _) ?_
        exact rq_v (rv_index (s := 3) rfl Try.underlying36 (by kernel_rfl) rfl rfl (rd_old hv) (by omega) (by first | omega | (simp only [List.length_set]; omega)))
      ·
        intro vf pf hmu hR
        have e19 : (vf 19) = elP v (((j : Int)).toNat * 3) ∧ (pf 19) = [] := hR 19 (by decide)
        refine Or.inl ⟨rfl, ?_⟩
        show RunQ _ _ _ (([19] : List Nat).flatMap pf ++ _) (envOf3 _ vf [19] ++ _) _ _
        refine rq_less (l' := [bigE ((rs.map aPart).eraseIdx (((gs.getD j arc0).t).toNat)), rowE 36 1 (.slice (some ⟨g3, 0, none⟩) ((List.replicate (n).toNat row0).length) ((List.replicate (n).toNat row0).length)) rs.length (rs.flatMap rowC), rowE 3 1 (.slice (some ⟨g2, 0, none⟩) 0 0) 0 ([]), boxE b1 #[.int .i64 n, v] 38]) (sub_cons (d := 45) (congrArg some e19.1) (sub_nil _)) (List.sublist_append_right _ _) ?_
        exact rq_v (rv_loadElN (us := [.int .i64 ((gs.getD j arc0).f), .int .i64 ((gs.getD j arc0).t), .int .i64 ((gs.getD j arc0).d)]) rfl (by kernel_rfl) (by kernel_rfl) rfl (rd_old hv) (by omega) rfl (flat_atN arcC 3 (fun _ => rfl) gs arc0 (show j < _ by first | omega | (simp only [List.length_set]; omega)) rfl))
      ·
        intro vf pf hmu hR
        have e20 : (vf 20) = .agg #[.int .i64 ((gs.getD j arc0).f), .int .i64 ((gs.getD j arc0).t), .int .i64 ((gs.getD j arc0).d)] ∧ (pf 20) = [] := hR 20 (by decide)
        refine Or.inl ⟨rfl, ?_⟩
        show RunQ _ _ _ (([20] : List Nat).flatMap pf ++ _) (envOf3 _ vf [20] ++ _) _ _
        refine rq_less (l' := [bigE ((rs.map aPart).eraseIdx (((gs.getD j arc0).t).toNat)), rowE 36 1 (.slice (some ⟨g3, 0, none⟩) ((List.replicate (n).toNat row0).length) ((List.replicate (n).toNat row0).length)) rs.length (rs.flatMap rowC), rowE 3 1 (.slice (some ⟨g2, 0, none⟩) 0 0) 0 ([]), boxE b1 #[.int .i64 n, v] 38]) (sub_cons (d := 46) (congrArg some e20.1) (sub_nil _)) (List.sublist_append_right _ _) ?_
        exact rq_buildSlice (z := .agg #[.int .i64 0, .int .i64 0, .int .i64 0]) (s := 3) (cs := ([(gs.getD j arc0).f, (gs.getD j arc0).t, (gs.getD j arc0).d].map (Value.int .i64))) rfl Try.underlying36 (by kernel_rfl) (by decide) rfl (by kernel_rfl) rfl
      ·
        intro vf pf hmu hR
        have e15 : (vf 15) = (rs.getD (((gs.getD j arc0).t).toNat) row0).v ∧ (pf 15) = [] := hR 15 (by decide)
        have e21 : IsRow 82 3 1 ([(gs.getD j arc0).f, (gs.getD j arc0).t, (gs.getD j arc0).d].map (Value.int .i64)) (vf 21) (pf 21) := hR 21 (by decide)
        obtain ⟨g6, v21, p21⟩ := e21
        refine Or.inl ⟨rfl, ?_⟩
        show RunM _ _ _ (pf 25) (([15, 21] : List Nat).flatMap pf ++ _) (envOf3 _ vf [15, 21] ++ _) _ _
        have hmu0 : pf 25 = [rowE 82 3 ((rs.getD (((gs.getD j arc0).t).toNat) row0).v) (((rs.getD (((gs.getD j arc0).t).toNat) row0).ar).length) (((rs.getD (((gs.getD j arc0).t).toNat) row0).ar).flatMap arcC)] := hmu 0 (show 0 < 1 by omega)
        rw [hmu0]
        refine rm_less (X' := [rowE 82 3 (.slice (some ⟨g6, 0, none⟩) 1 1) 1 ([(gs.getD j arc0).f, (gs.getD j arc0).t, (gs.getD j arc0).d].map (Value.int .i64)), bigE ((rs.map aPart).eraseIdx (((gs.getD j arc0).t).toNat)), rowE 36 1 (.slice (some ⟨g3, 0, none⟩) ((List.replicate (n).toNat row0).length) ((List.replicate (n).toNat row0).length)) rs.length (rs.flatMap rowC), rowE 3 1 (.slice (some ⟨g2, 0, none⟩) 0 0) 0 ([]), boxE b1 #[.int .i64 n, v] 38]) (sub_cons (d := 41) (congrArg some e15.1) (sub_cons (d := 47) (congrArg some v21) (sub_nil _))) (by first | (simp only [p21, v21, e15.2, List.flatMap_cons, List.flatMap_nil, List.append_nil, List.nil_append, List.cons_append]; exact List.Sublist.refl _) | simp [p21, v21, e15.2]) ?_
        exact rm_append (d := 0) (z := .agg #[.int .i64 0, .int .i64 0, .int .i64 0]) (bytes := 24) (n' := (((rs.getD (((gs.getD j arc0).t).toNat) row0).ar) ++ [gs.getD j arc0]).length) (xs' := ((((rs.getD (((gs.getD j arc0).t).toNat) row0).ar) ++ [gs.getD j arc0]).flatMap arcC)) rfl Try.underlying36 (by kernel_rfl) (by kernel_rfl) rfl rfl (rd_row 0 rfl) (ints_one _) (by first | omega | (simp only [List.length_append, List.length_cons, List.length_nil]; omega)) (len_app ((rs.getD (((gs.getD j arc0).t).toNat) row0).ar) [gs.getD j arc0]) (flat_app1 arcC ((rs.getD (((gs.getD j arc0).t).toNat) row0).ar) (gs.getD j arc0) _ rfl)
    ·
      intro vf pf hmu hR
      have e0 : (vf 0) = .slice (some ⟨g3, 0, none⟩) ((List.replicate (n).toNat row0).length) ((List.replicate (n).toNat row0).length) ∧ (pf 0) = [] := hR 0 (by decide)
      have e6 : (vf 6) = .int .i64 ((gs.getD j arc0).t) ∧ (pf 6) = [] := hR 6 (by decide)
      have e21 : IsRow 82 3 1 ([(gs.getD j arc0).f, (gs.getD j arc0).t, (gs.getD j arc0).d].map (Value.int .i64)) (vf 21) (pf 21) := hR 21 (by decide)
      obtain ⟨g6, v21, p21⟩ := e21
      have e22 : (∃ pm_, (pf 22) = [pm_] ∧ (fun u_ p_ => p_ = rowE 82 3 u_ ((((rs.getD (((gs.getD j arc0).t).toNat) row0).ar) ++ [gs.getD j arc0]).length) ((((rs.getD (((gs.getD j arc0).t).toNat) row0).ar) ++ [gs.getD j arc0]).flatMap arcC)) (vf 22) pm_) := hR 22 (by decide)
      obtain ⟨p8, p22, hR9⟩ := e22
      obtain ⟨v7, v22⟩ : ∃ x, vf 22 = x := ⟨_, rfl⟩
      rw [v22] at hR9
      subst hR9
      have q0 : (vf 0) = .slice (some ⟨g3, 0, none⟩) ((List.replicate (n).toNat row0).length) ((List.replicate (n).toNat row0).length) ∧ (pf 0) = [] := hR 0 (by decide)
      have q1 : (vf 1) = .pointer (some ⟨b1, 0 + 1, none⟩) ∧ (pf 1) = [] := hR 1 (by decide)
      have q2 : (vf 2) = v ∧ (pf 2) = [] := hR 2 (by decide)
      have q3 : (vf 3) = .int .i64 (j : Int) ∧ (pf 3) = [] := hR 3 (by decide)
      have q4 : (vf 4) = elP v (((j : Int)).toNat * 3) ∧ (pf 4) = [] := hR 4 (by decide)
      have q5 : (vf 5) = elP v (((j : Int)).toNat * 3 + 1) ∧ (pf 5) = [] := hR 5 (by decide)
      have q6 : (vf 6) = .int .i64 ((gs.getD j arc0).t) ∧ (pf 6) = [] := hR 6 (by decide)
      have q7 : (vf 7) = .slice (some ⟨g3, 0, none⟩) ((List.replicate (n).toNat row0).length) ((List.replicate (n).toNat row0).length) ∧ (pf 7) = [] := hR 7 (by decide)
      have q8 : (vf 8) = .pointer (some ⟨b1, 0 + 1, none⟩) ∧ (pf 8) = [] := hR 8 (by decide)
      have q9 : (vf 9) = v ∧ (pf 9) = [] := hR 9 (by decide)
      have q10 : (vf 10) = .int .i64 (j : Int) ∧ (pf 10) = [] := hR 10 (by decide)
      have q11 : (vf 11) = elP v (((j : Int)).toNat * 3) ∧ (pf 11) = [] := hR 11 (by decide)
      have q12 : (vf 12) = elP v (((j : Int)).toNat * 3 + 1) ∧ (pf 12) = [] := hR 12 (by decide)
      have q13 : (vf 13) = .int .i64 ((gs.getD j arc0).t) ∧ (pf 13) = [] := hR 13 (by decide)
      have q14 : (vf 14) = elP (.slice (some ⟨g3, 0, none⟩) ((List.replicate (n).toNat row0).length) ((List.replicate (n).toNat row0).length)) (((gs.getD j arc0).t).toNat * 1) ∧ (pf 14) = [] := hR 14 (by decide)
      have q15 : (vf 15) = (rs.getD (((gs.getD j arc0).t).toNat) row0).v ∧ (pf 15) = [] := hR 15 (by decide)
      have q16 : (vf 16) = .pointer (some ⟨b1, 0 + 1, none⟩) ∧ (pf 16) = [] := hR 16 (by decide)
      have q17 : (vf 17) = v ∧ (pf 17) = [] := hR 17 (by decide)
      have q18 : (vf 18) = .int .i64 (j : Int) ∧ (pf 18) = [] := hR 18 (by decide)
      have q19 : (vf 19) = elP v (((j : Int)).toNat * 3) ∧ (pf 19) = [] := hR 19 (by decide)
      have q20 : (vf 20) = .agg #[.int .i64 ((gs.getD j arc0).f), .int .i64 ((gs.getD j arc0).t), .int .i64 ((gs.getD j arc0).d)] ∧ (pf 20) = [] := hR 20 (by decide)
      refine hl_less (l' := [rowE 82 3 (.slice (some ⟨g6, 0, none⟩) 1 1) 1 ([(gs.getD j arc0).f, (gs.getD j arc0).t, (gs.getD j arc0).d].map (Value.int .i64)), rowE 82 3 v7 ((((rs.getD (((gs.getD j arc0).t).toNat) row0).ar) ++ [gs.getD j arc0]).length) ((((rs.getD (((gs.getD j arc0).t).toNat) row0).ar) ++ [gs.getD j arc0]).flatMap arcC), bigE ((rs.map aPart).eraseIdx (((gs.getD j arc0).t).toNat)), rowE 36 1 (.slice (some ⟨g3, 0, none⟩) ((List.replicate (n).toNat row0).length) ((List.replicate (n).toNat row0).length)) rs.length (rs.flatMap rowC), rowE 3 1 (.slice (some ⟨g2, 0, none⟩) 0 0) 0 ([]), boxE b1 #[.int .i64 n, v] 38]) (sub_cons (d := 0) rfl (sub_cons (d := 1) rfl (sub_cons (d := 2) rfl (sub_cons (d := 3) rfl (sub_cons (d := 6) rfl (sub_cons (d := 7) rfl (sub_cons (d := 8) rfl (sub_cons (d := 9) rfl (sub_cons (d := 23) rfl (sub_cons (d := 26) (congrArg some e0.1) (sub_cons (d := 32) (congrArg some e6.1) (sub_cons (d := 48) (congrArg some v22) (sub_nil _))))))))))))) (by first | (simp only [p21, v21, p22, v22, q0.2, q1.2, q2.2, q3.2, q4.2, q5.2, q6.2, q7.2, q8.2, q9.2, q10.2, q11.2, q12.2, q13.2, q14.2, q15.2, q16.2, q17.2, q18.2, q19.2, q20.2, List.flatMap_cons, List.flatMap_nil, List.append_nil, List.nil_append, List.cons_append]; exact List.Sublist.refl _) | simp [p21, v21, p22, v22, q0.2, q1.2, q2.2, q3.2, q4.2, q5.2, q6.2, q7.2, q8.2, q9.2, q10.2, q11.2, q12.2, q13.2, q14.2, q15.2, q16.2, q17.2, q18.2, q19.2, q20.2]) ?_
      simp only [List.drop_succ_cons, List.drop_zero]
      refine hl_v rfl rfl rfl (rv_index (s := 1) rfl Try.underlying78 (by kernel_rfl) rfl rfl (rd_row 3 rfl) (by omega) (by first | omega | (simp only [List.length_set]; omega))) ?_
      refine hl_one (i := 1) rfl (fun ho10 => ?_)
      refine hl_storeEl (i := 3) (n' := (rs.set (((gs.getD j arc0).t).toNat) { rs.getD (((gs.getD j arc0).t).toNat) row0 with v := v7 }).length) (xs' := ((rs.set (((gs.getD j arc0).t).toNat) { rs.getD (((gs.getD j arc0).t).toNat) row0 with v := v7 }).flatMap rowC)) (l' := [rowE 82 3 (.slice (some ⟨g6, 0, none⟩) 1 1) 1 ([(gs.getD j arc0).f, (gs.getD j arc0).t, (gs.getD j arc0).d].map (Value.int .i64)), rowE 82 3 v7 ((((rs.getD (((gs.getD j arc0).t).toNat) row0).ar) ++ [gs.getD j arc0]).length) ((((rs.getD (((gs.getD j arc0).t).toNat) row0).ar) ++ [gs.getD j arc0]).flatMap arcC), bigE ((rs.map aPart).eraseIdx (((gs.getD j arc0).t).toNat)), rowE 36 1 (.slice (some ⟨g3, 0, none⟩) ((List.replicate (n).toNat row0).length) ((List.replicate (n).toNat row0).length)) ((rs.set (((gs.getD j arc0).t).toNat) { rs.getD (((gs.getD j arc0).t).toNat) row0 with v := v7 }).length) ((rs.set (((gs.getD j arc0).t).toNat) { rs.getD (((gs.getD j arc0).t).toNat) row0 with v := v7 }).flatMap rowC), rowE 3 1 (.slice (some ⟨g2, 0, none⟩) 0 0) 0 ([]), boxE b1 #[.int .i64 n, v] 38]) rfl rfl rfl (by kernel_rfl) rfl rfl ho10 rfl (by first | omega | (simp only [List.length_set]; omega)) List.length_set.symm (flat_set1 rowC (fun r => r.v) (fun _ => rfl) _ ({ rs.getD (((gs.getD j arc0).t).toNat) row0 with v := v7 }) rfl) rfl ?_
      refine hl_less (sub_cons (d := 0) rfl (sub_cons (d := 1) rfl (sub_cons (d := 2) rfl (sub_cons (d := 3) rfl (sub_cons (d := 6) rfl (sub_cons (d := 7) rfl (sub_cons (d := 8) rfl (sub_cons (d := 9) rfl (sub_cons (d := 23) rfl (sub_nil _)))))))))) (.refl _) ?_
      refine hl_nil ?_
      refine hq_block_normal ?_
      refine hq_then ?_
      refine hc_region ?_
      refine hl_v rfl rfl rfl (rv_ev rfl) ?_
      refine hl_v rfl rfl rfl (rv_add rfl rfl rfl (by constructor <;> omega)) ?_
      refine hl_v rfl rfl rfl (rv_ev rfl) ?_
      refine hl_less (sub_cons (d := 0) rfl (sub_cons (d := 1) rfl (sub_cons (d := 2) rfl (sub_cons (d := 3) rfl (sub_cons (d := 6) rfl (sub_cons (d := 7) rfl (sub_cons (d := 8) rfl (sub_cons (d := 9) rfl (sub_cons (d := 23) rfl (sub_nil _)))))))))) (.refl _) ?_
      refine hl_nil ?_
      have hs2 : (rs.set (((gs.getD j arc0).t).toNat) { rs.getD (((gs.getD j arc0).t).toNat) row0 with v := v7 }).flatMap rowC = (rs.set (((gs.getD j arc0).t).toNat) (ARow.mk v7 ((rs.getD (((gs.getD j arc0).t).toNat) row0).ar ++ [gs.getD j arc0]))).flatMap rowC := set_flat _ _ _ _ _ rfl
      have hs3 : (rs.set (((gs.getD j arc0).t).toNat) { rs.getD (((gs.getD j arc0).t).toNat) row0 with v := v7 }).length = (rs.set (((gs.getD j arc0).t).toNat) (ARow.mk v7 ((rs.getD (((gs.getD j arc0).t).toNat) row0).ar ++ [gs.getD j arc0]))).length := by simp only [List.length_set]
      refine hq_conv [rowE 82 3 v7 ((((rs.getD (((gs.getD j arc0).t).toNat) row0).ar) ++ [gs.getD j arc0]).length) ((((rs.getD (((gs.getD j arc0).t).toNat) row0).ar) ++ [gs.getD j arc0]).flatMap arcC), bigE ((rs.map aPart).eraseIdx (((gs.getD j arc0).t).toNat)), rowE 82 3 (.slice (some ⟨g6, 0, none⟩) 1 1) 1 ([(gs.getD j arc0).f, (gs.getD j arc0).t, (gs.getD j arc0).d].map (Value.int .i64)), rowE 36 1 (.slice (some ⟨g3, 0, none⟩) ((List.replicate (n).toNat row0).length) ((List.replicate (n).toNat row0).length)) ((rs.set (((gs.getD j arc0).t).toNat) { rs.getD (((gs.getD j arc0).t).toNat) row0 with v := v7 }).length) ((rs.set (((gs.getD j arc0).t).toNat) { rs.getD (((gs.getD j arc0).t).toNat) row0 with v := v7 }).flatMap rowC), rowE 3 1 (.slice (some ⟨g2, 0, none⟩) 0 0) 0 ([]), boxE b1 #[.int .i64 n, v] 38] (conv_pick (src := [rowE 82 3 (.slice (some ⟨g6, 0, none⟩) 1 1) 1 ([(gs.getD j arc0).f, (gs.getD j arc0).t, (gs.getD j arc0).d].map (Value.int .i64)), rowE 82 3 v7 ((((rs.getD (((gs.getD j arc0).t).toNat) row0).ar) ++ [gs.getD j arc0]).length) ((((rs.getD (((gs.getD j arc0).t).toNat) row0).ar) ++ [gs.getD j arc0]).flatMap arcC), bigE ((rs.map aPart).eraseIdx (((gs.getD j arc0).t).toNat)), rowE 36 1 (.slice (some ⟨g3, 0, none⟩) ((List.replicate (n).toNat row0).length) ((List.replicate (n).toNat row0).length)) ((rs.set (((gs.getD j arc0).t).toNat) { rs.getD (((gs.getD j arc0).t).toNat) row0 with v := v7 }).length) ((rs.set (((gs.getD j arc0).t).toNat) { rs.getD (((gs.getD j arc0).t).toNat) row0 with v := v7 }).flatMap rowC), rowE 3 1 (.slice (some ⟨g2, 0, none⟩) 0 0) 0 ([]), boxE b1 #[.int .i64 n, v] 38]) (dst := [rowE 82 3 v7 ((((rs.getD (((gs.getD j arc0).t).toNat) row0).ar) ++ [gs.getD j arc0]).length) ((((rs.getD (((gs.getD j arc0).t).toNat) row0).ar) ++ [gs.getD j arc0]).flatMap arcC), bigE ((rs.map aPart).eraseIdx (((gs.getD j arc0).t).toNat)), rowE 82 3 (.slice (some ⟨g6, 0, none⟩) 1 1) 1 ([(gs.getD j arc0).f, (gs.getD j arc0).t, (gs.getD j arc0).d].map (Value.int .i64)), rowE 36 1 (.slice (some ⟨g3, 0, none⟩) ((List.replicate (n).toNat row0).length) ((List.replicate (n).toNat row0).length)) ((rs.set (((gs.getD j arc0).t).toNat) { rs.getD (((gs.getD j arc0).t).toNat) row0 with v := v7 }).length) ((rs.set (((gs.getD j arc0).t).toNat) { rs.getD (((gs.getD j arc0).t).toNat) row0 with v := v7 }).flatMap rowC), rowE 3 1 (.slice (some ⟨g2, 0, none⟩) 0 0) 0 ([]), boxE b1 #[.int .i64 n, v] 38]) (l := []) [1, 2, 0, 3, 4, 5] (by decide) rfl) ?_
      refine hq_conv [bigE ((rs.set (((gs.getD j arc0).t).toNat) (ARow.mk v7 ((rs.getD (((gs.getD j arc0).t).toNat) row0).ar ++ [gs.getD j arc0]))).map aPart), rowE 82 3 (.slice (some ⟨g6, 0, none⟩) 1 1) 1 ([(gs.getD j arc0).f, (gs.getD j arc0).t, (gs.getD j arc0).d].map (Value.int .i64)), rowE 36 1 (.slice (some ⟨g3, 0, none⟩) ((List.replicate (n).toNat row0).length) ((List.replicate (n).toNat row0).length)) ((rs.set (((gs.getD j arc0).t).toNat) { rs.getD (((gs.getD j arc0).t).toNat) row0 with v := v7 }).length) ((rs.set (((gs.getD j arc0).t).toNat) { rs.getD (((gs.getD j arc0).t).toNat) row0 with v := v7 }).flatMap rowC), rowE 3 1 (.slice (some ⟨g2, 0, none⟩) 0 0) 0 ([]), boxE b1 #[.int .i64 n, v] 38] (fun w hm => by have h2 := conv_unfocus (p' := aPart (ARow.mk v7 ((rs.getD (((gs.getD j arc0).t).toNat) row0).ar ++ [gs.getD j arc0]))) (ps := rs.map aPart) (j := (((gs.getD j arc0).t).toNat)) (by rw [List.length_map, hri.1]; omega) w hm; rw [← List.map_set] at h2; exact h2) ?_
      refine hq_conv [bigE ((rs.set (((gs.getD j arc0).t).toNat) (ARow.mk v7 ((rs.getD (((gs.getD j arc0).t).toNat) row0).ar ++ [gs.getD j arc0]))).map aPart), rowE 82 3 (.slice (some ⟨g6, 0, none⟩) 1 1) 1 ([(gs.getD j arc0).f, (gs.getD j arc0).t, (gs.getD j arc0).d].map (Value.int .i64)), rowE 36 1 (.slice (some ⟨g3, 0, none⟩) ((List.replicate (n).toNat row0).length) ((List.replicate (n).toNat row0).length)) ((rs.set (((gs.getD j arc0).t).toNat) (ARow.mk v7 ((rs.getD (((gs.getD j arc0).t).toNat) row0).ar ++ [gs.getD j arc0]))).length) ((rs.set (((gs.getD j arc0).t).toNat) (ARow.mk v7 ((rs.getD (((gs.getD j arc0).t).toNat) row0).ar ++ [gs.getD j arc0]))).flatMap rowC), rowE 3 1 (.slice (some ⟨g2, 0, none⟩) 0 0) 0 ([]), boxE b1 #[.int .i64 n, v] 38] (fun w hm => by rw [← hs2, ← hs3]; exact hm) ?_
      exact hq_round2 (j + 1) (rs.set (((gs.getD j arc0).t).toNat) (ARow.mk v7 ((rs.getD (((gs.getD j arc0).t).toNat) row0).ar ++ [gs.getD j arc0]))) ⟨by omega, into_step hg (by omega) hri⟩ (by omega) (sub_cons (d := 0) rfl (sub_cons (d := 1) rfl (sub_cons (d := 2) rfl (sub_cons (d := 3) rfl (sub_cons (d := 6) rfl (sub_cons (d := 7) rfl (sub_cons (d := 8) rfl (sub_cons (d := 9) rfl (sub_nil _))))))))) ((.cons_cons _ (.cons _ (.cons_cons _ (.cons_cons _ (.cons_cons _ .slnil))))))
  ·
    refine hl_less (sub_cons (d := 0) rfl (sub_cons (d := 1) rfl (sub_cons (d := 2) rfl (sub_cons (d := 3) rfl (sub_cons (d := 6) rfl (sub_cons (d := 7) rfl (sub_cons (d := 8) rfl (sub_cons (d := 9) rfl (sub_cons (d := 23) rfl (sub_nil _)))))))))) (.refl _) ?_
    refine hl_nil ?_
    refine hq_then ?_
    refine hc_false rfl ?_
    refine hc_exit ?_
    refine hq_then_exit ?_
    refine hq_then_exit ?_
    refine hq_block_exit ?_
    refine hq_then ?_
    refine hc_seq ?_
    refine hc_seq ?_
    refine hc_region ?_
    refine hl_conv [bigE (rs.map aPart), rowE 36 1 (.slice (some ⟨g3, 0, none⟩) ((List.replicate (n).toNat row0).length) ((List.replicate (n).toNat row0).length)) rs.length (rs.flatMap rowC), rowE 3 1 (.slice (some ⟨g2, 0, none⟩) 0 0) 0 ([]), boxE b1 #[.int .i64 n, v] 38] (conv_pick (src := [bigE (rs.map aPart), rowE 36 1 (.slice (some ⟨g3, 0, none⟩) ((List.replicate (n).toNat row0).length) ((List.replicate (n).toNat row0).length)) rs.length (rs.flatMap rowC), rowE 3 1 (.slice (some ⟨g2, 0, none⟩) 0 0) 0 ([]), boxE b1 #[.int .i64 n, v] 38]) (dst := [bigE (rs.map aPart), rowE 36 1 (.slice (some ⟨g3, 0, none⟩) ((List.replicate (n).toNat row0).length) ((List.replicate (n).toNat row0).length)) rs.length (rs.flatMap rowC), rowE 3 1 (.slice (some ⟨g2, 0, none⟩) 0 0) 0 ([]), boxE b1 #[.int .i64 n, v] 38]) (l := []) [0, 1, 2, 3] (by decide) rfl) ?_
    refine hl_conv [intoE (.slice (some ⟨g3, 0, none⟩) ((List.replicate (n).toNat row0).length) ((List.replicate (n).toNat row0).length)) rs, rowE 3 1 (.slice (some ⟨g2, 0, none⟩) 0 0) 0 ([]), boxE b1 #[.int .i64 n, v] 38] (conv_big (ps := [bigE (rs.map aPart), rowE 36 1 (.slice (some ⟨g3, 0, none⟩) ((List.replicate (n).toNat row0).length) ((List.replicate (n).toNat row0).length)) rs.length (rs.flatMap rowC)])) ?_
    have hjn : j = gs.length := by omega
    rw [hjn, List.take_length] at hri
    have hlen2 : ∀ k, k < rs.length → (rs.getD k row0).ar.length ≤ 2000 := fun k hk => by rw [hri.2 k hk]; have := into_len gs k; omega
    refine hl_v rfl rfl rfl (rv_ev rfl) ?_
    refine hl_less (sub_cons (d := 0) rfl (sub_cons (d := 1) rfl (sub_cons (d := 2) rfl (sub_cons (d := 3) rfl (sub_cons (d := 6) rfl (sub_cons (d := 7) rfl (sub_cons (d := 8) rfl (sub_cons (d := 9) rfl (sub_cons (d := 10) rfl (sub_cons (d := 23) rfl (sub_nil _))))))))))) (.refl _) ?_
    refine hl_nil ?_
    refine hq_then ?_
    refine hc_block ?_
    refine hc_loop3 (α := Nat) (β := Value) (γ := List Int) (fun k u zs => [intoE (.slice (some ⟨g3, 0, none⟩) ((List.replicate (n).toNat row0).length) ((List.replicate (n).toNat row0).length)) rs, rowE 3 1 u zs.length (zs.map (Value.int .i64)), boxE b1 #[.int .i64 n, v] 38]) (fun k u zs => [(0, .agg #[.int .i64 n, v]), (1, .int .i64 s), (2, .bool false), (3, .pointer (some ⟨b1, 0, none⟩)), (6, .slice none 0 0), (7, u), (8, .slice (some ⟨g3, 0, none⟩) ((List.replicate (n).toNat row0).length) ((List.replicate (n).toNat row0).length)), (9, .int .i64 (j : Int)), (10, .int .i64 (k : Int)), (23, .bool false)]) (fun k u zs => k ≤ rs.length ∧ zs = delL true gs s k) (fun k u zs => rs.length - k) 0 _ [] ⟨by omega, rfl⟩ (sub_cons (d := 0) rfl (sub_cons (d := 1) rfl (sub_cons (d := 2) rfl (sub_cons (d := 3) rfl (sub_cons (d := 6) rfl (sub_cons (d := 7) rfl (sub_cons (d := 8) rfl (sub_cons (d := 9) rfl (sub_cons (d := 10) rfl (sub_cons (d := 23) rfl (sub_nil _))))))))))) ((.cons_cons _ (.cons_cons _ (.cons_cons _ .slnil)))) ?_
    intro k u zs hi11
    obtain ⟨hk, hz⟩ := hi11
    have hzl : zs.length = k := by rw [hz, del_len]
    refine hc_seq ?_
    refine hc_seq ?_
    refine hc_region ?_
    refine hl_v rfl rfl rfl (rv_ev rfl) ?_
    refine hl_v rfl rfl rfl (rv_field (k0 := 0) rfl (by kernel_rfl) rfl) ?_
    refine hl_v rfl rfl rfl (rv_load rfl (by kernel_rfl) rfl (box_cell 2 rfl rfl)) ?_
    refine hl_lss rfl rfl rfl rfl rfl rfl (fun h12 => ?_) (fun h12 => ?_)
    ·
      refine hl_less (sub_cons (d := 0) rfl (sub_cons (d := 1) rfl (sub_cons (d := 2) rfl (sub_cons (d := 3) rfl (sub_cons (d := 6) rfl (sub_cons (d := 7) rfl (sub_cons (d := 8) rfl (sub_cons (d := 9) rfl (sub_cons (d := 10) rfl (sub_cons (d := 23) rfl (sub_cons (d := 53) rfl (sub_nil _)))))))))))) (.refl _) ?_
      refine hl_nil ?_
      refine hq_then ?_
      refine hc_true rfl ?_
      refine hc_skip ?_
      refine hq_then ?_
      refine hc_seq ?_
      refine hc_block ?_
      refine hc_seq ?_
      refine hc_region ?_
      refine hl_v rfl rfl rfl (rv_ev rfl) ?_
      refine hl_less (sub_cons (d := 0) rfl (sub_cons (d := 1) rfl (sub_cons (d := 2) rfl (sub_cons (d := 3) rfl (sub_cons (d := 6) rfl (sub_cons (d := 7) rfl (sub_cons (d := 8) rfl (sub_cons (d := 9) rfl (sub_cons (d := 10) rfl (sub_cons (d := 11) rfl (sub_cons (d := 23) rfl (sub_cons (d := 53) rfl (sub_nil _))))))))))))) (.refl _) ?_
      refine hl_nil ?_
      refine hq_then ?_
      refine hc_meet1 (α := Int) (fun b0 => [intoE (.slice (some ⟨g3, 0, none⟩) ((List.replicate (n).toNat row0).length) ((List.replicate (n).toNat row0).length)) rs, rowE 3 1 u zs.length (zs.map (Value.int .i64)), boxE b1 #[.int .i64 n, v] 38]) (fun b0 => [(0, .agg #[.int .i64 n, v]), (1, .int .i64 s), (2, .bool false), (3, .pointer (some ⟨b1, 0, none⟩)), (6, .slice none 0 0), (7, u), (8, .slice (some ⟨g3, 0, none⟩) ((List.replicate (n).toNat row0).length) ((List.replicate (n).toNat row0).length)), (9, .int .i64 (j : Int)), (10, .int .i64 (k : Int)), (11, .int .i64 b0), (23, .bool false), (53, .bool true)]) (fun b0 => b0 = if (k : Int) = s then 0 else -1) ?_ ?_
      ·
        refine hc_seq ?_
        refine hc_region ?_
        refine hl_v rfl rfl rfl (rv_ev rfl) ?_
        refine hl_v rfl rfl rfl (rv_ev rfl) ?_
        refine hl_eql rfl rfl rfl rfl rfl rfl (fun h13 => ?_) (fun h13 => ?_)
        ·
          refine hl_less (sub_cons (d := 0) rfl (sub_cons (d := 1) rfl (sub_cons (d := 2) rfl (sub_cons (d := 3) rfl (sub_cons (d := 6) rfl (sub_cons (d := 7) rfl (sub_cons (d := 8) rfl (sub_cons (d := 9) rfl (sub_cons (d := 10) rfl (sub_cons (d := 11) rfl (sub_cons (d := 23) rfl (sub_cons (d := 53) rfl (sub_cons (d := 58) rfl (sub_nil _)))))))))))))) (.refl _) ?_
          refine hl_nil ?_
          refine hq_then ?_
          refine hc_true rfl ?_
          refine hc_region ?_
          refine hl_v rfl rfl rfl (rv_ev rfl) ?_
          refine hl_less (sub_cons (d := 0) rfl (sub_cons (d := 1) rfl (sub_cons (d := 2) rfl (sub_cons (d := 3) rfl (sub_cons (d := 6) rfl (sub_cons (d := 7) rfl (sub_cons (d := 8) rfl (sub_cons (d := 9) rfl (sub_cons (d := 10) rfl (sub_cons (d := 11) rfl (sub_cons (d := 23) rfl (sub_cons (d := 53) rfl (sub_cons (d := 58) rfl (sub_nil _)))))))))))))) (.refl _) ?_
          refine hl_nil ?_
          exact hq_meet1 0 (by rw [if_pos (by assumption)]) (sub_cons (d := 0) rfl (sub_cons (d := 1) rfl (sub_cons (d := 2) rfl (sub_cons (d := 3) rfl (sub_cons (d := 6) rfl (sub_cons (d := 7) rfl (sub_cons (d := 8) rfl (sub_cons (d := 9) rfl (sub_cons (d := 10) rfl (sub_cons (d := 11) rfl (sub_cons (d := 23) rfl (sub_cons (d := 53) rfl (sub_nil _))))))))))))) ((.cons_cons _ (.cons_cons _ (.cons_cons _ .slnil))))
        ·
          refine hl_less (sub_cons (d := 0) rfl (sub_cons (d := 1) rfl (sub_cons (d := 2) rfl (sub_cons (d := 3) rfl (sub_cons (d := 6) rfl (sub_cons (d := 7) rfl (sub_cons (d := 8) rfl (sub_cons (d := 9) rfl (sub_cons (d := 10) rfl (sub_cons (d := 11) rfl (sub_cons (d := 23) rfl (sub_cons (d := 53) rfl (sub_cons (d := 58) rfl (sub_nil _)))))))))))))) (.refl _) ?_
          refine hl_nil ?_
          refine hq_then ?_
          refine hc_false rfl ?_
          refine hc_skip ?_
          exact hq_meet1 (-1) (by rw [if_neg (by assumption)]) (sub_cons (d := 0) rfl (sub_cons (d := 1) rfl (sub_cons (d := 2) rfl (sub_cons (d := 3) rfl (sub_cons (d := 6) rfl (sub_cons (d := 7) rfl (sub_cons (d := 8) rfl (sub_cons (d := 9) rfl (sub_cons (d := 10) rfl (sub_cons (d := 11) rfl (sub_cons (d := 23) rfl (sub_cons (d := 53) rfl (sub_nil _))))))))))))) ((.cons_cons _ (.cons_cons _ (.cons_cons _ .slnil))))
      intro b0 hm14
      have hb0 := hm14
      have hb0r : -1 ≤ b0 ∧ b0 ≤ 0 := by rw [hb0]; split <;> omega
      refine hc_seq ?_
      refine hc_seq ?_
      refine hc_region ?_
      refine hl_v rfl rfl rfl (rv_ev rfl) ?_
      refine hl_less (sub_cons (d := 0) rfl (sub_cons (d := 1) rfl (sub_cons (d := 2) rfl (sub_cons (d := 3) rfl (sub_cons (d := 6) rfl (sub_cons (d := 7) rfl (sub_cons (d := 8) rfl (sub_cons (d := 9) rfl (sub_cons (d := 10) rfl (sub_cons (d := 11) rfl (sub_cons (d := 12) rfl (sub_cons (d := 23) rfl (sub_cons (d := 53) rfl (sub_nil _)))))))))))))) (.refl _) ?_
      refine hl_nil ?_
      refine hq_then ?_
      refine hc_block ?_
      refine hc_loop2 (α := Nat) (β := Int) (fun m b => [intoE (.slice (some ⟨g3, 0, none⟩) ((List.replicate (n).toNat row0).length) ((List.replicate (n).toNat row0).length)) rs, rowE 3 1 u zs.length (zs.map (Value.int .i64)), boxE b1 #[.int .i64 n, v] 38]) (fun m b => [(0, .agg #[.int .i64 n, v]), (1, .int .i64 s), (2, .bool false), (3, .pointer (some ⟨b1, 0, none⟩)), (6, .slice none 0 0), (7, u), (8, .slice (some ⟨g3, 0, none⟩) ((List.replicate (n).toNat row0).length) ((List.replicate (n).toNat row0).length)), (9, .int .i64 (j : Int)), (10, .int .i64 (k : Int)), (11, .int .i64 b), (12, .int .i64 (m : Int)), (23, .bool false), (53, .bool true)]) (fun m b => m ≤ (rs.getD k row0).ar.length ∧ b = ((rs.getD k row0).ar.take m).foldl (stepD true (delL true gs s k)) b0 ∧ -1 ≤ b ∧ b ≤ 100 * (k : Int)) (fun m b => (rs.getD k row0).ar.length - m) 0 b0 ⟨by omega, rfl, by omega, by omega⟩ (sub_cons (d := 0) rfl (sub_cons (d := 1) rfl (sub_cons (d := 2) rfl (sub_cons (d := 3) rfl (sub_cons (d := 6) rfl (sub_cons (d := 7) rfl (sub_cons (d := 8) rfl (sub_cons (d := 9) rfl (sub_cons (d := 10) rfl (sub_cons (d := 11) rfl (sub_cons (d := 12) rfl (sub_cons (d := 23) rfl (sub_cons (d := 53) rfl (sub_nil _)))))))))))))) ((.cons_cons _ (.cons_cons _ (.cons_cons _ .slnil)))) ?_
      intro m b hi15
      obtain ⟨hm, hb, hbl, hbh⟩ := hi15
      refine hc_seq ?_
      refine hc_seq ?_
      refine hc_region ?_
      have hl2 := hlen2 k (by omega)
      refine hl_v rfl rfl rfl (rv_ev rfl) ?_
      refine hl_v rfl rfl rfl (rv_ev rfl) ?_
      refine hl_v rfl rfl rfl (rv_ev rfl) ?_
      refine hl_v rfl rfl rfl (rv_index (s := 1) rfl Try.underlying78 (by kernel_rfl) rfl rfl (fun w hm => (into_rds (v := .slice (some ⟨g3, 0, none⟩) ((List.replicate (n).toNat row0).length) ((List.replicate (n).toNat row0).length)) (rs := rs) 0 rfl w hm).row) (by omega) (by first | omega | (simp only [List.length_set]; omega))) ?_
      refine hl_v rfl rfl rfl (rv_loadEl (u := (rs.getD k row0).v) rfl (by kernel_rfl) rfl (fun w hm => (into_rds (v := .slice (some ⟨g3, 0, none⟩) ((List.replicate (n).toNat row0).length) ((List.replicate (n).toNat row0).length)) (rs := rs) 0 rfl w hm).row) (flat_one rowC (fun r => r.v) (fun _ => rfl) rs row0 (show k < _ by first | omega | (simp only [List.length_set]; omega)))) ?_
      refine hl_v rfl rfl rfl (rv_len rfl Try.underlying36 rfl (fun w hm => (into_rds (v := .slice (some ⟨g3, 0, none⟩) ((List.replicate (n).toNat row0).length) ((List.replicate (n).toNat row0).length)) (rs := rs) 0 rfl w hm).at (k := k) (by omega))) ?_
      refine hl_lss rfl rfl rfl rfl rfl rfl (fun h16 => ?_) (fun h16 => ?_)
      ·
        refine hl_less (sub_cons (d := 0) rfl (sub_cons (d := 1) rfl (sub_cons (d := 2) rfl (sub_cons (d := 3) rfl (sub_cons (d := 6) rfl (sub_cons (d := 7) rfl (sub_cons (d := 8) rfl (sub_cons (d := 9) rfl (sub_cons (d := 10) rfl (sub_cons (d := 11) rfl (sub_cons (d := 12) rfl (sub_cons (d := 23) rfl (sub_cons (d := 53) rfl (sub_cons (d := 65) rfl (sub_nil _))))))))))))))) (.refl _) ?_
        refine hl_nil ?_
        refine hq_then ?_
        refine hc_true rfl ?_
        refine hc_skip ?_
        refine hq_then ?_
        refine hc_seq ?_
        refine hc_block ?_
        refine hc_seq ?_
        refine hc_region ?_
        refine hl_v rfl rfl rfl (rv_ev rfl) ?_
        refine hl_v rfl rfl rfl (rv_ev rfl) ?_
        refine hl_v rfl rfl rfl (rv_index (s := 1) rfl Try.underlying78 (by kernel_rfl) rfl rfl (fun w hm => (into_rds (v := .slice (some ⟨g3, 0, none⟩) ((List.replicate (n).toNat row0).length) ((List.replicate (n).toNat row0).length)) (rs := rs) 0 rfl w hm).row) (by omega) (by first | omega | (simp only [List.length_set]; omega))) ?_
        refine hl_v rfl rfl rfl (rv_loadEl (u := (rs.getD k row0).v) rfl (by kernel_rfl) rfl (fun w hm => (into_rds (v := .slice (some ⟨g3, 0, none⟩) ((List.replicate (n).toNat row0).length) ((List.replicate (n).toNat row0).length)) (rs := rs) 0 rfl w hm).row) (flat_one rowC (fun r => r.v) (fun _ => rfl) rs row0 (show k < _ by first | omega | (simp only [List.length_set]; omega)))) ?_
        refine hl_v rfl rfl rfl (rv_ev rfl) ?_
        refine hl_v rfl rfl rfl (rv_index (s := 3) rfl Try.underlying36 (by kernel_rfl) rfl rfl (fun w hm => (into_rds (v := .slice (some ⟨g3, 0, none⟩) ((List.replicate (n).toNat row0).length) ((List.replicate (n).toNat row0).length)) (rs := rs) 0 rfl w hm).at (k := k) (by omega)) (by omega) (by first | omega | (simp only [List.length_set]; omega))) ?_
        refine hl_v rfl rfl rfl (rv_loadElN (us := [.int .i64 ((((rs.getD k row0).ar).getD m arc0).f), .int .i64 ((((rs.getD k row0).ar).getD m arc0).t), .int .i64 ((((rs.getD k row0).ar).getD m arc0).d)]) rfl (by kernel_rfl) (by kernel_rfl) rfl (fun w hm => (into_rds (v := .slice (some ⟨g3, 0, none⟩) ((List.replicate (n).toNat row0).length) ((List.replicate (n).toNat row0).length)) (rs := rs) 0 rfl w hm).at (k := k) (by omega)) (by omega) rfl (flat_atN arcC 3 (fun _ => rfl) ((rs.getD k row0).ar) arc0 (show m < _ by first | omega | (simp only [List.length_set]; omega)) rfl)) ?_
        refine hl_box rfl rfl rfl (rq_alloc (z := .agg #[.int .i64 0, .int .i64 0, .int .i64 0]) rfl (by kernel_rfl)) ?_
        intro b17
        refine hl_storeBoxN (i := 0) (off := 0) (us := [.int .i64 ((((rs.getD k row0).ar).getD m arc0).f), .int .i64 ((((rs.getD k row0).ar).getD m arc0).t), .int .i64 ((((rs.getD k row0).ar).getD m arc0).d)]) (l' := [boxE b17 #[.int .i64 ((((rs.getD k row0).ar).getD m arc0).f), .int .i64 ((((rs.getD k row0).ar).getD m arc0).t), .int .i64 ((((rs.getD k row0).ar).getD m arc0).d)] 82, intoE (.slice (some ⟨g3, 0, none⟩) ((List.replicate (n).toNat row0).length) ((List.replicate (n).toNat row0).length)) rs, rowE 3 1 u zs.length (zs.map (Value.int .i64)), boxE b1 #[.int .i64 n, v] 38]) rfl rfl rfl (by kernel_rfl) rfl rfl rfl (all_cons rfl (all_cons rfl (all_cons rfl all_nil))) rfl rfl rfl ?_
        refine hl_less (sub_cons (d := 0) rfl (sub_cons (d := 1) rfl (sub_cons (d := 2) rfl (sub_cons (d := 3) rfl (sub_cons (d := 6) rfl (sub_cons (d := 7) rfl (sub_cons (d := 8) rfl (sub_cons (d := 9) rfl (sub_cons (d := 10) rfl (sub_cons (d := 11) rfl (sub_cons (d := 12) rfl (sub_cons (d := 13) rfl (sub_cons (d := 23) rfl (sub_cons (d := 53) rfl (sub_cons (d := 65) rfl (sub_nil _)))))))))))))))) (.refl _) ?_
        refine hl_nil ?_
        refine hq_then ?_
        refine hc_seq ?_
        refine hc_seq ?_
        refine hc_region ?_
        have hin : (rs.getD k row0).ar = intoL gs k := hri.2 k (by omega)
        have hea : 0 ≤ ((rs.getD k row0).ar.getD m arc0).f ∧ ((rs.getD k row0).ar.getD m arc0).f < k ∧ 0 ≤ ((rs.getD k row0).ar.getD m arc0).d ∧ ((rs.getD k row0).ar.getD m arc0).d ≤ 100 := by rw [hin]; exact into_at hg (by rw [← hin]; omega)
        have hlow : zs.getD (((rs.getD k row0).ar.getD m arc0).f).toNat 0 = Dl true gs s (((rs.getD k row0).ar.getD m arc0).f).toNat := by rw [hz]; exact del_at true gs s k _ (by omega)
        have hlow2 : (delL true gs s k).getD (((rs.getD k row0).ar.getD m arc0).f).toNat 0 = Dl true gs s (((rs.getD k row0).ar.getD m arc0).f).toNat := del_at true gs s k _ (by omega)
        have hdb := Dl_bnd hg true s (((rs.getD k row0).ar.getD m arc0).f).toNat
        refine hl_v rfl rfl rfl (rv_ev rfl) ?_
        refine hl_v rfl rfl rfl (rv_field (k0 := 0) rfl (by kernel_rfl) rfl) ?_
        refine hl_v rfl rfl rfl (rv_load rfl (by kernel_rfl) rfl (box_cell 0 rfl rfl)) ?_
        refine hl_v rfl rfl rfl (rv_index (s := 1) rfl Try.underlying43 (by kernel_rfl) rfl rfl (rd_row 2 rfl) (by omega) (by first | omega | (simp only [List.length_set]; omega))) ?_
        refine hl_v rfl rfl rfl (rv_loadEl (u := .int .i64 (zs.getD (((((rs.getD k row0).ar).getD m arc0).f).toNat) 0)) rfl (by kernel_rfl) rfl (rd_row 2 rfl) (ints_at1 (show _ < zs.length by first | omega | (simp only [List.length_set]; omega)))) ?_
        refine hl_lss rfl rfl rfl rfl rfl rfl (fun h18 => ?_) (fun h18 => ?_)
        ·
          refine hl_less (sub_cons (d := 0) rfl (sub_cons (d := 1) rfl (sub_cons (d := 2) rfl (sub_cons (d := 3) rfl (sub_cons (d := 6) rfl (sub_cons (d := 7) rfl (sub_cons (d := 8) rfl (sub_cons (d := 9) rfl (sub_cons (d := 10) rfl (sub_cons (d := 11) rfl (sub_cons (d := 12) rfl (sub_cons (d := 13) rfl (sub_cons (d := 23) rfl (sub_cons (d := 53) rfl (sub_cons (d := 65) rfl (sub_cons (d := 80) rfl (sub_nil _))))))))))))))))) (.refl _) ?_
          refine hl_nil ?_
          refine hq_then ?_
          refine hc_true rfl ?_
          refine hc_exit ?_
          refine hq_then_exit ?_
          refine hq_block_exit ?_
          refine hq_then ?_
          refine hc_region ?_
          refine hl_v rfl rfl rfl (rv_ev rfl) ?_
          refine hl_v rfl rfl rfl (rv_add rfl rfl rfl (by constructor <;> omega)) ?_
          refine hl_v rfl rfl rfl (rv_ev rfl) ?_
          refine hl_less (sub_cons (d := 0) rfl (sub_cons (d := 1) rfl (sub_cons (d := 2) rfl (sub_cons (d := 3) rfl (sub_cons (d := 6) rfl (sub_cons (d := 7) rfl (sub_cons (d := 8) rfl (sub_cons (d := 9) rfl (sub_cons (d := 10) rfl (sub_cons (d := 11) rfl (sub_cons (d := 12) rfl (sub_cons (d := 13) rfl (sub_cons (d := 23) rfl (sub_cons (d := 53) rfl (sub_cons (d := 65) rfl (sub_cons (d := 80) rfl (sub_nil _))))))))))))))))) (.refl _) ?_
          refine hl_nil ?_
          exact hq_round2 (m + 1) b ⟨by omega, by rw [take_snoc arc0 (by omega), List.foldl_append, ← hb]; show _ = stepD true (delL true gs s k) b ((rs.getD k row0).ar.getD m arc0); first | rw [st_skip (by rw [hlow2]; omega)] | rw [st_noT (by rw [hlow2]; omega) (by omega) (by rw [hlow2]; omega)], by omega, by omega⟩ (by omega) (sub_cons (d := 0) rfl (sub_cons (d := 1) rfl (sub_cons (d := 2) rfl (sub_cons (d := 3) rfl (sub_cons (d := 6) rfl (sub_cons (d := 7) rfl (sub_cons (d := 8) rfl (sub_cons (d := 9) rfl (sub_cons (d := 10) rfl (sub_cons (d := 11) rfl (sub_cons (d := 12) rfl (sub_cons (d := 23) rfl (sub_cons (d := 53) rfl (sub_nil _)))))))))))))) ((.cons _ (.cons_cons _ (.cons_cons _ (.cons_cons _ .slnil)))))
        ·
          refine hl_less (sub_cons (d := 0) rfl (sub_cons (d := 1) rfl (sub_cons (d := 2) rfl (sub_cons (d := 3) rfl (sub_cons (d := 6) rfl (sub_cons (d := 7) rfl (sub_cons (d := 8) rfl (sub_cons (d := 9) rfl (sub_cons (d := 10) rfl (sub_cons (d := 11) rfl (sub_cons (d := 12) rfl (sub_cons (d := 13) rfl (sub_cons (d := 23) rfl (sub_cons (d := 53) rfl (sub_cons (d := 65) rfl (sub_cons (d := 80) rfl (sub_nil _))))))))))))))))) (.refl _) ?_
          refine hl_nil ?_
          refine hq_then ?_
          refine hc_false rfl ?_
          refine hc_skip ?_
          refine hq_then ?_
          refine hc_seq ?_
          refine hc_draw (by kernel_rfl) 8 [0, 1, 2, 3, 4, 5, 6, 7] (List.take 8 _) (List.drop 8 _) [[], [], [1], [0, 2], [3], [], [5], [4, 6]] [81, 82, 83, 84, 85, 86, 87, 88] (fun i_ vs_ v_ p_ => match i_ with | 0 => v_ = u ∧ p_ = [] | 1 => v_ = .pointer (some ⟨b17, 0 + 0, none⟩) ∧ p_ = [] | 2 => v_ = .int .i64 ((((rs.getD k row0).ar).getD m arc0).f) ∧ p_ = [] | 3 => v_ = elP u (((((rs.getD k row0).ar).getD m arc0).f).toNat * 1) ∧ p_ = [] | 4 => v_ = .int .i64 (zs.getD (((((rs.getD k row0).ar).getD m arc0).f).toNat) 0) ∧ p_ = [] | 5 => v_ = .pointer (some ⟨b17, 0 + 2, none⟩) ∧ p_ = [] | 6 => v_ = .int .i64 ((((rs.getD k row0).ar).getD m arc0).d) ∧ p_ = [] | 7 => v_ = .int .i64 ((zs.getD (((((rs.getD k row0).ar).getD m arc0).f).toNat) 0) + ((((rs.getD k row0).ar).getD m arc0).d)) ∧ p_ = [] | _ => True) (List.take_append_drop 8 _).symm (by kernel_rfl) (by kernel_rfl) rfl rfl ?_ ?_
          ·
            refine ⟨?_, ?_, ?_, ?_, ?_, ?_, ?_, ?_, trivial⟩
            ·
              intro vf pf hR
              refine Or.inl ⟨rfl, ?_⟩
              refine rq_less (l' := [boxE b17 #[.int .i64 ((((rs.getD k row0).ar).getD m arc0).f), .int .i64 ((((rs.getD k row0).ar).getD m arc0).t), .int .i64 ((((rs.getD k row0).ar).getD m arc0).d)] 82, intoE (.slice (some ⟨g3, 0, none⟩) ((List.replicate (n).toNat row0).length) ((List.replicate (n).toNat row0).length)) rs, rowE 3 1 u zs.length (zs.map (Value.int .i64)), boxE b1 #[.int .i64 n, v] 38]) (sub_cons (d := 7) rfl (sub_nil _)) (List.sublist_append_right _ _) ?_
              exact rq_v (rv_ev rfl)
            ·
              intro vf pf hR
              refine Or.inl ⟨rfl, ?_⟩
              refine rq_less (l' := [boxE b17 #[.int .i64 ((((rs.getD k row0).ar).getD m arc0).f), .int .i64 ((((rs.getD k row0).ar).getD m arc0).t), .int .i64 ((((rs.getD k row0).ar).getD m arc0).d)] 82, intoE (.slice (some ⟨g3, 0, none⟩) ((List.replicate (n).toNat row0).length) ((List.replicate (n).toNat row0).length)) rs, rowE 3 1 u zs.length (zs.map (Value.int .i64)), boxE b1 #[.int .i64 n, v] 38]) (sub_cons (d := 13) rfl (sub_nil _)) (List.sublist_append_right _ _) ?_
              exact rq_v (rv_field (k0 := 0) rfl (by kernel_rfl) rfl)
            ·
              intro vf pf hR
              have e1 : (vf 1) = .pointer (some ⟨b17, 0 + 0, none⟩) ∧ (pf 1) = [] := hR 1 (by decide)
              refine Or.inl ⟨rfl, ?_⟩
              refine rq_less (l' := [boxE b17 #[.int .i64 ((((rs.getD k row0).ar).getD m arc0).f), .int .i64 ((((rs.getD k row0).ar).getD m arc0).t), .int .i64 ((((rs.getD k row0).ar).getD m arc0).d)] 82, intoE (.slice (some ⟨g3, 0, none⟩) ((List.replicate (n).toNat row0).length) ((List.replicate (n).toNat row0).length)) rs, rowE 3 1 u zs.length (zs.map (Value.int .i64)), boxE b1 #[.int .i64 n, v] 38]) (sub_cons (d := 82) (congrArg some e1.1) (sub_nil _)) (List.sublist_append_right _ _) ?_
              exact rq_v (rv_load rfl (by kernel_rfl) rfl (box_cell 0 rfl rfl))
            ·
              intro vf pf hR
              have e0 : (vf 0) = u ∧ (pf 0) = [] := hR 0 (by decide)
              have e2 : (vf 2) = .int .i64 ((((rs.getD k row0).ar).getD m arc0).f) ∧ (pf 2) = [] := hR 2 (by decide)
              refine Or.inl ⟨rfl, ?_⟩
              refine rq_less (l' := [boxE b17 #[.int .i64 ((((rs.getD k row0).ar).getD m arc0).f), .int .i64 ((((rs.getD k row0).ar).getD m arc0).t), .int .i64 ((((rs.getD k row0).ar).getD m arc0).d)] 82, intoE (.slice (some ⟨g3, 0, none⟩) ((List.replicate (n).toNat row0).length) ((List.replicate (n).toNat row0).length)) rs, rowE 3 1 u zs.length (zs.map (Value.int .i64)), boxE b1 #[.int .i64 n, v] 38]) (sub_cons (d := 81) (congrArg some e0.1) (sub_cons (d := 83) (congrArg some e2.1) (sub_nil _))) (List.sublist_append_right _ _) ?_
              exact rq_v (rv_index (s := 1) rfl Try.underlying43 (by kernel_rfl) rfl rfl (rd_row 2 rfl) (by omega) (by first | omega | (simp only [List.length_set]; omega)))
            ·
              intro vf pf hR
              have e3 : (vf 3) = elP u (((((rs.getD k row0).ar).getD m arc0).f).toNat * 1) ∧ (pf 3) = [] := hR 3 (by decide)
              refine Or.inl ⟨rfl, ?_⟩
              refine rq_less (l' := [boxE b17 #[.int .i64 ((((rs.getD k row0).ar).getD m arc0).f), .int .i64 ((((rs.getD k row0).ar).getD m arc0).t), .int .i64 ((((rs.getD k row0).ar).getD m arc0).d)] 82, intoE (.slice (some ⟨g3, 0, none⟩) ((List.replicate (n).toNat row0).length) ((List.replicate (n).toNat row0).length)) rs, rowE 3 1 u zs.length (zs.map (Value.int .i64)), boxE b1 #[.int .i64 n, v] 38]) (sub_cons (d := 84) (congrArg some e3.1) (sub_nil _)) (List.sublist_append_right _ _) ?_
              exact rq_v (rv_loadEl (u := .int .i64 (zs.getD (((((rs.getD k row0).ar).getD m arc0).f).toNat) 0)) rfl (by kernel_rfl) rfl (rd_row 2 rfl) (ints_at1 (show _ < zs.length by first | omega | (simp only [List.length_set]; omega))))
            ·
              intro vf pf hR
              refine Or.inl ⟨rfl, ?_⟩
              refine rq_less (l' := [boxE b17 #[.int .i64 ((((rs.getD k row0).ar).getD m arc0).f), .int .i64 ((((rs.getD k row0).ar).getD m arc0).t), .int .i64 ((((rs.getD k row0).ar).getD m arc0).d)] 82, intoE (.slice (some ⟨g3, 0, none⟩) ((List.replicate (n).toNat row0).length) ((List.replicate (n).toNat row0).length)) rs, rowE 3 1 u zs.length (zs.map (Value.int .i64)), boxE b1 #[.int .i64 n, v] 38]) (sub_cons (d := 13) rfl (sub_nil _)) (List.sublist_append_right _ _) ?_
              exact rq_v (rv_field (k0 := 2) rfl (by kernel_rfl) rfl)
            ·
              intro vf pf hR
              have e5 : (vf 5) = .pointer (some ⟨b17, 0 + 2, none⟩) ∧ (pf 5) = [] := hR 5 (by decide)
              refine Or.inl ⟨rfl, ?_⟩
              refine rq_less (l' := [boxE b17 #[.int .i64 ((((rs.getD k row0).ar).getD m arc0).f), .int .i64 ((((rs.getD k row0).ar).getD m arc0).t), .int .i64 ((((rs.getD k row0).ar).getD m arc0).d)] 82, intoE (.slice (some ⟨g3, 0, none⟩) ((List.replicate (n).toNat row0).length) ((List.replicate (n).toNat row0).length)) rs, rowE 3 1 u zs.length (zs.map (Value.int .i64)), boxE b1 #[.int .i64 n, v] 38]) (sub_cons (d := 86) (congrArg some e5.1) (sub_nil _)) (List.sublist_append_right _ _) ?_
              exact rq_v (rv_load rfl (by kernel_rfl) rfl (box_cell 0 rfl rfl))
            ·
              intro vf pf hR
              have e4 : (vf 4) = .int .i64 (zs.getD (((((rs.getD k row0).ar).getD m arc0).f).toNat) 0) ∧ (pf 4) = [] := hR 4 (by decide)
              have e6 : (vf 6) = .int .i64 ((((rs.getD k row0).ar).getD m arc0).d) ∧ (pf 6) = [] := hR 6 (by decide)
              refine Or.inl ⟨rfl, ?_⟩
              refine rq_less (l' := [boxE b17 #[.int .i64 ((((rs.getD k row0).ar).getD m arc0).f), .int .i64 ((((rs.getD k row0).ar).getD m arc0).t), .int .i64 ((((rs.getD k row0).ar).getD m arc0).d)] 82, intoE (.slice (some ⟨g3, 0, none⟩) ((List.replicate (n).toNat row0).length) ((List.replicate (n).toNat row0).length)) rs, rowE 3 1 u zs.length (zs.map (Value.int .i64)), boxE b1 #[.int .i64 n, v] 38]) (sub_cons (d := 85) (congrArg some e4.1) (sub_cons (d := 87) (congrArg some e6.1) (sub_nil _))) (List.sublist_append_right _ _) ?_
              exact rq_v (rv_add rfl rfl rfl (by constructor <;> omega))
          ·
            intro vf pf hR
            have e7 : (vf 7) = .int .i64 ((zs.getD (((((rs.getD k row0).ar).getD m arc0).f).toNat) 0) + ((((rs.getD k row0).ar).getD m arc0).d)) ∧ (pf 7) = [] := hR 7 (by decide)
            refine hl_less (l' := [boxE b17 #[.int .i64 ((((rs.getD k row0).ar).getD m arc0).f), .int .i64 ((((rs.getD k row0).ar).getD m arc0).t), .int .i64 ((((rs.getD k row0).ar).getD m arc0).d)] 82, intoE (.slice (some ⟨g3, 0, none⟩) ((List.replicate (n).toNat row0).length) ((List.replicate (n).toNat row0).length)) rs, rowE 3 1 u zs.length (zs.map (Value.int .i64)), boxE b1 #[.int .i64 n, v] 38]) (sub_cons (d := 0) rfl (sub_cons (d := 1) rfl (sub_cons (d := 2) rfl (sub_cons (d := 3) rfl (sub_cons (d := 6) rfl (sub_cons (d := 7) rfl (sub_cons (d := 8) rfl (sub_cons (d := 9) rfl (sub_cons (d := 10) rfl (sub_cons (d := 11) rfl (sub_cons (d := 12) rfl (sub_cons (d := 13) rfl (sub_cons (d := 23) rfl (sub_cons (d := 53) rfl (sub_cons (d := 65) rfl (sub_cons (d := 80) rfl (sub_cons (d := 88) (congrArg some e7.1) (sub_nil _)))))))))))))))))) (List.sublist_append_right _ _) ?_
            simp only [List.drop_succ_cons, List.drop_zero]
            refine hl_v rfl rfl rfl (rv_ev rfl) ?_
            refine hl_less (sub_cons (d := 0) rfl (sub_cons (d := 1) rfl (sub_cons (d := 2) rfl (sub_cons (d := 3) rfl (sub_cons (d := 6) rfl (sub_cons (d := 7) rfl (sub_cons (d := 8) rfl (sub_cons (d := 9) rfl (sub_cons (d := 10) rfl (sub_cons (d := 11) rfl (sub_cons (d := 12) rfl (sub_cons (d := 13) rfl (sub_cons (d := 14) rfl (sub_cons (d := 23) rfl (sub_cons (d := 53) rfl (sub_cons (d := 65) rfl (sub_cons (d := 80) rfl (sub_nil _)))))))))))))))))) (.refl _) ?_
            refine hl_nil ?_
            refine hq_then ?_
            refine hc_seq ?_
            refine hc_region ?_
            refine hl_v rfl rfl rfl (rv_ev rfl) ?_
            refine hl_lss rfl rfl rfl rfl rfl rfl (fun h19 => ?_) (fun h19 => ?_)
            ·
              refine hl_v rfl rfl rfl (rv_ev rfl) ?_
              refine hl_skip rfl rfl rfl ?_
              refine hl_skip rfl rfl rfl ?_
              refine hl_skip rfl rfl rfl ?_
              refine hl_skip rfl rfl rfl ?_
              refine hl_skip rfl rfl rfl ?_
              refine hl_skip rfl rfl rfl ?_
              refine hl_v rfl rfl rfl (rv_ev rfl) ?_
              refine hl_v rfl rfl rfl (rv_ev rfl) ?_
              refine hl_skip rfl rfl rfl ?_
              refine hl_skip rfl rfl rfl ?_
              refine hl_skip rfl rfl rfl ?_
              refine hl_skip rfl rfl rfl ?_
              refine hl_skip rfl rfl rfl ?_
              refine hl_skip rfl rfl rfl ?_
              refine hl_skip rfl rfl rfl ?_
              refine hl_v rfl rfl rfl (rv_ev rfl) ?_
              refine hl_less (sub_cons (d := 0) rfl (sub_cons (d := 1) rfl (sub_cons (d := 2) rfl (sub_cons (d := 3) rfl (sub_cons (d := 6) rfl (sub_cons (d := 7) rfl (sub_cons (d := 8) rfl (sub_cons (d := 9) rfl (sub_cons (d := 10) rfl (sub_cons (d := 11) rfl (sub_cons (d := 12) rfl (sub_cons (d := 13) rfl (sub_cons (d := 14) rfl (sub_cons (d := 23) rfl (sub_cons (d := 53) rfl (sub_cons (d := 65) rfl (sub_cons (d := 80) rfl (sub_cons (d := 107) rfl (sub_nil _))))))))))))))))))) (.refl _) ?_
              refine hl_nil ?_
              refine hq_then ?_
              refine hc_true rfl ?_
              refine hc_region ?_
              refine hl_v rfl rfl rfl (rv_ev rfl) ?_
              refine hl_v rfl rfl rfl (rv_ev rfl) ?_
              refine hl_less (sub_cons (d := 0) rfl (sub_cons (d := 1) rfl (sub_cons (d := 2) rfl (sub_cons (d := 3) rfl (sub_cons (d := 6) rfl (sub_cons (d := 7) rfl (sub_cons (d := 8) rfl (sub_cons (d := 9) rfl (sub_cons (d := 10) rfl (sub_cons (d := 11) rfl (sub_cons (d := 12) rfl (sub_cons (d := 13) rfl (sub_cons (d := 14) rfl (sub_cons (d := 23) rfl (sub_cons (d := 53) rfl (sub_cons (d := 65) rfl (sub_cons (d := 80) rfl (sub_cons (d := 107) rfl (sub_nil _))))))))))))))))))) (.refl _) ?_
              refine hl_nil ?_
              refine hq_block_normal ?_
              refine hq_then ?_
              refine hc_region ?_
              refine hl_v rfl rfl rfl (rv_ev rfl) ?_
              refine hl_v rfl rfl rfl (rv_add rfl rfl rfl (by constructor <;> omega)) ?_
              refine hl_v rfl rfl rfl (rv_ev rfl) ?_
              refine hl_less (sub_cons (d := 0) rfl (sub_cons (d := 1) rfl (sub_cons (d := 2) rfl (sub_cons (d := 3) rfl (sub_cons (d := 6) rfl (sub_cons (d := 7) rfl (sub_cons (d := 8) rfl (sub_cons (d := 9) rfl (sub_cons (d := 10) rfl (sub_cons (d := 11) rfl (sub_cons (d := 12) rfl (sub_cons (d := 13) rfl (sub_cons (d := 14) rfl (sub_cons (d := 23) rfl (sub_cons (d := 53) rfl (sub_cons (d := 65) rfl (sub_cons (d := 80) rfl (sub_cons (d := 107) rfl (sub_nil _))))))))))))))))))) (.refl _) ?_
              refine hl_nil ?_
              exact hq_round2 (m + 1) (Dl true gs s (((rs.getD k row0).ar.getD m arc0).f).toNat + ((rs.getD k row0).ar.getD m arc0).d) ⟨by omega, by rw [take_snoc arc0 (by omega), List.foldl_append, ← hb]; show _ = stepD true (delL true gs s k) b ((rs.getD k row0).ar.getD m arc0); rw [st_set (by rw [hlow2]; omega) (by rw [hlow2]; first | exact .inl (by omega) | exact .inr (.inl ⟨rfl, by omega⟩)), hlow2], by omega, by omega⟩ (by omega) (sub_cons (d := 0) rfl (sub_cons (d := 1) rfl (sub_cons (d := 2) rfl (sub_cons (d := 3) rfl (sub_cons (d := 6) rfl (sub_cons (d := 7) rfl (sub_cons (d := 8) rfl (sub_cons (d := 9) rfl (sub_cons (d := 10) rfl (sub_cons (d := 11) (by rw [hlow]; rfl) (sub_cons (d := 12) rfl (sub_cons (d := 23) rfl (sub_cons (d := 53) rfl (sub_nil _)))))))))))))) ((.cons _ (.cons_cons _ (.cons_cons _ (.cons_cons _ .slnil)))))
            ·
              refine hl_v rfl rfl rfl (rv_ev rfl) ?_
              refine hl_v rfl rfl rfl (rv_ev rfl) ?_
              refine hl_v rfl rfl rfl (rv_ev rfl) ?_
              refine hl_skip rfl rfl rfl ?_
              refine hl_skip rfl rfl rfl ?_
              refine hl_skip rfl rfl rfl ?_
              refine hl_v rfl rfl rfl (rv_ev rfl) ?_
              refine hl_v rfl rfl rfl (rv_ev rfl) ?_
              refine hl_v rfl rfl rfl (rv_ev rfl) ?_
              refine hl_v rfl rfl rfl (rv_ev rfl) ?_
              refine hl_v rfl rfl rfl (rv_ev rfl) ?_
              refine hl_v rfl rfl rfl (rv_ev rfl) ?_
              refine hl_v rfl rfl rfl (rv_ev rfl) ?_
              refine hl_v rfl rfl rfl (rv_ev rfl) ?_
              refine hl_gtr rfl rfl rfl rfl rfl rfl (fun h20 => ?_) (fun h20 => ?_)
              ·
                refine hl_v rfl rfl rfl (rv_ev rfl) ?_
                refine hl_v rfl rfl rfl (rv_ev rfl) ?_
                refine hl_less (sub_cons (d := 0) rfl (sub_cons (d := 1) rfl (sub_cons (d := 2) rfl (sub_cons (d := 3) rfl (sub_cons (d := 6) rfl (sub_cons (d := 7) rfl (sub_cons (d := 8) rfl (sub_cons (d := 9) rfl (sub_cons (d := 10) rfl (sub_cons (d := 11) rfl (sub_cons (d := 12) rfl (sub_cons (d := 13) rfl (sub_cons (d := 14) rfl (sub_cons (d := 23) rfl (sub_cons (d := 53) rfl (sub_cons (d := 65) rfl (sub_cons (d := 80) rfl (sub_cons (d := 107) rfl (sub_nil _))))))))))))))))))) (.refl _) ?_
                refine hl_nil ?_
                refine hq_then ?_
                refine hc_true rfl ?_
                refine hc_region ?_
                refine hl_v rfl rfl rfl (rv_ev rfl) ?_
                refine hl_v rfl rfl rfl (rv_ev rfl) ?_
                refine hl_less (sub_cons (d := 0) rfl (sub_cons (d := 1) rfl (sub_cons (d := 2) rfl (sub_cons (d := 3) rfl (sub_cons (d := 6) rfl (sub_cons (d := 7) rfl (sub_cons (d := 8) rfl (sub_cons (d := 9) rfl (sub_cons (d := 10) rfl (sub_cons (d := 11) rfl (sub_cons (d := 12) rfl (sub_cons (d := 13) rfl (sub_cons (d := 14) rfl (sub_cons (d := 23) rfl (sub_cons (d := 53) rfl (sub_cons (d := 65) rfl (sub_cons (d := 80) rfl (sub_cons (d := 107) rfl (sub_nil _))))))))))))))))))) (.refl _) ?_
                refine hl_nil ?_
                refine hq_block_normal ?_
                refine hq_then ?_
                refine hc_region ?_
                refine hl_v rfl rfl rfl (rv_ev rfl) ?_
                refine hl_v rfl rfl rfl (rv_add rfl rfl rfl (by constructor <;> omega)) ?_
                refine hl_v rfl rfl rfl (rv_ev rfl) ?_
                refine hl_less (sub_cons (d := 0) rfl (sub_cons (d := 1) rfl (sub_cons (d := 2) rfl (sub_cons (d := 3) rfl (sub_cons (d := 6) rfl (sub_cons (d := 7) rfl (sub_cons (d := 8) rfl (sub_cons (d := 9) rfl (sub_cons (d := 10) rfl (sub_cons (d := 11) rfl (sub_cons (d := 12) rfl (sub_cons (d := 13) rfl (sub_cons (d := 14) rfl (sub_cons (d := 23) rfl (sub_cons (d := 53) rfl (sub_cons (d := 65) rfl (sub_cons (d := 80) rfl (sub_cons (d := 107) rfl (sub_nil _))))))))))))))))))) (.refl _) ?_
                refine hl_nil ?_
                exact hq_round2 (m + 1) (Dl true gs s (((rs.getD k row0).ar.getD m arc0).f).toNat + ((rs.getD k row0).ar.getD m arc0).d) ⟨by omega, by rw [take_snoc arc0 (by omega), List.foldl_append, ← hb]; show _ = stepD true (delL true gs s k) b ((rs.getD k row0).ar.getD m arc0); rw [st_set (by rw [hlow2]; omega) (by rw [hlow2]; first | exact .inl (by omega) | exact .inr (.inl ⟨rfl, by omega⟩)), hlow2], by omega, by omega⟩ (by omega) (sub_cons (d := 0) rfl (sub_cons (d := 1) rfl (sub_cons (d := 2) rfl (sub_cons (d := 3) rfl (sub_cons (d := 6) rfl (sub_cons (d := 7) rfl (sub_cons (d := 8) rfl (sub_cons (d := 9) rfl (sub_cons (d := 10) rfl (sub_cons (d := 11) (by rw [hlow]; rfl) (sub_cons (d := 12) rfl (sub_cons (d := 23) rfl (sub_cons (d := 53) rfl (sub_nil _)))))))))))))) ((.cons _ (.cons_cons _ (.cons_cons _ (.cons_cons _ .slnil)))))
              ·
                refine hl_v rfl rfl rfl (rv_ev rfl) ?_
                refine hl_v rfl rfl rfl (rv_ev rfl) ?_
                refine hl_less (sub_cons (d := 0) rfl (sub_cons (d := 1) rfl (sub_cons (d := 2) rfl (sub_cons (d := 3) rfl (sub_cons (d := 6) rfl (sub_cons (d := 7) rfl (sub_cons (d := 8) rfl (sub_cons (d := 9) rfl (sub_cons (d := 10) rfl (sub_cons (d := 11) rfl (sub_cons (d := 12) rfl (sub_cons (d := 13) rfl (sub_cons (d := 14) rfl (sub_cons (d := 23) rfl (sub_cons (d := 53) rfl (sub_cons (d := 65) rfl (sub_cons (d := 80) rfl (sub_cons (d := 107) rfl (sub_nil _))))))))))))))))))) (.refl _) ?_
                refine hl_nil ?_
                refine hq_then ?_
                refine hc_false rfl ?_
                refine hc_skip ?_
                refine hq_block_normal ?_
                refine hq_then ?_
                refine hc_region ?_
                refine hl_v rfl rfl rfl (rv_ev rfl) ?_
                refine hl_v rfl rfl rfl (rv_add rfl rfl rfl (by constructor <;> omega)) ?_
                refine hl_v rfl rfl rfl (rv_ev rfl) ?_
                refine hl_less (sub_cons (d := 0) rfl (sub_cons (d := 1) rfl (sub_cons (d := 2) rfl (sub_cons (d := 3) rfl (sub_cons (d := 6) rfl (sub_cons (d := 7) rfl (sub_cons (d := 8) rfl (sub_cons (d := 9) rfl (sub_cons (d := 10) rfl (sub_cons (d := 11) rfl (sub_cons (d := 12) rfl (sub_cons (d := 13) rfl (sub_cons (d := 14) rfl (sub_cons (d := 23) rfl (sub_cons (d := 53) rfl (sub_cons (d := 65) rfl (sub_cons (d := 80) rfl (sub_cons (d := 107) rfl (sub_nil _))))))))))))))))))) (.refl _) ?_
                refine hl_nil ?_
                exact hq_round2 (m + 1) b ⟨by omega, by rw [take_snoc arc0 (by omega), List.foldl_append, ← hb]; show _ = stepD true (delL true gs s k) b ((rs.getD k row0).ar.getD m arc0); first | rw [st_skip (by rw [hlow2]; omega)] | rw [st_noT (by rw [hlow2]; omega) (by omega) (by rw [hlow2]; omega)], by omega, by omega⟩ (by omega) (sub_cons (d := 0) rfl (sub_cons (d := 1) rfl (sub_cons (d := 2) rfl (sub_cons (d := 3) rfl (sub_cons (d := 6) rfl (sub_cons (d := 7) rfl (sub_cons (d := 8) rfl (sub_cons (d := 9) rfl (sub_cons (d := 10) rfl (sub_cons (d := 11) rfl (sub_cons (d := 12) rfl (sub_cons (d := 23) rfl (sub_cons (d := 53) rfl (sub_nil _)))))))))))))) ((.cons _ (.cons_cons _ (.cons_cons _ (.cons_cons _ .slnil)))))
      ·
        refine hl_less (sub_cons (d := 0) rfl (sub_cons (d := 1) rfl (sub_cons (d := 2) rfl (sub_cons (d := 3) rfl (sub_cons (d := 6) rfl (sub_cons (d := 7) rfl (sub_cons (d := 8) rfl (sub_cons (d := 9) rfl (sub_cons (d := 10) rfl (sub_cons (d := 11) rfl (sub_cons (d := 12) rfl (sub_cons (d := 23) rfl (sub_cons (d := 53) rfl (sub_cons (d := 65) rfl (sub_nil _))))))))))))))) (.refl _) ?_
        refine hl_nil ?_
        refine hq_then ?_
        refine hc_false rfl ?_
        refine hc_exit ?_
        refine hq_then_exit ?_
        refine hq_then_exit ?_
        refine hq_block_exit ?_
        refine hq_then ?_
        refine hc_region ?_
        refine hl_v rfl rfl rfl (rv_ev rfl) ?_
        refine hl_v rfl rfl rfl (rv_ev rfl) ?_
        refine hl_row rfl rfl rfl (rq_buildSlice (z := .int .i64 0) (s := 1) (cs := ([b].map (Value.int .i64))) rfl Try.underlying43 (by kernel_rfl) (by decide) rfl (by kernel_rfl) rfl) ?_
        intro g21
        refine hl_append (i := 2) (z := .int .i64 0) (bytes := 8) (n' := (zs ++ ([b])).length) (xs' := ((zs ++ ([b])).map (Value.int .i64))) (L := fun v22 => [rowE 3 1 (.slice (some ⟨g21, 0, none⟩) 1 1) 1 ([b].map (Value.int .i64)), intoE (.slice (some ⟨g3, 0, none⟩) ((List.replicate (n).toNat row0).length) ((List.replicate (n).toNat row0).length)) rs, rowE 3 1 v22 ((zs ++ ([b])).length) ((zs ++ ([b])).map (Value.int .i64)), boxE b1 #[.int .i64 n, v] 38]) rfl rfl rfl rfl Try.underlying43 (by kernel_rfl) (by kernel_rfl) rfl rfl rfl (rd_row 0 rfl) (ints_one _) (by simp; omega) (len_app zs ([b])) (ints_app zs ([b])) (fun _ => rfl) ?_
        intro v22
        refine hl_v rfl rfl rfl (rv_ev rfl) ?_
        refine hl_less (sub_cons (d := 0) rfl (sub_cons (d := 1) rfl (sub_cons (d := 2) rfl (sub_cons (d := 3) rfl (sub_cons (d := 6) rfl (sub_cons (d := 7) rfl (sub_cons (d := 8) rfl (sub_cons (d := 9) rfl (sub_cons (d := 10) rfl (sub_cons (d := 11) rfl (sub_cons (d := 12) rfl (sub_cons (d := 23) rfl (sub_cons (d := 53) rfl (sub_cons (d := 65) rfl (sub_nil _))))))))))))))) (.refl _) ?_
        refine hl_nil ?_
        refine hq_block_normal ?_
        refine hq_then ?_
        refine hc_region ?_
        refine hl_v rfl rfl rfl (rv_ev rfl) ?_
        refine hl_v rfl rfl rfl (rv_add rfl rfl rfl (by constructor <;> omega)) ?_
        refine hl_v rfl rfl rfl (rv_ev rfl) ?_
        refine hl_less (sub_cons (d := 0) rfl (sub_cons (d := 1) rfl (sub_cons (d := 2) rfl (sub_cons (d := 3) rfl (sub_cons (d := 6) rfl (sub_cons (d := 7) rfl (sub_cons (d := 8) rfl (sub_cons (d := 9) rfl (sub_cons (d := 10) rfl (sub_cons (d := 11) rfl (sub_cons (d := 12) rfl (sub_cons (d := 23) rfl (sub_cons (d := 53) rfl (sub_cons (d := 65) rfl (sub_nil _))))))))))))))) (.refl _) ?_
        refine hl_nil ?_
        exact hq_round3 (k + 1) v22 (zs ++ ([b])) ⟨by omega, by rw [hz, delL, ← show b = nodeD true (delL true gs s k) s k (intoL gs k) from del_node hg true s k hb0 (by rw [hb, show m = (rs.getD k row0).ar.length by omega, List.take_length, hri.2 k (by omega)])]⟩ (by omega) (sub_cons (d := 0) rfl (sub_cons (d := 1) rfl (sub_cons (d := 2) rfl (sub_cons (d := 3) rfl (sub_cons (d := 6) rfl (sub_cons (d := 7) rfl (sub_cons (d := 8) rfl (sub_cons (d := 9) rfl (sub_cons (d := 10) rfl (sub_cons (d := 23) rfl (sub_nil _))))))))))) ((.cons _ (.cons_cons _ (.cons_cons _ (.cons_cons _ .slnil)))))
    ·
      refine hl_less (sub_cons (d := 0) rfl (sub_cons (d := 1) rfl (sub_cons (d := 2) rfl (sub_cons (d := 3) rfl (sub_cons (d := 6) rfl (sub_cons (d := 7) rfl (sub_cons (d := 8) rfl (sub_cons (d := 9) rfl (sub_cons (d := 10) rfl (sub_cons (d := 23) rfl (sub_cons (d := 53) rfl (sub_nil _)))))))))))) (.refl _) ?_
      refine hl_nil ?_
      refine hq_then ?_
      refine hc_false rfl ?_
      refine hc_exit ?_
      refine hq_then_exit ?_
      refine hq_then_exit ?_
      refine hq_block_exit ?_
      refine hq_then ?_
      refine hc_seq ?_
      refine hc_region ?_
      refine hl_v rfl rfl rfl (rv_ev rfl) ?_
      refine hl_v rfl rfl rfl (rv_ev rfl) ?_
      refine hl_less (sub_cons (d := 0) rfl (sub_cons (d := 1) rfl (sub_cons (d := 2) rfl (sub_cons (d := 3) rfl (sub_cons (d := 6) rfl (sub_cons (d := 7) rfl (sub_cons (d := 8) rfl (sub_cons (d := 9) rfl (sub_cons (d := 10) rfl (sub_cons (d := 23) rfl (sub_cons (d := 53) rfl (sub_nil _)))))))))))) (.refl _) ?_
      refine hl_nil ?_
      refine hq_then ?_
      refine hc_ret ?_
      have hke : k = n.toNat := by omega
      exact hq_retR (post := [rowE 3 1 u zs.length (zs.map (Value.int .i64))]) rfl rfl ((.cons _ (.cons_cons _ (.cons _ .slnil)))) (by rw [hz, hke])
set_option maxHeartbeats 4000000 in
set_option maxRecDepth 100000 in
theorem specLongest_ret (n : Int) (gs : List Arc) (v : Value) (s : Int) (w : World) (hg : GOk n gs) (hv : RdsW w v 3 gs.length (gs.flatMap arcC)) (hs : 0 ≤ s ∧ s < n) :
    Calls Try.prog 19 #[.agg #[.int .i64 n, v], .int .i64 s] w (Ret w (fun v' post => post = [rowE 3 1 v' (delL true gs s n.toNat).length ((delL true gs s n.toNat).map (Value.int .i64))])) := by
  obtain ⟨hn0, hn1, hgl, -⟩ := id hg
  refine calls_hc (N := 13) (args := [.agg #[.int .i64 n, v], .int .i64 s]) Try.func19 rfl rfl ?_
  refine hc_less _ (sub_cons (d := 0) rfl (sub_cons (d := 1) rfl (sub_nil _))) (.refl _) ?_
  refine hc_seq ?_
  refine hc_region ?_
  refine hl_box rfl rfl rfl (rq_box rfl rfl) ?_
  intro b1
  refine hl_v rfl rfl rfl (rv_ev rfl) ?_
  refine hl_less (sub_cons (d := 0) rfl (sub_cons (d := 1) rfl (sub_cons (d := 2) rfl (sub_cons (d := 4) rfl (sub_nil _))))) (.refl _) ?_
  refine hl_nil ?_
  refine hq_then ?_
  refine hc_seq ?_
  refine hc_seq ?_
  refine hc_region ?_
  refine hl_v rfl rfl rfl (rv_loadN (cs := [.int .i64 n, v]) rfl (by kernel_rfl) (by kernel_rfl) rfl rfl (box_part 0 rfl 0 rfl)) ?_
  refine hl_v rfl rfl rfl (rv_ev rfl) ?_
  refine hl_callV rfl rfl rfl (rq_call (by kernel_rfl) rfl (fun w hm => ret_ans (l36Node_yes n gs v s w hg (hv.below hm.bel) hs))) ?_
  refine hl_v rfl rfl rfl (rv_ev rfl) ?_
  refine hl_less (sub_cons (d := 0) rfl (sub_cons (d := 1) rfl (sub_cons (d := 2) rfl (sub_cons (d := 4) rfl (sub_cons (d := 8) rfl (sub_nil _)))))) (.refl _) ?_
  refine hl_nil ?_
  refine hq_then ?_
  refine hc_false rfl ?_
  refine hc_skip ?_
  refine hq_then ?_
  refine hc_seq ?_
  refine hc_region ?_
  refine hl_v rfl rfl rfl (rv_loadN (cs := [.int .i64 n, v]) rfl (by kernel_rfl) (by kernel_rfl) rfl rfl (box_part 0 rfl 0 rfl)) ?_
  refine hl_v rfl rfl rfl (rv_ev rfl) ?_
  refine hl_q rfl rfl rfl (rq_call (by kernel_rfl) rfl (fun w hm => l36Delays_ret n gs v s w hg (hv.below hm.bel) hs)) ?_
  intro v2 p3 hR4
  subst hR4
  refine hl_v rfl rfl rfl (rv_ev rfl) ?_
  refine hl_less (sub_cons (d := 0) rfl (sub_cons (d := 1) rfl (sub_cons (d := 2) rfl (sub_cons (d := 4) rfl (sub_cons (d := 8) rfl (sub_nil _)))))) (.refl _) ?_
  refine hl_nil ?_
  refine hq_then ?_
  refine hc_ret ?_
  exact hq_retR (post := [rowE 3 1 v2 ((delL true gs s n.toNat).length) ((delL true gs s n.toNat).map (Value.int .i64))]) rfl rfl ((.cons_cons _ (.cons _ .slnil))) rfl
end Go.Proofs.Yteccnnpcigkmhaa
