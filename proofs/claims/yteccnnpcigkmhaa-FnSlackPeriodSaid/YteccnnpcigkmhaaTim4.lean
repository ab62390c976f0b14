/- Slacks: the walk. -/
import Derived.Test.YteccnnpcigkmhaaTim3
set_option linter.unusedVariables false
set_option linter.unusedSimpArgs false
namespace Go.Proofs.Yteccnnpcigkmhaa
open Go.RowKit
theorem held_set {gs : List Arc} {ls cs : List Pnt} {es : List Exc} {lg : Bool} {F : Pnt → Pnt → Int → Int → Int} {j i : Nat} {o o' : Int} {s s' : Bool} {v v' : Int} (ho : o' = v') (hs : s' = true)
    (hb : best gs ls cs es lg F j (i + 1) = match best gs ls cs es lg F j i with | none => some v | some y => if v < y then some v else some y) (hh : Held o s (best gs ls cs es lg F j i)) (hv : v' = v) (hc : s = false ∨ v' < o) : Held o' s' (best gs ls cs es lg F j (i + 1)) := by
  obtain ⟨h1, h2⟩ := hh
  rw [hb]
  cases hx : best gs ls cs es lg F j i with
  | none => exact ⟨hs, by rw [ho, hv]; rfl⟩
  | some y =>
    rw [hx] at h1 h2
    have : v < y := by
      rcases hc with hc | hc
      · rw [hc] at h1; cases h1
      · simp only [Option.getD_some] at h2; omega
    simp only [this, if_true]
    exact ⟨hs, by rw [ho, hv]; rfl⟩
theorem held_keep {gs : List Arc} {ls cs : List Pnt} {es : List Exc} {lg : Bool} {F : Pnt → Pnt → Int → Int → Int} {j i : Nat} {o o' : Int} {s s' : Bool} {v v' : Int} (hh : Held o s (best gs ls cs es lg F j i)) (hs : s' = true) (ho : o' = o) (hv : v' = v)
    (hb : best gs ls cs es lg F j (i + 1) = match best gs ls cs es lg F j i with | none => some v | some y => if v < y then some v else some y) (hc : s = true) (hc2 : ¬ v' < o) : Held o' s' (best gs ls cs es lg F j (i + 1)) := by
  obtain ⟨h1, h2⟩ := hh
  rw [hb]
  cases hx : best gs ls cs es lg F j i with
  | none => rw [hx, hc] at h1; cases h1
  | some y =>
    rw [hx] at h1 h2
    simp only [Option.getD_some] at h2
    have : ¬ v < y := by omega
    simp only [this, if_false]
    exact ⟨hs, by rw [ho, h2]; rfl⟩
set_option maxHeartbeats 4000000 in
set_option maxRecDepth 100000 in
theorem slacks_ret (n : Int) (gs : List Arc) (v : Value) (pl pc : List Pnt) (pe : List Exc) (lv cv ev_ : Value) (lg : Bool) (f : FuncId) (cs : List Value) (F : Pnt → Pnt → Int → Int → Int) (w : World) (hg : GOk n gs) (hv : RdsW w v 3 gs.length (gs.flatMap arcC)) (hpl : PtsOk n pl) (hll : pl.length ≤ 100) (hlv : RdsW w lv 2 pl.length (pl.flatMap pntC)) (hpc : PtsOk n pc) (hcl : pc.length ≤ 100) (hcv : RdsW w cv 2 pc.length (pc.flatMap pntC)) (hpe : ExsOk pe) (hel : pe.length ≤ 50) (hev : RdsW w ev_ 3 pe.length (pe.flatMap excC)) (hgo : goesB Try.prog f = true) (hF : ∀ w', Below w.heap.size w w' → ∀ (L C : Pnt) (x y : Int), (0 ≤ L.s ∧ L.s ≤ 50) → (0 ≤ C.s ∧ C.s ≤ 50) → (0 ≤ x ∧ x ≤ 50000) → (1 ≤ y ∧ y ≤ 8) → Calls Try.prog f (([.agg #[.int .i64 L.n, .int .i64 L.s], .agg #[.int .i64 C.n, .int .i64 C.s], .int .i64 x, .int .i64 y] : List Value) ++ cs).toArray w' (Ans w' (.int .i64 (F L C x y)))) :
    Calls Try.prog 38 #[.agg #[.int .i64 n, v], lv, cv, ev_, .bool lg, .func (.func f) #[] cs.toArray] w (Ret w (fun v' post => ∃ ys : List Int, post = [rowE 3 1 v' ys.length (ys.map (Value.int .i64))] ∧ ys.length = pc.length ∧ ∀ r, r < pc.length → ∃ s, Held (ys.getD r 0) s (best gs pl pc pe lg F r pl.length))) := by
  obtain ⟨hn0, hn1, hgl, -⟩ := id hg
  have hrep : (List.replicate pc.length (0 : Int)).length = pc.length := List.length_replicate
  have hrepb : (List.replicate pc.length bl0).length = pc.length := List.length_replicate
  refine calls_hc (N := 107) (args := [.agg #[.int .i64 n, v], lv, cv, ev_, .bool lg, .func (.func f) #[] cs.toArray]) Try.func38 rfl rfl ?_
  refine hc_less _ (sub_cons (d := 0) rfl (sub_cons (d := 1) rfl (sub_cons (d := 2) rfl (sub_cons (d := 3) rfl (sub_cons (d := 4) rfl (sub_cons (d := 5) rfl (sub_nil _))))))) (.refl _) ?_
  refine hc_seq ?_
  refine hc_region ?_
  refine hl_box rfl rfl rfl (rq_box rfl rfl) ?_
  intro b1
  refine hl_v rfl rfl rfl (rv_ev rfl) ?_
  refine hl_less (sub_cons (d := 0) rfl (sub_cons (d := 1) rfl (sub_cons (d := 2) rfl (sub_cons (d := 3) rfl (sub_cons (d := 4) rfl (sub_cons (d := 5) rfl (sub_cons (d := 6) rfl (sub_cons (d := 12) rfl (sub_nil _))))))))) (.refl _) ?_
  refine hl_nil ?_
  refine hq_then ?_
  refine hc_seq ?_
  refine hc_region ?_
  refine hl_v rfl rfl rfl (rv_loadN (cs := [.int .i64 n, v]) rfl (by kernel_rfl) (by kernel_rfl) rfl rfl (box_part 0 rfl 0 rfl)) ?_
  refine hl_q rfl rfl rfl (rq_call (by kernel_rfl) rfl (fun w hm => arcsInto_ret n gs v w hg (hv.below hm.bel))) ?_
  intro v2 p3 hR4
  obtain ⟨rs, rfl, hri⟩ := hR4
  have hrl := hri.1
  refine hl_v rfl rfl rfl (rv_ev rfl) ?_
  refine hl_less (sub_cons (d := 0) rfl (sub_cons (d := 1) rfl (sub_cons (d := 2) rfl (sub_cons (d := 3) rfl (sub_cons (d := 4) rfl (sub_cons (d := 5) rfl (sub_cons (d := 6) rfl (sub_cons (d := 12) rfl (sub_cons (d := 13) rfl (sub_nil _)))))))))) (.refl _) ?_
  refine hl_nil ?_
  refine hq_then ?_
  refine hc_seq ?_
  refine hc_region ?_
  refine hl_v rfl rfl rfl (rv_ev rfl) ?_
  refine hl_v rfl rfl rfl (rv_len rfl Try.underlying39 rfl (rd_old hcv)) ?_
  refine hl_row rfl rfl rfl (rq_make (z := .int .i64 0) (s := 1) (bytes := 8) (n := (List.replicate pc.length (0 : Int)).length) (cs := ((List.replicate pc.length (0 : Int)).map (Value.int .i64))) rfl Try.underlying43 (by kernel_rfl) (by decide) rfl rfl (by first | (rw [List.length_replicate]; done) | (rw [List.length_replicate]; omega)) (by first | (rw [List.length_replicate]; done) | (rw [List.length_replicate]; omega)) (by rw [List.length_replicate]; omega) (ints_make _)) ?_
  intro g5
  refine hl_v rfl rfl rfl (rv_ev rfl) ?_
  refine hl_less (sub_cons (d := 0) rfl (sub_cons (d := 1) rfl (sub_cons (d := 2) rfl (sub_cons (d := 3) rfl (sub_cons (d := 4) rfl (sub_cons (d := 5) rfl (sub_cons (d := 6) rfl (sub_cons (d := 12) rfl (sub_cons (d := 13) rfl (sub_cons (d := 14) rfl (sub_nil _))))))))))) (.refl _) ?_
  refine hl_nil ?_
  refine hq_then ?_
  refine hc_seq ?_
  refine hc_seq ?_
  refine hc_region ?_
  refine hl_v rfl rfl rfl (rv_ev rfl) ?_
  refine hl_v rfl rfl rfl (rv_len rfl Try.underlying43 rfl (rd_row 0 rfl)) ?_
  refine hl_v rfl rfl rfl (rv_ev rfl) ?_
  refine hl_less (sub_cons (d := 0) rfl (sub_cons (d := 1) rfl (sub_cons (d := 2) rfl (sub_cons (d := 3) rfl (sub_cons (d := 4) rfl (sub_cons (d := 5) rfl (sub_cons (d := 6) rfl (sub_cons (d := 12) rfl (sub_cons (d := 13) rfl (sub_cons (d := 14) rfl (sub_cons (d := 30) rfl (sub_cons (d := 31) rfl (sub_nil _))))))))))))) (.refl _) ?_
  refine hl_nil ?_
  refine hq_then ?_
  refine hc_block ?_
  refine hc_loop2 (α := Nat) (β := List Int) (fun q zs => [rowE 3 1 (.slice (some ⟨g5, 0, none⟩) ((List.replicate pc.length (0 : Int)).length) ((List.replicate pc.length (0 : Int)).length)) zs.length (zs.map (Value.int .i64)), intoE v2 rs, boxE b1 #[.int .i64 n, v] 38]) (fun q zs => [(0, .agg #[.int .i64 n, v]), (1, lv), (2, cv), (3, ev_), (4, .bool lg), (5, .func (.func f) #[] cs.toArray), (6, .pointer (some ⟨b1, 0, none⟩)), (12, .slice none 0 0), (13, v2), (14, .slice (some ⟨g5, 0, none⟩) ((List.replicate pc.length (0 : Int)).length) ((List.replicate pc.length (0 : Int)).length)), (30, .int .i64 ((List.replicate pc.length (0 : Int)).length : Int)), (31, .int .i64 (q : Int))]) (fun q zs => q ≤ pc.length ∧ zs.length = pc.length ∧ ∀ r, r < q → zs.getD r 0 = 1000000) (fun q zs => pc.length - q) 0 _ ⟨by omega, List.length_replicate, fun r hr => absurd hr (by omega)⟩ (sub_cons (d := 0) rfl (sub_cons (d := 1) rfl (sub_cons (d := 2) rfl (sub_cons (d := 3) rfl (sub_cons (d := 4) rfl (sub_cons (d := 5) rfl (sub_cons (d := 6) rfl (sub_cons (d := 12) rfl (sub_cons (d := 13) rfl (sub_cons (d := 14) rfl (sub_cons (d := 30) rfl (sub_cons (d := 31) rfl (sub_nil _))))))))))))) ((.cons_cons _ (.cons_cons _ (.cons_cons _ .slnil)))) ?_
  intro q zs hi6
  obtain ⟨hq, hzl, hz⟩ := hi6
  refine hc_seq ?_
  refine hc_region ?_
  refine hl_lss rfl rfl rfl rfl rfl rfl (fun h7 => ?_) (fun h7 => ?_)
  ·
    refine hl_less (sub_cons (d := 0) rfl (sub_cons (d := 1) rfl (sub_cons (d := 2) rfl (sub_cons (d := 3) rfl (sub_cons (d := 4) rfl (sub_cons (d := 5) rfl (sub_cons (d := 6) rfl (sub_cons (d := 12) rfl (sub_cons (d := 13) rfl (sub_cons (d := 14) rfl (sub_cons (d := 30) rfl (sub_cons (d := 31) rfl (sub_cons (d := 32) rfl (sub_nil _)))))))))))))) (.refl _) ?_
    refine hl_nil ?_
    refine hq_then ?_
    refine hc_seq ?_
    refine hc_true rfl ?_
    refine hc_skip ?_
    refine hq_then ?_
    refine hc_seq ?_
    refine hc_block ?_
    refine hc_seq ?_
    refine hc_region ?_
    refine hl_v rfl rfl rfl (rv_ev rfl) ?_
    refine hl_v rfl rfl rfl (rv_ev rfl) ?_
    refine hl_less (sub_cons (d := 0) rfl (sub_cons (d := 1) rfl (sub_cons (d := 2) rfl (sub_cons (d := 3) rfl (sub_cons (d := 4) rfl (sub_cons (d := 5) rfl (sub_cons (d := 6) rfl (sub_cons (d := 12) rfl (sub_cons (d := 13) rfl (sub_cons (d := 14) rfl (sub_cons (d := 15) rfl (sub_cons (d := 30) rfl (sub_cons (d := 31) rfl (sub_cons (d := 32) rfl (sub_nil _))))))))))))))) (.refl _) ?_
    refine hl_nil ?_
    refine hq_then ?_
    refine hc_region ?_
    refine hl_v rfl rfl rfl (rv_ev rfl) ?_
    refine hl_v rfl rfl rfl (rv_ev rfl) ?_
    refine hl_v rfl rfl rfl (rv_index (s := 1) rfl Try.underlying43 (by kernel_rfl) rfl rfl (rd_row 0 rfl) (by omega) (by first | omega | (simp only [List.length_set]; omega))) ?_
    refine hl_storeEl (i := 0) (n' := (zs.set q 1000000).length) (xs' := ((zs.set q 1000000).map (Value.int .i64))) (l' := [rowE 3 1 (.slice (some ⟨g5, 0, none⟩) ((List.replicate pc.length (0 : Int)).length) ((List.replicate pc.length (0 : Int)).length)) ((zs.set q 1000000).length) ((zs.set q 1000000).map (Value.int .i64)), intoE v2 rs, boxE b1 #[.int .i64 n, v] 38]) rfl rfl rfl (by kernel_rfl) rfl rfl rfl rfl (by first | omega | (simp only [List.length_set]; omega)) List.length_set.symm (ints_set _ _ _) rfl ?_
    refine hl_less (sub_cons (d := 0) rfl (sub_cons (d := 1) rfl (sub_cons (d := 2) rfl (sub_cons (d := 3) rfl (sub_cons (d := 4) rfl (sub_cons (d := 5) rfl (sub_cons (d := 6) rfl (sub_cons (d := 12) rfl (sub_cons (d := 13) rfl (sub_cons (d := 14) rfl (sub_cons (d := 15) rfl (sub_cons (d := 30) rfl (sub_cons (d := 31) rfl (sub_cons (d := 32) rfl (sub_nil _))))))))))))))) (.refl _) ?_
    refine hl_nil ?_
    refine hq_block_normal ?_
    refine hq_then ?_
    refine hc_region ?_
    refine hl_v rfl rfl rfl (rv_add rfl rfl rfl (by constructor <;> omega)) ?_
    refine hl_v rfl rfl rfl (rv_ev rfl) ?_
    refine hl_less (sub_cons (d := 0) rfl (sub_cons (d := 1) rfl (sub_cons (d := 2) rfl (sub_cons (d := 3) rfl (sub_cons (d := 4) rfl (sub_cons (d := 5) rfl (sub_cons (d := 6) rfl (sub_cons (d := 12) rfl (sub_cons (d := 13) rfl (sub_cons (d := 14) rfl (sub_cons (d := 15) rfl (sub_cons (d := 30) rfl (sub_cons (d := 31) rfl (sub_cons (d := 32) rfl (sub_nil _))))))))))))))) (.refl _) ?_
    refine hl_nil ?_
    exact hq_round2 (q + 1) (zs.set q 1000000) ⟨by omega, by rw [List.length_set]; exact hzl, fun r hr => by by_cases hrq : r = q; (subst hrq; exact getD_set_self' (by omega)); rw [getD_set_ne2 (fun e => hrq e.symm)]; exact hz r (by omega)⟩ (by omega) (sub_cons (d := 0) rfl (sub_cons (d := 1) rfl (sub_cons (d := 2) rfl (sub_cons (d := 3) rfl (sub_cons (d := 4) rfl (sub_cons (d := 5) rfl (sub_cons (d := 6) rfl (sub_cons (d := 12) rfl (sub_cons (d := 13) rfl (sub_cons (d := 14) rfl (sub_cons (d := 30) rfl (sub_cons (d := 31) rfl (sub_nil _))))))))))))) ((.cons_cons _ (.cons_cons _ (.cons_cons _ .slnil))))
  ·
    refine hl_less (sub_cons (d := 0) rfl (sub_cons (d := 1) rfl (sub_cons (d := 2) rfl (sub_cons (d := 3) rfl (sub_cons (d := 4) rfl (sub_cons (d := 5) rfl (sub_cons (d := 6) rfl (sub_cons (d := 12) rfl (sub_cons (d := 13) rfl (sub_cons (d := 14) rfl (sub_cons (d := 30) rfl (sub_cons (d := 31) rfl (sub_cons (d := 32) rfl (sub_nil _)))))))))))))) (.refl _) ?_
    refine hl_nil ?_
    refine hq_then ?_
    refine hc_seq ?_
    refine hc_false rfl ?_
    refine hc_exit ?_
    refine hq_then_exit ?_
    refine hq_then_exit ?_
    refine hq_block_exit ?_
    refine hq_then ?_
    refine hc_seq ?_
    refine hc_region ?_
    refine hl_v rfl rfl rfl (rv_ev rfl) ?_
    refine hl_v rfl rfl rfl (rv_len rfl Try.underlying39 rfl (rd_old hcv)) ?_
    refine hl_row rfl rfl rfl (rq_make (z := .bool false) (s := 1) (bytes := 1) (n := (List.replicate pc.length bl0).length) (cs := ((List.replicate pc.length bl0).flatMap blC)) rfl Try.underlying55 (by kernel_rfl) (by decide) rfl rfl (by first | (rw [List.length_replicate]; done) | (rw [List.length_replicate]; omega)) (by first | (rw [List.length_replicate]; done) | (rw [List.length_replicate]; omega)) (by rw [List.length_replicate]; omega) (made_flat blC 1 (fun _ => rfl) bl0 _ rfl pc.length)) ?_
    intro g8
    refine hl_v rfl rfl rfl (rv_ev rfl) ?_
    refine hl_less (sub_cons (d := 0) rfl (sub_cons (d := 1) rfl (sub_cons (d := 2) rfl (sub_cons (d := 3) rfl (sub_cons (d := 4) rfl (sub_cons (d := 5) rfl (sub_cons (d := 6) rfl (sub_cons (d := 12) rfl (sub_cons (d := 13) rfl (sub_cons (d := 14) rfl (sub_cons (d := 16) rfl (sub_cons (d := 30) rfl (sub_cons (d := 31) rfl (sub_cons (d := 32) rfl (sub_nil _))))))))))))))) (.refl _) ?_
    refine hl_nil ?_
    refine hq_then ?_
    refine hc_seq ?_
    refine hc_seq ?_
    refine hc_region ?_
    refine hl_v rfl rfl rfl (rv_ev rfl) ?_
    refine hl_v rfl rfl rfl (rv_len rfl Try.underlying39 rfl (rd_old hlv)) ?_
    refine hl_v rfl rfl rfl (rv_ev rfl) ?_
    refine hl_less (sub_cons (d := 0) rfl (sub_cons (d := 1) rfl (sub_cons (d := 2) rfl (sub_cons (d := 3) rfl (sub_cons (d := 4) rfl (sub_cons (d := 5) rfl (sub_cons (d := 6) rfl (sub_cons (d := 12) rfl (sub_cons (d := 13) rfl (sub_cons (d := 14) rfl (sub_cons (d := 16) rfl (sub_cons (d := 30) rfl (sub_cons (d := 31) rfl (sub_cons (d := 32) rfl (sub_cons (d := 41) rfl (sub_cons (d := 42) rfl (sub_cons (d := 43) rfl (sub_nil _)))))))))))))))))) (.refl _) ?_
    refine hl_nil ?_
    refine hq_then ?_
    refine hc_block ?_
    refine hc_loop3 (α := Nat) (β := List Int) (γ := List Bl) (fun i ys bs => [rowE 4 1 (.slice (some ⟨g8, 0, none⟩) ((List.replicate pc.length bl0).length) ((List.replicate pc.length bl0).length)) bs.length (bs.flatMap blC), rowE 3 1 (.slice (some ⟨g5, 0, none⟩) ((List.replicate pc.length (0 : Int)).length) ((List.replicate pc.length (0 : Int)).length)) ys.length (ys.map (Value.int .i64)), intoE v2 rs, boxE b1 #[.int .i64 n, v] 38]) (fun i ys bs => [(0, .agg #[.int .i64 n, v]), (1, lv), (2, cv), (3, ev_), (4, .bool lg), (5, .func (.func f) #[] cs.toArray), (6, .pointer (some ⟨b1, 0, none⟩)), (12, .slice none 0 0), (13, v2), (14, .slice (some ⟨g5, 0, none⟩) ((List.replicate pc.length (0 : Int)).length) ((List.replicate pc.length (0 : Int)).length)), (16, .slice (some ⟨g8, 0, none⟩) ((List.replicate pc.length bl0).length) ((List.replicate pc.length bl0).length)), (30, .int .i64 ((List.replicate pc.length (0 : Int)).length : Int)), (31, .int .i64 (q : Int)), (32, .bool false), (41, lv), (42, .int .i64 (pl.length : Int)), (43, .int .i64 (i : Int))]) (fun i ys bs => i ≤ pl.length ∧ (ys.length = pc.length ∧ bs.length = pc.length) ∧ ∀ r, r < pc.length → Held (ys.getD r 0) (bs.getD r bl0).b (best gs pl pc pe lg F r i)) (fun i ys bs => pl.length - i) 0 zs _ ⟨by omega, ⟨hzl, List.length_replicate⟩, fun r hr => ⟨by rw [List.getD_eq_getElem?_getD, List.getElem?_replicate]; rw [if_pos hr]; rfl, by rw [hz r (by omega)]; rfl⟩⟩ (sub_cons (d := 0) rfl (sub_cons (d := 1) rfl (sub_cons (d := 2) rfl (sub_cons (d := 3) rfl (sub_cons (d := 4) rfl (sub_cons (d := 5) rfl (sub_cons (d := 6) rfl (sub_cons (d := 12) rfl (sub_cons (d := 13) rfl (sub_cons (d := 14) rfl (sub_cons (d := 16) rfl (sub_cons (d := 30) rfl (sub_cons (d := 31) rfl (sub_cons (d := 32) rfl (sub_cons (d := 41) rfl (sub_cons (d := 42) rfl (sub_cons (d := 43) rfl (sub_nil _)))))))))))))))))) ((.cons_cons _ (.cons_cons _ (.cons_cons _ (.cons_cons _ .slnil))))) ?_
    intro i ys bs hi9
    obtain ⟨hi, ⟨hyl, hbl⟩, hh⟩ := hi9
    refine hc_seq ?_
    refine hc_region ?_
    refine hl_lss rfl rfl rfl rfl rfl rfl (fun h10 => ?_) (fun h10 => ?_)
    ·
      refine hl_less (sub_cons (d := 0) rfl (sub_cons (d := 1) rfl (sub_cons (d := 2) rfl (sub_cons (d := 3) rfl (sub_cons (d := 4) rfl (sub_cons (d := 5) rfl (sub_cons (d := 6) rfl (sub_cons (d := 12) rfl (sub_cons (d := 13) rfl (sub_cons (d := 14) rfl (sub_cons (d := 16) rfl (sub_cons (d := 30) rfl (sub_cons (d := 31) rfl (sub_cons (d := 32) rfl (sub_cons (d := 41) rfl (sub_cons (d := 42) rfl (sub_cons (d := 43) rfl (sub_cons (d := 44) rfl (sub_nil _))))))))))))))))))) (.refl _) ?_
      refine hl_nil ?_
      refine hq_then ?_
      refine hc_seq ?_
      refine hc_true rfl ?_
      refine hc_skip ?_
      refine hq_then ?_
      refine hc_seq ?_
      refine hc_block ?_
      refine hc_seq ?_
      refine hc_region ?_
      refine hl_v rfl rfl rfl (rv_ev rfl) ?_
      have hli := hpl i (by omega)
      refine hl_v rfl rfl rfl (rv_index (s := 2) rfl Try.underlying39 (by kernel_rfl) rfl rfl (rd_old hlv) (by omega) (by first | omega | (simp only [List.length_set]; omega))) ?_
      refine hl_v rfl rfl rfl (rv_loadElN (us := [.int .i64 ((pl.getD i pnt0).n), .int .i64 ((pl.getD i pnt0).s)]) rfl (by kernel_rfl) (by kernel_rfl) rfl (rd_old hlv) (by omega) rfl (flat_atN pntC 2 (fun _ => rfl) pl pnt0 (show i < _ by first | omega | (simp only [List.length_set]; omega)) rfl)) ?_
      refine hl_box rfl rfl rfl (rq_alloc (z := .agg #[.int .i64 0, .int .i64 0]) rfl (by kernel_rfl)) ?_
      intro b11
      refine hl_v rfl rfl rfl (rv_ev rfl) ?_
      refine hl_storeBoxN (i := 0) (off := 0) (us := [.int .i64 ((pl.getD i pnt0).n), .int .i64 ((pl.getD i pnt0).s)]) (l' := [boxE b11 #[.int .i64 ((pl.getD i pnt0).n), .int .i64 ((pl.getD i pnt0).s)] 47, rowE 4 1 (.slice (some ⟨g8, 0, none⟩) ((List.replicate pc.length bl0).length) ((List.replicate pc.length bl0).length)) bs.length (bs.flatMap blC), rowE 3 1 (.slice (some ⟨g5, 0, none⟩) ((List.replicate pc.length (0 : Int)).length) ((List.replicate pc.length (0 : Int)).length)) ys.length (ys.map (Value.int .i64)), intoE v2 rs, boxE b1 #[.int .i64 n, v] 38]) rfl rfl rfl (by kernel_rfl) rfl rfl rfl (all_cons rfl (all_cons rfl all_nil)) rfl rfl rfl ?_
      refine hl_less (sub_cons (d := 0) rfl (sub_cons (d := 1) rfl (sub_cons (d := 2) rfl (sub_cons (d := 3) rfl (sub_cons (d := 4) rfl (sub_cons (d := 5) rfl (sub_cons (d := 6) rfl (sub_cons (d := 12) rfl (sub_cons (d := 13) rfl (sub_cons (d := 14) rfl (sub_cons (d := 16) rfl (sub_cons (d := 17) rfl (sub_cons (d := 18) rfl (sub_cons (d := 30) rfl (sub_cons (d := 31) rfl (sub_cons (d := 32) rfl (sub_cons (d := 41) rfl (sub_cons (d := 42) rfl (sub_cons (d := 43) rfl (sub_cons (d := 44) rfl (sub_nil _))))))))))))))))))))) (.refl _) ?_
      refine hl_nil ?_
      refine hq_then ?_
      refine hc_seq ?_
      refine hc_region ?_
      refine hl_v rfl rfl rfl (rv_ev rfl) ?_
      refine hl_v rfl rfl rfl (rv_field (k0 := 0) rfl (by kernel_rfl) rfl) ?_
      refine hl_v rfl rfl rfl (rv_load rfl (by kernel_rfl) rfl (box_cell 0 rfl rfl)) ?_
      refine hl_v rfl rfl rfl (rv_ev rfl) ?_
      refine hl_q rfl rfl rfl (rq_call (by kernel_rfl) rfl (fun w hm => delaysFrom_ret n gs rs v2 ((pl.getD i pnt0).n) lg w hg (into_rds (v := v2) (rs := rs) 3 rfl w hm) hri)) ?_
      intro v12 p13 hR14
      subst hR14
      refine hl_v rfl rfl rfl (rv_ev rfl) ?_
      refine hl_less (sub_cons (d := 0) rfl (sub_cons (d := 1) rfl (sub_cons (d := 2) rfl (sub_cons (d := 3) rfl (sub_cons (d := 4) rfl (sub_cons (d := 5) rfl (sub_cons (d := 6) rfl (sub_cons (d := 12) rfl (sub_cons (d := 13) rfl (sub_cons (d := 14) rfl (sub_cons (d := 16) rfl (sub_cons (d := 17) rfl (sub_cons (d := 18) rfl (sub_cons (d := 19) rfl (sub_cons (d := 30) rfl (sub_cons (d := 31) rfl (sub_cons (d := 32) rfl (sub_cons (d := 41) rfl (sub_cons (d := 42) rfl (sub_cons (d := 43) rfl (sub_cons (d := 44) rfl (sub_nil _)))))))))))))))))))))) (.refl _) ?_
      refine hl_nil ?_
      refine hq_then ?_
      refine hc_seq ?_
      refine hc_region ?_
      refine hl_v rfl rfl rfl (rv_ev rfl) ?_
      refine hl_v rfl rfl rfl (rv_len rfl Try.underlying39 rfl (rd_old hcv)) ?_
      refine hl_v rfl rfl rfl (rv_ev rfl) ?_
      refine hl_less (sub_cons (d := 0) rfl (sub_cons (d := 1) rfl (sub_cons (d := 2) rfl (sub_cons (d := 3) rfl (sub_cons (d := 4) rfl (sub_cons (d := 5) rfl (sub_cons (d := 6) rfl (sub_cons (d := 12) rfl (sub_cons (d := 13) rfl (sub_cons (d := 14) rfl (sub_cons (d := 16) rfl (sub_cons (d := 17) rfl (sub_cons (d := 18) rfl (sub_cons (d := 19) rfl (sub_cons (d := 30) rfl (sub_cons (d := 31) rfl (sub_cons (d := 32) rfl (sub_cons (d := 41) rfl (sub_cons (d := 42) rfl (sub_cons (d := 43) rfl (sub_cons (d := 44) rfl (sub_cons (d := 53) rfl (sub_cons (d := 54) rfl (sub_cons (d := 55) rfl (sub_nil _))))))))))))))))))))))))) (.refl _) ?_
      refine hl_nil ?_
      refine hq_then ?_
      refine hc_block ?_
      refine hc_loop3 (α := Nat) (β := List Int) (γ := List Bl) (fun m us ss => [rowE 3 1 v12 ((delL lg gs ((pl.getD i pnt0).n) rs.length).length) ((delL lg gs ((pl.getD i pnt0).n) rs.length).map (Value.int .i64)), boxE b11 #[.int .i64 ((pl.getD i pnt0).n), .int .i64 ((pl.getD i pnt0).s)] 47, rowE 4 1 (.slice (some ⟨g8, 0, none⟩) ((List.replicate pc.length bl0).length) ((List.replicate pc.length bl0).length)) ss.length (ss.flatMap blC), rowE 3 1 (.slice (some ⟨g5, 0, none⟩) ((List.replicate pc.length (0 : Int)).length) ((List.replicate pc.length (0 : Int)).length)) us.length (us.map (Value.int .i64)), intoE v2 rs, boxE b1 #[.int .i64 n, v] 38]) (fun m us ss => [(0, .agg #[.int .i64 n, v]), (1, lv), (2, cv), (3, ev_), (4, .bool lg), (5, .func (.func f) #[] cs.toArray), (6, .pointer (some ⟨b1, 0, none⟩)), (12, .slice none 0 0), (13, v2), (14, .slice (some ⟨g5, 0, none⟩) ((List.replicate pc.length (0 : Int)).length) ((List.replicate pc.length (0 : Int)).length)), (16, .slice (some ⟨g8, 0, none⟩) ((List.replicate pc.length bl0).length) ((List.replicate pc.length bl0).length)), (17, .int .i64 (i : Int)), (18, .pointer (some ⟨b11, 0, none⟩)), (19, v12), (30, .int .i64 ((List.replicate pc.length (0 : Int)).length : Int)), (31, .int .i64 (q : Int)), (32, .bool false), (41, lv), (42, .int .i64 (pl.length : Int)), (43, .int .i64 (i : Int)), (44, .bool true), (53, cv), (54, .int .i64 (pc.length : Int)), (55, .int .i64 (m : Int))]) (fun m us ss => m ≤ pc.length ∧ us.length = pc.length ∧ ss.length = pc.length ∧ ∀ r, r < pc.length → Held (us.getD r 0) (ss.getD r bl0).b (best gs pl pc pe lg F r (if r < m then i + 1 else i))) (fun m us ss => pc.length - m) 0 ys bs ⟨by omega, hyl, hbl, fun r hr => by rw [if_neg (by omega)]; exact hh r hr⟩ (sub_cons (d := 0) rfl (sub_cons (d := 1) rfl (sub_cons (d := 2) rfl (sub_cons (d := 3) rfl (sub_cons (d := 4) rfl (sub_cons (d := 5) rfl (sub_cons (d := 6) rfl (sub_cons (d := 12) rfl (sub_cons (d := 13) rfl (sub_cons (d := 14) rfl (sub_cons (d := 16) rfl (sub_cons (d := 17) rfl (sub_cons (d := 18) rfl (sub_cons (d := 19) rfl (sub_cons (d := 30) rfl (sub_cons (d := 31) rfl (sub_cons (d := 32) rfl (sub_cons (d := 41) rfl (sub_cons (d := 42) rfl (sub_cons (d := 43) rfl (sub_cons (d := 44) rfl (sub_cons (d := 53) rfl (sub_cons (d := 54) rfl (sub_cons (d := 55) rfl (sub_nil _))))))))))))))))))))))))) ((.cons_cons _ (.cons_cons _ (.cons_cons _ (.cons_cons _ (.cons_cons _ (.cons_cons _ .slnil))))))) ?_
      intro m us ss hi15
      obtain ⟨hm, hul, hsl, hk⟩ := hi15
      refine hc_seq ?_
      refine hc_region ?_
      refine hl_lss rfl rfl rfl rfl rfl rfl (fun h16 => ?_) (fun h16 => ?_)
      ·
        refine hl_less (sub_cons (d := 0) rfl (sub_cons (d := 1) rfl (sub_cons (d := 2) rfl (sub_cons (d := 3) rfl (sub_cons (d := 4) rfl (sub_cons (d := 5) rfl (sub_cons (d := 6) rfl (sub_cons (d := 12) rfl (sub_cons (d := 13) rfl (sub_cons (d := 14) rfl (sub_cons (d := 16) rfl (sub_cons (d := 17) rfl (sub_cons (d := 18) rfl (sub_cons (d := 19) rfl (sub_cons (d := 30) rfl (sub_cons (d := 31) rfl (sub_cons (d := 32) rfl (sub_cons (d := 41) rfl (sub_cons (d := 42) rfl (sub_cons (d := 43) rfl (sub_cons (d := 44) rfl (sub_cons (d := 53) rfl (sub_cons (d := 54) rfl (sub_cons (d := 55) rfl (sub_cons (d := 56) rfl (sub_nil _)))))))))))))))))))))))))) (.refl _) ?_
        refine hl_nil ?_
        refine hq_then ?_
        refine hc_seq ?_
        refine hc_true rfl ?_
        refine hc_skip ?_
        refine hq_then ?_
        refine hc_seq ?_
        refine hc_block ?_
        refine hc_seq ?_
        refine hc_region ?_
        refine hl_v rfl rfl rfl (rv_ev rfl) ?_
        refine hl_v rfl rfl rfl (rv_index (s := 2) rfl Try.underlying39 (by kernel_rfl) rfl rfl (rd_old hcv) (by omega) (by first | omega | (simp only [List.length_set]; omega))) ?_
        refine hl_v rfl rfl rfl (rv_loadElN (us := [.int .i64 ((pc.getD m pnt0).n), .int .i64 ((pc.getD m pnt0).s)]) rfl (by kernel_rfl) (by kernel_rfl) rfl (rd_old hcv) (by omega) rfl (flat_atN pntC 2 (fun _ => rfl) pc pnt0 (show m < _ by first | omega | (simp only [List.length_set]; omega)) rfl)) ?_
        refine hl_box rfl rfl rfl (rq_alloc (z := .agg #[.int .i64 0, .int .i64 0]) rfl (by kernel_rfl)) ?_
        intro b17
        refine hl_v rfl rfl rfl (rv_ev rfl) ?_
        refine hl_storeBoxN (i := 0) (off := 0) (us := [.int .i64 ((pc.getD m pnt0).n), .int .i64 ((pc.getD m pnt0).s)]) (l' := [boxE b17 #[.int .i64 ((pc.getD m pnt0).n), .int .i64 ((pc.getD m pnt0).s)] 47, rowE 3 1 v12 ((delL lg gs ((pl.getD i pnt0).n) rs.length).length) ((delL lg gs ((pl.getD i pnt0).n) rs.length).map (Value.int .i64)), boxE b11 #[.int .i64 ((pl.getD i pnt0).n), .int .i64 ((pl.getD i pnt0).s)] 47, rowE 4 1 (.slice (some ⟨g8, 0, none⟩) ((List.replicate pc.length bl0).length) ((List.replicate pc.length bl0).length)) ss.length (ss.flatMap blC), rowE 3 1 (.slice (some ⟨g5, 0, none⟩) ((List.replicate pc.length (0 : Int)).length) ((List.replicate pc.length (0 : Int)).length)) us.length (us.map (Value.int .i64)), intoE v2 rs, boxE b1 #[.int .i64 n, v] 38]) rfl rfl rfl (by kernel_rfl) rfl rfl rfl (all_cons rfl (all_cons rfl all_nil)) rfl rfl rfl ?_
        refine hl_less (sub_cons (d := 0) rfl (sub_cons (d := 1) rfl (sub_cons (d := 2) rfl (sub_cons (d := 3) rfl (sub_cons (d := 4) rfl (sub_cons (d := 5) rfl (sub_cons (d := 6) rfl (sub_cons (d := 12) rfl (sub_cons (d := 13) rfl (sub_cons (d := 14) rfl (sub_cons (d := 16) rfl (sub_cons (d := 17) rfl (sub_cons (d := 18) rfl (sub_cons (d := 19) rfl (sub_cons (d := 20) rfl (sub_cons (d := 21) rfl (sub_cons (d := 30) rfl (sub_cons (d := 31) rfl (sub_cons (d := 32) rfl (sub_cons (d := 41) rfl (sub_cons (d := 42) rfl (sub_cons (d := 43) rfl (sub_cons (d := 44) rfl (sub_cons (d := 53) rfl (sub_cons (d := 54) rfl (sub_cons (d := 55) rfl (sub_cons (d := 56) rfl (sub_nil _)))))))))))))))))))))))))))) (.refl _) ?_
        refine hl_nil ?_
        refine hq_then ?_
        refine hc_seq ?_
        refine hc_region ?_
        refine hl_v rfl rfl rfl (rv_ev rfl) ?_
        refine hl_v rfl rfl rfl (rv_ev rfl) ?_
        refine hl_v rfl rfl rfl (rv_ev rfl) ?_
        refine hl_callV rfl rfl rfl (rq_call (by kernel_rfl) rfl (fun w hm => ret_ans (cyclesOf_ans pe ev_ _ _ w hel (hev.below hm.bel)))) ?_
        refine hl_v rfl rfl rfl (rv_ev rfl) ?_
        refine hl_less (sub_cons (d := 0) rfl (sub_cons (d := 1) rfl (sub_cons (d := 2) rfl (sub_cons (d := 3) rfl (sub_cons (d := 4) rfl (sub_cons (d := 5) rfl (sub_cons (d := 6) rfl (sub_cons (d := 12) rfl (sub_cons (d := 13) rfl (sub_cons (d := 14) rfl (sub_cons (d := 16) rfl (sub_cons (d := 17) rfl (sub_cons (d := 18) rfl (sub_cons (d := 19) rfl (sub_cons (d := 20) rfl (sub_cons (d := 21) rfl (sub_cons (d := 22) rfl (sub_cons (d := 30) rfl (sub_cons (d := 31) rfl (sub_cons (d := 32) rfl (sub_cons (d := 41) rfl (sub_cons (d := 42) rfl (sub_cons (d := 43) rfl (sub_cons (d := 44) rfl (sub_cons (d := 53) rfl (sub_cons (d := 54) rfl (sub_cons (d := 55) rfl (sub_cons (d := 56) rfl (sub_nil _))))))))))))))))))))))))))))) (.refl _) ?_
        refine hl_nil ?_
        refine hq_then ?_
        refine hc_seq ?_
        refine hc_seq ?_
        refine hc_region ?_
        have hcj := hpc m (by omega)
        have hdl : (delL lg gs (pl.getD i pnt0).n rs.length).length = rs.length := del_len _ _ _ _
        have hdat : (delL lg gs (pl.getD i pnt0).n rs.length).getD ((pc.getD m pnt0).n).toNat 0 = Dl lg gs (pl.getD i pnt0).n ((pc.getD m pnt0).n).toNat := del_at _ _ _ _ _ (by omega)
        have hdb := Dl_bnd hg lg (pl.getD i pnt0).n ((pc.getD m pnt0).n).toNat
        have hcy := cyc_rng hpe (i : Int) (m : Int)
        have hm0 := hk m (by omega)
        rw [if_neg (by omega)] at hm0
        have hval : F (pl.getD i pnt0) (pc.getD m pnt0) ((delL lg gs (pl.getD i pnt0).n rs.length).getD ((pc.getD m pnt0).n).toNat 0) (cyc pe i m) = F (pl.getD i pnt0) (pc.getD m pnt0) (Dl lg gs (pl.getD i pnt0).n ((pc.getD m pnt0).n).toNat) (cyc pe i m) := by rw [hdat]
        refine hl_v rfl rfl rfl (rv_ev rfl) ?_
        refine hl_v rfl rfl rfl (rv_field (k0 := 0) rfl (by kernel_rfl) rfl) ?_
        refine hl_v rfl rfl rfl (rv_load rfl (by kernel_rfl) rfl (box_cell 0 rfl rfl)) ?_
        refine hl_v rfl rfl rfl (rv_index (s := 1) rfl Try.underlying43 (by kernel_rfl) rfl rfl (rd_row 1 rfl) (by omega) (by first | omega | (simp only [List.length_set]; omega))) ?_
        refine hl_v rfl rfl rfl (rv_loadEl (u := .int .i64 ((delL lg gs ((pl.getD i pnt0).n) rs.length).getD (((pc.getD m pnt0).n).toNat) 0)) rfl (by kernel_rfl) rfl (rd_row 1 rfl) (ints_at1 (show _ < (delL lg gs ((pl.getD i pnt0).n) rs.length).length by first | omega | (simp only [List.length_set]; omega)))) ?_
        refine hl_lss rfl rfl rfl rfl rfl rfl (fun h18 => ?_) (fun h18 => ?_)
        ·
          refine hl_v rfl rfl rfl (rv_ev rfl) ?_
          refine hl_skip rfl rfl rfl ?_
          refine hl_skip rfl rfl rfl ?_
          refine hl_v rfl rfl rfl (rv_ev rfl) ?_
          refine hl_less (sub_cons (d := 0) rfl (sub_cons (d := 1) rfl (sub_cons (d := 2) rfl (sub_cons (d := 3) rfl (sub_cons (d := 4) rfl (sub_cons (d := 5) rfl (sub_cons (d := 6) rfl (sub_cons (d := 12) rfl (sub_cons (d := 13) rfl (sub_cons (d := 14) rfl (sub_cons (d := 16) rfl (sub_cons (d := 17) rfl (sub_cons (d := 18) rfl (sub_cons (d := 19) rfl (sub_cons (d := 20) rfl (sub_cons (d := 21) rfl (sub_cons (d := 22) rfl (sub_cons (d := 30) rfl (sub_cons (d := 31) rfl (sub_cons (d := 32) rfl (sub_cons (d := 41) rfl (sub_cons (d := 42) rfl (sub_cons (d := 43) rfl (sub_cons (d := 44) rfl (sub_cons (d := 53) rfl (sub_cons (d := 54) rfl (sub_cons (d := 55) rfl (sub_cons (d := 56) rfl (sub_cons (d := 73) rfl (sub_nil _)))))))))))))))))))))))))))))) (.refl _) ?_
          refine hl_nil ?_
          refine hq_then ?_
          refine hc_true rfl ?_
          refine hc_exit ?_
          refine hq_then_exit ?_
          refine hq_block_exit ?_
          refine hq_then ?_
          refine hc_region ?_
          refine hl_v rfl rfl rfl (rv_add rfl rfl rfl (by constructor <;> omega)) ?_
          refine hl_v rfl rfl rfl (rv_ev rfl) ?_
          refine hl_less (sub_cons (d := 0) rfl (sub_cons (d := 1) rfl (sub_cons (d := 2) rfl (sub_cons (d := 3) rfl (sub_cons (d := 4) rfl (sub_cons (d := 5) rfl (sub_cons (d := 6) rfl (sub_cons (d := 12) rfl (sub_cons (d := 13) rfl (sub_cons (d := 14) rfl (sub_cons (d := 16) rfl (sub_cons (d := 17) rfl (sub_cons (d := 18) rfl (sub_cons (d := 19) rfl (sub_cons (d := 20) rfl (sub_cons (d := 21) rfl (sub_cons (d := 22) rfl (sub_cons (d := 30) rfl (sub_cons (d := 31) rfl (sub_cons (d := 32) rfl (sub_cons (d := 41) rfl (sub_cons (d := 42) rfl (sub_cons (d := 43) rfl (sub_cons (d := 44) rfl (sub_cons (d := 53) rfl (sub_cons (d := 54) rfl (sub_cons (d := 55) rfl (sub_cons (d := 56) rfl (sub_cons (d := 73) rfl (sub_nil _)))))))))))))))))))))))))))))) (.refl _) ?_
          refine hl_nil ?_
          exact hq_round3 (m + 1) us ss ⟨by omega, by (try simp only [List.length_set]); exact hul, by (try simp only [List.length_set]); exact hsl, fun r hr => by
      by_cases hrm : r = m
      · subst hrm
        rw [if_pos (by omega)]
        rw [best_skip (by first | exact .inl (by omega) | exact .inr (by omega))]; exact hm0
      · have h7 := hk r hr
        skip
        by_cases hlt : r < m
        · rw [if_pos (by omega)]; rwa [if_pos hlt] at h7
        · rw [if_neg (by omega)]; rwa [if_neg hlt] at h7⟩ (by omega) (sub_cons (d := 0) rfl (sub_cons (d := 1) rfl (sub_cons (d := 2) rfl (sub_cons (d := 3) rfl (sub_cons (d := 4) rfl (sub_cons (d := 5) rfl (sub_cons (d := 6) rfl (sub_cons (d := 12) rfl (sub_cons (d := 13) rfl (sub_cons (d := 14) rfl (sub_cons (d := 16) rfl (sub_cons (d := 17) rfl (sub_cons (d := 18) rfl (sub_cons (d := 19) rfl (sub_cons (d := 30) rfl (sub_cons (d := 31) rfl (sub_cons (d := 32) rfl (sub_cons (d := 41) rfl (sub_cons (d := 42) rfl (sub_cons (d := 43) rfl (sub_cons (d := 44) rfl (sub_cons (d := 53) rfl (sub_cons (d := 54) rfl (sub_cons (d := 55) rfl (sub_nil _))))))))))))))))))))))))) ((.cons _ (.cons_cons _ (.cons_cons _ (.cons_cons _ (.cons_cons _ (.cons_cons _ (.cons_cons _ .slnil))))))))
        ·
          refine hl_v rfl rfl rfl (rv_ev rfl) ?_
          refine hl_v rfl rfl rfl (rv_ev rfl) ?_
          refine hl_eql rfl rfl rfl rfl rfl rfl (fun h19 => ?_) (fun h19 => ?_)
          ·
            refine hl_v rfl rfl rfl (rv_ev rfl) ?_
            refine hl_less (sub_cons (d := 0) rfl (sub_cons (d := 1) rfl (sub_cons (d := 2) rfl (sub_cons (d := 3) rfl (sub_cons (d := 4) rfl (sub_cons (d := 5) rfl (sub_cons (d := 6) rfl (sub_cons (d := 12) rfl (sub_cons (d := 13) rfl (sub_cons (d := 14) rfl (sub_cons (d := 16) rfl (sub_cons (d := 17) rfl (sub_cons (d := 18) rfl (sub_cons (d := 19) rfl (sub_cons (d := 20) rfl (sub_cons (d := 21) rfl (sub_cons (d := 22) rfl (sub_cons (d := 30) rfl (sub_cons (d := 31) rfl (sub_cons (d := 32) rfl (sub_cons (d := 41) rfl (sub_cons (d := 42) rfl (sub_cons (d := 43) rfl (sub_cons (d := 44) rfl (sub_cons (d := 53) rfl (sub_cons (d := 54) rfl (sub_cons (d := 55) rfl (sub_cons (d := 56) rfl (sub_cons (d := 73) rfl (sub_nil _)))))))))))))))))))))))))))))) (.refl _) ?_
            refine hl_nil ?_
            refine hq_then ?_
            refine hc_true rfl ?_
            refine hc_exit ?_
            refine hq_then_exit ?_
            refine hq_block_exit ?_
            refine hq_then ?_
            refine hc_region ?_
            refine hl_v rfl rfl rfl (rv_add rfl rfl rfl (by constructor <;> omega)) ?_
            refine hl_v rfl rfl rfl (rv_ev rfl) ?_
            refine hl_less (sub_cons (d := 0) rfl (sub_cons (d := 1) rfl (sub_cons (d := 2) rfl (sub_cons (d := 3) rfl (sub_cons (d := 4) rfl (sub_cons (d := 5) rfl (sub_cons (d := 6) rfl (sub_cons (d := 12) rfl (sub_cons (d := 13) rfl (sub_cons (d := 14) rfl (sub_cons (d := 16) rfl (sub_cons (d := 17) rfl (sub_cons (d := 18) rfl (sub_cons (d := 19) rfl (sub_cons (d := 20) rfl (sub_cons (d := 21) rfl (sub_cons (d := 22) rfl (sub_cons (d := 30) rfl (sub_cons (d := 31) rfl (sub_cons (d := 32) rfl (sub_cons (d := 41) rfl (sub_cons (d := 42) rfl (sub_cons (d := 43) rfl (sub_cons (d := 44) rfl (sub_cons (d := 53) rfl (sub_cons (d := 54) rfl (sub_cons (d := 55) rfl (sub_cons (d := 56) rfl (sub_cons (d := 73) rfl (sub_nil _)))))))))))))))))))))))))))))) (.refl _) ?_
            refine hl_nil ?_
            exact hq_round3 (m + 1) us ss ⟨by omega, by (try simp only [List.length_set]); exact hul, by (try simp only [List.length_set]); exact hsl, fun r hr => by
      by_cases hrm : r = m
      · subst hrm
        rw [if_pos (by omega)]
        rw [best_skip (by first | exact .inl (by omega) | exact .inr (by omega))]; exact hm0
      · have h7 := hk r hr
        skip
        by_cases hlt : r < m
        · rw [if_pos (by omega)]; rwa [if_pos hlt] at h7
        · rw [if_neg (by omega)]; rwa [if_neg hlt] at h7⟩ (by omega) (sub_cons (d := 0) rfl (sub_cons (d := 1) rfl (sub_cons (d := 2) rfl (sub_cons (d := 3) rfl (sub_cons (d := 4) rfl (sub_cons (d := 5) rfl (sub_cons (d := 6) rfl (sub_cons (d := 12) rfl (sub_cons (d := 13) rfl (sub_cons (d := 14) rfl (sub_cons (d := 16) rfl (sub_cons (d := 17) rfl (sub_cons (d := 18) rfl (sub_cons (d := 19) rfl (sub_cons (d := 30) rfl (sub_cons (d := 31) rfl (sub_cons (d := 32) rfl (sub_cons (d := 41) rfl (sub_cons (d := 42) rfl (sub_cons (d := 43) rfl (sub_cons (d := 44) rfl (sub_cons (d := 53) rfl (sub_cons (d := 54) rfl (sub_cons (d := 55) rfl (sub_nil _))))))))))))))))))))))))) ((.cons _ (.cons_cons _ (.cons_cons _ (.cons_cons _ (.cons_cons _ (.cons_cons _ (.cons_cons _ .slnil))))))))
          ·
            refine hl_v rfl rfl rfl (rv_ev rfl) ?_
            refine hl_less (sub_cons (d := 0) rfl (sub_cons (d := 1) rfl (sub_cons (d := 2) rfl (sub_cons (d := 3) rfl (sub_cons (d := 4) rfl (sub_cons (d := 5) rfl (sub_cons (d := 6) rfl (sub_cons (d := 12) rfl (sub_cons (d := 13) rfl (sub_cons (d := 14) rfl (sub_cons (d := 16) rfl (sub_cons (d := 17) rfl (sub_cons (d := 18) rfl (sub_cons (d := 19) rfl (sub_cons (d := 20) rfl (sub_cons (d := 21) rfl (sub_cons (d := 22) rfl (sub_cons (d := 30) rfl (sub_cons (d := 31) rfl (sub_cons (d := 32) rfl (sub_cons (d := 41) rfl (sub_cons (d := 42) rfl (sub_cons (d := 43) rfl (sub_cons (d := 44) rfl (sub_cons (d := 53) rfl (sub_cons (d := 54) rfl (sub_cons (d := 55) rfl (sub_cons (d := 56) rfl (sub_cons (d := 73) rfl (sub_nil _)))))))))))))))))))))))))))))) (.refl _) ?_
            refine hl_nil ?_
            refine hq_then ?_
            refine hc_false rfl ?_
            refine hc_skip ?_
            refine hq_then ?_
            refine hc_seq ?_
            refine hc_draw (by kernel_rfl) 10 [0, 1, 2, 3, 4, 5, 6, 7, 8, 9] (List.take 10 _) (List.drop 10 _) [[], [], [], [], [], [4], [3, 5], [6], [], [0, 1, 2, 7, 8]] [74, 75, 76, 77, 78, 79, 80, 81, 82, 83] (fun i_ vs_ v_ p_ => match i_ with | 0 => v_ = .func (.func f) #[] cs.toArray ∧ p_ = [] | 1 => v_ = .agg #[.int .i64 ((pl.getD i pnt0).n), .int .i64 ((pl.getD i pnt0).s)] ∧ p_ = [] | 2 => v_ = .agg #[.int .i64 ((pc.getD m pnt0).n), .int .i64 ((pc.getD m pnt0).s)] ∧ p_ = [] | 3 => v_ = v12 ∧ p_ = [] | 4 => v_ = .pointer (some ⟨b17, 0 + 0, none⟩) ∧ p_ = [] | 5 => v_ = .int .i64 ((pc.getD m pnt0).n) ∧ p_ = [] | 6 => v_ = elP v12 (((pc.getD m pnt0).n).toNat * 1) ∧ p_ = [] | 7 => v_ = .int .i64 ((delL lg gs ((pl.getD i pnt0).n) rs.length).getD (((pc.getD m pnt0).n).toNat) 0) ∧ p_ = [] | 8 => v_ = .int .i64 (cyc pe (i : Int) (m : Int)) ∧ p_ = [] | 9 => v_ = .int .i64 (F (pl.getD i pnt0) (pc.getD m pnt0) ((delL lg gs ((pl.getD i pnt0).n) rs.length).getD (((pc.getD m pnt0).n).toNat) 0) (cyc pe (i : Int) (m : Int))) ∧ p_ = [] | _ => True) (List.take_append_drop 10 _).symm (by kernel_rfl) (by kernel_rfl) rfl rfl ?_ ?_
            ·
              refine ⟨?_, ?_, ?_, ?_, ?_, ?_, ?_, ?_, ?_, ?_, trivial⟩
              ·
                intro vf pf hR
                refine Or.inl ⟨rfl, ?_⟩
                refine rq_less (l' := [boxE b17 #[.int .i64 ((pc.getD m pnt0).n), .int .i64 ((pc.getD m pnt0).s)] 47, rowE 3 1 v12 ((delL lg gs ((pl.getD i pnt0).n) rs.length).length) ((delL lg gs ((pl.getD i pnt0).n) rs.length).map (Value.int .i64)), boxE b11 #[.int .i64 ((pl.getD i pnt0).n), .int .i64 ((pl.getD i pnt0).s)] 47, rowE 4 1 (.slice (some ⟨g8, 0, none⟩) ((List.replicate pc.length bl0).length) ((List.replicate pc.length bl0).length)) ss.length (ss.flatMap blC), rowE 3 1 (.slice (some ⟨g5, 0, none⟩) ((List.replicate pc.length (0 : Int)).length) ((List.replicate pc.length (0 : Int)).length)) us.length (us.map (Value.int .i64)), intoE v2 rs, boxE b1 #[.int .i64 n, v] 38]) (sub_cons (d := 5) rfl (sub_nil _)) (List.sublist_append_right _ _) ?_
                exact rq_v (rv_ev rfl)
              ·
                intro vf pf hR
                refine Or.inl ⟨rfl, ?_⟩
                refine rq_less (l' := [boxE b17 #[.int .i64 ((pc.getD m pnt0).n), .int .i64 ((pc.getD m pnt0).s)] 47, rowE 3 1 v12 ((delL lg gs ((pl.getD i pnt0).n) rs.length).length) ((delL lg gs ((pl.getD i pnt0).n) rs.length).map (Value.int .i64)), boxE b11 #[.int .i64 ((pl.getD i pnt0).n), .int .i64 ((pl.getD i pnt0).s)] 47, rowE 4 1 (.slice (some ⟨g8, 0, none⟩) ((List.replicate pc.length bl0).length) ((List.replicate pc.length bl0).length)) ss.length (ss.flatMap blC), rowE 3 1 (.slice (some ⟨g5, 0, none⟩) ((List.replicate pc.length (0 : Int)).length) ((List.replicate pc.length (0 : Int)).length)) us.length (us.map (Value.int .i64)), intoE v2 rs, boxE b1 #[.int .i64 n, v] 38]) (sub_cons (d := 18) rfl (sub_nil _)) (List.sublist_append_right _ _) ?_
                exact rq_v (rv_loadN (cs := [.int .i64 ((pl.getD i pnt0).n), .int .i64 ((pl.getD i pnt0).s)]) rfl (by kernel_rfl) (by kernel_rfl) rfl rfl (box_part 2 rfl 0 rfl))
              ·
                intro vf pf hR
                refine Or.inl ⟨rfl, ?_⟩
                refine rq_less (l' := [boxE b17 #[.int .i64 ((pc.getD m pnt0).n), .int .i64 ((pc.getD m pnt0).s)] 47, rowE 3 1 v12 ((delL lg gs ((pl.getD i pnt0).n) rs.length).length) ((delL lg gs ((pl.getD i pnt0).n) rs.length).map (Value.int .i64)), boxE b11 #[.int .i64 ((pl.getD i pnt0).n), .int .i64 ((pl.getD i pnt0).s)] 47, rowE 4 1 (.slice (some ⟨g8, 0, none⟩) ((List.replicate pc.length bl0).length) ((List.replicate pc.length bl0).length)) ss.length (ss.flatMap blC), rowE 3 1 (.slice (some ⟨g5, 0, none⟩) ((List.replicate pc.length (0 : Int)).length) ((List.replicate pc.length (0 : Int)).length)) us.length (us.map (Value.int .i64)), intoE v2 rs, boxE b1 #[.int .i64 n, v] 38]) (sub_cons (d := 21) rfl (sub_nil _)) (List.sublist_append_right _ _) ?_
                exact rq_v (rv_loadN (cs := [.int .i64 ((pc.getD m pnt0).n), .int .i64 ((pc.getD m pnt0).s)]) rfl (by kernel_rfl) (by kernel_rfl) rfl rfl (box_part 0 rfl 0 rfl))
              ·
                intro vf pf hR
                refine Or.inl ⟨rfl, ?_⟩
                refine rq_less (l' := [boxE b17 #[.int .i64 ((pc.getD m pnt0).n), .int .i64 ((pc.getD m pnt0).s)] 47, rowE 3 1 v12 ((delL lg gs ((pl.getD i pnt0).n) rs.length).length) ((delL lg gs ((pl.getD i pnt0).n) rs.length).map (Value.int .i64)), boxE b11 #[.int .i64 ((pl.getD i pnt0).n), .int .i64 ((pl.getD i pnt0).s)] 47, rowE 4 1 (.slice (some ⟨g8, 0, none⟩) ((List.replicate pc.length bl0).length) ((List.replicate pc.length bl0).length)) ss.length (ss.flatMap blC), rowE 3 1 (.slice (some ⟨g5, 0, none⟩) ((List.replicate pc.length (0 : Int)).length) ((List.replicate pc.length (0 : Int)).length)) us.length (us.map (Value.int .i64)), intoE v2 rs, boxE b1 #[.int .i64 n, v] 38]) (sub_cons (d := 19) rfl (sub_nil _)) (List.sublist_append_right _ _) ?_
                exact rq_v (rv_ev rfl)
              ·
                intro vf pf hR
                refine Or.inl ⟨rfl, ?_⟩
                refine rq_less (l' := [boxE b17 #[.int .i64 ((pc.getD m pnt0).n), .int .i64 ((pc.getD m pnt0).s)] 47, rowE 3 1 v12 ((delL lg gs ((pl.getD i pnt0).n) rs.length).length) ((delL lg gs ((pl.getD i pnt0).n) rs.length).map (Value.int .i64)), boxE b11 #[.int .i64 ((pl.getD i pnt0).n), .int .i64 ((pl.getD i pnt0).s)] 47, rowE 4 1 (.slice (some ⟨g8, 0, none⟩) ((List.replicate pc.length bl0).length) ((List.replicate pc.length bl0).length)) ss.length (ss.flatMap blC), rowE 3 1 (.slice (some ⟨g5, 0, none⟩) ((List.replicate pc.length (0 : Int)).length) ((List.replicate pc.length (0 : Int)).length)) us.length (us.map (Value.int .i64)), intoE v2 rs, boxE b1 #[.int .i64 n, v] 38]) (sub_cons (d := 21) rfl (sub_nil _)) (List.sublist_append_right _ _) ?_
                exact rq_v (rv_field (k0 := 0) rfl (by kernel_rfl) rfl)
              ·
                intro vf pf hR
                have e4 : (vf 4) = .pointer (some ⟨b17, 0 + 0, none⟩) ∧ (pf 4) = [] := hR 4 (by decide)
                refine Or.inl ⟨rfl, ?_⟩
                refine rq_less (l' := [boxE b17 #[.int .i64 ((pc.getD m pnt0).n), .int .i64 ((pc.getD m pnt0).s)] 47, rowE 3 1 v12 ((delL lg gs ((pl.getD i pnt0).n) rs.length).length) ((delL lg gs ((pl.getD i pnt0).n) rs.length).map (Value.int .i64)), boxE b11 #[.int .i64 ((pl.getD i pnt0).n), .int .i64 ((pl.getD i pnt0).s)] 47, rowE 4 1 (.slice (some ⟨g8, 0, none⟩) ((List.replicate pc.length bl0).length) ((List.replicate pc.length bl0).length)) ss.length (ss.flatMap blC), rowE 3 1 (.slice (some ⟨g5, 0, none⟩) ((List.replicate pc.length (0 : Int)).length) ((List.replicate pc.length (0 : Int)).length)) us.length (us.map (Value.int .i64)), intoE v2 rs, boxE b1 #[.int .i64 n, v] 38]) (sub_cons (d := 78) (congrArg some e4.1) (sub_nil _)) (List.sublist_append_right _ _) ?_
                exact rq_v (rv_load rfl (by kernel_rfl) rfl (box_cell 0 rfl rfl))
              ·
                intro vf pf hR
                have e3 : (vf 3) = v12 ∧ (pf 3) = [] := hR 3 (by decide)
                have e5 : (vf 5) = .int .i64 ((pc.getD m pnt0).n) ∧ (pf 5) = [] := hR 5 (by decide)
                refine Or.inl ⟨rfl, ?_⟩
                refine rq_less (l' := [boxE b17 #[.int .i64 ((pc.getD m pnt0).n), .int .i64 ((pc.getD m pnt0).s)] 47, rowE 3 1 v12 ((delL lg gs ((pl.getD i pnt0).n) rs.length).length) ((delL lg gs ((pl.getD i pnt0).n) rs.length).map (Value.int .i64)), boxE b11 #[.int .i64 ((pl.getD i pnt0).n), .int .i64 ((pl.getD i pnt0).s)] 47, rowE 4 1 (.slice (some ⟨g8, 0, none⟩) ((List.replicate pc.length bl0).length) ((List.replicate pc.length bl0).length)) ss.length (ss.flatMap blC), rowE 3 1 (.slice (some ⟨g5, 0, none⟩) ((List.replicate pc.length (0 : Int)).length) ((List.replicate pc.length (0 : Int)).length)) us.length (us.map (Value.int .i64)), intoE v2 rs, boxE b1 #[.int .i64 n, v] 38]) (sub_cons (d := 77) (congrArg some e3.1) (sub_cons (d := 79) (congrArg some e5.1) (sub_nil _))) (List.sublist_append_right _ _) ?_
                exact rq_v (rv_index (s := 1) rfl Try.underlying43 (by kernel_rfl) rfl rfl (rd_row 1 rfl) (by omega) (by first | omega | (simp only [List.length_set]; omega)))
              ·
                intro vf pf hR
                have e6 : (vf 6) = elP v12 (((pc.getD m pnt0).n).toNat * 1) ∧ (pf 6) = [] := hR 6 (by decide)
                refine Or.inl ⟨rfl, ?_⟩
                refine rq_less (l' := [boxE b17 #[.int .i64 ((pc.getD m pnt0).n), .int .i64 ((pc.getD m pnt0).s)] 47, rowE 3 1 v12 ((delL lg gs ((pl.getD i pnt0).n) rs.length).length) ((delL lg gs ((pl.getD i pnt0).n) rs.length).map (Value.int .i64)), boxE b11 #[.int .i64 ((pl.getD i pnt0).n), .int .i64 ((pl.getD i pnt0).s)] 47, rowE 4 1 (.slice (some ⟨g8, 0, none⟩) ((List.replicate pc.length bl0).length) ((List.replicate pc.length bl0).length)) ss.length (ss.flatMap blC), rowE 3 1 (.slice (some ⟨g5, 0, none⟩) ((List.replicate pc.length (0 : Int)).length) ((List.replicate pc.length (0 : Int)).length)) us.length (us.map (Value.int .i64)), intoE v2 rs, boxE b1 #[.int .i64 n, v] 38]) (sub_cons (d := 80) (congrArg some e6.1) (sub_nil _)) (List.sublist_append_right _ _) ?_
                exact rq_v (rv_loadEl (u := .int .i64 ((delL lg gs ((pl.getD i pnt0).n) rs.length).getD (((pc.getD m pnt0).n).toNat) 0)) rfl (by kernel_rfl) rfl (rd_row 1 rfl) (ints_at1 (show _ < (delL lg gs ((pl.getD i pnt0).n) rs.length).length by first | omega | (simp only [List.length_set]; omega))))
              ·
                intro vf pf hR
                refine Or.inl ⟨rfl, ?_⟩
                refine rq_less (l' := [boxE b17 #[.int .i64 ((pc.getD m pnt0).n), .int .i64 ((pc.getD m pnt0).s)] 47, rowE 3 1 v12 ((delL lg gs ((pl.getD i pnt0).n) rs.length).length) ((delL lg gs ((pl.getD i pnt0).n) rs.length).map (Value.int .i64)), boxE b11 #[.int .i64 ((pl.getD i pnt0).n), .int .i64 ((pl.getD i pnt0).s)] 47, rowE 4 1 (.slice (some ⟨g8, 0, none⟩) ((List.replicate pc.length bl0).length) ((List.replicate pc.length bl0).length)) ss.length (ss.flatMap blC), rowE 3 1 (.slice (some ⟨g5, 0, none⟩) ((List.replicate pc.length (0 : Int)).length) ((List.replicate pc.length (0 : Int)).length)) us.length (us.map (Value.int .i64)), intoE v2 rs, boxE b1 #[.int .i64 n, v] 38]) (sub_cons (d := 22) rfl (sub_nil _)) (List.sublist_append_right _ _) ?_
                exact rq_v (rv_ev rfl)
              ·
                intro vf pf hR
                have e0 : (vf 0) = .func (.func f) #[] cs.toArray ∧ (pf 0) = [] := hR 0 (by decide)
                have e1 : (vf 1) = .agg #[.int .i64 ((pl.getD i pnt0).n), .int .i64 ((pl.getD i pnt0).s)] ∧ (pf 1) = [] := hR 1 (by decide)
                have e2 : (vf 2) = .agg #[.int .i64 ((pc.getD m pnt0).n), .int .i64 ((pc.getD m pnt0).s)] ∧ (pf 2) = [] := hR 2 (by decide)
                have e7 : (vf 7) = .int .i64 ((delL lg gs ((pl.getD i pnt0).n) rs.length).getD (((pc.getD m pnt0).n).toNat) 0) ∧ (pf 7) = [] := hR 7 (by decide)
                have e8 : (vf 8) = .int .i64 (cyc pe (i : Int) (m : Int)) ∧ (pf 8) = [] := hR 8 (by decide)
                refine Or.inl ⟨rfl, ?_⟩
                refine rq_less (l' := [boxE b17 #[.int .i64 ((pc.getD m pnt0).n), .int .i64 ((pc.getD m pnt0).s)] 47, rowE 3 1 v12 ((delL lg gs ((pl.getD i pnt0).n) rs.length).length) ((delL lg gs ((pl.getD i pnt0).n) rs.length).map (Value.int .i64)), boxE b11 #[.int .i64 ((pl.getD i pnt0).n), .int .i64 ((pl.getD i pnt0).s)] 47, rowE 4 1 (.slice (some ⟨g8, 0, none⟩) ((List.replicate pc.length bl0).length) ((List.replicate pc.length bl0).length)) ss.length (ss.flatMap blC), rowE 3 1 (.slice (some ⟨g5, 0, none⟩) ((List.replicate pc.length (0 : Int)).length) ((List.replicate pc.length (0 : Int)).length)) us.length (us.map (Value.int .i64)), intoE v2 rs, boxE b1 #[.int .i64 n, v] 38]) (sub_cons (d := 74) (congrArg some e0.1) (sub_cons (d := 75) (congrArg some e1.1) (sub_cons (d := 76) (congrArg some e2.1) (sub_cons (d := 81) (congrArg some e7.1) (sub_cons (d := 82) (congrArg some e8.1) (sub_nil _)))))) (List.sublist_append_right _ _) ?_
                exact (rq_callF hgo rfl rfl (fun w hm => ret_ans (hF w hm.bel (pl.getD i pnt0) (pc.getD m pnt0) _ _ (by omega) (by omega) (by omega) (by omega))))
            ·
              intro vf pf hR
              have e9 : (vf 9) = .int .i64 (F (pl.getD i pnt0) (pc.getD m pnt0) ((delL lg gs ((pl.getD i pnt0).n) rs.length).getD (((pc.getD m pnt0).n).toNat) 0) (cyc pe (i : Int) (m : Int))) ∧ (pf 9) = [] := hR 9 (by decide)
              refine hl_less (l' := [boxE b17 #[.int .i64 ((pc.getD m pnt0).n), .int .i64 ((pc.getD m pnt0).s)] 47, rowE 3 1 v12 ((delL lg gs ((pl.getD i pnt0).n) rs.length).length) ((delL lg gs ((pl.getD i pnt0).n) rs.length).map (Value.int .i64)), boxE b11 #[.int .i64 ((pl.getD i pnt0).n), .int .i64 ((pl.getD i pnt0).s)] 47, rowE 4 1 (.slice (some ⟨g8, 0, none⟩) ((List.replicate pc.length bl0).length) ((List.replicate pc.length bl0).length)) ss.length (ss.flatMap blC), rowE 3 1 (.slice (some ⟨g5, 0, none⟩) ((List.replicate pc.length (0 : Int)).length) ((List.replicate pc.length (0 : Int)).length)) us.length (us.map (Value.int .i64)), intoE v2 rs, boxE b1 #[.int .i64 n, v] 38]) (sub_cons (d := 0) rfl (sub_cons (d := 1) rfl (sub_cons (d := 2) rfl (sub_cons (d := 3) rfl (sub_cons (d := 4) rfl (sub_cons (d := 5) rfl (sub_cons (d := 6) rfl (sub_cons (d := 12) rfl (sub_cons (d := 13) rfl (sub_cons (d := 14) rfl (sub_cons (d := 16) rfl (sub_cons (d := 17) rfl (sub_cons (d := 18) rfl (sub_cons (d := 19) rfl (sub_cons (d := 20) rfl (sub_cons (d := 21) rfl (sub_cons (d := 22) rfl (sub_cons (d := 30) rfl (sub_cons (d := 31) rfl (sub_cons (d := 32) rfl (sub_cons (d := 41) rfl (sub_cons (d := 42) rfl (sub_cons (d := 43) rfl (sub_cons (d := 44) rfl (sub_cons (d := 53) rfl (sub_cons (d := 54) rfl (sub_cons (d := 55) rfl (sub_cons (d := 56) rfl (sub_cons (d := 73) rfl (sub_cons (d := 83) (congrArg some e9.1) (sub_nil _))))))))))))))))))))))))))))))) (List.sublist_append_right _ _) ?_
              simp only [List.drop_succ_cons, List.drop_zero]
              refine hl_v rfl rfl rfl (rv_ev rfl) ?_
              refine hl_less (sub_cons (d := 0) rfl (sub_cons (d := 1) rfl (sub_cons (d := 2) rfl (sub_cons (d := 3) rfl (sub_cons (d := 4) rfl (sub_cons (d := 5) rfl (sub_cons (d := 6) rfl (sub_cons (d := 12) rfl (sub_cons (d := 13) rfl (sub_cons (d := 14) rfl (sub_cons (d := 16) rfl (sub_cons (d := 17) rfl (sub_cons (d := 18) rfl (sub_cons (d := 19) rfl (sub_cons (d := 20) rfl (sub_cons (d := 21) rfl (sub_cons (d := 22) rfl (sub_cons (d := 23) rfl (sub_cons (d := 30) rfl (sub_cons (d := 31) rfl (sub_cons (d := 32) rfl (sub_cons (d := 41) rfl (sub_cons (d := 42) rfl (sub_cons (d := 43) rfl (sub_cons (d := 44) rfl (sub_cons (d := 53) rfl (sub_cons (d := 54) rfl (sub_cons (d := 55) rfl (sub_cons (d := 56) rfl (sub_cons (d := 73) rfl (sub_nil _))))))))))))))))))))))))))))))) (.refl _) ?_
              refine hl_nil ?_
              refine hq_then ?_
              refine hc_seq ?_
              refine hc_seq ?_
              refine hc_region ?_
              refine hl_v rfl rfl rfl (rv_ev rfl) ?_
              refine hl_v rfl rfl rfl (rv_ev rfl) ?_
              refine hl_v rfl rfl rfl (rv_index (s := 1) rfl Try.underlying55 (by kernel_rfl) rfl rfl (rd_row 3 rfl) (by omega) (by first | omega | (simp only [List.length_set]; omega))) ?_
              refine hl_v rfl rfl rfl (rv_loadEl (u := .bool ((ss.getD m bl0).b)) rfl (by kernel_rfl) rfl (rd_row 3 rfl) (flat_one blC (fun r => .bool r.b) (fun _ => rfl) ss bl0 (show m < _ by first | omega | (simp only [List.length_set]; omega)))) ?_
              refine hl_bool (fun h20 => ?_) (fun h20 => ?_)
              ·
                refine hl_v rfl rfl rfl (rv_ev rfl) ?_
                refine hl_v rfl rfl rfl (rv_ev rfl) ?_
                refine hl_v rfl rfl rfl (rv_ev rfl) ?_
                refine hl_v rfl rfl rfl (rv_ev rfl) ?_
                refine hl_v rfl rfl rfl (rv_ev rfl) ?_
                refine hl_v rfl rfl rfl (rv_index (s := 1) rfl Try.underlying43 (by kernel_rfl) rfl rfl (rd_row 4 rfl) (by omega) (by first | omega | (simp only [List.length_set]; omega))) ?_
                refine hl_v rfl rfl rfl (rv_loadEl (u := .int .i64 (us.getD m 0)) rfl (by kernel_rfl) rfl (rd_row 4 rfl) (ints_at1 (show _ < us.length by first | omega | (simp only [List.length_set]; omega)))) ?_
                refine hl_lss rfl rfl rfl rfl rfl rfl (fun h21 => ?_) (fun h21 => ?_)
                ·
                  refine hl_v rfl rfl rfl (rv_ev rfl) ?_
                  refine hl_less (sub_cons (d := 0) rfl (sub_cons (d := 1) rfl (sub_cons (d := 2) rfl (sub_cons (d := 3) rfl (sub_cons (d := 4) rfl (sub_cons (d := 5) rfl (sub_cons (d := 6) rfl (sub_cons (d := 12) rfl (sub_cons (d := 13) rfl (sub_cons (d := 14) rfl (sub_cons (d := 16) rfl (sub_cons (d := 17) rfl (sub_cons (d := 18) rfl (sub_cons (d := 19) rfl (sub_cons (d := 20) rfl (sub_cons (d := 21) rfl (sub_cons (d := 22) rfl (sub_cons (d := 23) rfl (sub_cons (d := 30) rfl (sub_cons (d := 31) rfl (sub_cons (d := 32) rfl (sub_cons (d := 41) rfl (sub_cons (d := 42) rfl (sub_cons (d := 43) rfl (sub_cons (d := 44) rfl (sub_cons (d := 53) rfl (sub_cons (d := 54) rfl (sub_cons (d := 55) rfl (sub_cons (d := 56) rfl (sub_cons (d := 73) rfl (sub_cons (d := 96) rfl (sub_nil _)))))))))))))))))))))))))))))))) (.refl _) ?_
                  refine hl_nil ?_
                  refine hq_then ?_
                  refine hc_true rfl ?_
                  refine hc_region ?_
                  refine hl_v rfl rfl rfl (rv_ev rfl) ?_
                  refine hl_v rfl rfl rfl (rv_ev rfl) ?_
                  refine hl_v rfl rfl rfl (rv_ev rfl) ?_
                  refine hl_v rfl rfl rfl (rv_index (s := 1) rfl Try.underlying43 (by kernel_rfl) rfl rfl (rd_row 4 rfl) (by omega) (by first | omega | (simp only [List.length_set]; omega))) ?_
                  refine hl_storeEl (i := 4) (n' := (us.set m (F (pl.getD i pnt0) (pc.getD m pnt0) ((delL lg gs ((pl.getD i pnt0).n) rs.length).getD (((pc.getD m pnt0).n).toNat) 0) (cyc pe (i : Int) (m : Int)))).length) (xs' := ((us.set m (F (pl.getD i pnt0) (pc.getD m pnt0) ((delL lg gs ((pl.getD i pnt0).n) rs.length).getD (((pc.getD m pnt0).n).toNat) 0) (cyc pe (i : Int) (m : Int)))).map (Value.int .i64))) (l' := [boxE b17 #[.int .i64 ((pc.getD m pnt0).n), .int .i64 ((pc.getD m pnt0).s)] 47, rowE 3 1 v12 ((delL lg gs ((pl.getD i pnt0).n) rs.length).length) ((delL lg gs ((pl.getD i pnt0).n) rs.length).map (Value.int .i64)), boxE b11 #[.int .i64 ((pl.getD i pnt0).n), .int .i64 ((pl.getD i pnt0).s)] 47, rowE 4 1 (.slice (some ⟨g8, 0, none⟩) ((List.replicate pc.length bl0).length) ((List.replicate pc.length bl0).length)) ss.length (ss.flatMap blC), rowE 3 1 (.slice (some ⟨g5, 0, none⟩) ((List.replicate pc.length (0 : Int)).length) ((List.replicate pc.length (0 : Int)).length)) ((us.set m (F (pl.getD i pnt0) (pc.getD m pnt0) ((delL lg gs ((pl.getD i pnt0).n) rs.length).getD (((pc.getD m pnt0).n).toNat) 0) (cyc pe (i : Int) (m : Int)))).length) ((us.set m (F (pl.getD i pnt0) (pc.getD m pnt0) ((delL lg gs ((pl.getD i pnt0).n) rs.length).getD (((pc.getD m pnt0).n).toNat) 0) (cyc pe (i : Int) (m : Int)))).map (Value.int .i64)), intoE v2 rs, boxE b1 #[.int .i64 n, v] 38]) rfl rfl rfl (by kernel_rfl) rfl rfl rfl rfl (by first | omega | (simp only [List.length_set]; omega)) List.length_set.symm (ints_set _ _ _) rfl ?_
                  refine hl_less (sub_cons (d := 0) rfl (sub_cons (d := 1) rfl (sub_cons (d := 2) rfl (sub_cons (d := 3) rfl (sub_cons (d := 4) rfl (sub_cons (d := 5) rfl (sub_cons (d := 6) rfl (sub_cons (d := 12) rfl (sub_cons (d := 13) rfl (sub_cons (d := 14) rfl (sub_cons (d := 16) rfl (sub_cons (d := 17) rfl (sub_cons (d := 18) rfl (sub_cons (d := 19) rfl (sub_cons (d := 20) rfl (sub_cons (d := 21) rfl (sub_cons (d := 22) rfl (sub_cons (d := 23) rfl (sub_cons (d := 30) rfl (sub_cons (d := 31) rfl (sub_cons (d := 32) rfl (sub_cons (d := 41) rfl (sub_cons (d := 42) rfl (sub_cons (d := 43) rfl (sub_cons (d := 44) rfl (sub_cons (d := 53) rfl (sub_cons (d := 54) rfl (sub_cons (d := 55) rfl (sub_cons (d := 56) rfl (sub_cons (d := 73) rfl (sub_cons (d := 96) rfl (sub_nil _)))))))))))))))))))))))))))))))) (.refl _) ?_
                  refine hl_nil ?_
                  refine hq_then ?_
                  refine hc_region ?_
                  refine hl_v rfl rfl rfl (rv_ev rfl) ?_
                  refine hl_v rfl rfl rfl (rv_ev rfl) ?_
                  refine hl_v rfl rfl rfl (rv_index (s := 1) rfl Try.underlying55 (by kernel_rfl) rfl rfl (rd_row 3 rfl) (by omega) (by first | omega | (simp only [List.length_set]; omega))) ?_
                  refine hl_storeEl (i := 3) (n' := (ss.set m { ss.getD m bl0 with b := true }).length) (xs' := ((ss.set m { ss.getD m bl0 with b := true }).flatMap blC)) (l' := [boxE b17 #[.int .i64 ((pc.getD m pnt0).n), .int .i64 ((pc.getD m pnt0).s)] 47, rowE 3 1 v12 ((delL lg gs ((pl.getD i pnt0).n) rs.length).length) ((delL lg gs ((pl.getD i pnt0).n) rs.length).map (Value.int .i64)), boxE b11 #[.int .i64 ((pl.getD i pnt0).n), .int .i64 ((pl.getD i pnt0).s)] 47, rowE 4 1 (.slice (some ⟨g8, 0, none⟩) ((List.replicate pc.length bl0).length) ((List.replicate pc.length bl0).length)) ((ss.set m { ss.getD m bl0 with b := true }).length) ((ss.set m { ss.getD m bl0 with b := true }).flatMap blC), rowE 3 1 (.slice (some ⟨g5, 0, none⟩) ((List.replicate pc.length (0 : Int)).length) ((List.replicate pc.length (0 : Int)).length)) ((us.set m (F (pl.getD i pnt0) (pc.getD m pnt0) ((delL lg gs ((pl.getD i pnt0).n) rs.length).getD (((pc.getD m pnt0).n).toNat) 0) (cyc pe (i : Int) (m : Int)))).length) ((us.set m (F (pl.getD i pnt0) (pc.getD m pnt0) ((delL lg gs ((pl.getD i pnt0).n) rs.length).getD (((pc.getD m pnt0).n).toNat) 0) (cyc pe (i : Int) (m : Int)))).map (Value.int .i64)), intoE v2 rs, boxE b1 #[.int .i64 n, v] 38]) rfl rfl rfl (by kernel_rfl) rfl rfl rfl rfl (by first | omega | (simp only [List.length_set]; omega)) List.length_set.symm (flat_set1 blC (fun r => .bool r.b) (fun _ => rfl) _ ({ ss.getD m bl0 with b := true }) rfl) rfl ?_
                  refine hl_less (sub_cons (d := 0) rfl (sub_cons (d := 1) rfl (sub_cons (d := 2) rfl (sub_cons (d := 3) rfl (sub_cons (d := 4) rfl (sub_cons (d := 5) rfl (sub_cons (d := 6) rfl (sub_cons (d := 12) rfl (sub_cons (d := 13) rfl (sub_cons (d := 14) rfl (sub_cons (d := 16) rfl (sub_cons (d := 17) rfl (sub_cons (d := 18) rfl (sub_cons (d := 19) rfl (sub_cons (d := 20) rfl (sub_cons (d := 21) rfl (sub_cons (d := 22) rfl (sub_cons (d := 23) rfl (sub_cons (d := 30) rfl (sub_cons (d := 31) rfl (sub_cons (d := 32) rfl (sub_cons (d := 41) rfl (sub_cons (d := 42) rfl (sub_cons (d := 43) rfl (sub_cons (d := 44) rfl (sub_cons (d := 53) rfl (sub_cons (d := 54) rfl (sub_cons (d := 55) rfl (sub_cons (d := 56) rfl (sub_cons (d := 73) rfl (sub_cons (d := 96) rfl (sub_nil _)))))))))))))))))))))))))))))))) (.refl _) ?_
                  refine hl_nil ?_
                  refine hq_block_normal ?_
                  refine hq_then ?_
                  refine hc_region ?_
                  refine hl_v rfl rfl rfl (rv_add rfl rfl rfl (by constructor <;> omega)) ?_
                  refine hl_v rfl rfl rfl (rv_ev rfl) ?_
                  refine hl_less (sub_cons (d := 0) rfl (sub_cons (d := 1) rfl (sub_cons (d := 2) rfl (sub_cons (d := 3) rfl (sub_cons (d := 4) rfl (sub_cons (d := 5) rfl (sub_cons (d := 6) rfl (sub_cons (d := 12) rfl (sub_cons (d := 13) rfl (sub_cons (d := 14) rfl (sub_cons (d := 16) rfl (sub_cons (d := 17) rfl (sub_cons (d := 18) rfl (sub_cons (d := 19) rfl (sub_cons (d := 20) rfl (sub_cons (d := 21) rfl (sub_cons (d := 22) rfl (sub_cons (d := 23) rfl (sub_cons (d := 30) rfl (sub_cons (d := 31) rfl (sub_cons (d := 32) rfl (sub_cons (d := 41) rfl (sub_cons (d := 42) rfl (sub_cons (d := 43) rfl (sub_cons (d := 44) rfl (sub_cons (d := 53) rfl (sub_cons (d := 54) rfl (sub_cons (d := 55) rfl (sub_cons (d := 56) rfl (sub_cons (d := 73) rfl (sub_cons (d := 96) rfl (sub_nil _)))))))))))))))))))))))))))))))) (.refl _) ?_
                  refine hl_nil ?_
                  exact hq_round3 (m + 1) (us.set m (F (pl.getD i pnt0) (pc.getD m pnt0) ((delL lg gs ((pl.getD i pnt0).n) rs.length).getD (((pc.getD m pnt0).n).toNat) 0) (cyc pe (i : Int) (m : Int)))) (ss.set m { ss.getD m bl0 with b := true }) ⟨by omega, by (try simp only [List.length_set]); exact hul, by (try simp only [List.length_set]); exact hsl, fun r hr => by
      by_cases hrm : r = m
      · subst hrm
        rw [if_pos (by omega)]
        first | exact held_set (by rw [getD_set_self' (by omega)]) (by rw [getD_set_self' (by omega)]) (best_new (by omega) (by omega)) hm0 hval (.inl (by assumption)) | exact held_set (by rw [getD_set_self' (by omega)]) (by rw [getD_set_self' (by omega)]) (best_new (by omega) (by omega)) hm0 hval (.inr (by omega))
      · have h7 := hk r hr
        rw [getD_set_ne2 (fun e => hrm e.symm), getD_set_ne2 (fun e => hrm e.symm)]
        by_cases hlt : r < m
        · rw [if_pos (by omega)]; rwa [if_pos hlt] at h7
        · rw [if_neg (by omega)]; rwa [if_neg hlt] at h7⟩ (by omega) (sub_cons (d := 0) rfl (sub_cons (d := 1) rfl (sub_cons (d := 2) rfl (sub_cons (d := 3) rfl (sub_cons (d := 4) rfl (sub_cons (d := 5) rfl (sub_cons (d := 6) rfl (sub_cons (d := 12) rfl (sub_cons (d := 13) rfl (sub_cons (d := 14) rfl (sub_cons (d := 16) rfl (sub_cons (d := 17) rfl (sub_cons (d := 18) rfl (sub_cons (d := 19) rfl (sub_cons (d := 30) rfl (sub_cons (d := 31) rfl (sub_cons (d := 32) rfl (sub_cons (d := 41) rfl (sub_cons (d := 42) rfl (sub_cons (d := 43) rfl (sub_cons (d := 44) rfl (sub_cons (d := 53) rfl (sub_cons (d := 54) rfl (sub_cons (d := 55) rfl (sub_nil _))))))))))))))))))))))))) ((.cons _ (.cons_cons _ (.cons_cons _ (.cons_cons _ (.cons_cons _ (.cons_cons _ (.cons_cons _ .slnil))))))))
                ·
                  refine hl_v rfl rfl rfl (rv_ev rfl) ?_
                  refine hl_less (sub_cons (d := 0) rfl (sub_cons (d := 1) rfl (sub_cons (d := 2) rfl (sub_cons (d := 3) rfl (sub_cons (d := 4) rfl (sub_cons (d := 5) rfl (sub_cons (d := 6) rfl (sub_cons (d := 12) rfl (sub_cons (d := 13) rfl (sub_cons (d := 14) rfl (sub_cons (d := 16) rfl (sub_cons (d := 17) rfl (sub_cons (d := 18) rfl (sub_cons (d := 19) rfl (sub_cons (d := 20) rfl (sub_cons (d := 21) rfl (sub_cons (d := 22) rfl (sub_cons (d := 23) rfl (sub_cons (d := 30) rfl (sub_cons (d := 31) rfl (sub_cons (d := 32) rfl (sub_cons (d := 41) rfl (sub_cons (d := 42) rfl (sub_cons (d := 43) rfl (sub_cons (d := 44) rfl (sub_cons (d := 53) rfl (sub_cons (d := 54) rfl (sub_cons (d := 55) rfl (sub_cons (d := 56) rfl (sub_cons (d := 73) rfl (sub_cons (d := 96) rfl (sub_nil _)))))))))))))))))))))))))))))))) (.refl _) ?_
                  refine hl_nil ?_
                  refine hq_then ?_
                  refine hc_false rfl ?_
                  refine hc_skip ?_
                  refine hq_then ?_
                  refine hc_region ?_
                  refine hl_v rfl rfl rfl (rv_ev rfl) ?_
                  refine hl_v rfl rfl rfl (rv_ev rfl) ?_
                  refine hl_v rfl rfl rfl (rv_index (s := 1) rfl Try.underlying55 (by kernel_rfl) rfl rfl (rd_row 3 rfl) (by omega) (by first | omega | (simp only [List.length_set]; omega))) ?_
                  refine hl_storeEl (i := 3) (n' := (ss.set m { ss.getD m bl0 with b := true }).length) (xs' := ((ss.set m { ss.getD m bl0 with b := true }).flatMap blC)) (l' := [boxE b17 #[.int .i64 ((pc.getD m pnt0).n), .int .i64 ((pc.getD m pnt0).s)] 47, rowE 3 1 v12 ((delL lg gs ((pl.getD i pnt0).n) rs.length).length) ((delL lg gs ((pl.getD i pnt0).n) rs.length).map (Value.int .i64)), boxE b11 #[.int .i64 ((pl.getD i pnt0).n), .int .i64 ((pl.getD i pnt0).s)] 47, rowE 4 1 (.slice (some ⟨g8, 0, none⟩) ((List.replicate pc.length bl0).length) ((List.replicate pc.length bl0).length)) ((ss.set m { ss.getD m bl0 with b := true }).length) ((ss.set m { ss.getD m bl0 with b := true }).flatMap blC), rowE 3 1 (.slice (some ⟨g5, 0, none⟩) ((List.replicate pc.length (0 : Int)).length) ((List.replicate pc.length (0 : Int)).length)) us.length (us.map (Value.int .i64)), intoE v2 rs, boxE b1 #[.int .i64 n, v] 38]) rfl rfl rfl (by kernel_rfl) rfl rfl rfl rfl (by first | omega | (simp only [List.length_set]; omega)) List.length_set.symm (flat_set1 blC (fun r => .bool r.b) (fun _ => rfl) _ ({ ss.getD m bl0 with b := true }) rfl) rfl ?_
                  refine hl_less (sub_cons (d := 0) rfl (sub_cons (d := 1) rfl (sub_cons (d := 2) rfl (sub_cons (d := 3) rfl (sub_cons (d := 4) rfl (sub_cons (d := 5) rfl (sub_cons (d := 6) rfl (sub_cons (d := 12) rfl (sub_cons (d := 13) rfl (sub_cons (d := 14) rfl (sub_cons (d := 16) rfl (sub_cons (d := 17) rfl (sub_cons (d := 18) rfl (sub_cons (d := 19) rfl (sub_cons (d := 20) rfl (sub_cons (d := 21) rfl (sub_cons (d := 22) rfl (sub_cons (d := 23) rfl (sub_cons (d := 30) rfl (sub_cons (d := 31) rfl (sub_cons (d := 32) rfl (sub_cons (d := 41) rfl (sub_cons (d := 42) rfl (sub_cons (d := 43) rfl (sub_cons (d := 44) rfl (sub_cons (d := 53) rfl (sub_cons (d := 54) rfl (sub_cons (d := 55) rfl (sub_cons (d := 56) rfl (sub_cons (d := 73) rfl (sub_cons (d := 96) rfl (sub_nil _)))))))))))))))))))))))))))))))) (.refl _) ?_
                  refine hl_nil ?_
                  refine hq_block_normal ?_
                  refine hq_then ?_
                  refine hc_region ?_
                  refine hl_v rfl rfl rfl (rv_add rfl rfl rfl (by constructor <;> omega)) ?_
                  refine hl_v rfl rfl rfl (rv_ev rfl) ?_
                  refine hl_less (sub_cons (d := 0) rfl (sub_cons (d := 1) rfl (sub_cons (d := 2) rfl (sub_cons (d := 3) rfl (sub_cons (d := 4) rfl (sub_cons (d := 5) rfl (sub_cons (d := 6) rfl (sub_cons (d := 12) rfl (sub_cons (d := 13) rfl (sub_cons (d := 14) rfl (sub_cons (d := 16) rfl (sub_cons (d := 17) rfl (sub_cons (d := 18) rfl (sub_cons (d := 19) rfl (sub_cons (d := 20) rfl (sub_cons (d := 21) rfl (sub_cons (d := 22) rfl (sub_cons (d := 23) rfl (sub_cons (d := 30) rfl (sub_cons (d := 31) rfl (sub_cons (d := 32) rfl (sub_cons (d := 41) rfl (sub_cons (d := 42) rfl (sub_cons (d := 43) rfl (sub_cons (d := 44) rfl (sub_cons (d := 53) rfl (sub_cons (d := 54) rfl (sub_cons (d := 55) rfl (sub_cons (d := 56) rfl (sub_cons (d := 73) rfl (sub_cons (d := 96) rfl (sub_nil _)))))))))))))))))))))))))))))))) (.refl _) ?_
                  refine hl_nil ?_
                  exact hq_round3 (m + 1) us (ss.set m { ss.getD m bl0 with b := true }) ⟨by omega, by (try simp only [List.length_set]); exact hul, by (try simp only [List.length_set]); exact hsl, fun r hr => by
      by_cases hrm : r = m
      · subst hrm
        rw [if_pos (by omega)]
        exact held_keep hm0 (by rw [getD_set_self' (by omega)]) (by omega) hval (best_new (by omega) (by omega)) (by assumption) (by omega)
      · have h7 := hk r hr
        rw [getD_set_ne2 (fun e => hrm e.symm)]
        by_cases hlt : r < m
        · rw [if_pos (by omega)]; rwa [if_pos hlt] at h7
        · rw [if_neg (by omega)]; rwa [if_neg hlt] at h7⟩ (by omega) (sub_cons (d := 0) rfl (sub_cons (d := 1) rfl (sub_cons (d := 2) rfl (sub_cons (d := 3) rfl (sub_cons (d := 4) rfl (sub_cons (d := 5) rfl (sub_cons (d := 6) rfl (sub_cons (d := 12) rfl (sub_cons (d := 13) rfl (sub_cons (d := 14) rfl (sub_cons (d := 16) rfl (sub_cons (d := 17) rfl (sub_cons (d := 18) rfl (sub_cons (d := 19) rfl (sub_cons (d := 30) rfl (sub_cons (d := 31) rfl (sub_cons (d := 32) rfl (sub_cons (d := 41) rfl (sub_cons (d := 42) rfl (sub_cons (d := 43) rfl (sub_cons (d := 44) rfl (sub_cons (d := 53) rfl (sub_cons (d := 54) rfl (sub_cons (d := 55) rfl (sub_nil _))))))))))))))))))))))))) ((.cons _ (.cons_cons _ (.cons_cons _ (.cons_cons _ (.cons_cons _ (.cons_cons _ (.cons_cons _ .slnil))))))))
              ·
                refine hl_v rfl rfl rfl (rv_ev rfl) ?_
                refine hl_v rfl rfl rfl (rv_ev rfl) ?_
                refine hl_skip rfl rfl rfl ?_
                refine hl_skip rfl rfl rfl ?_
                refine hl_skip rfl rfl rfl ?_
                refine hl_skip rfl rfl rfl ?_
                refine hl_skip rfl rfl rfl ?_
                refine hl_skip rfl rfl rfl ?_
                refine hl_v rfl rfl rfl (rv_ev rfl) ?_
                refine hl_less (sub_cons (d := 0) rfl (sub_cons (d := 1) rfl (sub_cons (d := 2) rfl (sub_cons (d := 3) rfl (sub_cons (d := 4) rfl (sub_cons (d := 5) rfl (sub_cons (d := 6) rfl (sub_cons (d := 12) rfl (sub_cons (d := 13) rfl (sub_cons (d := 14) rfl (sub_cons (d := 16) rfl (sub_cons (d := 17) rfl (sub_cons (d := 18) rfl (sub_cons (d := 19) rfl (sub_cons (d := 20) rfl (sub_cons (d := 21) rfl (sub_cons (d := 22) rfl (sub_cons (d := 23) rfl (sub_cons (d := 30) rfl (sub_cons (d := 31) rfl (sub_cons (d := 32) rfl (sub_cons (d := 41) rfl (sub_cons (d := 42) rfl (sub_cons (d := 43) rfl (sub_cons (d := 44) rfl (sub_cons (d := 53) rfl (sub_cons (d := 54) rfl (sub_cons (d := 55) rfl (sub_cons (d := 56) rfl (sub_cons (d := 73) rfl (sub_cons (d := 96) rfl (sub_nil _)))))))))))))))))))))))))))))))) (.refl _) ?_
                refine hl_nil ?_
                refine hq_then ?_
                refine hc_true rfl ?_
                refine hc_region ?_
                refine hl_v rfl rfl rfl (rv_ev rfl) ?_
                refine hl_v rfl rfl rfl (rv_ev rfl) ?_
                refine hl_v rfl rfl rfl (rv_ev rfl) ?_
                refine hl_v rfl rfl rfl (rv_index (s := 1) rfl Try.underlying43 (by kernel_rfl) rfl rfl (rd_row 4 rfl) (by omega) (by first | omega | (simp only [List.length_set]; omega))) ?_
                refine hl_storeEl (i := 4) (n' := (us.set m (F (pl.getD i pnt0) (pc.getD m pnt0) ((delL lg gs ((pl.getD i pnt0).n) rs.length).getD (((pc.getD m pnt0).n).toNat) 0) (cyc pe (i : Int) (m : Int)))).length) (xs' := ((us.set m (F (pl.getD i pnt0) (pc.getD m pnt0) ((delL lg gs ((pl.getD i pnt0).n) rs.length).getD (((pc.getD m pnt0).n).toNat) 0) (cyc pe (i : Int) (m : Int)))).map (Value.int .i64))) (l' := [boxE b17 #[.int .i64 ((pc.getD m pnt0).n), .int .i64 ((pc.getD m pnt0).s)] 47, rowE 3 1 v12 ((delL lg gs ((pl.getD i pnt0).n) rs.length).length) ((delL lg gs ((pl.getD i pnt0).n) rs.length).map (Value.int .i64)), boxE b11 #[.int .i64 ((pl.getD i pnt0).n), .int .i64 ((pl.getD i pnt0).s)] 47, rowE 4 1 (.slice (some ⟨g8, 0, none⟩) ((List.replicate pc.length bl0).length) ((List.replicate pc.length bl0).length)) ss.length (ss.flatMap blC), rowE 3 1 (.slice (some ⟨g5, 0, none⟩) ((List.replicate pc.length (0 : Int)).length) ((List.replicate pc.length (0 : Int)).length)) ((us.set m (F (pl.getD i pnt0) (pc.getD m pnt0) ((delL lg gs ((pl.getD i pnt0).n) rs.length).getD (((pc.getD m pnt0).n).toNat) 0) (cyc pe (i : Int) (m : Int)))).length) ((us.set m (F (pl.getD i pnt0) (pc.getD m pnt0) ((delL lg gs ((pl.getD i pnt0).n) rs.length).getD (((pc.getD m pnt0).n).toNat) 0) (cyc pe (i : Int) (m : Int)))).map (Value.int .i64)), intoE v2 rs, boxE b1 #[.int .i64 n, v] 38]) rfl rfl rfl (by kernel_rfl) rfl rfl rfl rfl (by first | omega | (simp only [List.length_set]; omega)) List.length_set.symm (ints_set _ _ _) rfl ?_
                refine hl_less (sub_cons (d := 0) rfl (sub_cons (d := 1) rfl (sub_cons (d := 2) rfl (sub_cons (d := 3) rfl (sub_cons (d := 4) rfl (sub_cons (d := 5) rfl (sub_cons (d := 6) rfl (sub_cons (d := 12) rfl (sub_cons (d := 13) rfl (sub_cons (d := 14) rfl (sub_cons (d := 16) rfl (sub_cons (d := 17) rfl (sub_cons (d := 18) rfl (sub_cons (d := 19) rfl (sub_cons (d := 20) rfl (sub_cons (d := 21) rfl (sub_cons (d := 22) rfl (sub_cons (d := 23) rfl (sub_cons (d := 30) rfl (sub_cons (d := 31) rfl (sub_cons (d := 32) rfl (sub_cons (d := 41) rfl (sub_cons (d := 42) rfl (sub_cons (d := 43) rfl (sub_cons (d := 44) rfl (sub_cons (d := 53) rfl (sub_cons (d := 54) rfl (sub_cons (d := 55) rfl (sub_cons (d := 56) rfl (sub_cons (d := 73) rfl (sub_cons (d := 96) rfl (sub_nil _)))))))))))))))))))))))))))))))) (.refl _) ?_
                refine hl_nil ?_
                refine hq_then ?_
                refine hc_region ?_
                refine hl_v rfl rfl rfl (rv_ev rfl) ?_
                refine hl_v rfl rfl rfl (rv_ev rfl) ?_
                refine hl_v rfl rfl rfl (rv_index (s := 1) rfl Try.underlying55 (by kernel_rfl) rfl rfl (rd_row 3 rfl) (by omega) (by first | omega | (simp only [List.length_set]; omega))) ?_
                refine hl_storeEl (i := 3) (n' := (ss.set m { ss.getD m bl0 with b := true }).length) (xs' := ((ss.set m { ss.getD m bl0 with b := true }).flatMap blC)) (l' := [boxE b17 #[.int .i64 ((pc.getD m pnt0).n), .int .i64 ((pc.getD m pnt0).s)] 47, rowE 3 1 v12 ((delL lg gs ((pl.getD i pnt0).n) rs.length).length) ((delL lg gs ((pl.getD i pnt0).n) rs.length).map (Value.int .i64)), boxE b11 #[.int .i64 ((pl.getD i pnt0).n), .int .i64 ((pl.getD i pnt0).s)] 47, rowE 4 1 (.slice (some ⟨g8, 0, none⟩) ((List.replicate pc.length bl0).length) ((List.replicate pc.length bl0).length)) ((ss.set m { ss.getD m bl0 with b := true }).length) ((ss.set m { ss.getD m bl0 with b := true }).flatMap blC), rowE 3 1 (.slice (some ⟨g5, 0, none⟩) ((List.replicate pc.length (0 : Int)).length) ((List.replicate pc.length (0 : Int)).length)) ((us.set m (F (pl.getD i pnt0) (pc.getD m pnt0) ((delL lg gs ((pl.getD i pnt0).n) rs.length).getD (((pc.getD m pnt0).n).toNat) 0) (cyc pe (i : Int) (m : Int)))).length) ((us.set m (F (pl.getD i pnt0) (pc.getD m pnt0) ((delL lg gs ((pl.getD i pnt0).n) rs.length).getD (((pc.getD m pnt0).n).toNat) 0) (cyc pe (i : Int) (m : Int)))).map (Value.int .i64)), intoE v2 rs, boxE b1 #[.int .i64 n, v] 38]) rfl rfl rfl (by kernel_rfl) rfl rfl rfl rfl (by first | omega | (simp only [List.length_set]; omega)) List.length_set.symm (flat_set1 blC (fun r => .bool r.b) (fun _ => rfl) _ ({ ss.getD m bl0 with b := true }) rfl) rfl ?_
                refine hl_less (sub_cons (d := 0) rfl (sub_cons (d := 1) rfl (sub_cons (d := 2) rfl (sub_cons (d := 3) rfl (sub_cons (d := 4) rfl (sub_cons (d := 5) rfl (sub_cons (d := 6) rfl (sub_cons (d := 12) rfl (sub_cons (d := 13) rfl (sub_cons (d := 14) rfl (sub_cons (d := 16) rfl (sub_cons (d := 17) rfl (sub_cons (d := 18) rfl (sub_cons (d := 19) rfl (sub_cons (d := 20) rfl (sub_cons (d := 21) rfl (sub_cons (d := 22) rfl (sub_cons (d := 23) rfl (sub_cons (d := 30) rfl (sub_cons (d := 31) rfl (sub_cons (d := 32) rfl (sub_cons (d := 41) rfl (sub_cons (d := 42) rfl (sub_cons (d := 43) rfl (sub_cons (d := 44) rfl (sub_cons (d := 53) rfl (sub_cons (d := 54) rfl (sub_cons (d := 55) rfl (sub_cons (d := 56) rfl (sub_cons (d := 73) rfl (sub_cons (d := 96) rfl (sub_nil _)))))))))))))))))))))))))))))))) (.refl _) ?_
                refine hl_nil ?_
                refine hq_block_normal ?_
                refine hq_then ?_
                refine hc_region ?_
                refine hl_v rfl rfl rfl (rv_add rfl rfl rfl (by constructor <;> omega)) ?_
                refine hl_v rfl rfl rfl (rv_ev rfl) ?_
                refine hl_less (sub_cons (d := 0) rfl (sub_cons (d := 1) rfl (sub_cons (d := 2) rfl (sub_cons (d := 3) rfl (sub_cons (d := 4) rfl (sub_cons (d := 5) rfl (sub_cons (d := 6) rfl (sub_cons (d := 12) rfl (sub_cons (d := 13) rfl (sub_cons (d := 14) rfl (sub_cons (d := 16) rfl (sub_cons (d := 17) rfl (sub_cons (d := 18) rfl (sub_cons (d := 19) rfl (sub_cons (d := 20) rfl (sub_cons (d := 21) rfl (sub_cons (d := 22) rfl (sub_cons (d := 23) rfl (sub_cons (d := 30) rfl (sub_cons (d := 31) rfl (sub_cons (d := 32) rfl (sub_cons (d := 41) rfl (sub_cons (d := 42) rfl (sub_cons (d := 43) rfl (sub_cons (d := 44) rfl (sub_cons (d := 53) rfl (sub_cons (d := 54) rfl (sub_cons (d := 55) rfl (sub_cons (d := 56) rfl (sub_cons (d := 73) rfl (sub_cons (d := 96) rfl (sub_nil _)))))))))))))))))))))))))))))))) (.refl _) ?_
                refine hl_nil ?_
                exact hq_round3 (m + 1) (us.set m (F (pl.getD i pnt0) (pc.getD m pnt0) ((delL lg gs ((pl.getD i pnt0).n) rs.length).getD (((pc.getD m pnt0).n).toNat) 0) (cyc pe (i : Int) (m : Int)))) (ss.set m { ss.getD m bl0 with b := true }) ⟨by omega, by (try simp only [List.length_set]); exact hul, by (try simp only [List.length_set]); exact hsl, fun r hr => by
      by_cases hrm : r = m
      · subst hrm
        rw [if_pos (by omega)]
        first | exact held_set (by rw [getD_set_self' (by omega)]) (by rw [getD_set_self' (by omega)]) (best_new (by omega) (by omega)) hm0 hval (.inl (by assumption)) | exact held_set (by rw [getD_set_self' (by omega)]) (by rw [getD_set_self' (by omega)]) (best_new (by omega) (by omega)) hm0 hval (.inr (by omega))
      · have h7 := hk r hr
        rw [getD_set_ne2 (fun e => hrm e.symm), getD_set_ne2 (fun e => hrm e.symm)]
        by_cases hlt : r < m
        · rw [if_pos (by omega)]; rwa [if_pos hlt] at h7
        · rw [if_neg (by omega)]; rwa [if_neg hlt] at h7⟩ (by omega) (sub_cons (d := 0) rfl (sub_cons (d := 1) rfl (sub_cons (d := 2) rfl (sub_cons (d := 3) rfl (sub_cons (d := 4) rfl (sub_cons (d := 5) rfl (sub_cons (d := 6) rfl (sub_cons (d := 12) rfl (sub_cons (d := 13) rfl (sub_cons (d := 14) rfl (sub_cons (d := 16) rfl (sub_cons (d := 17) rfl (sub_cons (d := 18) rfl (sub_cons (d := 19) rfl (sub_cons (d := 30) rfl (sub_cons (d := 31) rfl (sub_cons (d := 32) rfl (sub_cons (d := 41) rfl (sub_cons (d := 42) rfl (sub_cons (d := 43) rfl (sub_cons (d := 44) rfl (sub_cons (d := 53) rfl (sub_cons (d := 54) rfl (sub_cons (d := 55) rfl (sub_nil _))))))))))))))))))))))))) ((.cons _ (.cons_cons _ (.cons_cons _ (.cons_cons _ (.cons_cons _ (.cons_cons _ (.cons_cons _ .slnil))))))))
      ·
        refine hl_less (sub_cons (d := 0) rfl (sub_cons (d := 1) rfl (sub_cons (d := 2) rfl (sub_cons (d := 3) rfl (sub_cons (d := 4) rfl (sub_cons (d := 5) rfl (sub_cons (d := 6) rfl (sub_cons (d := 12) rfl (sub_cons (d := 13) rfl (sub_cons (d := 14) rfl (sub_cons (d := 16) rfl (sub_cons (d := 17) rfl (sub_cons (d := 18) rfl (sub_cons (d := 19) rfl (sub_cons (d := 30) rfl (sub_cons (d := 31) rfl (sub_cons (d := 32) rfl (sub_cons (d := 41) rfl (sub_cons (d := 42) rfl (sub_cons (d := 43) rfl (sub_cons (d := 44) rfl (sub_cons (d := 53) rfl (sub_cons (d := 54) rfl (sub_cons (d := 55) rfl (sub_cons (d := 56) rfl (sub_nil _)))))))))))))))))))))))))) (.refl _) ?_
        refine hl_nil ?_
        refine hq_then ?_
        refine hc_seq ?_
        refine hc_false rfl ?_
        refine hc_exit ?_
        refine hq_then_exit ?_
        refine hq_then_exit ?_
        refine hq_block_exit ?_
        refine hq_block_normal ?_
        refine hq_then ?_
        refine hc_region ?_
        refine hl_v rfl rfl rfl (rv_add rfl rfl rfl (by constructor <;> omega)) ?_
        refine hl_v rfl rfl rfl (rv_ev rfl) ?_
        refine hl_less (sub_cons (d := 0) rfl (sub_cons (d := 1) rfl (sub_cons (d := 2) rfl (sub_cons (d := 3) rfl (sub_cons (d := 4) rfl (sub_cons (d := 5) rfl (sub_cons (d := 6) rfl (sub_cons (d := 12) rfl (sub_cons (d := 13) rfl (sub_cons (d := 14) rfl (sub_cons (d := 16) rfl (sub_cons (d := 17) rfl (sub_cons (d := 18) rfl (sub_cons (d := 19) rfl (sub_cons (d := 30) rfl (sub_cons (d := 31) rfl (sub_cons (d := 32) rfl (sub_cons (d := 41) rfl (sub_cons (d := 42) rfl (sub_cons (d := 43) rfl (sub_cons (d := 44) rfl (sub_cons (d := 53) rfl (sub_cons (d := 54) rfl (sub_cons (d := 55) rfl (sub_cons (d := 56) rfl (sub_nil _)))))))))))))))))))))))))) (.refl _) ?_
        refine hl_nil ?_
        exact hq_round3 (i + 1) us ss ⟨by omega, ⟨hul, hsl⟩, fun r hr => by have := hk r hr; rwa [if_pos (by omega)] at this⟩ (by omega) (sub_cons (d := 0) rfl (sub_cons (d := 1) rfl (sub_cons (d := 2) rfl (sub_cons (d := 3) rfl (sub_cons (d := 4) rfl (sub_cons (d := 5) rfl (sub_cons (d := 6) rfl (sub_cons (d := 12) rfl (sub_cons (d := 13) rfl (sub_cons (d := 14) rfl (sub_cons (d := 16) rfl (sub_cons (d := 30) rfl (sub_cons (d := 31) rfl (sub_cons (d := 32) rfl (sub_cons (d := 41) rfl (sub_cons (d := 42) rfl (sub_cons (d := 43) rfl (sub_nil _)))))))))))))))))) ((.cons _ (.cons _ (.cons_cons _ (.cons_cons _ (.cons_cons _ (.cons_cons _ .slnil)))))))
    ·
      refine hl_less (sub_cons (d := 0) rfl (sub_cons (d := 1) rfl (sub_cons (d := 2) rfl (sub_cons (d := 3) rfl (sub_cons (d := 4) rfl (sub_cons (d := 5) rfl (sub_cons (d := 6) rfl (sub_cons (d := 12) rfl (sub_cons (d := 13) rfl (sub_cons (d := 14) rfl (sub_cons (d := 16) rfl (sub_cons (d := 30) rfl (sub_cons (d := 31) rfl (sub_cons (d := 32) rfl (sub_cons (d := 41) rfl (sub_cons (d := 42) rfl (sub_cons (d := 43) rfl (sub_cons (d := 44) rfl (sub_nil _))))))))))))))))))) (.refl _) ?_
      refine hl_nil ?_
      refine hq_then ?_
      refine hc_seq ?_
      refine hc_false rfl ?_
      refine hc_exit ?_
      refine hq_then_exit ?_
      refine hq_then_exit ?_
      refine hq_block_exit ?_
      refine hq_then ?_
      refine hc_seq ?_
      refine hc_region ?_
      refine hl_v rfl rfl rfl (rv_ev rfl) ?_
      refine hl_v rfl rfl rfl (rv_ev rfl) ?_
      refine hl_less (sub_cons (d := 0) rfl (sub_cons (d := 1) rfl (sub_cons (d := 2) rfl (sub_cons (d := 3) rfl (sub_cons (d := 4) rfl (sub_cons (d := 5) rfl (sub_cons (d := 6) rfl (sub_cons (d := 12) rfl (sub_cons (d := 13) rfl (sub_cons (d := 14) rfl (sub_cons (d := 16) rfl (sub_cons (d := 30) rfl (sub_cons (d := 31) rfl (sub_cons (d := 32) rfl (sub_cons (d := 41) rfl (sub_cons (d := 42) rfl (sub_cons (d := 43) rfl (sub_cons (d := 44) rfl (sub_nil _))))))))))))))))))) (.refl _) ?_
      refine hl_nil ?_
      refine hq_then ?_
      refine hc_ret ?_
      have hin : i = pl.length := by omega
      exact hq_retR (post := [rowE 3 1 (.slice (some ⟨g5, 0, none⟩) ((List.replicate pc.length (0 : Int)).length) ((List.replicate pc.length (0 : Int)).length)) ys.length (ys.map (Value.int .i64))]) rfl rfl ((.cons _ (.cons_cons _ (.cons _ (.cons _ .slnil))))) ⟨ys, rfl, hyl, fun r hr => by have := hh r hr; rw [hin] at this; exact ⟨_, this⟩⟩
end Go.Proofs.Yteccnnpcigkmhaa
