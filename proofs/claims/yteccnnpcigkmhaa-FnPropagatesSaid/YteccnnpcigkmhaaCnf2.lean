/- Unit propagation: the walks. -/
import Derived.Test.YteccnnpcigkmhaaCnf1
set_option linter.unusedVariables false
set_option linter.unusedSimpArgs false
namespace Go.Proofs.Yteccnnpcigkmhaa
open Go.RowKit
set_option maxHeartbeats 4000000 in
set_option maxRecDepth 100000 in
theorem propagate_ret (n : Int) (rs : List CRow) (v : Value) (ps : List Int) (pv : Value) (w : World) (hr : ClOk n rs) (hv : RdsCl w v rs) (hp : PsOk n ps) (hpv : RdsW w pv 1 ps.length (ps.map (Value.int .i64))) :
    Calls Try.prog 49 #[v, pv] w (Ret w (fun v' post => ∃ (u : Value) (out : List Int) (ok : Bool), v' = .tuple #[u, .bool ok] ∧ post = [rowE 3 1 u out.length (out.map (Value.int .i64))] ∧ POk n rs ps out ok)) := by
  have hn0 := hr.n0
  have hn1 := hr.n1
  have hrl := hr.len
  have hpl := hp.1
  refine calls_hc (N := 43) (args := [v, pv]) Try.func49 rfl rfl ?_
  refine hc_less _ (sub_cons (d := 0) rfl (sub_cons (d := 1) rfl (sub_nil _))) (.refl _) ?_
  refine hc_seq ?_
  refine hc_region ?_
  refine hl_v rfl rfl rfl (rv_ev rfl) ?_
  refine hl_v rfl rfl rfl (rv_ev rfl) ?_
  refine hl_less (sub_cons (d := 0) rfl (sub_cons (d := 1) rfl (sub_cons (d := 4) rfl (sub_cons (d := 5) rfl (sub_nil _))))) (.refl _) ?_
  refine hl_nil ?_
  refine hq_then ?_
  refine hc_seq ?_
  refine hc_region ?_
  refine hl_v rfl rfl rfl (rv_ev rfl) ?_
  refine hl_q rfl rfl rfl (rq_call (by kernel_rfl) rfl (fun w hm => copyInts_ret ps pv w (hpv.below hm.bel) (by omega))) ?_
  intro v1 p2 hR3
  subst hR3
  refine hl_v rfl rfl rfl (rv_ev rfl) ?_
  refine hl_less (sub_cons (d := 0) rfl (sub_cons (d := 1) rfl (sub_cons (d := 4) rfl (sub_cons (d := 5) rfl (sub_cons (d := 6) rfl (sub_nil _)))))) (.refl _) ?_
  refine hl_nil ?_
  refine hq_then ?_
  refine hc_seq ?_
  refine hc_seq ?_
  refine hc_region ?_
  refine hl_v rfl rfl rfl (rv_ev rfl) ?_
  refine hl_less (sub_cons (d := 0) rfl (sub_cons (d := 1) rfl (sub_cons (d := 4) rfl (sub_cons (d := 5) rfl (sub_cons (d := 6) rfl (sub_cons (d := 7) rfl (sub_nil _))))))) (.refl _) ?_
  refine hl_nil ?_
  refine hq_then ?_
  refine hc_block ?_
  refine hc_loop2 (α := List Int) (β := Bool) (fun zs ch => [rowE 3 1 v1 zs.length (zs.map (Value.int .i64))]) (fun zs ch => [(0, v), (1, pv), (4, .slice none 0 0), (5, .bool false), (6, v1), (7, .bool ch)]) (fun zs ch => PInv n rs ps zs ∧ (ch = false → Done rs ps rs.length)) (fun zs ch => 2 * zeros zs + (if ch = true then 1 else 0)) ps true ⟨pinv_start hp, fun h => by cases h⟩ (sub_cons (d := 0) rfl (sub_cons (d := 1) rfl (sub_cons (d := 4) rfl (sub_cons (d := 5) rfl (sub_cons (d := 6) rfl (sub_cons (d := 7) rfl (sub_nil _))))))) ((.cons_cons _ .slnil)) ?_
  intro zs ch hi4
  obtain ⟨hpz, hdz⟩ := hi4
  refine hc_seq ?_
  refine hc_seq ?_
  refine hc_region ?_
  refine hl_v rfl rfl rfl (rv_ev rfl) ?_
  refine hl_bool (fun h5 => ?_) (fun h5 => ?_)
  ·
    refine hl_less (sub_cons (d := 0) rfl (sub_cons (d := 1) rfl (sub_cons (d := 4) rfl (sub_cons (d := 5) rfl (sub_cons (d := 6) rfl (sub_cons (d := 7) rfl (sub_cons (d := 14) rfl (sub_nil _)))))))) (.refl _) ?_
    refine hl_nil ?_
    refine hq_then ?_
    refine hc_true rfl ?_
    refine hc_skip ?_
    refine hq_then ?_
    refine hc_block ?_
    refine hc_seq ?_
    refine hc_region ?_
    refine hl_v rfl rfl rfl (rv_ev rfl) ?_
    refine hl_less (sub_cons (d := 0) rfl (sub_cons (d := 1) rfl (sub_cons (d := 4) rfl (sub_cons (d := 5) rfl (sub_cons (d := 6) rfl (sub_cons (d := 7) rfl (sub_cons (d := 14) rfl (sub_nil _)))))))) (.refl _) ?_
    refine hl_nil ?_
    refine hq_then ?_
    refine hc_seq ?_
    refine hc_region ?_
    refine hl_v rfl rfl rfl (rv_ev rfl) ?_
    refine hl_v rfl rfl rfl (rv_len rfl Try.underlying52 rfl (rd_old hv.row)) ?_
    refine hl_v rfl rfl rfl (rv_ev rfl) ?_
    refine hl_less (sub_cons (d := 0) rfl (sub_cons (d := 1) rfl (sub_cons (d := 4) rfl (sub_cons (d := 5) rfl (sub_cons (d := 6) rfl (sub_cons (d := 7) rfl (sub_cons (d := 14) rfl (sub_cons (d := 15) rfl (sub_cons (d := 16) rfl (sub_cons (d := 17) rfl (sub_nil _))))))))))) (.refl _) ?_
    refine hl_nil ?_
    refine hq_then ?_
    refine hc_block ?_
    refine hc_loop3 (α := Nat) (β := List Int) (γ := Bool) (fun m ys c2 => [rowE 3 1 v1 ys.length (ys.map (Value.int .i64))]) (fun m ys c2 => [(0, v), (1, pv), (4, .slice none 0 0), (5, .bool false), (6, v1), (7, .bool c2), (14, .bool true), (15, v), (16, .int .i64 (rs.length : Int)), (17, .int .i64 (m : Int))]) (fun m ys c2 => m ≤ rs.length ∧ PInv n rs ps ys ∧ ((c2 = true ∧ zeros ys < zeros zs) ∨ (c2 = false ∧ zeros ys ≤ zeros zs)) ∧ Done rs ps m) (fun m ys c2 => rs.length - m) 0 zs false ⟨by omega, hpz, .inr ⟨rfl, Nat.le_refl _⟩, done_zero rs ps⟩ (sub_cons (d := 0) rfl (sub_cons (d := 1) rfl (sub_cons (d := 4) rfl (sub_cons (d := 5) rfl (sub_cons (d := 6) rfl (sub_cons (d := 7) rfl (sub_cons (d := 14) rfl (sub_cons (d := 15) rfl (sub_cons (d := 16) rfl (sub_cons (d := 17) rfl (sub_nil _))))))))))) ((.cons_cons _ .slnil)) ?_
    intro m ys c2 hi6
    obtain ⟨hm, hpi, hzc, hdn⟩ := hi6
    have hyl := hpi.ok.1
    refine hc_seq ?_
    refine hc_region ?_
    refine hl_lss rfl rfl rfl rfl rfl rfl (fun h7 => ?_) (fun h7 => ?_)
    ·
      refine hl_less (sub_cons (d := 0) rfl (sub_cons (d := 1) rfl (sub_cons (d := 4) rfl (sub_cons (d := 5) rfl (sub_cons (d := 6) rfl (sub_cons (d := 7) rfl (sub_cons (d := 14) rfl (sub_cons (d := 15) rfl (sub_cons (d := 16) rfl (sub_cons (d := 17) rfl (sub_cons (d := 18) rfl (sub_nil _)))))))))))) (.refl _) ?_
      refine hl_nil ?_
      refine hq_then ?_
      refine hc_seq ?_
      refine hc_true rfl ?_
      refine hc_skip ?_
      refine hq_then ?_
      refine hc_seq ?_
      refine hc_block ?_
      refine hc_seq ?_
      refine hc_region ?_
      refine hl_v rfl rfl rfl (rv_index (s := 1) rfl Try.underlying52 (by kernel_rfl) rfl rfl (rd_old hv.row) (by omega) (by first | omega | (simp only [List.length_set]; omega))) ?_
      refine hl_v rfl rfl rfl (rv_loadEl (u := (rs.getD m crow0).v) rfl (by kernel_rfl) rfl (rd_old hv.row) (flat_one crowC (fun r => r.v) (fun _ => rfl) rs crow0 (show m < _ by first | omega | (simp only [List.length_set]; omega)))) ?_
      refine hl_v rfl rfl rfl (rv_ev rfl) ?_
      refine hl_less (sub_cons (d := 0) rfl (sub_cons (d := 1) rfl (sub_cons (d := 4) rfl (sub_cons (d := 5) rfl (sub_cons (d := 6) rfl (sub_cons (d := 7) rfl (sub_cons (d := 9) rfl (sub_cons (d := 14) rfl (sub_cons (d := 15) rfl (sub_cons (d := 16) rfl (sub_cons (d := 17) rfl (sub_cons (d := 18) rfl (sub_nil _))))))))))))) (.refl _) ?_
      refine hl_nil ?_
      refine hq_then ?_
      refine hc_seq ?_
      refine hc_region ?_
      refine hl_v rfl rfl rfl (rv_ev rfl) ?_
      refine hl_v rfl rfl rfl (rv_ev rfl) ?_
      refine hl_q rfl rfl rfl (rq_call (by kernel_rfl) rfl (fun w hm => unitOf_ret n (rs.getD m crow0).xs ys (rs.getD m crow0).v v1 w ((hv.at (by omega)).below hm.bel) (rd_row 0 rfl w hm) (hr.ok m (by omega)) hpi.ok hn1)) ?_
      intro v8 p9 hR10
      obtain ⟨u, cf, rfl, rfl, huk⟩ := hR10
      refine hl_v rfl rfl rfl (rv_ev rfl) ?_
      refine hl_v rfl rfl rfl (rv_ev rfl) ?_
      refine hl_v rfl rfl rfl (rv_ev rfl) ?_
      refine hl_bool (fun h11 => ?_) (fun h11 => ?_)
      ·
        refine hl_v rfl rfl rfl (rv_ev rfl) ?_
        refine hl_v rfl rfl rfl (rv_ev rfl) ?_
        refine hl_less (sub_cons (d := 0) rfl (sub_cons (d := 1) rfl (sub_cons (d := 4) rfl (sub_cons (d := 5) rfl (sub_cons (d := 6) rfl (sub_cons (d := 7) rfl (sub_cons (d := 9) rfl (sub_cons (d := 10) rfl (sub_cons (d := 11) rfl (sub_cons (d := 14) rfl (sub_cons (d := 15) rfl (sub_cons (d := 16) rfl (sub_cons (d := 17) rfl (sub_cons (d := 18) rfl (sub_nil _))))))))))))))) (.refl _) ?_
        refine hl_nil ?_
        refine hq_then ?_
        refine hc_seq ?_
        refine hc_seq ?_
        refine hc_region ?_
        refine hl_v rfl rfl rfl (rv_ev rfl) ?_
        refine hl_less (sub_cons (d := 0) rfl (sub_cons (d := 1) rfl (sub_cons (d := 4) rfl (sub_cons (d := 5) rfl (sub_cons (d := 6) rfl (sub_cons (d := 7) rfl (sub_cons (d := 9) rfl (sub_cons (d := 10) rfl (sub_cons (d := 11) rfl (sub_cons (d := 14) rfl (sub_cons (d := 15) rfl (sub_cons (d := 16) rfl (sub_cons (d := 17) rfl (sub_cons (d := 18) rfl (sub_cons (d := 27) rfl (sub_nil _)))))))))))))))) (.refl _) ?_
        refine hl_nil ?_
        refine hq_then ?_
        refine hc_true rfl ?_
        refine hc_seq ?_
        refine hc_region ?_
        refine hl_v rfl rfl rfl (rv_ev rfl) ?_
        refine hl_v rfl rfl rfl (rv_ev rfl) ?_
        refine hl_less (sub_cons (d := 0) rfl (sub_cons (d := 1) rfl (sub_cons (d := 4) rfl (sub_cons (d := 5) rfl (sub_cons (d := 6) rfl (sub_cons (d := 7) rfl (sub_cons (d := 9) rfl (sub_cons (d := 10) rfl (sub_cons (d := 11) rfl (sub_cons (d := 14) rfl (sub_cons (d := 15) rfl (sub_cons (d := 16) rfl (sub_cons (d := 17) rfl (sub_cons (d := 18) rfl (sub_cons (d := 27) rfl (sub_nil _)))))))))))))))) (.refl _) ?_
        refine hl_nil ?_
        refine hq_then ?_
        refine hc_ret ?_
        refine hq_then_ret ?_
        refine hq_block_ret ?_
        refine hq_then_ret ?_
        refine hq_then_ret ?_
        refine hq_block_ret ?_
        refine hq_block_ret ?_
        refine hq_then_ret ?_
        refine hq_block_ret ?_
        refine hq_then_ret ?_
        have hcf : cf = true := by assumption
        rw [hcf] at huk
        refine hq_conv (rowE 3 1 (.slice none 0 0) 0 [] :: [rowE 3 1 v1 ys.length (ys.map (Value.int .i64))]) (fun w hm => hm.nilRow 3 1) ?_
        exact hq_retM (rs := [.tmp 4, .tmp 5]) (vs := [.slice none 0 0, .bool false]) (post := [rowE 3 1 (.slice none 0 0) 0 []]) rfl ⟨rfl, rfl, trivial⟩ rfl (.cons_cons _ (List.nil_sublist _)) ⟨.slice none 0 0, [], false, rfl, rfl, pok_conf hr hpi (by omega) huk⟩
      ·
        refine hl_v rfl rfl rfl (rv_ev rfl) ?_
        refine hl_v rfl rfl rfl (rv_ev rfl) ?_
        refine hl_less (sub_cons (d := 0) rfl (sub_cons (d := 1) rfl (sub_cons (d := 4) rfl (sub_cons (d := 5) rfl (sub_cons (d := 6) rfl (sub_cons (d := 7) rfl (sub_cons (d := 9) rfl (sub_cons (d := 10) rfl (sub_cons (d := 11) rfl (sub_cons (d := 14) rfl (sub_cons (d := 15) rfl (sub_cons (d := 16) rfl (sub_cons (d := 17) rfl (sub_cons (d := 18) rfl (sub_nil _))))))))))))))) (.refl _) ?_
        refine hl_nil ?_
        refine hq_then ?_
        refine hc_seq ?_
        refine hc_seq ?_
        refine hc_region ?_
        refine hl_v rfl rfl rfl (rv_ev rfl) ?_
        refine hl_less (sub_cons (d := 0) rfl (sub_cons (d := 1) rfl (sub_cons (d := 4) rfl (sub_cons (d := 5) rfl (sub_cons (d := 6) rfl (sub_cons (d := 7) rfl (sub_cons (d := 9) rfl (sub_cons (d := 10) rfl (sub_cons (d := 11) rfl (sub_cons (d := 14) rfl (sub_cons (d := 15) rfl (sub_cons (d := 16) rfl (sub_cons (d := 17) rfl (sub_cons (d := 18) rfl (sub_cons (d := 27) rfl (sub_nil _)))))))))))))))) (.refl _) ?_
        refine hl_nil ?_
        refine hq_then ?_
        refine hc_false rfl ?_
        refine hc_skip ?_
        refine hq_then ?_
        refine hc_seq ?_
        refine hc_seq ?_
        refine hc_region ?_
        refine hl_v rfl rfl rfl (rv_ev rfl) ?_
        refine hl_gtr rfl rfl rfl rfl rfl rfl (fun h12 => ?_) (fun h12 => ?_)
        ·
          refine hl_less (sub_cons (d := 0) rfl (sub_cons (d := 1) rfl (sub_cons (d := 4) rfl (sub_cons (d := 5) rfl (sub_cons (d := 6) rfl (sub_cons (d := 7) rfl (sub_cons (d := 9) rfl (sub_cons (d := 10) rfl (sub_cons (d := 11) rfl (sub_cons (d := 14) rfl (sub_cons (d := 15) rfl (sub_cons (d := 16) rfl (sub_cons (d := 17) rfl (sub_cons (d := 18) rfl (sub_cons (d := 27) rfl (sub_cons (d := 29) rfl (sub_nil _))))))))))))))))) (.refl _) ?_
          refine hl_nil ?_
          refine hq_then ?_
          refine hc_true rfl ?_
          refine hc_seq ?_
          refine hc_region ?_
          have hur := huk.rng (hr.ok m (by omega)) (by omega)
          refine hl_v rfl rfl rfl (rv_ev rfl) ?_
          refine hl_v rfl rfl rfl (rv_ev rfl) ?_
          refine hl_v rfl rfl rfl (rv_sub rfl rfl rfl (by constructor <;> omega)) ?_
          refine hl_v rfl rfl rfl (rv_index (s := 1) rfl Try.underlying43 (by kernel_rfl) rfl rfl (rd_row 0 rfl) (by omega) (by first | omega | (simp only [List.length_set]; omega))) ?_
          refine hl_storeEl (i := 0) (n' := (ys.set ((u - 1).toNat) 1).length) (xs' := ((ys.set ((u - 1).toNat) 1).map (Value.int .i64))) (l' := [rowE 3 1 v1 ((ys.set ((u - 1).toNat) 1).length) ((ys.set ((u - 1).toNat) 1).map (Value.int .i64))]) rfl rfl rfl (by kernel_rfl) rfl rfl rfl rfl (by first | omega | (simp only [List.length_set]; omega)) List.length_set.symm (ints_set _ _ _) rfl ?_
          refine hl_less (sub_cons (d := 0) rfl (sub_cons (d := 1) rfl (sub_cons (d := 4) rfl (sub_cons (d := 5) rfl (sub_cons (d := 6) rfl (sub_cons (d := 7) rfl (sub_cons (d := 9) rfl (sub_cons (d := 10) rfl (sub_cons (d := 11) rfl (sub_cons (d := 14) rfl (sub_cons (d := 15) rfl (sub_cons (d := 16) rfl (sub_cons (d := 17) rfl (sub_cons (d := 18) rfl (sub_cons (d := 27) rfl (sub_cons (d := 29) rfl (sub_nil _))))))))))))))))) (.refl _) ?_
          refine hl_nil ?_
          refine hq_then ?_
          refine hc_region ?_
          refine hl_v rfl rfl rfl (rv_ev rfl) ?_
          refine hl_less (sub_cons (d := 0) rfl (sub_cons (d := 1) rfl (sub_cons (d := 4) rfl (sub_cons (d := 5) rfl (sub_cons (d := 6) rfl (sub_cons (d := 7) rfl (sub_cons (d := 9) rfl (sub_cons (d := 10) rfl (sub_cons (d := 11) rfl (sub_cons (d := 14) rfl (sub_cons (d := 15) rfl (sub_cons (d := 16) rfl (sub_cons (d := 17) rfl (sub_cons (d := 18) rfl (sub_cons (d := 27) rfl (sub_cons (d := 29) rfl (sub_nil _))))))))))))))))) (.refl _) ?_
          refine hl_nil ?_
          refine hq_then ?_
          refine hc_seq ?_
          refine hc_region ?_
          refine hl_v rfl rfl rfl (rv_ev rfl) ?_
          refine hl_lss rfl rfl rfl rfl rfl rfl (fun h13 => absurd h13 (by omega)) (fun h13 => ?_)
          refine hl_less (sub_cons (d := 0) rfl (sub_cons (d := 1) rfl (sub_cons (d := 4) rfl (sub_cons (d := 5) rfl (sub_cons (d := 6) rfl (sub_cons (d := 7) rfl (sub_cons (d := 9) rfl (sub_cons (d := 10) rfl (sub_cons (d := 11) rfl (sub_cons (d := 14) rfl (sub_cons (d := 15) rfl (sub_cons (d := 16) rfl (sub_cons (d := 17) rfl (sub_cons (d := 18) rfl (sub_cons (d := 27) rfl (sub_cons (d := 29) rfl (sub_cons (d := 35) rfl (sub_nil _)))))))))))))))))) (.refl _) ?_
          refine hl_nil ?_
          refine hq_then ?_
          refine hc_false rfl ?_
          refine hc_skip ?_
          refine hq_block_normal ?_
          refine hq_then ?_
          refine hc_region ?_
          refine hl_v rfl rfl rfl (rv_add rfl rfl rfl (by constructor <;> omega)) ?_
          refine hl_v rfl rfl rfl (rv_ev rfl) ?_
          refine hl_less (sub_cons (d := 0) rfl (sub_cons (d := 1) rfl (sub_cons (d := 4) rfl (sub_cons (d := 5) rfl (sub_cons (d := 6) rfl (sub_cons (d := 7) rfl (sub_cons (d := 9) rfl (sub_cons (d := 10) rfl (sub_cons (d := 11) rfl (sub_cons (d := 14) rfl (sub_cons (d := 15) rfl (sub_cons (d := 16) rfl (sub_cons (d := 17) rfl (sub_cons (d := 18) rfl (sub_cons (d := 27) rfl (sub_cons (d := 29) rfl (sub_cons (d := 35) rfl (sub_nil _)))))))))))))))))) (.refl _) ?_
          refine hl_nil ?_
          obtain ⟨g1, g2, g3⟩ := pinv_pos hr hpi (by omega) huk (by omega)
          exact hq_round3 (m + 1) (ys.set ((u - 1).toNat) 1) true ⟨by omega, g1, .inl ⟨rfl, by rcases hzc with ⟨_, h9⟩ | ⟨_, h9⟩ <;> omega⟩, done_unit hr hpi (by omega) huk (by omega)⟩ (by omega) (sub_cons (d := 0) rfl (sub_cons (d := 1) rfl (sub_cons (d := 4) rfl (sub_cons (d := 5) rfl (sub_cons (d := 6) rfl (sub_cons (d := 7) rfl (sub_cons (d := 14) rfl (sub_cons (d := 15) rfl (sub_cons (d := 16) rfl (sub_cons (d := 17) rfl (sub_nil _))))))))))) ((.cons_cons _ .slnil))
        ·
          refine hl_less (sub_cons (d := 0) rfl (sub_cons (d := 1) rfl (sub_cons (d := 4) rfl (sub_cons (d := 5) rfl (sub_cons (d := 6) rfl (sub_cons (d := 7) rfl (sub_cons (d := 9) rfl (sub_cons (d := 10) rfl (sub_cons (d := 11) rfl (sub_cons (d := 14) rfl (sub_cons (d := 15) rfl (sub_cons (d := 16) rfl (sub_cons (d := 17) rfl (sub_cons (d := 18) rfl (sub_cons (d := 27) rfl (sub_cons (d := 29) rfl (sub_nil _))))))))))))))))) (.refl _) ?_
          refine hl_nil ?_
          refine hq_then ?_
          refine hc_false rfl ?_
          refine hc_skip ?_
          refine hq_then ?_
          refine hc_seq ?_
          refine hc_region ?_
          refine hl_v rfl rfl rfl (rv_ev rfl) ?_
          refine hl_lss rfl rfl rfl rfl rfl rfl (fun h14 => ?_) (fun h14 => ?_)
          ·
            refine hl_less (sub_cons (d := 0) rfl (sub_cons (d := 1) rfl (sub_cons (d := 4) rfl (sub_cons (d := 5) rfl (sub_cons (d := 6) rfl (sub_cons (d := 7) rfl (sub_cons (d := 9) rfl (sub_cons (d := 10) rfl (sub_cons (d := 11) rfl (sub_cons (d := 14) rfl (sub_cons (d := 15) rfl (sub_cons (d := 16) rfl (sub_cons (d := 17) rfl (sub_cons (d := 18) rfl (sub_cons (d := 27) rfl (sub_cons (d := 29) rfl (sub_cons (d := 35) rfl (sub_nil _)))))))))))))))))) (.refl _) ?_
            refine hl_nil ?_
            refine hq_then ?_
            refine hc_true rfl ?_
            refine hc_seq ?_
            refine hc_region ?_
            have hur := huk.rng (hr.ok m (by omega)) (by omega)
            refine hl_v rfl rfl rfl (rv_ev rfl) ?_
            refine hl_v rfl rfl rfl (rv_ev rfl) ?_
            refine hl_v rfl rfl rfl (rv_neg rfl rfl (by omega) (by omega)) ?_
            refine hl_v rfl rfl rfl (rv_sub rfl rfl rfl (by constructor <;> omega)) ?_
            refine hl_v rfl rfl rfl (rv_index (s := 1) rfl Try.underlying43 (by kernel_rfl) rfl rfl (rd_row 0 rfl) (by omega) (by first | omega | (simp only [List.length_set]; omega))) ?_
            refine hl_storeEl (i := 0) (n' := (ys.set (((-u) - 1).toNat) (-1)).length) (xs' := ((ys.set (((-u) - 1).toNat) (-1)).map (Value.int .i64))) (l' := [rowE 3 1 v1 ((ys.set (((-u) - 1).toNat) (-1)).length) ((ys.set (((-u) - 1).toNat) (-1)).map (Value.int .i64))]) rfl rfl rfl (by kernel_rfl) rfl rfl rfl rfl (by first | omega | (simp only [List.length_set]; omega)) List.length_set.symm (ints_set _ _ _) rfl ?_
            refine hl_less (sub_cons (d := 0) rfl (sub_cons (d := 1) rfl (sub_cons (d := 4) rfl (sub_cons (d := 5) rfl (sub_cons (d := 6) rfl (sub_cons (d := 7) rfl (sub_cons (d := 9) rfl (sub_cons (d := 10) rfl (sub_cons (d := 11) rfl (sub_cons (d := 14) rfl (sub_cons (d := 15) rfl (sub_cons (d := 16) rfl (sub_cons (d := 17) rfl (sub_cons (d := 18) rfl (sub_cons (d := 27) rfl (sub_cons (d := 29) rfl (sub_cons (d := 35) rfl (sub_nil _)))))))))))))))))) (.refl _) ?_
            refine hl_nil ?_
            refine hq_then ?_
            refine hc_region ?_
            refine hl_v rfl rfl rfl (rv_ev rfl) ?_
            refine hl_less (sub_cons (d := 0) rfl (sub_cons (d := 1) rfl (sub_cons (d := 4) rfl (sub_cons (d := 5) rfl (sub_cons (d := 6) rfl (sub_cons (d := 7) rfl (sub_cons (d := 9) rfl (sub_cons (d := 10) rfl (sub_cons (d := 11) rfl (sub_cons (d := 14) rfl (sub_cons (d := 15) rfl (sub_cons (d := 16) rfl (sub_cons (d := 17) rfl (sub_cons (d := 18) rfl (sub_cons (d := 27) rfl (sub_cons (d := 29) rfl (sub_cons (d := 35) rfl (sub_nil _)))))))))))))))))) (.refl _) ?_
            refine hl_nil ?_
            refine hq_block_normal ?_
            refine hq_then ?_
            refine hc_region ?_
            refine hl_v rfl rfl rfl (rv_add rfl rfl rfl (by constructor <;> omega)) ?_
            refine hl_v rfl rfl rfl (rv_ev rfl) ?_
            refine hl_less (sub_cons (d := 0) rfl (sub_cons (d := 1) rfl (sub_cons (d := 4) rfl (sub_cons (d := 5) rfl (sub_cons (d := 6) rfl (sub_cons (d := 7) rfl (sub_cons (d := 9) rfl (sub_cons (d := 10) rfl (sub_cons (d := 11) rfl (sub_cons (d := 14) rfl (sub_cons (d := 15) rfl (sub_cons (d := 16) rfl (sub_cons (d := 17) rfl (sub_cons (d := 18) rfl (sub_cons (d := 27) rfl (sub_cons (d := 29) rfl (sub_cons (d := 35) rfl (sub_nil _)))))))))))))))))) (.refl _) ?_
            refine hl_nil ?_
            obtain ⟨g1, g2, g3⟩ := pinv_neg hr hpi (by omega) huk (by omega)
            exact hq_round3 (m + 1) (ys.set (((-u) - 1).toNat) (-1)) true ⟨by omega, g1, .inl ⟨rfl, by rcases hzc with ⟨_, h9⟩ | ⟨_, h9⟩ <;> omega⟩, done_unit hr hpi (by omega) huk (by omega)⟩ (by omega) (sub_cons (d := 0) rfl (sub_cons (d := 1) rfl (sub_cons (d := 4) rfl (sub_cons (d := 5) rfl (sub_cons (d := 6) rfl (sub_cons (d := 7) rfl (sub_cons (d := 14) rfl (sub_cons (d := 15) rfl (sub_cons (d := 16) rfl (sub_cons (d := 17) rfl (sub_nil _))))))))))) ((.cons_cons _ .slnil))
          ·
            refine hl_less (sub_cons (d := 0) rfl (sub_cons (d := 1) rfl (sub_cons (d := 4) rfl (sub_cons (d := 5) rfl (sub_cons (d := 6) rfl (sub_cons (d := 7) rfl (sub_cons (d := 9) rfl (sub_cons (d := 10) rfl (sub_cons (d := 11) rfl (sub_cons (d := 14) rfl (sub_cons (d := 15) rfl (sub_cons (d := 16) rfl (sub_cons (d := 17) rfl (sub_cons (d := 18) rfl (sub_cons (d := 27) rfl (sub_cons (d := 29) rfl (sub_cons (d := 35) rfl (sub_nil _)))))))))))))))))) (.refl _) ?_
            refine hl_nil ?_
            refine hq_then ?_
            refine hc_false rfl ?_
            refine hc_skip ?_
            refine hq_block_normal ?_
            refine hq_then ?_
            refine hc_region ?_
            refine hl_v rfl rfl rfl (rv_add rfl rfl rfl (by constructor <;> omega)) ?_
            refine hl_v rfl rfl rfl (rv_ev rfl) ?_
            refine hl_less (sub_cons (d := 0) rfl (sub_cons (d := 1) rfl (sub_cons (d := 4) rfl (sub_cons (d := 5) rfl (sub_cons (d := 6) rfl (sub_cons (d := 7) rfl (sub_cons (d := 9) rfl (sub_cons (d := 10) rfl (sub_cons (d := 11) rfl (sub_cons (d := 14) rfl (sub_cons (d := 15) rfl (sub_cons (d := 16) rfl (sub_cons (d := 17) rfl (sub_cons (d := 18) rfl (sub_cons (d := 27) rfl (sub_cons (d := 29) rfl (sub_cons (d := 35) rfl (sub_nil _)))))))))))))))))) (.refl _) ?_
            refine hl_nil ?_
            have hu0 : u = 0 := by omega
            have hcf : cf = false := by assumption
            rw [hu0, hcf] at huk
            exact hq_round3 (m + 1) ys c2 ⟨by omega, hpi, hzc, done_none hr hpi (by omega) huk hdn⟩ (by omega) (sub_cons (d := 0) rfl (sub_cons (d := 1) rfl (sub_cons (d := 4) rfl (sub_cons (d := 5) rfl (sub_cons (d := 6) rfl (sub_cons (d := 7) rfl (sub_cons (d := 14) rfl (sub_cons (d := 15) rfl (sub_cons (d := 16) rfl (sub_cons (d := 17) rfl (sub_nil _))))))))))) ((.cons_cons _ .slnil))
    ·
      refine hl_less (sub_cons (d := 0) rfl (sub_cons (d := 1) rfl (sub_cons (d := 4) rfl (sub_cons (d := 5) rfl (sub_cons (d := 6) rfl (sub_cons (d := 7) rfl (sub_cons (d := 14) rfl (sub_cons (d := 15) rfl (sub_cons (d := 16) rfl (sub_cons (d := 17) rfl (sub_cons (d := 18) rfl (sub_nil _)))))))))))) (.refl _) ?_
      refine hl_nil ?_
      refine hq_then ?_
      refine hc_seq ?_
      refine hc_false rfl ?_
      refine hc_exit ?_
      refine hq_then_exit ?_
      refine hq_then_exit ?_
      refine hq_block_exit ?_
      refine hq_block_normal ?_
      have hmr : m = rs.length := by omega
      exact hq_round2 ys c2 ⟨hpi, fun _ => hmr ▸ hdn⟩ (by have hch : ch = true := (by assumption); rcases hzc with ⟨h8, h9⟩ | ⟨h8, h9⟩ <;> simp only [h8, hch, if_true, if_false, Bool.false_eq_true] <;> omega) (sub_cons (d := 0) rfl (sub_cons (d := 1) rfl (sub_cons (d := 4) rfl (sub_cons (d := 5) rfl (sub_cons (d := 6) rfl (sub_cons (d := 7) rfl (sub_nil _))))))) ((.cons_cons _ .slnil))
  ·
    refine hl_less (sub_cons (d := 0) rfl (sub_cons (d := 1) rfl (sub_cons (d := 4) rfl (sub_cons (d := 5) rfl (sub_cons (d := 6) rfl (sub_cons (d := 7) rfl (sub_cons (d := 14) rfl (sub_nil _)))))))) (.refl _) ?_
    refine hl_nil ?_
    refine hq_then ?_
    refine hc_false rfl ?_
    refine hc_exit ?_
    refine hq_then_exit ?_
    refine hq_then_exit ?_
    refine hq_block_exit ?_
    refine hq_then ?_
    refine hc_seq ?_
    refine hc_region ?_
    refine hl_v rfl rfl rfl (rv_ev rfl) ?_
    refine hl_v rfl rfl rfl (rv_ev rfl) ?_
    refine hl_v rfl rfl rfl (rv_ev rfl) ?_
    refine hl_less (sub_cons (d := 0) rfl (sub_cons (d := 1) rfl (sub_cons (d := 4) rfl (sub_cons (d := 5) rfl (sub_cons (d := 6) rfl (sub_cons (d := 7) rfl (sub_cons (d := 14) rfl (sub_nil _)))))))) (.refl _) ?_
    refine hl_nil ?_
    refine hq_then ?_
    refine hc_ret ?_
    exact hq_retM (rs := [.tmp 4, .tmp 5]) (vs := [v1, .bool true]) (post := [rowE 3 1 v1 zs.length (zs.map (Value.int .i64))]) rfl ⟨rfl, rfl, trivial⟩ rfl ((.cons_cons _ .slnil)) ⟨_, zs, true, rfl, rfl, pok_end hpz (hdz (by assumption))⟩
set_option maxHeartbeats 4000000 in
set_option maxRecDepth 100000 in
theorem Propagate_ret (n : Int) (rs : List CRow) (v : Value) (ps : List Int) (pv : Value) (w : World) (hr : ClOk n rs) (hv : RdsCl w v rs) (hp : PsOk n ps) (hpv : RdsW w pv 1 ps.length (ps.map (Value.int .i64))) :
    Calls Try.prog 24 #[.agg #[.int .i64 n, v], pv] w (Ret w (fun v' post => ∃ (u : Value) (out : List Int) (ok : Bool), v' = .tuple #[u, .bool ok] ∧ post = [rowE 3 1 u out.length (out.map (Value.int .i64))] ∧ POk n rs ps out ok)) := by
  have hn0 := hr.n0
  have hn1 := hr.n1
  have hrl := hr.len
  have hpl := hp.1
  refine calls_hc (N := 34) (args := [.agg #[.int .i64 n, v], pv]) Try.func24 rfl rfl ?_
  refine hc_less _ (sub_cons (d := 0) rfl (sub_cons (d := 1) rfl (sub_nil _))) (.refl _) ?_
  refine hc_seq ?_
  refine hc_region ?_
  refine hl_box rfl rfl rfl (rq_box rfl rfl) ?_
  intro b1
  refine hl_v rfl rfl rfl (rv_ev rfl) ?_
  refine hl_v rfl rfl rfl (rv_ev rfl) ?_
  refine hl_less (sub_cons (d := 0) rfl (sub_cons (d := 1) rfl (sub_cons (d := 2) rfl (sub_cons (d := 4) rfl (sub_cons (d := 5) rfl (sub_nil _)))))) (.refl _) ?_
  refine hl_nil ?_
  refine hq_then ?_
  refine hc_seq ?_
  refine hc_seq ?_
  refine hc_region ?_
  refine hl_v rfl rfl rfl (rv_loadN (cs := [.int .i64 n, v]) rfl (by kernel_rfl) (by kernel_rfl) rfl rfl (box_part 0 rfl 0 rfl)) ?_
  refine hl_callV rfl rfl rfl (rq_call (by kernel_rfl) rfl (fun w hm => ret_ans (implCnfOk_yes n rs v w hr (hv.below hm.bel)))) ?_
  refine hl_v rfl rfl rfl (rv_ev rfl) ?_
  refine hl_v rfl rfl rfl (rv_ev rfl) ?_
  refine hl_v rfl rfl rfl (rv_ev rfl) ?_
  refine hl_v rfl rfl rfl (rv_len rfl Try.underlying43 rfl (rd_old hpv)) ?_
  refine hl_v rfl rfl rfl (rv_field (k0 := 0) rfl (by kernel_rfl) rfl) ?_
  refine hl_v rfl rfl rfl (rv_load rfl (by kernel_rfl) rfl (box_cell 0 rfl rfl)) ?_
  refine hl_neq rfl rfl rfl rfl rfl rfl (fun h2 => absurd h2 (by omega)) (fun h2 => ?_)
  refine hl_v rfl rfl rfl (rv_ev rfl) ?_
  refine hl_less (sub_cons (d := 0) rfl (sub_cons (d := 1) rfl (sub_cons (d := 2) rfl (sub_cons (d := 4) rfl (sub_cons (d := 5) rfl (sub_cons (d := 17) rfl (sub_nil _))))))) (.refl _) ?_
  refine hl_nil ?_
  refine hq_then ?_
  refine hc_false rfl ?_
  refine hc_skip ?_
  refine hq_then ?_
  refine hc_seq ?_
  refine hc_seq ?_
  refine hc_region ?_
  refine hl_v rfl rfl rfl (rv_ev rfl) ?_
  refine hl_v rfl rfl rfl (rv_len rfl Try.underlying43 rfl (rd_old hpv)) ?_
  refine hl_v rfl rfl rfl (rv_ev rfl) ?_
  refine hl_less (sub_cons (d := 0) rfl (sub_cons (d := 1) rfl (sub_cons (d := 2) rfl (sub_cons (d := 4) rfl (sub_cons (d := 5) rfl (sub_cons (d := 17) rfl (sub_cons (d := 18) rfl (sub_cons (d := 19) rfl (sub_cons (d := 20) rfl (sub_nil _)))))))))) (.refl _) ?_
  refine hl_nil ?_
  refine hq_then ?_
  refine hc_block ?_
  refine hc_loop1 (α := Nat) (fun j => [boxE b1 #[.int .i64 n, v] 54]) (fun j => [(0, .agg #[.int .i64 n, v]), (1, pv), (2, .pointer (some ⟨b1, 0, none⟩)), (4, .slice none 0 0), (5, .bool false), (17, .bool false), (18, pv), (19, .int .i64 (ps.length : Int)), (20, .int .i64 (j : Int))]) (fun j => j ≤ ps.length) (fun j => ps.length - j) 0 (Nat.zero_le _) (sub_cons (d := 0) rfl (sub_cons (d := 1) rfl (sub_cons (d := 2) rfl (sub_cons (d := 4) rfl (sub_cons (d := 5) rfl (sub_cons (d := 17) rfl (sub_cons (d := 18) rfl (sub_cons (d := 19) rfl (sub_cons (d := 20) rfl (sub_nil _)))))))))) ((.cons_cons _ .slnil)) ?_
  intro j hi3
  have hj := hi3
  refine hc_seq ?_
  refine hc_region ?_
  refine hl_lss rfl rfl rfl rfl rfl rfl (fun h4 => ?_) (fun h4 => ?_)
  ·
    refine hl_less (sub_cons (d := 0) rfl (sub_cons (d := 1) rfl (sub_cons (d := 2) rfl (sub_cons (d := 4) rfl (sub_cons (d := 5) rfl (sub_cons (d := 17) rfl (sub_cons (d := 18) rfl (sub_cons (d := 19) rfl (sub_cons (d := 20) rfl (sub_cons (d := 21) rfl (sub_nil _))))))))))) (.refl _) ?_
    refine hl_nil ?_
    refine hq_then ?_
    refine hc_seq ?_
    refine hc_true rfl ?_
    refine hc_skip ?_
    refine hq_then ?_
    refine hc_seq ?_
    refine hc_block ?_
    refine hc_seq ?_
    refine hc_region ?_
    refine hl_v rfl rfl rfl (rv_index (s := 1) rfl Try.underlying43 (by kernel_rfl) rfl rfl (rd_old hpv) (by omega) (by first | omega | (simp only [List.length_set]; omega))) ?_
    refine hl_v rfl rfl rfl (rv_loadEl (u := .int .i64 (ps.getD j 0)) rfl (by kernel_rfl) rfl (rd_old hpv) (ints_at1 (show _ < ps.length by first | omega | (simp only [List.length_set]; omega)))) ?_
    refine hl_v rfl rfl rfl (rv_ev rfl) ?_
    refine hl_less (sub_cons (d := 0) rfl (sub_cons (d := 1) rfl (sub_cons (d := 2) rfl (sub_cons (d := 4) rfl (sub_cons (d := 5) rfl (sub_cons (d := 7) rfl (sub_cons (d := 17) rfl (sub_cons (d := 18) rfl (sub_cons (d := 19) rfl (sub_cons (d := 20) rfl (sub_cons (d := 21) rfl (sub_nil _)))))))))))) (.refl _) ?_
    refine hl_nil ?_
    refine hq_then ?_
    refine hc_seq ?_
    refine hc_region ?_
    have hpj := hp.2 j (by omega)
    refine hl_v rfl rfl rfl (rv_ev rfl) ?_
    refine hl_callV rfl rfl rfl (rq_call (by kernel_rfl) rfl (fun w hm => ret_ans (inr_yes3 (by omega) (by omega) w))) ?_
    refine hl_v rfl rfl rfl (rv_ev rfl) ?_
    refine hl_less (sub_cons (d := 0) rfl (sub_cons (d := 1) rfl (sub_cons (d := 2) rfl (sub_cons (d := 4) rfl (sub_cons (d := 5) rfl (sub_cons (d := 7) rfl (sub_cons (d := 17) rfl (sub_cons (d := 18) rfl (sub_cons (d := 19) rfl (sub_cons (d := 20) rfl (sub_cons (d := 21) rfl (sub_cons (d := 26) rfl (sub_nil _))))))))))))) (.refl _) ?_
    refine hl_nil ?_
    refine hq_then ?_
    refine hc_false rfl ?_
    refine hc_skip ?_
    refine hq_block_normal ?_
    refine hq_then ?_
    refine hc_region ?_
    refine hl_v rfl rfl rfl (rv_add rfl rfl rfl (by constructor <;> omega)) ?_
    refine hl_v rfl rfl rfl (rv_ev rfl) ?_
    refine hl_less (sub_cons (d := 0) rfl (sub_cons (d := 1) rfl (sub_cons (d := 2) rfl (sub_cons (d := 4) rfl (sub_cons (d := 5) rfl (sub_cons (d := 7) rfl (sub_cons (d := 17) rfl (sub_cons (d := 18) rfl (sub_cons (d := 19) rfl (sub_cons (d := 20) rfl (sub_cons (d := 21) rfl (sub_cons (d := 26) rfl (sub_nil _))))))))))))) (.refl _) ?_
    refine hl_nil ?_
    exact hq_round1 (j + 1) (by omega) (by omega) (sub_cons (d := 0) rfl (sub_cons (d := 1) rfl (sub_cons (d := 2) rfl (sub_cons (d := 4) rfl (sub_cons (d := 5) rfl (sub_cons (d := 17) rfl (sub_cons (d := 18) rfl (sub_cons (d := 19) rfl (sub_cons (d := 20) rfl (sub_nil _)))))))))) ((.cons_cons _ .slnil))
  ·
    refine hl_less (sub_cons (d := 0) rfl (sub_cons (d := 1) rfl (sub_cons (d := 2) rfl (sub_cons (d := 4) rfl (sub_cons (d := 5) rfl (sub_cons (d := 17) rfl (sub_cons (d := 18) rfl (sub_cons (d := 19) rfl (sub_cons (d := 20) rfl (sub_cons (d := 21) rfl (sub_nil _))))))))))) (.refl _) ?_
    refine hl_nil ?_
    refine hq_then ?_
    refine hc_seq ?_
    refine hc_false rfl ?_
    refine hc_exit ?_
    refine hq_then_exit ?_
    refine hq_then_exit ?_
    refine hq_block_exit ?_
    refine hq_then ?_
    refine hc_seq ?_
    refine hc_region ?_
    refine hl_v rfl rfl rfl (rv_field (k0 := 1) rfl (by kernel_rfl) rfl) ?_
    refine hl_v rfl rfl rfl (rv_load rfl (by kernel_rfl) rfl (box_cell 0 rfl rfl)) ?_
    refine hl_v rfl rfl rfl (rv_ev rfl) ?_
    refine hl_q rfl rfl rfl (rq_call (by kernel_rfl) rfl (fun w hm => propagate_ret n rs v ps pv w hr (hv.below hm.bel) hp (hpv.below hm.bel))) ?_
    intro v5 p6 hR7
    obtain ⟨pu, out, pok, rfl, rfl, hpok⟩ := hR7
    refine hl_v rfl rfl rfl (rv_ev rfl) ?_
    refine hl_v rfl rfl rfl (rv_ev rfl) ?_
    refine hl_v rfl rfl rfl (rv_ev rfl) ?_
    refine hl_v rfl rfl rfl (rv_ev rfl) ?_
    refine hl_less (sub_cons (d := 0) rfl (sub_cons (d := 1) rfl (sub_cons (d := 2) rfl (sub_cons (d := 4) rfl (sub_cons (d := 5) rfl (sub_cons (d := 17) rfl (sub_cons (d := 18) rfl (sub_cons (d := 19) rfl (sub_cons (d := 20) rfl (sub_cons (d := 21) rfl (sub_nil _))))))))))) (.refl _) ?_
    refine hl_nil ?_
    refine hq_then ?_
    refine hc_ret ?_
    exact hq_retM (rs := [.tmp 4, .tmp 5]) (vs := [pu, .bool pok]) (post := [rowE 3 1 pu out.length (out.map (Value.int .i64))]) rfl ⟨rfl, rfl, trivial⟩ rfl ((.cons_cons _ (.cons _ .slnil))) ⟨pu, out, pok, rfl, rfl, hpok⟩
end Go.Proofs.Yteccnnpcigkmhaa
