/- The law FnSourcesLocal: its walk. -/
import Derived.Test.YtnnkbpcfjjijbaaSrc8
set_option linter.unusedVariables false
set_option linter.unusedSimpArgs false
namespace Go.Proofs.Ytnnkbpcfjjijbaa
open Go.RowKit

theorem loc_mod {x m : Int} (h : 0 < m) : 0 ≤ x % m ∧ x % m ≤ m - 1 := ⟨Int.emod_nonneg _ (by omega), by have := Int.emod_lt_of_pos x h; omega⟩
theorem pin00 {d : Dev} (hv : devB d = true) : inPinI d 0 0 = 0 ∧ outPinI d 0 0 = 5 := by
  have ht : tOk d 0 = true := (tOk_iff d 0).2 ⟨hv, by omega, by have := area_le hv; omega⟩
  have h1 := inPins_rng d 0
  have h2 := outPins_rng d 0
  constructor
  · unfold inPinI; rw [if_pos ⟨ht, by omega, by omega⟩]; simp
  · unfold outPinI; rw [if_pos ⟨ht, by omega, by omega⟩]; simp
theorem isWire_not {d : Dev} {y : Int} (h : isWireI d y = false) (hy : nodeOkI d y = true) : y % perI d < 7 := by
  unfold isWireI at h; rw [hy] at h; simpa using h
theorem loc_in {d : Dev} {k y : Int} (h : Loc d k y) (hw : y % perI d < 7) : 5 ≤ y % perI d ∧ y / perI d = k / perI d ∧ 7 ≤ k % perI d := by
  rcases h.2 with ⟨a, b, c, e⟩ | ⟨a, _⟩
  · exact ⟨a, c, e⟩
  · omega
theorem loc_reach {d : Dev} {k y : Int} (h : Loc d k y) (hv : devB d = true) (hw : 7 ≤ y % perI d) : hasB (reachS d y) (k / perI d) = true ∧ (7 ≤ k % perI d → getI (reachS d y) (((reachS d y).length : Int) - 1) = k / perI d) ∧ (7 ≤ k % perI d → (y % perI d - 7) / d.T ≠ ((k % perI d - 7) / d.T + 2) % 4) ∧ (reachS d y).length ≤ 2 ∧ 1 ≤ (reachS d y).length := by
  have hrs : reachS d y = reachN d (y / perI d) ((y % perI d - 7) / d.T) (1 + (y % perI d - 7) % d.T % 2).toNat := if_pos ⟨h.1, hw⟩
  have hrl : (reachS d y).length = (1 + (y % perI d - 7) % d.T % 2).toNat := by rw [hrs, reachN_len]
  rcases h.2 with ⟨a, b, _⟩ | ⟨_, s, e1, e2, e3, e4⟩
  · omega
  refine ⟨hasB_at _ _ (s - 1).toNat (by omega) ?_, fun h7 => ?_, fun h7 => (e4 h7).2, by omega, by omega⟩
  · rw [hrs, reach_get _ _ _ _ _ (by omega), ← e3]; congr 1; omega
  · obtain ⟨f1, -⟩ := e4 h7
    unfold getI
    rw [if_pos (by omega), show (((reachS d y).length : Int) - 1).toNat = ((y % perI d - 7) % d.T % 2).toNat by omega, hrs, reach_get _ _ _ _ _ (by omega), ← e3]; congr 1; omega
set_option maxHeartbeats 4000000 in
set_option maxRecDepth 100000 in
theorem walk_FnSourcesLocal (a0 : Option Addr) (len0 cap0 : Nat) (z0 : List Int) (w : World) (hbr : BRow .u8 w a0 len0 cap0 z0) :
    Calls Try.prog 8 #[.slice a0 len0 cap0] w (Ans w (.bool true)) := by
  have hcd0 := cod_le hbr 0
  have hcd1 := cod_le hbr 1
  refine calls_hc (N := 173) (args := [.slice a0 len0 cap0]) Try.func8 rfl rfl ?_
  refine hc_less _ (sub_cons (d := 0) rfl (sub_nil _)) (.refl _) ?_
  refine hc_seq ?_
  refine hc_region ?_
  refine hl_v rfl rfl rfl (rv_ev rfl) ?_
  refine hl_less (sub_cons (d := 0) rfl (sub_cons (d := 2) rfl (sub_nil _))) (.refl _) ?_
  refine hl_nil ?_
  refine hq_then ?_
  refine hc_seq ?_
  refine hc_seq ?_
  refine hc_region ?_
  refine hl_v rfl rfl rfl (rv_ev rfl) ?_
  refine hl_callV rfl rfl rfl (rq_call (by kernel_rfl) rfl (fun w hm => ret_ans (ans_of (big_any a0 len0 cap0 w (hbr.len_le))))) ?_
  refine hl_bool (fun h1 => ?_) (fun h1 => ?_)
  ·
    have h1p := of_decide_eq_true h1
    refine hl_less (sub_cons (d := 0) rfl (sub_cons (d := 2) rfl (sub_cons (d := 12) rfl (sub_nil _)))) (.refl _) ?_
    refine hl_nil ?_
    refine hq_then ?_
    refine hc_true rfl ?_
    refine hc_seq ?_
    refine hc_region ?_
    refine hl_v rfl rfl rfl (rv_ev rfl) ?_
    refine hl_less (sub_cons (d := 0) rfl (sub_cons (d := 2) rfl (sub_cons (d := 12) rfl (sub_nil _)))) (.refl _) ?_
    refine hl_nil ?_
    refine hq_then ?_
    refine hc_ret ?_
    refine hq_then_ret ?_
    exact hq_ans rfl rfl rfl
  ·
    have h1p := of_decide_eq_false h1
    refine hl_less (sub_cons (d := 0) rfl (sub_cons (d := 2) rfl (sub_cons (d := 12) rfl (sub_nil _)))) (.refl _) ?_
    refine hl_nil ?_
    refine hq_then ?_
    refine hc_false rfl ?_
    refine hc_skip ?_
    refine hq_then ?_
    refine hc_seq ?_
    refine hc_region ?_
    refine hl_v rfl rfl rfl (rv_ev rfl) ?_
    refine hl_q rfl rfl rfl (rq_call (by kernel_rfl) rfl (fun w hm => drawDev_ret hbr (by omega) w hm)) ?_
    intro v2 p3 hR4
    obtain ⟨d, hd, rfl, rfl⟩ := hR4
    have hv := hd.ok
    refine hl_box rfl rfl rfl (rq_alloc (z := .agg #[.int .i64 0, .int .i64 0, .int .i64 0, .int .i64 0]) rfl (by kernel_rfl)) ?_
    intro b5
    refine hl_storeBoxN (i := 0) (off := 0) (us := [.int .i64 d.W, .int .i64 d.H, .int .i64 d.T, .int .i64 d.R]) (l' := [boxE b5 #[.int .i64 d.W, .int .i64 d.H, .int .i64 d.T, .int .i64 d.R] 25]) rfl rfl rfl (by kernel_rfl) rfl rfl rfl (by simp [Value.oneCell']) rfl rfl rfl ?_
    refine hl_less (sub_cons (d := 0) rfl (sub_cons (d := 2) rfl (sub_cons (d := 3) rfl (sub_cons (d := 12) rfl (sub_nil _))))) (.refl _) ?_
    refine hl_nil ?_
    refine hq_then ?_
    refine hc_seq ?_
    refine hc_region ?_
    obtain ⟨q1, q2⟩ := per_rng hv
    obtain ⟨ra1, ra2⟩ := all_rng hv
    obtain ⟨ar1, ar2⟩ := area_le hv
    obtain ⟨⟨dw1, dw2⟩, ⟨dh1, dh2⟩, ⟨l1, l2⟩, -⟩ := (devB_iff d).1 hv
    have hall : allI d = d.W * d.H * perI d := rfl
    obtain ⟨pi0, po0⟩ := pin00 hv
    refine hl_v rfl rfl rfl (rv_field (k0 := 2) rfl (by kernel_rfl) rfl) ?_
    refine hl_v rfl rfl rfl (rv_load rfl (by kernel_rfl) rfl (box_cell 0 rfl rfl)) ?_
    refine hl_v rfl rfl rfl (rv_mul rfl rfl rfl (by constructor <;> omega)) ?_
    refine hl_v rfl rfl rfl (rv_add rfl rfl rfl (by constructor <;> omega)) ?_
    refine hl_v rfl rfl rfl (rv_ev rfl) ?_
    rw [show (7 : Int) + 4 * d.T = perI d from rfl]
    refine hl_less (sub_cons (d := 0) rfl (sub_cons (d := 2) rfl (sub_cons (d := 3) rfl (sub_cons (d := 4) rfl (sub_cons (d := 12) rfl (sub_nil _)))))) (.refl _) ?_
    refine hl_nil ?_
    refine hq_then ?_
    refine hc_seq ?_
    refine hc_region ?_
    refine hl_v rfl rfl rfl (rv_loadN (cs := [.int .i64 d.W, .int .i64 d.H, .int .i64 d.T, .int .i64 d.R]) rfl (by kernel_rfl) (by kernel_rfl) rfl rfl (box_part 0 rfl 0 rfl)) ?_
    refine hl_callV rfl rfl rfl (rq_call (by kernel_rfl) rfl (fun w hm => ret_ans (implRouteNodes_yes d hv w))) ?_
    refine hl_v rfl rfl rfl (rv_ev rfl) ?_
    refine hl_less (sub_cons (d := 0) rfl (sub_cons (d := 2) rfl (sub_cons (d := 3) rfl (sub_cons (d := 4) rfl (sub_cons (d := 5) rfl (sub_cons (d := 12) rfl (sub_nil _))))))) (.refl _) ?_
    refine hl_nil ?_
    refine hq_then ?_
    refine hc_seq ?_
    refine hc_seq ?_
    refine hc_region ?_
    refine hl_v rfl rfl rfl (rv_ev rfl) ?_
    refine hl_v rfl rfl rfl (rv_field (k0 := 0) rfl (by kernel_rfl) rfl) ?_
    refine hl_v rfl rfl rfl (rv_load rfl (by kernel_rfl) rfl (box_cell 0 rfl rfl)) ?_
    refine hl_v rfl rfl rfl (rv_field (k0 := 1) rfl (by kernel_rfl) rfl) ?_
    refine hl_v rfl rfl rfl (rv_load rfl (by kernel_rfl) rfl (box_cell 0 rfl rfl)) ?_
    refine hl_v rfl rfl rfl (rv_mul rfl rfl rfl (by constructor <;> omega)) ?_
    refine hl_v rfl rfl rfl (rv_ev rfl) ?_
    refine hl_v rfl rfl rfl (rv_mul rfl rfl rfl (by constructor <;> omega)) ?_
    refine hl_neq rfl rfl rfl rfl rfl rfl (fun h6 => absurd h6 (by omega)) (fun h6 => ?_)
    refine hl_less (sub_cons (d := 0) rfl (sub_cons (d := 2) rfl (sub_cons (d := 3) rfl (sub_cons (d := 4) rfl (sub_cons (d := 5) rfl (sub_cons (d := 12) rfl (sub_cons (d := 29) rfl (sub_nil _)))))))) (.refl _) ?_
    refine hl_nil ?_
    refine hq_then ?_
    refine hc_false rfl ?_
    refine hc_skip ?_
    refine hq_then ?_
    refine hc_seq ?_
    refine hc_region ?_
    refine hl_v rfl rfl rfl (rv_ev rfl) ?_
    refine hl_callV rfl rfl rfl (rq_call (by kernel_rfl) rfl (fun w hm => ret_ans (at_ans hbr 0 (by omega) w hm))) ?_
    refine hl_v rfl rfl rfl (rv_mul rfl rfl rfl (by constructor <;> omega)) ?_
    refine hl_v rfl rfl rfl (rv_ev rfl) ?_
    refine hl_callV rfl rfl rfl (rq_call (by kernel_rfl) rfl (fun w hm => ret_ans (at_ans hbr 1 (by omega) w hm))) ?_
    refine hl_v rfl rfl rfl (rv_add rfl rfl rfl (by constructor <;> omega)) ?_
    refine hl_v rfl rfl rfl (rv_ev rfl) ?_
    refine hl_v rfl rfl rfl (rv_rem rfl rfl rfl (by constructor <;> omega)) ?_
    refine hl_v rfl rfl rfl (rv_ev rfl) ?_
    obtain ⟨n, hn⟩ : ∃ n, (((cod z0 len0 0 : Int) * 256) + (cod z0 len0 1 : Int)) % (allI d) = n := ⟨_, rfl⟩
    rw [hn]
    obtain ⟨n0, n1⟩ : 0 ≤ n ∧ n ≤ allI d - 1 := hn ▸ loc_mod (by omega)
    obtain ⟨p0, p1, p2, p3, p4⟩ := place_rng hv n0 n1
    have hl16 := src_len16 d n
    have hgn : 7 ≤ n % perI d → 0 ≤ (n % perI d - 7) / d.T ∧ (n % perI d - 7) / d.T ≤ 3 := fun h => by obtain ⟨a, b, _, _⟩ := wire_rng hv h p3; exact ⟨a, b⟩
    refine hl_less (sub_cons (d := 0) rfl (sub_cons (d := 2) rfl (sub_cons (d := 3) rfl (sub_cons (d := 4) rfl (sub_cons (d := 5) rfl (sub_cons (d := 6) rfl (sub_cons (d := 12) rfl (sub_cons (d := 29) rfl (sub_nil _))))))))) (.refl _) ?_
    refine hl_nil ?_
    refine hq_then ?_
    refine hc_seq ?_
    refine hc_region ?_
    refine hl_v rfl rfl rfl (rv_loadN (cs := [.int .i64 d.W, .int .i64 d.H, .int .i64 d.T, .int .i64 d.R]) rfl (by kernel_rfl) (by kernel_rfl) rfl rfl (box_part 0 rfl 0 rfl)) ?_
    refine hl_v rfl rfl rfl (rv_ev rfl) ?_
    refine hl_q rfl rfl rfl (rq_call (by kernel_rfl) rfl (fun w hm => implSources_ret d _ w)) ?_
    intro v7 p8 hR9
    subst hR9
    refine hl_v rfl rfl rfl (rv_ev rfl) ?_
    refine hl_less (sub_cons (d := 0) rfl (sub_cons (d := 2) rfl (sub_cons (d := 3) rfl (sub_cons (d := 4) rfl (sub_cons (d := 5) rfl (sub_cons (d := 6) rfl (sub_cons (d := 7) rfl (sub_cons (d := 12) rfl (sub_cons (d := 29) rfl (sub_nil _)))))))))) (.refl _) ?_
    refine hl_nil ?_
    refine hq_then ?_
    refine hc_meet1 (α := Unit) (fun u0 => [rowE 3 1 v7 ((srcI d n).length) ((srcI d n).map (Value.int .i64)), boxE b5 #[.int .i64 d.W, .int .i64 d.H, .int .i64 d.T, .int .i64 d.R] 25]) (fun u0 => [(0, .slice a0 len0 cap0), (2, .bool false), (3, .pointer (some ⟨b5, 0, none⟩)), (4, .int .i64 (perI d)), (5, .int .i64 (allI d)), (6, .int .i64 n), (7, v7), (12, .bool false), (29, .bool false)]) (fun u0 => True) ?_ ?_
    ·
      refine hc_seq ?_
      refine hc_region ?_
      refine hl_v rfl rfl rfl (rv_ev rfl) ?_
      refine hl_v rfl rfl rfl (rv_len rfl Try.underlying30 rfl (rd_row 0 rfl)) ?_
      refine hl_gtr rfl rfl rfl rfl rfl rfl (fun h10 => absurd h10 (by omega)) (fun h10 => ?_)
      refine hl_v rfl rfl rfl (rv_ev rfl) ?_
      refine hl_v rfl rfl rfl (rv_ev rfl) ?_
      refine hl_v rfl rfl rfl (rv_len rfl Try.underlying30 rfl (rd_row 0 rfl)) ?_
      refine hl_gtr rfl rfl rfl rfl rfl rfl (fun h11 => ?_) (fun h11 => ?_)
      ·
        refine hl_v rfl rfl rfl (rv_ev rfl) ?_
        refine hl_v rfl rfl rfl (rv_loadN (cs := [.int .i64 d.W, .int .i64 d.H, .int .i64 d.T, .int .i64 d.R]) rfl (by kernel_rfl) (by kernel_rfl) rfl rfl (box_part 1 rfl 0 rfl)) ?_
        refine hl_v rfl rfl rfl (rv_ev rfl) ?_
        refine hl_callV rfl rfl rfl (rq_call (by kernel_rfl) rfl (fun w hm => ret_ans (implRouteNodeOk_any d _ w))) ?_
        refine hl_bool (fun h12 => ?_) (fun h12 => ?_)
        ·
          refine hl_v rfl rfl rfl (rv_ev rfl) ?_
          refine hl_v rfl rfl rfl (rv_ev rfl) ?_
          refine hl_v rfl rfl rfl (rv_ev rfl) ?_
          refine hl_v rfl rfl rfl (rv_ev rfl) ?_
          refine hl_v rfl rfl rfl (rv_loadN (cs := [.int .i64 d.W, .int .i64 d.H, .int .i64 d.T, .int .i64 d.R]) rfl (by kernel_rfl) (by kernel_rfl) rfl rfl (box_part 1 rfl 0 rfl)) ?_
          refine hl_v rfl rfl rfl (rv_ev rfl) ?_
          refine hl_callV rfl rfl rfl (rq_call (by kernel_rfl) rfl (fun w hm => ret_ans (isWire_ans d _ w))) ?_
          refine hl_bool (fun h13 => ?_) (fun h13 => ?_)
          ·
            have hw7 := (isWire_rng h13).2.2.2.1
            refine hl_v rfl rfl rfl (rv_ev rfl) ?_
            refine hl_v rfl rfl rfl (rv_ev rfl) ?_
            refine hl_v rfl rfl rfl (rv_ev rfl) ?_
            refine hl_v rfl rfl rfl (rv_rem rfl rfl rfl (by constructor <;> omega)) ?_
            refine hl_lss rfl rfl rfl rfl rfl rfl (fun h14 => ?_) (fun h14 => ?_)
            ·
              refine hl_v rfl rfl rfl (rv_ev rfl) ?_
              refine hl_v rfl rfl rfl (rv_ev rfl) ?_
              refine hl_less (sub_cons (d := 0) rfl (sub_cons (d := 2) rfl (sub_cons (d := 3) rfl (sub_cons (d := 4) rfl (sub_cons (d := 5) rfl (sub_cons (d := 6) rfl (sub_cons (d := 7) rfl (sub_cons (d := 12) rfl (sub_cons (d := 29) rfl (sub_cons (d := 65) rfl (sub_nil _))))))))))) (.refl _) ?_
              refine hl_nil ?_
              refine hq_then ?_
              refine hc_true rfl ?_
              refine hc_seq ?_
              refine hc_region ?_
              refine hl_v rfl rfl rfl (rv_ev rfl) ?_
              refine hl_less (sub_cons (d := 0) rfl (sub_cons (d := 2) rfl (sub_cons (d := 3) rfl (sub_cons (d := 4) rfl (sub_cons (d := 5) rfl (sub_cons (d := 6) rfl (sub_cons (d := 7) rfl (sub_cons (d := 12) rfl (sub_cons (d := 29) rfl (sub_cons (d := 65) rfl (sub_nil _))))))))))) (.refl _) ?_
              refine hl_nil ?_
              refine hq_then ?_
              refine hc_ret ?_
              refine hq_then_ret ?_
              exfalso
              omega
            ·
              refine hl_v rfl rfl rfl (rv_ev rfl) ?_
              refine hl_v rfl rfl rfl (rv_ev rfl) ?_
              refine hl_less (sub_cons (d := 0) rfl (sub_cons (d := 2) rfl (sub_cons (d := 3) rfl (sub_cons (d := 4) rfl (sub_cons (d := 5) rfl (sub_cons (d := 6) rfl (sub_cons (d := 7) rfl (sub_cons (d := 12) rfl (sub_cons (d := 29) rfl (sub_cons (d := 65) rfl (sub_nil _))))))))))) (.refl _) ?_
              refine hl_nil ?_
              refine hq_then ?_
              refine hc_false rfl ?_
              refine hc_skip ?_
              exact hq_meet1 () trivial (sub_cons (d := 0) rfl (sub_cons (d := 2) rfl (sub_cons (d := 3) rfl (sub_cons (d := 4) rfl (sub_cons (d := 5) rfl (sub_cons (d := 6) rfl (sub_cons (d := 7) rfl (sub_cons (d := 12) rfl (sub_cons (d := 29) rfl (sub_nil _)))))))))) ((.cons_cons _ (.cons_cons _ .slnil)))
          ·
            refine hl_v rfl rfl rfl (rv_ev rfl) ?_
            refine hl_skip rfl rfl rfl ?_
            refine hl_skip rfl rfl rfl ?_
            refine hl_skip rfl rfl rfl ?_
            refine hl_skip rfl rfl rfl ?_
            refine hl_v rfl rfl rfl (rv_ev rfl) ?_
            refine hl_v rfl rfl rfl (rv_ev rfl) ?_
            refine hl_less (sub_cons (d := 0) rfl (sub_cons (d := 2) rfl (sub_cons (d := 3) rfl (sub_cons (d := 4) rfl (sub_cons (d := 5) rfl (sub_cons (d := 6) rfl (sub_cons (d := 7) rfl (sub_cons (d := 12) rfl (sub_cons (d := 29) rfl (sub_cons (d := 65) rfl (sub_nil _))))))))))) (.refl _) ?_
            refine hl_nil ?_
            refine hq_then ?_
            refine hc_false rfl ?_
            refine hc_skip ?_
            exact hq_meet1 () trivial (sub_cons (d := 0) rfl (sub_cons (d := 2) rfl (sub_cons (d := 3) rfl (sub_cons (d := 4) rfl (sub_cons (d := 5) rfl (sub_cons (d := 6) rfl (sub_cons (d := 7) rfl (sub_cons (d := 12) rfl (sub_cons (d := 29) rfl (sub_nil _)))))))))) ((.cons_cons _ (.cons_cons _ .slnil)))
        ·
          have hz : (srcI d n).length = 0 := by rw [src_no d n (by rw [h12]; decide)]; rfl
          refine hl_v rfl rfl rfl (rv_ev rfl) ?_
          refine hl_v rfl rfl rfl (rv_ev rfl) ?_
          refine hl_v rfl rfl rfl (rv_ev rfl) ?_
          refine hl_v rfl rfl rfl (rv_ev rfl) ?_
          refine hl_skip rfl rfl rfl ?_
          refine hl_skip rfl rfl rfl ?_
          refine hl_skip rfl rfl rfl ?_
          refine hl_skip rfl rfl rfl ?_
          refine hl_skip rfl rfl rfl ?_
          refine hl_skip rfl rfl rfl ?_
          refine hl_skip rfl rfl rfl ?_
          refine hl_skip rfl rfl rfl ?_
          refine hl_skip rfl rfl rfl ?_
          refine hl_v rfl rfl rfl (rv_ev rfl) ?_
          refine hl_less (sub_cons (d := 0) rfl (sub_cons (d := 2) rfl (sub_cons (d := 3) rfl (sub_cons (d := 4) rfl (sub_cons (d := 5) rfl (sub_cons (d := 6) rfl (sub_cons (d := 7) rfl (sub_cons (d := 12) rfl (sub_cons (d := 29) rfl (sub_cons (d := 65) rfl (sub_nil _))))))))))) (.refl _) ?_
          refine hl_nil ?_
          refine hq_then ?_
          refine hc_true rfl ?_
          refine hc_seq ?_
          refine hc_region ?_
          refine hl_v rfl rfl rfl (rv_ev rfl) ?_
          refine hl_less (sub_cons (d := 0) rfl (sub_cons (d := 2) rfl (sub_cons (d := 3) rfl (sub_cons (d := 4) rfl (sub_cons (d := 5) rfl (sub_cons (d := 6) rfl (sub_cons (d := 7) rfl (sub_cons (d := 12) rfl (sub_cons (d := 29) rfl (sub_cons (d := 65) rfl (sub_nil _))))))))))) (.refl _) ?_
          refine hl_nil ?_
          refine hq_then ?_
          refine hc_ret ?_
          refine hq_then_ret ?_
          exfalso
          omega
      ·
        refine hl_v rfl rfl rfl (rv_ev rfl) ?_
        refine hl_skip rfl rfl rfl ?_
        refine hl_skip rfl rfl rfl ?_
        refine hl_skip rfl rfl rfl ?_
        refine hl_skip rfl rfl rfl ?_
        refine hl_v rfl rfl rfl (rv_ev rfl) ?_
        refine hl_v rfl rfl rfl (rv_ev rfl) ?_
        refine hl_v rfl rfl rfl (rv_ev rfl) ?_
        refine hl_v rfl rfl rfl (rv_loadN (cs := [.int .i64 d.W, .int .i64 d.H, .int .i64 d.T, .int .i64 d.R]) rfl (by kernel_rfl) (by kernel_rfl) rfl rfl (box_part 1 rfl 0 rfl)) ?_
        refine hl_v rfl rfl rfl (rv_ev rfl) ?_
        refine hl_callV rfl rfl rfl (rq_call (by kernel_rfl) rfl (fun w hm => ret_ans (isWire_ans d _ w))) ?_
        refine hl_bool (fun h15 => ?_) (fun h15 => ?_)
        ·
          have hw7 := (isWire_rng h15).2.2.2.1
          refine hl_v rfl rfl rfl (rv_ev rfl) ?_
          refine hl_v rfl rfl rfl (rv_ev rfl) ?_
          refine hl_v rfl rfl rfl (rv_ev rfl) ?_
          refine hl_v rfl rfl rfl (rv_rem rfl rfl rfl (by constructor <;> omega)) ?_
          refine hl_lss rfl rfl rfl rfl rfl rfl (fun h16 => ?_) (fun h16 => ?_)
          ·
            refine hl_v rfl rfl rfl (rv_ev rfl) ?_
            refine hl_v rfl rfl rfl (rv_ev rfl) ?_
            refine hl_less (sub_cons (d := 0) rfl (sub_cons (d := 2) rfl (sub_cons (d := 3) rfl (sub_cons (d := 4) rfl (sub_cons (d := 5) rfl (sub_cons (d := 6) rfl (sub_cons (d := 7) rfl (sub_cons (d := 12) rfl (sub_cons (d := 29) rfl (sub_cons (d := 65) rfl (sub_nil _))))))))))) (.refl _) ?_
            refine hl_nil ?_
            refine hq_then ?_
            refine hc_true rfl ?_
            refine hc_seq ?_
            refine hc_region ?_
            refine hl_v rfl rfl rfl (rv_ev rfl) ?_
            refine hl_less (sub_cons (d := 0) rfl (sub_cons (d := 2) rfl (sub_cons (d := 3) rfl (sub_cons (d := 4) rfl (sub_cons (d := 5) rfl (sub_cons (d := 6) rfl (sub_cons (d := 7) rfl (sub_cons (d := 12) rfl (sub_cons (d := 29) rfl (sub_cons (d := 65) rfl (sub_nil _))))))))))) (.refl _) ?_
            refine hl_nil ?_
            refine hq_then ?_
            refine hc_ret ?_
            refine hq_then_ret ?_
            exfalso
            omega
          ·
            refine hl_v rfl rfl rfl (rv_ev rfl) ?_
            refine hl_v rfl rfl rfl (rv_ev rfl) ?_
            refine hl_less (sub_cons (d := 0) rfl (sub_cons (d := 2) rfl (sub_cons (d := 3) rfl (sub_cons (d := 4) rfl (sub_cons (d := 5) rfl (sub_cons (d := 6) rfl (sub_cons (d := 7) rfl (sub_cons (d := 12) rfl (sub_cons (d := 29) rfl (sub_cons (d := 65) rfl (sub_nil _))))))))))) (.refl _) ?_
            refine hl_nil ?_
            refine hq_then ?_
            refine hc_false rfl ?_
            refine hc_skip ?_
            exact hq_meet1 () trivial (sub_cons (d := 0) rfl (sub_cons (d := 2) rfl (sub_cons (d := 3) rfl (sub_cons (d := 4) rfl (sub_cons (d := 5) rfl (sub_cons (d := 6) rfl (sub_cons (d := 7) rfl (sub_cons (d := 12) rfl (sub_cons (d := 29) rfl (sub_nil _)))))))))) ((.cons_cons _ (.cons_cons _ .slnil)))
        ·
          refine hl_v rfl rfl rfl (rv_ev rfl) ?_
          refine hl_skip rfl rfl rfl ?_
          refine hl_skip rfl rfl rfl ?_
          refine hl_skip rfl rfl rfl ?_
          refine hl_skip rfl rfl rfl ?_
          refine hl_v rfl rfl rfl (rv_ev rfl) ?_
          refine hl_v rfl rfl rfl (rv_ev rfl) ?_
          refine hl_less (sub_cons (d := 0) rfl (sub_cons (d := 2) rfl (sub_cons (d := 3) rfl (sub_cons (d := 4) rfl (sub_cons (d := 5) rfl (sub_cons (d := 6) rfl (sub_cons (d := 7) rfl (sub_cons (d := 12) rfl (sub_cons (d := 29) rfl (sub_cons (d := 65) rfl (sub_nil _))))))))))) (.refl _) ?_
          refine hl_nil ?_
          refine hq_then ?_
          refine hc_false rfl ?_
          refine hc_skip ?_
          exact hq_meet1 () trivial (sub_cons (d := 0) rfl (sub_cons (d := 2) rfl (sub_cons (d := 3) rfl (sub_cons (d := 4) rfl (sub_cons (d := 5) rfl (sub_cons (d := 6) rfl (sub_cons (d := 7) rfl (sub_cons (d := 12) rfl (sub_cons (d := 29) rfl (sub_nil _)))))))))) ((.cons_cons _ (.cons_cons _ .slnil)))
    intro u0 hm17
    refine hc_seq ?_
    refine hc_seq ?_
    refine hc_region ?_
    refine hl_v rfl rfl rfl (rv_ev rfl) ?_
    refine hl_less (sub_cons (d := 0) rfl (sub_cons (d := 2) rfl (sub_cons (d := 3) rfl (sub_cons (d := 4) rfl (sub_cons (d := 5) rfl (sub_cons (d := 6) rfl (sub_cons (d := 7) rfl (sub_cons (d := 8) rfl (sub_cons (d := 12) rfl (sub_cons (d := 29) rfl (sub_nil _))))))))))) (.refl _) ?_
    refine hl_nil ?_
    refine hq_then ?_
    refine hc_block ?_
    refine hc_loop1 (α := Nat) (fun j => [rowE 3 1 v7 ((srcI d n).length) ((srcI d n).map (Value.int .i64)), boxE b5 #[.int .i64 d.W, .int .i64 d.H, .int .i64 d.T, .int .i64 d.R] 25]) (fun j => [(0, .slice a0 len0 cap0), (2, .bool false), (3, .pointer (some ⟨b5, 0, none⟩)), (4, .int .i64 (perI d)), (5, .int .i64 (allI d)), (6, .int .i64 n), (7, v7), (8, .int .i64 (j : Int)), (12, .bool false), (29, .bool false)]) (fun j => j ≤ (srcI d n).length) (fun j => (srcI d n).length - j) 0 (Nat.zero_le _) (sub_cons (d := 0) rfl (sub_cons (d := 2) rfl (sub_cons (d := 3) rfl (sub_cons (d := 4) rfl (sub_cons (d := 5) rfl (sub_cons (d := 6) rfl (sub_cons (d := 7) rfl (sub_cons (d := 8) rfl (sub_cons (d := 12) rfl (sub_cons (d := 29) rfl (sub_nil _))))))))))) ((.cons_cons _ (.cons_cons _ .slnil))) ?_
    intro j hi18
    have hj := hi18
    refine hc_seq ?_
    refine hc_seq ?_
    refine hc_region ?_
    refine hl_v rfl rfl rfl (rv_ev rfl) ?_
    refine hl_v rfl rfl rfl (rv_ev rfl) ?_
    refine hl_v rfl rfl rfl (rv_len rfl Try.underlying30 rfl (rd_row 0 rfl)) ?_
    refine hl_lss rfl rfl rfl rfl rfl rfl (fun h19 => ?_) (fun h19 => ?_)
    ·
      refine hl_less (sub_cons (d := 0) rfl (sub_cons (d := 2) rfl (sub_cons (d := 3) rfl (sub_cons (d := 4) rfl (sub_cons (d := 5) rfl (sub_cons (d := 6) rfl (sub_cons (d := 7) rfl (sub_cons (d := 8) rfl (sub_cons (d := 12) rfl (sub_cons (d := 29) rfl (sub_cons (d := 69) rfl (sub_nil _)))))))))))) (.refl _) ?_
      refine hl_nil ?_
      refine hq_then ?_
      refine hc_true rfl ?_
      refine hc_skip ?_
      refine hq_then ?_
      refine hc_seq ?_
      refine hc_block ?_
      refine hc_seq ?_
      refine hc_region ?_
      refine hl_v rfl rfl rfl (rv_ev rfl) ?_
      refine hl_v rfl rfl rfl (rv_ev rfl) ?_
      refine hl_v rfl rfl rfl (rv_index (s := 1) rfl Try.underlying30 (by kernel_rfl) rfl rfl (rd_row 0 rfl) (by omega) (by first | omega | (simp only [List.length_set]; omega))) ?_
      refine hl_v rfl rfl rfl (rv_loadEl (u := .int .i64 ((srcI d n).getD j 0)) rfl (by kernel_rfl) rfl (rd_row 0 rfl) (ints_at1 (show _ < (srcI d n).length by first | omega | (simp only [List.length_set]; omega)))) ?_
      refine hl_v rfl rfl rfl (rv_ev rfl) ?_
      have hloc := src_loc hv n0 n1 _ (src_at d n j (by omega))
      have hlt : 0 < j → (srcI d n).getD ((j : Int) - 1).toNat 0 < (srcI d n).getD j 0 := fun h => by rw [show ((j : Int) - 1).toNat = j - 1 by omega]; exact src_lt d n j h (by omega)
      obtain ⟨y, hy⟩ : ∃ y, (srcI d n).getD j 0 = y := ⟨_, rfl⟩
      rw [hy] at hloc hlt ⊢
      have hl1 := hloc.1
      refine hl_less (sub_cons (d := 0) rfl (sub_cons (d := 2) rfl (sub_cons (d := 3) rfl (sub_cons (d := 4) rfl (sub_cons (d := 5) rfl (sub_cons (d := 6) rfl (sub_cons (d := 7) rfl (sub_cons (d := 8) rfl (sub_cons (d := 9) rfl (sub_cons (d := 12) rfl (sub_cons (d := 29) rfl (sub_cons (d := 69) rfl (sub_nil _))))))))))))) (.refl _) ?_
      refine hl_nil ?_
      refine hq_then ?_
      refine hc_meet1 (α := Unit) (fun u0 => [rowE 3 1 v7 ((srcI d n).length) ((srcI d n).map (Value.int .i64)), boxE b5 #[.int .i64 d.W, .int .i64 d.H, .int .i64 d.T, .int .i64 d.R] 25]) (fun u0 => [(0, .slice a0 len0 cap0), (2, .bool false), (3, .pointer (some ⟨b5, 0, none⟩)), (4, .int .i64 (perI d)), (5, .int .i64 (allI d)), (6, .int .i64 n), (7, v7), (8, .int .i64 (j : Int)), (9, .int .i64 y), (12, .bool false), (29, .bool false), (69, .bool true)]) (fun u0 => True) ?_ ?_
      ·
        refine hc_seq ?_
        refine hc_region ?_
        refine hl_v rfl rfl rfl (rv_loadN (cs := [.int .i64 d.W, .int .i64 d.H, .int .i64 d.T, .int .i64 d.R]) rfl (by kernel_rfl) (by kernel_rfl) rfl rfl (box_part 1 rfl 0 rfl)) ?_
        refine hl_v rfl rfl rfl (rv_ev rfl) ?_
        refine hl_callV rfl rfl rfl (rq_call (by kernel_rfl) rfl (fun w hm => ret_ans (implRouteNodeOk_any d _ w))) ?_
        refine hl_bool (fun h20 => ?_) (fun h20 => absurd ((hl1).symm.trans h20) (by decide))
        refine hl_v rfl rfl rfl (rv_ev rfl) ?_
        refine hl_v rfl rfl rfl (rv_ev rfl) ?_
        refine hl_v rfl rfl rfl (rv_ev rfl) ?_
        refine hl_gtr rfl rfl rfl rfl rfl rfl (fun h21 => ?_) (fun h21 => ?_)
        ·
          refine hl_v rfl rfl rfl (rv_ev rfl) ?_
          refine hl_v rfl rfl rfl (rv_ev rfl) ?_
          refine hl_v rfl rfl rfl (rv_ev rfl) ?_
          refine hl_v rfl rfl rfl (rv_ev rfl) ?_
          refine hl_v rfl rfl rfl (rv_sub rfl rfl rfl (by constructor <;> omega)) ?_
          refine hl_v rfl rfl rfl (rv_index (s := 1) rfl Try.underlying30 (by kernel_rfl) rfl rfl (rd_row 0 rfl) (by omega) (by first | omega | (simp only [List.length_set]; omega))) ?_
          refine hl_v rfl rfl rfl (rv_loadEl (u := .int .i64 ((srcI d n).getD (((j : Int) - 1).toNat) 0)) rfl (by kernel_rfl) rfl (rd_row 0 rfl) (ints_at1 (show _ < (srcI d n).length by first | omega | (simp only [List.length_set]; omega)))) ?_
          refine hl_leq rfl rfl rfl rfl rfl rfl (fun h22 => absurd h22 (by omega)) (fun h22 => ?_)
          refine hl_v rfl rfl rfl (rv_ev rfl) ?_
          refine hl_v rfl rfl rfl (rv_ev rfl) ?_
          refine hl_less (sub_cons (d := 0) rfl (sub_cons (d := 2) rfl (sub_cons (d := 3) rfl (sub_cons (d := 4) rfl (sub_cons (d := 5) rfl (sub_cons (d := 6) rfl (sub_cons (d := 7) rfl (sub_cons (d := 8) rfl (sub_cons (d := 9) rfl (sub_cons (d := 12) rfl (sub_cons (d := 29) rfl (sub_cons (d := 69) rfl (sub_cons (d := 92) rfl (sub_nil _)))))))))))))) (.refl _) ?_
          refine hl_nil ?_
          refine hq_then ?_
          refine hc_false rfl ?_
          refine hc_skip ?_
          exact hq_meet1 () trivial (sub_cons (d := 0) rfl (sub_cons (d := 2) rfl (sub_cons (d := 3) rfl (sub_cons (d := 4) rfl (sub_cons (d := 5) rfl (sub_cons (d := 6) rfl (sub_cons (d := 7) rfl (sub_cons (d := 8) rfl (sub_cons (d := 9) rfl (sub_cons (d := 12) rfl (sub_cons (d := 29) rfl (sub_cons (d := 69) rfl (sub_nil _))))))))))))) ((.cons_cons _ (.cons_cons _ .slnil)))
        ·
          refine hl_v rfl rfl rfl (rv_ev rfl) ?_
          refine hl_skip rfl rfl rfl ?_
          refine hl_skip rfl rfl rfl ?_
          refine hl_skip rfl rfl rfl ?_
          refine hl_skip rfl rfl rfl ?_
          refine hl_skip rfl rfl rfl ?_
          refine hl_skip rfl rfl rfl ?_
          refine hl_skip rfl rfl rfl ?_
          refine hl_v rfl rfl rfl (rv_ev rfl) ?_
          refine hl_v rfl rfl rfl (rv_ev rfl) ?_
          refine hl_less (sub_cons (d := 0) rfl (sub_cons (d := 2) rfl (sub_cons (d := 3) rfl (sub_cons (d := 4) rfl (sub_cons (d := 5) rfl (sub_cons (d := 6) rfl (sub_cons (d := 7) rfl (sub_cons (d := 8) rfl (sub_cons (d := 9) rfl (sub_cons (d := 12) rfl (sub_cons (d := 29) rfl (sub_cons (d := 69) rfl (sub_cons (d := 92) rfl (sub_nil _)))))))))))))) (.refl _) ?_
          refine hl_nil ?_
          refine hq_then ?_
          refine hc_false rfl ?_
          refine hc_skip ?_
          exact hq_meet1 () trivial (sub_cons (d := 0) rfl (sub_cons (d := 2) rfl (sub_cons (d := 3) rfl (sub_cons (d := 4) rfl (sub_cons (d := 5) rfl (sub_cons (d := 6) rfl (sub_cons (d := 7) rfl (sub_cons (d := 8) rfl (sub_cons (d := 9) rfl (sub_cons (d := 12) rfl (sub_cons (d := 29) rfl (sub_cons (d := 69) rfl (sub_nil _))))))))))))) ((.cons_cons _ (.cons_cons _ .slnil)))
      intro u0 hm23
      refine hc_seq ?_
      refine hc_seq ?_
      refine hc_region ?_
      refine hl_v rfl rfl rfl (rv_loadN (cs := [.int .i64 d.W, .int .i64 d.H, .int .i64 d.T, .int .i64 d.R]) rfl (by kernel_rfl) (by kernel_rfl) rfl rfl (box_part 1 rfl 0 rfl)) ?_
      refine hl_v rfl rfl rfl (rv_ev rfl) ?_
      refine hl_callV rfl rfl rfl (rq_call (by kernel_rfl) rfl (fun w hm => ret_ans (isWire_ans d _ w))) ?_
      refine hl_bool (fun h24 => ?_) (fun h24 => ?_)
      ·
        obtain ⟨hr1, hr2, hr3, hr4, hr5⟩ := loc_reach hloc hv (isWire_rng h24).2.2.2.1
        obtain ⟨hy7, hyo⟩ := (isWire_rng h24).2.2.2
        obtain ⟨_, y0, y1, _⟩ := isWire_rng h24
        obtain ⟨py0, py1, py2, py3, py4⟩ := place_rng hv y0 y1
        obtain ⟨gy0, gy1, gy2, gy3⟩ := wire_rng hv hy7 py3
        refine hl_v rfl rfl rfl (rv_ev rfl) ?_
        refine hl_less (sub_cons (d := 0) rfl (sub_cons (d := 2) rfl (sub_cons (d := 3) rfl (sub_cons (d := 4) rfl (sub_cons (d := 5) rfl (sub_cons (d := 6) rfl (sub_cons (d := 7) rfl (sub_cons (d := 8) rfl (sub_cons (d := 9) rfl (sub_cons (d := 12) rfl (sub_cons (d := 29) rfl (sub_cons (d := 69) rfl (sub_cons (d := 96) rfl (sub_nil _)))))))))))))) (.refl _) ?_
        refine hl_nil ?_
        refine hq_then ?_
        refine hc_false rfl ?_
        refine hc_skip ?_
        refine hq_then ?_
        refine hc_seq ?_
        refine hc_region ?_
        refine hl_v rfl rfl rfl (rv_loadN (cs := [.int .i64 d.W, .int .i64 d.H, .int .i64 d.T, .int .i64 d.R]) rfl (by kernel_rfl) (by kernel_rfl) rfl rfl (box_part 1 rfl 0 rfl)) ?_
        refine hl_v rfl rfl rfl (rv_ev rfl) ?_
        refine hl_q rfl rfl rfl (rq_call (by kernel_rfl) rfl (fun w hm => wireReaches_ret d _ w)) ?_
        intro v25 p26 hR27
        subst hR27
        refine hl_v rfl rfl rfl (rv_ev rfl) ?_
        refine hl_less (sub_cons (d := 0) rfl (sub_cons (d := 2) rfl (sub_cons (d := 3) rfl (sub_cons (d := 4) rfl (sub_cons (d := 5) rfl (sub_cons (d := 6) rfl (sub_cons (d := 7) rfl (sub_cons (d := 8) rfl (sub_cons (d := 9) rfl (sub_cons (d := 10) rfl (sub_cons (d := 12) rfl (sub_cons (d := 29) rfl (sub_cons (d := 69) rfl (sub_cons (d := 96) rfl (sub_nil _))))))))))))))) (.refl _) ?_
        refine hl_nil ?_
        refine hq_then ?_
        refine hc_meet1 (α := Unit) (fun u0 => [rowE 3 1 v25 ((reachS d y).length) ((reachS d y).map (Value.int .i64)), rowE 3 1 v7 ((srcI d n).length) ((srcI d n).map (Value.int .i64)), boxE b5 #[.int .i64 d.W, .int .i64 d.H, .int .i64 d.T, .int .i64 d.R] 25]) (fun u0 => [(0, .slice a0 len0 cap0), (2, .bool false), (3, .pointer (some ⟨b5, 0, none⟩)), (4, .int .i64 (perI d)), (5, .int .i64 (allI d)), (6, .int .i64 n), (7, v7), (8, .int .i64 (j : Int)), (9, .int .i64 y), (10, v25), (12, .bool false), (29, .bool false), (69, .bool true), (96, .bool false)]) (fun u0 => True) ?_ ?_
        ·
          refine hc_seq ?_
          have hb28 : (hasB (reachS d y) (n / (perI d))) = true := hr1
          rcases Bool.eq_false_or_eq_true (decide (7 ≤ n % (perI d))) with hb29 | hb29
          ·
            have hb29p : 7 ≤ n % (perI d) := of_decide_eq_true hb29
            have hb30 : ((getI (reachS d y) (((reachS d y).length : Int) - 1)) != (n / (perI d))) = false := by simp; omega
            refine hc_draw (by kernel_rfl) 23 [0, 1, 2, 3, 4, 5, 6, 7, 8, 9, 10, 11, 12, 13, 14, 15, 16, 17, 18, 19, 20, 21, 22] (List.take 23 _) (List.drop 23 _) [[], [], [], [1, 2], [0, 3], [4], [5], [6], [6], [6, 7, 8], [6, 9], [6, 10], [11], [11], [11, 13], [11, 14], [11, 12, 15], [11], [11], [11, 17, 18], [11, 16, 19], [6, 11, 20], [6, 21]] [119, 120, 121, 122, 123, 124, 125, 126, 127, 128, 129, 130, 131, 132, 133, 134, 135, 136, 137, 138, 139, 140, 141] (fun i v p => match i with | 0 => v = v25 ∧ p = [] | 1 => v = .int .i64 n ∧ p = [] | 2 => v = .int .i64 (perI d) ∧ p = [] | 3 => v = .int .i64 (n / (perI d)) ∧ p = [] | 4 => v = .bool true ∧ p = [] | 5 => v = .bool false ∧ p = [] | 6 => v = .bool false ∧ p = [] | 7 => v = .int .i64 n ∧ p = [] | 8 => v = .int .i64 (perI d) ∧ p = [] | 9 => v = .int .i64 (n % (perI d)) ∧ p = [] | 10 => v = .bool true ∧ p = [] | 11 => v = .bool true ∧ p = [] | 12 => v = v25 ∧ p = [] | 13 => v = v25 ∧ p = [] | 14 => v = .int .i64 ((reachS d y).length : Int) ∧ p = [] | 15 => v = .int .i64 (((reachS d y).length : Int) - 1) ∧ p = [] | 16 => v = .int .i64 (getI (reachS d y) (((reachS d y).length : Int) - 1)) ∧ p = [] | 17 => v = .int .i64 n ∧ p = [] | 18 => v = .int .i64 (perI d) ∧ p = [] | 19 => v = .int .i64 (n / (perI d)) ∧ p = [] | 20 => v = .bool false ∧ p = [] | 21 => v = .bool false ∧ p = [] | 22 => v = .bool false ∧ p = [] | _ => True) (List.take_append_drop 23 _).symm (by kernel_rfl) (by kernel_rfl) rfl rfl ?_ ?_
            ·
              refine ⟨?_, ?_, ?_, ?_, ?_, ?_, ?_, ?_, ?_, ?_, ?_, ?_, ?_, ?_, ?_, ?_, ?_, ?_, ?_, ?_, ?_, ?_, ?_, trivial⟩
              ·
                intro vf pf hR
                refine Or.inl ⟨rfl, ?_⟩
                refine rq_less (l' := [rowE 3 1 v25 ((reachS d y).length) ((reachS d y).map (Value.int .i64)), rowE 3 1 v7 ((srcI d n).length) ((srcI d n).map (Value.int .i64)), boxE b5 #[.int .i64 d.W, .int .i64 d.H, .int .i64 d.T, .int .i64 d.R] 25]) (sub_cons (d := 10) rfl (sub_nil _)) (List.sublist_append_right _ _) ?_
                exact rq_v (rv_ev rfl)
              ·
                intro vf pf hR
                refine Or.inl ⟨rfl, ?_⟩
                refine rq_less (l' := [rowE 3 1 v25 ((reachS d y).length) ((reachS d y).map (Value.int .i64)), rowE 3 1 v7 ((srcI d n).length) ((srcI d n).map (Value.int .i64)), boxE b5 #[.int .i64 d.W, .int .i64 d.H, .int .i64 d.T, .int .i64 d.R] 25]) (sub_cons (d := 6) rfl (sub_nil _)) (List.sublist_append_right _ _) ?_
                exact rq_v (rv_ev rfl)
              ·
                intro vf pf hR
                refine Or.inl ⟨rfl, ?_⟩
                refine rq_less (l' := [rowE 3 1 v25 ((reachS d y).length) ((reachS d y).map (Value.int .i64)), rowE 3 1 v7 ((srcI d n).length) ((srcI d n).map (Value.int .i64)), boxE b5 #[.int .i64 d.W, .int .i64 d.H, .int .i64 d.T, .int .i64 d.R] 25]) (sub_cons (d := 4) rfl (sub_nil _)) (List.sublist_append_right _ _) ?_
                exact rq_v (rv_ev rfl)
              ·
                intro vf pf hR
                have e1 : vf 1 = .int .i64 n ∧ pf 1 = [] := hR 1 (by decide)
                have e2 : vf 2 = .int .i64 (perI d) ∧ pf 2 = [] := hR 2 (by decide)
                refine Or.inl ⟨rfl, ?_⟩
                refine rq_less (l' := [rowE 3 1 v25 ((reachS d y).length) ((reachS d y).map (Value.int .i64)), rowE 3 1 v7 ((srcI d n).length) ((srcI d n).map (Value.int .i64)), boxE b5 #[.int .i64 d.W, .int .i64 d.H, .int .i64 d.T, .int .i64 d.R] 25]) (sub_cons (d := 120) (congrArg some e1.1) (sub_cons (d := 121) (congrArg some e2.1) (sub_nil _))) (List.sublist_append_right _ _) ?_
                exact rq_v (rv_quo rfl rfl rfl (by refine ⟨?_, ?_, ?_⟩ <;> omega))
              ·
                intro vf pf hR
                have e0 : vf 0 = v25 ∧ pf 0 = [] := hR 0 (by decide)
                have e3 : vf 3 = .int .i64 (n / (perI d)) ∧ pf 3 = [] := hR 3 (by decide)
                refine Or.inl ⟨rfl, ?_⟩
                refine rq_less (l' := [rowE 3 1 v25 ((reachS d y).length) ((reachS d y).map (Value.int .i64)), rowE 3 1 v7 ((srcI d n).length) ((srcI d n).map (Value.int .i64)), boxE b5 #[.int .i64 d.W, .int .i64 d.H, .int .i64 d.T, .int .i64 d.R] 25]) (sub_cons (d := 119) (congrArg some e0.1) (sub_cons (d := 122) (congrArg some e3.1) (sub_nil _))) (List.sublist_append_right _ _) ?_
                exact rq_mono (rq_call (by kernel_rfl) rfl (fun w hm => ret_ans (lawsHas_ans (reachS d y) (n / (perI d)) _ w ((rd_row 0 rfl) w hm) (by omega)))) (fun _ _ h => ⟨h.1.trans (congrArg Value.bool hb28), h.2⟩)
              ·
                intro vf pf hR
                have e4 : vf 4 = .bool true ∧ pf 4 = [] := hR 4 (by decide)
                refine Or.inl ⟨rfl, ?_⟩
                refine rq_less (l' := [rowE 3 1 v25 ((reachS d y).length) ((reachS d y).map (Value.int .i64)), rowE 3 1 v7 ((srcI d n).length) ((srcI d n).map (Value.int .i64)), boxE b5 #[.int .i64 d.W, .int .i64 d.H, .int .i64 d.T, .int .i64 d.R] 25]) (sub_cons (d := 123) (congrArg some e4.1) (sub_nil _)) (List.sublist_append_right _ _) ?_
                exact rq_v (rv_ev rfl)
              ·
                intro vf pf hR
                have e5 : vf 5 = .bool false ∧ pf 5 = [] := hR 5 (by decide)
                refine Or.inl ⟨rfl, ?_⟩
                refine rq_less (l' := [rowE 3 1 v25 ((reachS d y).length) ((reachS d y).map (Value.int .i64)), rowE 3 1 v7 ((srcI d n).length) ((srcI d n).map (Value.int .i64)), boxE b5 #[.int .i64 d.W, .int .i64 d.H, .int .i64 d.T, .int .i64 d.R] 25]) (sub_cons (d := 124) (congrArg some e5.1) (sub_nil _)) (List.sublist_append_right _ _) ?_
                exact rq_v (rv_ev rfl)
              ·
                intro vf pf hR
                have e6 : vf 6 = .bool false ∧ pf 6 = [] := hR 6 (by decide)
                refine Or.inl ⟨want_of (congrArg some e6.1) rfl, ?_⟩
                refine rq_less (l' := [rowE 3 1 v25 ((reachS d y).length) ((reachS d y).map (Value.int .i64)), rowE 3 1 v7 ((srcI d n).length) ((srcI d n).map (Value.int .i64)), boxE b5 #[.int .i64 d.W, .int .i64 d.H, .int .i64 d.T, .int .i64 d.R] 25]) (sub_cons (d := 6) rfl (sub_nil _)) (List.sublist_append_right _ _) ?_
                exact rq_v (rv_ev rfl)
              ·
                intro vf pf hR
                have e6 : vf 6 = .bool false ∧ pf 6 = [] := hR 6 (by decide)
                refine Or.inl ⟨want_of (congrArg some e6.1) rfl, ?_⟩
                refine rq_less (l' := [rowE 3 1 v25 ((reachS d y).length) ((reachS d y).map (Value.int .i64)), rowE 3 1 v7 ((srcI d n).length) ((srcI d n).map (Value.int .i64)), boxE b5 #[.int .i64 d.W, .int .i64 d.H, .int .i64 d.T, .int .i64 d.R] 25]) (sub_cons (d := 4) rfl (sub_nil _)) (List.sublist_append_right _ _) ?_
                exact rq_v (rv_ev rfl)
              ·
                intro vf pf hR
                have e6 : vf 6 = .bool false ∧ pf 6 = [] := hR 6 (by decide)
                have e7 : vf 7 = .int .i64 n ∧ pf 7 = [] := hR 7 (by decide)
                have e8 : vf 8 = .int .i64 (perI d) ∧ pf 8 = [] := hR 8 (by decide)
                refine Or.inl ⟨want_of (congrArg some e6.1) rfl, ?_⟩
                refine rq_less (l' := [rowE 3 1 v25 ((reachS d y).length) ((reachS d y).map (Value.int .i64)), rowE 3 1 v7 ((srcI d n).length) ((srcI d n).map (Value.int .i64)), boxE b5 #[.int .i64 d.W, .int .i64 d.H, .int .i64 d.T, .int .i64 d.R] 25]) (sub_cons (d := 126) (congrArg some e7.1) (sub_cons (d := 127) (congrArg some e8.1) (sub_nil _))) (List.sublist_append_right _ _) ?_
                exact rq_v (rv_rem rfl rfl rfl (by constructor <;> omega))
              ·
                intro vf pf hR
                have e6 : vf 6 = .bool false ∧ pf 6 = [] := hR 6 (by decide)
                have e9 : vf 9 = .int .i64 (n % (perI d)) ∧ pf 9 = [] := hR 9 (by decide)
                refine Or.inl ⟨want_of (congrArg some e6.1) rfl, ?_⟩
                refine rq_less (l' := [rowE 3 1 v25 ((reachS d y).length) ((reachS d y).map (Value.int .i64)), rowE 3 1 v7 ((srcI d n).length) ((srcI d n).map (Value.int .i64)), boxE b5 #[.int .i64 d.W, .int .i64 d.H, .int .i64 d.T, .int .i64 d.R] 25]) (sub_cons (d := 128) (congrArg some e9.1) (sub_nil _)) (List.sublist_append_right _ _) ?_
                exact rq_mono (rq_v (rv_cmp rfl rfl rfl rfl)) (fun _ _ h => ⟨h.1.trans (congrArg Value.bool hb29), h.2⟩)
              ·
                intro vf pf hR
                have e6 : vf 6 = .bool false ∧ pf 6 = [] := hR 6 (by decide)
                have e10 : vf 10 = .bool true ∧ pf 10 = [] := hR 10 (by decide)
                refine Or.inl ⟨want_of (congrArg some e6.1) rfl, ?_⟩
                refine rq_less (l' := [rowE 3 1 v25 ((reachS d y).length) ((reachS d y).map (Value.int .i64)), rowE 3 1 v7 ((srcI d n).length) ((srcI d n).map (Value.int .i64)), boxE b5 #[.int .i64 d.W, .int .i64 d.H, .int .i64 d.T, .int .i64 d.R] 25]) (sub_cons (d := 129) (congrArg some e10.1) (sub_nil _)) (List.sublist_append_right _ _) ?_
                exact rq_v (rv_ev rfl)
              ·
                intro vf pf hR
                have e11 : vf 11 = .bool true ∧ pf 11 = [] := hR 11 (by decide)
                refine Or.inl ⟨want_of (congrArg some e11.1) rfl, ?_⟩
                refine rq_less (l' := [rowE 3 1 v25 ((reachS d y).length) ((reachS d y).map (Value.int .i64)), rowE 3 1 v7 ((srcI d n).length) ((srcI d n).map (Value.int .i64)), boxE b5 #[.int .i64 d.W, .int .i64 d.H, .int .i64 d.T, .int .i64 d.R] 25]) (sub_cons (d := 10) rfl (sub_nil _)) (List.sublist_append_right _ _) ?_
                exact rq_v (rv_ev rfl)
              ·
                intro vf pf hR
                have e11 : vf 11 = .bool true ∧ pf 11 = [] := hR 11 (by decide)
                refine Or.inl ⟨want_of (congrArg some e11.1) rfl, ?_⟩
                refine rq_less (l' := [rowE 3 1 v25 ((reachS d y).length) ((reachS d y).map (Value.int .i64)), rowE 3 1 v7 ((srcI d n).length) ((srcI d n).map (Value.int .i64)), boxE b5 #[.int .i64 d.W, .int .i64 d.H, .int .i64 d.T, .int .i64 d.R] 25]) (sub_cons (d := 10) rfl (sub_nil _)) (List.sublist_append_right _ _) ?_
                exact rq_v (rv_ev rfl)
              ·
                intro vf pf hR
                have e11 : vf 11 = .bool true ∧ pf 11 = [] := hR 11 (by decide)
                have e13 : vf 13 = v25 ∧ pf 13 = [] := hR 13 (by decide)
                refine Or.inl ⟨want_of (congrArg some e11.1) rfl, ?_⟩
                refine rq_less (l' := [rowE 3 1 v25 ((reachS d y).length) ((reachS d y).map (Value.int .i64)), rowE 3 1 v7 ((srcI d n).length) ((srcI d n).map (Value.int .i64)), boxE b5 #[.int .i64 d.W, .int .i64 d.H, .int .i64 d.T, .int .i64 d.R] 25]) (sub_cons (d := 132) (congrArg some e13.1) (sub_nil _)) (List.sublist_append_right _ _) ?_
                exact rq_v (rv_len rfl Try.underlying30 rfl (rd_row 0 rfl))
              ·
                intro vf pf hR
                have e11 : vf 11 = .bool true ∧ pf 11 = [] := hR 11 (by decide)
                have e14 : vf 14 = .int .i64 ((reachS d y).length : Int) ∧ pf 14 = [] := hR 14 (by decide)
                refine Or.inl ⟨want_of (congrArg some e11.1) rfl, ?_⟩
                refine rq_less (l' := [rowE 3 1 v25 ((reachS d y).length) ((reachS d y).map (Value.int .i64)), rowE 3 1 v7 ((srcI d n).length) ((srcI d n).map (Value.int .i64)), boxE b5 #[.int .i64 d.W, .int .i64 d.H, .int .i64 d.T, .int .i64 d.R] 25]) (sub_cons (d := 133) (congrArg some e14.1) (sub_nil _)) (List.sublist_append_right _ _) ?_
                exact rq_v (rv_sub rfl rfl rfl (by constructor <;> omega))
              ·
                intro vf pf hR
                have e11 : vf 11 = .bool true ∧ pf 11 = [] := hR 11 (by decide)
                have e12 : vf 12 = v25 ∧ pf 12 = [] := hR 12 (by decide)
                have e15 : vf 15 = .int .i64 (((reachS d y).length : Int) - 1) ∧ pf 15 = [] := hR 15 (by decide)
                refine Or.inl ⟨want_of (congrArg some e11.1) rfl, ?_⟩
                refine rq_less (l' := [rowE 3 1 v25 ((reachS d y).length) ((reachS d y).map (Value.int .i64)), rowE 3 1 v7 ((srcI d n).length) ((srcI d n).map (Value.int .i64)), boxE b5 #[.int .i64 d.W, .int .i64 d.H, .int .i64 d.T, .int .i64 d.R] 25]) (sub_cons (d := 131) (congrArg some e12.1) (sub_cons (d := 134) (congrArg some e15.1) (sub_nil _))) (List.sublist_append_right _ _) ?_
                exact (rq_call (by kernel_rfl) rfl (fun w hm => ret_ans (lawsGet_ans (reachS d y) (((reachS d y).length : Int) - 1) _ w ((rd_row 0 rfl) w hm) (by omega))))
              ·
                intro vf pf hR
                have e11 : vf 11 = .bool true ∧ pf 11 = [] := hR 11 (by decide)
                refine Or.inl ⟨want_of (congrArg some e11.1) rfl, ?_⟩
                refine rq_less (l' := [rowE 3 1 v25 ((reachS d y).length) ((reachS d y).map (Value.int .i64)), rowE 3 1 v7 ((srcI d n).length) ((srcI d n).map (Value.int .i64)), boxE b5 #[.int .i64 d.W, .int .i64 d.H, .int .i64 d.T, .int .i64 d.R] 25]) (sub_cons (d := 6) rfl (sub_nil _)) (List.sublist_append_right _ _) ?_
                exact rq_v (rv_ev rfl)
              ·
                intro vf pf hR
                have e11 : vf 11 = .bool true ∧ pf 11 = [] := hR 11 (by decide)
                refine Or.inl ⟨want_of (congrArg some e11.1) rfl, ?_⟩
                refine rq_less (l' := [rowE 3 1 v25 ((reachS d y).length) ((reachS d y).map (Value.int .i64)), rowE 3 1 v7 ((srcI d n).length) ((srcI d n).map (Value.int .i64)), boxE b5 #[.int .i64 d.W, .int .i64 d.H, .int .i64 d.T, .int .i64 d.R] 25]) (sub_cons (d := 4) rfl (sub_nil _)) (List.sublist_append_right _ _) ?_
                exact rq_v (rv_ev rfl)
              ·
                intro vf pf hR
                have e11 : vf 11 = .bool true ∧ pf 11 = [] := hR 11 (by decide)
                have e17 : vf 17 = .int .i64 n ∧ pf 17 = [] := hR 17 (by decide)
                have e18 : vf 18 = .int .i64 (perI d) ∧ pf 18 = [] := hR 18 (by decide)
                refine Or.inl ⟨want_of (congrArg some e11.1) rfl, ?_⟩
                refine rq_less (l' := [rowE 3 1 v25 ((reachS d y).length) ((reachS d y).map (Value.int .i64)), rowE 3 1 v7 ((srcI d n).length) ((srcI d n).map (Value.int .i64)), boxE b5 #[.int .i64 d.W, .int .i64 d.H, .int .i64 d.T, .int .i64 d.R] 25]) (sub_cons (d := 136) (congrArg some e17.1) (sub_cons (d := 137) (congrArg some e18.1) (sub_nil _))) (List.sublist_append_right _ _) ?_
                exact rq_v (rv_quo rfl rfl rfl (by refine ⟨?_, ?_, ?_⟩ <;> omega))
              ·
                intro vf pf hR
                have e11 : vf 11 = .bool true ∧ pf 11 = [] := hR 11 (by decide)
                have e16 : vf 16 = .int .i64 (getI (reachS d y) (((reachS d y).length : Int) - 1)) ∧ pf 16 = [] := hR 16 (by decide)
                have e19 : vf 19 = .int .i64 (n / (perI d)) ∧ pf 19 = [] := hR 19 (by decide)
                refine Or.inl ⟨want_of (congrArg some e11.1) rfl, ?_⟩
                refine rq_less (l' := [rowE 3 1 v25 ((reachS d y).length) ((reachS d y).map (Value.int .i64)), rowE 3 1 v7 ((srcI d n).length) ((srcI d n).map (Value.int .i64)), boxE b5 #[.int .i64 d.W, .int .i64 d.H, .int .i64 d.T, .int .i64 d.R] 25]) (sub_cons (d := 135) (congrArg some e16.1) (sub_cons (d := 138) (congrArg some e19.1) (sub_nil _))) (List.sublist_append_right _ _) ?_
                exact rq_mono (rq_v (rv_cmp rfl rfl rfl rfl)) (fun _ _ h => ⟨h.1.trans (congrArg Value.bool hb30), h.2⟩)
              ·
                intro vf pf hR
                have e6 : vf 6 = .bool false ∧ pf 6 = [] := hR 6 (by decide)
                have e11 : vf 11 = .bool true ∧ pf 11 = [] := hR 11 (by decide)
                have e20 : vf 20 = .bool false ∧ pf 20 = [] := hR 20 (by decide)
                refine Or.inl ⟨want_of (congrArg some e6.1) rfl, ?_⟩
                refine rq_less (l' := [rowE 3 1 v25 ((reachS d y).length) ((reachS d y).map (Value.int .i64)), rowE 3 1 v7 ((srcI d n).length) ((srcI d n).map (Value.int .i64)), boxE b5 #[.int .i64 d.W, .int .i64 d.H, .int .i64 d.T, .int .i64 d.R] 25]) (sub_cons (d := 130) (congrArg some e11.1) (sub_cons (d := 139) (congrArg some e20.1) (sub_nil _))) (List.sublist_append_right _ _) ?_
                exact rq_v (rv_ev rfl)
              ·
                intro vf pf hR
                have e6 : vf 6 = .bool false ∧ pf 6 = [] := hR 6 (by decide)
                have e21 : vf 21 = .bool false ∧ pf 21 = [] := hR 21 (by decide)
                refine Or.inl ⟨rfl, ?_⟩
                refine rq_less (l' := [rowE 3 1 v25 ((reachS d y).length) ((reachS d y).map (Value.int .i64)), rowE 3 1 v7 ((srcI d n).length) ((srcI d n).map (Value.int .i64)), boxE b5 #[.int .i64 d.W, .int .i64 d.H, .int .i64 d.T, .int .i64 d.R] 25]) (sub_cons (d := 125) (congrArg some e6.1) (sub_cons (d := 140) (congrArg some e21.1) (sub_nil _))) (List.sublist_append_right _ _) ?_
                exact rq_v (rv_ev rfl)
            ·
              intro vf pf hR
              have e22 : vf 22 = .bool false ∧ pf 22 = [] := hR 22 (by decide)
              refine hl_less (l' := [rowE 3 1 v25 ((reachS d y).length) ((reachS d y).map (Value.int .i64)), rowE 3 1 v7 ((srcI d n).length) ((srcI d n).map (Value.int .i64)), boxE b5 #[.int .i64 d.W, .int .i64 d.H, .int .i64 d.T, .int .i64 d.R] 25]) (sub_cons (d := 0) rfl (sub_cons (d := 2) rfl (sub_cons (d := 3) rfl (sub_cons (d := 4) rfl (sub_cons (d := 5) rfl (sub_cons (d := 6) rfl (sub_cons (d := 7) rfl (sub_cons (d := 8) rfl (sub_cons (d := 9) rfl (sub_cons (d := 10) rfl (sub_cons (d := 12) rfl (sub_cons (d := 29) rfl (sub_cons (d := 69) rfl (sub_cons (d := 96) rfl (sub_cons (d := 141) (congrArg some e22.1) (sub_nil _)))))))))))))))) (List.sublist_append_right _ _) ?_
              simp only [List.drop_succ_cons, List.drop_zero]
              refine hl_less (sub_cons (d := 0) rfl (sub_cons (d := 2) rfl (sub_cons (d := 3) rfl (sub_cons (d := 4) rfl (sub_cons (d := 5) rfl (sub_cons (d := 6) rfl (sub_cons (d := 7) rfl (sub_cons (d := 8) rfl (sub_cons (d := 9) rfl (sub_cons (d := 10) rfl (sub_cons (d := 12) rfl (sub_cons (d := 29) rfl (sub_cons (d := 69) rfl (sub_cons (d := 96) rfl (sub_cons (d := 141) rfl (sub_nil _)))))))))))))))) (.refl _) ?_
              refine hl_nil ?_
              refine hq_then ?_
              refine hc_false rfl ?_
              refine hc_skip ?_
              exact hq_meet1 () trivial (sub_cons (d := 0) rfl (sub_cons (d := 2) rfl (sub_cons (d := 3) rfl (sub_cons (d := 4) rfl (sub_cons (d := 5) rfl (sub_cons (d := 6) rfl (sub_cons (d := 7) rfl (sub_cons (d := 8) rfl (sub_cons (d := 9) rfl (sub_cons (d := 10) rfl (sub_cons (d := 12) rfl (sub_cons (d := 29) rfl (sub_cons (d := 69) rfl (sub_cons (d := 96) rfl (sub_nil _))))))))))))))) ((.cons_cons _ (.cons_cons _ (.cons_cons _ .slnil))))
          ·
            have hb29p : ¬ (7 ≤ n % (perI d)) := of_decide_eq_false hb29
            refine hc_draw (by kernel_rfl) 23 [0, 1, 2, 3, 4, 5, 6, 7, 8, 9, 10, 11, 12, 13, 14, 15, 16, 17, 18, 19, 20, 21, 22] (List.take 23 _) (List.drop 23 _) [[], [], [], [1, 2], [0, 3], [4], [5], [6], [6], [6, 7, 8], [6, 9], [6, 10], [11], [11], [11], [11], [11], [11], [11], [11], [11], [6, 11, 20], [6, 21]] [119, 120, 121, 122, 123, 124, 125, 126, 127, 128, 129, 130, 131, 132, 133, 134, 135, 136, 137, 138, 139, 140, 141] (fun i v p => match i with | 0 => v = v25 ∧ p = [] | 1 => v = .int .i64 n ∧ p = [] | 2 => v = .int .i64 (perI d) ∧ p = [] | 3 => v = .int .i64 (n / (perI d)) ∧ p = [] | 4 => v = .bool true ∧ p = [] | 5 => v = .bool false ∧ p = [] | 6 => v = .bool false ∧ p = [] | 7 => v = .int .i64 n ∧ p = [] | 8 => v = .int .i64 (perI d) ∧ p = [] | 9 => v = .int .i64 (n % (perI d)) ∧ p = [] | 10 => v = .bool false ∧ p = [] | 11 => v = .bool false ∧ p = [] | 12 => v = undef ∧ p = [] | 13 => v = undef ∧ p = [] | 14 => v = undef ∧ p = [] | 15 => v = undef ∧ p = [] | 16 => v = undef ∧ p = [] | 17 => v = undef ∧ p = [] | 18 => v = undef ∧ p = [] | 19 => v = undef ∧ p = [] | 20 => v = undef ∧ p = [] | 21 => v = .bool false ∧ p = [] | 22 => v = .bool false ∧ p = [] | _ => True) (List.take_append_drop 23 _).symm (by kernel_rfl) (by kernel_rfl) rfl rfl ?_ ?_
            ·
              refine ⟨?_, ?_, ?_, ?_, ?_, ?_, ?_, ?_, ?_, ?_, ?_, ?_, ?_, ?_, ?_, ?_, ?_, ?_, ?_, ?_, ?_, ?_, ?_, trivial⟩
              ·
                intro vf pf hR
                refine Or.inl ⟨rfl, ?_⟩
                refine rq_less (l' := [rowE 3 1 v25 ((reachS d y).length) ((reachS d y).map (Value.int .i64)), rowE 3 1 v7 ((srcI d n).length) ((srcI d n).map (Value.int .i64)), boxE b5 #[.int .i64 d.W, .int .i64 d.H, .int .i64 d.T, .int .i64 d.R] 25]) (sub_cons (d := 10) rfl (sub_nil _)) (List.sublist_append_right _ _) ?_
                exact rq_v (rv_ev rfl)
              ·
                intro vf pf hR
                refine Or.inl ⟨rfl, ?_⟩
                refine rq_less (l' := [rowE 3 1 v25 ((reachS d y).length) ((reachS d y).map (Value.int .i64)), rowE 3 1 v7 ((srcI d n).length) ((srcI d n).map (Value.int .i64)), boxE b5 #[.int .i64 d.W, .int .i64 d.H, .int .i64 d.T, .int .i64 d.R] 25]) (sub_cons (d := 6) rfl (sub_nil _)) (List.sublist_append_right _ _) ?_
                exact rq_v (rv_ev rfl)
              ·
                intro vf pf hR
                refine Or.inl ⟨rfl, ?_⟩
                refine rq_less (l' := [rowE 3 1 v25 ((reachS d y).length) ((reachS d y).map (Value.int .i64)), rowE 3 1 v7 ((srcI d n).length) ((srcI d n).map (Value.int .i64)), boxE b5 #[.int .i64 d.W, .int .i64 d.H, .int .i64 d.T, .int .i64 d.R] 25]) (sub_cons (d := 4) rfl (sub_nil _)) (List.sublist_append_right _ _) ?_
                exact rq_v (rv_ev rfl)
              ·
                intro vf pf hR
                have e1 : vf 1 = .int .i64 n ∧ pf 1 = [] := hR 1 (by decide)
                have e2 : vf 2 = .int .i64 (perI d) ∧ pf 2 = [] := hR 2 (by decide)
                refine Or.inl ⟨rfl, ?_⟩
                refine rq_less (l' := [rowE 3 1 v25 ((reachS d y).length) ((reachS d y).map (Value.int .i64)), rowE 3 1 v7 ((srcI d n).length) ((srcI d n).map (Value.int .i64)), boxE b5 #[.int .i64 d.W, .int .i64 d.H, .int .i64 d.T, .int .i64 d.R] 25]) (sub_cons (d := 120) (congrArg some e1.1) (sub_cons (d := 121) (congrArg some e2.1) (sub_nil _))) (List.sublist_append_right _ _) ?_
                exact rq_v (rv_quo rfl rfl rfl (by refine ⟨?_, ?_, ?_⟩ <;> omega))
              ·
                intro vf pf hR
                have e0 : vf 0 = v25 ∧ pf 0 = [] := hR 0 (by decide)
                have e3 : vf 3 = .int .i64 (n / (perI d)) ∧ pf 3 = [] := hR 3 (by decide)
                refine Or.inl ⟨rfl, ?_⟩
                refine rq_less (l' := [rowE 3 1 v25 ((reachS d y).length) ((reachS d y).map (Value.int .i64)), rowE 3 1 v7 ((srcI d n).length) ((srcI d n).map (Value.int .i64)), boxE b5 #[.int .i64 d.W, .int .i64 d.H, .int .i64 d.T, .int .i64 d.R] 25]) (sub_cons (d := 119) (congrArg some e0.1) (sub_cons (d := 122) (congrArg some e3.1) (sub_nil _))) (List.sublist_append_right _ _) ?_
                exact rq_mono (rq_call (by kernel_rfl) rfl (fun w hm => ret_ans (lawsHas_ans (reachS d y) (n / (perI d)) _ w ((rd_row 0 rfl) w hm) (by omega)))) (fun _ _ h => ⟨h.1.trans (congrArg Value.bool hb28), h.2⟩)
              ·
                intro vf pf hR
                have e4 : vf 4 = .bool true ∧ pf 4 = [] := hR 4 (by decide)
                refine Or.inl ⟨rfl, ?_⟩
                refine rq_less (l' := [rowE 3 1 v25 ((reachS d y).length) ((reachS d y).map (Value.int .i64)), rowE 3 1 v7 ((srcI d n).length) ((srcI d n).map (Value.int .i64)), boxE b5 #[.int .i64 d.W, .int .i64 d.H, .int .i64 d.T, .int .i64 d.R] 25]) (sub_cons (d := 123) (congrArg some e4.1) (sub_nil _)) (List.sublist_append_right _ _) ?_
                exact rq_v (rv_ev rfl)
              ·
                intro vf pf hR
                have e5 : vf 5 = .bool false ∧ pf 5 = [] := hR 5 (by decide)
                refine Or.inl ⟨rfl, ?_⟩
                refine rq_less (l' := [rowE 3 1 v25 ((reachS d y).length) ((reachS d y).map (Value.int .i64)), rowE 3 1 v7 ((srcI d n).length) ((srcI d n).map (Value.int .i64)), boxE b5 #[.int .i64 d.W, .int .i64 d.H, .int .i64 d.T, .int .i64 d.R] 25]) (sub_cons (d := 124) (congrArg some e5.1) (sub_nil _)) (List.sublist_append_right _ _) ?_
                exact rq_v (rv_ev rfl)
              ·
                intro vf pf hR
                have e6 : vf 6 = .bool false ∧ pf 6 = [] := hR 6 (by decide)
                refine Or.inl ⟨want_of (congrArg some e6.1) rfl, ?_⟩
                refine rq_less (l' := [rowE 3 1 v25 ((reachS d y).length) ((reachS d y).map (Value.int .i64)), rowE 3 1 v7 ((srcI d n).length) ((srcI d n).map (Value.int .i64)), boxE b5 #[.int .i64 d.W, .int .i64 d.H, .int .i64 d.T, .int .i64 d.R] 25]) (sub_cons (d := 6) rfl (sub_nil _)) (List.sublist_append_right _ _) ?_
                exact rq_v (rv_ev rfl)
              ·
                intro vf pf hR
                have e6 : vf 6 = .bool false ∧ pf 6 = [] := hR 6 (by decide)
                refine Or.inl ⟨want_of (congrArg some e6.1) rfl, ?_⟩
                refine rq_less (l' := [rowE 3 1 v25 ((reachS d y).length) ((reachS d y).map (Value.int .i64)), rowE 3 1 v7 ((srcI d n).length) ((srcI d n).map (Value.int .i64)), boxE b5 #[.int .i64 d.W, .int .i64 d.H, .int .i64 d.T, .int .i64 d.R] 25]) (sub_cons (d := 4) rfl (sub_nil _)) (List.sublist_append_right _ _) ?_
                exact rq_v (rv_ev rfl)
              ·
                intro vf pf hR
                have e6 : vf 6 = .bool false ∧ pf 6 = [] := hR 6 (by decide)
                have e7 : vf 7 = .int .i64 n ∧ pf 7 = [] := hR 7 (by decide)
                have e8 : vf 8 = .int .i64 (perI d) ∧ pf 8 = [] := hR 8 (by decide)
                refine Or.inl ⟨want_of (congrArg some e6.1) rfl, ?_⟩
                refine rq_less (l' := [rowE 3 1 v25 ((reachS d y).length) ((reachS d y).map (Value.int .i64)), rowE 3 1 v7 ((srcI d n).length) ((srcI d n).map (Value.int .i64)), boxE b5 #[.int .i64 d.W, .int .i64 d.H, .int .i64 d.T, .int .i64 d.R] 25]) (sub_cons (d := 126) (congrArg some e7.1) (sub_cons (d := 127) (congrArg some e8.1) (sub_nil _))) (List.sublist_append_right _ _) ?_
                exact rq_v (rv_rem rfl rfl rfl (by constructor <;> omega))
              ·
                intro vf pf hR
                have e6 : vf 6 = .bool false ∧ pf 6 = [] := hR 6 (by decide)
                have e9 : vf 9 = .int .i64 (n % (perI d)) ∧ pf 9 = [] := hR 9 (by decide)
                refine Or.inl ⟨want_of (congrArg some e6.1) rfl, ?_⟩
                refine rq_less (l' := [rowE 3 1 v25 ((reachS d y).length) ((reachS d y).map (Value.int .i64)), rowE 3 1 v7 ((srcI d n).length) ((srcI d n).map (Value.int .i64)), boxE b5 #[.int .i64 d.W, .int .i64 d.H, .int .i64 d.T, .int .i64 d.R] 25]) (sub_cons (d := 128) (congrArg some e9.1) (sub_nil _)) (List.sublist_append_right _ _) ?_
                exact rq_mono (rq_v (rv_cmp rfl rfl rfl rfl)) (fun _ _ h => ⟨h.1.trans (congrArg Value.bool hb29), h.2⟩)
              ·
                intro vf pf hR
                have e6 : vf 6 = .bool false ∧ pf 6 = [] := hR 6 (by decide)
                have e10 : vf 10 = .bool false ∧ pf 10 = [] := hR 10 (by decide)
                refine Or.inl ⟨want_of (congrArg some e6.1) rfl, ?_⟩
                refine rq_less (l' := [rowE 3 1 v25 ((reachS d y).length) ((reachS d y).map (Value.int .i64)), rowE 3 1 v7 ((srcI d n).length) ((srcI d n).map (Value.int .i64)), boxE b5 #[.int .i64 d.W, .int .i64 d.H, .int .i64 d.T, .int .i64 d.R] 25]) (sub_cons (d := 129) (congrArg some e10.1) (sub_nil _)) (List.sublist_append_right _ _) ?_
                exact rq_v (rv_ev rfl)
              ·
                intro vf pf hR
                have e11 : vf 11 = .bool false ∧ pf 11 = [] := hR 11 (by decide)
                exact Or.inr ⟨want_of (congrArg some e11.1) rfl, rfl, rfl⟩
              ·
                intro vf pf hR
                have e11 : vf 11 = .bool false ∧ pf 11 = [] := hR 11 (by decide)
                exact Or.inr ⟨want_of (congrArg some e11.1) rfl, rfl, rfl⟩
              ·
                intro vf pf hR
                have e11 : vf 11 = .bool false ∧ pf 11 = [] := hR 11 (by decide)
                exact Or.inr ⟨want_of (congrArg some e11.1) rfl, rfl, rfl⟩
              ·
                intro vf pf hR
                have e11 : vf 11 = .bool false ∧ pf 11 = [] := hR 11 (by decide)
                exact Or.inr ⟨want_of (congrArg some e11.1) rfl, rfl, rfl⟩
              ·
                intro vf pf hR
                have e11 : vf 11 = .bool false ∧ pf 11 = [] := hR 11 (by decide)
                exact Or.inr ⟨want_of (congrArg some e11.1) rfl, rfl, rfl⟩
              ·
                intro vf pf hR
                have e11 : vf 11 = .bool false ∧ pf 11 = [] := hR 11 (by decide)
                exact Or.inr ⟨want_of (congrArg some e11.1) rfl, rfl, rfl⟩
              ·
                intro vf pf hR
                have e11 : vf 11 = .bool false ∧ pf 11 = [] := hR 11 (by decide)
                exact Or.inr ⟨want_of (congrArg some e11.1) rfl, rfl, rfl⟩
              ·
                intro vf pf hR
                have e11 : vf 11 = .bool false ∧ pf 11 = [] := hR 11 (by decide)
                exact Or.inr ⟨want_of (congrArg some e11.1) rfl, rfl, rfl⟩
              ·
                intro vf pf hR
                have e11 : vf 11 = .bool false ∧ pf 11 = [] := hR 11 (by decide)
                exact Or.inr ⟨want_of (congrArg some e11.1) rfl, rfl, rfl⟩
              ·
                intro vf pf hR
                have e6 : vf 6 = .bool false ∧ pf 6 = [] := hR 6 (by decide)
                have e11 : vf 11 = .bool false ∧ pf 11 = [] := hR 11 (by decide)
                have e20 : vf 20 = undef ∧ pf 20 = [] := hR 20 (by decide)
                refine Or.inl ⟨want_of (congrArg some e6.1) rfl, ?_⟩
                refine rq_less (l' := [rowE 3 1 v25 ((reachS d y).length) ((reachS d y).map (Value.int .i64)), rowE 3 1 v7 ((srcI d n).length) ((srcI d n).map (Value.int .i64)), boxE b5 #[.int .i64 d.W, .int .i64 d.H, .int .i64 d.T, .int .i64 d.R] 25]) (sub_cons (d := 130) (congrArg some e11.1) (sub_cons (d := 139) (congrArg some e20.1) (sub_nil _))) (List.sublist_append_right _ _) ?_
                exact rq_v (rv_ev rfl)
              ·
                intro vf pf hR
                have e6 : vf 6 = .bool false ∧ pf 6 = [] := hR 6 (by decide)
                have e21 : vf 21 = .bool false ∧ pf 21 = [] := hR 21 (by decide)
                refine Or.inl ⟨rfl, ?_⟩
                refine rq_less (l' := [rowE 3 1 v25 ((reachS d y).length) ((reachS d y).map (Value.int .i64)), rowE 3 1 v7 ((srcI d n).length) ((srcI d n).map (Value.int .i64)), boxE b5 #[.int .i64 d.W, .int .i64 d.H, .int .i64 d.T, .int .i64 d.R] 25]) (sub_cons (d := 125) (congrArg some e6.1) (sub_cons (d := 140) (congrArg some e21.1) (sub_nil _))) (List.sublist_append_right _ _) ?_
                exact rq_v (rv_ev rfl)
            ·
              intro vf pf hR
              have e22 : vf 22 = .bool false ∧ pf 22 = [] := hR 22 (by decide)
              refine hl_less (l' := [rowE 3 1 v25 ((reachS d y).length) ((reachS d y).map (Value.int .i64)), rowE 3 1 v7 ((srcI d n).length) ((srcI d n).map (Value.int .i64)), boxE b5 #[.int .i64 d.W, .int .i64 d.H, .int .i64 d.T, .int .i64 d.R] 25]) (sub_cons (d := 0) rfl (sub_cons (d := 2) rfl (sub_cons (d := 3) rfl (sub_cons (d := 4) rfl (sub_cons (d := 5) rfl (sub_cons (d := 6) rfl (sub_cons (d := 7) rfl (sub_cons (d := 8) rfl (sub_cons (d := 9) rfl (sub_cons (d := 10) rfl (sub_cons (d := 12) rfl (sub_cons (d := 29) rfl (sub_cons (d := 69) rfl (sub_cons (d := 96) rfl (sub_cons (d := 141) (congrArg some e22.1) (sub_nil _)))))))))))))))) (List.sublist_append_right _ _) ?_
              simp only [List.drop_succ_cons, List.drop_zero]
              refine hl_less (sub_cons (d := 0) rfl (sub_cons (d := 2) rfl (sub_cons (d := 3) rfl (sub_cons (d := 4) rfl (sub_cons (d := 5) rfl (sub_cons (d := 6) rfl (sub_cons (d := 7) rfl (sub_cons (d := 8) rfl (sub_cons (d := 9) rfl (sub_cons (d := 10) rfl (sub_cons (d := 12) rfl (sub_cons (d := 29) rfl (sub_cons (d := 69) rfl (sub_cons (d := 96) rfl (sub_cons (d := 141) rfl (sub_nil _)))))))))))))))) (.refl _) ?_
              refine hl_nil ?_
              refine hq_then ?_
              refine hc_false rfl ?_
              refine hc_skip ?_
              exact hq_meet1 () trivial (sub_cons (d := 0) rfl (sub_cons (d := 2) rfl (sub_cons (d := 3) rfl (sub_cons (d := 4) rfl (sub_cons (d := 5) rfl (sub_cons (d := 6) rfl (sub_cons (d := 7) rfl (sub_cons (d := 8) rfl (sub_cons (d := 9) rfl (sub_cons (d := 10) rfl (sub_cons (d := 12) rfl (sub_cons (d := 29) rfl (sub_cons (d := 69) rfl (sub_cons (d := 96) rfl (sub_nil _))))))))))))))) ((.cons_cons _ (.cons_cons _ (.cons_cons _ .slnil))))
        intro u0 hm31
        refine hc_seq ?_
        rcases Bool.eq_false_or_eq_true (decide (7 ≤ n % (perI d))) with hb32 | hb32
        ·
          have hb32p : 7 ≤ n % (perI d) := of_decide_eq_true hb32
          have hb33 : ((((y % (perI d)) - 7) / d.T) == (((((n % (perI d)) - 7) / d.T) + 2) % 4)) = false := by simp; omega
          refine hc_draw (by kernel_rfl) 23 [0, 1, 2, 3, 4, 5, 6, 7, 8, 9, 10, 11, 12, 13, 14, 15, 16, 17, 18, 19, 20, 21, 22] (List.take 23 _) (List.drop 23 _) [[], [], [0, 1], [2], [3], [4], [4], [4, 5, 6], [4, 7], [4], [4, 9], [4, 8, 10], [4], [4], [4, 12, 13], [4, 14], [4], [4, 16], [4, 15, 17], [4, 18], [4, 19], [4, 11, 20], [4, 21]] [142, 143, 144, 145, 146, 147, 148, 149, 150, 151, 152, 153, 154, 155, 156, 157, 158, 159, 160, 161, 162, 163, 164] (fun i v p => match i with | 0 => v = .int .i64 n ∧ p = [] | 1 => v = .int .i64 (perI d) ∧ p = [] | 2 => v = .int .i64 (n % (perI d)) ∧ p = [] | 3 => v = .bool true ∧ p = [] | 4 => v = .bool true ∧ p = [] | 5 => v = .int .i64 y ∧ p = [] | 6 => v = .int .i64 (perI d) ∧ p = [] | 7 => v = .int .i64 (y % (perI d)) ∧ p = [] | 8 => v = .int .i64 ((y % (perI d)) - 7) ∧ p = [] | 9 => v = .pointer (some ⟨b5, 0 + 2, none⟩) ∧ p = [] | 10 => v = .int .i64 d.T ∧ p = [] | 11 => v = .int .i64 (((y % (perI d)) - 7) / d.T) ∧ p = [] | 12 => v = .int .i64 n ∧ p = [] | 13 => v = .int .i64 (perI d) ∧ p = [] | 14 => v = .int .i64 (n % (perI d)) ∧ p = [] | 15 => v = .int .i64 ((n % (perI d)) - 7) ∧ p = [] | 16 => v = .pointer (some ⟨b5, 0 + 2, none⟩) ∧ p = [] | 17 => v = .int .i64 d.T ∧ p = [] | 18 => v = .int .i64 (((n % (perI d)) - 7) / d.T) ∧ p = [] | 19 => v = .int .i64 ((((n % (perI d)) - 7) / d.T) + 2) ∧ p = [] | 20 => v = .int .i64 (((((n % (perI d)) - 7) / d.T) + 2) % 4) ∧ p = [] | 21 => v = .bool false ∧ p = [] | 22 => v = .bool false ∧ p = [] | _ => True) (List.take_append_drop 23 _).symm (by kernel_rfl) (by kernel_rfl) rfl rfl ?_ ?_
          ·
            refine ⟨?_, ?_, ?_, ?_, ?_, ?_, ?_, ?_, ?_, ?_, ?_, ?_, ?_, ?_, ?_, ?_, ?_, ?_, ?_, ?_, ?_, ?_, ?_, trivial⟩
            ·
              intro vf pf hR
              refine Or.inl ⟨rfl, ?_⟩
              refine rq_less (l' := [rowE 3 1 v25 ((reachS d y).length) ((reachS d y).map (Value.int .i64)), rowE 3 1 v7 ((srcI d n).length) ((srcI d n).map (Value.int .i64)), boxE b5 #[.int .i64 d.W, .int .i64 d.H, .int .i64 d.T, .int .i64 d.R] 25]) (sub_cons (d := 6) rfl (sub_nil _)) (List.sublist_append_right _ _) ?_
              exact rq_v (rv_ev rfl)
            ·
              intro vf pf hR
              refine Or.inl ⟨rfl, ?_⟩
              refine rq_less (l' := [rowE 3 1 v25 ((reachS d y).length) ((reachS d y).map (Value.int .i64)), rowE 3 1 v7 ((srcI d n).length) ((srcI d n).map (Value.int .i64)), boxE b5 #[.int .i64 d.W, .int .i64 d.H, .int .i64 d.T, .int .i64 d.R] 25]) (sub_cons (d := 4) rfl (sub_nil _)) (List.sublist_append_right _ _) ?_
              exact rq_v (rv_ev rfl)
            ·
              intro vf pf hR
              have e0 : vf 0 = .int .i64 n ∧ pf 0 = [] := hR 0 (by decide)
              have e1 : vf 1 = .int .i64 (perI d) ∧ pf 1 = [] := hR 1 (by decide)
              refine Or.inl ⟨rfl, ?_⟩
              refine rq_less (l' := [rowE 3 1 v25 ((reachS d y).length) ((reachS d y).map (Value.int .i64)), rowE 3 1 v7 ((srcI d n).length) ((srcI d n).map (Value.int .i64)), boxE b5 #[.int .i64 d.W, .int .i64 d.H, .int .i64 d.T, .int .i64 d.R] 25]) (sub_cons (d := 142) (congrArg some e0.1) (sub_cons (d := 143) (congrArg some e1.1) (sub_nil _))) (List.sublist_append_right _ _) ?_
              exact rq_v (rv_rem rfl rfl rfl (by constructor <;> omega))
            ·
              intro vf pf hR
              have e2 : vf 2 = .int .i64 (n % (perI d)) ∧ pf 2 = [] := hR 2 (by decide)
              refine Or.inl ⟨rfl, ?_⟩
              refine rq_less (l' := [rowE 3 1 v25 ((reachS d y).length) ((reachS d y).map (Value.int .i64)), rowE 3 1 v7 ((srcI d n).length) ((srcI d n).map (Value.int .i64)), boxE b5 #[.int .i64 d.W, .int .i64 d.H, .int .i64 d.T, .int .i64 d.R] 25]) (sub_cons (d := 144) (congrArg some e2.1) (sub_nil _)) (List.sublist_append_right _ _) ?_
              exact rq_mono (rq_v (rv_cmp rfl rfl rfl rfl)) (fun _ _ h => ⟨h.1.trans (congrArg Value.bool hb32), h.2⟩)
            ·
              intro vf pf hR
              have e3 : vf 3 = .bool true ∧ pf 3 = [] := hR 3 (by decide)
              refine Or.inl ⟨rfl, ?_⟩
              refine rq_less (l' := [rowE 3 1 v25 ((reachS d y).length) ((reachS d y).map (Value.int .i64)), rowE 3 1 v7 ((srcI d n).length) ((srcI d n).map (Value.int .i64)), boxE b5 #[.int .i64 d.W, .int .i64 d.H, .int .i64 d.T, .int .i64 d.R] 25]) (sub_cons (d := 145) (congrArg some e3.1) (sub_nil _)) (List.sublist_append_right _ _) ?_
              exact rq_v (rv_ev rfl)
            ·
              intro vf pf hR
              have e4 : vf 4 = .bool true ∧ pf 4 = [] := hR 4 (by decide)
              refine Or.inl ⟨want_of (congrArg some e4.1) rfl, ?_⟩
              refine rq_less (l' := [rowE 3 1 v25 ((reachS d y).length) ((reachS d y).map (Value.int .i64)), rowE 3 1 v7 ((srcI d n).length) ((srcI d n).map (Value.int .i64)), boxE b5 #[.int .i64 d.W, .int .i64 d.H, .int .i64 d.T, .int .i64 d.R] 25]) (sub_cons (d := 9) rfl (sub_nil _)) (List.sublist_append_right _ _) ?_
              exact rq_v (rv_ev rfl)
            ·
              intro vf pf hR
              have e4 : vf 4 = .bool true ∧ pf 4 = [] := hR 4 (by decide)
              refine Or.inl ⟨want_of (congrArg some e4.1) rfl, ?_⟩
              refine rq_less (l' := [rowE 3 1 v25 ((reachS d y).length) ((reachS d y).map (Value.int .i64)), rowE 3 1 v7 ((srcI d n).length) ((srcI d n).map (Value.int .i64)), boxE b5 #[.int .i64 d.W, .int .i64 d.H, .int .i64 d.T, .int .i64 d.R] 25]) (sub_cons (d := 4) rfl (sub_nil _)) (List.sublist_append_right _ _) ?_
              exact rq_v (rv_ev rfl)
            ·
              intro vf pf hR
              have e4 : vf 4 = .bool true ∧ pf 4 = [] := hR 4 (by decide)
              have e5 : vf 5 = .int .i64 y ∧ pf 5 = [] := hR 5 (by decide)
              have e6 : vf 6 = .int .i64 (perI d) ∧ pf 6 = [] := hR 6 (by decide)
              refine Or.inl ⟨want_of (congrArg some e4.1) rfl, ?_⟩
              refine rq_less (l' := [rowE 3 1 v25 ((reachS d y).length) ((reachS d y).map (Value.int .i64)), rowE 3 1 v7 ((srcI d n).length) ((srcI d n).map (Value.int .i64)), boxE b5 #[.int .i64 d.W, .int .i64 d.H, .int .i64 d.T, .int .i64 d.R] 25]) (sub_cons (d := 147) (congrArg some e5.1) (sub_cons (d := 148) (congrArg some e6.1) (sub_nil _))) (List.sublist_append_right _ _) ?_
              exact rq_v (rv_rem rfl rfl rfl (by constructor <;> omega))
            ·
              intro vf pf hR
              have e4 : vf 4 = .bool true ∧ pf 4 = [] := hR 4 (by decide)
              have e7 : vf 7 = .int .i64 (y % (perI d)) ∧ pf 7 = [] := hR 7 (by decide)
              refine Or.inl ⟨want_of (congrArg some e4.1) rfl, ?_⟩
              refine rq_less (l' := [rowE 3 1 v25 ((reachS d y).length) ((reachS d y).map (Value.int .i64)), rowE 3 1 v7 ((srcI d n).length) ((srcI d n).map (Value.int .i64)), boxE b5 #[.int .i64 d.W, .int .i64 d.H, .int .i64 d.T, .int .i64 d.R] 25]) (sub_cons (d := 149) (congrArg some e7.1) (sub_nil _)) (List.sublist_append_right _ _) ?_
              exact rq_v (rv_sub rfl rfl rfl (by constructor <;> omega))
            ·
              intro vf pf hR
              have e4 : vf 4 = .bool true ∧ pf 4 = [] := hR 4 (by decide)
              refine Or.inl ⟨want_of (congrArg some e4.1) rfl, ?_⟩
              refine rq_less (l' := [rowE 3 1 v25 ((reachS d y).length) ((reachS d y).map (Value.int .i64)), rowE 3 1 v7 ((srcI d n).length) ((srcI d n).map (Value.int .i64)), boxE b5 #[.int .i64 d.W, .int .i64 d.H, .int .i64 d.T, .int .i64 d.R] 25]) (sub_cons (d := 3) rfl (sub_nil _)) (List.sublist_append_right _ _) ?_
              exact rq_v (rv_field (k0 := 2) rfl (by kernel_rfl) rfl)
            ·
              intro vf pf hR
              have e4 : vf 4 = .bool true ∧ pf 4 = [] := hR 4 (by decide)
              have e9 : vf 9 = .pointer (some ⟨b5, 0 + 2, none⟩) ∧ pf 9 = [] := hR 9 (by decide)
              refine Or.inl ⟨want_of (congrArg some e4.1) rfl, ?_⟩
              refine rq_less (l' := [rowE 3 1 v25 ((reachS d y).length) ((reachS d y).map (Value.int .i64)), rowE 3 1 v7 ((srcI d n).length) ((srcI d n).map (Value.int .i64)), boxE b5 #[.int .i64 d.W, .int .i64 d.H, .int .i64 d.T, .int .i64 d.R] 25]) (sub_cons (d := 151) (congrArg some e9.1) (sub_nil _)) (List.sublist_append_right _ _) ?_
              exact rq_v (rv_load rfl (by kernel_rfl) rfl (box_cell 2 rfl rfl))
            ·
              intro vf pf hR
              have e4 : vf 4 = .bool true ∧ pf 4 = [] := hR 4 (by decide)
              have e8 : vf 8 = .int .i64 ((y % (perI d)) - 7) ∧ pf 8 = [] := hR 8 (by decide)
              have e10 : vf 10 = .int .i64 d.T ∧ pf 10 = [] := hR 10 (by decide)
              refine Or.inl ⟨want_of (congrArg some e4.1) rfl, ?_⟩
              refine rq_less (l' := [rowE 3 1 v25 ((reachS d y).length) ((reachS d y).map (Value.int .i64)), rowE 3 1 v7 ((srcI d n).length) ((srcI d n).map (Value.int .i64)), boxE b5 #[.int .i64 d.W, .int .i64 d.H, .int .i64 d.T, .int .i64 d.R] 25]) (sub_cons (d := 150) (congrArg some e8.1) (sub_cons (d := 152) (congrArg some e10.1) (sub_nil _))) (List.sublist_append_right _ _) ?_
              exact rq_v (rv_quo rfl rfl rfl (by refine ⟨?_, ?_, ?_⟩ <;> omega))
            ·
              intro vf pf hR
              have e4 : vf 4 = .bool true ∧ pf 4 = [] := hR 4 (by decide)
              refine Or.inl ⟨want_of (congrArg some e4.1) rfl, ?_⟩
              refine rq_less (l' := [rowE 3 1 v25 ((reachS d y).length) ((reachS d y).map (Value.int .i64)), rowE 3 1 v7 ((srcI d n).length) ((srcI d n).map (Value.int .i64)), boxE b5 #[.int .i64 d.W, .int .i64 d.H, .int .i64 d.T, .int .i64 d.R] 25]) (sub_cons (d := 6) rfl (sub_nil _)) (List.sublist_append_right _ _) ?_
              exact rq_v (rv_ev rfl)
            ·
              intro vf pf hR
              have e4 : vf 4 = .bool true ∧ pf 4 = [] := hR 4 (by decide)
              refine Or.inl ⟨want_of (congrArg some e4.1) rfl, ?_⟩
              refine rq_less (l' := [rowE 3 1 v25 ((reachS d y).length) ((reachS d y).map (Value.int .i64)), rowE 3 1 v7 ((srcI d n).length) ((srcI d n).map (Value.int .i64)), boxE b5 #[.int .i64 d.W, .int .i64 d.H, .int .i64 d.T, .int .i64 d.R] 25]) (sub_cons (d := 4) rfl (sub_nil _)) (List.sublist_append_right _ _) ?_
              exact rq_v (rv_ev rfl)
            ·
              intro vf pf hR
              have e4 : vf 4 = .bool true ∧ pf 4 = [] := hR 4 (by decide)
              have e12 : vf 12 = .int .i64 n ∧ pf 12 = [] := hR 12 (by decide)
              have e13 : vf 13 = .int .i64 (perI d) ∧ pf 13 = [] := hR 13 (by decide)
              refine Or.inl ⟨want_of (congrArg some e4.1) rfl, ?_⟩
              refine rq_less (l' := [rowE 3 1 v25 ((reachS d y).length) ((reachS d y).map (Value.int .i64)), rowE 3 1 v7 ((srcI d n).length) ((srcI d n).map (Value.int .i64)), boxE b5 #[.int .i64 d.W, .int .i64 d.H, .int .i64 d.T, .int .i64 d.R] 25]) (sub_cons (d := 154) (congrArg some e12.1) (sub_cons (d := 155) (congrArg some e13.1) (sub_nil _))) (List.sublist_append_right _ _) ?_
              exact rq_v (rv_rem rfl rfl rfl (by constructor <;> omega))
            ·
              intro vf pf hR
              have e4 : vf 4 = .bool true ∧ pf 4 = [] := hR 4 (by decide)
              have e14 : vf 14 = .int .i64 (n % (perI d)) ∧ pf 14 = [] := hR 14 (by decide)
              refine Or.inl ⟨want_of (congrArg some e4.1) rfl, ?_⟩
              refine rq_less (l' := [rowE 3 1 v25 ((reachS d y).length) ((reachS d y).map (Value.int .i64)), rowE 3 1 v7 ((srcI d n).length) ((srcI d n).map (Value.int .i64)), boxE b5 #[.int .i64 d.W, .int .i64 d.H, .int .i64 d.T, .int .i64 d.R] 25]) (sub_cons (d := 156) (congrArg some e14.1) (sub_nil _)) (List.sublist_append_right _ _) ?_
              exact rq_v (rv_sub rfl rfl rfl (by constructor <;> omega))
            ·
              intro vf pf hR
              have e4 : vf 4 = .bool true ∧ pf 4 = [] := hR 4 (by decide)
              refine Or.inl ⟨want_of (congrArg some e4.1) rfl, ?_⟩
              refine rq_less (l' := [rowE 3 1 v25 ((reachS d y).length) ((reachS d y).map (Value.int .i64)), rowE 3 1 v7 ((srcI d n).length) ((srcI d n).map (Value.int .i64)), boxE b5 #[.int .i64 d.W, .int .i64 d.H, .int .i64 d.T, .int .i64 d.R] 25]) (sub_cons (d := 3) rfl (sub_nil _)) (List.sublist_append_right _ _) ?_
              exact rq_v (rv_field (k0 := 2) rfl (by kernel_rfl) rfl)
            ·
              intro vf pf hR
              have e4 : vf 4 = .bool true ∧ pf 4 = [] := hR 4 (by decide)
              have e16 : vf 16 = .pointer (some ⟨b5, 0 + 2, none⟩) ∧ pf 16 = [] := hR 16 (by decide)
              refine Or.inl ⟨want_of (congrArg some e4.1) rfl, ?_⟩
              refine rq_less (l' := [rowE 3 1 v25 ((reachS d y).length) ((reachS d y).map (Value.int .i64)), rowE 3 1 v7 ((srcI d n).length) ((srcI d n).map (Value.int .i64)), boxE b5 #[.int .i64 d.W, .int .i64 d.H, .int .i64 d.T, .int .i64 d.R] 25]) (sub_cons (d := 158) (congrArg some e16.1) (sub_nil _)) (List.sublist_append_right _ _) ?_
              exact rq_v (rv_load rfl (by kernel_rfl) rfl (box_cell 2 rfl rfl))
            ·
              intro vf pf hR
              have e4 : vf 4 = .bool true ∧ pf 4 = [] := hR 4 (by decide)
              have e15 : vf 15 = .int .i64 ((n % (perI d)) - 7) ∧ pf 15 = [] := hR 15 (by decide)
              have e17 : vf 17 = .int .i64 d.T ∧ pf 17 = [] := hR 17 (by decide)
              refine Or.inl ⟨want_of (congrArg some e4.1) rfl, ?_⟩
              refine rq_less (l' := [rowE 3 1 v25 ((reachS d y).length) ((reachS d y).map (Value.int .i64)), rowE 3 1 v7 ((srcI d n).length) ((srcI d n).map (Value.int .i64)), boxE b5 #[.int .i64 d.W, .int .i64 d.H, .int .i64 d.T, .int .i64 d.R] 25]) (sub_cons (d := 157) (congrArg some e15.1) (sub_cons (d := 159) (congrArg some e17.1) (sub_nil _))) (List.sublist_append_right _ _) ?_
              exact rq_v (rv_quo rfl rfl rfl (by refine ⟨?_, ?_, ?_⟩ <;> omega))
            ·
              intro vf pf hR
              have e4 : vf 4 = .bool true ∧ pf 4 = [] := hR 4 (by decide)
              have e18 : vf 18 = .int .i64 (((n % (perI d)) - 7) / d.T) ∧ pf 18 = [] := hR 18 (by decide)
              refine Or.inl ⟨want_of (congrArg some e4.1) rfl, ?_⟩
              refine rq_less (l' := [rowE 3 1 v25 ((reachS d y).length) ((reachS d y).map (Value.int .i64)), rowE 3 1 v7 ((srcI d n).length) ((srcI d n).map (Value.int .i64)), boxE b5 #[.int .i64 d.W, .int .i64 d.H, .int .i64 d.T, .int .i64 d.R] 25]) (sub_cons (d := 160) (congrArg some e18.1) (sub_nil _)) (List.sublist_append_right _ _) ?_
              exact rq_v (rv_add rfl rfl rfl (by constructor <;> omega))
            ·
              intro vf pf hR
              have e4 : vf 4 = .bool true ∧ pf 4 = [] := hR 4 (by decide)
              have e19 : vf 19 = .int .i64 ((((n % (perI d)) - 7) / d.T) + 2) ∧ pf 19 = [] := hR 19 (by decide)
              refine Or.inl ⟨want_of (congrArg some e4.1) rfl, ?_⟩
              refine rq_less (l' := [rowE 3 1 v25 ((reachS d y).length) ((reachS d y).map (Value.int .i64)), rowE 3 1 v7 ((srcI d n).length) ((srcI d n).map (Value.int .i64)), boxE b5 #[.int .i64 d.W, .int .i64 d.H, .int .i64 d.T, .int .i64 d.R] 25]) (sub_cons (d := 161) (congrArg some e19.1) (sub_nil _)) (List.sublist_append_right _ _) ?_
              exact rq_v (rv_rem rfl rfl rfl (by constructor <;> omega))
            ·
              intro vf pf hR
              have e4 : vf 4 = .bool true ∧ pf 4 = [] := hR 4 (by decide)
              have e11 : vf 11 = .int .i64 (((y % (perI d)) - 7) / d.T) ∧ pf 11 = [] := hR 11 (by decide)
              have e20 : vf 20 = .int .i64 (((((n % (perI d)) - 7) / d.T) + 2) % 4) ∧ pf 20 = [] := hR 20 (by decide)
              refine Or.inl ⟨want_of (congrArg some e4.1) rfl, ?_⟩
              refine rq_less (l' := [rowE 3 1 v25 ((reachS d y).length) ((reachS d y).map (Value.int .i64)), rowE 3 1 v7 ((srcI d n).length) ((srcI d n).map (Value.int .i64)), boxE b5 #[.int .i64 d.W, .int .i64 d.H, .int .i64 d.T, .int .i64 d.R] 25]) (sub_cons (d := 153) (congrArg some e11.1) (sub_cons (d := 162) (congrArg some e20.1) (sub_nil _))) (List.sublist_append_right _ _) ?_
              exact rq_mono (rq_v (rv_cmp rfl rfl rfl rfl)) (fun _ _ h => ⟨h.1.trans (congrArg Value.bool hb33), h.2⟩)
            ·
              intro vf pf hR
              have e4 : vf 4 = .bool true ∧ pf 4 = [] := hR 4 (by decide)
              have e21 : vf 21 = .bool false ∧ pf 21 = [] := hR 21 (by decide)
              refine Or.inl ⟨rfl, ?_⟩
              refine rq_less (l' := [rowE 3 1 v25 ((reachS d y).length) ((reachS d y).map (Value.int .i64)), rowE 3 1 v7 ((srcI d n).length) ((srcI d n).map (Value.int .i64)), boxE b5 #[.int .i64 d.W, .int .i64 d.H, .int .i64 d.T, .int .i64 d.R] 25]) (sub_cons (d := 146) (congrArg some e4.1) (sub_cons (d := 163) (congrArg some e21.1) (sub_nil _))) (List.sublist_append_right _ _) ?_
              exact rq_v (rv_ev rfl)
          ·
            intro vf pf hR
            have e22 : vf 22 = .bool false ∧ pf 22 = [] := hR 22 (by decide)
            refine hl_less (l' := [rowE 3 1 v25 ((reachS d y).length) ((reachS d y).map (Value.int .i64)), rowE 3 1 v7 ((srcI d n).length) ((srcI d n).map (Value.int .i64)), boxE b5 #[.int .i64 d.W, .int .i64 d.H, .int .i64 d.T, .int .i64 d.R] 25]) (sub_cons (d := 0) rfl (sub_cons (d := 2) rfl (sub_cons (d := 3) rfl (sub_cons (d := 4) rfl (sub_cons (d := 5) rfl (sub_cons (d := 6) rfl (sub_cons (d := 7) rfl (sub_cons (d := 8) rfl (sub_cons (d := 9) rfl (sub_cons (d := 10) rfl (sub_cons (d := 12) rfl (sub_cons (d := 29) rfl (sub_cons (d := 69) rfl (sub_cons (d := 96) rfl (sub_cons (d := 164) (congrArg some e22.1) (sub_nil _)))))))))))))))) (List.sublist_append_right _ _) ?_
            simp only [List.drop_succ_cons, List.drop_zero]
            refine hl_less (sub_cons (d := 0) rfl (sub_cons (d := 2) rfl (sub_cons (d := 3) rfl (sub_cons (d := 4) rfl (sub_cons (d := 5) rfl (sub_cons (d := 6) rfl (sub_cons (d := 7) rfl (sub_cons (d := 8) rfl (sub_cons (d := 9) rfl (sub_cons (d := 10) rfl (sub_cons (d := 12) rfl (sub_cons (d := 29) rfl (sub_cons (d := 69) rfl (sub_cons (d := 96) rfl (sub_cons (d := 164) rfl (sub_nil _)))))))))))))))) (.refl _) ?_
            refine hl_nil ?_
            refine hq_then ?_
            refine hc_false rfl ?_
            refine hc_skip ?_
            refine hq_block_normal ?_
            refine hq_then ?_
            refine hc_region ?_
            refine hl_v rfl rfl rfl (rv_ev rfl) ?_
            refine hl_v rfl rfl rfl (rv_add rfl rfl rfl (by constructor <;> omega)) ?_
            refine hl_v rfl rfl rfl (rv_ev rfl) ?_
            refine hl_less (sub_cons (d := 0) rfl (sub_cons (d := 2) rfl (sub_cons (d := 3) rfl (sub_cons (d := 4) rfl (sub_cons (d := 5) rfl (sub_cons (d := 6) rfl (sub_cons (d := 7) rfl (sub_cons (d := 8) rfl (sub_cons (d := 9) rfl (sub_cons (d := 10) rfl (sub_cons (d := 12) rfl (sub_cons (d := 29) rfl (sub_cons (d := 69) rfl (sub_cons (d := 96) rfl (sub_cons (d := 164) rfl (sub_nil _)))))))))))))))) (.refl _) ?_
            refine hl_nil ?_
            exact hq_round1 (j + 1) (by omega) (by omega) (sub_cons (d := 0) rfl (sub_cons (d := 2) rfl (sub_cons (d := 3) rfl (sub_cons (d := 4) rfl (sub_cons (d := 5) rfl (sub_cons (d := 6) rfl (sub_cons (d := 7) rfl (sub_cons (d := 8) rfl (sub_cons (d := 12) rfl (sub_cons (d := 29) rfl (sub_nil _))))))))))) ((.cons _ (.cons_cons _ (.cons_cons _ .slnil))))
        ·
          have hb32p : ¬ (7 ≤ n % (perI d)) := of_decide_eq_false hb32
          refine hc_draw (by kernel_rfl) 23 [0, 1, 2, 3, 4, 5, 6, 7, 8, 9, 10, 11, 12, 13, 14, 15, 16, 17, 18, 19, 20, 21, 22] (List.take 23 _) (List.drop 23 _) [[], [], [0, 1], [2], [3], [4], [4], [4], [4], [4], [4], [4], [4], [4], [4], [4], [4], [4], [4], [4], [4], [4], [4, 21]] [142, 143, 144, 145, 146, 147, 148, 149, 150, 151, 152, 153, 154, 155, 156, 157, 158, 159, 160, 161, 162, 163, 164] (fun i v p => match i with | 0 => v = .int .i64 n ∧ p = [] | 1 => v = .int .i64 (perI d) ∧ p = [] | 2 => v = .int .i64 (n % (perI d)) ∧ p = [] | 3 => v = .bool false ∧ p = [] | 4 => v = .bool false ∧ p = [] | 5 => v = undef ∧ p = [] | 6 => v = undef ∧ p = [] | 7 => v = undef ∧ p = [] | 8 => v = undef ∧ p = [] | 9 => v = undef ∧ p = [] | 10 => v = undef ∧ p = [] | 11 => v = undef ∧ p = [] | 12 => v = undef ∧ p = [] | 13 => v = undef ∧ p = [] | 14 => v = undef ∧ p = [] | 15 => v = undef ∧ p = [] | 16 => v = undef ∧ p = [] | 17 => v = undef ∧ p = [] | 18 => v = undef ∧ p = [] | 19 => v = undef ∧ p = [] | 20 => v = undef ∧ p = [] | 21 => v = undef ∧ p = [] | 22 => v = .bool false ∧ p = [] | _ => True) (List.take_append_drop 23 _).symm (by kernel_rfl) (by kernel_rfl) rfl rfl ?_ ?_
          ·
            refine ⟨?_, ?_, ?_, ?_, ?_, ?_, ?_, ?_, ?_, ?_, ?_, ?_, ?_, ?_, ?_, ?_, ?_, ?_, ?_, ?_, ?_, ?_, ?_, trivial⟩
            ·
              intro vf pf hR
              refine Or.inl ⟨rfl, ?_⟩
              refine rq_less (l' := [rowE 3 1 v25 ((reachS d y).length) ((reachS d y).map (Value.int .i64)), rowE 3 1 v7 ((srcI d n).length) ((srcI d n).map (Value.int .i64)), boxE b5 #[.int .i64 d.W, .int .i64 d.H, .int .i64 d.T, .int .i64 d.R] 25]) (sub_cons (d := 6) rfl (sub_nil _)) (List.sublist_append_right _ _) ?_
              exact rq_v (rv_ev rfl)
            ·
              intro vf pf hR
              refine Or.inl ⟨rfl, ?_⟩
              refine rq_less (l' := [rowE 3 1 v25 ((reachS d y).length) ((reachS d y).map (Value.int .i64)), rowE 3 1 v7 ((srcI d n).length) ((srcI d n).map (Value.int .i64)), boxE b5 #[.int .i64 d.W, .int .i64 d.H, .int .i64 d.T, .int .i64 d.R] 25]) (sub_cons (d := 4) rfl (sub_nil _)) (List.sublist_append_right _ _) ?_
              exact rq_v (rv_ev rfl)
            ·
              intro vf pf hR
              have e0 : vf 0 = .int .i64 n ∧ pf 0 = [] := hR 0 (by decide)
              have e1 : vf 1 = .int .i64 (perI d) ∧ pf 1 = [] := hR 1 (by decide)
              refine Or.inl ⟨rfl, ?_⟩
              refine rq_less (l' := [rowE 3 1 v25 ((reachS d y).length) ((reachS d y).map (Value.int .i64)), rowE 3 1 v7 ((srcI d n).length) ((srcI d n).map (Value.int .i64)), boxE b5 #[.int .i64 d.W, .int .i64 d.H, .int .i64 d.T, .int .i64 d.R] 25]) (sub_cons (d := 142) (congrArg some e0.1) (sub_cons (d := 143) (congrArg some e1.1) (sub_nil _))) (List.sublist_append_right _ _) ?_
              exact rq_v (rv_rem rfl rfl rfl (by constructor <;> omega))
            ·
              intro vf pf hR
              have e2 : vf 2 = .int .i64 (n % (perI d)) ∧ pf 2 = [] := hR 2 (by decide)
              refine Or.inl ⟨rfl, ?_⟩
              refine rq_less (l' := [rowE 3 1 v25 ((reachS d y).length) ((reachS d y).map (Value.int .i64)), rowE 3 1 v7 ((srcI d n).length) ((srcI d n).map (Value.int .i64)), boxE b5 #[.int .i64 d.W, .int .i64 d.H, .int .i64 d.T, .int .i64 d.R] 25]) (sub_cons (d := 144) (congrArg some e2.1) (sub_nil _)) (List.sublist_append_right _ _) ?_
              exact rq_mono (rq_v (rv_cmp rfl rfl rfl rfl)) (fun _ _ h => ⟨h.1.trans (congrArg Value.bool hb32), h.2⟩)
            ·
              intro vf pf hR
              have e3 : vf 3 = .bool false ∧ pf 3 = [] := hR 3 (by decide)
              refine Or.inl ⟨rfl, ?_⟩
              refine rq_less (l' := [rowE 3 1 v25 ((reachS d y).length) ((reachS d y).map (Value.int .i64)), rowE 3 1 v7 ((srcI d n).length) ((srcI d n).map (Value.int .i64)), boxE b5 #[.int .i64 d.W, .int .i64 d.H, .int .i64 d.T, .int .i64 d.R] 25]) (sub_cons (d := 145) (congrArg some e3.1) (sub_nil _)) (List.sublist_append_right _ _) ?_
              exact rq_v (rv_ev rfl)
            ·
              intro vf pf hR
              have e4 : vf 4 = .bool false ∧ pf 4 = [] := hR 4 (by decide)
              exact Or.inr ⟨want_of (congrArg some e4.1) rfl, rfl, rfl⟩
            ·
              intro vf pf hR
              have e4 : vf 4 = .bool false ∧ pf 4 = [] := hR 4 (by decide)
              exact Or.inr ⟨want_of (congrArg some e4.1) rfl, rfl, rfl⟩
            ·
              intro vf pf hR
              have e4 : vf 4 = .bool false ∧ pf 4 = [] := hR 4 (by decide)
              exact Or.inr ⟨want_of (congrArg some e4.1) rfl, rfl, rfl⟩
            ·
              intro vf pf hR
              have e4 : vf 4 = .bool false ∧ pf 4 = [] := hR 4 (by decide)
              exact Or.inr ⟨want_of (congrArg some e4.1) rfl, rfl, rfl⟩
            ·
              intro vf pf hR
              have e4 : vf 4 = .bool false ∧ pf 4 = [] := hR 4 (by decide)
              exact Or.inr ⟨want_of (congrArg some e4.1) rfl, rfl, rfl⟩
            ·
              intro vf pf hR
              have e4 : vf 4 = .bool false ∧ pf 4 = [] := hR 4 (by decide)
              exact Or.inr ⟨want_of (congrArg some e4.1) rfl, rfl, rfl⟩
            ·
              intro vf pf hR
              have e4 : vf 4 = .bool false ∧ pf 4 = [] := hR 4 (by decide)
              exact Or.inr ⟨want_of (congrArg some e4.1) rfl, rfl, rfl⟩
            ·
              intro vf pf hR
              have e4 : vf 4 = .bool false ∧ pf 4 = [] := hR 4 (by decide)
              exact Or.inr ⟨want_of (congrArg some e4.1) rfl, rfl, rfl⟩
            ·
              intro vf pf hR
              have e4 : vf 4 = .bool false ∧ pf 4 = [] := hR 4 (by decide)
              exact Or.inr ⟨want_of (congrArg some e4.1) rfl, rfl, rfl⟩
            ·
              intro vf pf hR
              have e4 : vf 4 = .bool false ∧ pf 4 = [] := hR 4 (by decide)
              exact Or.inr ⟨want_of (congrArg some e4.1) rfl, rfl, rfl⟩
            ·
              intro vf pf hR
              have e4 : vf 4 = .bool false ∧ pf 4 = [] := hR 4 (by decide)
              exact Or.inr ⟨want_of (congrArg some e4.1) rfl, rfl, rfl⟩
            ·
              intro vf pf hR
              have e4 : vf 4 = .bool false ∧ pf 4 = [] := hR 4 (by decide)
              exact Or.inr ⟨want_of (congrArg some e4.1) rfl, rfl, rfl⟩
            ·
              intro vf pf hR
              have e4 : vf 4 = .bool false ∧ pf 4 = [] := hR 4 (by decide)
              exact Or.inr ⟨want_of (congrArg some e4.1) rfl, rfl, rfl⟩
            ·
              intro vf pf hR
              have e4 : vf 4 = .bool false ∧ pf 4 = [] := hR 4 (by decide)
              exact Or.inr ⟨want_of (congrArg some e4.1) rfl, rfl, rfl⟩
            ·
              intro vf pf hR
              have e4 : vf 4 = .bool false ∧ pf 4 = [] := hR 4 (by decide)
              exact Or.inr ⟨want_of (congrArg some e4.1) rfl, rfl, rfl⟩
            ·
              intro vf pf hR
              have e4 : vf 4 = .bool false ∧ pf 4 = [] := hR 4 (by decide)
              exact Or.inr ⟨want_of (congrArg some e4.1) rfl, rfl, rfl⟩
            ·
              intro vf pf hR
              have e4 : vf 4 = .bool false ∧ pf 4 = [] := hR 4 (by decide)
              exact Or.inr ⟨want_of (congrArg some e4.1) rfl, rfl, rfl⟩
            ·
              intro vf pf hR
              have e4 : vf 4 = .bool false ∧ pf 4 = [] := hR 4 (by decide)
              have e21 : vf 21 = undef ∧ pf 21 = [] := hR 21 (by decide)
              refine Or.inl ⟨rfl, ?_⟩
              refine rq_less (l' := [rowE 3 1 v25 ((reachS d y).length) ((reachS d y).map (Value.int .i64)), rowE 3 1 v7 ((srcI d n).length) ((srcI d n).map (Value.int .i64)), boxE b5 #[.int .i64 d.W, .int .i64 d.H, .int .i64 d.T, .int .i64 d.R] 25]) (sub_cons (d := 146) (congrArg some e4.1) (sub_cons (d := 163) (congrArg some e21.1) (sub_nil _))) (List.sublist_append_right _ _) ?_
              exact rq_v (rv_ev rfl)
          ·
            intro vf pf hR
            have e22 : vf 22 = .bool false ∧ pf 22 = [] := hR 22 (by decide)
            refine hl_less (l' := [rowE 3 1 v25 ((reachS d y).length) ((reachS d y).map (Value.int .i64)), rowE 3 1 v7 ((srcI d n).length) ((srcI d n).map (Value.int .i64)), boxE b5 #[.int .i64 d.W, .int .i64 d.H, .int .i64 d.T, .int .i64 d.R] 25]) (sub_cons (d := 0) rfl (sub_cons (d := 2) rfl (sub_cons (d := 3) rfl (sub_cons (d := 4) rfl (sub_cons (d := 5) rfl (sub_cons (d := 6) rfl (sub_cons (d := 7) rfl (sub_cons (d := 8) rfl (sub_cons (d := 9) rfl (sub_cons (d := 10) rfl (sub_cons (d := 12) rfl (sub_cons (d := 29) rfl (sub_cons (d := 69) rfl (sub_cons (d := 96) rfl (sub_cons (d := 164) (congrArg some e22.1) (sub_nil _)))))))))))))))) (List.sublist_append_right _ _) ?_
            simp only [List.drop_succ_cons, List.drop_zero]
            refine hl_less (sub_cons (d := 0) rfl (sub_cons (d := 2) rfl (sub_cons (d := 3) rfl (sub_cons (d := 4) rfl (sub_cons (d := 5) rfl (sub_cons (d := 6) rfl (sub_cons (d := 7) rfl (sub_cons (d := 8) rfl (sub_cons (d := 9) rfl (sub_cons (d := 10) rfl (sub_cons (d := 12) rfl (sub_cons (d := 29) rfl (sub_cons (d := 69) rfl (sub_cons (d := 96) rfl (sub_cons (d := 164) rfl (sub_nil _)))))))))))))))) (.refl _) ?_
            refine hl_nil ?_
            refine hq_then ?_
            refine hc_false rfl ?_
            refine hc_skip ?_
            refine hq_block_normal ?_
            refine hq_then ?_
            refine hc_region ?_
            refine hl_v rfl rfl rfl (rv_ev rfl) ?_
            refine hl_v rfl rfl rfl (rv_add rfl rfl rfl (by constructor <;> omega)) ?_
            refine hl_v rfl rfl rfl (rv_ev rfl) ?_
            refine hl_less (sub_cons (d := 0) rfl (sub_cons (d := 2) rfl (sub_cons (d := 3) rfl (sub_cons (d := 4) rfl (sub_cons (d := 5) rfl (sub_cons (d := 6) rfl (sub_cons (d := 7) rfl (sub_cons (d := 8) rfl (sub_cons (d := 9) rfl (sub_cons (d := 10) rfl (sub_cons (d := 12) rfl (sub_cons (d := 29) rfl (sub_cons (d := 69) rfl (sub_cons (d := 96) rfl (sub_cons (d := 164) rfl (sub_nil _)))))))))))))))) (.refl _) ?_
            refine hl_nil ?_
            exact hq_round1 (j + 1) (by omega) (by omega) (sub_cons (d := 0) rfl (sub_cons (d := 2) rfl (sub_cons (d := 3) rfl (sub_cons (d := 4) rfl (sub_cons (d := 5) rfl (sub_cons (d := 6) rfl (sub_cons (d := 7) rfl (sub_cons (d := 8) rfl (sub_cons (d := 12) rfl (sub_cons (d := 29) rfl (sub_nil _))))))))))) ((.cons _ (.cons_cons _ (.cons_cons _ .slnil))))
      ·
        have hy7 := isWire_not h24 hl1
        obtain ⟨hc1, hc2, hc3⟩ := loc_in hloc hy7
        obtain ⟨_, y0, y1⟩ := nodeOk_rng hl1
        refine hl_v rfl rfl rfl (rv_ev rfl) ?_
        refine hl_less (sub_cons (d := 0) rfl (sub_cons (d := 2) rfl (sub_cons (d := 3) rfl (sub_cons (d := 4) rfl (sub_cons (d := 5) rfl (sub_cons (d := 6) rfl (sub_cons (d := 7) rfl (sub_cons (d := 8) rfl (sub_cons (d := 9) rfl (sub_cons (d := 12) rfl (sub_cons (d := 29) rfl (sub_cons (d := 69) rfl (sub_cons (d := 96) rfl (sub_nil _)))))))))))))) (.refl _) ?_
        refine hl_nil ?_
        refine hq_then ?_
        refine hc_true rfl ?_
        refine hc_seq ?_
        refine hc_seq ?_
        have hb34 : ((y / (perI d)) != (n / (perI d))) = false := by simp; omega
        have hb35 : (decide (y % (perI d) < 5)) = false := by simp; omega
        have hb36 : (decide (n % (perI d) < 7)) = false := by simp; omega
        refine hc_draw (by kernel_rfl) 19 [0, 1, 2, 3, 4, 5, 6, 7, 8, 9, 10, 11, 12, 13, 14, 15, 16, 17, 18] (List.take 19 _) (List.drop 19 _) [[], [], [0, 1], [], [], [3, 4], [2, 5], [6], [7], [7], [7, 8, 9], [7, 10], [7, 11], [12], [13], [13], [13, 14, 15], [13, 16], [13, 17]] [97, 98, 99, 100, 101, 102, 103, 104, 105, 106, 107, 108, 109, 110, 111, 112, 113, 114, 115] (fun i v p => match i with | 0 => v = .int .i64 y ∧ p = [] | 1 => v = .int .i64 (perI d) ∧ p = [] | 2 => v = .int .i64 (y / (perI d)) ∧ p = [] | 3 => v = .int .i64 n ∧ p = [] | 4 => v = .int .i64 (perI d) ∧ p = [] | 5 => v = .int .i64 (n / (perI d)) ∧ p = [] | 6 => v = .bool false ∧ p = [] | 7 => v = .bool false ∧ p = [] | 8 => v = .int .i64 y ∧ p = [] | 9 => v = .int .i64 (perI d) ∧ p = [] | 10 => v = .int .i64 (y % (perI d)) ∧ p = [] | 11 => v = .bool false ∧ p = [] | 12 => v = .bool false ∧ p = [] | 13 => v = .bool false ∧ p = [] | 14 => v = .int .i64 n ∧ p = [] | 15 => v = .int .i64 (perI d) ∧ p = [] | 16 => v = .int .i64 (n % (perI d)) ∧ p = [] | 17 => v = .bool false ∧ p = [] | 18 => v = .bool false ∧ p = [] | _ => True) (List.take_append_drop 19 _).symm (by kernel_rfl) (by kernel_rfl) rfl rfl ?_ ?_
        ·
          refine ⟨?_, ?_, ?_, ?_, ?_, ?_, ?_, ?_, ?_, ?_, ?_, ?_, ?_, ?_, ?_, ?_, ?_, ?_, ?_, trivial⟩
          ·
            intro vf pf hR
            refine Or.inl ⟨rfl, ?_⟩
            refine rq_less (l' := [rowE 3 1 v7 ((srcI d n).length) ((srcI d n).map (Value.int .i64)), boxE b5 #[.int .i64 d.W, .int .i64 d.H, .int .i64 d.T, .int .i64 d.R] 25]) (sub_cons (d := 9) rfl (sub_nil _)) (List.sublist_append_right _ _) ?_
            exact rq_v (rv_ev rfl)
          ·
            intro vf pf hR
            refine Or.inl ⟨rfl, ?_⟩
            refine rq_less (l' := [rowE 3 1 v7 ((srcI d n).length) ((srcI d n).map (Value.int .i64)), boxE b5 #[.int .i64 d.W, .int .i64 d.H, .int .i64 d.T, .int .i64 d.R] 25]) (sub_cons (d := 4) rfl (sub_nil _)) (List.sublist_append_right _ _) ?_
            exact rq_v (rv_ev rfl)
          ·
            intro vf pf hR
            have e0 : vf 0 = .int .i64 y ∧ pf 0 = [] := hR 0 (by decide)
            have e1 : vf 1 = .int .i64 (perI d) ∧ pf 1 = [] := hR 1 (by decide)
            refine Or.inl ⟨rfl, ?_⟩
            refine rq_less (l' := [rowE 3 1 v7 ((srcI d n).length) ((srcI d n).map (Value.int .i64)), boxE b5 #[.int .i64 d.W, .int .i64 d.H, .int .i64 d.T, .int .i64 d.R] 25]) (sub_cons (d := 97) (congrArg some e0.1) (sub_cons (d := 98) (congrArg some e1.1) (sub_nil _))) (List.sublist_append_right _ _) ?_
            exact rq_v (rv_quo rfl rfl rfl (by refine ⟨?_, ?_, ?_⟩ <;> omega))
          ·
            intro vf pf hR
            refine Or.inl ⟨rfl, ?_⟩
            refine rq_less (l' := [rowE 3 1 v7 ((srcI d n).length) ((srcI d n).map (Value.int .i64)), boxE b5 #[.int .i64 d.W, .int .i64 d.H, .int .i64 d.T, .int .i64 d.R] 25]) (sub_cons (d := 6) rfl (sub_nil _)) (List.sublist_append_right _ _) ?_
            exact rq_v (rv_ev rfl)
          ·
            intro vf pf hR
            refine Or.inl ⟨rfl, ?_⟩
            refine rq_less (l' := [rowE 3 1 v7 ((srcI d n).length) ((srcI d n).map (Value.int .i64)), boxE b5 #[.int .i64 d.W, .int .i64 d.H, .int .i64 d.T, .int .i64 d.R] 25]) (sub_cons (d := 4) rfl (sub_nil _)) (List.sublist_append_right _ _) ?_
            exact rq_v (rv_ev rfl)
          ·
            intro vf pf hR
            have e3 : vf 3 = .int .i64 n ∧ pf 3 = [] := hR 3 (by decide)
            have e4 : vf 4 = .int .i64 (perI d) ∧ pf 4 = [] := hR 4 (by decide)
            refine Or.inl ⟨rfl, ?_⟩
            refine rq_less (l' := [rowE 3 1 v7 ((srcI d n).length) ((srcI d n).map (Value.int .i64)), boxE b5 #[.int .i64 d.W, .int .i64 d.H, .int .i64 d.T, .int .i64 d.R] 25]) (sub_cons (d := 100) (congrArg some e3.1) (sub_cons (d := 101) (congrArg some e4.1) (sub_nil _))) (List.sublist_append_right _ _) ?_
            exact rq_v (rv_quo rfl rfl rfl (by refine ⟨?_, ?_, ?_⟩ <;> omega))
          ·
            intro vf pf hR
            have e2 : vf 2 = .int .i64 (y / (perI d)) ∧ pf 2 = [] := hR 2 (by decide)
            have e5 : vf 5 = .int .i64 (n / (perI d)) ∧ pf 5 = [] := hR 5 (by decide)
            refine Or.inl ⟨rfl, ?_⟩
            refine rq_less (l' := [rowE 3 1 v7 ((srcI d n).length) ((srcI d n).map (Value.int .i64)), boxE b5 #[.int .i64 d.W, .int .i64 d.H, .int .i64 d.T, .int .i64 d.R] 25]) (sub_cons (d := 99) (congrArg some e2.1) (sub_cons (d := 102) (congrArg some e5.1) (sub_nil _))) (List.sublist_append_right _ _) ?_
            exact rq_mono (rq_v (rv_cmp rfl rfl rfl rfl)) (fun _ _ h => ⟨h.1.trans (congrArg Value.bool hb34), h.2⟩)
          ·
            intro vf pf hR
            have e6 : vf 6 = .bool false ∧ pf 6 = [] := hR 6 (by decide)
            refine Or.inl ⟨rfl, ?_⟩
            refine rq_less (l' := [rowE 3 1 v7 ((srcI d n).length) ((srcI d n).map (Value.int .i64)), boxE b5 #[.int .i64 d.W, .int .i64 d.H, .int .i64 d.T, .int .i64 d.R] 25]) (sub_cons (d := 103) (congrArg some e6.1) (sub_nil _)) (List.sublist_append_right _ _) ?_
            exact rq_v (rv_ev rfl)
          ·
            intro vf pf hR
            have e7 : vf 7 = .bool false ∧ pf 7 = [] := hR 7 (by decide)
            refine Or.inl ⟨want_of (congrArg some e7.1) rfl, ?_⟩
            refine rq_less (l' := [rowE 3 1 v7 ((srcI d n).length) ((srcI d n).map (Value.int .i64)), boxE b5 #[.int .i64 d.W, .int .i64 d.H, .int .i64 d.T, .int .i64 d.R] 25]) (sub_cons (d := 9) rfl (sub_nil _)) (List.sublist_append_right _ _) ?_
            exact rq_v (rv_ev rfl)
          ·
            intro vf pf hR
            have e7 : vf 7 = .bool false ∧ pf 7 = [] := hR 7 (by decide)
            refine Or.inl ⟨want_of (congrArg some e7.1) rfl, ?_⟩
            refine rq_less (l' := [rowE 3 1 v7 ((srcI d n).length) ((srcI d n).map (Value.int .i64)), boxE b5 #[.int .i64 d.W, .int .i64 d.H, .int .i64 d.T, .int .i64 d.R] 25]) (sub_cons (d := 4) rfl (sub_nil _)) (List.sublist_append_right _ _) ?_
            exact rq_v (rv_ev rfl)
          ·
            intro vf pf hR
            have e7 : vf 7 = .bool false ∧ pf 7 = [] := hR 7 (by decide)
            have e8 : vf 8 = .int .i64 y ∧ pf 8 = [] := hR 8 (by decide)
            have e9 : vf 9 = .int .i64 (perI d) ∧ pf 9 = [] := hR 9 (by decide)
            refine Or.inl ⟨want_of (congrArg some e7.1) rfl, ?_⟩
            refine rq_less (l' := [rowE 3 1 v7 ((srcI d n).length) ((srcI d n).map (Value.int .i64)), boxE b5 #[.int .i64 d.W, .int .i64 d.H, .int .i64 d.T, .int .i64 d.R] 25]) (sub_cons (d := 105) (congrArg some e8.1) (sub_cons (d := 106) (congrArg some e9.1) (sub_nil _))) (List.sublist_append_right _ _) ?_
            exact rq_v (rv_rem rfl rfl rfl (by constructor <;> omega))
          ·
            intro vf pf hR
            have e7 : vf 7 = .bool false ∧ pf 7 = [] := hR 7 (by decide)
            have e10 : vf 10 = .int .i64 (y % (perI d)) ∧ pf 10 = [] := hR 10 (by decide)
            refine Or.inl ⟨want_of (congrArg some e7.1) rfl, ?_⟩
            refine rq_less (l' := [rowE 3 1 v7 ((srcI d n).length) ((srcI d n).map (Value.int .i64)), boxE b5 #[.int .i64 d.W, .int .i64 d.H, .int .i64 d.T, .int .i64 d.R] 25]) (sub_cons (d := 107) (congrArg some e10.1) (sub_nil _)) (List.sublist_append_right _ _) ?_
            exact rq_mono (rq_v (rv_cmp rfl rfl rfl rfl)) (fun _ _ h => ⟨h.1.trans (congrArg Value.bool hb35), h.2⟩)
          ·
            intro vf pf hR
            have e7 : vf 7 = .bool false ∧ pf 7 = [] := hR 7 (by decide)
            have e11 : vf 11 = .bool false ∧ pf 11 = [] := hR 11 (by decide)
            refine Or.inl ⟨rfl, ?_⟩
            refine rq_less (l' := [rowE 3 1 v7 ((srcI d n).length) ((srcI d n).map (Value.int .i64)), boxE b5 #[.int .i64 d.W, .int .i64 d.H, .int .i64 d.T, .int .i64 d.R] 25]) (sub_cons (d := 104) (congrArg some e7.1) (sub_cons (d := 108) (congrArg some e11.1) (sub_nil _))) (List.sublist_append_right _ _) ?_
            exact rq_v (rv_ev rfl)
          ·
            intro vf pf hR
            have e12 : vf 12 = .bool false ∧ pf 12 = [] := hR 12 (by decide)
            refine Or.inl ⟨rfl, ?_⟩
            refine rq_less (l' := [rowE 3 1 v7 ((srcI d n).length) ((srcI d n).map (Value.int .i64)), boxE b5 #[.int .i64 d.W, .int .i64 d.H, .int .i64 d.T, .int .i64 d.R] 25]) (sub_cons (d := 109) (congrArg some e12.1) (sub_nil _)) (List.sublist_append_right _ _) ?_
            exact rq_v (rv_ev rfl)
          ·
            intro vf pf hR
            have e13 : vf 13 = .bool false ∧ pf 13 = [] := hR 13 (by decide)
            refine Or.inl ⟨want_of (congrArg some e13.1) rfl, ?_⟩
            refine rq_less (l' := [rowE 3 1 v7 ((srcI d n).length) ((srcI d n).map (Value.int .i64)), boxE b5 #[.int .i64 d.W, .int .i64 d.H, .int .i64 d.T, .int .i64 d.R] 25]) (sub_cons (d := 6) rfl (sub_nil _)) (List.sublist_append_right _ _) ?_
            exact rq_v (rv_ev rfl)
          ·
            intro vf pf hR
            have e13 : vf 13 = .bool false ∧ pf 13 = [] := hR 13 (by decide)
            refine Or.inl ⟨want_of (congrArg some e13.1) rfl, ?_⟩
            refine rq_less (l' := [rowE 3 1 v7 ((srcI d n).length) ((srcI d n).map (Value.int .i64)), boxE b5 #[.int .i64 d.W, .int .i64 d.H, .int .i64 d.T, .int .i64 d.R] 25]) (sub_cons (d := 4) rfl (sub_nil _)) (List.sublist_append_right _ _) ?_
            exact rq_v (rv_ev rfl)
          ·
            intro vf pf hR
            have e13 : vf 13 = .bool false ∧ pf 13 = [] := hR 13 (by decide)
            have e14 : vf 14 = .int .i64 n ∧ pf 14 = [] := hR 14 (by decide)
            have e15 : vf 15 = .int .i64 (perI d) ∧ pf 15 = [] := hR 15 (by decide)
            refine Or.inl ⟨want_of (congrArg some e13.1) rfl, ?_⟩
            refine rq_less (l' := [rowE 3 1 v7 ((srcI d n).length) ((srcI d n).map (Value.int .i64)), boxE b5 #[.int .i64 d.W, .int .i64 d.H, .int .i64 d.T, .int .i64 d.R] 25]) (sub_cons (d := 111) (congrArg some e14.1) (sub_cons (d := 112) (congrArg some e15.1) (sub_nil _))) (List.sublist_append_right _ _) ?_
            exact rq_v (rv_rem rfl rfl rfl (by constructor <;> omega))
          ·
            intro vf pf hR
            have e13 : vf 13 = .bool false ∧ pf 13 = [] := hR 13 (by decide)
            have e16 : vf 16 = .int .i64 (n % (perI d)) ∧ pf 16 = [] := hR 16 (by decide)
            refine Or.inl ⟨want_of (congrArg some e13.1) rfl, ?_⟩
            refine rq_less (l' := [rowE 3 1 v7 ((srcI d n).length) ((srcI d n).map (Value.int .i64)), boxE b5 #[.int .i64 d.W, .int .i64 d.H, .int .i64 d.T, .int .i64 d.R] 25]) (sub_cons (d := 113) (congrArg some e16.1) (sub_nil _)) (List.sublist_append_right _ _) ?_
            exact rq_mono (rq_v (rv_cmp rfl rfl rfl rfl)) (fun _ _ h => ⟨h.1.trans (congrArg Value.bool hb36), h.2⟩)
          ·
            intro vf pf hR
            have e13 : vf 13 = .bool false ∧ pf 13 = [] := hR 13 (by decide)
            have e17 : vf 17 = .bool false ∧ pf 17 = [] := hR 17 (by decide)
            refine Or.inl ⟨rfl, ?_⟩
            refine rq_less (l' := [rowE 3 1 v7 ((srcI d n).length) ((srcI d n).map (Value.int .i64)), boxE b5 #[.int .i64 d.W, .int .i64 d.H, .int .i64 d.T, .int .i64 d.R] 25]) (sub_cons (d := 110) (congrArg some e13.1) (sub_cons (d := 114) (congrArg some e17.1) (sub_nil _))) (List.sublist_append_right _ _) ?_
            exact rq_v (rv_ev rfl)
        ·
          intro vf pf hR
          have e18 : vf 18 = .bool false ∧ pf 18 = [] := hR 18 (by decide)
          refine hl_less (l' := [rowE 3 1 v7 ((srcI d n).length) ((srcI d n).map (Value.int .i64)), boxE b5 #[.int .i64 d.W, .int .i64 d.H, .int .i64 d.T, .int .i64 d.R] 25]) (sub_cons (d := 0) rfl (sub_cons (d := 2) rfl (sub_cons (d := 3) rfl (sub_cons (d := 4) rfl (sub_cons (d := 5) rfl (sub_cons (d := 6) rfl (sub_cons (d := 7) rfl (sub_cons (d := 8) rfl (sub_cons (d := 9) rfl (sub_cons (d := 12) rfl (sub_cons (d := 29) rfl (sub_cons (d := 69) rfl (sub_cons (d := 96) rfl (sub_cons (d := 115) (congrArg some e18.1) (sub_nil _))))))))))))))) (List.sublist_append_right _ _) ?_
          simp only [List.drop_succ_cons, List.drop_zero]
          refine hl_less (sub_cons (d := 0) rfl (sub_cons (d := 2) rfl (sub_cons (d := 3) rfl (sub_cons (d := 4) rfl (sub_cons (d := 5) rfl (sub_cons (d := 6) rfl (sub_cons (d := 7) rfl (sub_cons (d := 8) rfl (sub_cons (d := 9) rfl (sub_cons (d := 12) rfl (sub_cons (d := 29) rfl (sub_cons (d := 69) rfl (sub_cons (d := 96) rfl (sub_cons (d := 115) rfl (sub_nil _))))))))))))))) (.refl _) ?_
          refine hl_nil ?_
          refine hq_then ?_
          refine hc_false rfl ?_
          refine hc_skip ?_
          refine hq_then ?_
          refine hc_exit ?_
          refine hq_then_exit ?_
          refine hq_block_exit ?_
          refine hq_then ?_
          refine hc_region ?_
          refine hl_v rfl rfl rfl (rv_ev rfl) ?_
          refine hl_v rfl rfl rfl (rv_add rfl rfl rfl (by constructor <;> omega)) ?_
          refine hl_v rfl rfl rfl (rv_ev rfl) ?_
          refine hl_less (sub_cons (d := 0) rfl (sub_cons (d := 2) rfl (sub_cons (d := 3) rfl (sub_cons (d := 4) rfl (sub_cons (d := 5) rfl (sub_cons (d := 6) rfl (sub_cons (d := 7) rfl (sub_cons (d := 8) rfl (sub_cons (d := 9) rfl (sub_cons (d := 12) rfl (sub_cons (d := 29) rfl (sub_cons (d := 69) rfl (sub_cons (d := 96) rfl (sub_cons (d := 115) rfl (sub_nil _))))))))))))))) (.refl _) ?_
          refine hl_nil ?_
          exact hq_round1 (j + 1) (by omega) (by omega) (sub_cons (d := 0) rfl (sub_cons (d := 2) rfl (sub_cons (d := 3) rfl (sub_cons (d := 4) rfl (sub_cons (d := 5) rfl (sub_cons (d := 6) rfl (sub_cons (d := 7) rfl (sub_cons (d := 8) rfl (sub_cons (d := 12) rfl (sub_cons (d := 29) rfl (sub_nil _))))))))))) ((.cons_cons _ (.cons_cons _ .slnil)))
    ·
      refine hl_less (sub_cons (d := 0) rfl (sub_cons (d := 2) rfl (sub_cons (d := 3) rfl (sub_cons (d := 4) rfl (sub_cons (d := 5) rfl (sub_cons (d := 6) rfl (sub_cons (d := 7) rfl (sub_cons (d := 8) rfl (sub_cons (d := 12) rfl (sub_cons (d := 29) rfl (sub_cons (d := 69) rfl (sub_nil _)))))))))))) (.refl _) ?_
      refine hl_nil ?_
      refine hq_then ?_
      refine hc_false rfl ?_
      refine hc_exit ?_
      refine hq_then_exit ?_
      refine hq_then_exit ?_
      refine hq_block_exit ?_
      refine hq_then ?_
      refine hc_seq ?_
      refine hc_region ?_
      refine hl_v rfl rfl rfl (rv_loadN (cs := [.int .i64 d.W, .int .i64 d.H, .int .i64 d.T, .int .i64 d.R]) rfl (by kernel_rfl) (by kernel_rfl) rfl rfl (box_part 1 rfl 0 rfl)) ?_
      refine hl_callV rfl rfl rfl (rq_call (by kernel_rfl) rfl (fun w hm => ret_ans (inPin_ans d _ _ w (by omega) (by omega)))) ?_
      refine hl_eql rfl rfl rfl rfl rfl rfl (fun h37 => ?_) (fun h37 => absurd h37 (by omega))
      refine hl_v rfl rfl rfl (rv_ev rfl) ?_
      refine hl_v rfl rfl rfl (rv_loadN (cs := [.int .i64 d.W, .int .i64 d.H, .int .i64 d.T, .int .i64 d.R]) rfl (by kernel_rfl) (by kernel_rfl) rfl rfl (box_part 1 rfl 0 rfl)) ?_
      refine hl_callV rfl rfl rfl (rq_call (by kernel_rfl) rfl (fun w hm => ret_ans (outPin_ans d _ _ w (by omega) (by omega)))) ?_
      refine hl_eql rfl rfl rfl rfl rfl rfl (fun h38 => ?_) (fun h38 => absurd h38 (by omega))
      refine hl_v rfl rfl rfl (rv_ev rfl) ?_
      refine hl_v rfl rfl rfl (rv_ev rfl) ?_
      refine hl_less (sub_cons (d := 0) rfl (sub_cons (d := 2) rfl (sub_cons (d := 3) rfl (sub_cons (d := 4) rfl (sub_cons (d := 5) rfl (sub_cons (d := 6) rfl (sub_cons (d := 7) rfl (sub_cons (d := 8) rfl (sub_cons (d := 12) rfl (sub_cons (d := 29) rfl (sub_cons (d := 69) rfl (sub_nil _)))))))))))) (.refl _) ?_
      refine hl_nil ?_
      refine hq_then ?_
      refine hc_ret ?_
      exact hq_ans rfl rfl rfl
end Go.Proofs.Ytnnkbpcfjjijbaa
