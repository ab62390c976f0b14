/- DecodeTile: the walks. -/
import Derived.Test.YtnnkbpcfjjijbaaEx10
set_option linter.unusedVariables false
set_option linter.unusedSimpArgs false
namespace Go.Proofs.Ytnnkbpcfjjijbaa
open Go.RowKit

def wordsB (xs : List Int) (c : Int) : Bool := decide ((xs.length : Int) = c) && xs.all (fun x => inR x 0 65535)
theorem wordsB_iff (xs : List Int) (c : Int) : wordsB xs c = true ↔ (xs.length : Int) = c ∧ ∀ i, i < xs.length → 0 ≤ xs.getD i 0 ∧ xs.getD i 0 ≤ 65535 := by
  unfold wordsB
  simp only [Bool.and_eq_true, decide_eq_true_eq, inR_iff, all_getD (d := (0 : Int))]
abbrev frW (d : Dev) : Int := (5 * (5 + 4 * d.T) + 67 + 15) / 16
def decOk (d : Dev) (xs : List Int) : Bool := devB d && wordsB xs (frW d)
def decV2 (d : Dev) (xs : List Int) : List Int × List (List Int × Int × Int × Int) × Int × Int := if decOk d xs = true then decV d xs else ([], [], 0, 0)
def IsTc2 (val : List Int × List (List Int × Int × Int × Int) × Int × Int) (ok : Bool) (v : Value) (post : List HP) : Prop := ∃ t : Tc, v = .tuple #[t.agg, .bool ok] ∧ post = [tcE t] ∧ (t.mv.oneCell' = true ∧ t.lv.oneCell' = true) ∧ t.val = val ∧ t.mx.length ≤ 2000000 ∧ t.es.length ≤ 2000000 ∧ ∀ e ∈ t.es, e.xs.length ≤ 2000000
set_option maxHeartbeats 4000000 in
set_option maxRecDepth 100000 in
theorem wordsOk_ans (xs : List Int) (v : Value) (c : Int) (w : World) (hv : RdsW w v 1 xs.length (xs.map (Value.int .i64))) (hlen : xs.length ≤ 2000000) :
    Calls Try.prog 104 #[v, .int .i64 c, .int .i64 65535] w (Ans w (.bool (wordsB xs c))) := by
  refine calls_hc (N := 24) (args := [v, .int .i64 c, .int .i64 65535]) Try.func104 rfl rfl ?_
  refine hc_less _ (sub_cons (d := 0) rfl (sub_cons (d := 1) rfl (sub_cons (d := 2) rfl (sub_nil _)))) (.refl _) ?_
  refine hc_seq ?_
  refine hc_region ?_
  refine hl_v rfl rfl rfl (rv_ev rfl) ?_
  refine hl_less (sub_cons (d := 0) rfl (sub_cons (d := 1) rfl (sub_cons (d := 2) rfl (sub_cons (d := 6) rfl (sub_nil _))))) (.refl _) ?_
  refine hl_nil ?_
  refine hq_then ?_
  refine hc_seq ?_
  refine hc_seq ?_
  refine hc_region ?_
  refine hl_v rfl rfl rfl (rv_ev rfl) ?_
  refine hl_v rfl rfl rfl (rv_len rfl Try.underlying30 rfl (rd_old hv)) ?_
  refine hl_v rfl rfl rfl (rv_ev rfl) ?_
  refine hl_neq rfl rfl rfl rfl rfl rfl (fun h1 => ?_) (fun h1 => ?_)
  ·
    refine hl_less (sub_cons (d := 0) rfl (sub_cons (d := 1) rfl (sub_cons (d := 2) rfl (sub_cons (d := 6) rfl (sub_cons (d := 12) rfl (sub_nil _)))))) (.refl _) ?_
    refine hl_nil ?_
    refine hq_then ?_
    refine hc_true rfl ?_
    refine hc_seq ?_
    refine hc_region ?_
    refine hl_v rfl rfl rfl (rv_ev rfl) ?_
    refine hl_less (sub_cons (d := 0) rfl (sub_cons (d := 1) rfl (sub_cons (d := 2) rfl (sub_cons (d := 6) rfl (sub_cons (d := 12) rfl (sub_nil _)))))) (.refl _) ?_
    refine hl_nil ?_
    refine hq_then ?_
    refine hc_ret ?_
    refine hq_then_ret ?_
    exact hq_ans rfl rfl (congrArg _ (Bool.eq_false_iff.2 (fun h => by obtain ⟨q1, q2⟩ := (wordsB_iff _ _).1 h; first | omega | (have := q2 j (by omega); omega))).symm)
  ·
    refine hl_less (sub_cons (d := 0) rfl (sub_cons (d := 1) rfl (sub_cons (d := 2) rfl (sub_cons (d := 6) rfl (sub_cons (d := 12) rfl (sub_nil _)))))) (.refl _) ?_
    refine hl_nil ?_
    refine hq_then ?_
    refine hc_false rfl ?_
    refine hc_skip ?_
    refine hq_then ?_
    refine hc_seq ?_
    refine hc_seq ?_
    refine hc_region ?_
    refine hl_v rfl rfl rfl (rv_ev rfl) ?_
    refine hl_v rfl rfl rfl (rv_len rfl Try.underlying30 rfl (rd_old hv)) ?_
    refine hl_v rfl rfl rfl (rv_ev rfl) ?_
    refine hl_less (sub_cons (d := 0) rfl (sub_cons (d := 1) rfl (sub_cons (d := 2) rfl (sub_cons (d := 6) rfl (sub_cons (d := 12) rfl (sub_cons (d := 13) rfl (sub_cons (d := 14) rfl (sub_cons (d := 15) rfl (sub_nil _))))))))) (.refl _) ?_
    refine hl_nil ?_
    refine hq_then ?_
    refine hc_block ?_
    refine hc_loop1 (α := Nat) (fun j => []) (fun j => [(0, v), (1, .int .i64 c), (2, .int .i64 65535), (6, .bool false), (12, .bool false), (13, v), (14, .int .i64 (xs.length : Int)), (15, .int .i64 (j : Int))]) (fun j => j ≤ xs.length ∧ ∀ i, i < j → 0 ≤ xs.getD i 0 ∧ xs.getD i 0 ≤ 65535) (fun j => xs.length - j) 0 ⟨by omega, fun i hi => absurd hi (by omega)⟩ (sub_cons (d := 0) rfl (sub_cons (d := 1) rfl (sub_cons (d := 2) rfl (sub_cons (d := 6) rfl (sub_cons (d := 12) rfl (sub_cons (d := 13) rfl (sub_cons (d := 14) rfl (sub_cons (d := 15) rfl (sub_nil _))))))))) (.slnil) ?_
    intro j hi2
    obtain ⟨hk1, hk2⟩ := hi2
    refine hc_seq ?_
    refine hc_region ?_
    refine hl_lss rfl rfl rfl rfl rfl rfl (fun h3 => ?_) (fun h3 => ?_)
    ·
      refine hl_less (sub_cons (d := 0) rfl (sub_cons (d := 1) rfl (sub_cons (d := 2) rfl (sub_cons (d := 6) rfl (sub_cons (d := 12) rfl (sub_cons (d := 13) rfl (sub_cons (d := 14) rfl (sub_cons (d := 15) rfl (sub_cons (d := 16) rfl (sub_nil _)))))))))) (.refl _) ?_
      refine hl_nil ?_
      refine hq_then ?_
      refine hc_seq ?_
      refine hc_true rfl ?_
      refine hc_skip ?_
      refine hq_then ?_
      refine hc_seq ?_
      refine hc_block ?_
      refine hc_seq ?_
      refine hc_region ?_
      refine hl_v rfl rfl rfl (rv_index (s := 1) rfl Try.underlying30 (by kernel_rfl) rfl rfl (rd_old hv) (by omega) (by first | omega | (simp only [List.length_set]; omega))) ?_
      refine hl_v rfl rfl rfl (rv_loadEl (u := .int .i64 (xs.getD j 0)) rfl (by kernel_rfl) rfl (rd_old hv) (ints_at1 (show _ < xs.length by first | omega | (simp only [List.length_set]; omega)))) ?_
      refine hl_v rfl rfl rfl (rv_ev rfl) ?_
      refine hl_less (sub_cons (d := 0) rfl (sub_cons (d := 1) rfl (sub_cons (d := 2) rfl (sub_cons (d := 6) rfl (sub_cons (d := 8) rfl (sub_cons (d := 12) rfl (sub_cons (d := 13) rfl (sub_cons (d := 14) rfl (sub_cons (d := 15) rfl (sub_cons (d := 16) rfl (sub_nil _))))))))))) (.refl _) ?_
      refine hl_nil ?_
      refine hq_then ?_
      refine hc_seq ?_
      refine hc_region ?_
      refine hl_v rfl rfl rfl (rv_ev rfl) ?_
      refine hl_v rfl rfl rfl (rv_ev rfl) ?_
      refine hl_callV rfl rfl rfl (rq_call (by kernel_rfl) rfl (fun w hm => ret_ans (ans_of (inRange_any _ _ _ w)))) ?_
      refine hl_bool (fun h4 => ?_) (fun h4 => ?_)
      ·
        obtain ⟨h4a, h4b⟩ := (inR_iff _ _ _).1 h4
        refine hl_v rfl rfl rfl (rv_ev rfl) ?_
        refine hl_less (sub_cons (d := 0) rfl (sub_cons (d := 1) rfl (sub_cons (d := 2) rfl (sub_cons (d := 6) rfl (sub_cons (d := 8) rfl (sub_cons (d := 12) rfl (sub_cons (d := 13) rfl (sub_cons (d := 14) rfl (sub_cons (d := 15) rfl (sub_cons (d := 16) rfl (sub_cons (d := 22) rfl (sub_nil _)))))))))))) (.refl _) ?_
        refine hl_nil ?_
        refine hq_then ?_
        refine hc_false rfl ?_
        refine hc_skip ?_
        refine hq_block_normal ?_
        refine hq_then ?_
        refine hc_region ?_
        refine hl_v rfl rfl rfl (rv_add rfl rfl rfl (by constructor <;> omega)) ?_
        refine hl_v rfl rfl rfl (rv_ev rfl) ?_
        refine hl_less (sub_cons (d := 0) rfl (sub_cons (d := 1) rfl (sub_cons (d := 2) rfl (sub_cons (d := 6) rfl (sub_cons (d := 8) rfl (sub_cons (d := 12) rfl (sub_cons (d := 13) rfl (sub_cons (d := 14) rfl (sub_cons (d := 15) rfl (sub_cons (d := 16) rfl (sub_cons (d := 22) rfl (sub_nil _)))))))))))) (.refl _) ?_
        refine hl_nil ?_
        exact hq_round1 (j + 1) ⟨by omega, fun i hi => by by_cases hij : i = j; (subst hij; omega); exact hk2 i (by omega)⟩ (by omega) (sub_cons (d := 0) rfl (sub_cons (d := 1) rfl (sub_cons (d := 2) rfl (sub_cons (d := 6) rfl (sub_cons (d := 12) rfl (sub_cons (d := 13) rfl (sub_cons (d := 14) rfl (sub_cons (d := 15) rfl (sub_nil _))))))))) (.slnil)
      ·
        have h4a := inR_nah h4
        refine hl_v rfl rfl rfl (rv_ev rfl) ?_
        refine hl_less (sub_cons (d := 0) rfl (sub_cons (d := 1) rfl (sub_cons (d := 2) rfl (sub_cons (d := 6) rfl (sub_cons (d := 8) rfl (sub_cons (d := 12) rfl (sub_cons (d := 13) rfl (sub_cons (d := 14) rfl (sub_cons (d := 15) rfl (sub_cons (d := 16) rfl (sub_cons (d := 22) rfl (sub_nil _)))))))))))) (.refl _) ?_
        refine hl_nil ?_
        refine hq_then ?_
        refine hc_true rfl ?_
        refine hc_seq ?_
        refine hc_region ?_
        refine hl_v rfl rfl rfl (rv_ev rfl) ?_
        refine hl_less (sub_cons (d := 0) rfl (sub_cons (d := 1) rfl (sub_cons (d := 2) rfl (sub_cons (d := 6) rfl (sub_cons (d := 8) rfl (sub_cons (d := 12) rfl (sub_cons (d := 13) rfl (sub_cons (d := 14) rfl (sub_cons (d := 15) rfl (sub_cons (d := 16) rfl (sub_cons (d := 22) rfl (sub_nil _)))))))))))) (.refl _) ?_
        refine hl_nil ?_
        refine hq_then ?_
        refine hc_ret ?_
        refine hq_block_ret ?_
        refine hq_then_ret ?_
        refine hq_then_ret ?_
        refine hq_block_ret ?_
        refine hq_then_ret ?_
        exact hq_ans rfl rfl (congrArg _ (Bool.eq_false_iff.2 (fun h => by obtain ⟨q1, q2⟩ := (wordsB_iff _ _).1 h; first | omega | (have := q2 j (by omega); omega))).symm)
    ·
      refine hl_less (sub_cons (d := 0) rfl (sub_cons (d := 1) rfl (sub_cons (d := 2) rfl (sub_cons (d := 6) rfl (sub_cons (d := 12) rfl (sub_cons (d := 13) rfl (sub_cons (d := 14) rfl (sub_cons (d := 15) rfl (sub_cons (d := 16) rfl (sub_nil _)))))))))) (.refl _) ?_
      refine hl_nil ?_
      refine hq_then ?_
      refine hc_seq ?_
      refine hc_false rfl ?_
      refine hc_exit ?_
      refine hq_then_exit ?_
      refine hq_then_exit ?_
      refine hq_block_exit ?_
      refine hq_then ?_
      refine hc_seq ?_
      refine hc_region ?_
      refine hl_v rfl rfl rfl (rv_ev rfl) ?_
      refine hl_less (sub_cons (d := 0) rfl (sub_cons (d := 1) rfl (sub_cons (d := 2) rfl (sub_cons (d := 6) rfl (sub_cons (d := 12) rfl (sub_cons (d := 13) rfl (sub_cons (d := 14) rfl (sub_cons (d := 15) rfl (sub_cons (d := 16) rfl (sub_nil _)))))))))) (.refl _) ?_
      refine hl_nil ?_
      refine hq_then ?_
      refine hc_ret ?_
      exact hq_ans rfl rfl (congrArg _ ((wordsB_iff _ _).2 ⟨by omega, fun i hi => hk2 i (by omega)⟩).symm)
set_option maxHeartbeats 4000000 in
set_option maxRecDepth 100000 in
theorem implDecodeTile_ret (d : Dev) (xs : List Int) (v : Value) (w : World) (hv : RdsW w v 1 xs.length (xs.map (Value.int .i64))) (hlen : xs.length ≤ 2000000) :
    Calls Try.prog 49 #[.agg #[.int .i64 d.W, .int .i64 d.H, .int .i64 d.T, .int .i64 d.R], v] w (Ret w (IsTc2 (decV2 d xs) (decOk d xs))) := by
  refine calls_hc (N := 20) (args := [.agg #[.int .i64 d.W, .int .i64 d.H, .int .i64 d.T, .int .i64 d.R], v]) Try.func49 rfl rfl ?_
  refine hc_less _ (sub_cons (d := 0) rfl (sub_cons (d := 1) rfl (sub_nil _))) (.refl _) ?_
  refine hc_seq ?_
  refine hc_region ?_
  refine hl_box rfl rfl rfl (rq_box rfl rfl) ?_
  intro b1
  refine hl_box rfl rfl rfl (rq_alloc (z := .agg #[.slice none 0 0, .slice none 0 0, .int .i64 0, .int .i64 0]) rfl (by kernel_rfl)) ?_
  intro b2
  refine hl_v rfl rfl rfl (rv_ev rfl) ?_
  refine hl_less (sub_cons (d := 0) rfl (sub_cons (d := 1) rfl (sub_cons (d := 2) rfl (sub_cons (d := 4) rfl (sub_cons (d := 5) rfl (sub_nil _)))))) (.refl _) ?_
  refine hl_nil ?_
  refine hq_then ?_
  refine hc_seq ?_
  refine hc_seq ?_
  refine hc_region ?_
  refine hl_v rfl rfl rfl (rv_loadN (cs := [.int .i64 d.W, .int .i64 d.H, .int .i64 d.T, .int .i64 d.R]) rfl (by kernel_rfl) (by kernel_rfl) rfl rfl (box_part 1 rfl 0 rfl)) ?_
  refine hl_callV rfl rfl rfl (rq_call (by kernel_rfl) rfl (fun w hm => ret_ans (implDeviceOk_any d w))) ?_
  refine hl_bool (fun h3 => ?_) (fun h3 => ?_)
  ·
    obtain ⟨-, -, ⟨l1, l2⟩, -⟩ := (devB_iff d).1 h3
    refine hl_v rfl rfl rfl (rv_ev rfl) ?_
    refine hl_v rfl rfl rfl (rv_ev rfl) ?_
    refine hl_v rfl rfl rfl (rv_ev rfl) ?_
    refine hl_v rfl rfl rfl (rv_loadN (cs := [.int .i64 d.W, .int .i64 d.H, .int .i64 d.T, .int .i64 d.R]) rfl (by kernel_rfl) (by kernel_rfl) rfl rfl (box_part 1 rfl 0 rfl)) ?_
    refine hl_callV rfl rfl rfl (rq_call (by kernel_rfl) rfl (fun w hm => ret_ans (implFrame_any d (by assumption) w))) ?_
    refine hl_callV rfl rfl rfl (rq_call (by kernel_rfl) rfl (fun w hm => ret_ans (wordsOk_ans xs _ (frW d) w ((rd_old hv) w hm) (by omega)))) ?_
    refine hl_bool (fun h4 => ?_) (fun h4 => ?_)
    ·
      obtain ⟨hwl, hww⟩ := (wordsB_iff _ _).1 h4
      have hfr : frW d = (5 * (5 + 4 * d.T) + 67 + 15) / 16 := rfl
      refine hl_v rfl rfl rfl (rv_ev rfl) ?_
      refine hl_v rfl rfl rfl (rv_ev rfl) ?_
      refine hl_less (sub_cons (d := 0) rfl (sub_cons (d := 1) rfl (sub_cons (d := 2) rfl (sub_cons (d := 4) rfl (sub_cons (d := 5) rfl (sub_cons (d := 15) rfl (sub_nil _))))))) (.refl _) ?_
      refine hl_nil ?_
      refine hq_then ?_
      refine hc_false rfl ?_
      refine hc_skip ?_
      refine hq_then ?_
      refine hc_seq ?_
      refine hc_region ?_
      refine hl_v rfl rfl rfl (rv_loadN (cs := [.int .i64 d.W, .int .i64 d.H, .int .i64 d.T, .int .i64 d.R]) rfl (by kernel_rfl) (by kernel_rfl) rfl rfl (box_part 1 rfl 0 rfl)) ?_
      refine hl_v rfl rfl rfl (rv_ev rfl) ?_
      refine hl_q rfl rfl rfl (rq_call (by kernel_rfl) rfl (fun w hm => decodeTile_ret d xs _ w (by assumption) (hv.below hm.bel) hww (by omega) (by omega))) ?_
      intro v5 p6 hR7
      obtain ⟨t, rfl, rfl, ⟨c1t, c2t⟩, valt, n1t, n2t, n3t⟩ := hR7
      refine hl_storeBoxN (i := 1) (off := 0) (us := [t.mv, t.lv, .int .i64 t.pad, .int .i64 t.ram]) (l' := [tcE t, boxE b2 #[t.mv, t.lv, .int .i64 t.pad, .int .i64 t.ram] 39, boxE b1 #[.int .i64 d.W, .int .i64 d.H, .int .i64 d.T, .int .i64 d.R] 25]) rfl rfl rfl (by kernel_rfl) rfl rfl rfl (all_cons c1t (all_cons c2t (all_cons rfl (all_cons rfl all_nil)))) rfl rfl rfl ?_
      refine hl_v rfl rfl rfl (rv_ev rfl) ?_
      refine hl_less (sub_cons (d := 0) rfl (sub_cons (d := 1) rfl (sub_cons (d := 2) rfl (sub_cons (d := 4) rfl (sub_cons (d := 5) rfl (sub_cons (d := 15) rfl (sub_nil _))))))) (.refl _) ?_
      refine hl_nil ?_
      refine hq_then ?_
      refine hc_ret ?_
      have hyes : decOk d xs = true := by unfold decOk; rw [Bool.and_eq_true]; exact ⟨by assumption, by first | assumption | exact (wordsB_iff _ _).2 ⟨by omega, hww⟩⟩
      exact hq_retM (rs := [.cell 4 39, .tmp 5]) (vs := [.agg #[t.mv, t.lv, .int .i64 t.pad, .int .i64 t.ram], .bool true]) (post := [tcE t]) rfl ⟨⟨b2, 0, [t.mv, t.lv, .int .i64 t.pad, .int .i64 t.ram], rfl, rfl, by kernel_rfl, by kernel_rfl, box_part 1 rfl 0 rfl⟩, rfl, trivial⟩ rfl ((.cons_cons _ (.cons _ (.cons _ .slnil)))) ⟨_, by rw [hyes]; rfl, rfl, ⟨c1t, c2t⟩, by unfold decV2; rw [if_pos hyes]; exact valt, n1t, n2t, n3t⟩
    ·
      refine hl_v rfl rfl rfl (rv_ev rfl) ?_
      refine hl_v rfl rfl rfl (rv_ev rfl) ?_
      refine hl_less (sub_cons (d := 0) rfl (sub_cons (d := 1) rfl (sub_cons (d := 2) rfl (sub_cons (d := 4) rfl (sub_cons (d := 5) rfl (sub_cons (d := 15) rfl (sub_nil _))))))) (.refl _) ?_
      refine hl_nil ?_
      refine hq_then ?_
      refine hc_true rfl ?_
      refine hc_seq ?_
      refine hc_region ?_
      refine hl_v rfl rfl rfl (rv_build (cs := #[.slice none 0 0, .slice none 0 0, .int .i64 0, .int .i64 0]) rfl rfl (by kernel_rfl)) ?_
      refine hl_storeBoxN (i := 0) (off := 0) (us := [.slice none 0 0, .slice none 0 0, .int .i64 0, .int .i64 0]) (l' := [boxE b2 #[.slice none 0 0, .slice none 0 0, .int .i64 0, .int .i64 0] 39, boxE b1 #[.int .i64 d.W, .int .i64 d.H, .int .i64 d.T, .int .i64 d.R] 25]) rfl rfl rfl (by kernel_rfl) rfl rfl rfl (all_cons rfl (all_cons rfl (all_cons rfl (all_cons rfl all_nil)))) rfl rfl rfl ?_
      refine hl_v rfl rfl rfl (rv_ev rfl) ?_
      refine hl_less (sub_cons (d := 0) rfl (sub_cons (d := 1) rfl (sub_cons (d := 2) rfl (sub_cons (d := 4) rfl (sub_cons (d := 5) rfl (sub_cons (d := 15) rfl (sub_nil _))))))) (.refl _) ?_
      refine hl_nil ?_
      refine hq_then ?_
      refine hc_ret ?_
      refine hq_then_ret ?_
      have hno : decOk d xs = false := by unfold decOk; first | (simp only [*]; rfl) | (rw [Bool.and_eq_false_iff]; right; rw [Bool.eq_false_iff]; intro h; obtain ⟨q1, q2⟩ := (wordsB_iff _ _).1 h; first | omega | (have := q2 j (by omega); omega))
      refine hq_conv (tcE (Tc.mk (.slice none 0 0) [] (.slice none 0 0) [] 0 0) :: [boxE b2 #[.slice none 0 0, .slice none 0 0, .int .i64 0, .int .i64 0] 39, boxE b1 #[.int .i64 d.W, .int .i64 d.H, .int .i64 d.T, .int .i64 d.R] 25]) (fun w hm => hm.tcNil) ?_
      exact hq_retM (rs := [.cell 4 39, .tmp 5]) (vs := [.agg #[.slice none 0 0, .slice none 0 0, .int .i64 0, .int .i64 0], .bool false]) (post := [tcE (Tc.mk (.slice none 0 0) [] (.slice none 0 0) [] 0 0)]) rfl ⟨⟨b2, 0, [.slice none 0 0, .slice none 0 0, .int .i64 0, .int .i64 0], rfl, rfl, by kernel_rfl, by kernel_rfl, box_part 1 rfl 0 rfl⟩, rfl, trivial⟩ rfl (.cons_cons _ (List.nil_sublist _)) ⟨Tc.mk (.slice none 0 0) [] (.slice none 0 0) [] 0 0, by rw [hno]; rfl, rfl, ⟨rfl, rfl⟩, by unfold decV2; rw [hno]; rfl, by decide, by decide, by simp⟩
  ·
    refine hl_v rfl rfl rfl (rv_ev rfl) ?_
    refine hl_v rfl rfl rfl (rv_ev rfl) ?_
    refine hl_skip rfl rfl rfl ?_
    refine hl_skip rfl rfl rfl ?_
    refine hl_skip rfl rfl rfl ?_
    refine hl_skip rfl rfl rfl ?_
    refine hl_skip rfl rfl rfl ?_
    refine hl_v rfl rfl rfl (rv_ev rfl) ?_
    refine hl_less (sub_cons (d := 0) rfl (sub_cons (d := 1) rfl (sub_cons (d := 2) rfl (sub_cons (d := 4) rfl (sub_cons (d := 5) rfl (sub_cons (d := 15) rfl (sub_nil _))))))) (.refl _) ?_
    refine hl_nil ?_
    refine hq_then ?_
    refine hc_true rfl ?_
    refine hc_seq ?_
    refine hc_region ?_
    refine hl_v rfl rfl rfl (rv_build (cs := #[.slice none 0 0, .slice none 0 0, .int .i64 0, .int .i64 0]) rfl rfl (by kernel_rfl)) ?_
    refine hl_storeBoxN (i := 0) (off := 0) (us := [.slice none 0 0, .slice none 0 0, .int .i64 0, .int .i64 0]) (l' := [boxE b2 #[.slice none 0 0, .slice none 0 0, .int .i64 0, .int .i64 0] 39, boxE b1 #[.int .i64 d.W, .int .i64 d.H, .int .i64 d.T, .int .i64 d.R] 25]) rfl rfl rfl (by kernel_rfl) rfl rfl rfl (all_cons rfl (all_cons rfl (all_cons rfl (all_cons rfl all_nil)))) rfl rfl rfl ?_
    refine hl_v rfl rfl rfl (rv_ev rfl) ?_
    refine hl_less (sub_cons (d := 0) rfl (sub_cons (d := 1) rfl (sub_cons (d := 2) rfl (sub_cons (d := 4) rfl (sub_cons (d := 5) rfl (sub_cons (d := 15) rfl (sub_nil _))))))) (.refl _) ?_
    refine hl_nil ?_
    refine hq_then ?_
    refine hc_ret ?_
    refine hq_then_ret ?_
    have hno : decOk d xs = false := by unfold decOk; first | (simp only [*]; rfl) | (rw [Bool.and_eq_false_iff]; right; rw [Bool.eq_false_iff]; intro h; obtain ⟨q1, q2⟩ := (wordsB_iff _ _).1 h; first | omega | (have := q2 j (by omega); omega))
    refine hq_conv (tcE (Tc.mk (.slice none 0 0) [] (.slice none 0 0) [] 0 0) :: [boxE b2 #[.slice none 0 0, .slice none 0 0, .int .i64 0, .int .i64 0] 39, boxE b1 #[.int .i64 d.W, .int .i64 d.H, .int .i64 d.T, .int .i64 d.R] 25]) (fun w hm => hm.tcNil) ?_
    exact hq_retM (rs := [.cell 4 39, .tmp 5]) (vs := [.agg #[.slice none 0 0, .slice none 0 0, .int .i64 0, .int .i64 0], .bool false]) (post := [tcE (Tc.mk (.slice none 0 0) [] (.slice none 0 0) [] 0 0)]) rfl ⟨⟨b2, 0, [.slice none 0 0, .slice none 0 0, .int .i64 0, .int .i64 0], rfl, rfl, by kernel_rfl, by kernel_rfl, box_part 1 rfl 0 rfl⟩, rfl, trivial⟩ rfl (.cons_cons _ (List.nil_sublist _)) ⟨Tc.mk (.slice none 0 0) [] (.slice none 0 0) [] 0 0, by rw [hno]; rfl, rfl, ⟨rfl, rfl⟩, by unfold decV2; rw [hno]; rfl, by decide, by decide, by simp⟩
set_option maxHeartbeats 4000000 in
set_option maxRecDepth 100000 in
theorem specGet_ans (xs : List Int) (v : Value) (p n : Int) (w : World) (hv : RdsW w v 1 xs.length (xs.map (Value.int .i64))) (hxs : Words xs) (hp : 0 ≤ p ∧ p + n ≤ 16 * xs.length) (hn : 0 ≤ n ∧ n ≤ 16) (hlen : xs.length ≤ 1000000) :
    Calls Try.prog 103 #[v, .int .i64 p, .int .i64 n] w (Ans w (.tuple #[.int .i64 (getN xs p n.toNat), .int .i64 (p + n)])) := by
  refine calls_hc (N := 36) (args := [v, .int .i64 p, .int .i64 n]) Try.func103 rfl rfl ?_
  refine hc_less _ (sub_cons (d := 0) rfl (sub_cons (d := 1) rfl (sub_cons (d := 2) rfl (sub_nil _)))) (.refl _) ?_
  refine hc_seq ?_
  refine hc_region ?_
  refine hl_v rfl rfl rfl (rv_ev rfl) ?_
  refine hl_v rfl rfl rfl (rv_ev rfl) ?_
  refine hl_less (sub_cons (d := 0) rfl (sub_cons (d := 1) rfl (sub_cons (d := 2) rfl (sub_cons (d := 6) rfl (sub_cons (d := 7) rfl (sub_nil _)))))) (.refl _) ?_
  refine hl_nil ?_
  refine hq_then ?_
  refine hc_seq ?_
  refine hc_region ?_
  refine hl_v rfl rfl rfl (rv_ev rfl) ?_
  refine hl_less (sub_cons (d := 0) rfl (sub_cons (d := 1) rfl (sub_cons (d := 2) rfl (sub_cons (d := 6) rfl (sub_cons (d := 7) rfl (sub_cons (d := 8) rfl (sub_nil _))))))) (.refl _) ?_
  refine hl_nil ?_
  refine hq_then ?_
  refine hc_seq ?_
  refine hc_seq ?_
  refine hc_region ?_
  refine hl_v rfl rfl rfl (rv_ev rfl) ?_
  refine hl_less (sub_cons (d := 0) rfl (sub_cons (d := 1) rfl (sub_cons (d := 2) rfl (sub_cons (d := 6) rfl (sub_cons (d := 7) rfl (sub_cons (d := 8) rfl (sub_cons (d := 9) rfl (sub_nil _)))))))) (.refl _) ?_
  refine hl_nil ?_
  refine hq_then ?_
  refine hc_block ?_
  refine hc_loop2 (α := Nat) (β := Int) (fun j o => []) (fun j o => [(0, v), (1, .int .i64 p), (2, .int .i64 n), (6, .int .i64 0), (7, .int .i64 0), (8, .int .i64 o), (9, .int .i64 (j : Int))]) (fun j o => (j : Int) ≤ n ∧ o = getN xs p j) (fun j o => n.toNat - j) 0 0 ⟨by omega, rfl⟩ (sub_cons (d := 0) rfl (sub_cons (d := 1) rfl (sub_cons (d := 2) rfl (sub_cons (d := 6) rfl (sub_cons (d := 7) rfl (sub_cons (d := 8) rfl (sub_cons (d := 9) rfl (sub_nil _)))))))) (.slnil) ?_
  intro j o hi1
  obtain ⟨hj, ho⟩ := hi1
  refine hc_seq ?_
  refine hc_seq ?_
  refine hc_region ?_
  refine hl_v rfl rfl rfl (rv_ev rfl) ?_
  refine hl_v rfl rfl rfl (rv_ev rfl) ?_
  refine hl_lss rfl rfl rfl rfl rfl rfl (fun h2 => ?_) (fun h2 => ?_)
  ·
    refine hl_less (sub_cons (d := 0) rfl (sub_cons (d := 1) rfl (sub_cons (d := 2) rfl (sub_cons (d := 6) rfl (sub_cons (d := 7) rfl (sub_cons (d := 8) rfl (sub_cons (d := 9) rfl (sub_cons (d := 12) rfl (sub_nil _))))))))) (.refl _) ?_
    refine hl_nil ?_
    refine hq_then ?_
    refine hc_true rfl ?_
    refine hc_skip ?_
    refine hq_then ?_
    refine hc_seq ?_
    refine hc_block ?_
    refine hc_region ?_
    have hX := hxs ((p + (j : Int)) / 16).toNat (by omega)
    have hor := getN_rng xs p j (by omega)
    rw [← ho] at hor
    have hjn : ((j : Int)).toNat = j := rfl
    have hsh := shl1 (b := xs.getD ((p + (j : Int)) / 16).toNat 0 / 2 ^ ((p + (j : Int)) % 16).toNat % 2) (n := (j : Int)) (by omega) (by omega)
    have hpw := pow_rng j (by omega)
    have hb2 : 0 ≤ xs.getD ((p + (j : Int)) / 16).toNat 0 / 2 ^ ((p + (j : Int)) % 16).toNat % 2 * 2 ^ ((j : Int)).toNat ∧ xs.getD ((p + (j : Int)) / 16).toNat 0 / 2 ^ ((p + (j : Int)) % 16).toNat % 2 * 2 ^ ((j : Int)).toNat ≤ 1048576 := by
            rw [hjn]
            rcases (show xs.getD ((p + (j : Int)) / 16).toNat 0 / 2 ^ ((p + (j : Int)) % 16).toNat % 2 = 0 ∨ xs.getD ((p + (j : Int)) / 16).toNat 0 / 2 ^ ((p + (j : Int)) % 16).toNat % 2 = 1 by omega) with e | e <;> rw [e] <;> omega
    refine hl_v rfl rfl rfl (rv_ev rfl) ?_
    refine hl_v rfl rfl rfl (rv_ev rfl) ?_
    refine hl_v rfl rfl rfl (rv_ev rfl) ?_
    refine hl_v rfl rfl rfl (rv_ev rfl) ?_
    refine hl_v rfl rfl rfl (rv_add rfl rfl rfl (by constructor <;> omega)) ?_
    refine hl_v rfl rfl rfl (rv_quo rfl rfl rfl (by refine ⟨?_, ?_, ?_⟩ <;> omega)) ?_
    refine hl_v rfl rfl rfl (rv_index (s := 1) rfl Try.underlying30 (by kernel_rfl) rfl rfl (rd_old hv) (by omega) (by first | omega | (simp only [List.length_set]; omega))) ?_
    refine hl_v rfl rfl rfl (rv_loadEl (u := .int .i64 (xs.getD (((p + (j : Int)) / 16).toNat) 0)) rfl (by kernel_rfl) rfl (rd_old hv) (ints_at1 (show _ < xs.length by first | omega | (simp only [List.length_set]; omega)))) ?_
    refine hl_v rfl rfl rfl (rv_ev rfl) ?_
    refine hl_v rfl rfl rfl (rv_ev rfl) ?_
    refine hl_v rfl rfl rfl (rv_add rfl rfl rfl (by constructor <;> omega)) ?_
    refine hl_v rfl rfl rfl (rv_rem rfl rfl rfl (by constructor <;> omega)) ?_
    refine hl_v rfl rfl rfl (rv_shr rfl rfl rfl (by omega)) ?_
    refine hl_v rfl rfl rfl (rv_bits rfl (by decide) rfl rfl (r := ((xs.getD (((p + (j : Int)) / 16).toNat) 0) / 2 ^ ((p + (j : Int)) % 16).toNat) % 2) (and1 _ hX)) ?_
    refine hl_v rfl rfl rfl (rv_ev rfl) ?_
    refine hl_v rfl rfl rfl (rv_shl (kk' := .i64) rfl rfl rfl (by omega) hsh) ?_
    refine hl_v rfl rfl rfl (rv_add rfl rfl rfl (by constructor <;> omega)) ?_
    refine hl_v rfl rfl rfl (rv_ev rfl) ?_
    refine hl_less (sub_cons (d := 0) rfl (sub_cons (d := 1) rfl (sub_cons (d := 2) rfl (sub_cons (d := 6) rfl (sub_cons (d := 7) rfl (sub_cons (d := 8) rfl (sub_cons (d := 9) rfl (sub_cons (d := 12) rfl (sub_nil _))))))))) (.refl _) ?_
    refine hl_nil ?_
    refine hq_block_normal ?_
    refine hq_then ?_
    refine hc_region ?_
    refine hl_v rfl rfl rfl (rv_ev rfl) ?_
    refine hl_v rfl rfl rfl (rv_add rfl rfl rfl (by constructor <;> omega)) ?_
    refine hl_v rfl rfl rfl (rv_ev rfl) ?_
    refine hl_less (sub_cons (d := 0) rfl (sub_cons (d := 1) rfl (sub_cons (d := 2) rfl (sub_cons (d := 6) rfl (sub_cons (d := 7) rfl (sub_cons (d := 8) rfl (sub_cons (d := 9) rfl (sub_cons (d := 12) rfl (sub_nil _))))))))) (.refl _) ?_
    refine hl_nil ?_
    exact hq_round2 (j + 1) _ ⟨by omega, by rw [getN, ← ho]; rfl⟩ (by omega) (sub_cons (d := 0) rfl (sub_cons (d := 1) rfl (sub_cons (d := 2) rfl (sub_cons (d := 6) rfl (sub_cons (d := 7) rfl (sub_cons (d := 8) rfl (sub_cons (d := 9) rfl (sub_nil _)))))))) (.slnil)
  ·
    refine hl_less (sub_cons (d := 0) rfl (sub_cons (d := 1) rfl (sub_cons (d := 2) rfl (sub_cons (d := 6) rfl (sub_cons (d := 7) rfl (sub_cons (d := 8) rfl (sub_cons (d := 9) rfl (sub_cons (d := 12) rfl (sub_nil _))))))))) (.refl _) ?_
    refine hl_nil ?_
    refine hq_then ?_
    refine hc_false rfl ?_
    refine hc_exit ?_
    refine hq_then_exit ?_
    refine hq_then_exit ?_
    refine hq_block_exit ?_
    refine hq_then ?_
    refine hc_seq ?_
    refine hc_region ?_
    refine hl_v rfl rfl rfl (rv_ev rfl) ?_
    refine hl_v rfl rfl rfl (rv_ev rfl) ?_
    refine hl_v rfl rfl rfl (rv_ev rfl) ?_
    refine hl_v rfl rfl rfl (rv_add rfl rfl rfl (by constructor <;> omega)) ?_
    refine hl_v rfl rfl rfl (rv_ev rfl) ?_
    refine hl_v rfl rfl rfl (rv_ev rfl) ?_
    refine hl_less (sub_cons (d := 0) rfl (sub_cons (d := 1) rfl (sub_cons (d := 2) rfl (sub_cons (d := 6) rfl (sub_cons (d := 7) rfl (sub_cons (d := 8) rfl (sub_cons (d := 9) rfl (sub_cons (d := 12) rfl (sub_nil _))))))))) (.refl _) ?_
    refine hl_nil ?_
    refine hq_then ?_
    refine hc_ret ?_
    exact hq_ret (rs := [.tmp 6, .tmp 7]) (vs := [_, _]) rfl ⟨rfl, rfl, trivial⟩ rfl (fun w hm => ⟨by rw [ho, show j = n.toNat by omega]; rfl, hm.bel⟩)
end Go.Proofs.Ytnnkbpcfjjijbaa
