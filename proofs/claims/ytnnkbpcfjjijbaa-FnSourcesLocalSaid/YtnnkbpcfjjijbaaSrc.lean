/- The sources of a routing node, in the program: the walks. -/
import Derived.Test.YtnnkbpcfjjijbaaIns
import Derived.Test.YtnnkbpcfjjijbaaWire4
import Derived.Test.YtnnkbpcfjjijbaaTileP
set_option linter.unusedVariables false
set_option linter.unusedSimpArgs false
namespace Go.Proofs.Ytnnkbpcfjjijbaa
open Go.RowKit
theorem insI_len (xs : List Int) (x : Int) : (insI xs x).length ≤ xs.length + 1 := by
  induction xs with
  | nil => simp [insI]
  | cons y ys ih => simp only [insI]; split <;> (try split) <;> simp <;> omega
theorem insertInt_mut (v : Value) (xs : List Int) (x : Int) (hn : xs.length ≤ 1000000) {w0 : World} {l : List HP} (w : World) (hm : Mem w0 (rowE 3 1 v xs.length (xs.map (Value.int .i64)) :: l) w) :
    Calls Try.prog 132 #[v, .int .i64 x] w fun e w' => ∃ v' p', e = .returned v' ∧ p' = rowE 3 1 v' (insI xs x).length ((insI xs x).map (Value.int .i64)) ∧ Mem w0 (p' :: l) w' :=
  (insertInt_ret v xs x w (rdsW_own (hm.holds (rowE 3 1 v xs.length (xs.map (Value.int .i64))) List.mem_cons_self)) hn).mono fun e w' h => by
    obtain ⟨v', post, rfl, hR, hp⟩ := h
    rcases hR with ⟨rfl, rfl, he⟩ | rfl
    · exact ⟨v', _, rfl, rfl, by rw [he]; exact hm.step hp.bel⟩
    · exact ⟨v', _, rfl, rfl, (hm.app hp).sub (.cons_cons _ (.cons _ (.refl _)))⟩
def wireNodeI (d : Dev) (t dir k : Int) : Int := if 0 ≤ stepI d t dir (1 + k % 2) then wireN d t dir k else -1
theorem wireNode_at (d : Dev) (t dir k : Int) (ht : tOk d t = true) (r0 : 0 ≤ dir) (r1 : dir ≤ 3) (k0 : 0 ≤ k) (k1 : k ≤ d.T - 1) (w : World) :
    Calls Try.prog 31 #[.agg #[.int .i64 d.W, .int .i64 d.H, .int .i64 d.T, .int .i64 d.R], .int .i64 t, .int .i64 dir, .int .i64 k] w (Ans w (.int .i64 (wireNodeI d t dir k))) := by
  unfold wireNodeI
  split
  · exact wireNode_yes d t dir k ht r0 r1 k0 k1 (by assumption) w
  · exact wireNode_no d t dir k ht r0 r1 k0 k1 (by omega) w
theorem step_tOk {d : Dev} {t dir s : Int} (hv : devB d = true) (h : ¬ stepI d t dir s < 0) : tOk d (stepI d t dir s) = true := by
  unfold stepI at *
  split
  · rename_i hh
    exact tile_bounds hv ((inR_iff _ _ _).1 hh.1).1 ((inR_iff _ _ _).1 hh.1).2 ((inR_iff _ _ _).1 hh.2).1 ((inR_iff _ _ _).1 hh.2).2
  · rename_i hh; rw [if_neg hh] at h; omega
def pinS (d : Dev) (t r k : Int) (xs : List Int) (s : Nat) : List Int :=
  if stepI d t ((r + 2) % 4) ((s : Int) + 1) < 0 then xs else if 0 ≤ wireNodeI d (stepI d t ((r + 2) % 4) ((s : Int) + 1)) r k then insI xs (wireNodeI d (stepI d t ((r + 2) % 4) ((s : Int) + 1)) r k) else xs
def pinK (d : Dev) (t r k : Int) (xs : List Int) (j : Nat) : List Int := (List.range j).foldl (pinS d t r k) xs
theorem pinK_succ (d : Dev) (t r k : Int) (xs : List Int) (j : Nat) : pinK d t r k xs (j + 1) = pinS d t r k (pinK d t r k xs j) j := by unfold pinK; rw [List.range_succ, List.foldl_append]; rfl
def pinR (d : Dev) (t p r : Int) (xs : List Int) (j : Nat) : List Int := (List.range j).foldl (fun xs (k : Nat) => if 1 < d.T ∧ ((k : Int) + p) % 2 ≠ 0 then xs else pinK d t r k xs (1 + k % 2)) xs
theorem pinR_succ (d : Dev) (t p r : Int) (xs : List Int) (j : Nat) : pinR d t p r xs (j + 1) = if 1 < d.T ∧ ((j : Int) + p) % 2 ≠ 0 then pinR d t p r xs j else pinK d t r j (pinR d t p r xs j) (1 + j % 2) := by unfold pinR; rw [List.range_succ, List.foldl_append]; rfl
def pinO (d : Dev) (t p : Int) (j : Nat) : List Int := (List.range j).foldl (fun xs (r : Nat) => pinR d t p r xs d.T.toNat) []
theorem pinO_succ (d : Dev) (t p : Int) (j : Nat) : pinO d t p (j + 1) = pinR d t p j (pinO d t p j) d.T.toNat := by unfold pinO; rw [List.range_succ, List.foldl_append]; rfl
theorem pinS_out {d : Dev} {t r k : Int} {xs : List Int} {s : Nat} (h : stepI d t ((r + 2) % 4) ((s : Int) + 1) < 0) : pinS d t r k xs s = xs := if_pos h
theorem pinS_no {d : Dev} {t r k : Int} {xs : List Int} {s : Nat} (h : ¬ 0 ≤ wireNodeI d (stepI d t ((r + 2) % 4) ((s : Int) + 1)) r k) : pinS d t r k xs s = xs := by unfold pinS; simp only [if_neg h, ite_self]
theorem pinS_yes {d : Dev} {t r k : Int} {xs : List Int} {s : Nat} (h : 0 ≤ stepI d t ((r + 2) % 4) ((s : Int) + 1)) (h2 : 0 ≤ wireNodeI d (stepI d t ((r + 2) % 4) ((s : Int) + 1)) r k) : pinS d t r k xs s = insI xs (wireNodeI d (stepI d t ((r + 2) % 4) ((s : Int) + 1)) r k) := by unfold pinS; rw [if_neg (by omega), if_pos h2]
set_option maxHeartbeats 4000000 in
set_option maxRecDepth 100000 in
theorem pinSources_ret (d : Dev) (t p : Int) (w : World) (hv : devB d = true) (t0 : 0 ≤ t) (t1 : t ≤ d.W * d.H - 1) (p0 : 0 ≤ p) (p1 : p ≤ 4) :
    Calls Try.prog 98 #[.agg #[.int .i64 d.W, .int .i64 d.H, .int .i64 d.T, .int .i64 d.R], .int .i64 t, .int .i64 p] w (Ret w fun v' post => post = [rowE 3 1 v' (pinO d t p 4).length ((pinO d t p 4).map (Value.int .i64))]) := by
  obtain ⟨-, -, ⟨l1, l2⟩, -⟩ := (devB_iff d).1 hv
  refine calls_hc (N := 59) (args := [.agg #[.int .i64 d.W, .int .i64 d.H, .int .i64 d.T, .int .i64 d.R], .int .i64 t, .int .i64 p]) Try.func98 rfl rfl ?_
  refine hc_less _ (sub_cons (d := 0) rfl (sub_cons (d := 1) rfl (sub_cons (d := 2) rfl (sub_nil _)))) (.refl _) ?_
  refine hc_seq ?_
  refine hc_region ?_
  refine hl_box rfl rfl rfl (rq_box rfl rfl) ?_
  intro b1
  refine hl_v rfl rfl rfl (rv_ev rfl) ?_
  refine hl_less (sub_cons (d := 0) rfl (sub_cons (d := 1) rfl (sub_cons (d := 2) rfl (sub_cons (d := 3) rfl (sub_cons (d := 6) rfl (sub_nil _)))))) (.refl _) ?_
  refine hl_nil ?_
  refine hq_then ?_
  refine hc_seq ?_
  refine hc_region ?_
  refine hl_nilRow 3 1 ?_
  refine hl_v rfl rfl rfl (rv_ev rfl) ?_
  refine hl_less (sub_cons (d := 0) rfl (sub_cons (d := 1) rfl (sub_cons (d := 2) rfl (sub_cons (d := 3) rfl (sub_cons (d := 6) rfl (sub_cons (d := 7) rfl (sub_nil _))))))) (.refl _) ?_
  refine hl_nil ?_
  refine hq_then ?_
  refine hc_seq ?_
  refine hc_seq ?_
  refine hc_region ?_
  refine hl_v rfl rfl rfl (rv_ev rfl) ?_
  refine hl_less (sub_cons (d := 0) rfl (sub_cons (d := 1) rfl (sub_cons (d := 2) rfl (sub_cons (d := 3) rfl (sub_cons (d := 6) rfl (sub_cons (d := 7) rfl (sub_cons (d := 8) rfl (sub_nil _)))))))) (.refl _) ?_
  refine hl_nil ?_
  refine hq_then ?_
  refine hc_block ?_
  refine hc_loop3 (α := Nat) (β := Value) (γ := List Int) (fun r v xs => [rowE 3 1 v xs.length (xs.map (Value.int .i64)), boxE b1 #[.int .i64 d.W, .int .i64 d.H, .int .i64 d.T, .int .i64 d.R] 25]) (fun r v xs => [(0, .agg #[.int .i64 d.W, .int .i64 d.H, .int .i64 d.T, .int .i64 d.R]), (1, .int .i64 t), (2, .int .i64 p), (3, .pointer (some ⟨b1, 0, none⟩)), (6, .slice none 0 0), (7, v), (8, .int .i64 (r : Int))]) (fun r v xs => r ≤ 4 ∧ xs = pinO d t p r ∧ xs.length ≤ 8 * r) (fun r v xs => 4 - r) 0 _ [] ⟨by omega, rfl, by simp⟩ (sub_cons (d := 0) rfl (sub_cons (d := 1) rfl (sub_cons (d := 2) rfl (sub_cons (d := 3) rfl (sub_cons (d := 6) rfl (sub_cons (d := 7) rfl (sub_cons (d := 8) rfl (sub_nil _)))))))) ((.cons_cons _ (.cons_cons _ .slnil))) ?_
  intro r v xs hi3
  obtain ⟨hr, hx, hxl⟩ := hi3
  refine hc_seq ?_
  refine hc_seq ?_
  refine hc_region ?_
  refine hl_v rfl rfl rfl (rv_ev rfl) ?_
  refine hl_lss rfl rfl rfl rfl rfl rfl (fun h4 => ?_) (fun h4 => ?_)
  ·
    refine hl_less (sub_cons (d := 0) rfl (sub_cons (d := 1) rfl (sub_cons (d := 2) rfl (sub_cons (d := 3) rfl (sub_cons (d := 6) rfl (sub_cons (d := 7) rfl (sub_cons (d := 8) rfl (sub_cons (d := 14) rfl (sub_nil _))))))))) (.refl _) ?_
    refine hl_nil ?_
    refine hq_then ?_
    refine hc_true rfl ?_
    refine hc_skip ?_
    refine hq_then ?_
    refine hc_seq ?_
    refine hc_block ?_
    refine hc_seq ?_
    refine hc_region ?_
    refine hl_v rfl rfl rfl (rv_ev rfl) ?_
    refine hl_less (sub_cons (d := 0) rfl (sub_cons (d := 1) rfl (sub_cons (d := 2) rfl (sub_cons (d := 3) rfl (sub_cons (d := 6) rfl (sub_cons (d := 7) rfl (sub_cons (d := 8) rfl (sub_cons (d := 9) rfl (sub_cons (d := 14) rfl (sub_nil _)))))))))) (.refl _) ?_
    refine hl_nil ?_
    refine hq_then ?_
    refine hc_block ?_
    refine hc_loop3 (α := Nat) (β := Value) (γ := List Int) (fun k u ys => [rowE 3 1 u ys.length (ys.map (Value.int .i64)), boxE b1 #[.int .i64 d.W, .int .i64 d.H, .int .i64 d.T, .int .i64 d.R] 25]) (fun k u ys => [(0, .agg #[.int .i64 d.W, .int .i64 d.H, .int .i64 d.T, .int .i64 d.R]), (1, .int .i64 t), (2, .int .i64 p), (3, .pointer (some ⟨b1, 0, none⟩)), (6, .slice none 0 0), (7, u), (8, .int .i64 (r : Int)), (9, .int .i64 (k : Int)), (14, .bool true)]) (fun k u ys => (k : Int) ≤ d.T ∧ ys = pinR d t p r xs k ∧ ys.length ≤ xs.length + 2 * k) (fun k u ys => 5 - k) 0 _ xs ⟨by omega, rfl, by simp⟩ (sub_cons (d := 0) rfl (sub_cons (d := 1) rfl (sub_cons (d := 2) rfl (sub_cons (d := 3) rfl (sub_cons (d := 6) rfl (sub_cons (d := 7) rfl (sub_cons (d := 8) rfl (sub_cons (d := 9) rfl (sub_cons (d := 14) rfl (sub_nil _)))))))))) ((.cons_cons _ (.cons_cons _ .slnil))) ?_
    intro k u ys hi5
    obtain ⟨hk, hy, hyl⟩ := hi5
    refine hc_seq ?_
    refine hc_seq ?_
    refine hc_region ?_
    refine hl_v rfl rfl rfl (rv_ev rfl) ?_
    refine hl_v rfl rfl rfl (rv_field (k0 := 2) rfl (by kernel_rfl) rfl) ?_
    refine hl_v rfl rfl rfl (rv_load rfl (by kernel_rfl) rfl (box_cell 1 rfl rfl)) ?_
    refine hl_lss rfl rfl rfl rfl rfl rfl (fun h6 => ?_) (fun h6 => ?_)
    ·
      refine hl_less (sub_cons (d := 0) rfl (sub_cons (d := 1) rfl (sub_cons (d := 2) rfl (sub_cons (d := 3) rfl (sub_cons (d := 6) rfl (sub_cons (d := 7) rfl (sub_cons (d := 8) rfl (sub_cons (d := 9) rfl (sub_cons (d := 14) rfl (sub_cons (d := 20) rfl (sub_nil _))))))))))) (.refl _) ?_
      refine hl_nil ?_
      refine hq_then ?_
      refine hc_true rfl ?_
      refine hc_skip ?_
      refine hq_then ?_
      refine hc_seq ?_
      refine hc_block ?_
      refine hc_seq ?_
      refine hc_seq ?_
      refine hc_region ?_
      refine hl_v rfl rfl rfl (rv_field (k0 := 2) rfl (by kernel_rfl) rfl) ?_
      refine hl_v rfl rfl rfl (rv_load rfl (by kernel_rfl) rfl (box_cell 1 rfl rfl)) ?_
      refine hl_gtr rfl rfl rfl rfl rfl rfl (fun h7 => ?_) (fun h7 => ?_)
      ·
        refine hl_v rfl rfl rfl (rv_ev rfl) ?_
        refine hl_v rfl rfl rfl (rv_ev rfl) ?_
        refine hl_v rfl rfl rfl (rv_ev rfl) ?_
        refine hl_v rfl rfl rfl (rv_add rfl rfl rfl (by constructor <;> omega)) ?_
        refine hl_v rfl rfl rfl (rv_rem rfl rfl rfl (by constructor <;> omega)) ?_
        refine hl_neq rfl rfl rfl rfl rfl rfl (fun h8 => ?_) (fun h8 => ?_)
        ·
          refine hl_v rfl rfl rfl (rv_ev rfl) ?_
          refine hl_less (sub_cons (d := 0) rfl (sub_cons (d := 1) rfl (sub_cons (d := 2) rfl (sub_cons (d := 3) rfl (sub_cons (d := 6) rfl (sub_cons (d := 7) rfl (sub_cons (d := 8) rfl (sub_cons (d := 9) rfl (sub_cons (d := 14) rfl (sub_cons (d := 20) rfl (sub_cons (d := 32) rfl (sub_nil _)))))))))))) (.refl _) ?_
          refine hl_nil ?_
          refine hq_then ?_
          refine hc_true rfl ?_
          refine hc_exit ?_
          refine hq_then_exit ?_
          refine hq_block_exit ?_
          refine hq_then ?_
          refine hc_region ?_
          refine hl_v rfl rfl rfl (rv_ev rfl) ?_
          refine hl_v rfl rfl rfl (rv_add rfl rfl rfl (by constructor <;> omega)) ?_
          refine hl_v rfl rfl rfl (rv_ev rfl) ?_
          refine hl_less (sub_cons (d := 0) rfl (sub_cons (d := 1) rfl (sub_cons (d := 2) rfl (sub_cons (d := 3) rfl (sub_cons (d := 6) rfl (sub_cons (d := 7) rfl (sub_cons (d := 8) rfl (sub_cons (d := 9) rfl (sub_cons (d := 14) rfl (sub_cons (d := 20) rfl (sub_cons (d := 32) rfl (sub_nil _)))))))))))) (.refl _) ?_
          refine hl_nil ?_
          exact hq_round3 (k + 1) _ _ ⟨by omega, by rw [pinR_succ, if_pos ⟨by omega, by omega⟩]; exact hy, by omega⟩ (by omega) (sub_cons (d := 0) rfl (sub_cons (d := 1) rfl (sub_cons (d := 2) rfl (sub_cons (d := 3) rfl (sub_cons (d := 6) rfl (sub_cons (d := 7) rfl (sub_cons (d := 8) rfl (sub_cons (d := 9) rfl (sub_cons (d := 14) rfl (sub_nil _)))))))))) ((.cons_cons _ (.cons_cons _ .slnil)))
        ·
          refine hl_v rfl rfl rfl (rv_ev rfl) ?_
          refine hl_less (sub_cons (d := 0) rfl (sub_cons (d := 1) rfl (sub_cons (d := 2) rfl (sub_cons (d := 3) rfl (sub_cons (d := 6) rfl (sub_cons (d := 7) rfl (sub_cons (d := 8) rfl (sub_cons (d := 9) rfl (sub_cons (d := 14) rfl (sub_cons (d := 20) rfl (sub_cons (d := 32) rfl (sub_nil _)))))))))))) (.refl _) ?_
          refine hl_nil ?_
          refine hq_then ?_
          refine hc_false rfl ?_
          refine hc_skip ?_
          refine hq_then ?_
          refine hc_seq ?_
          refine hc_region ?_
          refine hl_v rfl rfl rfl (rv_ev rfl) ?_
          refine hl_less (sub_cons (d := 0) rfl (sub_cons (d := 1) rfl (sub_cons (d := 2) rfl (sub_cons (d := 3) rfl (sub_cons (d := 6) rfl (sub_cons (d := 7) rfl (sub_cons (d := 8) rfl (sub_cons (d := 9) rfl (sub_cons (d := 10) rfl (sub_cons (d := 14) rfl (sub_cons (d := 20) rfl (sub_cons (d := 32) rfl (sub_nil _))))))))))))) (.refl _) ?_
          refine hl_nil ?_
          refine hq_then ?_
          refine hc_block ?_
          refine hc_loop3 (α := Nat) (β := Value) (γ := List Int) (fun j q zs => [rowE 3 1 q zs.length (zs.map (Value.int .i64)), boxE b1 #[.int .i64 d.W, .int .i64 d.H, .int .i64 d.T, .int .i64 d.R] 25]) (fun j q zs => [(0, .agg #[.int .i64 d.W, .int .i64 d.H, .int .i64 d.T, .int .i64 d.R]), (1, .int .i64 t), (2, .int .i64 p), (3, .pointer (some ⟨b1, 0, none⟩)), (6, .slice none 0 0), (7, q), (8, .int .i64 (r : Int)), (9, .int .i64 (k : Int)), (10, .int .i64 ((j : Int) + 1)), (14, .bool true), (20, .bool true), (32, .bool false)]) (fun j q zs => j ≤ 1 + k % 2 ∧ zs = pinK d t r k ys j ∧ zs.length ≤ ys.length + j) (fun j q zs => 3 - j) 0 _ ys ⟨by omega, rfl, by simp⟩ (sub_cons (d := 0) rfl (sub_cons (d := 1) rfl (sub_cons (d := 2) rfl (sub_cons (d := 3) rfl (sub_cons (d := 6) rfl (sub_cons (d := 7) rfl (sub_cons (d := 8) rfl (sub_cons (d := 9) rfl (sub_cons (d := 10) rfl (sub_cons (d := 14) rfl (sub_cons (d := 20) rfl (sub_cons (d := 32) rfl (sub_nil _))))))))))))) ((.cons_cons _ (.cons_cons _ .slnil))) ?_
          intro j q zs hi9
          obtain ⟨hj, hz, hzl⟩ := hi9
          refine hc_seq ?_
          refine hc_seq ?_
          refine hc_region ?_
          refine hl_v rfl rfl rfl (rv_ev rfl) ?_
          refine hl_v rfl rfl rfl (rv_ev rfl) ?_
          refine hl_callV rfl rfl rfl (rq_call (by kernel_rfl) rfl (fun w hm => ret_ans (ans_of (wireLen_any _ (by omega) (by omega) w)))) ?_
          refine hl_leq rfl rfl rfl rfl rfl rfl (fun h10 => ?_) (fun h10 => ?_)
          ·
            refine hl_less (sub_cons (d := 0) rfl (sub_cons (d := 1) rfl (sub_cons (d := 2) rfl (sub_cons (d := 3) rfl (sub_cons (d := 6) rfl (sub_cons (d := 7) rfl (sub_cons (d := 8) rfl (sub_cons (d := 9) rfl (sub_cons (d := 10) rfl (sub_cons (d := 14) rfl (sub_cons (d := 20) rfl (sub_cons (d := 32) rfl (sub_cons (d := 36) rfl (sub_nil _)))))))))))))) (.refl _) ?_
            refine hl_nil ?_
            refine hq_then ?_
            refine hc_true rfl ?_
            refine hc_skip ?_
            refine hq_then ?_
            refine hc_seq ?_
            refine hc_block ?_
            refine hc_seq ?_
            refine hc_region ?_
            refine hl_v rfl rfl rfl (rv_loadN (cs := [.int .i64 d.W, .int .i64 d.H, .int .i64 d.T, .int .i64 d.R]) rfl (by kernel_rfl) (by kernel_rfl) rfl rfl (box_part 1 rfl 0 rfl)) ?_
            refine hl_v rfl rfl rfl (rv_ev rfl) ?_
            refine hl_v rfl rfl rfl (rv_ev rfl) ?_
            refine hl_v rfl rfl rfl (rv_add rfl rfl rfl (by constructor <;> omega)) ?_
            refine hl_v rfl rfl rfl (rv_rem rfl rfl rfl (by constructor <;> omega)) ?_
            refine hl_v rfl rfl rfl (rv_ev rfl) ?_
            refine hl_callV rfl rfl rfl (rq_call (by kernel_rfl) rfl (fun w hm => ret_ans (tileStep_any d _ _ _ hv t0 t1 (by omega) (by omega) (by omega) (by omega) w))) ?_
            refine hl_v rfl rfl rfl (rv_ev rfl) ?_
            refine hl_less (sub_cons (d := 0) rfl (sub_cons (d := 1) rfl (sub_cons (d := 2) rfl (sub_cons (d := 3) rfl (sub_cons (d := 6) rfl (sub_cons (d := 7) rfl (sub_cons (d := 8) rfl (sub_cons (d := 9) rfl (sub_cons (d := 10) rfl (sub_cons (d := 11) rfl (sub_cons (d := 14) rfl (sub_cons (d := 20) rfl (sub_cons (d := 32) rfl (sub_cons (d := 36) rfl (sub_nil _))))))))))))))) (.refl _) ?_
            refine hl_nil ?_
            refine hq_then ?_
            refine hc_seq ?_
            refine hc_seq ?_
            refine hc_region ?_
            refine hl_v rfl rfl rfl (rv_ev rfl) ?_
            refine hl_lss rfl rfl rfl rfl rfl rfl (fun h11 => ?_) (fun h11 => ?_)
            ·
              refine hl_less (sub_cons (d := 0) rfl (sub_cons (d := 1) rfl (sub_cons (d := 2) rfl (sub_cons (d := 3) rfl (sub_cons (d := 6) rfl (sub_cons (d := 7) rfl (sub_cons (d := 8) rfl (sub_cons (d := 9) rfl (sub_cons (d := 10) rfl (sub_cons (d := 11) rfl (sub_cons (d := 14) rfl (sub_cons (d := 20) rfl (sub_cons (d := 32) rfl (sub_cons (d := 36) rfl (sub_cons (d := 47) rfl (sub_nil _)))))))))))))))) (.refl _) ?_
              refine hl_nil ?_
              refine hq_then ?_
              refine hc_true rfl ?_
              refine hc_exit ?_
              refine hq_then_exit ?_
              refine hq_block_exit ?_
              refine hq_then ?_
              refine hc_region ?_
              refine hl_v rfl rfl rfl (rv_ev rfl) ?_
              refine hl_v rfl rfl rfl (rv_add rfl rfl rfl (by constructor <;> omega)) ?_
              refine hl_v rfl rfl rfl (rv_ev rfl) ?_
              refine hl_less (sub_cons (d := 0) rfl (sub_cons (d := 1) rfl (sub_cons (d := 2) rfl (sub_cons (d := 3) rfl (sub_cons (d := 6) rfl (sub_cons (d := 7) rfl (sub_cons (d := 8) rfl (sub_cons (d := 9) rfl (sub_cons (d := 10) rfl (sub_cons (d := 11) rfl (sub_cons (d := 14) rfl (sub_cons (d := 20) rfl (sub_cons (d := 32) rfl (sub_cons (d := 36) rfl (sub_cons (d := 47) rfl (sub_nil _)))))))))))))))) (.refl _) ?_
              refine hl_nil ?_
              have hil := insI_len zs (wireNodeI d (stepI d t (((r : Int) + 2) % 4) ((j : Int) + 1)) r k)
              exact hq_round3 (j + 1) _ _ ⟨by omega, by rw [pinK_succ, ← hz]; first | exact (pinS_out (by omega)).symm | exact (pinS_no (by omega)).symm | exact (pinS_yes (by omega) (by omega)).symm, by omega⟩ (by omega) (sub_cons (d := 0) rfl (sub_cons (d := 1) rfl (sub_cons (d := 2) rfl (sub_cons (d := 3) rfl (sub_cons (d := 6) rfl (sub_cons (d := 7) rfl (sub_cons (d := 8) rfl (sub_cons (d := 9) rfl (sub_cons (d := 10) rfl (sub_cons (d := 14) rfl (sub_cons (d := 20) rfl (sub_cons (d := 32) rfl (sub_nil _))))))))))))) ((.cons_cons _ (.cons_cons _ .slnil)))
            ·
              refine hl_less (sub_cons (d := 0) rfl (sub_cons (d := 1) rfl (sub_cons (d := 2) rfl (sub_cons (d := 3) rfl (sub_cons (d := 6) rfl (sub_cons (d := 7) rfl (sub_cons (d := 8) rfl (sub_cons (d := 9) rfl (sub_cons (d := 10) rfl (sub_cons (d := 11) rfl (sub_cons (d := 14) rfl (sub_cons (d := 20) rfl (sub_cons (d := 32) rfl (sub_cons (d := 36) rfl (sub_cons (d := 47) rfl (sub_nil _)))))))))))))))) (.refl _) ?_
              refine hl_nil ?_
              refine hq_then ?_
              refine hc_false rfl ?_
              refine hc_skip ?_
              refine hq_then ?_
              refine hc_seq ?_
              refine hc_region ?_
              refine hl_v rfl rfl rfl (rv_loadN (cs := [.int .i64 d.W, .int .i64 d.H, .int .i64 d.T, .int .i64 d.R]) rfl (by kernel_rfl) (by kernel_rfl) rfl rfl (box_part 1 rfl 0 rfl)) ?_
              refine hl_v rfl rfl rfl (rv_ev rfl) ?_
              refine hl_v rfl rfl rfl (rv_ev rfl) ?_
              refine hl_v rfl rfl rfl (rv_ev rfl) ?_
              refine hl_callV rfl rfl rfl (rq_call (by kernel_rfl) rfl (fun w hm => ret_ans (wireNode_at d _ _ _ (step_tOk hv (by omega)) (by omega) (by omega) (by omega) (by omega) w))) ?_
              refine hl_v rfl rfl rfl (rv_ev rfl) ?_
              refine hl_less (sub_cons (d := 0) rfl (sub_cons (d := 1) rfl (sub_cons (d := 2) rfl (sub_cons (d := 3) rfl (sub_cons (d := 6) rfl (sub_cons (d := 7) rfl (sub_cons (d := 8) rfl (sub_cons (d := 9) rfl (sub_cons (d := 10) rfl (sub_cons (d := 11) rfl (sub_cons (d := 12) rfl (sub_cons (d := 14) rfl (sub_cons (d := 20) rfl (sub_cons (d := 32) rfl (sub_cons (d := 36) rfl (sub_cons (d := 47) rfl (sub_nil _))))))))))))))))) (.refl _) ?_
              refine hl_nil ?_
              refine hq_then ?_
              refine hc_seq ?_
              refine hc_region ?_
              refine hl_v rfl rfl rfl (rv_ev rfl) ?_
              refine hl_geq rfl rfl rfl rfl rfl rfl (fun h12 => ?_) (fun h12 => ?_)
              ·
                refine hl_less (sub_cons (d := 0) rfl (sub_cons (d := 1) rfl (sub_cons (d := 2) rfl (sub_cons (d := 3) rfl (sub_cons (d := 6) rfl (sub_cons (d := 7) rfl (sub_cons (d := 8) rfl (sub_cons (d := 9) rfl (sub_cons (d := 10) rfl (sub_cons (d := 11) rfl (sub_cons (d := 12) rfl (sub_cons (d := 14) rfl (sub_cons (d := 20) rfl (sub_cons (d := 32) rfl (sub_cons (d := 36) rfl (sub_cons (d := 47) rfl (sub_cons (d := 54) rfl (sub_nil _)))))))))))))))))) (.refl _) ?_
                refine hl_nil ?_
                refine hq_then ?_
                refine hc_true rfl ?_
                refine hc_region ?_
                refine hl_v rfl rfl rfl (rv_ev rfl) ?_
                refine hl_v rfl rfl rfl (rv_ev rfl) ?_
                refine hl_callM (R := (fun v' p' => p' = rowE 3 1 v' (insI zs (wireNodeI d (stepI d t (((r : Int) + 2) % 4) ((j : Int) + 1)) (r : Int) (k : Int))).length ((insI zs (wireNodeI d (stepI d t (((r : Int) + 2) % 4) ((j : Int) + 1)) (r : Int) (k : Int))).map (Value.int .i64)))) 0 rfl rfl (by kernel_rfl) rfl rfl (fun l' w hm => insertInt_mut _ zs _ (by omega) w hm) ?_
                intro v13 p14 hR15
                subst hR15
                refine hl_eqL (l' := [rowE 3 1 v13 ((insI zs (wireNodeI d (stepI d t (((r : Int) + 2) % 4) ((j : Int) + 1)) (r : Int) (k : Int))).length) ((insI zs (wireNodeI d (stepI d t (((r : Int) + 2) % 4) ((j : Int) + 1)) (r : Int) (k : Int))).map (Value.int .i64)), boxE b1 #[.int .i64 d.W, .int .i64 d.H, .int .i64 d.T, .int .i64 d.R] 25]) rfl ?_
                refine hl_v rfl rfl rfl (rv_ev rfl) ?_
                refine hl_less (sub_cons (d := 0) rfl (sub_cons (d := 1) rfl (sub_cons (d := 2) rfl (sub_cons (d := 3) rfl (sub_cons (d := 6) rfl (sub_cons (d := 7) rfl (sub_cons (d := 8) rfl (sub_cons (d := 9) rfl (sub_cons (d := 10) rfl (sub_cons (d := 11) rfl (sub_cons (d := 12) rfl (sub_cons (d := 14) rfl (sub_cons (d := 20) rfl (sub_cons (d := 32) rfl (sub_cons (d := 36) rfl (sub_cons (d := 47) rfl (sub_cons (d := 54) rfl (sub_nil _)))))))))))))))))) (.refl _) ?_
                refine hl_nil ?_
                refine hq_block_normal ?_
                refine hq_then ?_
                refine hc_region ?_
                refine hl_v rfl rfl rfl (rv_ev rfl) ?_
                refine hl_v rfl rfl rfl (rv_add rfl rfl rfl (by constructor <;> omega)) ?_
                refine hl_v rfl rfl rfl (rv_ev rfl) ?_
                refine hl_less (sub_cons (d := 0) rfl (sub_cons (d := 1) rfl (sub_cons (d := 2) rfl (sub_cons (d := 3) rfl (sub_cons (d := 6) rfl (sub_cons (d := 7) rfl (sub_cons (d := 8) rfl (sub_cons (d := 9) rfl (sub_cons (d := 10) rfl (sub_cons (d := 11) rfl (sub_cons (d := 12) rfl (sub_cons (d := 14) rfl (sub_cons (d := 20) rfl (sub_cons (d := 32) rfl (sub_cons (d := 36) rfl (sub_cons (d := 47) rfl (sub_cons (d := 54) rfl (sub_nil _)))))))))))))))))) (.refl _) ?_
                refine hl_nil ?_
                have hil := insI_len zs (wireNodeI d (stepI d t (((r : Int) + 2) % 4) ((j : Int) + 1)) r k)
                exact hq_round3 (j + 1) _ _ ⟨by omega, by rw [pinK_succ, ← hz]; first | exact (pinS_out (by omega)).symm | exact (pinS_no (by omega)).symm | exact (pinS_yes (by omega) (by omega)).symm, by omega⟩ (by omega) (sub_cons (d := 0) rfl (sub_cons (d := 1) rfl (sub_cons (d := 2) rfl (sub_cons (d := 3) rfl (sub_cons (d := 6) rfl (sub_cons (d := 7) rfl (sub_cons (d := 8) rfl (sub_cons (d := 9) rfl (sub_cons (d := 10) rfl (sub_cons (d := 14) rfl (sub_cons (d := 20) rfl (sub_cons (d := 32) rfl (sub_nil _))))))))))))) ((.cons_cons _ (.cons_cons _ .slnil)))
              ·
                refine hl_less (sub_cons (d := 0) rfl (sub_cons (d := 1) rfl (sub_cons (d := 2) rfl (sub_cons (d := 3) rfl (sub_cons (d := 6) rfl (sub_cons (d := 7) rfl (sub_cons (d := 8) rfl (sub_cons (d := 9) rfl (sub_cons (d := 10) rfl (sub_cons (d := 11) rfl (sub_cons (d := 12) rfl (sub_cons (d := 14) rfl (sub_cons (d := 20) rfl (sub_cons (d := 32) rfl (sub_cons (d := 36) rfl (sub_cons (d := 47) rfl (sub_cons (d := 54) rfl (sub_nil _)))))))))))))))))) (.refl _) ?_
                refine hl_nil ?_
                refine hq_then ?_
                refine hc_false rfl ?_
                refine hc_skip ?_
                refine hq_block_normal ?_
                refine hq_then ?_
                refine hc_region ?_
                refine hl_v rfl rfl rfl (rv_ev rfl) ?_
                refine hl_v rfl rfl rfl (rv_add rfl rfl rfl (by constructor <;> omega)) ?_
                refine hl_v rfl rfl rfl (rv_ev rfl) ?_
                refine hl_less (sub_cons (d := 0) rfl (sub_cons (d := 1) rfl (sub_cons (d := 2) rfl (sub_cons (d := 3) rfl (sub_cons (d := 6) rfl (sub_cons (d := 7) rfl (sub_cons (d := 8) rfl (sub_cons (d := 9) rfl (sub_cons (d := 10) rfl (sub_cons (d := 11) rfl (sub_cons (d := 12) rfl (sub_cons (d := 14) rfl (sub_cons (d := 20) rfl (sub_cons (d := 32) rfl (sub_cons (d := 36) rfl (sub_cons (d := 47) rfl (sub_cons (d := 54) rfl (sub_nil _)))))))))))))))))) (.refl _) ?_
                refine hl_nil ?_
                have hil := insI_len zs (wireNodeI d (stepI d t (((r : Int) + 2) % 4) ((j : Int) + 1)) r k)
                exact hq_round3 (j + 1) _ _ ⟨by omega, by rw [pinK_succ, ← hz]; first | exact (pinS_out (by omega)).symm | exact (pinS_no (by omega)).symm | exact (pinS_yes (by omega) (by omega)).symm, by omega⟩ (by omega) (sub_cons (d := 0) rfl (sub_cons (d := 1) rfl (sub_cons (d := 2) rfl (sub_cons (d := 3) rfl (sub_cons (d := 6) rfl (sub_cons (d := 7) rfl (sub_cons (d := 8) rfl (sub_cons (d := 9) rfl (sub_cons (d := 10) rfl (sub_cons (d := 14) rfl (sub_cons (d := 20) rfl (sub_cons (d := 32) rfl (sub_nil _))))))))))))) ((.cons_cons _ (.cons_cons _ .slnil)))
          ·
            refine hl_less (sub_cons (d := 0) rfl (sub_cons (d := 1) rfl (sub_cons (d := 2) rfl (sub_cons (d := 3) rfl (sub_cons (d := 6) rfl (sub_cons (d := 7) rfl (sub_cons (d := 8) rfl (sub_cons (d := 9) rfl (sub_cons (d := 10) rfl (sub_cons (d := 14) rfl (sub_cons (d := 20) rfl (sub_cons (d := 32) rfl (sub_cons (d := 36) rfl (sub_nil _)))))))))))))) (.refl _) ?_
            refine hl_nil ?_
            refine hq_then ?_
            refine hc_false rfl ?_
            refine hc_exit ?_
            refine hq_then_exit ?_
            refine hq_then_exit ?_
            refine hq_block_exit ?_
            refine hq_block_normal ?_
            refine hq_then ?_
            refine hc_region ?_
            refine hl_v rfl rfl rfl (rv_ev rfl) ?_
            refine hl_v rfl rfl rfl (rv_add rfl rfl rfl (by constructor <;> omega)) ?_
            refine hl_v rfl rfl rfl (rv_ev rfl) ?_
            refine hl_less (sub_cons (d := 0) rfl (sub_cons (d := 1) rfl (sub_cons (d := 2) rfl (sub_cons (d := 3) rfl (sub_cons (d := 6) rfl (sub_cons (d := 7) rfl (sub_cons (d := 8) rfl (sub_cons (d := 9) rfl (sub_cons (d := 10) rfl (sub_cons (d := 14) rfl (sub_cons (d := 20) rfl (sub_cons (d := 32) rfl (sub_cons (d := 36) rfl (sub_nil _)))))))))))))) (.refl _) ?_
            refine hl_nil ?_
            exact hq_round3 (k + 1) _ _ ⟨by omega, by rw [pinR_succ, if_neg (by omega), ← hy, hz]; congr 1; omega, by omega⟩ (by omega) (sub_cons (d := 0) rfl (sub_cons (d := 1) rfl (sub_cons (d := 2) rfl (sub_cons (d := 3) rfl (sub_cons (d := 6) rfl (sub_cons (d := 7) rfl (sub_cons (d := 8) rfl (sub_cons (d := 9) rfl (sub_cons (d := 14) rfl (sub_nil _)))))))))) ((.cons_cons _ (.cons_cons _ .slnil)))
      ·
        refine hl_v rfl rfl rfl (rv_ev rfl) ?_
        refine hl_skip rfl rfl rfl ?_
        refine hl_skip rfl rfl rfl ?_
        refine hl_skip rfl rfl rfl ?_
        refine hl_skip rfl rfl rfl ?_
        refine hl_skip rfl rfl rfl ?_
        refine hl_v rfl rfl rfl (rv_ev rfl) ?_
        refine hl_less (sub_cons (d := 0) rfl (sub_cons (d := 1) rfl (sub_cons (d := 2) rfl (sub_cons (d := 3) rfl (sub_cons (d := 6) rfl (sub_cons (d := 7) rfl (sub_cons (d := 8) rfl (sub_cons (d := 9) rfl (sub_cons (d := 14) rfl (sub_cons (d := 20) rfl (sub_cons (d := 32) rfl (sub_nil _)))))))))))) (.refl _) ?_
        refine hl_nil ?_
        refine hq_then ?_
        refine hc_false rfl ?_
        refine hc_skip ?_
        refine hq_then ?_
        refine hc_seq ?_
        refine hc_region ?_
        refine hl_v rfl rfl rfl (rv_ev rfl) ?_
        refine hl_less (sub_cons (d := 0) rfl (sub_cons (d := 1) rfl (sub_cons (d := 2) rfl (sub_cons (d := 3) rfl (sub_cons (d := 6) rfl (sub_cons (d := 7) rfl (sub_cons (d := 8) rfl (sub_cons (d := 9) rfl (sub_cons (d := 10) rfl (sub_cons (d := 14) rfl (sub_cons (d := 20) rfl (sub_cons (d := 32) rfl (sub_nil _))))))))))))) (.refl _) ?_
        refine hl_nil ?_
        refine hq_then ?_
        refine hc_block ?_
        refine hc_loop3 (α := Nat) (β := Value) (γ := List Int) (fun j q zs => [rowE 3 1 q zs.length (zs.map (Value.int .i64)), boxE b1 #[.int .i64 d.W, .int .i64 d.H, .int .i64 d.T, .int .i64 d.R] 25]) (fun j q zs => [(0, .agg #[.int .i64 d.W, .int .i64 d.H, .int .i64 d.T, .int .i64 d.R]), (1, .int .i64 t), (2, .int .i64 p), (3, .pointer (some ⟨b1, 0, none⟩)), (6, .slice none 0 0), (7, q), (8, .int .i64 (r : Int)), (9, .int .i64 (k : Int)), (10, .int .i64 ((j : Int) + 1)), (14, .bool true), (20, .bool true), (32, .bool false)]) (fun j q zs => j ≤ 1 + k % 2 ∧ zs = pinK d t r k ys j ∧ zs.length ≤ ys.length + j) (fun j q zs => 3 - j) 0 _ ys ⟨by omega, rfl, by simp⟩ (sub_cons (d := 0) rfl (sub_cons (d := 1) rfl (sub_cons (d := 2) rfl (sub_cons (d := 3) rfl (sub_cons (d := 6) rfl (sub_cons (d := 7) rfl (sub_cons (d := 8) rfl (sub_cons (d := 9) rfl (sub_cons (d := 10) rfl (sub_cons (d := 14) rfl (sub_cons (d := 20) rfl (sub_cons (d := 32) rfl (sub_nil _))))))))))))) ((.cons_cons _ (.cons_cons _ .slnil))) ?_
        intro j q zs hi16
        obtain ⟨hj, hz, hzl⟩ := hi16
        refine hc_seq ?_
        refine hc_seq ?_
        refine hc_region ?_
        refine hl_v rfl rfl rfl (rv_ev rfl) ?_
        refine hl_v rfl rfl rfl (rv_ev rfl) ?_
        refine hl_callV rfl rfl rfl (rq_call (by kernel_rfl) rfl (fun w hm => ret_ans (ans_of (wireLen_any _ (by omega) (by omega) w)))) ?_
        refine hl_leq rfl rfl rfl rfl rfl rfl (fun h17 => ?_) (fun h17 => ?_)
        ·
          refine hl_less (sub_cons (d := 0) rfl (sub_cons (d := 1) rfl (sub_cons (d := 2) rfl (sub_cons (d := 3) rfl (sub_cons (d := 6) rfl (sub_cons (d := 7) rfl (sub_cons (d := 8) rfl (sub_cons (d := 9) rfl (sub_cons (d := 10) rfl (sub_cons (d := 14) rfl (sub_cons (d := 20) rfl (sub_cons (d := 32) rfl (sub_cons (d := 36) rfl (sub_nil _)))))))))))))) (.refl _) ?_
          refine hl_nil ?_
          refine hq_then ?_
          refine hc_true rfl ?_
          refine hc_skip ?_
          refine hq_then ?_
          refine hc_seq ?_
          refine hc_block ?_
          refine hc_seq ?_
          refine hc_region ?_
          refine hl_v rfl rfl rfl (rv_loadN (cs := [.int .i64 d.W, .int .i64 d.H, .int .i64 d.T, .int .i64 d.R]) rfl (by kernel_rfl) (by kernel_rfl) rfl rfl (box_part 1 rfl 0 rfl)) ?_
          refine hl_v rfl rfl rfl (rv_ev rfl) ?_
          refine hl_v rfl rfl rfl (rv_ev rfl) ?_
          refine hl_v rfl rfl rfl (rv_add rfl rfl rfl (by constructor <;> omega)) ?_
          refine hl_v rfl rfl rfl (rv_rem rfl rfl rfl (by constructor <;> omega)) ?_
          refine hl_v rfl rfl rfl (rv_ev rfl) ?_
          refine hl_callV rfl rfl rfl (rq_call (by kernel_rfl) rfl (fun w hm => ret_ans (tileStep_any d _ _ _ hv t0 t1 (by omega) (by omega) (by omega) (by omega) w))) ?_
          refine hl_v rfl rfl rfl (rv_ev rfl) ?_
          refine hl_less (sub_cons (d := 0) rfl (sub_cons (d := 1) rfl (sub_cons (d := 2) rfl (sub_cons (d := 3) rfl (sub_cons (d := 6) rfl (sub_cons (d := 7) rfl (sub_cons (d := 8) rfl (sub_cons (d := 9) rfl (sub_cons (d := 10) rfl (sub_cons (d := 11) rfl (sub_cons (d := 14) rfl (sub_cons (d := 20) rfl (sub_cons (d := 32) rfl (sub_cons (d := 36) rfl (sub_nil _))))))))))))))) (.refl _) ?_
          refine hl_nil ?_
          refine hq_then ?_
          refine hc_seq ?_
          refine hc_seq ?_
          refine hc_region ?_
          refine hl_v rfl rfl rfl (rv_ev rfl) ?_
          refine hl_lss rfl rfl rfl rfl rfl rfl (fun h18 => ?_) (fun h18 => ?_)
          ·
            refine hl_less (sub_cons (d := 0) rfl (sub_cons (d := 1) rfl (sub_cons (d := 2) rfl (sub_cons (d := 3) rfl (sub_cons (d := 6) rfl (sub_cons (d := 7) rfl (sub_cons (d := 8) rfl (sub_cons (d := 9) rfl (sub_cons (d := 10) rfl (sub_cons (d := 11) rfl (sub_cons (d := 14) rfl (sub_cons (d := 20) rfl (sub_cons (d := 32) rfl (sub_cons (d := 36) rfl (sub_cons (d := 47) rfl (sub_nil _)))))))))))))))) (.refl _) ?_
            refine hl_nil ?_
            refine hq_then ?_
            refine hc_true rfl ?_
            refine hc_exit ?_
            refine hq_then_exit ?_
            refine hq_block_exit ?_
            refine hq_then ?_
            refine hc_region ?_
            refine hl_v rfl rfl rfl (rv_ev rfl) ?_
            refine hl_v rfl rfl rfl (rv_add rfl rfl rfl (by constructor <;> omega)) ?_
            refine hl_v rfl rfl rfl (rv_ev rfl) ?_
            refine hl_less (sub_cons (d := 0) rfl (sub_cons (d := 1) rfl (sub_cons (d := 2) rfl (sub_cons (d := 3) rfl (sub_cons (d := 6) rfl (sub_cons (d := 7) rfl (sub_cons (d := 8) rfl (sub_cons (d := 9) rfl (sub_cons (d := 10) rfl (sub_cons (d := 11) rfl (sub_cons (d := 14) rfl (sub_cons (d := 20) rfl (sub_cons (d := 32) rfl (sub_cons (d := 36) rfl (sub_cons (d := 47) rfl (sub_nil _)))))))))))))))) (.refl _) ?_
            refine hl_nil ?_
            have hil := insI_len zs (wireNodeI d (stepI d t (((r : Int) + 2) % 4) ((j : Int) + 1)) r k)
            exact hq_round3 (j + 1) _ _ ⟨by omega, by rw [pinK_succ, ← hz]; first | exact (pinS_out (by omega)).symm | exact (pinS_no (by omega)).symm | exact (pinS_yes (by omega) (by omega)).symm, by omega⟩ (by omega) (sub_cons (d := 0) rfl (sub_cons (d := 1) rfl (sub_cons (d := 2) rfl (sub_cons (d := 3) rfl (sub_cons (d := 6) rfl (sub_cons (d := 7) rfl (sub_cons (d := 8) rfl (sub_cons (d := 9) rfl (sub_cons (d := 10) rfl (sub_cons (d := 14) rfl (sub_cons (d := 20) rfl (sub_cons (d := 32) rfl (sub_nil _))))))))))))) ((.cons_cons _ (.cons_cons _ .slnil)))
          ·
            refine hl_less (sub_cons (d := 0) rfl (sub_cons (d := 1) rfl (sub_cons (d := 2) rfl (sub_cons (d := 3) rfl (sub_cons (d := 6) rfl (sub_cons (d := 7) rfl (sub_cons (d := 8) rfl (sub_cons (d := 9) rfl (sub_cons (d := 10) rfl (sub_cons (d := 11) rfl (sub_cons (d := 14) rfl (sub_cons (d := 20) rfl (sub_cons (d := 32) rfl (sub_cons (d := 36) rfl (sub_cons (d := 47) rfl (sub_nil _)))))))))))))))) (.refl _) ?_
            refine hl_nil ?_
            refine hq_then ?_
            refine hc_false rfl ?_
            refine hc_skip ?_
            refine hq_then ?_
            refine hc_seq ?_
            refine hc_region ?_
            refine hl_v rfl rfl rfl (rv_loadN (cs := [.int .i64 d.W, .int .i64 d.H, .int .i64 d.T, .int .i64 d.R]) rfl (by kernel_rfl) (by kernel_rfl) rfl rfl (box_part 1 rfl 0 rfl)) ?_
            refine hl_v rfl rfl rfl (rv_ev rfl) ?_
            refine hl_v rfl rfl rfl (rv_ev rfl) ?_
            refine hl_v rfl rfl rfl (rv_ev rfl) ?_
            refine hl_callV rfl rfl rfl (rq_call (by kernel_rfl) rfl (fun w hm => ret_ans (wireNode_at d _ _ _ (step_tOk hv (by omega)) (by omega) (by omega) (by omega) (by omega) w))) ?_
            refine hl_v rfl rfl rfl (rv_ev rfl) ?_
            refine hl_less (sub_cons (d := 0) rfl (sub_cons (d := 1) rfl (sub_cons (d := 2) rfl (sub_cons (d := 3) rfl (sub_cons (d := 6) rfl (sub_cons (d := 7) rfl (sub_cons (d := 8) rfl (sub_cons (d := 9) rfl (sub_cons (d := 10) rfl (sub_cons (d := 11) rfl (sub_cons (d := 12) rfl (sub_cons (d := 14) rfl (sub_cons (d := 20) rfl (sub_cons (d := 32) rfl (sub_cons (d := 36) rfl (sub_cons (d := 47) rfl (sub_nil _))))))))))))))))) (.refl _) ?_
            refine hl_nil ?_
            refine hq_then ?_
            refine hc_seq ?_
            refine hc_region ?_
            refine hl_v rfl rfl rfl (rv_ev rfl) ?_
            refine hl_geq rfl rfl rfl rfl rfl rfl (fun h19 => ?_) (fun h19 => ?_)
            ·
              refine hl_less (sub_cons (d := 0) rfl (sub_cons (d := 1) rfl (sub_cons (d := 2) rfl (sub_cons (d := 3) rfl (sub_cons (d := 6) rfl (sub_cons (d := 7) rfl (sub_cons (d := 8) rfl (sub_cons (d := 9) rfl (sub_cons (d := 10) rfl (sub_cons (d := 11) rfl (sub_cons (d := 12) rfl (sub_cons (d := 14) rfl (sub_cons (d := 20) rfl (sub_cons (d := 32) rfl (sub_cons (d := 36) rfl (sub_cons (d := 47) rfl (sub_cons (d := 54) rfl (sub_nil _)))))))))))))))))) (.refl _) ?_
              refine hl_nil ?_
              refine hq_then ?_
              refine hc_true rfl ?_
              refine hc_region ?_
              refine hl_v rfl rfl rfl (rv_ev rfl) ?_
              refine hl_v rfl rfl rfl (rv_ev rfl) ?_
              refine hl_callM (R := (fun v' p' => p' = rowE 3 1 v' (insI zs (wireNodeI d (stepI d t (((r : Int) + 2) % 4) ((j : Int) + 1)) (r : Int) (k : Int))).length ((insI zs (wireNodeI d (stepI d t (((r : Int) + 2) % 4) ((j : Int) + 1)) (r : Int) (k : Int))).map (Value.int .i64)))) 0 rfl rfl (by kernel_rfl) rfl rfl (fun l' w hm => insertInt_mut _ zs _ (by omega) w hm) ?_
              intro v20 p21 hR22
              subst hR22
              refine hl_eqL (l' := [rowE 3 1 v20 ((insI zs (wireNodeI d (stepI d t (((r : Int) + 2) % 4) ((j : Int) + 1)) (r : Int) (k : Int))).length) ((insI zs (wireNodeI d (stepI d t (((r : Int) + 2) % 4) ((j : Int) + 1)) (r : Int) (k : Int))).map (Value.int .i64)), boxE b1 #[.int .i64 d.W, .int .i64 d.H, .int .i64 d.T, .int .i64 d.R] 25]) rfl ?_
              refine hl_v rfl rfl rfl (rv_ev rfl) ?_
              refine hl_less (sub_cons (d := 0) rfl (sub_cons (d := 1) rfl (sub_cons (d := 2) rfl (sub_cons (d := 3) rfl (sub_cons (d := 6) rfl (sub_cons (d := 7) rfl (sub_cons (d := 8) rfl (sub_cons (d := 9) rfl (sub_cons (d := 10) rfl (sub_cons (d := 11) rfl (sub_cons (d := 12) rfl (sub_cons (d := 14) rfl (sub_cons (d := 20) rfl (sub_cons (d := 32) rfl (sub_cons (d := 36) rfl (sub_cons (d := 47) rfl (sub_cons (d := 54) rfl (sub_nil _)))))))))))))))))) (.refl _) ?_
              refine hl_nil ?_
              refine hq_block_normal ?_
              refine hq_then ?_
              refine hc_region ?_
              refine hl_v rfl rfl rfl (rv_ev rfl) ?_
              refine hl_v rfl rfl rfl (rv_add rfl rfl rfl (by constructor <;> omega)) ?_
              refine hl_v rfl rfl rfl (rv_ev rfl) ?_
              refine hl_less (sub_cons (d := 0) rfl (sub_cons (d := 1) rfl (sub_cons (d := 2) rfl (sub_cons (d := 3) rfl (sub_cons (d := 6) rfl (sub_cons (d := 7) rfl (sub_cons (d := 8) rfl (sub_cons (d := 9) rfl (sub_cons (d := 10) rfl (sub_cons (d := 11) rfl (sub_cons (d := 12) rfl (sub_cons (d := 14) rfl (sub_cons (d := 20) rfl (sub_cons (d := 32) rfl (sub_cons (d := 36) rfl (sub_cons (d := 47) rfl (sub_cons (d := 54) rfl (sub_nil _)))))))))))))))))) (.refl _) ?_
              refine hl_nil ?_
              have hil := insI_len zs (wireNodeI d (stepI d t (((r : Int) + 2) % 4) ((j : Int) + 1)) r k)
              exact hq_round3 (j + 1) _ _ ⟨by omega, by rw [pinK_succ, ← hz]; first | exact (pinS_out (by omega)).symm | exact (pinS_no (by omega)).symm | exact (pinS_yes (by omega) (by omega)).symm, by omega⟩ (by omega) (sub_cons (d := 0) rfl (sub_cons (d := 1) rfl (sub_cons (d := 2) rfl (sub_cons (d := 3) rfl (sub_cons (d := 6) rfl (sub_cons (d := 7) rfl (sub_cons (d := 8) rfl (sub_cons (d := 9) rfl (sub_cons (d := 10) rfl (sub_cons (d := 14) rfl (sub_cons (d := 20) rfl (sub_cons (d := 32) rfl (sub_nil _))))))))))))) ((.cons_cons _ (.cons_cons _ .slnil)))
            ·
              refine hl_less (sub_cons (d := 0) rfl (sub_cons (d := 1) rfl (sub_cons (d := 2) rfl (sub_cons (d := 3) rfl (sub_cons (d := 6) rfl (sub_cons (d := 7) rfl (sub_cons (d := 8) rfl (sub_cons (d := 9) rfl (sub_cons (d := 10) rfl (sub_cons (d := 11) rfl (sub_cons (d := 12) rfl (sub_cons (d := 14) rfl (sub_cons (d := 20) rfl (sub_cons (d := 32) rfl (sub_cons (d := 36) rfl (sub_cons (d := 47) rfl (sub_cons (d := 54) rfl (sub_nil _)))))))))))))))))) (.refl _) ?_
              refine hl_nil ?_
              refine hq_then ?_
              refine hc_false rfl ?_
              refine hc_skip ?_
              refine hq_block_normal ?_
              refine hq_then ?_
              refine hc_region ?_
              refine hl_v rfl rfl rfl (rv_ev rfl) ?_
              refine hl_v rfl rfl rfl (rv_add rfl rfl rfl (by constructor <;> omega)) ?_
              refine hl_v rfl rfl rfl (rv_ev rfl) ?_
              refine hl_less (sub_cons (d := 0) rfl (sub_cons (d := 1) rfl (sub_cons (d := 2) rfl (sub_cons (d := 3) rfl (sub_cons (d := 6) rfl (sub_cons (d := 7) rfl (sub_cons (d := 8) rfl (sub_cons (d := 9) rfl (sub_cons (d := 10) rfl (sub_cons (d := 11) rfl (sub_cons (d := 12) rfl (sub_cons (d := 14) rfl (sub_cons (d := 20) rfl (sub_cons (d := 32) rfl (sub_cons (d := 36) rfl (sub_cons (d := 47) rfl (sub_cons (d := 54) rfl (sub_nil _)))))))))))))))))) (.refl _) ?_
              refine hl_nil ?_
              have hil := insI_len zs (wireNodeI d (stepI d t (((r : Int) + 2) % 4) ((j : Int) + 1)) r k)
              exact hq_round3 (j + 1) _ _ ⟨by omega, by rw [pinK_succ, ← hz]; first | exact (pinS_out (by omega)).symm | exact (pinS_no (by omega)).symm | exact (pinS_yes (by omega) (by omega)).symm, by omega⟩ (by omega) (sub_cons (d := 0) rfl (sub_cons (d := 1) rfl (sub_cons (d := 2) rfl (sub_cons (d := 3) rfl (sub_cons (d := 6) rfl (sub_cons (d := 7) rfl (sub_cons (d := 8) rfl (sub_cons (d := 9) rfl (sub_cons (d := 10) rfl (sub_cons (d := 14) rfl (sub_cons (d := 20) rfl (sub_cons (d := 32) rfl (sub_nil _))))))))))))) ((.cons_cons _ (.cons_cons _ .slnil)))
        ·
          refine hl_less (sub_cons (d := 0) rfl (sub_cons (d := 1) rfl (sub_cons (d := 2) rfl (sub_cons (d := 3) rfl (sub_cons (d := 6) rfl (sub_cons (d := 7) rfl (sub_cons (d := 8) rfl (sub_cons (d := 9) rfl (sub_cons (d := 10) rfl (sub_cons (d := 14) rfl (sub_cons (d := 20) rfl (sub_cons (d := 32) rfl (sub_cons (d := 36) rfl (sub_nil _)))))))))))))) (.refl _) ?_
          refine hl_nil ?_
          refine hq_then ?_
          refine hc_false rfl ?_
          refine hc_exit ?_
          refine hq_then_exit ?_
          refine hq_then_exit ?_
          refine hq_block_exit ?_
          refine hq_block_normal ?_
          refine hq_then ?_
          refine hc_region ?_
          refine hl_v rfl rfl rfl (rv_ev rfl) ?_
          refine hl_v rfl rfl rfl (rv_add rfl rfl rfl (by constructor <;> omega)) ?_
          refine hl_v rfl rfl rfl (rv_ev rfl) ?_
          refine hl_less (sub_cons (d := 0) rfl (sub_cons (d := 1) rfl (sub_cons (d := 2) rfl (sub_cons (d := 3) rfl (sub_cons (d := 6) rfl (sub_cons (d := 7) rfl (sub_cons (d := 8) rfl (sub_cons (d := 9) rfl (sub_cons (d := 10) rfl (sub_cons (d := 14) rfl (sub_cons (d := 20) rfl (sub_cons (d := 32) rfl (sub_cons (d := 36) rfl (sub_nil _)))))))))))))) (.refl _) ?_
          refine hl_nil ?_
          exact hq_round3 (k + 1) _ _ ⟨by omega, by rw [pinR_succ, if_neg (by omega), ← hy, hz]; congr 1; omega, by omega⟩ (by omega) (sub_cons (d := 0) rfl (sub_cons (d := 1) rfl (sub_cons (d := 2) rfl (sub_cons (d := 3) rfl (sub_cons (d := 6) rfl (sub_cons (d := 7) rfl (sub_cons (d := 8) rfl (sub_cons (d := 9) rfl (sub_cons (d := 14) rfl (sub_nil _)))))))))) ((.cons_cons _ (.cons_cons _ .slnil)))
    ·
      refine hl_less (sub_cons (d := 0) rfl (sub_cons (d := 1) rfl (sub_cons (d := 2) rfl (sub_cons (d := 3) rfl (sub_cons (d := 6) rfl (sub_cons (d := 7) rfl (sub_cons (d := 8) rfl (sub_cons (d := 9) rfl (sub_cons (d := 14) rfl (sub_cons (d := 20) rfl (sub_nil _))))))))))) (.refl _) ?_
      refine hl_nil ?_
      refine hq_then ?_
      refine hc_false rfl ?_
      refine hc_exit ?_
      refine hq_then_exit ?_
      refine hq_then_exit ?_
      refine hq_block_exit ?_
      refine hq_block_normal ?_
      refine hq_then ?_
      refine hc_region ?_
      refine hl_v rfl rfl rfl (rv_ev rfl) ?_
      refine hl_v rfl rfl rfl (rv_add rfl rfl rfl (by constructor <;> omega)) ?_
      refine hl_v rfl rfl rfl (rv_ev rfl) ?_
      refine hl_less (sub_cons (d := 0) rfl (sub_cons (d := 1) rfl (sub_cons (d := 2) rfl (sub_cons (d := 3) rfl (sub_cons (d := 6) rfl (sub_cons (d := 7) rfl (sub_cons (d := 8) rfl (sub_cons (d := 9) rfl (sub_cons (d := 14) rfl (sub_cons (d := 20) rfl (sub_nil _))))))))))) (.refl _) ?_
      refine hl_nil ?_
      exact hq_round3 (r + 1) _ _ ⟨by omega, by rw [pinO_succ, ← hx, hy]; congr 1; omega, by omega⟩ (by omega) (sub_cons (d := 0) rfl (sub_cons (d := 1) rfl (sub_cons (d := 2) rfl (sub_cons (d := 3) rfl (sub_cons (d := 6) rfl (sub_cons (d := 7) rfl (sub_cons (d := 8) rfl (sub_nil _)))))))) ((.cons_cons _ (.cons_cons _ .slnil)))
  ·
    refine hl_less (sub_cons (d := 0) rfl (sub_cons (d := 1) rfl (sub_cons (d := 2) rfl (sub_cons (d := 3) rfl (sub_cons (d := 6) rfl (sub_cons (d := 7) rfl (sub_cons (d := 8) rfl (sub_cons (d := 14) rfl (sub_nil _))))))))) (.refl _) ?_
    refine hl_nil ?_
    refine hq_then ?_
    refine hc_false rfl ?_
    refine hc_exit ?_
    refine hq_then_exit ?_
    refine hq_then_exit ?_
    refine hq_block_exit ?_
    refine hq_then ?_
    refine hc_seq ?_
    refine hc_region ?_
    refine hl_v rfl rfl rfl (rv_ev rfl) ?_
    refine hl_v rfl rfl rfl (rv_ev rfl) ?_
    refine hl_less (sub_cons (d := 0) rfl (sub_cons (d := 1) rfl (sub_cons (d := 2) rfl (sub_cons (d := 3) rfl (sub_cons (d := 6) rfl (sub_cons (d := 7) rfl (sub_cons (d := 8) rfl (sub_cons (d := 14) rfl (sub_nil _))))))))) (.refl _) ?_
    refine hl_nil ?_
    refine hq_then ?_
    refine hc_ret ?_
    exact hq_retR (post := [rowE 3 1 v xs.length (xs.map (Value.int .i64))]) rfl rfl ((.cons_cons _ (.cons _ .slnil))) (by rw [hx, show r = 4 by omega])
end Go.Proofs.Ytnnkbpcfjjijbaa
