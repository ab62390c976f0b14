/- Texts of the law FnCutMeans, part 2: what it uses. -/
import Derived.Test.YtakbbebpimlnpaaCt1
set_option linter.unusedVariables false
set_option linter.unusedSimpArgs false
namespace Go.Proofs.Ytakbbebpimlnpaa
open Go.RowKit Go.ChangeShapes
open Go.RowKit
set_option maxHeartbeats 4000000 in
set_option maxRecDepth 100000 in
theorem l08Sized_mut (g : Nat) (a : Option Addr) (len cap : Nat) (z : List Int) (q1 q2 q3 : Int) (w0 : World) (l : List HP) (w : World) (hm0 : Mem w0 (curE g a len cap :: l) w) (hb : BRow .u8 w0 a len cap z) (hq1 : 1 ≤ q1 ∧ q1 ≤ 6) (hq2 : 0 ≤ q2 ∧ q2 ≤ 3) (hq3 : 0 ≤ q3 ∧ q3 ≤ 14) :
  Calls Try.prog 121 #[.pointer (some ⟨g, 0, none⟩), .int .i64 q1, .int .i64 q2, .int .i64 q3] w (fun e_ w_ => ∃ v_ p_, e_ = .returned v_ ∧ (fun u_ p_ => ∃ n : Nt, u_ = n.agg ∧ p_ = bigE [curE g a len cap, ntE n] ∧ (n.sv.oneCell' = true ∧ n.av.oneCell' = true ∧ n.ov.oneCell' = true) ∧ NtOk n ∧ n.ins ≤ q1 ∧ (n.ss.length : Int) ≤ q2 ∧ (n.gs.length : Int) ≤ q3) v_ p_ ∧ Mem w0 (p_ :: l) w_) := by
 refine calls_hcM (N := 131) (args := [.pointer (some ⟨g, 0, none⟩), .int .i64 q1, .int .i64 q2, .int .i64 q3]) Try.func121 rfl rfl hm0 ?_
 refine hc_less _ (sx 0 rfl (sx 1 rfl (sx 2 rfl (sx 3 rfl (sub_nil _))))) (.refl _) ?_
 refine hc_seq ?_
 refine hc_region ?_
 refine hl_box rfl rfl rfl (rq_alloc (z := .agg #[.int .i64 0, .slice none 0 0, .slice none 0 0, .slice none 0 0]) rfl (by kernel_rfl)) ?_
 intro b1
 refine hl_less (sx 0 rfl (sx 1 rfl (sx 2 rfl (sx 3 rfl (sx 8 rfl (sub_nil _)))))) (.refl _) ?_
 refine hl_nil ?_
 refine hq_then ?_
 refine hc_seq ?_
 refine hc_region ?_
 refine hl_v rfl rfl rfl (rv_ev rfl) ?_
 refine hl_v rfl rfl rfl (rv_ev rfl) ?_
 refine hl_callM (R := (fun u_ p_ => (∃ x_ : Int, u_ = .int .i64 x_ ∧ 0 ≤ x_ ∧ x_ < q1) ∧ p_ = curE g a len cap)) 1 rfl rfl (by kernel_rfl) rfl rfl (fun l' w hm => belowN_mut g a len cap z q1 _ _ _ hm hb (by constructor <;> omega)) ?_
 intro v2 p3 hR4
 obtain ⟨⟨xhR4, rfl, xhR40, xhR41⟩, rfl⟩ := hR4
 refine hl_eqL (l' := (boxE b1 #[.int .i64 0, .slice none 0 0, .slice none 0 0, .slice none 0 0] 28 :: curE g a len cap :: l)) rfl ?_
 refine hl_v rfl rfl rfl (rv_add rfl rfl rfl (by constructor <;> omega)) ?_
 refine hl_v rfl rfl rfl (rv_build (cs := #[.int .i64 (1 + xhR4), .slice none 0 0, .slice none 0 0, .slice none 0 0]) rfl rfl (by kernel_rfl)) ?_
 refine hl_box rfl rfl rfl (rq_alloc (z := .agg #[.int .i64 0, .slice none 0 0, .slice none 0 0, .slice none 0 0]) rfl (by kernel_rfl)) ?_
 intro b5
 refine hl_storeBoxN (i := 0) (off := 0) (us := [.int .i64 (1 + xhR4), .slice none 0 0, .slice none 0 0, .slice none 0 0])  (l' := (boxE b5 #[.int .i64 (1 + xhR4), .slice none 0 0, .slice none 0 0, .slice none 0 0] 28 :: boxE b1 #[.int .i64 0, .slice none 0 0, .slice none 0 0, .slice none 0 0] 28 :: curE g a len cap :: l)) rfl rfl rfl (by kernel_rfl) rfl rfl rfl (all_cons rfl (all_cons rfl (all_cons rfl (all_cons rfl all_nil)))) rfl rfl rfl ?_
 refine hl_less (sx 0 rfl (sx 1 rfl (sx 2 rfl (sx 3 rfl (sx 8 rfl (sx 9 rfl (sub_nil _))))))) (.refl _) ?_
 refine hl_nil ?_
 refine hq_then ?_
 refine hc_seq ?_
 refine hc_region ?_
 refine hl_v rfl rfl rfl (rv_ev rfl) ?_
 refine hl_v rfl rfl rfl (rv_ev rfl) ?_
 refine hl_v rfl rfl rfl (rv_add rfl rfl rfl (by constructor <;> omega)) ?_
 refine hl_callM (R := (fun u_ p_ => (∃ x_ : Int, u_ = .int .i64 x_ ∧ 0 ≤ x_ ∧ x_ < q2 + 1) ∧ p_ = curE g a len cap)) 2 rfl rfl (by kernel_rfl) rfl rfl (fun l' w hm => belowN_mut g a len cap z (q2 + 1) _ _ _ hm hb (by constructor <;> omega)) ?_
 intro v6 p7 hR8
 obtain ⟨⟨xhR8, rfl, xhR80, xhR81⟩, rfl⟩ := hR8
 refine hl_eqL (l' := (boxE b5 #[.int .i64 (1 + xhR4), .slice none 0 0, .slice none 0 0, .slice none 0 0] 28 :: boxE b1 #[.int .i64 0, .slice none 0 0, .slice none 0 0, .slice none 0 0] 28 :: curE g a len cap :: l)) rfl ?_
 refine hl_v rfl rfl rfl (rv_ev rfl) ?_
 refine hl_less (sx 0 rfl (sx 1 rfl (sx 2 rfl (sx 3 rfl (sx 8 rfl (sx 9 rfl (sx 10 rfl (sub_nil _)))))))) (.refl _) ?_
 refine hl_nil ?_
 refine hq_then ?_
 refine hc_seq ?_
 refine hc_region ?_
 refine hl_v rfl rfl rfl (rv_ev rfl) ?_
 refine hl_v rfl rfl rfl (rv_ev rfl) ?_
 refine hl_v rfl rfl rfl (rv_add rfl rfl rfl (by constructor <;> omega)) ?_
 refine hl_callM (R := (fun u_ p_ => (∃ x_ : Int, u_ = .int .i64 x_ ∧ 0 ≤ x_ ∧ x_ < q3 + 1) ∧ p_ = curE g a len cap)) 2 rfl rfl (by kernel_rfl) rfl rfl (fun l' w hm => belowN_mut g a len cap z (q3 + 1) _ _ _ hm hb (by constructor <;> omega)) ?_
 intro v9 p10 hR11
 obtain ⟨⟨xhR11, rfl, xhR110, xhR111⟩, rfl⟩ := hR11
 refine hl_eqL (l' := (boxE b5 #[.int .i64 (1 + xhR4), .slice none 0 0, .slice none 0 0, .slice none 0 0] 28 :: boxE b1 #[.int .i64 0, .slice none 0 0, .slice none 0 0, .slice none 0 0] 28 :: curE g a len cap :: l)) rfl ?_
 refine hl_v rfl rfl rfl (rv_ev rfl) ?_
 refine hl_less (sx 0 rfl (sx 1 rfl (sx 2 rfl (sx 3 rfl (sx 8 rfl (sx 9 rfl (sx 10 rfl (sx 11 rfl (sub_nil _))))))))) (.refl _) ?_
 refine hl_nil ?_
 refine hq_then ?_
 refine hc_seq ?_
 refine hc_region ?_
 refine hl_v rfl rfl rfl (rv_field (k0 := 0) rfl (by kernel_rfl) rfl) ?_
 refine hl_v rfl rfl rfl (rv_load rfl (by kernel_rfl) rfl (box_cell 0 rfl rfl)) ?_
 refine hl_v rfl rfl rfl (rv_add rfl rfl rfl (by constructor <;> omega)) ?_
 refine hl_v rfl rfl rfl (rv_ev rfl) ?_
 refine hl_v rfl rfl rfl (rv_add rfl rfl rfl (by constructor <;> omega)) ?_
 refine hl_v rfl rfl rfl (rv_ev rfl) ?_
 refine hl_less (sx 0 rfl (sx 1 rfl (sx 2 rfl (sx 3 rfl (sx 8 rfl (sx 9 rfl (sx 10 rfl (sx 11 rfl (sx 12 rfl (sub_nil _)))))))))) (.refl _) ?_
 refine hl_nil ?_
 refine hq_then ?_
 refine hc_seq ?_
 refine hc_seq ?_
 refine hc_region ?_
 refine hl_v rfl rfl rfl (rv_ev rfl) ?_
 refine hl_less (sx 0 rfl (sx 1 rfl (sx 2 rfl (sx 3 rfl (sx 8 rfl (sx 9 rfl (sx 10 rfl (sx 11 rfl (sx 12 rfl (sx 13 rfl (sub_nil _))))))))))) (.refl _) ?_
 refine hl_nil ?_
 refine hq_then ?_
 refine hc_block ?_
 refine hc_conv (rowE 3 1 (.slice none 0 0) 0 ([]) :: boxE b5 #[.int .i64 (1 + xhR4), .slice none 0 0, .slice none 0 0, .slice none 0 0] 28 :: boxE b1 #[.int .i64 0, .slice none 0 0, .slice none 0 0, .slice none 0 0] 28 :: curE g a len cap :: l) (fun w hm => hm.nilRow 3 1) ?_
 refine hc_conv (rowE 80 2 (.slice none 0 0) 0 ([]) :: rowE 3 1 (.slice none 0 0) 0 ([]) :: boxE b5 #[.int .i64 (1 + xhR4), .slice none 0 0, .slice none 0 0, .slice none 0 0] 28 :: boxE b1 #[.int .i64 0, .slice none 0 0, .slice none 0 0, .slice none 0 0] 28 :: curE g a len cap :: l) (fun w hm => hm.nilRow 80 2) ?_
 refine hc_conv (rowE 83 3 (.slice none 0 0) 0 ([]) :: rowE 80 2 (.slice none 0 0) 0 ([]) :: rowE 3 1 (.slice none 0 0) 0 ([]) :: boxE b5 #[.int .i64 (1 + xhR4), .slice none 0 0, .slice none 0 0, .slice none 0 0] 28 :: boxE b1 #[.int .i64 0, .slice none 0 0, .slice none 0 0, .slice none 0 0] 28 :: curE g a len cap :: l) (fun w hm => hm.nilRow 83 3) ?_
 refine hc_conv (bigE ([] : List HP) :: rowE 83 3 (.slice none 0 0) 0 ([]) :: rowE 80 2 (.slice none 0 0) 0 ([]) :: rowE 3 1 (.slice none 0 0) 0 ([]) :: boxE b5 #[.int .i64 (1 + xhR4), .slice none 0 0, .slice none 0 0, .slice none 0 0] 28 :: boxE b1 #[.int .i64 0, .slice none 0 0, .slice none 0 0, .slice none 0 0] 28 :: curE g a len cap :: l) (fun w hm => Mem.big (ps := []) hm) ?_
 refine hc_loop3 (α := Nat) (β := Value) (γ := List An) (fun i u gs => (bigE ([] : List HP) :: rowE 83 3 (.slice none 0 0) 0 ([]) :: rowE 80 2 u gs.length (gs.flatMap anC) :: rowE 3 1 (.slice none 0 0) 0 ([]) :: boxE b5 #[.int .i64 (1 + xhR4), .slice none 0 0, u, .slice none 0 0] 28 :: boxE b1 #[.int .i64 0, .slice none 0 0, .slice none 0 0, .slice none 0 0] 28 :: curE g a len cap :: l)) (fun i u gs => [(0, .pointer (some ⟨g, 0, none⟩)), (1, .int .i64 q1), (2, .int .i64 q2), (3, .int .i64 q3), (8, .pointer (some ⟨b1, 0, none⟩)), (9, .pointer (some ⟨b5, 0, none⟩)), (10, .int .i64 xhR8), (11, .int .i64 xhR11), (12, .int .i64 ((1 + (1 + xhR4)) + xhR8)), (13, .int .i64 (i : Int))]) (fun i u gs => (i : Int) ≤ xhR11 ∧ gs.length = i ∧ AnsOk ((1 + (1 + xhR4)) + xhR8) gs) (fun i u gs => (xhR11).toNat - i) 0 _ [] ⟨by omega, rfl, fun k hk => absurd hk (by simp)⟩ (sx 0 rfl (sx 1 rfl (sx 2 rfl (sx 3 rfl (sx 8 rfl (sx 9 rfl (sx 10 rfl (sx 11 rfl (sx 12 rfl (sx 13 rfl (sub_nil _))))))))))) ((.cons_cons _ (.cons_cons _ (.cons_cons _ (.cons_cons _ (.cons_cons _ (.cons_cons _ (.cons_cons _ (.refl _))))))))) ?_
 intro i u gs hi12
 obtain ⟨hi, hgl, hgo⟩ := hi12
 refine hc_seq ?_
 refine hc_seq ?_
 refine hc_region ?_
 refine hl_v rfl rfl rfl (rv_ev rfl) ?_
 refine hl_v rfl rfl rfl (rv_ev rfl) ?_
 refine hl_lss rfl rfl rfl rfl rfl rfl (fun h13 => ?_) (fun h13 => ?_)
 ·
  refine hl_less (sx 0 rfl (sx 1 rfl (sx 2 rfl (sx 3 rfl (sx 8 rfl (sx 9 rfl (sx 10 rfl (sx 11 rfl (sx 12 rfl (sx 13 rfl (sx 39 rfl (sub_nil _)))))))))))) (.refl _) ?_
  refine hl_nil ?_
  refine hq_then ?_
  refine hc_true rfl ?_
  refine hc_skip ?_
  refine hq_then ?_
  refine hc_seq ?_
  refine hc_block ?_
  refine hc_seq ?_
  refine hc_region ?_
  refine hl_v rfl rfl rfl (rv_ev rfl) ?_
  refine hl_v rfl rfl rfl (rv_ev rfl) ?_
  refine hl_v rfl rfl rfl (rv_add rfl rfl rfl (by constructor <;> omega)) ?_
  refine hl_v rfl rfl rfl (rv_mul rfl rfl rfl (by constructor <;> omega)) ?_
  refine hl_v rfl rfl rfl (rv_ev rfl) ?_
  refine hl_less (sx 0 rfl (sx 1 rfl (sx 2 rfl (sx 3 rfl (sx 8 rfl (sx 9 rfl (sx 10 rfl (sx 11 rfl (sx 12 rfl (sx 13 rfl (sx 14 rfl (sx 39 rfl (sub_nil _))))))))))))) (.refl _) ?_
  refine hl_nil ?_
  refine hq_then ?_
  refine hc_seq ?_
  refine hc_region ?_
  refine hl_v rfl rfl rfl (rv_ev rfl) ?_
  refine hl_v rfl rfl rfl (rv_sub rfl rfl rfl (by constructor <;> omega)) ?_
  refine hl_v rfl rfl rfl (rv_ev rfl) ?_
  refine hl_v rfl rfl rfl (rv_ev rfl) ?_
  refine hl_v rfl rfl rfl (rv_sub rfl rfl rfl (by constructor <;> omega)) ?_
  refine hl_v rfl rfl rfl (rv_min rfl rfl rfl) ?_
  refine hl_callM (R := (fun u_ p_ => (∃ x_ : Int, u_ = .int .i64 x_ ∧ 0 ≤ x_ ∧ x_ < min ((2 * (((1 + (1 + xhR4)) + xhR8) + (i : Int))) - 1) 14) ∧ p_ = curE g a len cap)) 6 rfl rfl (by kernel_rfl) rfl rfl (fun l' w hm => belowN_mut g a len cap z (min ((2 * (((1 + (1 + xhR4)) + xhR8) + (i : Int))) - 1) 14) _ _ _ hm hb (by constructor <;> omega)) ?_
  intro v14 p15 hR16
  obtain ⟨⟨xhR16, rfl, xhR160, xhR161⟩, rfl⟩ := hR16
  refine hl_eqL (l' := (bigE ([] : List HP) :: rowE 83 3 (.slice none 0 0) 0 ([]) :: rowE 80 2 u gs.length (gs.flatMap anC) :: rowE 3 1 (.slice none 0 0) 0 ([]) :: boxE b5 #[.int .i64 (1 + xhR4), .slice none 0 0, u, .slice none 0 0] 28 :: boxE b1 #[.int .i64 0, .slice none 0 0, .slice none 0 0, .slice none 0 0] 28 :: curE g a len cap :: l)) rfl ?_
  refine hl_v rfl rfl rfl (rv_sub rfl rfl rfl (by constructor <;> omega)) ?_
  refine hl_v rfl rfl rfl (rv_ev rfl) ?_
  refine hl_less (sx 0 rfl (sx 1 rfl (sx 2 rfl (sx 3 rfl (sx 8 rfl (sx 9 rfl (sx 10 rfl (sx 11 rfl (sx 12 rfl (sx 13 rfl (sx 14 rfl (sx 15 rfl (sx 39 rfl (sub_nil _)))))))))))))) (.refl _) ?_
  refine hl_nil ?_
  refine hq_then ?_
  refine hc_conv (curE g a len cap :: bigE ([] : List HP) :: rowE 83 3 (.slice none 0 0) 0 ([]) :: rowE 80 2 u gs.length (gs.flatMap anC) :: rowE 3 1 (.slice none 0 0) 0 ([]) :: boxE b5 #[.int .i64 (1 + xhR4), .slice none 0 0, u, .slice none 0 0] 28 :: boxE b1 #[.int .i64 0, .slice none 0 0, .slice none 0 0, .slice none 0 0] 28 :: l) (conv_pick (src := [bigE ([] : List HP), rowE 83 3 (.slice none 0 0) 0 ([]), rowE 80 2 u gs.length (gs.flatMap anC), rowE 3 1 (.slice none 0 0) 0 ([]), boxE b5 #[.int .i64 (1 + xhR4), .slice none 0 0, u, .slice none 0 0] 28, boxE b1 #[.int .i64 0, .slice none 0 0, .slice none 0 0, .slice none 0 0] 28, curE g a len cap]) (dst := [curE g a len cap, bigE ([] : List HP), rowE 83 3 (.slice none 0 0) 0 ([]), rowE 80 2 u gs.length (gs.flatMap anC), rowE 3 1 (.slice none 0 0) 0 ([]), boxE b5 #[.int .i64 (1 + xhR4), .slice none 0 0, u, .slice none 0 0] 28, boxE b1 #[.int .i64 0, .slice none 0 0, .slice none 0 0, .slice none 0 0] 28]) (l := l) [6, 0, 1, 2, 3, 4, 5] (by decide) rfl) ?_
  refine hc_draw2 (l := (bigE ([] : List HP) :: rowE 83 3 (.slice none 0 0) 0 ([]) :: rowE 80 2 u gs.length (gs.flatMap anC) :: rowE 3 1 (.slice none 0 0) 0 ([]) :: boxE b5 #[.int .i64 (1 + xhR4), .slice none 0 0, u, .slice none 0 0] 28 :: boxE b1 #[.int .i64 0, .slice none 0 0, .slice none 0 0, .slice none 0 0] 28 :: l)) (by kernel_rfl) 8 [0, 1, 2, 3, 4, 5, 6, 7] (List.take 8 _) (List.drop 8 _) [[], [0], [], [], [], [3, 4], [2, 5], [5, 6]] [54, 55, 56, 57, 58, 59, 60, 61] (fun i_ vs_ v_ p_ => match i_ with | 0 => v_ = .pointer (some ⟨b5, 0 + 2, none⟩) ∧ p_ = [] | 1 => v_ = u ∧ p_ = [] | 2 => v_ = .int .i64 (((2 * (((1 + (1 + xhR4)) + xhR8) + (i : Int))) - 1) - xhR16) ∧ p_ = [] | 3 => v_ = .pointer (some ⟨g, 0, none⟩) ∧ p_ = [] | 4 => v_ = .int .i64 (2 * (((1 + (1 + xhR4)) + xhR8) + (i : Int))) ∧ p_ = [] | 5 => (∃ pm_, p_ = [pm_] ∧ (fun u_ p_ => (∃ x_ : Int, u_ = .int .i64 x_ ∧ 0 ≤ x_ ∧ x_ < 2 * (((1 + (1 + xhR4)) + xhR8) + (i : Int))) ∧ p_ = curE g a len cap) v_ pm_) | 6 => v_ = .agg #[.int .i64 (((2 * (((1 + (1 + xhR4)) + xhR8) + (i : Int))) - 1) - xhR16), .int .i64 (intOf_o (List.getD vs_ 1 undef))] ∧ p_ = [] | 7 => IsRow_o 80 2 1 ([((2 * (((1 + (1 + xhR4)) + xhR8) + (i : Int))) - 1) - xhR16, (intOf_o (List.getD vs_ 0 undef))].map (Value.int .i64)) v_ p_ | _ => True) [[], [0], [], [], [], [3, 4], [2, 5], [5, 6]] [none, none, none, none, none, some 11, none, none] [curE g a len cap] [0, 1, 2, 3, 4, 5, 6, 7] 11 (List.take_append_drop 8 _).symm (by kernel_rfl) (by kernel_rfl) (by kernel_rfl) rfl rfl ?_ ?_
  ·
   refine ⟨?_, ?_, ?_, ?_, ?_, ?_, ?_, ?_, trivial⟩
   ·
    intro vf pf hmu hR
    refine Or.inl ⟨rfl, ?_⟩
    show RunQ _ _ _ (([] : List Nat).flatMap pf ++ _) (envOf _ vf [] ++ _) _ _
    refine rq_less (sx 9 rfl (sub_nil _)) (List.sublist_append_right _ _) ?_
    exact rq_v (rv_field (k0 := 2) rfl (by kernel_rfl) rfl)
   ·
    intro vf pf hmu hR
    have e0 : (vf 0) = .pointer (some ⟨b5, 0 + 2, none⟩) ∧ (pf 0) = [] := hR 0 (by decide)
    refine Or.inl ⟨rfl, ?_⟩
    show RunQ _ _ _ (([0] : List Nat).flatMap pf ++ _) (envOf _ vf [0] ++ _) _ _
    refine rq_less (sx 54 (congrArg some e0.1) (sub_nil _)) (List.sublist_append_right _ _) ?_
    exact rq_v (rv_load rfl (by kernel_rfl) rfl (box_cell 4 rfl rfl))
   ·
    intro vf pf hmu hR
    refine Or.inl ⟨rfl, ?_⟩
    show RunQ _ _ _ (([] : List Nat).flatMap pf ++ _) (envOf _ vf [] ++ _) _ _
    refine rq_less (sx 15 rfl (sub_nil _)) (List.sublist_append_right _ _) ?_
    exact rq_v (rv_ev rfl)
   ·
    intro vf pf hmu hR
    refine Or.inl ⟨rfl, ?_⟩
    show RunQ _ _ _ (([] : List Nat).flatMap pf ++ _) (envOf _ vf [] ++ _) _ _
    refine rq_less (sx 0 rfl (sub_nil _)) (List.sublist_append_right _ _) ?_
    exact rq_v (rv_ev rfl)
   ·
    intro vf pf hmu hR
    refine Or.inl ⟨rfl, ?_⟩
    show RunQ _ _ _ (([] : List Nat).flatMap pf ++ _) (envOf _ vf [] ++ _) _ _
    refine rq_less (sx 14 rfl (sub_nil _)) (List.sublist_append_right _ _) ?_
    exact rq_v (rv_ev rfl)
   ·
    intro vf pf hmu hR
    have e3 : (vf 3) = .pointer (some ⟨g, 0, none⟩) ∧ (pf 3) = [] := hR 3 (by decide)
    have e4 : (vf 4) = .int .i64 (2 * (((1 + (1 + xhR4)) + xhR8) + (i : Int))) ∧ (pf 4) = [] := hR 4 (by decide)
    refine Or.inl ⟨rfl, ?_⟩
    show RunM _ _ _ (pf 11) (([3, 4] : List Nat).flatMap pf ++ _) (envOf _ vf [3, 4] ++ _) _ _
    rw [hmu]
    refine rm_less (X' := (bigE ([] : List HP) :: rowE 83 3 (.slice none 0 0) 0 ([]) :: rowE 80 2 u gs.length (gs.flatMap anC) :: rowE 3 1 (.slice none 0 0) 0 ([]) :: boxE b5 #[.int .i64 (1 + xhR4), .slice none 0 0, u, .slice none 0 0] 28 :: boxE b1 #[.int .i64 0, .slice none 0 0, .slice none 0 0, .slice none 0 0] 28 :: l)) (sx 57 (congrArg some e3.1) (sx 58 (congrArg some e4.1) (sub_nil _))) (by first | (simp only [e3.2, e4.2, List.flatMap_cons, List.flatMap_nil, List.append_nil, List.nil_append, List.cons_append]; exact List.Sublist.refl _) | simp [e3.2, e4.2]) ?_
    exact rq_callM (R := (fun u_ p_ => (∃ x_ : Int, u_ = .int .i64 x_ ∧ 0 ≤ x_ ∧ x_ < 2 * (((1 + (1 + xhR4)) + xhR8) + (i : Int))) ∧ p_ = curE g a len cap)) (by kernel_rfl) rfl (fun L w hX hm => belowN_mut g a len cap z (2 * (((1 + (1 + xhR4)) + xhR8) + (i : Int))) _ _ _ hm hb (by constructor <;> omega))
   ·
    intro vf pf hmu hR
    have e2 : (vf 2) = .int .i64 (((2 * (((1 + (1 + xhR4)) + xhR8) + (i : Int))) - 1) - xhR16) ∧ (pf 2) = [] := hR 2 (by decide)
    have e5 : (∃ pm_, (pf 5) = [pm_] ∧ (fun u_ p_ => (∃ x_ : Int, u_ = .int .i64 x_ ∧ 0 ≤ x_ ∧ x_ < 2 * (((1 + (1 + xhR4)) + xhR8) + (i : Int))) ∧ p_ = curE g a len cap) (vf 5) pm_) := hR 5 (by decide)
    obtain ⟨p18, p5, hR19⟩ := e5
    obtain ⟨v17, v5⟩ : ∃ x, vf 5 = x := ⟨_, rfl⟩
    rw [v5] at hR19
    obtain ⟨⟨xhR19, rfl, xhR190, xhR191⟩, rfl⟩ := hR19
    refine Or.inl ⟨rfl, ?_⟩
    show RunQ _ _ _ (([2, 5] : List Nat).flatMap pf ++ _) (envOf _ vf [2, 5] ++ _) _ _
    refine rq_less (l' := (curE g a len cap :: bigE ([] : List HP) :: rowE 83 3 (.slice none 0 0) 0 ([]) :: rowE 80 2 u gs.length (gs.flatMap anC) :: rowE 3 1 (.slice none 0 0) 0 ([]) :: boxE b5 #[.int .i64 (1 + xhR4), .slice none 0 0, u, .slice none 0 0] 28 :: boxE b1 #[.int .i64 0, .slice none 0 0, .slice none 0 0, .slice none 0 0] 28 :: l)) (sx 56 (congrArg some e2.1) (sx 59 (congrArg some v5) (sub_nil _))) (by first | (simp only [p5, v5, e2.2, List.flatMap_cons, List.flatMap_nil, List.append_nil, List.nil_append, List.cons_append]; exact List.Sublist.refl _) | simp [p5, v5, e2.2]) ?_
    exact rq_mono (rq_v (rv_build (cs := #[.int .i64 (((2 * (((1 + (1 + xhR4)) + xhR8) + (i : Int))) - 1) - xhR16), .int .i64 xhR19]) rfl rfl (by kernel_rfl))) (fun _ _ h => ⟨h.1.trans (by show _ = (.agg #[.int .i64 (((2 * (((1 + (1 + xhR4)) + xhR8) + (i : Int))) - 1) - xhR16), .int .i64 (intOf_o (vf 5))] : Value); first | (rw [v5]; done) | (rw [v5]; rfl)), h.2⟩)
   ·
    intro vf pf hmu hR
    have e5 : (∃ pm_, (pf 5) = [pm_] ∧ (fun u_ p_ => (∃ x_ : Int, u_ = .int .i64 x_ ∧ 0 ≤ x_ ∧ x_ < 2 * (((1 + (1 + xhR4)) + xhR8) + (i : Int))) ∧ p_ = curE g a len cap) (vf 5) pm_) := hR 5 (by decide)
    obtain ⟨p18, p5, hR19⟩ := e5
    obtain ⟨v17, v5⟩ : ∃ x, vf 5 = x := ⟨_, rfl⟩
    rw [v5] at hR19
    obtain ⟨⟨xhR19, rfl, xhR190, xhR191⟩, rfl⟩ := hR19
    have e6 : (vf 6) = .agg #[.int .i64 (((2 * (((1 + (1 + xhR4)) + xhR8) + (i : Int))) - 1) - xhR16), .int .i64 (intOf_o (vf 5))] ∧ (pf 6) = [] := hR 6 (by decide)
    rw [v5] at e6
    refine Or.inl ⟨rfl, ?_⟩
    show RunQ _ _ _ (([5, 6] : List Nat).flatMap pf ++ _) (envOf _ vf [5, 6] ++ _) _ _
    refine rq_less (l' := (curE g a len cap :: bigE ([] : List HP) :: rowE 83 3 (.slice none 0 0) 0 ([]) :: rowE 80 2 u gs.length (gs.flatMap anC) :: rowE 3 1 (.slice none 0 0) 0 ([]) :: boxE b5 #[.int .i64 (1 + xhR4), .slice none 0 0, u, .slice none 0 0] 28 :: boxE b1 #[.int .i64 0, .slice none 0 0, .slice none 0 0, .slice none 0 0] 28 :: l)) (sx 60 (congrArg some e6.1) (sub_nil _)) (by first | (simp only [p5, v5, e6.2, List.flatMap_cons, List.flatMap_nil, List.append_nil, List.nil_append, List.cons_append]; exact List.Sublist.refl _) | simp [p5, v5, e6.2]) ?_
    exact rq_mono (rq_buildSlice (z := .agg #[.int .i64 0, .int .i64 0]) (s := 2) (cs := ([((2 * (((1 + (1 + xhR4)) + xhR8) + (i : Int))) - 1) - xhR16, xhR19].map (Value.int .i64))) rfl Try.underlying25 (by kernel_rfl) (by decide) rfl (by kernel_rfl) rfl) (fun v_ p_ h => by show IsRow_o 80 2 1 ([((2 * (((1 + (1 + xhR4)) + xhR8) + (i : Int))) - 1) - xhR16, (intOf_o (vf 5))].map (Value.int .i64)) v_ p_; rw [v5]; exact h)
  ·
   intro vf pf hmu hR
   have e1 : (vf 1) = u ∧ (pf 1) = [] := hR 1 (by decide)
   have e5 : (∃ pm_, (pf 5) = [pm_] ∧ (fun u_ p_ => (∃ x_ : Int, u_ = .int .i64 x_ ∧ 0 ≤ x_ ∧ x_ < 2 * (((1 + (1 + xhR4)) + xhR8) + (i : Int))) ∧ p_ = curE g a len cap) (vf 5) pm_) := hR 5 (by decide)
   obtain ⟨p18, p5, hR19⟩ := e5
   obtain ⟨v17, v5⟩ : ∃ x, vf 5 = x := ⟨_, rfl⟩
   rw [v5] at hR19
   obtain ⟨⟨xhR19, rfl, xhR190, xhR191⟩, rfl⟩ := hR19
   have e7 : IsRow_o 80 2 1 ([((2 * (((1 + (1 + xhR4)) + xhR8) + (i : Int))) - 1) - xhR16, (intOf_o (vf 5))].map (Value.int .i64)) (vf 7) (pf 7) := hR 7 (by decide)
   rw [v5] at e7
   obtain ⟨g20, v7, p7⟩ := e7
   have q0 : (vf 0) = .pointer (some ⟨b5, 0 + 2, none⟩) ∧ (pf 0) = [] := hR 0 (by decide)
   have q1 : (vf 1) = u ∧ (pf 1) = [] := hR 1 (by decide)
   have q2 : (vf 2) = .int .i64 (((2 * (((1 + (1 + xhR4)) + xhR8) + (i : Int))) - 1) - xhR16) ∧ (pf 2) = [] := hR 2 (by decide)
   have q3 : (vf 3) = .pointer (some ⟨g, 0, none⟩) ∧ (pf 3) = [] := hR 3 (by decide)
   have q4 : (vf 4) = .int .i64 (2 * (((1 + (1 + xhR4)) + xhR8) + (i : Int))) ∧ (pf 4) = [] := hR 4 (by decide)
   have q6 : (vf 6) = .agg #[.int .i64 (((2 * (((1 + (1 + xhR4)) + xhR8) + (i : Int))) - 1) - xhR16), .int .i64 (intOf_o (vf 5))] ∧ (pf 6) = [] := hR 6 (by decide)
   refine hl_less (l' := (curE g a len cap :: rowE 80 2 (.slice (some ⟨g20, 0, none⟩) 1 1) 1 ([((2 * (((1 + (1 + xhR4)) + xhR8) + (i : Int))) - 1) - xhR16, xhR19].map (Value.int .i64)) :: bigE ([] : List HP) :: rowE 83 3 (.slice none 0 0) 0 ([]) :: rowE 80 2 u gs.length (gs.flatMap anC) :: rowE 3 1 (.slice none 0 0) 0 ([]) :: boxE b5 #[.int .i64 (1 + xhR4), .slice none 0 0, u, .slice none 0 0] 28 :: boxE b1 #[.int .i64 0, .slice none 0 0, .slice none 0 0, .slice none 0 0] 28 :: l)) (sx 0 rfl (sx 1 rfl (sx 2 rfl (sx 3 rfl (sx 8 rfl (sx 9 rfl (sx 10 rfl (sx 11 rfl (sx 12 rfl (sx 13 rfl (sx 14 rfl (sx 15 rfl (sx 39 rfl (sx 55 (congrArg some e1.1) (sx 61 (congrArg some v7) (sub_nil _)))))))))))))))) (by first | (simp only [p5, v5, p7, v7, q0.2, q1.2, q2.2, q3.2, q4.2, q6.2, List.flatMap_cons, List.flatMap_nil, List.append_nil, List.nil_append, List.cons_append]; exact List.Sublist.refl _) | simp [p5, v5, p7, v7, q0.2, q1.2, q2.2, q3.2, q4.2, q6.2]) ?_
   simp only [List.drop_succ_cons, List.drop_zero]
   refine hl_append (i := 4) (z := .agg #[.int .i64 0, .int .i64 0]) (bytes := 16) (n' := (gs ++ [(An.mk (((2 * (((1 + (1 + xhR4)) + xhR8) + (i : Int))) - 1) - xhR16) xhR19)]).length) (xs' := ((gs ++ [(An.mk (((2 * (((1 + (1 + xhR4)) + xhR8) + (i : Int))) - 1) - xhR16) xhR19)]).flatMap anC)) (L := fun v21 => (curE g a len cap :: rowE 80 2 (.slice (some ⟨g20, 0, none⟩) 1 1) 1 ([((2 * (((1 + (1 + xhR4)) + xhR8) + (i : Int))) - 1) - xhR16, xhR19].map (Value.int .i64)) :: bigE ([] : List HP) :: rowE 83 3 (.slice none 0 0) 0 ([]) :: rowE 80 2 v21 ((gs ++ [(An.mk (((2 * (((1 + (1 + xhR4)) + xhR8) + (i : Int))) - 1) - xhR16) xhR19)]).length) ((gs ++ [(An.mk (((2 * (((1 + (1 + xhR4)) + xhR8) + (i : Int))) - 1) - xhR16) xhR19)]).flatMap anC) :: rowE 3 1 (.slice none 0 0) 0 ([]) :: boxE b5 #[.int .i64 (1 + xhR4), .slice none 0 0, u, .slice none 0 0] 28 :: boxE b1 #[.int .i64 0, .slice none 0 0, .slice none 0 0, .slice none 0 0] 28 :: l)) rfl rfl rfl rfl Try.underlying25 (by kernel_rfl) (by kernel_rfl) rfl rfl rfl (rd_row 1 rfl) (ints_one _) (by first | omega | (simp only [List.length_append, List.length_cons, List.length_nil]; omega)) (len_app gs [(An.mk (((2 * (((1 + (1 + xhR4)) + xhR8) + (i : Int))) - 1) - xhR16) xhR19)]) (flat_app1 anC gs (An.mk (((2 * (((1 + (1 + xhR4)) + xhR8) + (i : Int))) - 1) - xhR16) xhR19) _ rfl) (fun _ => rfl) ?_
   intro v21
   refine hl_v rfl rfl rfl (rv_field (k0 := 2) rfl (by kernel_rfl) rfl) ?_
   refine hl_one (i := 4) rfl (fun ho22 => ?_)
   refine hl_storeBox (i := 6) (l' := (curE g a len cap :: rowE 80 2 (.slice (some ⟨g20, 0, none⟩) 1 1) 1 ([((2 * (((1 + (1 + xhR4)) + xhR8) + (i : Int))) - 1) - xhR16, xhR19].map (Value.int .i64)) :: bigE ([] : List HP) :: rowE 83 3 (.slice none 0 0) 0 ([]) :: rowE 80 2 v21 ((gs ++ [(An.mk (((2 * (((1 + (1 + xhR4)) + xhR8) + (i : Int))) - 1) - xhR16) xhR19)]).length) ((gs ++ [(An.mk (((2 * (((1 + (1 + xhR4)) + xhR8) + (i : Int))) - 1) - xhR16) xhR19)]).flatMap anC) :: rowE 3 1 (.slice none 0 0) 0 ([]) :: boxE b5 #[.int .i64 (1 + xhR4), .slice none 0 0, v21, .slice none 0 0] 28 :: boxE b1 #[.int .i64 0, .slice none 0 0, .slice none 0 0, .slice none 0 0] 28 :: l)) rfl rfl rfl (by kernel_rfl) rfl rfl ho22 rfl rfl rfl ?_
   refine hl_less (sx 0 rfl (sx 1 rfl (sx 2 rfl (sx 3 rfl (sx 8 rfl (sx 9 rfl (sx 10 rfl (sx 11 rfl (sx 12 rfl (sx 13 rfl (sx 14 rfl (sx 15 rfl (sx 39 rfl (sub_nil _)))))))))))))) (.refl _) ?_
   refine hl_nil ?_
   refine hq_block_normal ?_
   refine hq_then ?_
   refine hc_region ?_
   refine hl_v rfl rfl rfl (rv_ev rfl) ?_
   refine hl_v rfl rfl rfl (rv_add rfl rfl rfl (by constructor <;> omega)) ?_
   refine hl_v rfl rfl rfl (rv_ev rfl) ?_
   refine hl_less (sx 0 rfl (sx 1 rfl (sx 2 rfl (sx 3 rfl (sx 8 rfl (sx 9 rfl (sx 10 rfl (sx 11 rfl (sx 12 rfl (sx 13 rfl (sx 14 rfl (sx 15 rfl (sx 39 rfl (sub_nil _)))))))))))))) (.refl _) ?_
   refine hl_nil ?_
   refine hq_conv (bigE ([] : List HP) :: rowE 83 3 (.slice none 0 0) 0 ([]) :: rowE 80 2 v21 ((gs ++ [(An.mk (((2 * (((1 + (1 + xhR4)) + xhR8) + (i : Int))) - 1) - xhR16) xhR19)]).length) ((gs ++ [(An.mk (((2 * (((1 + (1 + xhR4)) + xhR8) + (i : Int))) - 1) - xhR16) xhR19)]).flatMap anC) :: rowE 3 1 (.slice none 0 0) 0 ([]) :: boxE b5 #[.int .i64 (1 + xhR4), .slice none 0 0, v21, .slice none 0 0] 28 :: boxE b1 #[.int .i64 0, .slice none 0 0, .slice none 0 0, .slice none 0 0] 28 :: curE g a len cap :: l) (conv_pick (src := [curE g a len cap, rowE 80 2 (.slice (some ⟨g20, 0, none⟩) 1 1) 1 ([((2 * (((1 + (1 + xhR4)) + xhR8) + (i : Int))) - 1) - xhR16, xhR19].map (Value.int .i64)), bigE ([] : List HP), rowE 83 3 (.slice none 0 0) 0 ([]), rowE 80 2 v21 ((gs ++ [(An.mk (((2 * (((1 + (1 + xhR4)) + xhR8) + (i : Int))) - 1) - xhR16) xhR19)]).length) ((gs ++ [(An.mk (((2 * (((1 + (1 + xhR4)) + xhR8) + (i : Int))) - 1) - xhR16) xhR19)]).flatMap anC), rowE 3 1 (.slice none 0 0) 0 ([]), boxE b5 #[.int .i64 (1 + xhR4), .slice none 0 0, v21, .slice none 0 0] 28, boxE b1 #[.int .i64 0, .slice none 0 0, .slice none 0 0, .slice none 0 0] 28]) (dst := [bigE ([] : List HP), rowE 83 3 (.slice none 0 0) 0 ([]), rowE 80 2 v21 ((gs ++ [(An.mk (((2 * (((1 + (1 + xhR4)) + xhR8) + (i : Int))) - 1) - xhR16) xhR19)]).length) ((gs ++ [(An.mk (((2 * (((1 + (1 + xhR4)) + xhR8) + (i : Int))) - 1) - xhR16) xhR19)]).flatMap anC), rowE 3 1 (.slice none 0 0) 0 ([]), boxE b5 #[.int .i64 (1 + xhR4), .slice none 0 0, v21, .slice none 0 0] 28, boxE b1 #[.int .i64 0, .slice none 0 0, .slice none 0 0, .slice none 0 0] 28, curE g a len cap]) (l := l) [2, 3, 4, 5, 6, 7, 0] (by decide) rfl) ?_
   exact hq_round3 (i + 1) v21 (gs ++ [(An.mk (((2 * (((1 + (1 + xhR4)) + xhR8) + (i : Int))) - 1) - xhR16) xhR19)]) ⟨by omega, by simp; omega, ans_app hgo (by unfold LtOk; omega) (by unfold LtOk; omega)⟩ (by omega) (sx 0 rfl (sx 1 rfl (sx 2 rfl (sx 3 rfl (sx 8 rfl (sx 9 rfl (sx 10 rfl (sx 11 rfl (sx 12 rfl (sx 13 rfl (sub_nil _))))))))))) ((.cons_cons _ (.cons_cons _ (.cons_cons _ (.cons_cons _ (.cons_cons _ (.cons_cons _ (.cons_cons _ (.refl _)))))))))
 ·
  refine hl_less (sx 0 rfl (sx 1 rfl (sx 2 rfl (sx 3 rfl (sx 8 rfl (sx 9 rfl (sx 10 rfl (sx 11 rfl (sx 12 rfl (sx 13 rfl (sx 39 rfl (sub_nil _)))))))))))) (.refl _) ?_
  refine hl_nil ?_
  refine hq_then ?_
  refine hc_false rfl ?_
  refine hc_exit ?_
  refine hq_then_exit ?_
  refine hq_then_exit ?_
  refine hq_block_exit ?_
  refine hq_then ?_
  refine hc_seq ?_
  refine hc_region ?_
  refine hl_v rfl rfl rfl (rv_ev rfl) ?_
  refine hl_v rfl rfl rfl (rv_ev rfl) ?_
  refine hl_v rfl rfl rfl (rv_add rfl rfl rfl (by constructor <;> omega)) ?_
  refine hl_v rfl rfl rfl (rv_mul rfl rfl rfl (by constructor <;> omega)) ?_
  refine hl_v rfl rfl rfl (rv_ev rfl) ?_
  refine hl_less (sx 0 rfl (sx 1 rfl (sx 2 rfl (sx 3 rfl (sx 8 rfl (sx 9 rfl (sx 10 rfl (sx 11 rfl (sx 12 rfl (sx 13 rfl (sx 16 rfl (sx 39 rfl (sub_nil _))))))))))))) (.refl _) ?_
  refine hl_nil ?_
  refine hq_then ?_
  refine hc_seq ?_
  refine hc_seq ?_
  refine hc_region ?_
  refine hl_v rfl rfl rfl (rv_ev rfl) ?_
  refine hl_less (sx 0 rfl (sx 1 rfl (sx 2 rfl (sx 3 rfl (sx 8 rfl (sx 9 rfl (sx 10 rfl (sx 11 rfl (sx 12 rfl (sx 13 rfl (sx 16 rfl (sx 17 rfl (sx 39 rfl (sub_nil _)))))))))))))) (.refl _) ?_
  refine hl_nil ?_
  refine hq_then ?_
  refine hc_block ?_
  refine hc_loop3 (α := Nat) (β := Value) (γ := List Sq) (fun i uq ss => (bigE (ss.map sqPart) :: rowE 83 3 uq ss.length (ss.flatMap sqC) :: rowE 80 2 u gs.length (gs.flatMap anC) :: rowE 3 1 (.slice none 0 0) 0 ([]) :: boxE b5 #[.int .i64 (1 + xhR4), uq, u, .slice none 0 0] 28 :: boxE b1 #[.int .i64 0, .slice none 0 0, .slice none 0 0, .slice none 0 0] 28 :: curE g a len cap :: l)) (fun i uq ss => [(0, .pointer (some ⟨g, 0, none⟩)), (1, .int .i64 q1), (2, .int .i64 q2), (3, .int .i64 q3), (8, .pointer (some ⟨b1, 0, none⟩)), (9, .pointer (some ⟨b5, 0, none⟩)), (10, .int .i64 xhR8), (11, .int .i64 xhR11), (12, .int .i64 ((1 + (1 + xhR4)) + xhR8)), (16, .int .i64 (2 * (((1 + (1 + xhR4)) + xhR8) + xhR11))), (17, .int .i64 (i : Int)), (39, .bool false)]) (fun i uq ss => (i : Int) ≤ xhR8 ∧ ss.length = i ∧ SqsOk (((1 + (1 + xhR4)) + xhR8) + xhR11) ss) (fun i uq ss => (xhR8).toNat - i) 0 _ [] ⟨by omega, rfl, fun k hk => absurd hk (by simp)⟩ (sx 0 rfl (sx 1 rfl (sx 2 rfl (sx 3 rfl (sx 8 rfl (sx 9 rfl (sx 10 rfl (sx 11 rfl (sx 12 rfl (sx 16 rfl (sx 17 rfl (sx 39 rfl (sub_nil _))))))))))))) ((.cons_cons _ (.cons_cons _ (.cons_cons _ (.cons_cons _ (.cons_cons _ (.cons_cons _ (.cons_cons _ (.refl _))))))))) ?_
  intro i uq ss hi23
  obtain ⟨hi2, hsl, hso⟩ := hi23
  refine hc_seq ?_
  refine hc_seq ?_
  refine hc_region ?_
  refine hl_v rfl rfl rfl (rv_ev rfl) ?_
  refine hl_v rfl rfl rfl (rv_ev rfl) ?_
  refine hl_lss rfl rfl rfl rfl rfl rfl (fun h24 => ?_) (fun h24 => ?_)
  ·
   refine hl_less (sx 0 rfl (sx 1 rfl (sx 2 rfl (sx 3 rfl (sx 8 rfl (sx 9 rfl (sx 10 rfl (sx 11 rfl (sx 12 rfl (sx 16 rfl (sx 17 rfl (sx 39 rfl (sx 70 rfl (sub_nil _)))))))))))))) (.refl _) ?_
   refine hl_nil ?_
   refine hq_then ?_
   refine hc_true rfl ?_
   refine hc_skip ?_
   refine hq_then ?_
   refine hc_seq ?_
   refine hc_block ?_
   refine hc_seq ?_
   refine hc_region ?_
   refine hl_v rfl rfl rfl (rv_ev rfl) ?_
   refine hl_callM (R := (fun u_ p_ => (∃ b : Bool, u_ = .bool b) ∧ p_ = curE g a len cap)) 6 rfl rfl (by kernel_rfl) rfl rfl (fun l' w hm => once_mut hm hb (6) (by omega) (by omega)) ?_
   intro v25 p26 hR27
   obtain ⟨⟨xhR27, rfl⟩, rfl⟩ := hR27
   refine hl_eqL (l' := (bigE (ss.map sqPart) :: rowE 83 3 uq ss.length (ss.flatMap sqC) :: rowE 80 2 u gs.length (gs.flatMap anC) :: rowE 3 1 (.slice none 0 0) 0 ([]) :: boxE b5 #[.int .i64 (1 + xhR4), uq, u, .slice none 0 0] 28 :: boxE b1 #[.int .i64 0, .slice none 0 0, .slice none 0 0, .slice none 0 0] 28 :: curE g a len cap :: l)) rfl ?_
   refine hl_bool (fun h28 => ?_) (fun h28 => ?_)
   ·
    refine hl_less (sx 0 rfl (sx 1 rfl (sx 2 rfl (sx 3 rfl (sx 8 rfl (sx 9 rfl (sx 10 rfl (sx 11 rfl (sx 12 rfl (sx 16 rfl (sx 17 rfl (sx 39 rfl (sx 70 rfl (sx 74 rfl (sub_nil _))))))))))))))) (.refl _) ?_
    refine hl_nil ?_
    refine hq_then ?_
    refine hc_true rfl ?_
    refine hc_conv (curE g a len cap :: bigE (ss.map sqPart) :: rowE 83 3 uq ss.length (ss.flatMap sqC) :: rowE 80 2 u gs.length (gs.flatMap anC) :: rowE 3 1 (.slice none 0 0) 0 ([]) :: boxE b5 #[.int .i64 (1 + xhR4), uq, u, .slice none 0 0] 28 :: boxE b1 #[.int .i64 0, .slice none 0 0, .slice none 0 0, .slice none 0 0] 28 :: l) (conv_pick (src := [bigE (ss.map sqPart), rowE 83 3 uq ss.length (ss.flatMap sqC), rowE 80 2 u gs.length (gs.flatMap anC), rowE 3 1 (.slice none 0 0) 0 ([]), boxE b5 #[.int .i64 (1 + xhR4), uq, u, .slice none 0 0] 28, boxE b1 #[.int .i64 0, .slice none 0 0, .slice none 0 0, .slice none 0 0] 28, curE g a len cap]) (dst := [curE g a len cap, bigE (ss.map sqPart), rowE 83 3 uq ss.length (ss.flatMap sqC), rowE 80 2 u gs.length (gs.flatMap anC), rowE 3 1 (.slice none 0 0) 0 ([]), boxE b5 #[.int .i64 (1 + xhR4), uq, u, .slice none 0 0] 28, boxE b1 #[.int .i64 0, .slice none 0 0, .slice none 0 0, .slice none 0 0] 28]) (l := l) [6, 0, 1, 2, 3, 4, 5] (by decide) rfl) ?_
    refine hc_draw2 (l := (bigE (ss.map sqPart) :: rowE 83 3 uq ss.length (ss.flatMap sqC) :: rowE 80 2 u gs.length (gs.flatMap anC) :: rowE 3 1 (.slice none 0 0) 0 ([]) :: boxE b5 #[.int .i64 (1 + xhR4), uq, u, .slice none 0 0] 28 :: boxE b1 #[.int .i64 0, .slice none 0 0, .slice none 0 0, .slice none 0 0] 28 :: l)) (by kernel_rfl) 19 [0, 1, 2, 3, 4, 5, 6, 7, 8, 9, 10, 11, 12, 13, 14, 15, 16, 17, 18] (List.take 19 _) (List.drop 19 _) [[], [0], [], [2], [], [], [3, 4, 5], [], [], [6, 7, 8], [], [], [9, 10, 11], [], [], [12, 13, 14], [6, 9, 12, 15], [3, 6, 9, 12, 15, 16], [3, 6, 9, 12, 15, 16, 17]] [75, 76, 77, 78, 79, 80, 81, 82, 83, 84, 85, 86, 87, 88, 89, 90, 91, 92, 93] (fun i_ vs_ v_ p_ => match i_ with | 0 => v_ = .pointer (some ⟨b5, 0 + 1, none⟩) ∧ p_ = [] | 1 => v_ = uq ∧ p_ = [] | 2 => v_ = .pointer (some ⟨g, 0, none⟩) ∧ p_ = [] | 3 => (∃ pm_, p_ = [pm_] ∧ (fun u_ p_ => (∃ x_ : Int, u_ = .int .i64 x_ ∧ 0 ≤ x_ ∧ x_ < 32) ∧ p_ = curE g a len cap) v_ pm_) | 4 => v_ = .pointer (some ⟨g, 0, none⟩) ∧ p_ = [] | 5 => v_ = .int .i64 (2 * (((1 + (1 + xhR4)) + xhR8) + xhR11)) ∧ p_ = [] | 6 => (∃ pm_, p_ = [pm_] ∧ (fun u_ p_ => (∃ x_ : Int, u_ = .int .i64 x_ ∧ 0 ≤ x_ ∧ x_ < 2 * (((1 + (1 + xhR4)) + xhR8) + xhR11)) ∧ p_ = curE g a len cap) v_ pm_) | 7 => v_ = .pointer (some ⟨g, 0, none⟩) ∧ p_ = [] | 8 => v_ = .int .i64 (2 * (((1 + (1 + xhR4)) + xhR8) + xhR11)) ∧ p_ = [] | 9 => (∃ pm_, p_ = [pm_] ∧ (fun u_ p_ => (∃ x_ : Int, u_ = .int .i64 x_ ∧ 0 ≤ x_ ∧ x_ < 2 * (((1 + (1 + xhR4)) + xhR8) + xhR11)) ∧ p_ = curE g a len cap) v_ pm_) | 10 => v_ = .pointer (some ⟨g, 0, none⟩) ∧ p_ = [] | 11 => v_ = .int .i64 (2 * (((1 + (1 + xhR4)) + xhR8) + xhR11)) ∧ p_ = [] | 12 => (∃ pm_, p_ = [pm_] ∧ (fun u_ p_ => (∃ x_ : Int, u_ = .int .i64 x_ ∧ 0 ≤ x_ ∧ x_ < 2 * (((1 + (1 + xhR4)) + xhR8) + xhR11)) ∧ p_ = curE g a len cap) v_ pm_) | 13 => v_ = .pointer (some ⟨g, 0, none⟩) ∧ p_ = [] | 14 => v_ = .int .i64 (2 * (((1 + (1 + xhR4)) + xhR8) + xhR11)) ∧ p_ = [] | 15 => (∃ pm_, p_ = [pm_] ∧ (fun u_ p_ => (∃ x_ : Int, u_ = .int .i64 x_ ∧ 0 ≤ x_ ∧ x_ < 2 * (((1 + (1 + xhR4)) + xhR8) + xhR11)) ∧ p_ = curE g a len cap) v_ pm_) | 16 => IsRow_o 3 1 4 ([(intOf_o (List.getD vs_ 0 undef)), (intOf_o (List.getD vs_ 1 undef)), (intOf_o (List.getD vs_ 2 undef)), (intOf_o (List.getD vs_ 3 undef))].map (Value.int .i64)) v_ p_ | 17 => v_ = .agg #[.int .i64 1, .int .i64 (intOf_o (List.getD vs_ 0 undef)), (List.getD vs_ 5 undef)] ∧ p_ = [] | 18 => IsRow_o 83 3 1 ([.int .i64 1, .int .i64 (intOf_o (List.getD vs_ 0 undef)), (List.getD vs_ 5 undef)]) v_ p_ | _ => True) [[], [0], [], [2], [], [], [4, 5], [], [], [7, 8], [], [], [10, 11], [], [], [13, 14], [15], [15, 16], [15, 16, 17]] [none, none, none, some 22, none, none, some 3, none, none, some 6, none, none, some 9, none, none, some 12, none, none, none] [curE g a len cap] [0, 1, 2, 4, 5, 7, 8, 10, 11, 13, 14, 15, 16, 17, 18] 22 (List.take_append_drop 19 _).symm (by kernel_rfl) (by kernel_rfl) (by kernel_rfl) rfl rfl ?_ ?_
    ·
     refine ⟨?_, ?_, ?_, ?_, ?_, ?_, ?_, ?_, ?_, ?_, ?_, ?_, ?_, ?_, ?_, ?_, ?_, ?_, ?_, trivial⟩
     ·
      intro vf pf hmu hR
      refine Or.inl ⟨rfl, ?_⟩
      show RunQ _ _ _ (([] : List Nat).flatMap pf ++ _) (envOf _ vf [] ++ _) _ _
      refine rq_less (sx 9 rfl (sub_nil _)) (List.sublist_append_right _ _) ?_
      exact rq_v (rv_field (k0 := 1) rfl (by kernel_rfl) rfl)
     ·
      intro vf pf hmu hR
      have e0 : (vf 0) = .pointer (some ⟨b5, 0 + 1, none⟩) ∧ (pf 0) = [] := hR 0 (by decide)
      refine Or.inl ⟨rfl, ?_⟩
      show RunQ _ _ _ (([0] : List Nat).flatMap pf ++ _) (envOf _ vf [0] ++ _) _ _
      refine rq_less (sx 75 (congrArg some e0.1) (sub_nil _)) (List.sublist_append_right _ _) ?_
      exact rq_v (rv_load rfl (by kernel_rfl) rfl (box_cell 4 rfl rfl))
     ·
      intro vf pf hmu hR
      refine Or.inl ⟨rfl, ?_⟩
      show RunQ _ _ _ (([] : List Nat).flatMap pf ++ _) (envOf _ vf [] ++ _) _ _
      refine rq_less (sx 0 rfl (sub_nil _)) (List.sublist_append_right _ _) ?_
      exact rq_v (rv_ev rfl)
     ·
      intro vf pf hmu hR
      have e2 : (vf 2) = .pointer (some ⟨g, 0, none⟩) ∧ (pf 2) = [] := hR 2 (by decide)
      refine Or.inl ⟨rfl, ?_⟩
      show RunM _ _ _ (pf 22) (([2] : List Nat).flatMap pf ++ _) (envOf _ vf [2] ++ _) _ _
      rw [hmu]
      refine rm_less (X' := (bigE (ss.map sqPart) :: rowE 83 3 uq ss.length (ss.flatMap sqC) :: rowE 80 2 u gs.length (gs.flatMap anC) :: rowE 3 1 (.slice none 0 0) 0 ([]) :: boxE b5 #[.int .i64 (1 + xhR4), uq, u, .slice none 0 0] 28 :: boxE b1 #[.int .i64 0, .slice none 0 0, .slice none 0 0, .slice none 0 0] 28 :: l)) (sx 77 (congrArg some e2.1) (sub_nil _)) (by first | (simp only [e2.2, List.flatMap_cons, List.flatMap_nil, List.append_nil, List.nil_append, List.cons_append]; exact List.Sublist.refl _) | simp [e2.2]) ?_
      exact rq_callM (R := (fun u_ p_ => (∃ x_ : Int, u_ = .int .i64 x_ ∧ 0 ≤ x_ ∧ x_ < 32) ∧ p_ = curE g a len cap)) (by kernel_rfl) rfl (fun L w hX hm => belowN_mut g a len cap z 32 _ _ _ hm hb (by constructor <;> omega))
     ·
      intro vf pf hmu hR
      refine Or.inl ⟨rfl, ?_⟩
      show RunQ _ _ _ (([] : List Nat).flatMap pf ++ _) (envOf _ vf [] ++ _) _ _
      refine rq_less (sx 0 rfl (sub_nil _)) (List.sublist_append_right _ _) ?_
      exact rq_v (rv_ev rfl)
     ·
      intro vf pf hmu hR
      refine Or.inl ⟨rfl, ?_⟩
      show RunQ _ _ _ (([] : List Nat).flatMap pf ++ _) (envOf _ vf [] ++ _) _ _
      refine rq_less (sx 16 rfl (sub_nil _)) (List.sublist_append_right _ _) ?_
      exact rq_v (rv_ev rfl)
     ·
      intro vf pf hmu hR
      have e3 : (∃ pm_, (pf 3) = [pm_] ∧ (fun u_ p_ => (∃ x_ : Int, u_ = .int .i64 x_ ∧ 0 ≤ x_ ∧ x_ < 32) ∧ p_ = curE g a len cap) (vf 3) pm_) := hR 3 (by decide)
      obtain ⟨p30, p3, hR31⟩ := e3
      obtain ⟨v29, v3⟩ : ∃ x, vf 3 = x := ⟨_, rfl⟩
      rw [v3] at hR31
      obtain ⟨⟨xhR31, rfl, xhR310, xhR311⟩, rfl⟩ := hR31
      have e4 : (vf 4) = .pointer (some ⟨g, 0, none⟩) ∧ (pf 4) = [] := hR 4 (by decide)
      have e5 : (vf 5) = .int .i64 (2 * (((1 + (1 + xhR4)) + xhR8) + xhR11)) ∧ (pf 5) = [] := hR 5 (by decide)
      refine Or.inl ⟨rfl, ?_⟩
      show RunM _ _ _ (pf 3) (([4, 5] : List Nat).flatMap pf ++ _) (envOf _ vf [3, 4, 5] ++ _) _ _
      rw [p3]
      refine rm_less (X' := (bigE (ss.map sqPart) :: rowE 83 3 uq ss.length (ss.flatMap sqC) :: rowE 80 2 u gs.length (gs.flatMap anC) :: rowE 3 1 (.slice none 0 0) 0 ([]) :: boxE b5 #[.int .i64 (1 + xhR4), uq, u, .slice none 0 0] 28 :: boxE b1 #[.int .i64 0, .slice none 0 0, .slice none 0 0, .slice none 0 0] 28 :: l)) (sx 79 (congrArg some e4.1) (sx 80 (congrArg some e5.1) (sub_nil _))) (by first | (simp only [e4.2, e5.2, List.flatMap_cons, List.flatMap_nil, List.append_nil, List.nil_append, List.cons_append]; exact List.Sublist.refl _) | simp [e4.2, e5.2]) ?_
      exact rq_callM (R := (fun u_ p_ => (∃ x_ : Int, u_ = .int .i64 x_ ∧ 0 ≤ x_ ∧ x_ < 2 * (((1 + (1 + xhR4)) + xhR8) + xhR11)) ∧ p_ = curE g a len cap)) (by kernel_rfl) rfl (fun L w hX hm => belowN_mut g a len cap z (2 * (((1 + (1 + xhR4)) + xhR8) + xhR11)) _ _ _ hm hb (by constructor <;> omega))
     ·
      intro vf pf hmu hR
      refine Or.inl ⟨rfl, ?_⟩
      show RunQ _ _ _ (([] : List Nat).flatMap pf ++ _) (envOf _ vf [] ++ _) _ _
      refine rq_less (sx 0 rfl (sub_nil _)) (List.sublist_append_right _ _) ?_
      exact rq_v (rv_ev rfl)
     ·
      intro vf pf hmu hR
      refine Or.inl ⟨rfl, ?_⟩
      show RunQ _ _ _ (([] : List Nat).flatMap pf ++ _) (envOf _ vf [] ++ _) _ _
      refine rq_less (sx 16 rfl (sub_nil _)) (List.sublist_append_right _ _) ?_
      exact rq_v (rv_ev rfl)
     ·
      intro vf pf hmu hR
      have e6 : (∃ pm_, (pf 6) = [pm_] ∧ (fun u_ p_ => (∃ x_ : Int, u_ = .int .i64 x_ ∧ 0 ≤ x_ ∧ x_ < 2 * (((1 + (1 + xhR4)) + xhR8) + xhR11)) ∧ p_ = curE g a len cap) (vf 6) pm_) := hR 6 (by decide)
      obtain ⟨p33, p6, hR34⟩ := e6
      obtain ⟨v32, v6⟩ : ∃ x, vf 6 = x := ⟨_, rfl⟩
      rw [v6] at hR34
      obtain ⟨⟨xhR34, rfl, xhR340, xhR341⟩, rfl⟩ := hR34
      have e7 : (vf 7) = .pointer (some ⟨g, 0, none⟩) ∧ (pf 7) = [] := hR 7 (by decide)
      have e8 : (vf 8) = .int .i64 (2 * (((1 + (1 + xhR4)) + xhR8) + xhR11)) ∧ (pf 8) = [] := hR 8 (by decide)
      refine Or.inl ⟨rfl, ?_⟩
      show RunM _ _ _ (pf 6) (([7, 8] : List Nat).flatMap pf ++ _) (envOf _ vf [6, 7, 8] ++ _) _ _
      rw [p6]
      refine rm_less (X' := (bigE (ss.map sqPart) :: rowE 83 3 uq ss.length (ss.flatMap sqC) :: rowE 80 2 u gs.length (gs.flatMap anC) :: rowE 3 1 (.slice none 0 0) 0 ([]) :: boxE b5 #[.int .i64 (1 + xhR4), uq, u, .slice none 0 0] 28 :: boxE b1 #[.int .i64 0, .slice none 0 0, .slice none 0 0, .slice none 0 0] 28 :: l)) (sx 82 (congrArg some e7.1) (sx 83 (congrArg some e8.1) (sub_nil _))) (by first | (simp only [e7.2, e8.2, List.flatMap_cons, List.flatMap_nil, List.append_nil, List.nil_append, List.cons_append]; exact List.Sublist.refl _) | simp [e7.2, e8.2]) ?_
      exact rq_callM (R := (fun u_ p_ => (∃ x_ : Int, u_ = .int .i64 x_ ∧ 0 ≤ x_ ∧ x_ < 2 * (((1 + (1 + xhR4)) + xhR8) + xhR11)) ∧ p_ = curE g a len cap)) (by kernel_rfl) rfl (fun L w hX hm => belowN_mut g a len cap z (2 * (((1 + (1 + xhR4)) + xhR8) + xhR11)) _ _ _ hm hb (by constructor <;> omega))
     ·
      intro vf pf hmu hR
      refine Or.inl ⟨rfl, ?_⟩
      show RunQ _ _ _ (([] : List Nat).flatMap pf ++ _) (envOf _ vf [] ++ _) _ _
      refine rq_less (sx 0 rfl (sub_nil _)) (List.sublist_append_right _ _) ?_
      exact rq_v (rv_ev rfl)
     ·
      intro vf pf hmu hR
      refine Or.inl ⟨rfl, ?_⟩
      show RunQ _ _ _ (([] : List Nat).flatMap pf ++ _) (envOf _ vf [] ++ _) _ _
      refine rq_less (sx 16 rfl (sub_nil _)) (List.sublist_append_right _ _) ?_
      exact rq_v (rv_ev rfl)
     ·
      intro vf pf hmu hR
      have e9 : (∃ pm_, (pf 9) = [pm_] ∧ (fun u_ p_ => (∃ x_ : Int, u_ = .int .i64 x_ ∧ 0 ≤ x_ ∧ x_ < 2 * (((1 + (1 + xhR4)) + xhR8) + xhR11)) ∧ p_ = curE g a len cap) (vf 9) pm_) := hR 9 (by decide)
      obtain ⟨p36, p9, hR37⟩ := e9
      obtain ⟨v35, v9⟩ : ∃ x, vf 9 = x := ⟨_, rfl⟩
      rw [v9] at hR37
      obtain ⟨⟨xhR37, rfl, xhR370, xhR371⟩, rfl⟩ := hR37
      have e10 : (vf 10) = .pointer (some ⟨g, 0, none⟩) ∧ (pf 10) = [] := hR 10 (by decide)
      have e11 : (vf 11) = .int .i64 (2 * (((1 + (1 + xhR4)) + xhR8) + xhR11)) ∧ (pf 11) = [] := hR 11 (by decide)
      refine Or.inl ⟨rfl, ?_⟩
      show RunM _ _ _ (pf 9) (([10, 11] : List Nat).flatMap pf ++ _) (envOf _ vf [9, 10, 11] ++ _) _ _
      rw [p9]
      refine rm_less (X' := (bigE (ss.map sqPart) :: rowE 83 3 uq ss.length (ss.flatMap sqC) :: rowE 80 2 u gs.length (gs.flatMap anC) :: rowE 3 1 (.slice none 0 0) 0 ([]) :: boxE b5 #[.int .i64 (1 + xhR4), uq, u, .slice none 0 0] 28 :: boxE b1 #[.int .i64 0, .slice none 0 0, .slice none 0 0, .slice none 0 0] 28 :: l)) (sx 85 (congrArg some e10.1) (sx 86 (congrArg some e11.1) (sub_nil _))) (by first | (simp only [e10.2, e11.2, List.flatMap_cons, List.flatMap_nil, List.append_nil, List.nil_append, List.cons_append]; exact List.Sublist.refl _) | simp [e10.2, e11.2]) ?_
      exact rq_callM (R := (fun u_ p_ => (∃ x_ : Int, u_ = .int .i64 x_ ∧ 0 ≤ x_ ∧ x_ < 2 * (((1 + (1 + xhR4)) + xhR8) + xhR11)) ∧ p_ = curE g a len cap)) (by kernel_rfl) rfl (fun L w hX hm => belowN_mut g a len cap z (2 * (((1 + (1 + xhR4)) + xhR8) + xhR11)) _ _ _ hm hb (by constructor <;> omega))
     ·
      intro vf pf hmu hR
      refine Or.inl ⟨rfl, ?_⟩
      show RunQ _ _ _ (([] : List Nat).flatMap pf ++ _) (envOf _ vf [] ++ _) _ _
      refine rq_less (sx 0 rfl (sub_nil _)) (List.sublist_append_right _ _) ?_
      exact rq_v (rv_ev rfl)
     ·
      intro vf pf hmu hR
      refine Or.inl ⟨rfl, ?_⟩
      show RunQ _ _ _ (([] : List Nat).flatMap pf ++ _) (envOf _ vf [] ++ _) _ _
      refine rq_less (sx 16 rfl (sub_nil _)) (List.sublist_append_right _ _) ?_
      exact rq_v (rv_ev rfl)
     ·
      intro vf pf hmu hR
      have e12 : (∃ pm_, (pf 12) = [pm_] ∧ (fun u_ p_ => (∃ x_ : Int, u_ = .int .i64 x_ ∧ 0 ≤ x_ ∧ x_ < 2 * (((1 + (1 + xhR4)) + xhR8) + xhR11)) ∧ p_ = curE g a len cap) (vf 12) pm_) := hR 12 (by decide)
      obtain ⟨p39, p12, hR40⟩ := e12
      obtain ⟨v38, v12⟩ : ∃ x, vf 12 = x := ⟨_, rfl⟩
      rw [v12] at hR40
      obtain ⟨⟨xhR40, rfl, xhR400, xhR401⟩, rfl⟩ := hR40
      have e13 : (vf 13) = .pointer (some ⟨g, 0, none⟩) ∧ (pf 13) = [] := hR 13 (by decide)
      have e14 : (vf 14) = .int .i64 (2 * (((1 + (1 + xhR4)) + xhR8) + xhR11)) ∧ (pf 14) = [] := hR 14 (by decide)
      refine Or.inl ⟨rfl, ?_⟩
      show RunM _ _ _ (pf 12) (([13, 14] : List Nat).flatMap pf ++ _) (envOf _ vf [12, 13, 14] ++ _) _ _
      rw [p12]
      refine rm_less (X' := (bigE (ss.map sqPart) :: rowE 83 3 uq ss.length (ss.flatMap sqC) :: rowE 80 2 u gs.length (gs.flatMap anC) :: rowE 3 1 (.slice none 0 0) 0 ([]) :: boxE b5 #[.int .i64 (1 + xhR4), uq, u, .slice none 0 0] 28 :: boxE b1 #[.int .i64 0, .slice none 0 0, .slice none 0 0, .slice none 0 0] 28 :: l)) (sx 88 (congrArg some e13.1) (sx 89 (congrArg some e14.1) (sub_nil _))) (by first | (simp only [e13.2, e14.2, List.flatMap_cons, List.flatMap_nil, List.append_nil, List.nil_append, List.cons_append]; exact List.Sublist.refl _) | simp [e13.2, e14.2]) ?_
      exact rq_callM (R := (fun u_ p_ => (∃ x_ : Int, u_ = .int .i64 x_ ∧ 0 ≤ x_ ∧ x_ < 2 * (((1 + (1 + xhR4)) + xhR8) + xhR11)) ∧ p_ = curE g a len cap)) (by kernel_rfl) rfl (fun L w hX hm => belowN_mut g a len cap z (2 * (((1 + (1 + xhR4)) + xhR8) + xhR11)) _ _ _ hm hb (by constructor <;> omega))
     ·
      intro vf pf hmu hR
      have e6 : (∃ pm_, (pf 6) = [pm_] ∧ (fun u_ p_ => (∃ x_ : Int, u_ = .int .i64 x_ ∧ 0 ≤ x_ ∧ x_ < 2 * (((1 + (1 + xhR4)) + xhR8) + xhR11)) ∧ p_ = curE g a len cap) (vf 6) pm_) := hR 6 (by decide)
      obtain ⟨p33, p6, hR34⟩ := e6
      obtain ⟨v32, v6⟩ : ∃ x, vf 6 = x := ⟨_, rfl⟩
      rw [v6] at hR34
      obtain ⟨⟨xhR34, rfl, xhR340, xhR341⟩, rfl⟩ := hR34
      have e9 : (∃ pm_, (pf 9) = [pm_] ∧ (fun u_ p_ => (∃ x_ : Int, u_ = .int .i64 x_ ∧ 0 ≤ x_ ∧ x_ < 2 * (((1 + (1 + xhR4)) + xhR8) + xhR11)) ∧ p_ = curE g a len cap) (vf 9) pm_) := hR 9 (by decide)
      obtain ⟨p36, p9, hR37⟩ := e9
      obtain ⟨v35, v9⟩ : ∃ x, vf 9 = x := ⟨_, rfl⟩
      rw [v9] at hR37
      obtain ⟨⟨xhR37, rfl, xhR370, xhR371⟩, rfl⟩ := hR37
      have e12 : (∃ pm_, (pf 12) = [pm_] ∧ (fun u_ p_ => (∃ x_ : Int, u_ = .int .i64 x_ ∧ 0 ≤ x_ ∧ x_ < 2 * (((1 + (1 + xhR4)) + xhR8) + xhR11)) ∧ p_ = curE g a len cap) (vf 12) pm_) := hR 12 (by decide)
      obtain ⟨p39, p12, hR40⟩ := e12
      obtain ⟨v38, v12⟩ : ∃ x, vf 12 = x := ⟨_, rfl⟩
      rw [v12] at hR40
      obtain ⟨⟨xhR40, rfl, xhR400, xhR401⟩, rfl⟩ := hR40
      have e15 : (∃ pm_, (pf 15) = [pm_] ∧ (fun u_ p_ => (∃ x_ : Int, u_ = .int .i64 x_ ∧ 0 ≤ x_ ∧ x_ < 2 * (((1 + (1 + xhR4)) + xhR8) + xhR11)) ∧ p_ = curE g a len cap) (vf 15) pm_) := hR 15 (by decide)
      obtain ⟨p42, p15, hR43⟩ := e15
      obtain ⟨v41, v15⟩ : ∃ x, vf 15 = x := ⟨_, rfl⟩
      rw [v15] at hR43
      obtain ⟨⟨xhR43, rfl, xhR430, xhR431⟩, rfl⟩ := hR43
      refine Or.inl ⟨rfl, ?_⟩
      show RunQ _ _ _ (([15] : List Nat).flatMap pf ++ _) (envOf _ vf [6, 9, 12, 15] ++ _) _ _
      refine rq_less (l' := (curE g a len cap :: bigE (ss.map sqPart) :: rowE 83 3 uq ss.length (ss.flatMap sqC) :: rowE 80 2 u gs.length (gs.flatMap anC) :: rowE 3 1 (.slice none 0 0) 0 ([]) :: boxE b5 #[.int .i64 (1 + xhR4), uq, u, .slice none 0 0] 28 :: boxE b1 #[.int .i64 0, .slice none 0 0, .slice none 0 0, .slice none 0 0] 28 :: l)) (sx 81 (congrArg some v6) (sx 84 (congrArg some v9) (sx 87 (congrArg some v12) (sx 90 (congrArg some v15) (sub_nil _))))) (by first | (simp only [p15, v15, List.flatMap_cons, List.flatMap_nil, List.append_nil, List.nil_append, List.cons_append]; exact List.Sublist.refl _) | simp [p15, v15]) ?_
      exact rq_mono (rq_buildSlice (z := .int .i64 0) (s := 1) (cs := ([xhR34, xhR37, xhR40, xhR43].map (Value.int .i64))) rfl Try.underlying26 (by kernel_rfl) (by decide) rfl (by kernel_rfl) rfl) (fun v_ p_ h => by show IsRow_o 3 1 4 ([(intOf_o (vf 6)), (intOf_o (vf 9)), (intOf_o (vf 12)), (intOf_o (vf 15))].map (Value.int .i64)) v_ p_; rw [v6, v9, v12, v15]; exact h)
     ·
      intro vf pf hmu hR
      have e3 : (∃ pm_, (pf 3) = [pm_] ∧ (fun u_ p_ => (∃ x_ : Int, u_ = .int .i64 x_ ∧ 0 ≤ x_ ∧ x_ < 32) ∧ p_ = curE g a len cap) (vf 3) pm_) := hR 3 (by decide)
      obtain ⟨p30, p3, hR31⟩ := e3
      obtain ⟨v29, v3⟩ : ∃ x, vf 3 = x := ⟨_, rfl⟩
      rw [v3] at hR31
      obtain ⟨⟨xhR31, rfl, xhR310, xhR311⟩, rfl⟩ := hR31
      have e6 : (∃ pm_, (pf 6) = [pm_] ∧ (fun u_ p_ => (∃ x_ : Int, u_ = .int .i64 x_ ∧ 0 ≤ x_ ∧ x_ < 2 * (((1 + (1 + xhR4)) + xhR8) + xhR11)) ∧ p_ = curE g a len cap) (vf 6) pm_) := hR 6 (by decide)
      obtain ⟨p33, p6, hR34⟩ := e6
      obtain ⟨v32, v6⟩ : ∃ x, vf 6 = x := ⟨_, rfl⟩
      rw [v6] at hR34
      obtain ⟨⟨xhR34, rfl, xhR340, xhR341⟩, rfl⟩ := hR34
      have e9 : (∃ pm_, (pf 9) = [pm_] ∧ (fun u_ p_ => (∃ x_ : Int, u_ = .int .i64 x_ ∧ 0 ≤ x_ ∧ x_ < 2 * (((1 + (1 + xhR4)) + xhR8) + xhR11)) ∧ p_ = curE g a len cap) (vf 9) pm_) := hR 9 (by decide)
      obtain ⟨p36, p9, hR37⟩ := e9
      obtain ⟨v35, v9⟩ : ∃ x, vf 9 = x := ⟨_, rfl⟩
      rw [v9] at hR37
      obtain ⟨⟨xhR37, rfl, xhR370, xhR371⟩, rfl⟩ := hR37
      have e12 : (∃ pm_, (pf 12) = [pm_] ∧ (fun u_ p_ => (∃ x_ : Int, u_ = .int .i64 x_ ∧ 0 ≤ x_ ∧ x_ < 2 * (((1 + (1 + xhR4)) + xhR8) + xhR11)) ∧ p_ = curE g a len cap) (vf 12) pm_) := hR 12 (by decide)
      obtain ⟨p39, p12, hR40⟩ := e12
      obtain ⟨v38, v12⟩ : ∃ x, vf 12 = x := ⟨_, rfl⟩
      rw [v12] at hR40
      obtain ⟨⟨xhR40, rfl, xhR400, xhR401⟩, rfl⟩ := hR40
      have e15 : (∃ pm_, (pf 15) = [pm_] ∧ (fun u_ p_ => (∃ x_ : Int, u_ = .int .i64 x_ ∧ 0 ≤ x_ ∧ x_ < 2 * (((1 + (1 + xhR4)) + xhR8) + xhR11)) ∧ p_ = curE g a len cap) (vf 15) pm_) := hR 15 (by decide)
      obtain ⟨p42, p15, hR43⟩ := e15
      obtain ⟨v41, v15⟩ : ∃ x, vf 15 = x := ⟨_, rfl⟩
      rw [v15] at hR43
      obtain ⟨⟨xhR43, rfl, xhR430, xhR431⟩, rfl⟩ := hR43
      have e16 : IsRow_o 3 1 4 ([(intOf_o (vf 6)), (intOf_o (vf 9)), (intOf_o (vf 12)), (intOf_o (vf 15))].map (Value.int .i64)) (vf 16) (pf 16) := hR 16 (by decide)
      rw [v6, v9, v12, v15] at e16
      obtain ⟨g44, v16, p16⟩ := e16
      refine Or.inl ⟨rfl, ?_⟩
      show RunQ _ _ _ (([15, 16] : List Nat).flatMap pf ++ _) (envOf _ vf [3, 6, 9, 12, 15, 16] ++ _) _ _
      refine rq_less (l' := (curE g a len cap :: rowE 3 1 (.slice (some ⟨g44, 0, none⟩) 4 4) 4 ([xhR34, xhR37, xhR40, xhR43].map (Value.int .i64)) :: bigE (ss.map sqPart) :: rowE 83 3 uq ss.length (ss.flatMap sqC) :: rowE 80 2 u gs.length (gs.flatMap anC) :: rowE 3 1 (.slice none 0 0) 0 ([]) :: boxE b5 #[.int .i64 (1 + xhR4), uq, u, .slice none 0 0] 28 :: boxE b1 #[.int .i64 0, .slice none 0 0, .slice none 0 0, .slice none 0 0] 28 :: l)) (sx 78 (congrArg some v3) (sx 91 (congrArg some v16) (sub_nil _))) (by first | (simp only [p15, v15, p16, v16, List.flatMap_cons, List.flatMap_nil, List.append_nil, List.nil_append, List.cons_append]; exact List.Sublist.refl _) | simp [p15, v15, p16, v16]) ?_
      exact rq_mono (rq_v (rv_build (cs := #[.int .i64 1, .int .i64 xhR31, .slice (some ⟨g44, 0, none⟩) 4 4]) rfl rfl (by kernel_rfl))) (fun _ _ h => ⟨h.1.trans (by show _ = (.agg #[.int .i64 1, .int .i64 (intOf_o (vf 3)), (vf 16)] : Value); first | (rw [v3, v16]; done) | (rw [v3, v16]; rfl)), h.2⟩)
     ·
      intro vf pf hmu hR
      have e3 : (∃ pm_, (pf 3) = [pm_] ∧ (fun u_ p_ => (∃ x_ : Int, u_ = .int .i64 x_ ∧ 0 ≤ x_ ∧ x_ < 32) ∧ p_ = curE g a len cap) (vf 3) pm_) := hR 3 (by decide)
      obtain ⟨p30, p3, hR31⟩ := e3
      obtain ⟨v29, v3⟩ : ∃ x, vf 3 = x := ⟨_, rfl⟩
      rw [v3] at hR31
      obtain ⟨⟨xhR31, rfl, xhR310, xhR311⟩, rfl⟩ := hR31
      have e6 : (∃ pm_, (pf 6) = [pm_] ∧ (fun u_ p_ => (∃ x_ : Int, u_ = .int .i64 x_ ∧ 0 ≤ x_ ∧ x_ < 2 * (((1 + (1 + xhR4)) + xhR8) + xhR11)) ∧ p_ = curE g a len cap) (vf 6) pm_) := hR 6 (by decide)
      obtain ⟨p33, p6, hR34⟩ := e6
      obtain ⟨v32, v6⟩ : ∃ x, vf 6 = x := ⟨_, rfl⟩
      rw [v6] at hR34
      obtain ⟨⟨xhR34, rfl, xhR340, xhR341⟩, rfl⟩ := hR34
      have e9 : (∃ pm_, (pf 9) = [pm_] ∧ (fun u_ p_ => (∃ x_ : Int, u_ = .int .i64 x_ ∧ 0 ≤ x_ ∧ x_ < 2 * (((1 + (1 + xhR4)) + xhR8) + xhR11)) ∧ p_ = curE g a len cap) (vf 9) pm_) := hR 9 (by decide)
      obtain ⟨p36, p9, hR37⟩ := e9
      obtain ⟨v35, v9⟩ : ∃ x, vf 9 = x := ⟨_, rfl⟩
      rw [v9] at hR37
      obtain ⟨⟨xhR37, rfl, xhR370, xhR371⟩, rfl⟩ := hR37
      have e12 : (∃ pm_, (pf 12) = [pm_] ∧ (fun u_ p_ => (∃ x_ : Int, u_ = .int .i64 x_ ∧ 0 ≤ x_ ∧ x_ < 2 * (((1 + (1 + xhR4)) + xhR8) + xhR11)) ∧ p_ = curE g a len cap) (vf 12) pm_) := hR 12 (by decide)
      obtain ⟨p39, p12, hR40⟩ := e12
      obtain ⟨v38, v12⟩ : ∃ x, vf 12 = x := ⟨_, rfl⟩
      rw [v12] at hR40
      obtain ⟨⟨xhR40, rfl, xhR400, xhR401⟩, rfl⟩ := hR40
      have e15 : (∃ pm_, (pf 15) = [pm_] ∧ (fun u_ p_ => (∃ x_ : Int, u_ = .int .i64 x_ ∧ 0 ≤ x_ ∧ x_ < 2 * (((1 + (1 + xhR4)) + xhR8) + xhR11)) ∧ p_ = curE g a len cap) (vf 15) pm_) := hR 15 (by decide)
      obtain ⟨p42, p15, hR43⟩ := e15
      obtain ⟨v41, v15⟩ : ∃ x, vf 15 = x := ⟨_, rfl⟩
      rw [v15] at hR43
      obtain ⟨⟨xhR43, rfl, xhR430, xhR431⟩, rfl⟩ := hR43
      have e16 : IsRow_o 3 1 4 ([(intOf_o (vf 6)), (intOf_o (vf 9)), (intOf_o (vf 12)), (intOf_o (vf 15))].map (Value.int .i64)) (vf 16) (pf 16) := hR 16 (by decide)
      rw [v6, v9, v12, v15] at e16
      obtain ⟨g44, v16, p16⟩ := e16
      have e17 : (vf 17) = .agg #[.int .i64 1, .int .i64 (intOf_o (vf 3)), (vf 16)] ∧ (pf 17) = [] := hR 17 (by decide)
      rw [v3, v16] at e17
      refine Or.inl ⟨rfl, ?_⟩
      show RunQ _ _ _ (([15, 16, 17] : List Nat).flatMap pf ++ _) (envOf _ vf [3, 6, 9, 12, 15, 16, 17] ++ _) _ _
      refine rq_less (l' := (curE g a len cap :: rowE 3 1 (.slice (some ⟨g44, 0, none⟩) 4 4) 4 ([xhR34, xhR37, xhR40, xhR43].map (Value.int .i64)) :: bigE (ss.map sqPart) :: rowE 83 3 uq ss.length (ss.flatMap sqC) :: rowE 80 2 u gs.length (gs.flatMap anC) :: rowE 3 1 (.slice none 0 0) 0 ([]) :: boxE b5 #[.int .i64 (1 + xhR4), uq, u, .slice none 0 0] 28 :: boxE b1 #[.int .i64 0, .slice none 0 0, .slice none 0 0, .slice none 0 0] 28 :: l)) (sx 92 (congrArg some e17.1) (sub_nil _)) (by first | (simp only [p15, v15, p16, v16, e17.2, List.flatMap_cons, List.flatMap_nil, List.append_nil, List.nil_append, List.cons_append]; exact List.Sublist.refl _) | simp [p15, v15, p16, v16, e17.2]) ?_
      exact rq_mono (rq_buildSlice (z := .agg #[.int .i64 0, .int .i64 0, .slice none 0 0]) (s := 3) (cs := [.int .i64 1, .int .i64 xhR31, .slice (some ⟨g44, 0, none⟩) 4 4]) rfl Try.underlying24 (by kernel_rfl) (by decide) rfl (by kernel_rfl) rfl) (fun v_ p_ h => by show IsRow_o 83 3 1 ([.int .i64 1, .int .i64 (intOf_o (vf 3)), (vf 16)]) v_ p_; rw [v3, v16]; exact h)
    ·
     intro vf pf hmu hR
     have e1 : (vf 1) = uq ∧ (pf 1) = [] := hR 1 (by decide)
     have e3 : (∃ pm_, (pf 3) = [pm_] ∧ (fun u_ p_ => (∃ x_ : Int, u_ = .int .i64 x_ ∧ 0 ≤ x_ ∧ x_ < 32) ∧ p_ = curE g a len cap) (vf 3) pm_) := hR 3 (by decide)
     obtain ⟨p30, p3, hR31⟩ := e3
     obtain ⟨v29, v3⟩ : ∃ x, vf 3 = x := ⟨_, rfl⟩
     rw [v3] at hR31
     obtain ⟨⟨xhR31, rfl, xhR310, xhR311⟩, rfl⟩ := hR31
     have e6 : (∃ pm_, (pf 6) = [pm_] ∧ (fun u_ p_ => (∃ x_ : Int, u_ = .int .i64 x_ ∧ 0 ≤ x_ ∧ x_ < 2 * (((1 + (1 + xhR4)) + xhR8) + xhR11)) ∧ p_ = curE g a len cap) (vf 6) pm_) := hR 6 (by decide)
     obtain ⟨p33, p6, hR34⟩ := e6
     obtain ⟨v32, v6⟩ : ∃ x, vf 6 = x := ⟨_, rfl⟩
     rw [v6] at hR34
     obtain ⟨⟨xhR34, rfl, xhR340, xhR341⟩, rfl⟩ := hR34
     have e9 : (∃ pm_, (pf 9) = [pm_] ∧ (fun u_ p_ => (∃ x_ : Int, u_ = .int .i64 x_ ∧ 0 ≤ x_ ∧ x_ < 2 * (((1 + (1 + xhR4)) + xhR8) + xhR11)) ∧ p_ = curE g a len cap) (vf 9) pm_) := hR 9 (by decide)
     obtain ⟨p36, p9, hR37⟩ := e9
     obtain ⟨v35, v9⟩ : ∃ x, vf 9 = x := ⟨_, rfl⟩
     rw [v9] at hR37
     obtain ⟨⟨xhR37, rfl, xhR370, xhR371⟩, rfl⟩ := hR37
     have e12 : (∃ pm_, (pf 12) = [pm_] ∧ (fun u_ p_ => (∃ x_ : Int, u_ = .int .i64 x_ ∧ 0 ≤ x_ ∧ x_ < 2 * (((1 + (1 + xhR4)) + xhR8) + xhR11)) ∧ p_ = curE g a len cap) (vf 12) pm_) := hR 12 (by decide)
     obtain ⟨p39, p12, hR40⟩ := e12
     obtain ⟨v38, v12⟩ : ∃ x, vf 12 = x := ⟨_, rfl⟩
     rw [v12] at hR40
     obtain ⟨⟨xhR40, rfl, xhR400, xhR401⟩, rfl⟩ := hR40
     have e15 : (∃ pm_, (pf 15) = [pm_] ∧ (fun u_ p_ => (∃ x_ : Int, u_ = .int .i64 x_ ∧ 0 ≤ x_ ∧ x_ < 2 * (((1 + (1 + xhR4)) + xhR8) + xhR11)) ∧ p_ = curE g a len cap) (vf 15) pm_) := hR 15 (by decide)
     obtain ⟨p42, p15, hR43⟩ := e15
     obtain ⟨v41, v15⟩ : ∃ x, vf 15 = x := ⟨_, rfl⟩
     rw [v15] at hR43
     obtain ⟨⟨xhR43, rfl, xhR430, xhR431⟩, rfl⟩ := hR43
     have e16 : IsRow_o 3 1 4 ([(intOf_o (vf 6)), (intOf_o (vf 9)), (intOf_o (vf 12)), (intOf_o (vf 15))].map (Value.int .i64)) (vf 16) (pf 16) := hR 16 (by decide)
     rw [v6, v9, v12, v15] at e16
     obtain ⟨g44, v16, p16⟩ := e16
     have e18 : IsRow_o 83 3 1 ([.int .i64 1, .int .i64 (intOf_o (vf 3)), (vf 16)]) (vf 18) (pf 18) := hR 18 (by decide)
     rw [v3, v16] at e18
     obtain ⟨g45, v18, p18⟩ := e18
     have q0 : (vf 0) = .pointer (some ⟨b5, 0 + 1, none⟩) ∧ (pf 0) = [] := hR 0 (by decide)
     have q1 : (vf 1) = uq ∧ (pf 1) = [] := hR 1 (by decide)
     have q2 : (vf 2) = .pointer (some ⟨g, 0, none⟩) ∧ (pf 2) = [] := hR 2 (by decide)
     have q4 : (vf 4) = .pointer (some ⟨g, 0, none⟩) ∧ (pf 4) = [] := hR 4 (by decide)
     have q5 : (vf 5) = .int .i64 (2 * (((1 + (1 + xhR4)) + xhR8) + xhR11)) ∧ (pf 5) = [] := hR 5 (by decide)
     have q7 : (vf 7) = .pointer (some ⟨g, 0, none⟩) ∧ (pf 7) = [] := hR 7 (by decide)
     have q8 : (vf 8) = .int .i64 (2 * (((1 + (1 + xhR4)) + xhR8) + xhR11)) ∧ (pf 8) = [] := hR 8 (by decide)
     have q10 : (vf 10) = .pointer (some ⟨g, 0, none⟩) ∧ (pf 10) = [] := hR 10 (by decide)
     have q11 : (vf 11) = .int .i64 (2 * (((1 + (1 + xhR4)) + xhR8) + xhR11)) ∧ (pf 11) = [] := hR 11 (by decide)
     have q13 : (vf 13) = .pointer (some ⟨g, 0, none⟩) ∧ (pf 13) = [] := hR 13 (by decide)
     have q14 : (vf 14) = .int .i64 (2 * (((1 + (1 + xhR4)) + xhR8) + xhR11)) ∧ (pf 14) = [] := hR 14 (by decide)
     have q17 : (vf 17) = .agg #[.int .i64 1, .int .i64 (intOf_o (vf 3)), (vf 16)] ∧ (pf 17) = [] := hR 17 (by decide)
     refine hl_less (l' := (curE g a len cap :: rowE 3 1 (.slice (some ⟨g44, 0, none⟩) 4 4) 4 ([xhR34, xhR37, xhR40, xhR43].map (Value.int .i64)) :: rowE 83 3 (.slice (some ⟨g45, 0, none⟩) 1 1) 1 ([.int .i64 1, .int .i64 xhR31, .slice (some ⟨g44, 0, none⟩) 4 4]) :: bigE (ss.map sqPart) :: rowE 83 3 uq ss.length (ss.flatMap sqC) :: rowE 80 2 u gs.length (gs.flatMap anC) :: rowE 3 1 (.slice none 0 0) 0 ([]) :: boxE b5 #[.int .i64 (1 + xhR4), uq, u, .slice none 0 0] 28 :: boxE b1 #[.int .i64 0, .slice none 0 0, .slice none 0 0, .slice none 0 0] 28 :: l)) (sx 0 rfl (sx 1 rfl (sx 2 rfl (sx 3 rfl (sx 8 rfl (sx 9 rfl (sx 10 rfl (sx 11 rfl (sx 12 rfl (sx 16 rfl (sx 17 rfl (sx 39 rfl (sx 70 rfl (sx 74 rfl (sx 76 (congrArg some e1.1) (sx 93 (congrArg some v18) (sub_nil _))))))))))))))))) (by first | (simp only [p15, v15, p16, v16, p18, v18, q0.2, q1.2, q2.2, q4.2, q5.2, q7.2, q8.2, q10.2, q11.2, q13.2, q14.2, q17.2, List.flatMap_cons, List.flatMap_nil, List.append_nil, List.nil_append, List.cons_append]; exact List.Sublist.refl _) | simp [p15, v15, p16, v16, p18, v18, q0.2, q1.2, q2.2, q4.2, q5.2, q7.2, q8.2, q10.2, q11.2, q13.2, q14.2, q17.2]) ?_
     simp only [List.drop_succ_cons, List.drop_zero]
     refine hl_append (i := 4) (z := .agg #[.int .i64 0, .int .i64 0, .slice none 0 0]) (bytes := 40) (n' := (ss ++ [(Sq.mk 1 xhR31 (.slice (some ⟨g44, 0, none⟩) 4 4) ([xhR34, xhR37, xhR40, xhR43]))]).length) (xs' := ((ss ++ [(Sq.mk 1 xhR31 (.slice (some ⟨g44, 0, none⟩) 4 4) ([xhR34, xhR37, xhR40, xhR43]))]).flatMap sqC)) (L := fun v46 => (curE g a len cap :: rowE 3 1 (.slice (some ⟨g44, 0, none⟩) 4 4) 4 ([xhR34, xhR37, xhR40, xhR43].map (Value.int .i64)) :: rowE 83 3 (.slice (some ⟨g45, 0, none⟩) 1 1) 1 ([.int .i64 1, .int .i64 xhR31, .slice (some ⟨g44, 0, none⟩) 4 4]) :: bigE (ss.map sqPart) :: rowE 83 3 v46 ((ss ++ [(Sq.mk 1 xhR31 (.slice (some ⟨g44, 0, none⟩) 4 4) ([xhR34, xhR37, xhR40, xhR43]))]).length) ((ss ++ [(Sq.mk 1 xhR31 (.slice (some ⟨g44, 0, none⟩) 4 4) ([xhR34, xhR37, xhR40, xhR43]))]).flatMap sqC) :: rowE 80 2 u gs.length (gs.flatMap anC) :: rowE 3 1 (.slice none 0 0) 0 ([]) :: boxE b5 #[.int .i64 (1 + xhR4), uq, u, .slice none 0 0] 28 :: boxE b1 #[.int .i64 0, .slice none 0 0, .slice none 0 0, .slice none 0 0] 28 :: l)) rfl rfl rfl rfl Try.underlying24 (by kernel_rfl) (by kernel_rfl) rfl rfl rfl (rd_row 2 rfl) (by simp [Value.oneCell']) (by first | omega | (simp only [List.length_append, List.length_cons, List.length_nil]; omega)) (len_app ss [(Sq.mk 1 xhR31 (.slice (some ⟨g44, 0, none⟩) 4 4) ([xhR34, xhR37, xhR40, xhR43]))]) (flat_app1 sqC ss (Sq.mk 1 xhR31 (.slice (some ⟨g44, 0, none⟩) 4 4) ([xhR34, xhR37, xhR40, xhR43])) _ rfl) (fun _ => rfl) ?_
     intro v46
     refine hl_v rfl rfl rfl (rv_field (k0 := 1) rfl (by kernel_rfl) rfl) ?_
     refine hl_one (i := 4) rfl (fun ho47 => ?_)
     refine hl_storeBox (i := 7) (l' := (curE g a len cap :: rowE 3 1 (.slice (some ⟨g44, 0, none⟩) 4 4) 4 ([xhR34, xhR37, xhR40, xhR43].map (Value.int .i64)) :: rowE 83 3 (.slice (some ⟨g45, 0, none⟩) 1 1) 1 ([.int .i64 1, .int .i64 xhR31, .slice (some ⟨g44, 0, none⟩) 4 4]) :: bigE (ss.map sqPart) :: rowE 83 3 v46 ((ss ++ [(Sq.mk 1 xhR31 (.slice (some ⟨g44, 0, none⟩) 4 4) ([xhR34, xhR37, xhR40, xhR43]))]).length) ((ss ++ [(Sq.mk 1 xhR31 (.slice (some ⟨g44, 0, none⟩) 4 4) ([xhR34, xhR37, xhR40, xhR43]))]).flatMap sqC) :: rowE 80 2 u gs.length (gs.flatMap anC) :: rowE 3 1 (.slice none 0 0) 0 ([]) :: boxE b5 #[.int .i64 (1 + xhR4), v46, u, .slice none 0 0] 28 :: boxE b1 #[.int .i64 0, .slice none 0 0, .slice none 0 0, .slice none 0 0] 28 :: l)) rfl rfl rfl (by kernel_rfl) rfl rfl ho47 rfl rfl rfl ?_
     refine hl_less (sx 0 rfl (sx 1 rfl (sx 2 rfl (sx 3 rfl (sx 8 rfl (sx 9 rfl (sx 10 rfl (sx 11 rfl (sx 12 rfl (sx 16 rfl (sx 17 rfl (sx 39 rfl (sx 70 rfl (sx 74 rfl (sub_nil _))))))))))))))) (.refl _) ?_
     refine hl_nil ?_
     refine hq_block_normal ?_
     refine hq_then ?_
     refine hc_region ?_
     refine hl_v rfl rfl rfl (rv_ev rfl) ?_
     refine hl_v rfl rfl rfl (rv_add rfl rfl rfl (by constructor <;> omega)) ?_
     refine hl_v rfl rfl rfl (rv_ev rfl) ?_
     refine hl_less (sx 0 rfl (sx 1 rfl (sx 2 rfl (sx 3 rfl (sx 8 rfl (sx 9 rfl (sx 10 rfl (sx 11 rfl (sx 12 rfl (sx 16 rfl (sx 17 rfl (sx 39 rfl (sx 70 rfl (sx 74 rfl (sub_nil _))))))))))))))) (.refl _) ?_
     refine hl_nil ?_
     refine hq_conv (bigE (ss.map sqPart) :: rowE 3 1 (.slice (some ⟨g44, 0, none⟩) 4 4) 4 ([xhR34, xhR37, xhR40, xhR43].map (Value.int .i64)) :: curE g a len cap :: rowE 83 3 (.slice (some ⟨g45, 0, none⟩) 1 1) 1 ([.int .i64 1, .int .i64 xhR31, .slice (some ⟨g44, 0, none⟩) 4 4]) :: rowE 83 3 v46 ((ss ++ [(Sq.mk 1 xhR31 (.slice (some ⟨g44, 0, none⟩) 4 4) ([xhR34, xhR37, xhR40, xhR43]))]).length) ((ss ++ [(Sq.mk 1 xhR31 (.slice (some ⟨g44, 0, none⟩) 4 4) ([xhR34, xhR37, xhR40, xhR43]))]).flatMap sqC) :: rowE 80 2 u gs.length (gs.flatMap anC) :: rowE 3 1 (.slice none 0 0) 0 ([]) :: boxE b5 #[.int .i64 (1 + xhR4), v46, u, .slice none 0 0] 28 :: boxE b1 #[.int .i64 0, .slice none 0 0, .slice none 0 0, .slice none 0 0] 28 :: l) (conv_pick (src := [curE g a len cap, rowE 3 1 (.slice (some ⟨g44, 0, none⟩) 4 4) 4 ([xhR34, xhR37, xhR40, xhR43].map (Value.int .i64)), rowE 83 3 (.slice (some ⟨g45, 0, none⟩) 1 1) 1 ([.int .i64 1, .int .i64 xhR31, .slice (some ⟨g44, 0, none⟩) 4 4]), bigE (ss.map sqPart), rowE 83 3 v46 ((ss ++ [(Sq.mk 1 xhR31 (.slice (some ⟨g44, 0, none⟩) 4 4) ([xhR34, xhR37, xhR40, xhR43]))]).length) ((ss ++ [(Sq.mk 1 xhR31 (.slice (some ⟨g44, 0, none⟩) 4 4) ([xhR34, xhR37, xhR40, xhR43]))]).flatMap sqC), rowE 80 2 u gs.length (gs.flatMap anC), rowE 3 1 (.slice none 0 0) 0 ([]), boxE b5 #[.int .i64 (1 + xhR4), v46, u, .slice none 0 0] 28, boxE b1 #[.int .i64 0, .slice none 0 0, .slice none 0 0, .slice none 0 0] 28]) (dst := [bigE (ss.map sqPart), rowE 3 1 (.slice (some ⟨g44, 0, none⟩) 4 4) 4 ([xhR34, xhR37, xhR40, xhR43].map (Value.int .i64)), curE g a len cap, rowE 83 3 (.slice (some ⟨g45, 0, none⟩) 1 1) 1 ([.int .i64 1, .int .i64 xhR31, .slice (some ⟨g44, 0, none⟩) 4 4]), rowE 83 3 v46 ((ss ++ [(Sq.mk 1 xhR31 (.slice (some ⟨g44, 0, none⟩) 4 4) ([xhR34, xhR37, xhR40, xhR43]))]).length) ((ss ++ [(Sq.mk 1 xhR31 (.slice (some ⟨g44, 0, none⟩) 4 4) ([xhR34, xhR37, xhR40, xhR43]))]).flatMap sqC), rowE 80 2 u gs.length (gs.flatMap anC), rowE 3 1 (.slice none 0 0) 0 ([]), boxE b5 #[.int .i64 (1 + xhR4), v46, u, .slice none 0 0] 28, boxE b1 #[.int .i64 0, .slice none 0 0, .slice none 0 0, .slice none 0 0] 28]) (l := l) [3, 1, 0, 2, 4, 5, 6, 7, 8] (by decide) rfl) ?_
     refine hq_conv (bigE ((ss ++ [(Sq.mk 1 xhR31 (.slice (some ⟨g44, 0, none⟩) 4 4) ([xhR34, xhR37, xhR40, xhR43]))]).map sqPart) :: curE g a len cap :: rowE 83 3 (.slice (some ⟨g45, 0, none⟩) 1 1) 1 ([.int .i64 1, .int .i64 xhR31, .slice (some ⟨g44, 0, none⟩) 4 4]) :: rowE 83 3 v46 ((ss ++ [(Sq.mk 1 xhR31 (.slice (some ⟨g44, 0, none⟩) 4 4) ([xhR34, xhR37, xhR40, xhR43]))]).length) ((ss ++ [(Sq.mk 1 xhR31 (.slice (some ⟨g44, 0, none⟩) 4 4) ([xhR34, xhR37, xhR40, xhR43]))]).flatMap sqC) :: rowE 80 2 u gs.length (gs.flatMap anC) :: rowE 3 1 (.slice none 0 0) 0 ([]) :: boxE b5 #[.int .i64 (1 + xhR4), v46, u, .slice none 0 0] 28 :: boxE b1 #[.int .i64 0, .slice none 0 0, .slice none 0 0, .slice none 0 0] 28 :: l) (fun w hm => by rw [List.map_append]; exact conv_snocX w hm) ?_
     refine hq_conv (bigE ((ss ++ [(Sq.mk 1 xhR31 (.slice (some ⟨g44, 0, none⟩) 4 4) ([xhR34, xhR37, xhR40, xhR43]))]).map sqPart) :: rowE 83 3 v46 ((ss ++ [(Sq.mk 1 xhR31 (.slice (some ⟨g44, 0, none⟩) 4 4) ([xhR34, xhR37, xhR40, xhR43]))]).length) ((ss ++ [(Sq.mk 1 xhR31 (.slice (some ⟨g44, 0, none⟩) 4 4) ([xhR34, xhR37, xhR40, xhR43]))]).flatMap sqC) :: rowE 80 2 u gs.length (gs.flatMap anC) :: rowE 3 1 (.slice none 0 0) 0 ([]) :: boxE b5 #[.int .i64 (1 + xhR4), v46, u, .slice none 0 0] 28 :: boxE b1 #[.int .i64 0, .slice none 0 0, .slice none 0 0, .slice none 0 0] 28 :: curE g a len cap :: l) (conv_pick (src := [bigE ((ss ++ [(Sq.mk 1 xhR31 (.slice (some ⟨g44, 0, none⟩) 4 4) ([xhR34, xhR37, xhR40, xhR43]))]).map sqPart), curE g a len cap, rowE 83 3 (.slice (some ⟨g45, 0, none⟩) 1 1) 1 ([.int .i64 1, .int .i64 xhR31, .slice (some ⟨g44, 0, none⟩) 4 4]), rowE 83 3 v46 ((ss ++ [(Sq.mk 1 xhR31 (.slice (some ⟨g44, 0, none⟩) 4 4) ([xhR34, xhR37, xhR40, xhR43]))]).length) ((ss ++ [(Sq.mk 1 xhR31 (.slice (some ⟨g44, 0, none⟩) 4 4) ([xhR34, xhR37, xhR40, xhR43]))]).flatMap sqC), rowE 80 2 u gs.length (gs.flatMap anC), rowE 3 1 (.slice none 0 0) 0 ([]), boxE b5 #[.int .i64 (1 + xhR4), v46, u, .slice none 0 0] 28, boxE b1 #[.int .i64 0, .slice none 0 0, .slice none 0 0, .slice none 0 0] 28]) (dst := [bigE ((ss ++ [(Sq.mk 1 xhR31 (.slice (some ⟨g44, 0, none⟩) 4 4) ([xhR34, xhR37, xhR40, xhR43]))]).map sqPart), rowE 83 3 v46 ((ss ++ [(Sq.mk 1 xhR31 (.slice (some ⟨g44, 0, none⟩) 4 4) ([xhR34, xhR37, xhR40, xhR43]))]).length) ((ss ++ [(Sq.mk 1 xhR31 (.slice (some ⟨g44, 0, none⟩) 4 4) ([xhR34, xhR37, xhR40, xhR43]))]).flatMap sqC), rowE 80 2 u gs.length (gs.flatMap anC), rowE 3 1 (.slice none 0 0) 0 ([]), boxE b5 #[.int .i64 (1 + xhR4), v46, u, .slice none 0 0] 28, boxE b1 #[.int .i64 0, .slice none 0 0, .slice none 0 0, .slice none 0 0] 28, curE g a len cap]) (l := l) [0, 3, 4, 5, 6, 7, 1] (by decide) rfl) ?_
     exact hq_round3 (i + 1) v46 (ss ++ [(Sq.mk 1 xhR31 (.slice (some ⟨g44, 0, none⟩) 4 4) ([xhR34, xhR37, xhR40, xhR43]))]) ⟨by omega, by simp; omega, sqs_app hso ⟨.inr ⟨rfl, by dsimp only; omega, rfl⟩⟩ (fun x hx => by simp only [List.mem_cons, List.not_mem_nil, or_false] at hx; unfold LtOk; omega)⟩ (by omega) (sx 0 rfl (sx 1 rfl (sx 2 rfl (sx 3 rfl (sx 8 rfl (sx 9 rfl (sx 10 rfl (sx 11 rfl (sx 12 rfl (sx 16 rfl (sx 17 rfl (sx 39 rfl (sub_nil _))))))))))))) ((.cons_cons _ (.cons_cons _ (.cons_cons _ (.cons_cons _ (.cons_cons _ (.cons_cons _ (.cons_cons _ (.refl _)))))))))
   ·
    refine hl_less (sx 0 rfl (sx 1 rfl (sx 2 rfl (sx 3 rfl (sx 8 rfl (sx 9 rfl (sx 10 rfl (sx 11 rfl (sx 12 rfl (sx 16 rfl (sx 17 rfl (sx 39 rfl (sx 70 rfl (sx 74 rfl (sub_nil _))))))))))))))) (.refl _) ?_
    refine hl_nil ?_
    refine hq_then ?_
    refine hc_false rfl ?_
    refine hc_conv (curE g a len cap :: bigE (ss.map sqPart) :: rowE 83 3 uq ss.length (ss.flatMap sqC) :: rowE 80 2 u gs.length (gs.flatMap anC) :: rowE 3 1 (.slice none 0 0) 0 ([]) :: boxE b5 #[.int .i64 (1 + xhR4), uq, u, .slice none 0 0] 28 :: boxE b1 #[.int .i64 0, .slice none 0 0, .slice none 0 0, .slice none 0 0] 28 :: l) (conv_pick (src := [bigE (ss.map sqPart), rowE 83 3 uq ss.length (ss.flatMap sqC), rowE 80 2 u gs.length (gs.flatMap anC), rowE 3 1 (.slice none 0 0) 0 ([]), boxE b5 #[.int .i64 (1 + xhR4), uq, u, .slice none 0 0] 28, boxE b1 #[.int .i64 0, .slice none 0 0, .slice none 0 0, .slice none 0 0] 28, curE g a len cap]) (dst := [curE g a len cap, bigE (ss.map sqPart), rowE 83 3 uq ss.length (ss.flatMap sqC), rowE 80 2 u gs.length (gs.flatMap anC), rowE 3 1 (.slice none 0 0) 0 ([]), boxE b5 #[.int .i64 (1 + xhR4), uq, u, .slice none 0 0] 28, boxE b1 #[.int .i64 0, .slice none 0 0, .slice none 0 0, .slice none 0 0] 28]) (l := l) [6, 0, 1, 2, 3, 4, 5] (by decide) rfl) ?_
    refine hc_draw2 (l := (bigE (ss.map sqPart) :: rowE 83 3 uq ss.length (ss.flatMap sqC) :: rowE 80 2 u gs.length (gs.flatMap anC) :: rowE 3 1 (.slice none 0 0) 0 ([]) :: boxE b5 #[.int .i64 (1 + xhR4), uq, u, .slice none 0 0] 28 :: boxE b1 #[.int .i64 0, .slice none 0 0, .slice none 0 0, .slice none 0 0] 28 :: l)) (by kernel_rfl) 14 [0, 1, 2, 3, 4, 5, 6, 7, 8, 9, 10, 11, 12, 13] (List.take 14 _) (List.drop 14 _) [[], [0], [], [2], [], [4], [], [], [7], [3, 6, 8], [5, 9], [9, 10], [3, 9, 11], [3, 9, 11, 12]] [96, 97, 98, 99, 100, 101, 102, 103, 104, 105, 106, 107, 108, 109] (fun i_ vs_ v_ p_ => match i_ with | 0 => v_ = .pointer (some ⟨b5, 0 + 1, none⟩) ∧ p_ = [] | 1 => v_ = uq ∧ p_ = [] | 2 => v_ = .pointer (some ⟨g, 0, none⟩) ∧ p_ = [] | 3 => (∃ pm_, p_ = [pm_] ∧ (fun u_ p_ => (∃ x_ : Int, u_ = .int .i64 x_ ∧ 0 ≤ x_ ∧ x_ < 2) ∧ p_ = curE g a len cap) v_ pm_) | 4 => v_ = .int .i64 (2 * (((1 + (1 + xhR4)) + xhR8) + xhR11)) ∧ p_ = [] | 5 => v_ = .int .i64 ((2 * (((1 + (1 + xhR4)) + xhR8) + xhR11)) - 1) ∧ p_ = [] | 6 => v_ = .pointer (some ⟨g, 0, none⟩) ∧ p_ = [] | 7 => v_ = .int .i64 (2 * (((1 + (1 + xhR4)) + xhR8) + xhR11)) ∧ p_ = [] | 8 => v_ = .int .i64 (min (2 * (((1 + (1 + xhR4)) + xhR8) + xhR11)) 12) ∧ p_ = [] | 9 => (∃ pm_, p_ = [pm_] ∧ (fun u_ p_ => (∃ x_ : Int, u_ = .int .i64 x_ ∧ 0 ≤ x_ ∧ x_ < min (2 * (((1 + (1 + xhR4)) + xhR8) + xhR11)) 12) ∧ p_ = curE g a len cap) v_ pm_) | 10 => v_ = .int .i64 (((2 * (((1 + (1 + xhR4)) + xhR8) + xhR11)) - 1) - (intOf_o (List.getD vs_ 1 undef))) ∧ p_ = [] | 11 => IsRow_o 3 1 1 ([((2 * (((1 + (1 + xhR4)) + xhR8) + xhR11)) - 1) - (intOf_o (List.getD vs_ 0 undef))].map (Value.int .i64)) v_ p_ | 12 => v_ = .agg #[.int .i64 0, .int .i64 (intOf_o (List.getD vs_ 0 undef)), (List.getD vs_ 2 undef)] ∧ p_ = [] | 13 => IsRow_o 83 3 1 ([.int .i64 0, .int .i64 (intOf_o (List.getD vs_ 0 undef)), (List.getD vs_ 2 undef)]) v_ p_ | _ => True) [[], [0], [], [2], [], [4], [], [], [7], [6, 8], [5, 9], [9, 10], [9, 11], [9, 11, 12]] [none, none, none, some 17, none, none, none, none, none, some 3, none, none, none, none] [curE g a len cap] [0, 1, 2, 4, 5, 6, 7, 8, 9, 10, 11, 12, 13] 17 (List.take_append_drop 14 _).symm (by kernel_rfl) (by kernel_rfl) (by kernel_rfl) rfl rfl ?_ ?_
    ·
     refine ⟨?_, ?_, ?_, ?_, ?_, ?_, ?_, ?_, ?_, ?_, ?_, ?_, ?_, ?_, trivial⟩
     ·
      intro vf pf hmu hR
      refine Or.inl ⟨rfl, ?_⟩
      show RunQ _ _ _ (([] : List Nat).flatMap pf ++ _) (envOf _ vf [] ++ _) _ _
      refine rq_less (sx 9 rfl (sub_nil _)) (List.sublist_append_right _ _) ?_
      exact rq_v (rv_field (k0 := 1) rfl (by kernel_rfl) rfl)
     ·
      intro vf pf hmu hR
      have e0 : (vf 0) = .pointer (some ⟨b5, 0 + 1, none⟩) ∧ (pf 0) = [] := hR 0 (by decide)
      refine Or.inl ⟨rfl, ?_⟩
      show RunQ _ _ _ (([0] : List Nat).flatMap pf ++ _) (envOf _ vf [0] ++ _) _ _
      refine rq_less (sx 96 (congrArg some e0.1) (sub_nil _)) (List.sublist_append_right _ _) ?_
      exact rq_v (rv_load rfl (by kernel_rfl) rfl (box_cell 4 rfl rfl))
     ·
      intro vf pf hmu hR
      refine Or.inl ⟨rfl, ?_⟩
      show RunQ _ _ _ (([] : List Nat).flatMap pf ++ _) (envOf _ vf [] ++ _) _ _
      refine rq_less (sx 0 rfl (sub_nil _)) (List.sublist_append_right _ _) ?_
      exact rq_v (rv_ev rfl)
     ·
      intro vf pf hmu hR
      have e2 : (vf 2) = .pointer (some ⟨g, 0, none⟩) ∧ (pf 2) = [] := hR 2 (by decide)
      refine Or.inl ⟨rfl, ?_⟩
      show RunM _ _ _ (pf 17) (([2] : List Nat).flatMap pf ++ _) (envOf _ vf [2] ++ _) _ _
      rw [hmu]
      refine rm_less (X' := (bigE (ss.map sqPart) :: rowE 83 3 uq ss.length (ss.flatMap sqC) :: rowE 80 2 u gs.length (gs.flatMap anC) :: rowE 3 1 (.slice none 0 0) 0 ([]) :: boxE b5 #[.int .i64 (1 + xhR4), uq, u, .slice none 0 0] 28 :: boxE b1 #[.int .i64 0, .slice none 0 0, .slice none 0 0, .slice none 0 0] 28 :: l)) (sx 98 (congrArg some e2.1) (sub_nil _)) (by first | (simp only [e2.2, List.flatMap_cons, List.flatMap_nil, List.append_nil, List.nil_append, List.cons_append]; exact List.Sublist.refl _) | simp [e2.2]) ?_
      exact rq_callM (R := (fun u_ p_ => (∃ x_ : Int, u_ = .int .i64 x_ ∧ 0 ≤ x_ ∧ x_ < 2) ∧ p_ = curE g a len cap)) (by kernel_rfl) rfl (fun L w hX hm => belowN_mut g a len cap z 2 _ _ _ hm hb (by constructor <;> omega))
     ·
      intro vf pf hmu hR
      refine Or.inl ⟨rfl, ?_⟩
      show RunQ _ _ _ (([] : List Nat).flatMap pf ++ _) (envOf _ vf [] ++ _) _ _
      refine rq_less (sx 16 rfl (sub_nil _)) (List.sublist_append_right _ _) ?_
      exact rq_v (rv_ev rfl)
     ·
      intro vf pf hmu hR
      have e4 : (vf 4) = .int .i64 (2 * (((1 + (1 + xhR4)) + xhR8) + xhR11)) ∧ (pf 4) = [] := hR 4 (by decide)
      refine Or.inl ⟨rfl, ?_⟩
      show RunQ _ _ _ (([4] : List Nat).flatMap pf ++ _) (envOf _ vf [4] ++ _) _ _
      refine rq_less (sx 100 (congrArg some e4.1) (sub_nil _)) (List.sublist_append_right _ _) ?_
      exact rq_v (rv_sub rfl rfl rfl (by constructor <;> omega))
     ·
      intro vf pf hmu hR
      refine Or.inl ⟨rfl, ?_⟩
      show RunQ _ _ _ (([] : List Nat).flatMap pf ++ _) (envOf _ vf [] ++ _) _ _
      refine rq_less (sx 0 rfl (sub_nil _)) (List.sublist_append_right _ _) ?_
      exact rq_v (rv_ev rfl)
     ·
      intro vf pf hmu hR
      refine Or.inl ⟨rfl, ?_⟩
      show RunQ _ _ _ (([] : List Nat).flatMap pf ++ _) (envOf _ vf [] ++ _) _ _
      refine rq_less (sx 16 rfl (sub_nil _)) (List.sublist_append_right _ _) ?_
      exact rq_v (rv_ev rfl)
     ·
      intro vf pf hmu hR
      have e7 : (vf 7) = .int .i64 (2 * (((1 + (1 + xhR4)) + xhR8) + xhR11)) ∧ (pf 7) = [] := hR 7 (by decide)
      refine Or.inl ⟨rfl, ?_⟩
      show RunQ _ _ _ (([7] : List Nat).flatMap pf ++ _) (envOf _ vf [7] ++ _) _ _
      refine rq_less (sx 103 (congrArg some e7.1) (sub_nil _)) (List.sublist_append_right _ _) ?_
      exact rq_v (rv_min rfl rfl rfl)
     ·
      intro vf pf hmu hR
      have e3 : (∃ pm_, (pf 3) = [pm_] ∧ (fun u_ p_ => (∃ x_ : Int, u_ = .int .i64 x_ ∧ 0 ≤ x_ ∧ x_ < 2) ∧ p_ = curE g a len cap) (vf 3) pm_) := hR 3 (by decide)
      obtain ⟨p49, p3, hR50⟩ := e3
      obtain ⟨v48, v3⟩ : ∃ x, vf 3 = x := ⟨_, rfl⟩
      rw [v3] at hR50
      obtain ⟨⟨xhR50, rfl, xhR500, xhR501⟩, rfl⟩ := hR50
      have e6 : (vf 6) = .pointer (some ⟨g, 0, none⟩) ∧ (pf 6) = [] := hR 6 (by decide)
      have e8 : (vf 8) = .int .i64 (min (2 * (((1 + (1 + xhR4)) + xhR8) + xhR11)) 12) ∧ (pf 8) = [] := hR 8 (by decide)
      refine Or.inl ⟨rfl, ?_⟩
      show RunM _ _ _ (pf 3) (([6, 8] : List Nat).flatMap pf ++ _) (envOf _ vf [3, 6, 8] ++ _) _ _
      rw [p3]
      refine rm_less (X' := (bigE (ss.map sqPart) :: rowE 83 3 uq ss.length (ss.flatMap sqC) :: rowE 80 2 u gs.length (gs.flatMap anC) :: rowE 3 1 (.slice none 0 0) 0 ([]) :: boxE b5 #[.int .i64 (1 + xhR4), uq, u, .slice none 0 0] 28 :: boxE b1 #[.int .i64 0, .slice none 0 0, .slice none 0 0, .slice none 0 0] 28 :: l)) (sx 102 (congrArg some e6.1) (sx 104 (congrArg some e8.1) (sub_nil _))) (by first | (simp only [e6.2, e8.2, List.flatMap_cons, List.flatMap_nil, List.append_nil, List.nil_append, List.cons_append]; exact List.Sublist.refl _) | simp [e6.2, e8.2]) ?_
      exact rq_callM (R := (fun u_ p_ => (∃ x_ : Int, u_ = .int .i64 x_ ∧ 0 ≤ x_ ∧ x_ < min (2 * (((1 + (1 + xhR4)) + xhR8) + xhR11)) 12) ∧ p_ = curE g a len cap)) (by kernel_rfl) rfl (fun L w hX hm => belowN_mut g a len cap z (min (2 * (((1 + (1 + xhR4)) + xhR8) + xhR11)) 12) _ _ _ hm hb (by constructor <;> omega))
     ·
      intro vf pf hmu hR
      have e5 : (vf 5) = .int .i64 ((2 * (((1 + (1 + xhR4)) + xhR8) + xhR11)) - 1) ∧ (pf 5) = [] := hR 5 (by decide)
      have e9 : (∃ pm_, (pf 9) = [pm_] ∧ (fun u_ p_ => (∃ x_ : Int, u_ = .int .i64 x_ ∧ 0 ≤ x_ ∧ x_ < min (2 * (((1 + (1 + xhR4)) + xhR8) + xhR11)) 12) ∧ p_ = curE g a len cap) (vf 9) pm_) := hR 9 (by decide)
      obtain ⟨p52, p9, hR53⟩ := e9
      obtain ⟨v51, v9⟩ : ∃ x, vf 9 = x := ⟨_, rfl⟩
      rw [v9] at hR53
      obtain ⟨⟨xhR53, rfl, xhR530, xhR531⟩, rfl⟩ := hR53
      refine Or.inl ⟨rfl, ?_⟩
      show RunQ _ _ _ (([5, 9] : List Nat).flatMap pf ++ _) (envOf _ vf [5, 9] ++ _) _ _
      refine rq_less (l' := (curE g a len cap :: bigE (ss.map sqPart) :: rowE 83 3 uq ss.length (ss.flatMap sqC) :: rowE 80 2 u gs.length (gs.flatMap anC) :: rowE 3 1 (.slice none 0 0) 0 ([]) :: boxE b5 #[.int .i64 (1 + xhR4), uq, u, .slice none 0 0] 28 :: boxE b1 #[.int .i64 0, .slice none 0 0, .slice none 0 0, .slice none 0 0] 28 :: l)) (sx 101 (congrArg some e5.1) (sx 105 (congrArg some v9) (sub_nil _))) (by first | (simp only [p9, v9, e5.2, List.flatMap_cons, List.flatMap_nil, List.append_nil, List.nil_append, List.cons_append]; exact List.Sublist.refl _) | simp [p9, v9, e5.2]) ?_
      exact rq_mono (rq_v (rv_sub rfl rfl rfl (by constructor <;> omega))) (fun _ _ h => ⟨h.1.trans (by show _ = (.int .i64 (((2 * (((1 + (1 + xhR4)) + xhR8) + xhR11)) - 1) - (intOf_o (vf 9))) : Value); first | (rw [v9]; done) | (rw [v9]; rfl)), h.2⟩)
     ·
      intro vf pf hmu hR
      have e9 : (∃ pm_, (pf 9) = [pm_] ∧ (fun u_ p_ => (∃ x_ : Int, u_ = .int .i64 x_ ∧ 0 ≤ x_ ∧ x_ < min (2 * (((1 + (1 + xhR4)) + xhR8) + xhR11)) 12) ∧ p_ = curE g a len cap) (vf 9) pm_) := hR 9 (by decide)
      obtain ⟨p52, p9, hR53⟩ := e9
      obtain ⟨v51, v9⟩ : ∃ x, vf 9 = x := ⟨_, rfl⟩
      rw [v9] at hR53
      obtain ⟨⟨xhR53, rfl, xhR530, xhR531⟩, rfl⟩ := hR53
      have e10 : (vf 10) = .int .i64 (((2 * (((1 + (1 + xhR4)) + xhR8) + xhR11)) - 1) - (intOf_o (vf 9))) ∧ (pf 10) = [] := hR 10 (by decide)
      rw [v9] at e10
      refine Or.inl ⟨rfl, ?_⟩
      show RunQ _ _ _ (([9, 10] : List Nat).flatMap pf ++ _) (envOf _ vf [9, 10] ++ _) _ _
      refine rq_less (l' := (curE g a len cap :: bigE (ss.map sqPart) :: rowE 83 3 uq ss.length (ss.flatMap sqC) :: rowE 80 2 u gs.length (gs.flatMap anC) :: rowE 3 1 (.slice none 0 0) 0 ([]) :: boxE b5 #[.int .i64 (1 + xhR4), uq, u, .slice none 0 0] 28 :: boxE b1 #[.int .i64 0, .slice none 0 0, .slice none 0 0, .slice none 0 0] 28 :: l)) (sx 106 (congrArg some e10.1) (sub_nil _)) (by first | (simp only [p9, v9, e10.2, List.flatMap_cons, List.flatMap_nil, List.append_nil, List.nil_append, List.cons_append]; exact List.Sublist.refl _) | simp [p9, v9, e10.2]) ?_
      exact rq_mono (rq_buildSlice (z := .int .i64 0) (s := 1) (cs := ([((2 * (((1 + (1 + xhR4)) + xhR8) + xhR11)) - 1) - xhR53].map (Value.int .i64))) rfl Try.underlying26 (by kernel_rfl) (by decide) rfl (by kernel_rfl) rfl) (fun v_ p_ h => by show IsRow_o 3 1 1 ([((2 * (((1 + (1 + xhR4)) + xhR8) + xhR11)) - 1) - (intOf_o (vf 9))].map (Value.int .i64)) v_ p_; rw [v9]; exact h)
     ·
      intro vf pf hmu hR
      have e3 : (∃ pm_, (pf 3) = [pm_] ∧ (fun u_ p_ => (∃ x_ : Int, u_ = .int .i64 x_ ∧ 0 ≤ x_ ∧ x_ < 2) ∧ p_ = curE g a len cap) (vf 3) pm_) := hR 3 (by decide)
      obtain ⟨p49, p3, hR50⟩ := e3
      obtain ⟨v48, v3⟩ : ∃ x, vf 3 = x := ⟨_, rfl⟩
      rw [v3] at hR50
      obtain ⟨⟨xhR50, rfl, xhR500, xhR501⟩, rfl⟩ := hR50
      have e9 : (∃ pm_, (pf 9) = [pm_] ∧ (fun u_ p_ => (∃ x_ : Int, u_ = .int .i64 x_ ∧ 0 ≤ x_ ∧ x_ < min (2 * (((1 + (1 + xhR4)) + xhR8) + xhR11)) 12) ∧ p_ = curE g a len cap) (vf 9) pm_) := hR 9 (by decide)
      obtain ⟨p52, p9, hR53⟩ := e9
      obtain ⟨v51, v9⟩ : ∃ x, vf 9 = x := ⟨_, rfl⟩
      rw [v9] at hR53
      obtain ⟨⟨xhR53, rfl, xhR530, xhR531⟩, rfl⟩ := hR53
      have e11 : IsRow_o 3 1 1 ([((2 * (((1 + (1 + xhR4)) + xhR8) + xhR11)) - 1) - (intOf_o (vf 9))].map (Value.int .i64)) (vf 11) (pf 11) := hR 11 (by decide)
      rw [v9] at e11
      obtain ⟨g54, v11, p11⟩ := e11
      refine Or.inl ⟨rfl, ?_⟩
      show RunQ _ _ _ (([9, 11] : List Nat).flatMap pf ++ _) (envOf _ vf [3, 9, 11] ++ _) _ _
      refine rq_less (l' := (curE g a len cap :: rowE 3 1 (.slice (some ⟨g54, 0, none⟩) 1 1) 1 ([((2 * (((1 + (1 + xhR4)) + xhR8) + xhR11)) - 1) - xhR53].map (Value.int .i64)) :: bigE (ss.map sqPart) :: rowE 83 3 uq ss.length (ss.flatMap sqC) :: rowE 80 2 u gs.length (gs.flatMap anC) :: rowE 3 1 (.slice none 0 0) 0 ([]) :: boxE b5 #[.int .i64 (1 + xhR4), uq, u, .slice none 0 0] 28 :: boxE b1 #[.int .i64 0, .slice none 0 0, .slice none 0 0, .slice none 0 0] 28 :: l)) (sx 99 (congrArg some v3) (sx 107 (congrArg some v11) (sub_nil _))) (by first | (simp only [p9, v9, p11, v11, List.flatMap_cons, List.flatMap_nil, List.append_nil, List.nil_append, List.cons_append]; exact List.Sublist.refl _) | simp [p9, v9, p11, v11]) ?_
      exact rq_mono (rq_v (rv_build (cs := #[.int .i64 0, .int .i64 xhR50, .slice (some ⟨g54, 0, none⟩) 1 1]) rfl rfl (by kernel_rfl))) (fun _ _ h => ⟨h.1.trans (by show _ = (.agg #[.int .i64 0, .int .i64 (intOf_o (vf 3)), (vf 11)] : Value); first | (rw [v3, v11]; done) | (rw [v3, v11]; rfl)), h.2⟩)
     ·
      intro vf pf hmu hR
      have e3 : (∃ pm_, (pf 3) = [pm_] ∧ (fun u_ p_ => (∃ x_ : Int, u_ = .int .i64 x_ ∧ 0 ≤ x_ ∧ x_ < 2) ∧ p_ = curE g a len cap) (vf 3) pm_) := hR 3 (by decide)
      obtain ⟨p49, p3, hR50⟩ := e3
      obtain ⟨v48, v3⟩ : ∃ x, vf 3 = x := ⟨_, rfl⟩
      rw [v3] at hR50
      obtain ⟨⟨xhR50, rfl, xhR500, xhR501⟩, rfl⟩ := hR50
      have e9 : (∃ pm_, (pf 9) = [pm_] ∧ (fun u_ p_ => (∃ x_ : Int, u_ = .int .i64 x_ ∧ 0 ≤ x_ ∧ x_ < min (2 * (((1 + (1 + xhR4)) + xhR8) + xhR11)) 12) ∧ p_ = curE g a len cap) (vf 9) pm_) := hR 9 (by decide)
      obtain ⟨p52, p9, hR53⟩ := e9
      obtain ⟨v51, v9⟩ : ∃ x, vf 9 = x := ⟨_, rfl⟩
      rw [v9] at hR53
      obtain ⟨⟨xhR53, rfl, xhR530, xhR531⟩, rfl⟩ := hR53
      have e11 : IsRow_o 3 1 1 ([((2 * (((1 + (1 + xhR4)) + xhR8) + xhR11)) - 1) - (intOf_o (vf 9))].map (Value.int .i64)) (vf 11) (pf 11) := hR 11 (by decide)
      rw [v9] at e11
      obtain ⟨g54, v11, p11⟩ := e11
      have e12 : (vf 12) = .agg #[.int .i64 0, .int .i64 (intOf_o (vf 3)), (vf 11)] ∧ (pf 12) = [] := hR 12 (by decide)
      rw [v3, v11] at e12
      refine Or.inl ⟨rfl, ?_⟩
      show RunQ _ _ _ (([9, 11, 12] : List Nat).flatMap pf ++ _) (envOf _ vf [3, 9, 11, 12] ++ _) _ _
      refine rq_less (l' := (curE g a len cap :: rowE 3 1 (.slice (some ⟨g54, 0, none⟩) 1 1) 1 ([((2 * (((1 + (1 + xhR4)) + xhR8) + xhR11)) - 1) - xhR53].map (Value.int .i64)) :: bigE (ss.map sqPart) :: rowE 83 3 uq ss.length (ss.flatMap sqC) :: rowE 80 2 u gs.length (gs.flatMap anC) :: rowE 3 1 (.slice none 0 0) 0 ([]) :: boxE b5 #[.int .i64 (1 + xhR4), uq, u, .slice none 0 0] 28 :: boxE b1 #[.int .i64 0, .slice none 0 0, .slice none 0 0, .slice none 0 0] 28 :: l)) (sx 108 (congrArg some e12.1) (sub_nil _)) (by first | (simp only [p9, v9, p11, v11, e12.2, List.flatMap_cons, List.flatMap_nil, List.append_nil, List.nil_append, List.cons_append]; exact List.Sublist.refl _) | simp [p9, v9, p11, v11, e12.2]) ?_
      exact rq_mono (rq_buildSlice (z := .agg #[.int .i64 0, .int .i64 0, .slice none 0 0]) (s := 3) (cs := [.int .i64 0, .int .i64 xhR50, .slice (some ⟨g54, 0, none⟩) 1 1]) rfl Try.underlying24 (by kernel_rfl) (by decide) rfl (by kernel_rfl) rfl) (fun v_ p_ h => by show IsRow_o 83 3 1 ([.int .i64 0, .int .i64 (intOf_o (vf 3)), (vf 11)]) v_ p_; rw [v3, v11]; exact h)
    ·
     intro vf pf hmu hR
     have e1 : (vf 1) = uq ∧ (pf 1) = [] := hR 1 (by decide)
     have e3 : (∃ pm_, (pf 3) = [pm_] ∧ (fun u_ p_ => (∃ x_ : Int, u_ = .int .i64 x_ ∧ 0 ≤ x_ ∧ x_ < 2) ∧ p_ = curE g a len cap) (vf 3) pm_) := hR 3 (by decide)
     obtain ⟨p49, p3, hR50⟩ := e3
     obtain ⟨v48, v3⟩ : ∃ x, vf 3 = x := ⟨_, rfl⟩
     rw [v3] at hR50
     obtain ⟨⟨xhR50, rfl, xhR500, xhR501⟩, rfl⟩ := hR50
     have e9 : (∃ pm_, (pf 9) = [pm_] ∧ (fun u_ p_ => (∃ x_ : Int, u_ = .int .i64 x_ ∧ 0 ≤ x_ ∧ x_ < min (2 * (((1 + (1 + xhR4)) + xhR8) + xhR11)) 12) ∧ p_ = curE g a len cap) (vf 9) pm_) := hR 9 (by decide)
     obtain ⟨p52, p9, hR53⟩ := e9
     obtain ⟨v51, v9⟩ : ∃ x, vf 9 = x := ⟨_, rfl⟩
     rw [v9] at hR53
     obtain ⟨⟨xhR53, rfl, xhR530, xhR531⟩, rfl⟩ := hR53
     have e11 : IsRow_o 3 1 1 ([((2 * (((1 + (1 + xhR4)) + xhR8) + xhR11)) - 1) - (intOf_o (vf 9))].map (Value.int .i64)) (vf 11) (pf 11) := hR 11 (by decide)
     rw [v9] at e11
     obtain ⟨g54, v11, p11⟩ := e11
     have e13 : IsRow_o 83 3 1 ([.int .i64 0, .int .i64 (intOf_o (vf 3)), (vf 11)]) (vf 13) (pf 13) := hR 13 (by decide)
     rw [v3, v11] at e13
     obtain ⟨g55, v13, p13⟩ := e13
     have q0 : (vf 0) = .pointer (some ⟨b5, 0 + 1, none⟩) ∧ (pf 0) = [] := hR 0 (by decide)
     have q1 : (vf 1) = uq ∧ (pf 1) = [] := hR 1 (by decide)
     have q2 : (vf 2) = .pointer (some ⟨g, 0, none⟩) ∧ (pf 2) = [] := hR 2 (by decide)
     have q4 : (vf 4) = .int .i64 (2 * (((1 + (1 + xhR4)) + xhR8) + xhR11)) ∧ (pf 4) = [] := hR 4 (by decide)
     have q5 : (vf 5) = .int .i64 ((2 * (((1 + (1 + xhR4)) + xhR8) + xhR11)) - 1) ∧ (pf 5) = [] := hR 5 (by decide)
     have q6 : (vf 6) = .pointer (some ⟨g, 0, none⟩) ∧ (pf 6) = [] := hR 6 (by decide)
     have q7 : (vf 7) = .int .i64 (2 * (((1 + (1 + xhR4)) + xhR8) + xhR11)) ∧ (pf 7) = [] := hR 7 (by decide)
     have q8 : (vf 8) = .int .i64 (min (2 * (((1 + (1 + xhR4)) + xhR8) + xhR11)) 12) ∧ (pf 8) = [] := hR 8 (by decide)
     have q10 : (vf 10) = .int .i64 (((2 * (((1 + (1 + xhR4)) + xhR8) + xhR11)) - 1) - (intOf_o (vf 9))) ∧ (pf 10) = [] := hR 10 (by decide)
     have q12 : (vf 12) = .agg #[.int .i64 0, .int .i64 (intOf_o (vf 3)), (vf 11)] ∧ (pf 12) = [] := hR 12 (by decide)
     refine hl_less (l' := (curE g a len cap :: rowE 3 1 (.slice (some ⟨g54, 0, none⟩) 1 1) 1 ([((2 * (((1 + (1 + xhR4)) + xhR8) + xhR11)) - 1) - xhR53].map (Value.int .i64)) :: rowE 83 3 (.slice (some ⟨g55, 0, none⟩) 1 1) 1 ([.int .i64 0, .int .i64 xhR50, .slice (some ⟨g54, 0, none⟩) 1 1]) :: bigE (ss.map sqPart) :: rowE 83 3 uq ss.length (ss.flatMap sqC) :: rowE 80 2 u gs.length (gs.flatMap anC) :: rowE 3 1 (.slice none 0 0) 0 ([]) :: boxE b5 #[.int .i64 (1 + xhR4), uq, u, .slice none 0 0] 28 :: boxE b1 #[.int .i64 0, .slice none 0 0, .slice none 0 0, .slice none 0 0] 28 :: l)) (sx 0 rfl (sx 1 rfl (sx 2 rfl (sx 3 rfl (sx 8 rfl (sx 9 rfl (sx 10 rfl (sx 11 rfl (sx 12 rfl (sx 16 rfl (sx 17 rfl (sx 39 rfl (sx 70 rfl (sx 74 rfl (sx 97 (congrArg some e1.1) (sx 109 (congrArg some v13) (sub_nil _))))))))))))))))) (by first | (simp only [p9, v9, p11, v11, p13, v13, q0.2, q1.2, q2.2, q4.2, q5.2, q6.2, q7.2, q8.2, q10.2, q12.2, List.flatMap_cons, List.flatMap_nil, List.append_nil, List.nil_append, List.cons_append]; exact List.Sublist.refl _) | simp [p9, v9, p11, v11, p13, v13, q0.2, q1.2, q2.2, q4.2, q5.2, q6.2, q7.2, q8.2, q10.2, q12.2]) ?_
     simp only [List.drop_succ_cons, List.drop_zero]
     refine hl_append (i := 4) (z := .agg #[.int .i64 0, .int .i64 0, .slice none 0 0]) (bytes := 40) (n' := (ss ++ [(Sq.mk 0 xhR50 (.slice (some ⟨g54, 0, none⟩) 1 1) ([((2 * (((1 + (1 + xhR4)) + xhR8) + xhR11)) - 1) - xhR53]))]).length) (xs' := ((ss ++ [(Sq.mk 0 xhR50 (.slice (some ⟨g54, 0, none⟩) 1 1) ([((2 * (((1 + (1 + xhR4)) + xhR8) + xhR11)) - 1) - xhR53]))]).flatMap sqC)) (L := fun v56 => (curE g a len cap :: rowE 3 1 (.slice (some ⟨g54, 0, none⟩) 1 1) 1 ([((2 * (((1 + (1 + xhR4)) + xhR8) + xhR11)) - 1) - xhR53].map (Value.int .i64)) :: rowE 83 3 (.slice (some ⟨g55, 0, none⟩) 1 1) 1 ([.int .i64 0, .int .i64 xhR50, .slice (some ⟨g54, 0, none⟩) 1 1]) :: bigE (ss.map sqPart) :: rowE 83 3 v56 ((ss ++ [(Sq.mk 0 xhR50 (.slice (some ⟨g54, 0, none⟩) 1 1) ([((2 * (((1 + (1 + xhR4)) + xhR8) + xhR11)) - 1) - xhR53]))]).length) ((ss ++ [(Sq.mk 0 xhR50 (.slice (some ⟨g54, 0, none⟩) 1 1) ([((2 * (((1 + (1 + xhR4)) + xhR8) + xhR11)) - 1) - xhR53]))]).flatMap sqC) :: rowE 80 2 u gs.length (gs.flatMap anC) :: rowE 3 1 (.slice none 0 0) 0 ([]) :: boxE b5 #[.int .i64 (1 + xhR4), uq, u, .slice none 0 0] 28 :: boxE b1 #[.int .i64 0, .slice none 0 0, .slice none 0 0, .slice none 0 0] 28 :: l)) rfl rfl rfl rfl Try.underlying24 (by kernel_rfl) (by kernel_rfl) rfl rfl rfl (rd_row 2 rfl) (by simp [Value.oneCell']) (by first | omega | (simp only [List.length_append, List.length_cons, List.length_nil]; omega)) (len_app ss [(Sq.mk 0 xhR50 (.slice (some ⟨g54, 0, none⟩) 1 1) ([((2 * (((1 + (1 + xhR4)) + xhR8) + xhR11)) - 1) - xhR53]))]) (flat_app1 sqC ss (Sq.mk 0 xhR50 (.slice (some ⟨g54, 0, none⟩) 1 1) ([((2 * (((1 + (1 + xhR4)) + xhR8) + xhR11)) - 1) - xhR53])) _ rfl) (fun _ => rfl) ?_
     intro v56
     refine hl_v rfl rfl rfl (rv_field (k0 := 1) rfl (by kernel_rfl) rfl) ?_
     refine hl_one (i := 4) rfl (fun ho57 => ?_)
     refine hl_storeBox (i := 7) (l' := (curE g a len cap :: rowE 3 1 (.slice (some ⟨g54, 0, none⟩) 1 1) 1 ([((2 * (((1 + (1 + xhR4)) + xhR8) + xhR11)) - 1) - xhR53].map (Value.int .i64)) :: rowE 83 3 (.slice (some ⟨g55, 0, none⟩) 1 1) 1 ([.int .i64 0, .int .i64 xhR50, .slice (some ⟨g54, 0, none⟩) 1 1]) :: bigE (ss.map sqPart) :: rowE 83 3 v56 ((ss ++ [(Sq.mk 0 xhR50 (.slice (some ⟨g54, 0, none⟩) 1 1) ([((2 * (((1 + (1 + xhR4)) + xhR8) + xhR11)) - 1) - xhR53]))]).length) ((ss ++ [(Sq.mk 0 xhR50 (.slice (some ⟨g54, 0, none⟩) 1 1) ([((2 * (((1 + (1 + xhR4)) + xhR8) + xhR11)) - 1) - xhR53]))]).flatMap sqC) :: rowE 80 2 u gs.length (gs.flatMap anC) :: rowE 3 1 (.slice none 0 0) 0 ([]) :: boxE b5 #[.int .i64 (1 + xhR4), v56, u, .slice none 0 0] 28 :: boxE b1 #[.int .i64 0, .slice none 0 0, .slice none 0 0, .slice none 0 0] 28 :: l)) rfl rfl rfl (by kernel_rfl) rfl rfl ho57 rfl rfl rfl ?_
     refine hl_less (sx 0 rfl (sx 1 rfl (sx 2 rfl (sx 3 rfl (sx 8 rfl (sx 9 rfl (sx 10 rfl (sx 11 rfl (sx 12 rfl (sx 16 rfl (sx 17 rfl (sx 39 rfl (sx 70 rfl (sx 74 rfl (sub_nil _))))))))))))))) (.refl _) ?_
     refine hl_nil ?_
     refine hq_block_normal ?_
     refine hq_then ?_
     refine hc_region ?_
     refine hl_v rfl rfl rfl (rv_ev rfl) ?_
     refine hl_v rfl rfl rfl (rv_add rfl rfl rfl (by constructor <;> omega)) ?_
     refine hl_v rfl rfl rfl (rv_ev rfl) ?_
     refine hl_less (sx 0 rfl (sx 1 rfl (sx 2 rfl (sx 3 rfl (sx 8 rfl (sx 9 rfl (sx 10 rfl (sx 11 rfl (sx 12 rfl (sx 16 rfl (sx 17 rfl (sx 39 rfl (sx 70 rfl (sx 74 rfl (sub_nil _))))))))))))))) (.refl _) ?_
     refine hl_nil ?_
     refine hq_conv (bigE (ss.map sqPart) :: rowE 3 1 (.slice (some ⟨g54, 0, none⟩) 1 1) 1 ([((2 * (((1 + (1 + xhR4)) + xhR8) + xhR11)) - 1) - xhR53].map (Value.int .i64)) :: curE g a len cap :: rowE 83 3 (.slice (some ⟨g55, 0, none⟩) 1 1) 1 ([.int .i64 0, .int .i64 xhR50, .slice (some ⟨g54, 0, none⟩) 1 1]) :: rowE 83 3 v56 ((ss ++ [(Sq.mk 0 xhR50 (.slice (some ⟨g54, 0, none⟩) 1 1) ([((2 * (((1 + (1 + xhR4)) + xhR8) + xhR11)) - 1) - xhR53]))]).length) ((ss ++ [(Sq.mk 0 xhR50 (.slice (some ⟨g54, 0, none⟩) 1 1) ([((2 * (((1 + (1 + xhR4)) + xhR8) + xhR11)) - 1) - xhR53]))]).flatMap sqC) :: rowE 80 2 u gs.length (gs.flatMap anC) :: rowE 3 1 (.slice none 0 0) 0 ([]) :: boxE b5 #[.int .i64 (1 + xhR4), v56, u, .slice none 0 0] 28 :: boxE b1 #[.int .i64 0, .slice none 0 0, .slice none 0 0, .slice none 0 0] 28 :: l) (conv_pick (src := [curE g a len cap, rowE 3 1 (.slice (some ⟨g54, 0, none⟩) 1 1) 1 ([((2 * (((1 + (1 + xhR4)) + xhR8) + xhR11)) - 1) - xhR53].map (Value.int .i64)), rowE 83 3 (.slice (some ⟨g55, 0, none⟩) 1 1) 1 ([.int .i64 0, .int .i64 xhR50, .slice (some ⟨g54, 0, none⟩) 1 1]), bigE (ss.map sqPart), rowE 83 3 v56 ((ss ++ [(Sq.mk 0 xhR50 (.slice (some ⟨g54, 0, none⟩) 1 1) ([((2 * (((1 + (1 + xhR4)) + xhR8) + xhR11)) - 1) - xhR53]))]).length) ((ss ++ [(Sq.mk 0 xhR50 (.slice (some ⟨g54, 0, none⟩) 1 1) ([((2 * (((1 + (1 + xhR4)) + xhR8) + xhR11)) - 1) - xhR53]))]).flatMap sqC), rowE 80 2 u gs.length (gs.flatMap anC), rowE 3 1 (.slice none 0 0) 0 ([]), boxE b5 #[.int .i64 (1 + xhR4), v56, u, .slice none 0 0] 28, boxE b1 #[.int .i64 0, .slice none 0 0, .slice none 0 0, .slice none 0 0] 28]) (dst := [bigE (ss.map sqPart), rowE 3 1 (.slice (some ⟨g54, 0, none⟩) 1 1) 1 ([((2 * (((1 + (1 + xhR4)) + xhR8) + xhR11)) - 1) - xhR53].map (Value.int .i64)), curE g a len cap, rowE 83 3 (.slice (some ⟨g55, 0, none⟩) 1 1) 1 ([.int .i64 0, .int .i64 xhR50, .slice (some ⟨g54, 0, none⟩) 1 1]), rowE 83 3 v56 ((ss ++ [(Sq.mk 0 xhR50 (.slice (some ⟨g54, 0, none⟩) 1 1) ([((2 * (((1 + (1 + xhR4)) + xhR8) + xhR11)) - 1) - xhR53]))]).length) ((ss ++ [(Sq.mk 0 xhR50 (.slice (some ⟨g54, 0, none⟩) 1 1) ([((2 * (((1 + (1 + xhR4)) + xhR8) + xhR11)) - 1) - xhR53]))]).flatMap sqC), rowE 80 2 u gs.length (gs.flatMap anC), rowE 3 1 (.slice none 0 0) 0 ([]), boxE b5 #[.int .i64 (1 + xhR4), v56, u, .slice none 0 0] 28, boxE b1 #[.int .i64 0, .slice none 0 0, .slice none 0 0, .slice none 0 0] 28]) (l := l) [3, 1, 0, 2, 4, 5, 6, 7, 8] (by decide) rfl) ?_
     refine hq_conv (bigE ((ss ++ [(Sq.mk 0 xhR50 (.slice (some ⟨g54, 0, none⟩) 1 1) ([((2 * (((1 + (1 + xhR4)) + xhR8) + xhR11)) - 1) - xhR53]))]).map sqPart) :: curE g a len cap :: rowE 83 3 (.slice (some ⟨g55, 0, none⟩) 1 1) 1 ([.int .i64 0, .int .i64 xhR50, .slice (some ⟨g54, 0, none⟩) 1 1]) :: rowE 83 3 v56 ((ss ++ [(Sq.mk 0 xhR50 (.slice (some ⟨g54, 0, none⟩) 1 1) ([((2 * (((1 + (1 + xhR4)) + xhR8) + xhR11)) - 1) - xhR53]))]).length) ((ss ++ [(Sq.mk 0 xhR50 (.slice (some ⟨g54, 0, none⟩) 1 1) ([((2 * (((1 + (1 + xhR4)) + xhR8) + xhR11)) - 1) - xhR53]))]).flatMap sqC) :: rowE 80 2 u gs.length (gs.flatMap anC) :: rowE 3 1 (.slice none 0 0) 0 ([]) :: boxE b5 #[.int .i64 (1 + xhR4), v56, u, .slice none 0 0] 28 :: boxE b1 #[.int .i64 0, .slice none 0 0, .slice none 0 0, .slice none 0 0] 28 :: l) (fun w hm => by rw [List.map_append]; exact conv_snocX w hm) ?_
     refine hq_conv (bigE ((ss ++ [(Sq.mk 0 xhR50 (.slice (some ⟨g54, 0, none⟩) 1 1) ([((2 * (((1 + (1 + xhR4)) + xhR8) + xhR11)) - 1) - xhR53]))]).map sqPart) :: rowE 83 3 v56 ((ss ++ [(Sq.mk 0 xhR50 (.slice (some ⟨g54, 0, none⟩) 1 1) ([((2 * (((1 + (1 + xhR4)) + xhR8) + xhR11)) - 1) - xhR53]))]).length) ((ss ++ [(Sq.mk 0 xhR50 (.slice (some ⟨g54, 0, none⟩) 1 1) ([((2 * (((1 + (1 + xhR4)) + xhR8) + xhR11)) - 1) - xhR53]))]).flatMap sqC) :: rowE 80 2 u gs.length (gs.flatMap anC) :: rowE 3 1 (.slice none 0 0) 0 ([]) :: boxE b5 #[.int .i64 (1 + xhR4), v56, u, .slice none 0 0] 28 :: boxE b1 #[.int .i64 0, .slice none 0 0, .slice none 0 0, .slice none 0 0] 28 :: curE g a len cap :: l) (conv_pick (src := [bigE ((ss ++ [(Sq.mk 0 xhR50 (.slice (some ⟨g54, 0, none⟩) 1 1) ([((2 * (((1 + (1 + xhR4)) + xhR8) + xhR11)) - 1) - xhR53]))]).map sqPart), curE g a len cap, rowE 83 3 (.slice (some ⟨g55, 0, none⟩) 1 1) 1 ([.int .i64 0, .int .i64 xhR50, .slice (some ⟨g54, 0, none⟩) 1 1]), rowE 83 3 v56 ((ss ++ [(Sq.mk 0 xhR50 (.slice (some ⟨g54, 0, none⟩) 1 1) ([((2 * (((1 + (1 + xhR4)) + xhR8) + xhR11)) - 1) - xhR53]))]).length) ((ss ++ [(Sq.mk 0 xhR50 (.slice (some ⟨g54, 0, none⟩) 1 1) ([((2 * (((1 + (1 + xhR4)) + xhR8) + xhR11)) - 1) - xhR53]))]).flatMap sqC), rowE 80 2 u gs.length (gs.flatMap anC), rowE 3 1 (.slice none 0 0) 0 ([]), boxE b5 #[.int .i64 (1 + xhR4), v56, u, .slice none 0 0] 28, boxE b1 #[.int .i64 0, .slice none 0 0, .slice none 0 0, .slice none 0 0] 28]) (dst := [bigE ((ss ++ [(Sq.mk 0 xhR50 (.slice (some ⟨g54, 0, none⟩) 1 1) ([((2 * (((1 + (1 + xhR4)) + xhR8) + xhR11)) - 1) - xhR53]))]).map sqPart), rowE 83 3 v56 ((ss ++ [(Sq.mk 0 xhR50 (.slice (some ⟨g54, 0, none⟩) 1 1) ([((2 * (((1 + (1 + xhR4)) + xhR8) + xhR11)) - 1) - xhR53]))]).length) ((ss ++ [(Sq.mk 0 xhR50 (.slice (some ⟨g54, 0, none⟩) 1 1) ([((2 * (((1 + (1 + xhR4)) + xhR8) + xhR11)) - 1) - xhR53]))]).flatMap sqC), rowE 80 2 u gs.length (gs.flatMap anC), rowE 3 1 (.slice none 0 0) 0 ([]), boxE b5 #[.int .i64 (1 + xhR4), v56, u, .slice none 0 0] 28, boxE b1 #[.int .i64 0, .slice none 0 0, .slice none 0 0, .slice none 0 0] 28, curE g a len cap]) (l := l) [0, 3, 4, 5, 6, 7, 1] (by decide) rfl) ?_
     exact hq_round3 (i + 1) v56 (ss ++ [(Sq.mk 0 xhR50 (.slice (some ⟨g54, 0, none⟩) 1 1) ([((2 * (((1 + (1 + xhR4)) + xhR8) + xhR11)) - 1) - xhR53]))]) ⟨by omega, by simp; omega, sqs_app hso ⟨.inl ⟨rfl, by dsimp only; omega, rfl⟩⟩ (fun x hx => by simp only [List.mem_cons, List.not_mem_nil, or_false] at hx; unfold LtOk; omega)⟩ (by omega) (sx 0 rfl (sx 1 rfl (sx 2 rfl (sx 3 rfl (sx 8 rfl (sx 9 rfl (sx 10 rfl (sx 11 rfl (sx 12 rfl (sx 16 rfl (sx 17 rfl (sx 39 rfl (sub_nil _))))))))))))) ((.cons_cons _ (.cons_cons _ (.cons_cons _ (.cons_cons _ (.cons_cons _ (.cons_cons _ (.cons_cons _ (.refl _)))))))))
  ·
   refine hl_less (sx 0 rfl (sx 1 rfl (sx 2 rfl (sx 3 rfl (sx 8 rfl (sx 9 rfl (sx 10 rfl (sx 11 rfl (sx 12 rfl (sx 16 rfl (sx 17 rfl (sx 39 rfl (sx 70 rfl (sub_nil _)))))))))))))) (.refl _) ?_
   refine hl_nil ?_
   refine hq_then ?_
   refine hc_false rfl ?_
   refine hc_exit ?_
   refine hq_then_exit ?_
   refine hq_then_exit ?_
   refine hq_block_exit ?_
   refine hq_then ?_
   refine hc_seq ?_
   refine hc_seq ?_
   refine hc_region ?_
   refine hl_v rfl rfl rfl (rv_ev rfl) ?_
   refine hl_callM (R := (fun u_ p_ => (∃ x_ : Int, u_ = .int .i64 x_ ∧ 0 ≤ x_ ∧ x_ < 4) ∧ p_ = curE g a len cap)) 6 rfl rfl (by kernel_rfl) rfl rfl (fun l' w hm => belowN_mut g a len cap z 4 _ _ _ hm hb (by constructor <;> omega)) ?_
   intro v58 p59 hR60
   obtain ⟨⟨xhR60, rfl, xhR600, xhR601⟩, rfl⟩ := hR60
   refine hl_eqL (l' := (bigE (ss.map sqPart) :: rowE 83 3 uq ss.length (ss.flatMap sqC) :: rowE 80 2 u gs.length (gs.flatMap anC) :: rowE 3 1 (.slice none 0 0) 0 ([]) :: boxE b5 #[.int .i64 (1 + xhR4), uq, u, .slice none 0 0] 28 :: boxE b1 #[.int .i64 0, .slice none 0 0, .slice none 0 0, .slice none 0 0] 28 :: curE g a len cap :: l)) rfl ?_
   refine hl_v rfl rfl rfl (rv_ev rfl) ?_
   refine hl_less (sx 0 rfl (sx 1 rfl (sx 2 rfl (sx 3 rfl (sx 8 rfl (sx 9 rfl (sx 10 rfl (sx 11 rfl (sx 12 rfl (sx 16 rfl (sx 17 rfl (sx 18 rfl (sx 39 rfl (sx 70 rfl (sub_nil _))))))))))))))) (.refl _) ?_
   refine hl_nil ?_
   refine hq_then ?_
   refine hc_block ?_
   refine hc_loop3 (α := Int) (β := Value) (γ := List Int) (fun k uo os => (bigE (ss.map sqPart) :: rowE 83 3 uq ss.length (ss.flatMap sqC) :: rowE 80 2 u gs.length (gs.flatMap anC) :: rowE 3 1 uo os.length (os.map (Value.int .i64)) :: boxE b5 #[.int .i64 (1 + xhR4), uq, u, uo] 28 :: boxE b1 #[.int .i64 0, .slice none 0 0, .slice none 0 0, .slice none 0 0] 28 :: curE g a len cap :: l)) (fun k uo os => [(0, .pointer (some ⟨g, 0, none⟩)), (1, .int .i64 q1), (2, .int .i64 q2), (3, .int .i64 q3), (8, .pointer (some ⟨b1, 0, none⟩)), (9, .pointer (some ⟨b5, 0, none⟩)), (10, .int .i64 xhR8), (11, .int .i64 xhR11), (12, .int .i64 ((1 + (1 + xhR4)) + xhR8)), (16, .int .i64 (2 * (((1 + (1 + xhR4)) + xhR8) + xhR11))), (18, .int .i64 k), (39, .bool false), (70, .bool false)]) (fun k uo os => (-1 ≤ k ∧ k ≤ 3) ∧ (os.length : Int) + k ≤ 3 ∧ OsOk (((1 + (1 + xhR4)) + xhR8) + xhR11) os) (fun k uo os => (k + 1).toNat) _ _ [] ⟨by omega, by simp; omega, fun x hx => absurd hx (by simp)⟩ (sx 0 rfl (sx 1 rfl (sx 2 rfl (sx 3 rfl (sx 8 rfl (sx 9 rfl (sx 10 rfl (sx 11 rfl (sx 12 rfl (sx 16 rfl (sx 18 rfl (sx 39 rfl (sx 70 rfl (sub_nil _)))))))))))))) ((.cons_cons _ (.cons_cons _ (.cons_cons _ (.cons_cons _ (.cons_cons _ (.cons_cons _ (.cons_cons _ (.refl _))))))))) ?_
   intro k uo os hi61
   obtain ⟨hk0, hol, hoo⟩ := hi61
   refine hc_seq ?_
   refine hc_seq ?_
   refine hc_region ?_
   refine hl_v rfl rfl rfl (rv_ev rfl) ?_
   refine hl_geq rfl rfl rfl rfl rfl rfl (fun h62 => ?_) (fun h62 => ?_)
   ·
    refine hl_less (sx 0 rfl (sx 1 rfl (sx 2 rfl (sx 3 rfl (sx 8 rfl (sx 9 rfl (sx 10 rfl (sx 11 rfl (sx 12 rfl (sx 16 rfl (sx 18 rfl (sx 39 rfl (sx 70 rfl (sx 115 rfl (sub_nil _))))))))))))))) (.refl _) ?_
    refine hl_nil ?_
    refine hq_then ?_
    refine hc_true rfl ?_
    refine hc_skip ?_
    refine hq_then ?_
    refine hc_seq ?_
    refine hc_block ?_
    refine hc_conv (curE g a len cap :: bigE (ss.map sqPart) :: rowE 83 3 uq ss.length (ss.flatMap sqC) :: rowE 80 2 u gs.length (gs.flatMap anC) :: rowE 3 1 uo os.length (os.map (Value.int .i64)) :: boxE b5 #[.int .i64 (1 + xhR4), uq, u, uo] 28 :: boxE b1 #[.int .i64 0, .slice none 0 0, .slice none 0 0, .slice none 0 0] 28 :: l) (conv_pick (src := [bigE (ss.map sqPart), rowE 83 3 uq ss.length (ss.flatMap sqC), rowE 80 2 u gs.length (gs.flatMap anC), rowE 3 1 uo os.length (os.map (Value.int .i64)), boxE b5 #[.int .i64 (1 + xhR4), uq, u, uo] 28, boxE b1 #[.int .i64 0, .slice none 0 0, .slice none 0 0, .slice none 0 0] 28, curE g a len cap]) (dst := [curE g a len cap, bigE (ss.map sqPart), rowE 83 3 uq ss.length (ss.flatMap sqC), rowE 80 2 u gs.length (gs.flatMap anC), rowE 3 1 uo os.length (os.map (Value.int .i64)), boxE b5 #[.int .i64 (1 + xhR4), uq, u, uo] 28, boxE b1 #[.int .i64 0, .slice none 0 0, .slice none 0 0, .slice none 0 0] 28]) (l := l) [6, 0, 1, 2, 3, 4, 5] (by decide) rfl) ?_
    refine hc_draw2 (l := (bigE (ss.map sqPart) :: rowE 83 3 uq ss.length (ss.flatMap sqC) :: rowE 80 2 u gs.length (gs.flatMap anC) :: rowE 3 1 uo os.length (os.map (Value.int .i64)) :: boxE b5 #[.int .i64 (1 + xhR4), uq, u, uo] 28 :: boxE b1 #[.int .i64 0, .slice none 0 0, .slice none 0 0, .slice none 0 0] 28 :: l)) (by kernel_rfl) 10 [0, 1, 2, 3, 4, 5, 6, 7, 8, 9] (List.take 10 _) (List.drop 10 _) [[], [0], [], [2], [], [], [5], [4, 6], [3, 7], [7, 8]] [118, 119, 120, 121, 122, 123, 124, 125, 126, 127] (fun i_ vs_ v_ p_ => match i_ with | 0 => v_ = .pointer (some ⟨b5, 0 + 3, none⟩) ∧ p_ = [] | 1 => v_ = uo ∧ p_ = [] | 2 => v_ = .int .i64 (2 * (((1 + (1 + xhR4)) + xhR8) + xhR11)) ∧ p_ = [] | 3 => v_ = .int .i64 ((2 * (((1 + (1 + xhR4)) + xhR8) + xhR11)) - 1) ∧ p_ = [] | 4 => v_ = .pointer (some ⟨g, 0, none⟩) ∧ p_ = [] | 5 => v_ = .int .i64 (2 * (((1 + (1 + xhR4)) + xhR8) + xhR11)) ∧ p_ = [] | 6 => v_ = .int .i64 (min (2 * (((1 + (1 + xhR4)) + xhR8) + xhR11)) 12) ∧ p_ = [] | 7 => (∃ pm_, p_ = [pm_] ∧ (fun u_ p_ => (∃ x_ : Int, u_ = .int .i64 x_ ∧ 0 ≤ x_ ∧ x_ < min (2 * (((1 + (1 + xhR4)) + xhR8) + xhR11)) 12) ∧ p_ = curE g a len cap) v_ pm_) | 8 => v_ = .int .i64 (((2 * (((1 + (1 + xhR4)) + xhR8) + xhR11)) - 1) - (intOf_o (List.getD vs_ 1 undef))) ∧ p_ = [] | 9 => IsRow_o 3 1 1 ([((2 * (((1 + (1 + xhR4)) + xhR8) + xhR11)) - 1) - (intOf_o (List.getD vs_ 0 undef))].map (Value.int .i64)) v_ p_ | _ => True) [[], [0], [], [2], [], [], [5], [4, 6], [3, 7], [7, 8]] [none, none, none, none, none, none, none, some 13, none, none] [curE g a len cap] [0, 1, 2, 3, 4, 5, 6, 7, 8, 9] 13 (List.take_append_drop 10 _).symm (by kernel_rfl) (by kernel_rfl) (by kernel_rfl) rfl rfl ?_ ?_
    ·
     refine ⟨?_, ?_, ?_, ?_, ?_, ?_, ?_, ?_, ?_, ?_, trivial⟩
     ·
      intro vf pf hmu hR
      refine Or.inl ⟨rfl, ?_⟩
      show RunQ _ _ _ (([] : List Nat).flatMap pf ++ _) (envOf _ vf [] ++ _) _ _
      refine rq_less (sx 9 rfl (sub_nil _)) (List.sublist_append_right _ _) ?_
      exact rq_v (rv_field (k0 := 3) rfl (by kernel_rfl) rfl)
     ·
      intro vf pf hmu hR
      have e0 : (vf 0) = .pointer (some ⟨b5, 0 + 3, none⟩) ∧ (pf 0) = [] := hR 0 (by decide)
      refine Or.inl ⟨rfl, ?_⟩
      show RunQ _ _ _ (([0] : List Nat).flatMap pf ++ _) (envOf _ vf [0] ++ _) _ _
      refine rq_less (sx 118 (congrArg some e0.1) (sub_nil _)) (List.sublist_append_right _ _) ?_
      exact rq_v (rv_load rfl (by kernel_rfl) rfl (box_cell 4 rfl rfl))
     ·
      intro vf pf hmu hR
      refine Or.inl ⟨rfl, ?_⟩
      show RunQ _ _ _ (([] : List Nat).flatMap pf ++ _) (envOf _ vf [] ++ _) _ _
      refine rq_less (sx 16 rfl (sub_nil _)) (List.sublist_append_right _ _) ?_
      exact rq_v (rv_ev rfl)
     ·
      intro vf pf hmu hR
      have e2 : (vf 2) = .int .i64 (2 * (((1 + (1 + xhR4)) + xhR8) + xhR11)) ∧ (pf 2) = [] := hR 2 (by decide)
      refine Or.inl ⟨rfl, ?_⟩
      show RunQ _ _ _ (([2] : List Nat).flatMap pf ++ _) (envOf _ vf [2] ++ _) _ _
      refine rq_less (sx 120 (congrArg some e2.1) (sub_nil _)) (List.sublist_append_right _ _) ?_
      exact rq_v (rv_sub rfl rfl rfl (by constructor <;> omega))
     ·
      intro vf pf hmu hR
      refine Or.inl ⟨rfl, ?_⟩
      show RunQ _ _ _ (([] : List Nat).flatMap pf ++ _) (envOf _ vf [] ++ _) _ _
      refine rq_less (sx 0 rfl (sub_nil _)) (List.sublist_append_right _ _) ?_
      exact rq_v (rv_ev rfl)
     ·
      intro vf pf hmu hR
      refine Or.inl ⟨rfl, ?_⟩
      show RunQ _ _ _ (([] : List Nat).flatMap pf ++ _) (envOf _ vf [] ++ _) _ _
      refine rq_less (sx 16 rfl (sub_nil _)) (List.sublist_append_right _ _) ?_
      exact rq_v (rv_ev rfl)
     ·
      intro vf pf hmu hR
      have e5 : (vf 5) = .int .i64 (2 * (((1 + (1 + xhR4)) + xhR8) + xhR11)) ∧ (pf 5) = [] := hR 5 (by decide)
      refine Or.inl ⟨rfl, ?_⟩
      show RunQ _ _ _ (([5] : List Nat).flatMap pf ++ _) (envOf _ vf [5] ++ _) _ _
      refine rq_less (sx 123 (congrArg some e5.1) (sub_nil _)) (List.sublist_append_right _ _) ?_
      exact rq_v (rv_min rfl rfl rfl)
     ·
      intro vf pf hmu hR
      have e4 : (vf 4) = .pointer (some ⟨g, 0, none⟩) ∧ (pf 4) = [] := hR 4 (by decide)
      have e6 : (vf 6) = .int .i64 (min (2 * (((1 + (1 + xhR4)) + xhR8) + xhR11)) 12) ∧ (pf 6) = [] := hR 6 (by decide)
      refine Or.inl ⟨rfl, ?_⟩
      show RunM _ _ _ (pf 13) (([4, 6] : List Nat).flatMap pf ++ _) (envOf _ vf [4, 6] ++ _) _ _
      rw [hmu]
      refine rm_less (X' := (bigE (ss.map sqPart) :: rowE 83 3 uq ss.length (ss.flatMap sqC) :: rowE 80 2 u gs.length (gs.flatMap anC) :: rowE 3 1 uo os.length (os.map (Value.int .i64)) :: boxE b5 #[.int .i64 (1 + xhR4), uq, u, uo] 28 :: boxE b1 #[.int .i64 0, .slice none 0 0, .slice none 0 0, .slice none 0 0] 28 :: l)) (sx 122 (congrArg some e4.1) (sx 124 (congrArg some e6.1) (sub_nil _))) (by first | (simp only [e4.2, e6.2, List.flatMap_cons, List.flatMap_nil, List.append_nil, List.nil_append, List.cons_append]; exact List.Sublist.refl _) | simp [e4.2, e6.2]) ?_
      exact rq_callM (R := (fun u_ p_ => (∃ x_ : Int, u_ = .int .i64 x_ ∧ 0 ≤ x_ ∧ x_ < min (2 * (((1 + (1 + xhR4)) + xhR8) + xhR11)) 12) ∧ p_ = curE g a len cap)) (by kernel_rfl) rfl (fun L w hX hm => belowN_mut g a len cap z (min (2 * (((1 + (1 + xhR4)) + xhR8) + xhR11)) 12) _ _ _ hm hb (by constructor <;> omega))
     ·
      intro vf pf hmu hR
      have e3 : (vf 3) = .int .i64 ((2 * (((1 + (1 + xhR4)) + xhR8) + xhR11)) - 1) ∧ (pf 3) = [] := hR 3 (by decide)
      have e7 : (∃ pm_, (pf 7) = [pm_] ∧ (fun u_ p_ => (∃ x_ : Int, u_ = .int .i64 x_ ∧ 0 ≤ x_ ∧ x_ < min (2 * (((1 + (1 + xhR4)) + xhR8) + xhR11)) 12) ∧ p_ = curE g a len cap) (vf 7) pm_) := hR 7 (by decide)
      obtain ⟨p64, p7, hR65⟩ := e7
      obtain ⟨v63, v7⟩ : ∃ x, vf 7 = x := ⟨_, rfl⟩
      rw [v7] at hR65
      obtain ⟨⟨xhR65, rfl, xhR650, xhR651⟩, rfl⟩ := hR65
      refine Or.inl ⟨rfl, ?_⟩
      show RunQ _ _ _ (([3, 7] : List Nat).flatMap pf ++ _) (envOf _ vf [3, 7] ++ _) _ _
      refine rq_less (l' := (curE g a len cap :: bigE (ss.map sqPart) :: rowE 83 3 uq ss.length (ss.flatMap sqC) :: rowE 80 2 u gs.length (gs.flatMap anC) :: rowE 3 1 uo os.length (os.map (Value.int .i64)) :: boxE b5 #[.int .i64 (1 + xhR4), uq, u, uo] 28 :: boxE b1 #[.int .i64 0, .slice none 0 0, .slice none 0 0, .slice none 0 0] 28 :: l)) (sx 121 (congrArg some e3.1) (sx 125 (congrArg some v7) (sub_nil _))) (by first | (simp only [p7, v7, e3.2, List.flatMap_cons, List.flatMap_nil, List.append_nil, List.nil_append, List.cons_append]; exact List.Sublist.refl _) | simp [p7, v7, e3.2]) ?_
      exact rq_mono (rq_v (rv_sub rfl rfl rfl (by constructor <;> omega))) (fun _ _ h => ⟨h.1.trans (by show _ = (.int .i64 (((2 * (((1 + (1 + xhR4)) + xhR8) + xhR11)) - 1) - (intOf_o (vf 7))) : Value); first | (rw [v7]; done) | (rw [v7]; rfl)), h.2⟩)
     ·
      intro vf pf hmu hR
      have e7 : (∃ pm_, (pf 7) = [pm_] ∧ (fun u_ p_ => (∃ x_ : Int, u_ = .int .i64 x_ ∧ 0 ≤ x_ ∧ x_ < min (2 * (((1 + (1 + xhR4)) + xhR8) + xhR11)) 12) ∧ p_ = curE g a len cap) (vf 7) pm_) := hR 7 (by decide)
      obtain ⟨p64, p7, hR65⟩ := e7
      obtain ⟨v63, v7⟩ : ∃ x, vf 7 = x := ⟨_, rfl⟩
      rw [v7] at hR65
      obtain ⟨⟨xhR65, rfl, xhR650, xhR651⟩, rfl⟩ := hR65
      have e8 : (vf 8) = .int .i64 (((2 * (((1 + (1 + xhR4)) + xhR8) + xhR11)) - 1) - (intOf_o (vf 7))) ∧ (pf 8) = [] := hR 8 (by decide)
      rw [v7] at e8
      refine Or.inl ⟨rfl, ?_⟩
      show RunQ _ _ _ (([7, 8] : List Nat).flatMap pf ++ _) (envOf _ vf [7, 8] ++ _) _ _
      refine rq_less (l' := (curE g a len cap :: bigE (ss.map sqPart) :: rowE 83 3 uq ss.length (ss.flatMap sqC) :: rowE 80 2 u gs.length (gs.flatMap anC) :: rowE 3 1 uo os.length (os.map (Value.int .i64)) :: boxE b5 #[.int .i64 (1 + xhR4), uq, u, uo] 28 :: boxE b1 #[.int .i64 0, .slice none 0 0, .slice none 0 0, .slice none 0 0] 28 :: l)) (sx 126 (congrArg some e8.1) (sub_nil _)) (by first | (simp only [p7, v7, e8.2, List.flatMap_cons, List.flatMap_nil, List.append_nil, List.nil_append, List.cons_append]; exact List.Sublist.refl _) | simp [p7, v7, e8.2]) ?_
      exact rq_mono (rq_buildSlice (z := .int .i64 0) (s := 1) (cs := ([((2 * (((1 + (1 + xhR4)) + xhR8) + xhR11)) - 1) - xhR65].map (Value.int .i64))) rfl Try.underlying26 (by kernel_rfl) (by decide) rfl (by kernel_rfl) rfl) (fun v_ p_ h => by show IsRow_o 3 1 1 ([((2 * (((1 + (1 + xhR4)) + xhR8) + xhR11)) - 1) - (intOf_o (vf 7))].map (Value.int .i64)) v_ p_; rw [v7]; exact h)
    ·
     intro vf pf hmu hR
     have e1 : (vf 1) = uo ∧ (pf 1) = [] := hR 1 (by decide)
     have e7 : (∃ pm_, (pf 7) = [pm_] ∧ (fun u_ p_ => (∃ x_ : Int, u_ = .int .i64 x_ ∧ 0 ≤ x_ ∧ x_ < min (2 * (((1 + (1 + xhR4)) + xhR8) + xhR11)) 12) ∧ p_ = curE g a len cap) (vf 7) pm_) := hR 7 (by decide)
     obtain ⟨p64, p7, hR65⟩ := e7
     obtain ⟨v63, v7⟩ : ∃ x, vf 7 = x := ⟨_, rfl⟩
     rw [v7] at hR65
     obtain ⟨⟨xhR65, rfl, xhR650, xhR651⟩, rfl⟩ := hR65
     have e9 : IsRow_o 3 1 1 ([((2 * (((1 + (1 + xhR4)) + xhR8) + xhR11)) - 1) - (intOf_o (vf 7))].map (Value.int .i64)) (vf 9) (pf 9) := hR 9 (by decide)
     rw [v7] at e9
     obtain ⟨g66, v9, p9⟩ := e9
     have q0 : (vf 0) = .pointer (some ⟨b5, 0 + 3, none⟩) ∧ (pf 0) = [] := hR 0 (by decide)
     have q1 : (vf 1) = uo ∧ (pf 1) = [] := hR 1 (by decide)
     have q2 : (vf 2) = .int .i64 (2 * (((1 + (1 + xhR4)) + xhR8) + xhR11)) ∧ (pf 2) = [] := hR 2 (by decide)
     have q3 : (vf 3) = .int .i64 ((2 * (((1 + (1 + xhR4)) + xhR8) + xhR11)) - 1) ∧ (pf 3) = [] := hR 3 (by decide)
     have q4 : (vf 4) = .pointer (some ⟨g, 0, none⟩) ∧ (pf 4) = [] := hR 4 (by decide)
     have q5 : (vf 5) = .int .i64 (2 * (((1 + (1 + xhR4)) + xhR8) + xhR11)) ∧ (pf 5) = [] := hR 5 (by decide)
     have q6 : (vf 6) = .int .i64 (min (2 * (((1 + (1 + xhR4)) + xhR8) + xhR11)) 12) ∧ (pf 6) = [] := hR 6 (by decide)
     have q8 : (vf 8) = .int .i64 (((2 * (((1 + (1 + xhR4)) + xhR8) + xhR11)) - 1) - (intOf_o (vf 7))) ∧ (pf 8) = [] := hR 8 (by decide)
     refine hl_less (l' := (curE g a len cap :: rowE 3 1 (.slice (some ⟨g66, 0, none⟩) 1 1) 1 ([((2 * (((1 + (1 + xhR4)) + xhR8) + xhR11)) - 1) - xhR65].map (Value.int .i64)) :: bigE (ss.map sqPart) :: rowE 83 3 uq ss.length (ss.flatMap sqC) :: rowE 80 2 u gs.length (gs.flatMap anC) :: rowE 3 1 uo os.length (os.map (Value.int .i64)) :: boxE b5 #[.int .i64 (1 + xhR4), uq, u, uo] 28 :: boxE b1 #[.int .i64 0, .slice none 0 0, .slice none 0 0, .slice none 0 0] 28 :: l)) (sx 0 rfl (sx 1 rfl (sx 2 rfl (sx 3 rfl (sx 8 rfl (sx 9 rfl (sx 10 rfl (sx 11 rfl (sx 12 rfl (sx 16 rfl (sx 18 rfl (sx 39 rfl (sx 70 rfl (sx 115 rfl (sx 119 (congrArg some e1.1) (sx 127 (congrArg some v9) (sub_nil _))))))))))))))))) (by first | (simp only [p7, v7, p9, v9, q0.2, q1.2, q2.2, q3.2, q4.2, q5.2, q6.2, q8.2, List.flatMap_cons, List.flatMap_nil, List.append_nil, List.nil_append, List.cons_append]; exact List.Sublist.refl _) | simp [p7, v7, p9, v9, q0.2, q1.2, q2.2, q3.2, q4.2, q5.2, q6.2, q8.2]) ?_
     simp only [List.drop_succ_cons, List.drop_zero]
     refine hl_append (i := 5) (z := .int .i64 0) (bytes := 8) (n' := (os ++ ([((2 * (((1 + (1 + xhR4)) + xhR8) + xhR11)) - 1) - xhR65])).length) (xs' := ((os ++ ([((2 * (((1 + (1 + xhR4)) + xhR8) + xhR11)) - 1) - xhR65])).map (Value.int .i64))) (L := fun v67 => (curE g a len cap :: rowE 3 1 (.slice (some ⟨g66, 0, none⟩) 1 1) 1 ([((2 * (((1 + (1 + xhR4)) + xhR8) + xhR11)) - 1) - xhR65].map (Value.int .i64)) :: bigE (ss.map sqPart) :: rowE 83 3 uq ss.length (ss.flatMap sqC) :: rowE 80 2 u gs.length (gs.flatMap anC) :: rowE 3 1 v67 ((os ++ ([((2 * (((1 + (1 + xhR4)) + xhR8) + xhR11)) - 1) - xhR65])).length) ((os ++ ([((2 * (((1 + (1 + xhR4)) + xhR8) + xhR11)) - 1) - xhR65])).map (Value.int .i64)) :: boxE b5 #[.int .i64 (1 + xhR4), uq, u, uo] 28 :: boxE b1 #[.int .i64 0, .slice none 0 0, .slice none 0 0, .slice none 0 0] 28 :: l)) rfl rfl rfl rfl Try.underlying26 (by kernel_rfl) (by kernel_rfl) rfl rfl rfl (rd_row 1 rfl) (ints_one _) (by first | omega | (simp; omega)) (len_app os ([((2 * (((1 + (1 + xhR4)) + xhR8) + xhR11)) - 1) - xhR65])) (ints_app os ([((2 * (((1 + (1 + xhR4)) + xhR8) + xhR11)) - 1) - xhR65])) (fun _ => rfl) ?_
     intro v67
     refine hl_v rfl rfl rfl (rv_field (k0 := 3) rfl (by kernel_rfl) rfl) ?_
     refine hl_one (i := 5) rfl (fun ho68 => ?_)
     refine hl_storeBox (i := 6) (l' := (curE g a len cap :: rowE 3 1 (.slice (some ⟨g66, 0, none⟩) 1 1) 1 ([((2 * (((1 + (1 + xhR4)) + xhR8) + xhR11)) - 1) - xhR65].map (Value.int .i64)) :: bigE (ss.map sqPart) :: rowE 83 3 uq ss.length (ss.flatMap sqC) :: rowE 80 2 u gs.length (gs.flatMap anC) :: rowE 3 1 v67 ((os ++ ([((2 * (((1 + (1 + xhR4)) + xhR8) + xhR11)) - 1) - xhR65])).length) ((os ++ ([((2 * (((1 + (1 + xhR4)) + xhR8) + xhR11)) - 1) - xhR65])).map (Value.int .i64)) :: boxE b5 #[.int .i64 (1 + xhR4), uq, u, v67] 28 :: boxE b1 #[.int .i64 0, .slice none 0 0, .slice none 0 0, .slice none 0 0] 28 :: l)) rfl rfl rfl (by kernel_rfl) rfl rfl ho68 rfl rfl rfl ?_
     refine hl_less (sx 0 rfl (sx 1 rfl (sx 2 rfl (sx 3 rfl (sx 8 rfl (sx 9 rfl (sx 10 rfl (sx 11 rfl (sx 12 rfl (sx 16 rfl (sx 18 rfl (sx 39 rfl (sx 70 rfl (sx 115 rfl (sub_nil _))))))))))))))) (.refl _) ?_
     refine hl_nil ?_
     refine hq_block_normal ?_
     refine hq_then ?_
     refine hc_region ?_
     refine hl_v rfl rfl rfl (rv_ev rfl) ?_
     refine hl_v rfl rfl rfl (rv_sub rfl rfl rfl (by constructor <;> omega)) ?_
     refine hl_v rfl rfl rfl (rv_ev rfl) ?_
     refine hl_less (sx 0 rfl (sx 1 rfl (sx 2 rfl (sx 3 rfl (sx 8 rfl (sx 9 rfl (sx 10 rfl (sx 11 rfl (sx 12 rfl (sx 16 rfl (sx 18 rfl (sx 39 rfl (sx 70 rfl (sx 115 rfl (sub_nil _))))))))))))))) (.refl _) ?_
     refine hl_nil ?_
     refine hq_conv (bigE (ss.map sqPart) :: rowE 83 3 uq ss.length (ss.flatMap sqC) :: rowE 80 2 u gs.length (gs.flatMap anC) :: rowE 3 1 v67 ((os ++ ([((2 * (((1 + (1 + xhR4)) + xhR8) + xhR11)) - 1) - xhR65])).length) ((os ++ ([((2 * (((1 + (1 + xhR4)) + xhR8) + xhR11)) - 1) - xhR65])).map (Value.int .i64)) :: boxE b5 #[.int .i64 (1 + xhR4), uq, u, v67] 28 :: boxE b1 #[.int .i64 0, .slice none 0 0, .slice none 0 0, .slice none 0 0] 28 :: curE g a len cap :: l) (conv_pick (src := [curE g a len cap, rowE 3 1 (.slice (some ⟨g66, 0, none⟩) 1 1) 1 ([((2 * (((1 + (1 + xhR4)) + xhR8) + xhR11)) - 1) - xhR65].map (Value.int .i64)), bigE (ss.map sqPart), rowE 83 3 uq ss.length (ss.flatMap sqC), rowE 80 2 u gs.length (gs.flatMap anC), rowE 3 1 v67 ((os ++ ([((2 * (((1 + (1 + xhR4)) + xhR8) + xhR11)) - 1) - xhR65])).length) ((os ++ ([((2 * (((1 + (1 + xhR4)) + xhR8) + xhR11)) - 1) - xhR65])).map (Value.int .i64)), boxE b5 #[.int .i64 (1 + xhR4), uq, u, v67] 28, boxE b1 #[.int .i64 0, .slice none 0 0, .slice none 0 0, .slice none 0 0] 28]) (dst := [bigE (ss.map sqPart), rowE 83 3 uq ss.length (ss.flatMap sqC), rowE 80 2 u gs.length (gs.flatMap anC), rowE 3 1 v67 ((os ++ ([((2 * (((1 + (1 + xhR4)) + xhR8) + xhR11)) - 1) - xhR65])).length) ((os ++ ([((2 * (((1 + (1 + xhR4)) + xhR8) + xhR11)) - 1) - xhR65])).map (Value.int .i64)), boxE b5 #[.int .i64 (1 + xhR4), uq, u, v67] 28, boxE b1 #[.int .i64 0, .slice none 0 0, .slice none 0 0, .slice none 0 0] 28, curE g a len cap]) (l := l) [2, 3, 4, 5, 6, 7, 0] (by decide) rfl) ?_
     exact hq_round3 (k - 1) v67 (os ++ ([((2 * (((1 + (1 + xhR4)) + xhR8) + xhR11)) - 1) - xhR65])) ⟨by omega, by simp; omega, os_app hoo (by unfold LtOk; omega)⟩ (by omega) (sx 0 rfl (sx 1 rfl (sx 2 rfl (sx 3 rfl (sx 8 rfl (sx 9 rfl (sx 10 rfl (sx 11 rfl (sx 12 rfl (sx 16 rfl (sx 18 rfl (sx 39 rfl (sx 70 rfl (sub_nil _)))))))))))))) ((.cons_cons _ (.cons_cons _ (.cons_cons _ (.cons_cons _ (.cons_cons _ (.cons_cons _ (.cons_cons _ (.refl _)))))))))
   ·
    refine hl_less (sx 0 rfl (sx 1 rfl (sx 2 rfl (sx 3 rfl (sx 8 rfl (sx 9 rfl (sx 10 rfl (sx 11 rfl (sx 12 rfl (sx 16 rfl (sx 18 rfl (sx 39 rfl (sx 70 rfl (sx 115 rfl (sub_nil _))))))))))))))) (.refl _) ?_
    refine hl_nil ?_
    refine hq_then ?_
    refine hc_false rfl ?_
    refine hc_exit ?_
    refine hq_then_exit ?_
    refine hq_then_exit ?_
    refine hq_block_exit ?_
    refine hq_then ?_
    refine hc_seq ?_
    refine hc_region ?_
    refine hl_v rfl rfl rfl (rv_loadN (cs := [.int .i64 (1 + xhR4), uq, u, uo]) rfl (by kernel_rfl) (by kernel_rfl) rfl rfl (box_part 4 rfl 0 rfl)) ?_
    refine hl_one (i := 3) rfl (fun ho69 => ?_)
    refine hl_one (i := 2) rfl (fun ho70 => ?_)
    refine hl_one (i := 1) rfl (fun ho71 => ?_)
    refine hl_storeBoxN (i := 5) (off := 0) (us := [.int .i64 (1 + xhR4), uq, u, uo])  (l' := (bigE (ss.map sqPart) :: rowE 83 3 uq ss.length (ss.flatMap sqC) :: rowE 80 2 u gs.length (gs.flatMap anC) :: rowE 3 1 uo os.length (os.map (Value.int .i64)) :: boxE b5 #[.int .i64 (1 + xhR4), uq, u, uo] 28 :: boxE b1 #[.int .i64 (1 + xhR4), uq, u, uo] 28 :: curE g a len cap :: l)) rfl rfl rfl (by kernel_rfl) rfl rfl rfl (all_cons rfl (all_cons ho71 (all_cons ho70 (all_cons ho69 all_nil)))) rfl rfl rfl ?_
    refine hl_less (sx 0 rfl (sx 1 rfl (sx 2 rfl (sx 3 rfl (sx 8 rfl (sx 9 rfl (sx 10 rfl (sx 11 rfl (sx 12 rfl (sx 16 rfl (sx 18 rfl (sx 39 rfl (sx 70 rfl (sx 115 rfl (sub_nil _))))))))))))))) (.refl _) ?_
    refine hl_nil ?_
    refine hq_then ?_
    refine hc_ret ?_
    refine hq_oneX (i := 1) rfl (fun oQ => ?_)
    refine hq_oneX (i := 2) rfl (fun oA => ?_)
    refine hq_oneX (i := 3) rfl (fun oO => ?_)
    refine hq_conv (bigE (ss.map sqPart) :: rowE 83 3 uq ss.length (ss.flatMap sqC) :: rowE 80 2 u gs.length (gs.flatMap anC) :: rowE 3 1 uo os.length (os.map (Value.int .i64)) :: curE g a len cap :: boxE b1 #[.int .i64 (1 + xhR4), uq, u, uo] 28 :: l) (conv_pick (src := [bigE (ss.map sqPart), rowE 83 3 uq ss.length (ss.flatMap sqC), rowE 80 2 u gs.length (gs.flatMap anC), rowE 3 1 uo os.length (os.map (Value.int .i64)), boxE b5 #[.int .i64 (1 + xhR4), uq, u, uo] 28, boxE b1 #[.int .i64 (1 + xhR4), uq, u, uo] 28, curE g a len cap]) (dst := [bigE (ss.map sqPart), rowE 83 3 uq ss.length (ss.flatMap sqC), rowE 80 2 u gs.length (gs.flatMap anC), rowE 3 1 uo os.length (os.map (Value.int .i64)), curE g a len cap, boxE b1 #[.int .i64 (1 + xhR4), uq, u, uo] 28]) (l := l) [0, 1, 2, 3, 6, 5] (by decide) rfl) ?_
    refine hq_conv (bigE [curE g a len cap, ntE (Nt.mk (1 + xhR4) uq u uo ss gs os)] :: boxE b1 #[.int .i64 (1 + xhR4), uq, u, uo] 28 :: l) (fun w hm => by
      have h1 : Mem _ ([bigE (ss.map sqPart), rowE 83 3 uq ss.length (ss.flatMap sqC)] ++ (rowE 80 2 u gs.length (gs.flatMap anC) :: rowE 3 1 uo os.length (os.map (Value.int .i64)) :: curE g a len cap :: boxE b1 #[.int .i64 (1 + xhR4), uq, u, uo] 28 :: l)) w := hm
      have h2 : Mem _ ([sqsE uq ss, rowE 80 2 u gs.length (gs.flatMap anC), rowE 3 1 uo os.length (os.map (Value.int .i64))] ++ (curE g a len cap :: boxE b1 #[.int .i64 (1 + xhR4), uq, u, uo] 28 :: l)) w := h1.big
      have h3 : Mem _ (ntE (Nt.mk (1 + xhR4) uq u uo ss gs os) :: curE g a len cap :: boxE b1 #[.int .i64 (1 + xhR4), uq, u, uo] 28 :: l) w := Mem.big h2
      exact Mem.big (ps := [curE g a len cap, ntE (Nt.mk (1 + xhR4) uq u uo ss gs os)]) (h3.perm (.swap _ _ _))) ?_
    exact hq_ret (rs := [.cell 8 28]) (vs := [.agg #[.int .i64 (1 + xhR4), uq, u, uo]]) rfl ⟨⟨b1, 0, [.int .i64 (1 + xhR4), uq, u, uo], rfl, rfl, by kernel_rfl, by kernel_rfl, box_part 1 rfl 0 rfl⟩, trivial⟩ rfl (fun w hm => ⟨_, bigE [curE g a len cap, ntE (Nt.mk (1 + xhR4) uq u uo ss gs os)], rfl, ⟨Nt.mk (1 + xhR4) uq u uo ss gs os, rfl, rfl, ⟨oQ, oA, oO⟩, nt_mk (by omega) (by omega) (by omega) (by omega) (by omega) hso hgo hoo (by omega) (by omega), by dsimp only; omega, by dsimp only; omega, by dsimp only; omega⟩, hm.sub (.cons_cons _ (.cons _ (.refl _)))⟩)
open Go.RowKit
theorem and01 {a b : Int} (ha : a = 0 ∨ a = 1) (hb : b = 0 ∨ b = 1) : bits .and .i64 a b = a * b := by
  rcases ha with e | e <;> rcases hb with e' | e' <;> rw [e, e'] <;> decide
theorem xor01 {a l : Int} (ha : a = 0 ∨ a = 1) : bits .xor .i64 a (l % 2) = if l % 2 = 0 then a else 1 - a := by
  rcases (show l % 2 = 0 ∨ l % 2 = 1 by omega) with e | e <;> rcases ha with e' | e' <;> rw [e, e'] <;> decide
theorem andNot_small {v : Int} (h0 : 0 ≤ v) (h1 : v ≤ 31) : bits .andNot .i64 v 1 = v - v % 2 := by
  have key : ∀ m : Fin 32, bits .andNot .i64 ((m.val : Nat) : Int) 1 = ((m.val : Nat) : Int) - ((m.val : Nat) : Int) % 2 := by decide
  have := key ⟨v.toNat, by omega⟩
  rw [show (((⟨v.toNat, by omega⟩ : Fin 32).val : Nat) : Int) = v by show ((v.toNat : Nat) : Int) = v; omega] at this
  exact this
/-- a list and zeros behind it -/
def fillZ (C : Nat) (vs : List Int) : List Int := vs ++ List.replicate (C - vs.length) 0
theorem fill_len {C : Nat} {vs : List Int} (h : vs.length ≤ C) : (fillZ C vs).length = C := by simp [fillZ]; omega
theorem fill_get {C : Nat} {vs : List Int} {k : Nat} (h : k < vs.length) : (fillZ C vs).getD k 0 = vs.getD k 0 := getD_left h
theorem fill_all {C : Nat} {vs : List Int} (h : vs.length = C) : fillZ C vs = vs := by unfold fillZ; rw [h, Nat.sub_self]; simp
theorem fill_set {C : Nat} {vs : List Int} {x : Int} {j : Nat} (hj : j = vs.length) (h : vs.length < C) : (fillZ C vs).set j x = fillZ C (vs ++ [x]) := by
  subst hj
  unfold fillZ
  rw [List.set_append_right _ _ (Nat.le_refl _), Nat.sub_self, List.length_append, List.length_singleton, show C - vs.length = (C - (vs.length + 1)) + 1 by omega, List.replicate_succ, List.set_cons_zero]
  simp
theorem fill_one {C : Nat} (h : 1 ≤ C) : List.replicate C (0 : Int) = fillZ C [0] := by
  unfold fillZ
  obtain ⟨c, rfl⟩ : ∃ c, C = c + 1 := ⟨C - 1, by omega⟩
  simp [List.replicate_succ]
def preA (n : Nt) (inp : Int) (k : Nat) : List Int := [0] ++ (List.range k).map (fun k => inp / 2 ^ k % 2)
def preB (n : Nt) (st : List Int) (inp : Int) (k : Nat) : List Int := preA n inp n.ins.toNat ++ (st.take k).map (· % 2)
theorem preA_len (n : Nt) (inp : Int) (k : Nat) : (preA n inp k).length = 1 + k := by simp [preA]; omega
theorem preA_step (n : Nt) (inp : Int) (k : Nat) : preA n inp k ++ [inp / 2 ^ k % 2] = preA n inp (k + 1) := by unfold preA; rw [List.range_succ, List.map_append, List.append_assoc]; rfl
theorem preB_len (n : Nt) (st : List Int) (inp : Int) {k : Nat} (h : k ≤ st.length) : (preB n st inp k).length = 1 + n.ins.toNat + k := by simp [preB, preA_len]; omega
theorem preB_step (n : Nt) (st : List Int) (inp : Int) {k : Nat} (h : k < st.length) : preB n st inp k ++ [st.getD k 0 % 2] = preB n st inp (k + 1) := by unfold preB; rw [take_snocG 0 h, List.map_append, List.append_assoc]; rfl
theorem preB_zero (n : Nt) (st : List Int) (inp : Int) : preA n inp n.ins.toNat = preB n st inp 0 := by simp [preB]
theorem preB_end (n : Nt) (st : List Int) (inp : Int) : preB n st inp st.length = valL n st inp 0 := by
  show preB n st inp st.length = leafL n st inp
  unfold preB preA leafL; rw [List.take_length]
def seqZ (kd v : Int) : Int := if kd = 0 then 0 else v - v % 2 + v / 2 % 2
theorem seqZ_pos {kd v : Int} (h : 0 ≤ v) : 0 ≤ seqZ kd v := by unfold seqZ; split <;> omega
structure StOk (n : Nt) (st : List Int) : Prop where
  len : st.length = n.ss.length
  rng : ∀ k, k < n.ss.length → 0 ≤ st.getD k 0 ∧ st.getD k 0 ≤ 31 ∧ ((n.ss.getD k sq0).kd = 0 → st.getD k 0 ≤ 1)
theorem start_ok {n : Nt} (h : NtOk n) : StOk n (stL n) := ⟨str_len n (Nat.le_refl _), fun k hk => by
  rw [st_at n hk]
  rcases (h.sq _ (getD_memX (d := sq0) hk)).kind with ⟨a, b, _⟩ | ⟨a, b, _⟩
  · exact ⟨b.1, by omega, fun _ => b.2⟩
  · exact ⟨b.1, b.2, fun h => by omega⟩⟩
set_option maxHeartbeats 4000000 in
set_option maxRecDepth 100000 in
theorem l01In_any0 (x lo hi : Int) (w : World)  :
  Calls Try.prog 62 #[.int .i64 x, .int .i64 lo, .int .i64 hi] w (Ans w (.bool (inR x lo hi))) := by
 refine calls_hc (N := 15) (args := [.int .i64 x, .int .i64 lo, .int .i64 hi]) Try.func62 rfl rfl ?_
 refine hc_less _ (sx 0 rfl (sx 1 rfl (sx 2 rfl (sub_nil _)))) (.refl _) ?_
 refine hc_seq ?_
 refine hc_region ?_
 refine hl_v rfl rfl rfl (rv_ev rfl) ?_
 refine hl_less (sx 0 rfl (sx 1 rfl (sx 2 rfl (sx 6 rfl (sub_nil _))))) (.refl _) ?_
 refine hl_nil ?_
 refine hq_then ?_
 refine hc_seq ?_
 refine hc_region ?_
 refine hl_v rfl rfl rfl (rv_ev rfl) ?_
 refine hl_v rfl rfl rfl (rv_ev rfl) ?_
 refine hl_geq rfl rfl rfl rfl rfl rfl (fun h1 => ?_) (fun h1 => ?_)
 ·
  refine hl_v rfl rfl rfl (rv_ev rfl) ?_
  refine hl_v rfl rfl rfl (rv_ev rfl) ?_
  refine hl_v rfl rfl rfl (rv_ev rfl) ?_
  refine hl_leq rfl rfl rfl rfl rfl rfl (fun h2 => ?_) (fun h2 => ?_)
  ·
   refine hl_v rfl rfl rfl (rv_ev rfl) ?_
   refine hl_v rfl rfl rfl (rv_ev rfl) ?_
   refine hl_less (sx 0 rfl (sx 1 rfl (sx 2 rfl (sx 6 rfl (sub_nil _))))) (.refl _) ?_
   refine hl_nil ?_
   refine hq_then ?_
   refine hc_ret ?_
   exact hq_ans rfl rfl (congrArg _ (((inR_iff _ _ _).2 (by omega)).symm))
  ·
   refine hl_v rfl rfl rfl (rv_ev rfl) ?_
   refine hl_v rfl rfl rfl (rv_ev rfl) ?_
   refine hl_less (sx 0 rfl (sx 1 rfl (sx 2 rfl (sx 6 rfl (sub_nil _))))) (.refl _) ?_
   refine hl_nil ?_
   refine hq_then ?_
   refine hc_ret ?_
   exact hq_ans rfl rfl (congrArg _ ((Bool.eq_false_iff.2 (fun h => by have := (inR_iff _ _ _).1 h; omega)).symm))
 ·
  refine hl_v rfl rfl rfl (rv_ev rfl) ?_
  refine hl_skip rfl rfl rfl ?_
  refine hl_skip rfl rfl rfl ?_
  refine hl_skip rfl rfl rfl ?_
  refine hl_v rfl rfl rfl (rv_ev rfl) ?_
  refine hl_v rfl rfl rfl (rv_ev rfl) ?_
  refine hl_less (sx 0 rfl (sx 1 rfl (sx 2 rfl (sx 6 rfl (sub_nil _))))) (.refl _) ?_
  refine hl_nil ?_
  refine hq_then ?_
  refine hc_ret ?_
  exact hq_ans rfl rfl (congrArg _ ((Bool.eq_false_iff.2 (fun h => by have := (inR_iff _ _ _).1 h; omega)).symm))
set_option maxHeartbeats 4000000 in
set_option maxRecDepth 100000 in
theorem specNodeCount_yes (n : Nt) (w : World) (hr : RdsNt w n) (hn : NtOk n) :
  Calls Try.prog 13 #[.agg #[.int .i64 n.ins, n.sv, n.av, n.ov]] w (Ans w (.int .i64 n.cnt)) := by
 have hi0 := hn.i0
 have hi1 := hn.i1
 have hs1 := hn.s1
 have ha1 := hn.a1
 have ho1 := hn.o1
 have hcnt : n.cnt = 1 + n.ins + n.ss.length + n.gs.length := rfl
 have hfst : n.fst = 1 + n.ins + n.ss.length := rfl
 refine calls_hc (N := 36) (args := [.agg #[.int .i64 n.ins, n.sv, n.av, n.ov]]) Try.func13 rfl rfl ?_
 refine hc_less _ (sx 0 rfl (sub_nil _)) (.refl _) ?_
 refine hc_seq ?_
 refine hc_region ?_
 refine hl_box rfl rfl rfl (rq_box rfl rfl) ?_
 intro b1
 refine hl_v rfl rfl rfl (rv_ev rfl) ?_
 refine hl_less (sx 0 rfl (sx 1 rfl (sx 2 rfl (sub_nil _)))) (.refl _) ?_
 refine hl_nil ?_
 refine hq_then ?_
 refine hc_seq ?_
 refine hc_seq ?_
 refine hc_region ?_
 refine hl_v rfl rfl rfl (rv_field (k0 := 0) rfl (by kernel_rfl) rfl) ?_
 refine hl_v rfl rfl rfl (rv_load rfl (by kernel_rfl) rfl (box_cell 0 rfl rfl)) ?_
 refine hl_callV rfl rfl rfl (rq_call (by kernel_rfl) rfl (fun w hm => ret_ans (l01In_any0 n.ins 0 20 w))) ?_
 refine hl_bool (fun h2 => ?_) (fun h2 => absurd ((((inR_iff _ _ _).2 (by omega))).symm.trans h2) (by decide))
 refine hl_v rfl rfl rfl (rv_ev rfl) ?_
 refine hl_v rfl rfl rfl (rv_ev rfl) ?_
 refine hl_v rfl rfl rfl (rv_field (k0 := 1) rfl (by kernel_rfl) rfl) ?_
 refine hl_v rfl rfl rfl (rv_load rfl (by kernel_rfl) rfl (box_cell 0 rfl rfl)) ?_
 refine hl_v rfl rfl rfl (rv_len rfl Try.underlying24 rfl (rd_old hr.sq)) ?_
 refine hl_gtr rfl rfl rfl rfl rfl rfl (fun h3 => absurd h3 (by omega)) (fun h3 => ?_)
 refine hl_v rfl rfl rfl (rv_ev rfl) ?_
 refine hl_v rfl rfl rfl (rv_ev rfl) ?_
 refine hl_v rfl rfl rfl (rv_field (k0 := 2) rfl (by kernel_rfl) rfl) ?_
 refine hl_v rfl rfl rfl (rv_load rfl (by kernel_rfl) rfl (box_cell 0 rfl rfl)) ?_
 refine hl_v rfl rfl rfl (rv_len rfl Try.underlying25 rfl (rd_old hr.an)) ?_
 refine hl_gtr rfl rfl rfl rfl rfl rfl (fun h4 => absurd h4 (by omega)) (fun h4 => ?_)
 refine hl_v rfl rfl rfl (rv_ev rfl) ?_
 refine hl_v rfl rfl rfl (rv_ev rfl) ?_
 refine hl_v rfl rfl rfl (rv_field (k0 := 3) rfl (by kernel_rfl) rfl) ?_
 refine hl_v rfl rfl rfl (rv_load rfl (by kernel_rfl) rfl (box_cell 0 rfl rfl)) ?_
 refine hl_v rfl rfl rfl (rv_len rfl Try.underlying26 rfl (rd_old hr.ou)) ?_
 refine hl_gtr rfl rfl rfl rfl rfl rfl (fun h5 => absurd h5 (by omega)) (fun h5 => ?_)
 refine hl_v rfl rfl rfl (rv_ev rfl) ?_
 refine hl_less (sx 0 rfl (sx 1 rfl (sx 2 rfl (sx 24 rfl (sub_nil _))))) (.refl _) ?_
 refine hl_nil ?_
 refine hq_then ?_
 refine hc_false rfl ?_
 refine hc_skip ?_
 refine hq_then ?_
 refine hc_seq ?_
 refine hc_region ?_
 refine hl_v rfl rfl rfl (rv_field (k0 := 0) rfl (by kernel_rfl) rfl) ?_
 refine hl_v rfl rfl rfl (rv_load rfl (by kernel_rfl) rfl (box_cell 0 rfl rfl)) ?_
 refine hl_v rfl rfl rfl (rv_add rfl rfl rfl (by constructor <;> omega)) ?_
 refine hl_v rfl rfl rfl (rv_field (k0 := 1) rfl (by kernel_rfl) rfl) ?_
 refine hl_v rfl rfl rfl (rv_load rfl (by kernel_rfl) rfl (box_cell 0 rfl rfl)) ?_
 refine hl_v rfl rfl rfl (rv_len rfl Try.underlying24 rfl (rd_old hr.sq)) ?_
 refine hl_v rfl rfl rfl (rv_add rfl rfl rfl (by constructor <;> omega)) ?_
 refine hl_v rfl rfl rfl (rv_field (k0 := 2) rfl (by kernel_rfl) rfl) ?_
 refine hl_v rfl rfl rfl (rv_load rfl (by kernel_rfl) rfl (box_cell 0 rfl rfl)) ?_
 refine hl_v rfl rfl rfl (rv_len rfl Try.underlying25 rfl (rd_old hr.an)) ?_
 refine hl_v rfl rfl rfl (rv_add rfl rfl rfl (by constructor <;> omega)) ?_
 refine hl_v rfl rfl rfl (rv_ev rfl) ?_
 refine hl_less (sx 0 rfl (sx 1 rfl (sx 2 rfl (sx 24 rfl (sub_nil _))))) (.refl _) ?_
 refine hl_nil ?_
 refine hq_then ?_
 refine hc_ret ?_
 exact hq_ans rfl rfl rfl
set_option maxHeartbeats 4000000 in
set_option maxRecDepth 100000 in
theorem l08First_yes (n : Nt) (w : World) (hr : RdsNt w n) (hn : NtOk n) :
  Calls Try.prog 65 #[.agg #[.int .i64 n.ins, n.sv, n.av, n.ov]] w (Ans w (.int .i64 n.fst)) := by
 have hi0 := hn.i0
 have hi1 := hn.i1
 have hs1 := hn.s1
 have ha1 := hn.a1
 have ho1 := hn.o1
 have hcnt : n.cnt = 1 + n.ins + n.ss.length + n.gs.length := rfl
 have hfst : n.fst = 1 + n.ins + n.ss.length := rfl
 refine calls_hc (N := 10) (args := [.agg #[.int .i64 n.ins, n.sv, n.av, n.ov]]) Try.func65 rfl rfl ?_
 refine hc_less _ (sx 0 rfl (sub_nil _)) (.refl _) ?_
 refine hc_seq ?_
 refine hc_region ?_
 refine hl_box rfl rfl rfl (rq_box rfl rfl) ?_
 intro b1
 refine hl_v rfl rfl rfl (rv_ev rfl) ?_
 refine hl_less (sx 0 rfl (sx 1 rfl (sx 2 rfl (sub_nil _)))) (.refl _) ?_
 refine hl_nil ?_
 refine hq_then ?_
 refine hc_seq ?_
 refine hc_region ?_
 refine hl_v rfl rfl rfl (rv_field (k0 := 0) rfl (by kernel_rfl) rfl) ?_
 refine hl_v rfl rfl rfl (rv_load rfl (by kernel_rfl) rfl (box_cell 0 rfl rfl)) ?_
 refine hl_v rfl rfl rfl (rv_add rfl rfl rfl (by constructor <;> omega)) ?_
 refine hl_v rfl rfl rfl (rv_field (k0 := 1) rfl (by kernel_rfl) rfl) ?_
 refine hl_v rfl rfl rfl (rv_load rfl (by kernel_rfl) rfl (box_cell 0 rfl rfl)) ?_
 refine hl_v rfl rfl rfl (rv_len rfl Try.underlying24 rfl (rd_old hr.sq)) ?_
 refine hl_v rfl rfl rfl (rv_add rfl rfl rfl (by constructor <;> omega)) ?_
 refine hl_v rfl rfl rfl (rv_ev rfl) ?_
 refine hl_less (sx 0 rfl (sx 1 rfl (sx 2 rfl (sub_nil _)))) (.refl _) ?_
 refine hl_nil ?_
 refine hq_then ?_
 refine hc_ret ?_
 exact hq_ans rfl rfl rfl
set_option maxHeartbeats 4000000 in
set_option maxRecDepth 100000 in
theorem l08Lit_yes (x m : Int) (w : World) (hx : LtOk x m) (hm : m ≤ 100000) :
  Calls Try.prog 123 #[.int .i64 x, .int .i64 m] w (Ans w (.bool true)) := by
 unfold LtOk at hx
 refine calls_hc (N := 13) (args := [.int .i64 x, .int .i64 m]) Try.func123 rfl rfl ?_
 refine hc_less _ (sx 0 rfl (sx 1 rfl (sub_nil _))) (.refl _) ?_
 refine hc_seq ?_
 refine hc_region ?_
 refine hl_v rfl rfl rfl (rv_ev rfl) ?_
 refine hl_less (sx 0 rfl (sx 1 rfl (sx 4 rfl (sub_nil _)))) (.refl _) ?_
 refine hl_nil ?_
 refine hq_then ?_
 refine hc_seq ?_
 refine hc_region ?_
 refine hl_v rfl rfl rfl (rv_ev rfl) ?_
 refine hl_geq rfl rfl rfl rfl rfl rfl (fun h1 => ?_) (fun h1 => absurd h1 (by omega))
 refine hl_v rfl rfl rfl (rv_ev rfl) ?_
 refine hl_v rfl rfl rfl (rv_ev rfl) ?_
 refine hl_v rfl rfl rfl (rv_quo rfl rfl rfl (by refine ⟨?_, ?_, ?_⟩ <;> omega)) ?_
 refine hl_v rfl rfl rfl (rv_ev rfl) ?_
 refine hl_lss rfl rfl rfl rfl rfl rfl (fun h2 => ?_) (fun h2 => absurd h2 (by omega))
 refine hl_v rfl rfl rfl (rv_ev rfl) ?_
 refine hl_v rfl rfl rfl (rv_ev rfl) ?_
 refine hl_less (sx 0 rfl (sx 1 rfl (sx 4 rfl (sub_nil _)))) (.refl _) ?_
 refine hl_nil ?_
 refine hq_then ?_
 refine hc_ret ?_
 exact hq_ans rfl rfl rfl
set_option maxHeartbeats 4000000 in
set_option maxRecDepth 100000 in
theorem l08Roots_ret (n : Nt) (w : World) (hr : RdsNt w n) (hn : NtOk n) :
  Calls Try.prog 90 #[.agg #[.int .i64 n.ins, n.sv, n.av, n.ov]] w (Ret w (fun v' post => post = [rowE 3 1 v' (rtsL n n.ss.length).length ((rtsL n n.ss.length).map (Value.int .i64))])) := by
 have hi0 := hn.i0
 have hi1 := hn.i1
 have hs1 := hn.s1
 have ha1 := hn.a1
 have ho1 := hn.o1
 have hcnt : n.cnt = 1 + n.ins + n.ss.length + n.gs.length := rfl
 have hfst : n.fst = 1 + n.ins + n.ss.length := rfl
 refine calls_hc (N := 25) (args := [.agg #[.int .i64 n.ins, n.sv, n.av, n.ov]]) Try.func90 rfl rfl ?_
 refine hc_less _ (sx 0 rfl (sub_nil _)) (.refl _) ?_
 refine hc_seq ?_
 refine hc_region ?_
 refine hl_box rfl rfl rfl (rq_box rfl rfl) ?_
 intro b1
 refine hl_v rfl rfl rfl (rv_ev rfl) ?_
 refine hl_less (sx 0 rfl (sx 1 rfl (sx 2 rfl (sub_nil _)))) (.refl _) ?_
 refine hl_nil ?_
 refine hq_then ?_
 refine hc_seq ?_
 refine hc_region ?_
 refine hl_row rfl rfl rfl (rq_slice0 (s := 1) rfl Try.underlying26 (by kernel_rfl)) ?_
 intro g2
 refine hl_v rfl rfl rfl (rv_field (k0 := 3) rfl (by kernel_rfl) rfl) ?_
 refine hl_v rfl rfl rfl (rv_load rfl (by kernel_rfl) rfl (box_cell 1 rfl rfl)) ?_
 refine hl_append (i := 0) (z := .int .i64 0) (bytes := 8) (n' := n.os.length) (xs' := (n.os.map (Value.int .i64))) (L := fun v3 => [rowE 3 1 v3 n.os.length (n.os.map (Value.int .i64)), boxE b1 #[.int .i64 n.ins, n.sv, n.av, n.ov] 28]) rfl rfl rfl rfl Try.underlying26 (by kernel_rfl) (by kernel_rfl) rfl rfl rfl (rd_old hr.ou) (ints_one _) (by first | omega | (simp; omega)) ((Nat.zero_add _)) ((List.nil_append _)) (fun _ => rfl) ?_
 intro v3
 refine hl_v rfl rfl rfl (rv_ev rfl) ?_
 refine hl_less (sx 0 rfl (sx 1 rfl (sx 2 rfl (sx 3 rfl (sub_nil _))))) (.refl _) ?_
 refine hl_nil ?_
 refine hq_then ?_
 refine hc_seq ?_
 refine hc_seq ?_
 refine hc_region ?_
 refine hl_v rfl rfl rfl (rv_ev rfl) ?_
 refine hl_less (sx 0 rfl (sx 1 rfl (sx 2 rfl (sx 3 rfl (sx 4 rfl (sub_nil _)))))) (.refl _) ?_
 refine hl_nil ?_
 refine hq_then ?_
 refine hc_block ?_
 refine hc_loop3 (α := Nat) (β := Value) (γ := List Int) (fun k u zs => [rowE 3 1 u zs.length (zs.map (Value.int .i64)), boxE b1 #[.int .i64 n.ins, n.sv, n.av, n.ov] 28]) (fun k u zs => [(0, .agg #[.int .i64 n.ins, n.sv, n.av, n.ov]), (1, .pointer (some ⟨b1, 0, none⟩)), (2, .slice none 0 0), (3, u), (4, .int .i64 (k : Int))]) (fun k u zs => k ≤ n.ss.length ∧ zs = rtsL n k) (fun k u zs => n.ss.length - k) 0 _ n.os ⟨by omega, by simp [rtsL]⟩ (sx 0 rfl (sx 1 rfl (sx 2 rfl (sx 3 rfl (sx 4 rfl (sub_nil _)))))) ((.cons_cons _ (.cons_cons _ .slnil))) ?_
 intro k u zs hi4
 obtain ⟨hk, hz⟩ := hi4
 have hzl : zs.length ≤ 16 + 4 * k := by rw [hz]; exact rts_len hn k hk
 refine hc_seq ?_
 refine hc_seq ?_
 refine hc_region ?_
 refine hl_v rfl rfl rfl (rv_ev rfl) ?_
 refine hl_v rfl rfl rfl (rv_field (k0 := 1) rfl (by kernel_rfl) rfl) ?_
 refine hl_v rfl rfl rfl (rv_load rfl (by kernel_rfl) rfl (box_cell 1 rfl rfl)) ?_
 refine hl_v rfl rfl rfl (rv_len rfl Try.underlying24 rfl (rd_old hr.sq)) ?_
 refine hl_lss rfl rfl rfl rfl rfl rfl (fun h5 => ?_) (fun h5 => ?_)
 ·
  refine hl_less (sx 0 rfl (sx 1 rfl (sx 2 rfl (sx 3 rfl (sx 4 rfl (sx 13 rfl (sub_nil _))))))) (.refl _) ?_
  refine hl_nil ?_
  refine hq_then ?_
  refine hc_true rfl ?_
  refine hc_skip ?_
  refine hq_then ?_
  refine hc_seq ?_
  refine hc_block ?_
  refine hc_region ?_
  refine hl_v rfl rfl rfl (rv_ev rfl) ?_
  refine hl_v rfl rfl rfl (rv_field (k0 := 1) rfl (by kernel_rfl) rfl) ?_
  have hx4 := (hn.sq _ (getD_memX (d := sq0) (show k < n.ss.length by omega))).len
  refine hl_v rfl rfl rfl (rv_load rfl (by kernel_rfl) rfl (box_cell 1 rfl rfl)) ?_
  refine hl_v rfl rfl rfl (rv_ev rfl) ?_
  refine hl_v rfl rfl rfl (rv_index (s := 3) rfl Try.underlying24 (by kernel_rfl) rfl rfl (rd_old hr.sq) (by omega) (by first | omega | (simp only [List.length_set]; omega))) ?_
  refine hl_v rfl rfl rfl (rv_fieldEl (k0 := 2) rfl (by kernel_rfl) rfl (rd_old hr.sq) (by first | omega | (simp only [List.length_set]; omega))) ?_
  refine hl_v rfl rfl rfl (rv_loadEl (u := (n.ss.getD k sq0).iv) rfl (by kernel_rfl) rfl (rd_old hr.sq) ((flat_at sqC 3 (fun _ => rfl) n.ss sq0 (show k < _ by first | omega | (simp only [List.length_set]; omega)) (by decide)).trans rfl)) ?_
  refine hl_append (i := 0) (z := .int .i64 0) (bytes := 8) (n' := (zs ++ ((n.ss.getD k sq0).xs)).length) (xs' := ((zs ++ ((n.ss.getD k sq0).xs)).map (Value.int .i64))) (L := fun v6 => [rowE 3 1 v6 ((zs ++ ((n.ss.getD k sq0).xs)).length) ((zs ++ ((n.ss.getD k sq0).xs)).map (Value.int .i64)), boxE b1 #[.int .i64 n.ins, n.sv, n.av, n.ov] 28]) rfl rfl rfl rfl Try.underlying26 (by kernel_rfl) (by kernel_rfl) rfl rfl rfl (fun w hm => (hr.at (k := k) (by omega)).below hm.bel) (ints_one _) (by first | omega | (simp; omega)) (len_app zs ((n.ss.getD k sq0).xs)) (ints_app zs ((n.ss.getD k sq0).xs)) (fun _ => rfl) ?_
  intro v6
  refine hl_v rfl rfl rfl (rv_ev rfl) ?_
  refine hl_less (sx 0 rfl (sx 1 rfl (sx 2 rfl (sx 3 rfl (sx 4 rfl (sx 13 rfl (sub_nil _))))))) (.refl _) ?_
  refine hl_nil ?_
  refine hq_block_normal ?_
  refine hq_then ?_
  refine hc_region ?_
  refine hl_v rfl rfl rfl (rv_ev rfl) ?_
  refine hl_v rfl rfl rfl (rv_add rfl rfl rfl (by constructor <;> omega)) ?_
  refine hl_v rfl rfl rfl (rv_ev rfl) ?_
  refine hl_less (sx 0 rfl (sx 1 rfl (sx 2 rfl (sx 3 rfl (sx 4 rfl (sx 13 rfl (sub_nil _))))))) (.refl _) ?_
  refine hl_nil ?_
  exact hq_round3 (k + 1) v6 (zs ++ ((n.ss.getD k sq0).xs)) ⟨by omega, by rw [hz, rts_step n (by omega)]⟩ (by omega) (sx 0 rfl (sx 1 rfl (sx 2 rfl (sx 3 rfl (sx 4 rfl (sub_nil _)))))) ((.cons_cons _ (.cons_cons _ .slnil)))
 ·
  refine hl_less (sx 0 rfl (sx 1 rfl (sx 2 rfl (sx 3 rfl (sx 4 rfl (sx 13 rfl (sub_nil _))))))) (.refl _) ?_
  refine hl_nil ?_
  refine hq_then ?_
  refine hc_false rfl ?_
  refine hc_exit ?_
  refine hq_then_exit ?_
  refine hq_then_exit ?_
  refine hq_block_exit ?_
  refine hq_then ?_
  refine hc_seq ?_
  refine hc_region ?_
  refine hl_v rfl rfl rfl (rv_ev rfl) ?_
  refine hl_v rfl rfl rfl (rv_ev rfl) ?_
  refine hl_less (sx 0 rfl (sx 1 rfl (sx 2 rfl (sx 3 rfl (sx 4 rfl (sx 13 rfl (sub_nil _))))))) (.refl _) ?_
  refine hl_nil ?_
  refine hq_then ?_
  refine hc_ret ?_
  exact hq_retR (post := [rowE 3 1 u zs.length (zs.map (Value.int .i64))]) rfl rfl ((.cons_cons _ (.cons _ .slnil))) (by rw [hz, show k = n.ss.length by omega])
set_option maxHeartbeats 4000000 in
set_option maxRecDepth 100000 in
theorem specNetOk_yes (n : Nt) (w : World) (hr : RdsNt w n) (hn : NtOk n) :
  Calls Try.prog 66 #[.agg #[.int .i64 n.ins, n.sv, n.av, n.ov]] w (Ans w (.bool true)) := by
 have hi0 := hn.i0
 have hi1 := hn.i1
 have hs1 := hn.s1
 have ha1 := hn.a1
 have ho1 := hn.o1
 have hcnt : n.cnt = 1 + n.ins + n.ss.length + n.gs.length := rfl
 have hfst : n.fst = 1 + n.ins + n.ss.length := rfl
 refine calls_hc (N := 104) (args := [.agg #[.int .i64 n.ins, n.sv, n.av, n.ov]]) Try.func66 rfl rfl ?_
 refine hc_less _ (sx 0 rfl (sub_nil _)) (.refl _) ?_
 refine hc_seq ?_
 refine hc_region ?_
 refine hl_box rfl rfl rfl (rq_box rfl rfl) ?_
 intro b1
 refine hl_v rfl rfl rfl (rv_ev rfl) ?_
 refine hl_less (sx 0 rfl (sx 1 rfl (sx 2 rfl (sub_nil _)))) (.refl _) ?_
 refine hl_nil ?_
 refine hq_then ?_
 refine hc_seq ?_
 refine hc_region ?_
 refine hl_v rfl rfl rfl (rv_loadN (cs := [.int .i64 n.ins, n.sv, n.av, n.ov]) rfl (by kernel_rfl) (by kernel_rfl) rfl rfl (box_part 0 rfl 0 rfl)) ?_
 refine hl_callV rfl rfl rfl (rq_call (by kernel_rfl) rfl (fun w hm => ret_ans (specNodeCount_yes n w (hr.below hm.bel) hn))) ?_
 refine hl_v rfl rfl rfl (rv_ev rfl) ?_
 refine hl_less (sx 0 rfl (sx 1 rfl (sx 2 rfl (sx 3 rfl (sub_nil _))))) (.refl _) ?_
 refine hl_nil ?_
 refine hq_then ?_
 refine hc_seq ?_
 refine hc_seq ?_
 refine hc_region ?_
 refine hl_v rfl rfl rfl (rv_ev rfl) ?_
 refine hl_eql rfl rfl rfl rfl rfl rfl (fun h2 => absurd h2 (by omega)) (fun h2 => ?_)
 refine hl_less (sx 0 rfl (sx 1 rfl (sx 2 rfl (sx 3 rfl (sx 12 rfl (sub_nil _)))))) (.refl _) ?_
 refine hl_nil ?_
 refine hq_then ?_
 refine hc_false rfl ?_
 refine hc_skip ?_
 refine hq_then ?_
 refine hc_seq ?_
 refine hc_seq ?_
 refine hc_region ?_
 refine hl_v rfl rfl rfl (rv_ev rfl) ?_
 refine hl_less (sx 0 rfl (sx 1 rfl (sx 2 rfl (sx 3 rfl (sx 4 rfl (sx 12 rfl (sub_nil _))))))) (.refl _) ?_
 refine hl_nil ?_
 refine hq_then ?_
 refine hc_block ?_
 refine hc_loop1 (α := Nat) (fun k => [boxE b1 #[.int .i64 n.ins, n.sv, n.av, n.ov] 28]) (fun k => [(0, .agg #[.int .i64 n.ins, n.sv, n.av, n.ov]), (1, .pointer (some ⟨b1, 0, none⟩)), (2, .bool false), (3, .int .i64 n.cnt), (4, .int .i64 (k : Int)), (12, .bool false)]) (fun k => k ≤ n.ss.length) (fun k => n.ss.length - k) 0 (Nat.zero_le _) (sx 0 rfl (sx 1 rfl (sx 2 rfl (sx 3 rfl (sx 4 rfl (sx 12 rfl (sub_nil _))))))) ((.cons_cons _ .slnil)) ?_
 intro k hi3
 have hk := hi3
 refine hc_seq ?_
 refine hc_seq ?_
 refine hc_region ?_
 refine hl_v rfl rfl rfl (rv_ev rfl) ?_
 refine hl_v rfl rfl rfl (rv_field (k0 := 1) rfl (by kernel_rfl) rfl) ?_
 refine hl_v rfl rfl rfl (rv_load rfl (by kernel_rfl) rfl (box_cell 0 rfl rfl)) ?_
 refine hl_v rfl rfl rfl (rv_len rfl Try.underlying24 rfl (rd_old hr.sq)) ?_
 refine hl_lss rfl rfl rfl rfl rfl rfl (fun h4 => ?_) (fun h4 => ?_)
 ·
  refine hl_less (sx 0 rfl (sx 1 rfl (sx 2 rfl (sx 3 rfl (sx 4 rfl (sx 12 rfl (sx 17 rfl (sub_nil _)))))))) (.refl _) ?_
  refine hl_nil ?_
  refine hq_then ?_
  refine hc_true rfl ?_
  refine hc_skip ?_
  refine hq_then ?_
  refine hc_seq ?_
  refine hc_block ?_
  refine hc_seq ?_
  refine hc_region ?_
  have hqk := (hn.sq _ (getD_memX (d := sq0) (show k < n.ss.length by omega))).kind
  refine hl_v rfl rfl rfl (rv_field (k0 := 1) rfl (by kernel_rfl) rfl) ?_
  refine hl_v rfl rfl rfl (rv_load rfl (by kernel_rfl) rfl (box_cell 0 rfl rfl)) ?_
  refine hl_v rfl rfl rfl (rv_ev rfl) ?_
  refine hl_v rfl rfl rfl (rv_index (s := 3) rfl Try.underlying24 (by kernel_rfl) rfl rfl (rd_old hr.sq) (by omega) (by first | omega | (simp only [List.length_set]; omega))) ?_
  refine hl_v rfl rfl rfl (rv_loadElN (us := [.int .i64 ((n.ss.getD k sq0).kd), .int .i64 ((n.ss.getD k sq0).it), (n.ss.getD k sq0).iv]) rfl (by kernel_rfl) (by kernel_rfl) rfl (rd_old hr.sq) (by omega) rfl (flat_atN sqC 3 (fun _ => rfl) n.ss sq0 (show k < _ by first | omega | (simp only [List.length_set]; omega)) rfl)) ?_
  refine hl_box rfl rfl rfl (rq_alloc (z := .agg #[.int .i64 0, .int .i64 0, .slice none 0 0]) rfl (by kernel_rfl)) ?_
  intro b5
  refine hl_storeBoxN (i := 0) (off := 0) (us := [.int .i64 ((n.ss.getD k sq0).kd), .int .i64 ((n.ss.getD k sq0).it), (n.ss.getD k sq0).iv])  (l' := [boxE b5 #[.int .i64 ((n.ss.getD k sq0).kd), .int .i64 ((n.ss.getD k sq0).it), (n.ss.getD k sq0).iv] 83, boxE b1 #[.int .i64 n.ins, n.sv, n.av, n.ov] 28]) rfl rfl rfl (by kernel_rfl) rfl rfl rfl (all_cons rfl (all_cons rfl (all_cons (hr.at (k := k) (by omega)).one all_nil))) rfl rfl rfl ?_
  refine hl_less (sx 0 rfl (sx 1 rfl (sx 2 rfl (sx 3 rfl (sx 4 rfl (sx 5 rfl (sx 12 rfl (sx 17 rfl (sub_nil _))))))))) (.refl _) ?_
  refine hl_nil ?_
  refine hq_then ?_
  refine hc_seq ?_
  refine hc_region ?_
  refine hl_v rfl rfl rfl (rv_field (k0 := 0) rfl (by kernel_rfl) rfl) ?_
  refine hl_v rfl rfl rfl (rv_load rfl (by kernel_rfl) rfl (box_cell 0 rfl rfl)) ?_
  refine hl_eql rfl rfl rfl rfl rfl rfl (fun h6 => ?_) (fun h6 => ?_)
  ·
   refine hl_v rfl rfl rfl (rv_ev rfl) ?_
   refine hl_v rfl rfl rfl (rv_field (k0 := 1) rfl (by kernel_rfl) rfl) ?_
   refine hl_v rfl rfl rfl (rv_load rfl (by kernel_rfl) rfl (box_cell 0 rfl rfl)) ?_
   refine hl_callV rfl rfl rfl (rq_call (by kernel_rfl) rfl (fun w hm => ret_ans (l01In_any0 ((n.ss.getD k sq0).it) 0 1 w))) ?_
   refine hl_bool (fun h7 => ?_) (fun h7 => absurd ((((inR_iff _ _ _).2 (by omega))).symm.trans h7) (by decide))
   refine hl_v rfl rfl rfl (rv_ev rfl) ?_
   refine hl_v rfl rfl rfl (rv_ev rfl) ?_
   refine hl_v rfl rfl rfl (rv_field (k0 := 2) rfl (by kernel_rfl) rfl) ?_
   refine hl_v rfl rfl rfl (rv_load rfl (by kernel_rfl) rfl (box_cell 0 rfl rfl)) ?_
   refine hl_v rfl rfl rfl (rv_len rfl Try.underlying26 rfl (fun w hm => (hr.at (k := k) (by omega)).below hm.bel)) ?_
   refine hl_eql rfl rfl rfl rfl rfl rfl (fun h8 => ?_) (fun h8 => ?_)
   ·
    refine hl_v rfl rfl rfl (rv_ev rfl) ?_
    refine hl_v rfl rfl rfl (rv_ev rfl) ?_
    refine hl_skip rfl rfl rfl ?_
    refine hl_skip rfl rfl rfl ?_
    refine hl_skip rfl rfl rfl ?_
    refine hl_skip rfl rfl rfl ?_
    refine hl_skip rfl rfl rfl ?_
    refine hl_skip rfl rfl rfl ?_
    refine hl_skip rfl rfl rfl ?_
    refine hl_skip rfl rfl rfl ?_
    refine hl_skip rfl rfl rfl ?_
    refine hl_skip rfl rfl rfl ?_
    refine hl_skip rfl rfl rfl ?_
    refine hl_skip rfl rfl rfl ?_
    refine hl_skip rfl rfl rfl ?_
    refine hl_skip rfl rfl rfl ?_
    refine hl_v rfl rfl rfl (rv_ev rfl) ?_
    refine hl_v rfl rfl rfl (rv_ev rfl) ?_
    refine hl_less (sx 0 rfl (sx 1 rfl (sx 2 rfl (sx 3 rfl (sx 4 rfl (sx 5 rfl (sx 12 rfl (sx 17 rfl (sx 55 rfl (sub_nil _)))))))))) (.refl _) ?_
    refine hl_nil ?_
    refine hq_then ?_
    refine hc_false rfl ?_
    refine hc_skip ?_
    refine hq_block_normal ?_
    refine hq_then ?_
    refine hc_region ?_
    refine hl_v rfl rfl rfl (rv_ev rfl) ?_
    refine hl_v rfl rfl rfl (rv_add rfl rfl rfl (by constructor <;> omega)) ?_
    refine hl_v rfl rfl rfl (rv_ev rfl) ?_
    refine hl_less (sx 0 rfl (sx 1 rfl (sx 2 rfl (sx 3 rfl (sx 4 rfl (sx 5 rfl (sx 12 rfl (sx 17 rfl (sx 55 rfl (sub_nil _)))))))))) (.refl _) ?_
    refine hl_nil ?_
    exact hq_round1 (k + 1) (by omega) (by omega) (sx 0 rfl (sx 1 rfl (sx 2 rfl (sx 3 rfl (sx 4 rfl (sx 12 rfl (sub_nil _))))))) ((.cons _ (.cons_cons _ .slnil)))
   ·
    refine hl_v rfl rfl rfl (rv_ev rfl) ?_
    refine hl_v rfl rfl rfl (rv_ev rfl) ?_
    refine hl_v rfl rfl rfl (rv_field (k0 := 0) rfl (by kernel_rfl) rfl) ?_
    refine hl_v rfl rfl rfl (rv_load rfl (by kernel_rfl) rfl (box_cell 0 rfl rfl)) ?_
    refine hl_eql rfl rfl rfl rfl rfl rfl (fun h9 => ?_) (fun h9 => ?_)
    ·
     refine hl_v rfl rfl rfl (rv_ev rfl) ?_
     refine hl_v rfl rfl rfl (rv_field (k0 := 1) rfl (by kernel_rfl) rfl) ?_
     refine hl_v rfl rfl rfl (rv_load rfl (by kernel_rfl) rfl (box_cell 0 rfl rfl)) ?_
     refine hl_callV rfl rfl rfl (rq_call (by kernel_rfl) rfl (fun w hm => ret_ans (l01In_any0 ((n.ss.getD k sq0).it) 0 31 w))) ?_
     refine hl_bool (fun h10 => ?_) (fun h10 => absurd ((((inR_iff _ _ _).2 (by omega))).symm.trans h10) (by decide))
     refine hl_v rfl rfl rfl (rv_ev rfl) ?_
     refine hl_v rfl rfl rfl (rv_ev rfl) ?_
     refine hl_v rfl rfl rfl (rv_field (k0 := 2) rfl (by kernel_rfl) rfl) ?_
     refine hl_v rfl rfl rfl (rv_load rfl (by kernel_rfl) rfl (box_cell 0 rfl rfl)) ?_
     refine hl_v rfl rfl rfl (rv_len rfl Try.underlying26 rfl (fun w hm => (hr.at (k := k) (by omega)).below hm.bel)) ?_
     refine hl_eql rfl rfl rfl rfl rfl rfl (fun h11 => ?_) (fun h11 => ?_)
     ·
      refine hl_v rfl rfl rfl (rv_ev rfl) ?_
      refine hl_v rfl rfl rfl (rv_ev rfl) ?_
      refine hl_v rfl rfl rfl (rv_ev rfl) ?_
      refine hl_less (sx 0 rfl (sx 1 rfl (sx 2 rfl (sx 3 rfl (sx 4 rfl (sx 5 rfl (sx 12 rfl (sx 17 rfl (sx 55 rfl (sub_nil _)))))))))) (.refl _) ?_
      refine hl_nil ?_
      refine hq_then ?_
      refine hc_false rfl ?_
      refine hc_skip ?_
      refine hq_block_normal ?_
      refine hq_then ?_
      refine hc_region ?_
      refine hl_v rfl rfl rfl (rv_ev rfl) ?_
      refine hl_v rfl rfl rfl (rv_add rfl rfl rfl (by constructor <;> omega)) ?_
      refine hl_v rfl rfl rfl (rv_ev rfl) ?_
      refine hl_less (sx 0 rfl (sx 1 rfl (sx 2 rfl (sx 3 rfl (sx 4 rfl (sx 5 rfl (sx 12 rfl (sx 17 rfl (sx 55 rfl (sub_nil _)))))))))) (.refl _) ?_
      refine hl_nil ?_
      exact hq_round1 (k + 1) (by omega) (by omega) (sx 0 rfl (sx 1 rfl (sx 2 rfl (sx 3 rfl (sx 4 rfl (sx 12 rfl (sub_nil _))))))) ((.cons _ (.cons_cons _ .slnil)))
     ·
      refine hl_v rfl rfl rfl (rv_ev rfl) ?_
      refine hl_v rfl rfl rfl (rv_ev rfl) ?_
      refine hl_v rfl rfl rfl (rv_ev rfl) ?_
      refine hl_less (sx 0 rfl (sx 1 rfl (sx 2 rfl (sx 3 rfl (sx 4 rfl (sx 5 rfl (sx 12 rfl (sx 17 rfl (sx 55 rfl (sub_nil _)))))))))) (.refl _) ?_
      refine hl_nil ?_
      refine hq_then ?_
      refine hc_true rfl ?_
      refine hc_seq ?_
      refine hc_region ?_
      refine hl_v rfl rfl rfl (rv_ev rfl) ?_
      refine hl_less (sx 0 rfl (sx 1 rfl (sx 2 rfl (sx 3 rfl (sx 4 rfl (sx 5 rfl (sx 12 rfl (sx 17 rfl (sx 55 rfl (sub_nil _)))))))))) (.refl _) ?_
      refine hl_nil ?_
      refine hq_then ?_
      refine hc_ret ?_
      refine hq_block_ret ?_
      refine hq_then_ret ?_
      refine hq_then_ret ?_
      refine hq_block_ret ?_
      refine hq_then_ret ?_
      exfalso
      omega
    ·
     refine hl_v rfl rfl rfl (rv_ev rfl) ?_
     refine hl_skip rfl rfl rfl ?_
     refine hl_skip rfl rfl rfl ?_
     refine hl_skip rfl rfl rfl ?_
     refine hl_v rfl rfl rfl (rv_ev rfl) ?_
     refine hl_v rfl rfl rfl (rv_ev rfl) ?_
     refine hl_skip rfl rfl rfl ?_
     refine hl_skip rfl rfl rfl ?_
     refine hl_skip rfl rfl rfl ?_
     refine hl_skip rfl rfl rfl ?_
     refine hl_v rfl rfl rfl (rv_ev rfl) ?_
     refine hl_v rfl rfl rfl (rv_ev rfl) ?_
     refine hl_v rfl rfl rfl (rv_ev rfl) ?_
     refine hl_less (sx 0 rfl (sx 1 rfl (sx 2 rfl (sx 3 rfl (sx 4 rfl (sx 5 rfl (sx 12 rfl (sx 17 rfl (sx 55 rfl (sub_nil _)))))))))) (.refl _) ?_
     refine hl_nil ?_
     refine hq_then ?_
     refine hc_true rfl ?_
     refine hc_seq ?_
     refine hc_region ?_
     refine hl_v rfl rfl rfl (rv_ev rfl) ?_
     refine hl_less (sx 0 rfl (sx 1 rfl (sx 2 rfl (sx 3 rfl (sx 4 rfl (sx 5 rfl (sx 12 rfl (sx 17 rfl (sx 55 rfl (sub_nil _)))))))))) (.refl _) ?_
     refine hl_nil ?_
     refine hq_then ?_
     refine hc_ret ?_
     refine hq_block_ret ?_
     refine hq_then_ret ?_
     refine hq_then_ret ?_
     refine hq_block_ret ?_
     refine hq_then_ret ?_
     exfalso
     omega
  ·
   refine hl_v rfl rfl rfl (rv_ev rfl) ?_
   refine hl_skip rfl rfl rfl ?_
   refine hl_skip rfl rfl rfl ?_
   refine hl_skip rfl rfl rfl ?_
   refine hl_v rfl rfl rfl (rv_ev rfl) ?_
   refine hl_v rfl rfl rfl (rv_ev rfl) ?_
   refine hl_skip rfl rfl rfl ?_
   refine hl_skip rfl rfl rfl ?_
   refine hl_skip rfl rfl rfl ?_
   refine hl_skip rfl rfl rfl ?_
   refine hl_v rfl rfl rfl (rv_ev rfl) ?_
   refine hl_v rfl rfl rfl (rv_ev rfl) ?_
   refine hl_v rfl rfl rfl (rv_field (k0 := 0) rfl (by kernel_rfl) rfl) ?_
   refine hl_v rfl rfl rfl (rv_load rfl (by kernel_rfl) rfl (box_cell 0 rfl rfl)) ?_
   refine hl_eql rfl rfl rfl rfl rfl rfl (fun h12 => ?_) (fun h12 => ?_)
   ·
    refine hl_v rfl rfl rfl (rv_ev rfl) ?_
    refine hl_v rfl rfl rfl (rv_field (k0 := 1) rfl (by kernel_rfl) rfl) ?_
    refine hl_v rfl rfl rfl (rv_load rfl (by kernel_rfl) rfl (box_cell 0 rfl rfl)) ?_
    refine hl_callV rfl rfl rfl (rq_call (by kernel_rfl) rfl (fun w hm => ret_ans (l01In_any0 ((n.ss.getD k sq0).it) 0 31 w))) ?_
    refine hl_bool (fun h13 => ?_) (fun h13 => absurd ((((inR_iff _ _ _).2 (by omega))).symm.trans h13) (by decide))
    refine hl_v rfl rfl rfl (rv_ev rfl) ?_
    refine hl_v rfl rfl rfl (rv_ev rfl) ?_
    refine hl_v rfl rfl rfl (rv_field (k0 := 2) rfl (by kernel_rfl) rfl) ?_
    refine hl_v rfl rfl rfl (rv_load rfl (by kernel_rfl) rfl (box_cell 0 rfl rfl)) ?_
    refine hl_v rfl rfl rfl (rv_len rfl Try.underlying26 rfl (fun w hm => (hr.at (k := k) (by omega)).below hm.bel)) ?_
    refine hl_eql rfl rfl rfl rfl rfl rfl (fun h14 => ?_) (fun h14 => ?_)
    ·
     refine hl_v rfl rfl rfl (rv_ev rfl) ?_
     refine hl_v rfl rfl rfl (rv_ev rfl) ?_
     refine hl_v rfl rfl rfl (rv_ev rfl) ?_
     refine hl_less (sx 0 rfl (sx 1 rfl (sx 2 rfl (sx 3 rfl (sx 4 rfl (sx 5 rfl (sx 12 rfl (sx 17 rfl (sx 55 rfl (sub_nil _)))))))))) (.refl _) ?_
     refine hl_nil ?_
     refine hq_then ?_
     refine hc_false rfl ?_
     refine hc_skip ?_
     refine hq_block_normal ?_
     refine hq_then ?_
     refine hc_region ?_
     refine hl_v rfl rfl rfl (rv_ev rfl) ?_
     refine hl_v rfl rfl rfl (rv_add rfl rfl rfl (by constructor <;> omega)) ?_
     refine hl_v rfl rfl rfl (rv_ev rfl) ?_
     refine hl_less (sx 0 rfl (sx 1 rfl (sx 2 rfl (sx 3 rfl (sx 4 rfl (sx 5 rfl (sx 12 rfl (sx 17 rfl (sx 55 rfl (sub_nil _)))))))))) (.refl _) ?_
     refine hl_nil ?_
     exact hq_round1 (k + 1) (by omega) (by omega) (sx 0 rfl (sx 1 rfl (sx 2 rfl (sx 3 rfl (sx 4 rfl (sx 12 rfl (sub_nil _))))))) ((.cons _ (.cons_cons _ .slnil)))
    ·
     refine hl_v rfl rfl rfl (rv_ev rfl) ?_
     refine hl_v rfl rfl rfl (rv_ev rfl) ?_
     refine hl_v rfl rfl rfl (rv_ev rfl) ?_
     refine hl_less (sx 0 rfl (sx 1 rfl (sx 2 rfl (sx 3 rfl (sx 4 rfl (sx 5 rfl (sx 12 rfl (sx 17 rfl (sx 55 rfl (sub_nil _)))))))))) (.refl _) ?_
     refine hl_nil ?_
     refine hq_then ?_
     refine hc_true rfl ?_
     refine hc_seq ?_
     refine hc_region ?_
     refine hl_v rfl rfl rfl (rv_ev rfl) ?_
     refine hl_less (sx 0 rfl (sx 1 rfl (sx 2 rfl (sx 3 rfl (sx 4 rfl (sx 5 rfl (sx 12 rfl (sx 17 rfl (sx 55 rfl (sub_nil _)))))))))) (.refl _) ?_
     refine hl_nil ?_
     refine hq_then ?_
     refine hc_ret ?_
     refine hq_block_ret ?_
     refine hq_then_ret ?_
     refine hq_then_ret ?_
     refine hq_block_ret ?_
     refine hq_then_ret ?_
     exfalso
     omega
   ·
    refine hl_v rfl rfl rfl (rv_ev rfl) ?_
    refine hl_skip rfl rfl rfl ?_
    refine hl_skip rfl rfl rfl ?_
    refine hl_skip rfl rfl rfl ?_
    refine hl_v rfl rfl rfl (rv_ev rfl) ?_
    refine hl_v rfl rfl rfl (rv_ev rfl) ?_
    refine hl_skip rfl rfl rfl ?_
    refine hl_skip rfl rfl rfl ?_
    refine hl_skip rfl rfl rfl ?_
    refine hl_skip rfl rfl rfl ?_
    refine hl_v rfl rfl rfl (rv_ev rfl) ?_
    refine hl_v rfl rfl rfl (rv_ev rfl) ?_
    refine hl_v rfl rfl rfl (rv_ev rfl) ?_
    refine hl_less (sx 0 rfl (sx 1 rfl (sx 2 rfl (sx 3 rfl (sx 4 rfl (sx 5 rfl (sx 12 rfl (sx 17 rfl (sx 55 rfl (sub_nil _)))))))))) (.refl _) ?_
    refine hl_nil ?_
    refine hq_then ?_
    refine hc_true rfl ?_
    refine hc_seq ?_
    refine hc_region ?_
    refine hl_v rfl rfl rfl (rv_ev rfl) ?_
    refine hl_less (sx 0 rfl (sx 1 rfl (sx 2 rfl (sx 3 rfl (sx 4 rfl (sx 5 rfl (sx 12 rfl (sx 17 rfl (sx 55 rfl (sub_nil _)))))))))) (.refl _) ?_
    refine hl_nil ?_
    refine hq_then ?_
    refine hc_ret ?_
    refine hq_block_ret ?_
    refine hq_then_ret ?_
    refine hq_then_ret ?_
    refine hq_block_ret ?_
    refine hq_then_ret ?_
    exfalso
    omega
 ·
  refine hl_less (sx 0 rfl (sx 1 rfl (sx 2 rfl (sx 3 rfl (sx 4 rfl (sx 12 rfl (sx 17 rfl (sub_nil _)))))))) (.refl _) ?_
  refine hl_nil ?_
  refine hq_then ?_
  refine hc_false rfl ?_
  refine hc_exit ?_
  refine hq_then_exit ?_
  refine hq_then_exit ?_
  refine hq_block_exit ?_
  refine hq_then ?_
  refine hc_seq ?_
  refine hc_region ?_
  refine hl_v rfl rfl rfl (rv_loadN (cs := [.int .i64 n.ins, n.sv, n.av, n.ov]) rfl (by kernel_rfl) (by kernel_rfl) rfl rfl (box_part 0 rfl 0 rfl)) ?_
  refine hl_q rfl rfl rfl (rq_call (by kernel_rfl) rfl (fun w hm => l08Roots_ret n w (hr.below hm.bel) hn)) ?_
  intro v15 p16 hR17
  subst hR17
  refine hl_v rfl rfl rfl (rv_ev rfl) ?_
  refine hl_less (sx 0 rfl (sx 1 rfl (sx 2 rfl (sx 3 rfl (sx 4 rfl (sx 6 rfl (sx 12 rfl (sx 17 rfl (sub_nil _))))))))) (.refl _) ?_
  refine hl_nil ?_
  refine hq_then ?_
  refine hc_seq ?_
  refine hc_seq ?_
  refine hc_region ?_
  refine hl_v rfl rfl rfl (rv_ev rfl) ?_
  refine hl_less (sx 0 rfl (sx 1 rfl (sx 2 rfl (sx 3 rfl (sx 4 rfl (sx 6 rfl (sx 7 rfl (sx 12 rfl (sx 17 rfl (sub_nil _)))))))))) (.refl _) ?_
  refine hl_nil ?_
  refine hq_then ?_
  refine hc_block ?_
  refine hc_loop1 (α := Nat) (fun q => [rowE 3 1 v15 ((rtsL n n.ss.length).length) ((rtsL n n.ss.length).map (Value.int .i64)), boxE b1 #[.int .i64 n.ins, n.sv, n.av, n.ov] 28]) (fun q => [(0, .agg #[.int .i64 n.ins, n.sv, n.av, n.ov]), (1, .pointer (some ⟨b1, 0, none⟩)), (2, .bool false), (3, .int .i64 n.cnt), (6, v15), (7, .int .i64 (q : Int)), (12, .bool false), (17, .bool false)]) (fun q => q ≤ (rtsL n n.ss.length).length) (fun q => (rtsL n n.ss.length).length - q) 0 (Nat.zero_le _) (sx 0 rfl (sx 1 rfl (sx 2 rfl (sx 3 rfl (sx 6 rfl (sx 7 rfl (sx 12 rfl (sx 17 rfl (sub_nil _))))))))) ((.cons_cons _ (.cons_cons _ .slnil))) ?_
  intro q hi18
  have hq := hi18
  refine hc_seq ?_
  refine hc_seq ?_
  refine hc_region ?_
  have hzl := rts_len hn n.ss.length (Nat.le_refl _)
  refine hl_v rfl rfl rfl (rv_ev rfl) ?_
  refine hl_v rfl rfl rfl (rv_ev rfl) ?_
  refine hl_v rfl rfl rfl (rv_len rfl Try.underlying26 rfl (rd_row 0 rfl)) ?_
  refine hl_lss rfl rfl rfl rfl rfl rfl (fun h19 => ?_) (fun h19 => ?_)
  ·
   refine hl_less (sx 0 rfl (sx 1 rfl (sx 2 rfl (sx 3 rfl (sx 6 rfl (sx 7 rfl (sx 12 rfl (sx 17 rfl (sx 61 rfl (sub_nil _)))))))))) (.refl _) ?_
   refine hl_nil ?_
   refine hq_then ?_
   refine hc_true rfl ?_
   refine hc_skip ?_
   refine hq_then ?_
   refine hc_seq ?_
   refine hc_block ?_
   refine hc_seq ?_
   refine hc_region ?_
   have hlk := rts_ok hn (i := q) (by omega)
   have hzl := rts_len hn n.ss.length (Nat.le_refl _)
   refine hl_v rfl rfl rfl (rv_ev rfl) ?_
   refine hl_v rfl rfl rfl (rv_ev rfl) ?_
   refine hl_v rfl rfl rfl (rv_index (s := 1) rfl Try.underlying26 (by kernel_rfl) rfl rfl (rd_row 0 rfl) (by omega) (by first | omega | (simp only [List.length_set]; omega))) ?_
   refine hl_v rfl rfl rfl (rv_loadEl (u := .int .i64 ((rtsL n n.ss.length).getD q 0)) rfl (by kernel_rfl) rfl (rd_row 0 rfl) (ints_at1 (show _ < (rtsL n n.ss.length).length by first | omega | (simp only [List.length_set]; omega)))) ?_
   refine hl_v rfl rfl rfl (rv_ev rfl) ?_
   refine hl_callV rfl rfl rfl (rq_call (by kernel_rfl) rfl (fun w hm => ret_ans (l08Lit_yes ((rtsL n n.ss.length).getD q 0) n.cnt w (by first | assumption | (unfold LtOk; omega)) (by omega)))) ?_
   refine hl_v rfl rfl rfl (rv_ev rfl) ?_
   refine hl_less (sx 0 rfl (sx 1 rfl (sx 2 rfl (sx 3 rfl (sx 6 rfl (sx 7 rfl (sx 12 rfl (sx 17 rfl (sx 61 rfl (sx 70 rfl (sub_nil _))))))))))) (.refl _) ?_
   refine hl_nil ?_
   refine hq_then ?_
   refine hc_false rfl ?_
   refine hc_skip ?_
   refine hq_block_normal ?_
   refine hq_then ?_
   refine hc_region ?_
   refine hl_v rfl rfl rfl (rv_ev rfl) ?_
   refine hl_v rfl rfl rfl (rv_add rfl rfl rfl (by constructor <;> omega)) ?_
   refine hl_v rfl rfl rfl (rv_ev rfl) ?_
   refine hl_less (sx 0 rfl (sx 1 rfl (sx 2 rfl (sx 3 rfl (sx 6 rfl (sx 7 rfl (sx 12 rfl (sx 17 rfl (sx 61 rfl (sx 70 rfl (sub_nil _))))))))))) (.refl _) ?_
   refine hl_nil ?_
   exact hq_round1 (q + 1) (by omega) (by omega) (sx 0 rfl (sx 1 rfl (sx 2 rfl (sx 3 rfl (sx 6 rfl (sx 7 rfl (sx 12 rfl (sx 17 rfl (sub_nil _))))))))) ((.cons_cons _ (.cons_cons _ .slnil)))
  ·
   refine hl_less (sx 0 rfl (sx 1 rfl (sx 2 rfl (sx 3 rfl (sx 6 rfl (sx 7 rfl (sx 12 rfl (sx 17 rfl (sx 61 rfl (sub_nil _)))))))))) (.refl _) ?_
   refine hl_nil ?_
   refine hq_then ?_
   refine hc_false rfl ?_
   refine hc_exit ?_
   refine hq_then_exit ?_
   refine hq_then_exit ?_
   refine hq_block_exit ?_
   refine hq_then ?_
   refine hc_seq ?_
   refine hc_seq ?_
   refine hc_region ?_
   refine hl_v rfl rfl rfl (rv_ev rfl) ?_
   refine hl_less (sx 0 rfl (sx 1 rfl (sx 2 rfl (sx 3 rfl (sx 6 rfl (sx 7 rfl (sx 8 rfl (sx 12 rfl (sx 17 rfl (sx 61 rfl (sub_nil _))))))))))) (.refl _) ?_
   refine hl_nil ?_
   refine hq_then ?_
   refine hc_block ?_
   refine hc_loop1 (α := Nat) (fun j => [rowE 3 1 v15 ((rtsL n n.ss.length).length) ((rtsL n n.ss.length).map (Value.int .i64)), boxE b1 #[.int .i64 n.ins, n.sv, n.av, n.ov] 28]) (fun j => [(0, .agg #[.int .i64 n.ins, n.sv, n.av, n.ov]), (1, .pointer (some ⟨b1, 0, none⟩)), (2, .bool false), (3, .int .i64 n.cnt), (6, v15), (8, .int .i64 (j : Int)), (12, .bool false), (17, .bool false), (61, .bool false)]) (fun j => j ≤ n.gs.length) (fun j => n.gs.length - j) 0 (Nat.zero_le _) (sx 0 rfl (sx 1 rfl (sx 2 rfl (sx 3 rfl (sx 6 rfl (sx 8 rfl (sx 12 rfl (sx 17 rfl (sx 61 rfl (sub_nil _)))))))))) ((.cons_cons _ (.cons_cons _ .slnil))) ?_
   intro j hi20
   have hj := hi20
   refine hc_seq ?_
   refine hc_seq ?_
   refine hc_region ?_
   refine hl_v rfl rfl rfl (rv_ev rfl) ?_
   refine hl_v rfl rfl rfl (rv_field (k0 := 2) rfl (by kernel_rfl) rfl) ?_
   refine hl_v rfl rfl rfl (rv_load rfl (by kernel_rfl) rfl (box_cell 1 rfl rfl)) ?_
   refine hl_v rfl rfl rfl (rv_len rfl Try.underlying25 rfl (rd_old hr.an)) ?_
   refine hl_lss rfl rfl rfl rfl rfl rfl (fun h21 => ?_) (fun h21 => ?_)
   ·
    refine hl_less (sx 0 rfl (sx 1 rfl (sx 2 rfl (sx 3 rfl (sx 6 rfl (sx 8 rfl (sx 12 rfl (sx 17 rfl (sx 61 rfl (sx 75 rfl (sub_nil _))))))))))) (.refl _) ?_
    refine hl_nil ?_
    refine hq_then ?_
    refine hc_true rfl ?_
    refine hc_skip ?_
    refine hq_then ?_
    refine hc_seq ?_
    refine hc_block ?_
    refine hc_seq ?_
    have hlj := hn.an j (by omega)
    obtain ⟨hlj1, hlj2⟩ := hlj
    refine hc_draw (by kernel_rfl) 26 [0, 1, 2, 3, 4, 5, 6, 7, 8, 9, 10, 11, 12, 13, 14, 15, 16, 17, 18, 19, 20, 21, 22, 23, 24, 25] (List.take 26 _) (List.drop 26 _) [[], [0], [], [1, 2], [3], [4], [], [6], [], [7, 8], [5, 9], [10], [11], [12], [12, 13], [12], [12, 14, 15], [12, 16], [12, 17], [12], [12, 19], [12], [12, 20, 21], [12, 18, 22], [12, 23], [12, 24]] [78, 79, 80, 81, 82, 83, 84, 85, 86, 87, 88, 89, 90, 91, 92, 93, 94, 95, 96, 97, 98, 99, 100, 101, 102, 103] (fun i_ vs_ v_ p_ => match i_ with | 0 => v_ = .pointer (some ⟨b1, 0 + 2, none⟩) ∧ p_ = [] | 1 => v_ = n.av ∧ p_ = [] | 2 => v_ = .int .i64 (j : Int) ∧ p_ = [] | 3 => v_ = elP n.av (((j : Int)).toNat * 2) ∧ p_ = [] | 4 => v_ = elP n.av (((j : Int)).toNat * 2 + 0) ∧ p_ = [] | 5 => v_ = .int .i64 ((n.gs.getD j an0).a) ∧ p_ = [] | 6 => v_ = .agg #[.int .i64 n.ins, n.sv, n.av, n.ov] ∧ p_ = [] | 7 => v_ = .int .i64 n.fst ∧ p_ = [] | 8 => v_ = .int .i64 (j : Int) ∧ p_ = [] | 9 => v_ = .int .i64 (n.fst + (j : Int)) ∧ p_ = [] | 10 => v_ = .bool true ∧ p_ = [] | 11 => v_ = .bool false ∧ p_ = [] | 12 => v_ = .bool false ∧ p_ = [] | 13 => v_ = .pointer (some ⟨b1, 0 + 2, none⟩) ∧ p_ = [] | 14 => v_ = n.av ∧ p_ = [] | 15 => v_ = .int .i64 (j : Int) ∧ p_ = [] | 16 => v_ = elP n.av (((j : Int)).toNat * 2) ∧ p_ = [] | 17 => v_ = elP n.av (((j : Int)).toNat * 2 + 1) ∧ p_ = [] | 18 => v_ = .int .i64 ((n.gs.getD j an0).b) ∧ p_ = [] | 19 => v_ = .agg #[.int .i64 n.ins, n.sv, n.av, n.ov] ∧ p_ = [] | 20 => v_ = .int .i64 n.fst ∧ p_ = [] | 21 => v_ = .int .i64 (j : Int) ∧ p_ = [] | 22 => v_ = .int .i64 (n.fst + (j : Int)) ∧ p_ = [] | 23 => v_ = .bool true ∧ p_ = [] | 24 => v_ = .bool false ∧ p_ = [] | 25 => v_ = .bool false ∧ p_ = [] | _ => True) (List.take_append_drop 26 _).symm (by kernel_rfl) (by kernel_rfl) rfl rfl ?_ ?_
    ·
     refine ⟨?_, ?_, ?_, ?_, ?_, ?_, ?_, ?_, ?_, ?_, ?_, ?_, ?_, ?_, ?_, ?_, ?_, ?_, ?_, ?_, ?_, ?_, ?_, ?_, ?_, ?_, trivial⟩
     ·
      intro vf pf hR
      refine Or.inl ⟨rfl, ?_⟩
      refine rq_less (sx 1 rfl (sub_nil _)) (List.sublist_append_right _ _) ?_
      exact rq_v (rv_field (k0 := 2) rfl (by kernel_rfl) rfl)
     ·
      intro vf pf hR
      have e0 : (vf 0) = .pointer (some ⟨b1, 0 + 2, none⟩) ∧ (pf 0) = [] := hR 0 (by decide)
      refine Or.inl ⟨rfl, ?_⟩
      refine rq_less (sx 78 (congrArg some e0.1) (sub_nil _)) (List.sublist_append_right _ _) ?_
      exact rq_v (rv_load rfl (by kernel_rfl) rfl (box_cell 1 rfl rfl))
     ·
      intro vf pf hR
      refine Or.inl ⟨rfl, ?_⟩
      refine rq_less (sx 8 rfl (sub_nil _)) (List.sublist_append_right _ _) ?_
      exact rq_v (rv_ev rfl)
     ·
      intro vf pf hR
      have e1 : (vf 1) = n.av ∧ (pf 1) = [] := hR 1 (by decide)
      have e2 : (vf 2) = .int .i64 (j : Int) ∧ (pf 2) = [] := hR 2 (by decide)
      refine Or.inl ⟨rfl, ?_⟩
      refine rq_less (sx 79 (congrArg some e1.1) (sx 80 (congrArg some e2.1) (sub_nil _))) (List.sublist_append_right _ _) ?_
      exact rq_v (rv_index (s := 2) rfl Try.underlying25 (by kernel_rfl) rfl rfl (rd_old hr.an) (by omega) (by first | omega | (simp only [List.length_set]; omega)))
     ·
      intro vf pf hR
      have e3 : (vf 3) = elP n.av (((j : Int)).toNat * 2) ∧ (pf 3) = [] := hR 3 (by decide)
      refine Or.inl ⟨rfl, ?_⟩
      refine rq_less (sx 81 (congrArg some e3.1) (sub_nil _)) (List.sublist_append_right _ _) ?_
      exact rq_v (rv_fieldEl (k0 := 0) rfl (by kernel_rfl) rfl (rd_old hr.an) (by first | omega | (simp only [List.length_set]; omega)))
     ·
      intro vf pf hR
      have e4 : (vf 4) = elP n.av (((j : Int)).toNat * 2 + 0) ∧ (pf 4) = [] := hR 4 (by decide)
      refine Or.inl ⟨rfl, ?_⟩
      refine rq_less (sx 82 (congrArg some e4.1) (sub_nil _)) (List.sublist_append_right _ _) ?_
      exact rq_v (rv_loadEl (u := .int .i64 ((n.gs.getD j an0).a)) rfl (by kernel_rfl) rfl (rd_old hr.an) ((flat_at anC 2 (fun _ => rfl) n.gs an0 (show j < _ by first | omega | (simp only [List.length_set]; omega)) (by decide)).trans rfl))
     ·
      intro vf pf hR
      refine Or.inl ⟨rfl, ?_⟩
      refine rq_less (sx 1 rfl (sub_nil _)) (List.sublist_append_right _ _) ?_
      exact rq_v (rv_loadN (cs := [.int .i64 n.ins, n.sv, n.av, n.ov]) rfl (by kernel_rfl) (by kernel_rfl) rfl rfl (box_part 1 rfl 0 rfl))
     ·
      intro vf pf hR
      have e6 : (vf 6) = .agg #[.int .i64 n.ins, n.sv, n.av, n.ov] ∧ (pf 6) = [] := hR 6 (by decide)
      refine Or.inl ⟨rfl, ?_⟩
      refine rq_less (sx 84 (congrArg some e6.1) (sub_nil _)) (List.sublist_append_right _ _) ?_
      exact (rq_call (by kernel_rfl) rfl (fun w hm => ret_ans (l08First_yes n w (hr.below hm.bel) hn)))
     ·
      intro vf pf hR
      refine Or.inl ⟨rfl, ?_⟩
      refine rq_less (sx 8 rfl (sub_nil _)) (List.sublist_append_right _ _) ?_
      exact rq_v (rv_ev rfl)
     ·
      intro vf pf hR
      have e7 : (vf 7) = .int .i64 n.fst ∧ (pf 7) = [] := hR 7 (by decide)
      have e8 : (vf 8) = .int .i64 (j : Int) ∧ (pf 8) = [] := hR 8 (by decide)
      refine Or.inl ⟨rfl, ?_⟩
      refine rq_less (sx 85 (congrArg some e7.1) (sx 86 (congrArg some e8.1) (sub_nil _))) (List.sublist_append_right _ _) ?_
      exact rq_v (rv_add rfl rfl rfl (by constructor <;> omega))
     ·
      intro vf pf hR
      have e5 : (vf 5) = .int .i64 ((n.gs.getD j an0).a) ∧ (pf 5) = [] := hR 5 (by decide)
      have e9 : (vf 9) = .int .i64 (n.fst + (j : Int)) ∧ (pf 9) = [] := hR 9 (by decide)
      refine Or.inl ⟨rfl, ?_⟩
      refine rq_less (sx 83 (congrArg some e5.1) (sx 87 (congrArg some e9.1) (sub_nil _))) (List.sublist_append_right _ _) ?_
      exact (rq_call (by kernel_rfl) rfl (fun w hm => ret_ans (l08Lit_yes ((n.gs.getD j an0).a) (n.fst + (j : Int)) w (by first | assumption | (unfold LtOk; omega)) (by omega))))
     ·
      intro vf pf hR
      have e10 : (vf 10) = .bool true ∧ (pf 10) = [] := hR 10 (by decide)
      refine Or.inl ⟨rfl, ?_⟩
      refine rq_less (sx 88 (congrArg some e10.1) (sub_nil _)) (List.sublist_append_right _ _) ?_
      exact rq_v (rv_ev rfl)
     ·
      intro vf pf hR
      have e11 : (vf 11) = .bool false ∧ (pf 11) = [] := hR 11 (by decide)
      refine Or.inl ⟨rfl, ?_⟩
      refine rq_less (sx 89 (congrArg some e11.1) (sub_nil _)) (List.sublist_append_right _ _) ?_
      exact rq_v (rv_ev rfl)
     ·
      intro vf pf hR
      have e12 : (vf 12) = .bool false ∧ (pf 12) = [] := hR 12 (by decide)
      refine Or.inl ⟨want_of (congrArg some e12.1) rfl, ?_⟩
      refine rq_less (sx 1 rfl (sub_nil _)) (List.sublist_append_right _ _) ?_
      exact rq_v (rv_field (k0 := 2) rfl (by kernel_rfl) rfl)
     ·
      intro vf pf hR
      have e12 : (vf 12) = .bool false ∧ (pf 12) = [] := hR 12 (by decide)
      have e13 : (vf 13) = .pointer (some ⟨b1, 0 + 2, none⟩) ∧ (pf 13) = [] := hR 13 (by decide)
      refine Or.inl ⟨want_of (congrArg some e12.1) rfl, ?_⟩
      refine rq_less (sx 91 (congrArg some e13.1) (sub_nil _)) (List.sublist_append_right _ _) ?_
      exact rq_v (rv_load rfl (by kernel_rfl) rfl (box_cell 1 rfl rfl))
     ·
      intro vf pf hR
      have e12 : (vf 12) = .bool false ∧ (pf 12) = [] := hR 12 (by decide)
      refine Or.inl ⟨want_of (congrArg some e12.1) rfl, ?_⟩
      refine rq_less (sx 8 rfl (sub_nil _)) (List.sublist_append_right _ _) ?_
      exact rq_v (rv_ev rfl)
     ·
      intro vf pf hR
      have e12 : (vf 12) = .bool false ∧ (pf 12) = [] := hR 12 (by decide)
      have e14 : (vf 14) = n.av ∧ (pf 14) = [] := hR 14 (by decide)
      have e15 : (vf 15) = .int .i64 (j : Int) ∧ (pf 15) = [] := hR 15 (by decide)
      refine Or.inl ⟨want_of (congrArg some e12.1) rfl, ?_⟩
      refine rq_less (sx 92 (congrArg some e14.1) (sx 93 (congrArg some e15.1) (sub_nil _))) (List.sublist_append_right _ _) ?_
      exact rq_v (rv_index (s := 2) rfl Try.underlying25 (by kernel_rfl) rfl rfl (rd_old hr.an) (by omega) (by first | omega | (simp only [List.length_set]; omega)))
     ·
      intro vf pf hR
      have e12 : (vf 12) = .bool false ∧ (pf 12) = [] := hR 12 (by decide)
      have e16 : (vf 16) = elP n.av (((j : Int)).toNat * 2) ∧ (pf 16) = [] := hR 16 (by decide)
      refine Or.inl ⟨want_of (congrArg some e12.1) rfl, ?_⟩
      refine rq_less (sx 94 (congrArg some e16.1) (sub_nil _)) (List.sublist_append_right _ _) ?_
      exact rq_v (rv_fieldEl (k0 := 1) rfl (by kernel_rfl) rfl (rd_old hr.an) (by first | omega | (simp only [List.length_set]; omega)))
     ·
      intro vf pf hR
      have e12 : (vf 12) = .bool false ∧ (pf 12) = [] := hR 12 (by decide)
      have e17 : (vf 17) = elP n.av (((j : Int)).toNat * 2 + 1) ∧ (pf 17) = [] := hR 17 (by decide)
      refine Or.inl ⟨want_of (congrArg some e12.1) rfl, ?_⟩
      refine rq_less (sx 95 (congrArg some e17.1) (sub_nil _)) (List.sublist_append_right _ _) ?_
      exact rq_v (rv_loadEl (u := .int .i64 ((n.gs.getD j an0).b)) rfl (by kernel_rfl) rfl (rd_old hr.an) ((flat_at anC 2 (fun _ => rfl) n.gs an0 (show j < _ by first | omega | (simp only [List.length_set]; omega)) (by decide)).trans rfl))
     ·
      intro vf pf hR
      have e12 : (vf 12) = .bool false ∧ (pf 12) = [] := hR 12 (by decide)
      refine Or.inl ⟨want_of (congrArg some e12.1) rfl, ?_⟩
      refine rq_less (sx 1 rfl (sub_nil _)) (List.sublist_append_right _ _) ?_
      exact rq_v (rv_loadN (cs := [.int .i64 n.ins, n.sv, n.av, n.ov]) rfl (by kernel_rfl) (by kernel_rfl) rfl rfl (box_part 1 rfl 0 rfl))
     ·
      intro vf pf hR
      have e12 : (vf 12) = .bool false ∧ (pf 12) = [] := hR 12 (by decide)
      have e19 : (vf 19) = .agg #[.int .i64 n.ins, n.sv, n.av, n.ov] ∧ (pf 19) = [] := hR 19 (by decide)
      refine Or.inl ⟨want_of (congrArg some e12.1) rfl, ?_⟩
      refine rq_less (sx 97 (congrArg some e19.1) (sub_nil _)) (List.sublist_append_right _ _) ?_
      exact (rq_call (by kernel_rfl) rfl (fun w hm => ret_ans (l08First_yes n w (hr.below hm.bel) hn)))
     ·
      intro vf pf hR
      have e12 : (vf 12) = .bool false ∧ (pf 12) = [] := hR 12 (by decide)
      refine Or.inl ⟨want_of (congrArg some e12.1) rfl, ?_⟩
      refine rq_less (sx 8 rfl (sub_nil _)) (List.sublist_append_right _ _) ?_
      exact rq_v (rv_ev rfl)
     ·
      intro vf pf hR
      have e12 : (vf 12) = .bool false ∧ (pf 12) = [] := hR 12 (by decide)
      have e20 : (vf 20) = .int .i64 n.fst ∧ (pf 20) = [] := hR 20 (by decide)
      have e21 : (vf 21) = .int .i64 (j : Int) ∧ (pf 21) = [] := hR 21 (by decide)
      refine Or.inl ⟨want_of (congrArg some e12.1) rfl, ?_⟩
      refine rq_less (sx 98 (congrArg some e20.1) (sx 99 (congrArg some e21.1) (sub_nil _))) (List.sublist_append_right _ _) ?_
      exact rq_v (rv_add rfl rfl rfl (by constructor <;> omega))
     ·
      intro vf pf hR
      have e12 : (vf 12) = .bool false ∧ (pf 12) = [] := hR 12 (by decide)
      have e18 : (vf 18) = .int .i64 ((n.gs.getD j an0).b) ∧ (pf 18) = [] := hR 18 (by decide)
      have e22 : (vf 22) = .int .i64 (n.fst + (j : Int)) ∧ (pf 22) = [] := hR 22 (by decide)
      refine Or.inl ⟨want_of (congrArg some e12.1) rfl, ?_⟩
      refine rq_less (sx 96 (congrArg some e18.1) (sx 100 (congrArg some e22.1) (sub_nil _))) (List.sublist_append_right _ _) ?_
      exact (rq_call (by kernel_rfl) rfl (fun w hm => ret_ans (l08Lit_yes ((n.gs.getD j an0).b) (n.fst + (j : Int)) w (by first | assumption | (unfold LtOk; omega)) (by omega))))
     ·
      intro vf pf hR
      have e12 : (vf 12) = .bool false ∧ (pf 12) = [] := hR 12 (by decide)
      have e23 : (vf 23) = .bool true ∧ (pf 23) = [] := hR 23 (by decide)
      refine Or.inl ⟨want_of (congrArg some e12.1) rfl, ?_⟩
      refine rq_less (sx 101 (congrArg some e23.1) (sub_nil _)) (List.sublist_append_right _ _) ?_
      exact rq_v (rv_ev rfl)
     ·
      intro vf pf hR
      have e12 : (vf 12) = .bool false ∧ (pf 12) = [] := hR 12 (by decide)
      have e24 : (vf 24) = .bool false ∧ (pf 24) = [] := hR 24 (by decide)
      refine Or.inl ⟨rfl, ?_⟩
      refine rq_less (sx 90 (congrArg some e12.1) (sx 102 (congrArg some e24.1) (sub_nil _))) (List.sublist_append_right _ _) ?_
      exact rq_v (rv_ev rfl)
    ·
     intro vf pf hR
     have e25 : (vf 25) = .bool false ∧ (pf 25) = [] := hR 25 (by decide)
     refine hl_less (l' := [rowE 3 1 v15 ((rtsL n n.ss.length).length) ((rtsL n n.ss.length).map (Value.int .i64)), boxE b1 #[.int .i64 n.ins, n.sv, n.av, n.ov] 28]) (sx 0 rfl (sx 1 rfl (sx 2 rfl (sx 3 rfl (sx 6 rfl (sx 8 rfl (sx 12 rfl (sx 17 rfl (sx 61 rfl (sx 75 rfl (sx 103 (congrArg some e25.1) (sub_nil _)))))))))))) (List.sublist_append_right _ _) ?_
     simp only [List.drop_succ_cons, List.drop_zero]
     refine hl_less (sx 0 rfl (sx 1 rfl (sx 2 rfl (sx 3 rfl (sx 6 rfl (sx 8 rfl (sx 12 rfl (sx 17 rfl (sx 61 rfl (sx 75 rfl (sx 103 rfl (sub_nil _)))))))))))) (.refl _) ?_
     refine hl_nil ?_
     refine hq_then ?_
     refine hc_false rfl ?_
     refine hc_skip ?_
     refine hq_block_normal ?_
     refine hq_then ?_
     refine hc_region ?_
     refine hl_v rfl rfl rfl (rv_ev rfl) ?_
     refine hl_v rfl rfl rfl (rv_add rfl rfl rfl (by constructor <;> omega)) ?_
     refine hl_v rfl rfl rfl (rv_ev rfl) ?_
     refine hl_less (sx 0 rfl (sx 1 rfl (sx 2 rfl (sx 3 rfl (sx 6 rfl (sx 8 rfl (sx 12 rfl (sx 17 rfl (sx 61 rfl (sx 75 rfl (sx 103 rfl (sub_nil _)))))))))))) (.refl _) ?_
     refine hl_nil ?_
     exact hq_round1 (j + 1) (by omega) (by omega) (sx 0 rfl (sx 1 rfl (sx 2 rfl (sx 3 rfl (sx 6 rfl (sx 8 rfl (sx 12 rfl (sx 17 rfl (sx 61 rfl (sub_nil _)))))))))) ((.cons_cons _ (.cons_cons _ .slnil)))
   ·
    refine hl_less (sx 0 rfl (sx 1 rfl (sx 2 rfl (sx 3 rfl (sx 6 rfl (sx 8 rfl (sx 12 rfl (sx 17 rfl (sx 61 rfl (sx 75 rfl (sub_nil _))))))))))) (.refl _) ?_
    refine hl_nil ?_
    refine hq_then ?_
    refine hc_false rfl ?_
    refine hc_exit ?_
    refine hq_then_exit ?_
    refine hq_then_exit ?_
    refine hq_block_exit ?_
    refine hq_then ?_
    refine hc_seq ?_
    refine hc_region ?_
    refine hl_v rfl rfl rfl (rv_ev rfl) ?_
    refine hl_less (sx 0 rfl (sx 1 rfl (sx 2 rfl (sx 3 rfl (sx 6 rfl (sx 8 rfl (sx 12 rfl (sx 17 rfl (sx 61 rfl (sx 75 rfl (sub_nil _))))))))))) (.refl _) ?_
    refine hl_nil ?_
    refine hq_then ?_
    refine hc_ret ?_
    exact hq_ans rfl rfl rfl
set_option maxHeartbeats 4000000 in
set_option maxRecDepth 100000 in
theorem SeqNext_zero (kd v : Int) (w : World) (hs0 : kd = 0 ∨ kd = 1) (hs1 : 0 ≤ v ∧ v ≤ 31) (hs2 : kd = 0 → v ≤ 1) :
  Calls Try.prog 122 #[.int .i64 kd, .int .i64 v, .int .i64 0] w (Ans w (.int .i64 (seqZ kd v))) := by
 refine calls_hc (N := 49) (args := [.int .i64 kd, .int .i64 v, .int .i64 0]) Try.func122 rfl rfl ?_
 refine hc_less _ (sx 0 rfl (sx 1 rfl (sx 2 rfl (sub_nil _)))) (.refl _) ?_
 refine hc_seq ?_
 refine hc_region ?_
 refine hl_v rfl rfl rfl (rv_ev rfl) ?_
 refine hl_less (sx 0 rfl (sx 1 rfl (sx 2 rfl (sx 6 rfl (sub_nil _))))) (.refl _) ?_
 refine hl_nil ?_
 refine hq_then ?_
 refine hc_seq ?_
 refine hc_seq ?_
 refine hc_region ?_
 refine hl_v rfl rfl rfl (rv_ev rfl) ?_
 refine hl_eql rfl rfl rfl rfl rfl rfl (fun h1 => ?_) (fun h1 => ?_)
 ·
  refine hl_v rfl rfl rfl (rv_ev rfl) ?_
  refine hl_v rfl rfl rfl (rv_ev rfl) ?_
  refine hl_callV rfl rfl rfl (rq_call (by kernel_rfl) rfl (fun w hm => ret_ans (l01In_any0 v 0 1 w))) ?_
  refine hl_bool (fun h2 => ?_) (fun h2 => absurd ((((inR_iff _ _ _).2 (by omega))).symm.trans h2) (by decide))
  refine hl_v rfl rfl rfl (rv_ev rfl) ?_
  refine hl_less (sx 0 rfl (sx 1 rfl (sx 2 rfl (sx 6 rfl (sx 14 rfl (sub_nil _)))))) (.refl _) ?_
  refine hl_nil ?_
  refine hq_then ?_
  refine hc_true rfl ?_
  refine hc_seq ?_
  refine hc_region ?_
  refine hl_v rfl rfl rfl (rv_ev rfl) ?_
  refine hl_v rfl rfl rfl (rv_bits rfl (by decide) rfl rfl (r := 0) (by decide)) ?_
  refine hl_v rfl rfl rfl (rv_ev rfl) ?_
  refine hl_less (sx 0 rfl (sx 1 rfl (sx 2 rfl (sx 6 rfl (sx 14 rfl (sub_nil _)))))) (.refl _) ?_
  refine hl_nil ?_
  refine hq_then ?_
  refine hc_ret ?_
  refine hq_then_ret ?_
  exact hq_ans rfl rfl (congrArg _ (show _ = seqZ kd v by unfold seqZ; first | rw [if_pos (by omega)] | (rw [if_neg (by omega)] <;> omega)))
 ·
  refine hl_v rfl rfl rfl (rv_ev rfl) ?_
  refine hl_skip rfl rfl rfl ?_
  refine hl_skip rfl rfl rfl ?_
  refine hl_v rfl rfl rfl (rv_ev rfl) ?_
  refine hl_less (sx 0 rfl (sx 1 rfl (sx 2 rfl (sx 6 rfl (sx 14 rfl (sub_nil _)))))) (.refl _) ?_
  refine hl_nil ?_
  refine hq_then ?_
  refine hc_false rfl ?_
  refine hc_skip ?_
  refine hq_then ?_
  refine hc_seq ?_
  refine hc_seq ?_
  refine hc_region ?_
  refine hl_v rfl rfl rfl (rv_ev rfl) ?_
  refine hl_neq rfl rfl rfl rfl rfl rfl (fun h3 => ?_) (fun h3 => ?_)
  ·
   refine hl_v rfl rfl rfl (rv_ev rfl) ?_
   refine hl_skip rfl rfl rfl ?_
   refine hl_skip rfl rfl rfl ?_
   refine hl_skip rfl rfl rfl ?_
   refine hl_v rfl rfl rfl (rv_ev rfl) ?_
   refine hl_less (sx 0 rfl (sx 1 rfl (sx 2 rfl (sx 6 rfl (sx 14 rfl (sx 23 rfl (sub_nil _))))))) (.refl _) ?_
   refine hl_nil ?_
   refine hq_then ?_
   refine hc_true rfl ?_
   refine hc_seq ?_
   refine hc_region ?_
   refine hl_v rfl rfl rfl (rv_ev rfl) ?_
   refine hl_less (sx 0 rfl (sx 1 rfl (sx 2 rfl (sx 6 rfl (sx 14 rfl (sx 23 rfl (sub_nil _))))))) (.refl _) ?_
   refine hl_nil ?_
   refine hq_then ?_
   refine hc_ret ?_
   refine hq_then_ret ?_
   exfalso
   omega
  ·
   refine hl_v rfl rfl rfl (rv_ev rfl) ?_
   refine hl_v rfl rfl rfl (rv_ev rfl) ?_
   refine hl_callV rfl rfl rfl (rq_call (by kernel_rfl) rfl (fun w hm => ret_ans (l01In_any0 v 0 31 w))) ?_
   refine hl_bool (fun h4 => ?_) (fun h4 => absurd ((((inR_iff _ _ _).2 (by omega))).symm.trans h4) (by decide))
   refine hl_v rfl rfl rfl (rv_ev rfl) ?_
   refine hl_v rfl rfl rfl (rv_ev rfl) ?_
   refine hl_less (sx 0 rfl (sx 1 rfl (sx 2 rfl (sx 6 rfl (sx 14 rfl (sx 23 rfl (sub_nil _))))))) (.refl _) ?_
   refine hl_nil ?_
   refine hq_then ?_
   refine hc_false rfl ?_
   refine hc_skip ?_
   refine hq_then ?_
   refine hc_seq ?_
   refine hc_region ?_
   refine hl_v rfl rfl rfl (rv_ev rfl) ?_
   refine hl_v rfl rfl rfl (rv_bits rfl (by decide) rfl rfl (r := 0) (by decide)) ?_
   refine hl_v rfl rfl rfl (rv_add rfl rfl rfl (by constructor <;> omega)) ?_
   refine hl_v rfl rfl rfl (rv_ev rfl) ?_
   refine hl_less (sx 0 rfl (sx 1 rfl (sx 2 rfl (sx 6 rfl (sx 7 rfl (sx 14 rfl (sx 23 rfl (sub_nil _)))))))) (.refl _) ?_
   refine hl_nil ?_
   refine hq_then ?_
   refine hc_seq ?_
   refine hc_region ?_
   refine hl_v rfl rfl rfl (rv_ev rfl) ?_
   refine hl_v rfl rfl rfl (rv_bits rfl (by decide) rfl rfl (r := v - v % 2) (andNot_small hs1.1 hs1.2)) ?_
   refine hl_v rfl rfl rfl (rv_ev rfl) ?_
   refine hl_v rfl rfl rfl (rv_ev rfl) ?_
   refine hl_v rfl rfl rfl (rv_shr rfl rfl rfl (by omega)) ?_
   rw [show (v / 2 ^ (0 + 1 : Int).toNat : Int) = v / 2 from rfl]
   refine hl_v rfl rfl rfl (rv_bits rfl (by decide) rfl rfl (r := (v / 2) % 2) (Bit.and_one _ (by omega) (by omega))) ?_
   refine hl_v rfl rfl rfl (rv_add rfl rfl rfl (by constructor <;> omega)) ?_
   refine hl_v rfl rfl rfl (rv_ev rfl) ?_
   refine hl_less (sx 0 rfl (sx 1 rfl (sx 2 rfl (sx 6 rfl (sx 7 rfl (sx 8 rfl (sx 14 rfl (sx 23 rfl (sub_nil _))))))))) (.refl _) ?_
   refine hl_nil ?_
   refine hq_then ?_
   refine hc_seq ?_
   refine hc_seq ?_
   refine hc_region ?_
   refine hl_v rfl rfl rfl (rv_ev rfl) ?_
   refine hl_v rfl rfl rfl (rv_shr rfl rfl rfl (by omega)) ?_
   refine hl_v rfl rfl rfl (rv_bits rfl (by decide) rfl rfl (r := 0) (by decide)) ?_
   refine hl_eql rfl rfl rfl rfl rfl rfl (fun h5 => absurd h5 (by omega)) (fun h5 => ?_)
   refine hl_less (sx 0 rfl (sx 1 rfl (sx 2 rfl (sx 6 rfl (sx 7 rfl (sx 8 rfl (sx 14 rfl (sx 23 rfl (sx 37 rfl (sub_nil _)))))))))) (.refl _) ?_
   refine hl_nil ?_
   refine hq_then ?_
   refine hc_false rfl ?_
   refine hc_skip ?_
   refine hq_then ?_
   refine hc_seq ?_
   refine hc_region ?_
   refine hl_v rfl rfl rfl (rv_ev rfl) ?_
   refine hl_v rfl rfl rfl (rv_ev rfl) ?_
   refine hl_less (sx 0 rfl (sx 1 rfl (sx 2 rfl (sx 6 rfl (sx 7 rfl (sx 8 rfl (sx 14 rfl (sx 23 rfl (sx 37 rfl (sub_nil _)))))))))) (.refl _) ?_
   refine hl_nil ?_
   refine hq_then ?_
   refine hc_ret ?_
   exact hq_ans rfl rfl (congrArg _ (show _ = seqZ kd v by unfold seqZ; first | rw [if_pos (by omega)] | (rw [if_neg (by omega)] <;> omega)))
set_option maxHeartbeats 4000000 in
set_option maxRecDepth 100000 in
theorem specStateOk_yes (n : Nt) (st : List Int) (v : Value) (w : World) (hr : RdsNt w n) (hn : NtOk n) (hst : RdsW w v 1 st.length (st.map (Value.int .i64))) (hso : StOk n st) :
  Calls Try.prog 63 #[.agg #[.int .i64 n.ins, n.sv, n.av, n.ov], v] w (Ans w (.bool true)) := by
 have hi0 := hn.i0
 have hi1 := hn.i1
 have hs1 := hn.s1
 have ha1 := hn.a1
 have ho1 := hn.o1
 have hcnt : n.cnt = 1 + n.ins + n.ss.length + n.gs.length := rfl
 have hfst : n.fst = 1 + n.ins + n.ss.length := rfl
 have hsl := hso.len
 refine calls_hc (N := 35) (args := [.agg #[.int .i64 n.ins, n.sv, n.av, n.ov], v]) Try.func63 rfl rfl ?_
 refine hc_less _ (sx 0 rfl (sx 1 rfl (sub_nil _))) (.refl _) ?_
 refine hc_seq ?_
 refine hc_region ?_
 refine hl_box rfl rfl rfl (rq_box rfl rfl) ?_
 intro b1
 refine hl_v rfl rfl rfl (rv_ev rfl) ?_
 refine hl_less (sx 0 rfl (sx 1 rfl (sx 2 rfl (sx 4 rfl (sub_nil _))))) (.refl _) ?_
 refine hl_nil ?_
 refine hq_then ?_
 refine hc_seq ?_
 refine hc_seq ?_
 refine hc_region ?_
 refine hl_v rfl rfl rfl (rv_loadN (cs := [.int .i64 n.ins, n.sv, n.av, n.ov]) rfl (by kernel_rfl) (by kernel_rfl) rfl rfl (box_part 0 rfl 0 rfl)) ?_
 refine hl_callV rfl rfl rfl (rq_call (by kernel_rfl) rfl (fun w hm => ret_ans (specNetOk_yes n w (hr.below hm.bel) hn))) ?_
 refine hl_v rfl rfl rfl (rv_ev rfl) ?_
 refine hl_v rfl rfl rfl (rv_ev rfl) ?_
 refine hl_v rfl rfl rfl (rv_ev rfl) ?_
 refine hl_v rfl rfl rfl (rv_len rfl Try.underlying26 rfl (rd_old hst)) ?_
 refine hl_v rfl rfl rfl (rv_field (k0 := 1) rfl (by kernel_rfl) rfl) ?_
 refine hl_v rfl rfl rfl (rv_load rfl (by kernel_rfl) rfl (box_cell 0 rfl rfl)) ?_
 refine hl_v rfl rfl rfl (rv_len rfl Try.underlying24 rfl (rd_old hr.sq)) ?_
 refine hl_neq rfl rfl rfl rfl rfl rfl (fun h2 => absurd h2 (by omega)) (fun h2 => ?_)
 refine hl_v rfl rfl rfl (rv_ev rfl) ?_
 refine hl_less (sx 0 rfl (sx 1 rfl (sx 2 rfl (sx 4 rfl (sx 16 rfl (sub_nil _)))))) (.refl _) ?_
 refine hl_nil ?_
 refine hq_then ?_
 refine hc_false rfl ?_
 refine hc_skip ?_
 refine hq_then ?_
 refine hc_seq ?_
 refine hc_seq ?_
 refine hc_region ?_
 refine hl_v rfl rfl rfl (rv_ev rfl) ?_
 refine hl_less (sx 0 rfl (sx 1 rfl (sx 2 rfl (sx 4 rfl (sx 5 rfl (sx 16 rfl (sub_nil _))))))) (.refl _) ?_
 refine hl_nil ?_
 refine hq_then ?_
 refine hc_block ?_
 refine hc_loop1 (α := Nat) (fun k => [boxE b1 #[.int .i64 n.ins, n.sv, n.av, n.ov] 28]) (fun k => [(0, .agg #[.int .i64 n.ins, n.sv, n.av, n.ov]), (1, v), (2, .pointer (some ⟨b1, 0, none⟩)), (4, .bool false), (5, .int .i64 (k : Int)), (16, .bool false)]) (fun k => k ≤ st.length) (fun k => st.length - k) 0 (Nat.zero_le _) (sx 0 rfl (sx 1 rfl (sx 2 rfl (sx 4 rfl (sx 5 rfl (sx 16 rfl (sub_nil _))))))) ((.cons_cons _ .slnil)) ?_
 intro k hi3
 have hk := hi3
 refine hc_seq ?_
 refine hc_seq ?_
 refine hc_region ?_
 refine hl_v rfl rfl rfl (rv_ev rfl) ?_
 refine hl_v rfl rfl rfl (rv_ev rfl) ?_
 refine hl_v rfl rfl rfl (rv_len rfl Try.underlying26 rfl (rd_old hst)) ?_
 refine hl_lss rfl rfl rfl rfl rfl rfl (fun h4 => ?_) (fun h4 => ?_)
 ·
  refine hl_less (sx 0 rfl (sx 1 rfl (sx 2 rfl (sx 4 rfl (sx 5 rfl (sx 16 rfl (sx 20 rfl (sub_nil _)))))))) (.refl _) ?_
  refine hl_nil ?_
  refine hq_then ?_
  refine hc_true rfl ?_
  refine hc_skip ?_
  refine hq_then ?_
  refine hc_seq ?_
  refine hc_block ?_
  refine hc_seq ?_
  have hqk := (hn.sq _ (getD_memX (d := sq0) (show k < n.ss.length by omega))).kind
  have hsk := hso.rng k (by omega)
  have hzz := seqZ_pos (kd := (n.ss.getD k sq0).kd) hsk.1
  have hb5 : (decide (seqZ ((n.ss.getD k sq0).kd) (st.getD k 0) < 0)) = false := decide_eq_false (by omega)
  refine hc_draw (by kernel_rfl) 12 [0, 1, 2, 3, 4, 5, 6, 7, 8, 9, 10, 11] (List.take 12 _) (List.drop 12 _) [[], [0], [], [1, 2], [3], [4], [], [], [6, 7], [8], [5, 9], [10]] [23, 24, 25, 26, 27, 28, 29, 30, 31, 32, 33, 34] (fun i_ vs_ v_ p_ => match i_ with | 0 => v_ = .pointer (some ⟨b1, 0 + 1, none⟩) ∧ p_ = [] | 1 => v_ = n.sv ∧ p_ = [] | 2 => v_ = .int .i64 (k : Int) ∧ p_ = [] | 3 => v_ = elP n.sv (((k : Int)).toNat * 3) ∧ p_ = [] | 4 => v_ = elP n.sv (((k : Int)).toNat * 3 + 0) ∧ p_ = [] | 5 => v_ = .int .i64 ((n.ss.getD k sq0).kd) ∧ p_ = [] | 6 => v_ = v ∧ p_ = [] | 7 => v_ = .int .i64 (k : Int) ∧ p_ = [] | 8 => v_ = elP v (((k : Int)).toNat * 1) ∧ p_ = [] | 9 => v_ = .int .i64 (st.getD k 0) ∧ p_ = [] | 10 => v_ = .int .i64 (seqZ ((n.ss.getD k sq0).kd) (st.getD k 0)) ∧ p_ = [] | 11 => v_ = .bool false ∧ p_ = [] | _ => True) (List.take_append_drop 12 _).symm (by kernel_rfl) (by kernel_rfl) rfl rfl ?_ ?_
  ·
   refine ⟨?_, ?_, ?_, ?_, ?_, ?_, ?_, ?_, ?_, ?_, ?_, ?_, trivial⟩
   ·
    intro vf pf hR
    refine Or.inl ⟨rfl, ?_⟩
    refine rq_less (sx 2 rfl (sub_nil _)) (List.sublist_append_right _ _) ?_
    exact rq_v (rv_field (k0 := 1) rfl (by kernel_rfl) rfl)
   ·
    intro vf pf hR
    have e0 : (vf 0) = .pointer (some ⟨b1, 0 + 1, none⟩) ∧ (pf 0) = [] := hR 0 (by decide)
    refine Or.inl ⟨rfl, ?_⟩
    refine rq_less (sx 23 (congrArg some e0.1) (sub_nil _)) (List.sublist_append_right _ _) ?_
    exact rq_v (rv_load rfl (by kernel_rfl) rfl (box_cell 0 rfl rfl))
   ·
    intro vf pf hR
    refine Or.inl ⟨rfl, ?_⟩
    refine rq_less (sx 5 rfl (sub_nil _)) (List.sublist_append_right _ _) ?_
    exact rq_v (rv_ev rfl)
   ·
    intro vf pf hR
    have e1 : (vf 1) = n.sv ∧ (pf 1) = [] := hR 1 (by decide)
    have e2 : (vf 2) = .int .i64 (k : Int) ∧ (pf 2) = [] := hR 2 (by decide)
    refine Or.inl ⟨rfl, ?_⟩
    refine rq_less (sx 24 (congrArg some e1.1) (sx 25 (congrArg some e2.1) (sub_nil _))) (List.sublist_append_right _ _) ?_
    exact rq_v (rv_index (s := 3) rfl Try.underlying24 (by kernel_rfl) rfl rfl (rd_old hr.sq) (by omega) (by first | omega | (simp only [List.length_set]; omega)))
   ·
    intro vf pf hR
    have e3 : (vf 3) = elP n.sv (((k : Int)).toNat * 3) ∧ (pf 3) = [] := hR 3 (by decide)
    refine Or.inl ⟨rfl, ?_⟩
    refine rq_less (sx 26 (congrArg some e3.1) (sub_nil _)) (List.sublist_append_right _ _) ?_
    exact rq_v (rv_fieldEl (k0 := 0) rfl (by kernel_rfl) rfl (rd_old hr.sq) (by first | omega | (simp only [List.length_set]; omega)))
   ·
    intro vf pf hR
    have e4 : (vf 4) = elP n.sv (((k : Int)).toNat * 3 + 0) ∧ (pf 4) = [] := hR 4 (by decide)
    refine Or.inl ⟨rfl, ?_⟩
    refine rq_less (sx 27 (congrArg some e4.1) (sub_nil _)) (List.sublist_append_right _ _) ?_
    exact rq_v (rv_loadEl (u := .int .i64 ((n.ss.getD k sq0).kd)) rfl (by kernel_rfl) rfl (rd_old hr.sq) ((flat_at sqC 3 (fun _ => rfl) n.ss sq0 (show k < _ by first | omega | (simp only [List.length_set]; omega)) (by decide)).trans rfl))
   ·
    intro vf pf hR
    refine Or.inl ⟨rfl, ?_⟩
    refine rq_less (sx 1 rfl (sub_nil _)) (List.sublist_append_right _ _) ?_
    exact rq_v (rv_ev rfl)
   ·
    intro vf pf hR
    refine Or.inl ⟨rfl, ?_⟩
    refine rq_less (sx 5 rfl (sub_nil _)) (List.sublist_append_right _ _) ?_
    exact rq_v (rv_ev rfl)
   ·
    intro vf pf hR
    have e6 : (vf 6) = v ∧ (pf 6) = [] := hR 6 (by decide)
    have e7 : (vf 7) = .int .i64 (k : Int) ∧ (pf 7) = [] := hR 7 (by decide)
    refine Or.inl ⟨rfl, ?_⟩
    refine rq_less (sx 29 (congrArg some e6.1) (sx 30 (congrArg some e7.1) (sub_nil _))) (List.sublist_append_right _ _) ?_
    exact rq_v (rv_index (s := 1) rfl Try.underlying26 (by kernel_rfl) rfl rfl (rd_old hst) (by omega) (by first | omega | (simp only [List.length_set]; omega)))
   ·
    intro vf pf hR
    have e8 : (vf 8) = elP v (((k : Int)).toNat * 1) ∧ (pf 8) = [] := hR 8 (by decide)
    refine Or.inl ⟨rfl, ?_⟩
    refine rq_less (sx 31 (congrArg some e8.1) (sub_nil _)) (List.sublist_append_right _ _) ?_
    exact rq_v (rv_loadEl (u := .int .i64 (st.getD k 0)) rfl (by kernel_rfl) rfl (rd_old hst) (ints_at1 (show _ < st.length by first | omega | (simp only [List.length_set]; omega))))
   ·
    intro vf pf hR
    have e5 : (vf 5) = .int .i64 ((n.ss.getD k sq0).kd) ∧ (pf 5) = [] := hR 5 (by decide)
    have e9 : (vf 9) = .int .i64 (st.getD k 0) ∧ (pf 9) = [] := hR 9 (by decide)
    refine Or.inl ⟨rfl, ?_⟩
    refine rq_less (sx 28 (congrArg some e5.1) (sx 32 (congrArg some e9.1) (sub_nil _))) (List.sublist_append_right _ _) ?_
    exact (rq_call (by kernel_rfl) rfl (fun w hm => ret_ans (SeqNext_zero ((n.ss.getD k sq0).kd) (st.getD k 0) w (by omega) (by omega) (by omega))))
   ·
    intro vf pf hR
    have e10 : (vf 10) = .int .i64 (seqZ ((n.ss.getD k sq0).kd) (st.getD k 0)) ∧ (pf 10) = [] := hR 10 (by decide)
    refine Or.inl ⟨rfl, ?_⟩
    refine rq_less (sx 33 (congrArg some e10.1) (sub_nil _)) (List.sublist_append_right _ _) ?_
    exact rq_mono (rq_v (rv_cmp rfl rfl rfl rfl)) (fun _ _ h => ⟨h.1.trans (congrArg Value.bool hb5), h.2⟩)
  ·
   intro vf pf hR
   have e11 : (vf 11) = .bool false ∧ (pf 11) = [] := hR 11 (by decide)
   refine hl_less (l' := [boxE b1 #[.int .i64 n.ins, n.sv, n.av, n.ov] 28]) (sx 0 rfl (sx 1 rfl (sx 2 rfl (sx 4 rfl (sx 5 rfl (sx 16 rfl (sx 20 rfl (sx 34 (congrArg some e11.1) (sub_nil _))))))))) (List.sublist_append_right _ _) ?_
   simp only [List.drop_succ_cons, List.drop_zero]
   refine hl_less (sx 0 rfl (sx 1 rfl (sx 2 rfl (sx 4 rfl (sx 5 rfl (sx 16 rfl (sx 20 rfl (sx 34 rfl (sub_nil _))))))))) (.refl _) ?_
   refine hl_nil ?_
   refine hq_then ?_
   refine hc_false rfl ?_
   refine hc_skip ?_
   refine hq_block_normal ?_
   refine hq_then ?_
   refine hc_region ?_
   refine hl_v rfl rfl rfl (rv_ev rfl) ?_
   refine hl_v rfl rfl rfl (rv_add rfl rfl rfl (by constructor <;> omega)) ?_
   refine hl_v rfl rfl rfl (rv_ev rfl) ?_
   refine hl_less (sx 0 rfl (sx 1 rfl (sx 2 rfl (sx 4 rfl (sx 5 rfl (sx 16 rfl (sx 20 rfl (sx 34 rfl (sub_nil _))))))))) (.refl _) ?_
   refine hl_nil ?_
   exact hq_round1 (k + 1) (by omega) (by omega) (sx 0 rfl (sx 1 rfl (sx 2 rfl (sx 4 rfl (sx 5 rfl (sx 16 rfl (sub_nil _))))))) ((.cons_cons _ .slnil))
 ·
  refine hl_less (sx 0 rfl (sx 1 rfl (sx 2 rfl (sx 4 rfl (sx 5 rfl (sx 16 rfl (sx 20 rfl (sub_nil _)))))))) (.refl _) ?_
  refine hl_nil ?_
  refine hq_then ?_
  refine hc_false rfl ?_
  refine hc_exit ?_
  refine hq_then_exit ?_
  refine hq_then_exit ?_
  refine hq_block_exit ?_
  refine hq_then ?_
  refine hc_seq ?_
  refine hc_region ?_
  refine hl_v rfl rfl rfl (rv_ev rfl) ?_
  refine hl_less (sx 0 rfl (sx 1 rfl (sx 2 rfl (sx 4 rfl (sx 5 rfl (sx 16 rfl (sx 20 rfl (sub_nil _)))))))) (.refl _) ?_
  refine hl_nil ?_
  refine hq_then ?_
  refine hc_ret ?_
  exact hq_ans rfl rfl rfl
set_option maxHeartbeats 4000000 in
set_option maxRecDepth 100000 in
theorem NetStart_ret (n : Nt) (w : World) (hr : RdsNt w n) (hn : NtOk n) :
  Calls Try.prog 15 #[.agg #[.int .i64 n.ins, n.sv, n.av, n.ov]] w (Ret w (fun v' post => post = [rowE 3 1 v' (stL n).length ((stL n).map (Value.int .i64))])) := by
 have hi0 := hn.i0
 have hi1 := hn.i1
 have hs1 := hn.s1
 have ha1 := hn.a1
 have ho1 := hn.o1
 have hcnt : n.cnt = 1 + n.ins + n.ss.length + n.gs.length := rfl
 have hfst : n.fst = 1 + n.ins + n.ss.length := rfl
 refine calls_hc (N := 27) (args := [.agg #[.int .i64 n.ins, n.sv, n.av, n.ov]]) Try.func15 rfl rfl ?_
 refine hc_less _ (sx 0 rfl (sub_nil _)) (.refl _) ?_
 refine hc_seq ?_
 refine hc_region ?_
 refine hl_box rfl rfl rfl (rq_box rfl rfl) ?_
 intro b1
 refine hl_v rfl rfl rfl (rv_ev rfl) ?_
 refine hl_less (sx 0 rfl (sx 1 rfl (sx 2 rfl (sub_nil _)))) (.refl _) ?_
 refine hl_nil ?_
 refine hq_then ?_
 refine hc_seq ?_
 refine hc_region ?_
 refine hl_row rfl rfl rfl (rq_slice0 (s := 1) rfl Try.underlying26 (by kernel_rfl)) ?_
 intro g2
 refine hl_v rfl rfl rfl (rv_ev rfl) ?_
 refine hl_less (sx 0 rfl (sx 1 rfl (sx 2 rfl (sx 3 rfl (sub_nil _))))) (.refl _) ?_
 refine hl_nil ?_
 refine hq_then ?_
 refine hc_seq ?_
 refine hc_seq ?_
 refine hc_region ?_
 refine hl_v rfl rfl rfl (rv_loadN (cs := [.int .i64 n.ins, n.sv, n.av, n.ov]) rfl (by kernel_rfl) (by kernel_rfl) rfl rfl (box_part 1 rfl 0 rfl)) ?_
 refine hl_callV rfl rfl rfl (rq_call (by kernel_rfl) rfl (fun w hm => ret_ans (specNetOk_yes n w (hr.below hm.bel) hn))) ?_
 refine hl_v rfl rfl rfl (rv_ev rfl) ?_
 refine hl_less (sx 0 rfl (sx 1 rfl (sx 2 rfl (sx 3 rfl (sx 8 rfl (sub_nil _)))))) (.refl _) ?_
 refine hl_nil ?_
 refine hq_then ?_
 refine hc_false rfl ?_
 refine hc_skip ?_
 refine hq_then ?_
 refine hc_seq ?_
 refine hc_seq ?_
 refine hc_region ?_
 refine hl_v rfl rfl rfl (rv_ev rfl) ?_
 refine hl_less (sx 0 rfl (sx 1 rfl (sx 2 rfl (sx 3 rfl (sx 4 rfl (sx 8 rfl (sub_nil _))))))) (.refl _) ?_
 refine hl_nil ?_
 refine hq_then ?_
 refine hc_block ?_
 refine hc_loop3 (α := Nat) (β := Value) (γ := List Int) (fun k u zs => [rowE 3 1 u zs.length (zs.map (Value.int .i64)), boxE b1 #[.int .i64 n.ins, n.sv, n.av, n.ov] 28]) (fun k u zs => [(0, .agg #[.int .i64 n.ins, n.sv, n.av, n.ov]), (1, .pointer (some ⟨b1, 0, none⟩)), (2, .slice none 0 0), (3, u), (4, .int .i64 (k : Int)), (8, .bool false)]) (fun k u zs => k ≤ n.ss.length ∧ zs = strL n k) (fun k u zs => n.ss.length - k) 0 _ [] ⟨by omega, rfl⟩ (sx 0 rfl (sx 1 rfl (sx 2 rfl (sx 3 rfl (sx 4 rfl (sx 8 rfl (sub_nil _))))))) ((.cons_cons _ (.cons_cons _ .slnil))) ?_
 intro k u zs hi3
 obtain ⟨hk, hz⟩ := hi3
 have hzl : zs.length = k := by rw [hz]; exact str_len n hk
 refine hc_seq ?_
 refine hc_seq ?_
 refine hc_region ?_
 refine hl_v rfl rfl rfl (rv_ev rfl) ?_
 refine hl_v rfl rfl rfl (rv_field (k0 := 1) rfl (by kernel_rfl) rfl) ?_
 refine hl_v rfl rfl rfl (rv_load rfl (by kernel_rfl) rfl (box_cell 1 rfl rfl)) ?_
 refine hl_v rfl rfl rfl (rv_len rfl Try.underlying24 rfl (rd_old hr.sq)) ?_
 refine hl_lss rfl rfl rfl rfl rfl rfl (fun h4 => ?_) (fun h4 => ?_)
 ·
  refine hl_less (sx 0 rfl (sx 1 rfl (sx 2 rfl (sx 3 rfl (sx 4 rfl (sx 8 rfl (sx 14 rfl (sub_nil _)))))))) (.refl _) ?_
  refine hl_nil ?_
  refine hq_then ?_
  refine hc_true rfl ?_
  refine hc_skip ?_
  refine hq_then ?_
  refine hc_seq ?_
  refine hc_block ?_
  refine hc_region ?_
  refine hl_v rfl rfl rfl (rv_ev rfl) ?_
  refine hl_v rfl rfl rfl (rv_field (k0 := 1) rfl (by kernel_rfl) rfl) ?_
  refine hl_v rfl rfl rfl (rv_load rfl (by kernel_rfl) rfl (box_cell 1 rfl rfl)) ?_
  refine hl_v rfl rfl rfl (rv_ev rfl) ?_
  refine hl_v rfl rfl rfl (rv_index (s := 3) rfl Try.underlying24 (by kernel_rfl) rfl rfl (rd_old hr.sq) (by omega) (by first | omega | (simp only [List.length_set]; omega))) ?_
  refine hl_v rfl rfl rfl (rv_fieldEl (k0 := 1) rfl (by kernel_rfl) rfl (rd_old hr.sq) (by first | omega | (simp only [List.length_set]; omega))) ?_
  refine hl_v rfl rfl rfl (rv_loadEl (u := .int .i64 ((n.ss.getD k sq0).it)) rfl (by kernel_rfl) rfl (rd_old hr.sq) ((flat_at sqC 3 (fun _ => rfl) n.ss sq0 (show k < _ by first | omega | (simp only [List.length_set]; omega)) (by decide)).trans rfl)) ?_
  refine hl_row rfl rfl rfl (rq_buildSlice (z := .int .i64 0) (s := 1) (cs := ([(n.ss.getD k sq0).it].map (Value.int .i64))) rfl Try.underlying26 (by kernel_rfl) (by decide) rfl (by kernel_rfl) rfl) ?_
  intro g5
  refine hl_append (i := 1) (z := .int .i64 0) (bytes := 8) (n' := (zs ++ ([(n.ss.getD k sq0).it])).length) (xs' := ((zs ++ ([(n.ss.getD k sq0).it])).map (Value.int .i64))) (L := fun v6 => [rowE 3 1 (.slice (some ⟨g5, 0, none⟩) 1 1) 1 ([(n.ss.getD k sq0).it].map (Value.int .i64)), rowE 3 1 v6 ((zs ++ ([(n.ss.getD k sq0).it])).length) ((zs ++ ([(n.ss.getD k sq0).it])).map (Value.int .i64)), boxE b1 #[.int .i64 n.ins, n.sv, n.av, n.ov] 28]) rfl rfl rfl rfl Try.underlying26 (by kernel_rfl) (by kernel_rfl) rfl rfl rfl (rd_row 0 rfl) (ints_one _) (by first | omega | (simp; omega)) (len_app zs ([(n.ss.getD k sq0).it])) (ints_app zs ([(n.ss.getD k sq0).it])) (fun _ => rfl) ?_
  intro v6
  refine hl_v rfl rfl rfl (rv_ev rfl) ?_
  refine hl_less (sx 0 rfl (sx 1 rfl (sx 2 rfl (sx 3 rfl (sx 4 rfl (sx 8 rfl (sx 14 rfl (sub_nil _)))))))) (.refl _) ?_
  refine hl_nil ?_
  refine hq_block_normal ?_
  refine hq_then ?_
  refine hc_region ?_
  refine hl_v rfl rfl rfl (rv_ev rfl) ?_
  refine hl_v rfl rfl rfl (rv_add rfl rfl rfl (by constructor <;> omega)) ?_
  refine hl_v rfl rfl rfl (rv_ev rfl) ?_
  refine hl_less (sx 0 rfl (sx 1 rfl (sx 2 rfl (sx 3 rfl (sx 4 rfl (sx 8 rfl (sx 14 rfl (sub_nil _)))))))) (.refl _) ?_
  refine hl_nil ?_
  exact hq_round3 (k + 1) v6 (zs ++ ([(n.ss.getD k sq0).it])) ⟨by omega, by rw [hz]; exact str_step n (by omega)⟩ (by omega) (sx 0 rfl (sx 1 rfl (sx 2 rfl (sx 3 rfl (sx 4 rfl (sx 8 rfl (sub_nil _))))))) ((.cons _ (.cons_cons _ (.cons_cons _ .slnil))))
 ·
  refine hl_less (sx 0 rfl (sx 1 rfl (sx 2 rfl (sx 3 rfl (sx 4 rfl (sx 8 rfl (sx 14 rfl (sub_nil _)))))))) (.refl _) ?_
  refine hl_nil ?_
  refine hq_then ?_
  refine hc_false rfl ?_
  refine hc_exit ?_
  refine hq_then_exit ?_
  refine hq_then_exit ?_
  refine hq_block_exit ?_
  refine hq_then ?_
  refine hc_seq ?_
  refine hc_region ?_
  refine hl_v rfl rfl rfl (rv_ev rfl) ?_
  refine hl_v rfl rfl rfl (rv_ev rfl) ?_
  refine hl_less (sx 0 rfl (sx 1 rfl (sx 2 rfl (sx 3 rfl (sx 4 rfl (sx 8 rfl (sx 14 rfl (sub_nil _)))))))) (.refl _) ?_
  refine hl_nil ?_
  refine hq_then ?_
  refine hc_ret ?_
  exact hq_retR (post := [rowE 3 1 u zs.length (zs.map (Value.int .i64))]) rfl rfl ((.cons_cons _ (.cons _ .slnil))) (by rw [hz, show k = n.ss.length by omega])
set_option maxHeartbeats 4000000 in
set_option maxRecDepth 100000 in
theorem l09Bit_ans (xs : List Int) (l : Int) (v : Value) (w : World) (hv : RdsW w v 1 xs.length (xs.map (Value.int .i64))) (hl : 0 ≤ l ∧ l < 2 * xs.length) (h01 : xs.getD (l / 2).toNat 0 = 0 ∨ xs.getD (l / 2).toNat 0 = 1) (hlen : xs.length ≤ 100000) :
  Calls Try.prog 64 #[v, .int .i64 l] w (Ans w (.int .i64 (bitL xs l))) := by
 refine calls_hc (N := 13) (args := [v, .int .i64 l]) Try.func64 rfl rfl ?_
 refine hc_less _ (sx 0 rfl (sx 1 rfl (sub_nil _))) (.refl _) ?_
 refine hc_seq ?_
 refine hc_region ?_
 refine hl_v rfl rfl rfl (rv_ev rfl) ?_
 refine hl_less (sx 0 rfl (sx 1 rfl (sx 4 rfl (sub_nil _)))) (.refl _) ?_
 refine hl_nil ?_
 refine hq_then ?_
 refine hc_seq ?_
 refine hc_region ?_
 refine hl_v rfl rfl rfl (rv_ev rfl) ?_
 refine hl_v rfl rfl rfl (rv_ev rfl) ?_
 refine hl_v rfl rfl rfl (rv_quo rfl rfl rfl (by refine ⟨?_, ?_, ?_⟩ <;> omega)) ?_
 refine hl_v rfl rfl rfl (rv_index (s := 1) rfl Try.underlying26 (by kernel_rfl) rfl rfl (rd_old hv) (by omega) (by first | omega | (simp only [List.length_set]; omega))) ?_
 refine hl_v rfl rfl rfl (rv_loadEl (u := .int .i64 (xs.getD ((l / 2).toNat) 0)) rfl (by kernel_rfl) rfl (rd_old hv) (ints_at1 (show _ < xs.length by first | omega | (simp only [List.length_set]; omega)))) ?_
 refine hl_v rfl rfl rfl (rv_ev rfl) ?_
 refine hl_v rfl rfl rfl (rv_bits rfl (by decide) rfl rfl (r := l % 2) (Bit.and_one _ (by omega) (by omega))) ?_
 refine hl_v rfl rfl rfl (rv_bits rfl (by decide) rfl rfl (r := bitL xs l) (xor01 h01)) ?_
 refine hl_v rfl rfl rfl (rv_ev rfl) ?_
 refine hl_less (sx 0 rfl (sx 1 rfl (sx 4 rfl (sub_nil _)))) (.refl _) ?_
 refine hl_nil ?_
 refine hq_then ?_
 refine hc_ret ?_
 exact hq_ans rfl rfl rfl
theorem shr_rng {inp : Int} (h : 0 ≤ inp ∧ inp ≤ 4294967295) (k : Nat) : 0 ≤ inp / 2 ^ k ∧ inp / 2 ^ k < 4294967296 := by
  have hp : (0 : Int) < 2 ^ k := Int.pow_pos (by decide)
  have h1 := Int.ediv_nonneg h.1 (Int.le_of_lt hp)
  have h2 := Int.ediv_le_self (2 ^ k) h.1
  omega
set_option maxHeartbeats 4000000 in
set_option maxRecDepth 100000 in
theorem specNodeValues_ret (n : Nt) (st : List Int) (v : Value) (inp : Int) (w : World) (hr : RdsNt w n) (hn : NtOk n) (hst : RdsW w v 1 st.length (st.map (Value.int .i64))) (hso : StOk n st) (hin : 0 ≤ inp ∧ inp ≤ 4294967295) :
  Calls Try.prog 14 #[.agg #[.int .i64 n.ins, n.sv, n.av, n.ov], v, .int .i64 inp] w (Ret w (fun v' post => post = [rowE 3 1 v' (valsL n st inp).length ((valsL n st inp).map (Value.int .i64))])) := by
 have hi0 := hn.i0
 have hi1 := hn.i1
 have hs1 := hn.s1
 have ha1 := hn.a1
 have ho1 := hn.o1
 have hcnt : n.cnt = 1 + n.ins + n.ss.length + n.gs.length := rfl
 have hfst : n.fst = 1 + n.ins + n.ss.length := rfl
 have hsl := hso.len
 refine calls_hc (N := 82) (args := [.agg #[.int .i64 n.ins, n.sv, n.av, n.ov], v, .int .i64 inp]) Try.func14 rfl rfl ?_
 refine hc_less _ (sx 0 rfl (sx 1 rfl (sx 2 rfl (sub_nil _)))) (.refl _) ?_
 refine hc_seq ?_
 refine hc_region ?_
 refine hl_box rfl rfl rfl (rq_box rfl rfl) ?_
 intro b1
 refine hl_v rfl rfl rfl (rv_ev rfl) ?_
 refine hl_less (sx 0 rfl (sx 1 rfl (sx 2 rfl (sx 3 rfl (sx 6 rfl (sub_nil _)))))) (.refl _) ?_
 refine hl_nil ?_
 refine hq_then ?_
 refine hc_seq ?_
 refine hc_seq ?_
 refine hc_region ?_
 refine hl_v rfl rfl rfl (rv_loadN (cs := [.int .i64 n.ins, n.sv, n.av, n.ov]) rfl (by kernel_rfl) (by kernel_rfl) rfl rfl (box_part 0 rfl 0 rfl)) ?_
 refine hl_v rfl rfl rfl (rv_ev rfl) ?_
 refine hl_callV rfl rfl rfl (rq_call (by kernel_rfl) rfl (fun w hm => ret_ans (specStateOk_yes n st v w (hr.below hm.bel) hn (hst.below hm.bel) hso))) ?_
 refine hl_v rfl rfl rfl (rv_ev rfl) ?_
 refine hl_less (sx 0 rfl (sx 1 rfl (sx 2 rfl (sx 3 rfl (sx 6 rfl (sx 14 rfl (sub_nil _))))))) (.refl _) ?_
 refine hl_nil ?_
 refine hq_then ?_
 refine hc_false rfl ?_
 refine hc_skip ?_
 refine hq_then ?_
 refine hc_seq ?_
 refine hc_region ?_
 refine hl_v rfl rfl rfl (rv_loadN (cs := [.int .i64 n.ins, n.sv, n.av, n.ov]) rfl (by kernel_rfl) (by kernel_rfl) rfl rfl (box_part 0 rfl 0 rfl)) ?_
 refine hl_callV rfl rfl rfl (rq_call (by kernel_rfl) rfl (fun w hm => ret_ans (specNodeCount_yes n w (hr.below hm.bel) hn))) ?_
 refine hl_row rfl rfl rfl (rq_make (z := .int .i64 0) (s := 1) (bytes := 8) (n := (List.replicate (n.cnt).toNat (0 : Int)).length) (cs := ((List.replicate (n.cnt).toNat (0 : Int)).map (Value.int .i64))) rfl Try.underlying26 (by kernel_rfl) (by decide) rfl rfl (by first | (rw [List.length_replicate]; done) | (rw [List.length_replicate]; omega)) (by first | (rw [List.length_replicate]; done) | (rw [List.length_replicate]; omega)) (by rw [List.length_replicate]; omega) (ints_make _)) ?_
 intro g2
 refine hl_v rfl rfl rfl (rv_ev rfl) ?_
 refine hl_less (sx 0 rfl (sx 1 rfl (sx 2 rfl (sx 3 rfl (sx 6 rfl (sx 7 rfl (sx 14 rfl (sub_nil _)))))))) (.refl _) ?_
 refine hl_nil ?_
 refine hq_then ?_
 refine hc_seq ?_
 refine hc_seq ?_
 refine hc_region ?_
 refine hl_v rfl rfl rfl (rv_ev rfl) ?_
 refine hl_less (sx 0 rfl (sx 1 rfl (sx 2 rfl (sx 3 rfl (sx 6 rfl (sx 7 rfl (sx 8 rfl (sx 14 rfl (sub_nil _))))))))) (.refl _) ?_
 refine hl_nil ?_
 refine hq_then ?_
 refine hc_block ?_
 refine hc_loop2 (α := Nat) (β := List Int) (fun k zs => [rowE 3 1 (.slice (some ⟨g2, 0, none⟩) ((List.replicate (n.cnt).toNat (0 : Int)).length) ((List.replicate (n.cnt).toNat (0 : Int)).length)) zs.length (zs.map (Value.int .i64)), boxE b1 #[.int .i64 n.ins, n.sv, n.av, n.ov] 28]) (fun k zs => [(0, .agg #[.int .i64 n.ins, n.sv, n.av, n.ov]), (1, v), (2, .int .i64 inp), (3, .pointer (some ⟨b1, 0, none⟩)), (6, .slice none 0 0), (7, .slice (some ⟨g2, 0, none⟩) ((List.replicate (n.cnt).toNat (0 : Int)).length) ((List.replicate (n.cnt).toNat (0 : Int)).length)), (8, .int .i64 (k : Int)), (14, .bool false)]) (fun k zs => (k : Int) ≤ n.ins ∧ zs = fillZ n.cnt.toNat (preA n inp k)) (fun k zs => (n.ins).toNat - k) 0 (List.replicate n.cnt.toNat (0 : Int)) ⟨by omega, fill_one (by omega)⟩ (sx 0 rfl (sx 1 rfl (sx 2 rfl (sx 3 rfl (sx 6 rfl (sx 7 rfl (sx 8 rfl (sx 14 rfl (sub_nil _))))))))) ((.cons_cons _ (.cons_cons _ .slnil))) ?_
 intro k zs hi3
 obtain ⟨hk, hz⟩ := hi3
 have hzl : zs.length = n.cnt.toNat := by rw [hz]; exact fill_len (by rw [preA_len]; omega)
 refine hc_seq ?_
 refine hc_seq ?_
 refine hc_region ?_
 refine hl_v rfl rfl rfl (rv_ev rfl) ?_
 refine hl_v rfl rfl rfl (rv_field (k0 := 0) rfl (by kernel_rfl) rfl) ?_
 refine hl_v rfl rfl rfl (rv_load rfl (by kernel_rfl) rfl (box_cell 1 rfl rfl)) ?_
 refine hl_lss rfl rfl rfl rfl rfl rfl (fun h4 => ?_) (fun h4 => ?_)
 ·
  refine hl_less (sx 0 rfl (sx 1 rfl (sx 2 rfl (sx 3 rfl (sx 6 rfl (sx 7 rfl (sx 8 rfl (sx 14 rfl (sx 22 rfl (sub_nil _)))))))))) (.refl _) ?_
  refine hl_nil ?_
  refine hq_then ?_
  refine hc_true rfl ?_
  refine hc_skip ?_
  refine hq_then ?_
  refine hc_seq ?_
  refine hc_block ?_
  refine hc_region ?_
  refine hl_v rfl rfl rfl (rv_ev rfl) ?_
  refine hl_v rfl rfl rfl (rv_ev rfl) ?_
  refine hl_v rfl rfl rfl (rv_add rfl rfl rfl (by constructor <;> omega)) ?_
  refine hl_v rfl rfl rfl (rv_ev rfl) ?_
  refine hl_v rfl rfl rfl (rv_ev rfl) ?_
  refine hl_v rfl rfl rfl (rv_shr rfl rfl rfl (by omega)) ?_
  refine hl_v rfl rfl rfl (rv_bits rfl (by decide) rfl rfl (r := inp / 2 ^ k % 2) (by rw [show (inp / 2 ^ ((k : Int)).toNat : Int) = inp / 2 ^ k by rw [Int.toNat_natCast]]; exact Bit.and_one _ (shr_rng hin k).1 (shr_rng hin k).2)) ?_
  refine hl_v rfl rfl rfl (rv_index (s := 1) rfl Try.underlying26 (by kernel_rfl) rfl rfl (rd_row 0 rfl) (by omega) (by first | omega | (simp only [List.length_set]; omega))) ?_
  refine hl_storeEl (i := 0) (n' := (zs.set ((1 + (k : Int)).toNat) (inp / 2 ^ k % 2)).length) (xs' := ((zs.set ((1 + (k : Int)).toNat) (inp / 2 ^ k % 2)).map (Value.int .i64))) (l' := [rowE 3 1 (.slice (some ⟨g2, 0, none⟩) ((List.replicate (n.cnt).toNat (0 : Int)).length) ((List.replicate (n.cnt).toNat (0 : Int)).length)) ((zs.set ((1 + (k : Int)).toNat) (inp / 2 ^ k % 2)).length) ((zs.set ((1 + (k : Int)).toNat) (inp / 2 ^ k % 2)).map (Value.int .i64)), boxE b1 #[.int .i64 n.ins, n.sv, n.av, n.ov] 28]) rfl rfl rfl (by kernel_rfl) rfl rfl rfl rfl (by first | omega | (simp only [List.length_set]; omega)) List.length_set.symm (ints_set _ _ _) rfl ?_
  refine hl_less (sx 0 rfl (sx 1 rfl (sx 2 rfl (sx 3 rfl (sx 6 rfl (sx 7 rfl (sx 8 rfl (sx 14 rfl (sx 22 rfl (sub_nil _)))))))))) (.refl _) ?_
  refine hl_nil ?_
  refine hq_block_normal ?_
  refine hq_then ?_
  refine hc_region ?_
  refine hl_v rfl rfl rfl (rv_ev rfl) ?_
  refine hl_v rfl rfl rfl (rv_add rfl rfl rfl (by constructor <;> omega)) ?_
  refine hl_v rfl rfl rfl (rv_ev rfl) ?_
  refine hl_less (sx 0 rfl (sx 1 rfl (sx 2 rfl (sx 3 rfl (sx 6 rfl (sx 7 rfl (sx 8 rfl (sx 14 rfl (sx 22 rfl (sub_nil _)))))))))) (.refl _) ?_
  refine hl_nil ?_
  exact hq_round2 (k + 1) (zs.set ((1 + (k : Int)).toNat) (inp / 2 ^ k % 2)) ⟨by omega, by rw [hz]; exact (fill_set (by rw [preA_len]; omega) (by rw [preA_len]; omega)).trans (by rw [preA_step])⟩ (by omega) (sx 0 rfl (sx 1 rfl (sx 2 rfl (sx 3 rfl (sx 6 rfl (sx 7 rfl (sx 8 rfl (sx 14 rfl (sub_nil _))))))))) ((.cons_cons _ (.cons_cons _ .slnil)))
 ·
  refine hl_less (sx 0 rfl (sx 1 rfl (sx 2 rfl (sx 3 rfl (sx 6 rfl (sx 7 rfl (sx 8 rfl (sx 14 rfl (sx 22 rfl (sub_nil _)))))))))) (.refl _) ?_
  refine hl_nil ?_
  refine hq_then ?_
  refine hc_false rfl ?_
  refine hc_exit ?_
  refine hq_then_exit ?_
  refine hq_then_exit ?_
  refine hq_block_exit ?_
  refine hq_then ?_
  refine hc_seq ?_
  refine hc_seq ?_
  refine hc_region ?_
  refine hl_v rfl rfl rfl (rv_ev rfl) ?_
  refine hl_less (sx 0 rfl (sx 1 rfl (sx 2 rfl (sx 3 rfl (sx 6 rfl (sx 7 rfl (sx 8 rfl (sx 9 rfl (sx 14 rfl (sx 22 rfl (sub_nil _))))))))))) (.refl _) ?_
  refine hl_nil ?_
  refine hq_then ?_
  refine hc_block ?_
  refine hc_loop2 (α := Nat) (β := List Int) (fun k zs => [rowE 3 1 (.slice (some ⟨g2, 0, none⟩) ((List.replicate (n.cnt).toNat (0 : Int)).length) ((List.replicate (n.cnt).toNat (0 : Int)).length)) zs.length (zs.map (Value.int .i64)), boxE b1 #[.int .i64 n.ins, n.sv, n.av, n.ov] 28]) (fun k zs => [(0, .agg #[.int .i64 n.ins, n.sv, n.av, n.ov]), (1, v), (2, .int .i64 inp), (3, .pointer (some ⟨b1, 0, none⟩)), (6, .slice none 0 0), (7, .slice (some ⟨g2, 0, none⟩) ((List.replicate (n.cnt).toNat (0 : Int)).length) ((List.replicate (n.cnt).toNat (0 : Int)).length)), (9, .int .i64 (k : Int)), (14, .bool false), (22, .bool false)]) (fun k zs => (k : Int) ≤ (st.length : Int) ∧ zs = fillZ n.cnt.toNat (preB n st inp k)) (fun k zs => ((st.length : Int)).toNat - k) 0 zs ⟨by omega, by rw [hz, show k = n.ins.toNat by omega, preB_zero n st inp]⟩ (sx 0 rfl (sx 1 rfl (sx 2 rfl (sx 3 rfl (sx 6 rfl (sx 7 rfl (sx 9 rfl (sx 14 rfl (sx 22 rfl (sub_nil _)))))))))) ((.cons_cons _ (.cons_cons _ .slnil))) ?_
  intro k zs hi5
  obtain ⟨hk, hz⟩ := hi5
  have hzl : zs.length = n.cnt.toNat := by rw [hz]; exact fill_len (by rw [preB_len n st inp (by omega)]; omega)
  refine hc_seq ?_
  refine hc_seq ?_
  refine hc_region ?_
  refine hl_v rfl rfl rfl (rv_ev rfl) ?_
  refine hl_v rfl rfl rfl (rv_ev rfl) ?_
  refine hl_v rfl rfl rfl (rv_len rfl Try.underlying26 rfl (rd_old hst)) ?_
  refine hl_lss rfl rfl rfl rfl rfl rfl (fun h6 => ?_) (fun h6 => ?_)
  ·
   refine hl_less (sx 0 rfl (sx 1 rfl (sx 2 rfl (sx 3 rfl (sx 6 rfl (sx 7 rfl (sx 9 rfl (sx 14 rfl (sx 22 rfl (sx 36 rfl (sub_nil _))))))))))) (.refl _) ?_
   refine hl_nil ?_
   refine hq_then ?_
   refine hc_true rfl ?_
   refine hc_skip ?_
   refine hq_then ?_
   refine hc_seq ?_
   refine hc_block ?_
   have hsk := hso.rng k (by omega)
   refine hc_draw (by kernel_rfl) 12 [0, 1, 2, 3, 4, 5, 6, 7, 8, 9, 10, 11] (List.take 12 _) (List.drop 12 _) [[], [], [1], [2], [], [3, 4], [], [], [6, 7], [8], [9], [0, 5]] [39, 40, 41, 42, 43, 44, 45, 46, 47, 48, 49, 50] (fun i_ vs_ v_ p_ => match i_ with | 0 => v_ = .slice (some ⟨g2, 0, none⟩) ((List.replicate (n.cnt).toNat (0 : Int)).length) ((List.replicate (n.cnt).toNat (0 : Int)).length) ∧ p_ = [] | 1 => v_ = .pointer (some ⟨b1, 0 + 0, none⟩) ∧ p_ = [] | 2 => v_ = .int .i64 n.ins ∧ p_ = [] | 3 => v_ = .int .i64 (1 + n.ins) ∧ p_ = [] | 4 => v_ = .int .i64 (k : Int) ∧ p_ = [] | 5 => v_ = .int .i64 ((1 + n.ins) + (k : Int)) ∧ p_ = [] | 6 => v_ = v ∧ p_ = [] | 7 => v_ = .int .i64 (k : Int) ∧ p_ = [] | 8 => v_ = elP v (((k : Int)).toNat * 1) ∧ p_ = [] | 9 => v_ = .int .i64 (st.getD k 0) ∧ p_ = [] | 10 => v_ = .int .i64 ((st.getD k 0) % 2) ∧ p_ = [] | 11 => v_ = elP (.slice (some ⟨g2, 0, none⟩) ((List.replicate (n.cnt).toNat (0 : Int)).length) ((List.replicate (n.cnt).toNat (0 : Int)).length)) (((1 + n.ins) + (k : Int)).toNat * 1) ∧ p_ = [] | _ => True) (List.take_append_drop 12 _).symm (by kernel_rfl) (by kernel_rfl) rfl rfl ?_ ?_
   ·
    refine ⟨?_, ?_, ?_, ?_, ?_, ?_, ?_, ?_, ?_, ?_, ?_, ?_, trivial⟩
    ·
     intro vf pf hR
     refine Or.inl ⟨rfl, ?_⟩
     refine rq_less (sx 7 rfl (sub_nil _)) (List.sublist_append_right _ _) ?_
     exact rq_v (rv_ev rfl)
    ·
     intro vf pf hR
     refine Or.inl ⟨rfl, ?_⟩
     refine rq_less (sx 3 rfl (sub_nil _)) (List.sublist_append_right _ _) ?_
     exact rq_v (rv_field (k0 := 0) rfl (by kernel_rfl) rfl)
    ·
     intro vf pf hR
     have e1 : (vf 1) = .pointer (some ⟨b1, 0 + 0, none⟩) ∧ (pf 1) = [] := hR 1 (by decide)
     refine Or.inl ⟨rfl, ?_⟩
     refine rq_less (sx 40 (congrArg some e1.1) (sub_nil _)) (List.sublist_append_right _ _) ?_
     exact rq_v (rv_load rfl (by kernel_rfl) rfl (box_cell 1 rfl rfl))
    ·
     intro vf pf hR
     have e2 : (vf 2) = .int .i64 n.ins ∧ (pf 2) = [] := hR 2 (by decide)
     refine Or.inl ⟨rfl, ?_⟩
     refine rq_less (sx 41 (congrArg some e2.1) (sub_nil _)) (List.sublist_append_right _ _) ?_
     exact rq_v (rv_add rfl rfl rfl (by constructor <;> omega))
    ·
     intro vf pf hR
     refine Or.inl ⟨rfl, ?_⟩
     refine rq_less (sx 9 rfl (sub_nil _)) (List.sublist_append_right _ _) ?_
     exact rq_v (rv_ev rfl)
    ·
     intro vf pf hR
     have e3 : (vf 3) = .int .i64 (1 + n.ins) ∧ (pf 3) = [] := hR 3 (by decide)
     have e4 : (vf 4) = .int .i64 (k : Int) ∧ (pf 4) = [] := hR 4 (by decide)
     refine Or.inl ⟨rfl, ?_⟩
     refine rq_less (sx 42 (congrArg some e3.1) (sx 43 (congrArg some e4.1) (sub_nil _))) (List.sublist_append_right _ _) ?_
     exact rq_v (rv_add rfl rfl rfl (by constructor <;> omega))
    ·
     intro vf pf hR
     refine Or.inl ⟨rfl, ?_⟩
     refine rq_less (sx 1 rfl (sub_nil _)) (List.sublist_append_right _ _) ?_
     exact rq_v (rv_ev rfl)
    ·
     intro vf pf hR
     refine Or.inl ⟨rfl, ?_⟩
     refine rq_less (sx 9 rfl (sub_nil _)) (List.sublist_append_right _ _) ?_
     exact rq_v (rv_ev rfl)
    ·
     intro vf pf hR
     have e6 : (vf 6) = v ∧ (pf 6) = [] := hR 6 (by decide)
     have e7 : (vf 7) = .int .i64 (k : Int) ∧ (pf 7) = [] := hR 7 (by decide)
     refine Or.inl ⟨rfl, ?_⟩
     refine rq_less (sx 45 (congrArg some e6.1) (sx 46 (congrArg some e7.1) (sub_nil _))) (List.sublist_append_right _ _) ?_
     exact rq_v (rv_index (s := 1) rfl Try.underlying26 (by kernel_rfl) rfl rfl (rd_old hst) (by omega) (by first | omega | (simp only [List.length_set]; omega)))
    ·
     intro vf pf hR
     have e8 : (vf 8) = elP v (((k : Int)).toNat * 1) ∧ (pf 8) = [] := hR 8 (by decide)
     refine Or.inl ⟨rfl, ?_⟩
     refine rq_less (sx 47 (congrArg some e8.1) (sub_nil _)) (List.sublist_append_right _ _) ?_
     exact rq_v (rv_loadEl (u := .int .i64 (st.getD k 0)) rfl (by kernel_rfl) rfl (rd_old hst) (ints_at1 (show _ < st.length by first | omega | (simp only [List.length_set]; omega))))
    ·
     intro vf pf hR
     have e9 : (vf 9) = .int .i64 (st.getD k 0) ∧ (pf 9) = [] := hR 9 (by decide)
     refine Or.inl ⟨rfl, ?_⟩
     refine rq_less (sx 48 (congrArg some e9.1) (sub_nil _)) (List.sublist_append_right _ _) ?_
     exact rq_v (rv_bits rfl (by decide) rfl rfl (r := (st.getD k 0) % 2) (Bit.and_one _ (by omega) (by omega)))
    ·
     intro vf pf hR
     have e0 : (vf 0) = .slice (some ⟨g2, 0, none⟩) ((List.replicate (n.cnt).toNat (0 : Int)).length) ((List.replicate (n.cnt).toNat (0 : Int)).length) ∧ (pf 0) = [] := hR 0 (by decide)
     have e5 : (vf 5) = .int .i64 ((1 + n.ins) + (k : Int)) ∧ (pf 5) = [] := hR 5 (by decide)
     refine Or.inl ⟨rfl, ?_⟩
     refine rq_less (sx 39 (congrArg some e0.1) (sx 44 (congrArg some e5.1) (sub_nil _))) (List.sublist_append_right _ _) ?_
     exact rq_v (rv_index (s := 1) rfl Try.underlying26 (by kernel_rfl) rfl rfl (rd_row 0 rfl) (by omega) (by first | omega | (simp only [List.length_set]; omega)))
   ·
    intro vf pf hR
    have e10 : (vf 10) = .int .i64 ((st.getD k 0) % 2) ∧ (pf 10) = [] := hR 10 (by decide)
    have e11 : (vf 11) = elP (.slice (some ⟨g2, 0, none⟩) ((List.replicate (n.cnt).toNat (0 : Int)).length) ((List.replicate (n.cnt).toNat (0 : Int)).length)) (((1 + n.ins) + (k : Int)).toNat * 1) ∧ (pf 11) = [] := hR 11 (by decide)
    refine hl_less (l' := [rowE 3 1 (.slice (some ⟨g2, 0, none⟩) ((List.replicate (n.cnt).toNat (0 : Int)).length) ((List.replicate (n.cnt).toNat (0 : Int)).length)) zs.length (zs.map (Value.int .i64)), boxE b1 #[.int .i64 n.ins, n.sv, n.av, n.ov] 28]) (sx 0 rfl (sx 1 rfl (sx 2 rfl (sx 3 rfl (sx 6 rfl (sx 7 rfl (sx 9 rfl (sx 14 rfl (sx 22 rfl (sx 36 rfl (sx 49 (congrArg some e10.1) (sx 50 (congrArg some e11.1) (sub_nil _))))))))))))) (List.sublist_append_right _ _) ?_
    simp only [List.drop_succ_cons, List.drop_zero]
    refine hl_storeEl (i := 0) (n' := (zs.set (((1 + n.ins) + (k : Int)).toNat) ((st.getD k 0) % 2)).length) (xs' := ((zs.set (((1 + n.ins) + (k : Int)).toNat) ((st.getD k 0) % 2)).map (Value.int .i64))) (l' := [rowE 3 1 (.slice (some ⟨g2, 0, none⟩) ((List.replicate (n.cnt).toNat (0 : Int)).length) ((List.replicate (n.cnt).toNat (0 : Int)).length)) ((zs.set (((1 + n.ins) + (k : Int)).toNat) ((st.getD k 0) % 2)).length) ((zs.set (((1 + n.ins) + (k : Int)).toNat) ((st.getD k 0) % 2)).map (Value.int .i64)), boxE b1 #[.int .i64 n.ins, n.sv, n.av, n.ov] 28]) rfl rfl rfl (by kernel_rfl) rfl rfl rfl rfl (by first | omega | (simp only [List.length_set]; omega)) List.length_set.symm (ints_set _ _ _) rfl ?_
    refine hl_less (sx 0 rfl (sx 1 rfl (sx 2 rfl (sx 3 rfl (sx 6 rfl (sx 7 rfl (sx 9 rfl (sx 14 rfl (sx 22 rfl (sx 36 rfl (sub_nil _))))))))))) (.refl _) ?_
    refine hl_nil ?_
    refine hq_block_normal ?_
    refine hq_then ?_
    refine hc_region ?_
    refine hl_v rfl rfl rfl (rv_ev rfl) ?_
    refine hl_v rfl rfl rfl (rv_add rfl rfl rfl (by constructor <;> omega)) ?_
    refine hl_v rfl rfl rfl (rv_ev rfl) ?_
    refine hl_less (sx 0 rfl (sx 1 rfl (sx 2 rfl (sx 3 rfl (sx 6 rfl (sx 7 rfl (sx 9 rfl (sx 14 rfl (sx 22 rfl (sx 36 rfl (sub_nil _))))))))))) (.refl _) ?_
    refine hl_nil ?_
    exact hq_round2 (k + 1) (zs.set (((1 + n.ins) + (k : Int)).toNat) ((st.getD k 0) % 2)) ⟨by omega, by rw [hz]; exact (fill_set (by rw [preB_len n st inp (by omega)]; omega) (by rw [preB_len n st inp (by omega)]; omega)).trans (by rw [preB_step n st inp (by omega)])⟩ (by omega) (sx 0 rfl (sx 1 rfl (sx 2 rfl (sx 3 rfl (sx 6 rfl (sx 7 rfl (sx 9 rfl (sx 14 rfl (sx 22 rfl (sub_nil _)))))))))) ((.cons_cons _ (.cons_cons _ .slnil)))
  ·
   refine hl_less (sx 0 rfl (sx 1 rfl (sx 2 rfl (sx 3 rfl (sx 6 rfl (sx 7 rfl (sx 9 rfl (sx 14 rfl (sx 22 rfl (sx 36 rfl (sub_nil _))))))))))) (.refl _) ?_
   refine hl_nil ?_
   refine hq_then ?_
   refine hc_false rfl ?_
   refine hc_exit ?_
   refine hq_then_exit ?_
   refine hq_then_exit ?_
   refine hq_block_exit ?_
   refine hq_then ?_
   refine hc_seq ?_
   refine hc_seq ?_
   refine hc_region ?_
   refine hl_v rfl rfl rfl (rv_ev rfl) ?_
   refine hl_less (sx 0 rfl (sx 1 rfl (sx 2 rfl (sx 3 rfl (sx 6 rfl (sx 7 rfl (sx 9 rfl (sx 10 rfl (sx 14 rfl (sx 22 rfl (sx 36 rfl (sub_nil _)))))))))))) (.refl _) ?_
   refine hl_nil ?_
   refine hq_then ?_
   refine hc_block ?_
   refine hc_loop2 (α := Nat) (β := List Int) (fun k zs => [rowE 3 1 (.slice (some ⟨g2, 0, none⟩) ((List.replicate (n.cnt).toNat (0 : Int)).length) ((List.replicate (n.cnt).toNat (0 : Int)).length)) zs.length (zs.map (Value.int .i64)), boxE b1 #[.int .i64 n.ins, n.sv, n.av, n.ov] 28]) (fun k zs => [(0, .agg #[.int .i64 n.ins, n.sv, n.av, n.ov]), (1, v), (2, .int .i64 inp), (3, .pointer (some ⟨b1, 0, none⟩)), (6, .slice none 0 0), (7, .slice (some ⟨g2, 0, none⟩) ((List.replicate (n.cnt).toNat (0 : Int)).length) ((List.replicate (n.cnt).toNat (0 : Int)).length)), (10, .int .i64 (k : Int)), (14, .bool false), (22, .bool false), (36, .bool false)]) (fun k zs => (k : Int) ≤ (n.gs.length : Int) ∧ zs = fillZ n.cnt.toNat (valL n st inp k)) (fun k zs => ((n.gs.length : Int)).toNat - k) 0 zs ⟨by omega, by rw [hz, show k = st.length by omega, preB_end]⟩ (sx 0 rfl (sx 1 rfl (sx 2 rfl (sx 3 rfl (sx 6 rfl (sx 7 rfl (sx 10 rfl (sx 14 rfl (sx 22 rfl (sx 36 rfl (sub_nil _))))))))))) ((.cons_cons _ (.cons_cons _ .slnil))) ?_
   intro k zs hi7
   obtain ⟨hk, hz⟩ := hi7
   have hzl : zs.length = n.cnt.toNat := by rw [hz]; exact fill_len (by rw [val_len n st inp k (by omega)]; omega)
   have hvl := val_len n st inp k (by omega)
   have hv01 := val01 hn hsl inp k (by omega)
   refine hc_seq ?_
   refine hc_seq ?_
   refine hc_region ?_
   refine hl_v rfl rfl rfl (rv_ev rfl) ?_
   refine hl_v rfl rfl rfl (rv_field (k0 := 2) rfl (by kernel_rfl) rfl) ?_
   refine hl_v rfl rfl rfl (rv_load rfl (by kernel_rfl) rfl (box_cell 1 rfl rfl)) ?_
   refine hl_v rfl rfl rfl (rv_len rfl Try.underlying25 rfl (rd_old hr.an)) ?_
   refine hl_lss rfl rfl rfl rfl rfl rfl (fun h8 => ?_) (fun h8 => ?_)
   ·
    refine hl_less (sx 0 rfl (sx 1 rfl (sx 2 rfl (sx 3 rfl (sx 6 rfl (sx 7 rfl (sx 10 rfl (sx 14 rfl (sx 22 rfl (sx 36 rfl (sx 55 rfl (sub_nil _)))))))))))) (.refl _) ?_
    refine hl_nil ?_
    refine hq_then ?_
    refine hc_true rfl ?_
    refine hc_skip ?_
    refine hq_then ?_
    refine hc_seq ?_
    refine hc_block ?_
    have hak := hn.an k (by omega)
    obtain ⟨⟨hA0, hA1⟩, hC0, hC1⟩ := id hak
    have hg1 : zs.getD ((n.gs.getD k an0).a / 2).toNat 0 = (valL n st inp k).getD ((n.gs.getD k an0).a / 2).toNat 0 := by rw [hz]; exact fill_get (by omega)
    have hg2 : zs.getD ((n.gs.getD k an0).b / 2).toNat 0 = (valL n st inp k).getD ((n.gs.getD k an0).b / 2).toNat 0 := by rw [hz]; exact fill_get (by omega)
    have hA : zs.getD ((n.gs.getD k an0).a / 2).toNat 0 = 0 ∨ zs.getD ((n.gs.getD k an0).a / 2).toNat 0 = 1 := by rw [hg1]; exact hv01 _ (by omega)
    have hB : zs.getD ((n.gs.getD k an0).b / 2).toNat 0 = 0 ∨ zs.getD ((n.gs.getD k an0).b / 2).toNat 0 = 1 := by rw [hg2]; exact hv01 _ (by omega)
    have hB1 : bitL zs (n.gs.getD k an0).a = bitL (valL n st inp k) (n.gs.getD k an0).a := by unfold bitL; rw [hg1]
    have hB2 : bitL zs (n.gs.getD k an0).b = bitL (valL n st inp k) (n.gs.getD k an0).b := by unfold bitL; rw [hg2]
    have hP1 : bitL zs (n.gs.getD k an0).a = 0 ∨ bitL zs (n.gs.getD k an0).a = 1 := by rw [hB1]; exact bit01 hv01 hA0 (by omega)
    have hP2 : bitL zs (n.gs.getD k an0).b = 0 ∨ bitL zs (n.gs.getD k an0).b = 1 := by rw [hB2]; exact bit01 hv01 hC0 (by omega)
    refine hc_draw (by kernel_rfl) 23 [0, 1, 2, 3, 4, 5, 6, 7, 8, 9, 10, 11, 12, 13, 14, 15, 16, 17, 18, 19, 20, 21, 22] (List.take 23 _) (List.drop 23 _) [[], [], [1], [], [2, 3], [], [], [6], [], [7, 8], [9], [10], [5, 11], [], [], [14], [], [15, 16], [17], [18], [13, 19], [12, 20], [0, 4]] [58, 59, 60, 61, 62, 63, 64, 65, 66, 67, 68, 69, 70, 71, 72, 73, 74, 75, 76, 77, 78, 79, 80] (fun i_ vs_ v_ p_ => match i_ with | 0 => v_ = .slice (some ⟨g2, 0, none⟩) ((List.replicate (n.cnt).toNat (0 : Int)).length) ((List.replicate (n.cnt).toNat (0 : Int)).length) ∧ p_ = [] | 1 => v_ = .agg #[.int .i64 n.ins, n.sv, n.av, n.ov] ∧ p_ = [] | 2 => v_ = .int .i64 n.fst ∧ p_ = [] | 3 => v_ = .int .i64 (k : Int) ∧ p_ = [] | 4 => v_ = .int .i64 (n.fst + (k : Int)) ∧ p_ = [] | 5 => v_ = .slice (some ⟨g2, 0, none⟩) ((List.replicate (n.cnt).toNat (0 : Int)).length) ((List.replicate (n.cnt).toNat (0 : Int)).length) ∧ p_ = [] | 6 => v_ = .pointer (some ⟨b1, 0 + 2, none⟩) ∧ p_ = [] | 7 => v_ = n.av ∧ p_ = [] | 8 => v_ = .int .i64 (k : Int) ∧ p_ = [] | 9 => v_ = elP n.av (((k : Int)).toNat * 2) ∧ p_ = [] | 10 => v_ = elP n.av (((k : Int)).toNat * 2 + 0) ∧ p_ = [] | 11 => v_ = .int .i64 ((n.gs.getD k an0).a) ∧ p_ = [] | 12 => v_ = .int .i64 (bitL zs ((n.gs.getD k an0).a)) ∧ p_ = [] | 13 => v_ = .slice (some ⟨g2, 0, none⟩) ((List.replicate (n.cnt).toNat (0 : Int)).length) ((List.replicate (n.cnt).toNat (0 : Int)).length) ∧ p_ = [] | 14 => v_ = .pointer (some ⟨b1, 0 + 2, none⟩) ∧ p_ = [] | 15 => v_ = n.av ∧ p_ = [] | 16 => v_ = .int .i64 (k : Int) ∧ p_ = [] | 17 => v_ = elP n.av (((k : Int)).toNat * 2) ∧ p_ = [] | 18 => v_ = elP n.av (((k : Int)).toNat * 2 + 1) ∧ p_ = [] | 19 => v_ = .int .i64 ((n.gs.getD k an0).b) ∧ p_ = [] | 20 => v_ = .int .i64 (bitL zs ((n.gs.getD k an0).b)) ∧ p_ = [] | 21 => v_ = .int .i64 ((bitL zs ((n.gs.getD k an0).a)) * (bitL zs ((n.gs.getD k an0).b))) ∧ p_ = [] | 22 => v_ = elP (.slice (some ⟨g2, 0, none⟩) ((List.replicate (n.cnt).toNat (0 : Int)).length) ((List.replicate (n.cnt).toNat (0 : Int)).length)) ((n.fst + (k : Int)).toNat * 1) ∧ p_ = [] | _ => True) (List.take_append_drop 23 _).symm (by kernel_rfl) (by kernel_rfl) rfl rfl ?_ ?_
    ·
     refine ⟨?_, ?_, ?_, ?_, ?_, ?_, ?_, ?_, ?_, ?_, ?_, ?_, ?_, ?_, ?_, ?_, ?_, ?_, ?_, ?_, ?_, ?_, ?_, trivial⟩
     ·
      intro vf pf hR
      refine Or.inl ⟨rfl, ?_⟩
      refine rq_less (sx 7 rfl (sub_nil _)) (List.sublist_append_right _ _) ?_
      exact rq_v (rv_ev rfl)
     ·
      intro vf pf hR
      refine Or.inl ⟨rfl, ?_⟩
      refine rq_less (sx 3 rfl (sub_nil _)) (List.sublist_append_right _ _) ?_
      exact rq_v (rv_loadN (cs := [.int .i64 n.ins, n.sv, n.av, n.ov]) rfl (by kernel_rfl) (by kernel_rfl) rfl rfl (box_part 1 rfl 0 rfl))
     ·
      intro vf pf hR
      have e1 : (vf 1) = .agg #[.int .i64 n.ins, n.sv, n.av, n.ov] ∧ (pf 1) = [] := hR 1 (by decide)
      refine Or.inl ⟨rfl, ?_⟩
      refine rq_less (sx 59 (congrArg some e1.1) (sub_nil _)) (List.sublist_append_right _ _) ?_
      exact (rq_call (by kernel_rfl) rfl (fun w hm => ret_ans (l08First_yes n w (hr.below hm.bel) hn)))
     ·
      intro vf pf hR
      refine Or.inl ⟨rfl, ?_⟩
      refine rq_less (sx 10 rfl (sub_nil _)) (List.sublist_append_right _ _) ?_
      exact rq_v (rv_ev rfl)
     ·
      intro vf pf hR
      have e2 : (vf 2) = .int .i64 n.fst ∧ (pf 2) = [] := hR 2 (by decide)
      have e3 : (vf 3) = .int .i64 (k : Int) ∧ (pf 3) = [] := hR 3 (by decide)
      refine Or.inl ⟨rfl, ?_⟩
      refine rq_less (sx 60 (congrArg some e2.1) (sx 61 (congrArg some e3.1) (sub_nil _))) (List.sublist_append_right _ _) ?_
      exact rq_v (rv_add rfl rfl rfl (by constructor <;> omega))
     ·
      intro vf pf hR
      refine Or.inl ⟨rfl, ?_⟩
      refine rq_less (sx 7 rfl (sub_nil _)) (List.sublist_append_right _ _) ?_
      exact rq_v (rv_ev rfl)
     ·
      intro vf pf hR
      refine Or.inl ⟨rfl, ?_⟩
      refine rq_less (sx 3 rfl (sub_nil _)) (List.sublist_append_right _ _) ?_
      exact rq_v (rv_field (k0 := 2) rfl (by kernel_rfl) rfl)
     ·
      intro vf pf hR
      have e6 : (vf 6) = .pointer (some ⟨b1, 0 + 2, none⟩) ∧ (pf 6) = [] := hR 6 (by decide)
      refine Or.inl ⟨rfl, ?_⟩
      refine rq_less (sx 64 (congrArg some e6.1) (sub_nil _)) (List.sublist_append_right _ _) ?_
      exact rq_v (rv_load rfl (by kernel_rfl) rfl (box_cell 1 rfl rfl))
     ·
      intro vf pf hR
      refine Or.inl ⟨rfl, ?_⟩
      refine rq_less (sx 10 rfl (sub_nil _)) (List.sublist_append_right _ _) ?_
      exact rq_v (rv_ev rfl)
     ·
      intro vf pf hR
      have e7 : (vf 7) = n.av ∧ (pf 7) = [] := hR 7 (by decide)
      have e8 : (vf 8) = .int .i64 (k : Int) ∧ (pf 8) = [] := hR 8 (by decide)
      refine Or.inl ⟨rfl, ?_⟩
      refine rq_less (sx 65 (congrArg some e7.1) (sx 66 (congrArg some e8.1) (sub_nil _))) (List.sublist_append_right _ _) ?_
      exact rq_v (rv_index (s := 2) rfl Try.underlying25 (by kernel_rfl) rfl rfl (rd_old hr.an) (by omega) (by first | omega | (simp only [List.length_set]; omega)))
     ·
      intro vf pf hR
      have e9 : (vf 9) = elP n.av (((k : Int)).toNat * 2) ∧ (pf 9) = [] := hR 9 (by decide)
      refine Or.inl ⟨rfl, ?_⟩
      refine rq_less (sx 67 (congrArg some e9.1) (sub_nil _)) (List.sublist_append_right _ _) ?_
      exact rq_v (rv_fieldEl (k0 := 0) rfl (by kernel_rfl) rfl (rd_old hr.an) (by first | omega | (simp only [List.length_set]; omega)))
     ·
      intro vf pf hR
      have e10 : (vf 10) = elP n.av (((k : Int)).toNat * 2 + 0) ∧ (pf 10) = [] := hR 10 (by decide)
      refine Or.inl ⟨rfl, ?_⟩
      refine rq_less (sx 68 (congrArg some e10.1) (sub_nil _)) (List.sublist_append_right _ _) ?_
      exact rq_v (rv_loadEl (u := .int .i64 ((n.gs.getD k an0).a)) rfl (by kernel_rfl) rfl (rd_old hr.an) ((flat_at anC 2 (fun _ => rfl) n.gs an0 (show k < _ by first | omega | (simp only [List.length_set]; omega)) (by decide)).trans rfl))
     ·
      intro vf pf hR
      have e5 : (vf 5) = .slice (some ⟨g2, 0, none⟩) ((List.replicate (n.cnt).toNat (0 : Int)).length) ((List.replicate (n.cnt).toNat (0 : Int)).length) ∧ (pf 5) = [] := hR 5 (by decide)
      have e11 : (vf 11) = .int .i64 ((n.gs.getD k an0).a) ∧ (pf 11) = [] := hR 11 (by decide)
      refine Or.inl ⟨rfl, ?_⟩
      refine rq_less (sx 63 (congrArg some e5.1) (sx 69 (congrArg some e11.1) (sub_nil _))) (List.sublist_append_right _ _) ?_
      exact (rq_call (by kernel_rfl) rfl (fun w hm => ret_ans (l09Bit_ans zs ((n.gs.getD k an0).a) _ w ((rd_row 0 rfl) w hm) (by omega) (by first | assumption | omega) (by omega))))
     ·
      intro vf pf hR
      refine Or.inl ⟨rfl, ?_⟩
      refine rq_less (sx 7 rfl (sub_nil _)) (List.sublist_append_right _ _) ?_
      exact rq_v (rv_ev rfl)
     ·
      intro vf pf hR
      refine Or.inl ⟨rfl, ?_⟩
      refine rq_less (sx 3 rfl (sub_nil _)) (List.sublist_append_right _ _) ?_
      exact rq_v (rv_field (k0 := 2) rfl (by kernel_rfl) rfl)
     ·
      intro vf pf hR
      have e14 : (vf 14) = .pointer (some ⟨b1, 0 + 2, none⟩) ∧ (pf 14) = [] := hR 14 (by decide)
      refine Or.inl ⟨rfl, ?_⟩
      refine rq_less (sx 72 (congrArg some e14.1) (sub_nil _)) (List.sublist_append_right _ _) ?_
      exact rq_v (rv_load rfl (by kernel_rfl) rfl (box_cell 1 rfl rfl))
     ·
      intro vf pf hR
      refine Or.inl ⟨rfl, ?_⟩
      refine rq_less (sx 10 rfl (sub_nil _)) (List.sublist_append_right _ _) ?_
      exact rq_v (rv_ev rfl)
     ·
      intro vf pf hR
      have e15 : (vf 15) = n.av ∧ (pf 15) = [] := hR 15 (by decide)
      have e16 : (vf 16) = .int .i64 (k : Int) ∧ (pf 16) = [] := hR 16 (by decide)
      refine Or.inl ⟨rfl, ?_⟩
      refine rq_less (sx 73 (congrArg some e15.1) (sx 74 (congrArg some e16.1) (sub_nil _))) (List.sublist_append_right _ _) ?_
      exact rq_v (rv_index (s := 2) rfl Try.underlying25 (by kernel_rfl) rfl rfl (rd_old hr.an) (by omega) (by first | omega | (simp only [List.length_set]; omega)))
     ·
      intro vf pf hR
      have e17 : (vf 17) = elP n.av (((k : Int)).toNat * 2) ∧ (pf 17) = [] := hR 17 (by decide)
      refine Or.inl ⟨rfl, ?_⟩
      refine rq_less (sx 75 (congrArg some e17.1) (sub_nil _)) (List.sublist_append_right _ _) ?_
      exact rq_v (rv_fieldEl (k0 := 1) rfl (by kernel_rfl) rfl (rd_old hr.an) (by first | omega | (simp only [List.length_set]; omega)))
     ·
      intro vf pf hR
      have e18 : (vf 18) = elP n.av (((k : Int)).toNat * 2 + 1) ∧ (pf 18) = [] := hR 18 (by decide)
      refine Or.inl ⟨rfl, ?_⟩
      refine rq_less (sx 76 (congrArg some e18.1) (sub_nil _)) (List.sublist_append_right _ _) ?_
      exact rq_v (rv_loadEl (u := .int .i64 ((n.gs.getD k an0).b)) rfl (by kernel_rfl) rfl (rd_old hr.an) ((flat_at anC 2 (fun _ => rfl) n.gs an0 (show k < _ by first | omega | (simp only [List.length_set]; omega)) (by decide)).trans rfl))
     ·
      intro vf pf hR
      have e13 : (vf 13) = .slice (some ⟨g2, 0, none⟩) ((List.replicate (n.cnt).toNat (0 : Int)).length) ((List.replicate (n.cnt).toNat (0 : Int)).length) ∧ (pf 13) = [] := hR 13 (by decide)
      have e19 : (vf 19) = .int .i64 ((n.gs.getD k an0).b) ∧ (pf 19) = [] := hR 19 (by decide)
      refine Or.inl ⟨rfl, ?_⟩
      refine rq_less (sx 71 (congrArg some e13.1) (sx 77 (congrArg some e19.1) (sub_nil _))) (List.sublist_append_right _ _) ?_
      exact (rq_call (by kernel_rfl) rfl (fun w hm => ret_ans (l09Bit_ans zs ((n.gs.getD k an0).b) _ w ((rd_row 0 rfl) w hm) (by omega) (by first | assumption | omega) (by omega))))
     ·
      intro vf pf hR
      have e12 : (vf 12) = .int .i64 (bitL zs ((n.gs.getD k an0).a)) ∧ (pf 12) = [] := hR 12 (by decide)
      have e20 : (vf 20) = .int .i64 (bitL zs ((n.gs.getD k an0).b)) ∧ (pf 20) = [] := hR 20 (by decide)
      refine Or.inl ⟨rfl, ?_⟩
      refine rq_less (sx 70 (congrArg some e12.1) (sx 78 (congrArg some e20.1) (sub_nil _))) (List.sublist_append_right _ _) ?_
      exact rq_v (rv_bits rfl (by decide) rfl rfl (r := (bitL zs ((n.gs.getD k an0).a)) * (bitL zs ((n.gs.getD k an0).b))) (and01 hP1 hP2))
     ·
      intro vf pf hR
      have e0 : (vf 0) = .slice (some ⟨g2, 0, none⟩) ((List.replicate (n.cnt).toNat (0 : Int)).length) ((List.replicate (n.cnt).toNat (0 : Int)).length) ∧ (pf 0) = [] := hR 0 (by decide)
      have e4 : (vf 4) = .int .i64 (n.fst + (k : Int)) ∧ (pf 4) = [] := hR 4 (by decide)
      refine Or.inl ⟨rfl, ?_⟩
      refine rq_less (sx 58 (congrArg some e0.1) (sx 62 (congrArg some e4.1) (sub_nil _))) (List.sublist_append_right _ _) ?_
      exact rq_v (rv_index (s := 1) rfl Try.underlying26 (by kernel_rfl) rfl rfl (rd_row 0 rfl) (by omega) (by first | omega | (simp only [List.length_set]; omega)))
    ·
     intro vf pf hR
     have e21 : (vf 21) = .int .i64 ((bitL zs ((n.gs.getD k an0).a)) * (bitL zs ((n.gs.getD k an0).b))) ∧ (pf 21) = [] := hR 21 (by decide)
     have e22 : (vf 22) = elP (.slice (some ⟨g2, 0, none⟩) ((List.replicate (n.cnt).toNat (0 : Int)).length) ((List.replicate (n.cnt).toNat (0 : Int)).length)) ((n.fst + (k : Int)).toNat * 1) ∧ (pf 22) = [] := hR 22 (by decide)
     refine hl_less (l' := [rowE 3 1 (.slice (some ⟨g2, 0, none⟩) ((List.replicate (n.cnt).toNat (0 : Int)).length) ((List.replicate (n.cnt).toNat (0 : Int)).length)) zs.length (zs.map (Value.int .i64)), boxE b1 #[.int .i64 n.ins, n.sv, n.av, n.ov] 28]) (sx 0 rfl (sx 1 rfl (sx 2 rfl (sx 3 rfl (sx 6 rfl (sx 7 rfl (sx 10 rfl (sx 14 rfl (sx 22 rfl (sx 36 rfl (sx 55 rfl (sx 79 (congrArg some e21.1) (sx 80 (congrArg some e22.1) (sub_nil _)))))))))))))) (List.sublist_append_right _ _) ?_
     simp only [List.drop_succ_cons, List.drop_zero]
     refine hl_storeEl (i := 0) (n' := (zs.set ((n.fst + (k : Int)).toNat) ((bitL zs ((n.gs.getD k an0).a)) * (bitL zs ((n.gs.getD k an0).b)))).length) (xs' := ((zs.set ((n.fst + (k : Int)).toNat) ((bitL zs ((n.gs.getD k an0).a)) * (bitL zs ((n.gs.getD k an0).b)))).map (Value.int .i64))) (l' := [rowE 3 1 (.slice (some ⟨g2, 0, none⟩) ((List.replicate (n.cnt).toNat (0 : Int)).length) ((List.replicate (n.cnt).toNat (0 : Int)).length)) ((zs.set ((n.fst + (k : Int)).toNat) ((bitL zs ((n.gs.getD k an0).a)) * (bitL zs ((n.gs.getD k an0).b)))).length) ((zs.set ((n.fst + (k : Int)).toNat) ((bitL zs ((n.gs.getD k an0).a)) * (bitL zs ((n.gs.getD k an0).b)))).map (Value.int .i64)), boxE b1 #[.int .i64 n.ins, n.sv, n.av, n.ov] 28]) rfl rfl rfl (by kernel_rfl) rfl rfl rfl rfl (by first | omega | (simp only [List.length_set]; omega)) List.length_set.symm (ints_set _ _ _) rfl ?_
     refine hl_less (sx 0 rfl (sx 1 rfl (sx 2 rfl (sx 3 rfl (sx 6 rfl (sx 7 rfl (sx 10 rfl (sx 14 rfl (sx 22 rfl (sx 36 rfl (sx 55 rfl (sub_nil _)))))))))))) (.refl _) ?_
     refine hl_nil ?_
     refine hq_block_normal ?_
     refine hq_then ?_
     refine hc_region ?_
     refine hl_v rfl rfl rfl (rv_ev rfl) ?_
     refine hl_v rfl rfl rfl (rv_add rfl rfl rfl (by constructor <;> omega)) ?_
     refine hl_v rfl rfl rfl (rv_ev rfl) ?_
     refine hl_less (sx 0 rfl (sx 1 rfl (sx 2 rfl (sx 3 rfl (sx 6 rfl (sx 7 rfl (sx 10 rfl (sx 14 rfl (sx 22 rfl (sx 36 rfl (sx 55 rfl (sub_nil _)))))))))))) (.refl _) ?_
     refine hl_nil ?_
     exact hq_round2 (k + 1) (zs.set ((n.fst + (k : Int)).toNat) ((bitL zs ((n.gs.getD k an0).a)) * (bitL zs ((n.gs.getD k an0).b)))) ⟨by omega, by rw [hB1, hB2, hz, show (n.fst + (k : Int)).toNat = (valL n st inp k).length by omega, val_step n st inp (by omega)]; exact fill_set rfl (by omega)⟩ (by omega) (sx 0 rfl (sx 1 rfl (sx 2 rfl (sx 3 rfl (sx 6 rfl (sx 7 rfl (sx 10 rfl (sx 14 rfl (sx 22 rfl (sx 36 rfl (sub_nil _))))))))))) ((.cons_cons _ (.cons_cons _ .slnil)))
   ·
    refine hl_less (sx 0 rfl (sx 1 rfl (sx 2 rfl (sx 3 rfl (sx 6 rfl (sx 7 rfl (sx 10 rfl (sx 14 rfl (sx 22 rfl (sx 36 rfl (sx 55 rfl (sub_nil _)))))))))))) (.refl _) ?_
    refine hl_nil ?_
    refine hq_then ?_
    refine hc_false rfl ?_
    refine hc_exit ?_
    refine hq_then_exit ?_
    refine hq_then_exit ?_
    refine hq_block_exit ?_
    refine hq_then ?_
    refine hc_seq ?_
    refine hc_region ?_
    refine hl_v rfl rfl rfl (rv_ev rfl) ?_
    refine hl_v rfl rfl rfl (rv_ev rfl) ?_
    refine hl_less (sx 0 rfl (sx 1 rfl (sx 2 rfl (sx 3 rfl (sx 6 rfl (sx 7 rfl (sx 10 rfl (sx 14 rfl (sx 22 rfl (sx 36 rfl (sx 55 rfl (sub_nil _)))))))))))) (.refl _) ?_
    refine hl_nil ?_
    refine hq_then ?_
    refine hc_ret ?_
    exact hq_retR (post := [rowE 3 1 (.slice (some ⟨g2, 0, none⟩) ((List.replicate (n.cnt).toNat (0 : Int)).length) ((List.replicate (n.cnt).toNat (0 : Int)).length)) zs.length (zs.map (Value.int .i64))]) rfl rfl ((.cons_cons _ (.cons _ .slnil))) (by rw [hz, show k = n.gs.length by omega, fill_all (by rw [val_len n st inp _ (Nat.le_refl _)]; omega)])
section
variable {P : Program} {N : Nat} {w0 : World} {l : List HP} {env : List (Nat × Value)} {Q : Post} {os : List Oper} {m : Nat} {dps : List (List Nat)} {dsts : List (Option Nat)} {R : Nat → List Value → Value → List HP → Prop}
/-- where the quiet part stands -/
structure Mid4 (N : Nat) (w0 : World) (l : List HP) (env : List (Nat × Value)) (os : List Oper) (m : Nat) (dps : List (List Nat)) (dsts : List (Option Nat)) (R : Nat → List Value → Value → List HP → Prop) (tau : List (Option Nat)) (P0 : List (List HP)) (listed : Array Bool) (ord held : List Nat) (vf : Nat → Value) (pf : Nat → List HP) (a : Act) (w : World) : Prop where
  size : listed.size = os.length
  iff : ∀ i, i < os.length → (listed.getD i true = true ↔ i ∈ ord)
  low : ∀ i ∈ ord, i < m
  closed : ∀ i ∈ ord, ∀ j ∈ depsOf os i, j ∈ ord
  nodup : ord.Nodup
  dcl : ∀ i ∈ ord, ∀ j ∈ dps.getD i [], j ∈ ord
  rel : ∀ i ∈ ord, R i ((dps.getD i []).map vf) (vf i) (pf i)
  hn : held.Nodup
  hin : ∀ i ∈ held, i ∈ ord ∨ (os.length ≤ i ∧ i < os.length + P0.length)
  hall : ∀ i, (i ∈ ord ∨ (os.length ≤ i ∧ i < os.length + P0.length)) → (∀ j ∈ ord, tau.getD j none ≠ some i) → i ∈ held
  hP : ∀ k, k < P0.length → pf (os.length + k) = P0.getD k []
  mem : Mem w0 (held.flatMap pf ++ l) w
  asize : a.tmps.size = N
  defers : a.defers = []
  env : ∀ d v, lk env d = some v → a.tmps[d]? = some v
  slots : ∀ i ∈ ord, ∀ d, dsts[i]? = some (some d) → a.tmps[d]? = some (vf i)
theorem Mid4.st {tau P0 listed ord held vf pf a w} (h : Mid4 N w0 l env os m dps dsts R tau P0 listed ord held vf pf a w) (hm : m ≤ dsts.length) {is : List Nat} (hs : ∀ j ∈ is, j ∈ ord) {L : List HP} (hM : Mem w0 L w) : St N w0 L (envOf3 dsts vf is ++ env) a w := by
  refine ⟨hM, h.asize, h.defers, fun d v hd => ?_⟩
  rcases lk_append _ _ _ _ hd with h1 | h1
  · unfold envOf3 at h1
    rw [List.mem_filterMap] at h1
    obtain ⟨i, hi, he⟩ := h1
    rw [Option.map_eq_some_iff] at he
    obtain ⟨d', hd', he⟩ := he
    simp only [Prod.mk.injEq] at he
    obtain ⟨rfl, rfl⟩ := he
    have : dsts[i]? = some (some d') := by
      rw [List.getD_eq_getElem?_getD] at hd'
      cases hx : dsts[i]? with
      | none => rw [hx] at hd'; cases hd'
      | some y => rw [hx] at hd'; exact congrArg some hd'
    exact h.slots i (hs i hi) _ this
  · exact h.env d v h1
end
open Go.RowKit
def isAndB (n : Nt) (k : Int) : Bool := decide (n.fst ≤ k ∧ k < n.cnt)
theorem isAnd_iff {n : Nt} {k : Int} : isAndB n k = true ↔ n.fst ≤ k ∧ k < n.cnt := by unfold isAndB; exact decide_eq_true_iff
theorem isAnd_not {n : Nt} {k : Int} (h : isAndB n k = false) : ¬ (n.fst ≤ k ∧ k < n.cnt) := by unfold isAndB at h; exact of_decide_eq_false h
set_option maxHeartbeats 4000000 in
set_option maxRecDepth 100000 in
theorem implnodeCount_yes (n : Nt) (w : World) (hr : RdsNt w n) (hn : NtOk n) :
  Calls Try.prog 84 #[.agg #[.int .i64 n.ins, n.sv, n.av, n.ov]] w (Ans w (.int .i64 n.cnt)) := by
 have hi0 := hn.i0
 have hi1 := hn.i1
 have hs1 := hn.s1
 have ha1 := hn.a1
 have ho1 := hn.o1
 have hcnt : n.cnt = 1 + n.ins + n.ss.length + n.gs.length := rfl
 have hfst : n.fst = 1 + n.ins + n.ss.length := rfl
 refine calls_hc (N := 14) (args := [.agg #[.int .i64 n.ins, n.sv, n.av, n.ov]]) Try.func84 rfl rfl ?_
 refine hc_less _ (sx 0 rfl (sub_nil _)) (.refl _) ?_
 refine hc_seq ?_
 refine hc_region ?_
 refine hl_box rfl rfl rfl (rq_box rfl rfl) ?_
 intro b1
 refine hl_v rfl rfl rfl (rv_ev rfl) ?_
 refine hl_less (sx 0 rfl (sx 1 rfl (sx 2 rfl (sub_nil _)))) (.refl _) ?_
 refine hl_nil ?_
 refine hq_then ?_
 refine hc_seq ?_
 refine hc_region ?_
 refine hl_v rfl rfl rfl (rv_field (k0 := 0) rfl (by kernel_rfl) rfl) ?_
 refine hl_v rfl rfl rfl (rv_load rfl (by kernel_rfl) rfl (box_cell 0 rfl rfl)) ?_
 refine hl_v rfl rfl rfl (rv_add rfl rfl rfl (by constructor <;> omega)) ?_
 refine hl_v rfl rfl rfl (rv_field (k0 := 1) rfl (by kernel_rfl) rfl) ?_
 refine hl_v rfl rfl rfl (rv_load rfl (by kernel_rfl) rfl (box_cell 0 rfl rfl)) ?_
 refine hl_v rfl rfl rfl (rv_len rfl Try.underlying24 rfl (rd_old hr.sq)) ?_
 refine hl_v rfl rfl rfl (rv_add rfl rfl rfl (by constructor <;> omega)) ?_
 refine hl_v rfl rfl rfl (rv_field (k0 := 2) rfl (by kernel_rfl) rfl) ?_
 refine hl_v rfl rfl rfl (rv_load rfl (by kernel_rfl) rfl (box_cell 0 rfl rfl)) ?_
 refine hl_v rfl rfl rfl (rv_len rfl Try.underlying25 rfl (rd_old hr.an)) ?_
 refine hl_v rfl rfl rfl (rv_add rfl rfl rfl (by constructor <;> omega)) ?_
 refine hl_v rfl rfl rfl (rv_ev rfl) ?_
 refine hl_less (sx 0 rfl (sx 1 rfl (sx 2 rfl (sub_nil _)))) (.refl _) ?_
 refine hl_nil ?_
 refine hq_then ?_
 refine hc_ret ?_
 exact hq_ans rfl rfl rfl
set_option maxHeartbeats 4000000 in
set_option maxRecDepth 100000 in
theorem implNodeCount_yes (n : Nt) (w : World) (hr : RdsNt w n) (hn : NtOk n) :
  Calls Try.prog 124 #[.agg #[.int .i64 n.ins, n.sv, n.av, n.ov]] w (Ans w (.int .i64 n.cnt)) := by
 have hi0 := hn.i0
 have hi1 := hn.i1
 have hs1 := hn.s1
 have ha1 := hn.a1
 have ho1 := hn.o1
 have hcnt : n.cnt = 1 + n.ins + n.ss.length + n.gs.length := rfl
 have hfst : n.fst = 1 + n.ins + n.ss.length := rfl
 refine calls_hc (N := 27) (args := [.agg #[.int .i64 n.ins, n.sv, n.av, n.ov]]) Try.func124 rfl rfl ?_
 refine hc_less _ (sx 0 rfl (sub_nil _)) (.refl _) ?_
 refine hc_seq ?_
 refine hc_region ?_
 refine hl_box rfl rfl rfl (rq_box rfl rfl) ?_
 intro b1
 refine hl_v rfl rfl rfl (rv_ev rfl) ?_
 refine hl_less (sx 0 rfl (sx 1 rfl (sx 2 rfl (sub_nil _)))) (.refl _) ?_
 refine hl_nil ?_
 refine hq_then ?_
 refine hc_seq ?_
 refine hc_seq ?_
 refine hc_region ?_
 refine hl_v rfl rfl rfl (rv_field (k0 := 0) rfl (by kernel_rfl) rfl) ?_
 refine hl_v rfl rfl rfl (rv_load rfl (by kernel_rfl) rfl (box_cell 0 rfl rfl)) ?_
 refine hl_callV rfl rfl rfl (rq_call (by kernel_rfl) rfl (fun w hm => ret_ans (ans_of (inRange_any _ _ _ w)))) ?_
 refine hl_bool (fun h2 => ?_) (fun h2 => absurd ((((inR_iff _ _ _).2 (by omega))).symm.trans h2) (by decide))
 refine hl_v rfl rfl rfl (rv_ev rfl) ?_
 refine hl_v rfl rfl rfl (rv_ev rfl) ?_
 refine hl_v rfl rfl rfl (rv_field (k0 := 1) rfl (by kernel_rfl) rfl) ?_
 refine hl_v rfl rfl rfl (rv_load rfl (by kernel_rfl) rfl (box_cell 0 rfl rfl)) ?_
 refine hl_v rfl rfl rfl (rv_len rfl Try.underlying24 rfl (rd_old hr.sq)) ?_
 refine hl_gtr rfl rfl rfl rfl rfl rfl (fun h3 => absurd h3 (by omega)) (fun h3 => ?_)
 refine hl_v rfl rfl rfl (rv_ev rfl) ?_
 refine hl_v rfl rfl rfl (rv_ev rfl) ?_
 refine hl_v rfl rfl rfl (rv_field (k0 := 2) rfl (by kernel_rfl) rfl) ?_
 refine hl_v rfl rfl rfl (rv_load rfl (by kernel_rfl) rfl (box_cell 0 rfl rfl)) ?_
 refine hl_v rfl rfl rfl (rv_len rfl Try.underlying25 rfl (rd_old hr.an)) ?_
 refine hl_gtr rfl rfl rfl rfl rfl rfl (fun h4 => absurd h4 (by omega)) (fun h4 => ?_)
 refine hl_v rfl rfl rfl (rv_ev rfl) ?_
 refine hl_v rfl rfl rfl (rv_ev rfl) ?_
 refine hl_v rfl rfl rfl (rv_field (k0 := 3) rfl (by kernel_rfl) rfl) ?_
 refine hl_v rfl rfl rfl (rv_load rfl (by kernel_rfl) rfl (box_cell 0 rfl rfl)) ?_
 refine hl_v rfl rfl rfl (rv_len rfl Try.underlying26 rfl (rd_old hr.ou)) ?_
 refine hl_gtr rfl rfl rfl rfl rfl rfl (fun h5 => absurd h5 (by omega)) (fun h5 => ?_)
 refine hl_v rfl rfl rfl (rv_ev rfl) ?_
 refine hl_less (sx 0 rfl (sx 1 rfl (sx 2 rfl (sx 24 rfl (sub_nil _))))) (.refl _) ?_
 refine hl_nil ?_
 refine hq_then ?_
 refine hc_false rfl ?_
 refine hc_skip ?_
 refine hq_then ?_
 refine hc_seq ?_
 refine hc_region ?_
 refine hl_v rfl rfl rfl (rv_loadN (cs := [.int .i64 n.ins, n.sv, n.av, n.ov]) rfl (by kernel_rfl) (by kernel_rfl) rfl rfl (box_part 0 rfl 0 rfl)) ?_
 refine hl_callV rfl rfl rfl (rq_call (by kernel_rfl) rfl (fun w hm => ret_ans (implnodeCount_yes n w (hr.below hm.bel) hn))) ?_
 refine hl_v rfl rfl rfl (rv_ev rfl) ?_
 refine hl_less (sx 0 rfl (sx 1 rfl (sx 2 rfl (sx 24 rfl (sub_nil _))))) (.refl _) ?_
 refine hl_nil ?_
 refine hq_then ?_
 refine hc_ret ?_
 exact hq_ans rfl rfl rfl
set_option maxHeartbeats 4000000 in
set_option maxRecDepth 100000 in
theorem firstAnd_yes (n : Nt) (w : World) (hr : RdsNt w n) (hn : NtOk n) :
  Calls Try.prog 86 #[.agg #[.int .i64 n.ins, n.sv, n.av, n.ov]] w (Ans w (.int .i64 n.fst)) := by
 have hi0 := hn.i0
 have hi1 := hn.i1
 have hs1 := hn.s1
 have ha1 := hn.a1
 have ho1 := hn.o1
 have hcnt : n.cnt = 1 + n.ins + n.ss.length + n.gs.length := rfl
 have hfst : n.fst = 1 + n.ins + n.ss.length := rfl
 refine calls_hc (N := 10) (args := [.agg #[.int .i64 n.ins, n.sv, n.av, n.ov]]) Try.func86 rfl rfl ?_
 refine hc_less _ (sx 0 rfl (sub_nil _)) (.refl _) ?_
 refine hc_seq ?_
 refine hc_region ?_
 refine hl_box rfl rfl rfl (rq_box rfl rfl) ?_
 intro b1
 refine hl_v rfl rfl rfl (rv_ev rfl) ?_
 refine hl_less (sx 0 rfl (sx 1 rfl (sx 2 rfl (sub_nil _)))) (.refl _) ?_
 refine hl_nil ?_
 refine hq_then ?_
 refine hc_seq ?_
 refine hc_region ?_
 refine hl_v rfl rfl rfl (rv_field (k0 := 0) rfl (by kernel_rfl) rfl) ?_
 refine hl_v rfl rfl rfl (rv_load rfl (by kernel_rfl) rfl (box_cell 0 rfl rfl)) ?_
 refine hl_v rfl rfl rfl (rv_add rfl rfl rfl (by constructor <;> omega)) ?_
 refine hl_v rfl rfl rfl (rv_field (k0 := 1) rfl (by kernel_rfl) rfl) ?_
 refine hl_v rfl rfl rfl (rv_load rfl (by kernel_rfl) rfl (box_cell 0 rfl rfl)) ?_
 refine hl_v rfl rfl rfl (rv_len rfl Try.underlying24 rfl (rd_old hr.sq)) ?_
 refine hl_v rfl rfl rfl (rv_add rfl rfl rfl (by constructor <;> omega)) ?_
 refine hl_v rfl rfl rfl (rv_ev rfl) ?_
 refine hl_less (sx 0 rfl (sx 1 rfl (sx 2 rfl (sub_nil _)))) (.refl _) ?_
 refine hl_nil ?_
 refine hq_then ?_
 refine hc_ret ?_
 exact hq_ans rfl rfl rfl
set_option maxHeartbeats 4000000 in
set_option maxRecDepth 100000 in
theorem isAnd_yes (n : Nt) (k : Int) (w : World) (hr : RdsNt w n) (hn : NtOk n) :
  Calls Try.prog 68 #[.agg #[.int .i64 n.ins, n.sv, n.av, n.ov], .int .i64 k] w (Ans w (.bool (isAndB n k))) := by
 have hi0 := hn.i0
 have hi1 := hn.i1
 have hs1 := hn.s1
 have ha1 := hn.a1
 have ho1 := hn.o1
 have hcnt : n.cnt = 1 + n.ins + n.ss.length + n.gs.length := rfl
 have hfst : n.fst = 1 + n.ins + n.ss.length := rfl
 refine calls_hc (N := 15) (args := [.agg #[.int .i64 n.ins, n.sv, n.av, n.ov], .int .i64 k]) Try.func68 rfl rfl ?_
 refine hc_less _ (sx 0 rfl (sx 1 rfl (sub_nil _))) (.refl _) ?_
 refine hc_seq ?_
 refine hc_region ?_
 refine hl_box rfl rfl rfl (rq_box rfl rfl) ?_
 intro b1
 refine hl_v rfl rfl rfl (rv_ev rfl) ?_
 refine hl_less (sx 0 rfl (sx 1 rfl (sx 2 rfl (sx 4 rfl (sub_nil _))))) (.refl _) ?_
 refine hl_nil ?_
 refine hq_then ?_
 refine hc_seq ?_
 refine hc_region ?_
 refine hl_v rfl rfl rfl (rv_ev rfl) ?_
 refine hl_v rfl rfl rfl (rv_loadN (cs := [.int .i64 n.ins, n.sv, n.av, n.ov]) rfl (by kernel_rfl) (by kernel_rfl) rfl rfl (box_part 0 rfl 0 rfl)) ?_
 refine hl_callV rfl rfl rfl (rq_call (by kernel_rfl) rfl (fun w hm => ret_ans (firstAnd_yes n w (hr.below hm.bel) hn))) ?_
 refine hl_geq rfl rfl rfl rfl rfl rfl (fun h2 => ?_) (fun h2 => ?_)
 ·
  refine hl_v rfl rfl rfl (rv_ev rfl) ?_
  refine hl_v rfl rfl rfl (rv_ev rfl) ?_
  refine hl_v rfl rfl rfl (rv_loadN (cs := [.int .i64 n.ins, n.sv, n.av, n.ov]) rfl (by kernel_rfl) (by kernel_rfl) rfl rfl (box_part 0 rfl 0 rfl)) ?_
  refine hl_callV rfl rfl rfl (rq_call (by kernel_rfl) rfl (fun w hm => ret_ans (implnodeCount_yes n w (hr.below hm.bel) hn))) ?_
  refine hl_lss rfl rfl rfl rfl rfl rfl (fun h3 => ?_) (fun h3 => ?_)
  ·
   refine hl_v rfl rfl rfl (rv_ev rfl) ?_
   refine hl_v rfl rfl rfl (rv_ev rfl) ?_
   refine hl_less (sx 0 rfl (sx 1 rfl (sx 2 rfl (sx 4 rfl (sub_nil _))))) (.refl _) ?_
   refine hl_nil ?_
   refine hq_then ?_
   refine hc_ret ?_
   exact hq_ans rfl rfl (congrArg _ (isAnd_iff.2 (by omega)).symm)
  ·
   refine hl_v rfl rfl rfl (rv_ev rfl) ?_
   refine hl_v rfl rfl rfl (rv_ev rfl) ?_
   refine hl_less (sx 0 rfl (sx 1 rfl (sx 2 rfl (sx 4 rfl (sub_nil _))))) (.refl _) ?_
   refine hl_nil ?_
   refine hq_then ?_
   refine hc_ret ?_
   exact hq_ans rfl rfl (congrArg _ (Bool.eq_false_iff.2 (fun h => by have := isAnd_iff.1 h; omega)).symm)
 ·
  refine hl_v rfl rfl rfl (rv_ev rfl) ?_
  refine hl_skip rfl rfl rfl ?_
  refine hl_skip rfl rfl rfl ?_
  refine hl_skip rfl rfl rfl ?_
  refine hl_skip rfl rfl rfl ?_
  refine hl_v rfl rfl rfl (rv_ev rfl) ?_
  refine hl_v rfl rfl rfl (rv_ev rfl) ?_
  refine hl_less (sx 0 rfl (sx 1 rfl (sx 2 rfl (sx 4 rfl (sub_nil _))))) (.refl _) ?_
  refine hl_nil ?_
  refine hq_then ?_
  refine hc_ret ?_
  exact hq_ans rfl rfl (congrArg _ (Bool.eq_false_iff.2 (fun h => by have := isAnd_iff.1 h; omega)).symm)
set_option maxHeartbeats 4000000 in
set_option maxRecDepth 100000 in
theorem seqOk_yes (s : Sq) (w : World) (hs : SqOk s) (hx : RdsW w s.iv 1 s.xs.length (s.xs.map (Value.int .i64))) :
  Calls Try.prog 125 #[.agg #[.int .i64 s.kd, .int .i64 s.it, s.iv]] w (Ans w (.bool true)) := by
 have hk := hs.kind
 refine calls_hc (N := 27) (args := [.agg #[.int .i64 s.kd, .int .i64 s.it, s.iv]]) Try.func125 rfl rfl ?_
 refine hc_less _ (sx 0 rfl (sub_nil _)) (.refl _) ?_
 refine hc_seq ?_
 refine hc_region ?_
 refine hl_box rfl rfl rfl (rq_box rfl rfl) ?_
 intro b1
 refine hl_v rfl rfl rfl (rv_ev rfl) ?_
 refine hl_less (sx 0 rfl (sx 1 rfl (sx 2 rfl (sub_nil _)))) (.refl _) ?_
 refine hl_nil ?_
 refine hq_then ?_
 refine hc_seq ?_
 refine hc_seq ?_
 refine hc_region ?_
 refine hl_v rfl rfl rfl (rv_field (k0 := 0) rfl (by kernel_rfl) rfl) ?_
 refine hl_v rfl rfl rfl (rv_load rfl (by kernel_rfl) rfl (box_cell 0 rfl rfl)) ?_
 refine hl_less (sx 0 rfl (sx 1 rfl (sx 2 rfl (sx 4 rfl (sub_nil _))))) (.refl _) ?_
 refine hl_nil ?_
 refine hq_then ?_
 refine hc_block ?_
 refine hc_seq ?_
 refine hc_region ?_
 refine hl_eql rfl rfl rfl rfl rfl rfl (fun h2 => ?_) (fun h2 => ?_)
 ·
  refine hl_v rfl rfl rfl (rv_ev rfl) ?_
  refine hl_less (sx 0 rfl (sx 1 rfl (sx 2 rfl (sx 4 rfl (sx 5 rfl (sub_nil _)))))) (.refl _) ?_
  refine hl_nil ?_
  refine hq_then ?_
  refine hc_true rfl ?_
  refine hc_seq ?_
  refine hc_region ?_
  refine hl_v rfl rfl rfl (rv_field (k0 := 1) rfl (by kernel_rfl) rfl) ?_
  refine hl_v rfl rfl rfl (rv_load rfl (by kernel_rfl) rfl (box_cell 0 rfl rfl)) ?_
  refine hl_callV rfl rfl rfl (rq_call (by kernel_rfl) rfl (fun w hm => ret_ans (ans_of (inRange_any _ _ _ w)))) ?_
  refine hl_bool (fun h3 => ?_) (fun h3 => absurd ((((inR_iff _ _ _).2 (by omega))).symm.trans h3) (by decide))
  refine hl_v rfl rfl rfl (rv_ev rfl) ?_
  refine hl_v rfl rfl rfl (rv_field (k0 := 2) rfl (by kernel_rfl) rfl) ?_
  refine hl_v rfl rfl rfl (rv_load rfl (by kernel_rfl) rfl (box_cell 0 rfl rfl)) ?_
  refine hl_v rfl rfl rfl (rv_len rfl Try.underlying26 rfl (rd_old hx)) ?_
  refine hl_eql rfl rfl rfl rfl rfl rfl (fun h4 => ?_) (fun h4 => ?_)
  ·
   refine hl_v rfl rfl rfl (rv_ev rfl) ?_
   refine hl_v rfl rfl rfl (rv_ev rfl) ?_
   refine hl_less (sx 0 rfl (sx 1 rfl (sx 2 rfl (sx 4 rfl (sx 5 rfl (sub_nil _)))))) (.refl _) ?_
   refine hl_nil ?_
   refine hq_then ?_
   refine hc_ret ?_
   refine hq_block_ret ?_
   refine hq_then_ret ?_
   exact hq_ans rfl rfl rfl
  ·
   refine hl_v rfl rfl rfl (rv_ev rfl) ?_
   refine hl_v rfl rfl rfl (rv_ev rfl) ?_
   refine hl_less (sx 0 rfl (sx 1 rfl (sx 2 rfl (sx 4 rfl (sx 5 rfl (sub_nil _)))))) (.refl _) ?_
   refine hl_nil ?_
   refine hq_then ?_
   refine hc_ret ?_
   refine hq_block_ret ?_
   refine hq_then_ret ?_
   exfalso
   omega
 ·
  refine hl_v rfl rfl rfl (rv_ev rfl) ?_
  refine hl_less (sx 0 rfl (sx 1 rfl (sx 2 rfl (sx 4 rfl (sx 5 rfl (sub_nil _)))))) (.refl _) ?_
  refine hl_nil ?_
  refine hq_then ?_
  refine hc_false rfl ?_
  refine hc_seq ?_
  refine hc_region ?_
  refine hl_eql rfl rfl rfl rfl rfl rfl (fun h5 => ?_) (fun h5 => ?_)
  ·
   refine hl_v rfl rfl rfl (rv_ev rfl) ?_
   refine hl_less (sx 0 rfl (sx 1 rfl (sx 2 rfl (sx 4 rfl (sx 5 rfl (sx 16 rfl (sub_nil _))))))) (.refl _) ?_
   refine hl_nil ?_
   refine hq_then ?_
   refine hc_true rfl ?_
   refine hc_seq ?_
   refine hc_region ?_
   refine hl_v rfl rfl rfl (rv_field (k0 := 1) rfl (by kernel_rfl) rfl) ?_
   refine hl_v rfl rfl rfl (rv_load rfl (by kernel_rfl) rfl (box_cell 0 rfl rfl)) ?_
   refine hl_callV rfl rfl rfl (rq_call (by kernel_rfl) rfl (fun w hm => ret_ans (ans_of (inRange_any _ _ _ w)))) ?_
   refine hl_bool (fun h6 => ?_) (fun h6 => absurd ((((inR_iff _ _ _).2 (by omega))).symm.trans h6) (by decide))
   refine hl_v rfl rfl rfl (rv_ev rfl) ?_
   refine hl_v rfl rfl rfl (rv_field (k0 := 2) rfl (by kernel_rfl) rfl) ?_
   refine hl_v rfl rfl rfl (rv_load rfl (by kernel_rfl) rfl (box_cell 0 rfl rfl)) ?_
   refine hl_v rfl rfl rfl (rv_len rfl Try.underlying26 rfl (rd_old hx)) ?_
   refine hl_eql rfl rfl rfl rfl rfl rfl (fun h7 => ?_) (fun h7 => ?_)
   ·
    refine hl_v rfl rfl rfl (rv_ev rfl) ?_
    refine hl_v rfl rfl rfl (rv_ev rfl) ?_
    refine hl_less (sx 0 rfl (sx 1 rfl (sx 2 rfl (sx 4 rfl (sx 5 rfl (sx 16 rfl (sub_nil _))))))) (.refl _) ?_
    refine hl_nil ?_
    refine hq_then ?_
    refine hc_ret ?_
    refine hq_block_ret ?_
    refine hq_then_ret ?_
    exact hq_ans rfl rfl rfl
   ·
    refine hl_v rfl rfl rfl (rv_ev rfl) ?_
    refine hl_v rfl rfl rfl (rv_ev rfl) ?_
    refine hl_less (sx 0 rfl (sx 1 rfl (sx 2 rfl (sx 4 rfl (sx 5 rfl (sx 16 rfl (sub_nil _))))))) (.refl _) ?_
    refine hl_nil ?_
    refine hq_then ?_
    refine hc_ret ?_
    refine hq_block_ret ?_
    refine hq_then_ret ?_
    exfalso
    omega
  ·
   refine hl_v rfl rfl rfl (rv_ev rfl) ?_
   refine hl_less (sx 0 rfl (sx 1 rfl (sx 2 rfl (sx 4 rfl (sx 5 rfl (sx 16 rfl (sub_nil _))))))) (.refl _) ?_
   refine hl_nil ?_
   refine hq_then ?_
   refine hc_false rfl ?_
   refine hc_skip ?_
   refine hq_block_normal ?_
   refine hq_then ?_
   refine hc_seq ?_
   refine hc_region ?_
   refine hl_v rfl rfl rfl (rv_ev rfl) ?_
   refine hl_less (sx 0 rfl (sx 1 rfl (sx 2 rfl (sx 4 rfl (sx 5 rfl (sx 16 rfl (sub_nil _))))))) (.refl _) ?_
   refine hl_nil ?_
   refine hq_then ?_
   refine hc_ret ?_
   exfalso
   omega
set_option maxHeartbeats 4000000 in
set_option maxRecDepth 100000 in
theorem copyIntsN_ret (xs : List Int) (v : Value) (w : World) (hv : RdsW w v 1 xs.length (xs.map (Value.int .i64))) (hlen : xs.length ≤ 1000000000) :
  Calls Try.prog 134 #[v] w (Ret w (fun v' post => post = [rowE 3 1 v' (xs).length ((xs).map (Value.int .i64))])) := by
 refine calls_hc (N := 6) (args := [v]) Try.func134 rfl rfl ?_
 refine hc_less _ (sx 0 rfl (sub_nil _)) (.refl _) ?_
 refine hc_seq ?_
 refine hc_region ?_
 refine hl_v rfl rfl rfl (rv_ev rfl) ?_
 refine hl_less (sx 0 rfl (sx 2 rfl (sub_nil _))) (.refl _) ?_
 refine hl_nil ?_
 refine hq_then ?_
 refine hc_seq ?_
 refine hc_region ?_
 refine hl_row rfl rfl rfl (rq_slice0 (s := 1) rfl Try.underlying26 (by kernel_rfl)) ?_
 intro g1
 refine hl_v rfl rfl rfl (rv_ev rfl) ?_
 refine hl_append (i := 0) (z := .int .i64 0) (bytes := 8) (n' := xs.length) (xs' := (xs.map (Value.int .i64))) (L := fun v2 => [rowE 3 1 v2 xs.length (xs.map (Value.int .i64))]) rfl rfl rfl rfl Try.underlying26 (by kernel_rfl) (by kernel_rfl) rfl rfl rfl (rd_old hv) (ints_one _) (by first | omega | (simp; omega)) ((Nat.zero_add _)) ((List.nil_append _)) (fun _ => rfl) ?_
 intro v2
 refine hl_v rfl rfl rfl (rv_ev rfl) ?_
 refine hl_less (sx 0 rfl (sx 2 rfl (sub_nil _))) (.refl _) ?_
 refine hl_nil ?_
 refine hq_then ?_
 refine hc_ret ?_
 exact hq_retR (post := [rowE 3 1 v2 xs.length (xs.map (Value.int .i64))]) rfl rfl ((.cons_cons _ .slnil)) rfl
set_option maxHeartbeats 4000000 in
set_option maxRecDepth 100000 in
theorem roots_ret (n : Nt) (w : World) (hr : RdsNt w n) (hn : NtOk n) :
  Calls Try.prog 126 #[.agg #[.int .i64 n.ins, n.sv, n.av, n.ov]] w (Ret w (fun v' post => post = [rowE 3 1 v' (rtsL n n.ss.length).length ((rtsL n n.ss.length).map (Value.int .i64))])) := by
 have hi0 := hn.i0
 have hi1 := hn.i1
 have hs1 := hn.s1
 have ha1 := hn.a1
 have ho1 := hn.o1
 have hcnt : n.cnt = 1 + n.ins + n.ss.length + n.gs.length := rfl
 have hfst : n.fst = 1 + n.ins + n.ss.length := rfl
 refine calls_hc (N := 22) (args := [.agg #[.int .i64 n.ins, n.sv, n.av, n.ov]]) Try.func126 rfl rfl ?_
 refine hc_less _ (sx 0 rfl (sub_nil _)) (.refl _) ?_
 refine hc_seq ?_
 refine hc_region ?_
 refine hl_box rfl rfl rfl (rq_box rfl rfl) ?_
 intro b1
 refine hl_v rfl rfl rfl (rv_ev rfl) ?_
 refine hl_less (sx 0 rfl (sx 1 rfl (sx 2 rfl (sub_nil _)))) (.refl _) ?_
 refine hl_nil ?_
 refine hq_then ?_
 refine hc_seq ?_
 refine hc_region ?_
 refine hl_v rfl rfl rfl (rv_field (k0 := 3) rfl (by kernel_rfl) rfl) ?_
 refine hl_v rfl rfl rfl (rv_load rfl (by kernel_rfl) rfl (box_cell 0 rfl rfl)) ?_
 refine hl_q rfl rfl rfl (rq_call (by kernel_rfl) rfl (fun w hm => copyIntsN_ret n.os _ w ((rd_old hr.ou) w hm) (by omega))) ?_
 intro v2 p3 hR4
 subst hR4
 refine hl_v rfl rfl rfl (rv_ev rfl) ?_
 refine hl_less (sx 0 rfl (sx 1 rfl (sx 2 rfl (sx 3 rfl (sub_nil _))))) (.refl _) ?_
 refine hl_nil ?_
 refine hq_then ?_
 refine hc_seq ?_
 refine hc_seq ?_
 refine hc_region ?_
 refine hl_v rfl rfl rfl (rv_field (k0 := 1) rfl (by kernel_rfl) rfl) ?_
 refine hl_v rfl rfl rfl (rv_load rfl (by kernel_rfl) rfl (box_cell 1 rfl rfl)) ?_
 refine hl_v rfl rfl rfl (rv_len rfl Try.underlying24 rfl (rd_old hr.sq)) ?_
 refine hl_v rfl rfl rfl (rv_ev rfl) ?_
 refine hl_less (sx 0 rfl (sx 1 rfl (sx 2 rfl (sx 3 rfl (sx 10 rfl (sx 11 rfl (sx 12 rfl (sub_nil _)))))))) (.refl _) ?_
 refine hl_nil ?_
 refine hq_then ?_
 refine hc_block ?_
 refine hc_loop3 (α := Nat) (β := Value) (γ := List Int) (fun k u zs => [rowE 3 1 u zs.length (zs.map (Value.int .i64)), boxE b1 #[.int .i64 n.ins, n.sv, n.av, n.ov] 28]) (fun k u zs => [(0, .agg #[.int .i64 n.ins, n.sv, n.av, n.ov]), (1, .pointer (some ⟨b1, 0, none⟩)), (2, .slice none 0 0), (3, u), (10, n.sv), (11, .int .i64 (n.ss.length : Int)), (12, .int .i64 (k : Int))]) (fun k u zs => k ≤ n.ss.length ∧ zs = rtsL n k) (fun k u zs => n.ss.length - k) 0 _ n.os ⟨by omega, by simp [rtsL]⟩ (sx 0 rfl (sx 1 rfl (sx 2 rfl (sx 3 rfl (sx 10 rfl (sx 11 rfl (sx 12 rfl (sub_nil _)))))))) ((.cons_cons _ (.cons_cons _ .slnil))) ?_
 intro k u zs hi5
 obtain ⟨hk, hz⟩ := hi5
 have hzl : zs.length ≤ 16 + 4 * k := by rw [hz]; exact rts_len hn k hk
 refine hc_seq ?_
 refine hc_region ?_
 refine hl_lss rfl rfl rfl rfl rfl rfl (fun h6 => ?_) (fun h6 => ?_)
 ·
  refine hl_less (sx 0 rfl (sx 1 rfl (sx 2 rfl (sx 3 rfl (sx 10 rfl (sx 11 rfl (sx 12 rfl (sx 13 rfl (sub_nil _))))))))) (.refl _) ?_
  refine hl_nil ?_
  refine hq_then ?_
  refine hc_seq ?_
  refine hc_true rfl ?_
  refine hc_skip ?_
  refine hq_then ?_
  refine hc_seq ?_
  refine hc_block ?_
  refine hc_seq ?_
  refine hc_region ?_
  refine hl_v rfl rfl rfl (rv_index (s := 3) rfl Try.underlying24 (by kernel_rfl) rfl rfl (rd_old hr.sq) (by omega) (by first | omega | (simp only [List.length_set]; omega))) ?_
  refine hl_v rfl rfl rfl (rv_loadElN (us := [.int .i64 ((n.ss.getD k sq0).kd), .int .i64 ((n.ss.getD k sq0).it), (n.ss.getD k sq0).iv]) rfl (by kernel_rfl) (by kernel_rfl) rfl (rd_old hr.sq) (by omega) rfl (flat_atN sqC 3 (fun _ => rfl) n.ss sq0 (show k < _ by first | omega | (simp only [List.length_set]; omega)) rfl)) ?_
  refine hl_box rfl rfl rfl (rq_alloc (z := .agg #[.int .i64 0, .int .i64 0, .slice none 0 0]) rfl (by kernel_rfl)) ?_
  intro b7
  refine hl_storeBoxN (i := 0) (off := 0) (us := [.int .i64 ((n.ss.getD k sq0).kd), .int .i64 ((n.ss.getD k sq0).it), (n.ss.getD k sq0).iv])  (l' := [boxE b7 #[.int .i64 ((n.ss.getD k sq0).kd), .int .i64 ((n.ss.getD k sq0).it), (n.ss.getD k sq0).iv] 83, rowE 3 1 u zs.length (zs.map (Value.int .i64)), boxE b1 #[.int .i64 n.ins, n.sv, n.av, n.ov] 28]) rfl rfl rfl (by kernel_rfl) rfl rfl rfl (all_cons rfl (all_cons rfl (all_cons (hr.at (k := k) (by omega)).one all_nil))) rfl rfl rfl ?_
  refine hl_less (sx 0 rfl (sx 1 rfl (sx 2 rfl (sx 3 rfl (sx 5 rfl (sx 10 rfl (sx 11 rfl (sx 12 rfl (sx 13 rfl (sub_nil _)))))))))) (.refl _) ?_
  refine hl_nil ?_
  refine hq_then ?_
  refine hc_region ?_
  have hx4 := (hn.sq _ (getD_memX (d := sq0) (show k < n.ss.length by omega))).len
  refine hl_v rfl rfl rfl (rv_ev rfl) ?_
  refine hl_v rfl rfl rfl (rv_field (k0 := 2) rfl (by kernel_rfl) rfl) ?_
  refine hl_v rfl rfl rfl (rv_load rfl (by kernel_rfl) rfl (box_cell 0 rfl rfl)) ?_
  refine hl_append (i := 1) (z := .int .i64 0) (bytes := 8) (n' := (zs ++ ((n.ss.getD k sq0).xs)).length) (xs' := ((zs ++ ((n.ss.getD k sq0).xs)).map (Value.int .i64))) (L := fun v8 => [boxE b7 #[.int .i64 ((n.ss.getD k sq0).kd), .int .i64 ((n.ss.getD k sq0).it), (n.ss.getD k sq0).iv] 83, rowE 3 1 v8 ((zs ++ ((n.ss.getD k sq0).xs)).length) ((zs ++ ((n.ss.getD k sq0).xs)).map (Value.int .i64)), boxE b1 #[.int .i64 n.ins, n.sv, n.av, n.ov] 28]) rfl rfl rfl rfl Try.underlying26 (by kernel_rfl) (by kernel_rfl) rfl rfl rfl (fun w hm => (hr.at (k := k) (by omega)).below hm.bel) (ints_one _) (by first | omega | (simp; omega)) (len_app zs ((n.ss.getD k sq0).xs)) (ints_app zs ((n.ss.getD k sq0).xs)) (fun _ => rfl) ?_
  intro v8
  refine hl_v rfl rfl rfl (rv_ev rfl) ?_
  refine hl_less (sx 0 rfl (sx 1 rfl (sx 2 rfl (sx 3 rfl (sx 5 rfl (sx 10 rfl (sx 11 rfl (sx 12 rfl (sx 13 rfl (sub_nil _)))))))))) (.refl _) ?_
  refine hl_nil ?_
  refine hq_block_normal ?_
  refine hq_then ?_
  refine hc_region ?_
  refine hl_v rfl rfl rfl (rv_add rfl rfl rfl (by constructor <;> omega)) ?_
  refine hl_v rfl rfl rfl (rv_ev rfl) ?_
  refine hl_less (sx 0 rfl (sx 1 rfl (sx 2 rfl (sx 3 rfl (sx 5 rfl (sx 10 rfl (sx 11 rfl (sx 12 rfl (sx 13 rfl (sub_nil _)))))))))) (.refl _) ?_
  refine hl_nil ?_
  exact hq_round3 (k + 1) v8 (zs ++ ((n.ss.getD k sq0).xs)) ⟨by omega, by rw [hz, rts_step n (by omega)]⟩ (by omega) (sx 0 rfl (sx 1 rfl (sx 2 rfl (sx 3 rfl (sx 10 rfl (sx 11 rfl (sx 12 rfl (sub_nil _)))))))) ((.cons _ (.cons_cons _ (.cons_cons _ .slnil))))
 ·
  refine hl_less (sx 0 rfl (sx 1 rfl (sx 2 rfl (sx 3 rfl (sx 10 rfl (sx 11 rfl (sx 12 rfl (sx 13 rfl (sub_nil _))))))))) (.refl _) ?_
  refine hl_nil ?_
  refine hq_then ?_
  refine hc_seq ?_
  refine hc_false rfl ?_
  refine hc_exit ?_
  refine hq_then_exit ?_
  refine hq_then_exit ?_
  refine hq_block_exit ?_
  refine hq_then ?_
  refine hc_seq ?_
  refine hc_region ?_
  refine hl_v rfl rfl rfl (rv_ev rfl) ?_
  refine hl_v rfl rfl rfl (rv_ev rfl) ?_
  refine hl_less (sx 0 rfl (sx 1 rfl (sx 2 rfl (sx 3 rfl (sx 10 rfl (sx 11 rfl (sx 12 rfl (sx 13 rfl (sub_nil _))))))))) (.refl _) ?_
  refine hl_nil ?_
  refine hq_then ?_
  refine hc_ret ?_
  exact hq_retR (post := [rowE 3 1 u zs.length (zs.map (Value.int .i64))]) rfl rfl ((.cons_cons _ (.cons _ .slnil))) (by rw [hz, show k = n.ss.length by omega])
end Go.Proofs.Ytakbbebpimlnpaa
