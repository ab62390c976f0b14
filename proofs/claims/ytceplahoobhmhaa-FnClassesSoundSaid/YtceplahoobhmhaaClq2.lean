/- Texts of the law FnClassesSound, part 2: what it uses. -/
import Derived.Test.YtceplahoobhmhaaClq1
set_option linter.unusedVariables false
set_option linter.unusedSimpArgs false
set_option maxHeartbeats 4000000
set_option maxRecDepth 100000
namespace Go.Proofs.Ytceplahoobhmhaa
open Go.RowKit Go.ChangeShapes
open Go.RowKit
theorem l08Sized_mut (g : Nat) (a : Option Addr) (len cap : Nat) (z : List Int) (q1 q2 q3 : Int) (w0 : World) (l : List HP) (w : World) (hm0 : Mem w0 (curE g a len cap :: l) w) (hb : BRow .u8 w0 a len cap z) (hq1 : 1 ≤ q1 ∧ q1 ≤ 6) (hq2 : 0 ≤ q2 ∧ q2 ≤ 4) (hq3 : 0 ≤ q3 ∧ q3 ≤ 30) :
   Calls Try.prog 53 #[.pointer (some ⟨g, 0, none⟩), .int .i64 q1, .int .i64 q2, .int .i64 q3] w (fun e_ w_ => ∃ v_ p_, e_ = .returned v_ ∧ (fun u_ p_ => ∃ n : Nt, u_ = n.agg ∧ p_ = bigE [curE g a len cap, ntE n] ∧ (n.sv.oneCell' = true ∧ n.av.oneCell' = true ∧ n.ov.oneCell' = true) ∧ NtOk n ∧ n.ins ≤ q1 ∧ (n.ss.length : Int) ≤ q2 ∧ (n.gs.length : Int) ≤ q3) v_ p_ ∧ Mem w0 (p_ :: l) w_) := by
 refine zdq (N := 131) (args := [.pointer (some ⟨g, 0, none⟩), .int .i64 q1, .int .i64 q2, .int .i64 q3]) Try.func53 rfl rfl hm0 (srQ ?_)
 refine zea rfl (zcf (z := .agg #[.int .i64 0, .slice none 0 0, .slice none 0 0, .slice none 0 0]) rfl rfl) ?_
 intro b1
 refine ntQ (zab (reQ 2 rfl ?_))
 refine zbp (R := (fun u_ p_ => (∃ x_ : Int, u_ = .int .i64 x_ ∧ 0 ≤ x_ ∧ x_ < q1) ∧ p_ = curE g a len cap)) 1 rfl rfl rfl rfl rfl (fun l' w hm => zbn g a len cap z q1 _ _ _ hm hb (by constructor <;> omega)) ?_
 intro v2 p3 hR4
 obtain ⟨⟨xhR4, rfl, xhR40, xhR41⟩, rfl⟩ := hR4
 refine zcd (l' := (boxE b1 #[.int .i64 0, .slice none 0 0, .slice none 0 0, .slice none 0 0] 28 :: curE g a len cap :: l)) rfl ?_
 refine hvQ rfl (vaQ rfl rfl rfl) (hvQ rfl (rv_build (cs := #[.int .i64 (1 + xhR4), .slice none 0 0, .slice none 0 0, .slice none 0 0]) rfl rfl rfl) ?_)
 refine zea rfl (zcf (z := .agg #[.int .i64 0, .slice none 0 0, .slice none 0 0, .slice none 0 0]) rfl rfl) ?_
 intro b5
 refine zcp (cs' := #[.int .i64 (1 + xhR4), .slice none 0 0, .slice none 0 0, .slice none 0 0]) (i := 0) (off := 0) (us := [.int .i64 (1 + xhR4), .slice none 0 0, .slice none 0 0, .slice none 0 0]) rfl rfl rfl rfl rfl rfl rfl (zap rfl (zap rfl (zap rfl (zap rfl zce)))) rfl rfl rfl (ntQ (zab (reQ 2 rfl (hvQ rfl (vaQ rfl rfl rfl) ?_))))
 refine zbp (R := (fun u_ p_ => (∃ x_ : Int, u_ = .int .i64 x_ ∧ 0 ≤ x_ ∧ x_ < q2 + 1) ∧ p_ = curE g a len cap)) 2 rfl rfl rfl rfl rfl (fun l' w hm => zbn g a len cap z (q2 + 1) _ _ _ hm hb (by constructor <;> omega)) ?_
 intro v6 p7 hR8
 obtain ⟨⟨xhR8, rfl, xhR80, xhR81⟩, rfl⟩ := hR8
 refine zcd (l' := (boxE b5 #[.int .i64 (1 + xhR4), .slice none 0 0, .slice none 0 0, .slice none 0 0] 28 :: boxE b1 #[.int .i64 0, .slice none 0 0, .slice none 0 0, .slice none 0 0] 28 :: curE g a len cap :: l)) rfl ?_
 refine zbf 1 rfl (zab (reQ 2 rfl (hvQ rfl (vaQ rfl rfl rfl) ?_)))
 refine zbp (R := (fun u_ p_ => (∃ x_ : Int, u_ = .int .i64 x_ ∧ 0 ≤ x_ ∧ x_ < q3 + 1) ∧ p_ = curE g a len cap)) 2 rfl rfl rfl rfl rfl (fun l' w hm => zbn g a len cap z (q3 + 1) _ _ _ hm hb (by constructor <;> omega)) ?_
 intro v9 p10 hR11
 obtain ⟨⟨xhR11, rfl, xhR110, xhR111⟩, rfl⟩ := hR11
 refine zcd (l' := (boxE b5 #[.int .i64 (1 + xhR4), .slice none 0 0, .slice none 0 0, .slice none 0 0] 28 :: boxE b1 #[.int .i64 0, .slice none 0 0, .slice none 0 0, .slice none 0 0] 28 :: curE g a len cap :: l)) rfl ?_
 refine zbf 1 rfl (srQ (hvQ rfl (fdQ 0 rfl rfl rfl) (hvQ rfl (zae rfl rfl rfl (zac 0 rfl rfl)) (hvQ rfl (vaQ rfl rfl rfl) (zai 1 rfl (hvQ rfl (vaQ rfl rfl rfl) (enQ 1 rfl ?_)))))))
 refine zas (zab (zbe 1 rfl (zau ?_)))
 refine zey (rowE 3 1 (.slice none 0 0) 0 ([]) :: boxE b5 #[.int .i64 (1 + xhR4), .slice none 0 0, .slice none 0 0, .slice none 0 0] 28 :: boxE b1 #[.int .i64 0, .slice none 0 0, .slice none 0 0, .slice none 0 0] 28 :: curE g a len cap :: l) (fun w hm => hm.nilRow 3 1) ?_
 refine zey (rowE 66 2 (.slice none 0 0) 0 ([]) :: rowE 3 1 (.slice none 0 0) 0 ([]) :: boxE b5 #[.int .i64 (1 + xhR4), .slice none 0 0, .slice none 0 0, .slice none 0 0] 28 :: boxE b1 #[.int .i64 0, .slice none 0 0, .slice none 0 0, .slice none 0 0] 28 :: curE g a len cap :: l) (fun w hm => hm.nilRow 66 2) ?_
 refine zey (rowE 43 3 (.slice none 0 0) 0 ([]) :: rowE 66 2 (.slice none 0 0) 0 ([]) :: rowE 3 1 (.slice none 0 0) 0 ([]) :: boxE b5 #[.int .i64 (1 + xhR4), .slice none 0 0, .slice none 0 0, .slice none 0 0] 28 :: boxE b1 #[.int .i64 0, .slice none 0 0, .slice none 0 0, .slice none 0 0] 28 :: curE g a len cap :: l) (fun w hm => hm.nilRow 43 3) ?_
 refine zey _ conv_bg0 ?_
 refine lkQ3 (α := Nat) (β := Value) (γ := List An) [0, 1, 2, 3, 8, 9, 10, 11, 12] rfl (fun i u gs => (bigE ([] : List HP) :: rowE 43 3 (.slice none 0 0) 0 ([]) :: rowE 66 2 u gs.length (gs.flatMap anC) :: rowE 3 1 (.slice none 0 0) 0 ([]) :: boxE b5 #[.int .i64 (1 + xhR4), .slice none 0 0, u, .slice none 0 0] 28 :: boxE b1 #[.int .i64 0, .slice none 0 0, .slice none 0 0, .slice none 0 0] 28 :: curE g a len cap :: l)) (fun i u gs => [(13, .int .i64 (i : Int))]) (fun i u gs => (i : Int) ≤ xhR11 ∧ gs.length = i ∧ AnsOk ((1 + (1 + xhR4)) + xhR8) gs) (fun i u gs => (xhR11).toNat - i) 0 _ [] ⟨by omega, rfl, fun k hk => absurd hk (by simp)⟩ (saQ rfl) (.refl _) ?_
 intro i u gs hi12
 obtain ⟨hi, hgl, hgo⟩ := hi12
 refine zab (zab (reQ 2 rfl ?_))
 refine zbk rfl rfl rfl rfl rfl rfl (fun h13 => ?_) (fun h13 => ?_)
 ·
  refine ntQ (zan rfl (zch (sbQ (zab (reQ 2 rfl (hvQ rfl (vaQ rfl rfl rfl) (hvQ rfl (rv_mul rfl rfl rfl (by constructor <;> omega)) (zai 1 rfl ?_))))))))
  refine ntQ (zab (reQ 1 rfl (hvQ rfl (vsQ rfl rfl rfl) (zai 2 rfl (hvQ rfl (vsQ rfl rfl rfl) (hvQ rfl (rv_min rfl rfl rfl) ?_))))))
  refine zbp (R := (fun u_ p_ => (∃ x_ : Int, u_ = .int .i64 x_ ∧ 0 ≤ x_ ∧ x_ < min ((2 * (((1 + (1 + xhR4)) + xhR8) + (i : Int))) - 1) 14) ∧ p_ = curE g a len cap)) 6 rfl rfl rfl rfl rfl (fun l' w hm => zbn g a len cap z (min ((2 * (((1 + (1 + xhR4)) + xhR8) + (i : Int))) - 1) 14) _ _ _ hm hb (by constructor <;> omega)) ?_
  intro v14 p15 hR16
  obtain ⟨⟨xhR16, rfl, xhR160, xhR161⟩, rfl⟩ := hR16
  refine zcd (l' := (bigE ([] : List HP) :: rowE 43 3 (.slice none 0 0) 0 ([]) :: rowE 66 2 u gs.length (gs.flatMap anC) :: rowE 3 1 (.slice none 0 0) 0 ([]) :: boxE b5 #[.int .i64 (1 + xhR4), .slice none 0 0, u, .slice none 0 0] 28 :: boxE b1 #[.int .i64 0, .slice none 0 0, .slice none 0 0, .slice none 0 0] 28 :: curE g a len cap :: l)) rfl ?_
  refine hvQ rfl (vsQ rfl rfl rfl) (zbf 1 rfl ?_)
  refine hc_pick 7 [5, 4, 3, 2, 1, 0, 6] rfl rfl (by decide) ?_
  refine hc_draw2 (l := (bigE ([] : List HP) :: rowE 43 3 (.slice none 0 0) 0 ([]) :: rowE 66 2 u gs.length (gs.flatMap anC) :: rowE 3 1 (.slice none 0 0) 0 ([]) :: boxE b5 #[.int .i64 (1 + xhR4), .slice none 0 0, u, .slice none 0 0] 28 :: boxE b1 #[.int .i64 0, .slice none 0 0, .slice none 0 0, .slice none 0 0] 28 :: l)) rfl 8 [0, 1, 2, 3, 4, 5, 6, 7] (List.take 8 _) (List.drop 8 _) [[], [0], [], [], [], [3, 4], [2, 5], [5, 6]] [54, 55, 56, 57, 58, 59, 60, 61] (fun i_ vs_ v_ p_ => match i_ with | 0 => v_ = .pointer (some ⟨b5, 0 + 2, none⟩) ∧ p_ = [] | 1 => v_ = u ∧ p_ = [] | 2 => v_ = .int .i64 (((2 * (((1 + (1 + xhR4)) + xhR8) + (i : Int))) - 1) - xhR16) ∧ p_ = [] | 3 => v_ = .pointer (some ⟨g, 0, none⟩) ∧ p_ = [] | 4 => v_ = .int .i64 (2 * (((1 + (1 + xhR4)) + xhR8) + (i : Int))) ∧ p_ = [] | 5 => (∃ pm_, p_ = [pm_] ∧ (fun u_ p_ => (∃ x_ : Int, u_ = .int .i64 x_ ∧ 0 ≤ x_ ∧ x_ < 2 * (((1 + (1 + xhR4)) + xhR8) + (i : Int))) ∧ p_ = curE g a len cap) v_ pm_) | 6 => v_ = .agg #[.int .i64 (((2 * (((1 + (1 + xhR4)) + xhR8) + (i : Int))) - 1) - xhR16), .int .i64 (intOf_o (List.getD vs_ 1 undef))] ∧ p_ = [] | 7 => IsRow 66 2 1 ([((2 * (((1 + (1 + xhR4)) + xhR8) + (i : Int))) - 1) - xhR16, (intOf_o (List.getD vs_ 0 undef))].map (Value.int .i64)) v_ p_ | _ => True) [[], [0], [], [], [], [3, 4], [2, 5], [5, 6]] [none, none, none, none, none, some 11, none, none] [curE g a len cap] [0, 1, 2, 3, 4, 5, 6, 7] 11 (List.take_append_drop 8 _).symm (by kernel_rfl) (by kernel_rfl) (by kernel_rfl) rfl rfl ?_ ?_
  ·
   refine ⟨?_, ?_, ?_, ?_, ?_, ?_, ?_, ?_, trivial⟩
   ·
    intro vf pf hmu hR
    refine dqQ [] [] rfl (zbm (zaq [9] rfl) ?_)
    exact zbq (fdQ 2 rfl rfl rfl)
   ·
    intro vf pf hmu hR
    have e0 := hR 0 (by decide)
    refine dqQ [0] [0] rfl (zbu (sk 54 (congrArg some e0.1) (zag _)) (List.sublist_append_right _ _) ?_)
    exact zbq (zae rfl rfl rfl (zac 4 rfl rfl))
   ·
    intro vf pf hmu hR
    refine dqQ [] [] rfl (zbm (zaq [15] rfl) ?_)
    exact zbq (zaf rfl)
   ·
    intro vf pf hmu hR
    refine dqQ [] [] rfl (zbm (zaq [0] rfl) ?_)
    exact zbq (zaf rfl)
   ·
    intro vf pf hmu hR
    refine dqQ [] [] rfl (zbm (zaq [14] rfl) ?_)
    exact zbq (zaf rfl)
   ·
    intro vf pf hmu hR
    have e3 := hR 3 (by decide)
    have e4 := hR 4 (by decide)
    refine Or.inl ⟨rfl, ?_⟩
    show RunM _ _ _ (pf 11) (([3, 4] : List Nat).flatMap pf ++ _) (envOf _ vf [3, 4] ++ _) _ _
    rw [hmu]
    exact zcu (sk 57 (congrArg some e3.1) (sk 58 (congrArg some e4.1) (zag _))) (by simp only [e3.2, e4.2, fS] <;> rfl) (zdc (R := (fun u_ p_ => (∃ x_ : Int, u_ = .int .i64 x_ ∧ 0 ≤ x_ ∧ x_ < 2 * (((1 + (1 + xhR4)) + xhR8) + (i : Int))) ∧ p_ = curE g a len cap)) rfl rfl (fun L w hX hm => zbn g a len cap z (2 * (((1 + (1 + xhR4)) + xhR8) + (i : Int))) _ _ _ hm hb (by constructor <;> omega)))
   ·
    intro vf pf hmu hR
    have e2 := hR 2 (by decide)
    have e5 : (∃ pm_, (pf 5) = [pm_] ∧ (fun u_ p_ => (∃ x_ : Int, u_ = .int .i64 x_ ∧ 0 ≤ x_ ∧ x_ < 2 * (((1 + (1 + xhR4)) + xhR8) + (i : Int))) ∧ p_ = curE g a len cap) (vf 5) pm_) := hR 5 (by decide)
    obtain ⟨p18, pE5, hR19⟩ := e5
    obtain ⟨v17, vE5⟩ : ∃ x, vf 5 = x := ⟨_, rfl⟩
    rw [vE5] at hR19
    obtain ⟨⟨xhR19, rfl, xhR190, xhR191⟩, rfl⟩ := hR19
    refine dqQ [2, 5] [2, 5] rfl (zbt (sk 56 (congrArg some e2.1) (sk 59 (congrArg some vE5) (zag _))) (by simp only [pE5, vE5, e2.2, fS] <;> rfl) ?_)
    exact zbz (zbq (rv_build (cs := #[.int .i64 (((2 * (((1 + (1 + xhR4)) + xhR8) + (i : Int))) - 1) - xhR16), .int .i64 xhR19]) rfl rfl rfl)) (fun _ _ h => ⟨h.1.trans (by show _ = (.agg #[.int .i64 (((2 * (((1 + (1 + xhR4)) + xhR8) + (i : Int))) - 1) - xhR16), .int .i64 (intOf_o (vf 5))] : Value); first | (rw [vE5]; done) | (rw [vE5]; rfl)), h.2⟩)
   intro vf pf hmu hR
   have e5 : (∃ pm_, (pf 5) = [pm_] ∧ (fun u_ p_ => (∃ x_ : Int, u_ = .int .i64 x_ ∧ 0 ≤ x_ ∧ x_ < 2 * (((1 + (1 + xhR4)) + xhR8) + (i : Int))) ∧ p_ = curE g a len cap) (vf 5) pm_) := hR 5 (by decide)
   obtain ⟨p18, pE5, hR19⟩ := e5
   obtain ⟨v17, vE5⟩ : ∃ x, vf 5 = x := ⟨_, rfl⟩
   rw [vE5] at hR19
   obtain ⟨⟨xhR19, rfl, xhR190, xhR191⟩, rfl⟩ := hR19
   have e6 : (vf 6) = .agg #[.int .i64 (((2 * (((1 + (1 + xhR4)) + xhR8) + (i : Int))) - 1) - xhR16), .int .i64 (intOf_o (vf 5))] ∧ (pf 6) = [] := hR 6 (by decide)
   rw [vE5] at e6
   refine dqQ [5, 6] [5, 6] rfl (zbt (sk 60 (congrArg some e6.1) (zag _)) (by simp only [pE5, vE5, e6.2, fS] <;> rfl) ?_)
   exact zbz (zay (z := .agg #[.int .i64 0, .int .i64 0]) (s := 2) (cs := ([((2 * (((1 + (1 + xhR4)) + xhR8) + (i : Int))) - 1) - xhR16, xhR19].map (Value.int .i64))) rfl Try.underlying25 rfl (by decide) rfl (by kernel_rfl) rfl) (fun v_ p_ h => by show IsRow 66 2 1 ([((2 * (((1 + (1 + xhR4)) + xhR8) + (i : Int))) - 1) - xhR16, (intOf_o (vf 5))].map (Value.int .i64)) v_ p_; rw [vE5]; exact h)
  intro vf pf hmu hR
  have e1 := hR 1 (by decide)
  have e5 : (∃ pm_, (pf 5) = [pm_] ∧ (fun u_ p_ => (∃ x_ : Int, u_ = .int .i64 x_ ∧ 0 ≤ x_ ∧ x_ < 2 * (((1 + (1 + xhR4)) + xhR8) + (i : Int))) ∧ p_ = curE g a len cap) (vf 5) pm_) := hR 5 (by decide)
  obtain ⟨p18, pE5, hR19⟩ := e5
  obtain ⟨v17, vE5⟩ : ∃ x, vf 5 = x := ⟨_, rfl⟩
  rw [vE5] at hR19
  obtain ⟨⟨xhR19, rfl, xhR190, xhR191⟩, rfl⟩ := hR19
  have e7 : IsRow 66 2 1 ([((2 * (((1 + (1 + xhR4)) + xhR8) + (i : Int))) - 1) - xhR16, (intOf_o (vf 5))].map (Value.int .i64)) (vf 7) (pf 7) := hR 7 (by decide)
  rw [vE5] at e7
  obtain ⟨g20, vE7, pE7⟩ := e7
  have q0 := hR 0 (by decide)
  have q1 := hR 1 (by decide)
  have q2 := hR 2 (by decide)
  have q3 := hR 3 (by decide)
  have q4 := hR 4 (by decide)
  have q6 := hR 6 (by decide)
  refine zcy (zcc [39, 15, 14, 13, 12, 11, 10, 9, 8, 3, 2, 1, 0] _ (sk 55 (congrArg some e1.1) (sk 61 (congrArg some vE7) (zag _))) rfl) (by simp only [pE5, vE5, pE7, vE7, q0.2, q1.2, q2.2, q3.2, q4.2, q6.2, fS] <;> rfl) ?_
  simp only [List.drop_succ_cons, List.drop_zero]
  refine zck (i := 4) (z := .agg #[.int .i64 0, .int .i64 0]) (bytes := 16) rfl rfl rfl rfl Try.underlying25 (by kernel_rfl) rfl rfl rfl rfl (zao 1 rfl) (zbv _) (by first | omega | (simp only [List.length_append, List.length_cons, List.length_nil]; omega)) (zca gs [(An.mk (((2 * (((1 + (1 + xhR4)) + xhR8) + (i : Int))) - 1) - xhR16) xhR19)]) (flat_app1 anC gs (An.mk (((2 * (((1 + (1 + xhR4)) + xhR8) + (i : Int))) - 1) - xhR16) xhR19) _ rfl) (fun _ => rfl) ?_
  intro v21
  refine hvQ rfl (fdQ 2 rfl rfl rfl) (hl_one (i := 4) rfl (fun ho22 => ?_))
  refine hl_stB (i := 6) (cs' := #[.int .i64 (1 + xhR4), .slice none 0 0, v21, .slice none 0 0]) rfl rfl rfl rfl rfl rfl ho22 rfl rfl rfl rfl (zbw (zcj (reQ 1 rfl (hvQ rfl (vaQ rfl rfl rfl) (enQ 1 rfl ?_)))))
  refine zcb 8 [0, 7, 6, 5, 4, 3, 2] rfl rfl (by decide) ?_
  exact zbh (i + 1) v21 (gs ++ [(An.mk (((2 * (((1 + (1 + xhR4)) + xhR8) + (i : Int))) - 1) - xhR16) xhR19)]) ⟨by omega, by simp; omega, ans_app hgo (by unfold LtOk; omega) (by unfold LtOk; omega)⟩ (by omega) (saQ rfl) (.refl _)
 refine ntQ (zak rfl ?_)
 refine zbb (zda ?_)
 refine zad (zas (zab (reQ 2 rfl (hvQ rfl (vaQ rfl rfl rfl) (hvQ rfl (rv_mul rfl rfl rfl (by constructor <;> omega)) (zbf 1 rfl (zab (zab (reQ 1 rfl ?_)))))))))
 refine ntQ (zau ?_)
 refine lkQ3 (α := Nat) (β := Value) (γ := List Sq) [0, 1, 2, 3, 8, 9, 10, 11, 12, 16, 39] rfl (fun i uq ss => (bigE (ss.map sqPart) :: rowE 43 3 uq ss.length (ss.flatMap sqC) :: rowE 66 2 u gs.length (gs.flatMap anC) :: rowE 3 1 (.slice none 0 0) 0 ([]) :: boxE b5 #[.int .i64 (1 + xhR4), uq, u, .slice none 0 0] 28 :: boxE b1 #[.int .i64 0, .slice none 0 0, .slice none 0 0, .slice none 0 0] 28 :: curE g a len cap :: l)) (fun i uq ss => [(17, .int .i64 (i : Int))]) (fun i uq ss => (i : Int) ≤ xhR8 ∧ ss.length = i ∧ SqsOk (((1 + (1 + xhR4)) + xhR8) + xhR11) ss) (fun i uq ss => (xhR8).toNat - i) 0 _ [] ⟨by omega, rfl, fun k hk => absurd hk (by simp)⟩ (saQ rfl) (.refl _) ?_
 intro i uq ss hi23
 obtain ⟨hi2, hsl, hso⟩ := hi23
 refine zab (zab (reQ 2 rfl ?_))
 refine zbk rfl rfl rfl rfl rfl rfl (fun h24 => ?_) (fun h24 => ?_)
 ·
  refine ntQ (zan rfl (zch (sbQ (zab (reQ 1 rfl ?_)))))
  refine zbp (R := (fun u_ p_ => (∃ b : Bool, u_ = .bool b) ∧ p_ = curE g a len cap)) 6 rfl rfl rfl rfl rfl (fun l' w hm => zef hm hb (6) (by omega) (by omega)) ?_
  intro v25 p26 hR27
  obtain ⟨⟨xhR27, rfl⟩, rfl⟩ := hR27
  refine zcd (l' := (bigE (ss.map sqPart) :: rowE 43 3 uq ss.length (ss.flatMap sqC) :: rowE 66 2 u gs.length (gs.flatMap anC) :: rowE 3 1 (.slice none 0 0) 0 ([]) :: boxE b5 #[.int .i64 (1 + xhR4), uq, u, .slice none 0 0] 28 :: boxE b1 #[.int .i64 0, .slice none 0 0, .slice none 0 0, .slice none 0 0] 28 :: curE g a len cap :: l)) rfl ?_
  refine zbo (fun h28 => ?_) (fun h28 => ?_)
  ·
   refine ntQ (zan rfl ?_)
   refine hc_pick 7 [5, 4, 3, 2, 1, 0, 6] rfl rfl (by decide) ?_
   refine hc_draw2 (l := (bigE (ss.map sqPart) :: rowE 43 3 uq ss.length (ss.flatMap sqC) :: rowE 66 2 u gs.length (gs.flatMap anC) :: rowE 3 1 (.slice none 0 0) 0 ([]) :: boxE b5 #[.int .i64 (1 + xhR4), uq, u, .slice none 0 0] 28 :: boxE b1 #[.int .i64 0, .slice none 0 0, .slice none 0 0, .slice none 0 0] 28 :: l)) rfl 19 [0, 1, 2, 3, 4, 5, 6, 7, 8, 9, 10, 11, 12, 13, 14, 15, 16, 17, 18] (List.take 19 _) (List.drop 19 _) [[], [0], [], [2], [], [], [3, 4, 5], [], [], [6, 7, 8], [], [], [9, 10, 11], [], [], [12, 13, 14], [6, 9, 12, 15], [3, 6, 9, 12, 15, 16], [3, 6, 9, 12, 15, 16, 17]] [75, 76, 77, 78, 79, 80, 81, 82, 83, 84, 85, 86, 87, 88, 89, 90, 91, 92, 93] (fun i_ vs_ v_ p_ => match i_ with | 0 => v_ = .pointer (some ⟨b5, 0 + 1, none⟩) ∧ p_ = [] | 1 => v_ = uq ∧ p_ = [] | 2 => v_ = .pointer (some ⟨g, 0, none⟩) ∧ p_ = [] | 3 => (∃ pm_, p_ = [pm_] ∧ (fun u_ p_ => (∃ x_ : Int, u_ = .int .i64 x_ ∧ 0 ≤ x_ ∧ x_ < 32) ∧ p_ = curE g a len cap) v_ pm_) | 4 => v_ = .pointer (some ⟨g, 0, none⟩) ∧ p_ = [] | 5 => v_ = .int .i64 (2 * (((1 + (1 + xhR4)) + xhR8) + xhR11)) ∧ p_ = [] | 6 => (∃ pm_, p_ = [pm_] ∧ (fun u_ p_ => (∃ x_ : Int, u_ = .int .i64 x_ ∧ 0 ≤ x_ ∧ x_ < 2 * (((1 + (1 + xhR4)) + xhR8) + xhR11)) ∧ p_ = curE g a len cap) v_ pm_) | 7 => v_ = .pointer (some ⟨g, 0, none⟩) ∧ p_ = [] | 8 => v_ = .int .i64 (2 * (((1 + (1 + xhR4)) + xhR8) + xhR11)) ∧ p_ = [] | 9 => (∃ pm_, p_ = [pm_] ∧ (fun u_ p_ => (∃ x_ : Int, u_ = .int .i64 x_ ∧ 0 ≤ x_ ∧ x_ < 2 * (((1 + (1 + xhR4)) + xhR8) + xhR11)) ∧ p_ = curE g a len cap) v_ pm_) | 10 => v_ = .pointer (some ⟨g, 0, none⟩) ∧ p_ = [] | 11 => v_ = .int .i64 (2 * (((1 + (1 + xhR4)) + xhR8) + xhR11)) ∧ p_ = [] | 12 => (∃ pm_, p_ = [pm_] ∧ (fun u_ p_ => (∃ x_ : Int, u_ = .int .i64 x_ ∧ 0 ≤ x_ ∧ x_ < 2 * (((1 + (1 + xhR4)) + xhR8) + xhR11)) ∧ p_ = curE g a len cap) v_ pm_) | 13 => v_ = .pointer (some ⟨g, 0, none⟩) ∧ p_ = [] | 14 => v_ = .int .i64 (2 * (((1 + (1 + xhR4)) + xhR8) + xhR11)) ∧ p_ = [] | 15 => (∃ pm_, p_ = [pm_] ∧ (fun u_ p_ => (∃ x_ : Int, u_ = .int .i64 x_ ∧ 0 ≤ x_ ∧ x_ < 2 * (((1 + (1 + xhR4)) + xhR8) + xhR11)) ∧ p_ = curE g a len cap) v_ pm_) | 16 => IsRow 3 1 4 ([(intOf_o (List.getD vs_ 0 undef)), (intOf_o (List.getD vs_ 1 undef)), (intOf_o (List.getD vs_ 2 undef)), (intOf_o (List.getD vs_ 3 undef))].map (Value.int .i64)) v_ p_ | 17 => v_ = .agg #[.int .i64 1, .int .i64 (intOf_o (List.getD vs_ 0 undef)), (List.getD vs_ 5 undef)] ∧ p_ = [] | 18 => IsRow 43 3 1 ([.int .i64 1, .int .i64 (intOf_o (List.getD vs_ 0 undef)), (List.getD vs_ 5 undef)]) v_ p_ | _ => True) [[], [0], [], [2], [], [], [4, 5], [], [], [7, 8], [], [], [10, 11], [], [], [13, 14], [15], [15, 16], [15, 16, 17]] [none, none, none, some 22, none, none, some 3, none, none, some 6, none, none, some 9, none, none, some 12, none, none, none] [curE g a len cap] [0, 1, 2, 4, 5, 7, 8, 10, 11, 13, 14, 15, 16, 17, 18] 22 (List.take_append_drop 19 _).symm (by kernel_rfl) (by kernel_rfl) (by kernel_rfl) rfl rfl ?_ ?_
   ·
    refine ⟨?_, ?_, ?_, ?_, ?_, ?_, ?_, ?_, ?_, ?_, ?_, ?_, ?_, ?_, ?_, ?_, ?_, ?_, ?_, trivial⟩
    ·
     intro vf pf hmu hR
     refine dqQ [] [] rfl (zbm (zaq [9] rfl) ?_)
     exact zbq (fdQ 1 rfl rfl rfl)
    ·
     intro vf pf hmu hR
     have e0 := hR 0 (by decide)
     refine dqQ [0] [0] rfl (zbu (sk 75 (congrArg some e0.1) (zag _)) (List.sublist_append_right _ _) ?_)
     exact zbq (zae rfl rfl rfl (zac 4 rfl rfl))
    ·
     intro vf pf hmu hR
     refine dqQ [] [] rfl (zbm (zaq [0] rfl) ?_)
     exact zbq (zaf rfl)
    ·
     intro vf pf hmu hR
     have e2 := hR 2 (by decide)
     refine Or.inl ⟨rfl, ?_⟩
     show RunM _ _ _ (pf 22) (([2] : List Nat).flatMap pf ++ _) (envOf _ vf [2] ++ _) _ _
     rw [hmu]
     exact zcu (sk 77 (congrArg some e2.1) (zag _)) (by simp only [e2.2, fS] <;> rfl) (zdc (R := (fun u_ p_ => (∃ x_ : Int, u_ = .int .i64 x_ ∧ 0 ≤ x_ ∧ x_ < 32) ∧ p_ = curE g a len cap)) rfl rfl (fun L w hX hm => zbn g a len cap z 32 _ _ _ hm hb (by constructor <;> omega)))
    ·
     intro vf pf hmu hR
     refine dqQ [] [] rfl (zbm (zaq [0] rfl) ?_)
     exact zbq (zaf rfl)
    ·
     intro vf pf hmu hR
     refine dqQ [] [] rfl (zbm (zaq [16] rfl) ?_)
     exact zbq (zaf rfl)
    ·
     intro vf pf hmu hR
     have e3 : (∃ pm_, (pf 3) = [pm_] ∧ (fun u_ p_ => (∃ x_ : Int, u_ = .int .i64 x_ ∧ 0 ≤ x_ ∧ x_ < 32) ∧ p_ = curE g a len cap) (vf 3) pm_) := hR 3 (by decide)
     obtain ⟨p30, pE3, hR31⟩ := e3
     obtain ⟨v29, vE3⟩ : ∃ x, vf 3 = x := ⟨_, rfl⟩
     rw [vE3] at hR31
     obtain ⟨⟨xhR31, rfl, xhR310, xhR311⟩, rfl⟩ := hR31
     have e4 := hR 4 (by decide)
     have e5 := hR 5 (by decide)
     refine Or.inl ⟨rfl, ?_⟩
     show RunM _ _ _ (pf 3) (([4, 5] : List Nat).flatMap pf ++ _) (envOf _ vf [3, 4, 5] ++ _) _ _
     rw [pE3]
     exact zcu (sk 79 (congrArg some e4.1) (sk 80 (congrArg some e5.1) (zag _))) (by simp only [e4.2, e5.2, fS] <;> rfl) (zdc (R := (fun u_ p_ => (∃ x_ : Int, u_ = .int .i64 x_ ∧ 0 ≤ x_ ∧ x_ < 2 * (((1 + (1 + xhR4)) + xhR8) + xhR11)) ∧ p_ = curE g a len cap)) rfl rfl (fun L w hX hm => zbn g a len cap z (2 * (((1 + (1 + xhR4)) + xhR8) + xhR11)) _ _ _ hm hb (by constructor <;> omega)))
    ·
     intro vf pf hmu hR
     refine dqQ [] [] rfl (zbm (zaq [0] rfl) ?_)
     exact zbq (zaf rfl)
    ·
     intro vf pf hmu hR
     refine dqQ [] [] rfl (zbm (zaq [16] rfl) ?_)
     exact zbq (zaf rfl)
    ·
     intro vf pf hmu hR
     have e6 : (∃ pm_, (pf 6) = [pm_] ∧ (fun u_ p_ => (∃ x_ : Int, u_ = .int .i64 x_ ∧ 0 ≤ x_ ∧ x_ < 2 * (((1 + (1 + xhR4)) + xhR8) + xhR11)) ∧ p_ = curE g a len cap) (vf 6) pm_) := hR 6 (by decide)
     obtain ⟨p33, pE6, hR34⟩ := e6
     obtain ⟨v32, vE6⟩ : ∃ x, vf 6 = x := ⟨_, rfl⟩
     rw [vE6] at hR34
     obtain ⟨⟨xhR34, rfl, xhR340, xhR341⟩, rfl⟩ := hR34
     have e7 := hR 7 (by decide)
     have e8 := hR 8 (by decide)
     refine Or.inl ⟨rfl, ?_⟩
     show RunM _ _ _ (pf 6) (([7, 8] : List Nat).flatMap pf ++ _) (envOf _ vf [6, 7, 8] ++ _) _ _
     rw [pE6]
     exact zcu (sk 82 (congrArg some e7.1) (sk 83 (congrArg some e8.1) (zag _))) (by simp only [e7.2, e8.2, fS] <;> rfl) (zdc (R := (fun u_ p_ => (∃ x_ : Int, u_ = .int .i64 x_ ∧ 0 ≤ x_ ∧ x_ < 2 * (((1 + (1 + xhR4)) + xhR8) + xhR11)) ∧ p_ = curE g a len cap)) rfl rfl (fun L w hX hm => zbn g a len cap z (2 * (((1 + (1 + xhR4)) + xhR8) + xhR11)) _ _ _ hm hb (by constructor <;> omega)))
    ·
     intro vf pf hmu hR
     refine dqQ [] [] rfl (zbm (zaq [0] rfl) ?_)
     exact zbq (zaf rfl)
    ·
     intro vf pf hmu hR
     refine dqQ [] [] rfl (zbm (zaq [16] rfl) ?_)
     exact zbq (zaf rfl)
    ·
     intro vf pf hmu hR
     have e9 : (∃ pm_, (pf 9) = [pm_] ∧ (fun u_ p_ => (∃ x_ : Int, u_ = .int .i64 x_ ∧ 0 ≤ x_ ∧ x_ < 2 * (((1 + (1 + xhR4)) + xhR8) + xhR11)) ∧ p_ = curE g a len cap) (vf 9) pm_) := hR 9 (by decide)
     obtain ⟨p36, pE9, hR37⟩ := e9
     obtain ⟨v35, vE9⟩ : ∃ x, vf 9 = x := ⟨_, rfl⟩
     rw [vE9] at hR37
     obtain ⟨⟨xhR37, rfl, xhR370, xhR371⟩, rfl⟩ := hR37
     have e10 := hR 10 (by decide)
     have e11 := hR 11 (by decide)
     refine Or.inl ⟨rfl, ?_⟩
     show RunM _ _ _ (pf 9) (([10, 11] : List Nat).flatMap pf ++ _) (envOf _ vf [9, 10, 11] ++ _) _ _
     rw [pE9]
     exact zcu (sk 85 (congrArg some e10.1) (sk 86 (congrArg some e11.1) (zag _))) (by simp only [e10.2, e11.2, fS] <;> rfl) (zdc (R := (fun u_ p_ => (∃ x_ : Int, u_ = .int .i64 x_ ∧ 0 ≤ x_ ∧ x_ < 2 * (((1 + (1 + xhR4)) + xhR8) + xhR11)) ∧ p_ = curE g a len cap)) rfl rfl (fun L w hX hm => zbn g a len cap z (2 * (((1 + (1 + xhR4)) + xhR8) + xhR11)) _ _ _ hm hb (by constructor <;> omega)))
    ·
     intro vf pf hmu hR
     refine dqQ [] [] rfl (zbm (zaq [0] rfl) ?_)
     exact zbq (zaf rfl)
    ·
     intro vf pf hmu hR
     refine dqQ [] [] rfl (zbm (zaq [16] rfl) ?_)
     exact zbq (zaf rfl)
    ·
     intro vf pf hmu hR
     have e12 : (∃ pm_, (pf 12) = [pm_] ∧ (fun u_ p_ => (∃ x_ : Int, u_ = .int .i64 x_ ∧ 0 ≤ x_ ∧ x_ < 2 * (((1 + (1 + xhR4)) + xhR8) + xhR11)) ∧ p_ = curE g a len cap) (vf 12) pm_) := hR 12 (by decide)
     obtain ⟨p39, pE12, hR40⟩ := e12
     obtain ⟨v38, vE12⟩ : ∃ x, vf 12 = x := ⟨_, rfl⟩
     rw [vE12] at hR40
     obtain ⟨⟨xhR40, rfl, xhR400, xhR401⟩, rfl⟩ := hR40
     have e13 := hR 13 (by decide)
     have e14 := hR 14 (by decide)
     refine Or.inl ⟨rfl, ?_⟩
     show RunM _ _ _ (pf 12) (([13, 14] : List Nat).flatMap pf ++ _) (envOf _ vf [12, 13, 14] ++ _) _ _
     rw [pE12]
     exact zcu (sk 88 (congrArg some e13.1) (sk 89 (congrArg some e14.1) (zag _))) (by simp only [e13.2, e14.2, fS] <;> rfl) (zdc (R := (fun u_ p_ => (∃ x_ : Int, u_ = .int .i64 x_ ∧ 0 ≤ x_ ∧ x_ < 2 * (((1 + (1 + xhR4)) + xhR8) + xhR11)) ∧ p_ = curE g a len cap)) rfl rfl (fun L w hX hm => zbn g a len cap z (2 * (((1 + (1 + xhR4)) + xhR8) + xhR11)) _ _ _ hm hb (by constructor <;> omega)))
    ·
     intro vf pf hmu hR
     have e6 : (∃ pm_, (pf 6) = [pm_] ∧ (fun u_ p_ => (∃ x_ : Int, u_ = .int .i64 x_ ∧ 0 ≤ x_ ∧ x_ < 2 * (((1 + (1 + xhR4)) + xhR8) + xhR11)) ∧ p_ = curE g a len cap) (vf 6) pm_) := hR 6 (by decide)
     obtain ⟨p33, pE6, hR34⟩ := e6
     obtain ⟨v32, vE6⟩ : ∃ x, vf 6 = x := ⟨_, rfl⟩
     rw [vE6] at hR34
     obtain ⟨⟨xhR34, rfl, xhR340, xhR341⟩, rfl⟩ := hR34
     have e9 : (∃ pm_, (pf 9) = [pm_] ∧ (fun u_ p_ => (∃ x_ : Int, u_ = .int .i64 x_ ∧ 0 ≤ x_ ∧ x_ < 2 * (((1 + (1 + xhR4)) + xhR8) + xhR11)) ∧ p_ = curE g a len cap) (vf 9) pm_) := hR 9 (by decide)
     obtain ⟨p36, pE9, hR37⟩ := e9
     obtain ⟨v35, vE9⟩ : ∃ x, vf 9 = x := ⟨_, rfl⟩
     rw [vE9] at hR37
     obtain ⟨⟨xhR37, rfl, xhR370, xhR371⟩, rfl⟩ := hR37
     have e12 : (∃ pm_, (pf 12) = [pm_] ∧ (fun u_ p_ => (∃ x_ : Int, u_ = .int .i64 x_ ∧ 0 ≤ x_ ∧ x_ < 2 * (((1 + (1 + xhR4)) + xhR8) + xhR11)) ∧ p_ = curE g a len cap) (vf 12) pm_) := hR 12 (by decide)
     obtain ⟨p39, pE12, hR40⟩ := e12
     obtain ⟨v38, vE12⟩ : ∃ x, vf 12 = x := ⟨_, rfl⟩
     rw [vE12] at hR40
     obtain ⟨⟨xhR40, rfl, xhR400, xhR401⟩, rfl⟩ := hR40
     have e15 : (∃ pm_, (pf 15) = [pm_] ∧ (fun u_ p_ => (∃ x_ : Int, u_ = .int .i64 x_ ∧ 0 ≤ x_ ∧ x_ < 2 * (((1 + (1 + xhR4)) + xhR8) + xhR11)) ∧ p_ = curE g a len cap) (vf 15) pm_) := hR 15 (by decide)
     obtain ⟨p42, pE15, hR43⟩ := e15
     obtain ⟨v41, vE15⟩ : ∃ x, vf 15 = x := ⟨_, rfl⟩
     rw [vE15] at hR43
     obtain ⟨⟨xhR43, rfl, xhR430, xhR431⟩, rfl⟩ := hR43
     refine dqQ [15] [6, 9, 12, 15] rfl (zbt (sk 81 (congrArg some vE6) (sk 84 (congrArg some vE9) (sk 87 (congrArg some vE12) (sk 90 (congrArg some vE15) (zag _))))) (by simp only [pE15, vE15, fS] <;> rfl) ?_)
     exact zbz (zay (z := .int .i64 0) (s := 1) (cs := ([xhR34, xhR37, xhR40, xhR43].map (Value.int .i64))) rfl Try.underlying26 rfl (by decide) rfl (by kernel_rfl) rfl) (fun v_ p_ h => by show IsRow 3 1 4 ([(intOf_o (vf 6)), (intOf_o (vf 9)), (intOf_o (vf 12)), (intOf_o (vf 15))].map (Value.int .i64)) v_ p_; rw [vE6, vE9, vE12, vE15]; exact h)
    ·
     intro vf pf hmu hR
     have e3 : (∃ pm_, (pf 3) = [pm_] ∧ (fun u_ p_ => (∃ x_ : Int, u_ = .int .i64 x_ ∧ 0 ≤ x_ ∧ x_ < 32) ∧ p_ = curE g a len cap) (vf 3) pm_) := hR 3 (by decide)
     obtain ⟨p30, pE3, hR31⟩ := e3
     obtain ⟨v29, vE3⟩ : ∃ x, vf 3 = x := ⟨_, rfl⟩
     rw [vE3] at hR31
     obtain ⟨⟨xhR31, rfl, xhR310, xhR311⟩, rfl⟩ := hR31
     have e6 : (∃ pm_, (pf 6) = [pm_] ∧ (fun u_ p_ => (∃ x_ : Int, u_ = .int .i64 x_ ∧ 0 ≤ x_ ∧ x_ < 2 * (((1 + (1 + xhR4)) + xhR8) + xhR11)) ∧ p_ = curE g a len cap) (vf 6) pm_) := hR 6 (by decide)
     obtain ⟨p33, pE6, hR34⟩ := e6
     obtain ⟨v32, vE6⟩ : ∃ x, vf 6 = x := ⟨_, rfl⟩
     rw [vE6] at hR34
     obtain ⟨⟨xhR34, rfl, xhR340, xhR341⟩, rfl⟩ := hR34
     have e9 : (∃ pm_, (pf 9) = [pm_] ∧ (fun u_ p_ => (∃ x_ : Int, u_ = .int .i64 x_ ∧ 0 ≤ x_ ∧ x_ < 2 * (((1 + (1 + xhR4)) + xhR8) + xhR11)) ∧ p_ = curE g a len cap) (vf 9) pm_) := hR 9 (by decide)
     obtain ⟨p36, pE9, hR37⟩ := e9
     obtain ⟨v35, vE9⟩ : ∃ x, vf 9 = x := ⟨_, rfl⟩
     rw [vE9] at hR37
     obtain ⟨⟨xhR37, rfl, xhR370, xhR371⟩, rfl⟩ := hR37
     have e12 : (∃ pm_, (pf 12) = [pm_] ∧ (fun u_ p_ => (∃ x_ : Int, u_ = .int .i64 x_ ∧ 0 ≤ x_ ∧ x_ < 2 * (((1 + (1 + xhR4)) + xhR8) + xhR11)) ∧ p_ = curE g a len cap) (vf 12) pm_) := hR 12 (by decide)
     obtain ⟨p39, pE12, hR40⟩ := e12
     obtain ⟨v38, vE12⟩ : ∃ x, vf 12 = x := ⟨_, rfl⟩
     rw [vE12] at hR40
     obtain ⟨⟨xhR40, rfl, xhR400, xhR401⟩, rfl⟩ := hR40
     have e15 : (∃ pm_, (pf 15) = [pm_] ∧ (fun u_ p_ => (∃ x_ : Int, u_ = .int .i64 x_ ∧ 0 ≤ x_ ∧ x_ < 2 * (((1 + (1 + xhR4)) + xhR8) + xhR11)) ∧ p_ = curE g a len cap) (vf 15) pm_) := hR 15 (by decide)
     obtain ⟨p42, pE15, hR43⟩ := e15
     obtain ⟨v41, vE15⟩ : ∃ x, vf 15 = x := ⟨_, rfl⟩
     rw [vE15] at hR43
     obtain ⟨⟨xhR43, rfl, xhR430, xhR431⟩, rfl⟩ := hR43
     have e16 : IsRow 3 1 4 ([(intOf_o (vf 6)), (intOf_o (vf 9)), (intOf_o (vf 12)), (intOf_o (vf 15))].map (Value.int .i64)) (vf 16) (pf 16) := hR 16 (by decide)
     rw [vE6, vE9, vE12, vE15] at e16
     obtain ⟨g44, vE16, pE16⟩ := e16
     refine dqQ [15, 16] [3, 6, 9, 12, 15, 16] rfl (zbt (sk 78 (congrArg some vE3) (sk 91 (congrArg some vE16) (zag _))) (by simp only [pE15, vE15, pE16, vE16, fS] <;> rfl) ?_)
     exact zbz (zbq (rv_build (cs := #[.int .i64 1, .int .i64 xhR31, .slice (some ⟨g44, 0, none⟩) 4 4]) rfl rfl rfl)) (fun _ _ h => ⟨h.1.trans (by show _ = (.agg #[.int .i64 1, .int .i64 (intOf_o (vf 3)), (vf 16)] : Value); first | (rw [vE3, vE16]; done) | (rw [vE3, vE16]; rfl)), h.2⟩)
    intro vf pf hmu hR
    have e3 : (∃ pm_, (pf 3) = [pm_] ∧ (fun u_ p_ => (∃ x_ : Int, u_ = .int .i64 x_ ∧ 0 ≤ x_ ∧ x_ < 32) ∧ p_ = curE g a len cap) (vf 3) pm_) := hR 3 (by decide)
    obtain ⟨p30, pE3, hR31⟩ := e3
    obtain ⟨v29, vE3⟩ : ∃ x, vf 3 = x := ⟨_, rfl⟩
    rw [vE3] at hR31
    obtain ⟨⟨xhR31, rfl, xhR310, xhR311⟩, rfl⟩ := hR31
    have e6 : (∃ pm_, (pf 6) = [pm_] ∧ (fun u_ p_ => (∃ x_ : Int, u_ = .int .i64 x_ ∧ 0 ≤ x_ ∧ x_ < 2 * (((1 + (1 + xhR4)) + xhR8) + xhR11)) ∧ p_ = curE g a len cap) (vf 6) pm_) := hR 6 (by decide)
    obtain ⟨p33, pE6, hR34⟩ := e6
    obtain ⟨v32, vE6⟩ : ∃ x, vf 6 = x := ⟨_, rfl⟩
    rw [vE6] at hR34
    obtain ⟨⟨xhR34, rfl, xhR340, xhR341⟩, rfl⟩ := hR34
    have e9 : (∃ pm_, (pf 9) = [pm_] ∧ (fun u_ p_ => (∃ x_ : Int, u_ = .int .i64 x_ ∧ 0 ≤ x_ ∧ x_ < 2 * (((1 + (1 + xhR4)) + xhR8) + xhR11)) ∧ p_ = curE g a len cap) (vf 9) pm_) := hR 9 (by decide)
    obtain ⟨p36, pE9, hR37⟩ := e9
    obtain ⟨v35, vE9⟩ : ∃ x, vf 9 = x := ⟨_, rfl⟩
    rw [vE9] at hR37
    obtain ⟨⟨xhR37, rfl, xhR370, xhR371⟩, rfl⟩ := hR37
    have e12 : (∃ pm_, (pf 12) = [pm_] ∧ (fun u_ p_ => (∃ x_ : Int, u_ = .int .i64 x_ ∧ 0 ≤ x_ ∧ x_ < 2 * (((1 + (1 + xhR4)) + xhR8) + xhR11)) ∧ p_ = curE g a len cap) (vf 12) pm_) := hR 12 (by decide)
    obtain ⟨p39, pE12, hR40⟩ := e12
    obtain ⟨v38, vE12⟩ : ∃ x, vf 12 = x := ⟨_, rfl⟩
    rw [vE12] at hR40
    obtain ⟨⟨xhR40, rfl, xhR400, xhR401⟩, rfl⟩ := hR40
    have e15 : (∃ pm_, (pf 15) = [pm_] ∧ (fun u_ p_ => (∃ x_ : Int, u_ = .int .i64 x_ ∧ 0 ≤ x_ ∧ x_ < 2 * (((1 + (1 + xhR4)) + xhR8) + xhR11)) ∧ p_ = curE g a len cap) (vf 15) pm_) := hR 15 (by decide)
    obtain ⟨p42, pE15, hR43⟩ := e15
    obtain ⟨v41, vE15⟩ : ∃ x, vf 15 = x := ⟨_, rfl⟩
    rw [vE15] at hR43
    obtain ⟨⟨xhR43, rfl, xhR430, xhR431⟩, rfl⟩ := hR43
    have e16 : IsRow 3 1 4 ([(intOf_o (vf 6)), (intOf_o (vf 9)), (intOf_o (vf 12)), (intOf_o (vf 15))].map (Value.int .i64)) (vf 16) (pf 16) := hR 16 (by decide)
    rw [vE6, vE9, vE12, vE15] at e16
    obtain ⟨g44, vE16, pE16⟩ := e16
    have e17 : (vf 17) = .agg #[.int .i64 1, .int .i64 (intOf_o (vf 3)), (vf 16)] ∧ (pf 17) = [] := hR 17 (by decide)
    rw [vE3, vE16] at e17
    refine dqQ [15, 16, 17] [3, 6, 9, 12, 15, 16, 17] rfl (zbt (sk 92 (congrArg some e17.1) (zag _)) (by simp only [pE15, vE15, pE16, vE16, e17.2, fS] <;> rfl) ?_)
    exact zbz (zay (z := .agg #[.int .i64 0, .int .i64 0, .slice none 0 0]) (s := 3) (cs := [.int .i64 1, .int .i64 xhR31, .slice (some ⟨g44, 0, none⟩) 4 4]) rfl Try.underlying24 rfl (by decide) rfl (by kernel_rfl) rfl) (fun v_ p_ h => by show IsRow 43 3 1 ([.int .i64 1, .int .i64 (intOf_o (vf 3)), (vf 16)]) v_ p_; rw [vE3, vE16]; exact h)
   intro vf pf hmu hR
   have e1 := hR 1 (by decide)
   have e3 : (∃ pm_, (pf 3) = [pm_] ∧ (fun u_ p_ => (∃ x_ : Int, u_ = .int .i64 x_ ∧ 0 ≤ x_ ∧ x_ < 32) ∧ p_ = curE g a len cap) (vf 3) pm_) := hR 3 (by decide)
   obtain ⟨p30, pE3, hR31⟩ := e3
   obtain ⟨v29, vE3⟩ : ∃ x, vf 3 = x := ⟨_, rfl⟩
   rw [vE3] at hR31
   obtain ⟨⟨xhR31, rfl, xhR310, xhR311⟩, rfl⟩ := hR31
   have e6 : (∃ pm_, (pf 6) = [pm_] ∧ (fun u_ p_ => (∃ x_ : Int, u_ = .int .i64 x_ ∧ 0 ≤ x_ ∧ x_ < 2 * (((1 + (1 + xhR4)) + xhR8) + xhR11)) ∧ p_ = curE g a len cap) (vf 6) pm_) := hR 6 (by decide)
   obtain ⟨p33, pE6, hR34⟩ := e6
   obtain ⟨v32, vE6⟩ : ∃ x, vf 6 = x := ⟨_, rfl⟩
   rw [vE6] at hR34
   obtain ⟨⟨xhR34, rfl, xhR340, xhR341⟩, rfl⟩ := hR34
   have e9 : (∃ pm_, (pf 9) = [pm_] ∧ (fun u_ p_ => (∃ x_ : Int, u_ = .int .i64 x_ ∧ 0 ≤ x_ ∧ x_ < 2 * (((1 + (1 + xhR4)) + xhR8) + xhR11)) ∧ p_ = curE g a len cap) (vf 9) pm_) := hR 9 (by decide)
   obtain ⟨p36, pE9, hR37⟩ := e9
   obtain ⟨v35, vE9⟩ : ∃ x, vf 9 = x := ⟨_, rfl⟩
   rw [vE9] at hR37
   obtain ⟨⟨xhR37, rfl, xhR370, xhR371⟩, rfl⟩ := hR37
   have e12 : (∃ pm_, (pf 12) = [pm_] ∧ (fun u_ p_ => (∃ x_ : Int, u_ = .int .i64 x_ ∧ 0 ≤ x_ ∧ x_ < 2 * (((1 + (1 + xhR4)) + xhR8) + xhR11)) ∧ p_ = curE g a len cap) (vf 12) pm_) := hR 12 (by decide)
   obtain ⟨p39, pE12, hR40⟩ := e12
   obtain ⟨v38, vE12⟩ : ∃ x, vf 12 = x := ⟨_, rfl⟩
   rw [vE12] at hR40
   obtain ⟨⟨xhR40, rfl, xhR400, xhR401⟩, rfl⟩ := hR40
   have e15 : (∃ pm_, (pf 15) = [pm_] ∧ (fun u_ p_ => (∃ x_ : Int, u_ = .int .i64 x_ ∧ 0 ≤ x_ ∧ x_ < 2 * (((1 + (1 + xhR4)) + xhR8) + xhR11)) ∧ p_ = curE g a len cap) (vf 15) pm_) := hR 15 (by decide)
   obtain ⟨p42, pE15, hR43⟩ := e15
   obtain ⟨v41, vE15⟩ : ∃ x, vf 15 = x := ⟨_, rfl⟩
   rw [vE15] at hR43
   obtain ⟨⟨xhR43, rfl, xhR430, xhR431⟩, rfl⟩ := hR43
   have e16 : IsRow 3 1 4 ([(intOf_o (vf 6)), (intOf_o (vf 9)), (intOf_o (vf 12)), (intOf_o (vf 15))].map (Value.int .i64)) (vf 16) (pf 16) := hR 16 (by decide)
   rw [vE6, vE9, vE12, vE15] at e16
   obtain ⟨g44, vE16, pE16⟩ := e16
   have e18 : IsRow 43 3 1 ([.int .i64 1, .int .i64 (intOf_o (vf 3)), (vf 16)]) (vf 18) (pf 18) := hR 18 (by decide)
   rw [vE3, vE16] at e18
   obtain ⟨g45, vE18, pE18⟩ := e18
   have q0 := hR 0 (by decide)
   have q1 := hR 1 (by decide)
   have q2 := hR 2 (by decide)
   have q4 := hR 4 (by decide)
   have q5 := hR 5 (by decide)
   have q7 := hR 7 (by decide)
   have q8 := hR 8 (by decide)
   have q10 := hR 10 (by decide)
   have q11 := hR 11 (by decide)
   have q13 := hR 13 (by decide)
   have q14 := hR 14 (by decide)
   have q17 := hR 17 (by decide)
   refine zcy (zcc [74, 70, 39, 17, 16, 12, 11, 10, 9, 8, 3, 2, 1, 0] _ (sk 76 (congrArg some e1.1) (sk 93 (congrArg some vE18) (zag _))) rfl) (by simp only [pE15, vE15, pE16, vE16, pE18, vE18, q0.2, q1.2, q2.2, q4.2, q5.2, q7.2, q8.2, q10.2, q11.2, q13.2, q14.2, q17.2, fS] <;> rfl) ?_
   simp only [List.drop_succ_cons, List.drop_zero]
   refine zck (i := 4) (z := .agg #[.int .i64 0, .int .i64 0, .slice none 0 0]) (bytes := 40) rfl rfl rfl rfl Try.underlying24 (by kernel_rfl) rfl rfl rfl rfl (zao 2 rfl) (by simp [Value.oneCell']) (by first | omega | (simp only [List.length_append, List.length_cons, List.length_nil]; omega)) (zca ss [(Sq.mk 1 xhR31 (.slice (some ⟨g44, 0, none⟩) 4 4) ([xhR34, xhR37, xhR40, xhR43]))]) (flat_app1 sqC ss (Sq.mk 1 xhR31 (.slice (some ⟨g44, 0, none⟩) 4 4) ([xhR34, xhR37, xhR40, xhR43])) _ rfl) (fun _ => rfl) ?_
   intro v46
   refine hvQ rfl (fdQ 1 rfl rfl rfl) (hl_one (i := 4) rfl (fun ho47 => ?_))
   refine hl_stB (i := 7) (cs' := #[.int .i64 (1 + xhR4), v46, u, .slice none 0 0]) rfl rfl rfl rfl rfl rfl ho47 rfl rfl rfl rfl (zbw (zcj (reQ 1 rfl (hvQ rfl (vaQ rfl rfl rfl) (enQ 1 rfl ?_)))))
   refine zcb 9 [8, 7, 6, 5, 4, 2, 0, 1, 3] rfl rfl (by decide) ?_
   refine hq_conv (bigE ((ss ++ [(Sq.mk 1 xhR31 (.slice (some ⟨g44, 0, none⟩) 4 4) ([xhR34, xhR37, xhR40, xhR43]))]).map sqPart) :: curE g a len cap :: rowE 43 3 (.slice (some ⟨g45, 0, none⟩) 1 1) 1 ([.int .i64 1, .int .i64 xhR31, .slice (some ⟨g44, 0, none⟩) 4 4]) :: rowE 43 3 v46 ((ss ++ [(Sq.mk 1 xhR31 (.slice (some ⟨g44, 0, none⟩) 4 4) ([xhR34, xhR37, xhR40, xhR43]))]).length) ((ss ++ [(Sq.mk 1 xhR31 (.slice (some ⟨g44, 0, none⟩) 4 4) ([xhR34, xhR37, xhR40, xhR43]))]).flatMap sqC) :: rowE 66 2 u gs.length (gs.flatMap anC) :: rowE 3 1 (.slice none 0 0) 0 ([]) :: boxE b5 #[.int .i64 (1 + xhR4), v46, u, .slice none 0 0] 28 :: boxE b1 #[.int .i64 0, .slice none 0 0, .slice none 0 0, .slice none 0 0] 28 :: l) (fun w hm => by rw [List.map_append]; exact conv_snocX w hm) ?_
   refine zcb 8 [1, 7, 6, 5, 4, 3, 0] rfl rfl (by decide) ?_
   exact zbh (i + 1) v46 (ss ++ [(Sq.mk 1 xhR31 (.slice (some ⟨g44, 0, none⟩) 4 4) ([xhR34, xhR37, xhR40, xhR43]))]) ⟨by omega, by simp; omega, sqs_app hso ⟨.inr ⟨rfl, by dsimp only; omega, rfl⟩⟩ (fun x hx => by simp only [List.mem_cons, List.not_mem_nil, or_false] at hx; unfold LtOk; omega)⟩ (by omega) (saQ rfl) (.refl _)
  refine ntQ (zak rfl ?_)
  refine hc_pick 7 [5, 4, 3, 2, 1, 0, 6] rfl rfl (by decide) ?_
  refine hc_draw2 (l := (bigE (ss.map sqPart) :: rowE 43 3 uq ss.length (ss.flatMap sqC) :: rowE 66 2 u gs.length (gs.flatMap anC) :: rowE 3 1 (.slice none 0 0) 0 ([]) :: boxE b5 #[.int .i64 (1 + xhR4), uq, u, .slice none 0 0] 28 :: boxE b1 #[.int .i64 0, .slice none 0 0, .slice none 0 0, .slice none 0 0] 28 :: l)) rfl 14 [0, 1, 2, 3, 4, 5, 6, 7, 8, 9, 10, 11, 12, 13] (List.take 14 _) (List.drop 14 _) [[], [0], [], [2], [], [4], [], [], [7], [3, 6, 8], [5, 9], [9, 10], [3, 9, 11], [3, 9, 11, 12]] [96, 97, 98, 99, 100, 101, 102, 103, 104, 105, 106, 107, 108, 109] (fun i_ vs_ v_ p_ => match i_ with | 0 => v_ = .pointer (some ⟨b5, 0 + 1, none⟩) ∧ p_ = [] | 1 => v_ = uq ∧ p_ = [] | 2 => v_ = .pointer (some ⟨g, 0, none⟩) ∧ p_ = [] | 3 => (∃ pm_, p_ = [pm_] ∧ (fun u_ p_ => (∃ x_ : Int, u_ = .int .i64 x_ ∧ 0 ≤ x_ ∧ x_ < 2) ∧ p_ = curE g a len cap) v_ pm_) | 4 => v_ = .int .i64 (2 * (((1 + (1 + xhR4)) + xhR8) + xhR11)) ∧ p_ = [] | 5 => v_ = .int .i64 ((2 * (((1 + (1 + xhR4)) + xhR8) + xhR11)) - 1) ∧ p_ = [] | 6 => v_ = .pointer (some ⟨g, 0, none⟩) ∧ p_ = [] | 7 => v_ = .int .i64 (2 * (((1 + (1 + xhR4)) + xhR8) + xhR11)) ∧ p_ = [] | 8 => v_ = .int .i64 (min (2 * (((1 + (1 + xhR4)) + xhR8) + xhR11)) 12) ∧ p_ = [] | 9 => (∃ pm_, p_ = [pm_] ∧ (fun u_ p_ => (∃ x_ : Int, u_ = .int .i64 x_ ∧ 0 ≤ x_ ∧ x_ < min (2 * (((1 + (1 + xhR4)) + xhR8) + xhR11)) 12) ∧ p_ = curE g a len cap) v_ pm_) | 10 => v_ = .int .i64 (((2 * (((1 + (1 + xhR4)) + xhR8) + xhR11)) - 1) - (intOf_o (List.getD vs_ 1 undef))) ∧ p_ = [] | 11 => IsRow 3 1 1 ([((2 * (((1 + (1 + xhR4)) + xhR8) + xhR11)) - 1) - (intOf_o (List.getD vs_ 0 undef))].map (Value.int .i64)) v_ p_ | 12 => v_ = .agg #[.int .i64 0, .int .i64 (intOf_o (List.getD vs_ 0 undef)), (List.getD vs_ 2 undef)] ∧ p_ = [] | 13 => IsRow 43 3 1 ([.int .i64 0, .int .i64 (intOf_o (List.getD vs_ 0 undef)), (List.getD vs_ 2 undef)]) v_ p_ | _ => True) [[], [0], [], [2], [], [4], [], [], [7], [6, 8], [5, 9], [9, 10], [9, 11], [9, 11, 12]] [none, none, none, some 17, none, none, none, none, none, some 3, none, none, none, none] [curE g a len cap] [0, 1, 2, 4, 5, 6, 7, 8, 9, 10, 11, 12, 13] 17 (List.take_append_drop 14 _).symm (by kernel_rfl) (by kernel_rfl) (by kernel_rfl) rfl rfl ?_ ?_
  ·
   refine ⟨?_, ?_, ?_, ?_, ?_, ?_, ?_, ?_, ?_, ?_, ?_, ?_, ?_, ?_, trivial⟩
   ·
    intro vf pf hmu hR
    refine dqQ [] [] rfl (zbm (zaq [9] rfl) ?_)
    exact zbq (fdQ 1 rfl rfl rfl)
   ·
    intro vf pf hmu hR
    have e0 := hR 0 (by decide)
    refine dqQ [0] [0] rfl (zbu (sk 96 (congrArg some e0.1) (zag _)) (List.sublist_append_right _ _) ?_)
    exact zbq (zae rfl rfl rfl (zac 4 rfl rfl))
   ·
    intro vf pf hmu hR
    refine dqQ [] [] rfl (zbm (zaq [0] rfl) ?_)
    exact zbq (zaf rfl)
   ·
    intro vf pf hmu hR
    have e2 := hR 2 (by decide)
    refine Or.inl ⟨rfl, ?_⟩
    show RunM _ _ _ (pf 17) (([2] : List Nat).flatMap pf ++ _) (envOf _ vf [2] ++ _) _ _
    rw [hmu]
    exact zcu (sk 98 (congrArg some e2.1) (zag _)) (by simp only [e2.2, fS] <;> rfl) (zdc (R := (fun u_ p_ => (∃ x_ : Int, u_ = .int .i64 x_ ∧ 0 ≤ x_ ∧ x_ < 2) ∧ p_ = curE g a len cap)) rfl rfl (fun L w hX hm => zbn g a len cap z 2 _ _ _ hm hb (by constructor <;> omega)))
   ·
    intro vf pf hmu hR
    refine dqQ [] [] rfl (zbm (zaq [16] rfl) ?_)
    exact zbq (zaf rfl)
   ·
    intro vf pf hmu hR
    have e4 := hR 4 (by decide)
    refine dqQ [4] [4] rfl (zbm (sk 100 (congrArg some e4.1) (zag _)) ?_)
    exact zbq (vsQ rfl rfl rfl)
   ·
    intro vf pf hmu hR
    refine dqQ [] [] rfl (zbm (zaq [0] rfl) ?_)
    exact zbq (zaf rfl)
   ·
    intro vf pf hmu hR
    refine dqQ [] [] rfl (zbm (zaq [16] rfl) ?_)
    exact zbq (zaf rfl)
   ·
    intro vf pf hmu hR
    have e7 := hR 7 (by decide)
    refine dqQ [7] [7] rfl (zbm (sk 103 (congrArg some e7.1) (zag _)) ?_)
    exact zbq (rv_min rfl rfl rfl)
   ·
    intro vf pf hmu hR
    have e3 : (∃ pm_, (pf 3) = [pm_] ∧ (fun u_ p_ => (∃ x_ : Int, u_ = .int .i64 x_ ∧ 0 ≤ x_ ∧ x_ < 2) ∧ p_ = curE g a len cap) (vf 3) pm_) := hR 3 (by decide)
    obtain ⟨p49, pE3, hR50⟩ := e3
    obtain ⟨v48, vE3⟩ : ∃ x, vf 3 = x := ⟨_, rfl⟩
    rw [vE3] at hR50
    obtain ⟨⟨xhR50, rfl, xhR500, xhR501⟩, rfl⟩ := hR50
    have e6 := hR 6 (by decide)
    have e8 := hR 8 (by decide)
    refine Or.inl ⟨rfl, ?_⟩
    show RunM _ _ _ (pf 3) (([6, 8] : List Nat).flatMap pf ++ _) (envOf _ vf [3, 6, 8] ++ _) _ _
    rw [pE3]
    exact zcu (sk 102 (congrArg some e6.1) (sk 104 (congrArg some e8.1) (zag _))) (by simp only [e6.2, e8.2, fS] <;> rfl) (zdc (R := (fun u_ p_ => (∃ x_ : Int, u_ = .int .i64 x_ ∧ 0 ≤ x_ ∧ x_ < min (2 * (((1 + (1 + xhR4)) + xhR8) + xhR11)) 12) ∧ p_ = curE g a len cap)) rfl rfl (fun L w hX hm => zbn g a len cap z (min (2 * (((1 + (1 + xhR4)) + xhR8) + xhR11)) 12) _ _ _ hm hb (by constructor <;> omega)))
   ·
    intro vf pf hmu hR
    have e5 := hR 5 (by decide)
    have e9 : (∃ pm_, (pf 9) = [pm_] ∧ (fun u_ p_ => (∃ x_ : Int, u_ = .int .i64 x_ ∧ 0 ≤ x_ ∧ x_ < min (2 * (((1 + (1 + xhR4)) + xhR8) + xhR11)) 12) ∧ p_ = curE g a len cap) (vf 9) pm_) := hR 9 (by decide)
    obtain ⟨p52, pE9, hR53⟩ := e9
    obtain ⟨v51, vE9⟩ : ∃ x, vf 9 = x := ⟨_, rfl⟩
    rw [vE9] at hR53
    obtain ⟨⟨xhR53, rfl, xhR530, xhR531⟩, rfl⟩ := hR53
    refine dqQ [5, 9] [5, 9] rfl (zbt (sk 101 (congrArg some e5.1) (sk 105 (congrArg some vE9) (zag _))) (by simp only [pE9, vE9, e5.2, fS] <;> rfl) ?_)
    exact zbz (zbq (vsQ rfl rfl rfl)) (fun _ _ h => ⟨h.1.trans (by show _ = (.int .i64 (((2 * (((1 + (1 + xhR4)) + xhR8) + xhR11)) - 1) - (intOf_o (vf 9))) : Value); first | (rw [vE9]; done) | (rw [vE9]; rfl)), h.2⟩)
   ·
    intro vf pf hmu hR
    have e9 : (∃ pm_, (pf 9) = [pm_] ∧ (fun u_ p_ => (∃ x_ : Int, u_ = .int .i64 x_ ∧ 0 ≤ x_ ∧ x_ < min (2 * (((1 + (1 + xhR4)) + xhR8) + xhR11)) 12) ∧ p_ = curE g a len cap) (vf 9) pm_) := hR 9 (by decide)
    obtain ⟨p52, pE9, hR53⟩ := e9
    obtain ⟨v51, vE9⟩ : ∃ x, vf 9 = x := ⟨_, rfl⟩
    rw [vE9] at hR53
    obtain ⟨⟨xhR53, rfl, xhR530, xhR531⟩, rfl⟩ := hR53
    have e10 : (vf 10) = .int .i64 (((2 * (((1 + (1 + xhR4)) + xhR8) + xhR11)) - 1) - (intOf_o (vf 9))) ∧ (pf 10) = [] := hR 10 (by decide)
    rw [vE9] at e10
    refine dqQ [9, 10] [9, 10] rfl (zbt (sk 106 (congrArg some e10.1) (zag _)) (by simp only [pE9, vE9, e10.2, fS] <;> rfl) ?_)
    exact zbz (zay (z := .int .i64 0) (s := 1) (cs := ([((2 * (((1 + (1 + xhR4)) + xhR8) + xhR11)) - 1) - xhR53].map (Value.int .i64))) rfl Try.underlying26 rfl (by decide) rfl (by kernel_rfl) rfl) (fun v_ p_ h => by show IsRow 3 1 1 ([((2 * (((1 + (1 + xhR4)) + xhR8) + xhR11)) - 1) - (intOf_o (vf 9))].map (Value.int .i64)) v_ p_; rw [vE9]; exact h)
   ·
    intro vf pf hmu hR
    have e3 : (∃ pm_, (pf 3) = [pm_] ∧ (fun u_ p_ => (∃ x_ : Int, u_ = .int .i64 x_ ∧ 0 ≤ x_ ∧ x_ < 2) ∧ p_ = curE g a len cap) (vf 3) pm_) := hR 3 (by decide)
    obtain ⟨p49, pE3, hR50⟩ := e3
    obtain ⟨v48, vE3⟩ : ∃ x, vf 3 = x := ⟨_, rfl⟩
    rw [vE3] at hR50
    obtain ⟨⟨xhR50, rfl, xhR500, xhR501⟩, rfl⟩ := hR50
    have e9 : (∃ pm_, (pf 9) = [pm_] ∧ (fun u_ p_ => (∃ x_ : Int, u_ = .int .i64 x_ ∧ 0 ≤ x_ ∧ x_ < min (2 * (((1 + (1 + xhR4)) + xhR8) + xhR11)) 12) ∧ p_ = curE g a len cap) (vf 9) pm_) := hR 9 (by decide)
    obtain ⟨p52, pE9, hR53⟩ := e9
    obtain ⟨v51, vE9⟩ : ∃ x, vf 9 = x := ⟨_, rfl⟩
    rw [vE9] at hR53
    obtain ⟨⟨xhR53, rfl, xhR530, xhR531⟩, rfl⟩ := hR53
    have e11 : IsRow 3 1 1 ([((2 * (((1 + (1 + xhR4)) + xhR8) + xhR11)) - 1) - (intOf_o (vf 9))].map (Value.int .i64)) (vf 11) (pf 11) := hR 11 (by decide)
    rw [vE9] at e11
    obtain ⟨g54, vE11, pE11⟩ := e11
    refine dqQ [9, 11] [3, 9, 11] rfl (zbt (sk 99 (congrArg some vE3) (sk 107 (congrArg some vE11) (zag _))) (by simp only [pE9, vE9, pE11, vE11, fS] <;> rfl) ?_)
    exact zbz (zbq (rv_build (cs := #[.int .i64 0, .int .i64 xhR50, .slice (some ⟨g54, 0, none⟩) 1 1]) rfl rfl rfl)) (fun _ _ h => ⟨h.1.trans (by show _ = (.agg #[.int .i64 0, .int .i64 (intOf_o (vf 3)), (vf 11)] : Value); first | (rw [vE3, vE11]; done) | (rw [vE3, vE11]; rfl)), h.2⟩)
   intro vf pf hmu hR
   have e3 : (∃ pm_, (pf 3) = [pm_] ∧ (fun u_ p_ => (∃ x_ : Int, u_ = .int .i64 x_ ∧ 0 ≤ x_ ∧ x_ < 2) ∧ p_ = curE g a len cap) (vf 3) pm_) := hR 3 (by decide)
   obtain ⟨p49, pE3, hR50⟩ := e3
   obtain ⟨v48, vE3⟩ : ∃ x, vf 3 = x := ⟨_, rfl⟩
   rw [vE3] at hR50
   obtain ⟨⟨xhR50, rfl, xhR500, xhR501⟩, rfl⟩ := hR50
   have e9 : (∃ pm_, (pf 9) = [pm_] ∧ (fun u_ p_ => (∃ x_ : Int, u_ = .int .i64 x_ ∧ 0 ≤ x_ ∧ x_ < min (2 * (((1 + (1 + xhR4)) + xhR8) + xhR11)) 12) ∧ p_ = curE g a len cap) (vf 9) pm_) := hR 9 (by decide)
   obtain ⟨p52, pE9, hR53⟩ := e9
   obtain ⟨v51, vE9⟩ : ∃ x, vf 9 = x := ⟨_, rfl⟩
   rw [vE9] at hR53
   obtain ⟨⟨xhR53, rfl, xhR530, xhR531⟩, rfl⟩ := hR53
   have e11 : IsRow 3 1 1 ([((2 * (((1 + (1 + xhR4)) + xhR8) + xhR11)) - 1) - (intOf_o (vf 9))].map (Value.int .i64)) (vf 11) (pf 11) := hR 11 (by decide)
   rw [vE9] at e11
   obtain ⟨g54, vE11, pE11⟩ := e11
   have e12 : (vf 12) = .agg #[.int .i64 0, .int .i64 (intOf_o (vf 3)), (vf 11)] ∧ (pf 12) = [] := hR 12 (by decide)
   rw [vE3, vE11] at e12
   refine dqQ [9, 11, 12] [3, 9, 11, 12] rfl (zbt (sk 108 (congrArg some e12.1) (zag _)) (by simp only [pE9, vE9, pE11, vE11, e12.2, fS] <;> rfl) ?_)
   exact zbz (zay (z := .agg #[.int .i64 0, .int .i64 0, .slice none 0 0]) (s := 3) (cs := [.int .i64 0, .int .i64 xhR50, .slice (some ⟨g54, 0, none⟩) 1 1]) rfl Try.underlying24 rfl (by decide) rfl (by kernel_rfl) rfl) (fun v_ p_ h => by show IsRow 43 3 1 ([.int .i64 0, .int .i64 (intOf_o (vf 3)), (vf 11)]) v_ p_; rw [vE3, vE11]; exact h)
  intro vf pf hmu hR
  have e1 := hR 1 (by decide)
  have e3 : (∃ pm_, (pf 3) = [pm_] ∧ (fun u_ p_ => (∃ x_ : Int, u_ = .int .i64 x_ ∧ 0 ≤ x_ ∧ x_ < 2) ∧ p_ = curE g a len cap) (vf 3) pm_) := hR 3 (by decide)
  obtain ⟨p49, pE3, hR50⟩ := e3
  obtain ⟨v48, vE3⟩ : ∃ x, vf 3 = x := ⟨_, rfl⟩
  rw [vE3] at hR50
  obtain ⟨⟨xhR50, rfl, xhR500, xhR501⟩, rfl⟩ := hR50
  have e9 : (∃ pm_, (pf 9) = [pm_] ∧ (fun u_ p_ => (∃ x_ : Int, u_ = .int .i64 x_ ∧ 0 ≤ x_ ∧ x_ < min (2 * (((1 + (1 + xhR4)) + xhR8) + xhR11)) 12) ∧ p_ = curE g a len cap) (vf 9) pm_) := hR 9 (by decide)
  obtain ⟨p52, pE9, hR53⟩ := e9
  obtain ⟨v51, vE9⟩ : ∃ x, vf 9 = x := ⟨_, rfl⟩
  rw [vE9] at hR53
  obtain ⟨⟨xhR53, rfl, xhR530, xhR531⟩, rfl⟩ := hR53
  have e11 : IsRow 3 1 1 ([((2 * (((1 + (1 + xhR4)) + xhR8) + xhR11)) - 1) - (intOf_o (vf 9))].map (Value.int .i64)) (vf 11) (pf 11) := hR 11 (by decide)
  rw [vE9] at e11
  obtain ⟨g54, vE11, pE11⟩ := e11
  have e13 : IsRow 43 3 1 ([.int .i64 0, .int .i64 (intOf_o (vf 3)), (vf 11)]) (vf 13) (pf 13) := hR 13 (by decide)
  rw [vE3, vE11] at e13
  obtain ⟨g55, vE13, pE13⟩ := e13
  have q0 := hR 0 (by decide)
  have q1 := hR 1 (by decide)
  have q2 := hR 2 (by decide)
  have q4 := hR 4 (by decide)
  have q5 := hR 5 (by decide)
  have q6 := hR 6 (by decide)
  have q7 := hR 7 (by decide)
  have q8 := hR 8 (by decide)
  have q10 := hR 10 (by decide)
  have q12 := hR 12 (by decide)
  refine zcy (zcc [74, 70, 39, 17, 16, 12, 11, 10, 9, 8, 3, 2, 1, 0] _ (sk 97 (congrArg some e1.1) (sk 109 (congrArg some vE13) (zag _))) rfl) (by simp only [pE9, vE9, pE11, vE11, pE13, vE13, q0.2, q1.2, q2.2, q4.2, q5.2, q6.2, q7.2, q8.2, q10.2, q12.2, fS] <;> rfl) ?_
  simp only [List.drop_succ_cons, List.drop_zero]
  refine zck (i := 4) (z := .agg #[.int .i64 0, .int .i64 0, .slice none 0 0]) (bytes := 40) rfl rfl rfl rfl Try.underlying24 (by kernel_rfl) rfl rfl rfl rfl (zao 2 rfl) (by simp [Value.oneCell']) (by first | omega | (simp only [List.length_append, List.length_cons, List.length_nil]; omega)) (zca ss [(Sq.mk 0 xhR50 (.slice (some ⟨g54, 0, none⟩) 1 1) ([((2 * (((1 + (1 + xhR4)) + xhR8) + xhR11)) - 1) - xhR53]))]) (flat_app1 sqC ss (Sq.mk 0 xhR50 (.slice (some ⟨g54, 0, none⟩) 1 1) ([((2 * (((1 + (1 + xhR4)) + xhR8) + xhR11)) - 1) - xhR53])) _ rfl) (fun _ => rfl) ?_
  intro v56
  refine hvQ rfl (fdQ 1 rfl rfl rfl) (hl_one (i := 4) rfl (fun ho57 => ?_))
  refine hl_stB (i := 7) (cs' := #[.int .i64 (1 + xhR4), v56, u, .slice none 0 0]) rfl rfl rfl rfl rfl rfl ho57 rfl rfl rfl rfl (zbw (zcj (reQ 1 rfl (hvQ rfl (vaQ rfl rfl rfl) (enQ 1 rfl ?_)))))
  refine zcb 9 [8, 7, 6, 5, 4, 2, 0, 1, 3] rfl rfl (by decide) ?_
  refine hq_conv (bigE ((ss ++ [(Sq.mk 0 xhR50 (.slice (some ⟨g54, 0, none⟩) 1 1) ([((2 * (((1 + (1 + xhR4)) + xhR8) + xhR11)) - 1) - xhR53]))]).map sqPart) :: curE g a len cap :: rowE 43 3 (.slice (some ⟨g55, 0, none⟩) 1 1) 1 ([.int .i64 0, .int .i64 xhR50, .slice (some ⟨g54, 0, none⟩) 1 1]) :: rowE 43 3 v56 ((ss ++ [(Sq.mk 0 xhR50 (.slice (some ⟨g54, 0, none⟩) 1 1) ([((2 * (((1 + (1 + xhR4)) + xhR8) + xhR11)) - 1) - xhR53]))]).length) ((ss ++ [(Sq.mk 0 xhR50 (.slice (some ⟨g54, 0, none⟩) 1 1) ([((2 * (((1 + (1 + xhR4)) + xhR8) + xhR11)) - 1) - xhR53]))]).flatMap sqC) :: rowE 66 2 u gs.length (gs.flatMap anC) :: rowE 3 1 (.slice none 0 0) 0 ([]) :: boxE b5 #[.int .i64 (1 + xhR4), v56, u, .slice none 0 0] 28 :: boxE b1 #[.int .i64 0, .slice none 0 0, .slice none 0 0, .slice none 0 0] 28 :: l) (fun w hm => by rw [List.map_append]; exact conv_snocX w hm) ?_
  refine zcb 8 [1, 7, 6, 5, 4, 3, 0] rfl rfl (by decide) ?_
  exact zbh (i + 1) v56 (ss ++ [(Sq.mk 0 xhR50 (.slice (some ⟨g54, 0, none⟩) 1 1) ([((2 * (((1 + (1 + xhR4)) + xhR8) + xhR11)) - 1) - xhR53]))]) ⟨by omega, by simp; omega, sqs_app hso ⟨.inl ⟨rfl, by dsimp only; omega, rfl⟩⟩ (fun x hx => by simp only [List.mem_cons, List.not_mem_nil, or_false] at hx; unfold LtOk; omega)⟩ (by omega) (saQ rfl) (.refl _)
 refine ntQ (zak rfl ?_)
 refine zbb (zda ?_)
 refine zad (zas (zab (zab (reQ 1 rfl ?_))))
 refine zbp (R := (fun u_ p_ => (∃ x_ : Int, u_ = .int .i64 x_ ∧ 0 ≤ x_ ∧ x_ < 4) ∧ p_ = curE g a len cap)) 6 rfl rfl rfl rfl rfl (fun l' w hm => zbn g a len cap z 4 _ _ _ hm hb (by constructor <;> omega)) ?_
 intro v58 p59 hR60
 obtain ⟨⟨xhR60, rfl, xhR600, xhR601⟩, rfl⟩ := hR60
 refine zcd (l' := (bigE (ss.map sqPart) :: rowE 43 3 uq ss.length (ss.flatMap sqC) :: rowE 66 2 u gs.length (gs.flatMap anC) :: rowE 3 1 (.slice none 0 0) 0 ([]) :: boxE b5 #[.int .i64 (1 + xhR4), uq, u, .slice none 0 0] 28 :: boxE b1 #[.int .i64 0, .slice none 0 0, .slice none 0 0, .slice none 0 0] 28 :: curE g a len cap :: l)) rfl ?_
 refine zbf 1 rfl (zau ?_)
 refine lkQ3 (α := Int) (β := Value) (γ := List Int) [0, 1, 2, 3, 8, 9, 10, 11, 12, 16, 39, 70] rfl (fun k uo os => (bigE (ss.map sqPart) :: rowE 43 3 uq ss.length (ss.flatMap sqC) :: rowE 66 2 u gs.length (gs.flatMap anC) :: rowE 3 1 uo os.length (os.map (Value.int .i64)) :: boxE b5 #[.int .i64 (1 + xhR4), uq, u, uo] 28 :: boxE b1 #[.int .i64 0, .slice none 0 0, .slice none 0 0, .slice none 0 0] 28 :: curE g a len cap :: l)) (fun k uo os => [(18, .int .i64 k)]) (fun k uo os => (-1 ≤ k ∧ k ≤ 3) ∧ (os.length : Int) + k ≤ 3 ∧ OsOk (((1 + (1 + xhR4)) + xhR8) + xhR11) os) (fun k uo os => (k + 1).toNat) _ _ [] ⟨by omega, by simp; omega, fun x hx => absurd hx (by simp)⟩ (saQ rfl) (.refl _) ?_
 intro k uo os hi61
 obtain ⟨hk0, hol, hoo⟩ := hi61
 refine zab (zab (reQ 1 rfl ?_))
 refine hl_geq rfl rfl rfl rfl rfl rfl (fun h62 => ?_) (fun h62 => ?_)
 ·
  refine ntQ (zan rfl (zch (sbQ ?_)))
  refine hc_pick 7 [5, 4, 3, 2, 1, 0, 6] rfl rfl (by decide) ?_
  refine hc_draw2 (l := (bigE (ss.map sqPart) :: rowE 43 3 uq ss.length (ss.flatMap sqC) :: rowE 66 2 u gs.length (gs.flatMap anC) :: rowE 3 1 uo os.length (os.map (Value.int .i64)) :: boxE b5 #[.int .i64 (1 + xhR4), uq, u, uo] 28 :: boxE b1 #[.int .i64 0, .slice none 0 0, .slice none 0 0, .slice none 0 0] 28 :: l)) rfl 10 [0, 1, 2, 3, 4, 5, 6, 7, 8, 9] (List.take 10 _) (List.drop 10 _) [[], [0], [], [2], [], [], [5], [4, 6], [3, 7], [7, 8]] [118, 119, 120, 121, 122, 123, 124, 125, 126, 127] (fun i_ vs_ v_ p_ => match i_ with | 0 => v_ = .pointer (some ⟨b5, 0 + 3, none⟩) ∧ p_ = [] | 1 => v_ = uo ∧ p_ = [] | 2 => v_ = .int .i64 (2 * (((1 + (1 + xhR4)) + xhR8) + xhR11)) ∧ p_ = [] | 3 => v_ = .int .i64 ((2 * (((1 + (1 + xhR4)) + xhR8) + xhR11)) - 1) ∧ p_ = [] | 4 => v_ = .pointer (some ⟨g, 0, none⟩) ∧ p_ = [] | 5 => v_ = .int .i64 (2 * (((1 + (1 + xhR4)) + xhR8) + xhR11)) ∧ p_ = [] | 6 => v_ = .int .i64 (min (2 * (((1 + (1 + xhR4)) + xhR8) + xhR11)) 12) ∧ p_ = [] | 7 => (∃ pm_, p_ = [pm_] ∧ (fun u_ p_ => (∃ x_ : Int, u_ = .int .i64 x_ ∧ 0 ≤ x_ ∧ x_ < min (2 * (((1 + (1 + xhR4)) + xhR8) + xhR11)) 12) ∧ p_ = curE g a len cap) v_ pm_) | 8 => v_ = .int .i64 (((2 * (((1 + (1 + xhR4)) + xhR8) + xhR11)) - 1) - (intOf_o (List.getD vs_ 1 undef))) ∧ p_ = [] | 9 => IsRow 3 1 1 ([((2 * (((1 + (1 + xhR4)) + xhR8) + xhR11)) - 1) - (intOf_o (List.getD vs_ 0 undef))].map (Value.int .i64)) v_ p_ | _ => True) [[], [0], [], [2], [], [], [5], [4, 6], [3, 7], [7, 8]] [none, none, none, none, none, none, none, some 13, none, none] [curE g a len cap] [0, 1, 2, 3, 4, 5, 6, 7, 8, 9] 13 (List.take_append_drop 10 _).symm (by kernel_rfl) (by kernel_rfl) (by kernel_rfl) rfl rfl ?_ ?_
  ·
   refine ⟨?_, ?_, ?_, ?_, ?_, ?_, ?_, ?_, ?_, ?_, trivial⟩
   ·
    intro vf pf hmu hR
    refine dqQ [] [] rfl (zbm (zaq [9] rfl) ?_)
    exact zbq (fdQ 3 rfl rfl rfl)
   ·
    intro vf pf hmu hR
    have e0 := hR 0 (by decide)
    refine dqQ [0] [0] rfl (zbu (sk 118 (congrArg some e0.1) (zag _)) (List.sublist_append_right _ _) ?_)
    exact zbq (zae rfl rfl rfl (zac 4 rfl rfl))
   ·
    intro vf pf hmu hR
    refine dqQ [] [] rfl (zbm (zaq [16] rfl) ?_)
    exact zbq (zaf rfl)
   ·
    intro vf pf hmu hR
    have e2 := hR 2 (by decide)
    refine dqQ [2] [2] rfl (zbm (sk 120 (congrArg some e2.1) (zag _)) ?_)
    exact zbq (vsQ rfl rfl rfl)
   ·
    intro vf pf hmu hR
    refine dqQ [] [] rfl (zbm (zaq [0] rfl) ?_)
    exact zbq (zaf rfl)
   ·
    intro vf pf hmu hR
    refine dqQ [] [] rfl (zbm (zaq [16] rfl) ?_)
    exact zbq (zaf rfl)
   ·
    intro vf pf hmu hR
    have e5 := hR 5 (by decide)
    refine dqQ [5] [5] rfl (zbm (sk 123 (congrArg some e5.1) (zag _)) ?_)
    exact zbq (rv_min rfl rfl rfl)
   ·
    intro vf pf hmu hR
    have e4 := hR 4 (by decide)
    have e6 := hR 6 (by decide)
    refine Or.inl ⟨rfl, ?_⟩
    show RunM _ _ _ (pf 13) (([4, 6] : List Nat).flatMap pf ++ _) (envOf _ vf [4, 6] ++ _) _ _
    rw [hmu]
    exact zcu (sk 122 (congrArg some e4.1) (sk 124 (congrArg some e6.1) (zag _))) (by simp only [e4.2, e6.2, fS] <;> rfl) (zdc (R := (fun u_ p_ => (∃ x_ : Int, u_ = .int .i64 x_ ∧ 0 ≤ x_ ∧ x_ < min (2 * (((1 + (1 + xhR4)) + xhR8) + xhR11)) 12) ∧ p_ = curE g a len cap)) rfl rfl (fun L w hX hm => zbn g a len cap z (min (2 * (((1 + (1 + xhR4)) + xhR8) + xhR11)) 12) _ _ _ hm hb (by constructor <;> omega)))
   ·
    intro vf pf hmu hR
    have e3 := hR 3 (by decide)
    have e7 : (∃ pm_, (pf 7) = [pm_] ∧ (fun u_ p_ => (∃ x_ : Int, u_ = .int .i64 x_ ∧ 0 ≤ x_ ∧ x_ < min (2 * (((1 + (1 + xhR4)) + xhR8) + xhR11)) 12) ∧ p_ = curE g a len cap) (vf 7) pm_) := hR 7 (by decide)
    obtain ⟨p64, pE7, hR65⟩ := e7
    obtain ⟨v63, vE7⟩ : ∃ x, vf 7 = x := ⟨_, rfl⟩
    rw [vE7] at hR65
    obtain ⟨⟨xhR65, rfl, xhR650, xhR651⟩, rfl⟩ := hR65
    refine dqQ [3, 7] [3, 7] rfl (zbt (sk 121 (congrArg some e3.1) (sk 125 (congrArg some vE7) (zag _))) (by simp only [pE7, vE7, e3.2, fS] <;> rfl) ?_)
    exact zbz (zbq (vsQ rfl rfl rfl)) (fun _ _ h => ⟨h.1.trans (by show _ = (.int .i64 (((2 * (((1 + (1 + xhR4)) + xhR8) + xhR11)) - 1) - (intOf_o (vf 7))) : Value); first | (rw [vE7]; done) | (rw [vE7]; rfl)), h.2⟩)
   intro vf pf hmu hR
   have e7 : (∃ pm_, (pf 7) = [pm_] ∧ (fun u_ p_ => (∃ x_ : Int, u_ = .int .i64 x_ ∧ 0 ≤ x_ ∧ x_ < min (2 * (((1 + (1 + xhR4)) + xhR8) + xhR11)) 12) ∧ p_ = curE g a len cap) (vf 7) pm_) := hR 7 (by decide)
   obtain ⟨p64, pE7, hR65⟩ := e7
   obtain ⟨v63, vE7⟩ : ∃ x, vf 7 = x := ⟨_, rfl⟩
   rw [vE7] at hR65
   obtain ⟨⟨xhR65, rfl, xhR650, xhR651⟩, rfl⟩ := hR65
   have e8 : (vf 8) = .int .i64 (((2 * (((1 + (1 + xhR4)) + xhR8) + xhR11)) - 1) - (intOf_o (vf 7))) ∧ (pf 8) = [] := hR 8 (by decide)
   rw [vE7] at e8
   refine dqQ [7, 8] [7, 8] rfl (zbt (sk 126 (congrArg some e8.1) (zag _)) (by simp only [pE7, vE7, e8.2, fS] <;> rfl) ?_)
   exact zbz (zay (z := .int .i64 0) (s := 1) (cs := ([((2 * (((1 + (1 + xhR4)) + xhR8) + xhR11)) - 1) - xhR65].map (Value.int .i64))) rfl Try.underlying26 rfl (by decide) rfl (by kernel_rfl) rfl) (fun v_ p_ h => by show IsRow 3 1 1 ([((2 * (((1 + (1 + xhR4)) + xhR8) + xhR11)) - 1) - (intOf_o (vf 7))].map (Value.int .i64)) v_ p_; rw [vE7]; exact h)
  intro vf pf hmu hR
  have e1 := hR 1 (by decide)
  have e7 : (∃ pm_, (pf 7) = [pm_] ∧ (fun u_ p_ => (∃ x_ : Int, u_ = .int .i64 x_ ∧ 0 ≤ x_ ∧ x_ < min (2 * (((1 + (1 + xhR4)) + xhR8) + xhR11)) 12) ∧ p_ = curE g a len cap) (vf 7) pm_) := hR 7 (by decide)
  obtain ⟨p64, pE7, hR65⟩ := e7
  obtain ⟨v63, vE7⟩ : ∃ x, vf 7 = x := ⟨_, rfl⟩
  rw [vE7] at hR65
  obtain ⟨⟨xhR65, rfl, xhR650, xhR651⟩, rfl⟩ := hR65
  have e9 : IsRow 3 1 1 ([((2 * (((1 + (1 + xhR4)) + xhR8) + xhR11)) - 1) - (intOf_o (vf 7))].map (Value.int .i64)) (vf 9) (pf 9) := hR 9 (by decide)
  rw [vE7] at e9
  obtain ⟨g66, vE9, pE9⟩ := e9
  have q0 := hR 0 (by decide)
  have q1 := hR 1 (by decide)
  have q2 := hR 2 (by decide)
  have q3 := hR 3 (by decide)
  have q4 := hR 4 (by decide)
  have q5 := hR 5 (by decide)
  have q6 := hR 6 (by decide)
  have q8 := hR 8 (by decide)
  refine zcy (zcc [115, 70, 39, 18, 16, 12, 11, 10, 9, 8, 3, 2, 1, 0] _ (sk 119 (congrArg some e1.1) (sk 127 (congrArg some vE9) (zag _))) rfl) (by simp only [pE7, vE7, pE9, vE9, q0.2, q1.2, q2.2, q3.2, q4.2, q5.2, q6.2, q8.2, fS] <;> rfl) ?_
  simp only [List.drop_succ_cons, List.drop_zero]
  refine zck (i := 5) (z := .int .i64 0) (bytes := 8) rfl rfl rfl rfl Try.underlying26 (by kernel_rfl) rfl rfl rfl rfl (zao 1 rfl) (zbv _) (by first | omega | (simp; done) | (simp; omega)) (zca os ([((2 * (((1 + (1 + xhR4)) + xhR8) + xhR11)) - 1) - xhR65])) (zby os ([((2 * (((1 + (1 + xhR4)) + xhR8) + xhR11)) - 1) - xhR65])) (fun _ => rfl) ?_
  intro v67
  refine hvQ rfl (fdQ 3 rfl rfl rfl) (hl_one (i := 5) rfl (fun ho68 => ?_))
  refine hl_stB (i := 6) (cs' := #[.int .i64 (1 + xhR4), uq, u, v67]) rfl rfl rfl rfl rfl rfl ho68 rfl rfl rfl rfl (zbw (zcj (reQ 1 rfl (hvQ rfl (vsQ rfl rfl rfl) (enQ 1 rfl ?_)))))
  refine zcb 8 [0, 7, 6, 5, 4, 3, 2] rfl rfl (by decide) ?_
  exact zbh (k - 1) v67 (os ++ ([((2 * (((1 + (1 + xhR4)) + xhR8) + xhR11)) - 1) - xhR65])) ⟨by omega, by simp; omega, os_app hoo (by unfold LtOk; omega)⟩ (by omega) (saQ rfl) (.refl _)
 refine ntQ (zak rfl ?_)
 refine zbb (zda ?_)
 refine zad (zas (srQ (hvQ rfl (zaz (cs := [.int .i64 (1 + xhR4), uq, u, uo]) rfl rfl rfl rfl rfl (zax 4 rfl 0 rfl)) ?_)))
 refine hl_one (i := 3) rfl (fun ho69 => ?_)
 refine hl_one (i := 2) rfl (fun ho70 => ?_)
 refine hl_one (i := 1) rfl (fun ho71 => ?_)
 refine zcp (cs' := #[.int .i64 (1 + xhR4), uq, u, uo]) (i := 5) (off := 0) (us := [.int .i64 (1 + xhR4), uq, u, uo]) rfl rfl rfl rfl rfl rfl rfl (zap rfl (zap ho71 (zap ho70 (zap ho69 zce)))) rfl rfl rfl (ntQ ?_)
 refine zav (hq_oneX (i := 1) rfl (fun oQ => ?_))
 refine hq_oneX (i := 2) rfl (fun oA => ?_)
 refine hq_oneX (i := 3) rfl (fun oO => ?_)
 refine zcb 7 [5, 6, 3, 2, 1, 0] rfl rfl (by decide) ?_
 refine hq_conv (bigE [curE g a len cap, ntE (Nt.mk (1 + xhR4) uq u uo ss gs os)] :: boxE b1 #[.int .i64 (1 + xhR4), uq, u, uo] 28 :: l) (fun w hm => by
     have h1 : Mem _ ([bigE (ss.map sqPart), rowE 43 3 uq ss.length (ss.flatMap sqC)] ++ (rowE 66 2 u gs.length (gs.flatMap anC) :: rowE 3 1 uo os.length (os.map (Value.int .i64)) :: curE g a len cap :: boxE b1 #[.int .i64 (1 + xhR4), uq, u, uo] 28 :: l)) w := hm
     have h2 : Mem _ ([sqsE uq ss, rowE 66 2 u gs.length (gs.flatMap anC), rowE 3 1 uo os.length (os.map (Value.int .i64))] ++ (curE g a len cap :: boxE b1 #[.int .i64 (1 + xhR4), uq, u, uo] 28 :: l)) w := h1.big
     have h3 : Mem _ (ntE (Nt.mk (1 + xhR4) uq u uo ss gs os) :: curE g a len cap :: boxE b1 #[.int .i64 (1 + xhR4), uq, u, uo] 28 :: l) w := Mem.big h2
     exact Mem.big (ps := [curE g a len cap, ntE (Nt.mk (1 + xhR4) uq u uo ss gs os)]) (h3.perm (.swap _ _ _))) ?_
 exact zed (rs := [.cell 8 28]) (vs := [.agg #[.int .i64 (1 + xhR4), uq, u, uo]]) rfl ⟨⟨b1, 0, [.int .i64 (1 + xhR4), uq, u, uo], rfl, rfl, by kernel_rfl, by kernel_rfl, zax 1 rfl 0 rfl⟩, trivial⟩ rfl (fun w hm => ⟨_, bigE [curE g a len cap, ntE (Nt.mk (1 + xhR4) uq u uo ss gs os)], rfl, ⟨Nt.mk (1 + xhR4) uq u uo ss gs os, rfl, rfl, ⟨oQ, oA, oO⟩, nt_mk (by omega) (by omega) (by omega) (by omega) (by omega) hso hgo hoo (by omega) (by omega), by dsimp only; omega, by dsimp only; omega, by dsimp only; omega⟩, hm.sub (.cons_cons _ (.cons _ (.refl _)))⟩)
open Go.RowKit
theorem and01 {a b : Int} (ha : a = 0 ∨ a = 1) (hb : b = 0 ∨ b = 1) : bits .and .i64 a b = a * b := by
  rcases ha with e | e <;> rcases hb with e' | e' <;> rw [e, e'] <;> decide
theorem xor01 {a l : Int} (ha : a = 0 ∨ a = 1) : bits .xor .i64 a (l % 2) = if l % 2 = 0 then a else 1 - a := by
  rcases (show l % 2 = 0 ∨ l % 2 = 1 by omega) with e | e <;> rcases ha with e' | e' <;> rw [e, e'] <;> decide
theorem andNot_small {v : Int} (h0 : 0 ≤ v) (h1 : v ≤ 31) : bits .andNot .i64 v 1 = v - v % 2 := by
  have key : ∀ m : Fin 32, bits .andNot .i64 ((m.val : Nat) : Int) 1 = ((m.val : Nat) : Int) - ((m.val : Nat) : Int) % 2 := by decide
  have := key ⟨v.toNat, by omega⟩
  rw [show (((⟨v.toNat, by omega⟩ : Fin 32).val : Nat) : Int) = v by show ((v.toNat : Nat) : Int) = v; omega] at this
  exact this
def fillZ (C : Nat) (vs : List Int) : List Int := vs ++ List.replicate (C - vs.length) 0
theorem zfa {C : Nat} {vs : List Int} (h : vs.length ≤ C) : (fillZ C vs).length = C := by simp [fillZ]; omega
theorem fill_get {C : Nat} {vs : List Int} {k : Nat} (h : k < vs.length) : (fillZ C vs).getD k 0 = vs.getD k 0 := zdg h
theorem fill_all {C : Nat} {vs : List Int} (h : vs.length = C) : fillZ C vs = vs := by unfold fillZ; rw [h, Nat.sub_self]; simp
theorem zdn {C : Nat} {vs : List Int} {x : Int} {j : Nat} (hj : j = vs.length) (h : vs.length < C) : (fillZ C vs).set j x = fillZ C (vs ++ [x]) := by
  subst hj
  unfold fillZ
  rw [List.set_append_right _ _ (Nat.le_refl _), Nat.sub_self, List.length_append, List.length_singleton, show C - vs.length = (C - (vs.length + 1)) + 1 by omega, List.replicate_succ, List.set_cons_zero]
  simp
theorem fill_one {C : Nat} (h : 1 ≤ C) : List.replicate C (0 : Int) = fillZ C [0] := by
  unfold fillZ
  obtain ⟨c, rfl⟩ : ∃ c, C = c + 1 := ⟨C - 1, by omega⟩
  simp [List.replicate_succ]
def preA (n : Nt) (inp : Int) (k : Nat) : List Int := [0] ++ (List.range k).map (fun k => inp / 2 ^ k % 2)
def preB (n : Nt) (st : List Int) (inp : Int) (k : Nat) : List Int := preA n inp n.ins.toNat ++ (st.take k).map (· % 2)
theorem zeu (n : Nt) (inp : Int) (k : Nat) : (preA n inp k).length = 1 + k := by simp [preA]; omega
theorem preA_step (n : Nt) (inp : Int) (k : Nat) : preA n inp k ++ [inp / 2 ^ k % 2] = preA n inp (k + 1) := by unfold preA; rw [List.range_succ, List.map_append, List.append_assoc]; rfl
theorem preB_len (n : Nt) (st : List Int) (inp : Int) {k : Nat} (h : k ≤ st.length) : (preB n st inp k).length = 1 + n.ins.toNat + k := by simp [preB, zeu]; omega
theorem preB_step (n : Nt) (st : List Int) (inp : Int) {k : Nat} (h : k < st.length) : preB n st inp k ++ [st.getD k 0 % 2] = preB n st inp (k + 1) := by unfold preB; rw [take_snocG 0 h, List.map_append, List.append_assoc]; rfl
theorem preB_zero (n : Nt) (st : List Int) (inp : Int) : preA n inp n.ins.toNat = preB n st inp 0 := by simp [preB]
theorem preB_end (n : Nt) (st : List Int) (inp : Int) : preB n st inp st.length = valL n st inp 0 := by
  show preB n st inp st.length = leafL n st inp
  unfold preB preA leafL; rw [List.take_length]
def seqZ (kd v : Int) : Int := if kd = 0 then 0 else v - v % 2 + v / 2 % 2
theorem seqZ_pos {kd v : Int} (h : 0 ≤ v) : 0 ≤ seqZ kd v := by unfold seqZ; split <;> omega
structure StOk (n : Nt) (st : List Int) : Prop where
  len : st.length = n.ss.length
  rng : ∀ k, k < n.ss.length → 0 ≤ st.getD k 0 ∧ st.getD k 0 ≤ 31 ∧ ((n.ss.getD k sq0).kd = 0 → st.getD k 0 ≤ 1)
theorem start_ok {n : Nt} (h : NtOk n) : StOk n (stL n) := ⟨str_len n (Nat.le_refl _), fun k hk => by
  rw [st_at n hk]
  rcases (h.sq _ (zbc (d := sq0) hk)).kind with ⟨a, b, _⟩ | ⟨a, b, _⟩
  · exact ⟨b.1, by omega, fun _ => b.2⟩
  · exact ⟨b.1, b.2, fun h => by omega⟩⟩
theorem zdz (x lo hi : Int) (w : World)  :
   Calls Try.prog 55 #[.int .i64 x, .int .i64 lo, .int .i64 hi] w (Ans w (.bool (inR x lo hi))) := by
 refine zba (N := 15) (args := [.int .i64 x, .int .i64 lo, .int .i64 hi]) Try.func55 rfl rfl (zbe 1 rfl (zab (reQ 2 rfl ?_)))
 refine hl_geq rfl rfl rfl rfl rfl rfl (fun h1 => ?_) (fun h1 => ?_)
 ·
  refine zai 3 rfl (hl_leq rfl rfl rfl rfl rfl rfl (fun h2 => ?_) (fun h2 => ?_))
  ·
   refine zbf 2 rfl ?_
   exact zav (zbi rfl rfl (congrArg _ (((zcn _ _ _).2 (by omega)).symm)))
  refine zbf 2 rfl ?_
  exact zav (zbi rfl rfl (congrArg _ ((Bool.eq_false_iff.2 (fun h => by have := (zcn _ _ _).1 h; omega)).symm)))
 refine zbf 6 rfl ?_
 exact zav (zbi rfl rfl (congrArg _ ((Bool.eq_false_iff.2 (fun h => by have := (zcn _ _ _).1 h; omega)).symm)))
theorem zem (n : Nt) (w : World) (hr : RdsNt w n) (hn : NtOk n) :
   Calls Try.prog 54 #[.agg #[.int .i64 n.ins, n.sv, n.av, n.ov]] w (Ans w (.int .i64 n.cnt)) := by
 have hi0 := hn.i0
 have hi1 := hn.i1
 have hs1 := hn.s1
 have ha1 := hn.a1
 have ho1 := hn.o1
 have hcnt : n.cnt = 1 + n.ins + n.ss.length + n.gs.length := rfl
 have hfst : n.fst = 1 + n.ins + n.ss.length := rfl
 refine zba (N := 36) (args := [.agg #[.int .i64 n.ins, n.sv, n.av, n.ov]]) Try.func54 rfl rfl (srQ ?_)
 refine zea rfl (zcg rfl rfl) ?_
 intro b1
 refine zbf 1 rfl (ssrQ (hvQ rfl (fdQ 0 rfl rfl rfl) (hvQ rfl (zae rfl rfl rfl (zac 0 rfl rfl)) ?_)))
 refine zee rfl (zaj rfl rfl (fun w hm => zat (zdz n.ins 0 20 w))) (zbo (fun h2 => ?_) (fun h2 => absurd ((((zcn _ _ _).2 (by omega))).symm.trans h2) (by decide)))
 refine zai 2 rfl (hvQ rfl (fdQ 1 rfl rfl rfl) (hvQ rfl (zae rfl rfl rfl (zac 0 rfl rfl)) (hvQ rfl (lnQ rfl rfl rfl (zaa hr.sq)) ?_)))
 refine hl_gtr rfl rfl rfl rfl rfl rfl (fun h3 => absurd h3 (by omega)) (fun h3 => ?_)
 refine zai 2 rfl (hvQ rfl (fdQ 2 rfl rfl rfl) (hvQ rfl (zae rfl rfl rfl (zac 0 rfl rfl)) (hvQ rfl (lnQ rfl rfl rfl (zaa hr.an)) ?_)))
 refine hl_gtr rfl rfl rfl rfl rfl rfl (fun h4 => absurd h4 (by omega)) (fun h4 => ?_)
 refine zai 2 rfl (hvQ rfl (fdQ 3 rfl rfl rfl) (hvQ rfl (zae rfl rfl rfl (zac 0 rfl rfl)) (hvQ rfl (lnQ rfl rfl rfl (zaa hr.ou)) ?_)))
 refine hl_gtr rfl rfl rfl rfl rfl rfl (fun h5 => absurd h5 (by omega)) (fun h5 => ?_)
 refine zbf 1 rfl (zak rfl (zch (srQ (hvQ rfl (fdQ 0 rfl rfl rfl) (hvQ rfl (zae rfl rfl rfl (zac 0 rfl rfl)) (hvQ rfl (vaQ rfl rfl rfl) (hvQ rfl (fdQ 1 rfl rfl rfl) (hvQ rfl (zae rfl rfl rfl (zac 0 rfl rfl)) ?_))))))))
 refine hvQ rfl (lnQ rfl rfl rfl (zaa hr.sq)) (hvQ rfl (vaQ rfl rfl rfl) (hvQ rfl (fdQ 2 rfl rfl rfl) (hvQ rfl (zae rfl rfl rfl (zac 0 rfl rfl)) (hvQ rfl (lnQ rfl rfl rfl (zaa hr.an)) (hvQ rfl (vaQ rfl rfl rfl) (zbf 1 rfl ?_))))))
 exact zav (zbi rfl rfl rfl)
theorem l08First_yes (n : Nt) (w : World) (hr : RdsNt w n) (hn : NtOk n) :
   Calls Try.prog 58 #[.agg #[.int .i64 n.ins, n.sv, n.av, n.ov]] w (Ans w (.int .i64 n.fst)) := by
 have hi0 := hn.i0
 have hi1 := hn.i1
 have hs1 := hn.s1
 have ha1 := hn.a1
 have ho1 := hn.o1
 have hcnt : n.cnt = 1 + n.ins + n.ss.length + n.gs.length := rfl
 have hfst : n.fst = 1 + n.ins + n.ss.length := rfl
 refine zba (N := 10) (args := [.agg #[.int .i64 n.ins, n.sv, n.av, n.ov]]) Try.func58 rfl rfl (srQ ?_)
 refine zea rfl (zcg rfl rfl) ?_
 intro b1
 refine zbf 1 rfl (srQ (hvQ rfl (fdQ 0 rfl rfl rfl) (hvQ rfl (zae rfl rfl rfl (zac 0 rfl rfl)) (hvQ rfl (vaQ rfl rfl rfl) (hvQ rfl (fdQ 1 rfl rfl rfl) (hvQ rfl (zae rfl rfl rfl (zac 0 rfl rfl)) (hvQ rfl (lnQ rfl rfl rfl (zaa hr.sq)) (hvQ rfl (vaQ rfl rfl rfl) (zai 1 rfl ?_)))))))))
 refine ntQ ?_
 exact zav (zbi rfl rfl rfl)
theorem l08Lit_yes (x m : Int) (w : World) (hx : LtOk x m) (hm : m ≤ 100000) :
   Calls Try.prog 57 #[.int .i64 x, .int .i64 m] w (Ans w (.bool true)) := by
 unfold LtOk at hx
 refine zba (N := 13) (args := [.int .i64 x, .int .i64 m]) Try.func57 rfl rfl (zbe 1 rfl (zab (reQ 1 rfl ?_)))
 refine hl_geq rfl rfl rfl rfl rfl rfl (fun h1 => ?_) (fun h1 => absurd h1 (by omega))
 refine zai 2 rfl (hvQ rfl (rv_quo rfl rfl rfl (by refine ⟨?_, ?_, ?_⟩ <;> omega)) ?_)
 refine zai 1 rfl (zbk rfl rfl rfl rfl rfl rfl (fun h2 => ?_) (fun h2 => absurd h2 (by omega)))
 refine zbf 2 rfl ?_
 exact zav (zbi rfl rfl rfl)
theorem l08Roots_ret (n : Nt) (w : World) (hr : RdsNt w n) (hn : NtOk n) :
   Calls Try.prog 56 #[.agg #[.int .i64 n.ins, n.sv, n.av, n.ov]] w (Ret w (fun v' post => post = [rowE 3 1 v' (rtsL n n.ss.length).length ((rtsL n n.ss.length).map (Value.int .i64))])) := by
 have hi0 := hn.i0
 have hi1 := hn.i1
 have hs1 := hn.s1
 have ha1 := hn.a1
 have ho1 := hn.o1
 have hcnt : n.cnt = 1 + n.ins + n.ss.length + n.gs.length := rfl
 have hfst : n.fst = 1 + n.ins + n.ss.length := rfl
 refine zba (N := 25) (args := [.agg #[.int .i64 n.ins, n.sv, n.av, n.ov]]) Try.func56 rfl rfl (srQ ?_)
 refine zea rfl (zcg rfl rfl) ?_
 intro b1
 refine zbf 1 rfl (srQ ?_)
 refine hrwQ rfl (zec (s := 1) rfl Try.underlying26 rfl) ?_
 intro g2
 refine hvQ rfl (fdQ 3 rfl rfl rfl) (hvQ rfl (zae rfl rfl rfl (zac 1 rfl rfl)) ?_)
 refine zck (i := 0) (z := .int .i64 0) (bytes := 8) (n' := n.os.length) (xs' := (n.os.map (Value.int .i64))) rfl rfl rfl rfl Try.underlying26 (by kernel_rfl) rfl rfl rfl rfl (zaa hr.ou) (zbv _) (by first | omega | (simp; done) | (simp; omega)) (Nat.zero_add _) (List.nil_append _) (fun _ => rfl) ?_
 intro v3
 refine zbf 1 rfl (zab (zbe 1 rfl (zau ?_)))
 refine lkQ3 (α := Nat) (β := Value) (γ := List Int) [0, 1, 2] rfl (fun k u zs => [rowE 3 1 u zs.length (zs.map (Value.int .i64)), boxE b1 #[.int .i64 n.ins, n.sv, n.av, n.ov] 28]) (fun k u zs => [(3, u), (4, .int .i64 (k : Int))]) (fun k u zs => k ≤ n.ss.length ∧ zs = rtsL n k) (fun k u zs => n.ss.length - k) 0 _ n.os ⟨by omega, by simp [rtsL]⟩ (saQ rfl) (pfQ rfl) ?_
 intro k u zs hi4
 obtain ⟨hk, hz⟩ := hi4
 have hzl : zs.length ≤ 16 + 4 * k := by rw [hz]; exact rts_len hn k hk
 refine zab (zab (reQ 1 rfl (hvQ rfl (fdQ 1 rfl rfl rfl) (hvQ rfl (zae rfl rfl rfl (zac 1 rfl rfl)) (hvQ rfl (lnQ rfl rfl rfl (zaa hr.sq)) ?_)))))
 refine zbk rfl rfl rfl rfl rfl rfl (fun h5 => ?_) (fun h5 => ?_)
 ·
  refine ntQ (zan rfl (zch (sbQ (reQ 1 rfl (hvQ rfl (fdQ 1 rfl rfl rfl) ?_)))))
  have hx4 := (hn.sq _ (zbc (d := sq0) (show k < n.ss.length by omega))).len
  refine hvQ rfl (zae rfl rfl rfl (zac 1 rfl rfl)) (zai 1 rfl (hvQ rfl (riQ 3 rfl rfl rfl rfl (zaa hr.sq)) (hvQ rfl (zaw (k0 := 2) rfl rfl rfl (zaa hr.sq) (by omega)) ?_)))
  refine hvQ rfl (zal (u := (n.ss.getD k sq0).iv) rfl rfl rfl (zaa hr.sq) ((zbj sqC 3 (fun _ => rfl) n.ss sq0 (show k < _ by omega) (by decide)).trans rfl)) (zck (i := 0) (z := .int .i64 0) (bytes := 8) rfl rfl rfl rfl Try.underlying26 (by kernel_rfl) rfl rfl rfl rfl (fun w hm => (hr.at (k := k) (by omega)).below hm.bel) (zbv _) (by first | omega | (simp; done) | (simp; omega)) (zca zs ((n.ss.getD k sq0).xs)) (zby zs ((n.ss.getD k sq0).xs)) (fun _ => rfl) ?_)
  intro v6
  refine enQ 1 rfl (zcj (reQ 1 rfl (hvQ rfl (vaQ rfl rfl rfl) (enQ 1 rfl ?_))))
  exact zbh (k + 1) v6 (zs ++ ((n.ss.getD k sq0).xs)) ⟨by omega, by rw [hz, rts_step n (by omega)]⟩ (by omega) (saQ rfl) (pfQ rfl)
 refine ntQ (zak rfl ?_)
 refine zbb (zda ?_)
 refine zad (zas (zbe 2 rfl ?_))
 exact zav (zcw (post := [rowE 3 1 u zs.length (zs.map (Value.int .i64))]) rfl rfl (slQ [0] rfl) (by rw [hz, show k = n.ss.length by omega]))
theorem zdt (n : Nt) (w : World) (hr : RdsNt w n) (hn : NtOk n) :
   Calls Try.prog 32 #[.agg #[.int .i64 n.ins, n.sv, n.av, n.ov]] w (Ans w (.bool true)) := by
 have hi0 := hn.i0
 have hi1 := hn.i1
 have hs1 := hn.s1
 have ha1 := hn.a1
 have ho1 := hn.o1
 have hcnt : n.cnt = 1 + n.ins + n.ss.length + n.gs.length := rfl
 have hfst : n.fst = 1 + n.ins + n.ss.length := rfl
 refine zba (N := 104) (args := [.agg #[.int .i64 n.ins, n.sv, n.av, n.ov]]) Try.func32 rfl rfl (srQ ?_)
 refine zea rfl (zcg rfl rfl) ?_
 intro b1
 refine zbf 1 rfl (srQ (hvQ rfl (zaz (cs := [.int .i64 n.ins, n.sv, n.av, n.ov]) rfl rfl rfl rfl rfl (zax 0 rfl 0 rfl)) ?_))
 refine zee rfl (zaj rfl rfl (fun w hm => zat (zem n w (hr.below hm.bel) hn))) (zbf 1 rfl (zab (zab (reQ 1 rfl ?_))))
 refine zcs rfl rfl rfl rfl rfl rfl (fun h2 => absurd h2 (by omega)) (fun h2 => ?_)
 refine ntQ (zak rfl (zch (zab (zbe 1 rfl (zau ?_)))))
 refine lkQ1 (α := Nat) [0, 1, 2, 3, 12] rfl (fun k => [boxE b1 #[.int .i64 n.ins, n.sv, n.av, n.ov] 28]) (fun k => [(4, .int .i64 (k : Int))]) (fun k => k ≤ n.ss.length) (fun k => n.ss.length - k) 0 (Nat.zero_le _) (saQ rfl) (pfQ rfl) ?_
 intro k hi3
 have hk := hi3
 refine zab (zab (reQ 1 rfl (hvQ rfl (fdQ 1 rfl rfl rfl) (hvQ rfl (zae rfl rfl rfl (zac 0 rfl rfl)) (hvQ rfl (lnQ rfl rfl rfl (zaa hr.sq)) ?_)))))
 refine zbk rfl rfl rfl rfl rfl rfl (fun h4 => ?_) (fun h4 => ?_)
 ·
  refine ntQ (zan rfl (zch (sbQ (srQ ?_))))
  have hqk := (hn.sq _ (zbc (d := sq0) (show k < n.ss.length by omega))).kind
  refine hvQ rfl (fdQ 1 rfl rfl rfl) (hvQ rfl (zae rfl rfl rfl (zac 0 rfl rfl)) (zai 1 rfl (hvQ rfl (riQ 3 rfl rfl rfl rfl (zaa hr.sq)) ?_)))
  refine hvQ rfl (zct (us := [.int .i64 ((n.ss.getD k sq0).kd), .int .i64 ((n.ss.getD k sq0).it), (n.ss.getD k sq0).iv]) rfl rfl rfl rfl (zaa hr.sq) (by omega) rfl (zdx sqC 3 (fun _ => rfl) n.ss sq0 (show k < _ by omega) rfl)) (zea rfl (zcf (z := .agg #[.int .i64 0, .int .i64 0, .slice none 0 0]) rfl rfl) ?_)
  intro b5
  refine zcp (cs' := #[.int .i64 ((n.ss.getD k sq0).kd), .int .i64 ((n.ss.getD k sq0).it), (n.ss.getD k sq0).iv]) (i := 0) (off := 0) (us := [.int .i64 ((n.ss.getD k sq0).kd), .int .i64 ((n.ss.getD k sq0).it), (n.ss.getD k sq0).iv]) rfl rfl rfl rfl rfl rfl rfl (zap rfl (zap rfl (zap (hr.at (k := k) (by omega)).one zce))) rfl rfl rfl (ntQ (srQ (hvQ rfl (fdQ 0 rfl rfl rfl) (hvQ rfl (zae rfl rfl rfl (zac 0 rfl rfl)) ?_))))
  refine zcs rfl rfl rfl rfl rfl rfl (fun h6 => ?_) (fun h6 => ?_)
  ·
   refine zai 1 rfl (hvQ rfl (fdQ 1 rfl rfl rfl) (hvQ rfl (zae rfl rfl rfl (zac 0 rfl rfl)) ?_))
   refine zee rfl (zaj rfl rfl (fun w hm => zat (zdz ((n.ss.getD k sq0).it) 0 1 w))) (zbo (fun h7 => ?_) (fun h7 => absurd ((((zcn _ _ _).2 (by omega))).symm.trans h7) (by decide)))
   refine zai 2 rfl (hvQ rfl (fdQ 2 rfl rfl rfl) (hvQ rfl (zae rfl rfl rfl (zac 0 rfl rfl)) ?_))
   refine hvQ rfl (lnQ rfl rfl rfl (fun w hm => (hr.at (k := k) (by omega)).below hm.bel)) (zcs rfl rfl rfl rfl rfl rfl (fun h8 => ?_) (fun h8 => ?_))
   ·
    refine zbf 18 rfl (fsQ rfl (zcj (reQ 1 rfl (hvQ rfl (vaQ rfl rfl rfl) (enQ 1 rfl ?_)))))
    exact zbr (k + 1) (by omega) (by omega) (saQ rfl) (slQ [1] rfl)
   refine zai 2 rfl (hvQ rfl (fdQ 0 rfl rfl rfl) (hvQ rfl (zae rfl rfl rfl (zac 0 rfl rfl)) ?_))
   refine zcs rfl rfl rfl rfl rfl rfl (fun h9 => ?_) (fun h9 => ?_)
   ·
    refine zai 1 rfl (hvQ rfl (fdQ 1 rfl rfl rfl) (hvQ rfl (zae rfl rfl rfl (zac 0 rfl rfl)) ?_))
    refine zee rfl (zaj rfl rfl (fun w hm => zat (zdz ((n.ss.getD k sq0).it) 0 31 w))) (zbo (fun h10 => ?_) (fun h10 => absurd ((((zcn _ _ _).2 (by omega))).symm.trans h10) (by decide)))
    refine zai 2 rfl (hvQ rfl (fdQ 2 rfl rfl rfl) (hvQ rfl (zae rfl rfl rfl (zac 0 rfl rfl)) ?_))
    refine hvQ rfl (lnQ rfl rfl rfl (fun w hm => (hr.at (k := k) (by omega)).below hm.bel)) (zcs rfl rfl rfl rfl rfl rfl (fun h11 => ?_) (fun h11 => ?_))
    ·
     refine zbf 3 rfl (fsQ rfl (zcj (reQ 1 rfl (hvQ rfl (vaQ rfl rfl rfl) (enQ 1 rfl ?_)))))
     exact zbr (k + 1) (by omega) (by omega) (saQ rfl) (slQ [1] rfl)
    refine zbf 3 rfl (zan rfl (zbe 1 rfl ?_))
    refine zav (zah ?_)
    refine rt2Q ?_
    refine zah (zam ?_)
    exfalso
    omega
   refine zbf 13 rfl (zan rfl ?_)
   refine zbe 1 rfl ?_
   refine zav (zah ?_)
   refine rt2Q ?_
   refine zah (zam ?_)
   exfalso
   omega
  refine zai 12 rfl (hvQ rfl (fdQ 0 rfl rfl rfl) (hvQ rfl (zae rfl rfl rfl (zac 0 rfl rfl)) ?_))
  refine zcs rfl rfl rfl rfl rfl rfl (fun h12 => ?_) (fun h12 => ?_)
  ·
   refine zai 1 rfl (hvQ rfl (fdQ 1 rfl rfl rfl) (hvQ rfl (zae rfl rfl rfl (zac 0 rfl rfl)) ?_))
   refine zee rfl (zaj rfl rfl (fun w hm => zat (zdz ((n.ss.getD k sq0).it) 0 31 w))) (zbo (fun h13 => ?_) (fun h13 => absurd ((((zcn _ _ _).2 (by omega))).symm.trans h13) (by decide)))
   refine zai 2 rfl (hvQ rfl (fdQ 2 rfl rfl rfl) (hvQ rfl (zae rfl rfl rfl (zac 0 rfl rfl)) ?_))
   refine hvQ rfl (lnQ rfl rfl rfl (fun w hm => (hr.at (k := k) (by omega)).below hm.bel)) (zcs rfl rfl rfl rfl rfl rfl (fun h14 => ?_) (fun h14 => ?_))
   ·
    refine zbf 3 rfl (fsQ rfl (zcj (reQ 1 rfl (hvQ rfl (vaQ rfl rfl rfl) (enQ 1 rfl ?_)))))
    exact zbr (k + 1) (by omega) (by omega) (saQ rfl) (slQ [1] rfl)
   refine zbf 3 rfl (zan rfl (zbe 1 rfl ?_))
   refine zav (zah ?_)
   refine rt2Q ?_
   refine zah (zam ?_)
   exfalso
   omega
  refine zbf 13 rfl (zan rfl ?_)
  refine zbe 1 rfl ?_
  refine zav (zah ?_)
  refine rt2Q ?_
  refine zah (zam ?_)
  exfalso
  omega
 refine ntQ (zak rfl ?_)
 refine zbb (zda ?_)
 refine zad (zas (srQ (hvQ rfl (zaz (cs := [.int .i64 n.ins, n.sv, n.av, n.ov]) rfl rfl rfl rfl rfl (zax 0 rfl 0 rfl)) ?_)))
 refine hl_q rfl rfl rfl (zaj rfl rfl (fun w hm => l08Roots_ret n w (hr.below hm.bel) hn)) ?_
 intro v15 p16 hR17
 subst hR17
 refine zbf 1 rfl (zab (zbe 1 rfl (zau ?_)))
 refine lkQ1 (α := Nat) [0, 1, 2, 3, 6, 12, 17] rfl (fun q => [rowE 3 1 v15 ((rtsL n n.ss.length).length) ((rtsL n n.ss.length).map (Value.int .i64)), boxE b1 #[.int .i64 n.ins, n.sv, n.av, n.ov] 28]) (fun q => [(7, .int .i64 (q : Int))]) (fun q => q ≤ (rtsL n n.ss.length).length) (fun q => (rtsL n n.ss.length).length - q) 0 (Nat.zero_le _) (saQ rfl) (pfQ rfl) ?_
 intro q hi18
 have hq := hi18
 refine ssrQ ?_
 have hzl := rts_len hn n.ss.length (Nat.le_refl _)
 refine zai 2 rfl (hvQ rfl (lnQ rfl rfl rfl (zao 0 rfl)) ?_)
 refine zbk rfl rfl rfl rfl rfl rfl (fun h19 => ?_) (fun h19 => ?_)
 ·
  refine ntQ (zan rfl (zch (sbQ (srQ ?_))))
  have hlk := rts_ok hn (i := q) (by omega)
  have hzl := rts_len hn n.ss.length (Nat.le_refl _)
  refine zai 2 rfl (hvQ rfl (riQ 1 rfl rfl rfl rfl (zao 0 rfl)) (hvQ rfl (zal (u := .int .i64 ((rtsL n n.ss.length).getD q 0)) rfl rfl rfl (zao 0 rfl) (zdm (show _ < (rtsL n n.ss.length).length by omega))) (zai 1 rfl ?_)))
  refine zee rfl (zaj rfl rfl (fun w hm => zat (l08Lit_yes ((rtsL n n.ss.length).getD q 0) n.cnt w (by first | assumption | (unfold LtOk; omega)) (by omega)))) (zbf 1 rfl (fsQ rfl (zcj (reQ 1 rfl (hvQ rfl (vaQ rfl rfl rfl) (enQ 1 rfl ?_))))))
  exact zbr (q + 1) (by omega) (by omega) (saQ rfl) (pfQ rfl)
 refine ntQ (zak rfl ?_)
 refine zbb (zda ?_)
 refine zad (zas (zab (zbe 1 rfl (zau ?_))))
 refine lkQ1 (α := Nat) [0, 1, 2, 3, 6, 12, 17, 61] rfl (fun j => [rowE 3 1 v15 ((rtsL n n.ss.length).length) ((rtsL n n.ss.length).map (Value.int .i64)), boxE b1 #[.int .i64 n.ins, n.sv, n.av, n.ov] 28]) (fun j => [(8, .int .i64 (j : Int))]) (fun j => j ≤ n.gs.length) (fun j => n.gs.length - j) 0 (Nat.zero_le _) (saQ rfl) (pfQ rfl) ?_
 intro j hi20
 have hj := hi20
 refine zab (zab (reQ 1 rfl (hvQ rfl (fdQ 2 rfl rfl rfl) (hvQ rfl (zae rfl rfl rfl (zac 1 rfl rfl)) (hvQ rfl (lnQ rfl rfl rfl (zaa hr.an)) ?_)))))
 refine zbk rfl rfl rfl rfl rfl rfl (fun h21 => ?_) (fun h21 => ?_)
 ·
  refine ntQ (zan rfl (zch (sbQ (zab ?_))))
  have hlj := hn.an j (by omega)
  obtain ⟨hlj1, hlj2⟩ := hlj
  refine zbd 26 [[], [0], [], [1, 2], [3], [4], [], [6], [], [7, 8], [5, 9], [10], [11], [12], [12, 13], [12], [12, 14, 15], [12, 16], [12, 17], [12], [12, 19], [12], [12, 20, 21], [12, 18, 22], [12, 23], [12, 24]] [78, 79, 80, 81, 82, 83, 84, 85, 86, 87, 88, 89, 90, 91, 92, 93, 94, 95, 96, 97, 98, 99, 100, 101, 102, 103] [.pointer (some ⟨b1, 0 + 2, none⟩), n.av, .int .i64 (j : Int), elP n.av (((j : Int)).toNat * 2), elP n.av (((j : Int)).toNat * 2 + 0), .int .i64 ((n.gs.getD j an0).a), .agg #[.int .i64 n.ins, n.sv, n.av, n.ov], .int .i64 n.fst, .int .i64 (j : Int), .int .i64 (n.fst + (j : Int)), .bool true, .bool false, .bool false, .pointer (some ⟨b1, 0 + 2, none⟩), n.av, .int .i64 (j : Int), elP n.av (((j : Int)).toNat * 2), elP n.av (((j : Int)).toNat * 2 + 1), .int .i64 ((n.gs.getD j an0).b), .agg #[.int .i64 n.ins, n.sv, n.av, n.ov], .int .i64 n.fst, .int .i64 (j : Int), .int .i64 (n.fst + (j : Int)), .bool true, .bool false, .bool false] (by kernel_rfl) rfl ?_ ?_
  ·
   exact ⟨iaQ rfl (fdQ 2 rfl rfl rfl) rfl, iaQ rfl (zae rfl rfl rfl (zac 1 rfl rfl)) rfl, iaQ rfl (zaf rfl) rfl, iaQ rfl (riQ 2 rfl rfl rfl rfl (zaa hr.an)) rfl, iaQ rfl (zaw (k0 := 0) rfl rfl rfl (zaa hr.an) (by omega)) rfl, iaQ rfl (zal (u := .int .i64 ((n.gs.getD j an0).a)) rfl rfl rfl (zaa hr.an) ((zbj anC 2 (fun _ => rfl) n.gs an0 (show j < _ by omega) (by decide)).trans rfl)) rfl, iaQ rfl (zaz (cs := [.int .i64 n.ins, n.sv, n.av, n.ov]) rfl rfl rfl rfl rfl (zax 1 rfl 0 rfl)) rfl, .inl ⟨rfl, zaj rfl rfl (fun w hm => zat (l08First_yes n w (hr.below hm.bel) hn))⟩, iaQ rfl (zaf rfl) rfl, iaQ rfl (vaQ rfl rfl rfl) rfl, .inl ⟨rfl, zaj (by kernel_rfl) rfl (fun w hm => zat (l08Lit_yes ((n.gs.getD j an0).a) (n.fst + (j : Int)) w (by first | assumption | (unfold LtOk; omega)) (by omega)))⟩, iaQ rfl (zaf rfl) rfl, iaQ rfl (zaf rfl) rfl, iaQ rfl (fdQ 2 rfl rfl rfl) rfl, iaQ rfl (zae rfl rfl rfl (zac 1 rfl rfl)) rfl, iaQ rfl (zaf rfl) rfl, iaQ rfl (riQ 2 rfl rfl rfl rfl (zaa hr.an)) rfl, iaQ rfl (zaw (k0 := 1) rfl rfl rfl (zaa hr.an) (by omega)) rfl, iaQ rfl (zal (u := .int .i64 ((n.gs.getD j an0).b)) rfl rfl rfl (zaa hr.an) ((zbj anC 2 (fun _ => rfl) n.gs an0 (show j < _ by omega) (by decide)).trans rfl)) rfl, iaQ rfl (zaz (cs := [.int .i64 n.ins, n.sv, n.av, n.ov]) rfl rfl rfl rfl rfl (zax 1 rfl 0 rfl)) rfl, .inl ⟨rfl, zaj rfl rfl (fun w hm => zat (l08First_yes n w (hr.below hm.bel) hn))⟩, iaQ rfl (zaf rfl) rfl, iaQ rfl (vaQ rfl rfl rfl) rfl, .inl ⟨rfl, zaj (by kernel_rfl) rfl (fun w hm => zat (l08Lit_yes ((n.gs.getD j an0).b) (n.fst + (j : Int)) w (by first | assumption | (unfold LtOk; omega)) (by omega)))⟩, iaQ rfl (zaf rfl) rfl, iaQ rfl (zaf rfl) rfl, trivial⟩
  simp only [List.drop_succ_cons, List.drop_zero]
  refine ntQ (fsQ rfl (zcj (reQ 1 rfl (hvQ rfl (vaQ rfl rfl rfl) (enQ 1 rfl ?_)))))
  exact zbr (j + 1) (by omega) (by omega) (saQ rfl) (pfQ rfl)
 refine ntQ (zak rfl ?_)
 refine zbb (zda ?_)
 refine zad (zas (zbe 1 rfl ?_))
 exact zav (zbi rfl rfl rfl)
theorem SeqNext_zero (kd v : Int) (w : World) (hs0 : kd = 0 ∨ kd = 1) (hs1 : 0 ≤ v ∧ v ≤ 31) (hs2 : kd = 0 → v ≤ 1) :
   Calls Try.prog 63 #[.int .i64 kd, .int .i64 v, .int .i64 0] w (Ans w (.int .i64 (seqZ kd v))) := by
 refine zba (N := 49) (args := [.int .i64 kd, .int .i64 v, .int .i64 0]) Try.func63 rfl rfl (zbe 1 rfl (zab (zab (reQ 1 rfl ?_))))
 refine zcs rfl rfl rfl rfl rfl rfl (fun h1 => ?_) (fun h1 => ?_)
 ·
  refine zai 2 rfl (zee rfl (zaj rfl rfl (fun w hm => zat (zdz v 0 1 w))) ?_)
  refine zbo (fun h2 => ?_) (fun h2 => absurd ((((zcn _ _ _).2 (by omega))).symm.trans h2) (by decide))
  refine zbf 1 rfl (zan rfl (zab (reQ 1 rfl (hvQ rfl (zcl rfl (by decide) rfl rfl (r := 0) (by decide)) (zbf 1 rfl ?_)))))
  refine zav (zam ?_)
  exact zbi rfl rfl (congrArg _ (show _ = seqZ kd v by unfold seqZ; first | rw [if_pos (by omega)] | (rw [if_neg (by omega)] <;> omega)))
 refine zbf 4 rfl (zak rfl (zch (zab (zab (reQ 1 rfl ?_)))))
 refine zeq rfl rfl rfl rfl rfl rfl (fun h3 => ?_) (fun h3 => ?_)
 ·
  refine zbf 5 rfl (zan rfl (zbe 1 rfl ?_))
  refine zav (zam ?_)
  exfalso
  omega
 refine zai 2 rfl (zee rfl (zaj rfl rfl (fun w hm => zat (zdz v 0 31 w))) ?_)
 refine zbo (fun h4 => ?_) (fun h4 => absurd ((((zcn _ _ _).2 (by omega))).symm.trans h4) (by decide))
 refine zbf 2 rfl (zak rfl (zch (zab (reQ 1 rfl (hvQ rfl (zcl rfl (by decide) rfl rfl (r := 0) (by decide)) (hvQ rfl (vaQ rfl rfl rfl) (zai 1 rfl (?_))))))))
 refine ntQ (zab (reQ 1 rfl (hvQ rfl (zcl rfl (by decide) rfl rfl (r := v - v % 2) (andNot_small hs1.1 hs1.2)) (zai 2 rfl (hvQ rfl (rv_shr rfl rfl rfl (by omega)) ?_)))))
 rw [show (v / 2 ^ (0 + 1 : Int).toNat : Int) = v / 2 from rfl]
 refine hvQ rfl (zcl rfl (by decide) rfl rfl (r := (v / 2) % 2) (Bit.and_one _ (by omega) (by omega))) (hvQ rfl (vaQ rfl rfl rfl) (zbf 1 rfl (zab (zab (reQ 1 rfl (hvQ rfl (rv_shr rfl rfl rfl (by omega)) (hvQ rfl (zcl rfl (by decide) rfl rfl (r := 0) (by decide)) ?_)))))))
 refine zcs rfl rfl rfl rfl rfl rfl (fun h5 => absurd h5 (by omega)) (fun h5 => ?_)
 refine ntQ (zak rfl (zch (zbe 2 rfl ?_)))
 exact zav (zbi rfl rfl (congrArg _ (show _ = seqZ kd v by unfold seqZ; first | rw [if_pos (by omega)] | (rw [if_neg (by omega)] <;> omega))))
theorem specStateOk_yes (n : Nt) (st : List Int) (v : Value) (w : World) (hr : RdsNt w n) (hn : NtOk n) (hst : RdsW w v 1 st.length (st.map (Value.int .i64))) (hso : StOk n st) :
   Calls Try.prog 59 #[.agg #[.int .i64 n.ins, n.sv, n.av, n.ov], v] w (Ans w (.bool true)) := by
 have hi0 := hn.i0
 have hi1 := hn.i1
 have hs1 := hn.s1
 have ha1 := hn.a1
 have ho1 := hn.o1
 have hcnt : n.cnt = 1 + n.ins + n.ss.length + n.gs.length := rfl
 have hfst : n.fst = 1 + n.ins + n.ss.length := rfl
 have hsl := hso.len
 refine zba (N := 35) (args := [.agg #[.int .i64 n.ins, n.sv, n.av, n.ov], v]) Try.func59 rfl rfl (srQ ?_)
 refine zea rfl (zcg rfl rfl) ?_
 intro b1
 refine zbf 1 rfl (ssrQ (hvQ rfl (zaz (cs := [.int .i64 n.ins, n.sv, n.av, n.ov]) rfl rfl rfl rfl rfl (zax 0 rfl 0 rfl)) ?_))
 refine zee rfl (zaj rfl rfl (fun w hm => zat (zdt n w (hr.below hm.bel) hn))) (zai 3 rfl (hvQ rfl (lnQ rfl rfl rfl (zaa hst)) (hvQ rfl (fdQ 1 rfl rfl rfl) (hvQ rfl (zae rfl rfl rfl (zac 0 rfl rfl)) (hvQ rfl (lnQ rfl rfl rfl (zaa hr.sq)) ?_)))))
 refine zeq rfl rfl rfl rfl rfl rfl (fun h2 => absurd h2 (by omega)) (fun h2 => ?_)
 refine zbf 1 rfl (zak rfl (zch (zab (zbe 1 rfl ?_))))
 refine zau ?_
 refine lkQ1 (α := Nat) [0, 1, 2, 4, 16] rfl (fun k => [boxE b1 #[.int .i64 n.ins, n.sv, n.av, n.ov] 28]) (fun k => [(5, .int .i64 (k : Int))]) (fun k => k ≤ st.length) (fun k => st.length - k) 0 (Nat.zero_le _) (saQ rfl) (pfQ rfl) ?_
 intro k hi3
 have hk := hi3
 refine zab (zab (reQ 2 rfl (hvQ rfl (lnQ rfl rfl rfl (zaa hst)) ?_)))
 refine zbk rfl rfl rfl rfl rfl rfl (fun h4 => ?_) (fun h4 => ?_)
 ·
  refine ntQ (zan rfl (zch (sbQ (zab ?_))))
  have hqk := (hn.sq _ (zbc (d := sq0) (show k < n.ss.length by omega))).kind
  have hsk := hso.rng k (by omega)
  have hzz := seqZ_pos (kd := (n.ss.getD k sq0).kd) hsk.1
  have hb5 : (decide (seqZ ((n.ss.getD k sq0).kd) (st.getD k 0) < 0)) = false := decide_eq_false (by omega)
  refine zbd 12 [[], [0], [], [1, 2], [3], [4], [], [], [6, 7], [8], [5, 9], [10]] [23, 24, 25, 26, 27, 28, 29, 30, 31, 32, 33, 34] [.pointer (some ⟨b1, 0 + 1, none⟩), n.sv, .int .i64 (k : Int), elP n.sv (((k : Int)).toNat * 3), elP n.sv (((k : Int)).toNat * 3 + 0), .int .i64 ((n.ss.getD k sq0).kd), v, .int .i64 (k : Int), elP v (((k : Int)).toNat * 1), .int .i64 (st.getD k 0), .int .i64 (seqZ ((n.ss.getD k sq0).kd) (st.getD k 0)), .bool false] (by kernel_rfl) rfl ?_ ?_
  ·
   exact ⟨iaQ rfl (fdQ 1 rfl rfl rfl) rfl, iaQ rfl (zae rfl rfl rfl (zac 0 rfl rfl)) rfl, iaQ rfl (zaf rfl) rfl, iaQ rfl (riQ 3 rfl rfl rfl rfl (zaa hr.sq)) rfl, iaQ rfl (zaw (k0 := 0) rfl rfl rfl (zaa hr.sq) (by omega)) rfl, iaQ rfl (zal (u := .int .i64 ((n.ss.getD k sq0).kd)) rfl rfl rfl (zaa hr.sq) ((zbj sqC 3 (fun _ => rfl) n.ss sq0 (show k < _ by omega) (by decide)).trans rfl)) rfl, iaQ rfl (zaf rfl) rfl, iaQ rfl (zaf rfl) rfl, iaQ rfl (riQ 1 rfl rfl rfl rfl (zaa hst)) rfl, iaQ rfl (liQ rfl rfl rfl (zaa hst)) rfl, .inl ⟨rfl, zaj rfl rfl (fun w hm => zat (SeqNext_zero ((n.ss.getD k sq0).kd) (st.getD k 0) w (by omega) (by omega) (by omega)))⟩, .inl ⟨rfl, zbx (zbl rfl rfl rfl rfl) hb5⟩, trivial⟩
  simp only [List.drop_succ_cons, List.drop_zero]
  refine ntQ (fsQ rfl (zcj (reQ 1 rfl (hvQ rfl (vaQ rfl rfl rfl) (enQ 1 rfl ?_)))))
  exact zbr (k + 1) (by omega) (by omega) (saQ rfl) (pfQ rfl)
 refine ntQ (zak rfl ?_)
 refine zbb (zda ?_)
 refine zad (zas (zbe 1 rfl ?_))
 exact zav (zbi rfl rfl rfl)
theorem zdy (xs : List Int) (l : Int) (v : Value) (w : World) (hv : RdsW w v 1 xs.length (xs.map (Value.int .i64))) (hl : 0 ≤ l ∧ l < 2 * xs.length) (h01 : xs.getD (l / 2).toNat 0 = 0 ∨ xs.getD (l / 2).toNat 0 = 1) (hlen : xs.length ≤ 100000) :
   Calls Try.prog 37 #[v, .int .i64 l] w (Ans w (.int .i64 (bitL xs l))) := by
 refine zba (N := 13) (args := [v, .int .i64 l]) Try.func37 rfl rfl (zbe 1 rfl (zab (reQ 2 rfl ?_)))
 refine hvQ rfl (rv_quo rfl rfl rfl (by refine ⟨?_, ?_, ?_⟩ <;> omega)) ?_
 refine hvQ rfl (riQ 1 rfl rfl rfl rfl (zaa hv)) (hvQ rfl (lzQ rfl rfl rfl (zaa hv)) (zai 1 rfl (hvQ rfl (zcl rfl (by decide) rfl rfl (r := l % 2) (Bit.and_one _ (by omega) (by omega))) (hvQ rfl (zcl rfl (by decide) rfl rfl (r := bitL xs l) (xor01 h01)) (zbf 1 rfl ?_)))))
 exact zav (zbi rfl rfl rfl)
theorem shr_rng {inp : Int} (h : 0 ≤ inp ∧ inp ≤ 4294967295) (k : Nat) : 0 ≤ inp / 2 ^ k ∧ inp / 2 ^ k < 4294967296 := by
  have hp : (0 : Int) < 2 ^ k := Int.pow_pos (by decide)
  have h1 := Int.ediv_nonneg h.1 (Int.le_of_lt hp)
  have h2 := Int.ediv_le_self (2 ^ k) h.1
  omega
theorem specNodeValues_ret (n : Nt) (st : List Int) (v : Value) (inp : Int) (w : World) (hr : RdsNt w n) (hn : NtOk n) (hst : RdsW w v 1 st.length (st.map (Value.int .i64))) (hso : StOk n st) (hin : 0 ≤ inp ∧ inp ≤ 4294967295) :
   Calls Try.prog 36 #[.agg #[.int .i64 n.ins, n.sv, n.av, n.ov], v, .int .i64 inp] w (Ret w (fun v' post => post = [rowE 3 1 v' (valsL n st inp).length ((valsL n st inp).map (Value.int .i64))])) := by
 have hi0 := hn.i0
 have hi1 := hn.i1
 have hs1 := hn.s1
 have ha1 := hn.a1
 have ho1 := hn.o1
 have hcnt : n.cnt = 1 + n.ins + n.ss.length + n.gs.length := rfl
 have hfst : n.fst = 1 + n.ins + n.ss.length := rfl
 have hsl := hso.len
 refine zba (N := 82) (args := [.agg #[.int .i64 n.ins, n.sv, n.av, n.ov], v, .int .i64 inp]) Try.func36 rfl rfl (srQ ?_)
 refine zea rfl (zcg rfl rfl) ?_
 intro b1
 refine zbf 1 rfl (ssrQ (hvQ rfl (zaz (cs := [.int .i64 n.ins, n.sv, n.av, n.ov]) rfl rfl rfl rfl rfl (zax 0 rfl 0 rfl)) (zai 1 rfl ?_)))
 refine zee rfl (zaj rfl rfl (fun w hm => zat (specStateOk_yes n st v w (hr.below hm.bel) hn (hst.below hm.bel) hso))) (zbf 1 rfl (zak rfl (zch (srQ (hvQ rfl (zaz (cs := [.int .i64 n.ins, n.sv, n.av, n.ov]) rfl rfl rfl rfl rfl (zax 0 rfl 0 rfl)) ?_)))))
 refine zee rfl (zaj rfl rfl (fun w hm => zat (zem n w (hr.below hm.bel) hn))) (hrwQ rfl (rq_make (z := .int .i64 0) (s := 1) (bytes := 8) (n := (List.replicate (n.cnt).toNat (0 : Int)).length) (cs := ((List.replicate (n.cnt).toNat (0 : Int)).map (Value.int .i64))) rfl Try.underlying26 rfl (by decide) rfl rfl (by first | (rw [List.length_replicate]; done) | (rw [List.length_replicate]; omega)) (by first | (rw [List.length_replicate]; done) | (rw [List.length_replicate]; omega)) (by rw [List.length_replicate]; omega) (ints_make _)) ?_)
 intro g2
 refine zbf 1 rfl (zab (zbe 1 rfl (zau ?_)))
 refine lkQ2 (α := Nat) (β := List Int) [0, 1, 2, 3, 6, 7, 14] rfl (fun k zs => [rowE 3 1 (.slice (some ⟨g2, 0, none⟩) ((List.replicate (n.cnt).toNat (0 : Int)).length) ((List.replicate (n.cnt).toNat (0 : Int)).length)) zs.length (zs.map (Value.int .i64)), boxE b1 #[.int .i64 n.ins, n.sv, n.av, n.ov] 28]) (fun k zs => [(8, .int .i64 (k : Int))]) (fun k zs => (k : Int) ≤ n.ins ∧ zs = fillZ n.cnt.toNat (preA n inp k)) (fun k zs => (n.ins).toNat - k) 0 (List.replicate n.cnt.toNat (0 : Int)) ⟨by omega, fill_one (by omega)⟩ (saQ rfl) (pfQ rfl) ?_
 intro k zs hi3
 obtain ⟨hk, hz⟩ := hi3
 have hzl : zs.length = n.cnt.toNat := by rw [hz]; exact zfa (by rw [zeu]; omega)
 refine zab (zab (reQ 1 rfl (hvQ rfl (fdQ 0 rfl rfl rfl) (hvQ rfl (zae rfl rfl rfl (zac 1 rfl rfl)) ?_))))
 refine zbk rfl rfl rfl rfl rfl rfl (fun h4 => ?_) (fun h4 => ?_)
 ·
  refine (zbw (zas (zan rfl (hc_skip (zas (zab (zau (zar (zai 2 rfl (hvQ rfl (vaQ rfl rfl rfl) (zai 2 rfl (hvQ rfl (rv_shr rfl rfl rfl (by omega)) (hvQ rfl (zcl rfl (by decide) rfl rfl (r := inp / 2 ^ k % 2) (by rw [show (inp / 2 ^ ((k : Int)).toNat : Int) = inp / 2 ^ k by rw [Int.toNat_natCast]]; exact Bit.and_one _ (shr_rng hin k).1 (shr_rng hin k).2)) ?_)))))))))))))
  refine hvQ rfl (riQ 1 rfl rfl rfl rfl (zao 0 rfl)) (zeo (i := 0) (n' := (zs.set ((1 + (k : Int)).toNat) (inp / 2 ^ k % 2)).length) (xs' := ((zs.set ((1 + (k : Int)).toNat) (inp / 2 ^ k % 2)).map (Value.int .i64))) rfl rfl rfl rfl rfl rfl rfl rfl (by first | omega | (simp only [List.length_set]; omega)) List.length_set.symm (zdl _ _ _) rfl ?_)
  refine zbw (zcj (reQ 1 rfl (hvQ rfl (vaQ rfl rfl rfl) (enQ 1 rfl ?_))))
  exact zbg (k + 1) (zs.set ((1 + (k : Int)).toNat) (inp / 2 ^ k % 2)) ⟨by omega, by rw [hz]; exact (zdn (by rw [zeu]; omega) (by rw [zeu]; omega)).trans (by rw [preA_step])⟩ (by omega) (saQ rfl) (pfQ rfl)
 refine ntQ (zak rfl ?_)
 refine zbb (zda ?_)
 refine zad (zas (zab (zbe 1 rfl (zau ?_))))
 refine lkQ2 (α := Nat) (β := List Int) [0, 1, 2, 3, 6, 7, 14, 22] rfl (fun k zs => [rowE 3 1 (.slice (some ⟨g2, 0, none⟩) ((List.replicate (n.cnt).toNat (0 : Int)).length) ((List.replicate (n.cnt).toNat (0 : Int)).length)) zs.length (zs.map (Value.int .i64)), boxE b1 #[.int .i64 n.ins, n.sv, n.av, n.ov] 28]) (fun k zs => [(9, .int .i64 (k : Int))]) (fun k zs => (k : Int) ≤ (st.length : Int) ∧ zs = fillZ n.cnt.toNat (preB n st inp k)) (fun k zs => ((st.length : Int)).toNat - k) 0 zs ⟨by omega, by rw [hz, show k = n.ins.toNat by omega, preB_zero n st inp]⟩ (saQ rfl) (pfQ rfl) ?_
 intro k zs hi5
 obtain ⟨hk, hz⟩ := hi5
 have hzl : zs.length = n.cnt.toNat := by rw [hz]; exact zfa (by rw [preB_len n st inp (by omega)]; omega)
 refine zab (zab (reQ 2 rfl (hvQ rfl (lnQ rfl rfl rfl (zaa hst)) ?_)))
 refine zbk rfl rfl rfl rfl rfl rfl (fun h6 => ?_) (fun h6 => ?_)
 ·
  refine ntQ (zan rfl (zch (sbQ ?_)))
  have hsk := hso.rng k (by omega)
  refine zbd 12 [[], [], [1], [2], [], [3, 4], [], [], [6, 7], [8], [9], [0, 5]] [39, 40, 41, 42, 43, 44, 45, 46, 47, 48, 49, 50] [.slice (some ⟨g2, 0, none⟩) ((List.replicate (n.cnt).toNat (0 : Int)).length) ((List.replicate (n.cnt).toNat (0 : Int)).length), .pointer (some ⟨b1, 0 + 0, none⟩), .int .i64 n.ins, .int .i64 (1 + n.ins), .int .i64 (k : Int), .int .i64 ((1 + n.ins) + (k : Int)), v, .int .i64 (k : Int), elP v (((k : Int)).toNat * 1), .int .i64 (st.getD k 0), .int .i64 ((st.getD k 0) % 2), elP (.slice (some ⟨g2, 0, none⟩) ((List.replicate (n.cnt).toNat (0 : Int)).length) ((List.replicate (n.cnt).toNat (0 : Int)).length)) (((1 + n.ins) + (k : Int)).toNat * 1)] (by kernel_rfl) rfl ?_ ?_
  ·
   exact ⟨iaQ rfl (zaf rfl) rfl, iaQ rfl (fdQ 0 rfl rfl rfl) rfl, iaQ rfl (zae rfl rfl rfl (zac 1 rfl rfl)) rfl, iaQ rfl (vaQ rfl rfl rfl) rfl, iaQ rfl (zaf rfl) rfl, iaQ rfl (vaQ rfl rfl rfl) rfl, iaQ rfl (zaf rfl) rfl, iaQ rfl (zaf rfl) rfl, iaQ rfl (riQ 1 rfl rfl rfl rfl (zaa hst)) rfl, iaQ rfl (liQ rfl rfl rfl (zaa hst)) rfl, iaQ rfl (zcl rfl (by decide) rfl rfl (r := (st.getD k 0) % 2) (Bit.and_one _ (by omega) (by omega))) rfl, iaQ rfl (riQ 1 rfl rfl rfl rfl (zao 0 rfl)) rfl, trivial⟩
  simp only [List.drop_succ_cons, List.drop_zero]
  refine zeo (i := 0) (n' := (zs.set (((1 + n.ins) + (k : Int)).toNat) ((st.getD k 0) % 2)).length) (xs' := ((zs.set (((1 + n.ins) + (k : Int)).toNat) ((st.getD k 0) % 2)).map (Value.int .i64))) rfl rfl rfl rfl rfl rfl rfl rfl (by first | omega | (simp only [List.length_set]; omega)) List.length_set.symm (zdl _ _ _) rfl (zbw (zcj (reQ 1 rfl (hvQ rfl (vaQ rfl rfl rfl) (enQ 1 rfl ?_)))))
  exact zbg (k + 1) (zs.set (((1 + n.ins) + (k : Int)).toNat) ((st.getD k 0) % 2)) ⟨by omega, by rw [hz]; exact (zdn (by rw [preB_len n st inp (by omega)]; omega) (by rw [preB_len n st inp (by omega)]; omega)).trans (by rw [preB_step n st inp (by omega)])⟩ (by omega) (saQ rfl) (pfQ rfl)
 refine ntQ (zak rfl ?_)
 refine zbb (zda ?_)
 refine zad (zas (zab (zbe 1 rfl (zau ?_))))
 refine lkQ2 (α := Nat) (β := List Int) [0, 1, 2, 3, 6, 7, 14, 22, 36] rfl (fun k zs => [rowE 3 1 (.slice (some ⟨g2, 0, none⟩) ((List.replicate (n.cnt).toNat (0 : Int)).length) ((List.replicate (n.cnt).toNat (0 : Int)).length)) zs.length (zs.map (Value.int .i64)), boxE b1 #[.int .i64 n.ins, n.sv, n.av, n.ov] 28]) (fun k zs => [(10, .int .i64 (k : Int))]) (fun k zs => (k : Int) ≤ (n.gs.length : Int) ∧ zs = fillZ n.cnt.toNat (valL n st inp k)) (fun k zs => ((n.gs.length : Int)).toNat - k) 0 zs ⟨by omega, by rw [hz, show k = st.length by omega, preB_end]⟩ (saQ rfl) (pfQ rfl) ?_
 intro k zs hi7
 obtain ⟨hk, hz⟩ := hi7
 have hzl : zs.length = n.cnt.toNat := by rw [hz]; exact zfa (by rw [zdi n st inp k (by omega)]; omega)
 have hvl := zdi n st inp k (by omega)
 have hv01 := val01 hn hsl inp k (by omega)
 refine zab (zab (reQ 1 rfl (hvQ rfl (fdQ 2 rfl rfl rfl) (hvQ rfl (zae rfl rfl rfl (zac 1 rfl rfl)) (hvQ rfl (lnQ rfl rfl rfl (zaa hr.an)) ?_)))))
 refine zbk rfl rfl rfl rfl rfl rfl (fun h8 => ?_) (fun h8 => ?_)
 ·
  refine ntQ (zan rfl (zch (sbQ ?_)))
  have hak := hn.an k (by omega)
  obtain ⟨⟨hA0, hA1⟩, hC0, hC1⟩ := id hak
  have hg1 : zs.getD ((n.gs.getD k an0).a / 2).toNat 0 = (valL n st inp k).getD ((n.gs.getD k an0).a / 2).toNat 0 := by rw [hz]; exact fill_get (by omega)
  have hg2 : zs.getD ((n.gs.getD k an0).b / 2).toNat 0 = (valL n st inp k).getD ((n.gs.getD k an0).b / 2).toNat 0 := by rw [hz]; exact fill_get (by omega)
  have hA : zs.getD ((n.gs.getD k an0).a / 2).toNat 0 = 0 ∨ zs.getD ((n.gs.getD k an0).a / 2).toNat 0 = 1 := by rw [hg1]; exact hv01 _ (by omega)
  have hB : zs.getD ((n.gs.getD k an0).b / 2).toNat 0 = 0 ∨ zs.getD ((n.gs.getD k an0).b / 2).toNat 0 = 1 := by rw [hg2]; exact hv01 _ (by omega)
  have hB1 : bitL zs (n.gs.getD k an0).a = bitL (valL n st inp k) (n.gs.getD k an0).a := by unfold bitL; rw [hg1]
  have hB2 : bitL zs (n.gs.getD k an0).b = bitL (valL n st inp k) (n.gs.getD k an0).b := by unfold bitL; rw [hg2]
  have hP1 : bitL zs (n.gs.getD k an0).a = 0 ∨ bitL zs (n.gs.getD k an0).a = 1 := by rw [hB1]; exact bit01 hv01 hA0 (by omega)
  have hP2 : bitL zs (n.gs.getD k an0).b = 0 ∨ bitL zs (n.gs.getD k an0).b = 1 := by rw [hB2]; exact bit01 hv01 hC0 (by omega)
  refine zbd 23 [[], [], [1], [], [2, 3], [], [], [6], [], [7, 8], [9], [10], [5, 11], [], [], [14], [], [15, 16], [17], [18], [13, 19], [12, 20], [0, 4]] [58, 59, 60, 61, 62, 63, 64, 65, 66, 67, 68, 69, 70, 71, 72, 73, 74, 75, 76, 77, 78, 79, 80] [.slice (some ⟨g2, 0, none⟩) ((List.replicate (n.cnt).toNat (0 : Int)).length) ((List.replicate (n.cnt).toNat (0 : Int)).length), .agg #[.int .i64 n.ins, n.sv, n.av, n.ov], .int .i64 n.fst, .int .i64 (k : Int), .int .i64 (n.fst + (k : Int)), .slice (some ⟨g2, 0, none⟩) ((List.replicate (n.cnt).toNat (0 : Int)).length) ((List.replicate (n.cnt).toNat (0 : Int)).length), .pointer (some ⟨b1, 0 + 2, none⟩), n.av, .int .i64 (k : Int), elP n.av (((k : Int)).toNat * 2), elP n.av (((k : Int)).toNat * 2 + 0), .int .i64 ((n.gs.getD k an0).a), .int .i64 (bitL zs ((n.gs.getD k an0).a)), .slice (some ⟨g2, 0, none⟩) ((List.replicate (n.cnt).toNat (0 : Int)).length) ((List.replicate (n.cnt).toNat (0 : Int)).length), .pointer (some ⟨b1, 0 + 2, none⟩), n.av, .int .i64 (k : Int), elP n.av (((k : Int)).toNat * 2), elP n.av (((k : Int)).toNat * 2 + 1), .int .i64 ((n.gs.getD k an0).b), .int .i64 (bitL zs ((n.gs.getD k an0).b)), .int .i64 ((bitL zs ((n.gs.getD k an0).a)) * (bitL zs ((n.gs.getD k an0).b))), elP (.slice (some ⟨g2, 0, none⟩) ((List.replicate (n.cnt).toNat (0 : Int)).length) ((List.replicate (n.cnt).toNat (0 : Int)).length)) ((n.fst + (k : Int)).toNat * 1)] (by kernel_rfl) rfl ?_ ?_
  ·
   exact ⟨iaQ rfl (zaf rfl) rfl, iaQ rfl (zaz (cs := [.int .i64 n.ins, n.sv, n.av, n.ov]) rfl rfl rfl rfl rfl (zax 1 rfl 0 rfl)) rfl, .inl ⟨rfl, zaj rfl rfl (fun w hm => zat (l08First_yes n w (hr.below hm.bel) hn))⟩, iaQ rfl (zaf rfl) rfl, iaQ rfl (vaQ rfl rfl rfl) rfl, iaQ rfl (zaf rfl) rfl, iaQ rfl (fdQ 2 rfl rfl rfl) rfl, iaQ rfl (zae rfl rfl rfl (zac 1 rfl rfl)) rfl, iaQ rfl (zaf rfl) rfl, iaQ rfl (riQ 2 rfl rfl rfl rfl (zaa hr.an)) rfl, iaQ rfl (zaw (k0 := 0) rfl rfl rfl (zaa hr.an) (by omega)) rfl, iaQ rfl (zal (u := .int .i64 ((n.gs.getD k an0).a)) rfl rfl rfl (zaa hr.an) ((zbj anC 2 (fun _ => rfl) n.gs an0 (show k < _ by omega) (by decide)).trans rfl)) rfl, .inl ⟨rfl, zaj rfl rfl (fun w hm => zat (zdy zs ((n.gs.getD k an0).a) _ w ((zao 0 rfl) w hm) (by omega) (by first | assumption | omega) (by omega)))⟩, iaQ rfl (zaf rfl) rfl, iaQ rfl (fdQ 2 rfl rfl rfl) rfl, iaQ rfl (zae rfl rfl rfl (zac 1 rfl rfl)) rfl, iaQ rfl (zaf rfl) rfl, iaQ rfl (riQ 2 rfl rfl rfl rfl (zaa hr.an)) rfl, iaQ rfl (zaw (k0 := 1) rfl rfl rfl (zaa hr.an) (by omega)) rfl, iaQ rfl (zal (u := .int .i64 ((n.gs.getD k an0).b)) rfl rfl rfl (zaa hr.an) ((zbj anC 2 (fun _ => rfl) n.gs an0 (show k < _ by omega) (by decide)).trans rfl)) rfl, .inl ⟨rfl, zaj rfl rfl (fun w hm => zat (zdy zs ((n.gs.getD k an0).b) _ w ((zao 0 rfl) w hm) (by omega) (by first | assumption | omega) (by omega)))⟩, iaQ rfl (zcl rfl (by decide) rfl rfl (r := (bitL zs ((n.gs.getD k an0).a)) * (bitL zs ((n.gs.getD k an0).b))) (and01 hP1 hP2)) rfl, iaQ rfl (riQ 1 rfl rfl rfl rfl (zao 0 rfl)) rfl, trivial⟩
  simp only [List.drop_succ_cons, List.drop_zero]
  refine zeo (i := 0) (n' := (zs.set ((n.fst + (k : Int)).toNat) ((bitL zs ((n.gs.getD k an0).a)) * (bitL zs ((n.gs.getD k an0).b)))).length) (xs' := ((zs.set ((n.fst + (k : Int)).toNat) ((bitL zs ((n.gs.getD k an0).a)) * (bitL zs ((n.gs.getD k an0).b)))).map (Value.int .i64))) rfl rfl rfl rfl rfl rfl rfl rfl (by first | omega | (simp only [List.length_set]; omega)) List.length_set.symm (zdl _ _ _) rfl (zbw (zcj (reQ 1 rfl (hvQ rfl (vaQ rfl rfl rfl) (enQ 1 rfl ?_)))))
  exact zbg (k + 1) (zs.set ((n.fst + (k : Int)).toNat) ((bitL zs ((n.gs.getD k an0).a)) * (bitL zs ((n.gs.getD k an0).b)))) ⟨by omega, by rw [hB1, hB2, hz, show (n.fst + (k : Int)).toNat = (valL n st inp k).length by omega, val_step n st inp (by omega)]; exact zdn rfl (by omega)⟩ (by omega) (saQ rfl) (pfQ rfl)
 refine ntQ (zak rfl ?_)
 refine zbb (zda ?_)
 refine zad (zas (zbe 2 rfl ?_))
 exact zav (zcw (post := [rowE 3 1 (.slice (some ⟨g2, 0, none⟩) ((List.replicate (n.cnt).toNat (0 : Int)).length) ((List.replicate (n.cnt).toNat (0 : Int)).length)) zs.length (zs.map (Value.int .i64))]) rfl rfl (slQ [0] rfl) (by rw [hz, show k = n.gs.length by omega, fill_all (by rw [zdi n st inp _ (Nat.le_refl _)]; omega)]))
def tauOk4 (os : List Oper) (m K : Nat) (dps qd : List (List Nat)) (tau : List (Option Nat)) (fl : List Nat) : Bool :=
  (List.range m).all (fun i => (qd.getD i []).all (fun j => ((dps.getD i []).contains j || (Nat.ble os.length j && Nat.blt j (os.length + K))) && (List.range m).all (fun k => tau.getD k none != some j || (k != i && ((msk ((List.range os.length).map (depsOf os)) []).getD k 0).testBit i))) && decide ((qd.getD i []).Nodup)) &&
  (List.range m).all (fun i => match tau.getD i none with | none => true | some h => ((Nat.ble os.length h && Nat.blt h (os.length + K)) || (dps.getD i []).contains h) && (List.range m).all (fun k => k == i || tau.getD k none != some h)) &&
  fl.all (fun j => (Nat.blt j m || (Nat.ble os.length j && Nat.blt j (os.length + K))) && (List.range m).all (fun k => tau.getD k none != some j)) && decide fl.Nodup
section
variable {P : Program} {N : Nat} {w0 : World} {l : List HP} {env : List (Nat × Value)} {Q : Post} {os : List Oper} {m : Nat} {dps : List (List Nat)} {dsts : List (Option Nat)} {R : Nat → List Value → Value → List HP → Prop}
structure Mid4 (N : Nat) (w0 : World) (l : List HP) (env : List (Nat × Value)) (os : List Oper) (m : Nat) (dps : List (List Nat)) (dsts : List (Option Nat)) (R : Nat → List Value → Value → List HP → Prop) (tau : List (Option Nat)) (P0 : List (List HP)) (listed : Array Bool) (ord held : List Nat) (vf : Nat → Value) (pf : Nat → List HP) (a : Act) (w : World) : Prop where
  size : listed.size = os.length
  iff : ∀ i, i < os.length → (listed.getD i true = true ↔ i ∈ ord)
  low : ∀ i ∈ ord, i < m
  closed : ∀ i ∈ ord, ∀ j ∈ depsOf os i, j ∈ ord
  nodup : ord.Nodup
  dcl : ∀ i ∈ ord, ∀ j ∈ dps.getD i [], j ∈ ord
  rel : ∀ i ∈ ord, R i ((dps.getD i []).map vf) (vf i) (pf i)
  hn : held.Nodup
  hin : ∀ i ∈ held, i ∈ ord ∨ (os.length ≤ i ∧ i < os.length + P0.length)
  hall : ∀ i, (i ∈ ord ∨ (os.length ≤ i ∧ i < os.length + P0.length)) → (∀ j ∈ ord, tau.getD j none ≠ some i) → i ∈ held
  hP : ∀ k, k < P0.length → pf (os.length + k) = P0.getD k []
  mem : Mem w0 (held.flatMap pf ++ l) w
  asize : a.tmps.size = N
  defers : a.defers = []
  env : ∀ d v, lk env d = some v → a.tmps[d]? = some v
  slots : ∀ i ∈ ord, ∀ d, dsts[i]? = some (some d) → a.tmps[d]? = some (vf i)
theorem Mid4.st {tau P0 listed ord held vf pf a w} (h : Mid4 N w0 l env os m dps dsts R tau P0 listed ord held vf pf a w) (hm : m ≤ dsts.length) {is : List Nat} (hs : ∀ j ∈ is, j ∈ ord) {L : List HP} (hM : Mem w0 L w) : St N w0 L (envOf3 dsts vf is ++ env) a w := by
  refine ⟨hM, h.asize, h.defers, fun d v hd => ?_⟩
  rcases lk_append _ _ _ _ hd with h1 | h1
  · unfold envOf3 at h1
    rw [List.mem_filterMap] at h1
    obtain ⟨i, hi, he⟩ := h1
    rw [Option.map_eq_some_iff] at he
    obtain ⟨d', hd', he⟩ := he
    simp only [Prod.mk.injEq] at he
    obtain ⟨rfl, rfl⟩ := he
    have : dsts[i]? = some (some d') := by
      rw [List.getD_eq_getElem?_getD] at hd'
      cases hx : dsts[i]? with
      | none => rw [hx] at hd'; cases hd'
      | some y => rw [hx] at hd'; exact congrArg some hd'
    exact h.slots i (hs i hi) _ this
  · exact h.env d v h1
theorem hc_drawn4 {id : Nat} (hmix : P.follows .mixedOrders = true) (m : Nat) (dps : List (List Nat)) (dsts : List (Option Nat)) (R : Nat → List Value → Value → List HP → Prop) (qd : List (List Nat)) (tau : List (Option Nat)) (P0 : List (List HP)) (fl : List Nat) (hok : drawOk3 os m dps dsts = true) (htau : tauOk4 os m P0.length dps qd tau fl = true) (hfresh : dsts.all (fun d => match d with | some d => (lk env d).isNone | none => true) = true) (hN : dsts.all (fun d => match d with | some d => Nat.blt d N | none => true) = true)
    (due : ∀ i o, os[i]? = some o → i < m → ∀ vf pf, (∀ k, k < P0.length → pf (os.length + k) = P0.getD k []) → (∀ j ∈ dps.getD i [], R j ((dps.getD j []).map vf) (vf j) (pf j)) → Obl2 P os.toArray N w0 (tau.getD i none) pf ((qd.getD i []).flatMap pf ++ l) (envOf3 dsts vf (dps.getD i []) ++ env) o (R i ((dps.getD i []).map vf)))
    (fin : ∀ vf pf, (∀ k, k < P0.length → pf (os.length + k) = P0.getD k []) → (∀ i, i < m → R i ((dps.getD i []).map vf) (vf i) (pf i)) → HL P N os.toArray w0 (fl.flatMap pf ++ l) (envOf3 dsts vf (List.range m) ++ env) (os.drop m) Q) : HC P N w0 (P0.flatten ++ l) env (.region id os.toArray true) Q := by
  intro a w st
  refine wp_region_any hmix ?_
  simp only [drawOk3, Bool.and_eq_true, Nat.ble_eq, List.all_eq_true, List.mem_range, Bool.or_eq_true, Nat.blt_eq, beq_iff_eq, decide_eq_true_eq, Array.all_eq_true', bne_iff_ne] at hok
  obtain ⟨⟨⟨⟨⟨⟨hml, hback⟩, hcov⟩, hready⟩, hdst⟩, hdn⟩, hdp⟩ := hok
  simp only [tauOk4, Bool.and_eq_true, List.all_eq_true, List.mem_range, Bool.or_eq_true, Nat.blt_eq, Nat.ble_eq, beq_iff_eq, bne_iff_ne, decide_eq_true_eq, List.contains_iff_mem] at htau
  obtain ⟨⟨⟨hqd, hth⟩, hfl⟩, hfn⟩ := htau
  have hml' : m ≤ dsts.length := by have := congrArg List.length hdst; simp at this; omega
  have hlen : dsts.length = m := by have := congrArg List.length hdst; simp at this; omega
  have hrdy : ∀ k, m ≤ k → k < os.length → Region.ready .any os.toArray (preT os.length k) = [k] := fun k h1 h2 => by
    have := hready (k - m) (by omega)
    rw [show m + (k - m) = k by omega] at this
    exact this
  have hmsk : ∀ i j, ((msk ((List.range os.length).map (depsOf os)) []).getD i 0).testBit j = true → Dep os i j := msk_dep os _ _ (fun t ds ht d hd => by
    rw [List.getElem?_map] at ht
    by_cases h : t < os.length
    · rw [List.getElem?_range h] at ht; simp at ht; subst ht; simpa using hd
    · rw [List.getElem?_eq_none (by simp; omega)] at ht; cases ht) (fun i j h => by simp at h)
  have dstAt : ∀ i, i < m → ∀ o, os[i]? = some o → o.dst = dsts.getD i none := fun i hi o ho => by
    have h1 : ((os.take m).map (·.dst))[i]? = some o.dst := by rw [List.getElem?_map, List.getElem?_take, if_pos hi, ho]; rfl
    rw [hdst] at h1
    rw [List.getD_eq_getElem?_getD, h1]; rfl
  -- what may come up
  have key : ∀ (f : Nat) (listed : Array Bool) (ord held : List Nat) (vf : Nat → Value) (pf : Nat → List HP) (a : Act) (w : World), f + ord.length = os.length → Mid4 N w0 l env os m dps dsts R tau P0 listed ord held vf pf a w → wpAny P .any os.toArray Q f listed a w := by
    intro f
    induction f with
    | zero =>
      intro listed ord held vf pf a w hf h
      -- all are listed: m = the length
      have hall : ∀ i, i < os.length → i ∈ ord := by
        intro i hi
        have hsub : ord.Perm (List.range os.length) ∨ True := .inr trivial
        obtain ⟨r, hr⟩ := zcr ord (List.range os.length) h.nodup (fun j hj => by have := h.low j hj; simp; omega)
        have hl := hr.length_eq
        simp at hl
        have : r = [] := List.length_eq_zero_iff.1 (by omega)
        subst this
        have := hr.mem_iff.1 (List.mem_range.2 hi)
        simpa using this
      have hm2 : m = os.length := by
        by_cases hc : m < os.length
        · have := h.low m (hall m hc); omega
        · omega
      have hp : listed = preT os.length m := by
        apply Array.ext
        · rw [h.size, zcq _ _ hml]
        · intro i h1 h2
          have hi : i < os.length := by rw [h.size] at h1; exact h1
          have e1 := (h.iff i hi).2 (hall i hi)
          have e2 := zdv os.length m i hml hi
          rw [Array.getD_eq_getD_getElem?, Array.getElem?_eq_getElem h1] at e1
          rw [Array.getD_eq_getD_getElem?, Array.getElem?_eq_getElem h2] at e2
          simp only [Option.getD_some] at e1 e2
          rw [e1, e2]; simp; omega
      rw [hp]
      refine zes hrdy 0 m (Nat.le_refl _) (by omega) a w ?_
      exact fin vf pf h.hP (fun i hi => h.rel i (hall i (by omega))) a w (h.st hml' (fun j hj => hall j (by rw [List.mem_range] at hj; omega)) (h.mem.pick hfn (fun j hj => h.hall j ((hfl j hj).1.imp (fun hlt => hall j (by omega)) (fun x => x)) (fun k hk => (hfl j hj).2 k (h.low k hk)))))
    | succ f ih =>
      intro listed ord held vf pf a w hf h
      by_cases hall : ∀ i, i < m → i ∈ ord
      · -- the tail's turn
        have hp : listed = preT os.length m := by
          apply Array.ext
          · rw [h.size, zcq _ _ hml]
          · intro i h1 h2
            have hi : i < os.length := by rw [h.size] at h1; exact h1
            have e1 := h.iff i hi
            have e2 := zdv os.length m i hml hi
            rw [Array.getD_eq_getD_getElem?, Array.getElem?_eq_getElem h1] at e1
            rw [Array.getD_eq_getD_getElem?, Array.getElem?_eq_getElem h2] at e2
            simp only [Option.getD_some] at e1 e2
            rw [e2, Bool.eq_iff_iff, e1, decide_eq_true_eq]
            exact ⟨fun hx => h.low i hx, fun hx => hall i hx⟩
        have hord : ord.length = m := by
          obtain ⟨r, hr⟩ := zcr ord (List.range m) h.nodup (fun j hj => by have := h.low j hj; simpa using this)
          obtain ⟨r', hr'⟩ := zcr (List.range m) ord List.nodup_range (fun j hj => hall j (by simpa using hj))
          have h1 := hr.length_eq
          have h2 := hr'.length_eq
          simp at h1 h2
          omega
        rw [hp]
        refine zes hrdy (f + 1) m (Nat.le_refl _) (by omega) a w ?_
        exact fin vf pf h.hP (fun i hi => h.rel i (hall i hi)) a w (h.st hml' (fun j hj => hall j (by simpa using hj)) (h.mem.pick hfn (fun j hj => h.hall j ((hfl j hj).1.imp (fun hlt => hall j hlt) (fun x => x)) (fun k hk => (hfl j hj).2 k (h.low k hk)))))
      · -- some quiet one is not done yet
        have hsome : ∃ i, i < m ∧ i ∉ ord := by
          by_cases hx : ∃ i, i < m ∧ i ∉ ord
          · exact hx
          · exact absurd (fun i hi => Decidable.byContradiction fun hn => hx ⟨i, hi, hn⟩) hall
        have mem_rdy : ∀ i, i ∈ Region.ready .any os.toArray listed ↔ i < os.length ∧ i ∉ ord ∧ ∀ j ∈ depsOf os i, j ∈ ord := by
          intro i
          unfold Region.ready
          rw [List.mem_filter, List.mem_range]
          simp only [List.size_toArray]
          constructor
          · rintro ⟨hi, hb⟩
            rw [Bool.and_eq_true] at hb
            have hno : i ∉ ord := fun hx => by rw [(h.iff i hi).2 hx] at hb; simp at hb
            refine ⟨hi, hno, fun j hj => ?_⟩
            have ho : os.toArray[i]? = some os[i] := by simp [hi]
            rw [ho] at hb
            simp only [Option.map_some, Option.getD_some, Array.all_eq_true'] at hb
            unfold depsOf at hj
            rw [List.getElem?_eq_getElem hi] at hj
            simp only [List.mem_map, List.mem_filter] at hj
            obtain ⟨e, ⟨he, hbd⟩, rfl⟩ := hj
            have hb2 := hb.2 e (by simpa using he)
            rw [hbd] at hb2
            simp at hb2
            have hlt := hback i hi e.on (by unfold depsOf; rw [List.getElem?_eq_getElem hi]; exact List.mem_map.2 ⟨e, List.mem_filter.2 ⟨he, hbd⟩, rfl⟩)
            refine (h.iff e.on (by omega)).1 ?_
            have hs : e.on < listed.size := by rw [h.size]; omega
            rw [Array.getD_eq_getD_getElem?, Array.getElem?_eq_getElem hs] 
            simp only [Option.getD_some]
            rw [Array.getElem?_eq_getElem hs] at hb2
            simpa using hb2
          · rintro ⟨hi, hno, hd⟩
            refine ⟨hi, ?_⟩
            have ho : os.toArray[i]? = some os[i] := by simp [hi]
            rw [ho]
            simp only [Option.map_some, Option.getD_some, Bool.and_eq_true, Array.all_eq_true']
            refine ⟨?_, fun e he => ?_⟩
            · cases hb : listed.getD i true with
              | true => exact absurd ((h.iff i hi).1 hb) hno
              | false => rfl
            · rw [Bool.or_eq_true]
              by_cases hbd : Region.binds .any e = true
              rotate_left
              · left; simpa using hbd
              right
              have hon : e.on ∈ depsOf os i := by unfold depsOf; rw [List.getElem?_eq_getElem hi]; exact List.mem_map.2 ⟨e, List.mem_filter.2 ⟨by simpa using he, hbd⟩, rfl⟩
              have hlt := hback i hi e.on hon
              have := (h.iff e.on (by omega)).2 (hd e.on hon)
              have hs : e.on < listed.size := by rw [h.size]; omega
              rw [Array.getD_eq_getD_getElem?, Array.getElem?_eq_getElem hs] at this
              simp only [Option.getD_some] at this
              rw [Array.getD_eq_getD_getElem?, Array.getElem?_eq_getElem hs]
              simpa using this
        have hdep : ∀ k j, Dep os k j → (∀ d ∈ depsOf os k, d ∈ ord) → j ∈ ord := by
          intro k j hd
          induction hd with
          | one hj => intro hx; exact hx _ hj
          | more hk _ ih2 => intro hx; exact ih2 (fun d hd => h.closed _ (hx _ hk) d hd)
        have hlow : ∀ i ∈ Region.ready .any os.toArray listed, i < m := by
          intro i hi
          obtain ⟨h1, h2, h3⟩ := (mem_rdy i).1 hi
          by_cases hc : i < m
          · exact hc
          · exfalso
            obtain ⟨q, hq, hqn⟩ := hsome
            rcases hcov i h1 with h4 | h4
            · exact hc h4
            · exact hqn (hdep i q (hmsk i q (h4 q hq)) h3)
        refine ⟨fun h0 => ?_, fun i hi => ?_⟩
        · -- the least one that is not done may come up
          exfalso
          obtain ⟨q, hq, hqn⟩ := hsome
          obtain ⟨p, hp, hmin⟩ := exists_least (p := fun i => i < m ∧ i ∉ ord) ⟨q, hq, hqn⟩
          have : p ∈ Region.ready .any os.toArray listed := by
            rw [mem_rdy]
            refine ⟨by omega, hp.2, fun j hj => ?_⟩
            have hlt := hback p (by omega) j hj
            apply Decidable.byContradiction
            intro hn
            have := hmin j ⟨by omega, hn⟩
            omega
          rw [h0] at this
          cases this
        · have him := hlow i hi
          obtain ⟨h1, h2, h3⟩ := (mem_rdy i).1 hi
          have ho : os[i]? = some os[i] := List.getElem?_eq_getElem h1
          have hdps := hdp i him
          have hsub : ∀ j ∈ dps.getD i [], j ∈ ord := fun j hj => hdep i j (hmsk i j (hdps.1 j hj)) h3
          have hqi := hqd i him
          have hqheld : ∀ j ∈ qd.getD i [], j ∈ held := fun j hj => h.hall j ((hqi.1 j hj).1.imp (hsub j) (fun x => x)) (fun k hk => by
            rcases (hqi.1 j hj).2 k (h.low k hk) with h5 | ⟨-, h6⟩
            · exact h5
            · exact absurd (hdep k i (hmsk k i h6) (h.closed k hk)) h2)
          have hobl := due i os[i] ho him vf pf h.hP (fun j hj => h.rel j (hsub j hj))
          have hdd := dstAt i him _ ho
          have hdlt : ∀ d, dsts.getD i none = some d → d < N := fun d hd => by
            have := List.all_eq_true.1 hN (some d) (by rw [← hd, List.getD_eq_getElem?_getD, List.getElem?_eq_getElem (by omega)]; exact List.getElem_mem _)
            simpa [Nat.blt_eq] using this
          have hdnone : ∀ d, dsts.getD i none = some d → lk env d = none := fun d hd => by
            have := List.all_eq_true.1 hfresh (some d) (by rw [← hd, List.getD_eq_getElem?_getD, List.getElem?_eq_getElem (by omega)]; exact List.getElem_mem _)
            simpa using this
          have hne : ∀ j ∈ ord, j ≠ i := fun j hj e => h2 (e ▸ hj)
          have hneh : ∀ j ∈ held, j ≠ i := fun j hj e => by
            rcases h.hin j hj with h5 | h5
            · exact hne j h5 e
            · omega
          have next : ∀ (held' : List Nat) v post w', held'.Nodup → (∀ k ∈ held', k ∈ i :: ord ∨ (os.length ≤ k ∧ k < os.length + P0.length)) → (∀ k, (k ∈ i :: ord ∨ (os.length ≤ k ∧ k < os.length + P0.length)) → (∀ j ∈ i :: ord, tau.getD j none ≠ some k) → k ∈ held') → R i ((dps.getD i []).map vf) v post →
              Mem w0 (held'.flatMap (fun k => if k = i then post else pf k) ++ l) w' → wpAny P .any os.toArray Q f (listed.setIfInBounds i true) (a.put (dsts.getD i none) v) w' := by
            intro held' v post w' hh1 hh2 hh3 hv hm
            refine ih (listed.setIfInBounds i true) (i :: ord) held' (fun k => if k = i then v else vf k) (fun k => if k = i then post else pf k) _ w' (by simp; omega) ⟨?_, ?_, ?_, ?_, ?_, ?_, ?_, hh1, hh2, hh3, ?_, hm, ?_, ?_, ?_, ?_⟩
            · simp [h.size]
            · intro k hk
              by_cases hki : k = i
              · subst hki
                have hs : k < listed.size := by rw [h.size]; exact hk
                simp [Array.getD_eq_getD_getElem?, hs]
              · rw [getD_set_ne true (fun e => hki e.symm), h.iff k hk]
                simp [hki]
            · intro k hk; rcases List.mem_cons.1 hk with rfl | hk; exact him; exact h.low k hk
            · intro k hk j hj
              rcases List.mem_cons.1 hk with rfl | hk
              · exact List.mem_cons_of_mem _ (h3 j hj)
              · exact List.mem_cons_of_mem _ (h.closed k hk j hj)
            · exact List.nodup_cons.2 ⟨h2, h.nodup⟩
            · intro k hk j hj
              rcases List.mem_cons.1 hk with rfl | hk
              · exact List.mem_cons_of_mem _ (hsub j hj)
              · exact List.mem_cons_of_mem _ (h.dcl k hk j hj)
            · intro k hk
              rcases List.mem_cons.1 hk with rfl | hk
              · have e : (dps.getD k []).map (fun j => if j = k then v else vf j) = (dps.getD k []).map vf := List.map_congr_left fun j hj => if_neg (hne j (hsub j hj))
                rw [e, if_pos rfl, if_pos rfl]; exact hv
              · have e : (dps.getD k []).map (fun j => if j = i then v else vf j) = (dps.getD k []).map vf := List.map_congr_left fun j hj => if_neg (hne j (h.dcl k hk j hj))
                rw [e, if_neg (hne k hk), if_neg (hne k hk)]; exact h.rel k hk
            · intro k hk; rw [if_neg (by omega)]; exact h.hP k hk
            · cases hdi : dsts.getD i none <;> simp [Act.put, h.asize]
            · cases hdi : dsts.getD i none <;> exact h.defers
            · intro d u hd
              cases hdi : dsts.getD i none with
              | none => exact h.env d u hd
              | some d0 =>
                have hdne : d0 ≠ d := fun e => by rw [← e, hdnone _ hdi] at hd; cases hd
                simp only [Act.put]
                rw [Array.getElem?_setIfInBounds_ne hdne]
                exact h.env d u hd
            · intro k hk d hd
              cases hdi : dsts.getD i none with
              | none =>
                rcases List.mem_cons.1 hk with rfl | hk
                · rw [List.getD_eq_getElem?_getD, hd] at hdi; cases hdi
                · show a.tmps[d]? = _
                  rw [if_neg (hne k hk)]; exact h.slots k hk d hd
              | some d0 =>
                have hlt : d0 < a.tmps.size := by rw [h.asize]; exact hdlt _ hdi
                rcases List.mem_cons.1 hk with rfl | hk
                · have : d = d0 := by rw [List.getD_eq_getElem?_getD, hd] at hdi; exact Option.some.inj hdi
                  subst this
                  simp only [Act.put, if_true]
                  simp only [Array.getElem?_setIfInBounds_self_of_lt hlt]
                · have hdne : d0 ≠ d := by
                    intro e
                    have hk2 : k < dsts.length := (List.getElem?_eq_some_iff.1 hd).1
                    have hdk : dsts.getD k none = some d := by rw [List.getD_eq_getElem?_getD, hd]; rfl
                    rcases hdn i him k (by omega) with (hx | hx) | hx
                    · exact hne k hk hx.symm
                    · rw [hdi] at hx; cases hx
                    · exact hx (by rw [hdi, hdk, e])
                  simp only [Act.put]
                  rw [Array.getElem?_setIfInBounds_ne hdne, if_neg (hne k hk)]
                  exact h.slots k hk d hd
          unfold wpOp
          have hoa : os.toArray[i]? = some os[i] := by simp [h1]
          rw [hoa]
          simp only
          have hpost : ∀ (hs : List Nat) (post : List HP), (∀ k ∈ hs, k ≠ i) → (i :: hs).flatMap (fun k => if k = i then post else pf k) = post ++ hs.flatMap pf := fun hs post hx => by
            rw [List.flatMap_cons, if_pos rfl]
            congr 1
            rw [List.flatMap_def, List.flatMap_def]
            congr 1
            exact List.map_congr_left fun k hk => if_neg (hx k hk)
          cases ht : tau.getD i none with
          | none =>
            rw [ht] at hobl
            have hst := h.st hml' hsub (h.mem.pick hqi.2 hqheld)
            have next1 : ∀ v post w', R i ((dps.getD i []).map vf) v post → Mem w post w' → wpAny P .any os.toArray Q f (listed.setIfInBounds i true) (a.put (dsts.getD i none) v) w' := fun v post w' hv hm => by
              refine next (i :: held) v post w' (List.nodup_cons.2 ⟨fun hx => hneh i hx rfl, h.hn⟩) (fun k hk => ?_) (fun k hk hk2 => ?_) hv ?_
              · rcases List.mem_cons.1 hk with rfl | hk
                · exact .inl List.mem_cons_self
                · exact (h.hin k hk).imp (List.mem_cons_of_mem _) (fun x => x)
              · by_cases hki : k = i
                · rw [hki]; exact List.mem_cons_self
                · refine List.mem_cons_of_mem _ (h.hall k (hk.imp (fun hx => by rcases List.mem_cons.1 hx with hx | hx; exact absurd hx hki; exact hx) (fun x => x)) (fun j hj => hk2 j (List.mem_cons_of_mem _ hj)))
              · rw [hpost held post hneh, List.append_assoc]; exact h.mem.app hm
            rcases hobl with ⟨hw, hq⟩ | ⟨hw, hq⟩
            · rw [if_pos (hst.wanted hw)]
              refine .inl (hq a w hst Q _ fun v post w' hv hm => ?_)
              rw [hdd]
              exact next1 v post w' hv hm
            · rw [if_neg (by rw [hst.wanted hw]; decide), hdd]
              exact next1 undef [] w hq (Mem.refl w)
          | some hh =>
            rw [ht] at hobl
            have hth2 := hth i him
            rw [ht] at hth2
            simp only [Bool.and_eq_true, Bool.or_eq_true, Nat.ble_eq, Nat.blt_eq, beq_iff_eq, List.all_eq_true, List.mem_range, bne_iff_ne, List.contains_iff_mem] at hth2
            have hheld : hh ∈ held := h.hall hh (hth2.1.symm.imp (fun hx => hsub hh hx) (fun x => x)) (fun k hk => (hth2.2 k (h.low k hk)).resolve_left (hne k hk))
            have hperm := List.perm_cons_erase hheld
            have hmem : Mem w0 (pf hh ++ ((held.erase hh).flatMap pf ++ l)) w := by
              have := h.mem.perm ((hperm.flatMap_right pf).append_right l)
              rwa [List.flatMap_cons, List.append_assoc] at this
            have hnin : hh ∉ qd.getD i [] := fun hx => by
              rcases (hqi.1 hh hx).2 i him with h5 | ⟨h5, -⟩
              · exact h5 ht
              · exact h5 rfl
            have hconv : ∀ w, Mem w0 ((held.erase hh).flatMap pf ++ l) w → Mem w0 ((qd.getD i []).flatMap pf ++ l) w := fun w hm => hm.pick hqi.2 (fun j hj => (List.mem_erase_of_ne (fun (e : j = hh) => hnin (by rw [← e]; exact hj))).2 (hqheld j hj))
            have hst := h.st hml' hsub hmem
            have hneh2 : ∀ k ∈ held.erase hh, k ≠ i := fun k hk => hneh k (List.mem_of_mem_erase hk)
            have next2 : ∀ v post w', R i ((dps.getD i []).map vf) v post → Mem w0 (post ++ ((held.erase hh).flatMap pf ++ l)) w' → wpAny P .any os.toArray Q f (listed.setIfInBounds i true) (a.put (dsts.getD i none) v) w' := fun v post w' hv hm => by
              refine next (i :: held.erase hh) v post w' (List.nodup_cons.2 ⟨fun hx => hneh2 i hx rfl, h.hn.erase hh⟩) (fun k hk => ?_) (fun k hk hk2 => ?_) hv ?_
              · rcases List.mem_cons.1 hk with rfl | hk
                · exact .inl List.mem_cons_self
                · exact (h.hin k (List.mem_of_mem_erase hk)).imp (List.mem_cons_of_mem _) (fun x => x)
              · by_cases hki : k = i
                · rw [hki]; exact List.mem_cons_self
                · have hkh : k ≠ hh := fun e => hk2 i List.mem_cons_self (by rw [ht, e])
                  exact List.mem_cons_of_mem _ ((List.mem_erase_of_ne hkh).2 (h.hall k (hk.imp (fun hx => by rcases List.mem_cons.1 hx with hx | hx; exact absurd hx hki; exact hx) (fun x => x)) (fun j hj => hk2 j (List.mem_cons_of_mem _ hj))))
              · rw [hpost _ post hneh2, List.append_assoc]; exact hm
            rcases hobl with ⟨hw, hq⟩ | ⟨hw, hq⟩
            · rw [if_pos (hst.wanted hw)]
              refine .inl (hq _ hconv a w hst Q _ fun v post w' hv hm => ?_)
              rw [hdd]
              exact next2 v post w' hv hm
            · rw [if_neg (by rw [hst.wanted hw]; decide), hdd]
              exact next2 undef (pf hh) w hq hmem
  refine key os.length (Array.replicate os.length false) [] ((List.range P0.length).map (os.length + ·)) (fun _ => undef) (fun k => if os.length ≤ k then P0.getD (k - os.length) [] else []) a _ (by simp) ⟨by simp, ?_, by simp, by simp, by simp, by simp, by simp, ?_, ?_, ?_, ?_, ?_, st.size, st.defers, st.env, by simp⟩
  · intro i hi; simp [hi]
  · exact nodup_shift _ _
  · intro i hi
    simp only [List.mem_map, List.mem_range] at hi
    obtain ⟨k, hk, rfl⟩ := hi
    exact .inr ⟨by omega, by omega⟩
  · rintro i (hi | ⟨h1, h2⟩) _
    · cases hi
    · simp only [List.mem_map, List.mem_range]; exact ⟨i - os.length, by omega, by omega⟩
  · intro k hk; rw [if_pos (by omega), Nat.add_sub_cancel_left]
  · have e : ((List.range P0.length).map (os.length + ·)).flatMap (fun k => if os.length ≤ k then P0.getD (k - os.length) [] else []) = P0.flatten := by
      rw [List.flatMap_map]
      have : (fun a : Nat => (if os.length ≤ os.length + a then P0.getD (os.length + a - os.length) [] else [])) = fun a => P0.getD a [] := by
        funext a; rw [if_pos (by omega), Nat.add_sub_cancel_left]
      rw [List.flatMap_def]
      rw [show (List.map (fun a : Nat => (if os.length ≤ os.length + a then P0.getD (os.length + a - os.length) [] else [])) (List.range P0.length)) = P0 from by rw [this]; exact range_getD P0]
    rw [e]; exact st.mem.drawn _
def Dues4 (P : Program) (ops : Array Oper) (N : Nat) (w0 : World) (l : List HP) (env : List (Nat × Value)) (P0 : List (List HP)) (mu : Nat) (dsts : List (Option Nat)) (all qall : List (List Nat)) (tau : List (Option Nat)) (R : Nat → List Value → Value → List HP → Prop) : Nat → List (List Nat) → List Oper → Prop
  | _, _, [] => True
  | k, dss, o :: os => (∀ (vf : Nat → Value) (pf : Nat → List HP), (∀ k, k < P0.length → pf (mu + k) = P0.getD k []) → (∀ j ∈ all.getD k [], R j ((all.getD j []).map vf) (vf j) (pf j)) → Obl2 P ops N w0 (tau.getD k none) pf ((qall.getD k []).flatMap pf ++ l) (envOf3 dsts vf (all.getD k []) ++ env) o (R k ((all.getD k []).map vf))) ∧ Dues4 P ops N w0 l env P0 mu dsts all qall tau R (k + 1) dss os
theorem dues4_at {P : Program} {ops : Array Oper} {N : Nat} {w0 : World} {l : List HP} {env : List (Nat × Value)} {P0 : List (List HP)} {mu : Nat} {dsts : List (Option Nat)} {all qall : List (List Nat)} {tau : List (Option Nat)} {R : Nat → List Value → Value → List HP → Prop} : ∀ (os : List Oper) (dss : List (List Nat)) (k : Nat), Dues4 P ops N w0 l env P0 mu dsts all qall tau R k dss os → ∀ i o, os[i]? = some o → ∀ vf pf, (∀ k, k < P0.length → pf (mu + k) = P0.getD k []) → (∀ j ∈ all.getD (k + i) [], R j ((all.getD j []).map vf) (vf j) (pf j)) → Obl2 P ops N w0 (tau.getD (k + i) none) pf ((qall.getD (k + i) []).flatMap pf ++ l) (envOf3 dsts vf (all.getD (k + i) []) ++ env) o (R (k + i) ((all.getD (k + i) []).map vf))
  | [], _, _, _, i, o, ho, _, _, _, _ => by simp at ho
  | o' :: os, dss, k, h, 0, o, ho, vf, pf, hP, hR => by simp at ho; subst ho; exact h.1 vf pf hP hR
  | o' :: os, dss, k, h, i + 1, o, ho, vf, pf, hP, hR => by
    have e : k + 1 + i = k + (i + 1) := by omega
    have := dues4_at os dss (k + 1) h.2 i o (by simpa using ho) vf pf hP (by rw [e]; exact hR)
    rwa [e] at this
theorem hc_draw4 {id : Nat} (hmix : P.follows .mixedOrders = true) (m : Nat) (qs : List Nat) (quiet tail : List Oper) (dps : List (List Nat)) (dsts : List (Option Nat)) (R : Nat → List Value → Value → List HP → Prop) (qd : List (List Nat)) (tau : List (Option Nat)) (P0 : List (List HP)) (fl : List Nat) (mu : Nat)
    (hos : os = quiet ++ tail) (hq : (Nat.beq quiet.length m && (List.range m == qs) && Nat.beq os.length mu) = true) (hok : drawOk3 os m dps dsts = true) (htau : tauOk4 os m P0.length dps qd tau fl = true) (hfresh : dsts.all (fun d => match d with | some d => (lk env d).isNone | none => true) = true) (hN : dsts.all (fun d => match d with | some d => Nat.blt d N | none => true) = true)
    (due : Dues4 P os.toArray N w0 l env P0 mu dsts dps qd tau R 0 [] quiet)
    (fin : ∀ vf pf, (∀ k, k < P0.length → pf (mu + k) = P0.getD k []) → (∀ i, i < m → R i ((dps.getD i []).map vf) (vf i) (pf i)) → HL P N os.toArray w0 (fl.flatMap pf ++ l) (envOf3 dsts vf qs ++ env) tail Q) : HC P N w0 (P0.flatten ++ l) env (.region id os.toArray true) Q := by
  simp only [Bool.and_eq_true, Nat.beq_eq, beq_iff_eq] at hq
  obtain ⟨⟨hq1, hq2⟩, hq3⟩ := hq
  refine hc_drawn4 hmix m dps dsts R qd tau P0 fl hok htau hfresh hN (fun i o ho hi vf pf hP hR => ?_) (fun vf pf hP hR => ?_)
  · have ho' : quiet[i]? = some o := by rw [hos, List.getElem?_append_left (by omega)] at ho; exact ho
    have := dues4_at quiet [] 0 due i o ho' vf pf (by rw [← hq3]; exact hP) (by rw [Nat.zero_add]; exact hR)
    rwa [Nat.zero_add] at this
  rw [hq2, hos, List.drop_left' hq1, ← hos]; exact fin vf pf (by rw [← hq3]; exact hP) hR
end
open Go.RowKit
theorem zen (n : Nt) (w : World) (hr : RdsNt w n) (hn : NtOk n) :
   Calls Try.prog 60 #[.agg #[.int .i64 n.ins, n.sv, n.av, n.ov]] w (Ans w (.int .i64 n.cnt)) := by
 have hi0 := hn.i0
 have hi1 := hn.i1
 have hs1 := hn.s1
 have ha1 := hn.a1
 have ho1 := hn.o1
 have hcnt : n.cnt = 1 + n.ins + n.ss.length + n.gs.length := rfl
 have hfst : n.fst = 1 + n.ins + n.ss.length := rfl
 refine zba (N := 14) (args := [.agg #[.int .i64 n.ins, n.sv, n.av, n.ov]]) Try.func60 rfl rfl (srQ ?_)
 refine zea rfl (zcg rfl rfl) ?_
 intro b1
 refine zbf 1 rfl (srQ (hvQ rfl (fdQ 0 rfl rfl rfl) (hvQ rfl (zae rfl rfl rfl (zac 0 rfl rfl)) (hvQ rfl (vaQ rfl rfl rfl) (hvQ rfl (fdQ 1 rfl rfl rfl) (hvQ rfl (zae rfl rfl rfl (zac 0 rfl rfl)) (hvQ rfl (lnQ rfl rfl rfl (zaa hr.sq)) (hvQ rfl (vaQ rfl rfl rfl) (hvQ rfl (fdQ 2 rfl rfl rfl) ?_)))))))))
 refine hvQ rfl (zae rfl rfl rfl (zac 0 rfl rfl)) (hvQ rfl (lnQ rfl rfl rfl (zaa hr.an)) (hvQ rfl (vaQ rfl rfl rfl) (zbf 1 rfl ?_)))
 exact zav (zbi rfl rfl rfl)
theorem implNodeCount_yes (n : Nt) (w : World) (hr : RdsNt w n) (hn : NtOk n) :
   Calls Try.prog 43 #[.agg #[.int .i64 n.ins, n.sv, n.av, n.ov]] w (Ans w (.int .i64 n.cnt)) := by
 have hi0 := hn.i0
 have hi1 := hn.i1
 have hs1 := hn.s1
 have ha1 := hn.a1
 have ho1 := hn.o1
 have hcnt : n.cnt = 1 + n.ins + n.ss.length + n.gs.length := rfl
 have hfst : n.fst = 1 + n.ins + n.ss.length := rfl
 refine zba (N := 27) (args := [.agg #[.int .i64 n.ins, n.sv, n.av, n.ov]]) Try.func43 rfl rfl (srQ ?_)
 refine zea rfl (zcg rfl rfl) ?_
 intro b1
 refine zbf 1 rfl (ssrQ (hvQ rfl (fdQ 0 rfl rfl rfl) (hvQ rfl (zae rfl rfl rfl (zac 0 rfl rfl)) ?_)))
 refine zee rfl (zaj rfl rfl (fun w hm => zat (ans_of (zci _ _ _ w)))) (zbo (fun h2 => ?_) (fun h2 => absurd ((((zcn _ _ _).2 (by omega))).symm.trans h2) (by decide)))
 refine zai 2 rfl (hvQ rfl (fdQ 1 rfl rfl rfl) (hvQ rfl (zae rfl rfl rfl (zac 0 rfl rfl)) (hvQ rfl (lnQ rfl rfl rfl (zaa hr.sq)) ?_)))
 refine hl_gtr rfl rfl rfl rfl rfl rfl (fun h3 => absurd h3 (by omega)) (fun h3 => ?_)
 refine zai 2 rfl (hvQ rfl (fdQ 2 rfl rfl rfl) (hvQ rfl (zae rfl rfl rfl (zac 0 rfl rfl)) (hvQ rfl (lnQ rfl rfl rfl (zaa hr.an)) ?_)))
 refine hl_gtr rfl rfl rfl rfl rfl rfl (fun h4 => absurd h4 (by omega)) (fun h4 => ?_)
 refine zai 2 rfl (hvQ rfl (fdQ 3 rfl rfl rfl) (hvQ rfl (zae rfl rfl rfl (zac 0 rfl rfl)) (hvQ rfl (lnQ rfl rfl rfl (zaa hr.ou)) ?_)))
 refine hl_gtr rfl rfl rfl rfl rfl rfl (fun h5 => absurd h5 (by omega)) (fun h5 => ?_)
 refine zbf 1 rfl (zak rfl (zch (srQ (hvQ rfl (zaz (cs := [.int .i64 n.ins, n.sv, n.av, n.ov]) rfl rfl rfl rfl rfl (zax 0 rfl 0 rfl)) ?_))))
 refine zee rfl (zaj rfl rfl (fun w hm => zat (zen n w (hr.below hm.bel) hn))) (zbf 1 rfl ?_)
 exact zav (zbi rfl rfl rfl)
theorem firstAnd_yes (n : Nt) (w : World) (hr : RdsNt w n) (hn : NtOk n) :
   Calls Try.prog 46 #[.agg #[.int .i64 n.ins, n.sv, n.av, n.ov]] w (Ans w (.int .i64 n.fst)) := by
 have hi0 := hn.i0
 have hi1 := hn.i1
 have hs1 := hn.s1
 have ha1 := hn.a1
 have ho1 := hn.o1
 have hcnt : n.cnt = 1 + n.ins + n.ss.length + n.gs.length := rfl
 have hfst : n.fst = 1 + n.ins + n.ss.length := rfl
 refine zba (N := 10) (args := [.agg #[.int .i64 n.ins, n.sv, n.av, n.ov]]) Try.func46 rfl rfl (srQ ?_)
 refine zea rfl (zcg rfl rfl) ?_
 intro b1
 refine zbf 1 rfl (srQ (hvQ rfl (fdQ 0 rfl rfl rfl) (hvQ rfl (zae rfl rfl rfl (zac 0 rfl rfl)) (hvQ rfl (vaQ rfl rfl rfl) (hvQ rfl (fdQ 1 rfl rfl rfl) (hvQ rfl (zae rfl rfl rfl (zac 0 rfl rfl)) (hvQ rfl (lnQ rfl rfl rfl (zaa hr.sq)) (hvQ rfl (vaQ rfl rfl rfl) (zai 1 rfl ?_)))))))))
 refine ntQ ?_
 exact zav (zbi rfl rfl rfl)
theorem firstSeq_yes (n : Nt) (w : World) (hr : RdsNt w n) (hn : NtOk n) :
   Calls Try.prog 61 #[.agg #[.int .i64 n.ins, n.sv, n.av, n.ov]] w (Ans w (.int .i64 (1 + n.ins))) := by
 have hi0 := hn.i0
 have hi1 := hn.i1
 have hs1 := hn.s1
 have ha1 := hn.a1
 have ho1 := hn.o1
 have hcnt : n.cnt = 1 + n.ins + n.ss.length + n.gs.length := rfl
 have hfst : n.fst = 1 + n.ins + n.ss.length := rfl
 refine zba (N := 6) (args := [.agg #[.int .i64 n.ins, n.sv, n.av, n.ov]]) Try.func61 rfl rfl (srQ ?_)
 refine zea rfl (zcg rfl rfl) ?_
 intro b1
 refine zbf 1 rfl (srQ (hvQ rfl (fdQ 0 rfl rfl rfl) (hvQ rfl (zae rfl rfl rfl (zac 0 rfl rfl)) (hvQ rfl (vaQ rfl rfl rfl) (zbf 1 rfl ?_)))))
 exact zav (zbi rfl rfl rfl)
theorem seqOk_yes (s : Sq) (w : World) (hs : SqOk s) (hx : RdsW w s.iv 1 s.xs.length (s.xs.map (Value.int .i64))) :
   Calls Try.prog 44 #[.agg #[.int .i64 s.kd, .int .i64 s.it, s.iv]] w (Ans w (.bool true)) := by
 have hk := hs.kind
 refine zba (N := 27) (args := [.agg #[.int .i64 s.kd, .int .i64 s.it, s.iv]]) Try.func44 rfl rfl (srQ ?_)
 refine zea rfl (zcg rfl rfl) ?_
 intro b1
 refine zbf 1 rfl (ssrQ (hvQ rfl (fdQ 0 rfl rfl rfl) (hvQ rfl (zae rfl rfl rfl (zac 0 rfl rfl)) (ntQ (zau (zab ?_))))))
 refine zar (zcs rfl rfl rfl rfl rfl rfl (fun h2 => ?_) (fun h2 => ?_))
 ·
  refine zbf 1 rfl (zan rfl (srQ (hvQ rfl (fdQ 1 rfl rfl rfl) (hvQ rfl (zae rfl rfl rfl (zac 0 rfl rfl)) ?_))))
  refine zee rfl (zaj rfl rfl (fun w hm => zat (ans_of (zci _ _ _ w)))) (zbo (fun h3 => ?_) (fun h3 => absurd ((((zcn _ _ _).2 (by omega))).symm.trans h3) (by decide)))
  refine zai 1 rfl (hvQ rfl (fdQ 2 rfl rfl rfl) (hvQ rfl (zae rfl rfl rfl (zac 0 rfl rfl)) (hvQ rfl (lnQ rfl rfl rfl (zaa hx)) ?_)))
  refine zcs rfl rfl rfl rfl rfl rfl (fun h4 => ?_) (fun h4 => ?_)
  ·
   refine zbf 2 rfl ?_
   refine zav (zah ?_)
   exact zam (zbi rfl rfl rfl)
  refine zbf 2 rfl ?_
  refine zav (zah ?_)
  refine zam ?_
  exfalso
  omega
 refine zbf 1 rfl (zak rfl (srQ ?_))
 refine zcs rfl rfl rfl rfl rfl rfl (fun h5 => ?_) (fun h5 => ?_)
 ·
  refine zbf 1 rfl (zan rfl (srQ (hvQ rfl (fdQ 1 rfl rfl rfl) (hvQ rfl (zae rfl rfl rfl (zac 0 rfl rfl)) ?_))))
  refine zee rfl (zaj rfl rfl (fun w hm => zat (ans_of (zci _ _ _ w)))) (zbo (fun h6 => ?_) (fun h6 => absurd ((((zcn _ _ _).2 (by omega))).symm.trans h6) (by decide)))
  refine zai 1 rfl (hvQ rfl (fdQ 2 rfl rfl rfl) (hvQ rfl (zae rfl rfl rfl (zac 0 rfl rfl)) (hvQ rfl (lnQ rfl rfl rfl (zaa hx)) ?_)))
  refine zcs rfl rfl rfl rfl rfl rfl (fun h7 => ?_) (fun h7 => ?_)
  ·
   refine zbf 2 rfl ?_
   refine zav (zah ?_)
   exact zam (zbi rfl rfl rfl)
  refine zbf 2 rfl ?_
  refine zav (zah ?_)
  refine zam ?_
  exfalso
  omega
 refine zbf 1 rfl (fsQ rfl (zcj (zbe 1 rfl ?_)))
 refine zav ?_
 exfalso
 omega
theorem copyIntsN_ret (xs : List Int) (v : Value) (w : World) (hv : RdsW w v 1 xs.length (xs.map (Value.int .i64))) (hlen : xs.length ≤ 1000000000) :
   Calls Try.prog 62 #[v] w (Ret w (fun v' post => post = [rowE 3 1 v' (xs).length ((xs).map (Value.int .i64))])) := by
 refine zba (N := 6) (args := [v]) Try.func62 rfl rfl (zbe 1 rfl (srQ ?_))
 refine hrwQ rfl (zec (s := 1) rfl Try.underlying26 rfl) ?_
 intro g1
 refine zai 1 rfl (zck (i := 0) (z := .int .i64 0) (bytes := 8) (n' := xs.length) (xs' := (xs.map (Value.int .i64))) rfl rfl rfl rfl Try.underlying26 (by kernel_rfl) rfl rfl rfl rfl (zaa hv) (zbv _) (by first | omega | (simp; done) | (simp; omega)) (Nat.zero_add _) (List.nil_append _) (fun _ => rfl) ?_)
 intro v2
 refine zbf 1 rfl ?_
 exact zav (zcw (post := [rowE 3 1 v2 xs.length (xs.map (Value.int .i64))]) rfl rfl (pfQ rfl) rfl)
theorem roots_ret (n : Nt) (w : World) (hr : RdsNt w n) (hn : NtOk n) :
   Calls Try.prog 45 #[.agg #[.int .i64 n.ins, n.sv, n.av, n.ov]] w (Ret w (fun v' post => post = [rowE 3 1 v' (rtsL n n.ss.length).length ((rtsL n n.ss.length).map (Value.int .i64))])) := by
 have hi0 := hn.i0
 have hi1 := hn.i1
 have hs1 := hn.s1
 have ha1 := hn.a1
 have ho1 := hn.o1
 have hcnt : n.cnt = 1 + n.ins + n.ss.length + n.gs.length := rfl
 have hfst : n.fst = 1 + n.ins + n.ss.length := rfl
 refine zba (N := 22) (args := [.agg #[.int .i64 n.ins, n.sv, n.av, n.ov]]) Try.func45 rfl rfl (srQ ?_)
 refine zea rfl (zcg rfl rfl) ?_
 intro b1
 refine zbf 1 rfl (srQ (hvQ rfl (fdQ 3 rfl rfl rfl) (hvQ rfl (zae rfl rfl rfl (zac 0 rfl rfl)) ?_)))
 refine hl_q rfl rfl rfl (zaj rfl rfl (fun w hm => copyIntsN_ret n.os _ w ((zaa hr.ou) w hm) (by omega))) ?_
 intro v2 p3 hR4
 subst hR4
 refine zbf 1 rfl (ssrQ (hvQ rfl (fdQ 1 rfl rfl rfl) (hvQ rfl (zae rfl rfl rfl (zac 1 rfl rfl)) (hvQ rfl (lnQ rfl rfl rfl (zaa hr.sq)) (zbf 1 rfl ?_)))))
 refine zau ?_
 refine lkQ3 (α := Nat) (β := Value) (γ := List Int) [0, 1, 2, 10, 11] rfl (fun k u zs => [rowE 3 1 u zs.length (zs.map (Value.int .i64)), boxE b1 #[.int .i64 n.ins, n.sv, n.av, n.ov] 28]) (fun k u zs => [(3, u), (12, .int .i64 (k : Int))]) (fun k u zs => k ≤ n.ss.length ∧ zs = rtsL n k) (fun k u zs => n.ss.length - k) 0 _ n.os ⟨by omega, by simp [rtsL]⟩ (saQ rfl) (pfQ rfl) ?_
 intro k u zs hi5
 obtain ⟨hk, hz⟩ := hi5
 have hzl : zs.length ≤ 16 + 4 * k := by rw [hz]; exact rts_len hn k hk
 refine srQ ?_
 refine zbk rfl rfl rfl rfl rfl rfl (fun h6 => ?_) (fun h6 => ?_)
 ·
  refine ntQ (tcQ rfl (zch (sbQ (srQ (hvQ rfl (riQ 3 rfl rfl rfl rfl (zaa hr.sq)) ?_)))))
  refine hvQ rfl (zct (us := [.int .i64 ((n.ss.getD k sq0).kd), .int .i64 ((n.ss.getD k sq0).it), (n.ss.getD k sq0).iv]) rfl rfl rfl rfl (zaa hr.sq) (by omega) rfl (zdx sqC 3 (fun _ => rfl) n.ss sq0 (show k < _ by omega) rfl)) (zea rfl (zcf (z := .agg #[.int .i64 0, .int .i64 0, .slice none 0 0]) rfl rfl) ?_)
  intro b7
  refine zcp (cs' := #[.int .i64 ((n.ss.getD k sq0).kd), .int .i64 ((n.ss.getD k sq0).it), (n.ss.getD k sq0).iv]) (i := 0) (off := 0) (us := [.int .i64 ((n.ss.getD k sq0).kd), .int .i64 ((n.ss.getD k sq0).it), (n.ss.getD k sq0).iv]) rfl rfl rfl rfl rfl rfl rfl (zap rfl (zap rfl (zap (hr.at (k := k) (by omega)).one zce))) rfl rfl rfl (ntQ (zar ?_))
  have hx4 := (hn.sq _ (zbc (d := sq0) (show k < n.ss.length by omega))).len
  refine zai 1 rfl (hvQ rfl (fdQ 2 rfl rfl rfl) (hvQ rfl (zae rfl rfl rfl (zac 0 rfl rfl)) ?_))
  refine zck (i := 1) (z := .int .i64 0) (bytes := 8) rfl rfl rfl rfl Try.underlying26 (by kernel_rfl) rfl rfl rfl rfl (fun w hm => (hr.at (k := k) (by omega)).below hm.bel) (zbv _) (by first | omega | (simp; done) | (simp; omega)) (zca zs ((n.ss.getD k sq0).xs)) (zby zs ((n.ss.getD k sq0).xs)) (fun _ => rfl) ?_
  intro v8
  refine enQ 1 rfl (zcj (zar (hvQ rfl (vaQ rfl rfl rfl) (enQ 1 rfl ?_))))
  exact zbh (k + 1) v8 (zs ++ ((n.ss.getD k sq0).xs)) ⟨by omega, by rw [hz, rts_step n (by omega)]⟩ (by omega) (saQ rfl) (slQ [1, 0] rfl)
 refine ntQ (fcQ rfl ?_)
 refine zbb (zda ?_)
 refine zad (zas (zbe 2 rfl ?_))
 exact zav (zcw (post := [rowE 3 1 u zs.length (zs.map (Value.int .i64))]) rfl rfl (slQ [0] rfl) (by rw [hz, show k = n.ss.length by omega]))
theorem zdw (n : Nt) (w : World) (hr : RdsNt w n) (hn : NtOk n) :
   Calls Try.prog 25 #[.agg #[.int .i64 n.ins, n.sv, n.av, n.ov]] w (Ans w (.bool true)) := by
 have hi0 := hn.i0
 have hi1 := hn.i1
 have hs1 := hn.s1
 have ha1 := hn.a1
 have ho1 := hn.o1
 have hcnt : n.cnt = 1 + n.ins + n.ss.length + n.gs.length := rfl
 have hfst : n.fst = 1 + n.ins + n.ss.length := rfl
 refine zba (N := 67) (args := [.agg #[.int .i64 n.ins, n.sv, n.av, n.ov]]) Try.func25 rfl rfl (srQ ?_)
 refine zea rfl (zcg rfl rfl) ?_
 intro b1
 refine zbf 1 rfl (srQ (hvQ rfl (zaz (cs := [.int .i64 n.ins, n.sv, n.av, n.ov]) rfl rfl rfl rfl rfl (zax 0 rfl 0 rfl)) ?_))
 refine zee rfl (zaj rfl rfl (fun w hm => zat (implNodeCount_yes n w (hr.below hm.bel) hn))) (zbf 1 rfl (zab (zab (reQ 1 rfl ?_))))
 refine zcs rfl rfl rfl rfl rfl rfl (fun h2 => absurd h2 (by omega)) (fun h2 => ?_)
 refine ntQ (zak rfl (zch (ssrQ (hvQ rfl (fdQ 1 rfl rfl rfl) (hvQ rfl (zae rfl rfl rfl (zac 0 rfl rfl)) (hvQ rfl (lnQ rfl rfl rfl (zaa hr.sq)) (zai 1 rfl (?_))))))))
 refine ntQ (zau ?_)
 refine lkQ1 (α := Nat) [0, 1, 2, 3, 14, 16, 17] rfl (fun k => [boxE b1 #[.int .i64 n.ins, n.sv, n.av, n.ov] 28]) (fun k => [(18, .int .i64 (k : Int))]) (fun k => k ≤ n.ss.length) (fun k => n.ss.length - k) 0 (Nat.zero_le _) (saQ rfl) (pfQ rfl) ?_
 intro k hi3
 have hk := hi3
 refine srQ ?_
 refine zbk rfl rfl rfl rfl rfl rfl (fun h4 => ?_) (fun h4 => ?_)
 ·
  refine ntQ (tcQ rfl (zch (sbQ (srQ (hvQ rfl (riQ 3 rfl rfl rfl rfl (zaa hr.sq)) ?_)))))
  refine hvQ rfl (zct (us := [.int .i64 ((n.ss.getD k sq0).kd), .int .i64 ((n.ss.getD k sq0).it), (n.ss.getD k sq0).iv]) rfl rfl rfl rfl (zaa hr.sq) (by omega) rfl (zdx sqC 3 (fun _ => rfl) n.ss sq0 (show k < _ by omega) rfl)) (zea rfl (zcf (z := .agg #[.int .i64 0, .int .i64 0, .slice none 0 0]) rfl rfl) ?_)
  intro b5
  refine zcp (cs' := #[.int .i64 ((n.ss.getD k sq0).kd), .int .i64 ((n.ss.getD k sq0).it), (n.ss.getD k sq0).iv]) (i := 0) (off := 0) (us := [.int .i64 ((n.ss.getD k sq0).kd), .int .i64 ((n.ss.getD k sq0).it), (n.ss.getD k sq0).iv]) rfl rfl rfl rfl rfl rfl rfl (zap rfl (zap rfl (zap (hr.at (k := k) (by omega)).one zce))) rfl rfl rfl (ntQ (srQ (hvQ rfl (zaz (cs := [.int .i64 ((n.ss.getD k sq0).kd), .int .i64 ((n.ss.getD k sq0).it), (n.ss.getD k sq0).iv]) rfl rfl rfl rfl rfl (zax 0 rfl 0 rfl)) ?_)))
  refine zee rfl (zaj rfl rfl (fun w hm => zat (seqOk_yes (n.ss.getD k sq0) w (hn.sq _ (zbc (d := sq0) (by omega))) ((hr.at (k := k) (by omega)).below hm.bel)))) (zbf 1 rfl (fsQ rfl (zcj (zar (hvQ rfl (vaQ rfl rfl rfl) (enQ 1 rfl ?_))))))
  exact zbr (k + 1) (by omega) (by omega) (saQ rfl) (slQ [1] rfl)
 refine ntQ (fcQ rfl ?_)
 refine zbb (zda ?_)
 refine zad (zas (ssrQ (hvQ rfl (zaz (cs := [.int .i64 n.ins, n.sv, n.av, n.ov]) rfl rfl rfl rfl rfl (zax 0 rfl 0 rfl)) ?_)))
 refine hl_q rfl rfl rfl (zaj rfl rfl (fun w hm => roots_ret n w (hr.below hm.bel) hn)) ?_
 intro v6 p7 hR8
 subst hR8
 refine hvQ rfl (lnQ rfl rfl rfl (zao 0 rfl)) ?_
 have hzl := rts_len hn n.ss.length (Nat.le_refl _)
 refine zbf 1 rfl (zau ?_)
 refine lkQ1 (α := Nat) [0, 1, 2, 3, 14, 16, 17, 18, 19, 27, 28] rfl (fun q => [rowE 3 1 v6 ((rtsL n n.ss.length).length) ((rtsL n n.ss.length).map (Value.int .i64)), boxE b1 #[.int .i64 n.ins, n.sv, n.av, n.ov] 28]) (fun q => [(29, .int .i64 (q : Int))]) (fun q => q ≤ (rtsL n n.ss.length).length) (fun q => (rtsL n n.ss.length).length - q) 0 (Nat.zero_le _) (saQ rfl) (pfQ rfl) ?_
 intro q hi9
 have hq := hi9
 refine srQ ?_
 refine zbk rfl rfl rfl rfl rfl rfl (fun h10 => ?_) (fun h10 => ?_)
 ·
  refine ntQ (tcQ rfl (zch (sbQ (srQ (hvQ rfl (riQ 1 rfl rfl rfl rfl (zao 0 rfl)) (hvQ rfl (zal (u := .int .i64 ((rtsL n n.ss.length).getD q 0)) rfl rfl rfl (zao 0 rfl) (zdm (show _ < (rtsL n n.ss.length).length by omega))) (zai 1 rfl ?_)))))))
  refine ntQ (srQ ?_)
  have hlk := rts_ok hn (i := q) (by omega)
  obtain ⟨hlk1, hlk2⟩ := hlk
  refine zai 2 rfl (hvQ rfl (rv_mul rfl rfl rfl (by constructor <;> omega)) (hvQ rfl (vsQ rfl rfl rfl) ?_))
  refine zee rfl (zaj rfl rfl (fun w hm => zat (ans_of (zci _ _ _ w)))) (zbo (fun h11 => ?_) (fun h11 => absurd ((((zcn _ _ _).2 (by omega))).symm.trans h11) (by decide)))
  refine zbf 1 rfl (fsQ rfl (zcj (zar (hvQ rfl (vaQ rfl rfl rfl) ?_))))
  have hzl := rts_len hn n.ss.length (Nat.le_refl _)
  refine enQ 1 rfl ?_
  exact zbr (q + 1) (by omega) (by omega) (saQ rfl) (pfQ rfl)
 refine ntQ (fcQ rfl ?_)
 refine zbb (zda ?_)
 refine zad (zas (ssrQ (hvQ rfl (fdQ 2 rfl rfl rfl) (hvQ rfl (zae rfl rfl rfl (zac 1 rfl rfl)) (hvQ rfl (lnQ rfl rfl rfl (zaa hr.an)) (zbf 1 rfl (zau ?_)))))))
 refine lkQ1 (α := Nat) [0, 1, 2, 3, 14, 16, 17, 18, 19, 27, 28, 29, 30, 41, 42] rfl (fun j => [rowE 3 1 v6 ((rtsL n n.ss.length).length) ((rtsL n n.ss.length).map (Value.int .i64)), boxE b1 #[.int .i64 n.ins, n.sv, n.av, n.ov] 28]) (fun j => [(43, .int .i64 (j : Int))]) (fun j => j ≤ n.gs.length) (fun j => n.gs.length - j) 0 (Nat.zero_le _) (saQ rfl) (pfQ rfl) ?_
 intro j hi12
 have hj := hi12
 refine srQ ?_
 refine zbk rfl rfl rfl rfl rfl rfl (fun h13 => ?_) (fun h13 => ?_)
 ·
  refine ntQ (tcQ rfl (zch (sbQ (zab (reQ 1 rfl (hvQ rfl (riQ 2 rfl rfl rfl rfl (zaa hr.an)) ?_))))))
  refine hvQ rfl (zct (us := [.int .i64 ((n.gs.getD j an0).a), .int .i64 ((n.gs.getD j an0).b)]) rfl rfl rfl rfl (zaa hr.an) (by omega) rfl (zdx anC 2 (fun _ => rfl) n.gs an0 (show j < _ by omega) rfl)) (zea rfl (zcf (z := .agg #[.int .i64 0, .int .i64 0]) rfl rfl) ?_)
  intro b14
  refine zai 1 rfl (zcp (cs' := #[.int .i64 ((n.gs.getD j an0).a), .int .i64 ((n.gs.getD j an0).b)]) (i := 0) (off := 0) (us := [.int .i64 ((n.gs.getD j an0).a), .int .i64 ((n.gs.getD j an0).b)]) rfl rfl rfl rfl rfl rfl rfl (zap rfl (zap rfl zce)) rfl rfl rfl ?_)
  refine ntQ (srQ (hvQ rfl (zaz (cs := [.int .i64 n.ins, n.sv, n.av, n.ov]) rfl rfl rfl rfl rfl (zax 2 rfl 0 rfl)) ?_))
  refine zee rfl (zaj rfl rfl (fun w hm => zat (firstAnd_yes n w (hr.below hm.bel) hn))) (zai 1 rfl (hvQ rfl (vaQ rfl rfl rfl) (hvQ rfl (rv_mul rfl rfl rfl (by constructor <;> omega)) (hvQ rfl (vsQ rfl rfl rfl) (zbf 1 rfl (srQ ?_))))))
  have hlj := hn.an j (by omega)
  obtain ⟨⟨hlj1, hlj2⟩, hlj3, hlj4⟩ := hlj
  refine hvQ rfl (fdQ 0 rfl rfl rfl) (hvQ rfl (zae rfl rfl rfl (zac 0 rfl rfl)) (zai 1 rfl ?_))
  refine zee rfl (zaj rfl rfl (fun w hm => zat (ans_of (zci _ _ _ w)))) (zbo (fun h15 => ?_) (fun h15 => absurd ((((zcn _ _ _).2 (by omega))).symm.trans h15) (by decide)))
  refine zai 2 rfl (hvQ rfl (fdQ 1 rfl rfl rfl) (hvQ rfl (zae rfl rfl rfl (zac 0 rfl rfl)) (zai 1 rfl ?_)))
  refine zee rfl (zaj rfl rfl (fun w hm => zat (ans_of (zci _ _ _ w)))) (zbo (fun h16 => ?_) (fun h16 => absurd ((((zcn _ _ _).2 (by omega))).symm.trans h16) (by decide)))
  refine zbf 2 rfl (fsQ rfl (zcj (zar (hvQ rfl (vaQ rfl rfl rfl) (enQ 1 rfl ?_)))))
  exact zbr (j + 1) (by omega) (by omega) (saQ rfl) (slQ [1, 0] rfl)
 refine ntQ (fcQ rfl ?_)
 refine zbb (zda ?_)
 refine zad (zas (zbe 1 rfl ?_))
 exact zav (zbi rfl rfl rfl)
theorem bitL_xor {xs : List Int} {l : Int} (h : xs.getD (l / 2).toNat 0 = 0 ∨ xs.getD (l / 2).toNat 0 = 1) : bits .xor .i64 (xs.getD (l / 2).toNat 0) (l % 2) = bitL xs l := by unfold bitL; exact xor01 h
theorem zde (xs : List Int) (l : Int) (v : Value) (w : World) (hv : RdsW w v 1 xs.length (xs.map (Value.int .i64))) (hl : 0 ≤ l ∧ l < 2 * xs.length) (h01 : xs.getD (l / 2).toNat 0 = 0 ∨ xs.getD (l / 2).toNat 0 = 1) (hlen : xs.length ≤ 100000) :
   Calls Try.prog 40 #[v, .int .i64 l] w (Ans w (.int .i64 (bitL xs l))) := by
 refine zba (N := 13) (args := [v, .int .i64 l]) Try.func40 rfl rfl (zbe 1 rfl (zab (reQ 2 rfl ?_)))
 refine hvQ rfl (rv_quo rfl rfl rfl (by refine ⟨?_, ?_, ?_⟩ <;> omega)) ?_
 refine hvQ rfl (riQ 1 rfl rfl rfl rfl (zaa hv)) (hvQ rfl (lzQ rfl rfl rfl (zaa hv)) (zai 1 rfl (hvQ rfl (zcl rfl (by decide) rfl rfl (r := l % 2) (Bit.and_one _ (by omega) (by omega))) (hvQ rfl (zcl rfl (by decide) rfl rfl (r := bitL xs l) (bitL_xor h01)) (zbf 1 rfl ?_)))))
 exact zav (zbi rfl rfl rfl)
theorem and1N (x : Int) : bits .and .i64 x 1 = x % 2 := by
  show IntKind.i64.wrap ((BitVec.ofInt 64 x &&& BitVec.ofInt 64 1).toNat : Int) = _
  have h1 : (BitVec.ofInt 64 (1 : Int)).toNat = 1 := by decide
  rw [BitVec.toNat_and, h1, Nat.and_one_is_mod, BitVec.toNat_ofInt]
  have h2 : (x % ((2 ^ 64 : Nat) : Int)).toNat % 2 < 2 := Nat.mod_lt _ (by decide)
  rw [Bit.i64_small _ (by omega)]
  have h3 : ((2 ^ 64 : Nat) : Int) = 18446744073709551616 := by decide
  rw [h3]; omega
theorem seqMost_ans (kd : Int) (w : World) (h : kd = 0 ∨ kd = 1) :
   Calls Try.prog 47 #[.int .i64 kd] w (Ans w (.int .i64 (if kd = 0 then 1 else 31))) := by
 refine zba (N := 8) (args := [.int .i64 kd]) Try.func47 rfl rfl (zbe 1 rfl (zab (zbe 1 rfl ?_)))
 refine zau (srQ ?_)
 refine zcs rfl rfl rfl rfl rfl rfl (fun h1 => ?_) (fun h1 => ?_)
 ·
  refine zbf 1 rfl (zan rfl (zbe 1 rfl ?_))
  refine zav (zah ?_)
  exact zam (zbi rfl rfl (by rw [if_pos (by omega)]))
 refine zbf 1 rfl (zak rfl (srQ ?_))
 refine zcs rfl rfl rfl rfl rfl rfl (fun h2 => ?_) (fun h2 => ?_)
 ·
  refine zbf 1 rfl (zan rfl (zbe 1 rfl ?_))
  refine zav (zah ?_)
  exact zam (zbi rfl rfl (by rw [if_neg (by omega)]))
 refine zbf 1 rfl (fsQ rfl (zcj (zbe 1 rfl ?_)))
 refine zav ?_
 exfalso
 omega
theorem implStateOk_yes (n : Nt) (st : List Int) (v : Value) (w : World) (hr : RdsNt w n) (hn : NtOk n) (hst : RdsW w v 1 st.length (st.map (Value.int .i64))) (hso : StOk n st) :
   Calls Try.prog 27 #[.agg #[.int .i64 n.ins, n.sv, n.av, n.ov], v] w (Ans w (.bool true)) := by
 have hi0 := hn.i0
 have hi1 := hn.i1
 have hs1 := hn.s1
 have ha1 := hn.a1
 have ho1 := hn.o1
 have hcnt : n.cnt = 1 + n.ins + n.ss.length + n.gs.length := rfl
 have hfst : n.fst = 1 + n.ins + n.ss.length := rfl
 have hsl := hso.len
 refine zba (N := 36) (args := [.agg #[.int .i64 n.ins, n.sv, n.av, n.ov], v]) Try.func27 rfl rfl (srQ ?_)
 refine zea rfl (zcg rfl rfl) ?_
 intro b1
 refine zbf 1 rfl (ssrQ (hvQ rfl (zaz (cs := [.int .i64 n.ins, n.sv, n.av, n.ov]) rfl rfl rfl rfl rfl (zax 0 rfl 0 rfl)) ?_))
 refine zee rfl (zaj rfl rfl (fun w hm => zat (zdw n w (hr.below hm.bel) hn))) (zai 3 rfl (hvQ rfl (lnQ rfl rfl rfl (zaa hst)) (hvQ rfl (fdQ 1 rfl rfl rfl) (hvQ rfl (zae rfl rfl rfl (zac 0 rfl rfl)) (hvQ rfl (lnQ rfl rfl rfl (zaa hr.sq)) ?_)))))
 refine zeq rfl rfl rfl rfl rfl rfl (fun h2 => absurd h2 (by omega)) (fun h2 => ?_)
 refine zbf 1 rfl (zak rfl (zch (zab (zab (reQ 1 rfl (hvQ rfl (lnQ rfl rfl rfl (zaa hst)) (zai 1 rfl (?_))))))))
 refine ntQ (zau ?_)
 refine lkQ1 (α := Nat) [0, 1, 2, 4, 17, 18, 19] rfl (fun k => [boxE b1 #[.int .i64 n.ins, n.sv, n.av, n.ov] 28]) (fun k => [(20, .int .i64 (k : Int))]) (fun k => k ≤ st.length) (fun k => st.length - k) 0 (Nat.zero_le _) (saQ rfl) (pfQ rfl) ?_
 intro k hi3
 have hk := hi3
 refine srQ ?_
 refine zbk rfl rfl rfl rfl rfl rfl (fun h4 => ?_) (fun h4 => ?_)
 ·
  refine ntQ (tcQ rfl (zch (sbQ (zab (reQ 1 rfl (hvQ rfl (riQ 1 rfl rfl rfl rfl (zaa hst)) (hvQ rfl (liQ rfl rfl rfl (zaa hst)) ?_)))))))
  refine zbf 2 rfl (srQ ?_)
  have hqk := (hn.sq _ (zbc (d := sq0) (show k < n.ss.length by omega))).kind
  have hsk := hso.rng k (by omega)
  refine zai 1 rfl (hvQ rfl (fdQ 1 rfl rfl rfl) (hvQ rfl (zae rfl rfl rfl (zac 0 rfl rfl)) (zai 1 rfl (hvQ rfl (riQ 3 rfl rfl rfl rfl (zaa hr.sq)) (hvQ rfl (zaw (k0 := 0) rfl rfl rfl (zaa hr.sq) (by omega)) ?_)))))
  refine hvQ rfl (zal (u := .int .i64 ((n.ss.getD k sq0).kd)) rfl rfl rfl (zaa hr.sq) ((zbj sqC 3 (fun _ => rfl) n.ss sq0 (show k < _ by omega) (by decide)).trans rfl)) (zee rfl (zaj rfl rfl (fun w hm => zat (seqMost_ans ((n.ss.getD k sq0).kd) w (by omega)))) ?_)
  refine zee rfl (zaj rfl rfl (fun w hm => zat (ans_of (zci _ _ _ w)))) (zbo (fun h5 => ?_) (fun h5 => absurd ((((zcn _ _ _).2 ⟨by omega, by split <;> omega⟩)).symm.trans h5) (by decide)))
  refine zbf 1 rfl (fsQ rfl (zcj (zar (hvQ rfl (vaQ rfl rfl rfl) (enQ 1 rfl ?_)))))
  exact zbr (k + 1) (by omega) (by omega) (saQ rfl) (pfQ rfl)
 refine ntQ (fcQ rfl ?_)
 refine zbb (zda ?_)
 refine zad (zas (zbe 1 rfl ?_))
 exact zav (zbi rfl rfl rfl)
theorem zeg (n : Nt) (st : List Int) (v : Value) (inp : Int) (w : World) (hr : RdsNt w n) (hn : NtOk n) (hst : RdsW w v 1 st.length (st.map (Value.int .i64))) (hso : StOk n st) :
   Calls Try.prog 39 #[.agg #[.int .i64 n.ins, n.sv, n.av, n.ov], v, .int .i64 inp] w (Ret w (fun v' post => post = [rowE 3 1 v' (valsL n st inp).length ((valsL n st inp).map (Value.int .i64))])) := by
 have hi0 := hn.i0
 have hi1 := hn.i1
 have hs1 := hn.s1
 have ha1 := hn.a1
 have ho1 := hn.o1
 have hcnt : n.cnt = 1 + n.ins + n.ss.length + n.gs.length := rfl
 have hfst : n.fst = 1 + n.ins + n.ss.length := rfl
 have hsl := hso.len
 refine zba (N := 72) (args := [.agg #[.int .i64 n.ins, n.sv, n.av, n.ov], v, .int .i64 inp]) Try.func39 rfl rfl (srQ ?_)
 refine zea rfl (zcg rfl rfl) ?_
 intro b1
 refine zbf 1 rfl (srQ (hvQ rfl (zaz (cs := [.int .i64 n.ins, n.sv, n.av, n.ov]) rfl rfl rfl rfl rfl (zax 0 rfl 0 rfl)) ?_))
 refine zee rfl (zaj rfl rfl (fun w hm => zat (zen n w (hr.below hm.bel) hn))) (hrwQ rfl (rq_make (z := .int .i64 0) (s := 1) (bytes := 8) (n := (List.replicate (n.cnt).toNat (0 : Int)).length) (cs := ((List.replicate (n.cnt).toNat (0 : Int)).map (Value.int .i64))) rfl Try.underlying26 rfl (by decide) rfl rfl (by first | (rw [List.length_replicate]; done) | (rw [List.length_replicate]; omega)) (by first | (rw [List.length_replicate]; done) | (rw [List.length_replicate]; omega)) (by rw [List.length_replicate]; omega) (ints_make _)) ?_)
 intro g2
 refine zbf 1 rfl (zab (zbe 1 rfl (zau ?_)))
 refine lkQ2 (α := Nat) (β := List Int) [0, 1, 2, 3, 6, 7] rfl (fun k zs => [rowE 3 1 (.slice (some ⟨g2, 0, none⟩) ((List.replicate (n.cnt).toNat (0 : Int)).length) ((List.replicate (n.cnt).toNat (0 : Int)).length)) zs.length (zs.map (Value.int .i64)), boxE b1 #[.int .i64 n.ins, n.sv, n.av, n.ov] 28]) (fun k zs => [(8, .int .i64 (k : Int))]) (fun k zs => (k : Int) ≤ n.ins ∧ zs = fillZ n.cnt.toNat (preA n inp k)) (fun k zs => (n.ins).toNat - k) 0 (List.replicate n.cnt.toNat (0 : Int)) ⟨by omega, fill_one (by omega)⟩ (saQ rfl) (pfQ rfl) ?_
 intro k zs hi3
 obtain ⟨hk, hz⟩ := hi3
 have hzl : zs.length = n.cnt.toNat := by rw [hz]; exact zfa (by rw [zeu]; omega)
 refine zab (zab (reQ 1 rfl (hvQ rfl (fdQ 0 rfl rfl rfl) (hvQ rfl (zae rfl rfl rfl (zac 1 rfl rfl)) ?_))))
 refine zbk rfl rfl rfl rfl rfl rfl (fun h4 => ?_) (fun h4 => ?_)
 ·
  refine ntQ (zan rfl (zch (sbQ (reQ 2 rfl (hvQ rfl (vaQ rfl rfl rfl) (zai 2 rfl (hvQ rfl (rv_conv rfl Try.underlying3 Try.underlying60 rfl (IntWalk.u64_in _ (by omega))) (hvQ rfl (rv_shr rfl rfl rfl (by omega)) ?_))))))))
  refine hvQ rfl (zcl rfl (by decide) rfl rfl (r := inp / 2 ^ k % 2) (by rw [show (inp / 2 ^ ((k : Int)).toNat : Int) = inp / 2 ^ k by rw [Int.toNat_natCast]]; exact and1N _)) (hvQ rfl (riQ 1 rfl rfl rfl rfl (zao 0 rfl)) ?_)
  refine zeo (i := 0) (n' := (zs.set ((1 + (k : Int)).toNat) (inp / 2 ^ k % 2)).length) (xs' := ((zs.set ((1 + (k : Int)).toNat) (inp / 2 ^ k % 2)).map (Value.int .i64))) rfl rfl rfl rfl rfl rfl rfl rfl (by first | omega | (simp only [List.length_set]; omega)) List.length_set.symm (zdl _ _ _) rfl (zbw (zcj (reQ 1 rfl (hvQ rfl (vaQ rfl rfl rfl) (enQ 1 rfl ?_)))))
  exact zbg (k + 1) (zs.set ((1 + (k : Int)).toNat) (inp / 2 ^ k % 2)) ⟨by omega, by rw [hz]; exact (zdn (by rw [zeu]; omega) (by rw [zeu]; omega)).trans (by rw [preA_step])⟩ (by omega) (saQ rfl) (pfQ rfl)
 refine ntQ (zak rfl ?_)
 refine zbb (zda ?_)
 refine zad (zas (zab (zab (reQ 1 rfl (hvQ rfl (lnQ rfl rfl rfl (zaa hst)) (zbf 1 rfl (zau ?_)))))))
 refine lkQ2 (α := Nat) (β := List Int) [0, 1, 2, 3, 6, 7, 19, 31, 32] rfl (fun k zs => [rowE 3 1 (.slice (some ⟨g2, 0, none⟩) ((List.replicate (n.cnt).toNat (0 : Int)).length) ((List.replicate (n.cnt).toNat (0 : Int)).length)) zs.length (zs.map (Value.int .i64)), boxE b1 #[.int .i64 n.ins, n.sv, n.av, n.ov] 28]) (fun k zs => [(33, .int .i64 (k : Int))]) (fun k zs => (k : Int) ≤ (st.length : Int) ∧ zs = fillZ n.cnt.toNat (preB n st inp k)) (fun k zs => ((st.length : Int)).toNat - k) 0 zs ⟨by omega, by rw [hz, show k = n.ins.toNat by omega, preB_zero n st inp]⟩ (saQ rfl) (pfQ rfl) ?_
 intro k zs hi5
 obtain ⟨hk, hz⟩ := hi5
 have hzl : zs.length = n.cnt.toNat := by rw [hz]; exact zfa (by rw [preB_len n st inp (by omega)]; omega)
 refine srQ ?_
 refine zbk rfl rfl rfl rfl rfl rfl (fun h6 => ?_) (fun h6 => ?_)
 ·
  refine ntQ (tcQ rfl (zch (sbQ (zab (reQ 1 rfl (hvQ rfl (riQ 1 rfl rfl rfl rfl (zaa hst)) (hvQ rfl (liQ rfl rfl rfl (zaa hst)) ?_)))))))
  refine zbf 2 rfl (zar ?_)
  have hsk := hso.rng k (by omega)
  refine zai 1 rfl (hvQ rfl (zaz (cs := [.int .i64 n.ins, n.sv, n.av, n.ov]) rfl rfl rfl rfl rfl (zax 1 rfl 0 rfl)) ?_)
  refine zee rfl (zaj rfl rfl (fun w hm => zat (firstSeq_yes n w (hr.below hm.bel) hn))) (zai 1 rfl (hvQ rfl (vaQ rfl rfl rfl) (zai 1 rfl (hvQ rfl (zcl rfl (by decide) rfl rfl (r := (st.getD k 0) % 2) (Bit.and_one _ (by omega) (by omega))) (hvQ rfl (riQ 1 rfl rfl rfl rfl (zao 0 rfl)) ?_)))))
  refine zeo (i := 0) (n' := (zs.set (((1 + n.ins) + (k : Int)).toNat) ((st.getD k 0) % 2)).length) (xs' := ((zs.set (((1 + n.ins) + (k : Int)).toNat) ((st.getD k 0) % 2)).map (Value.int .i64))) rfl rfl rfl rfl rfl rfl rfl rfl (by first | omega | (simp only [List.length_set]; omega)) List.length_set.symm (zdl _ _ _) rfl (zbw (zcj (zar (hvQ rfl (vaQ rfl rfl rfl) (enQ 1 rfl ?_)))))
  exact zbg (k + 1) (zs.set (((1 + n.ins) + (k : Int)).toNat) ((st.getD k 0) % 2)) ⟨by omega, by rw [hz]; exact (zdn (by rw [preB_len n st inp (by omega)]; omega) (by rw [preB_len n st inp (by omega)]; omega)).trans (by rw [preB_step n st inp (by omega)])⟩ (by omega) (saQ rfl) (pfQ rfl)
 refine ntQ (fcQ rfl ?_)
 refine zbb (zda ?_)
 refine zad (zas (ssrQ (hvQ rfl (fdQ 2 rfl rfl rfl) (hvQ rfl (zae rfl rfl rfl (zac 1 rfl rfl)) (hvQ rfl (lnQ rfl rfl rfl (zaa hr.an)) (zbf 1 rfl (zau ?_)))))))
 refine lkQ2 (α := Nat) (β := List Int) [0, 1, 2, 3, 6, 7, 19, 31, 32, 34, 48, 49] rfl (fun k zs => [rowE 3 1 (.slice (some ⟨g2, 0, none⟩) ((List.replicate (n.cnt).toNat (0 : Int)).length) ((List.replicate (n.cnt).toNat (0 : Int)).length)) zs.length (zs.map (Value.int .i64)), boxE b1 #[.int .i64 n.ins, n.sv, n.av, n.ov] 28]) (fun k zs => [(50, .int .i64 (k : Int))]) (fun k zs => (k : Int) ≤ (n.gs.length : Int) ∧ zs = fillZ n.cnt.toNat (valL n st inp k)) (fun k zs => ((n.gs.length : Int)).toNat - k) 0 zs ⟨by omega, by rw [hz, show k = st.length by omega, preB_end]⟩ (saQ rfl) (pfQ rfl) ?_
 intro k zs hi7
 obtain ⟨hk, hz⟩ := hi7
 have hzl : zs.length = n.cnt.toNat := by rw [hz]; exact zfa (by rw [zdi n st inp k (by omega)]; omega)
 have hvl := zdi n st inp k (by omega)
 have hv01 := val01 hn hsl inp k (by omega)
 refine srQ ?_
 refine zbk rfl rfl rfl rfl rfl rfl (fun h8 => ?_) (fun h8 => ?_)
 ·
  refine ntQ (tcQ rfl (zch (sbQ (zab (reQ 1 rfl (hvQ rfl (riQ 2 rfl rfl rfl rfl (zaa hr.an)) ?_))))))
  refine hvQ rfl (zct (us := [.int .i64 ((n.gs.getD k an0).a), .int .i64 ((n.gs.getD k an0).b)]) rfl rfl rfl rfl (zaa hr.an) (by omega) rfl (zdx anC 2 (fun _ => rfl) n.gs an0 (show k < _ by omega) rfl)) (zea rfl (zcf (z := .agg #[.int .i64 0, .int .i64 0]) rfl rfl) ?_)
  intro b9
  refine zai 1 rfl (zcp (cs' := #[.int .i64 ((n.gs.getD k an0).a), .int .i64 ((n.gs.getD k an0).b)]) (i := 0) (off := 0) (us := [.int .i64 ((n.gs.getD k an0).a), .int .i64 ((n.gs.getD k an0).b)]) rfl rfl rfl rfl rfl rfl rfl (zap rfl (zap rfl zce)) rfl rfl rfl ?_)
  refine ntQ ?_
  have hak := hn.an k (by omega)
  obtain ⟨⟨hA0, hA1⟩, hC0, hC1⟩ := id hak
  have hg1 : zs.getD ((n.gs.getD k an0).a / 2).toNat 0 = (valL n st inp k).getD ((n.gs.getD k an0).a / 2).toNat 0 := by rw [hz]; exact fill_get (by omega)
  have hg2 : zs.getD ((n.gs.getD k an0).b / 2).toNat 0 = (valL n st inp k).getD ((n.gs.getD k an0).b / 2).toNat 0 := by rw [hz]; exact fill_get (by omega)
  have hA : zs.getD ((n.gs.getD k an0).a / 2).toNat 0 = 0 ∨ zs.getD ((n.gs.getD k an0).a / 2).toNat 0 = 1 := by rw [hg1]; exact hv01 _ (by omega)
  have hB : zs.getD ((n.gs.getD k an0).b / 2).toNat 0 = 0 ∨ zs.getD ((n.gs.getD k an0).b / 2).toNat 0 = 1 := by rw [hg2]; exact hv01 _ (by omega)
  have hB1 : bitL zs (n.gs.getD k an0).a = bitL (valL n st inp k) (n.gs.getD k an0).a := by unfold bitL; rw [hg1]
  have hB2 : bitL zs (n.gs.getD k an0).b = bitL (valL n st inp k) (n.gs.getD k an0).b := by unfold bitL; rw [hg2]
  have hP1 : bitL zs (n.gs.getD k an0).a = 0 ∨ bitL zs (n.gs.getD k an0).a = 1 := by rw [hB1]; exact bit01 hv01 hA0 (by omega)
  have hP2 : bitL zs (n.gs.getD k an0).b = 0 ∨ bitL zs (n.gs.getD k an0).b = 1 := by rw [hB2]; exact bit01 hv01 hC0 (by omega)
  refine zbd 15 [[], [], [1], [], [2, 3], [], [], [6], [5, 7], [], [], [10], [9, 11], [8, 12], [0, 4]] [55, 56, 57, 58, 59, 60, 61, 62, 63, 64, 65, 66, 67, 68, 69] [.slice (some ⟨g2, 0, none⟩) ((List.replicate (n.cnt).toNat (0 : Int)).length) ((List.replicate (n.cnt).toNat (0 : Int)).length), .agg #[.int .i64 n.ins, n.sv, n.av, n.ov], .int .i64 n.fst, .int .i64 (k : Int), .int .i64 (n.fst + (k : Int)), .slice (some ⟨g2, 0, none⟩) ((List.replicate (n.cnt).toNat (0 : Int)).length) ((List.replicate (n.cnt).toNat (0 : Int)).length), .pointer (some ⟨b9, 0 + 0, none⟩), .int .i64 ((n.gs.getD k an0).a), .int .i64 (bitL zs ((n.gs.getD k an0).a)), .slice (some ⟨g2, 0, none⟩) ((List.replicate (n.cnt).toNat (0 : Int)).length) ((List.replicate (n.cnt).toNat (0 : Int)).length), .pointer (some ⟨b9, 0 + 1, none⟩), .int .i64 ((n.gs.getD k an0).b), .int .i64 (bitL zs ((n.gs.getD k an0).b)), .int .i64 ((bitL zs ((n.gs.getD k an0).a)) * (bitL zs ((n.gs.getD k an0).b))), elP (.slice (some ⟨g2, 0, none⟩) ((List.replicate (n.cnt).toNat (0 : Int)).length) ((List.replicate (n.cnt).toNat (0 : Int)).length)) ((n.fst + (k : Int)).toNat * 1)] (by kernel_rfl) rfl ?_ ?_
  ·
   exact ⟨iaQ rfl (zaf rfl) rfl, iaQ rfl (zaz (cs := [.int .i64 n.ins, n.sv, n.av, n.ov]) rfl rfl rfl rfl rfl (zax 2 rfl 0 rfl)) rfl, .inl ⟨rfl, zaj rfl rfl (fun w hm => zat (firstAnd_yes n w (hr.below hm.bel) hn))⟩, iaQ rfl (zaf rfl) rfl, iaQ rfl (vaQ rfl rfl rfl) rfl, iaQ rfl (zaf rfl) rfl, iaQ rfl (fdQ 0 rfl rfl rfl) rfl, iaQ rfl (zae rfl rfl rfl (zac 0 rfl rfl)) rfl, .inl ⟨rfl, zaj rfl rfl (fun w hm => zat (zde zs ((n.gs.getD k an0).a) _ w ((zao 1 rfl) w hm) (by omega) (by first | assumption | omega) (by omega)))⟩, iaQ rfl (zaf rfl) rfl, iaQ rfl (fdQ 1 rfl rfl rfl) rfl, iaQ rfl (zae rfl rfl rfl (zac 0 rfl rfl)) rfl, .inl ⟨rfl, zaj rfl rfl (fun w hm => zat (zde zs ((n.gs.getD k an0).b) _ w ((zao 1 rfl) w hm) (by omega) (by first | assumption | omega) (by omega)))⟩, iaQ rfl (zcl rfl (by decide) rfl rfl (r := (bitL zs ((n.gs.getD k an0).a)) * (bitL zs ((n.gs.getD k an0).b))) (and01 hP1 hP2)) rfl, iaQ rfl (riQ 1 rfl rfl rfl rfl (zao 1 rfl)) rfl, trivial⟩
  simp only [List.drop_succ_cons, List.drop_zero]
  refine zeo (i := 1) (n' := (zs.set ((n.fst + (k : Int)).toNat) ((bitL zs ((n.gs.getD k an0).a)) * (bitL zs ((n.gs.getD k an0).b)))).length) (xs' := ((zs.set ((n.fst + (k : Int)).toNat) ((bitL zs ((n.gs.getD k an0).a)) * (bitL zs ((n.gs.getD k an0).b)))).map (Value.int .i64))) rfl rfl rfl rfl rfl rfl rfl rfl (by first | omega | (simp only [List.length_set]; omega)) List.length_set.symm (zdl _ _ _) rfl (zbw (zcj (zar (hvQ rfl (vaQ rfl rfl rfl) (enQ 1 rfl ?_)))))
  exact zbg (k + 1) (zs.set ((n.fst + (k : Int)).toNat) ((bitL zs ((n.gs.getD k an0).a)) * (bitL zs ((n.gs.getD k an0).b)))) ⟨by omega, by rw [hB1, hB2, hz, show (n.fst + (k : Int)).toNat = (valL n st inp k).length by omega, val_step n st inp (by omega)]; exact zdn rfl (by omega)⟩ (by omega) (saQ rfl) (slQ [1, 0] rfl)
 refine ntQ (fcQ rfl ?_)
 refine zbb (zda ?_)
 refine zad (zas (zbe 2 rfl ?_))
 exact zav (zcw (post := [rowE 3 1 (.slice (some ⟨g2, 0, none⟩) ((List.replicate (n.cnt).toNat (0 : Int)).length) ((List.replicate (n.cnt).toNat (0 : Int)).length)) zs.length (zs.map (Value.int .i64))]) rfl rfl (slQ [0] rfl) (by rw [hz, show k = n.gs.length by omega, fill_all (by rw [zdi n st inp _ (Nat.le_refl _)]; omega)]))
noncomputable def pB (p : Prop) : Bool := @decide p (Classical.propDecidable p)
theorem pB_yes {p : Prop} (h : p) : pB p = true := @decide_eq_true p (Classical.propDecidable p) h
theorem zei {p : Prop} (h : ¬ p) : pB p = false := @decide_eq_false p (Classical.propDecidable p) h
theorem of_pB {p : Prop} (h : pB p = true) : p := @of_decide_eq_true p (Classical.propDecidable p) h
theorem of_pBn {p : Prop} (h : pB p = false) : ¬ p := @of_decide_eq_false p (Classical.propDecidable p) h
theorem sml {w : World} {v : Value} {s n : Nat} {cs : List Value} (h : RdsW w v s n cs) : n ≤ 9223372036854775807 := by obtain ⟨_, _, _, _, h, _⟩ := h; exact h.1
def rpA (cs : List Int) : Nat → List Int
  | 0 => []
  | i + 1 => rpA cs i ++ if cs.getD i 0 = (i : Int) then [(i : Int)] else []
theorem zdd {cs : List Int} {i : Nat} (h : cs.getD i 0 = (i : Int)) : rpA cs (i + 1) = rpA cs i ++ [(i : Int)] := by
  show _ ++ (if _ then _ else _) = _
  rw [if_pos h]
theorem rpA_no {cs : List Int} {i : Nat} (h : ¬ cs.getD i 0 = (i : Int)) : rpA cs (i + 1) = rpA cs i := by
  show _ ++ (if _ then _ else _) = _
  rw [if_neg h, List.append_nil]
theorem rpA_le (cs : List Int) : ∀ i, (rpA cs i).length ≤ i
  | 0 => Nat.le_refl _
  | i + 1 => by
    have := rpA_le cs i
    by_cases h : cs.getD i 0 = (i : Int)
    · rw [zdd h, List.length_append]; simp; omega
    · rw [rpA_no h]; omega
theorem rpA_at {cs : List Int} {i : Nat} (hp : cs.getD i 0 = (i : Int)) {n : Nat} (hn : i < n) : (rpA cs i).length < (rpA cs n).length ∧ (rpA cs n).getD (rpA cs i).length 0 = (i : Int) := by
  obtain ⟨d, rfl⟩ : ∃ d, n = i + 1 + d := ⟨n - i - 1, by omega⟩
  clear hn
  induction d with
  | zero =>
    rw [Nat.add_zero, zdd hp]
    exact ⟨by rw [List.length_append]; exact Nat.lt_succ_self _, by rw [zcz (Nat.le_refl _), Nat.sub_self]; rfl⟩
  | succ d ih =>
    obtain ⟨h1, h2⟩ := ih
    show (rpA cs i).length < (rpA cs (i + 1 + d) ++ _).length ∧ (rpA cs (i + 1 + d) ++ _).getD _ 0 = _
    exact ⟨by rw [List.length_append]; omega, by rw [zdg h1]; exact h2⟩
def rpN (cs : List Int) : Nat := (rpA cs cs.length).length
structure ClQ (m : Nat) (cs : List Int) : Prop where
  len : cs.length = m
  cl : ∀ i, i < m → (0 ≤ cs.getD i 0 ∧ cs.getD i 0 ≤ (i : Int)) ∧ cs.getD (cs.getD i 0).toNat 0 = cs.getD i 0
structure ClP (n : Nt) (cs : List Int) : Prop where
  q : ClQ n.ss.length cs
  fl : ∀ i, i < n.ss.length → cs.getD i 0 ≠ (i : Int) → (n.ss.getD i sq0).kd = 0 ∧ (n.ss.getD (cs.getD i 0).toNat sq0).kd = 0
noncomputable def mnI (M : Nat → Nat → Prop) (i : Nat) : Nat := ((List.range i).find? (fun j => pB (M i j))).getD i
theorem mnI_hit {M : Nat → Nat → Prop} {i j : Nat} (hj : j < i) (h : M i j) (hn : ∀ q, q < j → ¬ M i q) : mnI M i = j := by
  have e : (List.range i).find? (fun j => pB (M i j)) = some j := by
    rw [List.find?_range_eq_some]
    exact ⟨pB_yes h, by simpa using hj, fun q hq => by rw [zei (hn q hq)]; rfl⟩
  unfold mnI; rw [e]; rfl
theorem zew {M : Nat → Nat → Prop} {i : Nat} (hn : ∀ q, q < i → ¬ M i q) : mnI M i = i := by
  have e : (List.range i).find? (fun j => pB (M i j)) = none := by
    rw [List.find?_eq_none]
    intro q hq
    rw [List.mem_range] at hq
    rw [zei (hn q hq)]; decide
  unfold mnI; rw [e]; rfl
theorem mnI_cases (M : Nat → Nat → Prop) (i : Nat) : (mnI M i = i ∧ ∀ q, q < i → ¬ M i q) ∨ (mnI M i < i ∧ M i (mnI M i) ∧ ∀ q, q < mnI M i → ¬ M i q) := by
  by_cases h : ∃ j, j < i ∧ M i j
  · obtain ⟨j, hj, hm, hl⟩ : ∃ j, j < i ∧ M i j ∧ ∀ q, q < j → ¬ M i q := by
      obtain ⟨j0, h0, h1⟩ := h
      have key : ∀ k, ∀ j, j ≤ k → j < i → M i j → ∃ j, j < i ∧ M i j ∧ ∀ q, q < j → ¬ M i q := by
        intro k
        induction k with
        | zero => intro j hj hi hm; exact ⟨j, hi, hm, fun q hq => absurd hq (by omega)⟩
        | succ k ih =>
          intro j hj hi hm
          by_cases hq : ∃ q, q < j ∧ M i q
          · obtain ⟨q, hq1, hq2⟩ := hq; exact ih q (by omega) (by omega) hq2
          · exact ⟨j, hi, hm, fun q hq1 hq2 => hq ⟨q, hq1, hq2⟩⟩
      exact key j0 j0 (Nat.le_refl _) h0 h1
    right; rw [mnI_hit hj hm hl]; exact ⟨hj, hm, hl⟩
  · left; exact ⟨zew (fun q hq hm => h ⟨q, hq, hm⟩), fun q hq hm => h ⟨q, hq, hm⟩⟩
theorem mnI_le (M : Nat → Nat → Prop) (i : Nat) : mnI M i ≤ i := by rcases mnI_cases M i with ⟨h, _⟩ | ⟨h, _⟩ <;> omega
noncomputable def mnL (M : Nat → Nat → Prop) (m : Nat) : List Int := (List.range m).map (fun i => (mnI M i : Int))
theorem mnL_len (M : Nat → Nat → Prop) (m : Nat) : (mnL M m).length = m := by unfold mnL; simp
theorem mnL_at (M : Nat → Nat → Prop) {m i : Nat} (hi : i < m) : (mnL M m).getD i 0 = (mnI M i : Int) := by
  unfold mnL; rw [List.getD_eq_getElem?_getD, List.getElem?_map, List.getElem?_range hi]; rfl
theorem mnL_succ (M : Nat → Nat → Prop) (m : Nat) : mnL M (m + 1) = mnL M m ++ [(mnI M m : Int)] := by
  unfold mnL; rw [List.range_succ, List.map_append]; rfl
theorem mnL_ok {M : Nat → Nat → Prop} (ht : ∀ i j q, M i j → M j q → M i q) (m : Nat) : ClQ m (mnL M m) := ⟨mnL_len M m, fun i hi => by
  have hle := mnI_le M i
  rw [mnL_at M hi]
  refine ⟨⟨by omega, by omega⟩, ?_⟩
  rw [Int.toNat_natCast, mnL_at M (by omega)]
  rcases mnI_cases M i with ⟨h, _⟩ | ⟨h1, h2, h3⟩
  · rw [h, h]
  · rw [zew (fun q hq hm => h3 q hq (ht _ _ _ h2 hm))]⟩
theorem rpA_mono {a b : List Int} {m i0 : Nat} (h : ∀ i, i < m → a.getD i 0 = (i : Int) → b.getD i 0 = (i : Int)) (hb : b.getD i0 0 = (i0 : Int)) (ha : ¬ a.getD i0 0 = (i0 : Int)) : ∀ k, k ≤ m → (rpA a k).length + (if i0 < k then 1 else 0) ≤ (rpA b k).length
  | 0, _ => by simp [rpA]
  | k + 1, hk => by
    have ih := rpA_mono h hb ha k (by omega)
    by_cases e : i0 = k
    · subst e
      rw [rpA_no ha, zdd hb, List.length_append, if_pos (by omega)]
      rw [if_neg (by omega)] at ih
      simp; omega
    · have e2 : (if i0 < k + 1 then 1 else 0) = (if i0 < k then 1 else 0) := by
        by_cases h9 : i0 < k
        · rw [if_pos h9, if_pos (by omega)]
        · rw [if_neg h9, if_neg (by omega)]
      rw [e2]
      by_cases h1 : a.getD k 0 = (k : Int)
      · rw [zdd h1, zdd (h k (by omega) h1), List.length_append, List.length_append]; simp; omega
      · rw [rpA_no h1]
        by_cases h2 : b.getD k 0 = (k : Int)
        · rw [zdd h2, List.length_append]; simp; omega
        · rw [rpA_no h2]; exact ih
def stX (cs : List Int) (ins x : Int) : Nat → List Int
  | 0 => []
  | i + 1 => stX cs ins x i ++ [if cs.getD i 0 = (i : Int) then x / 2 ^ (ins.toNat + (rpA cs i).length) % 2 else (stX cs ins x i).getD (cs.getD i 0).toNat 0]
theorem zeb (cs : List Int) (ins x : Int) : ∀ i, (stX cs ins x i).length = i
  | 0 => rfl
  | i + 1 => by unfold stX; rw [List.length_append, zeb cs ins x i]; rfl
theorem stX_yes {cs : List Int} {ins x : Int} {i : Nat} (h : cs.getD i 0 = (i : Int)) : stX cs ins x (i + 1) = stX cs ins x i ++ [x / 2 ^ (ins.toNat + (rpA cs i).length) % 2] := by
  show _ ++ [if _ then _ else _] = _
  rw [if_pos h]
theorem stX_no {cs : List Int} {ins x : Int} {i : Nat} (h : ¬ cs.getD i 0 = (i : Int)) : stX cs ins x (i + 1) = stX cs ins x i ++ [(stX cs ins x i).getD (cs.getD i 0).toNat 0] := by
  show _ ++ [if _ then _ else _] = _
  rw [if_neg h]
theorem stX_01 {m : Nat} {cs : List Int} (h : ClQ m cs) (ins x : Int) : ∀ i, i ≤ m → ∀ k, k < i → (stX cs ins x i).getD k 0 = 0 ∨ (stX cs ins x i).getD k 0 = 1
  | 0, _, k, hk => absurd hk (by omega)
  | i + 1, hi, k, hk => by
    have ih := stX_01 h ins x i (by omega)
    have hl := zeb cs ins x i
    have hc := h.cl i (by omega)
    by_cases e : cs.getD i 0 = (i : Int)
    · rw [stX_yes e]
      by_cases h1 : k < i
      · rw [zdg (by omega)]; exact ih k h1
      · rw [zcz (by omega), hl, show k - i = 0 by omega]
        show _ % 2 = 0 ∨ _ % 2 = 1
        omega
    · rw [stX_no e]
      by_cases h1 : k < i
      · rw [zdg (by omega)]; exact ih k h1
      · rw [zcz (by omega), hl, show k - i = 0 by omega]
        exact ih _ (by omega)
theorem stX_ok {n : Nt} (hn : NtOk n) {cs : List Int} (h : ClQ n.ss.length cs) (x : Int) : StOk n (stX cs n.ins x n.ss.length) := ⟨zeb _ _ _ _, fun k hk => by
  have h1 := stX_01 h n.ins x n.ss.length (Nat.le_refl _) k hk
  omega⟩
def bX (n : Nt) (cs : List Int) (x : Int) (i : Nat) : Int := bitL (valsL n (stX cs n.ins x n.ss.length) x) ((n.ss.getD i sq0).xs.getD 0 0)
def cases2 (n : Nt) (cs : List Int) : Nat := 2 ^ (n.ins.toNat + rpN cs)
def ColE (n : Nt) (cs : List Int) (i j : Nat) : Prop := ∀ x : Nat, x < cases2 n cs → bX n cs (x : Int) i = bX n cs (x : Int) j
def RfM (n : Nt) (cs : List Int) (i j : Nat) : Prop := cs.getD j 0 = cs.getD i 0 ∧ ColE n cs i j
theorem RfM.tr {n : Nt} {cs : List Int} (i j q : Nat) (h : RfM n cs i j) (k : RfM n cs j q) : RfM n cs i q := ⟨k.1.trans h.1, fun x hx => (h.2 x hx).trans (k.2 x hx)⟩
noncomputable def rfL (n : Nt) (cs : List Int) : List Int := mnL (RfM n cs) n.ss.length
theorem rfL_ok (n : Nt) (cs : List Int) : ClQ n.ss.length (rfL n cs) := mnL_ok RfM.tr _
theorem rf_rep {n : Nt} {cs : List Int} (h : ClQ n.ss.length cs) {i : Nat} (hi : i < n.ss.length) (e : cs.getD i 0 = (i : Int)) : mnI (RfM n cs) i = i := zew (fun q hq hm => by
  have h1 := (h.cl q (by omega)).1
  have h2 := hm.1
  rw [e] at h2; omega)
theorem rf_more {n : Nt} {cs : List Int} (h : ClQ n.ss.length cs) (hne : rfL n cs ≠ cs) : rpN cs < rpN (rfL n cs) := by
  have hl := (rfL_ok n cs).len
  obtain ⟨i, hi, hd⟩ : ∃ i, i < n.ss.length ∧ (rfL n cs).getD i 0 ≠ cs.getD i 0 := by
    apply Classical.byContradiction
    intro hc
    apply hne
    refine List.ext_getElem (by rw [hl, h.len]) (fun i h1 h2 => ?_)
    rw [hl] at h1
    have h3 : (rfL n cs).getD i 0 = cs.getD i 0 := Classical.byContradiction fun h9 => hc ⟨i, h1, h9⟩
    rwa [List.getD_eq_getElem?_getD, List.getD_eq_getElem?_getD, List.getElem?_eq_getElem (by omega), List.getElem?_eq_getElem h2] at h3
  unfold rfL at hd
  rw [mnL_at _ hi] at hd
  have hle := mnI_le (RfM n cs) i
  have key : ∃ r, r < n.ss.length ∧ (rfL n cs).getD r 0 = (r : Int) ∧ ¬ cs.getD r 0 = (r : Int) := by
    rcases mnI_cases (RfM n cs) i with ⟨h1, h2⟩ | ⟨h1, h2, h3⟩
    · refine ⟨i, hi, ?_, ?_⟩
      · unfold rfL; rw [mnL_at _ hi, h1]
      · intro h4; exact hd (by rw [h1]; exact h4.symm)
    · refine ⟨mnI (RfM n cs) i, by omega, ?_, ?_⟩
      · unfold rfL; rw [mnL_at _ (by omega)]
        rw [zew (fun q hq hm => h3 q hq (RfM.tr _ _ _ h2 hm))]
      · intro h4; exact hd (h4.symm.trans h2.1)
  obtain ⟨r, hr, h1, h2⟩ := key
  have h3 := rpA_mono (a := cs) (b := rfL n cs) (m := n.ss.length) (i0 := r) (fun q hq he => by unfold rfL; rw [mnL_at _ hq, rf_rep h hq he]) h1 h2 n.ss.length (Nat.le_refl _)
  rw [if_pos hr] at h3
  unfold rpN; rw [hl, h.len]; omega
structure HoldP (n : Nt) (cs : List Int) : Prop where
  cl : ClP n cs
  few : n.ins + rpN cs ≤ 10
  ini : ∀ i, i < n.ss.length → (n.ss.getD i sq0).it = (n.ss.getD (cs.getD i 0).toNat sq0).it
  col : ∀ i, i < n.ss.length → ColE n cs i (cs.getD i 0).toNat
theorem rf_eq {n : Nt} {cs : List Int} (h : ClQ n.ss.length cs) : rfL n cs = cs ↔ ∀ i, i < n.ss.length → ColE n cs i (cs.getD i 0).toNat := by
  constructor
  · intro e i hi
    have h1 : (rfL n cs).getD i 0 = cs.getD i 0 := by rw [e]
    unfold rfL at h1
    rw [mnL_at _ hi] at h1
    rw [← h1, Int.toNat_natCast]
    rcases mnI_cases (RfM n cs) i with ⟨h2, _⟩ | ⟨_, h2, _⟩
    · rw [h2]; exact fun x _ => rfl
    · exact h2.2
  · intro hc
    refine List.ext_getElem (by rw [(rfL_ok n cs).len, h.len]) (fun i h1 h2 => ?_)
    rw [(rfL_ok n cs).len] at h1
    have key : (rfL n cs).getD i 0 = cs.getD i 0 := by
      unfold rfL; rw [mnL_at _ h1]
      obtain ⟨⟨h3, h4⟩, h5⟩ := h.cl i h1
      by_cases e : cs.getD i 0 = (i : Int)
      · rw [rf_rep h h1 e, e]
      · rw [mnI_hit (j := (cs.getD i 0).toNat) (by omega) ⟨h5, hc i h1⟩ (fun q hq hm => by
          have h6 := (h.cl q (by omega)).1
          have h7 := hm.1
          omega)]
        omega
    rwa [List.getD_eq_getElem?_getD, List.getD_eq_getElem?_getD, List.getElem?_eq_getElem (by rw [(rfL_ok n cs).len]; exact h1), List.getElem?_eq_getElem h2] at key
theorem bits_ex (f : Nat → Nat) (hf : ∀ k, f k = 0 ∨ f k = 1) : ∀ m, ∃ x : Nat, x < 2 ^ m ∧ ∀ k, k < m → x / 2 ^ k % 2 = f k
  | 0 => ⟨0, by decide, fun k hk => absurd hk (by omega)⟩
  | m + 1 => by
    obtain ⟨x, hx, hb⟩ := bits_ex f hf m
    have hp : 0 < 2 ^ m := Nat.two_pow_pos m
    refine ⟨x + 2 ^ m * f m, ?_, fun k hk => ?_⟩
    · rw [Nat.pow_succ]; rcases hf m with h | h <;> rw [h] <;> omega
    · by_cases e : k = m
      · subst e
        rw [Nat.add_mul_div_left _ _ hp, Nat.div_eq_of_lt hx, Nat.zero_add]
        rcases hf k with h | h <;> rw [h]
      · have e2 : 2 ^ m = 2 ^ k * (2 * 2 ^ (m - k - 1)) := by
          rw [← Nat.mul_assoc, ← Nat.pow_succ, ← Nat.pow_add]; congr 1; omega
        rw [e2, Nat.mul_assoc, Nat.add_mul_div_left _ _ (Nat.two_pow_pos k), Nat.mul_assoc, Nat.add_mul_mod_self_left]
        exact hb k (by omega)
theorem nat01_ite (p : Prop) [Decidable p] (a b : Int) : (if p then (a % 2).toNat else (b % 2).toNat) = 0 ∨ (if p then (a % 2).toNat else (b % 2).toNat) = 1 := by
  split
  · rcases Int.emod_two_eq a with h | h <;> rw [h] <;> decide
  · rcases Int.emod_two_eq b with h | h <;> rw [h] <;> decide
theorem case_ex {n : Nt} (hn : NtOk n) {cs : List Int} (h : ClQ n.ss.length cs) {st : List Int} (hl : st.length = n.ss.length) (hst : ∀ i, i < n.ss.length → st.getD i 0 % 2 = st.getD (cs.getD i 0).toNat 0 % 2) (inp : Int) : ∃ x : Nat, x < cases2 n cs ∧ valsL n (stX cs n.ins (x : Int) n.ss.length) (x : Int) = valsL n st inp := by
  let f : Nat → Nat := fun k => if k < n.ins.toNat then (inp / 2 ^ k % 2).toNat else (st.getD ((rpA cs cs.length).getD (k - n.ins.toNat) 0).toNat 0 % 2).toNat
  obtain ⟨x, hx, hb⟩ := bits_ex f (fun k => nat01_ite _ _ _) (n.ins.toNat + rpN cs)
  have hbi : ∀ k, k < n.ins.toNat + rpN cs → (x : Int) / 2 ^ k % 2 = (f k : Int) := fun k hk => by
    have h1 := hb k hk
    rw [← h1]; push_cast; rfl
  refine ⟨x, hx, ?_⟩
  have key : ∀ i, i ≤ n.ss.length → ∀ j, j < i → (stX cs n.ins (x : Int) i).getD j 0 = st.getD j 0 % 2 := by
    intro i
    induction i with
    | zero => intro _ j hj; exact absurd hj (by omega)
    | succ i ih =>
      intro hi j hj
      have hsl := zeb cs n.ins (x : Int) i
      by_cases e : cs.getD i 0 = (i : Int)
      · rw [stX_yes e]
        by_cases h1 : j < i
        · rw [zdg (by omega)]; exact ih (by omega) j h1
        · rw [zcz (by omega), hsl, show j - i = 0 by omega]
          obtain rfl : j = i := by omega
          obtain ⟨h2, h3⟩ := rpA_at e (n := cs.length) (by rw [h.len]; omega)
          show (x : Int) / 2 ^ (n.ins.toNat + (rpA cs j).length) % 2 = _
          rw [hbi _ (by unfold rpN; omega)]
          show ((if _ then _ else _ : Nat) : Int) = _
          rw [if_neg (by omega), show n.ins.toNat + (rpA cs j).length - n.ins.toNat = (rpA cs j).length by omega, h3, Int.toNat_natCast]
          omega
      · rw [stX_no e]
        by_cases h1 : j < i
        · rw [zdg (by omega)]; exact ih (by omega) j h1
        · rw [zcz (by omega), hsl, show j - i = 0 by omega]
          obtain rfl : j = i := by omega
          have hc := (h.cl j (by omega)).1
          show (stX cs n.ins (x : Int) j).getD (cs.getD j 0).toNat 0 = _
          rw [ih (by omega) _ (by omega)]
          exact (hst j (by omega)).symm
  unfold valsL valL
  have e : leafL n (stX cs n.ins (x : Int) n.ss.length) (x : Int) = leafL n st inp := by
    unfold leafL
    congr 1
    · congr 1
      refine List.map_congr_left (fun k hk => ?_)
      rw [List.mem_range] at hk
      rw [hbi k (by omega)]
      show ((if _ then _ else _ : Nat) : Int) = _
      rw [if_pos hk]; omega
    · refine List.ext_getElem (by rw [List.length_map, List.length_map, zeb, hl]) (fun j h1 h2 => ?_)
      rw [List.length_map, zeb] at h1
      rw [List.getElem_map, List.getElem_map]
      have h3 := key n.ss.length (Nat.le_refl _) j h1
      rw [List.getD_eq_getElem?_getD, List.getD_eq_getElem?_getD, List.getElem?_eq_getElem (by rw [zeb]; exact h1), List.getElem?_eq_getElem (by rw [hl]; exact h1)] at h3
      have h4 : (stX cs n.ins (x : Int) n.ss.length)[j]'(by rw [zeb]; exact h1) = st[j]'(by rw [hl]; exact h1) % 2 := h3
      rw [h4]; omega
  rw [e]
def AgrC (n : Nt) (cs st : List Int) : Prop := ∀ i, i < n.ss.length → st.getD i 0 = st.getD (cs.getD i 0).toNat 0
theorem HoldP.step {n : Nt} (hn : NtOk n) {cs st zs : List Int} (h : HoldP n cs) (hl : st.length = n.ss.length) (ha : AgrC n cs st) {inp : Int} (hz : ∀ k, k < n.ss.length → (n.ss.getD k sq0).kd = 0 → zs.getD k 0 = bitL (valsL n st inp) ((n.ss.getD k sq0).xs.getD 0 0)) : AgrC n cs zs := fun i hi => by
  by_cases e : cs.getD i 0 = (i : Int)
  · rw [e, Int.toNat_natCast]
  · obtain ⟨x, hx, hv⟩ := case_ex hn h.cl.q hl (fun j hj => by rw [ha j hj]) inp
    have hc := (h.cl.q.cl i hi).1
    obtain ⟨k1, k2⟩ := h.cl.fl i hi e
    rw [hz i hi k1, hz _ (by omega) k2, ← hv]
    exact h.col i hi x hx
structure Dr where
  v : Value
  bs : List Bl
abbrev dr0 : Dr := ⟨.slice none 0 0, []⟩
def drC (r : Dr) : List Value := [r.v]
abbrev drPart (r : Dr) : HP := rowE 4 1 r.v r.bs.length (r.bs.flatMap blC)
theorem conv_setPartC {w0 : World} {ps l : List HP} {j : Nat} {p' : HP} (h : j < ps.length) : Conv w0 (p' :: bigE ps :: l) (bigE (ps.set j p') :: l) := fun w hm => by
  have h1 : Mem w0 (bigE ps :: p' :: l) w := hm.perm (.swap _ _ _)
  have h2 := conv_focus (j := j) (p := ps[j]) (List.getElem?_eq_getElem h) w h1
  have h3 : Mem w0 (bigE (ps.eraseIdx j) :: p' :: l) w := h2.sub (List.sublist_cons_self _ _)
  exact conv_unfocus h w (h3.perm (.swap _ _ _))
theorem conv_drSet {w0 : World} {l : List HP} {es : List Dr} {j : Nat} {e' : Dr} (h : j < es.length) : Conv w0 (drPart e' :: bigE (es.map drPart) :: l) (bigE ((es.set j e').map drPart) :: l) := fun w hm => by
  rw [List.map_set]; exact conv_setPartC (by rw [List.length_map]; exact h) w hm
theorem conv_drFocus {w0 : World} {l : List HP} {es : List Dr} {j : Nat} (h : j < es.length) : Conv w0 (bigE (es.map drPart) :: l) (drPart (es.getD j dr0) :: bigE ((es.map drPart).eraseIdx j) :: l) :=
  conv_focus (by rw [List.getElem?_map, getD_at h (d := dr0)]; rfl)
theorem conv_drUnfocus {w0 : World} {l : List HP} {es : List Dr} {j : Nat} {e' : Dr} (h : j < es.length) : Conv w0 (drPart e' :: bigE ((es.map drPart).eraseIdx j) :: l) (bigE ((es.set j e').map drPart) :: l) := fun w hm => by
  rw [List.map_set]; exact conv_unfocus (by rw [List.length_map]; exact h) w hm
theorem dr_flat {D : List Dr} {j : Nat} {e' : Dr} (h : j < D.length) (hv : e'.v = (D.getD j dr0).v) : (D.set j e').flatMap drC = D.flatMap drC := by
  have e : ∀ L : List Dr, L.flatMap drC = L.map Dr.v := fun L => by
    induction L with
    | nil => rfl
    | cons a L ih => rw [List.flatMap_cons, ih]; rfl
  rw [e, e, List.map_set, hv]
  have h2 : (D.getD j dr0).v = (D.map Dr.v)[j]'(by rw [List.length_map]; exact h) := by
    rw [List.getElem_map, List.getD_eq_getElem?_getD, List.getElem?_eq_getElem h]; rfl
  rw [h2, List.set_getElem_self]
theorem conv_drPut {w0 : World} {l : List HP} {D : List Dr} {j e : Nat} {v : Value} {e' : Dr} (h : j < D.length) (hv : e'.v = (D.getD j dr0).v) : Conv w0 (drPart e' :: bigE ((D.map drPart).eraseIdx j) :: rowE e 1 v D.length (D.flatMap drC) :: l) (bigE ((D.set j e').map drPart) :: rowE e 1 v (D.set j e').length ((D.set j e').flatMap drC) :: l) := fun w hm => by
  rw [dr_flat h hv, List.length_set]; exact conv_drUnfocus h w hm
theorem Mem.drNil {w0 w : World} {l : List HP} (h : Mem w0 l w) (n : Nat) : Mem w0 (bigE ((List.replicate n dr0).map drPart) :: l) w := by
  have := h.bigNil 4 1 n
  rw [List.map_replicate]; exact this.big
theorem dr_rd {w0 : World} {l : List HP} {D : List Dr} {i k : Nat} (hi : l[i]? = some (bigE (D.map drPart))) (hk : k < D.length) (w : World) (hm : Mem w0 l w) : RdsW w (D.getD k dr0).v 1 (D.getD k dr0).bs.length ((D.getD k dr0).bs.flatMap blC) :=
  zcm (zdh (hm.holds _ (zbs hi)) (List.mem_map.2 ⟨D.getD k dr0, zbc hk, rfl⟩))
structure DfP (n : Nt) (cs : List Int) (D : List Dr) (X I J : Nat) : Prop where
  len : D.length = n.ss.length
  row : ∀ i, i < n.ss.length → (D.getD i dr0).bs.length = n.ss.length
  ok : ∀ i j, i < n.ss.length → j < i → (((D.getD i dr0).bs.getD j bl0).b = true ↔ ∃ x : Nat, (x < X ∨ x = X ∧ (i < I ∨ i = I ∧ j < J)) ∧ cs.getD i 0 = cs.getD j 0 ∧ bX n cs (x : Int) i ≠ bX n cs (x : Int) j)
theorem getD_setD {D : List Dr} {a s : Nat} {b : Dr} (ha : a < D.length) : (D.set a b).getD s dr0 = if s = a then b else D.getD s dr0 := by
  rw [List.getD_eq_getElem?_getD, List.getElem?_set, List.getD_eq_getElem?_getD]
  by_cases e : a = s
  · rw [if_pos e, if_pos e.symm, if_pos ha]; rfl
  · rw [if_neg e, if_neg (fun h => e h.symm)]
theorem getD_setBl {tk : List Bl} {a s : Nat} {b : Bl} (ha : a < tk.length) : (tk.set a b).getD s bl0 = if s = a then b else tk.getD s bl0 := by
  rw [List.getD_eq_getElem?_getD, List.getElem?_set, List.getD_eq_getElem?_getD]
  by_cases e : a = s
  · rw [if_pos e, if_pos e.symm, if_pos ha]; rfl
  · rw [if_neg e, if_neg (fun h => e h.symm)]
theorem rep_bl (n j : Nat) : ((List.replicate n bl0).getD j bl0).b = false := by
  rw [List.getD_eq_getElem?_getD, List.getElem?_replicate]; split <;> rfl
theorem DfP.start {n : Nt} {cs : List Int} {D : List Dr} (hl : D.length = n.ss.length) (h : ∀ i, i < n.ss.length → (D.getD i dr0).bs = List.replicate n.ss.length bl0) : DfP n cs D 0 0 0 := ⟨hl, fun i hi => by rw [h i hi, List.length_replicate], fun i j hi hj => by
  rw [h i hi, rep_bl]
  constructor
  · intro h9; cases h9
  · rintro ⟨x, h1, -⟩; omega⟩
theorem DfP.skip {n : Nt} {cs : List Int} {D : List Dr} {X I J : Nat} (h : DfP n cs D X I J) (hn : ¬ (cs.getD I 0 = cs.getD J 0 ∧ bX n cs (X : Int) I ≠ bX n cs (X : Int) J)) : DfP n cs D X I (J + 1) := ⟨h.len, h.row, fun i j hi hj => by
  rw [h.ok i j hi hj]
  constructor
  · rintro ⟨x, h1, h2⟩; exact ⟨x, by omega, h2⟩
  · rintro ⟨x, h1, h2, h3⟩
    refine ⟨x, ?_, h2, h3⟩
    rcases h1 with h1 | ⟨rfl, h1 | ⟨rfl, h1⟩⟩
    · exact .inl h1
    · exact .inr ⟨rfl, .inl h1⟩
    · by_cases e : j = J
      · subst e; exact absurd ⟨h2, h3⟩ hn
      · exact .inr ⟨rfl, .inr ⟨rfl, by omega⟩⟩⟩
theorem DfP.put {n : Nt} {cs : List Int} {D : List Dr} {X I J : Nat} (h : DfP n cs D X I J) (hI : I < n.ss.length) (hJ : J < I) (hy : cs.getD I 0 = cs.getD J 0 ∧ bX n cs (X : Int) I ≠ bX n cs (X : Int) J) : DfP n cs (D.set I (Dr.mk (D.getD I dr0).v ((D.getD I dr0).bs.set J (Bl.mk true)))) X I (J + 1) := ⟨by rw [List.length_set]; exact h.len, fun i hi => by
  rw [getD_setD (by rw [h.len]; exact hI)]; split
  · show ((D.getD I dr0).bs.set J _).length = _
    rw [List.length_set]; exact h.row I hI
  · exact h.row i hi, fun i j hi hj => by
  have hr := h.row I hI
  rw [getD_setD (by rw [h.len]; exact hI)]
  by_cases e : i = I
  · subst e
    rw [if_pos rfl]
    show (((D.getD i dr0).bs.set J (Bl.mk true)).getD j bl0).b = true ↔ _
    rw [getD_setBl (by omega)]
    by_cases e2 : j = J
    · subst e2; rw [if_pos rfl]
      exact ⟨fun _ => ⟨X, .inr ⟨rfl, .inr ⟨rfl, by omega⟩⟩, hy⟩, fun _ => rfl⟩
    · rw [if_neg e2, h.ok i j hi hj]
      constructor
      · rintro ⟨x, h1, h2⟩; exact ⟨x, by omega, h2⟩
      · rintro ⟨x, h1, h2⟩; exact ⟨x, by omega, h2⟩
  · rw [if_neg e, h.ok i j hi hj]
    constructor
    · rintro ⟨x, h1, h2⟩; exact ⟨x, by omega, h2⟩
    · rintro ⟨x, h1, h2⟩; exact ⟨x, by omega, h2⟩⟩
theorem DfP.rowEnd {n : Nt} {cs : List Int} {D : List Dr} {X I : Nat} (h : DfP n cs D X I I) : DfP n cs D X (I + 1) 0 := ⟨h.len, h.row, fun i j hi hj => by
  rw [h.ok i j hi hj]
  constructor
  · rintro ⟨x, h1, h2⟩; exact ⟨x, by omega, h2⟩
  · rintro ⟨x, h1, h2⟩; exact ⟨x, by omega, h2⟩⟩
theorem DfP.next {n : Nt} {cs : List Int} {D : List Dr} {X : Nat} (h : DfP n cs D X n.ss.length 0) : DfP n cs D (X + 1) 0 0 := ⟨h.len, h.row, fun i j hi hj => by
  rw [h.ok i j hi hj]
  constructor
  · rintro ⟨x, h1, h2⟩; exact ⟨x, by omega, h2⟩
  · rintro ⟨x, h1, h2⟩; exact ⟨x, by omega, h2⟩⟩
theorem DfP.fin {n : Nt} {cs : List Int} {D : List Dr} (h : DfP n cs D (cases2 n cs) 0 0) {i j : Nat} (hi : i < n.ss.length) (hj : j < i) (he : cs.getD j 0 = cs.getD i 0) : ((D.getD i dr0).bs.getD j bl0).b = false ↔ ColE n cs i j := by
  have h1 := h.ok i j hi hj
  constructor
  · intro hf x hx
    rw [hf] at h1
    exact Classical.byContradiction fun h9 => absurd (h1.2 ⟨x, .inl hx, he.symm, h9⟩) (by decide)
  · intro hc
    cases hb : ((D.getD i dr0).bs.getD j bl0).b
    · rfl
    · obtain ⟨x, h2, -, h3⟩ := h1.1 hb
      exact absurd (hc x (by omega)) h3
theorem cases_eq {n : Nt} {cs : List Int} (h0 : 0 ≤ n.ins) : (1 : Int) * 2 ^ (n.ins + (rpN cs : Int)).toNat = (cases2 n cs : Int) := by
  unfold cases2
  rw [show (n.ins + (rpN cs : Int)).toNat = n.ins.toNat + rpN cs by omega]; push_cast; omega
theorem cases_le {n : Nt} {cs : List Int} (h0 : 0 ≤ n.ins) (h : n.ins + rpN cs ≤ 10) : 1 ≤ cases2 n cs ∧ cases2 n cs ≤ 1024 := by
  unfold cases2
  refine ⟨Nat.one_le_two_pow, ?_⟩
  have : n.ins.toNat + rpN cs ≤ 10 := by omega
  calc 2 ^ (n.ins.toNat + rpN cs) ≤ 2 ^ 10 := Nat.pow_le_pow_right (by decide) this
    _ = 1024 := by decide
theorem rpN_le {m : Nat} {cs : List Int} (h : cs.length = m) : rpN cs ≤ m := by unfold rpN; have := rpA_le cs cs.length; omega
def DnP (M : Nat → Nat → Prop) (i j k : Nat) : Prop := (k = i ∧ ∀ q, j ≤ q → q < i → ¬ M i q) ∨ (j ≤ k ∧ k < i ∧ M i k ∧ ∀ q, j ≤ q → q < k → ¬ M i q)
theorem DnP.start (M : Nat → Nat → Prop) (i : Nat) : DnP M i i i := .inl ⟨rfl, fun q h1 h2 => absurd h2 (by omega)⟩
theorem DnP.hit {M : Nat → Nat → Prop} {i j k : Nat} (h : DnP M i (j + 1) k) (hj : j < i) (hm : M i j) : DnP M i j j := .inr ⟨Nat.le_refl _, hj, hm, fun q h1 h2 => absurd h2 (by omega)⟩
theorem DnP.miss {M : Nat → Nat → Prop} {i j k : Nat} (h : DnP M i (j + 1) k) (hm : ¬ M i j) : DnP M i j k := by
  rcases h with ⟨h1, h2⟩ | ⟨h1, h2, h3, h4⟩
  · exact .inl ⟨h1, fun q h3 h4 => by
      by_cases e : q = j
      · subst e; exact hm
      · exact h2 q (by omega) h4⟩
  · exact .inr ⟨by omega, h2, h3, fun q h5 h6 => by
      by_cases e : q = j
      · subst e; exact hm
      · exact h4 q (by omega) h6⟩
theorem DnP.fin {M : Nat → Nat → Prop} {i k : Nat} (h : DnP M i 0 k) : k = mnI M i := by
  rcases h with ⟨h1, h2⟩ | ⟨_, h2, h3, h4⟩
  · rw [zew (fun q hq => h2 q (Nat.zero_le _) hq)]; exact h1
  · exact (mnI_hit h2 h3 (fun q hq => h4 q (Nat.zero_le _) hq)).symm
def KiM (n : Nt) (i j : Nat) : Prop := ((n.ss.getD i sq0).kd = 0 ∧ (n.ss.getD j sq0).kd = 0) ∧ (n.ss.getD i sq0).it = (n.ss.getD j sq0).it
theorem KiM.tr {n : Nt} (i j q : Nat) (h : KiM n i j) (k : KiM n j q) : KiM n i q := ⟨⟨h.1.1, k.1.2⟩, h.2.trans k.2⟩
theorem inR_notC {a b c : Int} (h : inR a b c = false) : ¬ (b ≤ a ∧ a ≤ c) := fun hh => by rw [(zcn _ _ _).2 hh] at h; cases h
theorem extC {a b : List Int} (hl : a.length = b.length) (h : ∀ i, i < a.length → a.getD i 0 = b.getD i 0) : a = b := by
  refine List.ext_getElem hl (fun i h1 h2 => ?_)
  have := h i h1
  rwa [List.getD_eq_getElem?_getD, List.getD_eq_getElem?_getD, List.getElem?_eq_getElem h1, List.getElem?_eq_getElem h2] at this
theorem zdj (n : Nt) (cs : List Int) (v : Value) (w : World) (hr : RdsNt w n) (hn : NtOk n) (hv : RdsW w v 1 cs.length (cs.map (Value.int .i64))) :
   Calls Try.prog 16 #[.agg #[.int .i64 n.ins, n.sv, n.av, n.ov], v] w (Ans w (.bool (pB (ClP n cs)))) := by
 have hi0 := hn.i0
 have hi1 := hn.i1
 have hs1 := hn.s1
 have ha1 := hn.a1
 have ho1 := hn.o1
 have hcnt : n.cnt = 1 + n.ins + n.ss.length + n.gs.length := rfl
 have hfst : n.fst = 1 + n.ins + n.ss.length := rfl
 have hv9 := sml hv
 refine zba (N := 66) (args := [.agg #[.int .i64 n.ins, n.sv, n.av, n.ov], v]) Try.func16 rfl rfl (srQ ?_)
 refine zea rfl (zcg rfl rfl) ?_
 intro b1
 refine zbf 1 rfl (ssrQ (hvQ rfl (zaz (cs := [.int .i64 n.ins, n.sv, n.av, n.ov]) rfl rfl rfl rfl rfl (zax 0 rfl 0 rfl)) ?_))
 refine zee rfl (zaj rfl rfl (fun w hm => zat (zdt n w (hr.below hm.bel) hn))) (zai 3 rfl (hvQ rfl (lnQ rfl rfl rfl (zaa hv)) (hvQ rfl (fdQ 1 rfl rfl rfl) (hvQ rfl (zae rfl rfl rfl (zac 0 rfl rfl)) (hvQ rfl (lnQ rfl rfl rfl (zaa hr.sq)) ?_)))))
 refine zeq rfl rfl rfl rfl rfl rfl (fun h2 => ?_) (fun h2 => ?_)
 ·
  refine zbf 1 rfl (zan rfl (zbe 1 rfl ?_))
  refine zav (zam ?_)
  exact zbi rfl rfl (congrArg _ (zei (fun hp => by first | (have h9 := hp.q.len; omega) | (have h9 := (hp.q.cl i (by omega)).1; omega) | (have h9 := (hp.q.cl i (by omega)).2; omega) | (have h9 := hp.fl i (by have h8 := hp.q.len; omega) (by omega); omega))).symm)
 refine zbf 1 rfl (zak rfl (zch (zab (zbe 1 rfl ?_))))
 refine zau ?_
 refine lkQ1 (α := Nat) [0, 1, 2, 4, 17] rfl (fun i => [boxE b1 #[.int .i64 n.ins, n.sv, n.av, n.ov] 28]) (fun i => [(5, .int .i64 (i : Int))]) (fun i => i ≤ cs.length ∧ ∀ q, q < i → ((0 ≤ cs.getD q 0 ∧ cs.getD q 0 ≤ (q : Int)) ∧ cs.getD (cs.getD q 0).toNat 0 = cs.getD q 0) ∧ (cs.getD q 0 ≠ (q : Int) → (n.ss.getD q sq0).kd = 0 ∧ (n.ss.getD (cs.getD q 0).toNat sq0).kd = 0)) (fun i => cs.length - i) 0 ⟨Nat.zero_le _, fun q hq => absurd hq (by omega)⟩ (saQ rfl) (pfQ rfl) ?_
 intro i hi3
 obtain ⟨hi, hall⟩ := hi3
 refine zab (zab (reQ 2 rfl (hvQ rfl (lnQ rfl rfl rfl (zaa hv)) ?_)))
 refine zbk rfl rfl rfl rfl rfl rfl (fun h4 => ?_) (fun h4 => ?_)
 ·
  refine ntQ (zan rfl (zch (sbQ (zab (reQ 2 rfl (hvQ rfl (riQ 1 rfl rfl rfl rfl (zaa hv)) (hvQ rfl (liQ rfl rfl rfl (zaa hv)) (zai 1 rfl ?_))))))))
  refine ntQ (zab (reQ 1 rfl ?_))
  refine zbk rfl rfl rfl rfl rfl rfl (fun h5 => ?_) (fun h5 => ?_)
  ·
   refine enQ 36 rfl ?_
   refine zas (zan rfl (zbe 1 rfl ?_))
   refine zav (zah ?_)
   refine rt2Q ?_
   refine zah (zam ?_)
   exact zbi rfl rfl (congrArg _ (zei (fun hp => by first | (have h9 := hp.q.len; omega) | (have h9 := (hp.q.cl i (by omega)).1; omega) | (have h9 := (hp.q.cl i (by omega)).2; omega) | (have h9 := hp.fl i (by have h8 := hp.q.len; omega) (by omega); omega))).symm)
  refine zai 3 rfl (hl_gtr rfl rfl rfl rfl rfl rfl (fun h6 => ?_) (fun h6 => ?_))
  ·
   refine zbf 32 rfl (zan rfl ?_)
   refine zbe 1 rfl ?_
   refine zav (zah ?_)
   refine rt2Q ?_
   refine zah (zam ?_)
   exact zbi rfl rfl (congrArg _ (zei (fun hp => by first | (have h9 := hp.q.len; omega) | (have h9 := (hp.q.cl i (by omega)).1; omega) | (have h9 := (hp.q.cl i (by omega)).2; omega) | (have h9 := hp.fl i (by have h8 := hp.q.len; omega) (by omega); omega))).symm)
  refine zai 4 rfl (hvQ rfl (riQ 1 rfl rfl rfl rfl (zaa hv)) (hvQ rfl (lzQ rfl rfl rfl (zaa hv)) (zai 1 rfl ?_)))
  refine zeq rfl rfl rfl rfl rfl rfl (fun h7 => ?_) (fun h7 => ?_)
  ·
   refine zbf 24 rfl (zan rfl (srQ (enQ 1 rfl ?_)))
   refine zas (zav ?_)
   refine zah (rt2Q ?_)
   refine zah (zam ?_)
   exact zbi rfl rfl (congrArg _ (zei (fun hp => by first | (have h9 := hp.q.len; omega) | (have h9 := (hp.q.cl i (by omega)).1; omega) | (have h9 := (hp.q.cl i (by omega)).2; omega) | (have h9 := hp.fl i (by have h8 := hp.q.len; omega) (by omega); omega))).symm)
  refine zai 4 rfl (zbk rfl rfl rfl rfl rfl rfl (fun h8 => ?_) (fun h8 => ?_))
  ·
   refine zai 1 rfl (hvQ rfl (fdQ 1 rfl rfl rfl) (hvQ rfl (zae rfl rfl rfl (zac 0 rfl rfl)) (zai 1 rfl (hvQ rfl (riQ 3 rfl rfl rfl rfl (zaa hr.sq)) (hvQ rfl (zaw (k0 := 0) rfl rfl rfl (zaa hr.sq) (by omega)) ?_)))))
   refine hvQ rfl (zal (u := .int .i64 ((n.ss.getD i sq0).kd)) rfl rfl rfl (zaa hr.sq) ((zbj sqC 3 (fun _ => rfl) n.ss sq0 (show i < _ by omega) (by decide)).trans rfl)) (zeq rfl rfl rfl rfl rfl rfl (fun h9 => ?_) (fun h9 => ?_))
   ·
    refine zbf 11 rfl (zan rfl (zab ?_))
    refine zar (zbf 1 rfl ?_)
    refine zav (zah ?_)
    refine rt2Q ?_
    refine zah (zam ?_)
    exact zbi rfl rfl (congrArg _ (zei (fun hp => by first | (have h9 := hp.q.len; omega) | (have h9 := (hp.q.cl i (by omega)).1; omega) | (have h9 := (hp.q.cl i (by omega)).2; omega) | (have h9 := hp.fl i (by have h8 := hp.q.len; omega) (by omega); omega))).symm)
   refine zai 1 rfl (hvQ rfl (fdQ 1 rfl rfl rfl) (hvQ rfl (zae rfl rfl rfl (zac 0 rfl rfl)) (zai 1 rfl (hvQ rfl (riQ 3 rfl rfl rfl rfl (zaa hr.sq)) (hvQ rfl (zaw (k0 := 0) rfl rfl rfl (zaa hr.sq) (by omega)) ?_)))))
   refine hvQ rfl (zal (u := .int .i64 ((n.ss.getD ((cs.getD i 0).toNat) sq0).kd)) rfl rfl rfl (zaa hr.sq) ((zbj sqC 3 (fun _ => rfl) n.ss sq0 (show (cs.getD i 0).toNat < _ by omega) (by decide)).trans rfl)) (zeq rfl rfl rfl rfl rfl rfl (fun h10 => ?_) (fun h10 => ?_))
   ·
    refine zbf 3 rfl (zan rfl (zbe 1 rfl ?_))
    refine zav (zah ?_)
    refine rt2Q ?_
    refine zah (zam ?_)
    exact zbi rfl rfl (congrArg _ (zei (fun hp => by first | (have h9 := hp.q.len; omega) | (have h9 := (hp.q.cl i (by omega)).1; omega) | (have h9 := (hp.q.cl i (by omega)).2; omega) | (have h9 := hp.fl i (by have h8 := hp.q.len; omega) (by omega); omega))).symm)
   refine zbf 3 rfl (fsQ rfl (zcj (reQ 1 rfl (hvQ rfl (vaQ rfl rfl rfl) (enQ 1 rfl ?_)))))
   exact zbr (i + 1) ⟨by omega, fun q hq => by by_cases e : q = i; (subst e; exact ⟨⟨⟨by omega, by omega⟩, by omega⟩, fun h9 => ⟨by omega, by omega⟩⟩); exact hall q (by omega)⟩ (by omega) (saQ rfl) (pfQ rfl)
  refine zbf 19 rfl (fsQ rfl (zcj (reQ 1 rfl (hvQ rfl (vaQ rfl rfl rfl) (zai 1 rfl ?_)))))
  exact zbw (zbr (i + 1) ⟨by omega, fun q hq => by by_cases e : q = i; (subst e; exact ⟨⟨⟨by omega, by omega⟩, by omega⟩, fun h9 => ⟨by omega, by omega⟩⟩); exact hall q (by omega)⟩ (by omega) (saQ rfl) (pfQ rfl))
 refine ntQ (zak rfl ?_)
 refine zbb (zda ?_)
 refine zad (zas (zbe 1 rfl ?_))
 exact zav (zbi rfl rfl (congrArg _ (pB_yes ⟨⟨by omega, fun q hq => (hall q (by omega)).1⟩, fun q hq => (hall q (by omega)).2⟩).symm))
theorem l07BitC_ans (b : Bool) (w : World)  :
   Calls Try.prog 35 #[.bool b] w (Ans w (.int .i64 (if b = true then 1 else 0))) := by
 refine zba (N := 4) (args := [.bool b]) Try.func35 rfl rfl (zbe 1 rfl (zab (zab (reQ 1 rfl ?_))))
 refine zbo (fun h1 => ?_) (fun h1 => ?_)
 ·
  refine ntQ (zan rfl (zbe 1 rfl ?_))
  refine zav (zam ?_)
  exact zbi rfl rfl (by first | rw [if_pos (by assumption)] | rw [if_neg (by simp_all)])
 refine ntQ (zak rfl (zch (zbe 1 rfl ?_)))
 exact zav (zbi rfl rfl (by first | rw [if_pos (by assumption)] | rw [if_neg (by simp_all)]))
theorem zdo (cs : List Int) (v : Value) (w : World) (hv : RdsW w v 1 cs.length (cs.map (Value.int .i64))) :
   Calls Try.prog 17 #[v] w (Ans w (.int .i64 (rpN cs : Int))) := by
 have hv9 := sml hv
 refine zba (N := 21) (args := [v]) Try.func17 rfl rfl (zbe 1 rfl (zbe 1 rfl (zab ?_)))
 refine zbe 1 rfl (zau ?_)
 refine lkQ2 (α := Nat) (β := Int) [0, 2] rfl (fun i c => []) (fun i c => [(3, .int .i64 c), (4, .int .i64 (i : Int))]) (fun i c => i ≤ cs.length ∧ c = ((rpA cs i).length : Int)) (fun i c => cs.length - i) 0 0 ⟨Nat.zero_le _, rfl⟩ (saQ rfl) (.slnil) ?_
 intro i c hi1
 obtain ⟨hi, hc⟩ := hi1
 have hrl := rpA_le cs i
 refine zab (zab (reQ 2 rfl (hvQ rfl (lnQ rfl rfl rfl (zaa hv)) ?_)))
 refine zbk rfl rfl rfl rfl rfl rfl (fun h2 => ?_) (fun h2 => ?_)
 ·
  refine ntQ (zan rfl (zch (sbQ (reQ 3 rfl (hvQ rfl (riQ 1 rfl rfl rfl rfl (zaa hv)) (hvQ rfl (liQ rfl rfl rfl (zaa hv)) (zai 1 rfl ?_)))))))
  refine zcs rfl rfl rfl rfl rfl rfl (fun h3 => ?_) (fun h3 => ?_)
  ·
   refine zee rfl (zaj rfl rfl (fun w hm => zat (l07BitC_ans true w))) (hvQ rfl (vaQ rfl rfl rfl) (enQ 1 rfl (zcj (reQ 1 rfl (hvQ rfl (vaQ rfl rfl rfl) (enQ 1 rfl ?_))))))
   exact zbg (i + 1) (c + 1) ⟨by omega, by first | (rw [zdd (show cs.getD i 0 = (i : Int) by assumption), List.length_append, List.length_singleton]; omega) | (rw [rpA_no (by assumption)]; omega)⟩ (by omega) (saQ rfl) (.slnil)
  refine zee rfl (zaj rfl rfl (fun w hm => zat (l07BitC_ans false w))) (hvQ rfl (vaQ rfl rfl rfl) (enQ 1 rfl (zcj (reQ 1 rfl (hvQ rfl (vaQ rfl rfl rfl) (enQ 1 rfl ?_))))))
  exact zbg (i + 1) (c + 0) ⟨by omega, by first | (rw [zdd (show cs.getD i 0 = (i : Int) by assumption), List.length_append, List.length_singleton]; omega) | (rw [rpA_no (by assumption)]; omega)⟩ (by omega) (saQ rfl) (.slnil)
 refine ntQ (zak rfl ?_)
 refine zbb (zda ?_)
 refine zad (zas (zbe 2 rfl ?_))
 exact zav (zbi rfl rfl (by rw [hc, show i = cs.length by omega]; rfl))
theorem l16Same_ans (xs ys : List Int) (u v : Value) (w : World) (hu : RdsW w u 1 xs.length (xs.map (Value.int .i64))) (hv : RdsW w v 1 ys.length (ys.map (Value.int .i64))) (hl : xs.length = ys.length) :
   Calls Try.prog 18 #[u, v] w (Ans w (.bool (decide (xs = ys)))) := by
 have hu9 := sml hu
 have hv9 := sml hv
 refine zba (N := 21) (args := [u, v]) Try.func18 rfl rfl (zbe 1 rfl (zab (zbe 1 rfl ?_)))
 refine zau ?_
 refine lkQ1 (α := Nat) [0, 1, 4] rfl (fun j => []) (fun j => [(5, .int .i64 (j : Int))]) (fun j => j ≤ xs.length ∧ ∀ i, i < j → xs.getD i 0 = ys.getD i 0) (fun j => xs.length - j) 0 ⟨by omega, fun i hi => absurd hi (by omega)⟩ (saQ rfl) (.slnil) ?_
 intro j hi1
 obtain ⟨hk1, hk2⟩ := hi1
 refine zab (zab (reQ 2 rfl (hvQ rfl (lnQ rfl rfl rfl (zaa hu)) ?_)))
 refine zbk rfl rfl rfl rfl rfl rfl (fun h2 => ?_) (fun h2 => ?_)
 ·
  refine ntQ (zan rfl (zch (sbQ (zab ?_))))
  rcases Bool.eq_false_or_eq_true ((xs.getD j 0) != (ys.getD j 0)) with hb3 | hb3
  ·
   have hb3p : xs.getD j 0 ≠ ys.getD j 0 := bne_iff_ne.1 hb3
   refine zbd 9 [[], [], [0, 1], [2], [], [], [4, 5], [6], [3, 7]] [12, 13, 14, 15, 16, 17, 18, 19, 20] [u, .int .i64 (j : Int), elP u (((j : Int)).toNat * 1), .int .i64 (xs.getD j 0), v, .int .i64 (j : Int), elP v (((j : Int)).toNat * 1), .int .i64 (ys.getD j 0), .bool true] (by kernel_rfl) rfl ?_ ?_
   ·
    exact ⟨iaQ rfl (zaf rfl) rfl, iaQ rfl (zaf rfl) rfl, iaQ rfl (riQ 1 rfl rfl rfl rfl (zaa hu)) rfl, iaQ rfl (liQ rfl rfl rfl (zaa hu)) rfl, iaQ rfl (zaf rfl) rfl, iaQ rfl (zaf rfl) rfl, iaQ rfl (riQ 1 rfl rfl rfl rfl (zaa hv)) rfl, iaQ rfl (liQ rfl rfl rfl (zaa hv)) rfl, .inl ⟨rfl, zbx (zbl rfl rfl rfl rfl) hb3⟩, trivial⟩
   simp only [List.drop_succ_cons, List.drop_zero]
   refine ntQ (zan rfl (zbe 1 rfl ?_))
   refine zav (zah ?_)
   refine rt2Q ?_
   refine zah (zam ?_)
   exact zbi rfl rfl (congrArg _ (decide_eq_false (fun he => by subst he; first | omega | contradiction | simp_all)).symm)
  have hb3p : xs.getD j 0 = ys.getD j 0 := (bne_eq_false_iff_eq.1 hb3)
  refine zbd 9 [[], [], [0, 1], [2], [], [], [4, 5], [6], [3, 7]] [12, 13, 14, 15, 16, 17, 18, 19, 20] [u, .int .i64 (j : Int), elP u (((j : Int)).toNat * 1), .int .i64 (xs.getD j 0), v, .int .i64 (j : Int), elP v (((j : Int)).toNat * 1), .int .i64 (ys.getD j 0), .bool false] (by kernel_rfl) rfl ?_ ?_
  ·
   exact ⟨iaQ rfl (zaf rfl) rfl, iaQ rfl (zaf rfl) rfl, iaQ rfl (riQ 1 rfl rfl rfl rfl (zaa hu)) rfl, iaQ rfl (liQ rfl rfl rfl (zaa hu)) rfl, iaQ rfl (zaf rfl) rfl, iaQ rfl (zaf rfl) rfl, iaQ rfl (riQ 1 rfl rfl rfl rfl (zaa hv)) rfl, iaQ rfl (liQ rfl rfl rfl (zaa hv)) rfl, .inl ⟨rfl, zbx (zbl rfl rfl rfl rfl) hb3⟩, trivial⟩
  simp only [List.drop_succ_cons, List.drop_zero]
  refine ntQ (fsQ rfl (zcj (reQ 1 rfl (hvQ rfl (vaQ rfl rfl rfl) (enQ 1 rfl ?_)))))
  exact zbr (j + 1) ⟨by omega, fun i hi => by by_cases hij : i = j; (subst hij; simpa using (by assumption)); exact hk2 i (by omega)⟩ (by omega) (saQ rfl) (.slnil)
 refine ntQ (zak rfl ?_)
 refine zbb (zda ?_)
 refine zad (zas (zbe 1 rfl ?_))
 exact zav (zbi rfl rfl (congrArg _ (decide_eq_true (extC (by omega) (fun i hi => hk2 i (by omega)))).symm))
theorem l16Refine_ret (n : Nt) (cs : List Int) (v : Value) (w : World) (hr : RdsNt w n) (hn : NtOk n) (hv : RdsW w v 1 cs.length (cs.map (Value.int .i64))) (hq : ClQ n.ss.length cs) (hf : n.ins + rpN cs ≤ 10) :
   Calls Try.prog 19 #[.agg #[.int .i64 n.ins, n.sv, n.av, n.ov], v] w (Ret w (fun v' post => post = [rowE 3 1 v' ((rfL n cs)).length (((rfL n cs)).map (Value.int .i64))])) := by
 have hi0 := hn.i0
 have hi1 := hn.i1
 have hs1 := hn.s1
 have ha1 := hn.a1
 have ho1 := hn.o1
 have hcnt : n.cnt = 1 + n.ins + n.ss.length + n.gs.length := rfl
 have hfst : n.fst = 1 + n.ins + n.ss.length := rfl
 have hcl := hq.len
 have hrp := rpN_le hcl
 have hcq := cases_le hi0 hf
 refine zba (N := 173) (args := [.agg #[.int .i64 n.ins, n.sv, n.av, n.ov], v]) Try.func19 rfl rfl (srQ ?_)
 refine zea rfl (zcg rfl rfl) ?_
 intro b1
 refine zbf 1 rfl (zab (reQ 1 rfl ?_))
 refine zee rfl (zaj rfl rfl (fun w hm => zat (zdo cs v w (hv.below hm.bel)))) (zbf 1 rfl (zab (reQ 1 rfl (hvQ rfl (lnQ rfl rfl rfl (zaa hv)) ?_))))
 refine hrwQ rfl (rq_make (z := .slice none 0 0) (s := 1) (bytes := 24) (n := (List.replicate cs.length dr0).length) (cs := ((List.replicate cs.length dr0).flatMap drC)) rfl Try.underlying55 rfl (by decide) rfl rfl (by first | (rw [List.length_replicate]; done) | (rw [List.length_replicate]; omega)) (by first | (rw [List.length_replicate]; done) | (rw [List.length_replicate]; omega)) (by rw [List.length_replicate]; omega) (made_flat drC 1 (fun _ => rfl) dr0 _ rfl cs.length)) ?_
 intro g2
 refine zbf 1 rfl (zab (zbe 1 rfl (zau ?_)))
 refine zey [bigE ((List.replicate cs.length dr0).map drPart), rowE 56 1 (.slice (some ⟨g2, 0, none⟩) ((List.replicate cs.length dr0).length) ((List.replicate cs.length dr0).length)) ((List.replicate cs.length dr0).length) ((List.replicate cs.length dr0).flatMap drC), boxE b1 #[.int .i64 n.ins, n.sv, n.av, n.ov] 28] (fun w hm => hm.drNil cs.length) ?_
 refine lkQ2 (α := Nat) (β := List Dr) [0, 1, 2, 4, 5, 6] rfl (fun k D => [bigE (D.map drPart), rowE 56 1 (.slice (some ⟨g2, 0, none⟩) ((List.replicate cs.length dr0).length) ((List.replicate cs.length dr0).length)) D.length (D.flatMap drC), boxE b1 #[.int .i64 n.ins, n.sv, n.av, n.ov] 28]) (fun k D => [(7, .int .i64 (k : Int))]) (fun k D => k ≤ cs.length ∧ D.length = cs.length ∧ ∀ i, i < k → (D.getD i dr0).bs = List.replicate cs.length bl0) (fun k D => cs.length - k) 0 (List.replicate cs.length dr0) ⟨Nat.zero_le _, List.length_replicate, fun i hi => absurd hi (by omega)⟩ (saQ rfl) (pfQ rfl) ?_
 intro k D hi3
 obtain ⟨hk, hdl, hdr⟩ := hi3
 refine zab (zab (reQ 2 rfl (hvQ rfl (lnQ rfl rfl rfl (zaa hv)) ?_)))
 refine zbk rfl rfl rfl rfl rfl rfl (fun h4 => ?_) (fun h4 => ?_)
 ·
  refine ntQ (zan rfl (zch (sbQ (reQ 3 rfl (hvQ rfl (lnQ rfl rfl rfl (zaa hv)) ?_)))))
  refine hrwQ rfl (rq_make (z := .bool false) (s := 1) (bytes := 1) (n := (List.replicate cs.length bl0).length) (cs := ((List.replicate cs.length bl0).flatMap blC)) rfl Try.underlying56 rfl (by decide) rfl rfl (by first | (rw [List.length_replicate]; done) | (rw [List.length_replicate]; omega)) (by first | (rw [List.length_replicate]; done) | (rw [List.length_replicate]; omega)) (by rw [List.length_replicate]; omega) (made_flat blC 1 (fun _ => rfl) bl0 _ rfl cs.length)) ?_
  intro g5
  refine hvQ rfl (riQ 1 rfl rfl rfl rfl (zao 2 rfl)) (zeo (i := 2) (n' := (D.set k (Dr.mk (.slice (some ⟨g5, 0, none⟩) ((List.replicate cs.length bl0).length) ((List.replicate cs.length bl0).length)) (List.replicate cs.length bl0))).length) rfl rfl rfl rfl rfl rfl rfl rfl (by first | omega | (simp only [List.length_set]; omega)) List.length_set.symm (flat_set1 drC (fun r => r.v) (fun _ => rfl) _ (Dr.mk (.slice (some ⟨g5, 0, none⟩) ((List.replicate cs.length bl0).length) ((List.replicate cs.length bl0).length)) (List.replicate cs.length bl0)) rfl) rfl ?_)
  refine zex 4 [3, 2, 1, 0] rfl rfl (by decide) ?_
  refine zek [bigE ((D.set k (Dr.mk (.slice (some ⟨g5, 0, none⟩) ((List.replicate cs.length bl0).length) ((List.replicate cs.length bl0).length)) (List.replicate cs.length bl0))).map drPart), rowE 56 1 (.slice (some ⟨g2, 0, none⟩) ((List.replicate cs.length dr0).length) ((List.replicate cs.length dr0).length)) ((D.set k (Dr.mk (.slice (some ⟨g5, 0, none⟩) ((List.replicate cs.length bl0).length) ((List.replicate cs.length bl0).length)) (List.replicate cs.length bl0))).length) ((D.set k (Dr.mk (.slice (some ⟨g5, 0, none⟩) ((List.replicate cs.length bl0).length) ((List.replicate cs.length bl0).length)) (List.replicate cs.length bl0))).flatMap drC), boxE b1 #[.int .i64 n.ins, n.sv, n.av, n.ov] 28] (conv_drSet (es := D) (j := k) (e' := (Dr.mk (.slice (some ⟨g5, 0, none⟩) ((List.replicate cs.length bl0).length) ((List.replicate cs.length bl0).length)) (List.replicate cs.length bl0))) (by first | omega | (simp only [List.length_set]; omega))) ?_
  refine zbw (zcj (reQ 1 rfl (hvQ rfl (vaQ rfl rfl rfl) (enQ 1 rfl ?_))))
  exact zbg (k + 1) (D.set k (Dr.mk (.slice (some ⟨g5, 0, none⟩) ((List.replicate cs.length bl0).length) ((List.replicate cs.length bl0).length)) (List.replicate cs.length bl0))) ⟨by omega, by rw [List.length_set]; exact hdl, fun i hi => by rw [getD_setD (by omega)]; split; (rfl); exact hdr i (by omega)⟩ (by omega) (saQ rfl) (pfQ rfl)
 refine ntQ (zak rfl ?_)
 refine zbb (zda ?_)
 refine zad (zas (zab (zbe 1 rfl (zau ?_))))
 refine lkQ2 (α := Nat) (β := List Dr) [0, 1, 2, 4, 5, 6, 27] rfl (fun x D1 => [bigE (D1.map drPart), rowE 56 1 (.slice (some ⟨g2, 0, none⟩) ((List.replicate cs.length dr0).length) ((List.replicate cs.length dr0).length)) D1.length (D1.flatMap drC), boxE b1 #[.int .i64 n.ins, n.sv, n.av, n.ov] 28]) (fun x D1 => [(8, .int .i64 (x : Int))]) (fun x D1 => x ≤ cases2 n cs ∧ DfP n cs D1 x 0 0) (fun x D1 => cases2 n cs - x) 0 D ⟨Nat.zero_le _, DfP.start (by omega) (fun i hi => by rw [← hcl]; exact hdr i (by omega))⟩ (saQ rfl) (pfQ rfl) ?_
 intro x D1 hi6
 obtain ⟨hx, hdf⟩ := hi6
 refine zab (zab (reQ 1 rfl (hvQ rfl (fdQ 0 rfl rfl rfl) (hvQ rfl (zae rfl rfl rfl (zac 2 rfl rfl)) (zai 1 rfl (hvQ rfl (vaQ rfl rfl rfl) (hvQ rfl (rv_shl (kk' := .i64) rfl rfl rfl (by omega) (by rw [cases_eq hi0]; constructor <;> omega)) ?_)))))))
 rw [show 1 * 2 ^ (n.ins + (rpN cs : Int)).toNat = (cases2 n cs : Int) from cases_eq hi0]
 refine zbk rfl rfl rfl rfl rfl rfl (fun h7 => ?_) (fun h7 => ?_)
 ·
  refine ntQ (zan rfl (zch (sbQ (zab (reQ 1 rfl (hvQ rfl (lnQ rfl rfl rfl (zaa hv)) ?_))))))
  refine hrwQ rfl (rq_make (z := .int .i64 0) (s := 1) (bytes := 8) (n := (List.replicate cs.length (0 : Int)).length) (cs := ((List.replicate cs.length (0 : Int)).map (Value.int .i64))) rfl Try.underlying26 rfl (by decide) rfl rfl (by first | (rw [List.length_replicate]; done) | (rw [List.length_replicate]; omega)) (by first | (rw [List.length_replicate]; done) | (rw [List.length_replicate]; omega)) (by rw [List.length_replicate]; omega) (ints_make _)) ?_
  intro g8
  refine zbf 1 rfl (srQ (hvQ rfl (fdQ 0 rfl rfl rfl) (hvQ rfl (zae rfl rfl rfl (zac 3 rfl rfl)) (zbf 1 rfl (zab (zab ?_))))))
  refine zar (zbf 1 rfl (zau ?_))
  refine lkQ3 (α := Nat) (β := Int) (γ := List Int) [0, 1, 2, 4, 5, 6, 8, 9, 27, 42] rfl (fun i c zs => [rowE 3 1 (.slice (some ⟨g8, 0, none⟩) ((List.replicate cs.length (0 : Int)).length) ((List.replicate cs.length (0 : Int)).length)) zs.length (zs.map (Value.int .i64)), bigE (D1.map drPart), rowE 56 1 (.slice (some ⟨g2, 0, none⟩) ((List.replicate cs.length dr0).length) ((List.replicate cs.length dr0).length)) D1.length (D1.flatMap drC), boxE b1 #[.int .i64 n.ins, n.sv, n.av, n.ov] 28]) (fun i c zs => [(10, .int .i64 c), (11, .int .i64 (i : Int))]) (fun i c zs => i ≤ cs.length ∧ c = n.ins + ((rpA cs i).length : Int) ∧ zs = fillZ cs.length (stX cs n.ins (x : Int) i)) (fun i c zs => cs.length - i) 0 n.ins (List.replicate cs.length 0) ⟨Nat.zero_le _, (by show _ = n.ins + ((0 : Nat) : Int); omega), rfl⟩ (saQ rfl) (pfQ rfl) ?_
  intro i c zs hi9
  obtain ⟨hi, hc, hz⟩ := hi9
  have hrl := rpA_le cs i
  have hxl := zeb cs n.ins (x : Int) i
  have hzl : zs.length = cs.length := by rw [hz]; exact zfa (by omega)
  refine zab (zab (reQ 2 rfl (hvQ rfl (lnQ rfl rfl rfl (zaa hv)) ?_)))
  refine zbk rfl rfl rfl rfl rfl rfl (fun h10 => ?_) (fun h10 => ?_)
  ·
   refine ntQ (zan rfl (zch (sbQ (zab (reQ 2 rfl (hvQ rfl (riQ 1 rfl rfl rfl rfl (zaa hv)) (hvQ rfl (liQ rfl rfl rfl (zaa hv)) (zai 1 rfl ?_))))))))
   refine zcs rfl rfl rfl rfl rfl rfl (fun h11 => ?_) (fun h11 => ?_)
   ·
    refine ntQ (zan rfl (srQ ?_))
    have hpw : (x : Int) / 2 ^ c.toNat = (x : Int) / 2 ^ (n.ins.toNat + (rpA cs i).length) := by rw [show c.toNat = n.ins.toNat + (rpA cs i).length by omega]
    have hp0 : 0 ≤ (x : Int) / 2 ^ c.toNat ∧ (x : Int) / 2 ^ c.toNat < 4294967296 := ⟨Int.ediv_nonneg (by omega) (Int.le_of_lt (Int.pow_pos (by omega))), Int.lt_of_le_of_lt (Int.ediv_le_self _ (by omega)) (by omega)⟩
    refine zai 1 rfl (zai 3 rfl (hvQ rfl (rv_shr rfl rfl rfl (by omega)) (hvQ rfl (zcl rfl (by decide) rfl rfl (r := ((x : Int) / 2 ^ (c : Int).toNat) % 2) (Bit.and_one _ hp0.1 hp0.2)) (hvQ rfl (riQ 1 rfl rfl rfl rfl (zao 0 rfl)) ?_))))
    refine zeo (i := 0) (n' := (zs.set i (((x : Int) / 2 ^ (c : Int).toNat) % 2)).length) (xs' := ((zs.set i (((x : Int) / 2 ^ (c : Int).toNat) % 2)).map (Value.int .i64))) rfl rfl rfl rfl rfl rfl rfl rfl (by first | omega | (simp only [List.length_set]; omega)) List.length_set.symm (zdl _ _ _) rfl (ntQ (reQ 1 rfl (hvQ rfl (vaQ rfl rfl rfl) (enQ 1 rfl (zcj (reQ 1 rfl (hvQ rfl (vaQ rfl rfl rfl) ?_)))))))
    refine enQ 1 rfl ?_
    exact zbh (i + 1) (c + 1) (zs.set i (((x : Int) / 2 ^ (c : Int).toNat) % 2)) ⟨by omega, by first | (rw [zdd (show cs.getD i 0 = (i : Int) by assumption), List.length_append, List.length_singleton]; omega) | (rw [rpA_no (by assumption)]; omega), by first | (rw [stX_yes (show cs.getD i 0 = (i : Int) by assumption), ← hpw, ← zdn (C := cs.length) (j := i) hxl.symm (by rw [hxl]; omega), ← hz]) | (rw [stX_no (by assumption), ← hgz, ← zdn (C := cs.length) (j := i) hxl.symm (by rw [hxl]; omega), ← hz])⟩ (by omega) (saQ rfl) (pfQ rfl)
   refine ntQ (zak rfl (zar ?_))
   have hci := (hq.cl i (by omega)).1
   have hgz : zs.getD (cs.getD i 0).toNat 0 = (stX cs n.ins (x : Int) i).getD (cs.getD i 0).toNat 0 := by rw [hz]; exact fill_get (by omega)
   refine zai 5 rfl (hvQ rfl (riQ 1 rfl rfl rfl rfl (zaa hv)) (hvQ rfl (liQ rfl rfl rfl (zaa hv)) (hvQ rfl (riQ 1 rfl rfl rfl rfl (zao 0 rfl)) (hvQ rfl (lzQ rfl rfl rfl (zao 0 rfl)) (hvQ rfl (riQ 1 rfl rfl rfl rfl (zao 0 rfl)) ?_)))))
   refine zeo (i := 0) (n' := (zs.set i (zs.getD ((cs.getD i 0).toNat) 0)).length) (xs' := ((zs.set i (zs.getD ((cs.getD i 0).toNat) 0)).map (Value.int .i64))) rfl rfl rfl rfl rfl rfl rfl rfl (by first | omega | (simp only [List.length_set]; omega)) List.length_set.symm (zdl _ _ _) rfl (zbw (zcj (reQ 1 rfl (hvQ rfl (vaQ rfl rfl rfl) (enQ 1 rfl ?_)))))
   exact zbh (i + 1) c (zs.set i (zs.getD ((cs.getD i 0).toNat) 0)) ⟨by omega, by first | (rw [zdd (show cs.getD i 0 = (i : Int) by assumption), List.length_append, List.length_singleton]; omega) | (rw [rpA_no (by assumption)]; omega), by first | (rw [stX_yes (show cs.getD i 0 = (i : Int) by assumption), ← hpw, ← zdn (C := cs.length) (j := i) hxl.symm (by rw [hxl]; omega), ← hz]) | (rw [stX_no (by assumption), ← hgz, ← zdn (C := cs.length) (j := i) hxl.symm (by rw [hxl]; omega), ← hz])⟩ (by omega) (saQ rfl) (pfQ rfl)
  refine ntQ (zak rfl ?_)
  refine zbb (zda ?_)
  refine zad (zas (srQ ?_))
  have hze : zs = stX cs n.ins (x : Int) n.ss.length := by rw [hz, show i = n.ss.length by omega]; exact fill_all (by rw [zeb]; omega)
  have hso := stX_ok hn hq (x : Int)
  have hsl := hso.len
  refine hvQ rfl (zaz (cs := [.int .i64 n.ins, n.sv, n.av, n.ov]) rfl rfl rfl rfl rfl (zax 3 rfl 0 rfl)) (zai 2 rfl ?_)
  refine hl_q rfl rfl rfl (zaj rfl rfl (fun w hm => (by have h9 := specNodeValues_ret n zs _ (x : Int) w (hr.below hm.bel) hn ((zao 0 rfl) w hm) (by rw [hze]; exact hso) (by omega); rw [hze] at h9; exact h9))) ?_
  intro v12 p13 hR14
  subst hR14
  refine zbf 1 rfl (zbe 1 rfl (zau ?_))
  refine lkQ2 (α := Nat) (β := List Dr) [0, 1, 2, 4, 5, 6, 8, 9, 10, 11, 12, 27, 42, 53] rfl (fun I9 D2 => [rowE 3 1 v12 ((valsL n (stX cs n.ins (x : Int) n.ss.length) (x : Int)).length) ((valsL n (stX cs n.ins (x : Int) n.ss.length) (x : Int)).map (Value.int .i64)), bigE (D2.map drPart), rowE 56 1 (.slice (some ⟨g2, 0, none⟩) ((List.replicate cs.length dr0).length) ((List.replicate cs.length dr0).length)) D2.length (D2.flatMap drC), boxE b1 #[.int .i64 n.ins, n.sv, n.av, n.ov] 28]) (fun I9 D2 => [(13, .int .i64 (I9 : Int))]) (fun I9 D2 => I9 ≤ cs.length ∧ DfP n cs D2 x I9 0) (fun I9 D2 => cs.length - I9) 0 D1 ⟨Nat.zero_le _, hdf⟩ (saQ rfl) (slQ [0, 1, 0, 0] rfl) ?_
  intro I9 D2 hi15
  obtain ⟨hI, hd2⟩ := hi15
  have hvl : (valsL n (stX cs n.ins (x : Int) n.ss.length) (x : Int)).length = 1 + n.ins.toNat + (stX cs n.ins (x : Int) n.ss.length).length + n.gs.length := zdi n (stX cs n.ins (x : Int) n.ss.length) (x : Int) n.gs.length (Nat.le_refl _)
  have hv01 : B01 (valsL n (stX cs n.ins (x : Int) n.ss.length) (x : Int)) := val01 hn hsl (x : Int) n.gs.length (Nat.le_refl _)
  refine zab (zab (reQ 2 rfl (hvQ rfl (lnQ rfl rfl rfl (zaa hv)) ?_)))
  refine zbk rfl rfl rfl rfl rfl rfl (fun h16 => ?_) (fun h16 => ?_)
  ·
   refine ntQ (zan rfl (zch (sbQ (zbe 1 rfl ?_))))
   refine zau ?_
   refine lkQ2 (α := Nat) (β := List Dr) [0, 1, 2, 4, 5, 6, 8, 9, 10, 11, 12, 13, 27, 42, 53, 88] rfl (fun J9 D3 => [rowE 3 1 v12 ((valsL n (stX cs n.ins (x : Int) n.ss.length) (x : Int)).length) ((valsL n (stX cs n.ins (x : Int) n.ss.length) (x : Int)).map (Value.int .i64)), bigE (D3.map drPart), rowE 56 1 (.slice (some ⟨g2, 0, none⟩) ((List.replicate cs.length dr0).length) ((List.replicate cs.length dr0).length)) D3.length (D3.flatMap drC), boxE b1 #[.int .i64 n.ins, n.sv, n.av, n.ov] 28]) (fun J9 D3 => [(14, .int .i64 (J9 : Int))]) (fun J9 D3 => J9 ≤ I9 ∧ DfP n cs D3 x I9 J9) (fun J9 D3 => I9 - J9) 0 D2 ⟨Nat.zero_le _, hd2⟩ (saQ rfl) (pfQ rfl) ?_
   intro J9 D3 hi17
   obtain ⟨hJ, hd3⟩ := hi17
   have hd3l := hd3.len
   have hd3r := hd3.row
   refine zab (zab (reQ 2 rfl ?_))
   refine zbk rfl rfl rfl rfl rfl rfl (fun h18 => ?_) (fun h18 => ?_)
   ·
    refine ntQ (zan rfl (zch (sbQ (zab ?_))))
    have hkI9 := (hn.sq _ (zbc (d := sq0) (show I9 < n.ss.length by omega))).kind
    have hxI9 := hn.xs _ (zbc (d := sq0) (show I9 < n.ss.length by omega)) _ (zbc (d := (0 : Int)) (show 0 < (n.ss.getD I9 sq0).xs.length by omega))
    unfold LtOk at hxI9
    have hbI9 := hv01 (((n.ss.getD I9 sq0).xs.getD 0 0) / 2).toNat (by omega)
    have hXI9 : bX n cs (x : Int) I9 = bitL (valsL n (stX cs n.ins (x : Int) n.ss.length) (x : Int)) ((n.ss.getD I9 sq0).xs.getD 0 0) := rfl
    have hkJ9 := (hn.sq _ (zbc (d := sq0) (show J9 < n.ss.length by omega))).kind
    have hxJ9 := hn.xs _ (zbc (d := sq0) (show J9 < n.ss.length by omega)) _ (zbc (d := (0 : Int)) (show 0 < (n.ss.getD J9 sq0).xs.length by omega))
    unfold LtOk at hxJ9
    have hbJ9 := hv01 (((n.ss.getD J9 sq0).xs.getD 0 0) / 2).toNat (by omega)
    have hXJ9 : bX n cs (x : Int) J9 = bitL (valsL n (stX cs n.ins (x : Int) n.ss.length) (x : Int)) ((n.ss.getD J9 sq0).xs.getD 0 0) := rfl
    rcases Bool.eq_false_or_eq_true ((cs.getD I9 0) == (cs.getD J9 0)) with hb19 | hb19
    ·
     have hb19p : cs.getD I9 0 = cs.getD J9 0 := beq_iff_eq.1 hb19
     rcases Bool.eq_false_or_eq_true ((bitL (valsL n (stX cs n.ins (x : Int) n.ss.length) (x : Int)) (((n.ss.getD I9 sq0).xs).getD 0 0)) != (bitL (valsL n (stX cs n.ins (x : Int) n.ss.length) (x : Int)) (((n.ss.getD J9 sq0).xs).getD 0 0))) with hb20 | hb20
     ·
      have hb20p : bitL (valsL n (stX cs n.ins (x : Int) n.ss.length) (x : Int)) (((n.ss.getD I9 sq0).xs).getD 0 0) ≠ bitL (valsL n (stX cs n.ins (x : Int) n.ss.length) (x : Int)) (((n.ss.getD J9 sq0).xs).getD 0 0) := bne_iff_ne.1 hb20
      refine zbd 32 [[], [], [0, 1], [2], [], [], [4, 5], [6], [3, 7], [8], [9], [9], [9, 11], [9], [9, 12, 13], [9, 14], [9, 15], [9, 16], [9, 17], [9, 10, 18], [9], [9], [9, 21], [9], [9, 22, 23], [9, 24], [9, 25], [9, 26], [9, 27], [9, 20, 28], [9, 19, 29], [9, 30]] [96, 97, 98, 99, 100, 101, 102, 103, 104, 105, 106, 107, 108, 109, 110, 111, 112, 113, 114, 115, 116, 117, 118, 119, 120, 121, 122, 123, 124, 125, 126, 127] [v, .int .i64 (I9 : Int), elP v (((I9 : Int)).toNat * 1), .int .i64 (cs.getD I9 0), v, .int .i64 (J9 : Int), elP v (((J9 : Int)).toNat * 1), .int .i64 (cs.getD J9 0), .bool true, .bool true, v12, .pointer (some ⟨b1, 0 + 1, none⟩), n.sv, .int .i64 (I9 : Int), elP n.sv (((I9 : Int)).toNat * 3), elP n.sv (((I9 : Int)).toNat * 3 + 2), (n.ss.getD I9 sq0).iv, elP ((n.ss.getD I9 sq0).iv) ((0 : Int).toNat * 1), .int .i64 (((n.ss.getD I9 sq0).xs).getD 0 0), .int .i64 (bitL (valsL n (stX cs n.ins (x : Int) n.ss.length) (x : Int)) (((n.ss.getD I9 sq0).xs).getD 0 0)), v12, .pointer (some ⟨b1, 0 + 1, none⟩), n.sv, .int .i64 (J9 : Int), elP n.sv (((J9 : Int)).toNat * 3), elP n.sv (((J9 : Int)).toNat * 3 + 2), (n.ss.getD J9 sq0).iv, elP ((n.ss.getD J9 sq0).iv) ((0 : Int).toNat * 1), .int .i64 (((n.ss.getD J9 sq0).xs).getD 0 0), .int .i64 (bitL (valsL n (stX cs n.ins (x : Int) n.ss.length) (x : Int)) (((n.ss.getD J9 sq0).xs).getD 0 0)), .bool true, .bool true] (by kernel_rfl) rfl ?_ ?_
      ·
       exact ⟨iaQ rfl (zaf rfl) rfl, iaQ rfl (zaf rfl) rfl, iaQ rfl (riQ 1 rfl rfl rfl rfl (zaa hv)) rfl, iaQ rfl (liQ rfl rfl rfl (zaa hv)) rfl, iaQ rfl (zaf rfl) rfl, iaQ rfl (zaf rfl) rfl, iaQ rfl (riQ 1 rfl rfl rfl rfl (zaa hv)) rfl, iaQ rfl (liQ rfl rfl rfl (zaa hv)) rfl, .inl ⟨rfl, zbx (zbl rfl rfl rfl rfl) hb19⟩, iaQ rfl (zaf rfl) rfl, iaQ rfl (zaf rfl) rfl, iaQ rfl (fdQ 1 rfl rfl rfl) rfl, iaQ rfl (zae rfl rfl rfl (zac 3 rfl rfl)) rfl, iaQ rfl (zaf rfl) rfl, iaQ rfl (riQ 3 rfl rfl rfl rfl (zaa hr.sq)) rfl, iaQ rfl (zaw (k0 := 2) rfl rfl rfl (zaa hr.sq) (by omega)) rfl, iaQ rfl (zal (u := (n.ss.getD I9 sq0).iv) rfl rfl rfl (zaa hr.sq) ((zbj sqC 3 (fun _ => rfl) n.ss sq0 (show I9 < _ by omega) (by decide)).trans rfl)) rfl, iaQ rfl (riQ 1 rfl rfl rfl rfl (fun w hm => (hr.at (k := I9) (by omega)).below hm.bel)) rfl, iaQ rfl (zal (u := .int .i64 (((n.ss.getD I9 sq0).xs).getD 0 0)) rfl rfl rfl (fun w hm => (hr.at (k := I9) (by omega)).below hm.bel) (zdm (show _ < ((n.ss.getD I9 sq0).xs).length by omega))) rfl, .inl ⟨rfl, zaj (by kernel_rfl) rfl (fun w hm => zat (zdy (valsL n (stX cs n.ins (x : Int) n.ss.length) (x : Int)) (((n.ss.getD I9 sq0).xs).getD 0 0) _ w ((zao 0 rfl) w hm) (by omega) (by first | assumption | omega) (by omega)))⟩, iaQ rfl (zaf rfl) rfl, iaQ rfl (fdQ 1 rfl rfl rfl) rfl, iaQ rfl (zae rfl rfl rfl (zac 3 rfl rfl)) rfl, iaQ rfl (zaf rfl) rfl, iaQ rfl (riQ 3 rfl rfl rfl rfl (zaa hr.sq)) rfl, iaQ rfl (zaw (k0 := 2) rfl rfl rfl (zaa hr.sq) (by omega)) rfl, iaQ rfl (zal (u := (n.ss.getD J9 sq0).iv) rfl rfl rfl (zaa hr.sq) ((zbj sqC 3 (fun _ => rfl) n.ss sq0 (show J9 < _ by omega) (by decide)).trans rfl)) rfl, iaQ rfl (riQ 1 rfl rfl rfl rfl (fun w hm => (hr.at (k := J9) (by omega)).below hm.bel)) rfl, iaQ rfl (zal (u := .int .i64 (((n.ss.getD J9 sq0).xs).getD 0 0)) rfl rfl rfl (fun w hm => (hr.at (k := J9) (by omega)).below hm.bel) (zdm (show _ < ((n.ss.getD J9 sq0).xs).length by omega))) rfl, .inl ⟨rfl, zaj (by kernel_rfl) rfl (fun w hm => zat (zdy (valsL n (stX cs n.ins (x : Int) n.ss.length) (x : Int)) (((n.ss.getD J9 sq0).xs).getD 0 0) _ w ((zao 0 rfl) w hm) (by omega) (by first | assumption | omega) (by omega)))⟩, .inl ⟨rfl, zbx (zbl rfl rfl rfl rfl) hb20⟩, iaQ rfl (zaf rfl) rfl, trivial⟩
      simp only [List.drop_succ_cons, List.drop_zero]
      refine ntQ (zan rfl (zar ?_))
      refine zex 4 [3, 2, 0, 1] rfl rfl (by decide) ?_
      refine zek [rowE 4 1 ((D3.getD I9 dr0).v) (((D3.getD I9 dr0).bs).length) (((D3.getD I9 dr0).bs).flatMap blC), bigE ((D3.map drPart).eraseIdx I9), rowE 3 1 v12 ((valsL n (stX cs n.ins (x : Int) n.ss.length) (x : Int)).length) ((valsL n (stX cs n.ins (x : Int) n.ss.length) (x : Int)).map (Value.int .i64)), rowE 56 1 (.slice (some ⟨g2, 0, none⟩) ((List.replicate cs.length dr0).length) ((List.replicate cs.length dr0).length)) D3.length (D3.flatMap drC), boxE b1 #[.int .i64 n.ins, n.sv, n.av, n.ov] 28] (conv_drFocus (j := I9) (by omega)) ?_
      have hrI := hd3r I9 (by omega)
      refine zai 2 rfl (hvQ rfl (riQ 1 rfl rfl rfl rfl (zao 3 rfl)) ?_)
      refine hvQ rfl (zal (u := (D3.getD I9 dr0).v) rfl rfl rfl (zao 3 rfl) (zco drC (fun r => r.v) (fun _ => rfl) D3 dr0 (show I9 < _ by omega))) (zai 1 rfl (hvQ rfl (riQ 1 rfl rfl rfl rfl (zao 0 rfl)) ?_))
      refine zeo (i := 0) (n' := (((D3.getD I9 dr0).bs).set J9 (Bl.mk true)).length) rfl rfl rfl rfl rfl rfl rfl rfl (by first | omega | (simp only [List.length_set]; omega)) List.length_set.symm (flat_set1 blC (fun r => .bool r.b) (fun _ => rfl) _ (Bl.mk true) rfl) rfl (zbw (zcj (reQ 1 rfl (hvQ rfl (vaQ rfl rfl rfl) (enQ 1 rfl ?_)))))
      refine zcb 5 [4, 2, 3, 1, 0] rfl rfl (by decide) ?_
      refine hq_conv [bigE ((D3.set I9 (Dr.mk (D3.getD I9 dr0).v (((D3.getD I9 dr0).bs).set J9 (Bl.mk true)))).map drPart), rowE 56 1 (.slice (some ⟨g2, 0, none⟩) ((List.replicate cs.length dr0).length) ((List.replicate cs.length dr0).length)) ((D3.set I9 (Dr.mk (D3.getD I9 dr0).v (((D3.getD I9 dr0).bs).set J9 (Bl.mk true)))).length) ((D3.set I9 (Dr.mk (D3.getD I9 dr0).v (((D3.getD I9 dr0).bs).set J9 (Bl.mk true)))).flatMap drC), rowE 3 1 v12 ((valsL n (stX cs n.ins (x : Int) n.ss.length) (x : Int)).length) ((valsL n (stX cs n.ins (x : Int) n.ss.length) (x : Int)).map (Value.int .i64)), boxE b1 #[.int .i64 n.ins, n.sv, n.av, n.ov] 28] (conv_drPut (e' := (Dr.mk (D3.getD I9 dr0).v (((D3.getD I9 dr0).bs).set J9 (Bl.mk true)))) (by have h9 := hd3.len; omega) rfl) ?_
      refine zcb 4 [3, 1, 0, 2] rfl rfl (by decide) ?_
      exact zbg (J9 + 1) (D3.set I9 (Dr.mk (D3.getD I9 dr0).v (((D3.getD I9 dr0).bs).set J9 (Bl.mk true)))) ⟨by omega, hd3.put (by omega) (by omega) ⟨by omega, by assumption⟩⟩ (by omega) (saQ rfl) (pfQ rfl)
     have hb20p : bitL (valsL n (stX cs n.ins (x : Int) n.ss.length) (x : Int)) (((n.ss.getD I9 sq0).xs).getD 0 0) = bitL (valsL n (stX cs n.ins (x : Int) n.ss.length) (x : Int)) (((n.ss.getD J9 sq0).xs).getD 0 0) := (bne_eq_false_iff_eq.1 hb20)
     refine zbd 32 [[], [], [0, 1], [2], [], [], [4, 5], [6], [3, 7], [8], [9], [9], [9, 11], [9], [9, 12, 13], [9, 14], [9, 15], [9, 16], [9, 17], [9, 10, 18], [9], [9], [9, 21], [9], [9, 22, 23], [9, 24], [9, 25], [9, 26], [9, 27], [9, 20, 28], [9, 19, 29], [9, 30]] [96, 97, 98, 99, 100, 101, 102, 103, 104, 105, 106, 107, 108, 109, 110, 111, 112, 113, 114, 115, 116, 117, 118, 119, 120, 121, 122, 123, 124, 125, 126, 127] [v, .int .i64 (I9 : Int), elP v (((I9 : Int)).toNat * 1), .int .i64 (cs.getD I9 0), v, .int .i64 (J9 : Int), elP v (((J9 : Int)).toNat * 1), .int .i64 (cs.getD J9 0), .bool true, .bool true, v12, .pointer (some ⟨b1, 0 + 1, none⟩), n.sv, .int .i64 (I9 : Int), elP n.sv (((I9 : Int)).toNat * 3), elP n.sv (((I9 : Int)).toNat * 3 + 2), (n.ss.getD I9 sq0).iv, elP ((n.ss.getD I9 sq0).iv) ((0 : Int).toNat * 1), .int .i64 (((n.ss.getD I9 sq0).xs).getD 0 0), .int .i64 (bitL (valsL n (stX cs n.ins (x : Int) n.ss.length) (x : Int)) (((n.ss.getD I9 sq0).xs).getD 0 0)), v12, .pointer (some ⟨b1, 0 + 1, none⟩), n.sv, .int .i64 (J9 : Int), elP n.sv (((J9 : Int)).toNat * 3), elP n.sv (((J9 : Int)).toNat * 3 + 2), (n.ss.getD J9 sq0).iv, elP ((n.ss.getD J9 sq0).iv) ((0 : Int).toNat * 1), .int .i64 (((n.ss.getD J9 sq0).xs).getD 0 0), .int .i64 (bitL (valsL n (stX cs n.ins (x : Int) n.ss.length) (x : Int)) (((n.ss.getD J9 sq0).xs).getD 0 0)), .bool false, .bool false] (by kernel_rfl) rfl ?_ ?_
     ·
      exact ⟨iaQ rfl (zaf rfl) rfl, iaQ rfl (zaf rfl) rfl, iaQ rfl (riQ 1 rfl rfl rfl rfl (zaa hv)) rfl, iaQ rfl (liQ rfl rfl rfl (zaa hv)) rfl, iaQ rfl (zaf rfl) rfl, iaQ rfl (zaf rfl) rfl, iaQ rfl (riQ 1 rfl rfl rfl rfl (zaa hv)) rfl, iaQ rfl (liQ rfl rfl rfl (zaa hv)) rfl, .inl ⟨rfl, zbx (zbl rfl rfl rfl rfl) hb19⟩, iaQ rfl (zaf rfl) rfl, iaQ rfl (zaf rfl) rfl, iaQ rfl (fdQ 1 rfl rfl rfl) rfl, iaQ rfl (zae rfl rfl rfl (zac 3 rfl rfl)) rfl, iaQ rfl (zaf rfl) rfl, iaQ rfl (riQ 3 rfl rfl rfl rfl (zaa hr.sq)) rfl, iaQ rfl (zaw (k0 := 2) rfl rfl rfl (zaa hr.sq) (by omega)) rfl, iaQ rfl (zal (u := (n.ss.getD I9 sq0).iv) rfl rfl rfl (zaa hr.sq) ((zbj sqC 3 (fun _ => rfl) n.ss sq0 (show I9 < _ by omega) (by decide)).trans rfl)) rfl, iaQ rfl (riQ 1 rfl rfl rfl rfl (fun w hm => (hr.at (k := I9) (by omega)).below hm.bel)) rfl, iaQ rfl (zal (u := .int .i64 (((n.ss.getD I9 sq0).xs).getD 0 0)) rfl rfl rfl (fun w hm => (hr.at (k := I9) (by omega)).below hm.bel) (zdm (show _ < ((n.ss.getD I9 sq0).xs).length by omega))) rfl, .inl ⟨rfl, zaj (by kernel_rfl) rfl (fun w hm => zat (zdy (valsL n (stX cs n.ins (x : Int) n.ss.length) (x : Int)) (((n.ss.getD I9 sq0).xs).getD 0 0) _ w ((zao 0 rfl) w hm) (by omega) (by first | assumption | omega) (by omega)))⟩, iaQ rfl (zaf rfl) rfl, iaQ rfl (fdQ 1 rfl rfl rfl) rfl, iaQ rfl (zae rfl rfl rfl (zac 3 rfl rfl)) rfl, iaQ rfl (zaf rfl) rfl, iaQ rfl (riQ 3 rfl rfl rfl rfl (zaa hr.sq)) rfl, iaQ rfl (zaw (k0 := 2) rfl rfl rfl (zaa hr.sq) (by omega)) rfl, iaQ rfl (zal (u := (n.ss.getD J9 sq0).iv) rfl rfl rfl (zaa hr.sq) ((zbj sqC 3 (fun _ => rfl) n.ss sq0 (show J9 < _ by omega) (by decide)).trans rfl)) rfl, iaQ rfl (riQ 1 rfl rfl rfl rfl (fun w hm => (hr.at (k := J9) (by omega)).below hm.bel)) rfl, iaQ rfl (zal (u := .int .i64 (((n.ss.getD J9 sq0).xs).getD 0 0)) rfl rfl rfl (fun w hm => (hr.at (k := J9) (by omega)).below hm.bel) (zdm (show _ < ((n.ss.getD J9 sq0).xs).length by omega))) rfl, .inl ⟨rfl, zaj (by kernel_rfl) rfl (fun w hm => zat (zdy (valsL n (stX cs n.ins (x : Int) n.ss.length) (x : Int)) (((n.ss.getD J9 sq0).xs).getD 0 0) _ w ((zao 0 rfl) w hm) (by omega) (by first | assumption | omega) (by omega)))⟩, .inl ⟨rfl, zbx (zbl rfl rfl rfl rfl) hb20⟩, iaQ rfl (zaf rfl) rfl, trivial⟩
     simp only [List.drop_succ_cons, List.drop_zero]
     refine ntQ (fsQ rfl (zcj (reQ 1 rfl (hvQ rfl (vaQ rfl rfl rfl) (enQ 1 rfl ?_)))))
     exact zbg (J9 + 1) D3 ⟨by omega, hd3.skip (fun h9 => by first | (have h8 := h9.1; omega) | exact h9.2 (by assumption) | exact h9.2 (Classical.byContradiction (by assumption)))⟩ (by omega) (saQ rfl) (pfQ rfl)
    have hb19p : cs.getD I9 0 ≠ cs.getD J9 0 := beq_eq_false_iff_ne.1 hb19
    refine zbd 32 [[], [], [0, 1], [2], [], [], [4, 5], [6], [3, 7], [8], [9], [9], [9], [9], [9], [9], [9], [9], [9], [9], [9], [9], [9], [9], [9], [9], [9], [9], [9], [9], [9], [9, 30]] [96, 97, 98, 99, 100, 101, 102, 103, 104, 105, 106, 107, 108, 109, 110, 111, 112, 113, 114, 115, 116, 117, 118, 119, 120, 121, 122, 123, 124, 125, 126, 127] [v, .int .i64 (I9 : Int), elP v (((I9 : Int)).toNat * 1), .int .i64 (cs.getD I9 0), v, .int .i64 (J9 : Int), elP v (((J9 : Int)).toNat * 1), .int .i64 (cs.getD J9 0), .bool false, .bool false, undef, undef, undef, undef, undef, undef, undef, undef, undef, undef, undef, undef, undef, undef, undef, undef, undef, undef, undef, undef, undef, .bool false] (by kernel_rfl) rfl ?_ ?_
    ·
     exact ⟨iaQ rfl (zaf rfl) rfl, iaQ rfl (zaf rfl) rfl, iaQ rfl (riQ 1 rfl rfl rfl rfl (zaa hv)) rfl, iaQ rfl (liQ rfl rfl rfl (zaa hv)) rfl, iaQ rfl (zaf rfl) rfl, iaQ rfl (zaf rfl) rfl, iaQ rfl (riQ 1 rfl rfl rfl rfl (zaa hv)) rfl, iaQ rfl (liQ rfl rfl rfl (zaa hv)) rfl, .inl ⟨rfl, zbx (zbl rfl rfl rfl rfl) hb19⟩, iaQ rfl (zaf rfl) rfl, .inr ⟨rfl, rfl⟩, .inr ⟨rfl, rfl⟩, .inr ⟨rfl, rfl⟩, .inr ⟨rfl, rfl⟩, .inr ⟨rfl, rfl⟩, .inr ⟨rfl, rfl⟩, .inr ⟨rfl, rfl⟩, .inr ⟨rfl, rfl⟩, .inr ⟨rfl, rfl⟩, .inr ⟨rfl, rfl⟩, .inr ⟨rfl, rfl⟩, .inr ⟨rfl, rfl⟩, .inr ⟨rfl, rfl⟩, .inr ⟨rfl, rfl⟩, .inr ⟨rfl, rfl⟩, .inr ⟨rfl, rfl⟩, .inr ⟨rfl, rfl⟩, .inr ⟨rfl, rfl⟩, .inr ⟨rfl, rfl⟩, .inr ⟨rfl, rfl⟩, .inr ⟨rfl, rfl⟩, iaQ rfl (zaf rfl) rfl, trivial⟩
    simp only [List.drop_succ_cons, List.drop_zero]
    refine ntQ (fsQ rfl (zcj (reQ 1 rfl (hvQ rfl (vaQ rfl rfl rfl) (enQ 1 rfl ?_)))))
    exact zbg (J9 + 1) D3 ⟨by omega, hd3.skip (fun h9 => by first | (have h8 := h9.1; omega) | exact h9.2 (by assumption) | exact h9.2 (Classical.byContradiction (by assumption)))⟩ (by omega) (saQ rfl) (pfQ rfl)
   refine ntQ (zak rfl ?_)
   refine zbb (zda ?_)
   refine zad (zcj (reQ 1 rfl (hvQ rfl (vaQ rfl rfl rfl) (enQ 1 rfl ?_))))
   exact zbg (I9 + 1) D3 ⟨by omega, DfP.rowEnd (by have h9 := hd3; rw [show J9 = I9 by omega] at h9; exact h9)⟩ (by omega) (saQ rfl) (pfQ rfl)
  refine ntQ (zak rfl ?_)
  refine zbb (zda ?_)
  refine zad (zcj (reQ 1 rfl (hvQ rfl (vaQ rfl rfl rfl) (enQ 1 rfl ?_))))
  exact zbg (x + 1) D2 ⟨by omega, DfP.next (by rw [show n.ss.length = I9 by omega]; exact hd2)⟩ (by omega) (saQ rfl) (slQ [1, 0, 0] rfl)
 refine ntQ (zak rfl ?_)
 refine zbb (zda ?_)
 refine zad (zas (srQ ?_))
 refine hrwQ rfl (zec (s := 1) rfl Try.underlying26 rfl) ?_
 intro g21
 refine zbf 1 rfl (ssrQ ?_)
 have hdE : DfP n cs D1 (cases2 n cs) 0 0 := by rw [show cases2 n cs = x by omega]; exact hdf
 have hdEl := hdE.len
 have hdEr := hdE.row
 refine zbf 1 rfl (zau ?_)
 refine lkQ3 (α := Nat) (β := List Int) (γ := Value) [0, 1, 2, 4, 5, 6, 8, 27, 42] rfl (fun i zs zv => [rowE 3 1 zv zs.length (zs.map (Value.int .i64)), bigE (D1.map drPart), rowE 56 1 (.slice (some ⟨g2, 0, none⟩) ((List.replicate cs.length dr0).length) ((List.replicate cs.length dr0).length)) D1.length (D1.flatMap drC), boxE b1 #[.int .i64 n.ins, n.sv, n.av, n.ov] 28]) (fun i zs zv => [(15, zv), (16, .int .i64 (i : Int))]) (fun i zs zv => i ≤ cs.length ∧ zs = mnL (RfM n cs) i) (fun i zs zv => cs.length - i) 0 [] _ ⟨Nat.zero_le _, rfl⟩ (saQ rfl) (pfQ rfl) ?_
 intro i zs zv hi22
 obtain ⟨hi, hz⟩ := hi22
 have hzl : zs.length = i := by rw [hz]; exact mnL_len _ _
 refine zab (zab (reQ 2 rfl (hvQ rfl (lnQ rfl rfl rfl (zaa hv)) ?_)))
 refine zbk rfl rfl rfl rfl rfl rfl (fun h23 => ?_) (fun h23 => ?_)
 ·
  refine ntQ (zan rfl (zch (sbQ (zbe 2 rfl ?_))))
  refine zab (zab (reQ 1 rfl (hvQ rfl (vsQ rfl rfl rfl) (zbf 1 rfl (zau ?_)))))
  refine lkQ2 (α := Int) (β := Int) [0, 1, 2, 4, 5, 6, 8, 15, 16, 27, 42, 138] rfl (fun k kk => [rowE 3 1 zv zs.length (zs.map (Value.int .i64)), bigE (D1.map drPart), rowE 56 1 (.slice (some ⟨g2, 0, none⟩) ((List.replicate cs.length dr0).length) ((List.replicate cs.length dr0).length)) D1.length (D1.flatMap drC), boxE b1 #[.int .i64 n.ins, n.sv, n.av, n.ov] 28]) (fun k kk => [(17, .int .i64 kk), (18, .int .i64 k)]) (fun k kk => (-1 ≤ k ∧ k < (i : Int)) ∧ (0 ≤ kk ∧ kk ≤ (i : Int)) ∧ DnP (RfM n cs) i (k + 1).toNat kk.toNat) (fun k kk => (k + 1).toNat) ((i : Int) - 1) (i : Int) ⟨by omega, by omega, by rw [show ((i : Int) - 1 + 1).toNat = i by omega, Int.toNat_natCast]; exact DnP.start _ _⟩ (saQ rfl) (pfQ rfl) ?_
  intro k kk hi24
  obtain ⟨hk9, hkk, hdn⟩ := hi24
  refine zab (zab (reQ 1 rfl ?_))
  refine hl_geq rfl rfl rfl rfl rfl rfl (fun h25 => ?_) (fun h25 => ?_)
  ·
   refine ntQ (zan rfl (zch (sbQ (zab ?_))))
   have hrI := hdEr i (by omega)
   rcases Bool.eq_false_or_eq_true ((cs.getD ((k).toNat) 0) == (cs.getD i 0)) with hb26 | hb26
   ·
    have hb26p : cs.getD ((k).toNat) 0 = cs.getD i 0 := beq_iff_eq.1 hb26
    rcases Bool.eq_false_or_eq_true ((((D1.getD i dr0).bs).getD ((k).toNat) bl0).b) with hb27 | hb27
    ·
     refine zbd 19 [[], [], [0, 1], [2], [], [], [4, 5], [6], [3, 7], [8], [9], [9], [9, 10, 11], [9, 12], [9], [9, 13, 14], [9, 15], [9, 16], [9, 17]] [148, 149, 150, 151, 152, 153, 154, 155, 156, 157, 158, 159, 160, 161, 162, 163, 164, 165, 166] [v, .int .i64 k, elP v ((k).toNat * 1), .int .i64 (cs.getD ((k).toNat) 0), v, .int .i64 (i : Int), elP v (((i : Int)).toNat * 1), .int .i64 (cs.getD i 0), .bool true, .bool true, .slice (some ⟨g2, 0, none⟩) ((List.replicate cs.length dr0).length) ((List.replicate cs.length dr0).length), .int .i64 (i : Int), elP (.slice (some ⟨g2, 0, none⟩) ((List.replicate cs.length dr0).length) ((List.replicate cs.length dr0).length)) (((i : Int)).toNat * 1), (D1.getD i dr0).v, .int .i64 k, elP ((D1.getD i dr0).v) ((k).toNat * 1), .bool true, .bool false, .bool false] (by kernel_rfl) rfl ?_ ?_
     ·
      exact ⟨iaQ rfl (zaf rfl) rfl, iaQ rfl (zaf rfl) rfl, iaQ rfl (riQ 1 rfl rfl rfl rfl (zaa hv)) rfl, iaQ rfl (lzQ rfl rfl rfl (zaa hv)) rfl, iaQ rfl (zaf rfl) rfl, iaQ rfl (zaf rfl) rfl, iaQ rfl (riQ 1 rfl rfl rfl rfl (zaa hv)) rfl, iaQ rfl (liQ rfl rfl rfl (zaa hv)) rfl, .inl ⟨rfl, zbx (zbl rfl rfl rfl rfl) hb26⟩, iaQ rfl (zaf rfl) rfl, iaQ rfl (zaf rfl) rfl, iaQ rfl (zaf rfl) rfl, iaQ rfl (riQ 1 rfl rfl rfl rfl (zao 2 rfl)) rfl, iaQ rfl (zal (u := (D1.getD i dr0).v) rfl rfl rfl (zao 2 rfl) (zco drC (fun r => r.v) (fun _ => rfl) D1 dr0 (show i < _ by omega))) rfl, iaQ rfl (zaf rfl) rfl, iaQ rfl (riQ 1 rfl rfl rfl rfl (dr_rd (i := 1) (k := i) rfl (by omega))) rfl, .inl ⟨rfl, zbx (zal (u := .bool ((((D1.getD i dr0).bs).getD ((k).toNat) bl0).b)) rfl rfl rfl (dr_rd (i := 1) (k := i) rfl (by omega)) (zco blC (fun r => .bool r.b) (fun _ => rfl) ((D1.getD i dr0).bs) bl0 (show (k).toNat < _ by omega))) hb27⟩, iaQ rfl (zaf rfl) rfl, iaQ rfl (zaf rfl) rfl, trivial⟩
     simp only [List.drop_succ_cons, List.drop_zero]
     refine ntQ (fsQ rfl (zcj (reQ 1 rfl (hvQ rfl (vsQ rfl rfl rfl) (enQ 1 rfl ?_)))))
     exact zbg (k - 1) kk ⟨by omega, by omega, by rw [show (k - 1 + 1).toNat = k.toNat by omega]; exact DnP.miss (j := k.toNat) (by rw [show k.toNat + 1 = (k + 1).toNat by omega]; exact hdn) (fun h9 => by first | (have h8 := h9.1; omega) | exact absurd ((hdE.fin (by omega) (by omega) h9.1).2 h9.2) (by rw [show ((D1.getD i dr0).bs.getD (k).toNat bl0).b = true by assumption]; decide))⟩ (by omega) (saQ rfl) (pfQ rfl)
    refine zbd 19 [[], [], [0, 1], [2], [], [], [4, 5], [6], [3, 7], [8], [9], [9], [9, 10, 11], [9, 12], [9], [9, 13, 14], [9, 15], [9, 16], [9, 17]] [148, 149, 150, 151, 152, 153, 154, 155, 156, 157, 158, 159, 160, 161, 162, 163, 164, 165, 166] [v, .int .i64 k, elP v ((k).toNat * 1), .int .i64 (cs.getD ((k).toNat) 0), v, .int .i64 (i : Int), elP v (((i : Int)).toNat * 1), .int .i64 (cs.getD i 0), .bool true, .bool true, .slice (some ⟨g2, 0, none⟩) ((List.replicate cs.length dr0).length) ((List.replicate cs.length dr0).length), .int .i64 (i : Int), elP (.slice (some ⟨g2, 0, none⟩) ((List.replicate cs.length dr0).length) ((List.replicate cs.length dr0).length)) (((i : Int)).toNat * 1), (D1.getD i dr0).v, .int .i64 k, elP ((D1.getD i dr0).v) ((k).toNat * 1), .bool false, .bool true, .bool true] (by kernel_rfl) rfl ?_ ?_
    ·
     exact ⟨iaQ rfl (zaf rfl) rfl, iaQ rfl (zaf rfl) rfl, iaQ rfl (riQ 1 rfl rfl rfl rfl (zaa hv)) rfl, iaQ rfl (lzQ rfl rfl rfl (zaa hv)) rfl, iaQ rfl (zaf rfl) rfl, iaQ rfl (zaf rfl) rfl, iaQ rfl (riQ 1 rfl rfl rfl rfl (zaa hv)) rfl, iaQ rfl (liQ rfl rfl rfl (zaa hv)) rfl, .inl ⟨rfl, zbx (zbl rfl rfl rfl rfl) hb26⟩, iaQ rfl (zaf rfl) rfl, iaQ rfl (zaf rfl) rfl, iaQ rfl (zaf rfl) rfl, iaQ rfl (riQ 1 rfl rfl rfl rfl (zao 2 rfl)) rfl, iaQ rfl (zal (u := (D1.getD i dr0).v) rfl rfl rfl (zao 2 rfl) (zco drC (fun r => r.v) (fun _ => rfl) D1 dr0 (show i < _ by omega))) rfl, iaQ rfl (zaf rfl) rfl, iaQ rfl (riQ 1 rfl rfl rfl rfl (dr_rd (i := 1) (k := i) rfl (by omega))) rfl, .inl ⟨rfl, zbx (zal (u := .bool ((((D1.getD i dr0).bs).getD ((k).toNat) bl0).b)) rfl rfl rfl (dr_rd (i := 1) (k := i) rfl (by omega)) (zco blC (fun r => .bool r.b) (fun _ => rfl) ((D1.getD i dr0).bs) bl0 (show (k).toNat < _ by omega))) hb27⟩, iaQ rfl (zaf rfl) rfl, iaQ rfl (zaf rfl) rfl, trivial⟩
    simp only [List.drop_succ_cons, List.drop_zero]
    refine ntQ (zan rfl (zar (enQ 2 rfl (zcj (reQ 1 rfl (hvQ rfl (vsQ rfl rfl rfl) (zai 1 rfl ?_)))))))
    exact zbw (zbg (k - 1) k ⟨by omega, by omega, by rw [show (k - 1 + 1).toNat = k.toNat by omega]; exact DnP.hit (j := k.toNat) (by rw [show k.toNat + 1 = (k + 1).toNat by omega]; exact hdn) (by omega) ⟨by omega, (hdE.fin (by omega) (by omega) (by omega)).1 (by assumption)⟩⟩ (by omega) (saQ rfl) (pfQ rfl))
   have hb26p : cs.getD ((k).toNat) 0 ≠ cs.getD i 0 := beq_eq_false_iff_ne.1 hb26
   refine zbd 19 [[], [], [0, 1], [2], [], [], [4, 5], [6], [3, 7], [8], [9], [9], [9], [9], [9], [9], [9], [9], [9, 17]] [148, 149, 150, 151, 152, 153, 154, 155, 156, 157, 158, 159, 160, 161, 162, 163, 164, 165, 166] [v, .int .i64 k, elP v ((k).toNat * 1), .int .i64 (cs.getD ((k).toNat) 0), v, .int .i64 (i : Int), elP v (((i : Int)).toNat * 1), .int .i64 (cs.getD i 0), .bool false, .bool false, undef, undef, undef, undef, undef, undef, undef, undef, .bool false] (by kernel_rfl) rfl ?_ ?_
   ·
    exact ⟨iaQ rfl (zaf rfl) rfl, iaQ rfl (zaf rfl) rfl, iaQ rfl (riQ 1 rfl rfl rfl rfl (zaa hv)) rfl, iaQ rfl (lzQ rfl rfl rfl (zaa hv)) rfl, iaQ rfl (zaf rfl) rfl, iaQ rfl (zaf rfl) rfl, iaQ rfl (riQ 1 rfl rfl rfl rfl (zaa hv)) rfl, iaQ rfl (liQ rfl rfl rfl (zaa hv)) rfl, .inl ⟨rfl, zbx (zbl rfl rfl rfl rfl) hb26⟩, iaQ rfl (zaf rfl) rfl, .inr ⟨rfl, rfl⟩, .inr ⟨rfl, rfl⟩, .inr ⟨rfl, rfl⟩, .inr ⟨rfl, rfl⟩, .inr ⟨rfl, rfl⟩, .inr ⟨rfl, rfl⟩, .inr ⟨rfl, rfl⟩, .inr ⟨rfl, rfl⟩, iaQ rfl (zaf rfl) rfl, trivial⟩
   simp only [List.drop_succ_cons, List.drop_zero]
   refine ntQ (fsQ rfl (zcj (reQ 1 rfl (hvQ rfl (vsQ rfl rfl rfl) (enQ 1 rfl ?_)))))
   exact zbg (k - 1) kk ⟨by omega, by omega, by rw [show (k - 1 + 1).toNat = k.toNat by omega]; exact DnP.miss (j := k.toNat) (by rw [show k.toNat + 1 = (k + 1).toNat by omega]; exact hdn) (fun h9 => by first | (have h8 := h9.1; omega) | exact absurd ((hdE.fin (by omega) (by omega) h9.1).2 h9.2) (by rw [show ((D1.getD i dr0).bs.getD (k).toNat bl0).b = true by assumption]; decide))⟩ (by omega) (saQ rfl) (pfQ rfl)
  refine ntQ (zak rfl ?_)
  refine zbb (zda ?_)
  refine zad (zas (reQ 2 rfl ?_))
  refine hrwQ rfl (zay (z := .int .i64 0) (s := 1) (cs := ([kk].map (Value.int .i64))) rfl Try.underlying26 rfl (by decide) rfl (by kernel_rfl) rfl) ?_
  intro g28
  refine zck (i := 1) (z := .int .i64 0) (bytes := 8) rfl rfl rfl rfl Try.underlying26 (by kernel_rfl) rfl rfl rfl rfl (zao 0 rfl) (zbv _) (by first | omega | (simp; done) | (simp; omega)) (zca zs ([kk])) (zby zs ([kk])) (fun _ => rfl) ?_
  intro v29
  refine enQ 1 rfl (zcj (reQ 1 rfl (hvQ rfl (vaQ rfl rfl rfl) ?_)))
  have hdE : DfP n cs D1 (cases2 n cs) 0 0 := by rw [show cases2 n cs = x by omega]; exact hdf
  have hdEl := hdE.len
  have hdEr := hdE.row
  refine enQ 1 rfl ?_
  have hdn9 : DnP (RfM n cs) i 0 kk.toNat := by rw [show (k + 1).toNat = 0 by omega] at hdn; exact hdn
  have hkm : kk = (mnI (RfM n cs) i : Int) := by have h9 := hdn9.fin; omega
  exact zbh (i + 1) (zs ++ ([kk])) v29 ⟨by omega, by rw [mnL_succ, ← hz, ← hkm]⟩ (by omega) (saQ rfl) (slQ [1, 0, 0, 0] rfl)
 refine ntQ (zak rfl ?_)
 refine zbb (zda ?_)
 refine zad (zas (zbe 2 rfl ?_))
 exact zav (zcw (post := [rowE 3 1 zv zs.length (zs.map (Value.int .i64))]) rfl rfl (slQ [0] rfl) (by rw [hz, show i = n.ss.length by omega]; rfl))
theorem specClassesHold_ans (n : Nt) (cs : List Int) (v : Value) (w : World) (hr : RdsNt w n) (hn : NtOk n) (hv : RdsW w v 1 cs.length (cs.map (Value.int .i64))) :
   Calls Try.prog 6 #[.agg #[.int .i64 n.ins, n.sv, n.av, n.ov], v] w (Ans w (.bool (pB (HoldP n cs)))) := by
 have hi0 := hn.i0
 have hi1 := hn.i1
 have hs1 := hn.s1
 have ha1 := hn.a1
 have ho1 := hn.o1
 have hcnt : n.cnt = 1 + n.ins + n.ss.length + n.gs.length := rfl
 have hfst : n.fst = 1 + n.ins + n.ss.length := rfl
 have hv9 := sml hv
 have hrp0 := rpA_le cs cs.length
 have hrp1 : rpN cs = (rpA cs cs.length).length := rfl
 refine zba (N := 45) (args := [.agg #[.int .i64 n.ins, n.sv, n.av, n.ov], v]) Try.func6 rfl rfl (srQ ?_)
 refine zea rfl (zcg rfl rfl) ?_
 intro b1
 refine zbf 1 rfl (zab (zab ?_))
 rcases Bool.eq_false_or_eq_true (pB (ClP n cs)) with hb2 | hb2
 ·
  have hb2p := of_pB hb2
  have hcp8 : ClP n cs := by assumption
  have hrp9 := rpN_le hcp8.q.len
  rcases Bool.eq_false_or_eq_true (decide (10 < n.ins + (rpN cs : Int))) with hb3 | hb3
  ·
   have hb3p : 10 < n.ins + (rpN cs : Int) := of_decide_eq_true hb3
   have hcp8 : ClP n cs := by assumption
   have hrp9 := rpN_le hcp8.q.len
   refine zbd 12 [[], [], [0, 1], [2], [3], [4], [4, 5], [4], [4, 7], [4, 6, 8], [4, 9], [4, 10]] [6, 7, 8, 9, 10, 11, 12, 13, 14, 15, 16, 17] [.agg #[.int .i64 n.ins, n.sv, n.av, n.ov], v, .bool true, .bool false, .bool false, .pointer (some ⟨b1, 0 + 0, none⟩), .int .i64 n.ins, v, .int .i64 (rpN cs : Int), .int .i64 (n.ins + (rpN cs : Int)), .bool true, .bool true] (by kernel_rfl) rfl ?_ ?_
   ·
    exact ⟨iaQ rfl (zaz (cs := [.int .i64 n.ins, n.sv, n.av, n.ov]) rfl rfl rfl rfl rfl (zax 0 rfl 0 rfl)) rfl, iaQ rfl (zaf rfl) rfl, .inl ⟨rfl, rq_cb (zaj rfl rfl (fun w hm => zat (zdj n cs v w (hr.below hm.bel) hn (hv.below hm.bel)))) hb2⟩, iaQ rfl (zaf rfl) rfl, iaQ rfl (zaf rfl) rfl, iaQ rfl (fdQ 0 rfl rfl rfl) rfl, iaQ rfl (zae rfl rfl rfl (zac 0 rfl rfl)) rfl, iaQ rfl (zaf rfl) rfl, .inl ⟨rfl, zaj rfl rfl (fun w hm => zat (zdo cs v w (hv.below hm.bel)))⟩, iaQ rfl (vaQ rfl rfl rfl) rfl, .inl ⟨rfl, zbx (zbl rfl rfl rfl rfl) hb3⟩, iaQ rfl (zaf rfl) rfl, trivial⟩
   simp only [List.drop_succ_cons, List.drop_zero]
   refine ntQ (zan rfl (zbe 1 rfl ?_))
   refine zav (zam ?_)
   exact zbi rfl rfl (congrArg _ (zei (fun hp => by first | (exact absurd hp.cl (by assumption)) | (have h9 := hp.few; omega) | (have h9 := hp.ini i (by omega); omega) | (exact absurd ((rf_eq hp.cl.q).2 hp.col).symm (by assumption)))).symm)
  have hb3p : ¬ (10 < n.ins + (rpN cs : Int)) := of_decide_eq_false hb3
  have hcp8 : ClP n cs := by assumption
  have hrp9 := rpN_le hcp8.q.len
  refine zbd 12 [[], [], [0, 1], [2], [3], [4], [4, 5], [4], [4, 7], [4, 6, 8], [4, 9], [4, 10]] [6, 7, 8, 9, 10, 11, 12, 13, 14, 15, 16, 17] [.agg #[.int .i64 n.ins, n.sv, n.av, n.ov], v, .bool true, .bool false, .bool false, .pointer (some ⟨b1, 0 + 0, none⟩), .int .i64 n.ins, v, .int .i64 (rpN cs : Int), .int .i64 (n.ins + (rpN cs : Int)), .bool false, .bool false] (by kernel_rfl) rfl ?_ ?_
  ·
   exact ⟨iaQ rfl (zaz (cs := [.int .i64 n.ins, n.sv, n.av, n.ov]) rfl rfl rfl rfl rfl (zax 0 rfl 0 rfl)) rfl, iaQ rfl (zaf rfl) rfl, .inl ⟨rfl, rq_cb (zaj rfl rfl (fun w hm => zat (zdj n cs v w (hr.below hm.bel) hn (hv.below hm.bel)))) hb2⟩, iaQ rfl (zaf rfl) rfl, iaQ rfl (zaf rfl) rfl, iaQ rfl (fdQ 0 rfl rfl rfl) rfl, iaQ rfl (zae rfl rfl rfl (zac 0 rfl rfl)) rfl, iaQ rfl (zaf rfl) rfl, .inl ⟨rfl, zaj rfl rfl (fun w hm => zat (zdo cs v w (hv.below hm.bel)))⟩, iaQ rfl (vaQ rfl rfl rfl) rfl, .inl ⟨rfl, zbx (zbl rfl rfl rfl rfl) hb3⟩, iaQ rfl (zaf rfl) rfl, trivial⟩
  simp only [List.drop_succ_cons, List.drop_zero]
  refine ntQ (zak rfl (zch (ssrQ ?_)))
  have hcp : ClP n cs := by assumption
  have hcl := hcp.q.len
  refine zbf 1 rfl (zau ?_)
  refine lkQ1 (α := Nat) [0, 1, 2, 4, 17] rfl (fun i => [boxE b1 #[.int .i64 n.ins, n.sv, n.av, n.ov] 28]) (fun i => [(5, .int .i64 (i : Int))]) (fun i => i ≤ cs.length ∧ ∀ q, q < i → (n.ss.getD q sq0).it = (n.ss.getD (cs.getD q 0).toNat sq0).it) (fun i => cs.length - i) 0 ⟨Nat.zero_le _, fun q hq => absurd hq (by omega)⟩ (saQ rfl) (pfQ rfl) ?_
  intro i hi4
  obtain ⟨hi, hit⟩ := hi4
  refine zab (zab (reQ 2 rfl (hvQ rfl (lnQ rfl rfl rfl (zaa hv)) ?_)))
  refine zbk rfl rfl rfl rfl rfl rfl (fun h5 => ?_) (fun h5 => ?_)
  ·
   refine ntQ (zan rfl (zch (sbQ (zab ?_))))
   have hci := (hcp.q.cl i (by omega)).1
   rcases Bool.eq_false_or_eq_true (((n.ss.getD i sq0).it) != ((n.ss.getD ((cs.getD i 0).toNat) sq0).it)) with hb6 | hb6
   ·
    have hb6p : (n.ss.getD i sq0).it ≠ (n.ss.getD ((cs.getD i 0).toNat) sq0).it := bne_iff_ne.1 hb6
    refine zbd 16 [[], [0], [], [1, 2], [3], [4], [], [6], [], [], [8, 9], [10], [7, 11], [12], [13], [5, 14]] [24, 25, 26, 27, 28, 29, 30, 31, 32, 33, 34, 35, 36, 37, 38, 39] [.pointer (some ⟨b1, 0 + 1, none⟩), n.sv, .int .i64 (i : Int), elP n.sv (((i : Int)).toNat * 3), elP n.sv (((i : Int)).toNat * 3 + 1), .int .i64 ((n.ss.getD i sq0).it), .pointer (some ⟨b1, 0 + 1, none⟩), n.sv, v, .int .i64 (i : Int), elP v (((i : Int)).toNat * 1), .int .i64 (cs.getD i 0), elP n.sv ((cs.getD i 0).toNat * 3), elP n.sv ((cs.getD i 0).toNat * 3 + 1), .int .i64 ((n.ss.getD ((cs.getD i 0).toNat) sq0).it), .bool true] (by kernel_rfl) rfl ?_ ?_
    ·
     exact ⟨iaQ rfl (fdQ 1 rfl rfl rfl) rfl, iaQ rfl (zae rfl rfl rfl (zac 0 rfl rfl)) rfl, iaQ rfl (zaf rfl) rfl, iaQ rfl (riQ 3 rfl rfl rfl rfl (zaa hr.sq)) rfl, iaQ rfl (zaw (k0 := 1) rfl rfl rfl (zaa hr.sq) (by omega)) rfl, iaQ rfl (zal (u := .int .i64 ((n.ss.getD i sq0).it)) rfl rfl rfl (zaa hr.sq) ((zbj sqC 3 (fun _ => rfl) n.ss sq0 (show i < _ by omega) (by decide)).trans rfl)) rfl, iaQ rfl (fdQ 1 rfl rfl rfl) rfl, iaQ rfl (zae rfl rfl rfl (zac 0 rfl rfl)) rfl, iaQ rfl (zaf rfl) rfl, iaQ rfl (zaf rfl) rfl, iaQ rfl (riQ 1 rfl rfl rfl rfl (zaa hv)) rfl, iaQ rfl (liQ rfl rfl rfl (zaa hv)) rfl, iaQ rfl (riQ 3 rfl rfl rfl rfl (zaa hr.sq)) rfl, iaQ rfl (zaw (k0 := 1) rfl rfl rfl (zaa hr.sq) (by omega)) rfl, iaQ rfl (zal (u := .int .i64 ((n.ss.getD ((cs.getD i 0).toNat) sq0).it)) rfl rfl rfl (zaa hr.sq) ((zbj sqC 3 (fun _ => rfl) n.ss sq0 (show (cs.getD i 0).toNat < _ by omega) (by decide)).trans rfl)) rfl, .inl ⟨rfl, zbx (zbl rfl rfl rfl rfl) hb6⟩, trivial⟩
    simp only [List.drop_succ_cons, List.drop_zero]
    refine ntQ (zan rfl (zbe 1 rfl ?_))
    refine zav (zah ?_)
    refine rt2Q ?_
    refine zah (zam ?_)
    exact zbi rfl rfl (congrArg _ (zei (fun hp => by first | (exact absurd hp.cl (by assumption)) | (have h9 := hp.few; omega) | (have h9 := hp.ini i (by omega); omega) | (exact absurd ((rf_eq hp.cl.q).2 hp.col).symm (by assumption)))).symm)
   have hb6p : (n.ss.getD i sq0).it = (n.ss.getD ((cs.getD i 0).toNat) sq0).it := (bne_eq_false_iff_eq.1 hb6)
   refine zbd 16 [[], [0], [], [1, 2], [3], [4], [], [6], [], [], [8, 9], [10], [7, 11], [12], [13], [5, 14]] [24, 25, 26, 27, 28, 29, 30, 31, 32, 33, 34, 35, 36, 37, 38, 39] [.pointer (some ⟨b1, 0 + 1, none⟩), n.sv, .int .i64 (i : Int), elP n.sv (((i : Int)).toNat * 3), elP n.sv (((i : Int)).toNat * 3 + 1), .int .i64 ((n.ss.getD i sq0).it), .pointer (some ⟨b1, 0 + 1, none⟩), n.sv, v, .int .i64 (i : Int), elP v (((i : Int)).toNat * 1), .int .i64 (cs.getD i 0), elP n.sv ((cs.getD i 0).toNat * 3), elP n.sv ((cs.getD i 0).toNat * 3 + 1), .int .i64 ((n.ss.getD ((cs.getD i 0).toNat) sq0).it), .bool false] (by kernel_rfl) rfl ?_ ?_
   ·
    exact ⟨iaQ rfl (fdQ 1 rfl rfl rfl) rfl, iaQ rfl (zae rfl rfl rfl (zac 0 rfl rfl)) rfl, iaQ rfl (zaf rfl) rfl, iaQ rfl (riQ 3 rfl rfl rfl rfl (zaa hr.sq)) rfl, iaQ rfl (zaw (k0 := 1) rfl rfl rfl (zaa hr.sq) (by omega)) rfl, iaQ rfl (zal (u := .int .i64 ((n.ss.getD i sq0).it)) rfl rfl rfl (zaa hr.sq) ((zbj sqC 3 (fun _ => rfl) n.ss sq0 (show i < _ by omega) (by decide)).trans rfl)) rfl, iaQ rfl (fdQ 1 rfl rfl rfl) rfl, iaQ rfl (zae rfl rfl rfl (zac 0 rfl rfl)) rfl, iaQ rfl (zaf rfl) rfl, iaQ rfl (zaf rfl) rfl, iaQ rfl (riQ 1 rfl rfl rfl rfl (zaa hv)) rfl, iaQ rfl (liQ rfl rfl rfl (zaa hv)) rfl, iaQ rfl (riQ 3 rfl rfl rfl rfl (zaa hr.sq)) rfl, iaQ rfl (zaw (k0 := 1) rfl rfl rfl (zaa hr.sq) (by omega)) rfl, iaQ rfl (zal (u := .int .i64 ((n.ss.getD ((cs.getD i 0).toNat) sq0).it)) rfl rfl rfl (zaa hr.sq) ((zbj sqC 3 (fun _ => rfl) n.ss sq0 (show (cs.getD i 0).toNat < _ by omega) (by decide)).trans rfl)) rfl, .inl ⟨rfl, zbx (zbl rfl rfl rfl rfl) hb6⟩, trivial⟩
   simp only [List.drop_succ_cons, List.drop_zero]
   refine ntQ (fsQ rfl (zcj (reQ 1 rfl (hvQ rfl (vaQ rfl rfl rfl) ?_))))
   have hcp : ClP n cs := by assumption
   have hcl := hcp.q.len
   refine enQ 1 rfl ?_
   exact zbr (i + 1) ⟨by omega, fun q hq => by by_cases e : q = i; (subst e; omega); exact hit q (by omega)⟩ (by omega) (saQ rfl) (pfQ rfl)
  refine ntQ (zak rfl ?_)
  refine zbb (zda ?_)
  refine zad (zas (zab (reQ 1 rfl (hvQ rfl (zaz (cs := [.int .i64 n.ins, n.sv, n.av, n.ov]) rfl rfl rfl rfl rfl (zax 0 rfl 0 rfl)) (zai 1 rfl ?_)))))
  refine hl_q rfl rfl rfl (zaj rfl rfl (fun w hm => l16Refine_ret n cs v w (hr.below hm.bel) hn (hv.below hm.bel) hcp.q (by omega))) ?_
  intro v7 p8 hR9
  subst hR9
  refine zee rfl (zaj rfl rfl (fun w hm => zat (l16Same_ans cs (rfL n cs) _ _ w (hv.below hm.bel) ((zao 0 rfl) w hm) (by rw [hcl, (rfL_ok n cs).len])))) (zbo (fun h10 => ?_) (fun h10 => ?_))
  ·
   have h10p := of_decide_eq_true h10
   refine zbf 1 rfl ?_
   exact zav (zbi rfl rfl (congrArg _ (pB_yes ⟨hcp, by omega, fun i hi9 => hit i (by omega), (rf_eq hcp.q).1 (by have h9 := (show cs = rfL n cs by assumption); exact h9.symm)⟩).symm))
  have h10p := of_decide_eq_false h10
  refine zbf 1 rfl ?_
  exact zav (zbi rfl rfl (congrArg _ (zei (fun hp => by first | (exact absurd hp.cl (by assumption)) | (have h9 := hp.few; omega) | (have h9 := hp.ini i (by omega); omega) | (exact absurd ((rf_eq hp.cl.q).2 hp.col).symm (by assumption)))).symm))
 have hb2p := of_pBn hb2
 refine zbd 12 [[], [], [0, 1], [2], [3], [4], [4], [4], [4], [4], [4], [4, 10]] [6, 7, 8, 9, 10, 11, 12, 13, 14, 15, 16, 17] [.agg #[.int .i64 n.ins, n.sv, n.av, n.ov], v, .bool false, .bool true, .bool true, undef, undef, undef, undef, undef, undef, .bool true] (by kernel_rfl) rfl ?_ ?_
 ·
  exact ⟨iaQ rfl (zaz (cs := [.int .i64 n.ins, n.sv, n.av, n.ov]) rfl rfl rfl rfl rfl (zax 0 rfl 0 rfl)) rfl, iaQ rfl (zaf rfl) rfl, .inl ⟨rfl, rq_cb (zaj rfl rfl (fun w hm => zat (zdj n cs v w (hr.below hm.bel) hn (hv.below hm.bel)))) hb2⟩, iaQ rfl (zaf rfl) rfl, iaQ rfl (zaf rfl) rfl, .inr ⟨rfl, rfl⟩, .inr ⟨rfl, rfl⟩, .inr ⟨rfl, rfl⟩, .inr ⟨rfl, rfl⟩, .inr ⟨rfl, rfl⟩, .inr ⟨rfl, rfl⟩, iaQ rfl (zaf rfl) rfl, trivial⟩
 simp only [List.drop_succ_cons, List.drop_zero]
 refine ntQ (zan rfl (zbe 1 rfl ?_))
 refine zav (zam ?_)
 exact zbi rfl rfl (congrArg _ (zei (fun hp => by first | (exact absurd hp.cl (by assumption)) | (have h9 := hp.few; omega) | (have h9 := hp.ini i (by omega); omega) | (exact absurd ((rf_eq hp.cl.q).2 hp.col).symm (by assumption)))).symm)
theorem seqMost_ram (w : World) : Calls Try.prog 47 #[.int .i64 1] w fun e w' => e = .returned (.int .i64 31) ∧ w = w' := by
  go_enter Try.func47, Try.ntmps47
  go_wp2
  go_ret
  exact ⟨rfl, rfl⟩
theorem seqMost_flop (w : World) : Calls Try.prog 47 #[.int .i64 0] w fun e w' => e = .returned (.int .i64 1) ∧ w = w' := by
  go_enter Try.func47, Try.ntmps47
  go_wp2
  go_ret
  exact ⟨rfl, rfl⟩
def ramOut (v i : Nat) : Nat := (v / 2 ^ (i % 4 + 1) % 2) + v / 2 * 2
def ramN (v i : Nat) : Nat := if i / 8 % 2 = 1 then ramOut v i - (ramOut v i / 2 ^ (i % 4 + 1) % 2) * 2 ^ (i % 4 + 1) + (i / 4 % 2) * 2 ^ (i % 4 + 1) else ramOut v i
theorem ram_write : ∀ i : Nat, i < 16 → ∀ v : Nat, v < 32 → (bits BinOp.and IntKind.i64 ((i : Int) / 8) 1 == 1) = true →
    bits BinOp.or IntKind.i64 (bits BinOp.andNot IntKind.i64 (bits BinOp.or IntKind.i64 (bits BinOp.and IntKind.i64 ((v : Int) / 2 ^ min (IntKind.u64.wrap (IntKind.u64.wrap (bits BinOp.and IntKind.i64 (i : Int) 3) + 1)).toNat 64) 1) (bits BinOp.andNot IntKind.i64 (v : Int) 1)) (wrap64 (2 ^ min (IntKind.u64.wrap (IntKind.u64.wrap (bits BinOp.and IntKind.i64 (i : Int) 3) + 1)).toNat 64)))
      (wrap64 (bits BinOp.and IntKind.i64 ((i : Int) / 4) 1 * 2 ^ min (IntKind.u64.wrap (IntKind.u64.wrap (bits BinOp.and IntKind.i64 (i : Int) 3) + 1)).toNat 64)) = ((ramN v i : Nat) : Int) := by decide +kernel
theorem ram_keep : ∀ i : Nat, i < 16 → ∀ v : Nat, v < 32 → (bits BinOp.and IntKind.i64 ((i : Int) / 8) 1 == 1) = false → bits BinOp.or IntKind.i64 (bits BinOp.and IntKind.i64 ((v : Int) / 2 ^ min (IntKind.u64.wrap (IntKind.u64.wrap (bits BinOp.and IntKind.i64 (i : Int) 3) + 1)).toNat 64) 1) (bits BinOp.andNot IntKind.i64 (v : Int) 1) = ((ramN v i : Nat) : Int) := by decide +kernel
theorem ram_lt : ∀ i : Nat, i < 16 → ∀ v : Nat, v < 32 → ramN v i < 32 := by decide +kernel
theorem seqNext_ram (v i : Nat) (hv : v < 32) (hi : i < 16) (w : World) : Calls Try.prog 48 #[.int .i64 1, .int .i64 (v : Int), .int .i64 (i : Int)] w fun e w' => e = .returned (.int .i64 (ramN v i : Nat)) ∧ w = w' := by
  have hr : inR (v : Int) 0 31 = true := inR_true (by omega) (by omega)
  go_enter Try.func48, Try.ntmps48
  go_wp2_with (first
    | (go_at_call 47; refine (seqMost_ram _).mono ?_; rintro e w' ⟨rfl, rfl⟩)
    | (go_at_call 38; refine (zci _ _ _ _).mono ?_; rintro e w' ⟨rfl, rfl⟩))
  all_goals go_ret
  all_goals refine ⟨rt_int ?_, rfl⟩
  · exact ram_write i hi v hv (by assumption)
  · exact ram_keep i hi v hv (by assumption)
def pk (b : Nat → Int) : Nat → Int
  | 0 => 0
  | k + 1 => pk b k + b k * 2 ^ k
theorem two_pow (k : Nat) : (2 : Int) ^ k = ((2 ^ k : Nat) : Int) := by simp
theorem pk_rng {b : Nat → Int} : ∀ k, (∀ q, q < k → b q = 0 ∨ b q = 1) → 0 ≤ pk b k ∧ pk b k < 2 ^ k
  | 0, _ => ⟨Int.le_refl _, by show (0 : Int) < 2 ^ 0; decide⟩
  | k + 1, h => by
    have ih := pk_rng k (fun q hq => h q (by omega))
    have hk := h k (by omega)
    have hp : (0 : Int) < 2 ^ k := Int.pow_pos (by decide)
    unfold pk
    rw [Int.pow_succ]
    rcases hk with e | e <;> rw [e] <;> omega
theorem pow16 {k : Nat} (h : k ≤ 16) : (0 : Int) < 2 ^ k ∧ (2 : Int) ^ k ≤ 65536 := by
  have h1 : (2 : Nat) ^ k ≤ 2 ^ 16 := Nat.pow_le_pow_right (by decide) h
  have h2 : ((2 ^ k : Nat) : Int) = (2 : Int) ^ k := by push_cast; rfl
  have h3 : 0 < (2 : Nat) ^ k := Nat.pow_pos (by decide)
  have h4 : (2 : Nat) ^ 16 = 65536 := by decide
  rw [← h2]; omega
theorem shl_bitE {b : Int} {k : Nat} (hb : b = 0 ∨ b = 1) (hk : k ≤ 16) : IntKind.i64.wrap (b * 2 ^ ((k : Int)).toNat) = b * 2 ^ k := by
  have hp := pow16 hk
  rw [Int.toNat_natCast]
  exact IntWalk.i64_in _ (by rcases hb with e | e <;> rw [e] <;> omega)
theorem pow16T {k : Nat} (h : k ≤ 16) : (2 : Int) ^ k ≤ 65536 := (pow16 h).2
theorem pk_16 {b : Nat → Int} {k : Nat} (h : ∀ q, q < k → b q = 0 ∨ b q = 1) (hk : k ≤ 16) : 0 ≤ pk b k ∧ pk b k < 65536 := by
  have := pk_rng k h
  have := pow16T hk
  omega
theorem shl_pk16 {b : Int} {k : Nat} (hb : b = 0 ∨ b = 1) (hk : k ≤ 16) : IntKind.i64.wrap (b * 2 ^ ((k : Int)).toNat) = b * 2 ^ k := shl_bitE hb hk
theorem or_pk16 {b : Nat → Int} {k : Nat} (h : ∀ q, q < k → b q = 0 ∨ b q = 1) (hb : b k = 0 ∨ b k = 1) (hk : k ≤ 16) : bits .or .i64 (pk b k) (b k * 2 ^ k) = pk b (k + 1) := by
  obtain ⟨h0, h1⟩ := pk_rng k h
  have hp := pow16T hk
  have hp0 : (0 : Int) < 2 ^ k := Int.pow_pos (by decide)
  rw [Bit.or_int _ _ h0 (by omega) (by rcases hb with e | e <;> rw [e] <;> omega) (by rcases hb with e | e <;> rw [e] <;> omega)]
  have e2 : (b k * 2 ^ k).toNat = (b k).toNat * 2 ^ k := by
    rcases hb with e | e <;> rw [e]
    · simp
    · rw [Int.one_mul, two_pow, Int.toNat_natCast]; simp
  have hlt : (pk b k).toNat < 2 ^ k := by rw [two_pow] at h1; omega
  rw [e2, Bit.or_join _ _ _ hlt]
  show _ = pk b k + b k * 2 ^ k
  rw [← e2]
  have : 0 ≤ b k * 2 ^ k := by rcases hb with e | e <;> rw [e] <;> omega
  omega
def bstr (xs : List Int) : ByteArray := xs.foldl (fun r n => r.push (UInt8.ofNat n.toNat)) ByteArray.empty
def u8C (x : Int) : List Value := [.int .u8 x]
theorem u8_flat : ∀ xs : List Int, xs.flatMap u8C = xs.map (Value.int .u8)
  | [] => rfl
  | x :: xs => by rw [List.flatMap_cons, u8_flat xs]; rfl
theorem bstr_data : ∀ (xs : List Int) (s : ByteArray), (xs.foldl (fun r n => r.push (UInt8.ofNat n.toNat)) s).data.toList = s.data.toList ++ xs.map (fun n => UInt8.ofNat n.toNat)
  | [], s => by simp
  | x :: xs, s => by
    rw [List.foldl_cons, bstr_data xs]
    show (s.data.push _).toList ++ _ = _
    rw [Array.toList_push, List.map_cons, List.append_assoc]; rfl
def B01L (xs : List Int) : Prop := ∀ x ∈ xs, x = 0 ∨ x = 1
theorem map_inj : ∀ {a b : List Int}, B01L a → B01L b → a.map (fun n => UInt8.ofNat n.toNat) = b.map (fun n => UInt8.ofNat n.toNat) → a = b
  | [], [], _, _, _ => rfl
  | [], _ :: _, _, _, h => by cases h
  | _ :: _, [], _, _, h => by cases h
  | x :: a, y :: b, ha, hb, h => by
    rw [List.map_cons, List.map_cons] at h
    injection h with h1 h2
    have hx := ha x List.mem_cons_self
    have hy := hb y List.mem_cons_self
    have e : x = y := by
      rcases hx with rfl | rfl <;> rcases hy with rfl | rfl
      · rfl
      · exact absurd h1 (by decide)
      · exact absurd h1 (by decide)
      · rfl
    rw [e, map_inj (fun z hz => ha z (List.mem_cons_of_mem _ hz)) (fun z hz => hb z (List.mem_cons_of_mem _ hz)) h2]
theorem bstr_eq {a b : List Int} (ha : B01L a) (hb : B01L b) : ((bstr a).toList == (bstr b).toList) = decide (a = b) := by
  rw [ByteArray.toList_eq, ByteArray.toList_eq]
  unfold bstr
  rw [bstr_data, bstr_data]
  by_cases e : a = b
  · subst e; rw [decide_eq_true rfl]; simp
  · rw [decide_eq_false e, beq_eq_false_iff_ne]
    intro h9
    exact e (map_inj ha hb (List.append_cancel_left h9))
section
variable {P : Program} {N : Nat} {w0 : World} {l : List HP} {env : List (Nat × Value)} {o : Oper}
theorem rv_bytesStr {src dst e : TypeId} {x : Operand} {v : Value} {xs : List Int} {n : Nat} (ho : o.op = .convert src dst x) (hx : ev env x = some v) (hs : P.underlying src = some (.slice e)) (he : P.underlying e = some (.int .u8)) (hd : P.underlying dst = some .string) (hr : Rd w0 l v 1 n (xs.flatMap u8C)) : RunV P N w0 l env o (.string (bstr xs)) := fun a1 w st => by
  obtain ⟨a, cap, rfl, hl, -, hc⟩ := hr w st.mem
  rw [u8_flat, List.length_map, Nat.mul_one] at hl
  rw [u8_flat] at hc
  have h2 : (convert src dst (.slice a n cap)).run P w = .ok (.string (bstr xs)) w := by
    rw [run_convert_bytes_string w src dst e a n cap hs he hd]
    cases a with
    | none =>
      have h0 : n = 0 := by
        rcases Nat.eq_zero_or_pos n with h | h
        · exact h
        · obtain ⟨b, off, h3, -⟩ := hc h; cases h3
      have : xs = [] := List.eq_nil_of_length_eq_zero (by omega)
      subst this; rfl
    | some ad =>
      refine run_bytesToString w ad n cap xs ?_
      have h3 := run_loadCells_list (P := P) (w := w) ad (xs.map (Value.int .u8)) (fun j u hj => by
        have hp : 0 < n := by
          have := (List.getElem?_eq_some_iff.1 hj).1
          rw [List.length_map] at this; omega
        obtain ⟨b, off, h4, h5⟩ := hc hp
        have h4 := Option.some.inj h4; subst h4
        rw [zel]; exact h5 j u hj)
      rw [List.length_map, hl] at h3; exact h3
  simp [execOp, ho, st.eval hx, h2]
theorem rv_seql {t t' : TypeId} {x y : Operand} {u v : Value} {xs ys : List Int} (ho : o.op = .binOp .eql t x y t') (hx : ev env x = some u) (hy : ev env y = some v) (eu : u = .string (bstr xs)) (e2 : v = .string (bstr ys)) (h1 : B01L xs) (h2 : B01L ys) : RunV P N w0 l env o (.bool (decide (xs = ys))) := fun a w st => by
  subst eu e2
  have h3 : (binOp .eql t (.string (bstr xs)) (.string (bstr ys))).run P w = .ok (.bool (decide (xs = ys))) w := by rw [← bstr_eq h1 h2, binOp_string_eql]; rfl
  simp [execOp, ho, st.eval hx, st.eval hy, eqGuard, h3]
theorem rv_sneq {t t' : TypeId} {x y : Operand} {u v : Value} {xs ys : List Int} (ho : o.op = .binOp .neq t x y t') (hx : ev env x = some u) (hy : ev env y = some v) (eu : u = .string (bstr xs)) (e2 : v = .string (bstr ys)) (h1 : B01L xs) (h2 : B01L ys) : RunV P N w0 l env o (.bool (!decide (xs = ys))) := fun a w st => by
  subst eu e2
  have h3 : (binOp .neq t (.string (bstr xs)) (.string (bstr ys))).run P w = .ok (.bool (!decide (xs = ys))) w := by rw [← bstr_eq h1 h2, binOp_string_neq]; rfl
  simp [execOp, ho, st.eval hx, st.eval hy, eqGuard, h3]
end
structure Br where
  v : Value
  xs : List Int
abbrev br0 : Br := ⟨.slice none 0 0, []⟩
def brC (r : Br) : List Value := [r.v]
abbrev brPart (r : Br) : HP := rowE 5 1 r.v r.xs.length (r.xs.flatMap u8C)
theorem getD_setR {D : List Br} {a s : Nat} {b : Br} (ha : a < D.length) : (D.set a b).getD s br0 = if s = a then b else D.getD s br0 := by
  rw [List.getD_eq_getElem?_getD, List.getElem?_set, List.getD_eq_getElem?_getD]
  by_cases e : a = s
  · rw [if_pos e, if_pos e.symm, if_pos ha]; rfl
  · rw [if_neg e, if_neg (fun h => e h.symm)]
theorem conv_brFocus {w0 : World} {l : List HP} {es : List Br} {j : Nat} (h : j < es.length) : Conv w0 (bigE (es.map brPart) :: l) (brPart (es.getD j br0) :: bigE ((es.map brPart).eraseIdx j) :: l) :=
  conv_focus (by rw [List.getElem?_map, getD_at h (d := br0)]; rfl)
theorem conv_brUnfocus {w0 : World} {l : List HP} {es : List Br} {j : Nat} {e' : Br} (h : j < es.length) : Conv w0 (brPart e' :: bigE ((es.map brPart).eraseIdx j) :: l) (bigE ((es.set j e').map brPart) :: l) := fun w hm => by
  rw [List.map_set]; exact conv_unfocus (by rw [List.length_map]; exact h) w hm
theorem Mem.brNil {w0 w : World} {l : List HP} (h : Mem w0 l w) (n : Nat) : Mem w0 (bigE ((List.replicate n br0).map brPart) :: l) w := by
  have := h.bigNil 5 1 n
  rw [List.map_replicate]; exact this.big
theorem br_rd {w0 : World} {l : List HP} {D : List Br} {i k : Nat} (hi : l[i]? = some (bigE (D.map brPart))) (hk : k < D.length) (w : World) (hm : Mem w0 l w) : RdsW w (D.getD k br0).v 1 (D.getD k br0).xs.length ((D.getD k br0).xs.flatMap u8C) :=
  zcm (zdh (hm.holds _ (zbs hi)) (List.mem_map.2 ⟨D.getD k br0, zbc hk, rfl⟩))
def colL (n : Nt) (cs : List Int) (i X : Nat) : List Int := (List.range X).map (fun x : Nat => bX n cs (x : Int) i)
theorem colL_len (n : Nt) (cs : List Int) (i X : Nat) : (colL n cs i X).length = X := by unfold colL; simp
theorem colL_succ (n : Nt) (cs : List Int) (i X : Nat) : colL n cs i (X + 1) = colL n cs i X ++ [bX n cs (X : Int) i] := by unfold colL; rw [List.range_succ, List.map_append]; rfl
theorem col_eq {n : Nt} {cs : List Int} {i j : Nat} : colL n cs i (cases2 n cs) = colL n cs j (cases2 n cs) ↔ ColE n cs i j := by
  unfold colL ColE
  rw [List.map_inj_left]
  exact ⟨fun h x hx => h x (List.mem_range.2 hx), fun h x hx => h x (List.mem_range.1 hx)⟩
theorem bX_01 {n : Nt} (hn : NtOk n) {cs : List Int} (h : ClQ n.ss.length cs) (x : Int) {i : Nat} (hi : i < n.ss.length) : bX n cs x i = 0 ∨ bX n cs x i = 1 := by
  have hk := (hn.sq _ (zbc (d := sq0) hi)).kind
  have hx := hn.xs _ (zbc (d := sq0) hi) _ (zbc (d := (0 : Int)) (show 0 < (n.ss.getD i sq0).xs.length by omega))
  have hl := zdi n (stX cs n.ins x n.ss.length) x n.gs.length (Nat.le_refl _)
  have hs := zeb cs n.ins x n.ss.length
  have h0 := hn.i0
  have hc : n.cnt = 1 + n.ins + n.ss.length + n.gs.length := rfl
  unfold LtOk at hx
  exact bit01 (val01 hn hs x n.gs.length (Nat.le_refl _)) hx.1 (by omega)
theorem col_01 {n : Nt} (hn : NtOk n) {cs : List Int} (h : ClQ n.ss.length cs) {i : Nat} (hi : i < n.ss.length) (X : Nat) : B01L (colL n cs i X) := fun y hy => by
  obtain ⟨x, -, rfl⟩ := List.mem_map.1 hy
  exact bX_01 hn h _ hi
structure BrP (n : Nt) (cs : List Int) (D : List Br) (X I : Nat) : Prop where
  len : D.length = n.ss.length
  row : ∀ i, i < n.ss.length → (D.getD i br0).xs = colL n cs i (if i < I then X + 1 else X)
theorem BrP.start (n : Nt) (cs : List Int) : BrP n cs (List.replicate n.ss.length br0) 0 0 := ⟨List.length_replicate, fun i hi => by
  rw [if_neg (by omega), List.getD_eq_getElem?_getD, List.getElem?_replicate, if_pos hi]; rfl⟩
theorem BrP.step {n : Nt} {cs : List Int} {D : List Br} {X I : Nat} (h : BrP n cs D X I) (hI : I < n.ss.length) {v : Value} {x : Int} (hx : x = bX n cs (X : Int) I) : BrP n cs (D.set I (Br.mk v ((D.getD I br0).xs ++ [x]))) X (I + 1) := ⟨by rw [List.length_set]; exact h.len, fun i hi => by
  rw [getD_setR (by rw [h.len]; exact hI)]
  by_cases e : i = I
  · subst e
    rw [if_pos rfl, if_pos (by omega), colL_succ]
    show (D.getD i br0).xs ++ [x] = _
    rw [h.row i hi, if_neg (by omega), hx]
  · rw [if_neg e, h.row i hi]
    by_cases h2 : i < I
    · rw [if_pos h2, if_pos (by omega)]
    · rw [if_neg h2, if_neg (by omega)]⟩
theorem BrP.next {n : Nt} {cs : List Int} {D : List Br} {X : Nat} (h : BrP n cs D X n.ss.length) : BrP n cs D (X + 1) 0 := ⟨h.len, fun i hi => by
  rw [h.row i hi, if_pos hi, if_neg (by omega)]⟩
structure SrP (n : Nt) (cs : List Int) (B : List Br) (m : Nat) : Prop where
  len : B.length = m
  ok : ∀ i, i < m → (B.getD i br0).v = .string (bstr (B.getD i br0).xs) ∧ (B.getD i br0).xs = colL n cs i (cases2 n cs)
theorem SrP.app {n : Nt} {cs : List Int} {B : List Br} {m : Nat} (h : SrP n cs B m) {r : Br} (hr : r.v = .string (bstr r.xs) ∧ r.xs = colL n cs m (cases2 n cs)) : SrP n cs (B ++ [r]) (m + 1) := ⟨by rw [List.length_append, h.len]; rfl, fun i hi => by
  by_cases e : i = m
  · subst e; rw [zcz (by rw [h.len]; exact Nat.le_refl _), h.len, Nat.sub_self]; exact hr
  · rw [zdg (by rw [h.len]; omega)]; exact h.ok i (by omega)⟩
theorem SrP.nil (n : Nt) (cs : List Int) : SrP n cs [] 0 := ⟨rfl, fun i hi => absurd hi (by omega)⟩
theorem SrP.b01 {n : Nt} (hn : NtOk n) {cs : List Int} (hq : ClQ n.ss.length cs) {B : List Br} (h : SrP n cs B n.ss.length) {i : Nat} (hi : i < n.ss.length) : B01L (B.getD i br0).xs := by
  rw [(h.ok i hi).2]; exact col_01 hn hq hi _
theorem SrP.col {n : Nt} {cs : List Int} {B : List Br} (h : SrP n cs B n.ss.length) {i j : Nat} (hi : i < n.ss.length) (hj : j < n.ss.length) : (B.getD i br0).xs = (B.getD j br0).xs ↔ ColE n cs i j := by
  rw [(h.ok i hi).2, (h.ok j hj).2]; exact col_eq
def UpP (M : Nat → Nat → Prop) (i j k : Nat) : Prop := (k = i ∧ ∀ q, q < j → q < i → ¬ M i q) ∨ (k < i ∧ M i k ∧ ∀ q, q < k → ¬ M i q)
theorem UpP.start (M : Nat → Nat → Prop) (i : Nat) : UpP M i 0 i := .inl ⟨rfl, fun q h => absurd h (by omega)⟩
theorem UpP.miss {M : Nat → Nat → Prop} {i j : Nat} (h : UpP M i j i) (hm : ¬ M i j) : UpP M i (j + 1) i := by
  rcases h with ⟨h1, h2⟩ | ⟨h1, h2⟩
  · exact .inl ⟨rfl, fun q h3 h4 => by
      by_cases e : q = j
      · subst e; exact hm
      · exact h2 q (by omega) h4⟩
  · omega
theorem UpP.hit {M : Nat → Nat → Prop} {i j : Nat} (h : UpP M i j i) (hj : j < i) (hm : M i j) : UpP M i (j + 1) j := by
  rcases h with ⟨h1, h2⟩ | ⟨h1, h2⟩
  · exact .inr ⟨hj, hm, fun q h3 => h2 q h3 (by omega)⟩
  · omega
theorem UpP.fin {M : Nat → Nat → Prop} {i j k : Nat} (h : UpP M i j k) (he : i ≤ j ∨ k ≠ i) : k = mnI M i := by
  rcases h with ⟨h1, h2⟩ | ⟨h1, h2, h3⟩
  · rw [zew (fun q hq => h2 q (by omega) hq)]; exact h1
  · exact (mnI_hit h1 h2 h3).symm
theorem zds {ys : List Int} {i : Nat} {x : Int} (h : i < ys.length) : (ys.set i x).take (i + 1) = ys.take i ++ [x] := by
  rw [List.take_succ_eq_append_getElem (by rw [List.length_set]; exact h), List.getElem_set_self, List.take_set_of_le (Nat.le_refl _)]
theorem getD_take {ys : List Int} {i k : Nat} (h : k < i) : (ys.take i).getD k 0 = ys.getD k 0 := by
  rw [List.getD_eq_getElem?_getD, List.getElem?_take, if_pos h, ← List.getD_eq_getElem?_getD]
def snC (kd v x : Int) : Int := if kd = 0 then x % 2 else (ramN v.toNat x.toNat : Int)
def atB (vs xs : List Int) (q : Nat) : Int := bitL vs (xs.getD q 0)
def nxN (n : Nt) (st : List Int) (inp : Int) (k : Nat) : Int := snC (n.ss.getD k sq0).kd (st.getD k 0) (pk (atB (valsL n st inp) (n.ss.getD k sq0).xs) (n.ss.getD k sq0).xs.length)
def nxL (n : Nt) (st : List Int) (inp : Int) (k : Nat) : List Int := (List.range k).map (nxN n st inp)
theorem nxL_len (n : Nt) (st : List Int) (inp : Int) (k : Nat) : (nxL n st inp k).length = k := by simp [nxL]
theorem nxL_step (n : Nt) (st : List Int) (inp : Int) (k : Nat) : nxL n st inp k ++ [nxN n st inp k] = nxL n st inp (k + 1) := by unfold nxL; rw [List.range_succ, List.map_append]; rfl
theorem nxL_at {n : Nt} {st : List Int} {inp : Int} {k j : Nat} (h : j < k) : (nxL n st inp k).getD j 0 = nxN n st inp j := by
  unfold nxL; rw [List.getD_eq_getElem?_getD, List.getElem?_map, List.getElem?_range h]; rfl
theorem vals_at {n : Nt} (hn : NtOk n) {st : List Int} (hs : st.length = n.ss.length) (inp : Int) {xs : List Int} (hx : ∀ x ∈ xs, LtOk x n.cnt) {q : Nat} (hq : q < xs.length) : atB (valsL n st inp) xs q = 0 ∨ atB (valsL n st inp) xs q = 1 := by
  have hl := zdi n st inp n.gs.length (Nat.le_refl _)
  have h0 := hn.i0
  have hc : n.cnt = 1 + n.ins + n.ss.length + n.gs.length := rfl
  have h1 := hx _ (zbc (d := (0 : Int)) hq)
  unfold LtOk at h1
  exact bit01 (val01 hn hs inp n.gs.length (Nat.le_refl _)) h1.1 (by omega)
end Go.Proofs.Ytceplahoobhmhaa
