/- Texts of the law FnExprBits, part 2: what it uses. -/
import Derived.Test.YtodiifjigjnalaaXpb1
set_option linter.unusedVariables false
set_option linter.unusedSimpArgs false
set_option maxHeartbeats 4000000
set_option maxRecDepth 100000
namespace Go.Proofs.Ytodiifjigjnalaa
open Go.RowKit Go.ChangeShapes
open Go.RowKit
theorem l08Sized_mut (g : Nat) (a : Option Addr) (len cap : Nat) (z : List Int) (q1 q2 q3 : Int) (w0 : World) (l : List HP) (w : World) (hm0 : Mem w0 (curE g a len cap :: l) w) (hb : BRow .u8 w0 a len cap z) (hq1 : 1 ≤ q1 ∧ q1 ≤ 6) (hq2 : 0 ≤ q2 ∧ q2 ≤ 4) (hq3 : 0 ≤ q3 ∧ q3 ≤ 30) :
   Calls Try.prog 157 #[.pointer (some ⟨g, 0, none⟩), .int .i64 q1, .int .i64 q2, .int .i64 q3] w (fun e_ w_ => ∃ v_ p_, e_ = .returned v_ ∧ (fun u_ p_ => ∃ n : Nt, u_ = n.agg ∧ p_ = bigE [curE g a len cap, ntE n] ∧ (n.sv.oneCell' = true ∧ n.av.oneCell' = true ∧ n.ov.oneCell' = true) ∧ NtOk n ∧ n.ins ≤ q1 ∧ (n.ss.length : Int) ≤ q2 ∧ (n.gs.length : Int) ≤ q3) v_ p_ ∧ Mem w0 (p_ :: l) w_) := by
 refine zdk (N := 131) (args := [.pointer (some ⟨g, 0, none⟩), .int .i64 q1, .int .i64 q2, .int .i64 q3]) Try.func157 rfl rfl hm0 (srQ ?_)
 refine zed rfl (zcc (z := .agg #[.int .i64 0, .slice none 0 0, .slice none 0 0, .slice none 0 0]) rfl rfl) ?_
 intro b1
 refine ntQ (zac (reQ 2 rfl ?_))
 refine zch (R := (fun u_ p_ => (∃ x_ : Int, u_ = .int .i64 x_ ∧ 0 ≤ x_ ∧ x_ < q1) ∧ p_ = curE g a len cap)) 1 rfl rfl rfl rfl rfl (fun l' w hm => zbv g a len cap z q1 _ _ _ hm hb (by constructor <;> omega)) ?_
 intro v2 p3 hR4
 obtain ⟨⟨xhR4, rfl, xhR40, xhR41⟩, rfl⟩ := hR4
 refine zck (l' := (eB9 b1 :: curE g a len cap :: l)) rfl ?_
 refine hvQ rfl (vaQ rfl rfl rfl) (hvQ rfl (zct (cs := #[.int .i64 (1 + xhR4), .slice none 0 0, .slice none 0 0, .slice none 0 0]) rfl rfl rfl) ?_)
 refine zed rfl (zcc (z := .agg #[.int .i64 0, .slice none 0 0, .slice none 0 0, .slice none 0 0]) rfl rfl) ?_
 intro b5
 refine zbm (cs' := #[.int .i64 (1 + xhR4), .slice none 0 0, .slice none 0 0, .slice none 0 0]) (i := 0) (off := 0) (us := [.int .i64 (1 + xhR4), .slice none 0 0, .slice none 0 0, .slice none 0 0]) rfl rfl rfl rfl rfl rfl rfl (zaa rfl (zaa rfl (zaa rfl (zaa rfl zbe)))) rfl rfl rfl (ntQ (zac (reQ 2 rfl (hvQ rfl (vaQ rfl rfl rfl) ?_))))
 refine zch (R := (fun u_ p_ => (∃ x_ : Int, u_ = .int .i64 x_ ∧ 0 ≤ x_ ∧ x_ < q2 + 1) ∧ p_ = curE g a len cap)) 2 rfl rfl rfl rfl rfl (fun l' w hm => zbv g a len cap z (q2 + 1) _ _ _ hm hb (by constructor <;> omega)) ?_
 intro v6 p7 hR8
 obtain ⟨⟨xhR8, rfl, xhR80, xhR81⟩, rfl⟩ := hR8
 refine zck (l' := (boxE b5 #[.int .i64 (1 + xhR4), .slice none 0 0, .slice none 0 0, .slice none 0 0] 70 :: eB9 b1 :: curE g a len cap :: l)) rfl ?_
 refine zbc 1 rfl (zac (reQ 2 rfl (hvQ rfl (vaQ rfl rfl rfl) ?_)))
 refine zch (R := (fun u_ p_ => (∃ x_ : Int, u_ = .int .i64 x_ ∧ 0 ≤ x_ ∧ x_ < q3 + 1) ∧ p_ = curE g a len cap)) 2 rfl rfl rfl rfl rfl (fun l' w hm => zbv g a len cap z (q3 + 1) _ _ _ hm hb (by constructor <;> omega)) ?_
 intro v9 p10 hR11
 obtain ⟨⟨xhR11, rfl, xhR110, xhR111⟩, rfl⟩ := hR11
 refine zck (l' := (boxE b5 #[.int .i64 (1 + xhR4), .slice none 0 0, .slice none 0 0, .slice none 0 0] 70 :: eB9 b1 :: curE g a len cap :: l)) rfl ?_
 refine zbc 1 rfl (srQ (hvQ rfl (fdQ 0 rfl rfl rfl) (hvQ rfl (zan rfl rfl rfl (zai 0 rfl rfl)) (hvQ rfl (vaQ rfl rfl rfl) (zag 1 rfl (hvQ rfl (vaQ rfl rfl rfl) (enQ 1 rfl ?_)))))))
 refine zaw (zac (zbn 1 rfl (zbf ?_)))
 refine zeo (rowE 3 1 (.slice none 0 0) 0 ([]) :: boxE b5 #[.int .i64 (1 + xhR4), .slice none 0 0, .slice none 0 0, .slice none 0 0] 70 :: eB9 b1 :: curE g a len cap :: l) (fun w hm => hm.nilRow 3 1) ?_
 refine zeo (rowE 141 2 (.slice none 0 0) 0 ([]) :: rowE 3 1 (.slice none 0 0) 0 ([]) :: boxE b5 #[.int .i64 (1 + xhR4), .slice none 0 0, .slice none 0 0, .slice none 0 0] 70 :: eB9 b1 :: curE g a len cap :: l) (fun w hm => hm.nilRow 141 2) ?_
 refine zeo (rowE 143 3 (.slice none 0 0) 0 ([]) :: rowE 141 2 (.slice none 0 0) 0 ([]) :: rowE 3 1 (.slice none 0 0) 0 ([]) :: boxE b5 #[.int .i64 (1 + xhR4), .slice none 0 0, .slice none 0 0, .slice none 0 0] 70 :: eB9 b1 :: curE g a len cap :: l) (fun w hm => hm.nilRow 143 3) ?_
 refine zeo _ zfq ?_
 refine lkQ3 (α := Nat) (β := Value) (γ := List An) [0, 1, 2, 3, 8, 9, 10, 11, 12] rfl (fun i u gs => (bigE ([] : List HP) :: rowE 143 3 (.slice none 0 0) 0 ([]) :: rS9 141 2 u gs anC :: rowE 3 1 (.slice none 0 0) 0 ([]) :: boxE b5 #[.int .i64 (1 + xhR4), .slice none 0 0, u, .slice none 0 0] 70 :: eB9 b1 :: curE g a len cap :: l)) (fun i u gs => [(13, .int .i64 (i : Int))]) (fun i u gs => (i : Int) ≤ xhR11 ∧ gs.length = i ∧ AnsOk ((1 + (1 + xhR4)) + xhR8) gs) (fun i u gs => (xhR11).toNat - i) 0 _ [] ⟨by omega, rfl, fun k hk => absurd hk (by simp)⟩ (saQ rfl) (.refl _) ?_
 intro i u gs hi12
 obtain ⟨hi, hgl, hgo⟩ := hi12
 refine zac (zac (reQ 2 rfl ?_))
 refine zcb rfl rfl rfl rfl rfl rfl (fun h13 => ?_) (fun h13 => ?_)
 ·
  refine ntQ (zaj rfl (zdb (sbQ (zac (reQ 2 rfl (hvQ rfl (vaQ rfl rfl rfl) (hvQ rfl (zfs rfl rfl rfl (by constructor <;> omega)) (zag 1 rfl ?_))))))))
  refine ntQ (zac (reQ 1 rfl (hvQ rfl (vsQ rfl rfl rfl) (zag 2 rfl (hvQ rfl (vsQ rfl rfl rfl) (hvQ rfl (rv_min rfl rfl rfl) ?_))))))
  refine zch (R := (fun u_ p_ => (∃ x_ : Int, u_ = .int .i64 x_ ∧ 0 ≤ x_ ∧ x_ < min ((2 * (((1 + (1 + xhR4)) + xhR8) + (i : Int))) - 1) 14) ∧ p_ = curE g a len cap)) 6 rfl rfl rfl rfl rfl (fun l' w hm => zbv g a len cap z (min ((2 * (((1 + (1 + xhR4)) + xhR8) + (i : Int))) - 1) 14) _ _ _ hm hb (by constructor <;> omega)) ?_
  intro v14 p15 hR16
  obtain ⟨⟨xhR16, rfl, xhR160, xhR161⟩, rfl⟩ := hR16
  refine zck (l' := (bigE ([] : List HP) :: rowE 143 3 (.slice none 0 0) 0 ([]) :: rS9 141 2 u gs anC :: rowE 3 1 (.slice none 0 0) 0 ([]) :: boxE b5 #[.int .i64 (1 + xhR4), .slice none 0 0, u, .slice none 0 0] 70 :: eB9 b1 :: curE g a len cap :: l)) rfl ?_
  refine hvQ rfl (vsQ rfl rfl rfl) (zbc 1 rfl ?_)
  refine zdo 7 [5, 4, 3, 2, 1, 0, 6] rfl rfl (by decide) ?_
  refine zdi (l := (bigE ([] : List HP) :: rowE 143 3 (.slice none 0 0) 0 ([]) :: rS9 141 2 u gs anC :: rowE 3 1 (.slice none 0 0) 0 ([]) :: boxE b5 #[.int .i64 (1 + xhR4), .slice none 0 0, u, .slice none 0 0] 70 :: eB9 b1 :: l)) rfl 8 [0, 1, 2, 3, 4, 5, 6, 7] (List.take 8 _) (List.drop 8 _) [[], [0], [], [], [], [3, 4], [2, 5], [5, 6]] [54, 55, 56, 57, 58, 59, 60, 61] (fun i_ vs_ v_ p_ => match i_ with | 0 => v_ = .pointer (some ⟨b5, 0 + 2, none⟩) ∧ p_ = [] | 1 => v_ = u ∧ p_ = [] | 2 => v_ = .int .i64 (((2 * (((1 + (1 + xhR4)) + xhR8) + (i : Int))) - 1) - xhR16) ∧ p_ = [] | 3 => v_ = .pointer (some ⟨g, 0, none⟩) ∧ p_ = [] | 4 => v_ = .int .i64 (2 * (((1 + (1 + xhR4)) + xhR8) + (i : Int))) ∧ p_ = [] | 5 => (∃ pm_, p_ = [pm_] ∧ (fun u_ p_ => (∃ x_ : Int, u_ = .int .i64 x_ ∧ 0 ≤ x_ ∧ x_ < 2 * (((1 + (1 + xhR4)) + xhR8) + (i : Int))) ∧ p_ = curE g a len cap) v_ pm_) | 6 => v_ = .agg #[.int .i64 (((2 * (((1 + (1 + xhR4)) + xhR8) + (i : Int))) - 1) - xhR16), .int .i64 (intOf_o (gV9 vs_ 1))] ∧ p_ = [] | 7 => IsRow 141 2 1 ([((2 * (((1 + (1 + xhR4)) + xhR8) + (i : Int))) - 1) - xhR16, (intOf_o (gV9 vs_ 0))].map (Value.int .i64)) v_ p_ | _ => True) [[], [0], [], [], [], [3, 4], [2, 5], [5, 6]] [none, none, none, none, none, some 11, none, none] [curE g a len cap] [0, 1, 2, 3, 4, 5, 6, 7] 11 (List.take_append_drop 8 _).symm (by kernel_rfl) (by kernel_rfl) (by kernel_rfl) rfl rfl ?_ ?_
  ·
   refine ⟨?_, ?_, ?_, ?_, ?_, ?_, ?_, ?_, trivial⟩
   ·
    intro vf pf hmu hR
    refine dqQ [] [] rfl (zay (zae [9] rfl) ?_)
    exact zbi (fdQ 2 rfl rfl rfl)
   ·
    intro vf pf hmu hR
    have e0 := hR 0 (by decide)
    refine dqQ [0] [0] rfl (zaq (sk 54 (congrArg some e0.1) (zab _)) (List.sublist_append_right _ _) ?_)
    exact zbi (zan rfl rfl rfl (zai 4 rfl rfl))
   ·
    intro vf pf hmu hR
    refine dqQ [] [] rfl (zay (zae [15] rfl) ?_)
    exact zbi (zax rfl)
   ·
    intro vf pf hmu hR
    refine dqQ [] [] rfl (zay (zae [0] rfl) ?_)
    exact zbi (zax rfl)
   ·
    intro vf pf hmu hR
    refine dqQ [] [] rfl (zay (zae [14] rfl) ?_)
    exact zbi (zax rfl)
   ·
    intro vf pf hmu hR
    have e3 := hR 3 (by decide)
    have e4 := hR 4 (by decide)
    refine Or.inl ⟨rfl, ?_⟩
    show RunM _ _ _ (pf 11) (([3, 4] : List Nat).flatMap pf ++ _) (envOf _ vf [3, 4] ++ _) _ _
    rw [hmu]
    exact zbx (sk 57 (congrArg some e3.1) (sk 58 (congrArg some e4.1) (zab _))) (by simp only [e3.2, e4.2, fS] <;> rfl) (zcn (R := (fun u_ p_ => (∃ x_ : Int, u_ = .int .i64 x_ ∧ 0 ≤ x_ ∧ x_ < 2 * (((1 + (1 + xhR4)) + xhR8) + (i : Int))) ∧ p_ = curE g a len cap)) rfl rfl (fun L w hX hm => zbv g a len cap z (2 * (((1 + (1 + xhR4)) + xhR8) + (i : Int))) _ _ _ hm hb (by constructor <;> omega)))
   ·
    intro vf pf hmu hR
    have e2 := hR 2 (by decide)
    have e5 : (∃ pm_, (pf 5) = [pm_] ∧ (fun u_ p_ => (∃ x_ : Int, u_ = .int .i64 x_ ∧ 0 ≤ x_ ∧ x_ < 2 * (((1 + (1 + xhR4)) + xhR8) + (i : Int))) ∧ p_ = curE g a len cap) (vf 5) pm_) := hR 5 (by decide)
    obtain ⟨p18, pE5, hR19⟩ := e5
    obtain ⟨v17, vE5⟩ : ∃ x, vf 5 = x := ⟨_, rfl⟩
    rw [vE5] at hR19
    obtain ⟨⟨xhR19, rfl, xhR190, xhR191⟩, rfl⟩ := hR19
    refine dqQ [2, 5] [2, 5] rfl (zbg (sk 56 (congrArg some e2.1) (sk 59 (congrArg some vE5) (zab _))) (by simp only [pE5, vE5, e2.2, fS] <;> rfl) ?_)
    exact zbo (zbi (zct (cs := #[.int .i64 (((2 * (((1 + (1 + xhR4)) + xhR8) + (i : Int))) - 1) - xhR16), .int .i64 xhR19]) rfl rfl rfl)) (fun _ _ h => ⟨h.1.trans (by show _ = (.agg #[.int .i64 (((2 * (((1 + (1 + xhR4)) + xhR8) + (i : Int))) - 1) - xhR16), .int .i64 (intOf_o (vf 5))] : Value); first | (rw [vE5]; done) | (rw [vE5]; rfl)), h.2⟩)
   intro vf pf hmu hR
   have e5 : (∃ pm_, (pf 5) = [pm_] ∧ (fun u_ p_ => (∃ x_ : Int, u_ = .int .i64 x_ ∧ 0 ≤ x_ ∧ x_ < 2 * (((1 + (1 + xhR4)) + xhR8) + (i : Int))) ∧ p_ = curE g a len cap) (vf 5) pm_) := hR 5 (by decide)
   obtain ⟨p18, pE5, hR19⟩ := e5
   obtain ⟨v17, vE5⟩ : ∃ x, vf 5 = x := ⟨_, rfl⟩
   rw [vE5] at hR19
   obtain ⟨⟨xhR19, rfl, xhR190, xhR191⟩, rfl⟩ := hR19
   have e6 : (vf 6) = .agg #[.int .i64 (((2 * (((1 + (1 + xhR4)) + xhR8) + (i : Int))) - 1) - xhR16), .int .i64 (intOf_o (vf 5))] ∧ (pf 6) = [] := hR 6 (by decide)
   rw [vE5] at e6
   refine dqQ [5, 6] [5, 6] rfl (zbg (sk 60 (congrArg some e6.1) (zab _)) (by simp only [pE5, vE5, e6.2, fS] <;> rfl) ?_)
   exact zbo (zas (z := .agg #[.int .i64 0, .int .i64 0]) (s := 2) (cs := ([((2 * (((1 + (1 + xhR4)) + xhR8) + (i : Int))) - 1) - xhR16, xhR19].map (Value.int .i64))) rfl Try.underlying68 rfl (by decide) rfl (by kernel_rfl) rfl) (fun v_ p_ h => by show IsRow 141 2 1 ([((2 * (((1 + (1 + xhR4)) + xhR8) + (i : Int))) - 1) - xhR16, (intOf_o (vf 5))].map (Value.int .i64)) v_ p_; rw [vE5]; exact h)
  intro vf pf hmu hR
  have e1 := hR 1 (by decide)
  have e5 : (∃ pm_, (pf 5) = [pm_] ∧ (fun u_ p_ => (∃ x_ : Int, u_ = .int .i64 x_ ∧ 0 ≤ x_ ∧ x_ < 2 * (((1 + (1 + xhR4)) + xhR8) + (i : Int))) ∧ p_ = curE g a len cap) (vf 5) pm_) := hR 5 (by decide)
  obtain ⟨p18, pE5, hR19⟩ := e5
  obtain ⟨v17, vE5⟩ : ∃ x, vf 5 = x := ⟨_, rfl⟩
  rw [vE5] at hR19
  obtain ⟨⟨xhR19, rfl, xhR190, xhR191⟩, rfl⟩ := hR19
  have e7 : IsRow 141 2 1 ([((2 * (((1 + (1 + xhR4)) + xhR8) + (i : Int))) - 1) - xhR16, (intOf_o (vf 5))].map (Value.int .i64)) (vf 7) (pf 7) := hR 7 (by decide)
  rw [vE5] at e7
  obtain ⟨g20, vE7, pE7⟩ := e7
  have q0 := hR 0 (by decide)
  have q1 := hR 1 (by decide)
  have q2 := hR 2 (by decide)
  have q3 := hR 3 (by decide)
  have q4 := hR 4 (by decide)
  have q6 := hR 6 (by decide)
  refine zcd (zbs [39, 15, 14, 13, 12, 11, 10, 9, 8, 3, 2, 1, 0] _ (sk 55 (congrArg some e1.1) (sk 61 (congrArg some vE7) (zab _))) rfl) (by simp only [pE5, vE5, pE7, vE7, q0.2, q1.2, q2.2, q3.2, q4.2, q6.2, fS] <;> rfl) ?_
  simp only [List.drop_succ_cons, List.drop_zero]
  refine zdc (i := 4) (z := .agg #[.int .i64 0, .int .i64 0]) (bytes := 16) rfl rfl rfl rfl Try.underlying68 (by kernel_rfl) rfl rfl rfl rfl (zao 1 rfl) (zcj _) (by first | omega | (simp only [List.length_append, List.length_cons, List.length_nil]; omega)) (zco gs [(An.mk (((2 * (((1 + (1 + xhR4)) + xhR8) + (i : Int))) - 1) - xhR16) xhR19)]) (zei anC gs (An.mk (((2 * (((1 + (1 + xhR4)) + xhR8) + (i : Int))) - 1) - xhR16) xhR19) _ rfl) (fun _ => rfl) ?_
  intro v21
  refine hvQ rfl (fdQ 2 rfl rfl rfl) (zcr (i := 4) rfl (fun ho22 => ?_))
  refine zgs (i := 6) (cs' := #[.int .i64 (1 + xhR4), .slice none 0 0, v21, .slice none 0 0]) rfl rfl rfl rfl rfl rfl ho22 rfl rfl rfl rfl (zbu (zdn (reQ 1 rfl (hvQ rfl (vaQ rfl rfl rfl) (enQ 1 rfl ?_)))))
  refine zaz 8 [0, 7, 6, 5, 4, 3, 2] rfl rfl (by decide) ?_
  exact zdz (i + 1) v21 (gs ++ [(An.mk (((2 * (((1 + (1 + xhR4)) + xhR8) + (i : Int))) - 1) - xhR16) xhR19)]) ⟨by omega, by simp; omega, ans_app hgo (by unfold LtOk; omega) (by unfold LtOk; omega)⟩ (by omega) (saQ rfl) (.refl _)
 refine ntQ (zal rfl ?_)
 refine zby (zes ?_)
 refine zat (zaw (zac (reQ 2 rfl (hvQ rfl (vaQ rfl rfl rfl) (hvQ rfl (zfs rfl rfl rfl (by constructor <;> omega)) (zbc 1 rfl (zac (zac (reQ 1 rfl ?_)))))))))
 refine ntQ (zbf ?_)
 refine lkQ3 (α := Nat) (β := Value) (γ := List Sq) [0, 1, 2, 3, 8, 9, 10, 11, 12, 16, 39] rfl (fun i uq ss => (bigE (ss.map sqPart) :: rS9 143 3 uq ss sqC :: rS9 141 2 u gs anC :: rowE 3 1 (.slice none 0 0) 0 ([]) :: boxE b5 #[.int .i64 (1 + xhR4), uq, u, .slice none 0 0] 70 :: eB9 b1 :: curE g a len cap :: l)) (fun i uq ss => [(17, .int .i64 (i : Int))]) (fun i uq ss => (i : Int) ≤ xhR8 ∧ ss.length = i ∧ SqsOk (((1 + (1 + xhR4)) + xhR8) + xhR11) ss) (fun i uq ss => (xhR8).toNat - i) 0 _ [] ⟨by omega, rfl, fun k hk => absurd hk (by simp)⟩ (saQ rfl) (.refl _) ?_
 intro i uq ss hi23
 obtain ⟨hi2, hsl, hso⟩ := hi23
 refine zac (zac (reQ 2 rfl ?_))
 refine zcb rfl rfl rfl rfl rfl rfl (fun h24 => ?_) (fun h24 => ?_)
 ·
  refine ntQ (zaj rfl (zdb (sbQ (zac (reQ 1 rfl ?_)))))
  refine zch (R := (fun u_ p_ => (∃ b : Bool, u_ = .bool b) ∧ p_ = curE g a len cap)) 6 rfl rfl rfl rfl rfl (fun l' w hm => zgl hm hb (6) (by omega) (by omega)) ?_
  intro v25 p26 hR27
  obtain ⟨⟨xhR27, rfl⟩, rfl⟩ := hR27
  refine zck (l' := (bigE (ss.map sqPart) :: rS9 143 3 uq ss sqC :: rS9 141 2 u gs anC :: rowE 3 1 (.slice none 0 0) 0 ([]) :: boxE b5 #[.int .i64 (1 + xhR4), uq, u, .slice none 0 0] 70 :: eB9 b1 :: curE g a len cap :: l)) rfl ?_
  refine zbz (fun h28 => ?_) (fun h28 => ?_)
  ·
   refine ntQ (zaj rfl ?_)
   refine zdo 7 [5, 4, 3, 2, 1, 0, 6] rfl rfl (by decide) ?_
   refine zdi (l := (bigE (ss.map sqPart) :: rS9 143 3 uq ss sqC :: rS9 141 2 u gs anC :: rowE 3 1 (.slice none 0 0) 0 ([]) :: boxE b5 #[.int .i64 (1 + xhR4), uq, u, .slice none 0 0] 70 :: eB9 b1 :: l)) rfl 19 [0, 1, 2, 3, 4, 5, 6, 7, 8, 9, 10, 11, 12, 13, 14, 15, 16, 17, 18] (List.take 19 _) (List.drop 19 _) [[], [0], [], [2], [], [], [3, 4, 5], [], [], [6, 7, 8], [], [], [9, 10, 11], [], [], [12, 13, 14], [6, 9, 12, 15], [3, 6, 9, 12, 15, 16], [3, 6, 9, 12, 15, 16, 17]] [75, 76, 77, 78, 79, 80, 81, 82, 83, 84, 85, 86, 87, 88, 89, 90, 91, 92, 93] (fun i_ vs_ v_ p_ => match i_ with | 0 => v_ = .pointer (some ⟨b5, 0 + 1, none⟩) ∧ p_ = [] | 1 => v_ = uq ∧ p_ = [] | 2 => v_ = .pointer (some ⟨g, 0, none⟩) ∧ p_ = [] | 3 => (∃ pm_, p_ = [pm_] ∧ (fun u_ p_ => (∃ x_ : Int, u_ = .int .i64 x_ ∧ 0 ≤ x_ ∧ x_ < 32) ∧ p_ = curE g a len cap) v_ pm_) | 4 => v_ = .pointer (some ⟨g, 0, none⟩) ∧ p_ = [] | 5 => v_ = .int .i64 (2 * (((1 + (1 + xhR4)) + xhR8) + xhR11)) ∧ p_ = [] | 6 => (∃ pm_, p_ = [pm_] ∧ (fun u_ p_ => (∃ x_ : Int, u_ = .int .i64 x_ ∧ 0 ≤ x_ ∧ x_ < 2 * (((1 + (1 + xhR4)) + xhR8) + xhR11)) ∧ p_ = curE g a len cap) v_ pm_) | 7 => v_ = .pointer (some ⟨g, 0, none⟩) ∧ p_ = [] | 8 => v_ = .int .i64 (2 * (((1 + (1 + xhR4)) + xhR8) + xhR11)) ∧ p_ = [] | 9 => (∃ pm_, p_ = [pm_] ∧ (fun u_ p_ => (∃ x_ : Int, u_ = .int .i64 x_ ∧ 0 ≤ x_ ∧ x_ < 2 * (((1 + (1 + xhR4)) + xhR8) + xhR11)) ∧ p_ = curE g a len cap) v_ pm_) | 10 => v_ = .pointer (some ⟨g, 0, none⟩) ∧ p_ = [] | 11 => v_ = .int .i64 (2 * (((1 + (1 + xhR4)) + xhR8) + xhR11)) ∧ p_ = [] | 12 => (∃ pm_, p_ = [pm_] ∧ (fun u_ p_ => (∃ x_ : Int, u_ = .int .i64 x_ ∧ 0 ≤ x_ ∧ x_ < 2 * (((1 + (1 + xhR4)) + xhR8) + xhR11)) ∧ p_ = curE g a len cap) v_ pm_) | 13 => v_ = .pointer (some ⟨g, 0, none⟩) ∧ p_ = [] | 14 => v_ = .int .i64 (2 * (((1 + (1 + xhR4)) + xhR8) + xhR11)) ∧ p_ = [] | 15 => (∃ pm_, p_ = [pm_] ∧ (fun u_ p_ => (∃ x_ : Int, u_ = .int .i64 x_ ∧ 0 ≤ x_ ∧ x_ < 2 * (((1 + (1 + xhR4)) + xhR8) + xhR11)) ∧ p_ = curE g a len cap) v_ pm_) | 16 => IsRow 3 1 4 ([(intOf_o (gV9 vs_ 0)), (intOf_o (gV9 vs_ 1)), (intOf_o (gV9 vs_ 2)), (intOf_o (gV9 vs_ 3))].map (Value.int .i64)) v_ p_ | 17 => v_ = .agg #[.int .i64 1, .int .i64 (intOf_o (gV9 vs_ 0)), (gV9 vs_ 5)] ∧ p_ = [] | 18 => IsRow 143 3 1 ([.int .i64 1, .int .i64 (intOf_o (gV9 vs_ 0)), (gV9 vs_ 5)]) v_ p_ | _ => True) [[], [0], [], [2], [], [], [4, 5], [], [], [7, 8], [], [], [10, 11], [], [], [13, 14], [15], [15, 16], [15, 16, 17]] [none, none, none, some 22, none, none, some 3, none, none, some 6, none, none, some 9, none, none, some 12, none, none, none] [curE g a len cap] [0, 1, 2, 4, 5, 7, 8, 10, 11, 13, 14, 15, 16, 17, 18] 22 (List.take_append_drop 19 _).symm (by kernel_rfl) (by kernel_rfl) (by kernel_rfl) rfl rfl ?_ ?_
   ·
    refine ⟨?_, ?_, ?_, ?_, ?_, ?_, ?_, ?_, ?_, ?_, ?_, ?_, ?_, ?_, ?_, ?_, ?_, ?_, ?_, trivial⟩
    ·
     intro vf pf hmu hR
     refine dqQ [] [] rfl (zay (zae [9] rfl) ?_)
     exact zbi (fdQ 1 rfl rfl rfl)
    ·
     intro vf pf hmu hR
     have e0 := hR 0 (by decide)
     refine dqQ [0] [0] rfl (zaq (sk 75 (congrArg some e0.1) (zab _)) (List.sublist_append_right _ _) ?_)
     exact zbi (zan rfl rfl rfl (zai 4 rfl rfl))
    ·
     intro vf pf hmu hR
     refine dqQ [] [] rfl (zay (zae [0] rfl) ?_)
     exact zbi (zax rfl)
    ·
     intro vf pf hmu hR
     have e2 := hR 2 (by decide)
     refine Or.inl ⟨rfl, ?_⟩
     show RunM _ _ _ (pf 22) (([2] : List Nat).flatMap pf ++ _) (envOf _ vf [2] ++ _) _ _
     rw [hmu]
     exact zbx (sk 77 (congrArg some e2.1) (zab _)) (by simp only [e2.2, fS] <;> rfl) (zcn (R := (fun u_ p_ => (∃ x_ : Int, u_ = .int .i64 x_ ∧ 0 ≤ x_ ∧ x_ < 32) ∧ p_ = curE g a len cap)) rfl rfl (fun L w hX hm => zbv g a len cap z 32 _ _ _ hm hb (by constructor <;> omega)))
    ·
     intro vf pf hmu hR
     refine dqQ [] [] rfl (zay (zae [0] rfl) ?_)
     exact zbi (zax rfl)
    ·
     intro vf pf hmu hR
     refine dqQ [] [] rfl (zay (zae [16] rfl) ?_)
     exact zbi (zax rfl)
    ·
     intro vf pf hmu hR
     have e3 : (∃ pm_, (pf 3) = [pm_] ∧ (fun u_ p_ => (∃ x_ : Int, u_ = .int .i64 x_ ∧ 0 ≤ x_ ∧ x_ < 32) ∧ p_ = curE g a len cap) (vf 3) pm_) := hR 3 (by decide)
     obtain ⟨p30, pE3, hR31⟩ := e3
     obtain ⟨v29, vE3⟩ : ∃ x, vf 3 = x := ⟨_, rfl⟩
     rw [vE3] at hR31
     obtain ⟨⟨xhR31, rfl, xhR310, xhR311⟩, rfl⟩ := hR31
     have e4 := hR 4 (by decide)
     have e5 := hR 5 (by decide)
     refine Or.inl ⟨rfl, ?_⟩
     show RunM _ _ _ (pf 3) (([4, 5] : List Nat).flatMap pf ++ _) (envOf _ vf [3, 4, 5] ++ _) _ _
     rw [pE3]
     exact zbx (sk 79 (congrArg some e4.1) (sk 80 (congrArg some e5.1) (zab _))) (by simp only [e4.2, e5.2, fS] <;> rfl) (zcn (R := (fun u_ p_ => (∃ x_ : Int, u_ = .int .i64 x_ ∧ 0 ≤ x_ ∧ x_ < 2 * (((1 + (1 + xhR4)) + xhR8) + xhR11)) ∧ p_ = curE g a len cap)) rfl rfl (fun L w hX hm => zbv g a len cap z (2 * (((1 + (1 + xhR4)) + xhR8) + xhR11)) _ _ _ hm hb (by constructor <;> omega)))
    ·
     intro vf pf hmu hR
     refine dqQ [] [] rfl (zay (zae [0] rfl) ?_)
     exact zbi (zax rfl)
    ·
     intro vf pf hmu hR
     refine dqQ [] [] rfl (zay (zae [16] rfl) ?_)
     exact zbi (zax rfl)
    ·
     intro vf pf hmu hR
     have e6 : (∃ pm_, (pf 6) = [pm_] ∧ (fun u_ p_ => (∃ x_ : Int, u_ = .int .i64 x_ ∧ 0 ≤ x_ ∧ x_ < 2 * (((1 + (1 + xhR4)) + xhR8) + xhR11)) ∧ p_ = curE g a len cap) (vf 6) pm_) := hR 6 (by decide)
     obtain ⟨p33, pE6, hR34⟩ := e6
     obtain ⟨v32, vE6⟩ : ∃ x, vf 6 = x := ⟨_, rfl⟩
     rw [vE6] at hR34
     obtain ⟨⟨xhR34, rfl, xhR340, xhR341⟩, rfl⟩ := hR34
     have e7 := hR 7 (by decide)
     have e8 := hR 8 (by decide)
     refine Or.inl ⟨rfl, ?_⟩
     show RunM _ _ _ (pf 6) (([7, 8] : List Nat).flatMap pf ++ _) (envOf _ vf [6, 7, 8] ++ _) _ _
     rw [pE6]
     exact zbx (sk 82 (congrArg some e7.1) (sk 83 (congrArg some e8.1) (zab _))) (by simp only [e7.2, e8.2, fS] <;> rfl) (zcn (R := (fun u_ p_ => (∃ x_ : Int, u_ = .int .i64 x_ ∧ 0 ≤ x_ ∧ x_ < 2 * (((1 + (1 + xhR4)) + xhR8) + xhR11)) ∧ p_ = curE g a len cap)) rfl rfl (fun L w hX hm => zbv g a len cap z (2 * (((1 + (1 + xhR4)) + xhR8) + xhR11)) _ _ _ hm hb (by constructor <;> omega)))
    ·
     intro vf pf hmu hR
     refine dqQ [] [] rfl (zay (zae [0] rfl) ?_)
     exact zbi (zax rfl)
    ·
     intro vf pf hmu hR
     refine dqQ [] [] rfl (zay (zae [16] rfl) ?_)
     exact zbi (zax rfl)
    ·
     intro vf pf hmu hR
     have e9 : (∃ pm_, (pf 9) = [pm_] ∧ (fun u_ p_ => (∃ x_ : Int, u_ = .int .i64 x_ ∧ 0 ≤ x_ ∧ x_ < 2 * (((1 + (1 + xhR4)) + xhR8) + xhR11)) ∧ p_ = curE g a len cap) (vf 9) pm_) := hR 9 (by decide)
     obtain ⟨p36, pE9, hR37⟩ := e9
     obtain ⟨v35, vE9⟩ : ∃ x, vf 9 = x := ⟨_, rfl⟩
     rw [vE9] at hR37
     obtain ⟨⟨xhR37, rfl, xhR370, xhR371⟩, rfl⟩ := hR37
     have e10 := hR 10 (by decide)
     have e11 := hR 11 (by decide)
     refine Or.inl ⟨rfl, ?_⟩
     show RunM _ _ _ (pf 9) (([10, 11] : List Nat).flatMap pf ++ _) (envOf _ vf [9, 10, 11] ++ _) _ _
     rw [pE9]
     exact zbx (sk 85 (congrArg some e10.1) (sk 86 (congrArg some e11.1) (zab _))) (by simp only [e10.2, e11.2, fS] <;> rfl) (zcn (R := (fun u_ p_ => (∃ x_ : Int, u_ = .int .i64 x_ ∧ 0 ≤ x_ ∧ x_ < 2 * (((1 + (1 + xhR4)) + xhR8) + xhR11)) ∧ p_ = curE g a len cap)) rfl rfl (fun L w hX hm => zbv g a len cap z (2 * (((1 + (1 + xhR4)) + xhR8) + xhR11)) _ _ _ hm hb (by constructor <;> omega)))
    ·
     intro vf pf hmu hR
     refine dqQ [] [] rfl (zay (zae [0] rfl) ?_)
     exact zbi (zax rfl)
    ·
     intro vf pf hmu hR
     refine dqQ [] [] rfl (zay (zae [16] rfl) ?_)
     exact zbi (zax rfl)
    ·
     intro vf pf hmu hR
     have e12 : (∃ pm_, (pf 12) = [pm_] ∧ (fun u_ p_ => (∃ x_ : Int, u_ = .int .i64 x_ ∧ 0 ≤ x_ ∧ x_ < 2 * (((1 + (1 + xhR4)) + xhR8) + xhR11)) ∧ p_ = curE g a len cap) (vf 12) pm_) := hR 12 (by decide)
     obtain ⟨p39, pE12, hR40⟩ := e12
     obtain ⟨v38, vE12⟩ : ∃ x, vf 12 = x := ⟨_, rfl⟩
     rw [vE12] at hR40
     obtain ⟨⟨xhR40, rfl, xhR400, xhR401⟩, rfl⟩ := hR40
     have e13 := hR 13 (by decide)
     have e14 := hR 14 (by decide)
     refine Or.inl ⟨rfl, ?_⟩
     show RunM _ _ _ (pf 12) (([13, 14] : List Nat).flatMap pf ++ _) (envOf _ vf [12, 13, 14] ++ _) _ _
     rw [pE12]
     exact zbx (sk 88 (congrArg some e13.1) (sk 89 (congrArg some e14.1) (zab _))) (by simp only [e13.2, e14.2, fS] <;> rfl) (zcn (R := (fun u_ p_ => (∃ x_ : Int, u_ = .int .i64 x_ ∧ 0 ≤ x_ ∧ x_ < 2 * (((1 + (1 + xhR4)) + xhR8) + xhR11)) ∧ p_ = curE g a len cap)) rfl rfl (fun L w hX hm => zbv g a len cap z (2 * (((1 + (1 + xhR4)) + xhR8) + xhR11)) _ _ _ hm hb (by constructor <;> omega)))
    ·
     intro vf pf hmu hR
     have e6 : (∃ pm_, (pf 6) = [pm_] ∧ (fun u_ p_ => (∃ x_ : Int, u_ = .int .i64 x_ ∧ 0 ≤ x_ ∧ x_ < 2 * (((1 + (1 + xhR4)) + xhR8) + xhR11)) ∧ p_ = curE g a len cap) (vf 6) pm_) := hR 6 (by decide)
     obtain ⟨p33, pE6, hR34⟩ := e6
     obtain ⟨v32, vE6⟩ : ∃ x, vf 6 = x := ⟨_, rfl⟩
     rw [vE6] at hR34
     obtain ⟨⟨xhR34, rfl, xhR340, xhR341⟩, rfl⟩ := hR34
     have e9 : (∃ pm_, (pf 9) = [pm_] ∧ (fun u_ p_ => (∃ x_ : Int, u_ = .int .i64 x_ ∧ 0 ≤ x_ ∧ x_ < 2 * (((1 + (1 + xhR4)) + xhR8) + xhR11)) ∧ p_ = curE g a len cap) (vf 9) pm_) := hR 9 (by decide)
     obtain ⟨p36, pE9, hR37⟩ := e9
     obtain ⟨v35, vE9⟩ : ∃ x, vf 9 = x := ⟨_, rfl⟩
     rw [vE9] at hR37
     obtain ⟨⟨xhR37, rfl, xhR370, xhR371⟩, rfl⟩ := hR37
     have e12 : (∃ pm_, (pf 12) = [pm_] ∧ (fun u_ p_ => (∃ x_ : Int, u_ = .int .i64 x_ ∧ 0 ≤ x_ ∧ x_ < 2 * (((1 + (1 + xhR4)) + xhR8) + xhR11)) ∧ p_ = curE g a len cap) (vf 12) pm_) := hR 12 (by decide)
     obtain ⟨p39, pE12, hR40⟩ := e12
     obtain ⟨v38, vE12⟩ : ∃ x, vf 12 = x := ⟨_, rfl⟩
     rw [vE12] at hR40
     obtain ⟨⟨xhR40, rfl, xhR400, xhR401⟩, rfl⟩ := hR40
     have e15 : (∃ pm_, (pf 15) = [pm_] ∧ (fun u_ p_ => (∃ x_ : Int, u_ = .int .i64 x_ ∧ 0 ≤ x_ ∧ x_ < 2 * (((1 + (1 + xhR4)) + xhR8) + xhR11)) ∧ p_ = curE g a len cap) (vf 15) pm_) := hR 15 (by decide)
     obtain ⟨p42, pE15, hR43⟩ := e15
     obtain ⟨v41, vE15⟩ : ∃ x, vf 15 = x := ⟨_, rfl⟩
     rw [vE15] at hR43
     obtain ⟨⟨xhR43, rfl, xhR430, xhR431⟩, rfl⟩ := hR43
     refine dqQ [15] [6, 9, 12, 15] rfl (zbg (sk 81 (congrArg some vE6) (sk 84 (congrArg some vE9) (sk 87 (congrArg some vE12) (sk 90 (congrArg some vE15) (zab _))))) (by simp only [pE15, vE15, fS] <;> rfl) ?_)
     exact zbo (zas (z := .int .i64 0) (s := 1) (cs := ([xhR34, xhR37, xhR40, xhR43].map (Value.int .i64))) rfl Try.underlying48 rfl (by decide) rfl (by kernel_rfl) rfl) (fun v_ p_ h => by show IsRow 3 1 4 ([(intOf_o (vf 6)), (intOf_o (vf 9)), (intOf_o (vf 12)), (intOf_o (vf 15))].map (Value.int .i64)) v_ p_; rw [vE6, vE9, vE12, vE15]; exact h)
    ·
     intro vf pf hmu hR
     have e3 : (∃ pm_, (pf 3) = [pm_] ∧ (fun u_ p_ => (∃ x_ : Int, u_ = .int .i64 x_ ∧ 0 ≤ x_ ∧ x_ < 32) ∧ p_ = curE g a len cap) (vf 3) pm_) := hR 3 (by decide)
     obtain ⟨p30, pE3, hR31⟩ := e3
     obtain ⟨v29, vE3⟩ : ∃ x, vf 3 = x := ⟨_, rfl⟩
     rw [vE3] at hR31
     obtain ⟨⟨xhR31, rfl, xhR310, xhR311⟩, rfl⟩ := hR31
     have e6 : (∃ pm_, (pf 6) = [pm_] ∧ (fun u_ p_ => (∃ x_ : Int, u_ = .int .i64 x_ ∧ 0 ≤ x_ ∧ x_ < 2 * (((1 + (1 + xhR4)) + xhR8) + xhR11)) ∧ p_ = curE g a len cap) (vf 6) pm_) := hR 6 (by decide)
     obtain ⟨p33, pE6, hR34⟩ := e6
     obtain ⟨v32, vE6⟩ : ∃ x, vf 6 = x := ⟨_, rfl⟩
     rw [vE6] at hR34
     obtain ⟨⟨xhR34, rfl, xhR340, xhR341⟩, rfl⟩ := hR34
     have e9 : (∃ pm_, (pf 9) = [pm_] ∧ (fun u_ p_ => (∃ x_ : Int, u_ = .int .i64 x_ ∧ 0 ≤ x_ ∧ x_ < 2 * (((1 + (1 + xhR4)) + xhR8) + xhR11)) ∧ p_ = curE g a len cap) (vf 9) pm_) := hR 9 (by decide)
     obtain ⟨p36, pE9, hR37⟩ := e9
     obtain ⟨v35, vE9⟩ : ∃ x, vf 9 = x := ⟨_, rfl⟩
     rw [vE9] at hR37
     obtain ⟨⟨xhR37, rfl, xhR370, xhR371⟩, rfl⟩ := hR37
     have e12 : (∃ pm_, (pf 12) = [pm_] ∧ (fun u_ p_ => (∃ x_ : Int, u_ = .int .i64 x_ ∧ 0 ≤ x_ ∧ x_ < 2 * (((1 + (1 + xhR4)) + xhR8) + xhR11)) ∧ p_ = curE g a len cap) (vf 12) pm_) := hR 12 (by decide)
     obtain ⟨p39, pE12, hR40⟩ := e12
     obtain ⟨v38, vE12⟩ : ∃ x, vf 12 = x := ⟨_, rfl⟩
     rw [vE12] at hR40
     obtain ⟨⟨xhR40, rfl, xhR400, xhR401⟩, rfl⟩ := hR40
     have e15 : (∃ pm_, (pf 15) = [pm_] ∧ (fun u_ p_ => (∃ x_ : Int, u_ = .int .i64 x_ ∧ 0 ≤ x_ ∧ x_ < 2 * (((1 + (1 + xhR4)) + xhR8) + xhR11)) ∧ p_ = curE g a len cap) (vf 15) pm_) := hR 15 (by decide)
     obtain ⟨p42, pE15, hR43⟩ := e15
     obtain ⟨v41, vE15⟩ : ∃ x, vf 15 = x := ⟨_, rfl⟩
     rw [vE15] at hR43
     obtain ⟨⟨xhR43, rfl, xhR430, xhR431⟩, rfl⟩ := hR43
     have e16 : IsRow 3 1 4 ([(intOf_o (vf 6)), (intOf_o (vf 9)), (intOf_o (vf 12)), (intOf_o (vf 15))].map (Value.int .i64)) (vf 16) (pf 16) := hR 16 (by decide)
     rw [vE6, vE9, vE12, vE15] at e16
     obtain ⟨g44, vE16, pE16⟩ := e16
     refine dqQ [15, 16] [3, 6, 9, 12, 15, 16] rfl (zbg (sk 78 (congrArg some vE3) (sk 91 (congrArg some vE16) (zab _))) (by simp only [pE15, vE15, pE16, vE16, fS] <;> rfl) ?_)
     exact zbo (zbi (zct (cs := #[.int .i64 1, .int .i64 xhR31, .slice (some ⟨g44, 0, none⟩) 4 4]) rfl rfl rfl)) (fun _ _ h => ⟨h.1.trans (by show _ = (.agg #[.int .i64 1, .int .i64 (intOf_o (vf 3)), (vf 16)] : Value); first | (rw [vE3, vE16]; done) | (rw [vE3, vE16]; rfl)), h.2⟩)
    intro vf pf hmu hR
    have e3 : (∃ pm_, (pf 3) = [pm_] ∧ (fun u_ p_ => (∃ x_ : Int, u_ = .int .i64 x_ ∧ 0 ≤ x_ ∧ x_ < 32) ∧ p_ = curE g a len cap) (vf 3) pm_) := hR 3 (by decide)
    obtain ⟨p30, pE3, hR31⟩ := e3
    obtain ⟨v29, vE3⟩ : ∃ x, vf 3 = x := ⟨_, rfl⟩
    rw [vE3] at hR31
    obtain ⟨⟨xhR31, rfl, xhR310, xhR311⟩, rfl⟩ := hR31
    have e6 : (∃ pm_, (pf 6) = [pm_] ∧ (fun u_ p_ => (∃ x_ : Int, u_ = .int .i64 x_ ∧ 0 ≤ x_ ∧ x_ < 2 * (((1 + (1 + xhR4)) + xhR8) + xhR11)) ∧ p_ = curE g a len cap) (vf 6) pm_) := hR 6 (by decide)
    obtain ⟨p33, pE6, hR34⟩ := e6
    obtain ⟨v32, vE6⟩ : ∃ x, vf 6 = x := ⟨_, rfl⟩
    rw [vE6] at hR34
    obtain ⟨⟨xhR34, rfl, xhR340, xhR341⟩, rfl⟩ := hR34
    have e9 : (∃ pm_, (pf 9) = [pm_] ∧ (fun u_ p_ => (∃ x_ : Int, u_ = .int .i64 x_ ∧ 0 ≤ x_ ∧ x_ < 2 * (((1 + (1 + xhR4)) + xhR8) + xhR11)) ∧ p_ = curE g a len cap) (vf 9) pm_) := hR 9 (by decide)
    obtain ⟨p36, pE9, hR37⟩ := e9
    obtain ⟨v35, vE9⟩ : ∃ x, vf 9 = x := ⟨_, rfl⟩
    rw [vE9] at hR37
    obtain ⟨⟨xhR37, rfl, xhR370, xhR371⟩, rfl⟩ := hR37
    have e12 : (∃ pm_, (pf 12) = [pm_] ∧ (fun u_ p_ => (∃ x_ : Int, u_ = .int .i64 x_ ∧ 0 ≤ x_ ∧ x_ < 2 * (((1 + (1 + xhR4)) + xhR8) + xhR11)) ∧ p_ = curE g a len cap) (vf 12) pm_) := hR 12 (by decide)
    obtain ⟨p39, pE12, hR40⟩ := e12
    obtain ⟨v38, vE12⟩ : ∃ x, vf 12 = x := ⟨_, rfl⟩
    rw [vE12] at hR40
    obtain ⟨⟨xhR40, rfl, xhR400, xhR401⟩, rfl⟩ := hR40
    have e15 : (∃ pm_, (pf 15) = [pm_] ∧ (fun u_ p_ => (∃ x_ : Int, u_ = .int .i64 x_ ∧ 0 ≤ x_ ∧ x_ < 2 * (((1 + (1 + xhR4)) + xhR8) + xhR11)) ∧ p_ = curE g a len cap) (vf 15) pm_) := hR 15 (by decide)
    obtain ⟨p42, pE15, hR43⟩ := e15
    obtain ⟨v41, vE15⟩ : ∃ x, vf 15 = x := ⟨_, rfl⟩
    rw [vE15] at hR43
    obtain ⟨⟨xhR43, rfl, xhR430, xhR431⟩, rfl⟩ := hR43
    have e16 : IsRow 3 1 4 ([(intOf_o (vf 6)), (intOf_o (vf 9)), (intOf_o (vf 12)), (intOf_o (vf 15))].map (Value.int .i64)) (vf 16) (pf 16) := hR 16 (by decide)
    rw [vE6, vE9, vE12, vE15] at e16
    obtain ⟨g44, vE16, pE16⟩ := e16
    have e17 : (vf 17) = .agg #[.int .i64 1, .int .i64 (intOf_o (vf 3)), (vf 16)] ∧ (pf 17) = [] := hR 17 (by decide)
    rw [vE3, vE16] at e17
    refine dqQ [15, 16, 17] [3, 6, 9, 12, 15, 16, 17] rfl (zbg (sk 92 (congrArg some e17.1) (zab _)) (by simp only [pE15, vE15, pE16, vE16, e17.2, fS] <;> rfl) ?_)
    exact zbo (zas (z := .agg #[.int .i64 0, .int .i64 0, .slice none 0 0]) (s := 3) (cs := [.int .i64 1, .int .i64 xhR31, .slice (some ⟨g44, 0, none⟩) 4 4]) rfl Try.underlying67 rfl (by decide) rfl (by kernel_rfl) rfl) (fun v_ p_ h => by show IsRow 143 3 1 ([.int .i64 1, .int .i64 (intOf_o (vf 3)), (vf 16)]) v_ p_; rw [vE3, vE16]; exact h)
   intro vf pf hmu hR
   have e1 := hR 1 (by decide)
   have e3 : (∃ pm_, (pf 3) = [pm_] ∧ (fun u_ p_ => (∃ x_ : Int, u_ = .int .i64 x_ ∧ 0 ≤ x_ ∧ x_ < 32) ∧ p_ = curE g a len cap) (vf 3) pm_) := hR 3 (by decide)
   obtain ⟨p30, pE3, hR31⟩ := e3
   obtain ⟨v29, vE3⟩ : ∃ x, vf 3 = x := ⟨_, rfl⟩
   rw [vE3] at hR31
   obtain ⟨⟨xhR31, rfl, xhR310, xhR311⟩, rfl⟩ := hR31
   have e6 : (∃ pm_, (pf 6) = [pm_] ∧ (fun u_ p_ => (∃ x_ : Int, u_ = .int .i64 x_ ∧ 0 ≤ x_ ∧ x_ < 2 * (((1 + (1 + xhR4)) + xhR8) + xhR11)) ∧ p_ = curE g a len cap) (vf 6) pm_) := hR 6 (by decide)
   obtain ⟨p33, pE6, hR34⟩ := e6
   obtain ⟨v32, vE6⟩ : ∃ x, vf 6 = x := ⟨_, rfl⟩
   rw [vE6] at hR34
   obtain ⟨⟨xhR34, rfl, xhR340, xhR341⟩, rfl⟩ := hR34
   have e9 : (∃ pm_, (pf 9) = [pm_] ∧ (fun u_ p_ => (∃ x_ : Int, u_ = .int .i64 x_ ∧ 0 ≤ x_ ∧ x_ < 2 * (((1 + (1 + xhR4)) + xhR8) + xhR11)) ∧ p_ = curE g a len cap) (vf 9) pm_) := hR 9 (by decide)
   obtain ⟨p36, pE9, hR37⟩ := e9
   obtain ⟨v35, vE9⟩ : ∃ x, vf 9 = x := ⟨_, rfl⟩
   rw [vE9] at hR37
   obtain ⟨⟨xhR37, rfl, xhR370, xhR371⟩, rfl⟩ := hR37
   have e12 : (∃ pm_, (pf 12) = [pm_] ∧ (fun u_ p_ => (∃ x_ : Int, u_ = .int .i64 x_ ∧ 0 ≤ x_ ∧ x_ < 2 * (((1 + (1 + xhR4)) + xhR8) + xhR11)) ∧ p_ = curE g a len cap) (vf 12) pm_) := hR 12 (by decide)
   obtain ⟨p39, pE12, hR40⟩ := e12
   obtain ⟨v38, vE12⟩ : ∃ x, vf 12 = x := ⟨_, rfl⟩
   rw [vE12] at hR40
   obtain ⟨⟨xhR40, rfl, xhR400, xhR401⟩, rfl⟩ := hR40
   have e15 : (∃ pm_, (pf 15) = [pm_] ∧ (fun u_ p_ => (∃ x_ : Int, u_ = .int .i64 x_ ∧ 0 ≤ x_ ∧ x_ < 2 * (((1 + (1 + xhR4)) + xhR8) + xhR11)) ∧ p_ = curE g a len cap) (vf 15) pm_) := hR 15 (by decide)
   obtain ⟨p42, pE15, hR43⟩ := e15
   obtain ⟨v41, vE15⟩ : ∃ x, vf 15 = x := ⟨_, rfl⟩
   rw [vE15] at hR43
   obtain ⟨⟨xhR43, rfl, xhR430, xhR431⟩, rfl⟩ := hR43
   have e16 : IsRow 3 1 4 ([(intOf_o (vf 6)), (intOf_o (vf 9)), (intOf_o (vf 12)), (intOf_o (vf 15))].map (Value.int .i64)) (vf 16) (pf 16) := hR 16 (by decide)
   rw [vE6, vE9, vE12, vE15] at e16
   obtain ⟨g44, vE16, pE16⟩ := e16
   have e18 : IsRow 143 3 1 ([.int .i64 1, .int .i64 (intOf_o (vf 3)), (vf 16)]) (vf 18) (pf 18) := hR 18 (by decide)
   rw [vE3, vE16] at e18
   obtain ⟨g45, vE18, pE18⟩ := e18
   have q0 := hR 0 (by decide)
   have q1 := hR 1 (by decide)
   have q2 := hR 2 (by decide)
   have q4 := hR 4 (by decide)
   have q5 := hR 5 (by decide)
   have q7 := hR 7 (by decide)
   have q8 := hR 8 (by decide)
   have q10 := hR 10 (by decide)
   have q11 := hR 11 (by decide)
   have q13 := hR 13 (by decide)
   have q14 := hR 14 (by decide)
   have q17 := hR 17 (by decide)
   refine zcd (zbs [74, 70, 39, 17, 16, 12, 11, 10, 9, 8, 3, 2, 1, 0] _ (sk 76 (congrArg some e1.1) (sk 93 (congrArg some vE18) (zab _))) rfl) (by simp only [pE15, vE15, pE16, vE16, pE18, vE18, q0.2, q1.2, q2.2, q4.2, q5.2, q7.2, q8.2, q10.2, q11.2, q13.2, q14.2, q17.2, fS] <;> rfl) ?_
   simp only [List.drop_succ_cons, List.drop_zero]
   refine zdc (i := 4) (z := .agg #[.int .i64 0, .int .i64 0, .slice none 0 0]) (bytes := 40) rfl rfl rfl rfl Try.underlying67 (by kernel_rfl) rfl rfl rfl rfl (zao 2 rfl) (by simp [Value.oneCell']) (by first | omega | (simp only [List.length_append, List.length_cons, List.length_nil]; omega)) (zco ss [(Sq.mk 1 xhR31 (.slice (some ⟨g44, 0, none⟩) 4 4) ([xhR34, xhR37, xhR40, xhR43]))]) (zei sqC ss (Sq.mk 1 xhR31 (.slice (some ⟨g44, 0, none⟩) 4 4) ([xhR34, xhR37, xhR40, xhR43])) _ rfl) (fun _ => rfl) ?_
   intro v46
   refine hvQ rfl (fdQ 1 rfl rfl rfl) (zcr (i := 4) rfl (fun ho47 => ?_))
   refine zgs (i := 7) (cs' := #[.int .i64 (1 + xhR4), v46, u, .slice none 0 0]) rfl rfl rfl rfl rfl rfl ho47 rfl rfl rfl rfl (zbu (zdn (reQ 1 rfl (hvQ rfl (vaQ rfl rfl rfl) (enQ 1 rfl ?_)))))
   refine zaz 9 [8, 7, 6, 5, 4, 2, 0, 1, 3] rfl rfl (by decide) ?_
   refine zcu (bigE ((ss ++ [(Sq.mk 1 xhR31 (.slice (some ⟨g44, 0, none⟩) 4 4) ([xhR34, xhR37, xhR40, xhR43]))]).map sqPart) :: curE g a len cap :: rowE 143 3 (.slice (some ⟨g45, 0, none⟩) 1 1) 1 ([.int .i64 1, .int .i64 xhR31, .slice (some ⟨g44, 0, none⟩) 4 4]) :: rowE 143 3 v46 ((ss ++ [(Sq.mk 1 xhR31 (.slice (some ⟨g44, 0, none⟩) 4 4) ([xhR34, xhR37, xhR40, xhR43]))]).length) ((ss ++ [(Sq.mk 1 xhR31 (.slice (some ⟨g44, 0, none⟩) 4 4) ([xhR34, xhR37, xhR40, xhR43]))]).flatMap sqC) :: rS9 141 2 u gs anC :: rowE 3 1 (.slice none 0 0) 0 ([]) :: boxE b5 #[.int .i64 (1 + xhR4), v46, u, .slice none 0 0] 70 :: eB9 b1 :: l) (fun w hm => by rw [List.map_append]; exact conv_snocX w hm) ?_
   refine zaz 8 [1, 7, 6, 5, 4, 3, 0] rfl rfl (by decide) ?_
   exact zdz (i + 1) v46 (ss ++ [(Sq.mk 1 xhR31 (.slice (some ⟨g44, 0, none⟩) 4 4) ([xhR34, xhR37, xhR40, xhR43]))]) ⟨by omega, by simp; omega, sqs_app hso ⟨.inr ⟨rfl, by dsimp only; omega, rfl⟩⟩ (fun x hx => by simp only [List.mem_cons, List.not_mem_nil, or_false] at hx; unfold LtOk; omega)⟩ (by omega) (saQ rfl) (.refl _)
  refine ntQ (zal rfl ?_)
  refine zdo 7 [5, 4, 3, 2, 1, 0, 6] rfl rfl (by decide) ?_
  refine zdi (l := (bigE (ss.map sqPart) :: rS9 143 3 uq ss sqC :: rS9 141 2 u gs anC :: rowE 3 1 (.slice none 0 0) 0 ([]) :: boxE b5 #[.int .i64 (1 + xhR4), uq, u, .slice none 0 0] 70 :: eB9 b1 :: l)) rfl 14 [0, 1, 2, 3, 4, 5, 6, 7, 8, 9, 10, 11, 12, 13] (List.take 14 _) (List.drop 14 _) [[], [0], [], [2], [], [4], [], [], [7], [3, 6, 8], [5, 9], [9, 10], [3, 9, 11], [3, 9, 11, 12]] [96, 97, 98, 99, 100, 101, 102, 103, 104, 105, 106, 107, 108, 109] (fun i_ vs_ v_ p_ => match i_ with | 0 => v_ = .pointer (some ⟨b5, 0 + 1, none⟩) ∧ p_ = [] | 1 => v_ = uq ∧ p_ = [] | 2 => v_ = .pointer (some ⟨g, 0, none⟩) ∧ p_ = [] | 3 => (∃ pm_, p_ = [pm_] ∧ (fun u_ p_ => (∃ x_ : Int, u_ = .int .i64 x_ ∧ 0 ≤ x_ ∧ x_ < 2) ∧ p_ = curE g a len cap) v_ pm_) | 4 => v_ = .int .i64 (2 * (((1 + (1 + xhR4)) + xhR8) + xhR11)) ∧ p_ = [] | 5 => v_ = .int .i64 ((2 * (((1 + (1 + xhR4)) + xhR8) + xhR11)) - 1) ∧ p_ = [] | 6 => v_ = .pointer (some ⟨g, 0, none⟩) ∧ p_ = [] | 7 => v_ = .int .i64 (2 * (((1 + (1 + xhR4)) + xhR8) + xhR11)) ∧ p_ = [] | 8 => v_ = .int .i64 (min (2 * (((1 + (1 + xhR4)) + xhR8) + xhR11)) 12) ∧ p_ = [] | 9 => (∃ pm_, p_ = [pm_] ∧ (fun u_ p_ => (∃ x_ : Int, u_ = .int .i64 x_ ∧ 0 ≤ x_ ∧ x_ < min (2 * (((1 + (1 + xhR4)) + xhR8) + xhR11)) 12) ∧ p_ = curE g a len cap) v_ pm_) | 10 => v_ = .int .i64 (((2 * (((1 + (1 + xhR4)) + xhR8) + xhR11)) - 1) - (intOf_o (gV9 vs_ 1))) ∧ p_ = [] | 11 => IsRow 3 1 1 ([((2 * (((1 + (1 + xhR4)) + xhR8) + xhR11)) - 1) - (intOf_o (gV9 vs_ 0))].map (Value.int .i64)) v_ p_ | 12 => v_ = .agg #[.int .i64 0, .int .i64 (intOf_o (gV9 vs_ 0)), (gV9 vs_ 2)] ∧ p_ = [] | 13 => IsRow 143 3 1 ([.int .i64 0, .int .i64 (intOf_o (gV9 vs_ 0)), (gV9 vs_ 2)]) v_ p_ | _ => True) [[], [0], [], [2], [], [4], [], [], [7], [6, 8], [5, 9], [9, 10], [9, 11], [9, 11, 12]] [none, none, none, some 17, none, none, none, none, none, some 3, none, none, none, none] [curE g a len cap] [0, 1, 2, 4, 5, 6, 7, 8, 9, 10, 11, 12, 13] 17 (List.take_append_drop 14 _).symm (by kernel_rfl) (by kernel_rfl) (by kernel_rfl) rfl rfl ?_ ?_
  ·
   refine ⟨?_, ?_, ?_, ?_, ?_, ?_, ?_, ?_, ?_, ?_, ?_, ?_, ?_, ?_, trivial⟩
   ·
    intro vf pf hmu hR
    refine dqQ [] [] rfl (zay (zae [9] rfl) ?_)
    exact zbi (fdQ 1 rfl rfl rfl)
   ·
    intro vf pf hmu hR
    have e0 := hR 0 (by decide)
    refine dqQ [0] [0] rfl (zaq (sk 96 (congrArg some e0.1) (zab _)) (List.sublist_append_right _ _) ?_)
    exact zbi (zan rfl rfl rfl (zai 4 rfl rfl))
   ·
    intro vf pf hmu hR
    refine dqQ [] [] rfl (zay (zae [0] rfl) ?_)
    exact zbi (zax rfl)
   ·
    intro vf pf hmu hR
    have e2 := hR 2 (by decide)
    refine Or.inl ⟨rfl, ?_⟩
    show RunM _ _ _ (pf 17) (([2] : List Nat).flatMap pf ++ _) (envOf _ vf [2] ++ _) _ _
    rw [hmu]
    exact zbx (sk 98 (congrArg some e2.1) (zab _)) (by simp only [e2.2, fS] <;> rfl) (zcn (R := (fun u_ p_ => (∃ x_ : Int, u_ = .int .i64 x_ ∧ 0 ≤ x_ ∧ x_ < 2) ∧ p_ = curE g a len cap)) rfl rfl (fun L w hX hm => zbv g a len cap z 2 _ _ _ hm hb (by constructor <;> omega)))
   ·
    intro vf pf hmu hR
    refine dqQ [] [] rfl (zay (zae [16] rfl) ?_)
    exact zbi (zax rfl)
   ·
    intro vf pf hmu hR
    have e4 := hR 4 (by decide)
    refine dqQ [4] [4] rfl (zay (sk 100 (congrArg some e4.1) (zab _)) ?_)
    exact zbi (vsQ rfl rfl rfl)
   ·
    intro vf pf hmu hR
    refine dqQ [] [] rfl (zay (zae [0] rfl) ?_)
    exact zbi (zax rfl)
   ·
    intro vf pf hmu hR
    refine dqQ [] [] rfl (zay (zae [16] rfl) ?_)
    exact zbi (zax rfl)
   ·
    intro vf pf hmu hR
    have e7 := hR 7 (by decide)
    refine dqQ [7] [7] rfl (zay (sk 103 (congrArg some e7.1) (zab _)) ?_)
    exact zbi (rv_min rfl rfl rfl)
   ·
    intro vf pf hmu hR
    have e3 : (∃ pm_, (pf 3) = [pm_] ∧ (fun u_ p_ => (∃ x_ : Int, u_ = .int .i64 x_ ∧ 0 ≤ x_ ∧ x_ < 2) ∧ p_ = curE g a len cap) (vf 3) pm_) := hR 3 (by decide)
    obtain ⟨p49, pE3, hR50⟩ := e3
    obtain ⟨v48, vE3⟩ : ∃ x, vf 3 = x := ⟨_, rfl⟩
    rw [vE3] at hR50
    obtain ⟨⟨xhR50, rfl, xhR500, xhR501⟩, rfl⟩ := hR50
    have e6 := hR 6 (by decide)
    have e8 := hR 8 (by decide)
    refine Or.inl ⟨rfl, ?_⟩
    show RunM _ _ _ (pf 3) (([6, 8] : List Nat).flatMap pf ++ _) (envOf _ vf [3, 6, 8] ++ _) _ _
    rw [pE3]
    exact zbx (sk 102 (congrArg some e6.1) (sk 104 (congrArg some e8.1) (zab _))) (by simp only [e6.2, e8.2, fS] <;> rfl) (zcn (R := (fun u_ p_ => (∃ x_ : Int, u_ = .int .i64 x_ ∧ 0 ≤ x_ ∧ x_ < min (2 * (((1 + (1 + xhR4)) + xhR8) + xhR11)) 12) ∧ p_ = curE g a len cap)) rfl rfl (fun L w hX hm => zbv g a len cap z (min (2 * (((1 + (1 + xhR4)) + xhR8) + xhR11)) 12) _ _ _ hm hb (by constructor <;> omega)))
   ·
    intro vf pf hmu hR
    have e5 := hR 5 (by decide)
    have e9 : (∃ pm_, (pf 9) = [pm_] ∧ (fun u_ p_ => (∃ x_ : Int, u_ = .int .i64 x_ ∧ 0 ≤ x_ ∧ x_ < min (2 * (((1 + (1 + xhR4)) + xhR8) + xhR11)) 12) ∧ p_ = curE g a len cap) (vf 9) pm_) := hR 9 (by decide)
    obtain ⟨p52, pE9, hR53⟩ := e9
    obtain ⟨v51, vE9⟩ : ∃ x, vf 9 = x := ⟨_, rfl⟩
    rw [vE9] at hR53
    obtain ⟨⟨xhR53, rfl, xhR530, xhR531⟩, rfl⟩ := hR53
    refine dqQ [5, 9] [5, 9] rfl (zbg (sk 101 (congrArg some e5.1) (sk 105 (congrArg some vE9) (zab _))) (by simp only [pE9, vE9, e5.2, fS] <;> rfl) ?_)
    exact zbo (zbi (vsQ rfl rfl rfl)) (fun _ _ h => ⟨h.1.trans (by show _ = (.int .i64 (((2 * (((1 + (1 + xhR4)) + xhR8) + xhR11)) - 1) - (intOf_o (vf 9))) : Value); first | (rw [vE9]; done) | (rw [vE9]; rfl)), h.2⟩)
   ·
    intro vf pf hmu hR
    have e9 : (∃ pm_, (pf 9) = [pm_] ∧ (fun u_ p_ => (∃ x_ : Int, u_ = .int .i64 x_ ∧ 0 ≤ x_ ∧ x_ < min (2 * (((1 + (1 + xhR4)) + xhR8) + xhR11)) 12) ∧ p_ = curE g a len cap) (vf 9) pm_) := hR 9 (by decide)
    obtain ⟨p52, pE9, hR53⟩ := e9
    obtain ⟨v51, vE9⟩ : ∃ x, vf 9 = x := ⟨_, rfl⟩
    rw [vE9] at hR53
    obtain ⟨⟨xhR53, rfl, xhR530, xhR531⟩, rfl⟩ := hR53
    have e10 : (vf 10) = .int .i64 (((2 * (((1 + (1 + xhR4)) + xhR8) + xhR11)) - 1) - (intOf_o (vf 9))) ∧ (pf 10) = [] := hR 10 (by decide)
    rw [vE9] at e10
    refine dqQ [9, 10] [9, 10] rfl (zbg (sk 106 (congrArg some e10.1) (zab _)) (by simp only [pE9, vE9, e10.2, fS] <;> rfl) ?_)
    exact zbo (zas (z := .int .i64 0) (s := 1) (cs := ([((2 * (((1 + (1 + xhR4)) + xhR8) + xhR11)) - 1) - xhR53].map (Value.int .i64))) rfl Try.underlying48 rfl (by decide) rfl (by kernel_rfl) rfl) (fun v_ p_ h => by show IsRow 3 1 1 ([((2 * (((1 + (1 + xhR4)) + xhR8) + xhR11)) - 1) - (intOf_o (vf 9))].map (Value.int .i64)) v_ p_; rw [vE9]; exact h)
   ·
    intro vf pf hmu hR
    have e3 : (∃ pm_, (pf 3) = [pm_] ∧ (fun u_ p_ => (∃ x_ : Int, u_ = .int .i64 x_ ∧ 0 ≤ x_ ∧ x_ < 2) ∧ p_ = curE g a len cap) (vf 3) pm_) := hR 3 (by decide)
    obtain ⟨p49, pE3, hR50⟩ := e3
    obtain ⟨v48, vE3⟩ : ∃ x, vf 3 = x := ⟨_, rfl⟩
    rw [vE3] at hR50
    obtain ⟨⟨xhR50, rfl, xhR500, xhR501⟩, rfl⟩ := hR50
    have e9 : (∃ pm_, (pf 9) = [pm_] ∧ (fun u_ p_ => (∃ x_ : Int, u_ = .int .i64 x_ ∧ 0 ≤ x_ ∧ x_ < min (2 * (((1 + (1 + xhR4)) + xhR8) + xhR11)) 12) ∧ p_ = curE g a len cap) (vf 9) pm_) := hR 9 (by decide)
    obtain ⟨p52, pE9, hR53⟩ := e9
    obtain ⟨v51, vE9⟩ : ∃ x, vf 9 = x := ⟨_, rfl⟩
    rw [vE9] at hR53
    obtain ⟨⟨xhR53, rfl, xhR530, xhR531⟩, rfl⟩ := hR53
    have e11 : IsRow 3 1 1 ([((2 * (((1 + (1 + xhR4)) + xhR8) + xhR11)) - 1) - (intOf_o (vf 9))].map (Value.int .i64)) (vf 11) (pf 11) := hR 11 (by decide)
    rw [vE9] at e11
    obtain ⟨g54, vE11, pE11⟩ := e11
    refine dqQ [9, 11] [3, 9, 11] rfl (zbg (sk 99 (congrArg some vE3) (sk 107 (congrArg some vE11) (zab _))) (by simp only [pE9, vE9, pE11, vE11, fS] <;> rfl) ?_)
    exact zbo (zbi (zct (cs := #[.int .i64 0, .int .i64 xhR50, .slice (some ⟨g54, 0, none⟩) 1 1]) rfl rfl rfl)) (fun _ _ h => ⟨h.1.trans (by show _ = (.agg #[.int .i64 0, .int .i64 (intOf_o (vf 3)), (vf 11)] : Value); first | (rw [vE3, vE11]; done) | (rw [vE3, vE11]; rfl)), h.2⟩)
   intro vf pf hmu hR
   have e3 : (∃ pm_, (pf 3) = [pm_] ∧ (fun u_ p_ => (∃ x_ : Int, u_ = .int .i64 x_ ∧ 0 ≤ x_ ∧ x_ < 2) ∧ p_ = curE g a len cap) (vf 3) pm_) := hR 3 (by decide)
   obtain ⟨p49, pE3, hR50⟩ := e3
   obtain ⟨v48, vE3⟩ : ∃ x, vf 3 = x := ⟨_, rfl⟩
   rw [vE3] at hR50
   obtain ⟨⟨xhR50, rfl, xhR500, xhR501⟩, rfl⟩ := hR50
   have e9 : (∃ pm_, (pf 9) = [pm_] ∧ (fun u_ p_ => (∃ x_ : Int, u_ = .int .i64 x_ ∧ 0 ≤ x_ ∧ x_ < min (2 * (((1 + (1 + xhR4)) + xhR8) + xhR11)) 12) ∧ p_ = curE g a len cap) (vf 9) pm_) := hR 9 (by decide)
   obtain ⟨p52, pE9, hR53⟩ := e9
   obtain ⟨v51, vE9⟩ : ∃ x, vf 9 = x := ⟨_, rfl⟩
   rw [vE9] at hR53
   obtain ⟨⟨xhR53, rfl, xhR530, xhR531⟩, rfl⟩ := hR53
   have e11 : IsRow 3 1 1 ([((2 * (((1 + (1 + xhR4)) + xhR8) + xhR11)) - 1) - (intOf_o (vf 9))].map (Value.int .i64)) (vf 11) (pf 11) := hR 11 (by decide)
   rw [vE9] at e11
   obtain ⟨g54, vE11, pE11⟩ := e11
   have e12 : (vf 12) = .agg #[.int .i64 0, .int .i64 (intOf_o (vf 3)), (vf 11)] ∧ (pf 12) = [] := hR 12 (by decide)
   rw [vE3, vE11] at e12
   refine dqQ [9, 11, 12] [3, 9, 11, 12] rfl (zbg (sk 108 (congrArg some e12.1) (zab _)) (by simp only [pE9, vE9, pE11, vE11, e12.2, fS] <;> rfl) ?_)
   exact zbo (zas (z := .agg #[.int .i64 0, .int .i64 0, .slice none 0 0]) (s := 3) (cs := [.int .i64 0, .int .i64 xhR50, .slice (some ⟨g54, 0, none⟩) 1 1]) rfl Try.underlying67 rfl (by decide) rfl (by kernel_rfl) rfl) (fun v_ p_ h => by show IsRow 143 3 1 ([.int .i64 0, .int .i64 (intOf_o (vf 3)), (vf 11)]) v_ p_; rw [vE3, vE11]; exact h)
  intro vf pf hmu hR
  have e1 := hR 1 (by decide)
  have e3 : (∃ pm_, (pf 3) = [pm_] ∧ (fun u_ p_ => (∃ x_ : Int, u_ = .int .i64 x_ ∧ 0 ≤ x_ ∧ x_ < 2) ∧ p_ = curE g a len cap) (vf 3) pm_) := hR 3 (by decide)
  obtain ⟨p49, pE3, hR50⟩ := e3
  obtain ⟨v48, vE3⟩ : ∃ x, vf 3 = x := ⟨_, rfl⟩
  rw [vE3] at hR50
  obtain ⟨⟨xhR50, rfl, xhR500, xhR501⟩, rfl⟩ := hR50
  have e9 : (∃ pm_, (pf 9) = [pm_] ∧ (fun u_ p_ => (∃ x_ : Int, u_ = .int .i64 x_ ∧ 0 ≤ x_ ∧ x_ < min (2 * (((1 + (1 + xhR4)) + xhR8) + xhR11)) 12) ∧ p_ = curE g a len cap) (vf 9) pm_) := hR 9 (by decide)
  obtain ⟨p52, pE9, hR53⟩ := e9
  obtain ⟨v51, vE9⟩ : ∃ x, vf 9 = x := ⟨_, rfl⟩
  rw [vE9] at hR53
  obtain ⟨⟨xhR53, rfl, xhR530, xhR531⟩, rfl⟩ := hR53
  have e11 : IsRow 3 1 1 ([((2 * (((1 + (1 + xhR4)) + xhR8) + xhR11)) - 1) - (intOf_o (vf 9))].map (Value.int .i64)) (vf 11) (pf 11) := hR 11 (by decide)
  rw [vE9] at e11
  obtain ⟨g54, vE11, pE11⟩ := e11
  have e13 : IsRow 143 3 1 ([.int .i64 0, .int .i64 (intOf_o (vf 3)), (vf 11)]) (vf 13) (pf 13) := hR 13 (by decide)
  rw [vE3, vE11] at e13
  obtain ⟨g55, vE13, pE13⟩ := e13
  have q0 := hR 0 (by decide)
  have q1 := hR 1 (by decide)
  have q2 := hR 2 (by decide)
  have q4 := hR 4 (by decide)
  have q5 := hR 5 (by decide)
  have q6 := hR 6 (by decide)
  have q7 := hR 7 (by decide)
  have q8 := hR 8 (by decide)
  have q10 := hR 10 (by decide)
  have q12 := hR 12 (by decide)
  refine zcd (zbs [74, 70, 39, 17, 16, 12, 11, 10, 9, 8, 3, 2, 1, 0] _ (sk 97 (congrArg some e1.1) (sk 109 (congrArg some vE13) (zab _))) rfl) (by simp only [pE9, vE9, pE11, vE11, pE13, vE13, q0.2, q1.2, q2.2, q4.2, q5.2, q6.2, q7.2, q8.2, q10.2, q12.2, fS] <;> rfl) ?_
  simp only [List.drop_succ_cons, List.drop_zero]
  refine zdc (i := 4) (z := .agg #[.int .i64 0, .int .i64 0, .slice none 0 0]) (bytes := 40) rfl rfl rfl rfl Try.underlying67 (by kernel_rfl) rfl rfl rfl rfl (zao 2 rfl) (by simp [Value.oneCell']) (by first | omega | (simp only [List.length_append, List.length_cons, List.length_nil]; omega)) (zco ss [(Sq.mk 0 xhR50 (.slice (some ⟨g54, 0, none⟩) 1 1) ([((2 * (((1 + (1 + xhR4)) + xhR8) + xhR11)) - 1) - xhR53]))]) (zei sqC ss (Sq.mk 0 xhR50 (.slice (some ⟨g54, 0, none⟩) 1 1) ([((2 * (((1 + (1 + xhR4)) + xhR8) + xhR11)) - 1) - xhR53])) _ rfl) (fun _ => rfl) ?_
  intro v56
  refine hvQ rfl (fdQ 1 rfl rfl rfl) (zcr (i := 4) rfl (fun ho57 => ?_))
  refine zgs (i := 7) (cs' := #[.int .i64 (1 + xhR4), v56, u, .slice none 0 0]) rfl rfl rfl rfl rfl rfl ho57 rfl rfl rfl rfl (zbu (zdn (reQ 1 rfl (hvQ rfl (vaQ rfl rfl rfl) (enQ 1 rfl ?_)))))
  refine zaz 9 [8, 7, 6, 5, 4, 2, 0, 1, 3] rfl rfl (by decide) ?_
  refine zcu (bigE ((ss ++ [(Sq.mk 0 xhR50 (.slice (some ⟨g54, 0, none⟩) 1 1) ([((2 * (((1 + (1 + xhR4)) + xhR8) + xhR11)) - 1) - xhR53]))]).map sqPart) :: curE g a len cap :: rowE 143 3 (.slice (some ⟨g55, 0, none⟩) 1 1) 1 ([.int .i64 0, .int .i64 xhR50, .slice (some ⟨g54, 0, none⟩) 1 1]) :: rowE 143 3 v56 ((ss ++ [(Sq.mk 0 xhR50 (.slice (some ⟨g54, 0, none⟩) 1 1) ([((2 * (((1 + (1 + xhR4)) + xhR8) + xhR11)) - 1) - xhR53]))]).length) ((ss ++ [(Sq.mk 0 xhR50 (.slice (some ⟨g54, 0, none⟩) 1 1) ([((2 * (((1 + (1 + xhR4)) + xhR8) + xhR11)) - 1) - xhR53]))]).flatMap sqC) :: rS9 141 2 u gs anC :: rowE 3 1 (.slice none 0 0) 0 ([]) :: boxE b5 #[.int .i64 (1 + xhR4), v56, u, .slice none 0 0] 70 :: eB9 b1 :: l) (fun w hm => by rw [List.map_append]; exact conv_snocX w hm) ?_
  refine zaz 8 [1, 7, 6, 5, 4, 3, 0] rfl rfl (by decide) ?_
  exact zdz (i + 1) v56 (ss ++ [(Sq.mk 0 xhR50 (.slice (some ⟨g54, 0, none⟩) 1 1) ([((2 * (((1 + (1 + xhR4)) + xhR8) + xhR11)) - 1) - xhR53]))]) ⟨by omega, by simp; omega, sqs_app hso ⟨.inl ⟨rfl, by dsimp only; omega, rfl⟩⟩ (fun x hx => by simp only [List.mem_cons, List.not_mem_nil, or_false] at hx; unfold LtOk; omega)⟩ (by omega) (saQ rfl) (.refl _)
 refine ntQ (zal rfl ?_)
 refine zby (zes ?_)
 refine zat (zaw (zac (zac (reQ 1 rfl ?_))))
 refine zch (R := (fun u_ p_ => (∃ x_ : Int, u_ = .int .i64 x_ ∧ 0 ≤ x_ ∧ x_ < 4) ∧ p_ = curE g a len cap)) 6 rfl rfl rfl rfl rfl (fun l' w hm => zbv g a len cap z 4 _ _ _ hm hb (by constructor <;> omega)) ?_
 intro v58 p59 hR60
 obtain ⟨⟨xhR60, rfl, xhR600, xhR601⟩, rfl⟩ := hR60
 refine zck (l' := (bigE (ss.map sqPart) :: rS9 143 3 uq ss sqC :: rS9 141 2 u gs anC :: rowE 3 1 (.slice none 0 0) 0 ([]) :: boxE b5 #[.int .i64 (1 + xhR4), uq, u, .slice none 0 0] 70 :: eB9 b1 :: curE g a len cap :: l)) rfl ?_
 refine zbc 1 rfl (zbf ?_)
 refine lkQ3 (α := Int) (β := Value) (γ := List Int) [0, 1, 2, 3, 8, 9, 10, 11, 12, 16, 39, 70] rfl (fun k uo os => (bigE (ss.map sqPart) :: rS9 143 3 uq ss sqC :: rS9 141 2 u gs anC :: rI9 3 uo os :: boxE b5 #[.int .i64 (1 + xhR4), uq, u, uo] 70 :: eB9 b1 :: curE g a len cap :: l)) (fun k uo os => [(18, .int .i64 k)]) (fun k uo os => (-1 ≤ k ∧ k ≤ 3) ∧ (os.length : Int) + k ≤ 3 ∧ OsOk (((1 + (1 + xhR4)) + xhR8) + xhR11) os) (fun k uo os => (k + 1).toNat) _ _ [] ⟨by omega, by simp; omega, fun x hx => absurd hx (by simp)⟩ (saQ rfl) (.refl _) ?_
 intro k uo os hi61
 obtain ⟨hk0, hol, hoo⟩ := hi61
 refine zac (zac (reQ 1 rfl ?_))
 refine zfw rfl rfl rfl rfl rfl rfl (fun h62 => ?_) (fun h62 => ?_)
 ·
  refine ntQ (zaj rfl (zdb (sbQ ?_)))
  refine zdo 7 [5, 4, 3, 2, 1, 0, 6] rfl rfl (by decide) ?_
  refine zdi (l := (bigE (ss.map sqPart) :: rS9 143 3 uq ss sqC :: rS9 141 2 u gs anC :: rI9 3 uo os :: boxE b5 #[.int .i64 (1 + xhR4), uq, u, uo] 70 :: eB9 b1 :: l)) rfl 10 [0, 1, 2, 3, 4, 5, 6, 7, 8, 9] (List.take 10 _) (List.drop 10 _) [[], [0], [], [2], [], [], [5], [4, 6], [3, 7], [7, 8]] [118, 119, 120, 121, 122, 123, 124, 125, 126, 127] (fun i_ vs_ v_ p_ => match i_ with | 0 => v_ = .pointer (some ⟨b5, 0 + 3, none⟩) ∧ p_ = [] | 1 => v_ = uo ∧ p_ = [] | 2 => v_ = .int .i64 (2 * (((1 + (1 + xhR4)) + xhR8) + xhR11)) ∧ p_ = [] | 3 => v_ = .int .i64 ((2 * (((1 + (1 + xhR4)) + xhR8) + xhR11)) - 1) ∧ p_ = [] | 4 => v_ = .pointer (some ⟨g, 0, none⟩) ∧ p_ = [] | 5 => v_ = .int .i64 (2 * (((1 + (1 + xhR4)) + xhR8) + xhR11)) ∧ p_ = [] | 6 => v_ = .int .i64 (min (2 * (((1 + (1 + xhR4)) + xhR8) + xhR11)) 12) ∧ p_ = [] | 7 => (∃ pm_, p_ = [pm_] ∧ (fun u_ p_ => (∃ x_ : Int, u_ = .int .i64 x_ ∧ 0 ≤ x_ ∧ x_ < min (2 * (((1 + (1 + xhR4)) + xhR8) + xhR11)) 12) ∧ p_ = curE g a len cap) v_ pm_) | 8 => v_ = .int .i64 (((2 * (((1 + (1 + xhR4)) + xhR8) + xhR11)) - 1) - (intOf_o (gV9 vs_ 1))) ∧ p_ = [] | 9 => IsRow 3 1 1 ([((2 * (((1 + (1 + xhR4)) + xhR8) + xhR11)) - 1) - (intOf_o (gV9 vs_ 0))].map (Value.int .i64)) v_ p_ | _ => True) [[], [0], [], [2], [], [], [5], [4, 6], [3, 7], [7, 8]] [none, none, none, none, none, none, none, some 13, none, none] [curE g a len cap] [0, 1, 2, 3, 4, 5, 6, 7, 8, 9] 13 (List.take_append_drop 10 _).symm (by kernel_rfl) (by kernel_rfl) (by kernel_rfl) rfl rfl ?_ ?_
  ·
   refine ⟨?_, ?_, ?_, ?_, ?_, ?_, ?_, ?_, ?_, ?_, trivial⟩
   ·
    intro vf pf hmu hR
    refine dqQ [] [] rfl (zay (zae [9] rfl) ?_)
    exact zbi (fdQ 3 rfl rfl rfl)
   ·
    intro vf pf hmu hR
    have e0 := hR 0 (by decide)
    refine dqQ [0] [0] rfl (zaq (sk 118 (congrArg some e0.1) (zab _)) (List.sublist_append_right _ _) ?_)
    exact zbi (zan rfl rfl rfl (zai 4 rfl rfl))
   ·
    intro vf pf hmu hR
    refine dqQ [] [] rfl (zay (zae [16] rfl) ?_)
    exact zbi (zax rfl)
   ·
    intro vf pf hmu hR
    have e2 := hR 2 (by decide)
    refine dqQ [2] [2] rfl (zay (sk 120 (congrArg some e2.1) (zab _)) ?_)
    exact zbi (vsQ rfl rfl rfl)
   ·
    intro vf pf hmu hR
    refine dqQ [] [] rfl (zay (zae [0] rfl) ?_)
    exact zbi (zax rfl)
   ·
    intro vf pf hmu hR
    refine dqQ [] [] rfl (zay (zae [16] rfl) ?_)
    exact zbi (zax rfl)
   ·
    intro vf pf hmu hR
    have e5 := hR 5 (by decide)
    refine dqQ [5] [5] rfl (zay (sk 123 (congrArg some e5.1) (zab _)) ?_)
    exact zbi (rv_min rfl rfl rfl)
   ·
    intro vf pf hmu hR
    have e4 := hR 4 (by decide)
    have e6 := hR 6 (by decide)
    refine Or.inl ⟨rfl, ?_⟩
    show RunM _ _ _ (pf 13) (([4, 6] : List Nat).flatMap pf ++ _) (envOf _ vf [4, 6] ++ _) _ _
    rw [hmu]
    exact zbx (sk 122 (congrArg some e4.1) (sk 124 (congrArg some e6.1) (zab _))) (by simp only [e4.2, e6.2, fS] <;> rfl) (zcn (R := (fun u_ p_ => (∃ x_ : Int, u_ = .int .i64 x_ ∧ 0 ≤ x_ ∧ x_ < min (2 * (((1 + (1 + xhR4)) + xhR8) + xhR11)) 12) ∧ p_ = curE g a len cap)) rfl rfl (fun L w hX hm => zbv g a len cap z (min (2 * (((1 + (1 + xhR4)) + xhR8) + xhR11)) 12) _ _ _ hm hb (by constructor <;> omega)))
   ·
    intro vf pf hmu hR
    have e3 := hR 3 (by decide)
    have e7 : (∃ pm_, (pf 7) = [pm_] ∧ (fun u_ p_ => (∃ x_ : Int, u_ = .int .i64 x_ ∧ 0 ≤ x_ ∧ x_ < min (2 * (((1 + (1 + xhR4)) + xhR8) + xhR11)) 12) ∧ p_ = curE g a len cap) (vf 7) pm_) := hR 7 (by decide)
    obtain ⟨p64, pE7, hR65⟩ := e7
    obtain ⟨v63, vE7⟩ : ∃ x, vf 7 = x := ⟨_, rfl⟩
    rw [vE7] at hR65
    obtain ⟨⟨xhR65, rfl, xhR650, xhR651⟩, rfl⟩ := hR65
    refine dqQ [3, 7] [3, 7] rfl (zbg (sk 121 (congrArg some e3.1) (sk 125 (congrArg some vE7) (zab _))) (by simp only [pE7, vE7, e3.2, fS] <;> rfl) ?_)
    exact zbo (zbi (vsQ rfl rfl rfl)) (fun _ _ h => ⟨h.1.trans (by show _ = (.int .i64 (((2 * (((1 + (1 + xhR4)) + xhR8) + xhR11)) - 1) - (intOf_o (vf 7))) : Value); first | (rw [vE7]; done) | (rw [vE7]; rfl)), h.2⟩)
   intro vf pf hmu hR
   have e7 : (∃ pm_, (pf 7) = [pm_] ∧ (fun u_ p_ => (∃ x_ : Int, u_ = .int .i64 x_ ∧ 0 ≤ x_ ∧ x_ < min (2 * (((1 + (1 + xhR4)) + xhR8) + xhR11)) 12) ∧ p_ = curE g a len cap) (vf 7) pm_) := hR 7 (by decide)
   obtain ⟨p64, pE7, hR65⟩ := e7
   obtain ⟨v63, vE7⟩ : ∃ x, vf 7 = x := ⟨_, rfl⟩
   rw [vE7] at hR65
   obtain ⟨⟨xhR65, rfl, xhR650, xhR651⟩, rfl⟩ := hR65
   have e8 : (vf 8) = .int .i64 (((2 * (((1 + (1 + xhR4)) + xhR8) + xhR11)) - 1) - (intOf_o (vf 7))) ∧ (pf 8) = [] := hR 8 (by decide)
   rw [vE7] at e8
   refine dqQ [7, 8] [7, 8] rfl (zbg (sk 126 (congrArg some e8.1) (zab _)) (by simp only [pE7, vE7, e8.2, fS] <;> rfl) ?_)
   exact zbo (zas (z := .int .i64 0) (s := 1) (cs := ([((2 * (((1 + (1 + xhR4)) + xhR8) + xhR11)) - 1) - xhR65].map (Value.int .i64))) rfl Try.underlying48 rfl (by decide) rfl (by kernel_rfl) rfl) (fun v_ p_ h => by show IsRow 3 1 1 ([((2 * (((1 + (1 + xhR4)) + xhR8) + xhR11)) - 1) - (intOf_o (vf 7))].map (Value.int .i64)) v_ p_; rw [vE7]; exact h)
  intro vf pf hmu hR
  have e1 := hR 1 (by decide)
  have e7 : (∃ pm_, (pf 7) = [pm_] ∧ (fun u_ p_ => (∃ x_ : Int, u_ = .int .i64 x_ ∧ 0 ≤ x_ ∧ x_ < min (2 * (((1 + (1 + xhR4)) + xhR8) + xhR11)) 12) ∧ p_ = curE g a len cap) (vf 7) pm_) := hR 7 (by decide)
  obtain ⟨p64, pE7, hR65⟩ := e7
  obtain ⟨v63, vE7⟩ : ∃ x, vf 7 = x := ⟨_, rfl⟩
  rw [vE7] at hR65
  obtain ⟨⟨xhR65, rfl, xhR650, xhR651⟩, rfl⟩ := hR65
  have e9 : IsRow 3 1 1 ([((2 * (((1 + (1 + xhR4)) + xhR8) + xhR11)) - 1) - (intOf_o (vf 7))].map (Value.int .i64)) (vf 9) (pf 9) := hR 9 (by decide)
  rw [vE7] at e9
  obtain ⟨g66, vE9, pE9⟩ := e9
  have q0 := hR 0 (by decide)
  have q1 := hR 1 (by decide)
  have q2 := hR 2 (by decide)
  have q3 := hR 3 (by decide)
  have q4 := hR 4 (by decide)
  have q5 := hR 5 (by decide)
  have q6 := hR 6 (by decide)
  have q8 := hR 8 (by decide)
  refine zcd (zbs [115, 70, 39, 18, 16, 12, 11, 10, 9, 8, 3, 2, 1, 0] _ (sk 119 (congrArg some e1.1) (sk 127 (congrArg some vE9) (zab _))) rfl) (by simp only [pE7, vE7, pE9, vE9, q0.2, q1.2, q2.2, q3.2, q4.2, q5.2, q6.2, q8.2, fS] <;> rfl) ?_
  simp only [List.drop_succ_cons, List.drop_zero]
  refine zdc (i := 5) (z := .int .i64 0) (bytes := 8) rfl rfl rfl rfl Try.underlying48 (by kernel_rfl) rfl rfl rfl rfl (zao 1 rfl) (zcj _) (by first | omega | (simp; done) | (simp; omega)) (zco os ([((2 * (((1 + (1 + xhR4)) + xhR8) + xhR11)) - 1) - xhR65])) (zcx os ([((2 * (((1 + (1 + xhR4)) + xhR8) + xhR11)) - 1) - xhR65])) (fun _ => rfl) ?_
  intro v67
  refine hvQ rfl (fdQ 3 rfl rfl rfl) (zcr (i := 5) rfl (fun ho68 => ?_))
  refine zgs (i := 6) (cs' := #[.int .i64 (1 + xhR4), uq, u, v67]) rfl rfl rfl rfl rfl rfl ho68 rfl rfl rfl rfl (zbu (zdn (reQ 1 rfl (hvQ rfl (vsQ rfl rfl rfl) (enQ 1 rfl ?_)))))
  refine zaz 8 [0, 7, 6, 5, 4, 3, 2] rfl rfl (by decide) ?_
  exact zdz (k - 1) v67 (os ++ ([((2 * (((1 + (1 + xhR4)) + xhR8) + xhR11)) - 1) - xhR65])) ⟨by omega, by simp; omega, os_app hoo (by unfold LtOk; omega)⟩ (by omega) (saQ rfl) (.refl _)
 refine ntQ (zal rfl ?_)
 refine zby (zes ?_)
 refine zat (zaw (srQ (hvQ rfl (zar (cs := [.int .i64 (1 + xhR4), uq, u, uo]) rfl rfl rfl rfl rfl (zah 4 rfl 0 rfl)) ?_)))
 refine zcr (i := 3) rfl (fun ho69 => ?_)
 refine zcr (i := 2) rfl (fun ho70 => ?_)
 refine zcr (i := 1) rfl (fun ho71 => ?_)
 refine zbm (cs' := #[.int .i64 (1 + xhR4), uq, u, uo]) (i := 5) (off := 0) (us := [.int .i64 (1 + xhR4), uq, u, uo]) rfl rfl rfl rfl rfl rfl rfl (zaa rfl (zaa ho71 (zaa ho70 (zaa ho69 zbe)))) rfl rfl rfl (ntQ ?_)
 refine zak (hq_oneX (i := 1) rfl (fun oQ => ?_))
 refine hq_oneX (i := 2) rfl (fun oA => ?_)
 refine hq_oneX (i := 3) rfl (fun oO => ?_)
 refine zaz 7 [5, 6, 3, 2, 1, 0] rfl rfl (by decide) ?_
 refine zcu (bigE [curE g a len cap, ntE (Nt.mk (1 + xhR4) uq u uo ss gs os)] :: boxE b1 #[.int .i64 (1 + xhR4), uq, u, uo] 70 :: l) (fun w hm => by
     have h1 : Mem _ ([bigE (ss.map sqPart), rS9 143 3 uq ss sqC] ++ (rS9 141 2 u gs anC :: rI9 3 uo os :: curE g a len cap :: boxE b1 #[.int .i64 (1 + xhR4), uq, u, uo] 70 :: l)) w := hm
     have h2 : Mem _ ([sqsE uq ss, rS9 141 2 u gs anC, rI9 3 uo os] ++ (curE g a len cap :: boxE b1 #[.int .i64 (1 + xhR4), uq, u, uo] 70 :: l)) w := h1.big
     have h3 : Mem _ (ntE (Nt.mk (1 + xhR4) uq u uo ss gs os) :: curE g a len cap :: boxE b1 #[.int .i64 (1 + xhR4), uq, u, uo] 70 :: l) w := Mem.big h2
     exact Mem.big (ps := [curE g a len cap, ntE (Nt.mk (1 + xhR4) uq u uo ss gs os)]) (h3.perm (.swap _ _ _))) ?_
 exact zcf (rs := [.cell 8 70]) (vs := [.agg #[.int .i64 (1 + xhR4), uq, u, uo]]) rfl ⟨⟨b1, 0, [.int .i64 (1 + xhR4), uq, u, uo], rfl, rfl, by kernel_rfl, by kernel_rfl, zah 1 rfl 0 rfl⟩, trivial⟩ rfl (fun w hm => ⟨_, bigE [curE g a len cap, ntE (Nt.mk (1 + xhR4) uq u uo ss gs os)], rfl, ⟨Nt.mk (1 + xhR4) uq u uo ss gs os, rfl, rfl, ⟨oQ, oA, oO⟩, nt_mk (by omega) (by omega) (by omega) (by omega) (by omega) hso hgo hoo (by omega) (by omega), by dsimp only; omega, by dsimp only; omega, by dsimp only; omega⟩, hm.sub (.cons_cons _ (.cons _ (.refl _)))⟩)
open Go.RowKit
theorem and01 {a b : Int} (ha : a = 0 ∨ a = 1) (hb : b = 0 ∨ b = 1) : bits .and .i64 a b = a * b := by
  rcases ha with e | e <;> rcases hb with e' | e' <;> rw [e, e'] <;> decide
theorem xor01 {a l : Int} (ha : a = 0 ∨ a = 1) : bits .xor .i64 a (l % 2) = if l % 2 = 0 then a else 1 - a := by
  rcases (show l % 2 = 0 ∨ l % 2 = 1 by omega) with e | e <;> rcases ha with e' | e' <;> rw [e, e'] <;> decide
theorem andNot_small {v : Int} (h0 : 0 ≤ v) (h1 : v ≤ 31) : bits .andNot .i64 v 1 = v - v % 2 := by
  have key : ∀ m : Fin 32, bits .andNot .i64 ((m.val : Nat) : Int) 1 = ((m.val : Nat) : Int) - ((m.val : Nat) : Int) % 2 := by decide
  have := key ⟨v.toNat, by omega⟩
  rw [show (((⟨v.toNat, by omega⟩ : Fin 32).val : Nat) : Int) = v by show ((v.toNat : Nat) : Int) = v; omega] at this
  exact this
def fillZ (C : Nat) (vs : List Int) : List Int := vs ++ List.replicate (C - vs.length) 0
theorem fill_len {C : Nat} {vs : List Int} (h : vs.length ≤ C) : (fillZ C vs).length = C := by simp [fillZ]; omega
theorem fill_get {C : Nat} {vs : List Int} {k : Nat} (h : k < vs.length) : (fillZ C vs).getD k 0 = vs.getD k 0 := getD_left h
theorem fill_all {C : Nat} {vs : List Int} (h : vs.length = C) : fillZ C vs = vs := by unfold fillZ; rw [h, Nat.sub_self]; simp
theorem fill_set {C : Nat} {vs : List Int} {x : Int} {j : Nat} (hj : j = vs.length) (h : vs.length < C) : (fillZ C vs).set j x = fillZ C (vs ++ [x]) := by
  subst hj
  unfold fillZ
  rw [List.set_append_right _ _ (Nat.le_refl _), Nat.sub_self, List.length_append, List.length_singleton, show C - vs.length = (C - (vs.length + 1)) + 1 by omega, List.replicate_succ, List.set_cons_zero]
  simp
theorem fill_one {C : Nat} (h : 1 ≤ C) : List.replicate C (0 : Int) = fillZ C [0] := by
  unfold fillZ
  obtain ⟨c, rfl⟩ : ∃ c, C = c + 1 := ⟨C - 1, by omega⟩
  simp [List.replicate_succ]
def preA (n : Nt) (inp : Int) (k : Nat) : List Int := [0] ++ (List.range k).map (fun k => inp / 2 ^ k % 2)
def preB (n : Nt) (st : List Int) (inp : Int) (k : Nat) : List Int := preA n inp n.ins.toNat ++ (st.take k).map (· % 2)
theorem zgz (n : Nt) (inp : Int) (k : Nat) : (preA n inp k).length = 1 + k := by simp [preA]; omega
theorem preA_step (n : Nt) (inp : Int) (k : Nat) : preA n inp k ++ [inp / 2 ^ k % 2] = preA n inp (k + 1) := by unfold preA; rw [List.range_succ, List.map_append, List.append_assoc]; rfl
theorem preB_len (n : Nt) (st : List Int) (inp : Int) {k : Nat} (h : k ≤ st.length) : (preB n st inp k).length = 1 + n.ins.toNat + k := by simp [preB, zgz]; omega
theorem preB_step (n : Nt) (st : List Int) (inp : Int) {k : Nat} (h : k < st.length) : preB n st inp k ++ [st.getD k 0 % 2] = preB n st inp (k + 1) := by unfold preB; rw [zen 0 h, List.map_append, List.append_assoc]; rfl
theorem preB_zero (n : Nt) (st : List Int) (inp : Int) : preA n inp n.ins.toNat = preB n st inp 0 := by simp [preB]
theorem preB_end (n : Nt) (st : List Int) (inp : Int) : preB n st inp st.length = valL n st inp 0 := by
  show preB n st inp st.length = leafL n st inp
  unfold preB preA leafL; rw [List.take_length]
def seqZ (kd v : Int) : Int := if kd = 0 then 0 else v - v % 2 + v / 2 % 2
theorem seqZ_pos {kd v : Int} (h : 0 ≤ v) : 0 ≤ seqZ kd v := by unfold seqZ; split <;> omega
structure StOk (n : Nt) (st : List Int) : Prop where
  len : st.length = n.ss.length
  rng : ∀ k, k < n.ss.length → 0 ≤ st.getD k 0 ∧ st.getD k 0 ≤ 31 ∧ ((n.ss.getD k sq0).kd = 0 → st.getD k 0 ≤ 1)
theorem start_ok {n : Nt} (h : NtOk n) : StOk n (stL n) := ⟨str_len n (Nat.le_refl _), fun k hk => by
  rw [st_at n hk]
  rcases (h.sq _ (zbd (d := sq0) hk)).kind with ⟨a, b, _⟩ | ⟨a, b, _⟩
  · exact ⟨b.1, by omega, fun _ => b.2⟩
  · exact ⟨b.1, b.2, fun h => by omega⟩⟩
theorem zeb (x lo hi : Int) (w : World)  :
   Calls Try.prog 69 #[.int .i64 x, .int .i64 lo, .int .i64 hi] w (Ans w (.bool (inR x lo hi))) := by
 refine zbq (N := 15) (args := [.int .i64 x, .int .i64 lo, .int .i64 hi]) Try.func69 rfl rfl (zbn 1 rfl (zac (reQ 2 rfl ?_)))
 refine zfw rfl rfl rfl rfl rfl rfl (fun h1 => ?_) (fun h1 => ?_)
 ·
  refine zag 3 rfl (hl_leq rfl rfl rfl rfl rfl rfl (fun h2 => ?_) (fun h2 => ?_))
  ·
   refine zbc 2 rfl ?_
   exact zak (zbl rfl rfl (congrArg _ (((zcp _ _ _).2 (by omega)).symm)))
  refine zbc 2 rfl ?_
  exact zak (zbl rfl rfl (congrArg _ ((Bool.eq_false_iff.2 (fun h => by have := (zcp _ _ _).1 h; omega)).symm)))
 refine zbc 6 rfl ?_
 exact zak (zbl rfl rfl (congrArg _ ((Bool.eq_false_iff.2 (fun h => by have := (zcp _ _ _).1 h; omega)).symm)))
theorem zeg (n : Nt) (w : World) (hr : RdsNt w n) (hn : NtOk n) :
   Calls Try.prog 83 #[.agg #[.int .i64 n.ins, n.sv, n.av, n.ov]] w (Ans w (.int .i64 n.cnt)) := by
 have hi0 := hn.i0
 have hi1 := hn.i1
 have hs1 := hn.s1
 have ha1 := hn.a1
 have ho1 := hn.o1
 have hcnt : n.cnt = 1 + n.ins + n.ss.length + n.gs.length := rfl
 have hfst : n.fst = 1 + n.ins + n.ss.length := rfl
 refine zbq (N := 36) (args := [.agg #[.int .i64 n.ins, n.sv, n.av, n.ov]]) Try.func83 rfl rfl (srQ ?_)
 refine zed rfl (zdh rfl rfl) ?_
 intro b1
 refine zbc 1 rfl (zgk (hvQ rfl (fdQ 0 rfl rfl rfl) (hvQ rfl (zan rfl rfl rfl (zai 0 rfl rfl)) ?_)))
 refine zdu rfl (zam rfl rfl (fun w hm => zbb (zeb n.ins 0 20 w))) (zbz (fun h2 => ?_) (fun h2 => absurd ((((zcp _ _ _).2 (by omega))).symm.trans h2) (by decide)))
 refine zag 2 rfl (hvQ rfl (fdQ 1 rfl rfl rfl) (hvQ rfl (zan rfl rfl rfl (zai 0 rfl rfl)) (hvQ rfl (lnQ rfl rfl rfl (zap hr.sq)) ?_)))
 refine zeq rfl rfl rfl rfl rfl rfl (fun h3 => absurd h3 (by omega)) (fun h3 => ?_)
 refine zag 2 rfl (hvQ rfl (fdQ 2 rfl rfl rfl) (hvQ rfl (zan rfl rfl rfl (zai 0 rfl rfl)) (hvQ rfl (lnQ rfl rfl rfl (zap hr.an)) ?_)))
 refine zeq rfl rfl rfl rfl rfl rfl (fun h4 => absurd h4 (by omega)) (fun h4 => ?_)
 refine zag 2 rfl (hvQ rfl (fdQ 3 rfl rfl rfl) (hvQ rfl (zan rfl rfl rfl (zai 0 rfl rfl)) (hvQ rfl (lnQ rfl rfl rfl (zap hr.ou)) ?_)))
 refine zeq rfl rfl rfl rfl rfl rfl (fun h5 => absurd h5 (by omega)) (fun h5 => ?_)
 refine zbc 1 rfl (zal rfl (zdb (srQ (hvQ rfl (fdQ 0 rfl rfl rfl) (hvQ rfl (zan rfl rfl rfl (zai 0 rfl rfl)) (hvQ rfl (vaQ rfl rfl rfl) (hvQ rfl (fdQ 1 rfl rfl rfl) (hvQ rfl (zan rfl rfl rfl (zai 0 rfl rfl)) ?_))))))))
 refine hvQ rfl (lnQ rfl rfl rfl (zap hr.sq)) (hvQ rfl (vaQ rfl rfl rfl) (hvQ rfl (fdQ 2 rfl rfl rfl) (hvQ rfl (zan rfl rfl rfl (zai 0 rfl rfl)) (hvQ rfl (lnQ rfl rfl rfl (zap hr.an)) (hvQ rfl (vaQ rfl rfl rfl) (zbc 1 rfl ?_))))))
 exact zak (zbl rfl rfl rfl)
theorem zgm (n : Nt) (w : World) (hr : RdsNt w n) (hn : NtOk n) :
   Calls Try.prog 100 #[.agg #[.int .i64 n.ins, n.sv, n.av, n.ov]] w (Ans w (.int .i64 n.fst)) := by
 have hi0 := hn.i0
 have hi1 := hn.i1
 have hs1 := hn.s1
 have ha1 := hn.a1
 have ho1 := hn.o1
 have hcnt : n.cnt = 1 + n.ins + n.ss.length + n.gs.length := rfl
 have hfst : n.fst = 1 + n.ins + n.ss.length := rfl
 refine zbq (N := 10) (args := [.agg #[.int .i64 n.ins, n.sv, n.av, n.ov]]) Try.func100 rfl rfl (srQ ?_)
 refine zed rfl (zdh rfl rfl) ?_
 intro b1
 refine zbc 1 rfl (srQ (hvQ rfl (fdQ 0 rfl rfl rfl) (hvQ rfl (zan rfl rfl rfl (zai 0 rfl rfl)) (hvQ rfl (vaQ rfl rfl rfl) (hvQ rfl (fdQ 1 rfl rfl rfl) (hvQ rfl (zan rfl rfl rfl (zai 0 rfl rfl)) (hvQ rfl (lnQ rfl rfl rfl (zap hr.sq)) (hvQ rfl (vaQ rfl rfl rfl) (zag 1 rfl ?_)))))))))
 refine ntQ ?_
 exact zak (zbl rfl rfl rfl)
theorem l08Lit_yes (x m : Int) (w : World) (hx : LtOk x m) (hm : m ≤ 100000) :
   Calls Try.prog 91 #[.int .i64 x, .int .i64 m] w (Ans w (.bool true)) := by
 unfold LtOk at hx
 refine zbq (N := 13) (args := [.int .i64 x, .int .i64 m]) Try.func91 rfl rfl (zbn 1 rfl (zac (reQ 1 rfl ?_)))
 refine zfw rfl rfl rfl rfl rfl rfl (fun h1 => ?_) (fun h1 => absurd h1 (by omega))
 refine zag 2 rfl (hvQ rfl (rv_quo rfl rfl rfl (by refine ⟨?_, ?_, ?_⟩ <;> omega)) ?_)
 refine zag 1 rfl (zcb rfl rfl rfl rfl rfl rfl (fun h2 => ?_) (fun h2 => absurd h2 (by omega)))
 refine zbc 2 rfl ?_
 exact zak (zbl rfl rfl rfl)
theorem l08Roots_ret (n : Nt) (w : World) (hr : RdsNt w n) (hn : NtOk n) :
   Calls Try.prog 125 #[.agg #[.int .i64 n.ins, n.sv, n.av, n.ov]] w (Ret w (fun v' post => post = [rI9 3 v' (rtsL n n.ss.length)])) := by
 have hi0 := hn.i0
 have hi1 := hn.i1
 have hs1 := hn.s1
 have ha1 := hn.a1
 have ho1 := hn.o1
 have hcnt : n.cnt = 1 + n.ins + n.ss.length + n.gs.length := rfl
 have hfst : n.fst = 1 + n.ins + n.ss.length := rfl
 refine zbq (N := 25) (args := [.agg #[.int .i64 n.ins, n.sv, n.av, n.ov]]) Try.func125 rfl rfl (srQ ?_)
 refine zed rfl (zdh rfl rfl) ?_
 intro b1
 refine zbc 1 rfl (srQ ?_)
 refine zey rfl (zds (s := 1) rfl Try.underlying48 rfl) ?_
 intro g2
 refine hvQ rfl (fdQ 3 rfl rfl rfl) (hvQ rfl (zan rfl rfl rfl (zai 1 rfl rfl)) ?_)
 refine zdc (i := 0) (z := .int .i64 0) (bytes := 8) (n' := n.os.length) (xs' := (n.os.map (Value.int .i64))) rfl rfl rfl rfl Try.underlying48 (by kernel_rfl) rfl rfl rfl rfl (zap hr.ou) (zcj _) (by first | omega | (simp; done) | (simp; omega)) (Nat.zero_add _) (List.nil_append _) (fun _ => rfl) ?_
 intro v3
 refine zbc 1 rfl (zac (zbn 1 rfl (zbf ?_)))
 refine lkQ3 (α := Nat) (β := Value) (γ := List Int) [0, 1, 2] rfl (fun k u zs => [rI9 3 u zs, nB9 b1 n]) (fun k u zs => [(3, u), (4, .int .i64 (k : Int))]) (fun k u zs => k ≤ n.ss.length ∧ zs = rtsL n k) (fun k u zs => n.ss.length - k) 0 _ n.os ⟨by omega, by simp [rtsL]⟩ (saQ rfl) (pfQ rfl) ?_
 intro k u zs hi4
 obtain ⟨hk, hz⟩ := hi4
 have hzl : zs.length ≤ 16 + 4 * k := by rw [hz]; exact rts_len hn k hk
 refine zac (zac (reQ 1 rfl (hvQ rfl (fdQ 1 rfl rfl rfl) (hvQ rfl (zan rfl rfl rfl (zai 1 rfl rfl)) (hvQ rfl (lnQ rfl rfl rfl (zap hr.sq)) ?_)))))
 refine zcb rfl rfl rfl rfl rfl rfl (fun h5 => ?_) (fun h5 => ?_)
 ·
  refine ntQ (zaj rfl (zdb (sbQ (reQ 1 rfl (hvQ rfl (fdQ 1 rfl rfl rfl) ?_)))))
  have hx4 := (hn.sq _ (zbd (d := sq0) (show k < n.ss.length by omega))).len
  refine hvQ rfl (zan rfl rfl rfl (zai 1 rfl rfl)) (zag 1 rfl (hvQ rfl (riQ 3 rfl rfl rfl rfl (zap hr.sq)) (hvQ rfl (zde (k0 := 2) rfl rfl rfl (zap hr.sq) (by omega)) ?_)))
  refine hvQ rfl (zba (u := (n.ss.getD k sq0).iv) rfl rfl rfl (zap hr.sq) ((zef sqC 3 (fun _ => rfl) n.ss sq0 (show k < _ by omega) (by decide)).trans rfl)) (zdc (i := 0) (z := .int .i64 0) (bytes := 8) rfl rfl rfl rfl Try.underlying48 (by kernel_rfl) rfl rfl rfl rfl (fun w hm => (hr.at (k := k) (by omega)).below hm.bel) (zcj _) (by first | omega | (simp; done) | (simp; omega)) (zco zs ((n.ss.getD k sq0).xs)) (zcx zs ((n.ss.getD k sq0).xs)) (fun _ => rfl) ?_)
  intro v6
  refine enQ 1 rfl (zdn (reQ 1 rfl (hvQ rfl (vaQ rfl rfl rfl) (enQ 1 rfl ?_))))
  exact zdz (k + 1) v6 (zs ++ ((n.ss.getD k sq0).xs)) ⟨by omega, by rw [hz, rts_step n (by omega)]⟩ (by omega) (saQ rfl) (pfQ rfl)
 refine ntQ (zal rfl ?_)
 refine zby (zes ?_)
 refine zat (zaw (zbn 2 rfl ?_))
 exact zak (zev (post := [rI9 3 u zs]) rfl rfl (slQ [0] rfl) (by rw [hz, show k = n.ss.length by omega]))
theorem zfx (n : Nt) (w : World) (hr : RdsNt w n) (hn : NtOk n) :
   Calls Try.prog 88 #[.agg #[.int .i64 n.ins, n.sv, n.av, n.ov]] w (Ans w (.bool true)) := by
 have hi0 := hn.i0
 have hi1 := hn.i1
 have hs1 := hn.s1
 have ha1 := hn.a1
 have ho1 := hn.o1
 have hcnt : n.cnt = 1 + n.ins + n.ss.length + n.gs.length := rfl
 have hfst : n.fst = 1 + n.ins + n.ss.length := rfl
 refine zbq (N := 104) (args := [.agg #[.int .i64 n.ins, n.sv, n.av, n.ov]]) Try.func88 rfl rfl (srQ ?_)
 refine zed rfl (zdh rfl rfl) ?_
 intro b1
 refine zbc 1 rfl (srQ (hvQ rfl (zar (cs := [.int .i64 n.ins, n.sv, n.av, n.ov]) rfl rfl rfl rfl rfl (zah 0 rfl 0 rfl)) ?_))
 refine zdu rfl (zam rfl rfl (fun w hm => zbb (zeg n w (hr.below hm.bel) hn))) (zbc 1 rfl (zac (zac (reQ 1 rfl ?_))))
 refine zbj rfl rfl rfl rfl rfl rfl (fun h2 => absurd h2 (by omega)) (fun h2 => ?_)
 refine ntQ (zal rfl (zdb (zac (zbn 1 rfl (zbf ?_)))))
 refine lkQ1 (α := Nat) [0, 1, 2, 3, 12] rfl (fun k => [nB9 b1 n]) (fun k => [(4, .int .i64 (k : Int))]) (fun k => k ≤ n.ss.length) (fun k => n.ss.length - k) 0 (Nat.zero_le _) (saQ rfl) (pfQ rfl) ?_
 intro k hi3
 have hk := hi3
 refine zac (zac (reQ 1 rfl (hvQ rfl (fdQ 1 rfl rfl rfl) (hvQ rfl (zan rfl rfl rfl (zai 0 rfl rfl)) (hvQ rfl (lnQ rfl rfl rfl (zap hr.sq)) ?_)))))
 refine zcb rfl rfl rfl rfl rfl rfl (fun h4 => ?_) (fun h4 => ?_)
 ·
  refine ntQ (zaj rfl (zdb (sbQ (srQ ?_))))
  have hqk := (hn.sq _ (zbd (d := sq0) (show k < n.ss.length by omega))).kind
  refine hvQ rfl (fdQ 1 rfl rfl rfl) (hvQ rfl (zan rfl rfl rfl (zai 0 rfl rfl)) (zag 1 rfl (hvQ rfl (riQ 3 rfl rfl rfl rfl (zap hr.sq)) ?_)))
  refine hvQ rfl (zda (us := [.int .i64 ((n.ss.getD k sq0).kd), .int .i64 ((n.ss.getD k sq0).it), (n.ss.getD k sq0).iv]) rfl rfl rfl rfl (zap hr.sq) (by omega) rfl (zdt sqC 3 (fun _ => rfl) n.ss sq0 (show k < _ by omega) rfl)) (zed rfl (zcc (z := .agg #[.int .i64 0, .int .i64 0, .slice none 0 0]) rfl rfl) ?_)
  intro b5
  refine zbm (cs' := #[.int .i64 ((n.ss.getD k sq0).kd), .int .i64 ((n.ss.getD k sq0).it), (n.ss.getD k sq0).iv]) (i := 0) (off := 0) (us := [.int .i64 ((n.ss.getD k sq0).kd), .int .i64 ((n.ss.getD k sq0).it), (n.ss.getD k sq0).iv]) rfl rfl rfl rfl rfl rfl rfl (zaa rfl (zaa rfl (zaa (hr.at (k := k) (by omega)).one zbe))) rfl rfl rfl (ntQ (srQ (hvQ rfl (fdQ 0 rfl rfl rfl) (hvQ rfl (zan rfl rfl rfl (zai 0 rfl rfl)) ?_))))
  refine zbj rfl rfl rfl rfl rfl rfl (fun h6 => ?_) (fun h6 => ?_)
  ·
   refine zag 1 rfl (hvQ rfl (fdQ 1 rfl rfl rfl) (hvQ rfl (zan rfl rfl rfl (zai 0 rfl rfl)) ?_))
   refine zdu rfl (zam rfl rfl (fun w hm => zbb (zeb ((n.ss.getD k sq0).it) 0 1 w))) (zbz (fun h7 => ?_) (fun h7 => absurd ((((zcp _ _ _).2 (by omega))).symm.trans h7) (by decide)))
   refine zag 2 rfl (hvQ rfl (fdQ 2 rfl rfl rfl) (hvQ rfl (zan rfl rfl rfl (zai 0 rfl rfl)) ?_))
   refine hvQ rfl (lnQ rfl rfl rfl (fun w hm => (hr.at (k := k) (by omega)).below hm.bel)) (zbj rfl rfl rfl rfl rfl rfl (fun h8 => ?_) (fun h8 => ?_))
   ·
    refine zbc 18 rfl (fsQ rfl (zdn (reQ 1 rfl (hvQ rfl (vaQ rfl rfl rfl) (enQ 1 rfl ?_)))))
    exact zcm (k + 1) (by omega) (by omega) (saQ rfl) (slQ [1] rfl)
   refine zag 2 rfl (hvQ rfl (fdQ 0 rfl rfl rfl) (hvQ rfl (zan rfl rfl rfl (zai 0 rfl rfl)) ?_))
   refine zbj rfl rfl rfl rfl rfl rfl (fun h9 => ?_) (fun h9 => ?_)
   ·
    refine zag 1 rfl (hvQ rfl (fdQ 1 rfl rfl rfl) (hvQ rfl (zan rfl rfl rfl (zai 0 rfl rfl)) ?_))
    refine zdu rfl (zam rfl rfl (fun w hm => zbb (zeb ((n.ss.getD k sq0).it) 0 31 w))) (zbz (fun h10 => ?_) (fun h10 => absurd ((((zcp _ _ _).2 (by omega))).symm.trans h10) (by decide)))
    refine zag 2 rfl (hvQ rfl (fdQ 2 rfl rfl rfl) (hvQ rfl (zan rfl rfl rfl (zai 0 rfl rfl)) ?_))
    refine hvQ rfl (lnQ rfl rfl rfl (fun w hm => (hr.at (k := k) (by omega)).below hm.bel)) (zbj rfl rfl rfl rfl rfl rfl (fun h11 => ?_) (fun h11 => ?_))
    ·
     refine zbc 3 rfl (fsQ rfl (zdn (reQ 1 rfl (hvQ rfl (vaQ rfl rfl rfl) (enQ 1 rfl ?_)))))
     exact zcm (k + 1) (by omega) (by omega) (saQ rfl) (slQ [1] rfl)
    refine zbc 3 rfl (zaj rfl (zbn 1 rfl ?_))
    refine zak (zaf ?_)
    refine zfv ?_
    refine zaf (zad ?_)
    exfalso
    omega
   refine zbc 13 rfl (zaj rfl ?_)
   refine zbn 1 rfl ?_
   refine zak (zaf ?_)
   refine zfv ?_
   refine zaf (zad ?_)
   exfalso
   omega
  refine zag 12 rfl (hvQ rfl (fdQ 0 rfl rfl rfl) (hvQ rfl (zan rfl rfl rfl (zai 0 rfl rfl)) ?_))
  refine zbj rfl rfl rfl rfl rfl rfl (fun h12 => ?_) (fun h12 => ?_)
  ·
   refine zag 1 rfl (hvQ rfl (fdQ 1 rfl rfl rfl) (hvQ rfl (zan rfl rfl rfl (zai 0 rfl rfl)) ?_))
   refine zdu rfl (zam rfl rfl (fun w hm => zbb (zeb ((n.ss.getD k sq0).it) 0 31 w))) (zbz (fun h13 => ?_) (fun h13 => absurd ((((zcp _ _ _).2 (by omega))).symm.trans h13) (by decide)))
   refine zag 2 rfl (hvQ rfl (fdQ 2 rfl rfl rfl) (hvQ rfl (zan rfl rfl rfl (zai 0 rfl rfl)) ?_))
   refine hvQ rfl (lnQ rfl rfl rfl (fun w hm => (hr.at (k := k) (by omega)).below hm.bel)) (zbj rfl rfl rfl rfl rfl rfl (fun h14 => ?_) (fun h14 => ?_))
   ·
    refine zbc 3 rfl (fsQ rfl (zdn (reQ 1 rfl (hvQ rfl (vaQ rfl rfl rfl) (enQ 1 rfl ?_)))))
    exact zcm (k + 1) (by omega) (by omega) (saQ rfl) (slQ [1] rfl)
   refine zbc 3 rfl (zaj rfl (zbn 1 rfl ?_))
   refine zak (zaf ?_)
   refine zfv ?_
   refine zaf (zad ?_)
   exfalso
   omega
  refine zbc 13 rfl (zaj rfl ?_)
  refine zbn 1 rfl ?_
  refine zak (zaf ?_)
  refine zfv ?_
  refine zaf (zad ?_)
  exfalso
  omega
 refine ntQ (zal rfl ?_)
 refine zby (zes ?_)
 refine zat (zaw (srQ (hvQ rfl (zar (cs := [.int .i64 n.ins, n.sv, n.av, n.ov]) rfl rfl rfl rfl rfl (zah 0 rfl 0 rfl)) ?_)))
 refine zfg rfl rfl rfl (zam rfl rfl (fun w hm => l08Roots_ret n w (hr.below hm.bel) hn)) ?_
 intro v15 p16 hR17
 subst hR17
 refine zbc 1 rfl (zac (zbn 1 rfl (zbf ?_)))
 refine lkQ1 (α := Nat) [0, 1, 2, 3, 6, 12, 17] rfl (fun q => [rowE 3 1 v15 ((rtsL n n.ss.length).length) ((rtsL n n.ss.length).map (Value.int .i64)), nB9 b1 n]) (fun q => [(7, .int .i64 (q : Int))]) (fun q => q ≤ (rtsL n n.ss.length).length) (fun q => (rtsL n n.ss.length).length - q) 0 (Nat.zero_le _) (saQ rfl) (pfQ rfl) ?_
 intro q hi18
 have hq := hi18
 refine zgk ?_
 have hzl := rts_len hn n.ss.length (Nat.le_refl _)
 refine zag 2 rfl (hvQ rfl (lnQ rfl rfl rfl (zao 0 rfl)) ?_)
 refine zcb rfl rfl rfl rfl rfl rfl (fun h19 => ?_) (fun h19 => ?_)
 ·
  refine ntQ (zaj rfl (zdb (sbQ (srQ ?_))))
  have hlk := zdx hn (i := q) (by omega)
  have hzl := rts_len hn n.ss.length (Nat.le_refl _)
  refine zag 2 rfl (hvQ rfl (riQ 1 rfl rfl rfl rfl (zao 0 rfl)) (hvQ rfl (zba (u := .int .i64 ((rtsL n n.ss.length).getD q 0)) rfl rfl rfl (zao 0 rfl) (zcg (show _ < (rtsL n n.ss.length).length by omega))) (zag 1 rfl ?_)))
  refine zdu rfl (zam rfl rfl (fun w hm => zbb (l08Lit_yes ((rtsL n n.ss.length).getD q 0) n.cnt w (by first | assumption | (unfold LtOk; omega)) (by omega)))) (zbc 1 rfl (fsQ rfl (zdn (reQ 1 rfl (hvQ rfl (vaQ rfl rfl rfl) (enQ 1 rfl ?_))))))
  exact zcm (q + 1) (by omega) (by omega) (saQ rfl) (pfQ rfl)
 refine ntQ (zal rfl ?_)
 refine zby (zes ?_)
 refine zat (zaw (zac (zbn 1 rfl (zbf ?_))))
 refine lkQ1 (α := Nat) [0, 1, 2, 3, 6, 12, 17, 61] rfl (fun j => [rowE 3 1 v15 ((rtsL n n.ss.length).length) ((rtsL n n.ss.length).map (Value.int .i64)), nB9 b1 n]) (fun j => [(8, .int .i64 (j : Int))]) (fun j => j ≤ n.gs.length) (fun j => n.gs.length - j) 0 (Nat.zero_le _) (saQ rfl) (pfQ rfl) ?_
 intro j hi20
 have hj := hi20
 refine zac (zac (reQ 1 rfl (hvQ rfl (fdQ 2 rfl rfl rfl) (hvQ rfl (zan rfl rfl rfl (zai 1 rfl rfl)) (hvQ rfl (lnQ rfl rfl rfl (zap hr.an)) ?_)))))
 refine zcb rfl rfl rfl rfl rfl rfl (fun h21 => ?_) (fun h21 => ?_)
 ·
  refine ntQ (zaj rfl (zdb (sbQ (zac ?_))))
  have hlj := hn.an j (by omega)
  obtain ⟨hlj1, hlj2⟩ := hlj
  refine zdp 26 [[], [0], [], [1, 2], [3], [4], [], [6], [], [7, 8], [5, 9], [10], [11], [12], [12, 13], [12], [12, 14, 15], [12, 16], [12, 17], [12], [12, 19], [12], [12, 20, 21], [12, 18, 22], [12, 23], [12, 24]] [78, 79, 80, 81, 82, 83, 84, 85, 86, 87, 88, 89, 90, 91, 92, 93, 94, 95, 96, 97, 98, 99, 100, 101, 102, 103] [.pointer (some ⟨b1, 0 + 2, none⟩), n.av, .int .i64 (j : Int), elP n.av (((j : Int)).toNat * 2), elP n.av (((j : Int)).toNat * 2 + 0), .int .i64 ((n.gs.getD j an0).a), .agg #[.int .i64 n.ins, n.sv, n.av, n.ov], .int .i64 n.fst, .int .i64 (j : Int), .int .i64 (n.fst + (j : Int)), .bool true, .bool false, .bool false, .pointer (some ⟨b1, 0 + 2, none⟩), n.av, .int .i64 (j : Int), elP n.av (((j : Int)).toNat * 2), elP n.av (((j : Int)).toNat * 2 + 1), .int .i64 ((n.gs.getD j an0).b), .agg #[.int .i64 n.ins, n.sv, n.av, n.ov], .int .i64 n.fst, .int .i64 (j : Int), .int .i64 (n.fst + (j : Int)), .bool true, .bool false, .bool false] (by kernel_rfl) rfl ?_ ?_
  ·
   exact ⟨iaQ rfl (fdQ 2 rfl rfl rfl) rfl, iaQ rfl (zan rfl rfl rfl (zai 1 rfl rfl)) rfl, iaQ rfl (zax rfl) rfl, iaQ rfl (riQ 2 rfl rfl rfl rfl (zap hr.an)) rfl, iaQ rfl (zde (k0 := 0) rfl rfl rfl (zap hr.an) (by omega)) rfl, iaQ rfl (zba (u := .int .i64 ((n.gs.getD j an0).a)) rfl rfl rfl (zap hr.an) ((zef anC 2 (fun _ => rfl) n.gs an0 (show j < _ by omega) (by decide)).trans rfl)) rfl, iaQ rfl (zar (cs := [.int .i64 n.ins, n.sv, n.av, n.ov]) rfl rfl rfl rfl rfl (zah 1 rfl 0 rfl)) rfl, .inl ⟨rfl, zam rfl rfl (fun w hm => zbb (zgm n w (hr.below hm.bel) hn))⟩, iaQ rfl (zax rfl) rfl, iaQ rfl (vaQ rfl rfl rfl) rfl, .inl ⟨rfl, zam (by kernel_rfl) rfl (fun w hm => zbb (l08Lit_yes ((n.gs.getD j an0).a) (n.fst + (j : Int)) w (by first | assumption | (unfold LtOk; omega)) (by omega)))⟩, iaQ rfl (zax rfl) rfl, iaQ rfl (zax rfl) rfl, iaQ rfl (fdQ 2 rfl rfl rfl) rfl, iaQ rfl (zan rfl rfl rfl (zai 1 rfl rfl)) rfl, iaQ rfl (zax rfl) rfl, iaQ rfl (riQ 2 rfl rfl rfl rfl (zap hr.an)) rfl, iaQ rfl (zde (k0 := 1) rfl rfl rfl (zap hr.an) (by omega)) rfl, iaQ rfl (zba (u := .int .i64 ((n.gs.getD j an0).b)) rfl rfl rfl (zap hr.an) ((zef anC 2 (fun _ => rfl) n.gs an0 (show j < _ by omega) (by decide)).trans rfl)) rfl, iaQ rfl (zar (cs := [.int .i64 n.ins, n.sv, n.av, n.ov]) rfl rfl rfl rfl rfl (zah 1 rfl 0 rfl)) rfl, .inl ⟨rfl, zam rfl rfl (fun w hm => zbb (zgm n w (hr.below hm.bel) hn))⟩, iaQ rfl (zax rfl) rfl, iaQ rfl (vaQ rfl rfl rfl) rfl, .inl ⟨rfl, zam (by kernel_rfl) rfl (fun w hm => zbb (l08Lit_yes ((n.gs.getD j an0).b) (n.fst + (j : Int)) w (by first | assumption | (unfold LtOk; omega)) (by omega)))⟩, iaQ rfl (zax rfl) rfl, iaQ rfl (zax rfl) rfl, trivial⟩
  simp only [List.drop_succ_cons, List.drop_zero]
  refine ntQ (fsQ rfl (zdn (reQ 1 rfl (hvQ rfl (vaQ rfl rfl rfl) (enQ 1 rfl ?_)))))
  exact zcm (j + 1) (by omega) (by omega) (saQ rfl) (pfQ rfl)
 refine ntQ (zal rfl ?_)
 refine zby (zes ?_)
 refine zat (zaw (zbn 1 rfl ?_))
 exact zak (zbl rfl rfl rfl)
theorem SeqNext_zero (kd v : Int) (w : World) (hs0 : kd = 0 ∨ kd = 1) (hs1 : 0 ≤ v ∧ v ≤ 31) (hs2 : kd = 0 → v ≤ 1) :
   Calls Try.prog 146 #[.int .i64 kd, .int .i64 v, .int .i64 0] w (Ans w (.int .i64 (seqZ kd v))) := by
 refine zbq (N := 49) (args := [.int .i64 kd, .int .i64 v, .int .i64 0]) Try.func146 rfl rfl (zbn 1 rfl (zac (zac (reQ 1 rfl ?_))))
 refine zbj rfl rfl rfl rfl rfl rfl (fun h1 => ?_) (fun h1 => ?_)
 ·
  refine zag 2 rfl (zdu rfl (zam rfl rfl (fun w hm => zbb (zeb v 0 1 w))) ?_)
  refine zbz (fun h2 => ?_) (fun h2 => absurd ((((zcp _ _ _).2 (by omega))).symm.trans h2) (by decide))
  refine zbc 1 rfl (zaj rfl (zac (reQ 1 rfl (hvQ rfl (zcl rfl (by decide) rfl rfl (r := 0) (by decide)) (zbc 1 rfl ?_)))))
  refine zak (zad ?_)
  exact zbl rfl rfl (congrArg _ (show _ = seqZ kd v by unfold seqZ; first | rw [if_pos (by omega)] | (rw [if_neg (by omega)] <;> omega)))
 refine zbc 4 rfl (zal rfl (zdb (zac (zac (reQ 1 rfl ?_)))))
 refine hl_neq rfl rfl rfl rfl rfl rfl (fun h3 => ?_) (fun h3 => ?_)
 ·
  refine zbc 5 rfl (zaj rfl (zbn 1 rfl ?_))
  refine zak (zad ?_)
  exfalso
  omega
 refine zag 2 rfl (zdu rfl (zam rfl rfl (fun w hm => zbb (zeb v 0 31 w))) ?_)
 refine zbz (fun h4 => ?_) (fun h4 => absurd ((((zcp _ _ _).2 (by omega))).symm.trans h4) (by decide))
 refine zbc 2 rfl (zal rfl (zdb (zac (reQ 1 rfl (hvQ rfl (zcl rfl (by decide) rfl rfl (r := 0) (by decide)) (hvQ rfl (vaQ rfl rfl rfl) (zag 1 rfl (?_))))))))
 refine ntQ (zac (reQ 1 rfl (hvQ rfl (zcl rfl (by decide) rfl rfl (r := v - v % 2) (andNot_small hs1.1 hs1.2)) (zag 2 rfl (hvQ rfl (rv_shr rfl rfl rfl (by omega)) ?_)))))
 rw [show (v / 2 ^ (0 + 1 : Int).toNat : Int) = v / 2 from rfl]
 refine hvQ rfl (zcl rfl (by decide) rfl rfl (r := (v / 2) % 2) (Bit.and_one _ (by omega) (by omega))) (hvQ rfl (vaQ rfl rfl rfl) (zbc 1 rfl (zac (zac (reQ 1 rfl (hvQ rfl (rv_shr rfl rfl rfl (by omega)) (hvQ rfl (zcl rfl (by decide) rfl rfl (r := 0) (by decide)) ?_)))))))
 refine zbj rfl rfl rfl rfl rfl rfl (fun h5 => absurd h5 (by omega)) (fun h5 => ?_)
 refine ntQ (zal rfl (zdb (zbn 2 rfl ?_)))
 exact zak (zbl rfl rfl (congrArg _ (show _ = seqZ kd v by unfold seqZ; first | rw [if_pos (by omega)] | (rw [if_neg (by omega)] <;> omega))))
theorem specStateOk_yes (n : Nt) (st : List Int) (v : Value) (w : World) (hr : RdsNt w n) (hn : NtOk n) (hst : RdsW w v 1 st.length (st.map (Value.int .i64))) (hso : StOk n st) :
   Calls Try.prog 98 #[.agg #[.int .i64 n.ins, n.sv, n.av, n.ov], v] w (Ans w (.bool true)) := by
 have hi0 := hn.i0
 have hi1 := hn.i1
 have hs1 := hn.s1
 have ha1 := hn.a1
 have ho1 := hn.o1
 have hcnt : n.cnt = 1 + n.ins + n.ss.length + n.gs.length := rfl
 have hfst : n.fst = 1 + n.ins + n.ss.length := rfl
 have hsl := hso.len
 refine zbq (N := 35) (args := [.agg #[.int .i64 n.ins, n.sv, n.av, n.ov], v]) Try.func98 rfl rfl (srQ ?_)
 refine zed rfl (zdh rfl rfl) ?_
 intro b1
 refine zbc 1 rfl (zgk (hvQ rfl (zar (cs := [.int .i64 n.ins, n.sv, n.av, n.ov]) rfl rfl rfl rfl rfl (zah 0 rfl 0 rfl)) ?_))
 refine zdu rfl (zam rfl rfl (fun w hm => zbb (zfx n w (hr.below hm.bel) hn))) (zag 3 rfl (hvQ rfl (lnQ rfl rfl rfl (zap hst)) (hvQ rfl (fdQ 1 rfl rfl rfl) (hvQ rfl (zan rfl rfl rfl (zai 0 rfl rfl)) (hvQ rfl (lnQ rfl rfl rfl (zap hr.sq)) ?_)))))
 refine hl_neq rfl rfl rfl rfl rfl rfl (fun h2 => absurd h2 (by omega)) (fun h2 => ?_)
 refine zbc 1 rfl (zal rfl (zdb (zac (zbn 1 rfl ?_))))
 refine zbf ?_
 refine lkQ1 (α := Nat) [0, 1, 2, 4, 16] rfl (fun k => [nB9 b1 n]) (fun k => [(5, .int .i64 (k : Int))]) (fun k => k ≤ st.length) (fun k => st.length - k) 0 (Nat.zero_le _) (saQ rfl) (pfQ rfl) ?_
 intro k hi3
 have hk := hi3
 refine zac (zac (reQ 2 rfl (hvQ rfl (lnQ rfl rfl rfl (zap hst)) ?_)))
 refine zcb rfl rfl rfl rfl rfl rfl (fun h4 => ?_) (fun h4 => ?_)
 ·
  refine ntQ (zaj rfl (zdb (sbQ (zac ?_))))
  have hqk := (hn.sq _ (zbd (d := sq0) (show k < n.ss.length by omega))).kind
  have hsk := hso.rng k (by omega)
  have hzz := seqZ_pos (kd := (n.ss.getD k sq0).kd) hsk.1
  have hb5 : (decide (seqZ ((n.ss.getD k sq0).kd) (st.getD k 0) < 0)) = false := decide_eq_false (by omega)
  refine zdp 12 [[], [0], [], [1, 2], [3], [4], [], [], [6, 7], [8], [5, 9], [10]] [23, 24, 25, 26, 27, 28, 29, 30, 31, 32, 33, 34] [.pointer (some ⟨b1, 0 + 1, none⟩), n.sv, .int .i64 (k : Int), elP n.sv (((k : Int)).toNat * 3), elP n.sv (((k : Int)).toNat * 3 + 0), .int .i64 ((n.ss.getD k sq0).kd), v, .int .i64 (k : Int), elP v (((k : Int)).toNat * 1), .int .i64 (st.getD k 0), .int .i64 (seqZ ((n.ss.getD k sq0).kd) (st.getD k 0)), .bool false] (by kernel_rfl) rfl ?_ ?_
  ·
   exact ⟨iaQ rfl (fdQ 1 rfl rfl rfl) rfl, iaQ rfl (zan rfl rfl rfl (zai 0 rfl rfl)) rfl, iaQ rfl (zax rfl) rfl, iaQ rfl (riQ 3 rfl rfl rfl rfl (zap hr.sq)) rfl, iaQ rfl (zde (k0 := 0) rfl rfl rfl (zap hr.sq) (by omega)) rfl, iaQ rfl (zba (u := .int .i64 ((n.ss.getD k sq0).kd)) rfl rfl rfl (zap hr.sq) ((zef sqC 3 (fun _ => rfl) n.ss sq0 (show k < _ by omega) (by decide)).trans rfl)) rfl, iaQ rfl (zax rfl) rfl, iaQ rfl (zax rfl) rfl, iaQ rfl (riQ 1 rfl rfl rfl rfl (zap hst)) rfl, iaQ rfl (liQ rfl rfl rfl (zap hst)) rfl, .inl ⟨rfl, zam rfl rfl (fun w hm => zbb (SeqNext_zero ((n.ss.getD k sq0).kd) (st.getD k 0) w (by omega) (by omega) (by omega)))⟩, .inl ⟨rfl, rq_vb (zgr rfl rfl rfl rfl) hb5⟩, trivial⟩
  simp only [List.drop_succ_cons, List.drop_zero]
  refine ntQ (fsQ rfl (zdn (reQ 1 rfl (hvQ rfl (vaQ rfl rfl rfl) (enQ 1 rfl ?_)))))
  exact zcm (k + 1) (by omega) (by omega) (saQ rfl) (pfQ rfl)
 refine ntQ (zal rfl ?_)
 refine zby (zes ?_)
 refine zat (zaw (zbn 1 rfl ?_))
 exact zak (zbl rfl rfl rfl)
theorem NetStart_ret (n : Nt) (w : World) (hr : RdsNt w n) (hn : NtOk n) :
   Calls Try.prog 38 #[.agg #[.int .i64 n.ins, n.sv, n.av, n.ov]] w (Ret w (fun v' post => post = [rI9 3 v' (stL n)])) := by
 have hi0 := hn.i0
 have hi1 := hn.i1
 have hs1 := hn.s1
 have ha1 := hn.a1
 have ho1 := hn.o1
 have hcnt : n.cnt = 1 + n.ins + n.ss.length + n.gs.length := rfl
 have hfst : n.fst = 1 + n.ins + n.ss.length := rfl
 refine zbq (N := 27) (args := [.agg #[.int .i64 n.ins, n.sv, n.av, n.ov]]) Try.func38 rfl rfl (srQ ?_)
 refine zed rfl (zdh rfl rfl) ?_
 intro b1
 refine zbc 1 rfl (srQ ?_)
 refine zey rfl (zds (s := 1) rfl Try.underlying48 rfl) ?_
 intro g2
 refine zbc 1 rfl (zgk (hvQ rfl (zar (cs := [.int .i64 n.ins, n.sv, n.av, n.ov]) rfl rfl rfl rfl rfl (zah 1 rfl 0 rfl)) ?_))
 refine zdu rfl (zam rfl rfl (fun w hm => zbb (zfx n w (hr.below hm.bel) hn))) (zbc 1 rfl (zal rfl (zdb (zac (zbn 1 rfl ?_)))))
 refine zbf ?_
 refine lkQ3 (α := Nat) (β := Value) (γ := List Int) [0, 1, 2, 8] rfl (fun k u zs => [rI9 3 u zs, nB9 b1 n]) (fun k u zs => [(3, u), (4, .int .i64 (k : Int))]) (fun k u zs => k ≤ n.ss.length ∧ zs = strL n k) (fun k u zs => n.ss.length - k) 0 _ [] ⟨by omega, rfl⟩ (saQ rfl) (pfQ rfl) ?_
 intro k u zs hi3
 obtain ⟨hk, hz⟩ := hi3
 have hzl : zs.length = k := by rw [hz]; exact str_len n hk
 refine zac (zac (reQ 1 rfl (hvQ rfl (fdQ 1 rfl rfl rfl) (hvQ rfl (zan rfl rfl rfl (zai 1 rfl rfl)) (hvQ rfl (lnQ rfl rfl rfl (zap hr.sq)) ?_)))))
 refine zcb rfl rfl rfl rfl rfl rfl (fun h4 => ?_) (fun h4 => ?_)
 ·
  refine ntQ (zaj rfl (zdb (sbQ (reQ 1 rfl (hvQ rfl (fdQ 1 rfl rfl rfl) (hvQ rfl (zan rfl rfl rfl (zai 1 rfl rfl)) (zag 1 rfl (hvQ rfl (riQ 3 rfl rfl rfl rfl (zap hr.sq)) ?_))))))))
  refine hvQ rfl (zde (k0 := 1) rfl rfl rfl (zap hr.sq) (by omega)) (hvQ rfl (zba (u := .int .i64 ((n.ss.getD k sq0).it)) rfl rfl rfl (zap hr.sq) ((zef sqC 3 (fun _ => rfl) n.ss sq0 (show k < _ by omega) (by decide)).trans rfl)) ?_)
  refine zey rfl (zas (z := .int .i64 0) (s := 1) (cs := ([(n.ss.getD k sq0).it].map (Value.int .i64))) rfl Try.underlying48 rfl (by decide) rfl (by kernel_rfl) rfl) ?_
  intro g5
  refine zdc (i := 1) (z := .int .i64 0) (bytes := 8) rfl rfl rfl rfl Try.underlying48 (by kernel_rfl) rfl rfl rfl rfl (zao 0 rfl) (zcj _) (by first | omega | (simp; done) | (simp; omega)) (zco zs ([(n.ss.getD k sq0).it])) (zcx zs ([(n.ss.getD k sq0).it])) (fun _ => rfl) ?_
  intro v6
  refine enQ 1 rfl (zdn (reQ 1 rfl (hvQ rfl (vaQ rfl rfl rfl) (enQ 1 rfl ?_))))
  exact zdz (k + 1) v6 (zs ++ ([(n.ss.getD k sq0).it])) ⟨by omega, by rw [hz]; exact str_step n (by omega)⟩ (by omega) (saQ rfl) (slQ [1, 0] rfl)
 refine ntQ (zal rfl ?_)
 refine zby (zes ?_)
 refine zat (zaw (zbn 2 rfl ?_))
 exact zak (zev (post := [rI9 3 u zs]) rfl rfl (slQ [0] rfl) (by rw [hz, show k = n.ss.length by omega]))
theorem l09Bit_ans (xs : List Int) (l : Int) (v : Value) (w : World) (hv : RdsW w v 1 xs.length (xs.map (Value.int .i64))) (hl : 0 ≤ l ∧ l < 2 * xs.length) (h01 : xs.getD (l / 2).toNat 0 = 0 ∨ xs.getD (l / 2).toNat 0 = 1) (hlen : xs.length ≤ 100000) :
   Calls Try.prog 99 #[v, .int .i64 l] w (Ans w (.int .i64 (bitL xs l))) := by
 refine zbq (N := 13) (args := [v, .int .i64 l]) Try.func99 rfl rfl (zbn 1 rfl (zac (reQ 2 rfl ?_)))
 refine hvQ rfl (rv_quo rfl rfl rfl (by refine ⟨?_, ?_, ?_⟩ <;> omega)) ?_
 refine hvQ rfl (riQ 1 rfl rfl rfl rfl (zap hv)) (hvQ rfl (lzQ rfl rfl rfl (zap hv)) (zag 1 rfl (hvQ rfl (zcl rfl (by decide) rfl rfl (r := l % 2) (Bit.and_one _ (by omega) (by omega))) (hvQ rfl (zcl rfl (by decide) rfl rfl (r := bitL xs l) (xor01 h01)) (zbc 1 rfl ?_)))))
 exact zak (zbl rfl rfl rfl)
theorem specLitValue_ans (xs : List Int) (l : Int) (v : Value) (w : World) (hv : RdsW w v 1 xs.length (xs.map (Value.int .i64))) (hl : 0 ≤ l ∧ l < 2 * xs.length) (h01 : xs.getD (l / 2).toNat 0 = 0 ∨ xs.getD (l / 2).toNat 0 = 1) (hlen : xs.length ≤ 100000) :
   Calls Try.prog 40 #[v, .int .i64 l] w (Ans w (.int .i64 (bitL xs l))) := by
 refine zbq (N := 26) (args := [v, .int .i64 l]) Try.func40 rfl rfl (zbn 1 rfl (zac (zac (reQ 1 rfl ?_))))
 refine zcb rfl rfl rfl rfl rfl rfl (fun h1 => absurd h1 (by omega)) (fun h1 => ?_)
 refine zag 2 rfl (hvQ rfl (rv_quo rfl rfl rfl (by refine ⟨?_, ?_, ?_⟩ <;> omega)) ?_)
 refine zag 1 rfl (hvQ rfl (lnQ rfl rfl rfl (zap hv)) ?_)
 refine zfw rfl rfl rfl rfl rfl rfl (fun h2 => absurd h2 (by omega)) (fun h2 => ?_)
 refine zag 4 rfl (hvQ rfl (rv_quo rfl rfl rfl (by refine ⟨?_, ?_, ?_⟩ <;> omega)) ?_)
 refine hvQ rfl (riQ 1 rfl rfl rfl rfl (zap hv)) (hvQ rfl (lzQ rfl rfl rfl (zap hv)) ?_)
 refine zdu rfl (zam rfl rfl (fun w hm => zbb (zeb (xs.getD ((l / 2).toNat) 0) 0 1 w))) (zbz (fun h3 => ?_) (fun h3 => absurd ((((zcp _ _ _).2 (by omega))).symm.trans h3) (by decide)))
 refine zbc 2 rfl (zal rfl (zdb (zac (reQ 2 rfl ?_))))
 refine zdu rfl (zam rfl rfl (fun w hm => zbb (l09Bit_ans xs l _ w ((zap hv) w hm) (by omega) (by first | assumption | omega) (by omega)))) (zbc 1 rfl ?_)
 exact zak (zbl rfl rfl rfl)
theorem shr_rng {inp : Int} (h : 0 ≤ inp ∧ inp ≤ 4294967295) (k : Nat) : 0 ≤ inp / 2 ^ k ∧ inp / 2 ^ k < 4294967296 := by
  have hp : (0 : Int) < 2 ^ k := Int.pow_pos (by decide)
  have h1 := Int.ediv_nonneg h.1 (Int.le_of_lt hp)
  have h2 := Int.ediv_le_self (2 ^ k) h.1
  omega
theorem specNodeValues_ret (n : Nt) (st : List Int) (v : Value) (inp : Int) (w : World) (hr : RdsNt w n) (hn : NtOk n) (hst : RdsW w v 1 st.length (st.map (Value.int .i64))) (hso : StOk n st) (hin : 0 ≤ inp ∧ inp ≤ 4294967295) :
   Calls Try.prog 39 #[.agg #[.int .i64 n.ins, n.sv, n.av, n.ov], v, .int .i64 inp] w (Ret w (fun v' post => post = [rI9 3 v' (valsL n st inp)])) := by
 have hi0 := hn.i0
 have hi1 := hn.i1
 have hs1 := hn.s1
 have ha1 := hn.a1
 have ho1 := hn.o1
 have hcnt : n.cnt = 1 + n.ins + n.ss.length + n.gs.length := rfl
 have hfst : n.fst = 1 + n.ins + n.ss.length := rfl
 have hsl := hso.len
 refine zbq (N := 82) (args := [.agg #[.int .i64 n.ins, n.sv, n.av, n.ov], v, .int .i64 inp]) Try.func39 rfl rfl (srQ ?_)
 refine zed rfl (zdh rfl rfl) ?_
 intro b1
 refine zbc 1 rfl (zgk (hvQ rfl (zar (cs := [.int .i64 n.ins, n.sv, n.av, n.ov]) rfl rfl rfl rfl rfl (zah 0 rfl 0 rfl)) (zag 1 rfl ?_)))
 refine zdu rfl (zam rfl rfl (fun w hm => zbb (specStateOk_yes n st v w (hr.below hm.bel) hn (hst.below hm.bel) hso))) (zbc 1 rfl (zal rfl (zdb (srQ (hvQ rfl (zar (cs := [.int .i64 n.ins, n.sv, n.av, n.ov]) rfl rfl rfl rfl rfl (zah 0 rfl 0 rfl)) ?_)))))
 refine zdu rfl (zam rfl rfl (fun w hm => zbb (zeg n w (hr.below hm.bel) hn))) (zey rfl (rq_make (z := .int .i64 0) (s := 1) (bytes := 8) (n := (List.replicate (n.cnt).toNat (0 : Int)).length) (cs := ((List.replicate (n.cnt).toNat (0 : Int)).map (Value.int .i64))) rfl Try.underlying48 rfl (by decide) rfl rfl (by first | (rw [List.length_replicate]; done) | (rw [List.length_replicate]; omega)) (by first | (rw [List.length_replicate]; done) | (rw [List.length_replicate]; omega)) (by rw [List.length_replicate]; omega) (ints_make _)) ?_)
 intro g2
 refine zbc 1 rfl (zac (zbn 1 rfl (zbf ?_)))
 refine lkQ2 (α := Nat) (β := List Int) [0, 1, 2, 3, 6, 7, 14] rfl (fun k zs => [rI9 3 (.slice (some ⟨g2, 0, none⟩) ((List.replicate (n.cnt).toNat (0 : Int)).length) ((List.replicate (n.cnt).toNat (0 : Int)).length)) zs, nB9 b1 n]) (fun k zs => [(8, .int .i64 (k : Int))]) (fun k zs => (k : Int) ≤ n.ins ∧ zs = fillZ n.cnt.toNat (preA n inp k)) (fun k zs => (n.ins).toNat - k) 0 (List.replicate n.cnt.toNat (0 : Int)) ⟨by omega, fill_one (by omega)⟩ (saQ rfl) (pfQ rfl) ?_
 intro k zs hi3
 obtain ⟨hk, hz⟩ := hi3
 have hzl : zs.length = n.cnt.toNat := by rw [hz]; exact fill_len (by rw [zgz]; omega)
 refine zac (zac (reQ 1 rfl (hvQ rfl (fdQ 0 rfl rfl rfl) (hvQ rfl (zan rfl rfl rfl (zai 1 rfl rfl)) ?_))))
 refine zcb rfl rfl rfl rfl rfl rfl (fun h4 => ?_) (fun h4 => ?_)
 ·
  refine (zbu (zaw (zaj rfl (zgo (zaw (zac (zbf (zav (zag 2 rfl (hvQ rfl (vaQ rfl rfl rfl) (zag 2 rfl (hvQ rfl (rv_shr rfl rfl rfl (by omega)) (hvQ rfl (zcl rfl (by decide) rfl rfl (r := inp / 2 ^ k % 2) (by rw [show (inp / 2 ^ ((k : Int)).toNat : Int) = inp / 2 ^ k by rw [Int.toNat_natCast]]; exact Bit.and_one _ (shr_rng hin k).1 (shr_rng hin k).2)) ?_)))))))))))))
  refine hvQ rfl (riQ 1 rfl rfl rfl rfl (zao 0 rfl)) (hl_stE (i := 0) (n' := (zs.set ((1 + (k : Int)).toNat) (inp / 2 ^ k % 2)).length) (xs' := ((zs.set ((1 + (k : Int)).toNat) (inp / 2 ^ k % 2)).map (Value.int .i64))) rfl rfl rfl rfl rfl rfl rfl rfl (by first | omega | (simp only [List.length_set]; omega)) List.length_set.symm (zfc _ _ _) rfl ?_)
  refine zbu (zdn (reQ 1 rfl (hvQ rfl (vaQ rfl rfl rfl) (enQ 1 rfl ?_))))
  exact zci (k + 1) (zs.set ((1 + (k : Int)).toNat) (inp / 2 ^ k % 2)) ⟨by omega, by rw [hz]; exact (fill_set (by rw [zgz]; omega) (by rw [zgz]; omega)).trans (by rw [preA_step])⟩ (by omega) (saQ rfl) (pfQ rfl)
 refine ntQ (zal rfl ?_)
 refine zby (zes ?_)
 refine zat (zaw (zac (zbn 1 rfl (zbf ?_))))
 refine lkQ2 (α := Nat) (β := List Int) [0, 1, 2, 3, 6, 7, 14, 22] rfl (fun k zs => [rI9 3 (.slice (some ⟨g2, 0, none⟩) ((List.replicate (n.cnt).toNat (0 : Int)).length) ((List.replicate (n.cnt).toNat (0 : Int)).length)) zs, nB9 b1 n]) (fun k zs => [(9, .int .i64 (k : Int))]) (fun k zs => (k : Int) ≤ (st.length : Int) ∧ zs = fillZ n.cnt.toNat (preB n st inp k)) (fun k zs => ((st.length : Int)).toNat - k) 0 zs ⟨by omega, by rw [hz, show k = n.ins.toNat by omega, preB_zero n st inp]⟩ (saQ rfl) (pfQ rfl) ?_
 intro k zs hi5
 obtain ⟨hk, hz⟩ := hi5
 have hzl : zs.length = n.cnt.toNat := by rw [hz]; exact fill_len (by rw [preB_len n st inp (by omega)]; omega)
 refine zac (zac (reQ 2 rfl (hvQ rfl (lnQ rfl rfl rfl (zap hst)) ?_)))
 refine zcb rfl rfl rfl rfl rfl rfl (fun h6 => ?_) (fun h6 => ?_)
 ·
  refine ntQ (zaj rfl (zdb (sbQ ?_)))
  have hsk := hso.rng k (by omega)
  refine zdp 12 [[], [], [1], [2], [], [3, 4], [], [], [6, 7], [8], [9], [0, 5]] [39, 40, 41, 42, 43, 44, 45, 46, 47, 48, 49, 50] [.slice (some ⟨g2, 0, none⟩) ((List.replicate (n.cnt).toNat (0 : Int)).length) ((List.replicate (n.cnt).toNat (0 : Int)).length), .pointer (some ⟨b1, 0 + 0, none⟩), .int .i64 n.ins, .int .i64 (1 + n.ins), .int .i64 (k : Int), .int .i64 ((1 + n.ins) + (k : Int)), v, .int .i64 (k : Int), elP v (((k : Int)).toNat * 1), .int .i64 (st.getD k 0), .int .i64 ((st.getD k 0) % 2), elP (.slice (some ⟨g2, 0, none⟩) ((List.replicate (n.cnt).toNat (0 : Int)).length) ((List.replicate (n.cnt).toNat (0 : Int)).length)) (((1 + n.ins) + (k : Int)).toNat * 1)] (by kernel_rfl) rfl ?_ ?_
  ·
   exact ⟨iaQ rfl (zax rfl) rfl, iaQ rfl (fdQ 0 rfl rfl rfl) rfl, iaQ rfl (zan rfl rfl rfl (zai 1 rfl rfl)) rfl, iaQ rfl (vaQ rfl rfl rfl) rfl, iaQ rfl (zax rfl) rfl, iaQ rfl (vaQ rfl rfl rfl) rfl, iaQ rfl (zax rfl) rfl, iaQ rfl (zax rfl) rfl, iaQ rfl (riQ 1 rfl rfl rfl rfl (zap hst)) rfl, iaQ rfl (liQ rfl rfl rfl (zap hst)) rfl, iaQ rfl (zcl rfl (by decide) rfl rfl (r := (st.getD k 0) % 2) (Bit.and_one _ (by omega) (by omega))) rfl, iaQ rfl (riQ 1 rfl rfl rfl rfl (zao 0 rfl)) rfl, trivial⟩
  simp only [List.drop_succ_cons, List.drop_zero]
  refine hl_stE (i := 0) (n' := (zs.set (((1 + n.ins) + (k : Int)).toNat) ((st.getD k 0) % 2)).length) (xs' := ((zs.set (((1 + n.ins) + (k : Int)).toNat) ((st.getD k 0) % 2)).map (Value.int .i64))) rfl rfl rfl rfl rfl rfl rfl rfl (by first | omega | (simp only [List.length_set]; omega)) List.length_set.symm (zfc _ _ _) rfl (zbu (zdn (reQ 1 rfl (hvQ rfl (vaQ rfl rfl rfl) (enQ 1 rfl ?_)))))
  exact zci (k + 1) (zs.set (((1 + n.ins) + (k : Int)).toNat) ((st.getD k 0) % 2)) ⟨by omega, by rw [hz]; exact (fill_set (by rw [preB_len n st inp (by omega)]; omega) (by rw [preB_len n st inp (by omega)]; omega)).trans (by rw [preB_step n st inp (by omega)])⟩ (by omega) (saQ rfl) (pfQ rfl)
 refine ntQ (zal rfl ?_)
 refine zby (zes ?_)
 refine zat (zaw (zac (zbn 1 rfl (zbf ?_))))
 refine lkQ2 (α := Nat) (β := List Int) [0, 1, 2, 3, 6, 7, 14, 22, 36] rfl (fun k zs => [rI9 3 (.slice (some ⟨g2, 0, none⟩) ((List.replicate (n.cnt).toNat (0 : Int)).length) ((List.replicate (n.cnt).toNat (0 : Int)).length)) zs, nB9 b1 n]) (fun k zs => [(10, .int .i64 (k : Int))]) (fun k zs => (k : Int) ≤ (n.gs.length : Int) ∧ zs = fillZ n.cnt.toNat (valL n st inp k)) (fun k zs => ((n.gs.length : Int)).toNat - k) 0 zs ⟨by omega, by rw [hz, show k = st.length by omega, preB_end]⟩ (saQ rfl) (pfQ rfl) ?_
 intro k zs hi7
 obtain ⟨hk, hz⟩ := hi7
 have hzl : zs.length = n.cnt.toNat := by rw [hz]; exact fill_len (by rw [zez n st inp k (by omega)]; omega)
 have hvl := zez n st inp k (by omega)
 have hv01 := val01 hn hsl inp k (by omega)
 refine zac (zac (reQ 1 rfl (hvQ rfl (fdQ 2 rfl rfl rfl) (hvQ rfl (zan rfl rfl rfl (zai 1 rfl rfl)) (hvQ rfl (lnQ rfl rfl rfl (zap hr.an)) ?_)))))
 refine zcb rfl rfl rfl rfl rfl rfl (fun h8 => ?_) (fun h8 => ?_)
 ·
  refine ntQ (zaj rfl (zdb (sbQ ?_)))
  have hak := hn.an k (by omega)
  obtain ⟨⟨hA0, hA1⟩, hC0, hC1⟩ := id hak
  have hg1 : zs.getD ((n.gs.getD k an0).a / 2).toNat 0 = (valL n st inp k).getD ((n.gs.getD k an0).a / 2).toNat 0 := by rw [hz]; exact fill_get (by omega)
  have hg2 : zs.getD ((n.gs.getD k an0).b / 2).toNat 0 = (valL n st inp k).getD ((n.gs.getD k an0).b / 2).toNat 0 := by rw [hz]; exact fill_get (by omega)
  have hA : zs.getD ((n.gs.getD k an0).a / 2).toNat 0 = 0 ∨ zs.getD ((n.gs.getD k an0).a / 2).toNat 0 = 1 := by rw [hg1]; exact hv01 _ (by omega)
  have hB : zs.getD ((n.gs.getD k an0).b / 2).toNat 0 = 0 ∨ zs.getD ((n.gs.getD k an0).b / 2).toNat 0 = 1 := by rw [hg2]; exact hv01 _ (by omega)
  have hB1 : bitL zs (n.gs.getD k an0).a = bitL (valL n st inp k) (n.gs.getD k an0).a := by unfold bitL; rw [hg1]
  have hB2 : bitL zs (n.gs.getD k an0).b = bitL (valL n st inp k) (n.gs.getD k an0).b := by unfold bitL; rw [hg2]
  have hP1 : bitL zs (n.gs.getD k an0).a = 0 ∨ bitL zs (n.gs.getD k an0).a = 1 := by rw [hB1]; exact bit01 hv01 hA0 (by omega)
  have hP2 : bitL zs (n.gs.getD k an0).b = 0 ∨ bitL zs (n.gs.getD k an0).b = 1 := by rw [hB2]; exact bit01 hv01 hC0 (by omega)
  refine zdp 23 [[], [], [1], [], [2, 3], [], [], [6], [], [7, 8], [9], [10], [5, 11], [], [], [14], [], [15, 16], [17], [18], [13, 19], [12, 20], [0, 4]] [58, 59, 60, 61, 62, 63, 64, 65, 66, 67, 68, 69, 70, 71, 72, 73, 74, 75, 76, 77, 78, 79, 80] [.slice (some ⟨g2, 0, none⟩) ((List.replicate (n.cnt).toNat (0 : Int)).length) ((List.replicate (n.cnt).toNat (0 : Int)).length), .agg #[.int .i64 n.ins, n.sv, n.av, n.ov], .int .i64 n.fst, .int .i64 (k : Int), .int .i64 (n.fst + (k : Int)), .slice (some ⟨g2, 0, none⟩) ((List.replicate (n.cnt).toNat (0 : Int)).length) ((List.replicate (n.cnt).toNat (0 : Int)).length), .pointer (some ⟨b1, 0 + 2, none⟩), n.av, .int .i64 (k : Int), elP n.av (((k : Int)).toNat * 2), elP n.av (((k : Int)).toNat * 2 + 0), .int .i64 ((n.gs.getD k an0).a), .int .i64 (bitL zs ((n.gs.getD k an0).a)), .slice (some ⟨g2, 0, none⟩) ((List.replicate (n.cnt).toNat (0 : Int)).length) ((List.replicate (n.cnt).toNat (0 : Int)).length), .pointer (some ⟨b1, 0 + 2, none⟩), n.av, .int .i64 (k : Int), elP n.av (((k : Int)).toNat * 2), elP n.av (((k : Int)).toNat * 2 + 1), .int .i64 ((n.gs.getD k an0).b), .int .i64 (bitL zs ((n.gs.getD k an0).b)), .int .i64 ((bitL zs ((n.gs.getD k an0).a)) * (bitL zs ((n.gs.getD k an0).b))), elP (.slice (some ⟨g2, 0, none⟩) ((List.replicate (n.cnt).toNat (0 : Int)).length) ((List.replicate (n.cnt).toNat (0 : Int)).length)) ((n.fst + (k : Int)).toNat * 1)] (by kernel_rfl) rfl ?_ ?_
  ·
   exact ⟨iaQ rfl (zax rfl) rfl, iaQ rfl (zar (cs := [.int .i64 n.ins, n.sv, n.av, n.ov]) rfl rfl rfl rfl rfl (zah 1 rfl 0 rfl)) rfl, .inl ⟨rfl, zam rfl rfl (fun w hm => zbb (zgm n w (hr.below hm.bel) hn))⟩, iaQ rfl (zax rfl) rfl, iaQ rfl (vaQ rfl rfl rfl) rfl, iaQ rfl (zax rfl) rfl, iaQ rfl (fdQ 2 rfl rfl rfl) rfl, iaQ rfl (zan rfl rfl rfl (zai 1 rfl rfl)) rfl, iaQ rfl (zax rfl) rfl, iaQ rfl (riQ 2 rfl rfl rfl rfl (zap hr.an)) rfl, iaQ rfl (zde (k0 := 0) rfl rfl rfl (zap hr.an) (by omega)) rfl, iaQ rfl (zba (u := .int .i64 ((n.gs.getD k an0).a)) rfl rfl rfl (zap hr.an) ((zef anC 2 (fun _ => rfl) n.gs an0 (show k < _ by omega) (by decide)).trans rfl)) rfl, .inl ⟨rfl, zam rfl rfl (fun w hm => zbb (l09Bit_ans zs ((n.gs.getD k an0).a) _ w ((zao 0 rfl) w hm) (by omega) (by first | assumption | omega) (by omega)))⟩, iaQ rfl (zax rfl) rfl, iaQ rfl (fdQ 2 rfl rfl rfl) rfl, iaQ rfl (zan rfl rfl rfl (zai 1 rfl rfl)) rfl, iaQ rfl (zax rfl) rfl, iaQ rfl (riQ 2 rfl rfl rfl rfl (zap hr.an)) rfl, iaQ rfl (zde (k0 := 1) rfl rfl rfl (zap hr.an) (by omega)) rfl, iaQ rfl (zba (u := .int .i64 ((n.gs.getD k an0).b)) rfl rfl rfl (zap hr.an) ((zef anC 2 (fun _ => rfl) n.gs an0 (show k < _ by omega) (by decide)).trans rfl)) rfl, .inl ⟨rfl, zam rfl rfl (fun w hm => zbb (l09Bit_ans zs ((n.gs.getD k an0).b) _ w ((zao 0 rfl) w hm) (by omega) (by first | assumption | omega) (by omega)))⟩, iaQ rfl (zcl rfl (by decide) rfl rfl (r := (bitL zs ((n.gs.getD k an0).a)) * (bitL zs ((n.gs.getD k an0).b))) (and01 hP1 hP2)) rfl, iaQ rfl (riQ 1 rfl rfl rfl rfl (zao 0 rfl)) rfl, trivial⟩
  simp only [List.drop_succ_cons, List.drop_zero]
  refine hl_stE (i := 0) (n' := (zs.set ((n.fst + (k : Int)).toNat) ((bitL zs ((n.gs.getD k an0).a)) * (bitL zs ((n.gs.getD k an0).b)))).length) (xs' := ((zs.set ((n.fst + (k : Int)).toNat) ((bitL zs ((n.gs.getD k an0).a)) * (bitL zs ((n.gs.getD k an0).b)))).map (Value.int .i64))) rfl rfl rfl rfl rfl rfl rfl rfl (by first | omega | (simp only [List.length_set]; omega)) List.length_set.symm (zfc _ _ _) rfl (zbu (zdn (reQ 1 rfl (hvQ rfl (vaQ rfl rfl rfl) (enQ 1 rfl ?_)))))
  exact zci (k + 1) (zs.set ((n.fst + (k : Int)).toNat) ((bitL zs ((n.gs.getD k an0).a)) * (bitL zs ((n.gs.getD k an0).b)))) ⟨by omega, by rw [hB1, hB2, hz, show (n.fst + (k : Int)).toNat = (valL n st inp k).length by omega, val_step n st inp (by omega)]; exact fill_set rfl (by omega)⟩ (by omega) (saQ rfl) (pfQ rfl)
 refine ntQ (zal rfl ?_)
 refine zby (zes ?_)
 refine zat (zaw (zbn 2 rfl ?_))
 exact zak (zev (post := [rI9 3 (.slice (some ⟨g2, 0, none⟩) ((List.replicate (n.cnt).toNat (0 : Int)).length) ((List.replicate (n.cnt).toNat (0 : Int)).length)) zs]) rfl rfl (slQ [0] rfl) (by rw [hz, show k = n.gs.length by omega, fill_all (by rw [zez n st inp _ (Nat.le_refl _)]; omega)]))
def tauOk4 (os : List Oper) (m K : Nat) (dps qd : List (List Nat)) (tau : List (Option Nat)) (fl : List Nat) : Bool :=
  (List.range m).all (fun i => (qd.getD i []).all (fun j => ((dps.getD i []).contains j || (Nat.ble os.length j && Nat.blt j (os.length + K))) && (List.range m).all (fun k => tau.getD k none != some j || (k != i && ((msk ((List.range os.length).map (depsOf os)) []).getD k 0).testBit i))) && decide ((qd.getD i []).Nodup)) &&
  (List.range m).all (fun i => match tau.getD i none with | none => true | some h => ((Nat.ble os.length h && Nat.blt h (os.length + K)) || (dps.getD i []).contains h) && (List.range m).all (fun k => k == i || tau.getD k none != some h)) &&
  fl.all (fun j => (Nat.blt j m || (Nat.ble os.length j && Nat.blt j (os.length + K))) && (List.range m).all (fun k => tau.getD k none != some j)) && decide fl.Nodup
section
variable {P : Program} {N : Nat} {w0 : World} {l : List HP} {env : List (Nat × Value)} {Q : Post} {os : List Oper} {m : Nat} {dps : List (List Nat)} {dsts : List (Option Nat)} {R : Nat → List Value → Value → List HP → Prop}
structure Mid4 (N : Nat) (w0 : World) (l : List HP) (env : List (Nat × Value)) (os : List Oper) (m : Nat) (dps : List (List Nat)) (dsts : List (Option Nat)) (R : Nat → List Value → Value → List HP → Prop) (tau : List (Option Nat)) (P0 : List (List HP)) (listed : Array Bool) (ord held : List Nat) (vf : Nat → Value) (pf : Nat → List HP) (a : Act) (w : World) : Prop where
  size : listed.size = os.length
  iff : ∀ i, i < os.length → (listed.getD i true = true ↔ i ∈ ord)
  low : ∀ i ∈ ord, i < m
  closed : ∀ i ∈ ord, ∀ j ∈ depsOf os i, j ∈ ord
  nodup : ord.Nodup
  dcl : ∀ i ∈ ord, ∀ j ∈ dps.getD i [], j ∈ ord
  rel : ∀ i ∈ ord, R i ((dps.getD i []).map vf) (vf i) (pf i)
  hn : held.Nodup
  hin : ∀ i ∈ held, i ∈ ord ∨ (os.length ≤ i ∧ i < os.length + P0.length)
  hall : ∀ i, (i ∈ ord ∨ (os.length ≤ i ∧ i < os.length + P0.length)) → (∀ j ∈ ord, tau.getD j none ≠ some i) → i ∈ held
  hP : ∀ k, k < P0.length → pf (os.length + k) = P0.getD k []
  mem : Mem w0 (held.flatMap pf ++ l) w
  asize : a.tmps.size = N
  defers : a.defers = []
  env : ∀ d v, lk env d = some v → a.tmps[d]? = some v
  slots : ∀ i ∈ ord, ∀ d, dsts[i]? = some (some d) → a.tmps[d]? = some (vf i)
theorem Mid4.st {tau P0 listed ord held vf pf a w} (h : Mid4 N w0 l env os m dps dsts R tau P0 listed ord held vf pf a w) (hm : m ≤ dsts.length) {is : List Nat} (hs : ∀ j ∈ is, j ∈ ord) {L : List HP} (hM : Mem w0 L w) : St N w0 L (envOf3 dsts vf is ++ env) a w := by
  refine ⟨hM, h.asize, h.defers, fun d v hd => ?_⟩
  rcases lk_append _ _ _ _ hd with h1 | h1
  · unfold envOf3 at h1
    rw [List.mem_filterMap] at h1
    obtain ⟨i, hi, he⟩ := h1
    rw [Option.map_eq_some_iff] at he
    obtain ⟨d', hd', he⟩ := he
    simp only [Prod.mk.injEq] at he
    obtain ⟨rfl, rfl⟩ := he
    have : dsts[i]? = some (some d') := by
      rw [List.getD_eq_getElem?_getD] at hd'
      cases hx : dsts[i]? with
      | none => rw [hx] at hd'; cases hd'
      | some y => rw [hx] at hd'; exact congrArg some hd'
    exact h.slots i (hs i hi) _ this
  · exact h.env d v h1
theorem hc_drawn4 {id : Nat} (hmix : P.follows .mixedOrders = true) (m : Nat) (dps : List (List Nat)) (dsts : List (Option Nat)) (R : Nat → List Value → Value → List HP → Prop) (qd : List (List Nat)) (tau : List (Option Nat)) (P0 : List (List HP)) (fl : List Nat) (hok : drawOk3 os m dps dsts = true) (htau : tauOk4 os m P0.length dps qd tau fl = true) (hfresh : dsts.all (fun d => match d with | some d => (lk env d).isNone | none => true) = true) (hN : dsts.all (fun d => match d with | some d => Nat.blt d N | none => true) = true)
    (due : ∀ i o, os[i]? = some o → i < m → ∀ vf pf, (∀ k, k < P0.length → pf (os.length + k) = P0.getD k []) → (∀ j ∈ dps.getD i [], R j ((dps.getD j []).map vf) (vf j) (pf j)) → Obl2 P os.toArray N w0 (tau.getD i none) pf ((qd.getD i []).flatMap pf ++ l) (envOf3 dsts vf (dps.getD i []) ++ env) o (R i ((dps.getD i []).map vf)))
    (fin : ∀ vf pf, (∀ k, k < P0.length → pf (os.length + k) = P0.getD k []) → (∀ i, i < m → R i ((dps.getD i []).map vf) (vf i) (pf i)) → HL P N os.toArray w0 (fl.flatMap pf ++ l) (envOf3 dsts vf (List.range m) ++ env) (os.drop m) Q) : HC P N w0 (P0.flatten ++ l) env (.region id os.toArray true) Q := by
  intro a w st
  refine wp_region_any hmix ?_
  simp only [drawOk3, Bool.and_eq_true, Nat.ble_eq, List.all_eq_true, List.mem_range, Bool.or_eq_true, Nat.blt_eq, beq_iff_eq, decide_eq_true_eq, Array.all_eq_true', bne_iff_ne] at hok
  obtain ⟨⟨⟨⟨⟨⟨hml, hback⟩, hcov⟩, hready⟩, hdst⟩, hdn⟩, hdp⟩ := hok
  simp only [tauOk4, Bool.and_eq_true, List.all_eq_true, List.mem_range, Bool.or_eq_true, Nat.blt_eq, Nat.ble_eq, beq_iff_eq, bne_iff_ne, decide_eq_true_eq, List.contains_iff_mem] at htau
  obtain ⟨⟨⟨hqd, hth⟩, hfl⟩, hfn⟩ := htau
  have hml' : m ≤ dsts.length := by have := congrArg List.length hdst; simp at this; omega
  have hlen : dsts.length = m := by have := congrArg List.length hdst; simp at this; omega
  have hrdy : ∀ k, m ≤ k → k < os.length → Region.ready .any os.toArray (preT os.length k) = [k] := fun k h1 h2 => by
    have := hready (k - m) (by omega)
    rw [show m + (k - m) = k by omega] at this
    exact this
  have hmsk : ∀ i j, ((msk ((List.range os.length).map (depsOf os)) []).getD i 0).testBit j = true → Dep os i j := msk_dep os _ _ (fun t ds ht d hd => by
    rw [List.getElem?_map] at ht
    by_cases h : t < os.length
    · rw [List.getElem?_range h] at ht; simp at ht; subst ht; simpa using hd
    · rw [List.getElem?_eq_none (by simp; omega)] at ht; cases ht) (fun i j h => by simp at h)
  have dstAt : ∀ i, i < m → ∀ o, os[i]? = some o → o.dst = dsts.getD i none := fun i hi o ho => by
    have h1 : ((os.take m).map (·.dst))[i]? = some o.dst := by rw [List.getElem?_map, List.getElem?_take, if_pos hi, ho]; rfl
    rw [hdst] at h1
    rw [List.getD_eq_getElem?_getD, h1]; rfl
  -- what may come up
  have key : ∀ (f : Nat) (listed : Array Bool) (ord held : List Nat) (vf : Nat → Value) (pf : Nat → List HP) (a : Act) (w : World), f + ord.length = os.length → Mid4 N w0 l env os m dps dsts R tau P0 listed ord held vf pf a w → wpAny P .any os.toArray Q f listed a w := by
    intro f
    induction f with
    | zero =>
      intro listed ord held vf pf a w hf h
      -- all are listed: m = the length
      have hall : ∀ i, i < os.length → i ∈ ord := by
        intro i hi
        have hsub : ord.Perm (List.range os.length) ∨ True := .inr trivial
        obtain ⟨r, hr⟩ := zeu ord (List.range os.length) h.nodup (fun j hj => by have := h.low j hj; simp; omega)
        have hl := hr.length_eq
        simp at hl
        have : r = [] := List.length_eq_zero_iff.1 (by omega)
        subst this
        have := hr.mem_iff.1 (List.mem_range.2 hi)
        simpa using this
      have hm2 : m = os.length := by
        by_cases hc : m < os.length
        · have := h.low m (hall m hc); omega
        · omega
      have hp : listed = preT os.length m := by
        apply Array.ext
        · rw [h.size, zet _ _ hml]
        · intro i h1 h2
          have hi : i < os.length := by rw [h.size] at h1; exact h1
          have e1 := (h.iff i hi).2 (hall i hi)
          have e2 := zgb os.length m i hml hi
          rw [Array.getD_eq_getD_getElem?, Array.getElem?_eq_getElem h1] at e1
          rw [Array.getD_eq_getD_getElem?, Array.getElem?_eq_getElem h2] at e2
          simp only [Option.getD_some] at e1 e2
          rw [e1, e2]; simp; omega
      rw [hp]
      refine zgw hrdy 0 m (Nat.le_refl _) (by omega) a w ?_
      exact fin vf pf h.hP (fun i hi => h.rel i (hall i (by omega))) a w (h.st hml' (fun j hj => hall j (by rw [List.mem_range] at hj; omega)) (h.mem.pick hfn (fun j hj => h.hall j ((hfl j hj).1.imp (fun hlt => hall j (by omega)) (fun x => x)) (fun k hk => (hfl j hj).2 k (h.low k hk)))))
    | succ f ih =>
      intro listed ord held vf pf a w hf h
      by_cases hall : ∀ i, i < m → i ∈ ord
      · -- the tail's turn
        have hp : listed = preT os.length m := by
          apply Array.ext
          · rw [h.size, zet _ _ hml]
          · intro i h1 h2
            have hi : i < os.length := by rw [h.size] at h1; exact h1
            have e1 := h.iff i hi
            have e2 := zgb os.length m i hml hi
            rw [Array.getD_eq_getD_getElem?, Array.getElem?_eq_getElem h1] at e1
            rw [Array.getD_eq_getD_getElem?, Array.getElem?_eq_getElem h2] at e2
            simp only [Option.getD_some] at e1 e2
            rw [e2, Bool.eq_iff_iff, e1, decide_eq_true_eq]
            exact ⟨fun hx => h.low i hx, fun hx => hall i hx⟩
        have hord : ord.length = m := by
          obtain ⟨r, hr⟩ := zeu ord (List.range m) h.nodup (fun j hj => by have := h.low j hj; simpa using this)
          obtain ⟨r', hr'⟩ := zeu (List.range m) ord List.nodup_range (fun j hj => hall j (by simpa using hj))
          have h1 := hr.length_eq
          have h2 := hr'.length_eq
          simp at h1 h2
          omega
        rw [hp]
        refine zgw hrdy (f + 1) m (Nat.le_refl _) (by omega) a w ?_
        exact fin vf pf h.hP (fun i hi => h.rel i (hall i hi)) a w (h.st hml' (fun j hj => hall j (by simpa using hj)) (h.mem.pick hfn (fun j hj => h.hall j ((hfl j hj).1.imp (fun hlt => hall j hlt) (fun x => x)) (fun k hk => (hfl j hj).2 k (h.low k hk)))))
      · -- some quiet one is not done yet
        have hsome : ∃ i, i < m ∧ i ∉ ord := by
          by_cases hx : ∃ i, i < m ∧ i ∉ ord
          · exact hx
          · exact absurd (fun i hi => Decidable.byContradiction fun hn => hx ⟨i, hi, hn⟩) hall
        have mem_rdy : ∀ i, i ∈ Region.ready .any os.toArray listed ↔ i < os.length ∧ i ∉ ord ∧ ∀ j ∈ depsOf os i, j ∈ ord := by
          intro i
          unfold Region.ready
          rw [List.mem_filter, List.mem_range]
          simp only [List.size_toArray]
          constructor
          · rintro ⟨hi, hb⟩
            rw [Bool.and_eq_true] at hb
            have hno : i ∉ ord := fun hx => by rw [(h.iff i hi).2 hx] at hb; simp at hb
            refine ⟨hi, hno, fun j hj => ?_⟩
            have ho : os.toArray[i]? = some os[i] := by simp [hi]
            rw [ho] at hb
            simp only [Option.map_some, Option.getD_some, Array.all_eq_true'] at hb
            unfold depsOf at hj
            rw [List.getElem?_eq_getElem hi] at hj
            simp only [List.mem_map, List.mem_filter] at hj
            obtain ⟨e, ⟨he, hbd⟩, rfl⟩ := hj
            have hb2 := hb.2 e (by simpa using he)
            rw [hbd] at hb2
            simp at hb2
            have hlt := hback i hi e.on (by unfold depsOf; rw [List.getElem?_eq_getElem hi]; exact List.mem_map.2 ⟨e, List.mem_filter.2 ⟨he, hbd⟩, rfl⟩)
            refine (h.iff e.on (by omega)).1 ?_
            have hs : e.on < listed.size := by rw [h.size]; omega
            rw [Array.getD_eq_getD_getElem?, Array.getElem?_eq_getElem hs] 
            simp only [Option.getD_some]
            rw [Array.getElem?_eq_getElem hs] at hb2
            simpa using hb2
          · rintro ⟨hi, hno, hd⟩
            refine ⟨hi, ?_⟩
            have ho : os.toArray[i]? = some os[i] := by simp [hi]
            rw [ho]
            simp only [Option.map_some, Option.getD_some, Bool.and_eq_true, Array.all_eq_true']
            refine ⟨?_, fun e he => ?_⟩
            · cases hb : listed.getD i true with
              | true => exact absurd ((h.iff i hi).1 hb) hno
              | false => rfl
            · rw [Bool.or_eq_true]
              by_cases hbd : Region.binds .any e = true
              rotate_left
              · left; simpa using hbd
              right
              have hon : e.on ∈ depsOf os i := by unfold depsOf; rw [List.getElem?_eq_getElem hi]; exact List.mem_map.2 ⟨e, List.mem_filter.2 ⟨by simpa using he, hbd⟩, rfl⟩
              have hlt := hback i hi e.on hon
              have := (h.iff e.on (by omega)).2 (hd e.on hon)
              have hs : e.on < listed.size := by rw [h.size]; omega
              rw [Array.getD_eq_getD_getElem?, Array.getElem?_eq_getElem hs] at this
              simp only [Option.getD_some] at this
              rw [Array.getD_eq_getD_getElem?, Array.getElem?_eq_getElem hs]
              simpa using this
        have hdep : ∀ k j, Dep os k j → (∀ d ∈ depsOf os k, d ∈ ord) → j ∈ ord := by
          intro k j hd
          induction hd with
          | one hj => intro hx; exact hx _ hj
          | more hk _ ih2 => intro hx; exact ih2 (fun d hd => h.closed _ (hx _ hk) d hd)
        have hlow : ∀ i ∈ Region.ready .any os.toArray listed, i < m := by
          intro i hi
          obtain ⟨h1, h2, h3⟩ := (mem_rdy i).1 hi
          by_cases hc : i < m
          · exact hc
          · exfalso
            obtain ⟨q, hq, hqn⟩ := hsome
            rcases hcov i h1 with h4 | h4
            · exact hc h4
            · exact hqn (hdep i q (hmsk i q (h4 q hq)) h3)
        refine ⟨fun h0 => ?_, fun i hi => ?_⟩
        · -- the least one that is not done may come up
          exfalso
          obtain ⟨q, hq, hqn⟩ := hsome
          obtain ⟨p, hp, hmin⟩ := exists_least (p := fun i => i < m ∧ i ∉ ord) ⟨q, hq, hqn⟩
          have : p ∈ Region.ready .any os.toArray listed := by
            rw [mem_rdy]
            refine ⟨by omega, hp.2, fun j hj => ?_⟩
            have hlt := hback p (by omega) j hj
            apply Decidable.byContradiction
            intro hn
            have := hmin j ⟨by omega, hn⟩
            omega
          rw [h0] at this
          cases this
        · have him := hlow i hi
          obtain ⟨h1, h2, h3⟩ := (mem_rdy i).1 hi
          have ho : os[i]? = some os[i] := List.getElem?_eq_getElem h1
          have hdps := hdp i him
          have hsub : ∀ j ∈ dps.getD i [], j ∈ ord := fun j hj => hdep i j (hmsk i j (hdps.1 j hj)) h3
          have hqi := hqd i him
          have hqheld : ∀ j ∈ qd.getD i [], j ∈ held := fun j hj => h.hall j ((hqi.1 j hj).1.imp (hsub j) (fun x => x)) (fun k hk => by
            rcases (hqi.1 j hj).2 k (h.low k hk) with h5 | ⟨-, h6⟩
            · exact h5
            · exact absurd (hdep k i (hmsk k i h6) (h.closed k hk)) h2)
          have hobl := due i os[i] ho him vf pf h.hP (fun j hj => h.rel j (hsub j hj))
          have hdd := dstAt i him _ ho
          have hdlt : ∀ d, dsts.getD i none = some d → d < N := fun d hd => by
            have := List.all_eq_true.1 hN (some d) (by rw [← hd, List.getD_eq_getElem?_getD, List.getElem?_eq_getElem (by omega)]; exact List.getElem_mem _)
            simpa [Nat.blt_eq] using this
          have hdnone : ∀ d, dsts.getD i none = some d → lk env d = none := fun d hd => by
            have := List.all_eq_true.1 hfresh (some d) (by rw [← hd, List.getD_eq_getElem?_getD, List.getElem?_eq_getElem (by omega)]; exact List.getElem_mem _)
            simpa using this
          have hne : ∀ j ∈ ord, j ≠ i := fun j hj e => h2 (e ▸ hj)
          have hneh : ∀ j ∈ held, j ≠ i := fun j hj e => by
            rcases h.hin j hj with h5 | h5
            · exact hne j h5 e
            · omega
          have next : ∀ (held' : List Nat) v post w', held'.Nodup → (∀ k ∈ held', k ∈ i :: ord ∨ (os.length ≤ k ∧ k < os.length + P0.length)) → (∀ k, (k ∈ i :: ord ∨ (os.length ≤ k ∧ k < os.length + P0.length)) → (∀ j ∈ i :: ord, tau.getD j none ≠ some k) → k ∈ held') → R i ((dps.getD i []).map vf) v post →
              Mem w0 (held'.flatMap (fun k => if k = i then post else pf k) ++ l) w' → wpAny P .any os.toArray Q f (listed.setIfInBounds i true) (a.put (dsts.getD i none) v) w' := by
            intro held' v post w' hh1 hh2 hh3 hv hm
            refine ih (listed.setIfInBounds i true) (i :: ord) held' (fun k => if k = i then v else vf k) (fun k => if k = i then post else pf k) _ w' (by simp; omega) ⟨?_, ?_, ?_, ?_, ?_, ?_, ?_, hh1, hh2, hh3, ?_, hm, ?_, ?_, ?_, ?_⟩
            · simp [h.size]
            · intro k hk
              by_cases hki : k = i
              · subst hki
                have hs : k < listed.size := by rw [h.size]; exact hk
                simp [Array.getD_eq_getD_getElem?, hs]
              · rw [getD_set_ne true (fun e => hki e.symm), h.iff k hk]
                simp [hki]
            · intro k hk; rcases List.mem_cons.1 hk with rfl | hk; exact him; exact h.low k hk
            · intro k hk j hj
              rcases List.mem_cons.1 hk with rfl | hk
              · exact List.mem_cons_of_mem _ (h3 j hj)
              · exact List.mem_cons_of_mem _ (h.closed k hk j hj)
            · exact List.nodup_cons.2 ⟨h2, h.nodup⟩
            · intro k hk j hj
              rcases List.mem_cons.1 hk with rfl | hk
              · exact List.mem_cons_of_mem _ (hsub j hj)
              · exact List.mem_cons_of_mem _ (h.dcl k hk j hj)
            · intro k hk
              rcases List.mem_cons.1 hk with rfl | hk
              · have e : (dps.getD k []).map (fun j => if j = k then v else vf j) = (dps.getD k []).map vf := List.map_congr_left fun j hj => if_neg (hne j (hsub j hj))
                rw [e, if_pos rfl, if_pos rfl]; exact hv
              · have e : (dps.getD k []).map (fun j => if j = i then v else vf j) = (dps.getD k []).map vf := List.map_congr_left fun j hj => if_neg (hne j (h.dcl k hk j hj))
                rw [e, if_neg (hne k hk), if_neg (hne k hk)]; exact h.rel k hk
            · intro k hk; rw [if_neg (by omega)]; exact h.hP k hk
            · cases hdi : dsts.getD i none <;> simp [Act.put, h.asize]
            · cases hdi : dsts.getD i none <;> exact h.defers
            · intro d u hd
              cases hdi : dsts.getD i none with
              | none => exact h.env d u hd
              | some d0 =>
                have hdne : d0 ≠ d := fun e => by rw [← e, hdnone _ hdi] at hd; cases hd
                simp only [Act.put]
                rw [Array.getElem?_setIfInBounds_ne hdne]
                exact h.env d u hd
            · intro k hk d hd
              cases hdi : dsts.getD i none with
              | none =>
                rcases List.mem_cons.1 hk with rfl | hk
                · rw [List.getD_eq_getElem?_getD, hd] at hdi; cases hdi
                · show a.tmps[d]? = _
                  rw [if_neg (hne k hk)]; exact h.slots k hk d hd
              | some d0 =>
                have hlt : d0 < a.tmps.size := by rw [h.asize]; exact hdlt _ hdi
                rcases List.mem_cons.1 hk with rfl | hk
                · have : d = d0 := by rw [List.getD_eq_getElem?_getD, hd] at hdi; exact Option.some.inj hdi
                  subst this
                  simp only [Act.put, if_true]
                  simp only [Array.getElem?_setIfInBounds_self_of_lt hlt]
                · have hdne : d0 ≠ d := by
                    intro e
                    have hk2 : k < dsts.length := (List.getElem?_eq_some_iff.1 hd).1
                    have hdk : dsts.getD k none = some d := by rw [List.getD_eq_getElem?_getD, hd]; rfl
                    rcases hdn i him k (by omega) with (hx | hx) | hx
                    · exact hne k hk hx.symm
                    · rw [hdi] at hx; cases hx
                    · exact hx (by rw [hdi, hdk, e])
                  simp only [Act.put]
                  rw [Array.getElem?_setIfInBounds_ne hdne, if_neg (hne k hk)]
                  exact h.slots k hk d hd
          unfold wpOp
          have hoa : os.toArray[i]? = some os[i] := by simp [h1]
          rw [hoa]
          simp only
          have hpost : ∀ (hs : List Nat) (post : List HP), (∀ k ∈ hs, k ≠ i) → (i :: hs).flatMap (fun k => if k = i then post else pf k) = post ++ hs.flatMap pf := fun hs post hx => by
            rw [List.flatMap_cons, if_pos rfl]
            congr 1
            rw [List.flatMap_def, List.flatMap_def]
            congr 1
            exact List.map_congr_left fun k hk => if_neg (hx k hk)
          cases ht : tau.getD i none with
          | none =>
            rw [ht] at hobl
            have hst := h.st hml' hsub (h.mem.pick hqi.2 hqheld)
            have next1 : ∀ v post w', R i ((dps.getD i []).map vf) v post → Mem w post w' → wpAny P .any os.toArray Q f (listed.setIfInBounds i true) (a.put (dsts.getD i none) v) w' := fun v post w' hv hm => by
              refine next (i :: held) v post w' (List.nodup_cons.2 ⟨fun hx => hneh i hx rfl, h.hn⟩) (fun k hk => ?_) (fun k hk hk2 => ?_) hv ?_
              · rcases List.mem_cons.1 hk with rfl | hk
                · exact .inl List.mem_cons_self
                · exact (h.hin k hk).imp (List.mem_cons_of_mem _) (fun x => x)
              · by_cases hki : k = i
                · rw [hki]; exact List.mem_cons_self
                · refine List.mem_cons_of_mem _ (h.hall k (hk.imp (fun hx => by rcases List.mem_cons.1 hx with hx | hx; exact absurd hx hki; exact hx) (fun x => x)) (fun j hj => hk2 j (List.mem_cons_of_mem _ hj)))
              · rw [hpost held post hneh, List.append_assoc]; exact h.mem.app hm
            rcases hobl with ⟨hw, hq⟩ | ⟨hw, hq⟩
            · rw [if_pos (hst.wanted hw)]
              refine .inl (hq a w hst Q _ fun v post w' hv hm => ?_)
              rw [hdd]
              exact next1 v post w' hv hm
            · rw [if_neg (by rw [hst.wanted hw]; decide), hdd]
              exact next1 undef [] w hq (Mem.refl w)
          | some hh =>
            rw [ht] at hobl
            have hth2 := hth i him
            rw [ht] at hth2
            simp only [Bool.and_eq_true, Bool.or_eq_true, Nat.ble_eq, Nat.blt_eq, beq_iff_eq, List.all_eq_true, List.mem_range, bne_iff_ne, List.contains_iff_mem] at hth2
            have hheld : hh ∈ held := h.hall hh (hth2.1.symm.imp (fun hx => hsub hh hx) (fun x => x)) (fun k hk => (hth2.2 k (h.low k hk)).resolve_left (hne k hk))
            have hperm := List.perm_cons_erase hheld
            have hmem : Mem w0 (pf hh ++ ((held.erase hh).flatMap pf ++ l)) w := by
              have := h.mem.perm ((hperm.flatMap_right pf).append_right l)
              rwa [List.flatMap_cons, List.append_assoc] at this
            have hnin : hh ∉ qd.getD i [] := fun hx => by
              rcases (hqi.1 hh hx).2 i him with h5 | ⟨h5, -⟩
              · exact h5 ht
              · exact h5 rfl
            have hconv : ∀ w, Mem w0 ((held.erase hh).flatMap pf ++ l) w → Mem w0 ((qd.getD i []).flatMap pf ++ l) w := fun w hm => hm.pick hqi.2 (fun j hj => (List.mem_erase_of_ne (fun (e : j = hh) => hnin (by rw [← e]; exact hj))).2 (hqheld j hj))
            have hst := h.st hml' hsub hmem
            have hneh2 : ∀ k ∈ held.erase hh, k ≠ i := fun k hk => hneh k (List.mem_of_mem_erase hk)
            have next2 : ∀ v post w', R i ((dps.getD i []).map vf) v post → Mem w0 (post ++ ((held.erase hh).flatMap pf ++ l)) w' → wpAny P .any os.toArray Q f (listed.setIfInBounds i true) (a.put (dsts.getD i none) v) w' := fun v post w' hv hm => by
              refine next (i :: held.erase hh) v post w' (List.nodup_cons.2 ⟨fun hx => hneh2 i hx rfl, h.hn.erase hh⟩) (fun k hk => ?_) (fun k hk hk2 => ?_) hv ?_
              · rcases List.mem_cons.1 hk with rfl | hk
                · exact .inl List.mem_cons_self
                · exact (h.hin k (List.mem_of_mem_erase hk)).imp (List.mem_cons_of_mem _) (fun x => x)
              · by_cases hki : k = i
                · rw [hki]; exact List.mem_cons_self
                · have hkh : k ≠ hh := fun e => hk2 i List.mem_cons_self (by rw [ht, e])
                  exact List.mem_cons_of_mem _ ((List.mem_erase_of_ne hkh).2 (h.hall k (hk.imp (fun hx => by rcases List.mem_cons.1 hx with hx | hx; exact absurd hx hki; exact hx) (fun x => x)) (fun j hj => hk2 j (List.mem_cons_of_mem _ hj))))
              · rw [hpost _ post hneh2, List.append_assoc]; exact hm
            rcases hobl with ⟨hw, hq⟩ | ⟨hw, hq⟩
            · rw [if_pos (hst.wanted hw)]
              refine .inl (hq _ hconv a w hst Q _ fun v post w' hv hm => ?_)
              rw [hdd]
              exact next2 v post w' hv hm
            · rw [if_neg (by rw [hst.wanted hw]; decide), hdd]
              exact next2 undef (pf hh) w hq hmem
  refine key os.length (Array.replicate os.length false) [] ((List.range P0.length).map (os.length + ·)) (fun _ => undef) (fun k => if os.length ≤ k then P0.getD (k - os.length) [] else []) a _ (by simp) ⟨by simp, ?_, by simp, by simp, by simp, by simp, by simp, ?_, ?_, ?_, ?_, ?_, st.size, st.defers, st.env, by simp⟩
  · intro i hi; simp [hi]
  · exact nodup_shift _ _
  · intro i hi
    simp only [List.mem_map, List.mem_range] at hi
    obtain ⟨k, hk, rfl⟩ := hi
    exact .inr ⟨by omega, by omega⟩
  · rintro i (hi | ⟨h1, h2⟩) _
    · cases hi
    · simp only [List.mem_map, List.mem_range]; exact ⟨i - os.length, by omega, by omega⟩
  · intro k hk; rw [if_pos (by omega), Nat.add_sub_cancel_left]
  · have e : ((List.range P0.length).map (os.length + ·)).flatMap (fun k => if os.length ≤ k then P0.getD (k - os.length) [] else []) = P0.flatten := by
      rw [List.flatMap_map]
      have : (fun a : Nat => (if os.length ≤ os.length + a then P0.getD (os.length + a - os.length) [] else [])) = fun a => P0.getD a [] := by
        funext a; rw [if_pos (by omega), Nat.add_sub_cancel_left]
      rw [List.flatMap_def]
      rw [show (List.map (fun a : Nat => (if os.length ≤ os.length + a then P0.getD (os.length + a - os.length) [] else [])) (List.range P0.length)) = P0 from by rw [this]; exact range_getD P0]
    rw [e]; exact st.mem.drawn _
def Dues4 (P : Program) (ops : Array Oper) (N : Nat) (w0 : World) (l : List HP) (env : List (Nat × Value)) (P0 : List (List HP)) (mu : Nat) (dsts : List (Option Nat)) (all qall : List (List Nat)) (tau : List (Option Nat)) (R : Nat → List Value → Value → List HP → Prop) : Nat → List (List Nat) → List Oper → Prop
  | _, _, [] => True
  | k, dss, o :: os => (∀ (vf : Nat → Value) (pf : Nat → List HP), (∀ k, k < P0.length → pf (mu + k) = P0.getD k []) → (∀ j ∈ all.getD k [], R j ((all.getD j []).map vf) (vf j) (pf j)) → Obl2 P ops N w0 (tau.getD k none) pf ((qall.getD k []).flatMap pf ++ l) (envOf3 dsts vf (all.getD k []) ++ env) o (R k ((all.getD k []).map vf))) ∧ Dues4 P ops N w0 l env P0 mu dsts all qall tau R (k + 1) dss os
theorem dues4_at {P : Program} {ops : Array Oper} {N : Nat} {w0 : World} {l : List HP} {env : List (Nat × Value)} {P0 : List (List HP)} {mu : Nat} {dsts : List (Option Nat)} {all qall : List (List Nat)} {tau : List (Option Nat)} {R : Nat → List Value → Value → List HP → Prop} : ∀ (os : List Oper) (dss : List (List Nat)) (k : Nat), Dues4 P ops N w0 l env P0 mu dsts all qall tau R k dss os → ∀ i o, os[i]? = some o → ∀ vf pf, (∀ k, k < P0.length → pf (mu + k) = P0.getD k []) → (∀ j ∈ all.getD (k + i) [], R j ((all.getD j []).map vf) (vf j) (pf j)) → Obl2 P ops N w0 (tau.getD (k + i) none) pf ((qall.getD (k + i) []).flatMap pf ++ l) (envOf3 dsts vf (all.getD (k + i) []) ++ env) o (R (k + i) ((all.getD (k + i) []).map vf))
  | [], _, _, _, i, o, ho, _, _, _, _ => by simp at ho
  | o' :: os, dss, k, h, 0, o, ho, vf, pf, hP, hR => by simp at ho; subst ho; exact h.1 vf pf hP hR
  | o' :: os, dss, k, h, i + 1, o, ho, vf, pf, hP, hR => by
    have e : k + 1 + i = k + (i + 1) := by omega
    have := dues4_at os dss (k + 1) h.2 i o (by simpa using ho) vf pf hP (by rw [e]; exact hR)
    rwa [e] at this
theorem zdq {id : Nat} (hmix : P.follows .mixedOrders = true) (m : Nat) (qs : List Nat) (quiet tail : List Oper) (dps : List (List Nat)) (dsts : List (Option Nat)) (R : Nat → List Value → Value → List HP → Prop) (qd : List (List Nat)) (tau : List (Option Nat)) (P0 : List (List HP)) (fl : List Nat) (mu : Nat)
    (hos : os = quiet ++ tail) (hq : (Nat.beq quiet.length m && (List.range m == qs) && Nat.beq os.length mu) = true) (hok : drawOk3 os m dps dsts = true) (htau : tauOk4 os m P0.length dps qd tau fl = true) (hfresh : dsts.all (fun d => match d with | some d => (lk env d).isNone | none => true) = true) (hN : dsts.all (fun d => match d with | some d => Nat.blt d N | none => true) = true)
    (due : Dues4 P os.toArray N w0 l env P0 mu dsts dps qd tau R 0 [] quiet)
    (fin : ∀ vf pf, (∀ k, k < P0.length → pf (mu + k) = P0.getD k []) → (∀ i, i < m → R i ((dps.getD i []).map vf) (vf i) (pf i)) → HL P N os.toArray w0 (fl.flatMap pf ++ l) (envOf3 dsts vf qs ++ env) tail Q) : HC P N w0 (P0.flatten ++ l) env (.region id os.toArray true) Q := by
  simp only [Bool.and_eq_true, Nat.beq_eq, beq_iff_eq] at hq
  obtain ⟨⟨hq1, hq2⟩, hq3⟩ := hq
  refine hc_drawn4 hmix m dps dsts R qd tau P0 fl hok htau hfresh hN (fun i o ho hi vf pf hP hR => ?_) (fun vf pf hP hR => ?_)
  · have ho' : quiet[i]? = some o := by rw [hos, List.getElem?_append_left (by omega)] at ho; exact ho
    have := dues4_at quiet [] 0 due i o ho' vf pf (by rw [← hq3]; exact hP) (by rw [Nat.zero_add]; exact hR)
    rwa [Nat.zero_add] at this
  rw [hq2, hos, List.drop_left' hq1, ← hos]; exact fin vf pf (by rw [← hq3]; exact hP) hR
end
open Go.RowKit
theorem zfn (n : Nt) (w : World) (hr : RdsNt w n) (hn : NtOk n) :
   Calls Try.prog 96 #[.agg #[.int .i64 n.ins, n.sv, n.av, n.ov]] w (Ans w (.int .i64 n.cnt)) := by
 have hi0 := hn.i0
 have hi1 := hn.i1
 have hs1 := hn.s1
 have ha1 := hn.a1
 have ho1 := hn.o1
 have hcnt : n.cnt = 1 + n.ins + n.ss.length + n.gs.length := rfl
 have hfst : n.fst = 1 + n.ins + n.ss.length := rfl
 refine zbq (N := 14) (args := [.agg #[.int .i64 n.ins, n.sv, n.av, n.ov]]) Try.func96 rfl rfl (srQ ?_)
 refine zed rfl (zdh rfl rfl) ?_
 intro b1
 refine zbc 1 rfl (srQ (hvQ rfl (fdQ 0 rfl rfl rfl) (hvQ rfl (zan rfl rfl rfl (zai 0 rfl rfl)) (hvQ rfl (vaQ rfl rfl rfl) (hvQ rfl (fdQ 1 rfl rfl rfl) (hvQ rfl (zan rfl rfl rfl (zai 0 rfl rfl)) (hvQ rfl (lnQ rfl rfl rfl (zap hr.sq)) (hvQ rfl (vaQ rfl rfl rfl) (hvQ rfl (fdQ 2 rfl rfl rfl) ?_)))))))))
 refine hvQ rfl (zan rfl rfl rfl (zai 0 rfl rfl)) (hvQ rfl (lnQ rfl rfl rfl (zap hr.an)) (hvQ rfl (vaQ rfl rfl rfl) (zbc 1 rfl ?_)))
 exact zak (zbl rfl rfl rfl)
theorem implNodeCount_yes (n : Nt) (w : World) (hr : RdsNt w n) (hn : NtOk n) :
   Calls Try.prog 133 #[.agg #[.int .i64 n.ins, n.sv, n.av, n.ov]] w (Ans w (.int .i64 n.cnt)) := by
 have hi0 := hn.i0
 have hi1 := hn.i1
 have hs1 := hn.s1
 have ha1 := hn.a1
 have ho1 := hn.o1
 have hcnt : n.cnt = 1 + n.ins + n.ss.length + n.gs.length := rfl
 have hfst : n.fst = 1 + n.ins + n.ss.length := rfl
 refine zbq (N := 27) (args := [.agg #[.int .i64 n.ins, n.sv, n.av, n.ov]]) Try.func133 rfl rfl (srQ ?_)
 refine zed rfl (zdh rfl rfl) ?_
 intro b1
 refine zbc 1 rfl (zgk (hvQ rfl (fdQ 0 rfl rfl rfl) (hvQ rfl (zan rfl rfl rfl (zai 0 rfl rfl)) ?_)))
 refine zdu rfl (zam rfl rfl (fun w hm => zbb (zer (zcq _ _ _ w)))) (zbz (fun h2 => ?_) (fun h2 => absurd ((((zcp _ _ _).2 (by omega))).symm.trans h2) (by decide)))
 refine zag 2 rfl (hvQ rfl (fdQ 1 rfl rfl rfl) (hvQ rfl (zan rfl rfl rfl (zai 0 rfl rfl)) (hvQ rfl (lnQ rfl rfl rfl (zap hr.sq)) ?_)))
 refine zeq rfl rfl rfl rfl rfl rfl (fun h3 => absurd h3 (by omega)) (fun h3 => ?_)
 refine zag 2 rfl (hvQ rfl (fdQ 2 rfl rfl rfl) (hvQ rfl (zan rfl rfl rfl (zai 0 rfl rfl)) (hvQ rfl (lnQ rfl rfl rfl (zap hr.an)) ?_)))
 refine zeq rfl rfl rfl rfl rfl rfl (fun h4 => absurd h4 (by omega)) (fun h4 => ?_)
 refine zag 2 rfl (hvQ rfl (fdQ 3 rfl rfl rfl) (hvQ rfl (zan rfl rfl rfl (zai 0 rfl rfl)) (hvQ rfl (lnQ rfl rfl rfl (zap hr.ou)) ?_)))
 refine zeq rfl rfl rfl rfl rfl rfl (fun h5 => absurd h5 (by omega)) (fun h5 => ?_)
 refine zbc 1 rfl (zal rfl (zdb (srQ (hvQ rfl (zar (cs := [.int .i64 n.ins, n.sv, n.av, n.ov]) rfl rfl rfl rfl rfl (zah 0 rfl 0 rfl)) ?_))))
 refine zdu rfl (zam rfl rfl (fun w hm => zbb (zfn n w (hr.below hm.bel) hn))) (zbc 1 rfl ?_)
 exact zak (zbl rfl rfl rfl)
theorem firstAnd_yes (n : Nt) (w : World) (hr : RdsNt w n) (hn : NtOk n) :
   Calls Try.prog 136 #[.agg #[.int .i64 n.ins, n.sv, n.av, n.ov]] w (Ans w (.int .i64 n.fst)) := by
 have hi0 := hn.i0
 have hi1 := hn.i1
 have hs1 := hn.s1
 have ha1 := hn.a1
 have ho1 := hn.o1
 have hcnt : n.cnt = 1 + n.ins + n.ss.length + n.gs.length := rfl
 have hfst : n.fst = 1 + n.ins + n.ss.length := rfl
 refine zbq (N := 10) (args := [.agg #[.int .i64 n.ins, n.sv, n.av, n.ov]]) Try.func136 rfl rfl (srQ ?_)
 refine zed rfl (zdh rfl rfl) ?_
 intro b1
 refine zbc 1 rfl (srQ (hvQ rfl (fdQ 0 rfl rfl rfl) (hvQ rfl (zan rfl rfl rfl (zai 0 rfl rfl)) (hvQ rfl (vaQ rfl rfl rfl) (hvQ rfl (fdQ 1 rfl rfl rfl) (hvQ rfl (zan rfl rfl rfl (zai 0 rfl rfl)) (hvQ rfl (lnQ rfl rfl rfl (zap hr.sq)) (hvQ rfl (vaQ rfl rfl rfl) (zag 1 rfl ?_)))))))))
 refine ntQ ?_
 exact zak (zbl rfl rfl rfl)
theorem firstSeq_yes (n : Nt) (w : World) (hr : RdsNt w n) (hn : NtOk n) :
   Calls Try.prog 148 #[.agg #[.int .i64 n.ins, n.sv, n.av, n.ov]] w (Ans w (.int .i64 (1 + n.ins))) := by
 have hi0 := hn.i0
 have hi1 := hn.i1
 have hs1 := hn.s1
 have ha1 := hn.a1
 have ho1 := hn.o1
 have hcnt : n.cnt = 1 + n.ins + n.ss.length + n.gs.length := rfl
 have hfst : n.fst = 1 + n.ins + n.ss.length := rfl
 refine zbq (N := 6) (args := [.agg #[.int .i64 n.ins, n.sv, n.av, n.ov]]) Try.func148 rfl rfl (srQ ?_)
 refine zed rfl (zdh rfl rfl) ?_
 intro b1
 refine zbc 1 rfl (srQ (hvQ rfl (fdQ 0 rfl rfl rfl) (hvQ rfl (zan rfl rfl rfl (zai 0 rfl rfl)) (hvQ rfl (vaQ rfl rfl rfl) (zbc 1 rfl ?_)))))
 exact zak (zbl rfl rfl rfl)
theorem seqOk_yes (s : Sq) (w : World) (hs : SqOk s) (hx : RdsW w s.iv 1 s.xs.length (s.xs.map (Value.int .i64))) :
   Calls Try.prog 134 #[.agg #[.int .i64 s.kd, .int .i64 s.it, s.iv]] w (Ans w (.bool true)) := by
 have hk := hs.kind
 refine zbq (N := 27) (args := [.agg #[.int .i64 s.kd, .int .i64 s.it, s.iv]]) Try.func134 rfl rfl (srQ ?_)
 refine zed rfl (zdh rfl rfl) ?_
 intro b1
 refine zbc 1 rfl (zgk (hvQ rfl (fdQ 0 rfl rfl rfl) (hvQ rfl (zan rfl rfl rfl (zai 0 rfl rfl)) (ntQ (zbf (zac ?_))))))
 refine zav (zbj rfl rfl rfl rfl rfl rfl (fun h2 => ?_) (fun h2 => ?_))
 ·
  refine zbc 1 rfl (zaj rfl (srQ (hvQ rfl (fdQ 1 rfl rfl rfl) (hvQ rfl (zan rfl rfl rfl (zai 0 rfl rfl)) ?_))))
  refine zdu rfl (zam rfl rfl (fun w hm => zbb (zer (zcq _ _ _ w)))) (zbz (fun h3 => ?_) (fun h3 => absurd ((((zcp _ _ _).2 (by omega))).symm.trans h3) (by decide)))
  refine zag 1 rfl (hvQ rfl (fdQ 2 rfl rfl rfl) (hvQ rfl (zan rfl rfl rfl (zai 0 rfl rfl)) (hvQ rfl (lnQ rfl rfl rfl (zap hx)) ?_)))
  refine zbj rfl rfl rfl rfl rfl rfl (fun h4 => ?_) (fun h4 => ?_)
  ·
   refine zbc 2 rfl ?_
   refine zak (zaf ?_)
   exact zad (zbl rfl rfl rfl)
  refine zbc 2 rfl ?_
  refine zak (zaf ?_)
  refine zad ?_
  exfalso
  omega
 refine zbc 1 rfl (zal rfl (srQ ?_))
 refine zbj rfl rfl rfl rfl rfl rfl (fun h5 => ?_) (fun h5 => ?_)
 ·
  refine zbc 1 rfl (zaj rfl (srQ (hvQ rfl (fdQ 1 rfl rfl rfl) (hvQ rfl (zan rfl rfl rfl (zai 0 rfl rfl)) ?_))))
  refine zdu rfl (zam rfl rfl (fun w hm => zbb (zer (zcq _ _ _ w)))) (zbz (fun h6 => ?_) (fun h6 => absurd ((((zcp _ _ _).2 (by omega))).symm.trans h6) (by decide)))
  refine zag 1 rfl (hvQ rfl (fdQ 2 rfl rfl rfl) (hvQ rfl (zan rfl rfl rfl (zai 0 rfl rfl)) (hvQ rfl (lnQ rfl rfl rfl (zap hx)) ?_)))
  refine zbj rfl rfl rfl rfl rfl rfl (fun h7 => ?_) (fun h7 => ?_)
  ·
   refine zbc 2 rfl ?_
   refine zak (zaf ?_)
   exact zad (zbl rfl rfl rfl)
  refine zbc 2 rfl ?_
  refine zak (zaf ?_)
  refine zad ?_
  exfalso
  omega
 refine zbc 1 rfl (fsQ rfl (zdn (zbn 1 rfl ?_)))
 refine zak ?_
 exfalso
 omega
theorem zgd (xs : List Int) (v : Value) (w : World) (hv : RdsW w v 1 xs.length (xs.map (Value.int .i64))) (hlen : xs.length ≤ 1000000000) :
   Calls Try.prog 116 #[v] w (Ret w (fun v' post => post = [rI9 3 v' (xs)])) := by
 refine zbq (N := 6) (args := [v]) Try.func116 rfl rfl (zbn 1 rfl (srQ ?_))
 refine zey rfl (zds (s := 1) rfl Try.underlying48 rfl) ?_
 intro g1
 refine zag 1 rfl (zdc (i := 0) (z := .int .i64 0) (bytes := 8) (n' := xs.length) (xs' := (xs.map (Value.int .i64))) rfl rfl rfl rfl Try.underlying48 (by kernel_rfl) rfl rfl rfl rfl (zap hv) (zcj _) (by first | omega | (simp; done) | (simp; omega)) (Nat.zero_add _) (List.nil_append _) (fun _ => rfl) ?_)
 intro v2
 refine zbc 1 rfl ?_
 exact zak (zev (post := [rI9 3 v2 xs]) rfl rfl (pfQ rfl) rfl)
theorem roots_ret (n : Nt) (w : World) (hr : RdsNt w n) (hn : NtOk n) :
   Calls Try.prog 135 #[.agg #[.int .i64 n.ins, n.sv, n.av, n.ov]] w (Ret w (fun v' post => post = [rI9 3 v' (rtsL n n.ss.length)])) := by
 have hi0 := hn.i0
 have hi1 := hn.i1
 have hs1 := hn.s1
 have ha1 := hn.a1
 have ho1 := hn.o1
 have hcnt : n.cnt = 1 + n.ins + n.ss.length + n.gs.length := rfl
 have hfst : n.fst = 1 + n.ins + n.ss.length := rfl
 refine zbq (N := 22) (args := [.agg #[.int .i64 n.ins, n.sv, n.av, n.ov]]) Try.func135 rfl rfl (srQ ?_)
 refine zed rfl (zdh rfl rfl) ?_
 intro b1
 refine zbc 1 rfl (srQ (hvQ rfl (fdQ 3 rfl rfl rfl) (hvQ rfl (zan rfl rfl rfl (zai 0 rfl rfl)) ?_)))
 refine zfg rfl rfl rfl (zam rfl rfl (fun w hm => zgd n.os _ w ((zap hr.ou) w hm) (by omega))) ?_
 intro v2 p3 hR4
 subst hR4
 refine zbc 1 rfl (zgk (hvQ rfl (fdQ 1 rfl rfl rfl) (hvQ rfl (zan rfl rfl rfl (zai 1 rfl rfl)) (hvQ rfl (lnQ rfl rfl rfl (zap hr.sq)) (zbc 1 rfl ?_)))))
 refine zbf ?_
 refine lkQ3 (α := Nat) (β := Value) (γ := List Int) [0, 1, 2, 10, 11] rfl (fun k u zs => [rI9 3 u zs, nB9 b1 n]) (fun k u zs => [(3, u), (12, .int .i64 (k : Int))]) (fun k u zs => k ≤ n.ss.length ∧ zs = rtsL n k) (fun k u zs => n.ss.length - k) 0 _ n.os ⟨by omega, by simp [rtsL]⟩ (saQ rfl) (pfQ rfl) ?_
 intro k u zs hi5
 obtain ⟨hk, hz⟩ := hi5
 have hzl : zs.length ≤ 16 + 4 * k := by rw [hz]; exact rts_len hn k hk
 refine srQ ?_
 refine zcb rfl rfl rfl rfl rfl rfl (fun h6 => ?_) (fun h6 => ?_)
 ·
  refine ntQ (tcQ rfl (zdb (sbQ (srQ (hvQ rfl (riQ 3 rfl rfl rfl rfl (zap hr.sq)) ?_)))))
  refine hvQ rfl (zda (us := [.int .i64 ((n.ss.getD k sq0).kd), .int .i64 ((n.ss.getD k sq0).it), (n.ss.getD k sq0).iv]) rfl rfl rfl rfl (zap hr.sq) (by omega) rfl (zdt sqC 3 (fun _ => rfl) n.ss sq0 (show k < _ by omega) rfl)) (zed rfl (zcc (z := .agg #[.int .i64 0, .int .i64 0, .slice none 0 0]) rfl rfl) ?_)
  intro b7
  refine zbm (cs' := #[.int .i64 ((n.ss.getD k sq0).kd), .int .i64 ((n.ss.getD k sq0).it), (n.ss.getD k sq0).iv]) (i := 0) (off := 0) (us := [.int .i64 ((n.ss.getD k sq0).kd), .int .i64 ((n.ss.getD k sq0).it), (n.ss.getD k sq0).iv]) rfl rfl rfl rfl rfl rfl rfl (zaa rfl (zaa rfl (zaa (hr.at (k := k) (by omega)).one zbe))) rfl rfl rfl (ntQ (zav ?_))
  have hx4 := (hn.sq _ (zbd (d := sq0) (show k < n.ss.length by omega))).len
  refine zag 1 rfl (hvQ rfl (fdQ 2 rfl rfl rfl) (hvQ rfl (zan rfl rfl rfl (zai 0 rfl rfl)) ?_))
  refine zdc (i := 1) (z := .int .i64 0) (bytes := 8) rfl rfl rfl rfl Try.underlying48 (by kernel_rfl) rfl rfl rfl rfl (fun w hm => (hr.at (k := k) (by omega)).below hm.bel) (zcj _) (by first | omega | (simp; done) | (simp; omega)) (zco zs ((n.ss.getD k sq0).xs)) (zcx zs ((n.ss.getD k sq0).xs)) (fun _ => rfl) ?_
  intro v8
  refine enQ 1 rfl (zdn (zav (hvQ rfl (vaQ rfl rfl rfl) (enQ 1 rfl ?_))))
  exact zdz (k + 1) v8 (zs ++ ((n.ss.getD k sq0).xs)) ⟨by omega, by rw [hz, rts_step n (by omega)]⟩ (by omega) (saQ rfl) (slQ [1, 0] rfl)
 refine ntQ (fcQ rfl ?_)
 refine zby (zes ?_)
 refine zat (zaw (zbn 2 rfl ?_))
 exact zak (zev (post := [rI9 3 u zs]) rfl rfl (slQ [0] rfl) (by rw [hz, show k = n.ss.length by omega]))
theorem implNetOk_yes (n : Nt) (w : World) (hr : RdsNt w n) (hn : NtOk n) :
   Calls Try.prog 94 #[.agg #[.int .i64 n.ins, n.sv, n.av, n.ov]] w (Ans w (.bool true)) := by
 have hi0 := hn.i0
 have hi1 := hn.i1
 have hs1 := hn.s1
 have ha1 := hn.a1
 have ho1 := hn.o1
 have hcnt : n.cnt = 1 + n.ins + n.ss.length + n.gs.length := rfl
 have hfst : n.fst = 1 + n.ins + n.ss.length := rfl
 refine zbq (N := 67) (args := [.agg #[.int .i64 n.ins, n.sv, n.av, n.ov]]) Try.func94 rfl rfl (srQ ?_)
 refine zed rfl (zdh rfl rfl) ?_
 intro b1
 refine zbc 1 rfl (srQ (hvQ rfl (zar (cs := [.int .i64 n.ins, n.sv, n.av, n.ov]) rfl rfl rfl rfl rfl (zah 0 rfl 0 rfl)) ?_))
 refine zdu rfl (zam rfl rfl (fun w hm => zbb (implNodeCount_yes n w (hr.below hm.bel) hn))) (zbc 1 rfl (zac (zac (reQ 1 rfl ?_))))
 refine zbj rfl rfl rfl rfl rfl rfl (fun h2 => absurd h2 (by omega)) (fun h2 => ?_)
 refine ntQ (zal rfl (zdb (zgk (hvQ rfl (fdQ 1 rfl rfl rfl) (hvQ rfl (zan rfl rfl rfl (zai 0 rfl rfl)) (hvQ rfl (lnQ rfl rfl rfl (zap hr.sq)) (zag 1 rfl (?_))))))))
 refine ntQ (zbf ?_)
 refine lkQ1 (α := Nat) [0, 1, 2, 3, 14, 16, 17] rfl (fun k => [nB9 b1 n]) (fun k => [(18, .int .i64 (k : Int))]) (fun k => k ≤ n.ss.length) (fun k => n.ss.length - k) 0 (Nat.zero_le _) (saQ rfl) (pfQ rfl) ?_
 intro k hi3
 have hk := hi3
 refine srQ ?_
 refine zcb rfl rfl rfl rfl rfl rfl (fun h4 => ?_) (fun h4 => ?_)
 ·
  refine ntQ (tcQ rfl (zdb (sbQ (srQ (hvQ rfl (riQ 3 rfl rfl rfl rfl (zap hr.sq)) ?_)))))
  refine hvQ rfl (zda (us := [.int .i64 ((n.ss.getD k sq0).kd), .int .i64 ((n.ss.getD k sq0).it), (n.ss.getD k sq0).iv]) rfl rfl rfl rfl (zap hr.sq) (by omega) rfl (zdt sqC 3 (fun _ => rfl) n.ss sq0 (show k < _ by omega) rfl)) (zed rfl (zcc (z := .agg #[.int .i64 0, .int .i64 0, .slice none 0 0]) rfl rfl) ?_)
  intro b5
  refine zbm (cs' := #[.int .i64 ((n.ss.getD k sq0).kd), .int .i64 ((n.ss.getD k sq0).it), (n.ss.getD k sq0).iv]) (i := 0) (off := 0) (us := [.int .i64 ((n.ss.getD k sq0).kd), .int .i64 ((n.ss.getD k sq0).it), (n.ss.getD k sq0).iv]) rfl rfl rfl rfl rfl rfl rfl (zaa rfl (zaa rfl (zaa (hr.at (k := k) (by omega)).one zbe))) rfl rfl rfl (ntQ (srQ (hvQ rfl (zar (cs := [.int .i64 ((n.ss.getD k sq0).kd), .int .i64 ((n.ss.getD k sq0).it), (n.ss.getD k sq0).iv]) rfl rfl rfl rfl rfl (zah 0 rfl 0 rfl)) ?_)))
  refine zdu rfl (zam rfl rfl (fun w hm => zbb (seqOk_yes (n.ss.getD k sq0) w (hn.sq _ (zbd (d := sq0) (by omega))) ((hr.at (k := k) (by omega)).below hm.bel)))) (zbc 1 rfl (fsQ rfl (zdn (zav (hvQ rfl (vaQ rfl rfl rfl) (enQ 1 rfl ?_))))))
  exact zcm (k + 1) (by omega) (by omega) (saQ rfl) (slQ [1] rfl)
 refine ntQ (fcQ rfl ?_)
 refine zby (zes ?_)
 refine zat (zaw (zgk (hvQ rfl (zar (cs := [.int .i64 n.ins, n.sv, n.av, n.ov]) rfl rfl rfl rfl rfl (zah 0 rfl 0 rfl)) ?_)))
 refine zfg rfl rfl rfl (zam rfl rfl (fun w hm => roots_ret n w (hr.below hm.bel) hn)) ?_
 intro v6 p7 hR8
 subst hR8
 refine hvQ rfl (lnQ rfl rfl rfl (zao 0 rfl)) ?_
 have hzl := rts_len hn n.ss.length (Nat.le_refl _)
 refine zbc 1 rfl (zbf ?_)
 refine lkQ1 (α := Nat) [0, 1, 2, 3, 14, 16, 17, 18, 19, 27, 28] rfl (fun q => [rowE 3 1 v6 ((rtsL n n.ss.length).length) ((rtsL n n.ss.length).map (Value.int .i64)), nB9 b1 n]) (fun q => [(29, .int .i64 (q : Int))]) (fun q => q ≤ (rtsL n n.ss.length).length) (fun q => (rtsL n n.ss.length).length - q) 0 (Nat.zero_le _) (saQ rfl) (pfQ rfl) ?_
 intro q hi9
 have hq := hi9
 refine srQ ?_
 refine zcb rfl rfl rfl rfl rfl rfl (fun h10 => ?_) (fun h10 => ?_)
 ·
  refine ntQ (tcQ rfl (zdb (sbQ (srQ (hvQ rfl (riQ 1 rfl rfl rfl rfl (zao 0 rfl)) (hvQ rfl (zba (u := .int .i64 ((rtsL n n.ss.length).getD q 0)) rfl rfl rfl (zao 0 rfl) (zcg (show _ < (rtsL n n.ss.length).length by omega))) (zag 1 rfl ?_)))))))
  refine ntQ (srQ ?_)
  have hlk := zdx hn (i := q) (by omega)
  obtain ⟨hlk1, hlk2⟩ := hlk
  refine zag 2 rfl (hvQ rfl (zfs rfl rfl rfl (by constructor <;> omega)) (hvQ rfl (vsQ rfl rfl rfl) ?_))
  refine zdu rfl (zam rfl rfl (fun w hm => zbb (zer (zcq _ _ _ w)))) (zbz (fun h11 => ?_) (fun h11 => absurd ((((zcp _ _ _).2 (by omega))).symm.trans h11) (by decide)))
  refine zbc 1 rfl (fsQ rfl (zdn (zav (hvQ rfl (vaQ rfl rfl rfl) ?_))))
  have hzl := rts_len hn n.ss.length (Nat.le_refl _)
  refine enQ 1 rfl ?_
  exact zcm (q + 1) (by omega) (by omega) (saQ rfl) (pfQ rfl)
 refine ntQ (fcQ rfl ?_)
 refine zby (zes ?_)
 refine zat (zaw (zgk (hvQ rfl (fdQ 2 rfl rfl rfl) (hvQ rfl (zan rfl rfl rfl (zai 1 rfl rfl)) (hvQ rfl (lnQ rfl rfl rfl (zap hr.an)) (zbc 1 rfl (zbf ?_)))))))
 refine lkQ1 (α := Nat) [0, 1, 2, 3, 14, 16, 17, 18, 19, 27, 28, 29, 30, 41, 42] rfl (fun j => [rowE 3 1 v6 ((rtsL n n.ss.length).length) ((rtsL n n.ss.length).map (Value.int .i64)), nB9 b1 n]) (fun j => [(43, .int .i64 (j : Int))]) (fun j => j ≤ n.gs.length) (fun j => n.gs.length - j) 0 (Nat.zero_le _) (saQ rfl) (pfQ rfl) ?_
 intro j hi12
 have hj := hi12
 refine srQ ?_
 refine zcb rfl rfl rfl rfl rfl rfl (fun h13 => ?_) (fun h13 => ?_)
 ·
  refine ntQ (tcQ rfl (zdb (sbQ (zac (reQ 1 rfl (hvQ rfl (riQ 2 rfl rfl rfl rfl (zap hr.an)) ?_))))))
  refine hvQ rfl (zda (us := [.int .i64 ((n.gs.getD j an0).a), .int .i64 ((n.gs.getD j an0).b)]) rfl rfl rfl rfl (zap hr.an) (by omega) rfl (zdt anC 2 (fun _ => rfl) n.gs an0 (show j < _ by omega) rfl)) (zed rfl (zcc (z := .agg #[.int .i64 0, .int .i64 0]) rfl rfl) ?_)
  intro b14
  refine zag 1 rfl (zbm (cs' := #[.int .i64 ((n.gs.getD j an0).a), .int .i64 ((n.gs.getD j an0).b)]) (i := 0) (off := 0) (us := [.int .i64 ((n.gs.getD j an0).a), .int .i64 ((n.gs.getD j an0).b)]) rfl rfl rfl rfl rfl rfl rfl (zaa rfl (zaa rfl zbe)) rfl rfl rfl ?_)
  refine ntQ (srQ (hvQ rfl (zar (cs := [.int .i64 n.ins, n.sv, n.av, n.ov]) rfl rfl rfl rfl rfl (zah 2 rfl 0 rfl)) ?_))
  refine zdu rfl (zam rfl rfl (fun w hm => zbb (firstAnd_yes n w (hr.below hm.bel) hn))) (zag 1 rfl (hvQ rfl (vaQ rfl rfl rfl) (hvQ rfl (zfs rfl rfl rfl (by constructor <;> omega)) (hvQ rfl (vsQ rfl rfl rfl) (zbc 1 rfl (srQ ?_))))))
  have hlj := hn.an j (by omega)
  obtain ⟨⟨hlj1, hlj2⟩, hlj3, hlj4⟩ := hlj
  refine hvQ rfl (fdQ 0 rfl rfl rfl) (hvQ rfl (zan rfl rfl rfl (zai 0 rfl rfl)) (zag 1 rfl ?_))
  refine zdu rfl (zam rfl rfl (fun w hm => zbb (zer (zcq _ _ _ w)))) (zbz (fun h15 => ?_) (fun h15 => absurd ((((zcp _ _ _).2 (by omega))).symm.trans h15) (by decide)))
  refine zag 2 rfl (hvQ rfl (fdQ 1 rfl rfl rfl) (hvQ rfl (zan rfl rfl rfl (zai 0 rfl rfl)) (zag 1 rfl ?_)))
  refine zdu rfl (zam rfl rfl (fun w hm => zbb (zer (zcq _ _ _ w)))) (zbz (fun h16 => ?_) (fun h16 => absurd ((((zcp _ _ _).2 (by omega))).symm.trans h16) (by decide)))
  refine zbc 2 rfl (fsQ rfl (zdn (zav (hvQ rfl (vaQ rfl rfl rfl) (enQ 1 rfl ?_)))))
  exact zcm (j + 1) (by omega) (by omega) (saQ rfl) (slQ [1, 0] rfl)
 refine ntQ (fcQ rfl ?_)
 refine zby (zes ?_)
 refine zat (zaw (zbn 1 rfl ?_))
 exact zak (zbl rfl rfl rfl)
theorem bitL_xor {xs : List Int} {l : Int} (h : xs.getD (l / 2).toNat 0 = 0 ∨ xs.getD (l / 2).toNat 0 = 1) : bits .xor .i64 (xs.getD (l / 2).toNat 0) (l % 2) = bitL xs l := by unfold bitL; exact xor01 h
theorem zgi (xs : List Int) (l : Int) (v : Value) (w : World) (hv : RdsW w v 1 xs.length (xs.map (Value.int .i64))) (hl : 0 ≤ l ∧ l < 2 * xs.length) (h01 : xs.getD (l / 2).toNat 0 = 0 ∨ xs.getD (l / 2).toNat 0 = 1) (hlen : xs.length ≤ 100000) :
   Calls Try.prog 103 #[v, .int .i64 l] w (Ans w (.int .i64 (bitL xs l))) := by
 refine zbq (N := 13) (args := [v, .int .i64 l]) Try.func103 rfl rfl (zbn 1 rfl (zac (reQ 2 rfl ?_)))
 refine hvQ rfl (rv_quo rfl rfl rfl (by refine ⟨?_, ?_, ?_⟩ <;> omega)) ?_
 refine hvQ rfl (riQ 1 rfl rfl rfl rfl (zap hv)) (hvQ rfl (lzQ rfl rfl rfl (zap hv)) (zag 1 rfl (hvQ rfl (zcl rfl (by decide) rfl rfl (r := l % 2) (Bit.and_one _ (by omega) (by omega))) (hvQ rfl (zcl rfl (by decide) rfl rfl (r := bitL xs l) (bitL_xor h01)) (zbc 1 rfl ?_)))))
 exact zak (zbl rfl rfl rfl)
theorem impLitValue_ans (xs : List Int) (l : Int) (v : Value) (w : World) (hv : RdsW w v 1 xs.length (xs.map (Value.int .i64))) (hl : 0 ≤ l ∧ l < 2 * xs.length) (h01 : xs.getD (l / 2).toNat 0 = 0 ∨ xs.getD (l / 2).toNat 0 = 1) (hlen : xs.length ≤ 100000) :
   Calls Try.prog 42 #[v, .int .i64 l] w (Ans w (.int .i64 (bitL xs l))) := by
 refine zbq (N := 26) (args := [v, .int .i64 l]) Try.func42 rfl rfl (zbn 1 rfl (zac (zac (reQ 1 rfl ?_))))
 refine zcb rfl rfl rfl rfl rfl rfl (fun h1 => absurd h1 (by omega)) (fun h1 => ?_)
 refine zag 2 rfl (hvQ rfl (rv_quo rfl rfl rfl (by refine ⟨?_, ?_, ?_⟩ <;> omega)) ?_)
 refine zag 1 rfl (hvQ rfl (lnQ rfl rfl rfl (zap hv)) ?_)
 refine zfw rfl rfl rfl rfl rfl rfl (fun h2 => absurd h2 (by omega)) (fun h2 => ?_)
 refine zag 4 rfl (hvQ rfl (rv_quo rfl rfl rfl (by refine ⟨?_, ?_, ?_⟩ <;> omega)) ?_)
 refine hvQ rfl (riQ 1 rfl rfl rfl rfl (zap hv)) (hvQ rfl (lzQ rfl rfl rfl (zap hv)) ?_)
 refine zdu rfl (zam rfl rfl (fun w hm => zbb (zer (zcq _ _ _ w)))) (zbz (fun h3 => ?_) (fun h3 => absurd ((((zcp _ _ _).2 (by omega))).symm.trans h3) (by decide)))
 refine zbc 2 rfl (zal rfl (zdb (zac (reQ 2 rfl ?_))))
 refine zdu rfl (zam rfl rfl (fun w hm => zbb (zgi xs l _ w (hv.below hm.bel) hl h01 hlen))) (zbc 1 rfl ?_)
 exact zak (zbl rfl rfl rfl)
theorem l08Net_mut (g : Nat) (a : Option Addr) (len cap : Nat) (z : List Int) (w0 : World) (l : List HP) (w : World) (hm0 : Mem w0 (curE g a len cap :: l) w) (hb : BRow .u8 w0 a len cap z) :
   Calls Try.prog 123 #[.pointer (some ⟨g, 0, none⟩)] w (fun e_ w_ => ∃ v_ p_, e_ = .returned v_ ∧ (fun u_ p_ => ∃ n : Nt, u_ = n.agg ∧ p_ = bigE [curE g a len cap, ntE n] ∧ (n.sv.oneCell' = true ∧ n.av.oneCell' = true ∧ n.ov.oneCell' = true) ∧ NtOk n ∧ n.ins ≤ 4 ∧ (n.ss.length : Int) ≤ 3 ∧ (n.gs.length : Int) ≤ 14) v_ p_ ∧ Mem w0 (p_ :: l) w_) := by
 refine zdk (N := 5) (args := [.pointer (some ⟨g, 0, none⟩)]) Try.func123 rfl rfl hm0 (srQ ?_)
 refine zed rfl (zcc (z := .agg #[.int .i64 0, .slice none 0 0, .slice none 0 0, .slice none 0 0]) rfl rfl) ?_
 intro b1
 refine ntQ (zac (reQ 1 rfl ?_))
 refine zch (R := (fun u_ p_ => ∃ n : Nt, u_ = n.agg ∧ p_ = bigE [curE g a len cap, ntE n] ∧ (n.sv.oneCell' = true ∧ n.av.oneCell' = true ∧ n.ov.oneCell' = true) ∧ NtOk n ∧ n.ins ≤ 4 ∧ (n.ss.length : Int) ≤ 3 ∧ (n.gs.length : Int) ≤ 14)) 1 rfl rfl rfl rfl rfl (fun l' w hm => l08Sized_mut g a len cap z 4 3 14 _ _ _ hm hb (by decide) (by decide) (by decide)) ?_
 intro v2 p3 hR4
 obtain ⟨n, rfl, rfl, ⟨o1n, o2n, o3n⟩, hn, hnq1, hnq2, hnq3⟩ := hR4
 refine zck (l' := (eB9 b1 :: bigE [curE g a len cap, ntE n] :: l)) rfl ?_
 refine zbm (cs' := #[.int .i64 n.ins, n.sv, n.av, n.ov]) (i := 0) (off := 0) (us := [.int .i64 n.ins, n.sv, n.av, n.ov]) rfl rfl rfl rfl rfl rfl rfl (zaa rfl (zaa o1n (zaa o2n (zaa o3n zbe)))) rfl rfl rfl (ntQ ?_)
 exact zak (zcf (rs := [.cell 2 70]) (vs := [.agg #[.int .i64 n.ins, n.sv, n.av, n.ov]]) rfl ⟨⟨b1, 0, [.int .i64 n.ins, n.sv, n.av, n.ov], rfl, rfl, by kernel_rfl, by kernel_rfl, zah 0 rfl 0 rfl⟩, trivial⟩ rfl (fun w hm => ⟨_, bigE [curE g a len cap, ntE n], rfl, ⟨n, rfl, rfl, ⟨o1n, o2n, o3n⟩, hn, hnq1, hnq2, hnq3⟩, hm.sub (.cons _ (.refl _))⟩))
theorem and1N (x : Int) : bits .and .i64 x 1 = x % 2 := by
  show IntKind.i64.wrap ((BitVec.ofInt 64 x &&& BitVec.ofInt 64 1).toNat : Int) = _
  have h1 : (BitVec.ofInt 64 (1 : Int)).toNat = 1 := by decide
  rw [BitVec.toNat_and, h1, Nat.and_one_is_mod, BitVec.toNat_ofInt]
  have h2 : (x % ((2 ^ 64 : Nat) : Int)).toNat % 2 < 2 := Nat.mod_lt _ (by decide)
  rw [Bit.i64_small _ (by omega)]
  have h3 : ((2 ^ 64 : Nat) : Int) = 18446744073709551616 := by decide
  rw [h3]; omega
theorem seqMost_ans (kd : Int) (w : World) (h : kd = 0 ∨ kd = 1) :
   Calls Try.prog 147 #[.int .i64 kd] w (Ans w (.int .i64 (if kd = 0 then 1 else 31))) := by
 refine zbq (N := 8) (args := [.int .i64 kd]) Try.func147 rfl rfl (zbn 1 rfl (zac (zbn 1 rfl ?_)))
 refine zbf (srQ ?_)
 refine zbj rfl rfl rfl rfl rfl rfl (fun h1 => ?_) (fun h1 => ?_)
 ·
  refine zbc 1 rfl (zaj rfl (zbn 1 rfl ?_))
  refine zak (zaf ?_)
  exact zad (zbl rfl rfl (by rw [if_pos (by omega)]))
 refine zbc 1 rfl (zal rfl (srQ ?_))
 refine zbj rfl rfl rfl rfl rfl rfl (fun h2 => ?_) (fun h2 => ?_)
 ·
  refine zbc 1 rfl (zaj rfl (zbn 1 rfl ?_))
  refine zak (zaf ?_)
  exact zad (zbl rfl rfl (by rw [if_neg (by omega)]))
 refine zbc 1 rfl (fsQ rfl (zdn (zbn 1 rfl ?_)))
 refine zak ?_
 exfalso
 omega
theorem implStateOk_yes (n : Nt) (st : List Int) (v : Value) (w : World) (hr : RdsNt w n) (hn : NtOk n) (hst : RdsW w v 1 st.length (st.map (Value.int .i64))) (hso : StOk n st) :
   Calls Try.prog 101 #[.agg #[.int .i64 n.ins, n.sv, n.av, n.ov], v] w (Ans w (.bool true)) := by
 have hi0 := hn.i0
 have hi1 := hn.i1
 have hs1 := hn.s1
 have ha1 := hn.a1
 have ho1 := hn.o1
 have hcnt : n.cnt = 1 + n.ins + n.ss.length + n.gs.length := rfl
 have hfst : n.fst = 1 + n.ins + n.ss.length := rfl
 have hsl := hso.len
 refine zbq (N := 36) (args := [.agg #[.int .i64 n.ins, n.sv, n.av, n.ov], v]) Try.func101 rfl rfl (srQ ?_)
 refine zed rfl (zdh rfl rfl) ?_
 intro b1
 refine zbc 1 rfl (zgk (hvQ rfl (zar (cs := [.int .i64 n.ins, n.sv, n.av, n.ov]) rfl rfl rfl rfl rfl (zah 0 rfl 0 rfl)) ?_))
 refine zdu rfl (zam rfl rfl (fun w hm => zbb (implNetOk_yes n w (hr.below hm.bel) hn))) (zag 3 rfl (hvQ rfl (lnQ rfl rfl rfl (zap hst)) (hvQ rfl (fdQ 1 rfl rfl rfl) (hvQ rfl (zan rfl rfl rfl (zai 0 rfl rfl)) (hvQ rfl (lnQ rfl rfl rfl (zap hr.sq)) ?_)))))
 refine hl_neq rfl rfl rfl rfl rfl rfl (fun h2 => absurd h2 (by omega)) (fun h2 => ?_)
 refine zbc 1 rfl (zal rfl (zdb (zac (zac (reQ 1 rfl (hvQ rfl (lnQ rfl rfl rfl (zap hst)) (zag 1 rfl (?_))))))))
 refine ntQ (zbf ?_)
 refine lkQ1 (α := Nat) [0, 1, 2, 4, 17, 18, 19] rfl (fun k => [nB9 b1 n]) (fun k => [(20, .int .i64 (k : Int))]) (fun k => k ≤ st.length) (fun k => st.length - k) 0 (Nat.zero_le _) (saQ rfl) (pfQ rfl) ?_
 intro k hi3
 have hk := hi3
 refine srQ ?_
 refine zcb rfl rfl rfl rfl rfl rfl (fun h4 => ?_) (fun h4 => ?_)
 ·
  refine ntQ (tcQ rfl (zdb (sbQ (zac (reQ 1 rfl (hvQ rfl (riQ 1 rfl rfl rfl rfl (zap hst)) (hvQ rfl (liQ rfl rfl rfl (zap hst)) ?_)))))))
  refine zbc 2 rfl (srQ ?_)
  have hqk := (hn.sq _ (zbd (d := sq0) (show k < n.ss.length by omega))).kind
  have hsk := hso.rng k (by omega)
  refine zag 1 rfl (hvQ rfl (fdQ 1 rfl rfl rfl) (hvQ rfl (zan rfl rfl rfl (zai 0 rfl rfl)) (zag 1 rfl (hvQ rfl (riQ 3 rfl rfl rfl rfl (zap hr.sq)) (hvQ rfl (zde (k0 := 0) rfl rfl rfl (zap hr.sq) (by omega)) ?_)))))
  refine hvQ rfl (zba (u := .int .i64 ((n.ss.getD k sq0).kd)) rfl rfl rfl (zap hr.sq) ((zef sqC 3 (fun _ => rfl) n.ss sq0 (show k < _ by omega) (by decide)).trans rfl)) (zdu rfl (zam rfl rfl (fun w hm => zbb (seqMost_ans ((n.ss.getD k sq0).kd) w (by omega)))) ?_)
  refine zdu rfl (zam rfl rfl (fun w hm => zbb (zer (zcq _ _ _ w)))) (zbz (fun h5 => ?_) (fun h5 => absurd ((((zcp _ _ _).2 ⟨by omega, by split <;> omega⟩)).symm.trans h5) (by decide)))
  refine zbc 1 rfl (fsQ rfl (zdn (zav (hvQ rfl (vaQ rfl rfl rfl) (enQ 1 rfl ?_)))))
  exact zcm (k + 1) (by omega) (by omega) (saQ rfl) (pfQ rfl)
 refine ntQ (fcQ rfl ?_)
 refine zby (zes ?_)
 refine zat (zaw (zbn 1 rfl ?_))
 exact zak (zbl rfl rfl rfl)
theorem implnodeValues_ret (n : Nt) (st : List Int) (v : Value) (inp : Int) (w : World) (hr : RdsNt w n) (hn : NtOk n) (hst : RdsW w v 1 st.length (st.map (Value.int .i64))) (hso : StOk n st) :
   Calls Try.prog 102 #[.agg #[.int .i64 n.ins, n.sv, n.av, n.ov], v, .int .i64 inp] w (Ret w (fun v' post => post = [rI9 3 v' (valsL n st inp)])) := by
 have hi0 := hn.i0
 have hi1 := hn.i1
 have hs1 := hn.s1
 have ha1 := hn.a1
 have ho1 := hn.o1
 have hcnt : n.cnt = 1 + n.ins + n.ss.length + n.gs.length := rfl
 have hfst : n.fst = 1 + n.ins + n.ss.length := rfl
 have hsl := hso.len
 refine zbq (N := 72) (args := [.agg #[.int .i64 n.ins, n.sv, n.av, n.ov], v, .int .i64 inp]) Try.func102 rfl rfl (srQ ?_)
 refine zed rfl (zdh rfl rfl) ?_
 intro b1
 refine zbc 1 rfl (srQ (hvQ rfl (zar (cs := [.int .i64 n.ins, n.sv, n.av, n.ov]) rfl rfl rfl rfl rfl (zah 0 rfl 0 rfl)) ?_))
 refine zdu rfl (zam rfl rfl (fun w hm => zbb (zfn n w (hr.below hm.bel) hn))) (zey rfl (rq_make (z := .int .i64 0) (s := 1) (bytes := 8) (n := (List.replicate (n.cnt).toNat (0 : Int)).length) (cs := ((List.replicate (n.cnt).toNat (0 : Int)).map (Value.int .i64))) rfl Try.underlying48 rfl (by decide) rfl rfl (by first | (rw [List.length_replicate]; done) | (rw [List.length_replicate]; omega)) (by first | (rw [List.length_replicate]; done) | (rw [List.length_replicate]; omega)) (by rw [List.length_replicate]; omega) (ints_make _)) ?_)
 intro g2
 refine zbc 1 rfl (zac (zbn 1 rfl (zbf ?_)))
 refine lkQ2 (α := Nat) (β := List Int) [0, 1, 2, 3, 6, 7] rfl (fun k zs => [rI9 3 (.slice (some ⟨g2, 0, none⟩) ((List.replicate (n.cnt).toNat (0 : Int)).length) ((List.replicate (n.cnt).toNat (0 : Int)).length)) zs, nB9 b1 n]) (fun k zs => [(8, .int .i64 (k : Int))]) (fun k zs => (k : Int) ≤ n.ins ∧ zs = fillZ n.cnt.toNat (preA n inp k)) (fun k zs => (n.ins).toNat - k) 0 (List.replicate n.cnt.toNat (0 : Int)) ⟨by omega, fill_one (by omega)⟩ (saQ rfl) (pfQ rfl) ?_
 intro k zs hi3
 obtain ⟨hk, hz⟩ := hi3
 have hzl : zs.length = n.cnt.toNat := by rw [hz]; exact fill_len (by rw [zgz]; omega)
 refine zac (zac (reQ 1 rfl (hvQ rfl (fdQ 0 rfl rfl rfl) (hvQ rfl (zan rfl rfl rfl (zai 1 rfl rfl)) ?_))))
 refine zcb rfl rfl rfl rfl rfl rfl (fun h4 => ?_) (fun h4 => ?_)
 ·
  refine ntQ (zaj rfl (zdb (sbQ (reQ 2 rfl (hvQ rfl (vaQ rfl rfl rfl) (zag 2 rfl (hvQ rfl (rv_conv rfl Try.underlying3 Try.underlying154 rfl (IntWalk.u64_in _ (by omega))) (hvQ rfl (rv_shr rfl rfl rfl (by omega)) ?_))))))))
  refine hvQ rfl (zcl rfl (by decide) rfl rfl (r := inp / 2 ^ k % 2) (by rw [show (inp / 2 ^ ((k : Int)).toNat : Int) = inp / 2 ^ k by rw [Int.toNat_natCast]]; exact and1N _)) (hvQ rfl (riQ 1 rfl rfl rfl rfl (zao 0 rfl)) ?_)
  refine hl_stE (i := 0) (n' := (zs.set ((1 + (k : Int)).toNat) (inp / 2 ^ k % 2)).length) (xs' := ((zs.set ((1 + (k : Int)).toNat) (inp / 2 ^ k % 2)).map (Value.int .i64))) rfl rfl rfl rfl rfl rfl rfl rfl (by first | omega | (simp only [List.length_set]; omega)) List.length_set.symm (zfc _ _ _) rfl (zbu (zdn (reQ 1 rfl (hvQ rfl (vaQ rfl rfl rfl) (enQ 1 rfl ?_)))))
  exact zci (k + 1) (zs.set ((1 + (k : Int)).toNat) (inp / 2 ^ k % 2)) ⟨by omega, by rw [hz]; exact (fill_set (by rw [zgz]; omega) (by rw [zgz]; omega)).trans (by rw [preA_step])⟩ (by omega) (saQ rfl) (pfQ rfl)
 refine ntQ (zal rfl ?_)
 refine zby (zes ?_)
 refine zat (zaw (zac (zac (reQ 1 rfl (hvQ rfl (lnQ rfl rfl rfl (zap hst)) (zbc 1 rfl (zbf ?_)))))))
 refine lkQ2 (α := Nat) (β := List Int) [0, 1, 2, 3, 6, 7, 19, 31, 32] rfl (fun k zs => [rI9 3 (.slice (some ⟨g2, 0, none⟩) ((List.replicate (n.cnt).toNat (0 : Int)).length) ((List.replicate (n.cnt).toNat (0 : Int)).length)) zs, nB9 b1 n]) (fun k zs => [(33, .int .i64 (k : Int))]) (fun k zs => (k : Int) ≤ (st.length : Int) ∧ zs = fillZ n.cnt.toNat (preB n st inp k)) (fun k zs => ((st.length : Int)).toNat - k) 0 zs ⟨by omega, by rw [hz, show k = n.ins.toNat by omega, preB_zero n st inp]⟩ (saQ rfl) (pfQ rfl) ?_
 intro k zs hi5
 obtain ⟨hk, hz⟩ := hi5
 have hzl : zs.length = n.cnt.toNat := by rw [hz]; exact fill_len (by rw [preB_len n st inp (by omega)]; omega)
 refine srQ ?_
 refine zcb rfl rfl rfl rfl rfl rfl (fun h6 => ?_) (fun h6 => ?_)
 ·
  refine ntQ (tcQ rfl (zdb (sbQ (zac (reQ 1 rfl (hvQ rfl (riQ 1 rfl rfl rfl rfl (zap hst)) (hvQ rfl (liQ rfl rfl rfl (zap hst)) ?_)))))))
  refine zbc 2 rfl (zav ?_)
  have hsk := hso.rng k (by omega)
  refine zag 1 rfl (hvQ rfl (zar (cs := [.int .i64 n.ins, n.sv, n.av, n.ov]) rfl rfl rfl rfl rfl (zah 1 rfl 0 rfl)) ?_)
  refine zdu rfl (zam rfl rfl (fun w hm => zbb (firstSeq_yes n w (hr.below hm.bel) hn))) (zag 1 rfl (hvQ rfl (vaQ rfl rfl rfl) (zag 1 rfl (hvQ rfl (zcl rfl (by decide) rfl rfl (r := (st.getD k 0) % 2) (Bit.and_one _ (by omega) (by omega))) (hvQ rfl (riQ 1 rfl rfl rfl rfl (zao 0 rfl)) ?_)))))
  refine hl_stE (i := 0) (n' := (zs.set (((1 + n.ins) + (k : Int)).toNat) ((st.getD k 0) % 2)).length) (xs' := ((zs.set (((1 + n.ins) + (k : Int)).toNat) ((st.getD k 0) % 2)).map (Value.int .i64))) rfl rfl rfl rfl rfl rfl rfl rfl (by first | omega | (simp only [List.length_set]; omega)) List.length_set.symm (zfc _ _ _) rfl (zbu (zdn (zav (hvQ rfl (vaQ rfl rfl rfl) (enQ 1 rfl ?_)))))
  exact zci (k + 1) (zs.set (((1 + n.ins) + (k : Int)).toNat) ((st.getD k 0) % 2)) ⟨by omega, by rw [hz]; exact (fill_set (by rw [preB_len n st inp (by omega)]; omega) (by rw [preB_len n st inp (by omega)]; omega)).trans (by rw [preB_step n st inp (by omega)])⟩ (by omega) (saQ rfl) (pfQ rfl)
 refine ntQ (fcQ rfl ?_)
 refine zby (zes ?_)
 refine zat (zaw (zgk (hvQ rfl (fdQ 2 rfl rfl rfl) (hvQ rfl (zan rfl rfl rfl (zai 1 rfl rfl)) (hvQ rfl (lnQ rfl rfl rfl (zap hr.an)) (zbc 1 rfl (zbf ?_)))))))
 refine lkQ2 (α := Nat) (β := List Int) [0, 1, 2, 3, 6, 7, 19, 31, 32, 34, 48, 49] rfl (fun k zs => [rI9 3 (.slice (some ⟨g2, 0, none⟩) ((List.replicate (n.cnt).toNat (0 : Int)).length) ((List.replicate (n.cnt).toNat (0 : Int)).length)) zs, nB9 b1 n]) (fun k zs => [(50, .int .i64 (k : Int))]) (fun k zs => (k : Int) ≤ (n.gs.length : Int) ∧ zs = fillZ n.cnt.toNat (valL n st inp k)) (fun k zs => ((n.gs.length : Int)).toNat - k) 0 zs ⟨by omega, by rw [hz, show k = st.length by omega, preB_end]⟩ (saQ rfl) (pfQ rfl) ?_
 intro k zs hi7
 obtain ⟨hk, hz⟩ := hi7
 have hzl : zs.length = n.cnt.toNat := by rw [hz]; exact fill_len (by rw [zez n st inp k (by omega)]; omega)
 have hvl := zez n st inp k (by omega)
 have hv01 := val01 hn hsl inp k (by omega)
 refine srQ ?_
 refine zcb rfl rfl rfl rfl rfl rfl (fun h8 => ?_) (fun h8 => ?_)
 ·
  refine ntQ (tcQ rfl (zdb (sbQ (zac (reQ 1 rfl (hvQ rfl (riQ 2 rfl rfl rfl rfl (zap hr.an)) ?_))))))
  refine hvQ rfl (zda (us := [.int .i64 ((n.gs.getD k an0).a), .int .i64 ((n.gs.getD k an0).b)]) rfl rfl rfl rfl (zap hr.an) (by omega) rfl (zdt anC 2 (fun _ => rfl) n.gs an0 (show k < _ by omega) rfl)) (zed rfl (zcc (z := .agg #[.int .i64 0, .int .i64 0]) rfl rfl) ?_)
  intro b9
  refine zag 1 rfl (zbm (cs' := #[.int .i64 ((n.gs.getD k an0).a), .int .i64 ((n.gs.getD k an0).b)]) (i := 0) (off := 0) (us := [.int .i64 ((n.gs.getD k an0).a), .int .i64 ((n.gs.getD k an0).b)]) rfl rfl rfl rfl rfl rfl rfl (zaa rfl (zaa rfl zbe)) rfl rfl rfl ?_)
  refine ntQ ?_
  have hak := hn.an k (by omega)
  obtain ⟨⟨hA0, hA1⟩, hC0, hC1⟩ := id hak
  have hg1 : zs.getD ((n.gs.getD k an0).a / 2).toNat 0 = (valL n st inp k).getD ((n.gs.getD k an0).a / 2).toNat 0 := by rw [hz]; exact fill_get (by omega)
  have hg2 : zs.getD ((n.gs.getD k an0).b / 2).toNat 0 = (valL n st inp k).getD ((n.gs.getD k an0).b / 2).toNat 0 := by rw [hz]; exact fill_get (by omega)
  have hA : zs.getD ((n.gs.getD k an0).a / 2).toNat 0 = 0 ∨ zs.getD ((n.gs.getD k an0).a / 2).toNat 0 = 1 := by rw [hg1]; exact hv01 _ (by omega)
  have hB : zs.getD ((n.gs.getD k an0).b / 2).toNat 0 = 0 ∨ zs.getD ((n.gs.getD k an0).b / 2).toNat 0 = 1 := by rw [hg2]; exact hv01 _ (by omega)
  have hB1 : bitL zs (n.gs.getD k an0).a = bitL (valL n st inp k) (n.gs.getD k an0).a := by unfold bitL; rw [hg1]
  have hB2 : bitL zs (n.gs.getD k an0).b = bitL (valL n st inp k) (n.gs.getD k an0).b := by unfold bitL; rw [hg2]
  have hP1 : bitL zs (n.gs.getD k an0).a = 0 ∨ bitL zs (n.gs.getD k an0).a = 1 := by rw [hB1]; exact bit01 hv01 hA0 (by omega)
  have hP2 : bitL zs (n.gs.getD k an0).b = 0 ∨ bitL zs (n.gs.getD k an0).b = 1 := by rw [hB2]; exact bit01 hv01 hC0 (by omega)
  refine zdp 15 [[], [], [1], [], [2, 3], [], [], [6], [5, 7], [], [], [10], [9, 11], [8, 12], [0, 4]] [55, 56, 57, 58, 59, 60, 61, 62, 63, 64, 65, 66, 67, 68, 69] [.slice (some ⟨g2, 0, none⟩) ((List.replicate (n.cnt).toNat (0 : Int)).length) ((List.replicate (n.cnt).toNat (0 : Int)).length), .agg #[.int .i64 n.ins, n.sv, n.av, n.ov], .int .i64 n.fst, .int .i64 (k : Int), .int .i64 (n.fst + (k : Int)), .slice (some ⟨g2, 0, none⟩) ((List.replicate (n.cnt).toNat (0 : Int)).length) ((List.replicate (n.cnt).toNat (0 : Int)).length), .pointer (some ⟨b9, 0 + 0, none⟩), .int .i64 ((n.gs.getD k an0).a), .int .i64 (bitL zs ((n.gs.getD k an0).a)), .slice (some ⟨g2, 0, none⟩) ((List.replicate (n.cnt).toNat (0 : Int)).length) ((List.replicate (n.cnt).toNat (0 : Int)).length), .pointer (some ⟨b9, 0 + 1, none⟩), .int .i64 ((n.gs.getD k an0).b), .int .i64 (bitL zs ((n.gs.getD k an0).b)), .int .i64 ((bitL zs ((n.gs.getD k an0).a)) * (bitL zs ((n.gs.getD k an0).b))), elP (.slice (some ⟨g2, 0, none⟩) ((List.replicate (n.cnt).toNat (0 : Int)).length) ((List.replicate (n.cnt).toNat (0 : Int)).length)) ((n.fst + (k : Int)).toNat * 1)] (by kernel_rfl) rfl ?_ ?_
  ·
   exact ⟨iaQ rfl (zax rfl) rfl, iaQ rfl (zar (cs := [.int .i64 n.ins, n.sv, n.av, n.ov]) rfl rfl rfl rfl rfl (zah 2 rfl 0 rfl)) rfl, .inl ⟨rfl, zam rfl rfl (fun w hm => zbb (firstAnd_yes n w (hr.below hm.bel) hn))⟩, iaQ rfl (zax rfl) rfl, iaQ rfl (vaQ rfl rfl rfl) rfl, iaQ rfl (zax rfl) rfl, iaQ rfl (fdQ 0 rfl rfl rfl) rfl, iaQ rfl (zan rfl rfl rfl (zai 0 rfl rfl)) rfl, .inl ⟨rfl, zam rfl rfl (fun w hm => zbb (zgi zs ((n.gs.getD k an0).a) _ w ((zao 1 rfl) w hm) (by omega) (by first | assumption | omega) (by omega)))⟩, iaQ rfl (zax rfl) rfl, iaQ rfl (fdQ 1 rfl rfl rfl) rfl, iaQ rfl (zan rfl rfl rfl (zai 0 rfl rfl)) rfl, .inl ⟨rfl, zam rfl rfl (fun w hm => zbb (zgi zs ((n.gs.getD k an0).b) _ w ((zao 1 rfl) w hm) (by omega) (by first | assumption | omega) (by omega)))⟩, iaQ rfl (zcl rfl (by decide) rfl rfl (r := (bitL zs ((n.gs.getD k an0).a)) * (bitL zs ((n.gs.getD k an0).b))) (and01 hP1 hP2)) rfl, iaQ rfl (riQ 1 rfl rfl rfl rfl (zao 1 rfl)) rfl, trivial⟩
  simp only [List.drop_succ_cons, List.drop_zero]
  refine hl_stE (i := 1) (n' := (zs.set ((n.fst + (k : Int)).toNat) ((bitL zs ((n.gs.getD k an0).a)) * (bitL zs ((n.gs.getD k an0).b)))).length) (xs' := ((zs.set ((n.fst + (k : Int)).toNat) ((bitL zs ((n.gs.getD k an0).a)) * (bitL zs ((n.gs.getD k an0).b)))).map (Value.int .i64))) rfl rfl rfl rfl rfl rfl rfl rfl (by first | omega | (simp only [List.length_set]; omega)) List.length_set.symm (zfc _ _ _) rfl (zbu (zdn (zav (hvQ rfl (vaQ rfl rfl rfl) (enQ 1 rfl ?_)))))
  exact zci (k + 1) (zs.set ((n.fst + (k : Int)).toNat) ((bitL zs ((n.gs.getD k an0).a)) * (bitL zs ((n.gs.getD k an0).b)))) ⟨by omega, by rw [hB1, hB2, hz, show (n.fst + (k : Int)).toNat = (valL n st inp k).length by omega, val_step n st inp (by omega)]; exact fill_set rfl (by omega)⟩ (by omega) (saQ rfl) (slQ [1, 0] rfl)
 refine ntQ (fcQ rfl ?_)
 refine zby (zes ?_)
 refine zat (zaw (zbn 2 rfl ?_))
 exact zak (zev (post := [rI9 3 (.slice (some ⟨g2, 0, none⟩) ((List.replicate (n.cnt).toNat (0 : Int)).length) ((List.replicate (n.cnt).toNat (0 : Int)).length)) zs]) rfl rfl (slQ [0] rfl) (by rw [hz, show k = n.gs.length by omega, fill_all (by rw [zez n st inp _ (Nat.le_refl _)]; omega)]))
theorem implNodeValues_ret (n : Nt) (st : List Int) (v : Value) (inp : Int) (w : World) (hr : RdsNt w n) (hn : NtOk n) (hst : RdsW w v 1 st.length (st.map (Value.int .i64))) (hso : StOk n st) (hin : 0 ≤ inp ∧ inp ≤ 4294967295) :
   Calls Try.prog 41 #[.agg #[.int .i64 n.ins, n.sv, n.av, n.ov], v, .int .i64 inp] w (Ret w (fun v' post => post = [rI9 3 v' (valsL n st inp)])) := by
 have hi0 := hn.i0
 have hi1 := hn.i1
 have hs1 := hn.s1
 have ha1 := hn.a1
 have ho1 := hn.o1
 have hcnt : n.cnt = 1 + n.ins + n.ss.length + n.gs.length := rfl
 have hfst : n.fst = 1 + n.ins + n.ss.length := rfl
 refine zbq (N := 15) (args := [.agg #[.int .i64 n.ins, n.sv, n.av, n.ov], v, .int .i64 inp]) Try.func41 rfl rfl (srQ ?_)
 refine zed rfl (zdh rfl rfl) ?_
 intro b1
 refine zbc 1 rfl (zgk (hvQ rfl (zar (cs := [.int .i64 n.ins, n.sv, n.av, n.ov]) rfl rfl rfl rfl rfl (zah 0 rfl 0 rfl)) (zag 1 rfl ?_)))
 refine zdu rfl (zam rfl rfl (fun w hm => zbb (implStateOk_yes n st _ w (hr.below hm.bel) hn (hst.below hm.bel) hso))) (zbc 1 rfl (zal rfl (zdb (srQ (hvQ rfl (zar (cs := [.int .i64 n.ins, n.sv, n.av, n.ov]) rfl rfl rfl rfl rfl (zah 0 rfl 0 rfl)) (zag 2 rfl ?_))))))
 refine zfg rfl rfl rfl (zam rfl rfl (fun w hm => implnodeValues_ret n st _ inp w (hr.below hm.bel) hn (hst.below hm.bel) hso)) ?_
 intro v2 p3 hR4
 subst hR4
 refine zbc 1 rfl ?_
 exact zak (zev (post := [rowE 3 1 v2 ((valsL n st inp).length) ((valsL n st inp).map (Value.int .i64))]) rfl rfl (slQ [0] rfl) rfl)
def eqA (a b c d : Int) : Bool := a == c && b == d
theorem eqA_yes {a b c d : Int} (h : eqA a b c d = true) : a = c ∧ b = d := by unfold eqA at h; simpa using h
theorem Bit.xor_par (m : Nat) : (m ^^^ 1) % 2 = (m + 1) % 2 := by
  have h : (m ^^^ 1) / 2 ^ 0 % 2 = (m / 2 ^ 0 % 2) ^^^ (1 / 2 ^ 0 % 2) := Bit.bit_xor m 1 0
  simp only [Nat.pow_zero, Nat.div_one] at h
  rw [h]
  rcases Nat.mod_two_eq_zero_or_one m with e | e <;> rw [e] <;> simp <;> omega
theorem xor_xr {a : Int} (h0 : 0 ≤ a) (h1 : a < 4294967296) : bits .xor .i64 a 1 = xr a := by
  rw [Bit.xor_int a 1 h0 h1 (by decide) (by decide)]
  unfold xr
  have h2 : (a.toNat ^^^ (1 : Int).toNat) / 2 = a.toNat / 2 := by
    show (a.toNat ^^^ 1) / 2 = a.toNat / 2
    have := Nat.xor_div_two (a := a.toNat) (b := 1)
    rw [this]; simp
  have h3 : (a.toNat ^^^ (1 : Int).toNat) % 2 = (a.toNat + 1) % 2 := by
    show (a.toNat ^^^ 1) % 2 = (a.toNat + 1) % 2
    have e := Bit.xor_par a.toNat
    exact e
  split <;> omega
theorem nt_like {n : Nt} {gs : List An} {v : Value} (h : NtOk (withG n gs)) : NtOk { n with av := v, gs := gs } := ⟨h.i0, h.i1, h.s1, h.a1, h.o1, h.sq, h.xs, h.an, h.ou⟩
def netP (b : Nat) (n : Nt) (v : Value) (gs : List An) : HP := bigE [boxE b #[.int .i64 n.ins, n.sv, v, n.ov] 70, rS9 141 2 v gs anC]
section
variable {N : Nat} {w0 : World} {l : List HP} {env : List (Nat × Value)} {o : Oper}
theorem rv_eqAn {x y : Operand} {a b c d : Int} (ho : o.op = .binOp .eql 141 x y 141) (hx : ev env x = some (.agg #[.int .i64 a, .int .i64 b])) (hy : ev env y = some (.agg #[.int .i64 c, .int .i64 d])) :
    RunV Try.prog N w0 l env o (.bool (eqA a b c d)) := fun a1 w st => by
  have hg : (eqGuard .eql 141 x y (.agg #[.int .i64 a, .int .i64 b]) (.agg #[.int .i64 c, .int .i64 d])).run Try.prog w = .ok () w := run_eqGuard_agg _ _ _ _ _ _ _ (by kernel_rfl)
  have h2 : (binOp .eql 141 (.agg #[.int .i64 a, .int .i64 b]) (.agg #[.int .i64 c, .int .i64 d])).run Try.prog w = .ok (.bool (eqA a b c d)) w := by
    rw [run_eql_struct, run_equalIn_struct _ _ _ _ _ (by kernel_rfl) (by kernel_rfl)]
    have e0 : (Try.prog.fieldsOf 141).toList = [(Try.prog.fieldsOf 141)[0]!, (Try.prog.fieldsOf 141)[1]!] := by kernel_rfl
    have n0 : ((Try.prog.fieldsOf 141)[0]!).name = "A" := by kernel_rfl
    have n1 : ((Try.prog.fieldsOf 141)[1]!).name = "B" := by kernel_rfl
    have t0 : ((Try.prog.fieldsOf 141)[0]!).type = 3 := by kernel_rfl
    have t1 : ((Try.prog.fieldsOf 141)[1]!).type = 3 := by kernel_rfl
    have o0 : ((Try.prog.fieldsOf 141)[0]!).offset = 0 := by kernel_rfl
    have o1 : ((Try.prog.fieldsOf 141)[1]!).offset = 1 := by kernel_rfl
    rw [e0]
    generalize (Try.prog.fieldsOf 141)[0]! = f0 at *
    generalize (Try.prog.fieldsOf 141)[1]! = f1 at *
    have m0 : f0.name ≠ "_" := by rw [n0]; decide
    have m1 : f1.name ≠ "_" := by rw [n1]; decide
    have hk : Try.prog.plainKey 3 = true := by kernel_rfl
    have q : ∀ (u v : Int) (w : World), (Op.equalIn 9999 3 (.int .i64 u) (.int .i64 v)).run Try.prog w = .ok (u == v) w := fun u v w => run_equalIn_int w 9998 3 .i64 .i64 u v Try.underlying3
    have pa : ∀ w : World, (part f0.type #[Value.int .i64 a, .int .i64 b] f0.offset).run Try.prog w = .ok (.int .i64 a) w := fun w => by rw [t0, o0]; exact run_part_plain w hk rfl
    have pb : ∀ w : World, (part f1.type #[Value.int .i64 a, .int .i64 b] f1.offset).run Try.prog w = .ok (.int .i64 b) w := fun w => by rw [t1, o1]; exact run_part_plain w hk rfl
    have pc : ∀ w : World, (part f0.type #[Value.int .i64 c, .int .i64 d] f0.offset).run Try.prog w = .ok (.int .i64 c) w := fun w => by rw [t0, o0]; exact run_part_plain w hk rfl
    have pd : ∀ w : World, (part f1.type #[Value.int .i64 c, .int .i64 d] f1.offset).run Try.prog w = .ok (.int .i64 d) w := fun w => by rw [t1, o1]; exact run_part_plain w hk rfl
    have q0 : ∀ (u v : Int) (w : World), (Op.equalIn 9999 f0.type (.int .i64 u) (.int .i64 v)).run Try.prog w = .ok (u == v) w := by rw [t0]; exact q
    have q1 : ∀ (u v : Int) (w : World), (Op.equalIn 9999 f1.type (.int .i64 u) (.int .i64 v)).run Try.prog w = .ok (u == v) w := by rw [t1]; exact q
    simp only [Op.eqFields, m0, m1, ne_eq, not_false_eq_true, if_true, Sem.run_bind, pa, pb, pc, pd, q0, q1, Result.andThen_ok, Sem.run_ite, Sem.run_pure]
    unfold eqA
    cases (a == c) <;> cases (b == d) <;> simp
  simp [execOp, ho, st.eval hx, st.eval hy, hg, h2]
end
structure Ext (n : Nt) (g g' : List An) : Prop where
  ext : ∃ t, g' = g ++ t
  ok : NtOk (withG n g')
theorem Ext.refl {n : Nt} {g : List An} (h : NtOk (withG n g)) : Ext n g g := ⟨⟨[], by simp⟩, h⟩
theorem Ext.trans {n : Nt} {a b c : List An} (h : Ext n a b) (k : Ext n b c) : Ext n a c := by
  obtain ⟨s, rfl⟩ := h.ext
  obtain ⟨t, rfl⟩ := k.ext
  exact ⟨⟨s ++ t, by simp⟩, k.ok⟩
theorem Ext.len {n : Nt} {g g' : List An} (h : Ext n g g') : g.length ≤ g'.length := by obtain ⟨t, rfl⟩ := h.ext; rw [List.length_append]; omega
theorem Ext.lit {n : Nt} {g g' : List An} (h : Ext n g g') {l : Int} (hl : LtOk l (n.fst + g.length)) : LtOk l (n.fst + g'.length) := by have := h.len; exact ⟨hl.1, by have := hl.2; omega⟩
theorem Ext.keep {n : Nt} {g g' : List An} (h : Ext n g g') (h0 : NtOk (withG n g)) {st : List Int} (hs : st.length = n.ss.length) (inp : Int) {l : Int} (hl : LtOk l (n.fst + g.length)) : bitL (valsL (withG n g') st inp) l = bitL (valsL (withG n g) st inp) l := by
  obtain ⟨t, rfl⟩ := h.ext; exact bit_ext h0 hs inp hl
theorem AddOk.toExt {n : Nt} {g g' : List An} {x : Int} {k : Nat} {f : (Int → Int) → Int} (h : AddOk n g g' x k f) : Ext n g g' := ⟨by obtain ⟨t, e, _⟩ := h.ext; exact ⟨t, e⟩, h.ok⟩
structure OpR (n : Nt) (g g' : List An) (o : Option (List An × Int)) (z : Int) : Prop where
  ex : Ext n g g'
  res : (o = some (g', z) ∧ LtOk z (n.fst + g'.length)) ∨ (o = none ∧ z < 0)
theorem OpR.mk2 {n : Nt} {g : List An} {a b : Int} {r : List An × Int} (h : NtOk (withG n g)) (e : andO n.fst g a b = some r) : OpR n g r.1 (andO n.fst g a b) r.2 := ⟨(zfh h e).toExt, .inl ⟨e, (zfh h e).lit⟩⟩
section
variable {f : Int} {gs : List An} {a b : Int}
theorem zgv (ha : LtOk a (f + gs.length)) (hb : LtOk b (f + gs.length)) (hc : a = 0 ∨ b = 0 ∨ xr a = b) : andO f gs a b = some (gs, 0) := by unfold andO; rw [if_pos ⟨ha, hb⟩, if_pos hc]
theorem andO_b (ha : LtOk a (f + gs.length)) (hb : LtOk b (f + gs.length)) (hn : ¬ (a = 0 ∨ b = 0 ∨ xr a = b)) (hc : a = 1 ∨ a = b) : andO f gs a b = some (gs, b) := by unfold andO; rw [if_pos ⟨ha, hb⟩, if_neg hn, if_pos hc]
theorem andO_a (ha : LtOk a (f + gs.length)) (hb : LtOk b (f + gs.length)) (hn : ¬ (a = 0 ∨ b = 0 ∨ xr a = b)) (h2 : ¬ (a = 1 ∨ a = b)) (hc : b = 1) : andO f gs a b = some (gs, a) := by unfold andO; rw [if_pos ⟨ha, hb⟩, if_neg hn, if_neg h2, if_pos hc]
theorem andO_hit (ha : LtOk a (f + gs.length)) (hb : LtOk b (f + gs.length)) (hn : ¬ (a = 0 ∨ b = 0 ∨ xr a = b)) (h2 : ¬ (a = 1 ∨ a = b)) (h3 : ¬ b = 1) {i : Nat} (hi : i < gs.length) (he : (gs.getD i an0).a = min a b ∧ (gs.getD i an0).b = max a b)
    (hno : ∀ q, q < i → ¬ ((gs.getD q an0).a = min a b ∧ (gs.getD q an0).b = max a b)) : andO f gs a b = some (gs, 2 * (f + i)) := by
  have e := fndA_hit hi he hno
  unfold andO; rw [if_pos ⟨ha, hb⟩, if_neg hn, if_neg h2, if_neg h3, e, if_pos hi]
theorem andO_new (ha : LtOk a (f + gs.length)) (hb : LtOk b (f + gs.length)) (hn : ¬ (a = 0 ∨ b = 0 ∨ xr a = b)) (h2 : ¬ (a = 1 ∨ a = b)) (h3 : ¬ b = 1)
    (hno : ∀ q, q < gs.length → ¬ ((gs.getD q an0).a = min a b ∧ (gs.getD q an0).b = max a b)) (hl : gs.length < 300) : andO f gs a b = some (gs ++ [An.mk (min a b) (max a b)], 2 * (f + gs.length)) := by
  have e := fndA_miss hno
  unfold andO; rw [if_pos ⟨ha, hb⟩, if_neg hn, if_neg h2, if_neg h3, e, if_neg (Nat.lt_irrefl _), if_pos hl]
theorem andO_full (ha : LtOk a (f + gs.length)) (hb : LtOk b (f + gs.length)) (hn : ¬ (a = 0 ∨ b = 0 ∨ xr a = b)) (h2 : ¬ (a = 1 ∨ a = b)) (h3 : ¬ b = 1)
    (hno : ∀ q, q < gs.length → ¬ ((gs.getD q an0).a = min a b ∧ (gs.getD q an0).b = max a b)) (hl : ¬ gs.length < 300) : andO f gs a b = none := by
  have e := fndA_miss hno
  unfold andO; rw [if_pos ⟨ha, hb⟩, if_neg hn, if_neg h2, if_neg h3, e, if_neg (Nat.lt_irrefl _), if_neg hl]
end
theorem eqA_no {a b c d : Int} (h : eqA a b c d = false) : ¬ (a = c ∧ b = d) := fun ⟨e1, e2⟩ => by subst e1 e2; unfold eqA at h; simp at h
theorem OpR.of {n : Nt} {g g' : List An} {a b z : Int} (h : NtOk (withG n g)) (e : andO n.fst g a b = some (g', z)) : OpR n g g' (andO n.fst g a b) z := OpR.mk2 (r := (g', z)) h e
theorem OpR.no {n : Nt} {g : List An} {o : Option (List An × Int)} {z : Int} (h : NtOk (withG n g)) (e : o = none) (hz : z < 0) : OpR n g g o z := ⟨Ext.refl h, .inr ⟨e, hz⟩⟩
theorem OpR.pos {n : Nt} {g g' : List An} {o : Option (List An × Int)} {z : Int} (h : OpR n g g' o z) (hz : 0 ≤ z) : o = some (g', z) ∧ LtOk z (n.fst + g'.length) := by rcases h.res with k | k <;> first | exact k | omega
theorem OpR.neg {n : Nt} {g g' : List An} {o : Option (List An × Int)} {z : Int} (h : OpR n g g' o z) (hz : z < 0) : o = none := by
  rcases h.res with k | k
  · have := k.2.1; omega
  · exact k.1
theorem OpR.orr {n : Nt} {g g' : List An} {a b z : Int} (h : OpR n g g' (andO n.fst g (xr a) (xr b)) z) (hz : 0 ≤ z) : OpR n g g' (orO n.fst g a b) (xr z) := by
  obtain ⟨e, k⟩ := h.pos hz
  exact ⟨h.ex, .inl ⟨by unfold orO; rw [e] <;> rfl, xr_ok k⟩⟩
theorem OpR.orn {n : Nt} {g g' : List An} {a b z y : Int} (h : OpR n g g' (andO n.fst g (xr a) (xr b)) z) (hz : z < 0) (hy : y < 0) : OpR n g g' (orO n.fst g a b) y := ⟨h.ex, .inr ⟨by unfold orO; rw [h.neg hz] <;> rfl, hy⟩⟩
def prO (f : Int) (gs : List An) (a b c e : Int) : Option (List An × Int) := (andO f gs a b).bind fun r => (andO f r.1 c e).bind fun s => orO f s.1 r.2 s.2
theorem OpR.pair1 {n : Nt} {g g1 : List An} {a b c e p y : Int} (h : OpR n g g1 (andO n.fst g a b) p) (hp : p < 0) (hy : y < 0) : OpR n g g1 (prO n.fst g a b c e) y := ⟨h.ex, .inr ⟨by unfold prO; rw [h.neg hp] <;> rfl, hy⟩⟩
theorem OpR.pair2 {n : Nt} {g g1 g2 : List An} {a b c e p q y : Int} (h : OpR n g g1 (andO n.fst g a b) p) (hp : 0 ≤ p) (k : OpR n g1 g2 (andO n.fst g1 c e) q) (hq : q < 0) (hy : y < 0) : OpR n g g2 (prO n.fst g a b c e) y :=
  ⟨h.ex.trans k.ex, .inr ⟨by unfold prO; rw [(h.pos hp).1]; dsimp only [Option.bind]; rw [k.neg hq] <;> rfl, hy⟩⟩
theorem OpR.pair {n : Nt} {g g1 g2 g3 : List An} {a b c e p q z : Int} (h : OpR n g g1 (andO n.fst g a b) p) (hp : 0 ≤ p) (k : OpR n g1 g2 (andO n.fst g1 c e) q) (hq : 0 ≤ q) (j : OpR n g2 g3 (orO n.fst g2 p q) z) : OpR n g g3 (prO n.fst g a b c e) z :=
  ⟨(h.ex.trans k.ex).trans j.ex, by
    have e1 : prO n.fst g a b c e = orO n.fst g2 p q := by unfold prO; rw [(h.pos hp).1]; dsimp only [Option.bind]; rw [(k.pos hq).1]
    rw [e1]; exact j.res⟩
theorem addAndX_mut (b : Nat) (n : Nt) (x y : Int) (w0 : World) (l : List HP) (w : World) (hm0 : Mem w0 (nB9 b n :: rS9 141 2 n.av n.gs anC :: l) w) (hn : NtOk (withG n n.gs)) (hx : LtOk x (n.fst + n.gs.length)) (hy : LtOk y (n.fst + n.gs.length)) (hso : ∀ w, Mem w0 l w → RdsW w n.sv 3 n.ss.length (n.ss.flatMap sqC) ∧ (∀ s ∈ n.ss, RdsW w s.iv 1 s.xs.length (s.xs.map (Value.int .i64))) ∧ RdsW w n.ov 1 n.os.length (n.os.map (Value.int .i64))) (hone : n.sv.oneCell' = true ∧ n.ov.oneCell' = true) :
   Calls Try.prog 165 #[.pointer (some ⟨b, 0, none⟩), .int .i64 x, .int .i64 y] w (fun e_ w_ => ∃ v_ p_, e_ = .returned v_ ∧ (fun u_ p_ => ∃ z v_ g_, u_ = .int .i64 z ∧ p_ = netP b n v_ g_ ∧ OpR n n.gs g_ (andO n.fst n.gs x y) z) v_ p_ ∧ Mem w0 (p_ :: l) w_) := by
 have hi0 : 0 ≤ n.ins := hn.i0
 have hi1 : n.ins ≤ 20 := hn.i1
 have hs1 : n.ss.length ≤ 12 := hn.s1
 have ha1 : n.gs.length ≤ 300 := hn.a1
 have hf : n.fst = 1 + n.ins + n.ss.length := rfl
 have hmx : (if x < y then y else x) = max x y := by split <;> omega
 obtain ⟨hx0, hx1⟩ := id hx
 obtain ⟨hy0, hy1⟩ := id hy
 refine zdk (N := 86) (args := [.pointer (some ⟨b, 0, none⟩), .int .i64 x, .int .i64 y]) Try.func165 rfl rfl hm0 (zbn 1 rfl (sbQ (zac (reQ 1 rfl ?_))))
 refine zbj rfl rfl rfl rfl rfl rfl (fun h1 => ?_) (fun h1 => ?_)
 ·
  refine zbc 11 rfl (zaj rfl (zac (reQ 1 rfl ?_)))
  refine ntQ ?_
  refine zak (zaf ?_)
  refine zad (zaz 2 [1, 0] rfl rfl (by decide) ?_)
  refine zcu (netP b n n.av n.gs :: l) (zfp (ps := [nB9 b n, rS9 141 2 n.av n.gs anC])) ?_
  exact zcf (rs := [.tmp 6]) (vs := [.int .i64 0]) rfl ⟨rfl, trivial⟩ rfl (fun w hm => ⟨_, netP b n n.av n.gs, rfl, ⟨_, _, _, rfl, rfl, .of hn (zgv hx hy (by first | exact .inl (by omega) | exact .inr (.inl (by omega)) | exact .inr (.inr (by omega))))⟩, hm.sub (.refl _)⟩)
 refine zag 2 rfl (zbj rfl rfl rfl rfl rfl rfl (fun h2 => ?_) (fun h2 => ?_))
 ·
  refine zbc 8 rfl (zaj rfl (srQ (enQ 1 rfl ?_)))
  refine zaw (zak ?_)
  refine zaf (zad ?_)
  refine zaz 2 [1, 0] rfl rfl (by decide) ?_
  refine zcu (netP b n n.av n.gs :: l) (zfp (ps := [nB9 b n, rS9 141 2 n.av n.gs anC])) ?_
  exact zcf (rs := [.tmp 6]) (vs := [.int .i64 0]) rfl ⟨rfl, trivial⟩ rfl (fun w hm => ⟨_, netP b n n.av n.gs, rfl, ⟨_, _, _, rfl, rfl, .of hn (zgv hx hy (by first | exact .inl (by omega) | exact .inr (.inl (by omega)) | exact .inr (.inr (by omega))))⟩, hm.sub (.refl _)⟩)
 refine zag 3 rfl (hvQ rfl (zcl rfl (by decide) rfl rfl (r := xr x) (xor_xr hx0 (by omega))) (zag 1 rfl ?_))
 refine zbj rfl rfl rfl rfl rfl rfl (fun h3 => ?_) (fun h3 => ?_)
 ·
  refine zbc 2 rfl (zaj rfl (zbn 1 rfl ?_))
  refine zak (zaf ?_)
  refine zad (zaz 2 [1, 0] rfl rfl (by decide) ?_)
  refine zcu (netP b n n.av n.gs :: l) (zfp (ps := [nB9 b n, rS9 141 2 n.av n.gs anC])) ?_
  exact zcf (rs := [.tmp 6]) (vs := [.int .i64 0]) rfl ⟨rfl, trivial⟩ rfl (fun w hm => ⟨_, netP b n n.av n.gs, rfl, ⟨_, _, _, rfl, rfl, .of hn (zgv hx hy (by first | exact .inl (by omega) | exact .inr (.inl (by omega)) | exact .inr (.inr (by omega))))⟩, hm.sub (.refl _)⟩)
 refine zbc 2 rfl (zal rfl (zac (reQ 1 rfl ?_)))
 refine zbj rfl rfl rfl rfl rfl rfl (fun h4 => ?_) (fun h4 => ?_)
 ·
  refine zbc 6 rfl (zaj rfl (zbn 2 rfl ?_))
  refine zak (zaf ?_)
  refine zad (zaz 2 [1, 0] rfl rfl (by decide) ?_)
  refine zcu (netP b n n.av n.gs :: l) (zfp (ps := [nB9 b n, rS9 141 2 n.av n.gs anC])) ?_
  exact zcf (rs := [.tmp 6]) (vs := [.int .i64 y]) rfl ⟨rfl, trivial⟩ rfl (fun w hm => ⟨_, netP b n n.av n.gs, rfl, ⟨_, _, _, rfl, rfl, .of hn (andO_b hx hy (by omega) (by omega))⟩, hm.sub (.refl _)⟩)
 refine zag 3 rfl (zbj rfl rfl rfl rfl rfl rfl (fun h5 => ?_) (fun h5 => ?_))
 ·
  refine zbc 2 rfl (zaj rfl (zbn 2 rfl ?_))
  refine zak (zaf ?_)
  refine zad (zaz 2 [1, 0] rfl rfl (by decide) ?_)
  refine zcu (netP b n n.av n.gs :: l) (zfp (ps := [nB9 b n, rS9 141 2 n.av n.gs anC])) ?_
  exact zcf (rs := [.tmp 6]) (vs := [.int .i64 y]) rfl ⟨rfl, trivial⟩ rfl (fun w hm => ⟨_, netP b n n.av n.gs, rfl, ⟨_, _, _, rfl, rfl, .of hn (andO_b hx hy (by omega) (by omega))⟩, hm.sub (.refl _)⟩)
 refine zbc 2 rfl (zal rfl (zac (reQ 1 rfl ?_)))
 refine zbj rfl rfl rfl rfl rfl rfl (fun h6 => ?_) (fun h6 => ?_)
 ·
  refine zbc 1 rfl (zaj rfl (zbn 2 rfl ?_))
  refine zak (zaf ?_)
  refine zad (zaz 2 [1, 0] rfl rfl (by decide) ?_)
  refine zcu (netP b n n.av n.gs :: l) (zfp (ps := [nB9 b n, rS9 141 2 n.av n.gs anC])) ?_
  exact zcf (rs := [.tmp 6]) (vs := [.int .i64 x]) rfl ⟨rfl, trivial⟩ rfl (fun w hm => ⟨_, netP b n n.av n.gs, rfl, ⟨_, _, _, rfl, rfl, .of hn (andO_a hx hy (by omega) (by omega) (by omega))⟩, hm.sub (.refl _)⟩)
 refine zbc 1 rfl (fsQ rfl (zdn (zac (reQ 2 rfl (hvQ rfl (rv_min rfl rfl rfl) (zag 2 rfl (hvQ rfl (rv_max rfl rfl rfl) ?_)))))))
 refine hvQ rfl (zct (cs := #[.int .i64 (min x y), .int .i64 (if x < y then y else x)]) rfl rfl rfl) (zed rfl (zcc (z := .agg #[.int .i64 0, .int .i64 0]) rfl rfl) ?_)
 intro b7
 refine zbm (cs' := #[.int .i64 (min x y), .int .i64 (if x < y then y else x)]) (i := 0) (off := 0) (us := [.int .i64 (min x y), .int .i64 (if x < y then y else x)]) rfl rfl rfl rfl rfl rfl rfl (zaa rfl (zaa rfl zbe)) rfl rfl rfl (ntQ (zac (zac (reQ 1 rfl (hvQ rfl (zdf rfl rfl) (hvQ rfl (fdQ 2 rfl rfl rfl) (hvQ rfl (zan rfl rfl rfl (zai 1 rfl rfl)) (hvQ rfl (lnQ rfl rfl rfl (zao 2 rfl)) (enQ 1 rfl ?_)))))))))
 refine zaw (zbf ?_)
 refine lkQ1 (α := Nat) [0, 1, 2, 6, 7, 10, 23, 32, 46, 47] rfl (fun i => (boxE b7 #[.int .i64 (min x y), .int .i64 (if x < y then y else x)] 141 :: nB9 b n :: rS9 141 2 n.av n.gs anC :: l)) (fun i => [(48, .int .i64 (i : Int))]) (fun i => i ≤ n.gs.length ∧ ∀ q, q < i → ¬ ((n.gs.getD q an0).a = min x y ∧ (n.gs.getD q an0).b = max x y)) (fun i => n.gs.length - i) 0 ⟨Nat.zero_le _, fun q hq => absurd hq (Nat.not_lt_zero _)⟩ (saQ rfl) (.refl _) ?_
 intro i hi8
 obtain ⟨hi, hno⟩ := hi8
 refine srQ ?_
 refine zcb rfl rfl rfl rfl rfl rfl (fun h9 => ?_) (fun h9 => ?_)
 ·
  refine ntQ (tcQ rfl (zdb (sbQ (zac (reQ 1 rfl (hvQ rfl (riQ 2 rfl rfl rfl rfl (zao 2 rfl)) ?_))))))
  refine hvQ rfl (zda (us := [.int .i64 ((n.gs.getD i an0).a), .int .i64 ((n.gs.getD i an0).b)]) rfl rfl rfl rfl (zao 2 rfl) (by omega) rfl (zdt anC 2 (fun _ => rfl) n.gs an0 (show i < _ by omega) rfl)) (zed rfl (zcc (z := .agg #[.int .i64 0, .int .i64 0]) rfl rfl) ?_)
  intro b10
  refine zag 1 rfl (zbm (cs' := #[.int .i64 ((n.gs.getD i an0).a), .int .i64 ((n.gs.getD i an0).b)]) (i := 0) (off := 0) (us := [.int .i64 ((n.gs.getD i an0).a), .int .i64 ((n.gs.getD i an0).b)]) rfl rfl rfl rfl rfl rfl rfl (zaa rfl (zaa rfl zbe)) rfl rfl rfl ?_)
  refine ntQ (srQ (hvQ rfl (zar (cs := [.int .i64 (min x y), .int .i64 (if x < y then y else x)]) rfl rfl rfl rfl rfl (zah 1 rfl 0 rfl)) (hvQ rfl (zar (cs := [.int .i64 ((n.gs.getD i an0).a), .int .i64 ((n.gs.getD i an0).b)]) rfl rfl rfl rfl rfl (zah 0 rfl 0 rfl)) (hvQ rfl (rv_eqAn rfl rfl rfl) ?_))))
  refine zbz (fun h11 => ?_) (fun h11 => ?_)
  ·
   obtain ⟨hq1, hq2⟩ := eqA_yes h11
   refine ntQ (zaj rfl (zac (reQ 1 rfl (hvQ rfl (zdf rfl rfl) (hvQ rfl (zar (cs := [.int .i64 n.ins, n.sv, n.av, n.ov]) rfl rfl rfl rfl rfl (zah 2 rfl 0 rfl)) ?_)))))
   refine zdu rfl (zam rfl rfl (fun w hm => zbb (firstAnd_yes ({ n with av := n.av, gs := n.gs } : Nt) w (let h9 := hso w (hm.sub (.cons _ (.cons _ (.cons _ (.cons _ (.refl _)))))); ⟨h9.1, h9.2.1, zao 3 rfl w hm, h9.2.2⟩) (nt_like hn)))) (zag 1 rfl (hvQ rfl (vaQ rfl rfl rfl) (hvQ rfl (zfs rfl rfl rfl (by constructor <;> omega)) (zbc 1 rfl ?_))))
   refine zak (zaf ?_)
   refine zfv ?_
   refine zaf (zad ?_)
   refine zaz 4 [3, 2] rfl rfl (by decide) ?_
   refine zcu (netP b n n.av n.gs :: l) (zfp (ps := [nB9 b n, rS9 141 2 n.av n.gs anC])) ?_
   exact zcf (rs := [.tmp 6]) (vs := [.int .i64 (2 * (n.fst + (i : Int)))]) rfl ⟨rfl, trivial⟩ rfl (fun w hm => ⟨_, netP b n n.av n.gs, rfl, ⟨_, _, _, rfl, rfl, .of hn (andO_hit hx hy (by omega) (by omega) (by omega) (by omega) ⟨hq1.symm, by rw [← hq2]; exact hmx⟩ hno)⟩, hm.sub (.refl _)⟩)
  have hqn := eqA_no h11
  refine ntQ (fsQ rfl (zdn (zav (hvQ rfl (vaQ rfl rfl rfl) (enQ 1 rfl ?_)))))
  exact zcm (i + 1) ⟨by omega, fun q hq => by by_cases e9 : q = i; (subst e9; exact fun h9 => hqn ⟨h9.1.symm, by rw [h9.2]; exact hmx⟩); exact hno q (by omega)⟩ (by omega) (saQ rfl) (.cons _ (.refl _))
 refine ntQ (fcQ rfl ?_)
 refine zby (zes ?_)
 refine zat (zaw (zac (zac (reQ 1 rfl (hvQ rfl (zdf rfl rfl) (hvQ rfl (fdQ 2 rfl rfl rfl) (hvQ rfl (zan rfl rfl rfl (zai 1 rfl rfl)) (hvQ rfl (lnQ rfl rfl rfl (zao 2 rfl)) ?_))))))))
 refine zfw rfl rfl rfl rfl rfl rfl (fun h12 => ?_) (fun h12 => ?_)
 ·
  refine ntQ (zaj rfl (zbn 1 rfl ?_))
  refine zak (zad ?_)
  refine zaz 3 [2, 1] rfl rfl (by decide) ?_
  refine zcu (netP b n n.av n.gs :: l) (zfp (ps := [nB9 b n, rS9 141 2 n.av n.gs anC])) ?_
  exact zcf (rs := [.tmp 6]) (vs := [.int .i64 (-1)]) rfl ⟨rfl, trivial⟩ rfl (fun w hm => ⟨_, netP b n n.av n.gs, rfl, ⟨_, _, _, rfl, rfl, .no hn (andO_full hx hy (by omega) (by omega) (by omega) (fun q hq => hno q (by omega)) (by omega)) (by omega)⟩, hm.sub (.refl _)⟩)
 refine ntQ (zal rfl (zdb (zac ?_)))
 refine zdo 3 [1, 0, 2] rfl rfl (by decide) ?_
 refine zdq (l := (boxE b7 #[.int .i64 (min x y), .int .i64 (if x < y then y else x)] 141 :: nB9 b n :: l)) rfl 8 [0, 1, 2, 3, 4, 5, 6, 7] (List.take 8 _) (List.drop 8 _) [[], [], [1], [2], [3], [], [5], [4, 6]] [some 70, some 71, some 72, some 73, some 74, some 75, some 76, some 77] (fun i_ vs_ v_ p_ => match i_ with | 0 => v_ = .pointer (some ⟨b, 0, none⟩) ∧ p_ = [] | 1 => v_ = .pointer (some ⟨b, 0, none⟩) ∧ p_ = [] | 2 => v_ = .pointer (some ⟨b, 0, none⟩) ∧ p_ = [] | 3 => v_ = .pointer (some ⟨b, 0 + 2, none⟩) ∧ p_ = [] | 4 => v_ = n.av ∧ p_ = [] | 5 => v_ = .agg #[.int .i64 (min x y), .int .i64 (if x < y then y else x)] ∧ p_ = [] | 6 => IsRow 141 2 1 ([min x y, (if x < y then y else x)].map (Value.int .i64)) v_ p_ | 7 => (∃ pm_, p_ = [pm_] ∧ (fun u_ p_ => p_ = rowE 141 2 u_ ((n.gs ++ [An.mk (min x y) (if x < y then y else x)]).length) ((n.gs ++ [An.mk (min x y) (if x < y then y else x)]).flatMap anC)) v_ pm_) | _ => True) [[], [], [1], [2], [3], [], [5], [4, 6]] [none, none, none, none, none, none, none, some 11] [[rS9 141 2 n.av n.gs anC]] [0, 1, 2, 3, 4, 5, 6, 7] 11 (List.take_append_drop 8 _).symm (by kernel_rfl) (by kernel_rfl) (by kernel_rfl) rfl rfl ?_ ?_
 ·
  refine ⟨?_, ?_, ?_, ?_, ?_, ?_, ?_, ?_, trivial⟩
  ·
   intro vf pf hmu hR
   refine zce [] [] rfl (zay (zae [0] rfl) ?_)
   exact zbi (zax rfl)
  ·
   intro vf pf hmu hR
   refine zce [] [] rfl (zay (zae [0] rfl) ?_)
   exact zbi (zax rfl)
  ·
   intro vf pf hmu hR
   have e1 := hR 1 (by decide)
   refine zce [1] [1] rfl (zay (sk 71 (congrArg some e1.1) (zab _)) ?_)
   exact zbi (zdf rfl rfl)
  ·
   intro vf pf hmu hR
   have e2 := hR 2 (by decide)
   refine zce [2] [2] rfl (zay (sk 72 (congrArg some e2.1) (zab _)) ?_)
   exact zbi (fdQ 2 rfl rfl rfl)
  ·
   intro vf pf hmu hR
   have e3 := hR 3 (by decide)
   refine zce [3] [3] rfl (zaq (sk 73 (congrArg some e3.1) (zab _)) (List.sublist_append_right _ _) ?_)
   exact zbi (zan rfl rfl rfl (zai 1 rfl rfl))
  ·
   intro vf pf hmu hR
   refine zce [] [] rfl (zaq (zae [7] rfl) (List.sublist_append_right _ _) ?_)
   exact zbi (zar (cs := [.int .i64 (min x y), .int .i64 (if x < y then y else x)]) rfl rfl rfl rfl rfl (zah 0 rfl 0 rfl))
  ·
   intro vf pf hmu hR
   have e5 := hR 5 (by decide)
   refine zce [5] [5] rfl (zaq (sk 75 (congrArg some e5.1) (zab _)) (List.sublist_append_right _ _) ?_)
   exact zas (z := .agg #[.int .i64 0, .int .i64 0]) (s := 2) (cs := ([min x y, (if x < y then y else x)].map (Value.int .i64))) rfl Try.underlying68 rfl (by decide) rfl (by kernel_rfl) rfl
  intro vf pf hmu hR
  have e4 := hR 4 (by decide)
  have e6 : IsRow 141 2 1 ([min x y, (if x < y then y else x)].map (Value.int .i64)) (vf 6) (pf 6) := hR 6 (by decide)
  obtain ⟨g13, vE6, pE6⟩ := e6
  refine Or.inl ⟨rfl, ?_⟩
  show RunM _ _ _ (pf 11) (([4, 6] : List Nat).flatMap pf ++ _) (envOf3 _ vf [4, 6] ++ _) _ _
  have hmu0 : pf 11 = [rS9 141 2 n.av n.gs anC] := hmu 0 (show 0 < 1 by omega)
  rw [hmu0]
  exact zbx (sk 74 (congrArg some e4.1) (sk 76 (congrArg some vE6) (zab _))) (by simp only [pE6, vE6, e4.2, fS] <;> rfl) (rm_append (d := 0) (z := .agg #[.int .i64 0, .int .i64 0]) (bytes := 16) (n' := (n.gs ++ [An.mk (min x y) (if x < y then y else x)]).length) (xs' := ((n.gs ++ [An.mk (min x y) (if x < y then y else x)]).flatMap anC)) rfl Try.underlying68 rfl rfl rfl rfl (zao 0 rfl) (zcj _) (by first | omega | (simp only [List.length_append, List.length_cons, List.length_nil]; omega)) (zco n.gs [An.mk (min x y) (if x < y then y else x)]) (zei anC n.gs (An.mk (min x y) (if x < y then y else x)) _ rfl))
 intro vf pf hmu hR
 have e0 := hR 0 (by decide)
 have e6 : IsRow 141 2 1 ([min x y, (if x < y then y else x)].map (Value.int .i64)) (vf 6) (pf 6) := hR 6 (by decide)
 obtain ⟨g13, vE6, pE6⟩ := e6
 have e7 : (∃ pm_, (pf 7) = [pm_] ∧ (fun u_ p_ => p_ = rowE 141 2 u_ ((n.gs ++ [An.mk (min x y) (if x < y then y else x)]).length) ((n.gs ++ [An.mk (min x y) (if x < y then y else x)]).flatMap anC)) (vf 7) pm_) := hR 7 (by decide)
 obtain ⟨p15, pE7, hR16⟩ := e7
 obtain ⟨v14, vE7⟩ : ∃ x, vf 7 = x := ⟨_, rfl⟩
 rw [vE7] at hR16
 subst hR16
 have q0 := hR 0 (by decide)
 have q1 := hR 1 (by decide)
 have q2 := hR 2 (by decide)
 have q3 := hR 3 (by decide)
 have q4 := hR 4 (by decide)
 have q5 := hR 5 (by decide)
 refine zcd (zbs [69, 49, 48, 47, 46, 32, 23, 10, 7, 6, 2, 1, 0] _ (sk 70 (congrArg some e0.1) (sk 77 (congrArg some vE7) (zab _))) rfl) (by simp only [pE6, vE6, pE7, vE7, q0.2, q1.2, q2.2, q3.2, q4.2, q5.2, fS] <;> rfl) ?_
 simp only [List.drop_succ_cons, List.drop_zero]
 refine hvQ rfl (zdf rfl rfl) (hvQ rfl (fdQ 2 rfl rfl rfl) ?_)
 refine zcr (i := 1) rfl (fun ho17 => ?_)
 refine zgs (i := 3) (cs' := #[.int .i64 n.ins, n.sv, v14, n.ov]) rfl rfl rfl rfl rfl rfl ho17 rfl rfl rfl rfl (ntQ (srQ ?_))
 have hnew2 : AddOk n n.gs (n.gs ++ [An.mk (min x y) (if x < y then y else x)]) (2 * (n.fst + n.gs.length)) 1 (fAnd x y) := by rw [hmx]; exact add_new hn hx hy (by omega)
 have hlen9 : (n.gs ++ [An.mk (min x y) (if x < y then y else x)]).length = n.gs.length + 1 := by simp
 have hcnt9 : ({ n with av := v14, gs := n.gs ++ [An.mk (min x y) (if x < y then y else x)] } : Nt).cnt = n.fst + (n.gs ++ [An.mk (min x y) (if x < y then y else x)]).length := rfl
 refine zag 1 rfl (hvQ rfl (zdf rfl rfl) (hvQ rfl (zar (cs := [.int .i64 n.ins, n.sv, v14, n.ov]) rfl rfl rfl rfl rfl (zah 3 rfl 0 rfl)) ?_))
 refine zdu rfl (zam rfl rfl (fun w hm => zbb (zfn ({ n with av := v14, gs := n.gs ++ [An.mk (min x y) (if x < y then y else x)] } : Nt) w (let h9 := hso w (hm.sub (.cons _ (.cons _ (.cons _ (.cons _ (.refl _)))))); ⟨h9.1, h9.2.1, zao 1 rfl w hm, h9.2.2⟩) (nt_like hnew2.ok)))) (hvQ rfl (vsQ rfl rfl rfl) (hvQ rfl (zfs rfl rfl rfl (by constructor <;> omega)) (zbc 1 rfl ?_)))
 refine zak (zaz 4 [1, 3] rfl rfl (by decide) ?_)
 refine zcu (netP b n v14 (n.gs ++ [An.mk (min x y) (if x < y then y else x)]) :: l) (zfp (ps := [boxE b #[.int .i64 n.ins, n.sv, v14, n.ov] 70, rowE 141 2 v14 ((n.gs ++ [An.mk (min x y) (if x < y then y else x)]).length) ((n.gs ++ [An.mk (min x y) (if x < y then y else x)]).flatMap anC)])) ?_
 exact zcf (rs := [.tmp 6]) (vs := [.int .i64 (2 * ((n.fst + (n.gs ++ [An.mk (min x y) (if x < y then y else x)]).length) - 1))]) rfl ⟨rfl, trivial⟩ rfl (fun w hm => ⟨_, netP b n v14 (n.gs ++ [An.mk (min x y) (if x < y then y else x)]), rfl, ⟨_, _, _, rfl, rfl, (by rw [show (2 * ((n.fst + (n.gs ++ [An.mk (min x y) (if x < y then y else x)]).length) - 1)) = 2 * (n.fst + (n.gs.length : Int)) by omega, hmx]; exact .of hn (andO_new hx hy (by omega) (by omega) (by omega) (fun q hq => hno q (by omega)) (by omega)))⟩, hm.sub (.refl _)⟩)
theorem OpR.like {n : Nt} {v : Value} {g0 g g2 : List An} {o : Option (List An × Int)} {z : Int} (h : OpR { n with av := v, gs := g0 } g g2 o z) : OpR n g g2 o z := ⟨⟨h.ex.ext, ⟨h.ex.ok.i0, h.ex.ok.i1, h.ex.ok.s1, h.ex.ok.a1, h.ex.ok.o1, h.ex.ok.sq, h.ex.ok.xs, h.ex.ok.an, h.ex.ok.ou⟩⟩, h.res⟩
theorem zgf (b : Nat) (n : Nt) (v : Value) (g : List An) (x y : Int) (w0 : World) (l : List HP) (w : World) (hm0 : Mem w0 (netP b n v g :: l) w) (hn : NtOk (withG n g)) (hx : LtOk x (n.fst + g.length)) (hy : LtOk y (n.fst + g.length)) (hso : ∀ w, Mem w0 l w → RdsW w n.sv 3 n.ss.length (n.ss.flatMap sqC) ∧ (∀ s ∈ n.ss, RdsW w s.iv 1 s.xs.length (s.xs.map (Value.int .i64))) ∧ RdsW w n.ov 1 n.os.length (n.os.map (Value.int .i64))) (hone : n.sv.oneCell' = true ∧ n.ov.oneCell' = true) :
    Calls Try.prog 165 #[.pointer (some ⟨b, 0, none⟩), .int .i64 x, .int .i64 y] w (fun e_ w_ => ∃ v_ p_, e_ = .returned v_ ∧ (fun u_ p_ => ∃ z v_ g_, u_ = .int .i64 z ∧ p_ = netP b n v_ g_ ∧ OpR n g g_ (andO n.fst g x y) z) v_ p_ ∧ Mem w0 (p_ :: l) w_) := by
  refine (addAndX_mut b { n with av := v, gs := g } x y w0 l w hm0.unbig ⟨hn.i0, hn.i1, hn.s1, hn.a1, hn.o1, hn.sq, hn.xs, hn.an, hn.ou⟩ hx hy hso hone).mono ?_
  rintro e w' ⟨u, p, rfl, ⟨z, v2, g2, rfl, rfl, ha⟩, hm⟩
  exact ⟨_, _, rfl, ⟨z, v2, g2, rfl, rfl, ha.like⟩, hm⟩
theorem addOrX_mut (b : Nat) (n : Nt) (v : Value) (g : List An) (x y : Int) (w0 : World) (l : List HP) (w : World) (hm0 : Mem w0 (netP b n v g :: l) w) (hn : NtOk (withG n g)) (hx : LtOk x (n.fst + g.length)) (hy : LtOk y (n.fst + g.length)) (hso : ∀ w, Mem w0 l w → RdsW w n.sv 3 n.ss.length (n.ss.flatMap sqC) ∧ (∀ s ∈ n.ss, RdsW w s.iv 1 s.xs.length (s.xs.map (Value.int .i64))) ∧ RdsW w n.ov 1 n.os.length (n.os.map (Value.int .i64))) (hone : n.sv.oneCell' = true ∧ n.ov.oneCell' = true) :
   Calls Try.prog 166 #[.pointer (some ⟨b, 0, none⟩), .int .i64 x, .int .i64 y] w (fun e_ w_ => ∃ v_ p_, e_ = .returned v_ ∧ (fun u_ p_ => ∃ z v_ g_, u_ = .int .i64 z ∧ p_ = netP b n v_ g_ ∧ OpR n g g_ (orO n.fst g x y) z) v_ p_ ∧ Mem w0 (p_ :: l) w_) := by
 have hi0 : 0 ≤ n.ins := hn.i0
 have hi1 : n.ins ≤ 20 := hn.i1
 have hs1 : n.ss.length ≤ 12 := hn.s1
 have ha1 : g.length ≤ 300 := hn.a1
 have hf : n.fst = 1 + n.ins + n.ss.length := rfl
 obtain ⟨hx0, hx1⟩ := id hx
 obtain ⟨hy0, hy1⟩ := id hy
 refine zdk (N := 18) (args := [.pointer (some ⟨b, 0, none⟩), .int .i64 x, .int .i64 y]) Try.func166 rfl rfl hm0 (zbn 1 rfl (zac (reQ 2 rfl (hvQ rfl (zcl rfl (by decide) rfl rfl (r := xr x) (xor_xr (by omega) (by omega))) (zag 1 rfl (hvQ rfl (zcl rfl (by decide) rfl rfl (r := xr y) (xor_xr (by omega) (by omega))) ?_))))))
 refine zcz (R := (fun u_ p_ => ∃ z v_ g_, u_ = .int .i64 z ∧ p_ = netP b n v_ g_ ∧ OpR n g g_ (andO n.fst g (xr x) (xr y)) z)) 0 rfl rfl rfl rfl rfl (fun L w hX hm => zgf b n v g (xr x) (xr y) _ _ _ hm hn (xr_ok hx) (xr_ok hy) (fun w hm => hso w (hX w hm)) hone) ?_
 intro v1 p2 hR3
 obtain ⟨zhR3, vhR3, ghR3, rfl, rfl, ohR3⟩ := hR3
 have lhR3 : ghR3.length ≤ 300 := ohR3.ex.ok.a1
 have rhR3 : zhR3 < 0 ∨ LtOk zhR3 (n.fst + ghR3.length) := by rcases ohR3.res with q9 | q9; exact .inr q9.2; exact .inl q9.2
 unfold LtOk at rhR3
 refine zck (l' := (netP b n vhR3 ghR3 :: l)) rfl ?_
 refine zbc 1 rfl (zac (zac (reQ 1 rfl ?_)))
 refine zcb rfl rfl rfl rfl rfl rfl (fun h4 => ?_) (fun h4 => ?_)
 ·
  refine ntQ (zaj rfl (zbn 1 rfl ?_))
  refine zak (zad ?_)
  exact zcf (rs := [.tmp 6]) (vs := [.int .i64 (-1)]) rfl ⟨rfl, trivial⟩ rfl (fun w hm => ⟨_, netP b n vhR3 ghR3, rfl, ⟨_, _, _, rfl, rfl, ohR3.orn (by omega) (by omega)⟩, hm.sub (.refl _)⟩)
 refine ntQ (zal rfl (zdb (zac (reQ 1 rfl (hvQ rfl (zcl rfl (by decide) rfl rfl (r := xr zhR3) (xor_xr (by omega) (by omega))) (zbc 1 rfl ?_))))))
 exact zak (zcf (rs := [.tmp 6]) (vs := [.int .i64 (xr zhR3)]) rfl ⟨rfl, trivial⟩ rfl (fun w hm => ⟨_, netP b n vhR3 ghR3, rfl, ⟨_, _, _, rfl, rfl, ohR3.orr (by omega)⟩, hm.sub (.refl _)⟩))
theorem addXorX_mut (b : Nat) (n : Nt) (v : Value) (g : List An) (x y : Int) (w0 : World) (l : List HP) (w : World) (hm0 : Mem w0 (netP b n v g :: l) w) (hn : NtOk (withG n g)) (hx : LtOk x (n.fst + g.length)) (hy : LtOk y (n.fst + g.length)) (hso : ∀ w, Mem w0 l w → RdsW w n.sv 3 n.ss.length (n.ss.flatMap sqC) ∧ (∀ s ∈ n.ss, RdsW w s.iv 1 s.xs.length (s.xs.map (Value.int .i64))) ∧ RdsW w n.ov 1 n.os.length (n.os.map (Value.int .i64))) (hone : n.sv.oneCell' = true ∧ n.ov.oneCell' = true) :
   Calls Try.prog 167 #[.pointer (some ⟨b, 0, none⟩), .int .i64 x, .int .i64 y] w (fun e_ w_ => ∃ v_ p_, e_ = .returned v_ ∧ (fun u_ p_ => ∃ z v_ g_, u_ = .int .i64 z ∧ p_ = netP b n v_ g_ ∧ OpR n g g_ (xorO n.fst g x y) z) v_ p_ ∧ Mem w0 (p_ :: l) w_) := by
 have hi0 : 0 ≤ n.ins := hn.i0
 have hi1 : n.ins ≤ 20 := hn.i1
 have hs1 : n.ss.length ≤ 12 := hn.s1
 have ha1 : g.length ≤ 300 := hn.a1
 have hf : n.fst = 1 + n.ins + n.ss.length := rfl
 obtain ⟨hx0, hx1⟩ := id hx
 obtain ⟨hy0, hy1⟩ := id hy
 refine zdk (N := 27) (args := [.pointer (some ⟨b, 0, none⟩), .int .i64 x, .int .i64 y]) Try.func167 rfl rfl hm0 (zbn 1 rfl (zac (reQ 3 rfl (hvQ rfl (zcl rfl (by decide) rfl rfl (r := xr y) (xor_xr (by omega) (by omega))) ?_))))
 refine zcz (R := (fun u_ p_ => ∃ z v_ g_, u_ = .int .i64 z ∧ p_ = netP b n v_ g_ ∧ OpR n g g_ (andO n.fst g x (xr y)) z)) 0 rfl rfl rfl rfl rfl (fun L w hX hm => zgf b n v g x (xr y) _ _ _ hm hn hx (xr_ok hy) (fun w hm => hso w (hX w hm)) hone) ?_
 intro v1 p2 hR3
 obtain ⟨zhR3, vhR3, ghR3, rfl, rfl, ohR3⟩ := hR3
 have lhR3 : ghR3.length ≤ 300 := ohR3.ex.ok.a1
 have rhR3 : zhR3 < 0 ∨ LtOk zhR3 (n.fst + ghR3.length) := by rcases ohR3.res with q9 | q9; exact .inr q9.2; exact .inl q9.2
 unfold LtOk at rhR3
 refine zck (l' := (netP b n vhR3 ghR3 :: l)) rfl ?_
 refine zbc 1 rfl (zac (zac (reQ 1 rfl ?_)))
 refine zcb rfl rfl rfl rfl rfl rfl (fun h4 => ?_) (fun h4 => ?_)
 ·
  refine ntQ (zaj rfl (zbn 1 rfl ?_))
  refine zak (zad ?_)
  exact zcf (rs := [.tmp 6]) (vs := [.int .i64 (-1)]) rfl ⟨rfl, trivial⟩ rfl (fun w hm => ⟨_, netP b n vhR3 ghR3, rfl, ⟨_, _, _, rfl, rfl, .pair1 ohR3 (by omega) (by omega)⟩, hm.sub (.refl _)⟩)
 refine ntQ (zal rfl (zdb (zac (reQ 2 rfl (hvQ rfl (zcl rfl (by decide) rfl rfl (r := xr x) (xor_xr (by omega) (by omega))) (zag 1 rfl ?_))))))
 refine zcz (R := (fun u_ p_ => ∃ z v_ g_, u_ = .int .i64 z ∧ p_ = netP b n v_ g_ ∧ OpR n ghR3 g_ (andO n.fst ghR3 (xr x) y) z)) 0 rfl rfl rfl rfl rfl (fun L w hX hm => zgf b n vhR3 ghR3 (xr x) y _ _ _ hm ohR3.ex.ok (xr_ok (ohR3.ex.lit hx)) (ohR3.ex.lit hy) (fun w hm => hso w (hX w hm)) hone) ?_
 intro v5 p6 hR7
 obtain ⟨zhR7, vhR7, ghR7, rfl, rfl, ohR7⟩ := hR7
 have lhR7 : ghR7.length ≤ 300 := ohR7.ex.ok.a1
 have rhR7 : zhR7 < 0 ∨ LtOk zhR7 (n.fst + ghR7.length) := by rcases ohR7.res with q9 | q9; exact .inr q9.2; exact .inl q9.2
 unfold LtOk at rhR7
 refine zck (l' := (netP b n vhR7 ghR7 :: l)) rfl ?_
 refine zbc 1 rfl (zac (zac (reQ 1 rfl ?_)))
 refine zcb rfl rfl rfl rfl rfl rfl (fun h8 => ?_) (fun h8 => ?_)
 ·
  refine ntQ (zaj rfl (zbn 1 rfl ?_))
  refine zak (zad ?_)
  exact zcf (rs := [.tmp 6]) (vs := [.int .i64 (-1)]) rfl ⟨rfl, trivial⟩ rfl (fun w hm => ⟨_, netP b n vhR7 ghR7, rfl, ⟨_, _, _, rfl, rfl, .pair2 ohR3 (by omega) ohR7 (by omega) (by omega)⟩, hm.sub (.refl _)⟩)
 refine ntQ (zal rfl (zdb (zac (reQ 3 rfl ?_))))
 refine zcz (R := (fun u_ p_ => ∃ z v_ g_, u_ = .int .i64 z ∧ p_ = netP b n v_ g_ ∧ OpR n ghR7 g_ (orO n.fst ghR7 zhR3 zhR7) z)) 0 rfl rfl rfl rfl rfl (fun L w hX hm => addOrX_mut b n vhR7 ghR7 zhR3 zhR7 _ _ _ hm ohR7.ex.ok (ohR7.ex.lit (ohR3.pos (by assumption)).2) (ohR7.pos (by assumption)).2 (fun w hm => hso w (hX w hm)) hone) ?_
 intro v9 p10 hR11
 obtain ⟨zhR11, vhR11, ghR11, rfl, rfl, ohR11⟩ := hR11
 have lhR11 : ghR11.length ≤ 300 := ohR11.ex.ok.a1
 have rhR11 : zhR11 < 0 ∨ LtOk zhR11 (n.fst + ghR11.length) := by rcases ohR11.res with q9 | q9; exact .inr q9.2; exact .inl q9.2
 unfold LtOk at rhR11
 refine zck (l' := (netP b n vhR11 ghR11 :: l)) rfl ?_
 refine zbc 1 rfl ?_
 exact zak (zcf (rs := [.tmp 6]) (vs := [.int .i64 zhR11]) rfl ⟨rfl, trivial⟩ rfl (fun w hm => ⟨_, netP b n vhR11 ghR11, rfl, ⟨_, _, _, rfl, rfl, .pair ohR3 (by omega) ohR7 (by omega) ohR11⟩, hm.sub (.refl _)⟩))
theorem addMuxX_mut (b : Nat) (n : Nt) (v : Value) (g : List An) (t x y : Int) (w0 : World) (l : List HP) (w : World) (hm0 : Mem w0 (netP b n v g :: l) w) (hn : NtOk (withG n g)) (hx : LtOk x (n.fst + g.length)) (hy : LtOk y (n.fst + g.length)) (ht : LtOk t (n.fst + g.length)) (hso : ∀ w, Mem w0 l w → RdsW w n.sv 3 n.ss.length (n.ss.flatMap sqC) ∧ (∀ s ∈ n.ss, RdsW w s.iv 1 s.xs.length (s.xs.map (Value.int .i64))) ∧ RdsW w n.ov 1 n.os.length (n.os.map (Value.int .i64))) (hone : n.sv.oneCell' = true ∧ n.ov.oneCell' = true) :
   Calls Try.prog 169 #[.pointer (some ⟨b, 0, none⟩), .int .i64 t, .int .i64 x, .int .i64 y] w (fun e_ w_ => ∃ v_ p_, e_ = .returned v_ ∧ (fun u_ p_ => ∃ z v_ g_, u_ = .int .i64 z ∧ p_ = netP b n v_ g_ ∧ OpR n g g_ (muxO n.fst g t x y) z) v_ p_ ∧ Mem w0 (p_ :: l) w_) := by
 have hi0 : 0 ≤ n.ins := hn.i0
 have hi1 : n.ins ≤ 20 := hn.i1
 have hs1 : n.ss.length ≤ 12 := hn.s1
 have ha1 : g.length ≤ 300 := hn.a1
 have hf : n.fst = 1 + n.ins + n.ss.length := rfl
 obtain ⟨hx0, hx1⟩ := id hx
 obtain ⟨hy0, hy1⟩ := id hy
 obtain ⟨ht0, ht1⟩ := id ht
 refine zdk (N := 28) (args := [.pointer (some ⟨b, 0, none⟩), .int .i64 t, .int .i64 x, .int .i64 y]) Try.func169 rfl rfl hm0 (zbn 1 rfl (zac (reQ 3 rfl ?_)))
 refine zcz (R := (fun u_ p_ => ∃ z v_ g_, u_ = .int .i64 z ∧ p_ = netP b n v_ g_ ∧ OpR n g g_ (andO n.fst g t x) z)) 0 rfl rfl rfl rfl rfl (fun L w hX hm => zgf b n v g t x _ _ _ hm hn ht hx (fun w hm => hso w (hX w hm)) hone) ?_
 intro v1 p2 hR3
 obtain ⟨zhR3, vhR3, ghR3, rfl, rfl, ohR3⟩ := hR3
 have lhR3 : ghR3.length ≤ 300 := ohR3.ex.ok.a1
 have rhR3 : zhR3 < 0 ∨ LtOk zhR3 (n.fst + ghR3.length) := by rcases ohR3.res with q9 | q9; exact .inr q9.2; exact .inl q9.2
 unfold LtOk at rhR3
 refine zck (l' := (netP b n vhR3 ghR3 :: l)) rfl ?_
 refine zbc 1 rfl (zac (zac (reQ 1 rfl ?_)))
 refine zcb rfl rfl rfl rfl rfl rfl (fun h4 => ?_) (fun h4 => ?_)
 ·
  refine ntQ (zaj rfl (zbn 1 rfl ?_))
  refine zak (zad ?_)
  exact zcf (rs := [.tmp 8]) (vs := [.int .i64 (-1)]) rfl ⟨rfl, trivial⟩ rfl (fun w hm => ⟨_, netP b n vhR3 ghR3, rfl, ⟨_, _, _, rfl, rfl, .pair1 ohR3 (by omega) (by omega)⟩, hm.sub (.refl _)⟩)
 refine ntQ (zal rfl (zdb (zac (reQ 2 rfl (hvQ rfl (zcl rfl (by decide) rfl rfl (r := xr t) (xor_xr (by omega) (by omega))) (zag 1 rfl ?_))))))
 refine zcz (R := (fun u_ p_ => ∃ z v_ g_, u_ = .int .i64 z ∧ p_ = netP b n v_ g_ ∧ OpR n ghR3 g_ (andO n.fst ghR3 (xr t) y) z)) 0 rfl rfl rfl rfl rfl (fun L w hX hm => zgf b n vhR3 ghR3 (xr t) y _ _ _ hm ohR3.ex.ok (xr_ok (ohR3.ex.lit ht)) (ohR3.ex.lit hy) (fun w hm => hso w (hX w hm)) hone) ?_
 intro v5 p6 hR7
 obtain ⟨zhR7, vhR7, ghR7, rfl, rfl, ohR7⟩ := hR7
 have lhR7 : ghR7.length ≤ 300 := ohR7.ex.ok.a1
 have rhR7 : zhR7 < 0 ∨ LtOk zhR7 (n.fst + ghR7.length) := by rcases ohR7.res with q9 | q9; exact .inr q9.2; exact .inl q9.2
 unfold LtOk at rhR7
 refine zck (l' := (netP b n vhR7 ghR7 :: l)) rfl ?_
 refine zbc 1 rfl (zac (zac (reQ 1 rfl ?_)))
 refine zcb rfl rfl rfl rfl rfl rfl (fun h8 => ?_) (fun h8 => ?_)
 ·
  refine ntQ (zaj rfl (zbn 1 rfl ?_))
  refine zak (zad ?_)
  exact zcf (rs := [.tmp 8]) (vs := [.int .i64 (-1)]) rfl ⟨rfl, trivial⟩ rfl (fun w hm => ⟨_, netP b n vhR7 ghR7, rfl, ⟨_, _, _, rfl, rfl, .pair2 ohR3 (by omega) ohR7 (by omega) (by omega)⟩, hm.sub (.refl _)⟩)
 refine ntQ (zal rfl (zdb (zac (reQ 3 rfl ?_))))
 refine zcz (R := (fun u_ p_ => ∃ z v_ g_, u_ = .int .i64 z ∧ p_ = netP b n v_ g_ ∧ OpR n ghR7 g_ (orO n.fst ghR7 zhR3 zhR7) z)) 0 rfl rfl rfl rfl rfl (fun L w hX hm => addOrX_mut b n vhR7 ghR7 zhR3 zhR7 _ _ _ hm ohR7.ex.ok (ohR7.ex.lit (ohR3.pos (by assumption)).2) (ohR7.pos (by assumption)).2 (fun w hm => hso w (hX w hm)) hone) ?_
 intro v9 p10 hR11
 obtain ⟨zhR11, vhR11, ghR11, rfl, rfl, ohR11⟩ := hR11
 have lhR11 : ghR11.length ≤ 300 := ohR11.ex.ok.a1
 have rhR11 : zhR11 < 0 ∨ LtOk zhR11 (n.fst + ghR11.length) := by rcases ohR11.res with q9 | q9; exact .inr q9.2; exact .inl q9.2
 unfold LtOk at rhR11
 refine zck (l' := (netP b n vhR11 ghR11 :: l)) rfl ?_
 refine zbc 1 rfl ?_
 exact zak (zcf (rs := [.tmp 8]) (vs := [.int .i64 zhR11]) rfl ⟨rfl, trivial⟩ rfl (fun w hm => ⟨_, netP b n vhR11 ghR11, rfl, ⟨_, _, _, rfl, rfl, .pair ohR3 (by omega) ohR7 (by omega) ohR11⟩, hm.sub (.refl _)⟩))
noncomputable def pB (p : Prop) : Bool := @decide p (Classical.propDecidable p)
theorem zft {p : Prop} (h : p) : pB p = true := @decide_eq_true p (Classical.propDecidable p) h
theorem zdr {p : Prop} (h : ¬ p) : pB p = false := @decide_eq_false p (Classical.propDecidable p) h
theorem of_pB {p : Prop} (h : pB p = true) : p := @of_decide_eq_true p (Classical.propDecidable p) h
theorem of_pBn {p : Prop} (h : pB p = false) : ¬ p := @of_decide_eq_false p (Classical.propDecidable p) h
theorem sml {w : World} {v : Value} {s n : Nat} {cs : List Value} (h : RdsW w v s n cs) : n ≤ 9223372036854775807 := by obtain ⟨_, _, _, _, h, _⟩ := h; exact h.1
structure Sg where
  k : Int
  w : Int
  i : Int
abbrev sg0 : Sg := ⟨0, 0, 0⟩
def sgC (s : Sg) : List Value := [.int .i64 s.k, .int .i64 s.w, .int .i64 s.i]
structure Oq where
  k : Int
  a : Int
  b : Int
abbrev oq0 : Oq := ⟨0, 0, 0⟩
def oqC (o : Oq) : List Value := [.int .i64 o.k, .int .i64 o.a, .int .i64 o.b]
structure As where
  t : Int
  ov : Value
  os : List Oq
abbrev as0 : As := ⟨0, .slice none 0 0, []⟩
def asC (g : As) : List Value := [.int .i64 g.t, g.ov]
structure Ix where
  m : Int
  p : Int
  pv : Value
  ps : List Int
abbrev ix0 : Ix := ⟨0, 0, .slice none 0 0, []⟩
def ixC (x : Ix) : List Value := [.int .i64 x.m, .int .i64 x.p, x.pv]
structure Mm where
  a : Int
  d : Int
  w : Int
  o : Int
abbrev mm0 : Mm := ⟨0, 0, 0, 0⟩
def mmC (x : Mm) : List Value := [.int .i64 x.a, .int .i64 x.d, .int .i64 x.w, .int .i64 x.o]
structure Md where
  sv : Value
  av : Value
  iv : Value
  mv : Value
  ss : List Sg
  gs : List As
  xs : List Ix
  ms : List Mm
abbrev md0 : Md := ⟨.slice none 0 0, .slice none 0 0, .slice none 0 0, .slice none 0 0, [], [], [], []⟩
def Md.agg (m : Md) : Value := .agg #[m.sv, m.av, m.iv, m.mv]
def mdC (m : Md) : List Value := [m.sv, m.av, m.iv, m.mv]
def OpsR (w : World) (gs : List As) : Prop := ∀ g ∈ gs, RdsW w g.ov 3 g.os.length (g.os.flatMap oqC)
def PtsR (w : World) (xs : List Ix) : Prop := ∀ x ∈ xs, RdsW w x.pv 1 x.ps.length (x.ps.map (Value.int .i64))
structure RdsMd (w : World) (m : Md) : Prop where
  s : RdsW w m.sv 3 m.ss.length (m.ss.flatMap sgC)
  g : RdsW w m.av 2 m.gs.length (m.gs.flatMap asC)
  o : OpsR w m.gs
  x : RdsW w m.iv 3 m.xs.length (m.xs.flatMap ixC)
  p : PtsR w m.xs
  m : RdsW w m.mv 4 m.ms.length (m.ms.flatMap mmC)
structure RdsDs (w : World) (v : Value) (D : List Md) : Prop where
  row : RdsW w v 4 D.length (D.flatMap mdC)
  md : ∀ m ∈ D, RdsMd w m
def arI (k : Int) : Int := if k < 0 ∨ 12 < k then -1 else if k ≤ 3 then 0 else if k = 4 then 1 else if k = 12 then 3 else 2
theorem arI_rng (k : Int) : -1 ≤ arI k ∧ arI k ≤ 3 := by unfold arI; split <;> (try split) <;> (try split) <;> (try split) <;> omega
def OqP (n : Int) (o : Oq) : Prop := (o.k = 0 ∧ (0 ≤ o.a ∧ o.a ≤ 15) ∧ o.b = 0) ∨ (o.k = 2 ∧ (0 ≤ o.a ∧ o.a < n) ∧ o.b = 0) ∨ (o.k = 3 ∧ (0 ≤ o.a ∧ o.a < n) ∧ 0 ≤ o.b ∧ o.b ≤ 3) ∨ (o.k ≠ 0 ∧ o.k ≠ 2 ∧ o.k ≠ 3 ∧ 0 ≤ arI o.k ∧ o.a = 0 ∧ o.b = 0)
def needK (os : List Oq) : Nat → Int
  | 0 => 1
  | i + 1 => needK os i + (arI (os.getD i oq0).k - 1)
theorem needK_rng (os : List Oq) : ∀ i : Nat, 1 - 2 * (i : Int) ≤ needK os i ∧ needK os i ≤ 1 + 2 * (i : Int)
  | 0 => by unfold needK; omega
  | i + 1 => by
    have := needK_rng os i; have := arI_rng (os.getD i oq0).k
    unfold needK; omega
structure OpsP (n : Int) (os : List Oq) : Prop where
  len : os.length ≤ 15
  op : ∀ i, i < os.length → needK os i ≠ 0 ∧ OqP n (os.getD i oq0)
  fin : needK os os.length = 0
theorem OpsP.pos {n : Int} {os : List Oq} (h : OpsP n os) : 0 < os.length := by
  rcases Nat.eq_zero_or_pos os.length with e | e
  · have := h.fin; rw [e] at this; exact absurd (show (1 : Int) = 0 from this) (by decide)
  · exact e
def isPt (s : Sg) : Bool := s.k == 0 || s.k == 1
def ptsA (ss : List Sg) : Nat → List Int
  | 0 => []
  | i + 1 => ptsA ss i ++ if isPt (ss.getD i sg0) = true then [(i : Int)] else []
def ptsK (m : Md) : List Int := if m.ss.length ≤ 30 then ptsA m.ss m.ss.length else []
def knd (m : Md) (s : Int) : Int := if 0 ≤ s ∧ s < m.ss.length then (m.ss.getD s.toNat sg0).k else -1
def SgP (s : Sg) : Prop := (0 ≤ s.k ∧ s.k ≤ 3) ∧ (0 ≤ s.w ∧ s.w ≤ 4) ∧ (0 ≤ s.i ∧ s.i ≤ 15) ∧ (s.i ≠ 0 → s.k = 3)
def AsP (m : Md) (g : As) : Prop := (1 ≤ knd m g.t ∧ knd m g.t ≤ 3) ∧ OpsP m.ss.length g.os
def Drv (m : Md) (s : Int) : Prop := knd m s = 1 ∨ knd m s = 2
def Inn (m : Md) (s : Int) : Prop := 0 ≤ s ∧ s < m.ss.length
def IxP (D : List Md) (m : Md) (x : Ix) : Prop := (0 ≤ x.p ∧ x.p ≤ 4) ∧ ∀ j, j < (ptsK (D.getD x.m.toNat md0)).length → Inn m (x.ps.getD j 0) ∧ (knd (D.getD x.m.toNat md0) ((ptsK (D.getD x.m.toNat md0)).getD j 0) = 1 → Drv m (x.ps.getD j 0))
def MmP (m : Md) (x : Mm) : Prop := (Inn m x.a ∧ Inn m x.d ∧ Inn m x.w) ∧ Drv m x.o
def LenP (m : Md) : Prop := m.ss.length ≤ 30 ∧ m.gs.length ≤ 30 ∧ m.xs.length ≤ 3 ∧ m.ms.length ≤ 2
structure CntP (D : List Md) : Prop where
  len : D.length ≤ 4
  md : ∀ k, k < D.length → LenP (D.getD k md0)
def InsP (D : List Md) (k : Nat) : Prop := ∀ i, i < (D.getD k md0).xs.length → (0 ≤ ((D.getD k md0).xs.getD i ix0).m ∧ ((D.getD k md0).xs.getD i ix0).m < k) ∧ ((D.getD k md0).xs.getD i ix0).ps.length = (ptsK (D.getD ((D.getD k md0).xs.getD i ix0).m.toNat md0)).length
def xoA (D : List Md) (x : Ix) : Nat → List Int
  | 0 => []
  | j + 1 => xoA D x j ++ if knd (D.getD x.m.toNat md0) ((ptsK (D.getD x.m.toNat md0)).getD j 0) = 1 then [x.ps.getD j 0] else []
def xoK (D : List Md) (x : Ix) : List Int := xoA D x (ptsK (D.getD x.m.toNat md0)).length
def drvL (D : List Md) (m : Md) : List Int := m.gs.map As.t ++ m.ms.map Mm.o ++ m.xs.flatMap (xoK D)
structure ModP (D : List Md) (k : Nat) : Prop where
  lt : k < D.length
  cnt : CntP D
  ins : InsP D k
  sg : ∀ i, i < (D.getD k md0).ss.length → SgP ((D.getD k md0).ss.getD i sg0)
  gs : ∀ i, i < (D.getD k md0).gs.length → AsP (D.getD k md0) ((D.getD k md0).gs.getD i as0)
  xs : ∀ i, i < (D.getD k md0).xs.length → IxP D (D.getD k md0) ((D.getD k md0).xs.getD i ix0)
  ms : ∀ i, i < (D.getD k md0).ms.length → MmP (D.getD k md0) ((D.getD k md0).ms.getD i mm0)
  dr : ∀ s, s < (D.getD k md0).ss.length → ((D.getD k md0).ss.getD s sg0).k ≠ 0 → (drvL D (D.getD k md0)).count (s : Int) = 1
def DesP (D : List Md) : Prop := (1 ≤ D.length ∧ D.length ≤ 4) ∧ ∀ k, k < D.length → ModP D k
theorem zhd {a b c : Int} (h : inR a b c = false) : ¬ (b ≤ a ∧ a ≤ c) := fun hh => by rw [(zcp _ _ _).2 hh] at h; cases h
def RdS (os : List Oq) (s : Int) : Prop := ∃ i, i < os.length ∧ ((os.getD i oq0).k = 2 ∨ (os.getD i oq0).k = 3) ∧ (os.getD i oq0).a = s
def HpP (os : List Oq) : Prop := ∃ i, i < os.length ∧ (os.getD i oq0).k = 1
def Can (m : Md) (T : List Int) : Prop := ∃ f : Int → Nat, ∀ x ∈ T, ∀ y ∈ T, RdS (m.gs.getD x.toNat as0).os (m.gs.getD y.toNat as0).t → f y < f x
def todoA (m : Md) : Nat → List Int
  | 0 => []
  | i + 1 => todoA m i ++ if (m.ss.getD (m.gs.getD i as0).t.toNat sg0).k ≠ 3 then [(i : Int)] else []
def pwA (ss : List Sg) (c : Int) : Nat → List Int
  | 0 => []
  | i + 1 => pwA ss c i ++ if (ss.getD i sg0).k = c then [(ss.getD i sg0).w] else []
def pwK (m : Md) (c : Int) : List Int := if m.ss.length ≤ 30 then pwA m.ss c m.ss.length else []
def sumA (L : List Int) : Nat → Int
  | 0 => 0
  | i + 1 => sumA L i + L.getD i 0
def sumZ (L : List Int) : Int := sumA L L.length
def moA (m : Md) : Nat → Int
  | 0 => 0
  | i + 1 => moA m i + (m.ss.getD (m.ms.getD i mm0).o.toNat sg0).w
def EoP (m : Md) : Prop := m.xs.length = 0 ∧ DesP [m] ∧ Can m (todoA m m.gs.length)
def MwP (m : Md) (x : Mm) : Prop := (m.ss.getD x.a.toNat sg0).w = 2 ∧ (m.ss.getD x.w.toNat sg0).w = 1 ∧ (m.ss.getD x.d.toNat sg0).w = (m.ss.getD x.o.toNat sg0).w
structure FlP (m : Md) : Prop where
  eo : EoP m
  wid : ∀ s, s < m.ss.length → (m.ss.getD s sg0).w ≠ 0
  par : ∀ i, i < m.gs.length → ¬ HpP (m.gs.getD i as0).os
  mem : ∀ i, i < m.ms.length → MwP m (m.ms.getD i mm0)
  ins : sumZ (pwK m 0) ≤ 8
  outs : sumZ (pwK m 1) ≤ 8
  bits : sumZ (pwK m 3) + moA m m.ms.length ≤ 12
theorem needK_pos {n : Int} {os : List Oq} (h : OpsP n os) : ∀ i, i < os.length → 1 ≤ needK os i
  | 0, _ => by unfold needK; omega
  | i + 1, hi => by
    have h1 := needK_pos h i (by omega)
    have h2 := (h.op (i + 1) hi).1
    have h3 := (h.op i (by omega)).2
    have h4 : 0 ≤ arI (os.getD i oq0).k := by
      rcases h3 with ⟨e, -⟩ | ⟨e, -⟩ | ⟨e, -⟩ | ⟨-, -, -, e, -⟩
      · rw [e]; decide
      · rw [e]; decide
      · rw [e]; decide
      · exact e
    have h5 : needK os (i + 1) = needK os i + (arI (os.getD i oq0).k - 1) := rfl
    omega
theorem arI_val {n : Int} {os : List Oq} (h : OpsP n os) {i : Nat} (hi : i < os.length) : arI (os.getD i oq0).k = 0 ∨ arI (os.getD i oq0).k = 1 ∨ arI (os.getD i oq0).k = 2 ∨ arI (os.getD i oq0).k = 3 := by
  have h3 := (h.op i hi).2
  have h4 := arI_rng (os.getD i oq0).k
  have h5 : 0 ≤ arI (os.getD i oq0).k := by
    rcases h3 with ⟨e, -⟩ | ⟨e, -⟩ | ⟨e, -⟩ | ⟨-, -, -, e, -⟩
    · rw [e]; decide
    · rw [e]; decide
    · rw [e]; decide
    · exact e
  omega
def OpnP (m : Md) (zs : List Int) (tk : List Bl) : Prop := tk.length = m.ss.length ∧ ∀ s, s < m.ss.length → ((tk.getD s bl0).b = true ↔ ∃ y ∈ zs, (m.gs.getD y.toNat as0).t = (s : Int))
section
variable {P : Program} {N : Nat} {w0 : World} {l : List HP} {env : List (Nat × Value)} {Q : Post}
theorem hc_loop5 {α β γ δ ε : Type} {c : Code} (L : α → β → γ → δ → ε → List HP) (E : α → β → γ → δ → ε → List (Nat × Value)) (G : α → β → γ → δ → ε → Prop) (m : α → β → γ → δ → ε → Nat) (x0 : α) (y0 : β) (z0 : γ) (u0 : δ) (v0 : ε) (hG : G x0 y0 z0 u0 v0) (hs : sub (E x0 y0 z0 u0 v0) env) (hl : (L x0 y0 z0 u0 v0).Sublist l)
    (round : ∀ x y z u v, G x y z u v → HC P N w0 (L x y z u v) (E x y z u v) c (Exit.then (fun a' w' => ∃ x' y' z' u' v', G x' y' z' u' v' ∧ m x' y' z' u' v' < m x y z u v ∧ St N w0 (L x' y' z' u' v') (E x' y' z' u' v') a' w') Q)) : HC P N w0 l env (.loop c) Q :=
  hc_loop (fun q : α × β × γ × δ × ε => L q.1 q.2.1 q.2.2.1 q.2.2.2.1 q.2.2.2.2) (fun q => E q.1 q.2.1 q.2.2.1 q.2.2.2.1 q.2.2.2.2) (fun q => G q.1 q.2.1 q.2.2.1 q.2.2.2.1 q.2.2.2.2) (fun q => m q.1 q.2.1 q.2.2.1 q.2.2.2.1 q.2.2.2.2) (x0, y0, z0, u0, v0) hG hs hl (fun q hq a w st => wp_mono (round q.1 q.2.1 q.2.2.1 q.2.2.2.1 q.2.2.2.2 hq a w st) fun e a' w' h => by
    cases e with
    | normal => obtain ⟨x', y', z', u', v', h1, h2, h3⟩ := h; exact ⟨(x', y', z', u', v'), h1, h2, h3⟩
    | exit id => exact h
    | goto l => exact h
    | ret => exact h
    | panic ch => exact h
    | outgrown => exact h)
theorem hq_round5 {α β γ δ ε : Type} {L : α → β → γ → δ → ε → List HP} {E : α → β → γ → δ → ε → List (Nat × Value)} {G : α → β → γ → δ → ε → Prop} {m : α → β → γ → δ → ε → Nat} {M : Nat} (x' : α) (y' : β) (z' : γ) (u' : δ) (v' : ε) (hG : G x' y' z' u' v') (hm : m x' y' z' u' v' < M) (hs : sub (E x' y' z' u' v') env) (hl : (L x' y' z' u' v').Sublist l) :
    HQ N w0 l env .normal (Exit.then (fun a' w' => ∃ x' y' z' u' v', G x' y' z' u' v' ∧ m x' y' z' u' v' < M ∧ St N w0 (L x' y' z' u' v') (E x' y' z' u' v') a' w') Q) := fun a w st => ⟨x', y', z', u', v', hG, hm, st.less hs hl⟩
end
def wmK (w : Int) : Int := 1 * 2 ^ w.toNat - 1
theorem wm_rng {w : Int} (h : 0 ≤ w ∧ w ≤ 4) : 1 ≤ 1 * (2 : Int) ^ w.toNat ∧ 1 * (2 : Int) ^ w.toNat ≤ 16 := by
  rcases (by omega : w = 0 ∨ w = 1 ∨ w = 2 ∨ w = 3 ∨ w = 4) with rfl | rfl | rfl | rfl | rfl <;> decide
theorem widthMask_ans (x : Int) (w : World) (hw : 0 ≤ x ∧ x ≤ 4) :
   Calls Try.prog 64 #[.int .i64 x] w (Ans w (.int .i64 (wmK x))) := by
 have hw9 := wm_rng hw
 refine zbq (N := 7) (args := [.int .i64 x]) Try.func64 rfl rfl (zbn 1 rfl (zac (reQ 1 rfl (hvQ rfl (rv_conv rfl Try.underlying3 Try.underlying154 rfl (IntWalk.u64_in _ (by omega))) (hvQ rfl (rv_shl (kk' := .i64) rfl rfl rfl (by omega) (by constructor <;> omega)) (hvQ rfl (vsQ rfl rfl rfl) (zag 1 rfl ?_)))))))
 refine ntQ ?_
 exact zak (zbl rfl rfl rfl)
theorem rv_unx {P : Program} {N : Nat} {w0 : World} {l : List HP} {env : List (Nat × Value)} {o : Oper} {t : TypeId} {x : Operand} {m : Int} (ho : o.op = .unOp .xor t x) (hx : ev env x = some (.int .i64 m)) : RunV P N w0 l env o (.int .i64 (bits .xor .i64 (-1) m)) := fun a w st => by
  simp [execOp, ho, st.eval hx, Op.unary]; rfl
def opV (o : Oq) (vs L : List Int) : Int :=
  if o.k = 0 then o.a else if o.k = 2 then vs.getD o.a.toNat 0 else if o.k = 3 then bits .and .i64 (vs.getD o.a.toNat 0 / 2 ^ o.b.toNat) 1
  else if o.k = 4 then bits .xor .i64 (-1) (L.getD 0 0) else if o.k = 5 then bits .and .i64 (L.getD 0 0) (L.getD 1 0) else if o.k = 6 then bits .or .i64 (L.getD 0 0) (L.getD 1 0) else if o.k = 7 then bits .xor .i64 (L.getD 0 0) (L.getD 1 0)
  else if o.k = 8 then L.getD 0 0 + L.getD 1 0 else if o.k = 9 then L.getD 0 0 - L.getD 1 0 else if o.k = 10 then (if L.getD 0 0 = L.getD 1 0 then 1 else 0) else if o.k = 11 then (if L.getD 0 0 < L.getD 1 0 then 1 else 0)
  else if o.k = 12 then (if L.getD 0 0 ≠ 0 then L.getD 1 0 else L.getD 2 0) else 0
def argE (g : Nat → Int × Nat) (p : Nat) : Nat → List Int × Nat
  | 0 => ([], p)
  | i + 1 => ((argE g p i).1 ++ [(g (argE g p i).2).1], (g (argE g p i).2).2)
def evE (os : List Oq) (vs : List Int) (x : Int) : Nat → Nat → Int × Nat
  | 0, p => (0, p)
  | f + 1, p => (bits .and .i64 (opV (os.getD p oq0) vs (argE (evE os vs x f) (p + 1) (arI (os.getD p oq0).k).toNat).1) (wmK x), (argE (evE os vs x f) (p + 1) (arI (os.getD p oq0).k).toNat).2)
theorem argE_len (g : Nat → Int × Nat) (p : Nat) : ∀ i, (argE g p i).1.length = i
  | 0 => rfl
  | i + 1 => by
    show ((argE g p i).1 ++ [_]).length = _
    rw [List.length_append, argE_len g p i]; rfl
theorem argE_ok {n : Int} {os : List Oq} (h : OpsP n os) {g : Nat → Int × Nat} {p : Nat} (hp : p < os.length) (hg : ∀ q, p < q → q < os.length → q < (g q).2 ∧ (g q).2 ≤ os.length ∧ needK os (g q).2 = needK os q - 1) : ∀ i : Nat, (i : Int) ≤ arI (os.getD p oq0).k → p < (argE g (p + 1) i).2 ∧ (argE g (p + 1) i).2 ≤ os.length ∧ needK os (argE g (p + 1) i).2 = needK os p + arI (os.getD p oq0).k - 1 - i
  | 0, hi => by
    have h5 : needK os (p + 1) = needK os p + (arI (os.getD p oq0).k - 1) := rfl
    show p < p + 1 ∧ p + 1 ≤ _ ∧ needK os (p + 1) = _
    exact ⟨by omega, by omega, by omega⟩
  | i + 1, hi => by
    obtain ⟨a1, a2, a3⟩ := argE_ok h hp hg i (by omega)
    have h1 := needK_pos h p hp
    have hlt : (argE g (p + 1) i).2 < os.length := by
      rcases Nat.lt_or_ge (argE g (p + 1) i).2 os.length with h8 | h8
      · exact h8
      · have e : (argE g (p + 1) i).2 = os.length := by omega
        rw [e, h.fin] at a3; omega
    obtain ⟨b1, b2, b3⟩ := hg _ a1 hlt
    show p < (g _).2 ∧ (g _).2 ≤ _ ∧ needK os (g _).2 = _
    exact ⟨by omega, b2, by omega⟩
theorem argE_lt {n : Int} {os : List Oq} (h : OpsP n os) {g : Nat → Int × Nat} {p : Nat} (hp : p < os.length) (hg : ∀ q, p < q → q < os.length → q < (g q).2 ∧ (g q).2 ≤ os.length ∧ needK os (g q).2 = needK os q - 1) (i : Nat) (hi : (i : Int) < arI (os.getD p oq0).k) : (argE g (p + 1) i).2 < os.length := by
  obtain ⟨a1, a2, a3⟩ := argE_ok h hp hg i (by omega)
  have h1 := needK_pos h p hp
  rcases Nat.lt_or_ge (argE g (p + 1) i).2 os.length with h8 | h8
  · exact h8
  · have e : (argE g (p + 1) i).2 = os.length := by omega
    rw [e, h.fin] at a3; omega
theorem evE_ok {n : Int} {os : List Oq} (h : OpsP n os) (vs : List Int) (x : Int) : ∀ (f p : Nat), os.length - p ≤ f → p < os.length → p < (evE os vs x f p).2 ∧ (evE os vs x f p).2 ≤ os.length ∧ needK os (evE os vs x f p).2 = needK os p - 1
  | 0, p, hf, hp => by omega
  | f + 1, p, hf, hp => by
    have h4 := arI_val h hp
    obtain ⟨a1, a2, a3⟩ := argE_ok h hp (g := evE os vs x f) (fun q h1 h2 => evE_ok h vs x f q (by omega) h2) (arI (os.getD p oq0).k).toNat (by omega)
    show p < (argE _ _ _).2 ∧ (argE _ _ _).2 ≤ _ ∧ needK os (argE _ _ _).2 = _
    exact ⟨a1, a2, by omega⟩
structure AdR {α : Type} (bad bad' : Prop) (o : Option α) (a : α) : Prop where
  ok : ¬ bad' → ¬ bad ∧ o = some a
  no : bad' → bad ∨ o = none
theorem AdR.refl {α : Type} {bad : Prop} {a : α} : AdR bad bad (some a) a := ⟨fun h => ⟨h, rfl⟩, fun h => .inl h⟩
theorem AdR.bind {α β : Type} {b0 b1 b2 : Prop} {o : Option α} {a : α} {f : α → Option β} {c : β} (h : AdR b0 b1 o a) (k : AdR b1 b2 (f a) c) : AdR b0 b2 (o.bind f) c := by
  classical
  refine ⟨fun q => ?_, fun q => ?_⟩
  · obtain ⟨q1, e1⟩ := k.ok q
    obtain ⟨q0, e0⟩ := h.ok q1
    exact ⟨q0, by rw [e0]; exact e1⟩
  · by_cases q1 : b1
    · rcases h.no q1 with q0 | e0
      · exact .inl q0
      · exact .inr (by rw [e0]; rfl)
    · obtain ⟨q0, e0⟩ := h.ok q1
      rcases k.no q with q1' | e1
      · exact absurd q1' q1
      · exact .inr (by rw [e0]; exact e1)
theorem AdR.map {α β : Type} {b0 b1 : Prop} {o : Option α} {a : α} (f : α → β) (h : AdR b0 b1 o a) : AdR b0 b1 (o.map f) (f a) := ⟨fun q => ⟨(h.ok q).1, by rw [(h.ok q).2]; rfl⟩, fun q => (h.no q).imp id (fun e => by rw [e]; rfl)⟩
def itO {σ : Type} (step : Nat → σ → Option σ) (s : σ) : Nat → Option σ
  | 0 => some s
  | k + 1 => (itO step s k).bind (step k)
theorem AdR.step {σ : Type} {b0 b1 b2 : Prop} {step : Nat → σ → Option σ} {s a c : σ} {k : Nat} (h : AdR b0 b1 (itO step s k) a) (q : AdR b1 b2 (step k a) c) : AdR b0 b2 (itO step s (k + 1)) c := h.bind q
abbrev GL := List An × List Int
def bwS (op : List An → Int → Int → Option (List An × Int)) (A B : List Int) (k : Nat) (s : GL) : Option GL := (op s.1 (A.getD k 0) (B.getD k 0)).map fun r => (r.1, s.2 ++ [r.2])
def sumS (f : Int) (A B : List Int) (W k : Nat) (s : GL × Int) : Option (GL × Int) :=
  (xorO f s.1.1 (A.getD k 0) (B.getD k 0)).bind fun y => (xorO f y.1 y.2 s.2).bind fun z =>
    if k + 1 = W then some ((z.1, s.1.2 ++ [z.2]), s.2) else (andO f z.1 (A.getD k 0) (B.getD k 0)).bind fun p => (andO f p.1 y.2 s.2).bind fun q => (orO f q.1 p.2 q.2).map fun c => ((c.1, s.1.2 ++ [z.2]), c.2)
def sumO (f : Int) (A B : List Int) (c : Int) (W : Nat) (g : List An) : Option GL := (itO (sumS f A B W) ((g, []), c) W).map (·.1)
def eqS (f : Int) (A B : List Int) (k : Nat) (s : List An × Int) : Option (List An × Int) := (xorO f s.1 (A.getD k 0) (B.getD k 0)).bind fun y => andO f y.1 s.2 (xr y.2)
def lsS (f : Int) (A B : List Int) (k : Nat) (s : List An × Int) : Option (List An × Int) := (xorO f s.1 (A.getD k 0) (B.getD k 0)).bind fun y => muxO f y.1 y.2 (B.getD k 0) s.2
def loneL (W : Nat) (e : Int) : List Int := e :: List.replicate (W - 1) 0
def orS (f : Int) (A : List Int) (k : Nat) (s : List An × Int) : Option (List An × Int) := orO f s.1 s.2 (A.getD k 0)
def mxS (f e : Int) (A B : List Int) (k : Nat) (s : GL) : Option GL := (muxO f s.1 e (A.getD k 0) (B.getD k 0)).map fun r => (r.1, s.2 ++ [r.2])
def twO (f kd : Int) (A B : List Int) (W : Nat) (g : List An) : Option GL :=
  if kd = 5 then itO (bwS (andO f) A B) (g, []) W else if kd = 6 then itO (bwS (orO f) A B) (g, []) W else if kd = 7 then itO (bwS (xorO f) A B) (g, []) W
  else if kd = 8 then sumO f A B 0 W g else if kd = 9 then sumO f A (B.map xr) 1 W g
  else if kd = 10 then (itO (eqS f A B) (g, 1) W).map fun r => (r.1, loneL W r.2) else (itO (lsS f A B) (g, 0) W).map fun r => (r.1, loneL W r.2)
def thO (f : Int) (A B C : List Int) (W : Nat) (g : List An) : Option GL := (itO (orS f A) (g, 0) W).bind fun e => itO (mxS f e.2 B C) (e.1, []) W
def sbL (sg : List (List Int)) (s : Int) (k : Nat) : Int := (sg.getD s.toNat []).getD k 0
def lfB (sg : List (List Int)) (o : Oq) (k : Nat) : Int := if o.k = 0 then o.a / 2 ^ k % 2 else if o.k = 2 then sbL sg o.a k else if k = 0 then sbL sg o.a o.b.toNat else 0
def lfL (sg : List (List Int)) (o : Oq) (W : Nat) : List Int := (List.range W).map (lfB sg o)
def LsOk (n : Nt) (g : List An) (ls : List Int) : Prop := ∀ x ∈ ls, LtOk x (n.fst + g.length)
theorem LsOk.ext {n : Nt} {g g' : List An} {ls : List Int} (h : LsOk n g ls) (e : Ext n g g') : LsOk n g' ls := fun x hx => e.lit (h x hx)
theorem LsOk.app {n : Nt} {g : List An} {ls : List Int} {x : Int} (h : LsOk n g ls) (hx : LtOk x (n.fst + g.length)) : LsOk n g (ls ++ [x]) := fun y hy => by
  rcases List.mem_append.1 hy with hy | hy
  · exact h y hy
  · rw [List.mem_singleton] at hy; subst hy; exact hx
theorem LsOk.at {n : Nt} {g : List An} {ls : List Int} (h : LsOk n g ls) {k : Nat} (hk : k < ls.length) : LtOk (ls.getD k 0) (n.fst + g.length) := h _ (zbd hk)
theorem LsOk.nil {n : Nt} {g : List An} : LsOk n g [] := fun x hx => by cases hx
theorem LsOk.xr {n : Nt} {g : List An} {ls : List Int} (h : LsOk n g ls) : LsOk n g (ls.map xr) := fun x hx => by
  obtain ⟨y, hy, rfl⟩ := List.mem_map.1 hx
  exact xr_ok (h y hy)
structure AdP (n : Nt) (g g' : List An) (bad bad' : Bool) (o : Option (List An × Int)) (z : Int) : Prop where
  ex : Ext n g g'
  lt : LtOk z (n.fst + g'.length)
  ad : AdR (bad = true) (bad' = true) o (g', z)
theorem AdP.yes {n : Nt} {g g' : List An} {bad : Bool} {o : Option (List An × Int)} {z : Int} (h : OpR n g g' o z) (hz : 0 ≤ z) : AdP n g g' bad bad o z := by
  obtain ⟨e, k⟩ := h.pos hz
  exact ⟨h.ex, k, by rw [e]; exact AdR.refl⟩
theorem AdP.no {n : Nt} {g g' : List An} {bad : Bool} {o : Option (List An × Int)} {z : Int} (hn : NtOk (withG n g)) (h : OpR n g g' o z) (hz : z < 0) : AdP n g g' bad true o 0 := by
  have hi0 : 0 ≤ n.ins := hn.i0
  have hf : n.fst = 1 + n.ins + n.ss.length := rfl
  exact ⟨h.ex, ⟨by omega, by omega⟩, ⟨fun q => absurd rfl q, fun _ => .inr (h.neg hz)⟩⟩
def adP (b : Nat) (n : Nt) (c : Nat) (sv : Value) (W : Int) (v : Value) (g : List An) (bad : Bool) : HP := bigE [netP b n v g, boxE c #[.pointer (some ⟨b, 0, none⟩), sv, .int .i64 W, .bool bad] 137]
theorem ad_rd {b : Nat} {n : Nt} {c : Nat} {sv : Value} {W : Int} {v : Value} {g : List An} {bad : Bool} {w : World} (h : (adP b n c sv W v g bad).holds w) : w.cell? ⟨c, 0 + 1, none⟩ = some sv ∧ w.cell? ⟨c, 0 + 2, none⟩ = some (.int .i64 W) ∧ c < w.heap.size := by
  have h1 : (boxE c #[.pointer (some ⟨b, 0, none⟩), sv, .int .i64 W, .bool bad] 137).holds w := (h.1 _ (List.mem_cons_of_mem _ List.mem_cons_self)).2
  have h2 : w.heap[c]? = some (.cells #[.pointer (some ⟨b, 0, none⟩), sv, .int .i64 W, .bool bad] 137 (0, 0)) := h1
  exact ⟨by rw [zff h2]; rfl, by rw [zff h2]; rfl, (Array.getElem?_eq_some_iff.1 h2).1⟩
structure ASt where
  v : Value
  g : List An
  bad : Bool
  zs : List Int
  u : Value
  c : Int
theorem sb_at (rs : List CRow) (s : Int) (k : Nat) : sbL (rs.map CRow.xs) s k = (rs.getD s.toNat crow0).xs.getD k 0 := by
  have h : (rs.map CRow.xs).getD s.toNat [] = (rs.getD s.toNat crow0).xs := by
    rw [List.getD_eq_getElem?_getD, List.getElem?_map, List.getD_eq_getElem?_getD]
    cases rs[s.toNat]? <;> rfl
  unfold sbL; rw [h]
abbrev AR9 (b : Nat) (n : Nt) (c : Nat) (sv : Value) (W : Int) (g : List An) (bd : Bool) (o : Option (List An × Int)) (u_ : Value) (p_ : HP) : Prop := ∃ (z : Int) (v_ : Value) (g_ : List An) (bd_ : Bool), u_ = .int .i64 z ∧ p_ = adP b n c sv W v_ g_ bd_ ∧ AdP n g g_ bd bd_ o z
theorem keep_mut (c : Nat) (bv sv : Value) (W : Int) (bad : Bool) (z : Int) (w0 : World) (l : List HP) (w : World) (hm0 : Mem w0 (boxE c #[bv, sv, .int .i64 W, .bool bad] 137 :: l) w) (hbv : bv.oneCell' = true) (hsv : sv.oneCell' = true) :
   Calls Try.prog 164 #[.pointer (some ⟨c, 0, none⟩), .int .i64 z] w (fun e_ w_ => ∃ v_ p_, e_ = .returned v_ ∧ (fun u_ p_ => ∃ y bd_, u_ = .int .i64 y ∧ p_ = boxE c #[bv, sv, .int .i64 W, .bool bd_] 137 ∧ ((0 ≤ z ∧ y = z ∧ bd_ = bad) ∨ (z < 0 ∧ y = 0 ∧ bd_ = true))) v_ p_ ∧ Mem w0 (p_ :: l) w_) := by
 refine zdk (N := 11) (args := [.pointer (some ⟨c, 0, none⟩), .int .i64 z]) Try.func164 rfl rfl hm0 (zbn 1 rfl (zac (zac (reQ 1 rfl ?_))))
 refine zcb rfl rfl rfl rfl rfl rfl (fun h1 => ?_) (fun h1 => ?_)
 ·
  refine ntQ (zaj rfl (zac (reQ 1 rfl (hvQ rfl (zdf rfl rfl) (hvQ rfl (fdQ 3 rfl rfl rfl) ?_)))))
  refine zgs (i := 0) (cs' := #[bv, sv, .int .i64 W, .bool true]) rfl rfl rfl rfl rfl rfl rfl rfl rfl rfl rfl (ntQ (zbn 1 rfl ?_))
  refine zak (zad ?_)
  exact zcf (rs := [.tmp 4]) (vs := [.int .i64 0]) rfl ⟨rfl, trivial⟩ rfl (fun w hm => ⟨_, boxE c #[bv, sv, .int .i64 W, .bool true] 137, rfl, ⟨0, true, rfl, rfl, .inr ⟨by omega, rfl, rfl⟩⟩, hm.sub (.refl _)⟩)
 refine ntQ (zal rfl (zdb (zbn 2 rfl ?_)))
 exact zak (zcf (rs := [.tmp 4]) (vs := [.int .i64 z]) rfl ⟨rfl, trivial⟩ rfl (fun w hm => ⟨_, boxE c #[bv, sv, .int .i64 W, .bool bad] 137, rfl, ⟨z, bad, rfl, rfl, .inl ⟨by omega, rfl, rfl⟩⟩, hm.sub (.refl _)⟩))
theorem adAnd_mut (b c : Nat) (n : Nt) (sv : Value) (W : Int) (v : Value) (g : List An) (bad : Bool) (x y : Int) (w0 : World) (l : List HP) (w : World) (hm0 : Mem w0 (adP b n c sv W v g bad :: l) w) (hn : NtOk (withG n g)) (hx : LtOk x (n.fst + g.length)) (hy : LtOk y (n.fst + g.length)) (hso : ∀ w, Mem w0 l w → RdsW w n.sv 3 n.ss.length (n.ss.flatMap sqC) ∧ (∀ s ∈ n.ss, RdsW w s.iv 1 s.xs.length (s.xs.map (Value.int .i64))) ∧ RdsW w n.ov 1 n.os.length (n.os.map (Value.int .i64))) (hone : n.sv.oneCell' = true ∧ n.ov.oneCell' = true) (hsv : sv.oneCell' = true) :
   Calls Try.prog 140 #[.pointer (some ⟨c, 0, none⟩), .int .i64 x, .int .i64 y] w (fun e_ w_ => ∃ v_ p_, e_ = .returned v_ ∧ (fun u_ p_ => AR9 b n c sv W g bad (andO n.fst g x y) u_ p_) v_ p_ ∧ Mem w0 (p_ :: l) w_) := by
 have hi0 : 0 ≤ n.ins := hn.i0
 have hf : n.fst = 1 + n.ins + n.ss.length := rfl
 refine zdk (N := 16) (args := [.pointer (some ⟨c, 0, none⟩), .int .i64 x, .int .i64 y]) Try.func140 rfl rfl hm0 (srQ ?_)
 refine zew 1 [0] rfl rfl (by decide) ?_
 refine zfa (netP b n v g :: boxE c #[.pointer (some ⟨b, 0, none⟩), sv, .int .i64 W, .bool bad] 137 :: l) zdv ?_
 refine zbc 1 rfl (zac (reQ 2 rfl (hvQ rfl (zdf rfl rfl) (hvQ rfl (fdQ 0 rfl rfl rfl) (hvQ rfl (zan rfl rfl rfl (zai 1 rfl rfl)) (zag 2 rfl ?_))))))
 refine zcz (R := (fun u_ p_ => ∃ z v_ g_, u_ = .int .i64 z ∧ p_ = netP b n v_ g_ ∧ OpR n g g_ (andO n.fst g x y) z)) 0 rfl rfl rfl rfl rfl (fun L w hX hm => zgf b n v g x y _ _ _ hm hn hx hy (fun w hm => hso w ((hX w hm).sub (.cons _ (.refl _)))) hone) ?_
 intro v1 p2 hR3
 obtain ⟨zhR3, vhR3, ghR3, rfl, rfl, ohR3⟩ := hR3
 refine zck (l' := (netP b n vhR3 ghR3 :: boxE c #[.pointer (some ⟨b, 0, none⟩), sv, .int .i64 W, .bool bad] 137 :: l)) rfl ?_
 refine zch (R := (fun u_ p_ => ∃ y bd_, u_ = .int .i64 y ∧ p_ = boxE c #[.pointer (some ⟨b, 0, none⟩), sv, .int .i64 W, .bool bd_] 137 ∧ ((0 ≤ zhR3 ∧ y = zhR3 ∧ bd_ = bad) ∨ (zhR3 < 0 ∧ y = 0 ∧ bd_ = true)))) 1 rfl rfl rfl rfl rfl (fun l' w hm => keep_mut c (.pointer (some ⟨b, 0, none⟩)) sv W bad zhR3 _ _ _ hm rfl hsv) ?_
 intro v4 p5 hR6
 obtain ⟨yhR6, bdhR6, rfl, rfl, khR6⟩ := hR6
 refine zck (l' := (netP b n vhR3 ghR3 :: boxE c #[.pointer (some ⟨b, 0, none⟩), sv, .int .i64 W, .bool bdhR6] 137 :: l)) rfl ?_
 refine zbc 1 rfl ?_
 refine zak (zaz 2 [1, 0] rfl rfl (by decide) ?_)
 refine zbk 2 rfl ?_
 have hfin : AdP n g ghR3 bad bdhR6 (andO n.fst g x y) yhR6 := by rcases khR6 with ⟨q1, q2, q3⟩ | ⟨q1, q2, q3⟩; (rw [q2, q3]; exact .yes ohR3 q1); (rw [q2, q3]; exact .no hn ohR3 q1)
 exact zcf (rs := [.tmp 6]) (vs := [.int .i64 yhR6]) rfl ⟨rfl, trivial⟩ rfl (fun w hm => ⟨_, adP b n c sv W vhR3 ghR3 bdhR6, rfl, ⟨_, _, _, _, rfl, rfl, hfin⟩, hm.sub (.refl _)⟩)
theorem adOr_mut (b c : Nat) (n : Nt) (sv : Value) (W : Int) (v : Value) (g : List An) (bad : Bool) (x y : Int) (w0 : World) (l : List HP) (w : World) (hm0 : Mem w0 (adP b n c sv W v g bad :: l) w) (hn : NtOk (withG n g)) (hx : LtOk x (n.fst + g.length)) (hy : LtOk y (n.fst + g.length)) (hso : ∀ w, Mem w0 l w → RdsW w n.sv 3 n.ss.length (n.ss.flatMap sqC) ∧ (∀ s ∈ n.ss, RdsW w s.iv 1 s.xs.length (s.xs.map (Value.int .i64))) ∧ RdsW w n.ov 1 n.os.length (n.os.map (Value.int .i64))) (hone : n.sv.oneCell' = true ∧ n.ov.oneCell' = true) (hsv : sv.oneCell' = true) :
   Calls Try.prog 141 #[.pointer (some ⟨c, 0, none⟩), .int .i64 x, .int .i64 y] w (fun e_ w_ => ∃ v_ p_, e_ = .returned v_ ∧ (fun u_ p_ => AR9 b n c sv W g bad (orO n.fst g x y) u_ p_) v_ p_ ∧ Mem w0 (p_ :: l) w_) := by
 have hi0 : 0 ≤ n.ins := hn.i0
 have hf : n.fst = 1 + n.ins + n.ss.length := rfl
 refine zdk (N := 16) (args := [.pointer (some ⟨c, 0, none⟩), .int .i64 x, .int .i64 y]) Try.func141 rfl rfl hm0 (srQ ?_)
 refine zew 1 [0] rfl rfl (by decide) ?_
 refine zfa (netP b n v g :: boxE c #[.pointer (some ⟨b, 0, none⟩), sv, .int .i64 W, .bool bad] 137 :: l) zdv ?_
 refine zbc 1 rfl (zac (reQ 2 rfl (hvQ rfl (zdf rfl rfl) (hvQ rfl (fdQ 0 rfl rfl rfl) (hvQ rfl (zan rfl rfl rfl (zai 1 rfl rfl)) (zag 2 rfl ?_))))))
 refine zcz (R := (fun u_ p_ => ∃ z v_ g_, u_ = .int .i64 z ∧ p_ = netP b n v_ g_ ∧ OpR n g g_ (orO n.fst g x y) z)) 0 rfl rfl rfl rfl rfl (fun L w hX hm => addOrX_mut b n v g x y _ _ _ hm hn hx hy (fun w hm => hso w ((hX w hm).sub (.cons _ (.refl _)))) hone) ?_
 intro v1 p2 hR3
 obtain ⟨zhR3, vhR3, ghR3, rfl, rfl, ohR3⟩ := hR3
 refine zck (l' := (netP b n vhR3 ghR3 :: boxE c #[.pointer (some ⟨b, 0, none⟩), sv, .int .i64 W, .bool bad] 137 :: l)) rfl ?_
 refine zch (R := (fun u_ p_ => ∃ y bd_, u_ = .int .i64 y ∧ p_ = boxE c #[.pointer (some ⟨b, 0, none⟩), sv, .int .i64 W, .bool bd_] 137 ∧ ((0 ≤ zhR3 ∧ y = zhR3 ∧ bd_ = bad) ∨ (zhR3 < 0 ∧ y = 0 ∧ bd_ = true)))) 1 rfl rfl rfl rfl rfl (fun l' w hm => keep_mut c (.pointer (some ⟨b, 0, none⟩)) sv W bad zhR3 _ _ _ hm rfl hsv) ?_
 intro v4 p5 hR6
 obtain ⟨yhR6, bdhR6, rfl, rfl, khR6⟩ := hR6
 refine zck (l' := (netP b n vhR3 ghR3 :: boxE c #[.pointer (some ⟨b, 0, none⟩), sv, .int .i64 W, .bool bdhR6] 137 :: l)) rfl ?_
 refine zbc 1 rfl ?_
 refine zak (zaz 2 [1, 0] rfl rfl (by decide) ?_)
 refine zbk 2 rfl ?_
 have hfin : AdP n g ghR3 bad bdhR6 (orO n.fst g x y) yhR6 := by rcases khR6 with ⟨q1, q2, q3⟩ | ⟨q1, q2, q3⟩; (rw [q2, q3]; exact .yes ohR3 q1); (rw [q2, q3]; exact .no hn ohR3 q1)
 exact zcf (rs := [.tmp 6]) (vs := [.int .i64 yhR6]) rfl ⟨rfl, trivial⟩ rfl (fun w hm => ⟨_, adP b n c sv W vhR3 ghR3 bdhR6, rfl, ⟨_, _, _, _, rfl, rfl, hfin⟩, hm.sub (.refl _)⟩)
theorem adXor_mut (b c : Nat) (n : Nt) (sv : Value) (W : Int) (v : Value) (g : List An) (bad : Bool) (x y : Int) (w0 : World) (l : List HP) (w : World) (hm0 : Mem w0 (adP b n c sv W v g bad :: l) w) (hn : NtOk (withG n g)) (hx : LtOk x (n.fst + g.length)) (hy : LtOk y (n.fst + g.length)) (hso : ∀ w, Mem w0 l w → RdsW w n.sv 3 n.ss.length (n.ss.flatMap sqC) ∧ (∀ s ∈ n.ss, RdsW w s.iv 1 s.xs.length (s.xs.map (Value.int .i64))) ∧ RdsW w n.ov 1 n.os.length (n.os.map (Value.int .i64))) (hone : n.sv.oneCell' = true ∧ n.ov.oneCell' = true) (hsv : sv.oneCell' = true) :
   Calls Try.prog 142 #[.pointer (some ⟨c, 0, none⟩), .int .i64 x, .int .i64 y] w (fun e_ w_ => ∃ v_ p_, e_ = .returned v_ ∧ (fun u_ p_ => AR9 b n c sv W g bad (xorO n.fst g x y) u_ p_) v_ p_ ∧ Mem w0 (p_ :: l) w_) := by
 have hi0 : 0 ≤ n.ins := hn.i0
 have hf : n.fst = 1 + n.ins + n.ss.length := rfl
 refine zdk (N := 16) (args := [.pointer (some ⟨c, 0, none⟩), .int .i64 x, .int .i64 y]) Try.func142 rfl rfl hm0 (srQ ?_)
 refine zew 1 [0] rfl rfl (by decide) ?_
 refine zfa (netP b n v g :: boxE c #[.pointer (some ⟨b, 0, none⟩), sv, .int .i64 W, .bool bad] 137 :: l) zdv ?_
 refine zbc 1 rfl (zac (reQ 2 rfl (hvQ rfl (zdf rfl rfl) (hvQ rfl (fdQ 0 rfl rfl rfl) (hvQ rfl (zan rfl rfl rfl (zai 1 rfl rfl)) (zag 2 rfl ?_))))))
 refine zcz (R := (fun u_ p_ => ∃ z v_ g_, u_ = .int .i64 z ∧ p_ = netP b n v_ g_ ∧ OpR n g g_ (xorO n.fst g x y) z)) 0 rfl rfl rfl rfl rfl (fun L w hX hm => addXorX_mut b n v g x y _ _ _ hm hn hx hy (fun w hm => hso w ((hX w hm).sub (.cons _ (.refl _)))) hone) ?_
 intro v1 p2 hR3
 obtain ⟨zhR3, vhR3, ghR3, rfl, rfl, ohR3⟩ := hR3
 refine zck (l' := (netP b n vhR3 ghR3 :: boxE c #[.pointer (some ⟨b, 0, none⟩), sv, .int .i64 W, .bool bad] 137 :: l)) rfl ?_
 refine zch (R := (fun u_ p_ => ∃ y bd_, u_ = .int .i64 y ∧ p_ = boxE c #[.pointer (some ⟨b, 0, none⟩), sv, .int .i64 W, .bool bd_] 137 ∧ ((0 ≤ zhR3 ∧ y = zhR3 ∧ bd_ = bad) ∨ (zhR3 < 0 ∧ y = 0 ∧ bd_ = true)))) 1 rfl rfl rfl rfl rfl (fun l' w hm => keep_mut c (.pointer (some ⟨b, 0, none⟩)) sv W bad zhR3 _ _ _ hm rfl hsv) ?_
 intro v4 p5 hR6
 obtain ⟨yhR6, bdhR6, rfl, rfl, khR6⟩ := hR6
 refine zck (l' := (netP b n vhR3 ghR3 :: boxE c #[.pointer (some ⟨b, 0, none⟩), sv, .int .i64 W, .bool bdhR6] 137 :: l)) rfl ?_
 refine zbc 1 rfl ?_
 refine zak (zaz 2 [1, 0] rfl rfl (by decide) ?_)
 refine zbk 2 rfl ?_
 have hfin : AdP n g ghR3 bad bdhR6 (xorO n.fst g x y) yhR6 := by rcases khR6 with ⟨q1, q2, q3⟩ | ⟨q1, q2, q3⟩; (rw [q2, q3]; exact .yes ohR3 q1); (rw [q2, q3]; exact .no hn ohR3 q1)
 exact zcf (rs := [.tmp 6]) (vs := [.int .i64 yhR6]) rfl ⟨rfl, trivial⟩ rfl (fun w hm => ⟨_, adP b n c sv W vhR3 ghR3 bdhR6, rfl, ⟨_, _, _, _, rfl, rfl, hfin⟩, hm.sub (.refl _)⟩)
theorem adMux_mut (b c : Nat) (n : Nt) (sv : Value) (W : Int) (v : Value) (g : List An) (bad : Bool) (t x y : Int) (w0 : World) (l : List HP) (w : World) (hm0 : Mem w0 (adP b n c sv W v g bad :: l) w) (hn : NtOk (withG n g)) (hx : LtOk x (n.fst + g.length)) (hy : LtOk y (n.fst + g.length)) (ht : LtOk t (n.fst + g.length)) (hso : ∀ w, Mem w0 l w → RdsW w n.sv 3 n.ss.length (n.ss.flatMap sqC) ∧ (∀ s ∈ n.ss, RdsW w s.iv 1 s.xs.length (s.xs.map (Value.int .i64))) ∧ RdsW w n.ov 1 n.os.length (n.os.map (Value.int .i64))) (hone : n.sv.oneCell' = true ∧ n.ov.oneCell' = true) (hsv : sv.oneCell' = true) :
   Calls Try.prog 145 #[.pointer (some ⟨c, 0, none⟩), .int .i64 t, .int .i64 x, .int .i64 y] w (fun e_ w_ => ∃ v_ p_, e_ = .returned v_ ∧ (fun u_ p_ => AR9 b n c sv W g bad (muxO n.fst g t x y) u_ p_) v_ p_ ∧ Mem w0 (p_ :: l) w_) := by
 have hi0 : 0 ≤ n.ins := hn.i0
 have hf : n.fst = 1 + n.ins + n.ss.length := rfl
 refine zdk (N := 19) (args := [.pointer (some ⟨c, 0, none⟩), .int .i64 t, .int .i64 x, .int .i64 y]) Try.func145 rfl rfl hm0 (srQ ?_)
 refine zew 1 [0] rfl rfl (by decide) ?_
 refine zfa (netP b n v g :: boxE c #[.pointer (some ⟨b, 0, none⟩), sv, .int .i64 W, .bool bad] 137 :: l) zdv ?_
 refine zbc 1 rfl (zac (reQ 2 rfl (hvQ rfl (zdf rfl rfl) (hvQ rfl (fdQ 0 rfl rfl rfl) (hvQ rfl (zan rfl rfl rfl (zai 1 rfl rfl)) (zag 3 rfl ?_))))))
 refine zcz (R := (fun u_ p_ => ∃ z v_ g_, u_ = .int .i64 z ∧ p_ = netP b n v_ g_ ∧ OpR n g g_ (muxO n.fst g t x y) z)) 0 rfl rfl rfl rfl rfl (fun L w hX hm => addMuxX_mut b n v g t x y _ _ _ hm hn hx hy ht (fun w hm => hso w ((hX w hm).sub (.cons _ (.refl _)))) hone) ?_
 intro v1 p2 hR3
 obtain ⟨zhR3, vhR3, ghR3, rfl, rfl, ohR3⟩ := hR3
 refine zck (l' := (netP b n vhR3 ghR3 :: boxE c #[.pointer (some ⟨b, 0, none⟩), sv, .int .i64 W, .bool bad] 137 :: l)) rfl ?_
 refine zch (R := (fun u_ p_ => ∃ y bd_, u_ = .int .i64 y ∧ p_ = boxE c #[.pointer (some ⟨b, 0, none⟩), sv, .int .i64 W, .bool bd_] 137 ∧ ((0 ≤ zhR3 ∧ y = zhR3 ∧ bd_ = bad) ∨ (zhR3 < 0 ∧ y = 0 ∧ bd_ = true)))) 1 rfl rfl rfl rfl rfl (fun l' w hm => keep_mut c (.pointer (some ⟨b, 0, none⟩)) sv W bad zhR3 _ _ _ hm rfl hsv) ?_
 intro v4 p5 hR6
 obtain ⟨yhR6, bdhR6, rfl, rfl, khR6⟩ := hR6
 refine zck (l' := (netP b n vhR3 ghR3 :: boxE c #[.pointer (some ⟨b, 0, none⟩), sv, .int .i64 W, .bool bdhR6] 137 :: l)) rfl ?_
 refine zbc 1 rfl ?_
 refine zak (zaz 2 [1, 0] rfl rfl (by decide) ?_)
 refine zbk 2 rfl ?_
 have hfin : AdP n g ghR3 bad bdhR6 (muxO n.fst g t x y) yhR6 := by rcases khR6 with ⟨q1, q2, q3⟩ | ⟨q1, q2, q3⟩; (rw [q2, q3]; exact .yes ohR3 q1); (rw [q2, q3]; exact .no hn ohR3 q1)
 exact zcf (rs := [.tmp 8]) (vs := [.int .i64 yhR6]) rfl ⟨rfl, trivial⟩ rfl (fun w hm => ⟨_, adP b n c sv W vhR3 ghR3 bdhR6, rfl, ⟨_, _, _, _, rfl, rfl, hfin⟩, hm.sub (.refl _)⟩)
abbrev RE9 (b : Nat) (n : Nt) (c : Nat) (sv : Value) (W : Nat) (g : List An) (bd : Bool) (o : Option GL) (u_ : Value) (p_ : HP) : Prop := ∃ (v_ : Value) (g_ : List An) (bd_ : Bool) (zs : List Int), p_ = bigE [adP b n c sv (W : Int) v_ g_ bd_, rI9 3 u_ zs] ∧ Ext n g g_ ∧ LsOk n g_ zs ∧ zs.length = W ∧ AdR (bd = true) (bd_ = true) o (g_, zs)
theorem zem {xs : List Int} {k : Nat} (h : xs.length ≤ k) : xs.getD k 0 = 0 := by rw [List.getD_eq_getElem?_getD, List.getElem?_eq_none h]; rfl
theorem getD_zset {zs : List Int} {W k : Nat} {x : Int} (hz : zs.length = k) (hk : k < W) : (zs ++ List.replicate (W - k) (0 : Int)).set k x = (zs ++ [x]) ++ List.replicate (W - (k + 1)) 0 := by
  subst hz
  rw [List.set_append_right _ _ (Nat.le_refl _), Nat.sub_self, show W - zs.length = (W - (zs.length + 1)) + 1 by omega, List.replicate_succ, List.set_cons_zero]
  simp
theorem lf_succ (sg : List (List Int)) (o : Oq) (k : Nat) : lfL sg o (k + 1) = lfL sg o k ++ [lfB sg o k] := by unfold lfL; rw [List.range_succ, List.map_append]; rfl
theorem lf_len (sg : List (List Int)) (o : Oq) (k : Nat) : (lfL sg o k).length = k := by unfold lfL; simp
theorem lone_eq {W : Nat} (h : 1 ≤ W) (e : Int) : (List.replicate W (0 : Int)).set 0 e = loneL W e := by
  unfold loneL; obtain ⟨m, rfl⟩ : ∃ m, W = m + 1 := ⟨W - 1, by omega⟩
  rw [List.replicate_succ, List.set_cons_zero]; rfl
theorem lone_bit {W : Nat} (h : 1 ≤ W) {sg : List (List Int)} {o : Oq} (h3 : o.k = 3) : (List.replicate W (0 : Int)).set 0 (sbL sg o.a o.b.toNat) = lfL sg o W := by
  rw [lone_eq h]
  unfold loneL lfL
  obtain ⟨m, rfl⟩ : ∃ m, W = m + 1 := ⟨W - 1, by omega⟩
  rw [List.range_succ_eq_map, List.map_cons, List.map_map]
  have e0 : lfB sg o 0 = sbL sg o.a o.b.toNat := by unfold lfB; rw [if_neg (by omega), if_neg (by omega), if_pos rfl]
  have e1 : ∀ k, lfB sg o (k + 1) = 0 := fun k => by unfold lfB; rw [if_neg (by omega), if_neg (by omega), if_neg (by omega)]
  rw [e0]
  show _ :: _ = _ :: _
  congr 1
  rw [show m + 1 - 1 = m by omega]
  refine List.ext_getElem (by simp) (fun i h1 h2 => ?_)
  simp [e1]
theorem signalBit_ans (b c : Nat) (sv : Value) (W : Nat) (bad : Bool) (rs : List CRow) (s : Int) (k : Nat) (w : World) (hc1 : w.cell? ⟨c, 0 + 1, none⟩ = some sv) (hlt : c < w.heap.size) (hsv : RdsW w sv 1 rs.length (rs.flatMap crowC)) (hra : RdsAll w rs) (hs : 0 ≤ s ∧ s < rs.length) :
   Calls Try.prog 163 #[.pointer (some ⟨c, 0, none⟩), .int .i64 s, .int .i64 (k : Int)] w (Ans w (.int .i64 (sbL (rs.map CRow.xs) s k))) := by
 refine zbq (N := 27) (args := [.pointer (some ⟨c, 0, none⟩), .int .i64 s, .int .i64 (k : Int)]) Try.func163 rfl rfl (zbn 1 rfl (zac (zac (reQ 2 rfl (hvQ rfl (zdf rfl rfl) (hvQ rfl (fdQ 1 rfl rfl rfl) ?_))))))
 refine hvQ rfl (zan rfl rfl rfl (fun w hm => (hm.bel.cell (p := ⟨c, 0 + 1, none⟩) hlt).trans hc1)) (zag 1 rfl (hvQ rfl (riQ 1 rfl rfl rfl rfl (zap hsv)) ?_))
 refine hvQ rfl (zba (u := (rs.getD ((s).toNat) crow0).v) rfl rfl rfl (zap hsv) (zcv crowC (fun r => r.v) (fun _ => rfl) rs crow0 (show (s).toNat < _ by omega))) (hvQ rfl (lnQ rfl rfl rfl (fun w hm => (hra.at (k := ((s).toNat)) (by omega)).below hm.bel)) ?_)
 refine zcb rfl rfl rfl rfl rfl rfl (fun h1 => ?_) (fun h1 => ?_)
 ·
  refine ntQ (zaj rfl (zac (reQ 1 rfl (hvQ rfl (zdf rfl rfl) (hvQ rfl (fdQ 1 rfl rfl rfl) ?_)))))
  refine hvQ rfl (zan rfl rfl rfl (fun w hm => (hm.bel.cell (p := ⟨c, 0 + 1, none⟩) hlt).trans hc1)) (zag 1 rfl (hvQ rfl (riQ 1 rfl rfl rfl rfl (zap hsv)) ?_))
  refine hvQ rfl (zba (u := (rs.getD ((s).toNat) crow0).v) rfl rfl rfl (zap hsv) (zcv crowC (fun r => r.v) (fun _ => rfl) rs crow0 (show (s).toNat < _ by omega))) (zag 1 rfl ?_)
  refine hvQ rfl (riQ 1 rfl rfl rfl rfl (fun w hm => (hra.at (k := ((s).toNat)) (by omega)).below hm.bel)) (hvQ rfl (zba (u := .int .i64 (((rs.getD ((s).toNat) crow0).xs).getD k 0)) rfl rfl rfl (fun w hm => (hra.at (k := ((s).toNat)) (by omega)).below hm.bel) (zcg (show _ < ((rs.getD ((s).toNat) crow0).xs).length by omega))) ?_)
  refine zbc 1 rfl ?_
  refine zak (zad ?_)
  exact zbl rfl rfl (by rw [sb_at] <;> rfl)
 refine ntQ (zal rfl (zdb (zbn 1 rfl ?_)))
 exact zak (zbl rfl rfl (by rw [sb_at, zem (by omega)]))
theorem lone_ret (b c : Nat) (sv : Value) (W : Nat) (bad : Bool) (z : Int) (w : World) (hc2 : w.cell? ⟨c, 0 + 2, none⟩ = some (.int .i64 (W : Int))) (hlt : c < w.heap.size) (hW : 1 ≤ W ∧ W ≤ 4) :
   Calls Try.prog 168 #[.pointer (some ⟨c, 0, none⟩), .int .i64 z] w (Ret w (fun v' post => post = [rI9 3 v' ((loneL W z))])) := by
 have hrl : (List.replicate W (0 : Int)).length = W := List.length_replicate
 refine zbq (N := 15) (args := [.pointer (some ⟨c, 0, none⟩), .int .i64 z]) Try.func168 rfl rfl (zbn 1 rfl (zac (reQ 1 rfl (hvQ rfl (zdf rfl rfl) (hvQ rfl (fdQ 2 rfl rfl rfl) ?_)))))
 refine hvQ rfl (zan rfl rfl rfl (fun w hm => (hm.bel.cell (p := ⟨c, 0 + 2, none⟩) hlt).trans hc2)) (zey rfl (rq_make (z := .int .i64 0) (s := 1) (bytes := 8) (n := (List.replicate W (0 : Int)).length) (cs := ((List.replicate W (0 : Int)).map (Value.int .i64))) rfl Try.underlying48 rfl (by decide) rfl rfl (by first | (rw [List.length_replicate]; done) | (rw [List.length_replicate]; omega)) (by first | (rw [List.length_replicate]; done) | (rw [List.length_replicate]; omega)) (by rw [List.length_replicate]; omega) (ints_make _)) ?_)
 intro g1
 refine zbc 1 rfl (zac (reQ 2 rfl (hvQ rfl (riQ 1 rfl rfl rfl rfl (zao 0 rfl)) ?_)))
 refine hl_stE (i := 0) (n' := ((List.replicate W (0 : Int)).set 0 z).length) (xs' := (((List.replicate W (0 : Int)).set 0 z).map (Value.int .i64))) rfl rfl rfl rfl rfl rfl rfl rfl (by first | omega | (simp only [List.length_set]; omega)) List.length_set.symm (zfc _ _ _) rfl (ntQ (zbn 2 rfl ?_))
 exact zak (zev (post := [rowE 3 1 (.slice (some ⟨g1, 0, none⟩) ((List.replicate W (0 : Int)).length) ((List.replicate W (0 : Int)).length)) (((List.replicate W (0 : Int)).set 0 z).length) (((List.replicate W (0 : Int)).set 0 z).map (Value.int .i64))]) rfl rfl (pfQ rfl) (by rw [lone_eq hW.1]))
theorem leaf_ret (b c : Nat) (sv : Value) (W : Nat) (bad : Bool) (rs : List CRow) (o : Oq) (w : World) (hc1 : w.cell? ⟨c, 0 + 1, none⟩ = some sv) (hc2 : w.cell? ⟨c, 0 + 2, none⟩ = some (.int .i64 (W : Int))) (hlt : c < w.heap.size) (hsv : RdsW w sv 1 rs.length (rs.flatMap crowC)) (hra : RdsAll w rs) (hW : 1 ≤ W ∧ W ≤ 4) (ho : OqP rs.length o) (h0 : arI o.k = 0) (h1k : o.k ≠ 1) :
   Calls Try.prog 138 #[.pointer (some ⟨c, 0, none⟩), .agg #[.int .i64 o.k, .int .i64 o.a, .int .i64 o.b]] w (Ret w (fun v' post => post = [rI9 3 v' ((lfL (rs.map CRow.xs) o W))])) := by
 have hrl : (List.replicate W (0 : Int)).length = W := List.length_replicate
 have hkd : o.k = 0 ∨ (o.k = 2 ∧ 0 ≤ o.a ∧ o.a < rs.length) ∨ (o.k = 3 ∧ (0 ≤ o.a ∧ o.a < rs.length) ∧ 0 ≤ o.b ∧ o.b ≤ 3) := by rcases ho with h | h | h | h; exact .inl h.1; exact .inr (.inl ⟨h.1, h.2.1⟩); exact .inr (.inr ⟨h.1, h.2.1, h.2.2⟩); exfalso; obtain ⟨a1, a2, a3, a4, -⟩ := h; unfold arI at h0; split at h0 <;> (try split at h0) <;> (try split at h0) <;> (try split at h0) <;> omega
 refine zbq (N := 59) (args := [.pointer (some ⟨c, 0, none⟩), .agg #[.int .i64 o.k, .int .i64 o.a, .int .i64 o.b]]) Try.func138 rfl rfl (srQ ?_)
 refine zed rfl (zdh rfl rfl) ?_
 intro b1
 refine zbc 1 rfl (zac (reQ 1 rfl (hvQ rfl (zdf rfl rfl) (hvQ rfl (fdQ 2 rfl rfl rfl) ?_))))
 refine hvQ rfl (zan rfl rfl rfl (fun w hm => (hm.bel.cell (p := ⟨c, 0 + 2, none⟩) hlt).trans hc2)) (zey rfl (rq_make (z := .int .i64 0) (s := 1) (bytes := 8) (n := (List.replicate W (0 : Int)).length) (cs := ((List.replicate W (0 : Int)).map (Value.int .i64))) rfl Try.underlying48 rfl (by decide) rfl rfl (by first | (rw [List.length_replicate]; done) | (rw [List.length_replicate]; omega)) (by first | (rw [List.length_replicate]; done) | (rw [List.length_replicate]; omega)) (by rw [List.length_replicate]; omega) (ints_make _)) ?_)
 intro g2
 refine zbc 1 rfl (zgk (hvQ rfl (fdQ 0 rfl rfl rfl) (hvQ rfl (zan rfl rfl rfl (zai 1 rfl rfl)) (ntQ (zbf (zac ?_))))))
 refine zav (zbj rfl rfl rfl rfl rfl rfl (fun h3 => ?_) (fun h3 => ?_))
 ·
  refine zbc 1 rfl (zaj rfl (zac (reQ 1 rfl (hvQ rfl (lnQ rfl rfl rfl (zao 0 rfl)) (zbc 1 rfl (zbf ?_))))))
  have hz0 : lfL (rs.map CRow.xs) o 0 ++ List.replicate (W - 0) (0 : Int) = List.replicate W 0 := by rw [Nat.sub_zero]; exact List.nil_append _
  refine zeo [rowE 3 1 (.slice (some ⟨g2, 0, none⟩) ((List.replicate W (0 : Int)).length) ((List.replicate W (0 : Int)).length)) ((lfL (rs.map CRow.xs) o 0 ++ List.replicate (W - 0) 0).length) ((lfL (rs.map CRow.xs) o 0 ++ List.replicate (W - 0) 0).map (Value.int .i64)), boxE b1 #[.int .i64 o.k, .int .i64 o.a, .int .i64 o.b] 97] (fun w hm => by rw [hz0]; exact hm) ?_
  refine lkQ1 (α := Nat) [0, 1, 3, 4, 5, 14, 15, 18] rfl (fun k => [rowE 3 1 (.slice (some ⟨g2, 0, none⟩) ((List.replicate W (0 : Int)).length) ((List.replicate W (0 : Int)).length)) ((lfL (rs.map CRow.xs) o k ++ List.replicate (W - k) 0).length) ((lfL (rs.map CRow.xs) o k ++ List.replicate (W - k) 0).map (Value.int .i64)), boxE b1 #[.int .i64 o.k, .int .i64 o.a, .int .i64 o.b] 97]) (fun k => [(19, .int .i64 (k : Int))]) (fun k => k ≤ W) (fun k => W - k) 0 (Nat.zero_le _) (saQ rfl) (pfQ rfl) ?_
  intro k hi4
  have hk := hi4
  have hrl9 : (lfL (rs.map CRow.xs) o k ++ List.replicate (W - k) (0 : Int)).length = W := by rw [List.length_append, lf_len, List.length_replicate]; omega
  refine srQ ?_
  refine zcb rfl rfl rfl rfl rfl rfl (fun h5 => ?_) (fun h5 => ?_)
  ·
   refine ntQ (tcQ rfl (zdb (sbQ (srQ (enQ 2 rfl ?_)))))
   refine zaw (zav (zag 2 rfl (hvQ rfl (fdQ 1 rfl rfl rfl) (hvQ rfl (zan rfl rfl rfl (zai 1 rfl rfl)) (zag 1 rfl (hvQ rfl (rv_conv rfl Try.underlying3 Try.underlying154 rfl (IntWalk.u64_in _ (by omega))) (hvQ rfl (rv_shr rfl rfl rfl (by omega)) (hvQ rfl (zcl rfl (by decide) rfl rfl (r := o.a / 2 ^ k % 2) (by rw [show (o.a / 2 ^ ((k : Int)).toNat : Int) = o.a / 2 ^ k by rw [Int.toNat_natCast]]; exact and1N _)) (hvQ rfl (riQ 1 rfl rfl rfl rfl (zao 0 rfl)) ?_)))))))))
   refine hl_stE (i := 0) (n' := ((lfL (rs.map CRow.xs) o k ++ List.replicate (W - k) 0).set k (o.a / 2 ^ k % 2)).length) (xs' := (((lfL (rs.map CRow.xs) o k ++ List.replicate (W - k) 0).set k (o.a / 2 ^ k % 2)).map (Value.int .i64))) rfl rfl rfl rfl rfl rfl rfl rfl (by first | omega | (simp only [List.length_set]; omega)) List.length_set.symm (zfc _ _ _) rfl (zbu (zdn (zav (hvQ rfl (vaQ rfl rfl rfl) (enQ 1 rfl ?_)))))
   have hlb : lfB (rs.map CRow.xs) o k = (o.a / 2 ^ k % 2) := by unfold lfB; first | exact if_pos (by omega) | exact (if_neg (by omega)).trans (if_pos (by omega))
   have hset : (lfL (rs.map CRow.xs) o k ++ List.replicate (W - k) 0).set k (o.a / 2 ^ k % 2) = (lfL (rs.map CRow.xs) o (k + 1) ++ List.replicate (W - (k + 1)) 0) := by rw [lf_succ, hlb]; exact getD_zset (lf_len _ _ _) (by omega)
   rw [hset]
   exact zcm (k + 1) (by omega) (by omega) (saQ rfl) (pfQ rfl)
  refine ntQ (fcQ rfl ?_)
  refine zby (zes ?_)
  refine zat (zdn (zbn 2 rfl ?_))
  exact zak (zev (post := [rowE 3 1 (.slice (some ⟨g2, 0, none⟩) ((List.replicate W (0 : Int)).length) ((List.replicate W (0 : Int)).length)) ((lfL (rs.map CRow.xs) o k ++ List.replicate (W - k) 0).length) ((lfL (rs.map CRow.xs) o k ++ List.replicate (W - k) 0).map (Value.int .i64))]) rfl rfl (slQ [0] rfl) (by rw [show k = W by omega, Nat.sub_self, List.replicate_zero, List.append_nil]))
 refine zbc 1 rfl (zal rfl (srQ ?_))
 refine zbj rfl rfl rfl rfl rfl rfl (fun h6 => ?_) (fun h6 => ?_)
 ·
  refine zbc 1 rfl (zaj rfl (zac (reQ 1 rfl (hvQ rfl (lnQ rfl rfl rfl (zao 0 rfl)) (zbc 1 rfl (zbf ?_))))))
  have hz0 : lfL (rs.map CRow.xs) o 0 ++ List.replicate (W - 0) (0 : Int) = List.replicate W 0 := by rw [Nat.sub_zero]; exact List.nil_append _
  refine zeo [rowE 3 1 (.slice (some ⟨g2, 0, none⟩) ((List.replicate W (0 : Int)).length) ((List.replicate W (0 : Int)).length)) ((lfL (rs.map CRow.xs) o 0 ++ List.replicate (W - 0) 0).length) ((lfL (rs.map CRow.xs) o 0 ++ List.replicate (W - 0) 0).map (Value.int .i64)), boxE b1 #[.int .i64 o.k, .int .i64 o.a, .int .i64 o.b] 97] (fun w hm => by rw [hz0]; exact hm) ?_
  refine lkQ1 (α := Nat) [0, 1, 3, 4, 5, 14, 15, 32, 35] rfl (fun k => [rowE 3 1 (.slice (some ⟨g2, 0, none⟩) ((List.replicate W (0 : Int)).length) ((List.replicate W (0 : Int)).length)) ((lfL (rs.map CRow.xs) o k ++ List.replicate (W - k) 0).length) ((lfL (rs.map CRow.xs) o k ++ List.replicate (W - k) 0).map (Value.int .i64)), boxE b1 #[.int .i64 o.k, .int .i64 o.a, .int .i64 o.b] 97]) (fun k => [(36, .int .i64 (k : Int))]) (fun k => k ≤ W) (fun k => W - k) 0 (Nat.zero_le _) (saQ rfl) (pfQ rfl) ?_
  intro k hi7
  have hk := hi7
  have hrl9 : (lfL (rs.map CRow.xs) o k ++ List.replicate (W - k) (0 : Int)).length = W := by rw [List.length_append, lf_len, List.length_replicate]; omega
  refine srQ ?_
  refine zcb rfl rfl rfl rfl rfl rfl (fun h8 => ?_) (fun h8 => ?_)
  ·
   refine ntQ (tcQ rfl (zdb (sbQ (srQ (enQ 2 rfl ?_)))))
   refine zaw (reQ 3 rfl (hvQ rfl (fdQ 1 rfl rfl rfl) (hvQ rfl (zan rfl rfl rfl (zai 1 rfl rfl)) (zag 1 rfl ?_))))
   refine zdu rfl (zam rfl rfl (fun w hm => zbb (signalBit_ans b c sv W bad rs o.a k w ((hm.bel.cell (p := ⟨c, 0 + 1, none⟩) hlt).trans hc1) (Nat.lt_of_lt_of_le hlt hm.bel.size) (hsv.below hm.bel) (fun r hr => (hra r hr).below hm.bel) (by omega)))) (hvQ rfl (riQ 1 rfl rfl rfl rfl (zao 0 rfl)) ?_)
   refine hl_stE (i := 0) (n' := ((lfL (rs.map CRow.xs) o k ++ List.replicate (W - k) 0).set k (sbL (rs.map CRow.xs) o.a k)).length) (xs' := (((lfL (rs.map CRow.xs) o k ++ List.replicate (W - k) 0).set k (sbL (rs.map CRow.xs) o.a k)).map (Value.int .i64))) rfl rfl rfl rfl rfl rfl rfl rfl (by first | omega | (simp only [List.length_set]; omega)) List.length_set.symm (zfc _ _ _) rfl (zbu (zdn (zav (hvQ rfl (vaQ rfl rfl rfl) (enQ 1 rfl ?_)))))
   have hlb : lfB (rs.map CRow.xs) o k = (sbL (rs.map CRow.xs) o.a k) := by unfold lfB; first | exact if_pos (by omega) | exact (if_neg (by omega)).trans (if_pos (by omega))
   have hset : (lfL (rs.map CRow.xs) o k ++ List.replicate (W - k) 0).set k (sbL (rs.map CRow.xs) o.a k) = (lfL (rs.map CRow.xs) o (k + 1) ++ List.replicate (W - (k + 1)) 0) := by rw [lf_succ, hlb]; exact getD_zset (lf_len _ _ _) (by omega)
   rw [hset]
   exact zcm (k + 1) (by omega) (by omega) (saQ rfl) (pfQ rfl)
  refine ntQ (fcQ rfl ?_)
  refine zby (zes ?_)
  refine zat (zdn (zbn 2 rfl ?_))
  exact zak (zev (post := [rowE 3 1 (.slice (some ⟨g2, 0, none⟩) ((List.replicate W (0 : Int)).length) ((List.replicate W (0 : Int)).length)) ((lfL (rs.map CRow.xs) o k ++ List.replicate (W - k) 0).length) ((lfL (rs.map CRow.xs) o k ++ List.replicate (W - k) 0).map (Value.int .i64))]) rfl rfl (slQ [0] rfl) (by rw [show k = W by omega, Nat.sub_self, List.replicate_zero, List.append_nil]))
 refine zbc 1 rfl (zal rfl (srQ ?_))
 refine zbj rfl rfl rfl rfl rfl rfl (fun h9 => ?_) (fun h9 => ?_)
 ·
  refine zbc 1 rfl (zaj rfl (reQ 2 rfl (hvQ rfl (fdQ 1 rfl rfl rfl) (hvQ rfl (zan rfl rfl rfl (zai 1 rfl rfl)) (hvQ rfl (fdQ 2 rfl rfl rfl) (hvQ rfl (zan rfl rfl rfl (zai 1 rfl rfl)) ?_))))))
  refine zdu rfl (zam rfl rfl (fun w hm => zbb (by have h9 := signalBit_ans b c sv W bad rs o.a o.b.toNat w ((hm.bel.cell (p := ⟨c, 0 + 1, none⟩) hlt).trans hc1) (Nat.lt_of_lt_of_le hlt hm.bel.size) (hsv.below hm.bel) (fun r hr => (hra r hr).below hm.bel) (by omega); rw [Int.toNat_of_nonneg (by omega)] at h9; exact h9))) (hvQ rfl (riQ 1 rfl rfl rfl rfl (zao 0 rfl)) ?_)
  refine hl_stE (i := 0) (n' := ((List.replicate W (0 : Int)).set 0 (sbL (rs.map CRow.xs) o.a o.b.toNat)).length) (xs' := (((List.replicate W (0 : Int)).set 0 (sbL (rs.map CRow.xs) o.a o.b.toNat)).map (Value.int .i64))) rfl rfl rfl rfl rfl rfl rfl rfl (by first | omega | (simp only [List.length_set]; omega)) List.length_set.symm (zfc _ _ _) rfl (zbu (zdn (zbn 2 rfl ?_)))
  exact zak (zev (post := [rowE 3 1 (.slice (some ⟨g2, 0, none⟩) ((List.replicate W (0 : Int)).length) ((List.replicate W (0 : Int)).length)) (((List.replicate W (0 : Int)).set 0 (sbL (rs.map CRow.xs) o.a o.b.toNat)).length) (((List.replicate W (0 : Int)).set 0 (sbL (rs.map CRow.xs) o.a o.b.toNat)).map (Value.int .i64))]) rfl rfl (slQ [0] rfl) (by rw [lone_bit hW.1 (by omega)]))
 refine zbc 1 rfl (fsQ rfl (zdn (zbn 2 rfl ?_)))
 refine zak ?_
 exfalso
 omega
theorem map_take_succ {xs : List Int} {k : Nat} (h : k < xs.length) : (xs.take k).map xr ++ [xr (xs.getD k 0)] = (xs.take (k + 1)).map xr := by
  rw [zen 0 h, List.map_append]; rfl
theorem complements_ret (xs : List Int) (v : Value) (w : World) (hv : RdsW w v 1 xs.length (xs.map (Value.int .i64))) (hx : ∀ x ∈ xs, 0 ≤ x ∧ x < 4294967296) (hxl : xs.length ≤ 1000) :
   Calls Try.prog 139 #[v] w (Ret w (fun v' post => post = [rI9 3 v' ((xs.map xr))])) := by
 have hv9 := sml hv
 refine zbq (N := 19) (args := [v]) Try.func139 rfl rfl (zbn 1 rfl (srQ ?_))
 refine zgt 3 1 (zbc 1 rfl (zac (zac (reQ 1 rfl (hvQ rfl (lnQ rfl rfl rfl (zap hv)) (zbc 1 rfl (zbf ?_)))))))
 refine lkQ3 (α := Nat) (β := List Int) (γ := Value) [0, 2, 6, 7] rfl (fun k zs u => [rI9 3 u zs]) (fun k zs u => [(3, u), (8, .int .i64 (k : Int))]) (fun k zs u => k ≤ xs.length ∧ zs = (xs.take k).map xr) (fun k zs u => xs.length - k) 0 [] _ ⟨Nat.zero_le _, rfl⟩ (saQ rfl) (pfQ rfl) ?_
 intro k zs u hi2
 obtain ⟨hk, hz⟩ := hi2
 have hzl : zs.length = k := by rw [hz, List.length_map, List.length_take]; omega
 refine srQ ?_
 refine zcb rfl rfl rfl rfl rfl rfl (fun h3 => ?_) (fun h3 => ?_)
 ·
  refine ntQ (tcQ rfl (zdb (sbQ (srQ (hvQ rfl (riQ 1 rfl rfl rfl rfl (zap hv)) (hvQ rfl (liQ rfl rfl rfl (zap hv)) (zag 1 rfl ?_)))))))
  refine ntQ (reQ 2 rfl (hvQ rfl (zcl rfl (by decide) rfl rfl (r := xr (xs.getD k 0)) (xor_xr (hx _ (zbd (by omega))).1 (hx _ (zbd (by omega))).2)) ?_))
  refine zey rfl (zas (z := .int .i64 0) (s := 1) (cs := ([xr (xs.getD k 0)].map (Value.int .i64))) rfl Try.underlying48 rfl (by decide) rfl (by kernel_rfl) rfl) ?_
  intro g4
  refine zdc (i := 1) (z := .int .i64 0) (bytes := 8) rfl rfl rfl rfl Try.underlying48 (by kernel_rfl) rfl rfl rfl rfl (zao 0 rfl) (zcj _) (by first | omega | (simp; done) | (simp; omega)) (zco zs ([xr (xs.getD k 0)])) (zcx zs ([xr (xs.getD k 0)])) (fun _ => rfl) ?_
  intro v5
  refine enQ 1 rfl (zdn (zav (hvQ rfl (vaQ rfl rfl rfl) (enQ 1 rfl ?_))))
  exact zdz (k + 1) (zs ++ ([xr (xs.getD k 0)])) v5 ⟨by omega, by rw [hz]; exact map_take_succ (by omega)⟩ (by omega) (saQ rfl) (slQ [1] rfl)
 refine ntQ (fcQ rfl ?_)
 refine zby (zes ?_)
 refine zat (zaw (zbn 2 rfl ?_))
 exact zak (zev (post := [rI9 3 u zs]) rfl rfl (pfQ rfl) (by rw [hz, show k = xs.length by omega, List.take_length]))
end Go.Proofs.Ytodiifjigjnalaa
