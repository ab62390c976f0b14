/- Texts of the law FnHeightCut, part 2: what it uses. -/
import Derived.Test.YtdagfahfgpjglaaHct1
set_option linter.unusedVariables false
set_option linter.unusedSimpArgs false
set_option maxHeartbeats 4000000
set_option maxRecDepth 100000
namespace Go.Proofs.Ytdagfahfgpjglaa
open Go.RowKit Go.ChangeShapes
open Go.RowKit
open Go.Maps
open Go.ChangeMaps (setBlock heap_setBlock_same heap_setBlock_other)
theorem l08Sized_mut (g : Nat) (a : Option Addr) (len cap : Nat) (z : List Int) (q1 q2 q3 : Int) (w0 : World) (l : List HP) (w : World) (hm0 : Mem w0 (curE g a len cap :: l) w) (hb : BRow .u8 w0 a len cap z) (hq1 : 1 ≤ q1 ∧ q1 ≤ 6) (hq2 : 0 ≤ q2 ∧ q2 ≤ 4) (hq3 : 0 ≤ q3 ∧ q3 ≤ 30) :
   Calls Try.prog 31 #[.pointer (some ⟨g, 0, none⟩), .int .i64 q1, .int .i64 q2, .int .i64 q3] w (fun e_ w_ => ∃ v_ p_, e_ = .returned v_ ∧ (fun u_ p_ => ∃ n : Nt, u_ = n.agg ∧ p_ = bigE [curE g a len cap, ntE n] ∧ (n.sv.oneCell' = true ∧ n.av.oneCell' = true ∧ n.ov.oneCell' = true) ∧ NtOk n ∧ n.ins ≤ q1 ∧ (n.ss.length : Int) ≤ q2 ∧ (n.gs.length : Int) ≤ q3) v_ p_ ∧ Mem w0 (p_ :: l) w_) := by
 refine zfj (N := 131) (args := [.pointer (some ⟨g, 0, none⟩), .int .i64 q1, .int .i64 q2, .int .i64 q3]) Try.func31 rfl rfl hm0 (srQ ?_)
 refine zei rfl (zbq (z := .agg #[.int .i64 0, .slice none 0 0, .slice none 0 0, .slice none 0 0]) rfl rfl) ?_
 intro b1
 refine ntQ (zaa (reQ 2 rfl ?_))
 refine zda (R := (fun u_ p_ => (∃ x_ : Int, u_ = .int .i64 x_ ∧ 0 ≤ x_ ∧ x_ < q1) ∧ p_ = curE g a len cap)) 1 rfl rfl rfl rfl rfl (fun l' w hm => zcn g a len cap z q1 _ _ _ hm hb (by constructor <;> omega)) ?_
 intro v2 p3 hR4
 obtain ⟨⟨xhR4, rfl, xhR40, xhR41⟩, rfl⟩ := hR4
 refine zdo (l' := (boxE b1 #[.int .i64 0, .slice none 0 0, .slice none 0 0, .slice none 0 0] 28 :: curE g a len cap :: l)) rfl ?_
 refine hvQ rfl (vaQ rfl rfl rfl) (hvQ rfl (zcp (cs := #[.int .i64 (1 + xhR4), .slice none 0 0, .slice none 0 0, .slice none 0 0]) rfl rfl rfl) ?_)
 refine zei rfl (zbq (z := .agg #[.int .i64 0, .slice none 0 0, .slice none 0 0, .slice none 0 0]) rfl rfl) ?_
 intro b5
 refine zbu (cs' := #[.int .i64 (1 + xhR4), .slice none 0 0, .slice none 0 0, .slice none 0 0]) (i := 0) (off := 0) (us := [.int .i64 (1 + xhR4), .slice none 0 0, .slice none 0 0, .slice none 0 0]) rfl rfl rfl rfl rfl rfl rfl (zar rfl (zar rfl (zar rfl (zar rfl zbs)))) rfl rfl rfl (ntQ (zaa (reQ 2 rfl (hvQ rfl (vaQ rfl rfl rfl) ?_))))
 refine zda (R := (fun u_ p_ => (∃ x_ : Int, u_ = .int .i64 x_ ∧ 0 ≤ x_ ∧ x_ < q2 + 1) ∧ p_ = curE g a len cap)) 2 rfl rfl rfl rfl rfl (fun l' w hm => zcn g a len cap z (q2 + 1) _ _ _ hm hb (by constructor <;> omega)) ?_
 intro v6 p7 hR8
 obtain ⟨⟨xhR8, rfl, xhR80, xhR81⟩, rfl⟩ := hR8
 refine zdo (l' := (boxE b5 #[.int .i64 (1 + xhR4), .slice none 0 0, .slice none 0 0, .slice none 0 0] 28 :: boxE b1 #[.int .i64 0, .slice none 0 0, .slice none 0 0, .slice none 0 0] 28 :: curE g a len cap :: l)) rfl ?_
 refine zbb 1 rfl (zaa (reQ 2 rfl (hvQ rfl (vaQ rfl rfl rfl) ?_)))
 refine zda (R := (fun u_ p_ => (∃ x_ : Int, u_ = .int .i64 x_ ∧ 0 ≤ x_ ∧ x_ < q3 + 1) ∧ p_ = curE g a len cap)) 2 rfl rfl rfl rfl rfl (fun l' w hm => zcn g a len cap z (q3 + 1) _ _ _ hm hb (by constructor <;> omega)) ?_
 intro v9 p10 hR11
 obtain ⟨⟨xhR11, rfl, xhR110, xhR111⟩, rfl⟩ := hR11
 refine zdo (l' := (boxE b5 #[.int .i64 (1 + xhR4), .slice none 0 0, .slice none 0 0, .slice none 0 0] 28 :: boxE b1 #[.int .i64 0, .slice none 0 0, .slice none 0 0, .slice none 0 0] 28 :: curE g a len cap :: l)) rfl ?_
 refine zbb 1 rfl (srQ (hvQ rfl (fdQ 0 rfl rfl rfl) (hvQ rfl (zan rfl rfl rfl (zah 0 rfl rfl)) (hvQ rfl (vaQ rfl rfl rfl) (zab 1 rfl (hvQ rfl (vaQ rfl rfl rfl) (enQ 1 rfl ?_)))))))
 refine zaj (zaa (zbh 1 rfl (zba ?_)))
 refine zev (rowE 3 1 (.slice none 0 0) 0 ([]) :: boxE b5 #[.int .i64 (1 + xhR4), .slice none 0 0, .slice none 0 0, .slice none 0 0] 28 :: boxE b1 #[.int .i64 0, .slice none 0 0, .slice none 0 0, .slice none 0 0] 28 :: curE g a len cap :: l) (fun w hm => hm.nilRow 3 1) ?_
 refine zev (rowE 47 2 (.slice none 0 0) 0 ([]) :: rowE 3 1 (.slice none 0 0) 0 ([]) :: boxE b5 #[.int .i64 (1 + xhR4), .slice none 0 0, .slice none 0 0, .slice none 0 0] 28 :: boxE b1 #[.int .i64 0, .slice none 0 0, .slice none 0 0, .slice none 0 0] 28 :: curE g a len cap :: l) (fun w hm => hm.nilRow 47 2) ?_
 refine zev (rowE 59 3 (.slice none 0 0) 0 ([]) :: rowE 47 2 (.slice none 0 0) 0 ([]) :: rowE 3 1 (.slice none 0 0) 0 ([]) :: boxE b5 #[.int .i64 (1 + xhR4), .slice none 0 0, .slice none 0 0, .slice none 0 0] 28 :: boxE b1 #[.int .i64 0, .slice none 0 0, .slice none 0 0, .slice none 0 0] 28 :: curE g a len cap :: l) (fun w hm => hm.nilRow 59 3) ?_
 refine zev _ conv_bg0 ?_
 refine lkQ3 (α := Nat) (β := Value) (γ := List An) [0, 1, 2, 3, 8, 9, 10, 11, 12] rfl (fun i u gs => (bigE ([] : List HP) :: rowE 59 3 (.slice none 0 0) 0 ([]) :: rowE 47 2 u gs.length (gs.flatMap anC) :: rowE 3 1 (.slice none 0 0) 0 ([]) :: boxE b5 #[.int .i64 (1 + xhR4), .slice none 0 0, u, .slice none 0 0] 28 :: boxE b1 #[.int .i64 0, .slice none 0 0, .slice none 0 0, .slice none 0 0] 28 :: curE g a len cap :: l)) (fun i u gs => [(13, .int .i64 (i : Int))]) (fun i u gs => (i : Int) ≤ xhR11 ∧ gs.length = i ∧ AnsOk ((1 + (1 + xhR4)) + xhR8) gs) (fun i u gs => (xhR11).toNat - i) 0 _ [] ⟨by omega, rfl, fun k hk => absurd hk (by simp)⟩ (saQ rfl) (.refl _) ?_
 intro i u gs hi12
 obtain ⟨hi, hgl, hgo⟩ := hi12
 refine zaa (zaa (reQ 2 rfl ?_))
 refine zbr rfl rfl rfl rfl rfl rfl (fun h13 => ?_) (fun h13 => ?_)
 ·
  refine ntQ (zaq rfl (zcw (sbQ (zaa (reQ 2 rfl (hvQ rfl (vaQ rfl rfl rfl) (hvQ rfl (zer rfl rfl rfl (by constructor <;> omega)) (zab 1 rfl ?_))))))))
  refine ntQ (zaa (reQ 1 rfl (hvQ rfl (vsQ rfl rfl rfl) (zab 2 rfl (hvQ rfl (vsQ rfl rfl rfl) (hvQ rfl (rv_min rfl rfl rfl) ?_))))))
  refine zda (R := (fun u_ p_ => (∃ x_ : Int, u_ = .int .i64 x_ ∧ 0 ≤ x_ ∧ x_ < min ((2 * (((1 + (1 + xhR4)) + xhR8) + (i : Int))) - 1) 14) ∧ p_ = curE g a len cap)) 6 rfl rfl rfl rfl rfl (fun l' w hm => zcn g a len cap z (min ((2 * (((1 + (1 + xhR4)) + xhR8) + (i : Int))) - 1) 14) _ _ _ hm hb (by constructor <;> omega)) ?_
  intro v14 p15 hR16
  obtain ⟨⟨xhR16, rfl, xhR160, xhR161⟩, rfl⟩ := hR16
  refine zdo (l' := (bigE ([] : List HP) :: rowE 59 3 (.slice none 0 0) 0 ([]) :: rowE 47 2 u gs.length (gs.flatMap anC) :: rowE 3 1 (.slice none 0 0) 0 ([]) :: boxE b5 #[.int .i64 (1 + xhR4), .slice none 0 0, u, .slice none 0 0] 28 :: boxE b1 #[.int .i64 0, .slice none 0 0, .slice none 0 0, .slice none 0 0] 28 :: curE g a len cap :: l)) rfl ?_
  refine hvQ rfl (vsQ rfl rfl rfl) (zbb 1 rfl ?_)
  refine zfp 7 [5, 4, 3, 2, 1, 0, 6] rfl rfl (by decide) ?_
  refine zfo (l := (bigE ([] : List HP) :: rowE 59 3 (.slice none 0 0) 0 ([]) :: rowE 47 2 u gs.length (gs.flatMap anC) :: rowE 3 1 (.slice none 0 0) 0 ([]) :: boxE b5 #[.int .i64 (1 + xhR4), .slice none 0 0, u, .slice none 0 0] 28 :: boxE b1 #[.int .i64 0, .slice none 0 0, .slice none 0 0, .slice none 0 0] 28 :: l)) rfl 8 [0, 1, 2, 3, 4, 5, 6, 7] (List.take 8 _) (List.drop 8 _) [[], [0], [], [], [], [3, 4], [2, 5], [5, 6]] [54, 55, 56, 57, 58, 59, 60, 61] (fun i_ vs_ v_ p_ => match i_ with | 0 => v_ = .pointer (some ⟨b5, 0 + 2, none⟩) ∧ p_ = [] | 1 => v_ = u ∧ p_ = [] | 2 => v_ = .int .i64 (((2 * (((1 + (1 + xhR4)) + xhR8) + (i : Int))) - 1) - xhR16) ∧ p_ = [] | 3 => v_ = .pointer (some ⟨g, 0, none⟩) ∧ p_ = [] | 4 => v_ = .int .i64 (2 * (((1 + (1 + xhR4)) + xhR8) + (i : Int))) ∧ p_ = [] | 5 => (∃ pm_, p_ = [pm_] ∧ (fun u_ p_ => (∃ x_ : Int, u_ = .int .i64 x_ ∧ 0 ≤ x_ ∧ x_ < 2 * (((1 + (1 + xhR4)) + xhR8) + (i : Int))) ∧ p_ = curE g a len cap) v_ pm_) | 6 => v_ = .agg #[.int .i64 (((2 * (((1 + (1 + xhR4)) + xhR8) + (i : Int))) - 1) - xhR16), .int .i64 (intOf_o (List.getD vs_ 1 undef))] ∧ p_ = [] | 7 => IsRow 47 2 1 ([((2 * (((1 + (1 + xhR4)) + xhR8) + (i : Int))) - 1) - xhR16, (intOf_o (List.getD vs_ 0 undef))].map (Value.int .i64)) v_ p_ | _ => True) [[], [0], [], [], [], [3, 4], [2, 5], [5, 6]] [none, none, none, none, none, some 11, none, none] [curE g a len cap] [0, 1, 2, 3, 4, 5, 6, 7] 11 (List.take_append_drop 8 _).symm (by kernel_rfl) (by kernel_rfl) (by kernel_rfl) rfl rfl ?_ ?_
  ·
   refine ⟨?_, ?_, ?_, ?_, ?_, ?_, ?_, ?_, trivial⟩
   ·
    intro vf pf hmu hR
    refine dqQ [] [] rfl (zcd (zau [9] rfl) ?_)
    exact zbz (fdQ 2 rfl rfl rfl)
   ·
    intro vf pf hmu hR
    have e0 := hR 0 (by decide)
    refine dqQ [0] [0] rfl (zby (sk 54 (congrArg some e0.1) (zak _)) (List.sublist_append_right _ _) ?_)
    exact zbz (zan rfl rfl rfl (zah 4 rfl rfl))
   ·
    intro vf pf hmu hR
    refine dqQ [] [] rfl (zcd (zau [15] rfl) ?_)
    exact zbz (zae rfl)
   ·
    intro vf pf hmu hR
    refine dqQ [] [] rfl (zcd (zau [0] rfl) ?_)
    exact zbz (zae rfl)
   ·
    intro vf pf hmu hR
    refine dqQ [] [] rfl (zcd (zau [14] rfl) ?_)
    exact zbz (zae rfl)
   ·
    intro vf pf hmu hR
    have e3 := hR 3 (by decide)
    have e4 := hR 4 (by decide)
    refine Or.inl ⟨rfl, ?_⟩
    show RunM _ _ _ (pf 11) (([3, 4] : List Nat).flatMap pf ++ _) (envOf _ vf [3, 4] ++ _) _ _
    rw [hmu]
    exact zdn (sk 57 (congrArg some e3.1) (sk 58 (congrArg some e4.1) (zak _))) (by simp only [e3.2, e4.2, fS] <;> rfl) (zdm (R := (fun u_ p_ => (∃ x_ : Int, u_ = .int .i64 x_ ∧ 0 ≤ x_ ∧ x_ < 2 * (((1 + (1 + xhR4)) + xhR8) + (i : Int))) ∧ p_ = curE g a len cap)) rfl rfl (fun L w hX hm => zcn g a len cap z (2 * (((1 + (1 + xhR4)) + xhR8) + (i : Int))) _ _ _ hm hb (by constructor <;> omega)))
   ·
    intro vf pf hmu hR
    have e2 := hR 2 (by decide)
    have e5 : (∃ pm_, (pf 5) = [pm_] ∧ (fun u_ p_ => (∃ x_ : Int, u_ = .int .i64 x_ ∧ 0 ≤ x_ ∧ x_ < 2 * (((1 + (1 + xhR4)) + xhR8) + (i : Int))) ∧ p_ = curE g a len cap) (vf 5) pm_) := hR 5 (by decide)
    obtain ⟨p18, pE5, hR19⟩ := e5
    obtain ⟨v17, vE5⟩ : ∃ x, vf 5 = x := ⟨_, rfl⟩
    rw [vE5] at hR19
    obtain ⟨⟨xhR19, rfl, xhR190, xhR191⟩, rfl⟩ := hR19
    refine dqQ [2, 5] [2, 5] rfl (zcm (sk 56 (congrArg some e2.1) (sk 59 (congrArg some vE5) (zak _))) (by simp only [pE5, vE5, e2.2, fS] <;> rfl) ?_)
    exact zdd (zbz (zcp (cs := #[.int .i64 (((2 * (((1 + (1 + xhR4)) + xhR8) + (i : Int))) - 1) - xhR16), .int .i64 xhR19]) rfl rfl rfl)) (fun _ _ h => ⟨h.1.trans (by show _ = (.agg #[.int .i64 (((2 * (((1 + (1 + xhR4)) + xhR8) + (i : Int))) - 1) - xhR16), .int .i64 (intOf_o (vf 5))] : Value); first | (rw [vE5]; done) | (rw [vE5]; rfl)), h.2⟩)
   intro vf pf hmu hR
   have e5 : (∃ pm_, (pf 5) = [pm_] ∧ (fun u_ p_ => (∃ x_ : Int, u_ = .int .i64 x_ ∧ 0 ≤ x_ ∧ x_ < 2 * (((1 + (1 + xhR4)) + xhR8) + (i : Int))) ∧ p_ = curE g a len cap) (vf 5) pm_) := hR 5 (by decide)
   obtain ⟨p18, pE5, hR19⟩ := e5
   obtain ⟨v17, vE5⟩ : ∃ x, vf 5 = x := ⟨_, rfl⟩
   rw [vE5] at hR19
   obtain ⟨⟨xhR19, rfl, xhR190, xhR191⟩, rfl⟩ := hR19
   have e6 : (vf 6) = .agg #[.int .i64 (((2 * (((1 + (1 + xhR4)) + xhR8) + (i : Int))) - 1) - xhR16), .int .i64 (intOf_o (vf 5))] ∧ (pf 6) = [] := hR 6 (by decide)
   rw [vE5] at e6
   refine dqQ [5, 6] [5, 6] rfl (zcm (sk 60 (congrArg some e6.1) (zak _)) (by simp only [pE5, vE5, e6.2, fS] <;> rfl) ?_)
   exact zdd (zaw (z := .agg #[.int .i64 0, .int .i64 0]) (s := 2) (cs := ([((2 * (((1 + (1 + xhR4)) + xhR8) + (i : Int))) - 1) - xhR16, xhR19].map (Value.int .i64))) rfl Try.underlying25 rfl (by decide) rfl (by kernel_rfl) rfl) (fun v_ p_ h => by show IsRow 47 2 1 ([((2 * (((1 + (1 + xhR4)) + xhR8) + (i : Int))) - 1) - xhR16, (intOf_o (vf 5))].map (Value.int .i64)) v_ p_; rw [vE5]; exact h)
  intro vf pf hmu hR
  have e1 := hR 1 (by decide)
  have e5 : (∃ pm_, (pf 5) = [pm_] ∧ (fun u_ p_ => (∃ x_ : Int, u_ = .int .i64 x_ ∧ 0 ≤ x_ ∧ x_ < 2 * (((1 + (1 + xhR4)) + xhR8) + (i : Int))) ∧ p_ = curE g a len cap) (vf 5) pm_) := hR 5 (by decide)
  obtain ⟨p18, pE5, hR19⟩ := e5
  obtain ⟨v17, vE5⟩ : ∃ x, vf 5 = x := ⟨_, rfl⟩
  rw [vE5] at hR19
  obtain ⟨⟨xhR19, rfl, xhR190, xhR191⟩, rfl⟩ := hR19
  have e7 : IsRow 47 2 1 ([((2 * (((1 + (1 + xhR4)) + xhR8) + (i : Int))) - 1) - xhR16, (intOf_o (vf 5))].map (Value.int .i64)) (vf 7) (pf 7) := hR 7 (by decide)
  rw [vE5] at e7
  obtain ⟨g20, vE7, pE7⟩ := e7
  have q0 := hR 0 (by decide)
  have q1 := hR 1 (by decide)
  have q2 := hR 2 (by decide)
  have q3 := hR 3 (by decide)
  have q4 := hR 4 (by decide)
  have q6 := hR 6 (by decide)
  refine zcx (zbx [39, 15, 14, 13, 12, 11, 10, 9, 8, 3, 2, 1, 0] _ (sk 55 (congrArg some e1.1) (sk 61 (congrArg some vE7) (zak _))) rfl) (by simp only [pE5, vE5, pE7, vE7, q0.2, q1.2, q2.2, q3.2, q4.2, q6.2, fS] <;> rfl) ?_
  simp only [List.drop_succ_cons, List.drop_zero]
  refine zck (i := 4) (z := .agg #[.int .i64 0, .int .i64 0]) (bytes := 16) rfl rfl rfl rfl Try.underlying25 (by kernel_rfl) rfl rfl rfl rfl (zad 1 rfl) (zca _) (by first | omega | (simp only [List.length_append, List.length_cons, List.length_nil]; omega)) (zcc gs [(An.mk (((2 * (((1 + (1 + xhR4)) + xhR8) + (i : Int))) - 1) - xhR16) xhR19)]) (zdt anC gs (An.mk (((2 * (((1 + (1 + xhR4)) + xhR8) + (i : Int))) - 1) - xhR16) xhR19) _ rfl) (fun _ => rfl) ?_
  intro v21
  refine hvQ rfl (fdQ 2 rfl rfl rfl) (hl_one (i := 4) rfl (fun ho22 => ?_))
  refine hl_stB (i := 6) (cs' := #[.int .i64 (1 + xhR4), .slice none 0 0, v21, .slice none 0 0]) rfl rfl rfl rfl rfl rfl ho22 rfl rfl rfl rfl (zay (zdk (reQ 1 rfl (hvQ rfl (vaQ rfl rfl rfl) (enQ 1 rfl ?_)))))
  refine zcg 8 [0, 7, 6, 5, 4, 3, 2] rfl rfl (by decide) ?_
  exact zbv (i + 1) v21 (gs ++ [(An.mk (((2 * (((1 + (1 + xhR4)) + xhR8) + (i : Int))) - 1) - xhR16) xhR19)]) ⟨by omega, by simp; omega, ans_app hgo (by unfold LtOk; omega) (by unfold LtOk; omega)⟩ (by omega) (saQ rfl) (.refl _)
 refine ntQ (zao rfl ?_)
 refine zbi (zep ?_)
 refine zal (zaj (zaa (reQ 2 rfl (hvQ rfl (vaQ rfl rfl rfl) (hvQ rfl (zer rfl rfl rfl (by constructor <;> omega)) (zbb 1 rfl (zaa (zaa (reQ 1 rfl ?_)))))))))
 refine ntQ (zba ?_)
 refine lkQ3 (α := Nat) (β := Value) (γ := List Sq) [0, 1, 2, 3, 8, 9, 10, 11, 12, 16, 39] rfl (fun i uq ss => (bigE (ss.map sqPart) :: rowE 59 3 uq ss.length (ss.flatMap sqC) :: rowE 47 2 u gs.length (gs.flatMap anC) :: rowE 3 1 (.slice none 0 0) 0 ([]) :: boxE b5 #[.int .i64 (1 + xhR4), uq, u, .slice none 0 0] 28 :: boxE b1 #[.int .i64 0, .slice none 0 0, .slice none 0 0, .slice none 0 0] 28 :: curE g a len cap :: l)) (fun i uq ss => [(17, .int .i64 (i : Int))]) (fun i uq ss => (i : Int) ≤ xhR8 ∧ ss.length = i ∧ SqsOk (((1 + (1 + xhR4)) + xhR8) + xhR11) ss) (fun i uq ss => (xhR8).toNat - i) 0 _ [] ⟨by omega, rfl, fun k hk => absurd hk (by simp)⟩ (saQ rfl) (.refl _) ?_
 intro i uq ss hi23
 obtain ⟨hi2, hsl, hso⟩ := hi23
 refine zaa (zaa (reQ 2 rfl ?_))
 refine zbr rfl rfl rfl rfl rfl rfl (fun h24 => ?_) (fun h24 => ?_)
 ·
  refine ntQ (zaq rfl (zcw (sbQ (zaa (reQ 1 rfl ?_)))))
  refine zda (R := (fun u_ p_ => (∃ b : Bool, u_ = .bool b) ∧ p_ = curE g a len cap)) 6 rfl rfl rfl rfl rfl (fun l' w hm => once_mut hm hb (6) (by omega) (by omega)) ?_
  intro v25 p26 hR27
  obtain ⟨⟨xhR27, rfl⟩, rfl⟩ := hR27
  refine zdo (l' := (bigE (ss.map sqPart) :: rowE 59 3 uq ss.length (ss.flatMap sqC) :: rowE 47 2 u gs.length (gs.flatMap anC) :: rowE 3 1 (.slice none 0 0) 0 ([]) :: boxE b5 #[.int .i64 (1 + xhR4), uq, u, .slice none 0 0] 28 :: boxE b1 #[.int .i64 0, .slice none 0 0, .slice none 0 0, .slice none 0 0] 28 :: curE g a len cap :: l)) rfl ?_
  refine zbc (fun h28 => ?_) (fun h28 => ?_)
  ·
   refine ntQ (zaq rfl ?_)
   refine zfp 7 [5, 4, 3, 2, 1, 0, 6] rfl rfl (by decide) ?_
   refine zfo (l := (bigE (ss.map sqPart) :: rowE 59 3 uq ss.length (ss.flatMap sqC) :: rowE 47 2 u gs.length (gs.flatMap anC) :: rowE 3 1 (.slice none 0 0) 0 ([]) :: boxE b5 #[.int .i64 (1 + xhR4), uq, u, .slice none 0 0] 28 :: boxE b1 #[.int .i64 0, .slice none 0 0, .slice none 0 0, .slice none 0 0] 28 :: l)) rfl 19 [0, 1, 2, 3, 4, 5, 6, 7, 8, 9, 10, 11, 12, 13, 14, 15, 16, 17, 18] (List.take 19 _) (List.drop 19 _) [[], [0], [], [2], [], [], [3, 4, 5], [], [], [6, 7, 8], [], [], [9, 10, 11], [], [], [12, 13, 14], [6, 9, 12, 15], [3, 6, 9, 12, 15, 16], [3, 6, 9, 12, 15, 16, 17]] [75, 76, 77, 78, 79, 80, 81, 82, 83, 84, 85, 86, 87, 88, 89, 90, 91, 92, 93] (fun i_ vs_ v_ p_ => match i_ with | 0 => v_ = .pointer (some ⟨b5, 0 + 1, none⟩) ∧ p_ = [] | 1 => v_ = uq ∧ p_ = [] | 2 => v_ = .pointer (some ⟨g, 0, none⟩) ∧ p_ = [] | 3 => (∃ pm_, p_ = [pm_] ∧ (fun u_ p_ => (∃ x_ : Int, u_ = .int .i64 x_ ∧ 0 ≤ x_ ∧ x_ < 32) ∧ p_ = curE g a len cap) v_ pm_) | 4 => v_ = .pointer (some ⟨g, 0, none⟩) ∧ p_ = [] | 5 => v_ = .int .i64 (2 * (((1 + (1 + xhR4)) + xhR8) + xhR11)) ∧ p_ = [] | 6 => (∃ pm_, p_ = [pm_] ∧ (fun u_ p_ => (∃ x_ : Int, u_ = .int .i64 x_ ∧ 0 ≤ x_ ∧ x_ < 2 * (((1 + (1 + xhR4)) + xhR8) + xhR11)) ∧ p_ = curE g a len cap) v_ pm_) | 7 => v_ = .pointer (some ⟨g, 0, none⟩) ∧ p_ = [] | 8 => v_ = .int .i64 (2 * (((1 + (1 + xhR4)) + xhR8) + xhR11)) ∧ p_ = [] | 9 => (∃ pm_, p_ = [pm_] ∧ (fun u_ p_ => (∃ x_ : Int, u_ = .int .i64 x_ ∧ 0 ≤ x_ ∧ x_ < 2 * (((1 + (1 + xhR4)) + xhR8) + xhR11)) ∧ p_ = curE g a len cap) v_ pm_) | 10 => v_ = .pointer (some ⟨g, 0, none⟩) ∧ p_ = [] | 11 => v_ = .int .i64 (2 * (((1 + (1 + xhR4)) + xhR8) + xhR11)) ∧ p_ = [] | 12 => (∃ pm_, p_ = [pm_] ∧ (fun u_ p_ => (∃ x_ : Int, u_ = .int .i64 x_ ∧ 0 ≤ x_ ∧ x_ < 2 * (((1 + (1 + xhR4)) + xhR8) + xhR11)) ∧ p_ = curE g a len cap) v_ pm_) | 13 => v_ = .pointer (some ⟨g, 0, none⟩) ∧ p_ = [] | 14 => v_ = .int .i64 (2 * (((1 + (1 + xhR4)) + xhR8) + xhR11)) ∧ p_ = [] | 15 => (∃ pm_, p_ = [pm_] ∧ (fun u_ p_ => (∃ x_ : Int, u_ = .int .i64 x_ ∧ 0 ≤ x_ ∧ x_ < 2 * (((1 + (1 + xhR4)) + xhR8) + xhR11)) ∧ p_ = curE g a len cap) v_ pm_) | 16 => IsRow 3 1 4 ([(intOf_o (List.getD vs_ 0 undef)), (intOf_o (List.getD vs_ 1 undef)), (intOf_o (List.getD vs_ 2 undef)), (intOf_o (List.getD vs_ 3 undef))].map (Value.int .i64)) v_ p_ | 17 => v_ = .agg #[.int .i64 1, .int .i64 (intOf_o (List.getD vs_ 0 undef)), (List.getD vs_ 5 undef)] ∧ p_ = [] | 18 => IsRow 59 3 1 ([.int .i64 1, .int .i64 (intOf_o (List.getD vs_ 0 undef)), (List.getD vs_ 5 undef)]) v_ p_ | _ => True) [[], [0], [], [2], [], [], [4, 5], [], [], [7, 8], [], [], [10, 11], [], [], [13, 14], [15], [15, 16], [15, 16, 17]] [none, none, none, some 22, none, none, some 3, none, none, some 6, none, none, some 9, none, none, some 12, none, none, none] [curE g a len cap] [0, 1, 2, 4, 5, 7, 8, 10, 11, 13, 14, 15, 16, 17, 18] 22 (List.take_append_drop 19 _).symm (by kernel_rfl) (by kernel_rfl) (by kernel_rfl) rfl rfl ?_ ?_
   ·
    refine ⟨?_, ?_, ?_, ?_, ?_, ?_, ?_, ?_, ?_, ?_, ?_, ?_, ?_, ?_, ?_, ?_, ?_, ?_, ?_, trivial⟩
    ·
     intro vf pf hmu hR
     refine dqQ [] [] rfl (zcd (zau [9] rfl) ?_)
     exact zbz (fdQ 1 rfl rfl rfl)
    ·
     intro vf pf hmu hR
     have e0 := hR 0 (by decide)
     refine dqQ [0] [0] rfl (zby (sk 75 (congrArg some e0.1) (zak _)) (List.sublist_append_right _ _) ?_)
     exact zbz (zan rfl rfl rfl (zah 4 rfl rfl))
    ·
     intro vf pf hmu hR
     refine dqQ [] [] rfl (zcd (zau [0] rfl) ?_)
     exact zbz (zae rfl)
    ·
     intro vf pf hmu hR
     have e2 := hR 2 (by decide)
     refine Or.inl ⟨rfl, ?_⟩
     show RunM _ _ _ (pf 22) (([2] : List Nat).flatMap pf ++ _) (envOf _ vf [2] ++ _) _ _
     rw [hmu]
     exact zdn (sk 77 (congrArg some e2.1) (zak _)) (by simp only [e2.2, fS] <;> rfl) (zdm (R := (fun u_ p_ => (∃ x_ : Int, u_ = .int .i64 x_ ∧ 0 ≤ x_ ∧ x_ < 32) ∧ p_ = curE g a len cap)) rfl rfl (fun L w hX hm => zcn g a len cap z 32 _ _ _ hm hb (by constructor <;> omega)))
    ·
     intro vf pf hmu hR
     refine dqQ [] [] rfl (zcd (zau [0] rfl) ?_)
     exact zbz (zae rfl)
    ·
     intro vf pf hmu hR
     refine dqQ [] [] rfl (zcd (zau [16] rfl) ?_)
     exact zbz (zae rfl)
    ·
     intro vf pf hmu hR
     have e3 : (∃ pm_, (pf 3) = [pm_] ∧ (fun u_ p_ => (∃ x_ : Int, u_ = .int .i64 x_ ∧ 0 ≤ x_ ∧ x_ < 32) ∧ p_ = curE g a len cap) (vf 3) pm_) := hR 3 (by decide)
     obtain ⟨p30, pE3, hR31⟩ := e3
     obtain ⟨v29, vE3⟩ : ∃ x, vf 3 = x := ⟨_, rfl⟩
     rw [vE3] at hR31
     obtain ⟨⟨xhR31, rfl, xhR310, xhR311⟩, rfl⟩ := hR31
     have e4 := hR 4 (by decide)
     have e5 := hR 5 (by decide)
     refine Or.inl ⟨rfl, ?_⟩
     show RunM _ _ _ (pf 3) (([4, 5] : List Nat).flatMap pf ++ _) (envOf _ vf [3, 4, 5] ++ _) _ _
     rw [pE3]
     exact zdn (sk 79 (congrArg some e4.1) (sk 80 (congrArg some e5.1) (zak _))) (by simp only [e4.2, e5.2, fS] <;> rfl) (zdm (R := (fun u_ p_ => (∃ x_ : Int, u_ = .int .i64 x_ ∧ 0 ≤ x_ ∧ x_ < 2 * (((1 + (1 + xhR4)) + xhR8) + xhR11)) ∧ p_ = curE g a len cap)) rfl rfl (fun L w hX hm => zcn g a len cap z (2 * (((1 + (1 + xhR4)) + xhR8) + xhR11)) _ _ _ hm hb (by constructor <;> omega)))
    ·
     intro vf pf hmu hR
     refine dqQ [] [] rfl (zcd (zau [0] rfl) ?_)
     exact zbz (zae rfl)
    ·
     intro vf pf hmu hR
     refine dqQ [] [] rfl (zcd (zau [16] rfl) ?_)
     exact zbz (zae rfl)
    ·
     intro vf pf hmu hR
     have e6 : (∃ pm_, (pf 6) = [pm_] ∧ (fun u_ p_ => (∃ x_ : Int, u_ = .int .i64 x_ ∧ 0 ≤ x_ ∧ x_ < 2 * (((1 + (1 + xhR4)) + xhR8) + xhR11)) ∧ p_ = curE g a len cap) (vf 6) pm_) := hR 6 (by decide)
     obtain ⟨p33, pE6, hR34⟩ := e6
     obtain ⟨v32, vE6⟩ : ∃ x, vf 6 = x := ⟨_, rfl⟩
     rw [vE6] at hR34
     obtain ⟨⟨xhR34, rfl, xhR340, xhR341⟩, rfl⟩ := hR34
     have e7 := hR 7 (by decide)
     have e8 := hR 8 (by decide)
     refine Or.inl ⟨rfl, ?_⟩
     show RunM _ _ _ (pf 6) (([7, 8] : List Nat).flatMap pf ++ _) (envOf _ vf [6, 7, 8] ++ _) _ _
     rw [pE6]
     exact zdn (sk 82 (congrArg some e7.1) (sk 83 (congrArg some e8.1) (zak _))) (by simp only [e7.2, e8.2, fS] <;> rfl) (zdm (R := (fun u_ p_ => (∃ x_ : Int, u_ = .int .i64 x_ ∧ 0 ≤ x_ ∧ x_ < 2 * (((1 + (1 + xhR4)) + xhR8) + xhR11)) ∧ p_ = curE g a len cap)) rfl rfl (fun L w hX hm => zcn g a len cap z (2 * (((1 + (1 + xhR4)) + xhR8) + xhR11)) _ _ _ hm hb (by constructor <;> omega)))
    ·
     intro vf pf hmu hR
     refine dqQ [] [] rfl (zcd (zau [0] rfl) ?_)
     exact zbz (zae rfl)
    ·
     intro vf pf hmu hR
     refine dqQ [] [] rfl (zcd (zau [16] rfl) ?_)
     exact zbz (zae rfl)
    ·
     intro vf pf hmu hR
     have e9 : (∃ pm_, (pf 9) = [pm_] ∧ (fun u_ p_ => (∃ x_ : Int, u_ = .int .i64 x_ ∧ 0 ≤ x_ ∧ x_ < 2 * (((1 + (1 + xhR4)) + xhR8) + xhR11)) ∧ p_ = curE g a len cap) (vf 9) pm_) := hR 9 (by decide)
     obtain ⟨p36, pE9, hR37⟩ := e9
     obtain ⟨v35, vE9⟩ : ∃ x, vf 9 = x := ⟨_, rfl⟩
     rw [vE9] at hR37
     obtain ⟨⟨xhR37, rfl, xhR370, xhR371⟩, rfl⟩ := hR37
     have e10 := hR 10 (by decide)
     have e11 := hR 11 (by decide)
     refine Or.inl ⟨rfl, ?_⟩
     show RunM _ _ _ (pf 9) (([10, 11] : List Nat).flatMap pf ++ _) (envOf _ vf [9, 10, 11] ++ _) _ _
     rw [pE9]
     exact zdn (sk 85 (congrArg some e10.1) (sk 86 (congrArg some e11.1) (zak _))) (by simp only [e10.2, e11.2, fS] <;> rfl) (zdm (R := (fun u_ p_ => (∃ x_ : Int, u_ = .int .i64 x_ ∧ 0 ≤ x_ ∧ x_ < 2 * (((1 + (1 + xhR4)) + xhR8) + xhR11)) ∧ p_ = curE g a len cap)) rfl rfl (fun L w hX hm => zcn g a len cap z (2 * (((1 + (1 + xhR4)) + xhR8) + xhR11)) _ _ _ hm hb (by constructor <;> omega)))
    ·
     intro vf pf hmu hR
     refine dqQ [] [] rfl (zcd (zau [0] rfl) ?_)
     exact zbz (zae rfl)
    ·
     intro vf pf hmu hR
     refine dqQ [] [] rfl (zcd (zau [16] rfl) ?_)
     exact zbz (zae rfl)
    ·
     intro vf pf hmu hR
     have e12 : (∃ pm_, (pf 12) = [pm_] ∧ (fun u_ p_ => (∃ x_ : Int, u_ = .int .i64 x_ ∧ 0 ≤ x_ ∧ x_ < 2 * (((1 + (1 + xhR4)) + xhR8) + xhR11)) ∧ p_ = curE g a len cap) (vf 12) pm_) := hR 12 (by decide)
     obtain ⟨p39, pE12, hR40⟩ := e12
     obtain ⟨v38, vE12⟩ : ∃ x, vf 12 = x := ⟨_, rfl⟩
     rw [vE12] at hR40
     obtain ⟨⟨xhR40, rfl, xhR400, xhR401⟩, rfl⟩ := hR40
     have e13 := hR 13 (by decide)
     have e14 := hR 14 (by decide)
     refine Or.inl ⟨rfl, ?_⟩
     show RunM _ _ _ (pf 12) (([13, 14] : List Nat).flatMap pf ++ _) (envOf _ vf [12, 13, 14] ++ _) _ _
     rw [pE12]
     exact zdn (sk 88 (congrArg some e13.1) (sk 89 (congrArg some e14.1) (zak _))) (by simp only [e13.2, e14.2, fS] <;> rfl) (zdm (R := (fun u_ p_ => (∃ x_ : Int, u_ = .int .i64 x_ ∧ 0 ≤ x_ ∧ x_ < 2 * (((1 + (1 + xhR4)) + xhR8) + xhR11)) ∧ p_ = curE g a len cap)) rfl rfl (fun L w hX hm => zcn g a len cap z (2 * (((1 + (1 + xhR4)) + xhR8) + xhR11)) _ _ _ hm hb (by constructor <;> omega)))
    ·
     intro vf pf hmu hR
     have e6 : (∃ pm_, (pf 6) = [pm_] ∧ (fun u_ p_ => (∃ x_ : Int, u_ = .int .i64 x_ ∧ 0 ≤ x_ ∧ x_ < 2 * (((1 + (1 + xhR4)) + xhR8) + xhR11)) ∧ p_ = curE g a len cap) (vf 6) pm_) := hR 6 (by decide)
     obtain ⟨p33, pE6, hR34⟩ := e6
     obtain ⟨v32, vE6⟩ : ∃ x, vf 6 = x := ⟨_, rfl⟩
     rw [vE6] at hR34
     obtain ⟨⟨xhR34, rfl, xhR340, xhR341⟩, rfl⟩ := hR34
     have e9 : (∃ pm_, (pf 9) = [pm_] ∧ (fun u_ p_ => (∃ x_ : Int, u_ = .int .i64 x_ ∧ 0 ≤ x_ ∧ x_ < 2 * (((1 + (1 + xhR4)) + xhR8) + xhR11)) ∧ p_ = curE g a len cap) (vf 9) pm_) := hR 9 (by decide)
     obtain ⟨p36, pE9, hR37⟩ := e9
     obtain ⟨v35, vE9⟩ : ∃ x, vf 9 = x := ⟨_, rfl⟩
     rw [vE9] at hR37
     obtain ⟨⟨xhR37, rfl, xhR370, xhR371⟩, rfl⟩ := hR37
     have e12 : (∃ pm_, (pf 12) = [pm_] ∧ (fun u_ p_ => (∃ x_ : Int, u_ = .int .i64 x_ ∧ 0 ≤ x_ ∧ x_ < 2 * (((1 + (1 + xhR4)) + xhR8) + xhR11)) ∧ p_ = curE g a len cap) (vf 12) pm_) := hR 12 (by decide)
     obtain ⟨p39, pE12, hR40⟩ := e12
     obtain ⟨v38, vE12⟩ : ∃ x, vf 12 = x := ⟨_, rfl⟩
     rw [vE12] at hR40
     obtain ⟨⟨xhR40, rfl, xhR400, xhR401⟩, rfl⟩ := hR40
     have e15 : (∃ pm_, (pf 15) = [pm_] ∧ (fun u_ p_ => (∃ x_ : Int, u_ = .int .i64 x_ ∧ 0 ≤ x_ ∧ x_ < 2 * (((1 + (1 + xhR4)) + xhR8) + xhR11)) ∧ p_ = curE g a len cap) (vf 15) pm_) := hR 15 (by decide)
     obtain ⟨p42, pE15, hR43⟩ := e15
     obtain ⟨v41, vE15⟩ : ∃ x, vf 15 = x := ⟨_, rfl⟩
     rw [vE15] at hR43
     obtain ⟨⟨xhR43, rfl, xhR430, xhR431⟩, rfl⟩ := hR43
     refine dqQ [15] [6, 9, 12, 15] rfl (zcm (sk 81 (congrArg some vE6) (sk 84 (congrArg some vE9) (sk 87 (congrArg some vE12) (sk 90 (congrArg some vE15) (zak _))))) (by simp only [pE15, vE15, fS] <;> rfl) ?_)
     exact zdd (zaw (z := .int .i64 0) (s := 1) (cs := ([xhR34, xhR37, xhR40, xhR43].map (Value.int .i64))) rfl Try.underlying26 rfl (by decide) rfl (by kernel_rfl) rfl) (fun v_ p_ h => by show IsRow 3 1 4 ([(intOf_o (vf 6)), (intOf_o (vf 9)), (intOf_o (vf 12)), (intOf_o (vf 15))].map (Value.int .i64)) v_ p_; rw [vE6, vE9, vE12, vE15]; exact h)
    ·
     intro vf pf hmu hR
     have e3 : (∃ pm_, (pf 3) = [pm_] ∧ (fun u_ p_ => (∃ x_ : Int, u_ = .int .i64 x_ ∧ 0 ≤ x_ ∧ x_ < 32) ∧ p_ = curE g a len cap) (vf 3) pm_) := hR 3 (by decide)
     obtain ⟨p30, pE3, hR31⟩ := e3
     obtain ⟨v29, vE3⟩ : ∃ x, vf 3 = x := ⟨_, rfl⟩
     rw [vE3] at hR31
     obtain ⟨⟨xhR31, rfl, xhR310, xhR311⟩, rfl⟩ := hR31
     have e6 : (∃ pm_, (pf 6) = [pm_] ∧ (fun u_ p_ => (∃ x_ : Int, u_ = .int .i64 x_ ∧ 0 ≤ x_ ∧ x_ < 2 * (((1 + (1 + xhR4)) + xhR8) + xhR11)) ∧ p_ = curE g a len cap) (vf 6) pm_) := hR 6 (by decide)
     obtain ⟨p33, pE6, hR34⟩ := e6
     obtain ⟨v32, vE6⟩ : ∃ x, vf 6 = x := ⟨_, rfl⟩
     rw [vE6] at hR34
     obtain ⟨⟨xhR34, rfl, xhR340, xhR341⟩, rfl⟩ := hR34
     have e9 : (∃ pm_, (pf 9) = [pm_] ∧ (fun u_ p_ => (∃ x_ : Int, u_ = .int .i64 x_ ∧ 0 ≤ x_ ∧ x_ < 2 * (((1 + (1 + xhR4)) + xhR8) + xhR11)) ∧ p_ = curE g a len cap) (vf 9) pm_) := hR 9 (by decide)
     obtain ⟨p36, pE9, hR37⟩ := e9
     obtain ⟨v35, vE9⟩ : ∃ x, vf 9 = x := ⟨_, rfl⟩
     rw [vE9] at hR37
     obtain ⟨⟨xhR37, rfl, xhR370, xhR371⟩, rfl⟩ := hR37
     have e12 : (∃ pm_, (pf 12) = [pm_] ∧ (fun u_ p_ => (∃ x_ : Int, u_ = .int .i64 x_ ∧ 0 ≤ x_ ∧ x_ < 2 * (((1 + (1 + xhR4)) + xhR8) + xhR11)) ∧ p_ = curE g a len cap) (vf 12) pm_) := hR 12 (by decide)
     obtain ⟨p39, pE12, hR40⟩ := e12
     obtain ⟨v38, vE12⟩ : ∃ x, vf 12 = x := ⟨_, rfl⟩
     rw [vE12] at hR40
     obtain ⟨⟨xhR40, rfl, xhR400, xhR401⟩, rfl⟩ := hR40
     have e15 : (∃ pm_, (pf 15) = [pm_] ∧ (fun u_ p_ => (∃ x_ : Int, u_ = .int .i64 x_ ∧ 0 ≤ x_ ∧ x_ < 2 * (((1 + (1 + xhR4)) + xhR8) + xhR11)) ∧ p_ = curE g a len cap) (vf 15) pm_) := hR 15 (by decide)
     obtain ⟨p42, pE15, hR43⟩ := e15
     obtain ⟨v41, vE15⟩ : ∃ x, vf 15 = x := ⟨_, rfl⟩
     rw [vE15] at hR43
     obtain ⟨⟨xhR43, rfl, xhR430, xhR431⟩, rfl⟩ := hR43
     have e16 : IsRow 3 1 4 ([(intOf_o (vf 6)), (intOf_o (vf 9)), (intOf_o (vf 12)), (intOf_o (vf 15))].map (Value.int .i64)) (vf 16) (pf 16) := hR 16 (by decide)
     rw [vE6, vE9, vE12, vE15] at e16
     obtain ⟨g44, vE16, pE16⟩ := e16
     refine dqQ [15, 16] [3, 6, 9, 12, 15, 16] rfl (zcm (sk 78 (congrArg some vE3) (sk 91 (congrArg some vE16) (zak _))) (by simp only [pE15, vE15, pE16, vE16, fS] <;> rfl) ?_)
     exact zdd (zbz (zcp (cs := #[.int .i64 1, .int .i64 xhR31, .slice (some ⟨g44, 0, none⟩) 4 4]) rfl rfl rfl)) (fun _ _ h => ⟨h.1.trans (by show _ = (.agg #[.int .i64 1, .int .i64 (intOf_o (vf 3)), (vf 16)] : Value); first | (rw [vE3, vE16]; done) | (rw [vE3, vE16]; rfl)), h.2⟩)
    intro vf pf hmu hR
    have e3 : (∃ pm_, (pf 3) = [pm_] ∧ (fun u_ p_ => (∃ x_ : Int, u_ = .int .i64 x_ ∧ 0 ≤ x_ ∧ x_ < 32) ∧ p_ = curE g a len cap) (vf 3) pm_) := hR 3 (by decide)
    obtain ⟨p30, pE3, hR31⟩ := e3
    obtain ⟨v29, vE3⟩ : ∃ x, vf 3 = x := ⟨_, rfl⟩
    rw [vE3] at hR31
    obtain ⟨⟨xhR31, rfl, xhR310, xhR311⟩, rfl⟩ := hR31
    have e6 : (∃ pm_, (pf 6) = [pm_] ∧ (fun u_ p_ => (∃ x_ : Int, u_ = .int .i64 x_ ∧ 0 ≤ x_ ∧ x_ < 2 * (((1 + (1 + xhR4)) + xhR8) + xhR11)) ∧ p_ = curE g a len cap) (vf 6) pm_) := hR 6 (by decide)
    obtain ⟨p33, pE6, hR34⟩ := e6
    obtain ⟨v32, vE6⟩ : ∃ x, vf 6 = x := ⟨_, rfl⟩
    rw [vE6] at hR34
    obtain ⟨⟨xhR34, rfl, xhR340, xhR341⟩, rfl⟩ := hR34
    have e9 : (∃ pm_, (pf 9) = [pm_] ∧ (fun u_ p_ => (∃ x_ : Int, u_ = .int .i64 x_ ∧ 0 ≤ x_ ∧ x_ < 2 * (((1 + (1 + xhR4)) + xhR8) + xhR11)) ∧ p_ = curE g a len cap) (vf 9) pm_) := hR 9 (by decide)
    obtain ⟨p36, pE9, hR37⟩ := e9
    obtain ⟨v35, vE9⟩ : ∃ x, vf 9 = x := ⟨_, rfl⟩
    rw [vE9] at hR37
    obtain ⟨⟨xhR37, rfl, xhR370, xhR371⟩, rfl⟩ := hR37
    have e12 : (∃ pm_, (pf 12) = [pm_] ∧ (fun u_ p_ => (∃ x_ : Int, u_ = .int .i64 x_ ∧ 0 ≤ x_ ∧ x_ < 2 * (((1 + (1 + xhR4)) + xhR8) + xhR11)) ∧ p_ = curE g a len cap) (vf 12) pm_) := hR 12 (by decide)
    obtain ⟨p39, pE12, hR40⟩ := e12
    obtain ⟨v38, vE12⟩ : ∃ x, vf 12 = x := ⟨_, rfl⟩
    rw [vE12] at hR40
    obtain ⟨⟨xhR40, rfl, xhR400, xhR401⟩, rfl⟩ := hR40
    have e15 : (∃ pm_, (pf 15) = [pm_] ∧ (fun u_ p_ => (∃ x_ : Int, u_ = .int .i64 x_ ∧ 0 ≤ x_ ∧ x_ < 2 * (((1 + (1 + xhR4)) + xhR8) + xhR11)) ∧ p_ = curE g a len cap) (vf 15) pm_) := hR 15 (by decide)
    obtain ⟨p42, pE15, hR43⟩ := e15
    obtain ⟨v41, vE15⟩ : ∃ x, vf 15 = x := ⟨_, rfl⟩
    rw [vE15] at hR43
    obtain ⟨⟨xhR43, rfl, xhR430, xhR431⟩, rfl⟩ := hR43
    have e16 : IsRow 3 1 4 ([(intOf_o (vf 6)), (intOf_o (vf 9)), (intOf_o (vf 12)), (intOf_o (vf 15))].map (Value.int .i64)) (vf 16) (pf 16) := hR 16 (by decide)
    rw [vE6, vE9, vE12, vE15] at e16
    obtain ⟨g44, vE16, pE16⟩ := e16
    have e17 : (vf 17) = .agg #[.int .i64 1, .int .i64 (intOf_o (vf 3)), (vf 16)] ∧ (pf 17) = [] := hR 17 (by decide)
    rw [vE3, vE16] at e17
    refine dqQ [15, 16, 17] [3, 6, 9, 12, 15, 16, 17] rfl (zcm (sk 92 (congrArg some e17.1) (zak _)) (by simp only [pE15, vE15, pE16, vE16, e17.2, fS] <;> rfl) ?_)
    exact zdd (zaw (z := .agg #[.int .i64 0, .int .i64 0, .slice none 0 0]) (s := 3) (cs := [.int .i64 1, .int .i64 xhR31, .slice (some ⟨g44, 0, none⟩) 4 4]) rfl Try.underlying24 rfl (by decide) rfl (by kernel_rfl) rfl) (fun v_ p_ h => by show IsRow 59 3 1 ([.int .i64 1, .int .i64 (intOf_o (vf 3)), (vf 16)]) v_ p_; rw [vE3, vE16]; exact h)
   intro vf pf hmu hR
   have e1 := hR 1 (by decide)
   have e3 : (∃ pm_, (pf 3) = [pm_] ∧ (fun u_ p_ => (∃ x_ : Int, u_ = .int .i64 x_ ∧ 0 ≤ x_ ∧ x_ < 32) ∧ p_ = curE g a len cap) (vf 3) pm_) := hR 3 (by decide)
   obtain ⟨p30, pE3, hR31⟩ := e3
   obtain ⟨v29, vE3⟩ : ∃ x, vf 3 = x := ⟨_, rfl⟩
   rw [vE3] at hR31
   obtain ⟨⟨xhR31, rfl, xhR310, xhR311⟩, rfl⟩ := hR31
   have e6 : (∃ pm_, (pf 6) = [pm_] ∧ (fun u_ p_ => (∃ x_ : Int, u_ = .int .i64 x_ ∧ 0 ≤ x_ ∧ x_ < 2 * (((1 + (1 + xhR4)) + xhR8) + xhR11)) ∧ p_ = curE g a len cap) (vf 6) pm_) := hR 6 (by decide)
   obtain ⟨p33, pE6, hR34⟩ := e6
   obtain ⟨v32, vE6⟩ : ∃ x, vf 6 = x := ⟨_, rfl⟩
   rw [vE6] at hR34
   obtain ⟨⟨xhR34, rfl, xhR340, xhR341⟩, rfl⟩ := hR34
   have e9 : (∃ pm_, (pf 9) = [pm_] ∧ (fun u_ p_ => (∃ x_ : Int, u_ = .int .i64 x_ ∧ 0 ≤ x_ ∧ x_ < 2 * (((1 + (1 + xhR4)) + xhR8) + xhR11)) ∧ p_ = curE g a len cap) (vf 9) pm_) := hR 9 (by decide)
   obtain ⟨p36, pE9, hR37⟩ := e9
   obtain ⟨v35, vE9⟩ : ∃ x, vf 9 = x := ⟨_, rfl⟩
   rw [vE9] at hR37
   obtain ⟨⟨xhR37, rfl, xhR370, xhR371⟩, rfl⟩ := hR37
   have e12 : (∃ pm_, (pf 12) = [pm_] ∧ (fun u_ p_ => (∃ x_ : Int, u_ = .int .i64 x_ ∧ 0 ≤ x_ ∧ x_ < 2 * (((1 + (1 + xhR4)) + xhR8) + xhR11)) ∧ p_ = curE g a len cap) (vf 12) pm_) := hR 12 (by decide)
   obtain ⟨p39, pE12, hR40⟩ := e12
   obtain ⟨v38, vE12⟩ : ∃ x, vf 12 = x := ⟨_, rfl⟩
   rw [vE12] at hR40
   obtain ⟨⟨xhR40, rfl, xhR400, xhR401⟩, rfl⟩ := hR40
   have e15 : (∃ pm_, (pf 15) = [pm_] ∧ (fun u_ p_ => (∃ x_ : Int, u_ = .int .i64 x_ ∧ 0 ≤ x_ ∧ x_ < 2 * (((1 + (1 + xhR4)) + xhR8) + xhR11)) ∧ p_ = curE g a len cap) (vf 15) pm_) := hR 15 (by decide)
   obtain ⟨p42, pE15, hR43⟩ := e15
   obtain ⟨v41, vE15⟩ : ∃ x, vf 15 = x := ⟨_, rfl⟩
   rw [vE15] at hR43
   obtain ⟨⟨xhR43, rfl, xhR430, xhR431⟩, rfl⟩ := hR43
   have e16 : IsRow 3 1 4 ([(intOf_o (vf 6)), (intOf_o (vf 9)), (intOf_o (vf 12)), (intOf_o (vf 15))].map (Value.int .i64)) (vf 16) (pf 16) := hR 16 (by decide)
   rw [vE6, vE9, vE12, vE15] at e16
   obtain ⟨g44, vE16, pE16⟩ := e16
   have e18 : IsRow 59 3 1 ([.int .i64 1, .int .i64 (intOf_o (vf 3)), (vf 16)]) (vf 18) (pf 18) := hR 18 (by decide)
   rw [vE3, vE16] at e18
   obtain ⟨g45, vE18, pE18⟩ := e18
   have q0 := hR 0 (by decide)
   have q1 := hR 1 (by decide)
   have q2 := hR 2 (by decide)
   have q4 := hR 4 (by decide)
   have q5 := hR 5 (by decide)
   have q7 := hR 7 (by decide)
   have q8 := hR 8 (by decide)
   have q10 := hR 10 (by decide)
   have q11 := hR 11 (by decide)
   have q13 := hR 13 (by decide)
   have q14 := hR 14 (by decide)
   have q17 := hR 17 (by decide)
   refine zcx (zbx [74, 70, 39, 17, 16, 12, 11, 10, 9, 8, 3, 2, 1, 0] _ (sk 76 (congrArg some e1.1) (sk 93 (congrArg some vE18) (zak _))) rfl) (by simp only [pE15, vE15, pE16, vE16, pE18, vE18, q0.2, q1.2, q2.2, q4.2, q5.2, q7.2, q8.2, q10.2, q11.2, q13.2, q14.2, q17.2, fS] <;> rfl) ?_
   simp only [List.drop_succ_cons, List.drop_zero]
   refine zck (i := 4) (z := .agg #[.int .i64 0, .int .i64 0, .slice none 0 0]) (bytes := 40) rfl rfl rfl rfl Try.underlying24 (by kernel_rfl) rfl rfl rfl rfl (zad 2 rfl) (by simp [Value.oneCell']) (by first | omega | (simp only [List.length_append, List.length_cons, List.length_nil]; omega)) (zcc ss [(Sq.mk 1 xhR31 (.slice (some ⟨g44, 0, none⟩) 4 4) ([xhR34, xhR37, xhR40, xhR43]))]) (zdt sqC ss (Sq.mk 1 xhR31 (.slice (some ⟨g44, 0, none⟩) 4 4) ([xhR34, xhR37, xhR40, xhR43])) _ rfl) (fun _ => rfl) ?_
   intro v46
   refine hvQ rfl (fdQ 1 rfl rfl rfl) (hl_one (i := 4) rfl (fun ho47 => ?_))
   refine hl_stB (i := 7) (cs' := #[.int .i64 (1 + xhR4), v46, u, .slice none 0 0]) rfl rfl rfl rfl rfl rfl ho47 rfl rfl rfl rfl (zay (zdk (reQ 1 rfl (hvQ rfl (vaQ rfl rfl rfl) (enQ 1 rfl ?_)))))
   refine zcg 9 [8, 7, 6, 5, 4, 2, 0, 1, 3] rfl rfl (by decide) ?_
   refine zfi (bigE ((ss ++ [(Sq.mk 1 xhR31 (.slice (some ⟨g44, 0, none⟩) 4 4) ([xhR34, xhR37, xhR40, xhR43]))]).map sqPart) :: curE g a len cap :: rowE 59 3 (.slice (some ⟨g45, 0, none⟩) 1 1) 1 ([.int .i64 1, .int .i64 xhR31, .slice (some ⟨g44, 0, none⟩) 4 4]) :: rowE 59 3 v46 ((ss ++ [(Sq.mk 1 xhR31 (.slice (some ⟨g44, 0, none⟩) 4 4) ([xhR34, xhR37, xhR40, xhR43]))]).length) ((ss ++ [(Sq.mk 1 xhR31 (.slice (some ⟨g44, 0, none⟩) 4 4) ([xhR34, xhR37, xhR40, xhR43]))]).flatMap sqC) :: rowE 47 2 u gs.length (gs.flatMap anC) :: rowE 3 1 (.slice none 0 0) 0 ([]) :: boxE b5 #[.int .i64 (1 + xhR4), v46, u, .slice none 0 0] 28 :: boxE b1 #[.int .i64 0, .slice none 0 0, .slice none 0 0, .slice none 0 0] 28 :: l) (fun w hm => by rw [List.map_append]; exact conv_snocX w hm) ?_
   refine zcg 8 [1, 7, 6, 5, 4, 3, 0] rfl rfl (by decide) ?_
   exact zbv (i + 1) v46 (ss ++ [(Sq.mk 1 xhR31 (.slice (some ⟨g44, 0, none⟩) 4 4) ([xhR34, xhR37, xhR40, xhR43]))]) ⟨by omega, by simp; omega, sqs_app hso ⟨.inr ⟨rfl, by dsimp only; omega, rfl⟩⟩ (fun x hx => by simp only [List.mem_cons, List.not_mem_nil, or_false] at hx; unfold LtOk; omega)⟩ (by omega) (saQ rfl) (.refl _)
  refine ntQ (zao rfl ?_)
  refine zfp 7 [5, 4, 3, 2, 1, 0, 6] rfl rfl (by decide) ?_
  refine zfo (l := (bigE (ss.map sqPart) :: rowE 59 3 uq ss.length (ss.flatMap sqC) :: rowE 47 2 u gs.length (gs.flatMap anC) :: rowE 3 1 (.slice none 0 0) 0 ([]) :: boxE b5 #[.int .i64 (1 + xhR4), uq, u, .slice none 0 0] 28 :: boxE b1 #[.int .i64 0, .slice none 0 0, .slice none 0 0, .slice none 0 0] 28 :: l)) rfl 14 [0, 1, 2, 3, 4, 5, 6, 7, 8, 9, 10, 11, 12, 13] (List.take 14 _) (List.drop 14 _) [[], [0], [], [2], [], [4], [], [], [7], [3, 6, 8], [5, 9], [9, 10], [3, 9, 11], [3, 9, 11, 12]] [96, 97, 98, 99, 100, 101, 102, 103, 104, 105, 106, 107, 108, 109] (fun i_ vs_ v_ p_ => match i_ with | 0 => v_ = .pointer (some ⟨b5, 0 + 1, none⟩) ∧ p_ = [] | 1 => v_ = uq ∧ p_ = [] | 2 => v_ = .pointer (some ⟨g, 0, none⟩) ∧ p_ = [] | 3 => (∃ pm_, p_ = [pm_] ∧ (fun u_ p_ => (∃ x_ : Int, u_ = .int .i64 x_ ∧ 0 ≤ x_ ∧ x_ < 2) ∧ p_ = curE g a len cap) v_ pm_) | 4 => v_ = .int .i64 (2 * (((1 + (1 + xhR4)) + xhR8) + xhR11)) ∧ p_ = [] | 5 => v_ = .int .i64 ((2 * (((1 + (1 + xhR4)) + xhR8) + xhR11)) - 1) ∧ p_ = [] | 6 => v_ = .pointer (some ⟨g, 0, none⟩) ∧ p_ = [] | 7 => v_ = .int .i64 (2 * (((1 + (1 + xhR4)) + xhR8) + xhR11)) ∧ p_ = [] | 8 => v_ = .int .i64 (min (2 * (((1 + (1 + xhR4)) + xhR8) + xhR11)) 12) ∧ p_ = [] | 9 => (∃ pm_, p_ = [pm_] ∧ (fun u_ p_ => (∃ x_ : Int, u_ = .int .i64 x_ ∧ 0 ≤ x_ ∧ x_ < min (2 * (((1 + (1 + xhR4)) + xhR8) + xhR11)) 12) ∧ p_ = curE g a len cap) v_ pm_) | 10 => v_ = .int .i64 (((2 * (((1 + (1 + xhR4)) + xhR8) + xhR11)) - 1) - (intOf_o (List.getD vs_ 1 undef))) ∧ p_ = [] | 11 => IsRow 3 1 1 ([((2 * (((1 + (1 + xhR4)) + xhR8) + xhR11)) - 1) - (intOf_o (List.getD vs_ 0 undef))].map (Value.int .i64)) v_ p_ | 12 => v_ = .agg #[.int .i64 0, .int .i64 (intOf_o (List.getD vs_ 0 undef)), (List.getD vs_ 2 undef)] ∧ p_ = [] | 13 => IsRow 59 3 1 ([.int .i64 0, .int .i64 (intOf_o (List.getD vs_ 0 undef)), (List.getD vs_ 2 undef)]) v_ p_ | _ => True) [[], [0], [], [2], [], [4], [], [], [7], [6, 8], [5, 9], [9, 10], [9, 11], [9, 11, 12]] [none, none, none, some 17, none, none, none, none, none, some 3, none, none, none, none] [curE g a len cap] [0, 1, 2, 4, 5, 6, 7, 8, 9, 10, 11, 12, 13] 17 (List.take_append_drop 14 _).symm (by kernel_rfl) (by kernel_rfl) (by kernel_rfl) rfl rfl ?_ ?_
  ·
   refine ⟨?_, ?_, ?_, ?_, ?_, ?_, ?_, ?_, ?_, ?_, ?_, ?_, ?_, ?_, trivial⟩
   ·
    intro vf pf hmu hR
    refine dqQ [] [] rfl (zcd (zau [9] rfl) ?_)
    exact zbz (fdQ 1 rfl rfl rfl)
   ·
    intro vf pf hmu hR
    have e0 := hR 0 (by decide)
    refine dqQ [0] [0] rfl (zby (sk 96 (congrArg some e0.1) (zak _)) (List.sublist_append_right _ _) ?_)
    exact zbz (zan rfl rfl rfl (zah 4 rfl rfl))
   ·
    intro vf pf hmu hR
    refine dqQ [] [] rfl (zcd (zau [0] rfl) ?_)
    exact zbz (zae rfl)
   ·
    intro vf pf hmu hR
    have e2 := hR 2 (by decide)
    refine Or.inl ⟨rfl, ?_⟩
    show RunM _ _ _ (pf 17) (([2] : List Nat).flatMap pf ++ _) (envOf _ vf [2] ++ _) _ _
    rw [hmu]
    exact zdn (sk 98 (congrArg some e2.1) (zak _)) (by simp only [e2.2, fS] <;> rfl) (zdm (R := (fun u_ p_ => (∃ x_ : Int, u_ = .int .i64 x_ ∧ 0 ≤ x_ ∧ x_ < 2) ∧ p_ = curE g a len cap)) rfl rfl (fun L w hX hm => zcn g a len cap z 2 _ _ _ hm hb (by constructor <;> omega)))
   ·
    intro vf pf hmu hR
    refine dqQ [] [] rfl (zcd (zau [16] rfl) ?_)
    exact zbz (zae rfl)
   ·
    intro vf pf hmu hR
    have e4 := hR 4 (by decide)
    refine dqQ [4] [4] rfl (zcd (sk 100 (congrArg some e4.1) (zak _)) ?_)
    exact zbz (vsQ rfl rfl rfl)
   ·
    intro vf pf hmu hR
    refine dqQ [] [] rfl (zcd (zau [0] rfl) ?_)
    exact zbz (zae rfl)
   ·
    intro vf pf hmu hR
    refine dqQ [] [] rfl (zcd (zau [16] rfl) ?_)
    exact zbz (zae rfl)
   ·
    intro vf pf hmu hR
    have e7 := hR 7 (by decide)
    refine dqQ [7] [7] rfl (zcd (sk 103 (congrArg some e7.1) (zak _)) ?_)
    exact zbz (rv_min rfl rfl rfl)
   ·
    intro vf pf hmu hR
    have e3 : (∃ pm_, (pf 3) = [pm_] ∧ (fun u_ p_ => (∃ x_ : Int, u_ = .int .i64 x_ ∧ 0 ≤ x_ ∧ x_ < 2) ∧ p_ = curE g a len cap) (vf 3) pm_) := hR 3 (by decide)
    obtain ⟨p49, pE3, hR50⟩ := e3
    obtain ⟨v48, vE3⟩ : ∃ x, vf 3 = x := ⟨_, rfl⟩
    rw [vE3] at hR50
    obtain ⟨⟨xhR50, rfl, xhR500, xhR501⟩, rfl⟩ := hR50
    have e6 := hR 6 (by decide)
    have e8 := hR 8 (by decide)
    refine Or.inl ⟨rfl, ?_⟩
    show RunM _ _ _ (pf 3) (([6, 8] : List Nat).flatMap pf ++ _) (envOf _ vf [3, 6, 8] ++ _) _ _
    rw [pE3]
    exact zdn (sk 102 (congrArg some e6.1) (sk 104 (congrArg some e8.1) (zak _))) (by simp only [e6.2, e8.2, fS] <;> rfl) (zdm (R := (fun u_ p_ => (∃ x_ : Int, u_ = .int .i64 x_ ∧ 0 ≤ x_ ∧ x_ < min (2 * (((1 + (1 + xhR4)) + xhR8) + xhR11)) 12) ∧ p_ = curE g a len cap)) rfl rfl (fun L w hX hm => zcn g a len cap z (min (2 * (((1 + (1 + xhR4)) + xhR8) + xhR11)) 12) _ _ _ hm hb (by constructor <;> omega)))
   ·
    intro vf pf hmu hR
    have e5 := hR 5 (by decide)
    have e9 : (∃ pm_, (pf 9) = [pm_] ∧ (fun u_ p_ => (∃ x_ : Int, u_ = .int .i64 x_ ∧ 0 ≤ x_ ∧ x_ < min (2 * (((1 + (1 + xhR4)) + xhR8) + xhR11)) 12) ∧ p_ = curE g a len cap) (vf 9) pm_) := hR 9 (by decide)
    obtain ⟨p52, pE9, hR53⟩ := e9
    obtain ⟨v51, vE9⟩ : ∃ x, vf 9 = x := ⟨_, rfl⟩
    rw [vE9] at hR53
    obtain ⟨⟨xhR53, rfl, xhR530, xhR531⟩, rfl⟩ := hR53
    refine dqQ [5, 9] [5, 9] rfl (zcm (sk 101 (congrArg some e5.1) (sk 105 (congrArg some vE9) (zak _))) (by simp only [pE9, vE9, e5.2, fS] <;> rfl) ?_)
    exact zdd (zbz (vsQ rfl rfl rfl)) (fun _ _ h => ⟨h.1.trans (by show _ = (.int .i64 (((2 * (((1 + (1 + xhR4)) + xhR8) + xhR11)) - 1) - (intOf_o (vf 9))) : Value); first | (rw [vE9]; done) | (rw [vE9]; rfl)), h.2⟩)
   ·
    intro vf pf hmu hR
    have e9 : (∃ pm_, (pf 9) = [pm_] ∧ (fun u_ p_ => (∃ x_ : Int, u_ = .int .i64 x_ ∧ 0 ≤ x_ ∧ x_ < min (2 * (((1 + (1 + xhR4)) + xhR8) + xhR11)) 12) ∧ p_ = curE g a len cap) (vf 9) pm_) := hR 9 (by decide)
    obtain ⟨p52, pE9, hR53⟩ := e9
    obtain ⟨v51, vE9⟩ : ∃ x, vf 9 = x := ⟨_, rfl⟩
    rw [vE9] at hR53
    obtain ⟨⟨xhR53, rfl, xhR530, xhR531⟩, rfl⟩ := hR53
    have e10 : (vf 10) = .int .i64 (((2 * (((1 + (1 + xhR4)) + xhR8) + xhR11)) - 1) - (intOf_o (vf 9))) ∧ (pf 10) = [] := hR 10 (by decide)
    rw [vE9] at e10
    refine dqQ [9, 10] [9, 10] rfl (zcm (sk 106 (congrArg some e10.1) (zak _)) (by simp only [pE9, vE9, e10.2, fS] <;> rfl) ?_)
    exact zdd (zaw (z := .int .i64 0) (s := 1) (cs := ([((2 * (((1 + (1 + xhR4)) + xhR8) + xhR11)) - 1) - xhR53].map (Value.int .i64))) rfl Try.underlying26 rfl (by decide) rfl (by kernel_rfl) rfl) (fun v_ p_ h => by show IsRow 3 1 1 ([((2 * (((1 + (1 + xhR4)) + xhR8) + xhR11)) - 1) - (intOf_o (vf 9))].map (Value.int .i64)) v_ p_; rw [vE9]; exact h)
   ·
    intro vf pf hmu hR
    have e3 : (∃ pm_, (pf 3) = [pm_] ∧ (fun u_ p_ => (∃ x_ : Int, u_ = .int .i64 x_ ∧ 0 ≤ x_ ∧ x_ < 2) ∧ p_ = curE g a len cap) (vf 3) pm_) := hR 3 (by decide)
    obtain ⟨p49, pE3, hR50⟩ := e3
    obtain ⟨v48, vE3⟩ : ∃ x, vf 3 = x := ⟨_, rfl⟩
    rw [vE3] at hR50
    obtain ⟨⟨xhR50, rfl, xhR500, xhR501⟩, rfl⟩ := hR50
    have e9 : (∃ pm_, (pf 9) = [pm_] ∧ (fun u_ p_ => (∃ x_ : Int, u_ = .int .i64 x_ ∧ 0 ≤ x_ ∧ x_ < min (2 * (((1 + (1 + xhR4)) + xhR8) + xhR11)) 12) ∧ p_ = curE g a len cap) (vf 9) pm_) := hR 9 (by decide)
    obtain ⟨p52, pE9, hR53⟩ := e9
    obtain ⟨v51, vE9⟩ : ∃ x, vf 9 = x := ⟨_, rfl⟩
    rw [vE9] at hR53
    obtain ⟨⟨xhR53, rfl, xhR530, xhR531⟩, rfl⟩ := hR53
    have e11 : IsRow 3 1 1 ([((2 * (((1 + (1 + xhR4)) + xhR8) + xhR11)) - 1) - (intOf_o (vf 9))].map (Value.int .i64)) (vf 11) (pf 11) := hR 11 (by decide)
    rw [vE9] at e11
    obtain ⟨g54, vE11, pE11⟩ := e11
    refine dqQ [9, 11] [3, 9, 11] rfl (zcm (sk 99 (congrArg some vE3) (sk 107 (congrArg some vE11) (zak _))) (by simp only [pE9, vE9, pE11, vE11, fS] <;> rfl) ?_)
    exact zdd (zbz (zcp (cs := #[.int .i64 0, .int .i64 xhR50, .slice (some ⟨g54, 0, none⟩) 1 1]) rfl rfl rfl)) (fun _ _ h => ⟨h.1.trans (by show _ = (.agg #[.int .i64 0, .int .i64 (intOf_o (vf 3)), (vf 11)] : Value); first | (rw [vE3, vE11]; done) | (rw [vE3, vE11]; rfl)), h.2⟩)
   intro vf pf hmu hR
   have e3 : (∃ pm_, (pf 3) = [pm_] ∧ (fun u_ p_ => (∃ x_ : Int, u_ = .int .i64 x_ ∧ 0 ≤ x_ ∧ x_ < 2) ∧ p_ = curE g a len cap) (vf 3) pm_) := hR 3 (by decide)
   obtain ⟨p49, pE3, hR50⟩ := e3
   obtain ⟨v48, vE3⟩ : ∃ x, vf 3 = x := ⟨_, rfl⟩
   rw [vE3] at hR50
   obtain ⟨⟨xhR50, rfl, xhR500, xhR501⟩, rfl⟩ := hR50
   have e9 : (∃ pm_, (pf 9) = [pm_] ∧ (fun u_ p_ => (∃ x_ : Int, u_ = .int .i64 x_ ∧ 0 ≤ x_ ∧ x_ < min (2 * (((1 + (1 + xhR4)) + xhR8) + xhR11)) 12) ∧ p_ = curE g a len cap) (vf 9) pm_) := hR 9 (by decide)
   obtain ⟨p52, pE9, hR53⟩ := e9
   obtain ⟨v51, vE9⟩ : ∃ x, vf 9 = x := ⟨_, rfl⟩
   rw [vE9] at hR53
   obtain ⟨⟨xhR53, rfl, xhR530, xhR531⟩, rfl⟩ := hR53
   have e11 : IsRow 3 1 1 ([((2 * (((1 + (1 + xhR4)) + xhR8) + xhR11)) - 1) - (intOf_o (vf 9))].map (Value.int .i64)) (vf 11) (pf 11) := hR 11 (by decide)
   rw [vE9] at e11
   obtain ⟨g54, vE11, pE11⟩ := e11
   have e12 : (vf 12) = .agg #[.int .i64 0, .int .i64 (intOf_o (vf 3)), (vf 11)] ∧ (pf 12) = [] := hR 12 (by decide)
   rw [vE3, vE11] at e12
   refine dqQ [9, 11, 12] [3, 9, 11, 12] rfl (zcm (sk 108 (congrArg some e12.1) (zak _)) (by simp only [pE9, vE9, pE11, vE11, e12.2, fS] <;> rfl) ?_)
   exact zdd (zaw (z := .agg #[.int .i64 0, .int .i64 0, .slice none 0 0]) (s := 3) (cs := [.int .i64 0, .int .i64 xhR50, .slice (some ⟨g54, 0, none⟩) 1 1]) rfl Try.underlying24 rfl (by decide) rfl (by kernel_rfl) rfl) (fun v_ p_ h => by show IsRow 59 3 1 ([.int .i64 0, .int .i64 (intOf_o (vf 3)), (vf 11)]) v_ p_; rw [vE3, vE11]; exact h)
  intro vf pf hmu hR
  have e1 := hR 1 (by decide)
  have e3 : (∃ pm_, (pf 3) = [pm_] ∧ (fun u_ p_ => (∃ x_ : Int, u_ = .int .i64 x_ ∧ 0 ≤ x_ ∧ x_ < 2) ∧ p_ = curE g a len cap) (vf 3) pm_) := hR 3 (by decide)
  obtain ⟨p49, pE3, hR50⟩ := e3
  obtain ⟨v48, vE3⟩ : ∃ x, vf 3 = x := ⟨_, rfl⟩
  rw [vE3] at hR50
  obtain ⟨⟨xhR50, rfl, xhR500, xhR501⟩, rfl⟩ := hR50
  have e9 : (∃ pm_, (pf 9) = [pm_] ∧ (fun u_ p_ => (∃ x_ : Int, u_ = .int .i64 x_ ∧ 0 ≤ x_ ∧ x_ < min (2 * (((1 + (1 + xhR4)) + xhR8) + xhR11)) 12) ∧ p_ = curE g a len cap) (vf 9) pm_) := hR 9 (by decide)
  obtain ⟨p52, pE9, hR53⟩ := e9
  obtain ⟨v51, vE9⟩ : ∃ x, vf 9 = x := ⟨_, rfl⟩
  rw [vE9] at hR53
  obtain ⟨⟨xhR53, rfl, xhR530, xhR531⟩, rfl⟩ := hR53
  have e11 : IsRow 3 1 1 ([((2 * (((1 + (1 + xhR4)) + xhR8) + xhR11)) - 1) - (intOf_o (vf 9))].map (Value.int .i64)) (vf 11) (pf 11) := hR 11 (by decide)
  rw [vE9] at e11
  obtain ⟨g54, vE11, pE11⟩ := e11
  have e13 : IsRow 59 3 1 ([.int .i64 0, .int .i64 (intOf_o (vf 3)), (vf 11)]) (vf 13) (pf 13) := hR 13 (by decide)
  rw [vE3, vE11] at e13
  obtain ⟨g55, vE13, pE13⟩ := e13
  have q0 := hR 0 (by decide)
  have q1 := hR 1 (by decide)
  have q2 := hR 2 (by decide)
  have q4 := hR 4 (by decide)
  have q5 := hR 5 (by decide)
  have q6 := hR 6 (by decide)
  have q7 := hR 7 (by decide)
  have q8 := hR 8 (by decide)
  have q10 := hR 10 (by decide)
  have q12 := hR 12 (by decide)
  refine zcx (zbx [74, 70, 39, 17, 16, 12, 11, 10, 9, 8, 3, 2, 1, 0] _ (sk 97 (congrArg some e1.1) (sk 109 (congrArg some vE13) (zak _))) rfl) (by simp only [pE9, vE9, pE11, vE11, pE13, vE13, q0.2, q1.2, q2.2, q4.2, q5.2, q6.2, q7.2, q8.2, q10.2, q12.2, fS] <;> rfl) ?_
  simp only [List.drop_succ_cons, List.drop_zero]
  refine zck (i := 4) (z := .agg #[.int .i64 0, .int .i64 0, .slice none 0 0]) (bytes := 40) rfl rfl rfl rfl Try.underlying24 (by kernel_rfl) rfl rfl rfl rfl (zad 2 rfl) (by simp [Value.oneCell']) (by first | omega | (simp only [List.length_append, List.length_cons, List.length_nil]; omega)) (zcc ss [(Sq.mk 0 xhR50 (.slice (some ⟨g54, 0, none⟩) 1 1) ([((2 * (((1 + (1 + xhR4)) + xhR8) + xhR11)) - 1) - xhR53]))]) (zdt sqC ss (Sq.mk 0 xhR50 (.slice (some ⟨g54, 0, none⟩) 1 1) ([((2 * (((1 + (1 + xhR4)) + xhR8) + xhR11)) - 1) - xhR53])) _ rfl) (fun _ => rfl) ?_
  intro v56
  refine hvQ rfl (fdQ 1 rfl rfl rfl) (hl_one (i := 4) rfl (fun ho57 => ?_))
  refine hl_stB (i := 7) (cs' := #[.int .i64 (1 + xhR4), v56, u, .slice none 0 0]) rfl rfl rfl rfl rfl rfl ho57 rfl rfl rfl rfl (zay (zdk (reQ 1 rfl (hvQ rfl (vaQ rfl rfl rfl) (enQ 1 rfl ?_)))))
  refine zcg 9 [8, 7, 6, 5, 4, 2, 0, 1, 3] rfl rfl (by decide) ?_
  refine zfi (bigE ((ss ++ [(Sq.mk 0 xhR50 (.slice (some ⟨g54, 0, none⟩) 1 1) ([((2 * (((1 + (1 + xhR4)) + xhR8) + xhR11)) - 1) - xhR53]))]).map sqPart) :: curE g a len cap :: rowE 59 3 (.slice (some ⟨g55, 0, none⟩) 1 1) 1 ([.int .i64 0, .int .i64 xhR50, .slice (some ⟨g54, 0, none⟩) 1 1]) :: rowE 59 3 v56 ((ss ++ [(Sq.mk 0 xhR50 (.slice (some ⟨g54, 0, none⟩) 1 1) ([((2 * (((1 + (1 + xhR4)) + xhR8) + xhR11)) - 1) - xhR53]))]).length) ((ss ++ [(Sq.mk 0 xhR50 (.slice (some ⟨g54, 0, none⟩) 1 1) ([((2 * (((1 + (1 + xhR4)) + xhR8) + xhR11)) - 1) - xhR53]))]).flatMap sqC) :: rowE 47 2 u gs.length (gs.flatMap anC) :: rowE 3 1 (.slice none 0 0) 0 ([]) :: boxE b5 #[.int .i64 (1 + xhR4), v56, u, .slice none 0 0] 28 :: boxE b1 #[.int .i64 0, .slice none 0 0, .slice none 0 0, .slice none 0 0] 28 :: l) (fun w hm => by rw [List.map_append]; exact conv_snocX w hm) ?_
  refine zcg 8 [1, 7, 6, 5, 4, 3, 0] rfl rfl (by decide) ?_
  exact zbv (i + 1) v56 (ss ++ [(Sq.mk 0 xhR50 (.slice (some ⟨g54, 0, none⟩) 1 1) ([((2 * (((1 + (1 + xhR4)) + xhR8) + xhR11)) - 1) - xhR53]))]) ⟨by omega, by simp; omega, sqs_app hso ⟨.inl ⟨rfl, by dsimp only; omega, rfl⟩⟩ (fun x hx => by simp only [List.mem_cons, List.not_mem_nil, or_false] at hx; unfold LtOk; omega)⟩ (by omega) (saQ rfl) (.refl _)
 refine ntQ (zao rfl ?_)
 refine zbi (zep ?_)
 refine zal (zaj (zaa (zaa (reQ 1 rfl ?_))))
 refine zda (R := (fun u_ p_ => (∃ x_ : Int, u_ = .int .i64 x_ ∧ 0 ≤ x_ ∧ x_ < 4) ∧ p_ = curE g a len cap)) 6 rfl rfl rfl rfl rfl (fun l' w hm => zcn g a len cap z 4 _ _ _ hm hb (by constructor <;> omega)) ?_
 intro v58 p59 hR60
 obtain ⟨⟨xhR60, rfl, xhR600, xhR601⟩, rfl⟩ := hR60
 refine zdo (l' := (bigE (ss.map sqPart) :: rowE 59 3 uq ss.length (ss.flatMap sqC) :: rowE 47 2 u gs.length (gs.flatMap anC) :: rowE 3 1 (.slice none 0 0) 0 ([]) :: boxE b5 #[.int .i64 (1 + xhR4), uq, u, .slice none 0 0] 28 :: boxE b1 #[.int .i64 0, .slice none 0 0, .slice none 0 0, .slice none 0 0] 28 :: curE g a len cap :: l)) rfl ?_
 refine zbb 1 rfl (zba ?_)
 refine lkQ3 (α := Int) (β := Value) (γ := List Int) [0, 1, 2, 3, 8, 9, 10, 11, 12, 16, 39, 70] rfl (fun k uo os => (bigE (ss.map sqPart) :: rowE 59 3 uq ss.length (ss.flatMap sqC) :: rowE 47 2 u gs.length (gs.flatMap anC) :: rowE 3 1 uo os.length (os.map (Value.int .i64)) :: boxE b5 #[.int .i64 (1 + xhR4), uq, u, uo] 28 :: boxE b1 #[.int .i64 0, .slice none 0 0, .slice none 0 0, .slice none 0 0] 28 :: curE g a len cap :: l)) (fun k uo os => [(18, .int .i64 k)]) (fun k uo os => (-1 ≤ k ∧ k ≤ 3) ∧ (os.length : Int) + k ≤ 3 ∧ OsOk (((1 + (1 + xhR4)) + xhR8) + xhR11) os) (fun k uo os => (k + 1).toNat) _ _ [] ⟨by omega, by simp; omega, fun x hx => absurd hx (by simp)⟩ (saQ rfl) (.refl _) ?_
 intro k uo os hi61
 obtain ⟨hk0, hol, hoo⟩ := hi61
 refine zaa (zaa (reQ 1 rfl ?_))
 refine zeh rfl rfl rfl rfl rfl rfl (fun h62 => ?_) (fun h62 => ?_)
 ·
  refine ntQ (zaq rfl (zcw (sbQ ?_)))
  refine zfp 7 [5, 4, 3, 2, 1, 0, 6] rfl rfl (by decide) ?_
  refine zfo (l := (bigE (ss.map sqPart) :: rowE 59 3 uq ss.length (ss.flatMap sqC) :: rowE 47 2 u gs.length (gs.flatMap anC) :: rowE 3 1 uo os.length (os.map (Value.int .i64)) :: boxE b5 #[.int .i64 (1 + xhR4), uq, u, uo] 28 :: boxE b1 #[.int .i64 0, .slice none 0 0, .slice none 0 0, .slice none 0 0] 28 :: l)) rfl 10 [0, 1, 2, 3, 4, 5, 6, 7, 8, 9] (List.take 10 _) (List.drop 10 _) [[], [0], [], [2], [], [], [5], [4, 6], [3, 7], [7, 8]] [118, 119, 120, 121, 122, 123, 124, 125, 126, 127] (fun i_ vs_ v_ p_ => match i_ with | 0 => v_ = .pointer (some ⟨b5, 0 + 3, none⟩) ∧ p_ = [] | 1 => v_ = uo ∧ p_ = [] | 2 => v_ = .int .i64 (2 * (((1 + (1 + xhR4)) + xhR8) + xhR11)) ∧ p_ = [] | 3 => v_ = .int .i64 ((2 * (((1 + (1 + xhR4)) + xhR8) + xhR11)) - 1) ∧ p_ = [] | 4 => v_ = .pointer (some ⟨g, 0, none⟩) ∧ p_ = [] | 5 => v_ = .int .i64 (2 * (((1 + (1 + xhR4)) + xhR8) + xhR11)) ∧ p_ = [] | 6 => v_ = .int .i64 (min (2 * (((1 + (1 + xhR4)) + xhR8) + xhR11)) 12) ∧ p_ = [] | 7 => (∃ pm_, p_ = [pm_] ∧ (fun u_ p_ => (∃ x_ : Int, u_ = .int .i64 x_ ∧ 0 ≤ x_ ∧ x_ < min (2 * (((1 + (1 + xhR4)) + xhR8) + xhR11)) 12) ∧ p_ = curE g a len cap) v_ pm_) | 8 => v_ = .int .i64 (((2 * (((1 + (1 + xhR4)) + xhR8) + xhR11)) - 1) - (intOf_o (List.getD vs_ 1 undef))) ∧ p_ = [] | 9 => IsRow 3 1 1 ([((2 * (((1 + (1 + xhR4)) + xhR8) + xhR11)) - 1) - (intOf_o (List.getD vs_ 0 undef))].map (Value.int .i64)) v_ p_ | _ => True) [[], [0], [], [2], [], [], [5], [4, 6], [3, 7], [7, 8]] [none, none, none, none, none, none, none, some 13, none, none] [curE g a len cap] [0, 1, 2, 3, 4, 5, 6, 7, 8, 9] 13 (List.take_append_drop 10 _).symm (by kernel_rfl) (by kernel_rfl) (by kernel_rfl) rfl rfl ?_ ?_
  ·
   refine ⟨?_, ?_, ?_, ?_, ?_, ?_, ?_, ?_, ?_, ?_, trivial⟩
   ·
    intro vf pf hmu hR
    refine dqQ [] [] rfl (zcd (zau [9] rfl) ?_)
    exact zbz (fdQ 3 rfl rfl rfl)
   ·
    intro vf pf hmu hR
    have e0 := hR 0 (by decide)
    refine dqQ [0] [0] rfl (zby (sk 118 (congrArg some e0.1) (zak _)) (List.sublist_append_right _ _) ?_)
    exact zbz (zan rfl rfl rfl (zah 4 rfl rfl))
   ·
    intro vf pf hmu hR
    refine dqQ [] [] rfl (zcd (zau [16] rfl) ?_)
    exact zbz (zae rfl)
   ·
    intro vf pf hmu hR
    have e2 := hR 2 (by decide)
    refine dqQ [2] [2] rfl (zcd (sk 120 (congrArg some e2.1) (zak _)) ?_)
    exact zbz (vsQ rfl rfl rfl)
   ·
    intro vf pf hmu hR
    refine dqQ [] [] rfl (zcd (zau [0] rfl) ?_)
    exact zbz (zae rfl)
   ·
    intro vf pf hmu hR
    refine dqQ [] [] rfl (zcd (zau [16] rfl) ?_)
    exact zbz (zae rfl)
   ·
    intro vf pf hmu hR
    have e5 := hR 5 (by decide)
    refine dqQ [5] [5] rfl (zcd (sk 123 (congrArg some e5.1) (zak _)) ?_)
    exact zbz (rv_min rfl rfl rfl)
   ·
    intro vf pf hmu hR
    have e4 := hR 4 (by decide)
    have e6 := hR 6 (by decide)
    refine Or.inl ⟨rfl, ?_⟩
    show RunM _ _ _ (pf 13) (([4, 6] : List Nat).flatMap pf ++ _) (envOf _ vf [4, 6] ++ _) _ _
    rw [hmu]
    exact zdn (sk 122 (congrArg some e4.1) (sk 124 (congrArg some e6.1) (zak _))) (by simp only [e4.2, e6.2, fS] <;> rfl) (zdm (R := (fun u_ p_ => (∃ x_ : Int, u_ = .int .i64 x_ ∧ 0 ≤ x_ ∧ x_ < min (2 * (((1 + (1 + xhR4)) + xhR8) + xhR11)) 12) ∧ p_ = curE g a len cap)) rfl rfl (fun L w hX hm => zcn g a len cap z (min (2 * (((1 + (1 + xhR4)) + xhR8) + xhR11)) 12) _ _ _ hm hb (by constructor <;> omega)))
   ·
    intro vf pf hmu hR
    have e3 := hR 3 (by decide)
    have e7 : (∃ pm_, (pf 7) = [pm_] ∧ (fun u_ p_ => (∃ x_ : Int, u_ = .int .i64 x_ ∧ 0 ≤ x_ ∧ x_ < min (2 * (((1 + (1 + xhR4)) + xhR8) + xhR11)) 12) ∧ p_ = curE g a len cap) (vf 7) pm_) := hR 7 (by decide)
    obtain ⟨p64, pE7, hR65⟩ := e7
    obtain ⟨v63, vE7⟩ : ∃ x, vf 7 = x := ⟨_, rfl⟩
    rw [vE7] at hR65
    obtain ⟨⟨xhR65, rfl, xhR650, xhR651⟩, rfl⟩ := hR65
    refine dqQ [3, 7] [3, 7] rfl (zcm (sk 121 (congrArg some e3.1) (sk 125 (congrArg some vE7) (zak _))) (by simp only [pE7, vE7, e3.2, fS] <;> rfl) ?_)
    exact zdd (zbz (vsQ rfl rfl rfl)) (fun _ _ h => ⟨h.1.trans (by show _ = (.int .i64 (((2 * (((1 + (1 + xhR4)) + xhR8) + xhR11)) - 1) - (intOf_o (vf 7))) : Value); first | (rw [vE7]; done) | (rw [vE7]; rfl)), h.2⟩)
   intro vf pf hmu hR
   have e7 : (∃ pm_, (pf 7) = [pm_] ∧ (fun u_ p_ => (∃ x_ : Int, u_ = .int .i64 x_ ∧ 0 ≤ x_ ∧ x_ < min (2 * (((1 + (1 + xhR4)) + xhR8) + xhR11)) 12) ∧ p_ = curE g a len cap) (vf 7) pm_) := hR 7 (by decide)
   obtain ⟨p64, pE7, hR65⟩ := e7
   obtain ⟨v63, vE7⟩ : ∃ x, vf 7 = x := ⟨_, rfl⟩
   rw [vE7] at hR65
   obtain ⟨⟨xhR65, rfl, xhR650, xhR651⟩, rfl⟩ := hR65
   have e8 : (vf 8) = .int .i64 (((2 * (((1 + (1 + xhR4)) + xhR8) + xhR11)) - 1) - (intOf_o (vf 7))) ∧ (pf 8) = [] := hR 8 (by decide)
   rw [vE7] at e8
   refine dqQ [7, 8] [7, 8] rfl (zcm (sk 126 (congrArg some e8.1) (zak _)) (by simp only [pE7, vE7, e8.2, fS] <;> rfl) ?_)
   exact zdd (zaw (z := .int .i64 0) (s := 1) (cs := ([((2 * (((1 + (1 + xhR4)) + xhR8) + xhR11)) - 1) - xhR65].map (Value.int .i64))) rfl Try.underlying26 rfl (by decide) rfl (by kernel_rfl) rfl) (fun v_ p_ h => by show IsRow 3 1 1 ([((2 * (((1 + (1 + xhR4)) + xhR8) + xhR11)) - 1) - (intOf_o (vf 7))].map (Value.int .i64)) v_ p_; rw [vE7]; exact h)
  intro vf pf hmu hR
  have e1 := hR 1 (by decide)
  have e7 : (∃ pm_, (pf 7) = [pm_] ∧ (fun u_ p_ => (∃ x_ : Int, u_ = .int .i64 x_ ∧ 0 ≤ x_ ∧ x_ < min (2 * (((1 + (1 + xhR4)) + xhR8) + xhR11)) 12) ∧ p_ = curE g a len cap) (vf 7) pm_) := hR 7 (by decide)
  obtain ⟨p64, pE7, hR65⟩ := e7
  obtain ⟨v63, vE7⟩ : ∃ x, vf 7 = x := ⟨_, rfl⟩
  rw [vE7] at hR65
  obtain ⟨⟨xhR65, rfl, xhR650, xhR651⟩, rfl⟩ := hR65
  have e9 : IsRow 3 1 1 ([((2 * (((1 + (1 + xhR4)) + xhR8) + xhR11)) - 1) - (intOf_o (vf 7))].map (Value.int .i64)) (vf 9) (pf 9) := hR 9 (by decide)
  rw [vE7] at e9
  obtain ⟨g66, vE9, pE9⟩ := e9
  have q0 := hR 0 (by decide)
  have q1 := hR 1 (by decide)
  have q2 := hR 2 (by decide)
  have q3 := hR 3 (by decide)
  have q4 := hR 4 (by decide)
  have q5 := hR 5 (by decide)
  have q6 := hR 6 (by decide)
  have q8 := hR 8 (by decide)
  refine zcx (zbx [115, 70, 39, 18, 16, 12, 11, 10, 9, 8, 3, 2, 1, 0] _ (sk 119 (congrArg some e1.1) (sk 127 (congrArg some vE9) (zak _))) rfl) (by simp only [pE7, vE7, pE9, vE9, q0.2, q1.2, q2.2, q3.2, q4.2, q5.2, q6.2, q8.2, fS] <;> rfl) ?_
  simp only [List.drop_succ_cons, List.drop_zero]
  refine zck (i := 5) (z := .int .i64 0) (bytes := 8) rfl rfl rfl rfl Try.underlying26 (by kernel_rfl) rfl rfl rfl rfl (zad 1 rfl) (zca _) (by first | omega | (simp; done) | (simp; omega)) (zcc os ([((2 * (((1 + (1 + xhR4)) + xhR8) + xhR11)) - 1) - xhR65])) (zcv os ([((2 * (((1 + (1 + xhR4)) + xhR8) + xhR11)) - 1) - xhR65])) (fun _ => rfl) ?_
  intro v67
  refine hvQ rfl (fdQ 3 rfl rfl rfl) (hl_one (i := 5) rfl (fun ho68 => ?_))
  refine hl_stB (i := 6) (cs' := #[.int .i64 (1 + xhR4), uq, u, v67]) rfl rfl rfl rfl rfl rfl ho68 rfl rfl rfl rfl (zay (zdk (reQ 1 rfl (hvQ rfl (vsQ rfl rfl rfl) (enQ 1 rfl ?_)))))
  refine zcg 8 [0, 7, 6, 5, 4, 3, 2] rfl rfl (by decide) ?_
  exact zbv (k - 1) v67 (os ++ ([((2 * (((1 + (1 + xhR4)) + xhR8) + xhR11)) - 1) - xhR65])) ⟨by omega, by simp; omega, os_app hoo (by unfold LtOk; omega)⟩ (by omega) (saQ rfl) (.refl _)
 refine ntQ (zao rfl ?_)
 refine zbi (zep ?_)
 refine zal (zaj (srQ (hvQ rfl (zaf (cs := [.int .i64 (1 + xhR4), uq, u, uo]) rfl rfl rfl rfl rfl (zag 4 rfl 0 rfl)) ?_)))
 refine hl_one (i := 3) rfl (fun ho69 => ?_)
 refine hl_one (i := 2) rfl (fun ho70 => ?_)
 refine hl_one (i := 1) rfl (fun ho71 => ?_)
 refine zbu (cs' := #[.int .i64 (1 + xhR4), uq, u, uo]) (i := 5) (off := 0) (us := [.int .i64 (1 + xhR4), uq, u, uo]) rfl rfl rfl rfl rfl rfl rfl (zar rfl (zar ho71 (zar ho70 (zar ho69 zbs)))) rfl rfl rfl (ntQ ?_)
 refine zax (hq_oneX (i := 1) rfl (fun oQ => ?_))
 refine hq_oneX (i := 2) rfl (fun oA => ?_)
 refine hq_oneX (i := 3) rfl (fun oO => ?_)
 refine zcg 7 [5, 6, 3, 2, 1, 0] rfl rfl (by decide) ?_
 refine zfi (bigE [curE g a len cap, ntE (Nt.mk (1 + xhR4) uq u uo ss gs os)] :: boxE b1 #[.int .i64 (1 + xhR4), uq, u, uo] 28 :: l) (fun w hm => by
     have h1 : Mem _ ([bigE (ss.map sqPart), rowE 59 3 uq ss.length (ss.flatMap sqC)] ++ (rowE 47 2 u gs.length (gs.flatMap anC) :: rowE 3 1 uo os.length (os.map (Value.int .i64)) :: curE g a len cap :: boxE b1 #[.int .i64 (1 + xhR4), uq, u, uo] 28 :: l)) w := hm
     have h2 : Mem _ ([sqsE uq ss, rowE 47 2 u gs.length (gs.flatMap anC), rowE 3 1 uo os.length (os.map (Value.int .i64))] ++ (curE g a len cap :: boxE b1 #[.int .i64 (1 + xhR4), uq, u, uo] 28 :: l)) w := h1.big
     have h3 : Mem _ (ntE (Nt.mk (1 + xhR4) uq u uo ss gs os) :: curE g a len cap :: boxE b1 #[.int .i64 (1 + xhR4), uq, u, uo] 28 :: l) w := Mem.big h2
     exact Mem.big (ps := [curE g a len cap, ntE (Nt.mk (1 + xhR4) uq u uo ss gs os)]) (h3.perm (.swap _ _ _))) ?_
 exact zex (rs := [.cell 8 28]) (vs := [.agg #[.int .i64 (1 + xhR4), uq, u, uo]]) rfl ⟨⟨b1, 0, [.int .i64 (1 + xhR4), uq, u, uo], rfl, rfl, by kernel_rfl, by kernel_rfl, zag 1 rfl 0 rfl⟩, trivial⟩ rfl (fun w hm => ⟨_, bigE [curE g a len cap, ntE (Nt.mk (1 + xhR4) uq u uo ss gs os)], rfl, ⟨Nt.mk (1 + xhR4) uq u uo ss gs os, rfl, rfl, ⟨oQ, oA, oO⟩, nt_mk (by omega) (by omega) (by omega) (by omega) (by omega) hso hgo hoo (by omega) (by omega), by dsimp only; omega, by dsimp only; omega, by dsimp only; omega⟩, hm.sub (.cons_cons _ (.cons _ (.refl _)))⟩)
open Go.RowKit
theorem l01In_any0 (x lo hi : Int) (w : World)  :
   Calls Try.prog 22 #[.int .i64 x, .int .i64 lo, .int .i64 hi] w (Ans w (.bool (inR x lo hi))) := by
 refine zbg (N := 15) (args := [.int .i64 x, .int .i64 lo, .int .i64 hi]) Try.func22 rfl rfl (zbh 1 rfl (zaa (reQ 2 rfl ?_)))
 refine zeh rfl rfl rfl rfl rfl rfl (fun h1 => ?_) (fun h1 => ?_)
 ·
  refine zab 3 rfl (hl_leq rfl rfl rfl rfl rfl rfl (fun h2 => ?_) (fun h2 => ?_))
  ·
   refine zbb 2 rfl ?_
   exact zax (zce rfl rfl (congrArg _ (((zeb _ _ _).2 (by omega)).symm)))
  refine zbb 2 rfl ?_
  exact zax (zce rfl rfl (congrArg _ ((Bool.eq_false_iff.2 (fun h => by have := (zeb _ _ _).1 h; omega)).symm)))
 refine zbb 6 rfl ?_
 exact zax (zce rfl rfl (congrArg _ ((Bool.eq_false_iff.2 (fun h => by have := (zeb _ _ _).1 h; omega)).symm)))
theorem zbk (n : Nt) (w : World) (hr : RdsNt w n) (hn : NtOk n) :
   Calls Try.prog 7 #[.agg #[.int .i64 n.ins, n.sv, n.av, n.ov]] w (Ans w (.int .i64 n.cnt)) := by
 have hi0 := hn.i0
 have hi1 := hn.i1
 have hs1 := hn.s1
 have ha1 := hn.a1
 have ho1 := hn.o1
 have hcnt : n.cnt = 1 + n.ins + n.ss.length + n.gs.length := rfl
 have hfst : n.fst = 1 + n.ins + n.ss.length := rfl
 refine zbg (N := 36) (args := [.agg #[.int .i64 n.ins, n.sv, n.av, n.ov]]) Try.func7 rfl rfl (srQ ?_)
 refine zei rfl (zco rfl rfl) ?_
 intro b1
 refine zbb 1 rfl (ssrQ (hvQ rfl (fdQ 0 rfl rfl rfl) (hvQ rfl (zan rfl rfl rfl (zah 0 rfl rfl)) ?_)))
 refine zdw rfl (zas rfl rfl (fun w hm => zaz (l01In_any0 n.ins 0 20 w))) (zbc (fun h2 => ?_) (fun h2 => absurd ((((zeb _ _ _).2 (by omega))).symm.trans h2) (by decide)))
 refine zab 2 rfl (hvQ rfl (fdQ 1 rfl rfl rfl) (hvQ rfl (zan rfl rfl rfl (zah 0 rfl rfl)) (hvQ rfl (lnQ rfl rfl rfl (zac hr.sq)) ?_)))
 refine zes rfl rfl rfl rfl rfl rfl (fun h3 => absurd h3 (by omega)) (fun h3 => ?_)
 refine zab 2 rfl (hvQ rfl (fdQ 2 rfl rfl rfl) (hvQ rfl (zan rfl rfl rfl (zah 0 rfl rfl)) (hvQ rfl (lnQ rfl rfl rfl (zac hr.an)) ?_)))
 refine zes rfl rfl rfl rfl rfl rfl (fun h4 => absurd h4 (by omega)) (fun h4 => ?_)
 refine zab 2 rfl (hvQ rfl (fdQ 3 rfl rfl rfl) (hvQ rfl (zan rfl rfl rfl (zah 0 rfl rfl)) (hvQ rfl (lnQ rfl rfl rfl (zac hr.ou)) ?_)))
 refine zes rfl rfl rfl rfl rfl rfl (fun h5 => absurd h5 (by omega)) (fun h5 => ?_)
 refine zbb 1 rfl (zao rfl (zcw (srQ (hvQ rfl (fdQ 0 rfl rfl rfl) (hvQ rfl (zan rfl rfl rfl (zah 0 rfl rfl)) (hvQ rfl (vaQ rfl rfl rfl) (hvQ rfl (fdQ 1 rfl rfl rfl) (hvQ rfl (zan rfl rfl rfl (zah 0 rfl rfl)) ?_))))))))
 refine hvQ rfl (lnQ rfl rfl rfl (zac hr.sq)) (hvQ rfl (vaQ rfl rfl rfl) (hvQ rfl (fdQ 2 rfl rfl rfl) (hvQ rfl (zan rfl rfl rfl (zah 0 rfl rfl)) (hvQ rfl (lnQ rfl rfl rfl (zac hr.an)) (hvQ rfl (vaQ rfl rfl rfl) (zbb 1 rfl ?_))))))
 exact zax (zce rfl rfl rfl)
theorem zcs (n : Nt) (w : World) (hr : RdsNt w n) (hn : NtOk n) :
   Calls Try.prog 20 #[.agg #[.int .i64 n.ins, n.sv, n.av, n.ov]] w (Ans w (.int .i64 n.fst)) := by
 have hi0 := hn.i0
 have hi1 := hn.i1
 have hs1 := hn.s1
 have ha1 := hn.a1
 have ho1 := hn.o1
 have hcnt : n.cnt = 1 + n.ins + n.ss.length + n.gs.length := rfl
 have hfst : n.fst = 1 + n.ins + n.ss.length := rfl
 refine zbg (N := 10) (args := [.agg #[.int .i64 n.ins, n.sv, n.av, n.ov]]) Try.func20 rfl rfl (srQ ?_)
 refine zei rfl (zco rfl rfl) ?_
 intro b1
 refine zbb 1 rfl (srQ (hvQ rfl (fdQ 0 rfl rfl rfl) (hvQ rfl (zan rfl rfl rfl (zah 0 rfl rfl)) (hvQ rfl (vaQ rfl rfl rfl) (hvQ rfl (fdQ 1 rfl rfl rfl) (hvQ rfl (zan rfl rfl rfl (zah 0 rfl rfl)) (hvQ rfl (lnQ rfl rfl rfl (zac hr.sq)) (hvQ rfl (vaQ rfl rfl rfl) (zab 1 rfl ?_)))))))))
 refine ntQ ?_
 exact zax (zce rfl rfl rfl)
theorem l08Lit_yes (x m : Int) (w : World) (hx : LtOk x m) (hm : m ≤ 100000) :
   Calls Try.prog 34 #[.int .i64 x, .int .i64 m] w (Ans w (.bool true)) := by
 unfold LtOk at hx
 refine zbg (N := 13) (args := [.int .i64 x, .int .i64 m]) Try.func34 rfl rfl (zbh 1 rfl (zaa (reQ 1 rfl ?_)))
 refine zeh rfl rfl rfl rfl rfl rfl (fun h1 => ?_) (fun h1 => absurd h1 (by omega))
 refine zab 2 rfl (hvQ rfl (zdy rfl rfl rfl (by refine ⟨?_, ?_, ?_⟩ <;> omega)) ?_)
 refine zab 1 rfl (zbr rfl rfl rfl rfl rfl rfl (fun h2 => ?_) (fun h2 => absurd h2 (by omega)))
 refine zbb 2 rfl ?_
 exact zax (zce rfl rfl rfl)
theorem l08Roots_ret (n : Nt) (w : World) (hr : RdsNt w n) (hn : NtOk n) :
   Calls Try.prog 33 #[.agg #[.int .i64 n.ins, n.sv, n.av, n.ov]] w (Ret w (fun v' post => post = [rowE 3 1 v' (rtsL n n.ss.length).length ((rtsL n n.ss.length).map (Value.int .i64))])) := by
 have hi0 := hn.i0
 have hi1 := hn.i1
 have hs1 := hn.s1
 have ha1 := hn.a1
 have ho1 := hn.o1
 have hcnt : n.cnt = 1 + n.ins + n.ss.length + n.gs.length := rfl
 have hfst : n.fst = 1 + n.ins + n.ss.length := rfl
 refine zbg (N := 25) (args := [.agg #[.int .i64 n.ins, n.sv, n.av, n.ov]]) Try.func33 rfl rfl (srQ ?_)
 refine zei rfl (zco rfl rfl) ?_
 intro b1
 refine zbb 1 rfl (srQ ?_)
 refine zea rfl (zcl (s := 1) rfl Try.underlying26 rfl) ?_
 intro g2
 refine hvQ rfl (fdQ 3 rfl rfl rfl) (hvQ rfl (zan rfl rfl rfl (zah 1 rfl rfl)) ?_)
 refine zck (i := 0) (z := .int .i64 0) (bytes := 8) (n' := n.os.length) (xs' := (n.os.map (Value.int .i64))) rfl rfl rfl rfl Try.underlying26 (by kernel_rfl) rfl rfl rfl rfl (zac hr.ou) (zca _) (by first | omega | (simp; done) | (simp; omega)) (Nat.zero_add _) (List.nil_append _) (fun _ => rfl) ?_
 intro v3
 refine zbb 1 rfl (zaa (zbh 1 rfl (zba ?_)))
 refine lkQ3 (α := Nat) (β := Value) (γ := List Int) [0, 1, 2] rfl (fun k u zs => [rowE 3 1 u zs.length (zs.map (Value.int .i64)), boxE b1 #[.int .i64 n.ins, n.sv, n.av, n.ov] 28]) (fun k u zs => [(3, u), (4, .int .i64 (k : Int))]) (fun k u zs => k ≤ n.ss.length ∧ zs = rtsL n k) (fun k u zs => n.ss.length - k) 0 _ n.os ⟨by omega, by simp [rtsL]⟩ (saQ rfl) (pfQ rfl) ?_
 intro k u zs hi4
 obtain ⟨hk, hz⟩ := hi4
 have hzl : zs.length ≤ 16 + 4 * k := by rw [hz]; exact rts_len hn k hk
 refine zaa (zaa (reQ 1 rfl (hvQ rfl (fdQ 1 rfl rfl rfl) (hvQ rfl (zan rfl rfl rfl (zah 1 rfl rfl)) (hvQ rfl (lnQ rfl rfl rfl (zac hr.sq)) ?_)))))
 refine zbr rfl rfl rfl rfl rfl rfl (fun h5 => ?_) (fun h5 => ?_)
 ·
  refine ntQ (zaq rfl (zcw (sbQ (reQ 1 rfl (hvQ rfl (fdQ 1 rfl rfl rfl) ?_)))))
  have hx4 := (hn.sq _ (zbj (d := sq0) (show k < n.ss.length by omega))).len
  refine hvQ rfl (zan rfl rfl rfl (zah 1 rfl rfl)) (zab 1 rfl (hvQ rfl (riQ 3 rfl rfl rfl rfl (zac hr.sq)) (hvQ rfl (zem (k0 := 2) rfl rfl rfl (zac hr.sq) (by omega)) ?_)))
  refine hvQ rfl (zav (u := (n.ss.getD k sq0).iv) rfl rfl rfl (zac hr.sq) ((zfs sqC 3 (fun _ => rfl) n.ss sq0 (show k < _ by omega) (by decide)).trans rfl)) (zck (i := 0) (z := .int .i64 0) (bytes := 8) rfl rfl rfl rfl Try.underlying26 (by kernel_rfl) rfl rfl rfl rfl (fun w hm => (hr.at (k := k) (by omega)).below hm.bel) (zca _) (by first | omega | (simp; done) | (simp; omega)) (zcc zs ((n.ss.getD k sq0).xs)) (zcv zs ((n.ss.getD k sq0).xs)) (fun _ => rfl) ?_)
  intro v6
  refine enQ 1 rfl (zdk (reQ 1 rfl (hvQ rfl (vaQ rfl rfl rfl) (enQ 1 rfl ?_))))
  exact zbv (k + 1) v6 (zs ++ ((n.ss.getD k sq0).xs)) ⟨by omega, by rw [hz, rts_step n (by omega)]⟩ (by omega) (saQ rfl) (pfQ rfl)
 refine ntQ (zao rfl ?_)
 refine zbi (zep ?_)
 refine zal (zaj (zbh 2 rfl ?_))
 exact zax (zct (post := [rowE 3 1 u zs.length (zs.map (Value.int .i64))]) rfl rfl (slQ [0] rfl) (by rw [hz, show k = n.ss.length by omega]))
theorem zey (n : Nt) (w : World) (hr : RdsNt w n) (hn : NtOk n) :
   Calls Try.prog 19 #[.agg #[.int .i64 n.ins, n.sv, n.av, n.ov]] w (Ans w (.bool true)) := by
 have hi0 := hn.i0
 have hi1 := hn.i1
 have hs1 := hn.s1
 have ha1 := hn.a1
 have ho1 := hn.o1
 have hcnt : n.cnt = 1 + n.ins + n.ss.length + n.gs.length := rfl
 have hfst : n.fst = 1 + n.ins + n.ss.length := rfl
 refine zbg (N := 104) (args := [.agg #[.int .i64 n.ins, n.sv, n.av, n.ov]]) Try.func19 rfl rfl (srQ ?_)
 refine zei rfl (zco rfl rfl) ?_
 intro b1
 refine zbb 1 rfl (srQ (hvQ rfl (zaf (cs := [.int .i64 n.ins, n.sv, n.av, n.ov]) rfl rfl rfl rfl rfl (zag 0 rfl 0 rfl)) ?_))
 refine zdw rfl (zas rfl rfl (fun w hm => zaz (zbk n w (hr.below hm.bel) hn))) (zbb 1 rfl (zaa (zaa (reQ 1 rfl ?_))))
 refine zcj rfl rfl rfl rfl rfl rfl (fun h2 => absurd h2 (by omega)) (fun h2 => ?_)
 refine ntQ (zao rfl (zcw (zaa (zbh 1 rfl (zba ?_)))))
 refine lkQ1 (α := Nat) [0, 1, 2, 3, 12] rfl (fun k => [boxE b1 #[.int .i64 n.ins, n.sv, n.av, n.ov] 28]) (fun k => [(4, .int .i64 (k : Int))]) (fun k => k ≤ n.ss.length) (fun k => n.ss.length - k) 0 (Nat.zero_le _) (saQ rfl) (pfQ rfl) ?_
 intro k hi3
 have hk := hi3
 refine zaa (zaa (reQ 1 rfl (hvQ rfl (fdQ 1 rfl rfl rfl) (hvQ rfl (zan rfl rfl rfl (zah 0 rfl rfl)) (hvQ rfl (lnQ rfl rfl rfl (zac hr.sq)) ?_)))))
 refine zbr rfl rfl rfl rfl rfl rfl (fun h4 => ?_) (fun h4 => ?_)
 ·
  refine ntQ (zaq rfl (zcw (sbQ (srQ ?_))))
  have hqk := (hn.sq _ (zbj (d := sq0) (show k < n.ss.length by omega))).kind
  refine hvQ rfl (fdQ 1 rfl rfl rfl) (hvQ rfl (zan rfl rfl rfl (zah 0 rfl rfl)) (zab 1 rfl (hvQ rfl (riQ 3 rfl rfl rfl rfl (zac hr.sq)) ?_)))
  refine hvQ rfl (zdj (us := [.int .i64 ((n.ss.getD k sq0).kd), .int .i64 ((n.ss.getD k sq0).it), (n.ss.getD k sq0).iv]) rfl rfl rfl rfl (zac hr.sq) (by omega) rfl (zeo sqC 3 (fun _ => rfl) n.ss sq0 (show k < _ by omega) rfl)) (zei rfl (zbq (z := .agg #[.int .i64 0, .int .i64 0, .slice none 0 0]) rfl rfl) ?_)
  intro b5
  refine zbu (cs' := #[.int .i64 ((n.ss.getD k sq0).kd), .int .i64 ((n.ss.getD k sq0).it), (n.ss.getD k sq0).iv]) (i := 0) (off := 0) (us := [.int .i64 ((n.ss.getD k sq0).kd), .int .i64 ((n.ss.getD k sq0).it), (n.ss.getD k sq0).iv]) rfl rfl rfl rfl rfl rfl rfl (zar rfl (zar rfl (zar (hr.at (k := k) (by omega)).one zbs))) rfl rfl rfl (ntQ (srQ (hvQ rfl (fdQ 0 rfl rfl rfl) (hvQ rfl (zan rfl rfl rfl (zah 0 rfl rfl)) ?_))))
  refine zcj rfl rfl rfl rfl rfl rfl (fun h6 => ?_) (fun h6 => ?_)
  ·
   refine zab 1 rfl (hvQ rfl (fdQ 1 rfl rfl rfl) (hvQ rfl (zan rfl rfl rfl (zah 0 rfl rfl)) ?_))
   refine zdw rfl (zas rfl rfl (fun w hm => zaz (l01In_any0 ((n.ss.getD k sq0).it) 0 1 w))) (zbc (fun h7 => ?_) (fun h7 => absurd ((((zeb _ _ _).2 (by omega))).symm.trans h7) (by decide)))
   refine zab 2 rfl (hvQ rfl (fdQ 2 rfl rfl rfl) (hvQ rfl (zan rfl rfl rfl (zah 0 rfl rfl)) ?_))
   refine hvQ rfl (lnQ rfl rfl rfl (fun w hm => (hr.at (k := k) (by omega)).below hm.bel)) (zcj rfl rfl rfl rfl rfl rfl (fun h8 => ?_) (fun h8 => ?_))
   ·
    refine zbb 18 rfl (fsQ rfl (zdk (reQ 1 rfl (hvQ rfl (vaQ rfl rfl rfl) (enQ 1 rfl ?_)))))
    exact zci (k + 1) (by omega) (by omega) (saQ rfl) (slQ [1] rfl)
   refine zab 2 rfl (hvQ rfl (fdQ 0 rfl rfl rfl) (hvQ rfl (zan rfl rfl rfl (zah 0 rfl rfl)) ?_))
   refine zcj rfl rfl rfl rfl rfl rfl (fun h9 => ?_) (fun h9 => ?_)
   ·
    refine zab 1 rfl (hvQ rfl (fdQ 1 rfl rfl rfl) (hvQ rfl (zan rfl rfl rfl (zah 0 rfl rfl)) ?_))
    refine zdw rfl (zas rfl rfl (fun w hm => zaz (l01In_any0 ((n.ss.getD k sq0).it) 0 31 w))) (zbc (fun h10 => ?_) (fun h10 => absurd ((((zeb _ _ _).2 (by omega))).symm.trans h10) (by decide)))
    refine zab 2 rfl (hvQ rfl (fdQ 2 rfl rfl rfl) (hvQ rfl (zan rfl rfl rfl (zah 0 rfl rfl)) ?_))
    refine hvQ rfl (lnQ rfl rfl rfl (fun w hm => (hr.at (k := k) (by omega)).below hm.bel)) (zcj rfl rfl rfl rfl rfl rfl (fun h11 => ?_) (fun h11 => ?_))
    ·
     refine zbb 3 rfl (fsQ rfl (zdk (reQ 1 rfl (hvQ rfl (vaQ rfl rfl rfl) (enQ 1 rfl ?_)))))
     exact zci (k + 1) (by omega) (by omega) (saQ rfl) (slQ [1] rfl)
    refine zbb 3 rfl (zaq rfl (zbh 1 rfl ?_))
    refine zax (zat ?_)
    refine rt2Q ?_
    refine zat (zam ?_)
    exfalso
    omega
   refine zbb 13 rfl (zaq rfl ?_)
   refine zbh 1 rfl ?_
   refine zax (zat ?_)
   refine rt2Q ?_
   refine zat (zam ?_)
   exfalso
   omega
  refine zab 12 rfl (hvQ rfl (fdQ 0 rfl rfl rfl) (hvQ rfl (zan rfl rfl rfl (zah 0 rfl rfl)) ?_))
  refine zcj rfl rfl rfl rfl rfl rfl (fun h12 => ?_) (fun h12 => ?_)
  ·
   refine zab 1 rfl (hvQ rfl (fdQ 1 rfl rfl rfl) (hvQ rfl (zan rfl rfl rfl (zah 0 rfl rfl)) ?_))
   refine zdw rfl (zas rfl rfl (fun w hm => zaz (l01In_any0 ((n.ss.getD k sq0).it) 0 31 w))) (zbc (fun h13 => ?_) (fun h13 => absurd ((((zeb _ _ _).2 (by omega))).symm.trans h13) (by decide)))
   refine zab 2 rfl (hvQ rfl (fdQ 2 rfl rfl rfl) (hvQ rfl (zan rfl rfl rfl (zah 0 rfl rfl)) ?_))
   refine hvQ rfl (lnQ rfl rfl rfl (fun w hm => (hr.at (k := k) (by omega)).below hm.bel)) (zcj rfl rfl rfl rfl rfl rfl (fun h14 => ?_) (fun h14 => ?_))
   ·
    refine zbb 3 rfl (fsQ rfl (zdk (reQ 1 rfl (hvQ rfl (vaQ rfl rfl rfl) (enQ 1 rfl ?_)))))
    exact zci (k + 1) (by omega) (by omega) (saQ rfl) (slQ [1] rfl)
   refine zbb 3 rfl (zaq rfl (zbh 1 rfl ?_))
   refine zax (zat ?_)
   refine rt2Q ?_
   refine zat (zam ?_)
   exfalso
   omega
  refine zbb 13 rfl (zaq rfl ?_)
  refine zbh 1 rfl ?_
  refine zax (zat ?_)
  refine rt2Q ?_
  refine zat (zam ?_)
  exfalso
  omega
 refine ntQ (zao rfl ?_)
 refine zbi (zep ?_)
 refine zal (zaj (srQ (hvQ rfl (zaf (cs := [.int .i64 n.ins, n.sv, n.av, n.ov]) rfl rfl rfl rfl rfl (zag 0 rfl 0 rfl)) ?_)))
 refine hl_q rfl rfl rfl (zas rfl rfl (fun w hm => l08Roots_ret n w (hr.below hm.bel) hn)) ?_
 intro v15 p16 hR17
 subst hR17
 refine zbb 1 rfl (zaa (zbh 1 rfl (zba ?_)))
 refine lkQ1 (α := Nat) [0, 1, 2, 3, 6, 12, 17] rfl (fun q => [rowE 3 1 v15 ((rtsL n n.ss.length).length) ((rtsL n n.ss.length).map (Value.int .i64)), boxE b1 #[.int .i64 n.ins, n.sv, n.av, n.ov] 28]) (fun q => [(7, .int .i64 (q : Int))]) (fun q => q ≤ (rtsL n n.ss.length).length) (fun q => (rtsL n n.ss.length).length - q) 0 (Nat.zero_le _) (saQ rfl) (pfQ rfl) ?_
 intro q hi18
 have hq := hi18
 refine ssrQ ?_
 have hzl := rts_len hn n.ss.length (Nat.le_refl _)
 refine zab 2 rfl (hvQ rfl (lnQ rfl rfl rfl (zad 0 rfl)) ?_)
 refine zbr rfl rfl rfl rfl rfl rfl (fun h19 => ?_) (fun h19 => ?_)
 ·
  refine ntQ (zaq rfl (zcw (sbQ (srQ ?_))))
  have hlk := rts_ok hn (i := q) (by omega)
  have hzl := rts_len hn n.ss.length (Nat.le_refl _)
  refine zab 2 rfl (hvQ rfl (riQ 1 rfl rfl rfl rfl (zad 0 rfl)) (hvQ rfl (zav (u := .int .i64 ((rtsL n n.ss.length).getD q 0)) rfl rfl rfl (zad 0 rfl) (zcr (show _ < (rtsL n n.ss.length).length by omega))) (zab 1 rfl ?_)))
  refine zdw rfl (zas rfl rfl (fun w hm => zaz (l08Lit_yes ((rtsL n n.ss.length).getD q 0) n.cnt w (by first | assumption | (unfold LtOk; omega)) (by omega)))) (zbb 1 rfl (fsQ rfl (zdk (reQ 1 rfl (hvQ rfl (vaQ rfl rfl rfl) (enQ 1 rfl ?_))))))
  exact zci (q + 1) (by omega) (by omega) (saQ rfl) (pfQ rfl)
 refine ntQ (zao rfl ?_)
 refine zbi (zep ?_)
 refine zal (zaj (zaa (zbh 1 rfl (zba ?_))))
 refine lkQ1 (α := Nat) [0, 1, 2, 3, 6, 12, 17, 61] rfl (fun j => [rowE 3 1 v15 ((rtsL n n.ss.length).length) ((rtsL n n.ss.length).map (Value.int .i64)), boxE b1 #[.int .i64 n.ins, n.sv, n.av, n.ov] 28]) (fun j => [(8, .int .i64 (j : Int))]) (fun j => j ≤ n.gs.length) (fun j => n.gs.length - j) 0 (Nat.zero_le _) (saQ rfl) (pfQ rfl) ?_
 intro j hi20
 have hj := hi20
 refine zaa (zaa (reQ 1 rfl (hvQ rfl (fdQ 2 rfl rfl rfl) (hvQ rfl (zan rfl rfl rfl (zah 1 rfl rfl)) (hvQ rfl (lnQ rfl rfl rfl (zac hr.an)) ?_)))))
 refine zbr rfl rfl rfl rfl rfl rfl (fun h21 => ?_) (fun h21 => ?_)
 ·
  refine ntQ (zaq rfl (zcw (sbQ (zaa ?_))))
  have hlj := hn.an j (by omega)
  obtain ⟨hlj1, hlj2⟩ := hlj
  refine zbl 26 [[], [0], [], [1, 2], [3], [4], [], [6], [], [7, 8], [5, 9], [10], [11], [12], [12, 13], [12], [12, 14, 15], [12, 16], [12, 17], [12], [12, 19], [12], [12, 20, 21], [12, 18, 22], [12, 23], [12, 24]] [78, 79, 80, 81, 82, 83, 84, 85, 86, 87, 88, 89, 90, 91, 92, 93, 94, 95, 96, 97, 98, 99, 100, 101, 102, 103] [.pointer (some ⟨b1, 0 + 2, none⟩), n.av, .int .i64 (j : Int), elP n.av (((j : Int)).toNat * 2), elP n.av (((j : Int)).toNat * 2 + 0), .int .i64 ((n.gs.getD j an0).a), .agg #[.int .i64 n.ins, n.sv, n.av, n.ov], .int .i64 n.fst, .int .i64 (j : Int), .int .i64 (n.fst + (j : Int)), .bool true, .bool false, .bool false, .pointer (some ⟨b1, 0 + 2, none⟩), n.av, .int .i64 (j : Int), elP n.av (((j : Int)).toNat * 2), elP n.av (((j : Int)).toNat * 2 + 1), .int .i64 ((n.gs.getD j an0).b), .agg #[.int .i64 n.ins, n.sv, n.av, n.ov], .int .i64 n.fst, .int .i64 (j : Int), .int .i64 (n.fst + (j : Int)), .bool true, .bool false, .bool false] (by kernel_rfl) rfl ?_ ?_
  ·
   exact ⟨iaQ rfl (fdQ 2 rfl rfl rfl) rfl, iaQ rfl (zan rfl rfl rfl (zah 1 rfl rfl)) rfl, iaQ rfl (zae rfl) rfl, iaQ rfl (riQ 2 rfl rfl rfl rfl (zac hr.an)) rfl, iaQ rfl (zem (k0 := 0) rfl rfl rfl (zac hr.an) (by omega)) rfl, iaQ rfl (zav (u := .int .i64 ((n.gs.getD j an0).a)) rfl rfl rfl (zac hr.an) ((zfs anC 2 (fun _ => rfl) n.gs an0 (show j < _ by omega) (by decide)).trans rfl)) rfl, iaQ rfl (zaf (cs := [.int .i64 n.ins, n.sv, n.av, n.ov]) rfl rfl rfl rfl rfl (zag 1 rfl 0 rfl)) rfl, .inl ⟨rfl, zas rfl rfl (fun w hm => zaz (zcs n w (hr.below hm.bel) hn))⟩, iaQ rfl (zae rfl) rfl, iaQ rfl (vaQ rfl rfl rfl) rfl, .inl ⟨rfl, zas (by kernel_rfl) rfl (fun w hm => zaz (l08Lit_yes ((n.gs.getD j an0).a) (n.fst + (j : Int)) w (by first | assumption | (unfold LtOk; omega)) (by omega)))⟩, iaQ rfl (zae rfl) rfl, iaQ rfl (zae rfl) rfl, iaQ rfl (fdQ 2 rfl rfl rfl) rfl, iaQ rfl (zan rfl rfl rfl (zah 1 rfl rfl)) rfl, iaQ rfl (zae rfl) rfl, iaQ rfl (riQ 2 rfl rfl rfl rfl (zac hr.an)) rfl, iaQ rfl (zem (k0 := 1) rfl rfl rfl (zac hr.an) (by omega)) rfl, iaQ rfl (zav (u := .int .i64 ((n.gs.getD j an0).b)) rfl rfl rfl (zac hr.an) ((zfs anC 2 (fun _ => rfl) n.gs an0 (show j < _ by omega) (by decide)).trans rfl)) rfl, iaQ rfl (zaf (cs := [.int .i64 n.ins, n.sv, n.av, n.ov]) rfl rfl rfl rfl rfl (zag 1 rfl 0 rfl)) rfl, .inl ⟨rfl, zas rfl rfl (fun w hm => zaz (zcs n w (hr.below hm.bel) hn))⟩, iaQ rfl (zae rfl) rfl, iaQ rfl (vaQ rfl rfl rfl) rfl, .inl ⟨rfl, zas (by kernel_rfl) rfl (fun w hm => zaz (l08Lit_yes ((n.gs.getD j an0).b) (n.fst + (j : Int)) w (by first | assumption | (unfold LtOk; omega)) (by omega)))⟩, iaQ rfl (zae rfl) rfl, iaQ rfl (zae rfl) rfl, trivial⟩
  simp only [List.drop_succ_cons, List.drop_zero]
  refine ntQ (fsQ rfl (zdk (reQ 1 rfl (hvQ rfl (vaQ rfl rfl rfl) (enQ 1 rfl ?_)))))
  exact zci (j + 1) (by omega) (by omega) (saQ rfl) (pfQ rfl)
 refine ntQ (zao rfl ?_)
 refine zbi (zep ?_)
 refine zal (zaj (zbh 1 rfl ?_))
 exact zax (zce rfl rfl rfl)
section
variable {P : Program} {N : Nat} {w0 : World} {l : List HP} {env : List (Nat × Value)} {Q : Post} {os : List Oper} {m : Nat} {dps : List (List Nat)} {dsts : List (Option Nat)} {R : Nat → List Value → Value → List HP → Prop}
structure Mid4 (N : Nat) (w0 : World) (l : List HP) (env : List (Nat × Value)) (os : List Oper) (m : Nat) (dps : List (List Nat)) (dsts : List (Option Nat)) (R : Nat → List Value → Value → List HP → Prop) (tau : List (Option Nat)) (P0 : List (List HP)) (listed : Array Bool) (ord held : List Nat) (vf : Nat → Value) (pf : Nat → List HP) (a : Act) (w : World) : Prop where
  size : listed.size = os.length
  iff : ∀ i, i < os.length → (listed.getD i true = true ↔ i ∈ ord)
  low : ∀ i ∈ ord, i < m
  closed : ∀ i ∈ ord, ∀ j ∈ depsOf os i, j ∈ ord
  nodup : ord.Nodup
  dcl : ∀ i ∈ ord, ∀ j ∈ dps.getD i [], j ∈ ord
  rel : ∀ i ∈ ord, R i ((dps.getD i []).map vf) (vf i) (pf i)
  hn : held.Nodup
  hin : ∀ i ∈ held, i ∈ ord ∨ (os.length ≤ i ∧ i < os.length + P0.length)
  hall : ∀ i, (i ∈ ord ∨ (os.length ≤ i ∧ i < os.length + P0.length)) → (∀ j ∈ ord, tau.getD j none ≠ some i) → i ∈ held
  hP : ∀ k, k < P0.length → pf (os.length + k) = P0.getD k []
  mem : Mem w0 (held.flatMap pf ++ l) w
  asize : a.tmps.size = N
  defers : a.defers = []
  env : ∀ d v, lk env d = some v → a.tmps[d]? = some v
  slots : ∀ i ∈ ord, ∀ d, dsts[i]? = some (some d) → a.tmps[d]? = some (vf i)
end
open Go.RowKit
def isAndB (n : Nt) (k : Int) : Bool := decide (n.fst ≤ k ∧ k < n.cnt)
theorem zfw {n : Nt} {k : Int} : isAndB n k = true ↔ n.fst ≤ k ∧ k < n.cnt := by unfold isAndB; exact decide_eq_true_iff
theorem isAnd_not {n : Nt} {k : Int} (h : isAndB n k = false) : ¬ (n.fst ≤ k ∧ k < n.cnt) := by unfold isAndB at h; exact of_decide_eq_false h
theorem zbt (n : Nt) (w : World) (hr : RdsNt w n) (hn : NtOk n) :
   Calls Try.prog 29 #[.agg #[.int .i64 n.ins, n.sv, n.av, n.ov]] w (Ans w (.int .i64 n.cnt)) := by
 have hi0 := hn.i0
 have hi1 := hn.i1
 have hs1 := hn.s1
 have ha1 := hn.a1
 have ho1 := hn.o1
 have hcnt : n.cnt = 1 + n.ins + n.ss.length + n.gs.length := rfl
 have hfst : n.fst = 1 + n.ins + n.ss.length := rfl
 refine zbg (N := 14) (args := [.agg #[.int .i64 n.ins, n.sv, n.av, n.ov]]) Try.func29 rfl rfl (srQ ?_)
 refine zei rfl (zco rfl rfl) ?_
 intro b1
 refine zbb 1 rfl (srQ (hvQ rfl (fdQ 0 rfl rfl rfl) (hvQ rfl (zan rfl rfl rfl (zah 0 rfl rfl)) (hvQ rfl (vaQ rfl rfl rfl) (hvQ rfl (fdQ 1 rfl rfl rfl) (hvQ rfl (zan rfl rfl rfl (zah 0 rfl rfl)) (hvQ rfl (lnQ rfl rfl rfl (zac hr.sq)) (hvQ rfl (vaQ rfl rfl rfl) (hvQ rfl (fdQ 2 rfl rfl rfl) ?_)))))))))
 refine hvQ rfl (zan rfl rfl rfl (zah 0 rfl rfl)) (hvQ rfl (lnQ rfl rfl rfl (zac hr.an)) (hvQ rfl (vaQ rfl rfl rfl) (zbb 1 rfl ?_)))
 exact zax (zce rfl rfl rfl)
theorem implNodeCount_yes (n : Nt) (w : World) (hr : RdsNt w n) (hn : NtOk n) :
   Calls Try.prog 37 #[.agg #[.int .i64 n.ins, n.sv, n.av, n.ov]] w (Ans w (.int .i64 n.cnt)) := by
 have hi0 := hn.i0
 have hi1 := hn.i1
 have hs1 := hn.s1
 have ha1 := hn.a1
 have ho1 := hn.o1
 have hcnt : n.cnt = 1 + n.ins + n.ss.length + n.gs.length := rfl
 have hfst : n.fst = 1 + n.ins + n.ss.length := rfl
 refine zbg (N := 27) (args := [.agg #[.int .i64 n.ins, n.sv, n.av, n.ov]]) Try.func37 rfl rfl (srQ ?_)
 refine zei rfl (zco rfl rfl) ?_
 intro b1
 refine zbb 1 rfl (ssrQ (hvQ rfl (fdQ 0 rfl rfl rfl) (hvQ rfl (zan rfl rfl rfl (zah 0 rfl rfl)) ?_)))
 refine zdw rfl (zas rfl rfl (fun w hm => zaz (ans_of (zdr _ _ _ w)))) (zbc (fun h2 => ?_) (fun h2 => absurd ((((zeb _ _ _).2 (by omega))).symm.trans h2) (by decide)))
 refine zab 2 rfl (hvQ rfl (fdQ 1 rfl rfl rfl) (hvQ rfl (zan rfl rfl rfl (zah 0 rfl rfl)) (hvQ rfl (lnQ rfl rfl rfl (zac hr.sq)) ?_)))
 refine zes rfl rfl rfl rfl rfl rfl (fun h3 => absurd h3 (by omega)) (fun h3 => ?_)
 refine zab 2 rfl (hvQ rfl (fdQ 2 rfl rfl rfl) (hvQ rfl (zan rfl rfl rfl (zah 0 rfl rfl)) (hvQ rfl (lnQ rfl rfl rfl (zac hr.an)) ?_)))
 refine zes rfl rfl rfl rfl rfl rfl (fun h4 => absurd h4 (by omega)) (fun h4 => ?_)
 refine zab 2 rfl (hvQ rfl (fdQ 3 rfl rfl rfl) (hvQ rfl (zan rfl rfl rfl (zah 0 rfl rfl)) (hvQ rfl (lnQ rfl rfl rfl (zac hr.ou)) ?_)))
 refine zes rfl rfl rfl rfl rfl rfl (fun h5 => absurd h5 (by omega)) (fun h5 => ?_)
 refine zbb 1 rfl (zao rfl (zcw (srQ (hvQ rfl (zaf (cs := [.int .i64 n.ins, n.sv, n.av, n.ov]) rfl rfl rfl rfl rfl (zag 0 rfl 0 rfl)) ?_))))
 refine zdw rfl (zas rfl rfl (fun w hm => zaz (zbt n w (hr.below hm.bel) hn))) (zbb 1 rfl ?_)
 exact zax (zce rfl rfl rfl)
theorem zdu (n : Nt) (w : World) (hr : RdsNt w n) (hn : NtOk n) :
   Calls Try.prog 40 #[.agg #[.int .i64 n.ins, n.sv, n.av, n.ov]] w (Ans w (.int .i64 n.fst)) := by
 have hi0 := hn.i0
 have hi1 := hn.i1
 have hs1 := hn.s1
 have ha1 := hn.a1
 have ho1 := hn.o1
 have hcnt : n.cnt = 1 + n.ins + n.ss.length + n.gs.length := rfl
 have hfst : n.fst = 1 + n.ins + n.ss.length := rfl
 refine zbg (N := 10) (args := [.agg #[.int .i64 n.ins, n.sv, n.av, n.ov]]) Try.func40 rfl rfl (srQ ?_)
 refine zei rfl (zco rfl rfl) ?_
 intro b1
 refine zbb 1 rfl (srQ (hvQ rfl (fdQ 0 rfl rfl rfl) (hvQ rfl (zan rfl rfl rfl (zah 0 rfl rfl)) (hvQ rfl (vaQ rfl rfl rfl) (hvQ rfl (fdQ 1 rfl rfl rfl) (hvQ rfl (zan rfl rfl rfl (zah 0 rfl rfl)) (hvQ rfl (lnQ rfl rfl rfl (zac hr.sq)) (hvQ rfl (vaQ rfl rfl rfl) (zab 1 rfl ?_)))))))))
 refine ntQ ?_
 exact zax (zce rfl rfl rfl)
theorem isAnd_yes (n : Nt) (k : Int) (w : World) (hr : RdsNt w n) (hn : NtOk n) :
   Calls Try.prog 24 #[.agg #[.int .i64 n.ins, n.sv, n.av, n.ov], .int .i64 k] w (Ans w (.bool (isAndB n k))) := by
 have hi0 := hn.i0
 have hi1 := hn.i1
 have hs1 := hn.s1
 have ha1 := hn.a1
 have ho1 := hn.o1
 have hcnt : n.cnt = 1 + n.ins + n.ss.length + n.gs.length := rfl
 have hfst : n.fst = 1 + n.ins + n.ss.length := rfl
 refine zbg (N := 15) (args := [.agg #[.int .i64 n.ins, n.sv, n.av, n.ov], .int .i64 k]) Try.func24 rfl rfl (srQ ?_)
 refine zei rfl (zco rfl rfl) ?_
 intro b1
 refine zbb 1 rfl (zaa (reQ 1 rfl (hvQ rfl (zaf (cs := [.int .i64 n.ins, n.sv, n.av, n.ov]) rfl rfl rfl rfl rfl (zag 0 rfl 0 rfl)) ?_)))
 refine zdw rfl (zas rfl rfl (fun w hm => zaz (zdu n w (hr.below hm.bel) hn))) (zeh rfl rfl rfl rfl rfl rfl (fun h2 => ?_) (fun h2 => ?_))
 ·
  refine zab 2 rfl (hvQ rfl (zaf (cs := [.int .i64 n.ins, n.sv, n.av, n.ov]) rfl rfl rfl rfl rfl (zag 0 rfl 0 rfl)) ?_)
  refine zdw rfl (zas rfl rfl (fun w hm => zaz (zbt n w (hr.below hm.bel) hn))) (zbr rfl rfl rfl rfl rfl rfl (fun h3 => ?_) (fun h3 => ?_))
  ·
   refine zbb 2 rfl ?_
   exact zax (zce rfl rfl (congrArg _ (zfw.2 (by omega)).symm))
  refine zbb 2 rfl ?_
  exact zax (zce rfl rfl (congrArg _ (Bool.eq_false_iff.2 (fun h => by have := zfw.1 h; omega)).symm))
 refine zbb 7 rfl ?_
 exact zax (zce rfl rfl (congrArg _ (Bool.eq_false_iff.2 (fun h => by have := zfw.1 h; omega)).symm))
theorem seqOk_yes (s : Sq) (w : World) (hs : SqOk s) (hx : RdsW w s.iv 1 s.xs.length (s.xs.map (Value.int .i64))) :
   Calls Try.prog 38 #[.agg #[.int .i64 s.kd, .int .i64 s.it, s.iv]] w (Ans w (.bool true)) := by
 have hk := hs.kind
 refine zbg (N := 27) (args := [.agg #[.int .i64 s.kd, .int .i64 s.it, s.iv]]) Try.func38 rfl rfl (srQ ?_)
 refine zei rfl (zco rfl rfl) ?_
 intro b1
 refine zbb 1 rfl (ssrQ (hvQ rfl (fdQ 0 rfl rfl rfl) (hvQ rfl (zan rfl rfl rfl (zah 0 rfl rfl)) (ntQ (zba (zaa ?_))))))
 refine zai (zcj rfl rfl rfl rfl rfl rfl (fun h2 => ?_) (fun h2 => ?_))
 ·
  refine zbb 1 rfl (zaq rfl (srQ (hvQ rfl (fdQ 1 rfl rfl rfl) (hvQ rfl (zan rfl rfl rfl (zah 0 rfl rfl)) ?_))))
  refine zdw rfl (zas rfl rfl (fun w hm => zaz (ans_of (zdr _ _ _ w)))) (zbc (fun h3 => ?_) (fun h3 => absurd ((((zeb _ _ _).2 (by omega))).symm.trans h3) (by decide)))
  refine zab 1 rfl (hvQ rfl (fdQ 2 rfl rfl rfl) (hvQ rfl (zan rfl rfl rfl (zah 0 rfl rfl)) (hvQ rfl (lnQ rfl rfl rfl (zac hx)) ?_)))
  refine zcj rfl rfl rfl rfl rfl rfl (fun h4 => ?_) (fun h4 => ?_)
  ·
   refine zbb 2 rfl ?_
   refine zax (zat ?_)
   exact zam (zce rfl rfl rfl)
  refine zbb 2 rfl ?_
  refine zax (zat ?_)
  refine zam ?_
  exfalso
  omega
 refine zbb 1 rfl (zao rfl (srQ ?_))
 refine zcj rfl rfl rfl rfl rfl rfl (fun h5 => ?_) (fun h5 => ?_)
 ·
  refine zbb 1 rfl (zaq rfl (srQ (hvQ rfl (fdQ 1 rfl rfl rfl) (hvQ rfl (zan rfl rfl rfl (zah 0 rfl rfl)) ?_))))
  refine zdw rfl (zas rfl rfl (fun w hm => zaz (ans_of (zdr _ _ _ w)))) (zbc (fun h6 => ?_) (fun h6 => absurd ((((zeb _ _ _).2 (by omega))).symm.trans h6) (by decide)))
  refine zab 1 rfl (hvQ rfl (fdQ 2 rfl rfl rfl) (hvQ rfl (zan rfl rfl rfl (zah 0 rfl rfl)) (hvQ rfl (lnQ rfl rfl rfl (zac hx)) ?_)))
  refine zcj rfl rfl rfl rfl rfl rfl (fun h7 => ?_) (fun h7 => ?_)
  ·
   refine zbb 2 rfl ?_
   refine zax (zat ?_)
   exact zam (zce rfl rfl rfl)
  refine zbb 2 rfl ?_
  refine zax (zat ?_)
  refine zam ?_
  exfalso
  omega
 refine zbb 1 rfl (fsQ rfl (zdk (zbh 1 rfl ?_)))
 refine zax ?_
 exfalso
 omega
theorem copyIntsN_ret (xs : List Int) (v : Value) (w : World) (hv : RdsW w v 1 xs.length (xs.map (Value.int .i64))) (hlen : xs.length ≤ 1000000000) :
   Calls Try.prog 53 #[v] w (Ret w (fun v' post => post = [rowE 3 1 v' (xs).length ((xs).map (Value.int .i64))])) := by
 refine zbg (N := 6) (args := [v]) Try.func53 rfl rfl (zbh 1 rfl (srQ ?_))
 refine zea rfl (zcl (s := 1) rfl Try.underlying26 rfl) ?_
 intro g1
 refine zab 1 rfl (zck (i := 0) (z := .int .i64 0) (bytes := 8) (n' := xs.length) (xs' := (xs.map (Value.int .i64))) rfl rfl rfl rfl Try.underlying26 (by kernel_rfl) rfl rfl rfl rfl (zac hv) (zca _) (by first | omega | (simp; done) | (simp; omega)) (Nat.zero_add _) (List.nil_append _) (fun _ => rfl) ?_)
 intro v2
 refine zbb 1 rfl ?_
 exact zax (zct (post := [rowE 3 1 v2 xs.length (xs.map (Value.int .i64))]) rfl rfl (pfQ rfl) rfl)
theorem roots_ret (n : Nt) (w : World) (hr : RdsNt w n) (hn : NtOk n) :
   Calls Try.prog 39 #[.agg #[.int .i64 n.ins, n.sv, n.av, n.ov]] w (Ret w (fun v' post => post = [rowE 3 1 v' (rtsL n n.ss.length).length ((rtsL n n.ss.length).map (Value.int .i64))])) := by
 have hi0 := hn.i0
 have hi1 := hn.i1
 have hs1 := hn.s1
 have ha1 := hn.a1
 have ho1 := hn.o1
 have hcnt : n.cnt = 1 + n.ins + n.ss.length + n.gs.length := rfl
 have hfst : n.fst = 1 + n.ins + n.ss.length := rfl
 refine zbg (N := 22) (args := [.agg #[.int .i64 n.ins, n.sv, n.av, n.ov]]) Try.func39 rfl rfl (srQ ?_)
 refine zei rfl (zco rfl rfl) ?_
 intro b1
 refine zbb 1 rfl (srQ (hvQ rfl (fdQ 3 rfl rfl rfl) (hvQ rfl (zan rfl rfl rfl (zah 0 rfl rfl)) ?_)))
 refine hl_q rfl rfl rfl (zas rfl rfl (fun w hm => copyIntsN_ret n.os _ w ((zac hr.ou) w hm) (by omega))) ?_
 intro v2 p3 hR4
 subst hR4
 refine zbb 1 rfl (ssrQ (hvQ rfl (fdQ 1 rfl rfl rfl) (hvQ rfl (zan rfl rfl rfl (zah 1 rfl rfl)) (hvQ rfl (lnQ rfl rfl rfl (zac hr.sq)) (zbb 1 rfl ?_)))))
 refine zba ?_
 refine lkQ3 (α := Nat) (β := Value) (γ := List Int) [0, 1, 2, 10, 11] rfl (fun k u zs => [rowE 3 1 u zs.length (zs.map (Value.int .i64)), boxE b1 #[.int .i64 n.ins, n.sv, n.av, n.ov] 28]) (fun k u zs => [(3, u), (12, .int .i64 (k : Int))]) (fun k u zs => k ≤ n.ss.length ∧ zs = rtsL n k) (fun k u zs => n.ss.length - k) 0 _ n.os ⟨by omega, by simp [rtsL]⟩ (saQ rfl) (pfQ rfl) ?_
 intro k u zs hi5
 obtain ⟨hk, hz⟩ := hi5
 have hzl : zs.length ≤ 16 + 4 * k := by rw [hz]; exact rts_len hn k hk
 refine srQ ?_
 refine zbr rfl rfl rfl rfl rfl rfl (fun h6 => ?_) (fun h6 => ?_)
 ·
  refine ntQ (tcQ rfl (zcw (sbQ (srQ (hvQ rfl (riQ 3 rfl rfl rfl rfl (zac hr.sq)) ?_)))))
  refine hvQ rfl (zdj (us := [.int .i64 ((n.ss.getD k sq0).kd), .int .i64 ((n.ss.getD k sq0).it), (n.ss.getD k sq0).iv]) rfl rfl rfl rfl (zac hr.sq) (by omega) rfl (zeo sqC 3 (fun _ => rfl) n.ss sq0 (show k < _ by omega) rfl)) (zei rfl (zbq (z := .agg #[.int .i64 0, .int .i64 0, .slice none 0 0]) rfl rfl) ?_)
  intro b7
  refine zbu (cs' := #[.int .i64 ((n.ss.getD k sq0).kd), .int .i64 ((n.ss.getD k sq0).it), (n.ss.getD k sq0).iv]) (i := 0) (off := 0) (us := [.int .i64 ((n.ss.getD k sq0).kd), .int .i64 ((n.ss.getD k sq0).it), (n.ss.getD k sq0).iv]) rfl rfl rfl rfl rfl rfl rfl (zar rfl (zar rfl (zar (hr.at (k := k) (by omega)).one zbs))) rfl rfl rfl (ntQ (zai ?_))
  have hx4 := (hn.sq _ (zbj (d := sq0) (show k < n.ss.length by omega))).len
  refine zab 1 rfl (hvQ rfl (fdQ 2 rfl rfl rfl) (hvQ rfl (zan rfl rfl rfl (zah 0 rfl rfl)) ?_))
  refine zck (i := 1) (z := .int .i64 0) (bytes := 8) rfl rfl rfl rfl Try.underlying26 (by kernel_rfl) rfl rfl rfl rfl (fun w hm => (hr.at (k := k) (by omega)).below hm.bel) (zca _) (by first | omega | (simp; done) | (simp; omega)) (zcc zs ((n.ss.getD k sq0).xs)) (zcv zs ((n.ss.getD k sq0).xs)) (fun _ => rfl) ?_
  intro v8
  refine enQ 1 rfl (zdk (zai (hvQ rfl (vaQ rfl rfl rfl) (enQ 1 rfl ?_))))
  exact zbv (k + 1) v8 (zs ++ ((n.ss.getD k sq0).xs)) ⟨by omega, by rw [hz, rts_step n (by omega)]⟩ (by omega) (saQ rfl) (slQ [1, 0] rfl)
 refine ntQ (fcQ rfl ?_)
 refine zbi (zep ?_)
 refine zal (zaj (zbh 2 rfl ?_))
 exact zax (zct (post := [rowE 3 1 u zs.length (zs.map (Value.int .i64))]) rfl rfl (slQ [0] rfl) (by rw [hz, show k = n.ss.length by omega]))
theorem zfc (n : Nt) (w : World) (hr : RdsNt w n) (hn : NtOk n) :
   Calls Try.prog 23 #[.agg #[.int .i64 n.ins, n.sv, n.av, n.ov]] w (Ans w (.bool true)) := by
 have hi0 := hn.i0
 have hi1 := hn.i1
 have hs1 := hn.s1
 have ha1 := hn.a1
 have ho1 := hn.o1
 have hcnt : n.cnt = 1 + n.ins + n.ss.length + n.gs.length := rfl
 have hfst : n.fst = 1 + n.ins + n.ss.length := rfl
 refine zbg (N := 67) (args := [.agg #[.int .i64 n.ins, n.sv, n.av, n.ov]]) Try.func23 rfl rfl (srQ ?_)
 refine zei rfl (zco rfl rfl) ?_
 intro b1
 refine zbb 1 rfl (srQ (hvQ rfl (zaf (cs := [.int .i64 n.ins, n.sv, n.av, n.ov]) rfl rfl rfl rfl rfl (zag 0 rfl 0 rfl)) ?_))
 refine zdw rfl (zas rfl rfl (fun w hm => zaz (implNodeCount_yes n w (hr.below hm.bel) hn))) (zbb 1 rfl (zaa (zaa (reQ 1 rfl ?_))))
 refine zcj rfl rfl rfl rfl rfl rfl (fun h2 => absurd h2 (by omega)) (fun h2 => ?_)
 refine ntQ (zao rfl (zcw (ssrQ (hvQ rfl (fdQ 1 rfl rfl rfl) (hvQ rfl (zan rfl rfl rfl (zah 0 rfl rfl)) (hvQ rfl (lnQ rfl rfl rfl (zac hr.sq)) (zab 1 rfl (?_))))))))
 refine ntQ (zba ?_)
 refine lkQ1 (α := Nat) [0, 1, 2, 3, 14, 16, 17] rfl (fun k => [boxE b1 #[.int .i64 n.ins, n.sv, n.av, n.ov] 28]) (fun k => [(18, .int .i64 (k : Int))]) (fun k => k ≤ n.ss.length) (fun k => n.ss.length - k) 0 (Nat.zero_le _) (saQ rfl) (pfQ rfl) ?_
 intro k hi3
 have hk := hi3
 refine srQ ?_
 refine zbr rfl rfl rfl rfl rfl rfl (fun h4 => ?_) (fun h4 => ?_)
 ·
  refine ntQ (tcQ rfl (zcw (sbQ (srQ (hvQ rfl (riQ 3 rfl rfl rfl rfl (zac hr.sq)) ?_)))))
  refine hvQ rfl (zdj (us := [.int .i64 ((n.ss.getD k sq0).kd), .int .i64 ((n.ss.getD k sq0).it), (n.ss.getD k sq0).iv]) rfl rfl rfl rfl (zac hr.sq) (by omega) rfl (zeo sqC 3 (fun _ => rfl) n.ss sq0 (show k < _ by omega) rfl)) (zei rfl (zbq (z := .agg #[.int .i64 0, .int .i64 0, .slice none 0 0]) rfl rfl) ?_)
  intro b5
  refine zbu (cs' := #[.int .i64 ((n.ss.getD k sq0).kd), .int .i64 ((n.ss.getD k sq0).it), (n.ss.getD k sq0).iv]) (i := 0) (off := 0) (us := [.int .i64 ((n.ss.getD k sq0).kd), .int .i64 ((n.ss.getD k sq0).it), (n.ss.getD k sq0).iv]) rfl rfl rfl rfl rfl rfl rfl (zar rfl (zar rfl (zar (hr.at (k := k) (by omega)).one zbs))) rfl rfl rfl (ntQ (srQ (hvQ rfl (zaf (cs := [.int .i64 ((n.ss.getD k sq0).kd), .int .i64 ((n.ss.getD k sq0).it), (n.ss.getD k sq0).iv]) rfl rfl rfl rfl rfl (zag 0 rfl 0 rfl)) ?_)))
  refine zdw rfl (zas rfl rfl (fun w hm => zaz (seqOk_yes (n.ss.getD k sq0) w (hn.sq _ (zbj (d := sq0) (by omega))) ((hr.at (k := k) (by omega)).below hm.bel)))) (zbb 1 rfl (fsQ rfl (zdk (zai (hvQ rfl (vaQ rfl rfl rfl) (enQ 1 rfl ?_))))))
  exact zci (k + 1) (by omega) (by omega) (saQ rfl) (slQ [1] rfl)
 refine ntQ (fcQ rfl ?_)
 refine zbi (zep ?_)
 refine zal (zaj (ssrQ (hvQ rfl (zaf (cs := [.int .i64 n.ins, n.sv, n.av, n.ov]) rfl rfl rfl rfl rfl (zag 0 rfl 0 rfl)) ?_)))
 refine hl_q rfl rfl rfl (zas rfl rfl (fun w hm => roots_ret n w (hr.below hm.bel) hn)) ?_
 intro v6 p7 hR8
 subst hR8
 refine hvQ rfl (lnQ rfl rfl rfl (zad 0 rfl)) ?_
 have hzl := rts_len hn n.ss.length (Nat.le_refl _)
 refine zbb 1 rfl (zba ?_)
 refine lkQ1 (α := Nat) [0, 1, 2, 3, 14, 16, 17, 18, 19, 27, 28] rfl (fun q => [rowE 3 1 v6 ((rtsL n n.ss.length).length) ((rtsL n n.ss.length).map (Value.int .i64)), boxE b1 #[.int .i64 n.ins, n.sv, n.av, n.ov] 28]) (fun q => [(29, .int .i64 (q : Int))]) (fun q => q ≤ (rtsL n n.ss.length).length) (fun q => (rtsL n n.ss.length).length - q) 0 (Nat.zero_le _) (saQ rfl) (pfQ rfl) ?_
 intro q hi9
 have hq := hi9
 refine srQ ?_
 refine zbr rfl rfl rfl rfl rfl rfl (fun h10 => ?_) (fun h10 => ?_)
 ·
  refine ntQ (tcQ rfl (zcw (sbQ (srQ (hvQ rfl (riQ 1 rfl rfl rfl rfl (zad 0 rfl)) (hvQ rfl (zav (u := .int .i64 ((rtsL n n.ss.length).getD q 0)) rfl rfl rfl (zad 0 rfl) (zcr (show _ < (rtsL n n.ss.length).length by omega))) (zab 1 rfl ?_)))))))
  refine ntQ (srQ ?_)
  have hlk := rts_ok hn (i := q) (by omega)
  obtain ⟨hlk1, hlk2⟩ := hlk
  refine zab 2 rfl (hvQ rfl (zer rfl rfl rfl (by constructor <;> omega)) (hvQ rfl (vsQ rfl rfl rfl) ?_))
  refine zdw rfl (zas rfl rfl (fun w hm => zaz (ans_of (zdr _ _ _ w)))) (zbc (fun h11 => ?_) (fun h11 => absurd ((((zeb _ _ _).2 (by omega))).symm.trans h11) (by decide)))
  refine zbb 1 rfl (fsQ rfl (zdk (zai (hvQ rfl (vaQ rfl rfl rfl) ?_))))
  have hzl := rts_len hn n.ss.length (Nat.le_refl _)
  refine enQ 1 rfl ?_
  exact zci (q + 1) (by omega) (by omega) (saQ rfl) (pfQ rfl)
 refine ntQ (fcQ rfl ?_)
 refine zbi (zep ?_)
 refine zal (zaj (ssrQ (hvQ rfl (fdQ 2 rfl rfl rfl) (hvQ rfl (zan rfl rfl rfl (zah 1 rfl rfl)) (hvQ rfl (lnQ rfl rfl rfl (zac hr.an)) (zbb 1 rfl (zba ?_)))))))
 refine lkQ1 (α := Nat) [0, 1, 2, 3, 14, 16, 17, 18, 19, 27, 28, 29, 30, 41, 42] rfl (fun j => [rowE 3 1 v6 ((rtsL n n.ss.length).length) ((rtsL n n.ss.length).map (Value.int .i64)), boxE b1 #[.int .i64 n.ins, n.sv, n.av, n.ov] 28]) (fun j => [(43, .int .i64 (j : Int))]) (fun j => j ≤ n.gs.length) (fun j => n.gs.length - j) 0 (Nat.zero_le _) (saQ rfl) (pfQ rfl) ?_
 intro j hi12
 have hj := hi12
 refine srQ ?_
 refine zbr rfl rfl rfl rfl rfl rfl (fun h13 => ?_) (fun h13 => ?_)
 ·
  refine ntQ (tcQ rfl (zcw (sbQ (zaa (reQ 1 rfl (hvQ rfl (riQ 2 rfl rfl rfl rfl (zac hr.an)) ?_))))))
  refine hvQ rfl (zdj (us := [.int .i64 ((n.gs.getD j an0).a), .int .i64 ((n.gs.getD j an0).b)]) rfl rfl rfl rfl (zac hr.an) (by omega) rfl (zeo anC 2 (fun _ => rfl) n.gs an0 (show j < _ by omega) rfl)) (zei rfl (zbq (z := .agg #[.int .i64 0, .int .i64 0]) rfl rfl) ?_)
  intro b14
  refine zab 1 rfl (zbu (cs' := #[.int .i64 ((n.gs.getD j an0).a), .int .i64 ((n.gs.getD j an0).b)]) (i := 0) (off := 0) (us := [.int .i64 ((n.gs.getD j an0).a), .int .i64 ((n.gs.getD j an0).b)]) rfl rfl rfl rfl rfl rfl rfl (zar rfl (zar rfl zbs)) rfl rfl rfl ?_)
  refine ntQ (srQ (hvQ rfl (zaf (cs := [.int .i64 n.ins, n.sv, n.av, n.ov]) rfl rfl rfl rfl rfl (zag 2 rfl 0 rfl)) ?_))
  refine zdw rfl (zas rfl rfl (fun w hm => zaz (zdu n w (hr.below hm.bel) hn))) (zab 1 rfl (hvQ rfl (vaQ rfl rfl rfl) (hvQ rfl (zer rfl rfl rfl (by constructor <;> omega)) (hvQ rfl (vsQ rfl rfl rfl) (zbb 1 rfl (srQ ?_))))))
  have hlj := hn.an j (by omega)
  obtain ⟨⟨hlj1, hlj2⟩, hlj3, hlj4⟩ := hlj
  refine hvQ rfl (fdQ 0 rfl rfl rfl) (hvQ rfl (zan rfl rfl rfl (zah 0 rfl rfl)) (zab 1 rfl ?_))
  refine zdw rfl (zas rfl rfl (fun w hm => zaz (ans_of (zdr _ _ _ w)))) (zbc (fun h15 => ?_) (fun h15 => absurd ((((zeb _ _ _).2 (by omega))).symm.trans h15) (by decide)))
  refine zab 2 rfl (hvQ rfl (fdQ 1 rfl rfl rfl) (hvQ rfl (zan rfl rfl rfl (zah 0 rfl rfl)) (zab 1 rfl ?_)))
  refine zdw rfl (zas rfl rfl (fun w hm => zaz (ans_of (zdr _ _ _ w)))) (zbc (fun h16 => ?_) (fun h16 => absurd ((((zeb _ _ _).2 (by omega))).symm.trans h16) (by decide)))
  refine zbb 2 rfl (fsQ rfl (zdk (zai (hvQ rfl (vaQ rfl rfl rfl) (enQ 1 rfl ?_)))))
  exact zci (j + 1) (by omega) (by omega) (saQ rfl) (slQ [1, 0] rfl)
 refine ntQ (fcQ rfl ?_)
 refine zbi (zep ?_)
 refine zal (zaj (zbh 1 rfl ?_))
 exact zax (zce rfl rfl rfl)
theorem l08Net_mut (g : Nat) (a : Option Addr) (len cap : Nat) (z : List Int) (w0 : World) (l : List HP) (w : World) (hm0 : Mem w0 (curE g a len cap :: l) w) (hb : BRow .u8 w0 a len cap z) :
   Calls Try.prog 17 #[.pointer (some ⟨g, 0, none⟩)] w (fun e_ w_ => ∃ v_ p_, e_ = .returned v_ ∧ (fun u_ p_ => ∃ n : Nt, u_ = n.agg ∧ p_ = bigE [curE g a len cap, ntE n] ∧ (n.sv.oneCell' = true ∧ n.av.oneCell' = true ∧ n.ov.oneCell' = true) ∧ NtOk n ∧ n.ins ≤ 4 ∧ (n.ss.length : Int) ≤ 3 ∧ (n.gs.length : Int) ≤ 14) v_ p_ ∧ Mem w0 (p_ :: l) w_) := by
 refine zfj (N := 5) (args := [.pointer (some ⟨g, 0, none⟩)]) Try.func17 rfl rfl hm0 (srQ ?_)
 refine zei rfl (zbq (z := .agg #[.int .i64 0, .slice none 0 0, .slice none 0 0, .slice none 0 0]) rfl rfl) ?_
 intro b1
 refine ntQ (zaa (reQ 1 rfl ?_))
 refine zda (R := (fun u_ p_ => ∃ n : Nt, u_ = n.agg ∧ p_ = bigE [curE g a len cap, ntE n] ∧ (n.sv.oneCell' = true ∧ n.av.oneCell' = true ∧ n.ov.oneCell' = true) ∧ NtOk n ∧ n.ins ≤ 4 ∧ (n.ss.length : Int) ≤ 3 ∧ (n.gs.length : Int) ≤ 14)) 1 rfl rfl rfl rfl rfl (fun l' w hm => l08Sized_mut g a len cap z 4 3 14 _ _ _ hm hb (by decide) (by decide) (by decide)) ?_
 intro v2 p3 hR4
 obtain ⟨n, rfl, rfl, ⟨o1n, o2n, o3n⟩, hn, hnq1, hnq2, hnq3⟩ := hR4
 refine zdo (l' := (boxE b1 #[.int .i64 0, .slice none 0 0, .slice none 0 0, .slice none 0 0] 28 :: bigE [curE g a len cap, ntE n] :: l)) rfl ?_
 refine zbu (cs' := #[.int .i64 n.ins, n.sv, n.av, n.ov]) (i := 0) (off := 0) (us := [.int .i64 n.ins, n.sv, n.av, n.ov]) rfl rfl rfl rfl rfl rfl rfl (zar rfl (zar o1n (zar o2n (zar o3n zbs)))) rfl rfl rfl (ntQ ?_)
 exact zax (zex (rs := [.cell 2 28]) (vs := [.agg #[.int .i64 n.ins, n.sv, n.av, n.ov]]) rfl ⟨⟨b1, 0, [.int .i64 n.ins, n.sv, n.av, n.ov], rfl, rfl, by kernel_rfl, by kernel_rfl, zag 0 rfl 0 rfl⟩, trivial⟩ rfl (fun w hm => ⟨_, bigE [curE g a len cap, ntE n], rfl, ⟨n, rfl, rfl, ⟨o1n, o2n, o3n⟩, hn, hnq1, hnq2, hnq3⟩, hm.sub (.cons _ (.refl _))⟩))
open Go.RowKit
abbrev ndA (n : Nt) (k : Int) : Int := (n.gs.getD (k - n.fst).toNat an0).a
abbrev ndB (n : Nt) (k : Int) : Int := (n.gs.getD (k - n.fst).toNat an0).b
abbrev mk (bs : List Bl) (k : Int) : Prop := (bs.getD k.toNat bl0).b = true
theorem nd_ok {n : Nt} (hn : NtOk n) {k : Int} (h0 : n.fst ≤ k) (h1 : k < n.cnt) : (k - n.fst).toNat < n.gs.length ∧ 0 ≤ n.fst ∧ 0 ≤ ndA n k ∧ ndA n k < 2 * k ∧ 0 ≤ ndB n k ∧ ndB n k < 2 * k := by
  have hc : n.cnt = n.fst + n.gs.length := by unfold Nt.cnt Nt.fst; omega
  have hf : 0 ≤ n.fst := by have := hn.i0; unfold Nt.fst; omega
  have ha := hn.an (k - n.fst).toNat (by omega)
  unfold LtOk at ha
  unfold ndA ndB
  omega
structure MkOk (n : Nt) (node : Int) (bs bs' : List Bl) : Prop where
  len : bs'.length = bs.length
  mono : ∀ k : Int, 0 ≤ k → mk bs k → mk bs' k
  at_ : mk bs' node
  new : ∀ k : Int, n.fst ≤ k → k < n.cnt → mk bs' k → mk bs k ∨ (mk bs' (ndA n k / 2) ∧ mk bs' (ndB n k / 2))
theorem mk_set {bs : List Bl} {j : Nat} {b : Bl} (hj : j < bs.length) (hb : b.b = true) {k : Int} : mk (bs.set j b) k ↔ k.toNat = j ∨ mk bs k := by
  unfold mk
  by_cases e : k.toNat = j
  · rw [e, zbn hj]; exact ⟨fun _ => .inl rfl, fun _ => hb⟩
  · rw [List.getD_eq_getElem?_getD, List.getElem?_set_ne (fun h => e h.symm), ← List.getD_eq_getElem?_getD]
    exact ⟨fun h => .inr h, fun h => h.resolve_left e⟩
theorem mk_same {n : Nt} {node : Int} {bs : List Bl} (h : mk bs node) : MkOk n node bs bs := ⟨rfl, fun _ _ h => h, h, fun k _ _ h => .inl h⟩
theorem mk_leaf {n : Nt} {node : Int} {bs : List Bl} {b : Bl} (h0 : 0 ≤ node) (h1 : node.toNat < bs.length) (hf : 0 ≤ n.fst) (hl : node < n.fst) (hb : b.b = true) : MkOk n node bs (bs.set node.toNat b) :=
  ⟨by simp, fun k k0 h => (mk_set h1 hb).2 (.inr h), (mk_set h1 hb).2 (.inl rfl), fun k k0 k1 h => by
    rcases (mk_set h1 hb).1 h with h | h
    · omega
    · exact .inl h⟩
theorem mk_and {n : Nt} (hn : NtOk n) {node : Int} {bs b2 b3 : List Bl} {b : Bl} (h0 : n.fst ≤ node) (h9 : node < n.cnt) (h1 : node.toNat < bs.length) (hb : b.b = true) (ha : MkOk n (ndA n node / 2) (bs.set node.toNat b) b2) (hc : MkOk n (ndB n node / 2) b2 b3) : MkOk n node bs b3 := by
  obtain ⟨o1, o2, o3, o4, o5, o6⟩ := nd_ok hn h0 h9
  have hm : ∀ k : Int, 0 ≤ k → mk (bs.set node.toNat b) k → mk b3 k := fun k k0 h => hc.mono k k0 (ha.mono k k0 h)
  refine ⟨by rw [hc.len, ha.len]; simp, fun k k0 h => hm k k0 ((mk_set h1 hb).2 (.inr h)), hm node (by omega) ((mk_set h1 hb).2 (.inl rfl)), fun k k0 k1 h => ?_⟩
  obtain ⟨p1, p2, p3, p4, p5, p6⟩ := nd_ok hn k0 k1
  rcases hc.new k k0 k1 h with h | h
  · rcases ha.new k k0 k1 h with h | h
    · rcases (mk_set h1 hb).1 h with h | h
      · have : k = node := by omega
        subst this
        exact .inr ⟨hc.mono _ (by omega) ha.at_, hc.at_⟩
      · exact .inl h
    · exact .inr ⟨hc.mono _ (by omega) h.1, hc.mono _ (by omega) h.2⟩
  · exact .inr h
def mkL (bs : List Bl) (k : Nat) : List Int := ((List.range k).filter fun i : Nat => (bs.getD i bl0).b).map fun i : Nat => (i : Int)
theorem mkL_yes {bs : List Bl} {k : Nat} (h : (bs.getD k bl0).b = true) : mkL bs k ++ [(k : Int)] = mkL bs (k + 1) := by
  unfold mkL; rw [List.range_succ, List.filter_append, List.map_append, List.filter_cons_of_pos (p := fun i : Nat => (bs.getD i bl0).b) h]; rfl
theorem mkL_no {bs : List Bl} {k : Nat} (h : (bs.getD k bl0).b = false) : mkL bs k = mkL bs (k + 1) := by
  unfold mkL; rw [List.range_succ, List.filter_append, List.map_append, List.filter_cons_of_neg (p := fun i : Nat => (bs.getD i bl0).b) (by simpa using h)]; simp
theorem mkL_len (bs : List Bl) (k : Nat) : (mkL bs k).length ≤ k := by
  unfold mkL; rw [List.length_map]; have := List.length_filter_le (fun i => (bs.getD i bl0).b) (List.range k); simpa using this
theorem mkL_mem {bs : List Bl} {k : Nat} {x : Int} : x ∈ mkL bs k ↔ (0 ≤ x ∧ x < k) ∧ mk bs x := by
  unfold mkL mk
  simp only [List.mem_map, List.mem_filter, List.mem_range]
  constructor
  · rintro ⟨i, ⟨h1, h2⟩, rfl⟩
    exact ⟨⟨by omega, by omega⟩, by rw [Int.toNat_natCast]; exact h2⟩
  · rintro ⟨⟨h1, h2⟩, h3⟩
    exact ⟨x.toNat, ⟨by omega, h3⟩, by omega⟩
structure ConeOk (n : Nt) (node : Int) (xs : List Int) : Prop where
  len : xs.length ≤ n.cnt.toNat
  rng : ∀ x ∈ xs, 0 ≤ x ∧ x < n.cnt
  top : node ∈ xs
  clo : ∀ k ∈ xs, n.fst ≤ k → ndA n k / 2 ∈ xs ∧ ndB n k / 2 ∈ xs
theorem cone_of {n : Nt} (hn : NtOk n) {node : Int} {bs : List Bl} (h0 : 0 ≤ node) (h1 : node < n.cnt) (hl : bs.length = n.cnt.toNat) (h : MkOk n node (List.replicate n.cnt.toNat bl0) bs) : ConeOk n node (mkL bs bs.length) := by
  have hno : ∀ k : Int, ¬ mk (List.replicate n.cnt.toNat bl0) k := fun k hk => by
    unfold mk at hk
    rw [List.getD_eq_getElem?_getD, List.getElem?_replicate] at hk
    split at hk <;> exact absurd hk (by decide)
  refine ⟨by have := mkL_len bs bs.length; omega, fun x hx => by have := (mkL_mem.1 hx).1; omega, mkL_mem.2 ⟨by omega, h.at_⟩, fun k hk hf => ?_⟩
  obtain ⟨hk1, hk2⟩ := mkL_mem.1 hk
  obtain ⟨p1, p2, p3, p4, p5, p6⟩ := nd_ok hn hf (by omega)
  have := (h.new k hf (by omega) hk2).resolve_left (hno k)
  exact ⟨mkL_mem.2 ⟨by omega, this.1⟩, mkL_mem.2 ⟨by omega, this.2⟩⟩
theorem markCone_step (n : Nt) (node : Int) (bs : List Bl) (v : Value) (w0 : World) (l : List HP) (w : World) (hm0 : Mem w0 (rowE 4 1 v bs.length (bs.flatMap blC) :: l) w) (hr : RdsNt w0 n) (hn : NtOk n) (hnd : 0 ≤ node ∧ node < n.cnt) (hbl : (bs.length : Int) = n.cnt) (IH : ∀ (m : Int) (bs2 : List Bl) (l2 : List HP) (w2 : World), 0 ≤ m → m < node → bs2.length = bs.length → Mem w0 (rowE 4 1 v (bs2).length ((bs2).flatMap blC) :: l2) w2 → Calls Try.prog 41 #[n.agg, .int .i64 m, v] w2 (fun e_ w_ => ∃ v_ p_, e_ = .returned v_ ∧ (∃ bs' : List Bl, p_ = rowE 4 1 v (bs').length ((bs').flatMap blC) ∧ MkOk n m bs2 bs') ∧ Mem w0 (p_ :: l2) w_)) :
   Calls Try.prog 41 #[.agg #[.int .i64 n.ins, n.sv, n.av, n.ov], .int .i64 node, v] w (fun e_ w_ => ∃ v_ p_, e_ = .returned v_ ∧ (fun v_ p_ => ∃ bs' : List Bl, p_ = rowE 4 1 v (bs').length ((bs').flatMap blC) ∧ MkOk n node bs bs') v_ p_ ∧ Mem w0 (p_ :: l) w_) := by
 have hi0 := hn.i0
 have hi1 := hn.i1
 have hs1 := hn.s1
 have ha1 := hn.a1
 have ho1 := hn.o1
 have hcnt : n.cnt = 1 + n.ins + n.ss.length + n.gs.length := rfl
 have hfst : n.fst = 1 + n.ins + n.ss.length := rfl
 refine zfj (N := 40) (args := [.agg #[.int .i64 n.ins, n.sv, n.av, n.ov], .int .i64 node, v]) Try.func41 rfl rfl hm0 (srQ ?_)
 refine zei rfl (zco rfl rfl) ?_
 intro b1
 refine ntQ (zaa (zaa (reQ 2 rfl (hvQ rfl (riQ 1 rfl rfl rfl rfl (zad 1 rfl)) ?_))))
 refine hvQ rfl (zav (u := .bool ((bs.getD ((node).toNat) bl0).b)) rfl rfl rfl (zad 1 rfl) (zbm blC (fun r => .bool r.b) (fun _ => rfl) bs bl0 (show (node).toNat < _ by omega))) (zbc (fun h2 => ?_) (fun h2 => ?_))
 ·
  refine ntQ (zaq rfl ?_)
  refine zax (zam ?_)
  exact zex (rs := []) (vs := []) rfl trivial rfl (fun w hm => ⟨_, rowE 4 1 v bs.length (bs.flatMap blC), rfl, ⟨_, rfl, mk_same (by unfold mk; assumption)⟩, hm.sub (.cons _ (.refl _))⟩)
 refine ntQ (zao rfl (zcw (zaa (reQ 2 rfl (hvQ rfl (riQ 1 rfl rfl rfl rfl (zad 1 rfl)) ?_)))))
 refine zdh (i := 1) (n' := (bs.set ((node).toNat) { bs.getD ((node).toNat) bl0 with b := true }).length) rfl rfl rfl rfl rfl rfl rfl rfl (by first | omega | (simp only [List.length_set]; omega)) List.length_set.symm (zdb blC (fun r => .bool r.b) (fun _ => rfl) _ ({ bs.getD ((node).toNat) bl0 with b := true }) rfl) rfl (ntQ (zaa (reQ 1 rfl (hvQ rfl (zaf (cs := [.int .i64 n.ins, n.sv, n.av, n.ov]) rfl rfl rfl rfl rfl (zag 0 rfl 0 rfl)) ?_))))
 refine zdw rfl (zas rfl rfl (fun w hm => zaz (zdu n w (hr.below hm.bel) hn))) (hvQ rfl (vsQ rfl rfl rfl) (zbb 1 rfl (zaa (reQ 1 rfl ?_))))
 refine zeh rfl rfl rfl rfl rfl rfl (fun h3 => ?_) (fun h3 => ?_)
 ·
  refine ntQ (zaq rfl (zaa ?_))
  obtain ⟨o1, o2, o3, o4, o5, o6⟩ := nd_ok hn (k := node) (by omega) (by omega)
  unfold ndA at o3 o4
  unfold ndB at o5 o6
  refine zfp 2 [0, 1] rfl rfl (by decide) ?_
  refine zfo (l := (boxE b1 #[.int .i64 n.ins, n.sv, n.av, n.ov] 28 :: l)) rfl 10 [0, 1, 2, 3, 4, 5, 6, 7, 8, 9] (List.take 10 _) (List.drop 10 _) [[], [], [1], [], [2, 3], [4], [5], [6], [], [0, 7, 8]] [20, 21, 22, 23, 24, 25, 26, 27, 28, 29] (fun i_ vs_ v_ p_ => match i_ with | 0 => v_ = .agg #[.int .i64 n.ins, n.sv, n.av, n.ov] ∧ p_ = [] | 1 => v_ = .pointer (some ⟨b1, 0 + 2, none⟩) ∧ p_ = [] | 2 => v_ = n.av ∧ p_ = [] | 3 => v_ = .int .i64 (node - n.fst) ∧ p_ = [] | 4 => v_ = elP n.av ((node - n.fst).toNat * 2) ∧ p_ = [] | 5 => v_ = elP n.av ((node - n.fst).toNat * 2 + 0) ∧ p_ = [] | 6 => v_ = .int .i64 ((n.gs.getD ((node - n.fst).toNat) an0).a) ∧ p_ = [] | 7 => v_ = .int .i64 (((n.gs.getD ((node - n.fst).toNat) an0).a) / 2) ∧ p_ = [] | 8 => v_ = v ∧ p_ = [] | 9 => (∃ pm_, p_ = [pm_] ∧ (fun v_ p_ => ∃ bs' : List Bl, p_ = rowE 4 1 v (bs').length ((bs').flatMap blC) ∧ MkOk n (((n.gs.getD ((node - n.fst).toNat) an0).a) / 2) (bs.set ((node).toNat) { bs.getD ((node).toNat) bl0 with b := true }) bs') v_ pm_) | _ => True) [[], [], [1], [], [2, 3], [4], [5], [6], [], [0, 7, 8]] [none, none, none, none, none, none, none, none, none, some 10] [rowE 4 1 v ((bs.set ((node).toNat) { bs.getD ((node).toNat) bl0 with b := true }).length) ((bs.set ((node).toNat) { bs.getD ((node).toNat) bl0 with b := true }).flatMap blC)] [0, 1, 2, 3, 4, 5, 6, 7, 8, 9] 10 (List.take_append_drop 10 _).symm (by kernel_rfl) (by kernel_rfl) (by kernel_rfl) rfl rfl ?_ ?_
  ·
   refine ⟨?_, ?_, ?_, ?_, ?_, ?_, ?_, ?_, ?_, ?_, trivial⟩
   ·
    intro vf pf hmu hR
    refine dqQ [] [] rfl (zby (zau [3] rfl) (List.sublist_append_right _ _) ?_)
    exact zbz (zaf (cs := [.int .i64 n.ins, n.sv, n.av, n.ov]) rfl rfl rfl rfl rfl (zag 0 rfl 0 rfl))
   ·
    intro vf pf hmu hR
    refine dqQ [] [] rfl (zcd (zau [3] rfl) ?_)
    exact zbz (fdQ 2 rfl rfl rfl)
   ·
    intro vf pf hmu hR
    have e1 := hR 1 (by decide)
    refine dqQ [1] [1] rfl (zby (sk 21 (congrArg some e1.1) (zak _)) (List.sublist_append_right _ _) ?_)
    exact zbz (zan rfl rfl rfl (zah 0 rfl rfl))
   ·
    intro vf pf hmu hR
    refine dqQ [] [] rfl (zcd (zau [6] rfl) ?_)
    exact zbz (zae rfl)
   ·
    intro vf pf hmu hR
    have e2 := hR 2 (by decide)
    have e3 := hR 3 (by decide)
    refine dqQ [2, 3] [2, 3] rfl (zby (sk 22 (congrArg some e2.1) (sk 23 (congrArg some e3.1) (zak _))) (List.sublist_append_right _ _) ?_)
    exact zbz (riQ 2 rfl rfl rfl rfl (zac hr.an))
   ·
    intro vf pf hmu hR
    have e4 := hR 4 (by decide)
    refine dqQ [4] [4] rfl (zby (sk 24 (congrArg some e4.1) (zak _)) (List.sublist_append_right _ _) ?_)
    exact zbz (zem (k0 := 0) rfl rfl rfl (zac hr.an) (by omega))
   ·
    intro vf pf hmu hR
    have e5 := hR 5 (by decide)
    refine dqQ [5] [5] rfl (zby (sk 25 (congrArg some e5.1) (zak _)) (List.sublist_append_right _ _) ?_)
    exact zbz (zav (u := .int .i64 ((n.gs.getD ((node - n.fst).toNat) an0).a)) rfl rfl rfl (zac hr.an) ((zfs anC 2 (fun _ => rfl) n.gs an0 (show (node - n.fst).toNat < _ by omega) (by decide)).trans rfl))
   ·
    intro vf pf hmu hR
    have e6 := hR 6 (by decide)
    refine dqQ [6] [6] rfl (zcd (sk 26 (congrArg some e6.1) (zak _)) ?_)
    exact zbz (zdy rfl rfl rfl (by refine ⟨?_, ?_, ?_⟩ <;> omega))
   ·
    intro vf pf hmu hR
    refine dqQ [] [] rfl (zcd (zau [2] rfl) ?_)
    exact zbz (zae rfl)
   intro vf pf hmu hR
   have e0 := hR 0 (by decide)
   have e7 := hR 7 (by decide)
   have e8 := hR 8 (by decide)
   refine Or.inl ⟨rfl, ?_⟩
   show RunM _ _ _ (pf 10) (([0, 7, 8] : List Nat).flatMap pf ++ _) (envOf _ vf [0, 7, 8] ++ _) _ _
   rw [hmu]
   exact zdn (sk 20 (congrArg some e0.1) (sk 27 (congrArg some e7.1) (sk 28 (congrArg some e8.1) (zak _)))) (by simp only [e0.2, e7.2, e8.2, fS] <;> rfl) (zdm (R := (fun v_ p_ => ∃ bs' : List Bl, p_ = rowE 4 1 v (bs').length ((bs').flatMap blC) ∧ MkOk n (((n.gs.getD ((node - n.fst).toNat) an0).a) / 2) (bs.set ((node).toNat) { bs.getD ((node).toNat) bl0 with b := true }) bs')) rfl rfl (fun L w hX hm => IH (((n.gs.getD ((node - n.fst).toNat) an0).a) / 2) (bs.set ((node).toNat) { bs.getD ((node).toNat) bl0 with b := true }) _ _ (by omega) (by omega) (by first | (rw [List.length_set]; done) | (rw [lb2, List.length_set])) hm))
  intro vf pf hmu hR
  have e9 : (∃ pm_, (pf 9) = [pm_] ∧ (fun v_ p_ => ∃ bs' : List Bl, p_ = rowE 4 1 v (bs').length ((bs').flatMap blC) ∧ MkOk n (((n.gs.getD ((node - n.fst).toNat) an0).a) / 2) (bs.set ((node).toNat) { bs.getD ((node).toNat) bl0 with b := true }) bs') (vf 9) pm_) := hR 9 (by decide)
  obtain ⟨p5, pE9, hR6⟩ := e9
  obtain ⟨v4, vE9⟩ : ∃ x, vf 9 = x := ⟨_, rfl⟩
  try rw [vE9] at hR6
  obtain ⟨b2, rfl, hb2⟩ := hR6
  have lb2 := hb2.len
  have q0 := hR 0 (by decide)
  have q1 := hR 1 (by decide)
  have q2 := hR 2 (by decide)
  have q3 := hR 3 (by decide)
  have q4 := hR 4 (by decide)
  have q5 := hR 5 (by decide)
  have q6 := hR 6 (by decide)
  have q7 := hR 7 (by decide)
  have q8 := hR 8 (by decide)
  refine zcx (zau [19, 10, 6, 3, 2, 1, 0] rfl) (by simp only [pE9, vE9, q0.2, q1.2, q2.2, q3.2, q4.2, q5.2, q6.2, q7.2, q8.2, fS] <;> rfl) ?_
  simp only [List.drop_succ_cons, List.drop_zero]
  refine ntQ ?_
  refine zfo (l := (boxE b1 #[.int .i64 n.ins, n.sv, n.av, n.ov] 28 :: l)) rfl 10 [0, 1, 2, 3, 4, 5, 6, 7, 8, 9] (List.take 10 _) (List.drop 10 _) [[], [], [1], [], [2, 3], [4], [5], [6], [], [0, 7, 8]] [30, 31, 32, 33, 34, 35, 36, 37, 38, 39] (fun i_ vs_ v_ p_ => match i_ with | 0 => v_ = .agg #[.int .i64 n.ins, n.sv, n.av, n.ov] ∧ p_ = [] | 1 => v_ = .pointer (some ⟨b1, 0 + 2, none⟩) ∧ p_ = [] | 2 => v_ = n.av ∧ p_ = [] | 3 => v_ = .int .i64 (node - n.fst) ∧ p_ = [] | 4 => v_ = elP n.av ((node - n.fst).toNat * 2) ∧ p_ = [] | 5 => v_ = elP n.av ((node - n.fst).toNat * 2 + 1) ∧ p_ = [] | 6 => v_ = .int .i64 ((n.gs.getD ((node - n.fst).toNat) an0).b) ∧ p_ = [] | 7 => v_ = .int .i64 (((n.gs.getD ((node - n.fst).toNat) an0).b) / 2) ∧ p_ = [] | 8 => v_ = v ∧ p_ = [] | 9 => (∃ pm_, p_ = [pm_] ∧ (fun v_ p_ => ∃ bs' : List Bl, p_ = rowE 4 1 v (bs').length ((bs').flatMap blC) ∧ MkOk n (((n.gs.getD ((node - n.fst).toNat) an0).b) / 2) b2 bs') v_ pm_) | _ => True) [[], [], [1], [], [2, 3], [4], [5], [6], [], [0, 7, 8]] [none, none, none, none, none, none, none, none, none, some 10] [rowE 4 1 v b2.length (b2.flatMap blC)] [0, 1, 2, 3, 4, 5, 6, 7, 8, 9] 10 (List.take_append_drop 10 _).symm (by kernel_rfl) (by kernel_rfl) (by kernel_rfl) rfl rfl ?_ ?_
  ·
   refine ⟨?_, ?_, ?_, ?_, ?_, ?_, ?_, ?_, ?_, ?_, trivial⟩
   ·
    intro vf pf hmu hR
    refine dqQ [] [] rfl (zby (zau [3] rfl) (List.sublist_append_right _ _) ?_)
    exact zbz (zaf (cs := [.int .i64 n.ins, n.sv, n.av, n.ov]) rfl rfl rfl rfl rfl (zag 0 rfl 0 rfl))
   ·
    intro vf pf hmu hR
    refine dqQ [] [] rfl (zcd (zau [3] rfl) ?_)
    exact zbz (fdQ 2 rfl rfl rfl)
   ·
    intro vf pf hmu hR
    have e1 := hR 1 (by decide)
    refine dqQ [1] [1] rfl (zby (sk 31 (congrArg some e1.1) (zak _)) (List.sublist_append_right _ _) ?_)
    exact zbz (zan rfl rfl rfl (zah 0 rfl rfl))
   ·
    intro vf pf hmu hR
    refine dqQ [] [] rfl (zcd (zau [6] rfl) ?_)
    exact zbz (zae rfl)
   ·
    intro vf pf hmu hR
    have e2 := hR 2 (by decide)
    have e3 := hR 3 (by decide)
    refine dqQ [2, 3] [2, 3] rfl (zby (sk 32 (congrArg some e2.1) (sk 33 (congrArg some e3.1) (zak _))) (List.sublist_append_right _ _) ?_)
    exact zbz (riQ 2 rfl rfl rfl rfl (zac hr.an))
   ·
    intro vf pf hmu hR
    have e4 := hR 4 (by decide)
    refine dqQ [4] [4] rfl (zby (sk 34 (congrArg some e4.1) (zak _)) (List.sublist_append_right _ _) ?_)
    exact zbz (zem (k0 := 1) rfl rfl rfl (zac hr.an) (by omega))
   ·
    intro vf pf hmu hR
    have e5 := hR 5 (by decide)
    refine dqQ [5] [5] rfl (zby (sk 35 (congrArg some e5.1) (zak _)) (List.sublist_append_right _ _) ?_)
    exact zbz (zav (u := .int .i64 ((n.gs.getD ((node - n.fst).toNat) an0).b)) rfl rfl rfl (zac hr.an) ((zfs anC 2 (fun _ => rfl) n.gs an0 (show (node - n.fst).toNat < _ by omega) (by decide)).trans rfl))
   ·
    intro vf pf hmu hR
    have e6 := hR 6 (by decide)
    refine dqQ [6] [6] rfl (zcd (sk 36 (congrArg some e6.1) (zak _)) ?_)
    exact zbz (zdy rfl rfl rfl (by refine ⟨?_, ?_, ?_⟩ <;> omega))
   ·
    intro vf pf hmu hR
    refine dqQ [] [] rfl (zcd (zau [2] rfl) ?_)
    exact zbz (zae rfl)
   intro vf pf hmu hR
   have e0 := hR 0 (by decide)
   have e7 := hR 7 (by decide)
   have e8 := hR 8 (by decide)
   refine Or.inl ⟨rfl, ?_⟩
   show RunM _ _ _ (pf 10) (([0, 7, 8] : List Nat).flatMap pf ++ _) (envOf _ vf [0, 7, 8] ++ _) _ _
   rw [hmu]
   exact zdn (sk 30 (congrArg some e0.1) (sk 37 (congrArg some e7.1) (sk 38 (congrArg some e8.1) (zak _)))) (by simp only [e0.2, e7.2, e8.2, fS] <;> rfl) (zdm (R := (fun v_ p_ => ∃ bs' : List Bl, p_ = rowE 4 1 v (bs').length ((bs').flatMap blC) ∧ MkOk n (((n.gs.getD ((node - n.fst).toNat) an0).b) / 2) b2 bs')) rfl rfl (fun L w hX hm => IH (((n.gs.getD ((node - n.fst).toNat) an0).b) / 2) b2 _ _ (by omega) (by omega) (by first | (rw [List.length_set]; done) | (rw [lb2, List.length_set])) hm))
  intro vf pf hmu hR
  have e9 : (∃ pm_, (pf 9) = [pm_] ∧ (fun v_ p_ => ∃ bs' : List Bl, p_ = rowE 4 1 v (bs').length ((bs').flatMap blC) ∧ MkOk n (((n.gs.getD ((node - n.fst).toNat) an0).b) / 2) b2 bs') (vf 9) pm_) := hR 9 (by decide)
  obtain ⟨p8, pE9, hR9⟩ := e9
  obtain ⟨v7, vE9⟩ : ∃ x, vf 9 = x := ⟨_, rfl⟩
  try rw [vE9] at hR9
  obtain ⟨b3, rfl, hb3⟩ := hR9
  have lb3 := hb3.len
  have q0 := hR 0 (by decide)
  have q1 := hR 1 (by decide)
  have q2 := hR 2 (by decide)
  have q3 := hR 3 (by decide)
  have q4 := hR 4 (by decide)
  have q5 := hR 5 (by decide)
  have q6 := hR 6 (by decide)
  have q7 := hR 7 (by decide)
  have q8 := hR 8 (by decide)
  refine zcx (zau [19, 10, 6, 3, 2, 1, 0] rfl) (by simp only [pE9, vE9, q0.2, q1.2, q2.2, q3.2, q4.2, q5.2, q6.2, q7.2, q8.2, fS] <;> rfl) ?_
  simp only [List.drop_succ_cons, List.drop_zero]
  refine zay (hq_normal ?_)
  exact zex (rs := []) (vs := []) rfl trivial rfl (fun w hm => ⟨_, rowE 4 1 v b3.length (b3.flatMap blC), rfl, ⟨_, rfl, mk_and hn (by omega) (by omega) (by omega) rfl hb2 hb3⟩, hm.sub (.cons_cons _ (.cons _ (.refl _)))⟩)
 refine ntQ (fsQ rfl ?_)
 exact hq_normal (zex (rs := []) (vs := []) rfl trivial rfl (fun w hm => ⟨_, rowE 4 1 v ((bs.set ((node).toNat) { bs.getD ((node).toNat) bl0 with b := true }).length) ((bs.set ((node).toNat) { bs.getD ((node).toNat) bl0 with b := true }).flatMap blC), rfl, ⟨_, rfl, mk_leaf (by omega) (by omega) (by omega) (by omega) rfl⟩, hm.sub (.cons _ (.refl _))⟩))
theorem markCone_mut (n : Nt) (v : Value) (w0 : World) (hr : RdsNt w0 n) (hn : NtOk n) : ∀ (k : Nat) (node : Int) (bs : List Bl) (l : List HP) (w : World), node.toNat < k → 0 ≤ node → node < n.cnt → (bs.length : Int) = n.cnt → Mem w0 (rowE 4 1 v (bs).length ((bs).flatMap blC) :: l) w →
    Calls Try.prog 41 #[n.agg, .int .i64 node, v] w (fun e_ w_ => ∃ v_ p_, e_ = .returned v_ ∧ (∃ bs' : List Bl, p_ = rowE 4 1 v (bs').length ((bs').flatMap blC) ∧ MkOk n node bs bs') ∧ Mem w0 (p_ :: l) w_)
  | 0, node, bs, l, w, hk, h0, h1, hl, hm => absurd hk (by omega)
  | k + 1, node, bs, l, w, hk, h0, h1, hl, hm => markCone_step n node bs v w0 l w hm hr hn ⟨h0, h1⟩ hl (fun m bs2 l2 w2 m0 m1 hb hm2 => markCone_mut n v w0 hr hn k m bs2 l2 w2 (by omega) m0 (by omega) (by omega) hm2)
theorem marked_ret (bs : List Bl) (v : Value) (w : World) (hv : RdsW w v 1 bs.length (bs.flatMap blC)) (hl : bs.length ≤ 1000000) :
   Calls Try.prog 59 #[v] w (Ret w (fun v' post => post = [rowE 3 1 v' (mkL bs bs.length).length ((mkL bs bs.length).map (Value.int .i64))])) := by
 refine zbg (N := 20) (args := [v]) Try.func59 rfl rfl (zbh 1 rfl (srQ ?_))
 refine zds 3 1 (zbb 1 rfl (zaa (zaa (reQ 1 rfl (hvQ rfl (lnQ rfl rfl rfl (zac hv)) (zbb 1 rfl (zba ?_)))))))
 refine lkQ3 (α := Nat) (β := Value) (γ := List Int) [0, 2, 6, 7] rfl (fun k u zs => [rowE 3 1 u zs.length (zs.map (Value.int .i64))]) (fun k u zs => [(3, u), (8, .int .i64 (k : Int))]) (fun k u zs => k ≤ bs.length ∧ zs = mkL bs k) (fun k u zs => bs.length - k) 0 _ [] ⟨by omega, rfl⟩ (saQ rfl) (pfQ rfl) ?_
 intro k u zs hi2
 obtain ⟨hk, hz⟩ := hi2
 have hzl : zs.length ≤ k := by rw [hz]; exact mkL_len _ _
 refine srQ ?_
 refine zbr rfl rfl rfl rfl rfl rfl (fun h3 => ?_) (fun h3 => ?_)
 ·
  refine ntQ (tcQ rfl (zcw (sbQ (zaa (reQ 1 rfl (hvQ rfl (riQ 1 rfl rfl rfl rfl (zac hv)) ?_))))))
  refine hvQ rfl (zav (u := .bool ((bs.getD k bl0).b)) rfl rfl rfl (zac hv) (zbm blC (fun r => .bool r.b) (fun _ => rfl) bs bl0 (show k < _ by omega))) (zbc (fun h4 => ?_) (fun h4 => ?_))
  ·
   refine zbb 2 rfl (zbh 1 rfl (zaq rfl (reQ 2 rfl ?_)))
   refine zea rfl (zaw (z := .int .i64 0) (s := 1) (cs := ([(k : Int)].map (Value.int .i64))) rfl Try.underlying26 rfl (by decide) rfl (by kernel_rfl) rfl) ?_
   intro g5
   refine zck (i := 1) (z := .int .i64 0) (bytes := 8) rfl rfl rfl rfl Try.underlying26 (by kernel_rfl) rfl rfl rfl rfl (zad 0 rfl) (zca _) (by first | omega | (simp; done) | (simp; omega)) (zcc zs ([(k : Int)])) (zcv zs ([(k : Int)])) (fun _ => rfl) ?_
   intro v6
   refine enQ 1 rfl (zdk (zai (hvQ rfl (vaQ rfl rfl rfl) (enQ 1 rfl ?_))))
   exact zbv (k + 1) v6 (zs ++ ([(k : Int)])) ⟨by omega, by rw [hz]; exact mkL_yes (by assumption)⟩ (by omega) (saQ rfl) (slQ [1] rfl)
  refine zbb 2 rfl (zbh 1 rfl (fsQ rfl (zdk ?_)))
  refine zai (hvQ rfl (vaQ rfl rfl rfl) (enQ 1 rfl ?_))
  exact zbv (k + 1) u zs ⟨by omega, by rw [hz]; exact mkL_no (by assumption)⟩ (by omega) (saQ rfl) (pfQ rfl)
 refine ntQ (fcQ rfl ?_)
 refine zbi (zep ?_)
 refine zal (zaj (zbh 2 rfl ?_))
 exact zax (zct (post := [rowE 3 1 u zs.length (zs.map (Value.int .i64))]) rfl rfl (pfQ rfl) (by rw [hz, show k = bs.length by omega]))
theorem cone_ret (n : Nt) (node : Int) (w : World) (hr : RdsNt w n) (hn : NtOk n) (hnd : 0 ≤ node ∧ node < n.cnt) :
   Calls Try.prog 47 #[.agg #[.int .i64 n.ins, n.sv, n.av, n.ov], .int .i64 node] w (Ret w (fun v' post => ∃ xs : List Int, post = [rowE 3 1 v' xs.length (xs.map (Value.int .i64))] ∧ ConeOk n node xs)) := by
 have hi0 := hn.i0
 have hi1 := hn.i1
 have hs1 := hn.s1
 have ha1 := hn.a1
 have ho1 := hn.o1
 have hcnt : n.cnt = 1 + n.ins + n.ss.length + n.gs.length := rfl
 have hfst : n.fst = 1 + n.ins + n.ss.length := rfl
 refine zbg (N := 15) (args := [.agg #[.int .i64 n.ins, n.sv, n.av, n.ov], .int .i64 node]) Try.func47 rfl rfl (srQ ?_)
 refine zei rfl (zco rfl rfl) ?_
 intro b1
 refine zbb 1 rfl (srQ (hvQ rfl (zaf (cs := [.int .i64 n.ins, n.sv, n.av, n.ov]) rfl rfl rfl rfl rfl (zag 0 rfl 0 rfl)) ?_))
 refine zdw rfl (zas rfl rfl (fun w hm => zaz (zbt n w (hr.below hm.bel) hn))) (zea rfl (zff (z := .bool false) (s := 1) (bytes := 1) (n := (List.replicate (n.cnt).toNat bl0).length) (cs := ((List.replicate (n.cnt).toNat bl0).flatMap blC)) rfl Try.underlying62 rfl (by decide) rfl rfl (by first | (rw [List.length_replicate]; done) | (rw [List.length_replicate]; omega)) (by first | (rw [List.length_replicate]; done) | (rw [List.length_replicate]; omega)) (by rw [List.length_replicate]; omega) (zfh blC 1 (fun _ => rfl) bl0 _ rfl (n.cnt).toNat)) ?_)
 intro g2
 refine zbb 1 rfl (srQ (hvQ rfl (zaf (cs := [.int .i64 n.ins, n.sv, n.av, n.ov]) rfl rfl rfl rfl rfl (zag 1 rfl 0 rfl)) (zab 2 rfl ?_)))
 refine zda (R := (fun v_ p_ => ∃ bs' : List Bl, p_ = rowE 4 1 (.slice (some ⟨g2, 0, none⟩) ((List.replicate (n.cnt).toNat bl0).length) ((List.replicate (n.cnt).toNat bl0).length)) (bs').length ((bs').flatMap blC) ∧ MkOk n node (List.replicate (n.cnt).toNat bl0) bs')) 0 rfl rfl rfl rfl rfl (fun l' w hm => markCone_mut n _ _ hr hn (node.toNat + 1) node (List.replicate (n.cnt).toNat bl0) _ _ (by omega) hnd.1 hnd.2 (by rw [List.length_replicate]; omega) hm) ?_
 intro v3 p4 hR5
 obtain ⟨bs, rfl, hmk⟩ := hR5
 have hbl := hmk.len
 rw [List.length_replicate] at hbl
 refine zdo (l' := [rowE 4 1 (.slice (some ⟨g2, 0, none⟩) ((List.replicate (n.cnt).toNat bl0).length) ((List.replicate (n.cnt).toNat bl0).length)) bs.length (bs.flatMap blC), boxE b1 #[.int .i64 n.ins, n.sv, n.av, n.ov] 28]) rfl ?_
 refine ntQ (zaa (reQ 1 rfl ?_))
 refine hl_q rfl rfl rfl (zas rfl rfl (fun w hm => marked_ret bs _ w (zad 0 rfl w hm) (by omega))) ?_
 intro v6 p7 hR8
 subst hR8
 refine zbb 1 rfl ?_
 exact zax (zct (post := [rowE 3 1 v6 ((mkL bs bs.length).length) ((mkL bs bs.length).map (Value.int .i64))]) rfl rfl (slQ [0] rfl) ⟨_, rfl, cone_of hn hnd.1 hnd.2 hbl hmk⟩)
def insI : List Int → Int → List Int
  | [], x => [x]
  | y :: ys, x => if y < x then y :: insI ys x else if y = x then y :: ys else x :: y :: ys
structure AndV (n : Nt) (v : List Int) : Prop where
  b01 : B01 v
  len : (v.length : Int) = n.cnt
  at_ : ∀ k, k < n.gs.length → v.getD (n.fst + k).toNat 0 = bitL v (n.gs.getD k an0).a * bitL v (n.gs.getD k an0).b
def wS : List Int → Nat
  | [] => 0
  | x :: xs => 3 ^ (x / 2).toNat + wS xs
structure CjInv (n : Nt) (node : Int) (xs : List Int) : Prop where
  srt : xs.Pairwise (· < ·)
  ne : 1 ≤ xs.length
  rng : ∀ x ∈ xs, 0 ≤ x ∧ x < 2 * n.cnt
  sem : ∀ v, AndV n v → ((∀ x ∈ xs, bitL v x = 1) ↔ v.getD node.toNat 0 = 1)
noncomputable def pBc (p : Prop) : Bool := @decide p (Classical.propDecidable p)
theorem pBc_yes {p : Prop} (h : p) : pBc p = true := @decide_eq_true p (Classical.propDecidable p) h
theorem pBc_no {p : Prop} (h : ¬ p) : pBc p = false := @decide_eq_false p (Classical.propDecidable p) h
theorem of_pBc {p : Prop} (h : pBc p = true) : p := @of_decide_eq_true p (Classical.propDecidable p) h
theorem of_pBcn {p : Prop} (h : pBc p = false) : ¬ p := @of_decide_eq_false p (Classical.propDecidable p) h
def Asc (xs : List Int) : Prop := ∀ i, i + 1 < xs.length → xs.getD i 0 < xs.getD (i + 1) 0
theorem asc_pair : ∀ {xs : List Int}, Asc xs ↔ xs.Pairwise (· < ·)
  | [] => by simp [Asc]
  | [a] => by simp [Asc]
  | a :: b :: t => by
    have ih := asc_pair (xs := b :: t)
    rw [List.pairwise_cons]
    constructor
    · intro h
      have hp := ih.1 (fun i hi => by have := h (i + 1) (by simpa using hi); simpa using this)
      have h0 : a < b := by have := h 0 (by simp); simpa using this
      refine ⟨fun x hx => ?_, hp⟩
      rcases List.mem_cons.1 hx with rfl | hx
      · exact h0
      · have := (List.pairwise_cons.1 hp).1 x hx; omega
    · rintro ⟨h1, h2⟩ i hi
      cases i with
      | zero => have := h1 b List.mem_cons_self; simpa using this
      | succ i => have := ih.2 h2 i (by simpa using hi); simpa using this
inductive Rch (n : Nt) (top : Int) : Int → Prop
  | top : Rch n top top
  | a {k : Int} : Rch n top k → n.fst ≤ k → Rch n top (ndA n k / 2)
  | b {k : Int} : Rch n top k → n.fst ≤ k → Rch n top (ndB n k / 2)
theorem Rch.rng {n : Nt} (hn : NtOk n) {i k : Int} (h0 : 0 ≤ i) (h1 : i < n.cnt) (h : Rch n i k) : 0 ≤ k ∧ k ≤ i := by
  induction h with
  | top => omega
  | a _ hf ih => obtain ⟨o1, o2, o3, o4, o5, o6⟩ := nd_ok hn hf (by omega); omega
  | b _ hf ih => obtain ⟨o1, o2, o3, o4, o5, o6⟩ := nd_ok hn hf (by omega); omega
theorem cone_rch {n : Nt} {node : Int} {xs : List Int} (h : ConeOk n node xs) {k : Int} (hr : Rch n node k) : k ∈ xs := by
  induction hr with
  | top => exact h.top
  | a _ hf ih => exact (h.clo _ ih hf).1
  | b _ hf ih => exact (h.clo _ ih hf).2
inductive Cov (n : Nt) (cut : List Int) : Int → Prop
  | zero : Cov n cut 0
  | mem {k : Int} : k ∈ cut → Cov n cut k
  | and {k : Int} : n.fst ≤ k → k < n.cnt → Cov n cut (ndA n k / 2) → Cov n cut (ndB n k / 2) → Cov n cut k
theorem Cov.mono {n : Nt} {c c' : List Int} (hs : ∀ k ∈ c, k ∈ c') {k : Int} (h : Cov n c k) : Cov n c' k := by
  induction h with
  | zero => exact .zero
  | mem hm => exact .mem (hs _ hm)
  | and h0 h1 _ _ ia ib => exact .and h0 h1 ia ib
structure IsCut (n : Nt) (node : Int) (xs : List Int) : Prop where
  asc : xs.Pairwise (· < ·)
  len : xs.length ≤ 4
  rch : ∀ k ∈ xs, Rch n node k
  cov : Cov n xs node
def bix (v : Int) (l : Int) : Int := if l % 2 = 0 then v else 1 - v
def cbit (cut : List Int) (idx : Int) (k : Int) : Int := idx / 2 ^ (cut.idxOf k) % 2
def vaF (n : Nt) (cut : List Int) (idx : Int) : Nat → Int → Int
  | 0, _ => 0
  | f + 1, k => if k ∈ cut then cbit cut idx k else if k < n.fst then 0 else bix (vaF n cut idx f (ndA n k / 2)) (ndA n k) * bix (vaF n cut idx f (ndB n k / 2)) (ndB n k)
def va (n : Nt) (cut : List Int) (idx k : Int) : Int := vaF n cut idx (k.toNat + 1) k
structure MemoOk (n : Nt) (cut : List Int) (idx : Int) (ms : List Int) : Prop where
  len : (ms.length : Int) = n.cnt
  at_ : ∀ k, k < ms.length → ms.getD k 0 = 0 ∨ ms.getD k 0 = 1 + va n cut idx k
theorem not_mem_of {cut : List Int} {k : Int} (hj : ∀ j, j < cut.length → cut.getD j 0 ≠ k) : ¬ k ∈ cut := fun hm => by
  obtain ⟨i, hi, he⟩ := List.getElem_of_mem hm
  refine hj i hi ?_
  rw [List.getD_eq_getElem?_getD, List.getElem?_eq_getElem hi, Option.getD_some]; exact he
def xr (a : Int) : Int := if a % 2 = 0 then a + 1 else a - 1
def withG (n : Nt) (gs : List An) : Nt := { n with gs := gs }
structure AddOk (n : Nt) (gs gs' : List An) (x : Int) (k : Nat) (f : (Int → Int) → Int) : Prop where
  ext : ∃ t, gs' = gs ++ t ∧ t.length ≤ k
  ok : NtOk (withG n gs')
  lit : LtOk x (n.fst + gs'.length)
  val : ∀ (st : List Int) (inp : Int), st.length = n.ss.length → bitL (valsL (withG n gs') st inp) x = f (bitL (valsL (withG n gs) st inp))
abbrev fAnd (a b : Int) : (Int → Int) → Int := fun ev => ev a * ev b
def sqv (s : Sq) : Int × Int × List Int := (s.kd, s.it, s.xs)
def sqk (s : Sq) : Int × Int × Nat := (s.kd, s.it, s.xs.length)
def RdsSqs (w : World) (ss : List Sq) : Prop := ∀ s ∈ ss, RdsW w s.iv 1 s.xs.length (s.xs.map (Value.int .i64))
def mpL (tos : List Int) (l : Int) : Int := if l % 2 = 0 then tos.getD (l / 2).toNat 0 else xr (tos.getD (l / 2).toNat 0)
def MapOk (tos : List Int) (c m : Int) : Prop := (tos.length : Int) = c ∧ ∀ k, k < tos.length → LtOk (tos.getD k 0) m
structure Skel (n n2 : Nt) : Prop where
  ins : n2.ins = n.ins
  ss : n2.ss.map sqk = n.ss.map sqk
structure Grew (n n2 : Nt) (x : Int) : Prop where
  sk : Skel n n2
  ok : NtOk n2
  l0 : n.gs.length ≤ n2.gs.length
  l1 : n2.gs.length ≤ n.gs.length + 1
  lit : LtOk x n2.cnt
theorem flat_onesH {α : Type} (f : α → List Value) (xs : List α) (h : ∀ r u, u ∈ f r → u.oneCell' = true) : ∀ q ∈ xs.flatMap f, q.oneCell' = true := fun q hq => by
  obtain ⟨r, -, h2⟩ := List.mem_flatMap.1 hq
  exact h r q h2
structure CopyOf (n n2 : Nt) : Prop where
  ins : n2.ins = n.ins
  gs : n2.gs = n.gs
  os : n2.os = n.os
  ss : n2.ss.map sqv = n.ss.map sqv
theorem hq_eqL {N : Nat} {w0 : World} {l l' : List HP} {env : List (Nat × Value)} {Q : Post} {e : Exit} (h : l = l') (k : HQ N w0 l' env e Q) : HQ N w0 l env e Q := h ▸ k
def MkLe (bs : List Bl) (M : Int) : Prop := ∀ k : Nat, (bs.getD k bl0).b = true → (k : Int) ≤ M
theorem MkLe.set {bs : List Bl} {M : Int} (h : MkLe bs M) {j : Nat} {b : Bl} (hj : (j : Int) ≤ M) : MkLe (bs.set j b) M := fun k hk => by
  by_cases e : j = k
  · subst e; exact hj
  · rw [List.getD_eq_getElem?_getD, List.getElem?_set_ne e, ← List.getD_eq_getElem?_getD] at hk; exact h k hk
theorem MkLe.start (n : Nat) {j : Nat} {b : Bl} : MkLe ((List.replicate n bl0).set j b) j := fun k hk => by
  by_cases e : j = k
  · subst e; exact Int.le_refl _
  · rw [List.getD_eq_getElem?_getD, List.getElem?_set_ne e, List.getElem?_replicate] at hk
    split at hk <;> exact absurd hk (by decide)
theorem MkLe.startI (n : Nat) {node : Int} {b : Bl} (h0 : 0 ≤ node) : MkLe ((List.replicate n bl0).set node.toNat b) node := by
  have h9 := MkLe.start n (j := node.toNat) (b := b)
  rwa [Int.toNat_of_nonneg h0] at h9
def mkStep (n : Nt) (bs : List Bl) (i : Nat) : List Bl := if (bs.getD (n.fst + (i : Int)).toNat bl0).b = true then (bs.set ((n.gs.getD i an0).a / 2).toNat ⟨true⟩).set ((n.gs.getD i an0).b / 2).toNat ⟨true⟩ else bs
def mkD (n : Nt) (bs : List Bl) : Nat → List Bl
  | 0 => bs
  | d + 1 => mkStep n (mkD n bs d) (n.gs.length - 1 - d)
theorem mkStep_len (n : Nt) (bs : List Bl) (i : Nat) : (mkStep n bs i).length = bs.length := by unfold mkStep; split <;> simp
theorem mkD_len (n : Nt) (bs : List Bl) : ∀ d, (mkD n bs d).length = bs.length
  | 0 => rfl
  | d + 1 => by unfold mkD; rw [mkStep_len, mkD_len n bs d]
theorem mkD_le {n : Nt} (hn : NtOk n) {bs : List Bl} {M : Int} (h : MkLe bs M) : ∀ d, d ≤ n.gs.length → MkLe (mkD n bs d) M
  | 0, _ => h
  | d + 1, hd => by
    have ih := mkD_le hn h d (by omega)
    unfold mkD mkStep
    split
    · rename_i hb
      have h1 := ih _ hb
      have ha := hn.an (n.gs.length - 1 - d) (by omega)
      unfold LtOk at ha
      have hf : 0 ≤ n.fst := by have := hn.i0; unfold Nt.fst; omega
      exact (ih.set (by omega)).set (by omega)
    · exact ih
theorem mkD_next {n : Nt} {bs : List Bl} {kk : Nat} (h0 : 0 < kk) (h1 : kk ≤ n.gs.length) : mkD n bs (n.gs.length - (kk - 1)) = mkStep n (mkD n bs (n.gs.length - kk)) (kk - 1) := by
  rw [show n.gs.length - (kk - 1) = (n.gs.length - kk) + 1 by omega]
  show mkStep n _ (n.gs.length - 1 - (n.gs.length - kk)) = _
  rw [show n.gs.length - 1 - (n.gs.length - kk) = kk - 1 by omega]
theorem mkStep_yes {n : Nt} {bs : List Bl} {i : Nat} {j a b : Nat} (hj : (n.fst + (i : Int)).toNat = j) (hb : (bs.getD j bl0).b = true) (ha : ((n.gs.getD i an0).a / 2).toNat = a) (hb2 : ((n.gs.getD i an0).b / 2).toNat = b) : (bs.set a ⟨true⟩).set b ⟨true⟩ = mkStep n bs i := by
  unfold mkStep; rw [hj, if_pos hb, ha, hb2]
theorem mkStep_no {n : Nt} {bs : List Bl} {i : Nat} {j : Nat} (hj : (n.fst + (i : Int)).toNat = j) (hb : (bs.getD j bl0).b = false) : bs = mkStep n bs i := by
  unfold mkStep; rw [hj, if_neg (by rw [hb]; decide)]
def mkdL (bs : List Bl) (k : Nat) : List Int := ((List.range k).filter fun i : Nat => (bs.getD i bl0).b).map fun i : Nat => (i : Int)
theorem mkdL_yes {bs : List Bl} {k : Nat} (h : (bs.getD k bl0).b = true) : mkdL bs k ++ [(k : Int)] = mkdL bs (k + 1) := by
  unfold mkdL; rw [List.range_succ, List.filter_append, List.map_append, List.filter_cons_of_pos (p := fun i : Nat => (bs.getD i bl0).b) h]; rfl
theorem mkdL_no {bs : List Bl} {k : Nat} (h : (bs.getD k bl0).b = false) : mkdL bs k = mkdL bs (k + 1) := by
  unfold mkdL; rw [List.range_succ, List.filter_append, List.map_append, List.filter_cons_of_neg (p := fun i : Nat => (bs.getD i bl0).b) (by simpa using h)]; simp
theorem mkdL_len (bs : List Bl) (k : Nat) : (mkdL bs k).length ≤ k := by
  unfold mkdL; rw [List.length_map]; have := List.length_filter_le (fun i => (bs.getD i bl0).b) (List.range k); simpa using this
theorem mkdL_mem {bs : List Bl} {k : Nat} {x : Int} (h : x ∈ mkdL bs k) : ∃ i : Nat, x = (i : Int) ∧ i < k ∧ (bs.getD i bl0).b = true := by
  unfold mkdL at h
  simp only [List.mem_map, List.mem_filter, List.mem_range] at h
  obtain ⟨i, ⟨h1, h2⟩, rfl⟩ := h
  exact ⟨i, rfl, h1, h2⟩
def coneS (n : Nt) (node : Int) : List Int := mkdL (mkD n ((List.replicate n.cnt.toNat bl0).set node.toNat ⟨true⟩) n.gs.length) n.cnt.toNat
theorem coneS_rng {n : Nt} (hn : NtOk n) {node : Int} (h0 : 0 ≤ node) : ∀ x ∈ coneS n node, 0 ≤ x ∧ x ≤ node := fun x hx => by
  obtain ⟨i, rfl, h1, h2⟩ := mkdL_mem hx
  have := mkD_le hn (MkLe.startI n.cnt.toNat (b := ⟨true⟩) h0) n.gs.length (Nat.le_refl _) i h2
  omega
theorem coneS_len (n : Nt) (node : Int) (hc : 0 ≤ n.cnt) : ((coneS n node).length : Int) ≤ n.cnt := by
  have := mkdL_len (mkD n ((List.replicate n.cnt.toNat bl0).set node.toNat ⟨true⟩) n.gs.length) n.cnt.toNat
  unfold coneS; omega
structure SInv (s0 : List Sq) (i : Nat) (c : Int) (zs : List Sq) : Prop where
  sk : zs.map sqk = s0.map sqk
  ok : ∀ j, j < i → ∀ x ∈ (zs.getD j sq0).xs, LtOk x c
open Go.RowKit
theorem l08Mark_ret (n : Nt) (bs : List Bl) (v : Value) (w : World) (hr : RdsNt w n) (hn : NtOk n) (hv : RdsW w v 1 bs.length (bs.flatMap blC)) (hbl : (bs.length : Int) = n.cnt) :
   Calls Try.prog 51 #[.agg #[.int .i64 n.ins, n.sv, n.av, n.ov], v] w (Ret w (fun u_ p_ => p_ = [rowE 4 1 u_ (mkD n bs n.gs.length).length ((mkD n bs n.gs.length).flatMap blC)])) := by
 have hi0 := hn.i0
 have hi1 := hn.i1
 have hs1 := hn.s1
 have ha1 := hn.a1
 have ho1 := hn.o1
 have hcnt : n.cnt = 1 + n.ins + n.ss.length + n.gs.length := rfl
 have hfst : n.fst = 1 + n.ins + n.ss.length := rfl
 refine zbg (N := 44) (args := [.agg #[.int .i64 n.ins, n.sv, n.av, n.ov], v]) Try.func51 rfl rfl (srQ ?_)
 refine zei rfl (zco rfl rfl) ?_
 intro b1
 refine zbb 1 rfl (srQ ?_)
 refine zea rfl (zcl (s := 1) rfl Try.underlying62 rfl) ?_
 intro g2
 refine zab 1 rfl (zck (i := 0) (z := .bool false) (bytes := 1) (n' := bs.length) (xs' := (bs.flatMap blC)) rfl rfl rfl rfl Try.underlying62 (by kernel_rfl) rfl rfl rfl rfl (zac hv) (flat_onesH blC bs (fun r u hu => by simp [blC] at hu; first | (subst hu; rfl) | (rcases hu with rfl | rfl <;> rfl) | (rcases hu with rfl | rfl | rfl <;> rfl) | (rcases hu with rfl | rfl | rfl | rfl <;> rfl))) (by first | omega | (simp only [List.length_take, List.length_drop]; omega)) (Nat.zero_add _) (List.nil_append _) (fun _ => rfl) ?_)
 intro v3
 refine zbb 1 rfl (ssrQ (hvQ rfl (fdQ 2 rfl rfl rfl) (hvQ rfl (zan rfl rfl rfl (zah 1 rfl rfl)) (hvQ rfl (lnQ rfl rfl rfl (zac hr.an)) (hvQ rfl (vsQ rfl rfl rfl) (enQ 1 rfl ?_))))))
 refine zaj (zba ?_)
 refine hc_loop3 (α := Nat) (β := Value) (γ := List Bl) (fun kk gu zs => [rowE 4 1 gu zs.length (zs.flatMap blC), boxE b1 #[.int .i64 n.ins, n.sv, n.av, n.ov] 28]) (fun kk gu zs => [(0, .agg #[.int .i64 n.ins, n.sv, n.av, n.ov]), (1, v), (2, .pointer (some ⟨b1, 0, none⟩)), (4, .slice none 0 0), (5, gu), (6, .int .i64 ((kk : Int) - 1))]) (fun kk gu zs => kk ≤ n.gs.length ∧ zs = mkD n bs (n.gs.length - kk)) (fun kk gu zs => kk) n.gs.length _ bs ⟨Nat.le_refl _, by rw [Nat.sub_self]; rfl⟩ (saQ rfl) (pfQ rfl) ?_
 intro kk gu zs hi4
 obtain ⟨hkk, hz⟩ := hi4
 have hzl : zs.length = bs.length := by rw [hz, mkD_len]
 refine zaa (zaa (reQ 1 rfl ?_))
 refine zeh rfl rfl rfl rfl rfl rfl (fun h5 => ?_) (fun h5 => ?_)
 ·
  refine ntQ (zaq rfl (zcw (sbQ (zaa (reQ 1 rfl (hvQ rfl (zaf (cs := [.int .i64 n.ins, n.sv, n.av, n.ov]) rfl rfl rfl rfl rfl (zag 1 rfl 0 rfl)) ?_))))))
  refine zdw rfl (zas rfl rfl (fun w hm => zaz (zcs n w (hr.below hm.bel) hn))) (zab 1 rfl (hvQ rfl (vaQ rfl rfl rfl) (hvQ rfl (riQ 1 rfl rfl rfl rfl (zad 0 rfl)) ?_)))
  refine hvQ rfl (zav (u := .bool ((zs.getD ((n.fst + ((kk : Int) - 1)).toNat) bl0).b)) rfl rfl rfl (zad 0 rfl) (zbm blC (fun r => .bool r.b) (fun _ => rfl) zs bl0 (show (n.fst + ((kk : Int) - 1)).toNat < _ by omega))) (zbc (fun h6 => ?_) (fun h6 => ?_))
  ·
   have hmk := h6
   refine ntQ (zaq rfl (srQ ?_))
   have ha := hn.an ((kk : Int) - 1).toNat (by omega)
   unfold LtOk at ha
   refine zab 1 rfl (hvQ rfl (fdQ 2 rfl rfl rfl) (hvQ rfl (zan rfl rfl rfl (zah 1 rfl rfl)) (zab 1 rfl (hvQ rfl (riQ 2 rfl rfl rfl rfl (zac hr.an)) (hvQ rfl (zem (k0 := 0) rfl rfl rfl (zac hr.an) (by omega)) ?_)))))
   refine hvQ rfl (zav (u := .int .i64 ((n.gs.getD ((((kk : Int) - 1)).toNat) an0).a)) rfl rfl rfl (zac hr.an) ((zfs anC 2 (fun _ => rfl) n.gs an0 (show (((kk : Int) - 1)).toNat < _ by omega) (by decide)).trans rfl)) (hvQ rfl (zdy rfl rfl rfl (by refine ⟨?_, ?_, ?_⟩ <;> omega)) ?_)
   refine hvQ rfl (riQ 1 rfl rfl rfl rfl (zad 0 rfl)) (zdh (i := 0) (n' := (zs.set ((((n.gs.getD ((((kk : Int) - 1)).toNat) an0).a) / 2).toNat) { zs.getD ((((n.gs.getD ((((kk : Int) - 1)).toNat) an0).a) / 2).toNat) bl0 with b := true }).length) rfl rfl rfl rfl rfl rfl rfl rfl (by first | omega | (simp only [List.length_set]; omega)) List.length_set.symm (zdb blC (fun r => .bool r.b) (fun _ => rfl) _ ({ zs.getD ((((n.gs.getD ((((kk : Int) - 1)).toNat) an0).a) / 2).toNat) bl0 with b := true }) rfl) rfl ?_)
   refine ntQ (reQ 1 rfl (hvQ rfl (fdQ 2 rfl rfl rfl) (hvQ rfl (zan rfl rfl rfl (zah 1 rfl rfl)) (zab 1 rfl (hvQ rfl (riQ 2 rfl rfl rfl rfl (zac hr.an)) (hvQ rfl (zem (k0 := 1) rfl rfl rfl (zac hr.an) (by omega)) ?_))))))
   refine hvQ rfl (zav (u := .int .i64 ((n.gs.getD ((((kk : Int) - 1)).toNat) an0).b)) rfl rfl rfl (zac hr.an) ((zfs anC 2 (fun _ => rfl) n.gs an0 (show (((kk : Int) - 1)).toNat < _ by omega) (by decide)).trans rfl)) (hvQ rfl (zdy rfl rfl rfl (by refine ⟨?_, ?_, ?_⟩ <;> omega)) ?_)
   refine hvQ rfl (riQ 1 rfl rfl rfl rfl (zad 0 rfl) (by omega) (by first | omega | (simp only [List.length_set]; omega))) (zdh (i := 0) (n' := ((zs.set ((((n.gs.getD ((((kk : Int) - 1)).toNat) an0).a) / 2).toNat) { zs.getD ((((n.gs.getD ((((kk : Int) - 1)).toNat) an0).a) / 2).toNat) bl0 with b := true }).set ((((n.gs.getD ((((kk : Int) - 1)).toNat) an0).b) / 2).toNat) { (zs.set ((((n.gs.getD ((((kk : Int) - 1)).toNat) an0).a) / 2).toNat) { zs.getD ((((n.gs.getD ((((kk : Int) - 1)).toNat) an0).a) / 2).toNat) bl0 with b := true }).getD ((((n.gs.getD ((((kk : Int) - 1)).toNat) an0).b) / 2).toNat) bl0 with b := true }).length) rfl rfl rfl rfl rfl rfl rfl rfl (by first | omega | (simp only [List.length_set]; omega)) List.length_set.symm (zdb blC (fun r => .bool r.b) (fun _ => rfl) _ ({ (zs.set ((((n.gs.getD ((((kk : Int) - 1)).toNat) an0).a) / 2).toNat) { zs.getD ((((n.gs.getD ((((kk : Int) - 1)).toNat) an0).a) / 2).toNat) bl0 with b := true }).getD ((((n.gs.getD ((((kk : Int) - 1)).toNat) an0).b) / 2).toNat) bl0 with b := true }) rfl) rfl ?_)
   refine zay (zdk (reQ 1 rfl (hvQ rfl (vsQ rfl rfl rfl) (enQ 1 rfl ?_))))
   have hkn : ((kk : Int) - 1).toNat = kk - 1 := by omega
   have hz2 : (zs.set ((((n.gs.getD ((((kk : Int) - 1)).toNat) an0).a) / 2).toNat) { zs.getD ((((n.gs.getD ((((kk : Int) - 1)).toNat) an0).a) / 2).toNat) bl0 with b := true }).set ((((n.gs.getD ((((kk : Int) - 1)).toNat) an0).b) / 2).toNat) { (zs.set ((((n.gs.getD ((((kk : Int) - 1)).toNat) an0).a) / 2).toNat) { zs.getD ((((n.gs.getD ((((kk : Int) - 1)).toNat) an0).a) / 2).toNat) bl0 with b := true }).getD ((((n.gs.getD ((((kk : Int) - 1)).toNat) an0).b) / 2).toNat) bl0 with b := true } = mkD n bs (n.gs.length - (kk - 1)) := by rw [mkD_next (by omega) hkk]; exact (hz ▸ mkStep_yes (i := kk - 1) (by omega) hmk (by rw [hkn]) (by rw [hkn]))
   exact zbv (kk - 1) gu ((zs.set ((((n.gs.getD ((((kk : Int) - 1)).toNat) an0).a) / 2).toNat) { zs.getD ((((n.gs.getD ((((kk : Int) - 1)).toNat) an0).a) / 2).toNat) bl0 with b := true }).set ((((n.gs.getD ((((kk : Int) - 1)).toNat) an0).b) / 2).toNat) { (zs.set ((((n.gs.getD ((((kk : Int) - 1)).toNat) an0).a) / 2).toNat) { zs.getD ((((n.gs.getD ((((kk : Int) - 1)).toNat) an0).a) / 2).toNat) bl0 with b := true }).getD ((((n.gs.getD ((((kk : Int) - 1)).toNat) an0).b) / 2).toNat) bl0 with b := true }) ⟨by omega, hz2⟩ (by omega) (zbx [5, 4, 2, 1, 0] _ (sk 6 (congrArg (fun x => some (Value.int .i64 x)) (by omega)) (zak _)) rfl) (pfQ rfl)
  have hmk := h6
  refine ntQ (fsQ rfl (zdk (reQ 1 rfl (hvQ rfl (vsQ rfl rfl rfl) (enQ 1 rfl ?_)))))
  have hkn : ((kk : Int) - 1).toNat = kk - 1 := by omega
  have hz2 : zs = mkD n bs (n.gs.length - (kk - 1)) := by rw [mkD_next (by omega) hkk]; exact (hz ▸ mkStep_no (i := kk - 1) (by omega) hmk)
  exact zbv (kk - 1) gu zs ⟨by omega, hz2⟩ (by omega) (zbx [5, 4, 2, 1, 0] _ (sk 6 (congrArg (fun x => some (Value.int .i64 x)) (by omega)) (zak _)) rfl) (pfQ rfl)
 refine ntQ (zao rfl ?_)
 refine zbi (zep ?_)
 refine zal (zaj (zbh 2 rfl ?_))
 exact zax (zct (post := [rowE 4 1 gu zs.length (zs.flatMap blC)]) rfl rfl (slQ [0] rfl) (by rw [hz, show n.gs.length - kk = n.gs.length by omega]))
theorem Cone_ret (n : Nt) (node : Int) (w : World) (hr : RdsNt w n) (hn : NtOk n) (hnd : 0 ≤ node ∧ node < n.cnt) :
   Calls Try.prog 35 #[.agg #[.int .i64 n.ins, n.sv, n.av, n.ov], .int .i64 node] w (Ret w (fun u_ p_ => p_ = [rowE 3 1 u_ (coneS n node).length ((coneS n node).map (Value.int .i64))])) := by
 have hi0 := hn.i0
 have hi1 := hn.i1
 have hs1 := hn.s1
 have ha1 := hn.a1
 have ho1 := hn.o1
 have hcnt : n.cnt = 1 + n.ins + n.ss.length + n.gs.length := rfl
 have hfst : n.fst = 1 + n.ins + n.ss.length := rfl
 refine zbg (N := 47) (args := [.agg #[.int .i64 n.ins, n.sv, n.av, n.ov], .int .i64 node]) Try.func35 rfl rfl (srQ ?_)
 refine zei rfl (zco rfl rfl) ?_
 intro b1
 refine zbb 1 rfl (srQ ?_)
 refine zea rfl (zcl (s := 1) rfl Try.underlying26 rfl) ?_
 intro g2
 refine zbb 1 rfl (ssrQ (hvQ rfl (zaf (cs := [.int .i64 n.ins, n.sv, n.av, n.ov]) rfl rfl rfl rfl rfl (zag 1 rfl 0 rfl)) ?_))
 refine zdw rfl (zas rfl rfl (fun w hm => zaz (zey n w (hr.below hm.bel) hn))) (zab 3 rfl ?_)
 refine zbr rfl rfl rfl rfl rfl rfl (fun h3 => absurd h3 (by omega)) (fun h3 => ?_)
 refine zab 3 rfl (hvQ rfl (zaf (cs := [.int .i64 n.ins, n.sv, n.av, n.ov]) rfl rfl rfl rfl rfl (zag 1 rfl 0 rfl)) ?_)
 refine zdw rfl (zas rfl rfl (fun w hm => zaz (zbk n w (hr.below hm.bel) hn))) (zeh rfl rfl rfl rfl rfl rfl (fun h4 => absurd h4 (by omega)) (fun h4 => ?_))
 refine zbb 1 rfl (zao rfl (zcw (srQ (hvQ rfl (zaf (cs := [.int .i64 n.ins, n.sv, n.av, n.ov]) rfl rfl rfl rfl rfl (zag 1 rfl 0 rfl)) ?_))))
 refine zdw rfl (zas rfl rfl (fun w hm => zaz (zbk n w (hr.below hm.bel) hn))) (zea rfl (zff (z := .bool false) (s := 1) (bytes := 1) (n := (List.replicate (n.cnt).toNat bl0).length) (cs := ((List.replicate (n.cnt).toNat bl0).flatMap blC)) rfl Try.underlying62 rfl (by decide) rfl rfl (by first | (rw [List.length_replicate]; done) | (rw [List.length_replicate]; omega)) (by first | (rw [List.length_replicate]; done) | (rw [List.length_replicate]; omega)) (by rw [List.length_replicate]; omega) (zfh blC 1 (fun _ => rfl) bl0 _ rfl (n.cnt).toNat)) ?_)
 intro g5
 refine zbb 1 rfl (srQ ?_)
 have hrl : (List.replicate n.cnt.toNat bl0).length = n.cnt.toNat := List.length_replicate
 refine zab 2 rfl (hvQ rfl (riQ 1 rfl rfl rfl rfl (zad 0 rfl)) ?_)
 refine zdh (i := 0) (n' := ((List.replicate (n.cnt).toNat bl0).set ((node).toNat) { (List.replicate (n.cnt).toNat bl0).getD ((node).toNat) bl0 with b := true }).length) rfl rfl rfl rfl rfl rfl rfl rfl (by first | omega | (simp only [List.length_set]; omega)) List.length_set.symm (zdb blC (fun r => .bool r.b) (fun _ => rfl) _ ({ (List.replicate (n.cnt).toNat bl0).getD ((node).toNat) bl0 with b := true }) rfl) rfl (ntQ (srQ (hvQ rfl (zaf (cs := [.int .i64 n.ins, n.sv, n.av, n.ov]) rfl rfl rfl rfl rfl (zag 2 rfl 0 rfl)) (zab 1 rfl ?_))))
 refine hl_q rfl rfl rfl (zas rfl rfl (fun w hm => l08Mark_ret n ((List.replicate (n.cnt).toNat bl0).set ((node).toNat) { (List.replicate (n.cnt).toNat bl0).getD ((node).toNat) bl0 with b := true }) _ w (hr.below hm.bel) hn ((zad 0 rfl) w hm) (by first | omega | (simp only [List.length_set, List.length_replicate]; omega)))) ?_
 intro v6 p7 hR8
 subst hR8
 have hb2 : (mkD n ((List.replicate (n.cnt).toNat bl0).set ((node).toNat) { (List.replicate (n.cnt).toNat bl0).getD ((node).toNat) bl0 with b := true }) n.gs.length).length = n.cnt.toNat := by rw [mkD_len]; first | omega | (simp only [List.length_set, List.length_replicate]; done)
 refine zbb 1 rfl (zaa (zbh 1 rfl (zba ?_)))
 refine lkQ3 (α := Nat) (β := Value) (γ := List Int) [0, 1, 2, 4, 6, 21] rfl (fun k gu xs => [rowE 4 1 v6 ((mkD n ((List.replicate (n.cnt).toNat bl0).set ((node).toNat) { (List.replicate (n.cnt).toNat bl0).getD ((node).toNat) bl0 with b := true }) n.gs.length).length) ((mkD n ((List.replicate (n.cnt).toNat bl0).set ((node).toNat) { (List.replicate (n.cnt).toNat bl0).getD ((node).toNat) bl0 with b := true }) n.gs.length).flatMap blC), rowE 4 1 (.slice (some ⟨g5, 0, none⟩) ((List.replicate (n.cnt).toNat bl0).length) ((List.replicate (n.cnt).toNat bl0).length)) (((List.replicate (n.cnt).toNat bl0).set ((node).toNat) { (List.replicate (n.cnt).toNat bl0).getD ((node).toNat) bl0 with b := true }).length) (((List.replicate (n.cnt).toNat bl0).set ((node).toNat) { (List.replicate (n.cnt).toNat bl0).getD ((node).toNat) bl0 with b := true }).flatMap blC), rowE 3 1 gu xs.length (xs.map (Value.int .i64)), boxE b1 #[.int .i64 n.ins, n.sv, n.av, n.ov] 28]) (fun k gu xs => [(5, gu), (7, .int .i64 (k : Int))]) (fun k gu xs => k ≤ n.cnt.toNat ∧ xs = mkdL (mkD n ((List.replicate (n.cnt).toNat bl0).set ((node).toNat) { (List.replicate (n.cnt).toNat bl0).getD ((node).toNat) bl0 with b := true }) n.gs.length) k) (fun k gu xs => n.cnt.toNat - k) 0 _ [] ⟨Nat.zero_le _, rfl⟩ (saQ rfl) (pfQ rfl) ?_
 intro k gu xs hi9
 obtain ⟨hk, hz⟩ := hi9
 have hxl : xs.length ≤ k := by rw [hz]; exact mkdL_len _ _
 refine zaa (zaa (reQ 2 rfl (hvQ rfl (lnQ rfl rfl rfl (zad 0 rfl)) ?_)))
 refine zbr rfl rfl rfl rfl rfl rfl (fun h10 => ?_) (fun h10 => ?_)
 ·
  refine ntQ (zaq rfl (zcw (sbQ (zaa (reQ 2 rfl (hvQ rfl (riQ 1 rfl rfl rfl rfl (zad 0 rfl) (by omega) (by first | omega | (simp only [List.length_set]; omega))) ?_))))))
  refine hvQ rfl (zav (u := .bool (((mkD n ((List.replicate (n.cnt).toNat bl0).set ((node).toNat) { (List.replicate (n.cnt).toNat bl0).getD ((node).toNat) bl0 with b := true }) n.gs.length).getD k bl0).b)) rfl rfl rfl (zad 0 rfl) (zbm blC (fun r => .bool r.b) (fun _ => rfl) (mkD n ((List.replicate (n.cnt).toNat bl0).set ((node).toNat) { (List.replicate (n.cnt).toNat bl0).getD ((node).toNat) bl0 with b := true }) n.gs.length) bl0 (show k < _ by first | omega | (simp only [List.length_set]; omega)))) (zbc (fun h11 => ?_) (fun h11 => ?_))
  ·
   have hmk := h11
   refine ntQ (zaq rfl (reQ 2 rfl ?_))
   refine zea rfl (zaw (z := .int .i64 0) (s := 1) (cs := ([(k : Int)].map (Value.int .i64))) rfl Try.underlying26 rfl (by decide) rfl (by kernel_rfl) rfl) ?_
   intro g12
   refine zck (i := 3) (z := .int .i64 0) (bytes := 8) rfl rfl rfl rfl Try.underlying26 (by kernel_rfl) rfl rfl rfl rfl (zad 0 rfl) (zca _) (by first | omega | (simp; done) | (simp; omega)) (zcc xs ([(k : Int)])) (zcv xs ([(k : Int)])) (fun _ => rfl) ?_
   intro v13
   refine enQ 1 rfl (zdk (reQ 1 rfl (hvQ rfl (vaQ rfl rfl rfl) (enQ 1 rfl ?_))))
   exact zbv (k + 1) v13 (xs ++ ([(k : Int)])) ⟨by omega, by rw [hz]; exact mkdL_yes hmk⟩ (by omega) (saQ rfl) (slQ [1, 0, 0, 0] rfl)
  have hmk := h11
  refine ntQ (fsQ rfl (zdk (reQ 1 rfl (hvQ rfl (vaQ rfl rfl rfl) (enQ 1 rfl ?_)))))
  exact zbv (k + 1) gu xs ⟨by omega, by rw [hz]; exact mkdL_no hmk⟩ (by omega) (saQ rfl) (pfQ rfl)
 refine ntQ (zao rfl ?_)
 refine zbi (zep ?_)
 refine zal (zaj (zbh 2 rfl ?_))
 exact zax (zct (post := [rowE 3 1 gu xs.length (xs.map (Value.int .i64))]) rfl rfl (slQ [2] rfl) (by rw [hz, show k = n.cnt.toNat by omega]; rfl))
open Go.RowKit
theorem nodup_rng : ∀ (N : Nat) (ns : List Int), ns.Nodup → (∀ x ∈ ns, 0 ≤ x ∧ x < N) → ns.length ≤ N
  | 0, [], _, _ => Nat.le_refl _
  | 0, x :: t, _, hr => by have := hr x List.mem_cons_self; omega
  | N + 1, ns, hn, hr => by
    have h1 : (ns.erase (N : Int)).Nodup := hn.erase _
    have h2 := nodup_rng N (ns.erase (N : Int)) h1 (fun x hx => by
      have hm := (hn.mem_erase_iff).1 hx
      have := hr x hm.2
      have hne := hm.1
      omega)
    by_cases c : (N : Int) ∈ ns
    · rw [List.length_erase_of_mem c] at h2
      omega
    · rw [List.erase_of_not_mem c] at h2; omega
structure Srch (c : Nat) (back queue : List Int) : Prop where
  len : back.length = c
  rng : ∀ x ∈ queue, 0 ≤ x ∧ x < c
  nodup : queue.Nodup
  set : ∀ x ∈ queue, back.getD x.toNat 0 ≠ -2
  prec : ∀ j, j < c → back.getD j 0 = -2 ∨ ((j : Int) ∈ queue ∧ (back.getD j 0 = -1 ∨ (back.getD j 0 ∈ queue ∧ queue.idxOf (back.getD j 0) < queue.idxOf (j : Int))))
theorem getD_rep' {α : Type} {d x : α} {n i : Nat} (h : i < n) : (List.replicate n x).getD i d = x := by
  rw [List.getD_eq_getElem?_getD, List.getElem?_replicate, if_pos h]; rfl
theorem Srch.start (c : Nat) : Srch c (List.replicate c (-2)) [] := ⟨by simp, fun x hx => (by cases hx), by simp, fun x hx => (by cases hx), fun j hj => .inl (getD_rep' hj)⟩
theorem Srch.qlen {c : Nat} {back queue : List Int} (h : Srch c back queue) : queue.length ≤ c := nodup_rng c queue h.nodup h.rng
theorem Srch.at {c : Nat} {back queue : List Int} (h : Srch c back queue) {q : Nat} (hq : q < queue.length) : 0 ≤ queue.getD q 0 ∧ queue.getD q 0 < c := h.rng _ (zbj hq)
theorem Srch.put {c : Nat} {back queue : List Int} (h : Srch c back queue) {y x : Int} (hy : 0 ≤ y ∧ y < c) (hb : back.getD y.toNat 0 = -2) (hx : x = -1 ∨ x ∈ queue) : Srch c (back.set y.toNat x) (queue ++ [y]) := by
  have hl := h.len
  have hn : ¬ y ∈ queue := fun hm => h.set y hm hb
  have hx2 : x ≠ -2 := by
    rcases hx with e | e
    · omega
    · have := h.rng x e; omega
  have hget : ∀ j, j < c → (back.set y.toNat x).getD j 0 = if y.toNat = j then x else back.getD j 0 := fun j hj => by
    by_cases e : y.toNat = j
    · subst e; rw [if_pos rfl, zbn (by omega)]
    · rw [if_neg e, List.getD_eq_getElem?_getD, List.getElem?_set_ne e, ← List.getD_eq_getElem?_getD]
  refine ⟨by rw [List.length_set]; exact hl, fun z hz => ?_, ?_, fun z hz => ?_, fun j hj => ?_⟩
  · rcases List.mem_append.1 hz with hz | hz
    · exact h.rng z hz
    · rw [List.mem_singleton] at hz; subst hz; exact hy
  · rw [List.nodup_append]
    refine ⟨h.nodup, by simp, fun a ha b hb2 e => ?_⟩
    rw [List.mem_singleton] at hb2
    subst hb2; subst e; exact hn ha
  · have hz' : 0 ≤ z ∧ z < c := by
      rcases List.mem_append.1 hz with hz | hz
      · exact h.rng z hz
      · rw [List.mem_singleton] at hz; subst hz; exact hy
    rw [hget _ (by omega)]
    split
    · exact hx2
    · rename_i hne
      rcases List.mem_append.1 hz with hz | hz
      · exact h.set z hz
      · rw [List.mem_singleton] at hz; subst hz; exact absurd rfl hne
  · rw [hget j hj]
    by_cases e : y.toNat = j
    · rw [if_pos e]
      have ej : (j : Int) = y := by omega
      refine .inr ⟨by rw [ej]; exact List.mem_append_right _ (List.mem_singleton.2 rfl), ?_⟩
      rcases hx with e1 | e1
      · exact .inl e1
      · refine .inr ⟨List.mem_append_left _ e1, ?_⟩
        rw [ej, List.idxOf_append, if_pos e1, List.idxOf_append, if_neg hn]
        have := List.idxOf_lt_length_of_mem e1
        omega
    · rw [if_neg e]
      rcases h.prec j hj with e1 | ⟨hm, e1⟩
      · exact .inl e1
      · refine .inr ⟨List.mem_append_left _ hm, ?_⟩
        rcases e1 with e1 | ⟨hm2, e1⟩
        · exact .inl e1
        · refine .inr ⟨List.mem_append_left _ hm2, ?_⟩
          rw [List.idxOf_append, if_pos hm2, List.idxOf_append, if_pos hm]; exact e1
structure BackOk (c : Nat) (back : List Int) : Prop where
  len : back.length = c
  rng : ∀ j, j < c → -2 ≤ back.getD j 0 ∧ back.getD j 0 < c
  rank : ∃ r : Nat → Nat, ∀ j, j < c → 0 ≤ back.getD j 0 → r (back.getD j 0).toNat < r j
def NxOk (c : Nat) (xs : List Int) : Prop := ∀ x ∈ xs, 0 ≤ x ∧ x < c
def AbOk (c : Int) (ab : List Int) : Prop := (ab.length : Int) = c ∧ ∀ k, k < ab.length → -1 ≤ ab.getD k 0 ∧ ab.getD k 0 < c
theorem AbOk.start {c : Int} (hc : 1 ≤ c) : AbOk c (List.replicate c.toNat 0) := ⟨by rw [List.length_replicate]; omega, fun k hk => by rw [List.length_replicate] at hk; rw [getD_rep' hk]; omega⟩
theorem AbOk.set {c : Int} {ab : List Int} (h : AbOk c ab) {k : Nat} {x : Int} (hx : -1 ≤ x ∧ x < c) : AbOk c (ab.set k x) := by
  refine ⟨by rw [List.length_set]; exact h.1, fun j hj => ?_⟩
  rw [List.length_set] at hj
  by_cases e : k = j
  · subst e; rw [zbn hj]; exact hx
  · rw [List.getD_eq_getElem?_getD, List.getElem?_set_ne e, ← List.getD_eq_getElem?_getD]; exact h.2 j hj
structure LbOk (n : Nt) (i : Nat) (ls : List Int) : Prop where
  len : (ls.length : Int) = n.cnt
  at_ : ∀ k, k < ls.length → 0 ≤ ls.getD k 0 ∧ ls.getD k 0 ≤ k
abbrev kdA (n : Nt) (k : Int) : Int := ndA n k / 2
abbrev kdB (n : Nt) (k : Int) : Int := ndB n k / 2
abbrev lbI (ls : List Int) (k : Int) : Int := ls.getD k.toNat 0
theorem zfv {n : Nt} (hn : NtOk n) {k : Int} (h0 : n.fst ≤ k) (h1 : k < n.cnt) : 1 ≤ n.fst ∧ 0 ≤ kdA n k ∧ kdA n k < k ∧ 0 ≤ kdB n k ∧ kdB n k < k := by
  obtain ⟨o1, o2, o3, o4, o5, o6⟩ := nd_ok hn h0 h1
  have hf : 1 ≤ n.fst := by have := hn.i0; unfold Nt.fst; omega
  unfold kdA kdB
  omega
structure SepC (n : Nt) (ls : List Int) (node h : Int) (C : List Int) : Prop where
  lo : ∀ c ∈ C, (0 ≤ c ∧ c < node) ∧ lbI ls c < h
  cov : Cov n C node
def SepEx (n : Nt) (ls : List Int) (node h : Int) : Prop := ∃ C : List Int, C.length ≤ 4 ∧ SepC n ls node h C
theorem SepC.up {n : Nt} {ls : List Int} {node h h' : Int} {C : List Int} (hs : SepC n ls node h C) (hh : h ≤ h') : SepC n ls node h' C := ⟨fun c hc => ⟨(hs.lo c hc).1, by have := (hs.lo c hc).2; omega⟩, hs.cov⟩
theorem SepEx.up {n : Nt} {ls : List Int} {node h h' : Int} (hs : SepEx n ls node h) (hh : h ≤ h') : SepEx n ls node h' := by
  obtain ⟨C, h1, h2⟩ := hs; exact ⟨C, h1, h2.up hh⟩
theorem SepC.congr {n : Nt} {ls ls' : List Int} {node h : Int} {C : List Int} (hs : SepC n ls node h C) (e : ∀ j : Int, 0 ≤ j → j < node → lbI ls' j = lbI ls j) : SepC n ls' node h C :=
  ⟨fun c hc => ⟨(hs.lo c hc).1, by rw [e c (hs.lo c hc).1.1 (hs.lo c hc).1.2]; exact (hs.lo c hc).2⟩, hs.cov⟩
theorem zgc {n : Nt} {ls ls' : List Int} {node h : Int} (e : ∀ j : Int, 0 ≤ j → j < node → lbI ls' j = lbI ls j) : SepEx n ls node h ↔ SepEx n ls' node h :=
  ⟨fun ⟨C, h1, h2⟩ => ⟨C, h1, h2.congr e⟩, fun ⟨C, h1, h2⟩ => ⟨C, h1, h2.congr fun j h0 h1 => (e j h0 h1).symm⟩⟩
theorem cov_low {n : Nt} (hn : NtOk n) {C : List Int} {k : Int} (h : Cov n C k) : ∀ m : Int, 0 ≤ k → k ≤ m → Cov n (C.filter fun c => decide (c ≤ m)) k := by
  induction h with
  | zero => intro m _ _; exact .zero
  | mem hm => intro m _ hk; exact .mem (List.mem_filter.2 ⟨hm, by simpa using hk⟩)
  | and h0 h1 _ _ ia ib =>
    intro m hk hm
    obtain ⟨o1, o2, o3, o4, o5⟩ := zfv hn h0 h1
    exact .and h0 h1 (ia m o2 (by unfold kdA at o3; omega)) (ib m o4 (by unfold kdB at o5; omega))
def mxL (n : Nt) (ls : List Int) (k : Int) : Int := max 1 (max (lbI ls (kdA n k)) (lbI ls (kdB n k)))
structure LabL (n : Nt) (m : Int) (ls : List Int) : Prop where
  leaf : ∀ k : Int, 0 ≤ k → k < n.fst → k < m → lbI ls k = 0
  and_ : ∀ k : Int, n.fst ≤ k → k < m → (lbI ls k = mxL n ls k ∧ SepEx n ls k (mxL n ls k)) ∨ (lbI ls k = mxL n ls k + 1 ∧ ¬ SepEx n ls k (mxL n ls k))
theorem LabL.nn {n : Nt} (hn : NtOk n) {m : Int} {ls : List Int} (h : LabL n m ls) {k : Int} (h0 : 0 ≤ k) (hm : k < m) : 0 ≤ lbI ls k ∧ (n.fst ≤ k → 1 ≤ lbI ls k) := by
  by_cases c : n.fst ≤ k
  · have : 1 ≤ mxL n ls k := by unfold mxL; omega
    rcases h.and_ k c hm with ⟨e, -⟩ | ⟨e, -⟩ <;> (rw [e]; constructor <;> omega)
  · rw [h.leaf k h0 (by omega) hm]; exact ⟨Int.le_refl _, fun h => absurd h c⟩
theorem LabL.kids {n : Nt} {m : Int} {ls : List Int} (h : LabL n m ls) {k : Int} (h0 : n.fst ≤ k) (hm : k < m) : lbI ls (kdA n k) ≤ lbI ls k ∧ lbI ls (kdB n k) ≤ lbI ls k := by
  have : lbI ls (kdA n k) ≤ mxL n ls k ∧ lbI ls (kdB n k) ≤ mxL n ls k := by unfold mxL; omega
  rcases h.and_ k h0 hm with ⟨e, -⟩ | ⟨e, -⟩ <;> (rw [e]; omega)
theorem sep_kids {n : Nt} (hn : NtOk n) {ls : List Int} {k h : Int} (h0 : n.fst ≤ k) (h1 : k < n.cnt) (ha : lbI ls (kdA n k) < h) (hb : lbI ls (kdB n k) < h) : SepEx n ls k h := by
  obtain ⟨o1, o2, o3, o4, o5⟩ := zfv hn h0 h1
  refine ⟨[kdA n k, kdB n k], by simp, fun c hc => ?_, .and h0 h1 (.mem (by simp)) (.mem (by simp))⟩
  simp only [List.mem_cons, List.not_mem_nil, or_false] at hc
  rcases hc with rfl | rfl
  · exact ⟨⟨o2, o3⟩, ha⟩
  · exact ⟨⟨o4, o5⟩, hb⟩
theorem sep_iff {n : Nt} (hn : NtOk n) {m : Int} {ls : List Int} (hL : LabL n m ls) (hm : m ≤ n.cnt) : ∀ (f : Nat) (k h : Int), k.toNat < f → n.fst ≤ k → k < m → 1 ≤ h → (SepEx n ls k h ↔ lbI ls k ≤ h)
  | 0, _, _, hf, _, _, _ => absurd hf (by omega)
  | f + 1, k, h, hf, h0, hk, h1 => by
    obtain ⟨o1, o2, o3, o4, o5⟩ := zfv hn h0 (by omega)
    constructor
    · rintro hs
      have hcase : h < mxL n ls k → False := fun hlt => by
        -- a kid with that label
        obtain ⟨c, hc, hcl⟩ : ∃ c, (c = kdA n k ∨ c = kdB n k) ∧ lbI ls c = mxL n ls k := by
          unfold mxL at *
          by_cases e : lbI ls (kdA n k) ≤ lbI ls (kdB n k)
          · exact ⟨kdB n k, .inr rfl, by omega⟩
          · exact ⟨kdA n k, .inl rfl, by omega⟩
        have hc0 : 0 ≤ c ∧ c < k := by rcases hc with rfl | rfl <;> exact ⟨by assumption, by assumption⟩
        obtain ⟨C, hl, hC⟩ := hs
        have hcC : ¬ c ∈ C := fun e => by have := (hC.lo c e).2; omega
        have hnk : ¬ k ∈ C := fun e => by have := (hC.lo k e).1.2; omega
        have hcov : Cov n C c := by
          have := hC.cov
          cases this with
          | zero => omega
          | mem e => exact absurd e hnk
          | and _ _ a b => rcases hc with rfl | rfl <;> assumption
        have hcf : n.fst ≤ c := by
          by_cases e : n.fst ≤ c
          · exact e
          · have := hL.leaf c hc0.1 (by omega) (by omega); omega
        have hex : SepEx n ls c h := by
          have hcv := cov_low hn hcov c hc0.1 (Int.le_refl _)
          have hss : ∀ x ∈ C.filter (fun x => decide (x ≤ c)), x ∈ C ∧ x < c := fun x hx => by
            obtain ⟨h3, h4⟩ := List.mem_filter.1 hx
            have h4 := of_decide_eq_true h4
            have : x ≠ c := fun e => hcC (e ▸ h3)
            exact ⟨h3, by omega⟩
          exact ⟨_, by have := List.length_filter_le (fun x => decide (x ≤ c)) C; omega, fun x hx => ⟨⟨(hC.lo x (hss x hx).1).1.1, (hss x hx).2⟩, (hC.lo x (hss x hx).1).2⟩, hcv⟩
        have := (sep_iff hn hL hm f c h (by omega) hcf (by omega) h1).1 hex
        omega
      rcases hL.and_ k h0 hk with ⟨e, -⟩ | ⟨e, he⟩
      · rw [e]
        by_cases c : h < mxL n ls k
        · exact (hcase c).elim
        · omega
      · by_cases c : h ≤ mxL n ls k
        · exact absurd (hs.up c) he
        · omega
    · intro hh
      rcases hL.and_ k h0 hk with ⟨e, he⟩ | ⟨e, -⟩
      · exact he.up (by omega)
      · exact sep_kids hn h0 (by omega) (by unfold mxL at e; omega) (by unfold mxL at e; omega)
theorem labL_one {n : Nt} (hn : NtOk n) {m : Int} {ls ls' : List Int} (hL : LabL n m ls) (hL' : LabL n m ls') (hm : m ≤ n.cnt) : ∀ (f : Nat) (k : Int), k.toNat < f → 0 ≤ k → k < m → lbI ls' k = lbI ls k
  | 0, _, hf, _, _ => absurd hf (by omega)
  | f + 1, k, hf, h0, hk => by
    by_cases c : n.fst ≤ k
    · obtain ⟨o1, o2, o3, o4, o5⟩ := zfv hn c (by omega)
      have ih := fun j (hj : 0 ≤ j) (hjk : j < k) => labL_one hn hL hL' hm f j (by omega) hj (by omega)
      have e1 : mxL n ls' k = mxL n ls k := by unfold mxL; rw [ih _ o2 o3, ih _ o4 o5]
      have e2 := zgc (n := n) (h := mxL n ls k) (fun j hj hjk => ih j hj hjk)
      rcases hL.and_ k c hk with ⟨a, b⟩ | ⟨a, b⟩ <;> rcases hL'.and_ k c hk with ⟨a', b'⟩ | ⟨a', b'⟩
      · rw [a, a', e1]
      · rw [e1] at b'; exact absurd (e2.1 b) b'
      · rw [e1] at b'; exact absurd (e2.2 b') b
      · rw [a, a', e1]
    · rw [hL.leaf k h0 (by omega) hk, hL'.leaf k h0 (by omega) hk]
theorem zdx {n : Nt} (hn : NtOk n) {ls ls' : List Int} (hl : (ls.length : Int) = n.cnt) (hl' : (ls'.length : Int) = n.cnt) (hL : LabL n n.cnt ls) (hL' : LabL n n.cnt ls') : ls' = ls := by
  refine List.ext_getElem (by omega) fun i h1 h2 => ?_
  have := labL_one hn hL hL' (Int.le_refl _) (i + 1) (i : Int) (by simp) (by omega) (by omega)
  unfold lbI at this
  rw [Int.toNat_natCast, List.getD_eq_getElem?_getD, List.getD_eq_getElem?_getD, List.getElem?_eq_getElem h1, List.getElem?_eq_getElem h2] at this
  exact this
theorem LabL.start (n : Nt) (N : Nat) : LabL n n.fst (List.replicate N 0) := ⟨fun k _ _ _ => by
  unfold lbI; rw [List.getD_eq_getElem?_getD, List.getElem?_replicate]; split <;> rfl, fun k h0 h1 => absurd h1 (by omega)⟩
theorem zfd {ls : List Int} {j k : Int} {x : Int} (h0 : 0 ≤ j) (h1 : 0 ≤ k) (h : j ≠ k) : lbI (ls.set k.toNat x) j = lbI ls j := by
  unfold lbI; rw [List.getD_eq_getElem?_getD, List.getElem?_set_ne (by omega), ← List.getD_eq_getElem?_getD]
theorem LabL.step {n : Nt} (hn : NtOk n) {k : Int} {ls : List Int} (h : LabL n k ls) (h0 : n.fst ≤ k) (h1 : k < n.cnt) (hl : (ls.length : Int) = n.cnt) {x : Int}
    (hx : (x = mxL n ls k ∧ SepEx n ls k (mxL n ls k)) ∨ (x = mxL n ls k + 1 ∧ ¬ SepEx n ls k (mxL n ls k))) : LabL n (k + 1) (ls.set k.toNat x) := by
  obtain ⟨o1, o2, o3, o4, o5⟩ := zfv hn h0 h1
  have hne : ∀ j : Int, 0 ≤ j → j < k → lbI (ls.set k.toNat x) j = lbI ls j := fun j hj hjk => zfd hj (by omega) (by omega)
  have hself : lbI (ls.set k.toNat x) k = x := by unfold lbI; rw [zbn (by omega)]
  refine ⟨fun j hj hjf hjk => ?_, fun j hj hjk => ?_⟩
  · rw [hne j hj (by omega)]; exact h.leaf j hj hjf (by omega)
  · by_cases e : j = k
    · subst e
      have e1 : mxL n (ls.set j.toNat x) j = mxL n ls j := by unfold mxL; rw [hne _ o2 o3, hne _ o4 o5]
      rw [hself, e1, ← zgc (n := n) (h := mxL n ls j) hne]; exact hx
    · have hjk2 : j < k := by omega
      obtain ⟨p1, p2, p3, p4, p5⟩ := zfv hn hj (by omega)
      have e1 : mxL n (ls.set k.toNat x) j = mxL n ls j := by unfold mxL; rw [hne _ p2 (by omega), hne _ p4 (by omega)]
      rw [hne j (by omega) hjk2, e1, ← zgc (n := n) (node := j) (h := mxL n ls j) (fun i hi hij => hne i hi (by omega))]
      exact h.and_ j hj hjk2
theorem ok_world {τ : Type} {a a' : τ} {w w' : World} (h : Result.ok a w = Result.ok a' w') : w = w' := by injection h
def rdSelf (v : Value) : Option (DataW Value × List MemPlace) := some (.held v, [])
def MpW (P : Program) (w : World) {α β : Type} (k : TypeId) (kf : α → Value) (vf : β → Value) (b n : Nat) (F : α → Option β) : Prop :=
  ∃ D : DataW Value, w.ownsMap P k rdSelf b n D ∧ IsMap D ∧ ∀ x kl, keyOf P k (kf x) = some kl → ∀ zd, D.atKey kl zd = match F x with | some y => .held (vf y) | none => zd
def mpE (P : Program) {α β : Type} (k : TypeId) (kf : α → Value) (vf : β → Value) (b n : Nat) (F : α → Option β) : HP := ⟨fun j => j = b, fun w => MpW P w k kf vf b n F⟩
section
variable {P : Program} {α β : Type} {k : TypeId} {kf : α → Value} {vf : β → Value}
theorem MpW.stay {w w' : World} {b n : Nat} {F : α → Option β} (h : MpW P w k kf vf b n F) (hb : w'.heap[b]? = w.heap[b]?) : MpW P w' k kf vf b n F := by
  obtain ⟨D, ⟨es, clock, h1, h2⟩, h3, h4⟩ := h
  exact ⟨D, ⟨es, clock, hb.trans h1, h2⟩, h3, h4⟩
theorem MpW.lt {w : World} {b n : Nat} {F : α → Option β} (h : MpW P w k kf vf b n F) : b < w.heap.size := by
  obtain ⟨D, h1, -⟩ := h; exact h1.lt
theorem MpW.below {w w' : World} {b n : Nat} {F : α → Option β} (h : MpW P w k kf vf b n F) (hb : Below w.heap.size w w') : MpW P w' k kf vf b n F := h.stay (hb.block b h.lt)
theorem mpE_ok (b n : Nat) (F : α → Option β) : (mpE P k kf vf b n F).Ok := fun w w' hs hf h => MpW.stay h (hf b rfl)
def mpV (vf : β → Value) (z : Value) : Option β → Value
  | some y => vf y
  | none => z
theorem MpW.look {w : World} {b n : Nat} {F : α → Option β} (h : MpW P w k kf vf b n F) (K : Keyed P k) {t e : TypeId} (ht : P.underlying t = some (.map k e)) {z : Value} (hz : (zeroValue e).run P w = .ok z w) (c : Bool) {x : α} {kl : Lit} (hk : keyOf P k (kf x) = some kl) :
    (Instr.lookup t (.map (some b)) (kf x) c).run P w = .ok (if c then .tuple #[mpV vf z (F x), .bool (F x).isSome] else mpV vf z (F x)) w := by
  obtain ⟨D, ⟨es, clock, hb, hF, -, rfl⟩, -, hat⟩ := h
  have h1 := hat x kl hk
  rcases fit_look c K ht hz hb hF hk with ⟨hrun, -, h2⟩ | ⟨e0, y, -, -, hrun, hR, h2, -⟩
  · cases hf : F x with
    | none => rw [hrun]; cases c <;> rfl
    | some v =>
      have h3 := (h1 .nil).symm.trans (h2 .nil)
      rw [hf] at h3; cases h3
  · have h4 : y.1 = .held e0.val := by unfold rdSelf at hR; cases hR; rfl
    cases hf : F x with
    | none =>
      have h3 := (h1 .nil).symm.trans (h2 .nil)
      rw [hf, h4] at h3; cases h3
    | some v =>
      have h3 := (h1 .nil).symm.trans (h2 .nil)
      rw [hf, h4] at h3
      simp only [DataW.held.injEq] at h3
      rw [hrun, ← h3]; cases c <;> rfl
open Classical in
noncomputable def mpU (F : α → Option β) (x : α) (y : β) : α → Option β := fun x' => if x' = x then some y else F x'
theorem zge (F : α → Option β) (x : α) (y : β) : mpU F x y x = some y := if_pos rfl
theorem mpU_ne (F : α → Option β) {x x' : α} (y : β) (h : x' ≠ x) : mpU F x y x' = F x' := if_neg h
theorem MpW.put_at {D : DataW Value} {F : α → Option β} (K : Keyed P k) (hinj : ∀ x x', kf x = kf x' → x = x') (hD : IsMap D) (hat : ∀ x kl, keyOf P k (kf x) = some kl → ∀ zd, D.atKey kl zd = match F x with | some y => .held (vf y) | none => zd)
    {x : α} {y : β} {kl : Lit} (hk : keyOf P k (kf x) = some kl) : ∀ x' kl', keyOf P k (kf x') = some kl' → ∀ zd, (D.put kl (.held (vf y))).atKey kl' zd = match mpU F x y x' with | some y => .held (vf y) | none => zd := fun x' kl' hk' zd => by
  by_cases e : x' = x
  · subst e
    have : kl' = kl := Option.some.inj (hk'.symm.trans hk)
    subst this
    rw [atKey_put_same hD (K.key hk), zge]
  · have hne : kl' ≠ kl := fun q => e (hinj _ _ (K.inj (by rw [hk', q]) hk))
    rw [atKey_put_other hne, hat x' kl' hk', mpU_ne _ _ e]
theorem MpW.upd {w : World} {b n : Nat} {F : α → Option β} (h : MpW P w k kf vf b n F) (K : Keyed P k) (hinj : ∀ x x', kf x = kf x' → x = x') {t e : TypeId} (ht : P.underlying t = some (.map k e)) (hn : n < maxLen) {x : α} {y : β} {kl : Lit} (hk : keyOf P k (kf x) = some kl) :
    ∃ w', (Instr.mapUpdate t (.map (some b)) (kf x) (vf y)).run P w = .ok () w' ∧ MpW P w' k kf vf b (n + 1) (mpU F x y) ∧ w.grownBy w' (some b) := by
  obtain ⟨D, hown, hD, hat⟩ := h
  obtain ⟨w', hrun, ho, hg⟩ := hown.update K ht hn hk (show rdSelf (vf y) = some (.held (vf y), []) from rfl)
  refine ⟨w', hrun, ⟨_, ho, ?_, MpW.put_at K hinj hD hat hk⟩, hg⟩
  obtain ⟨es, rfl⟩ := hD; exact ⟨_, rfl⟩
theorem MpW.none_of {w : World} {b : Nat} {F : α → Option β} (K : Keyed P k) {t e : TypeId} (ht : P.underlying t = some (.map k e)) {z : Value} (hz : (zeroValue e).run P w = .ok z w) {es : Array MapEntry} {clock : Nat} (hb : w.heap[b]? = some (.map es clock)) (hF : Go.WideElems.Fit P k rdSelf es clock)
    (hat : ∀ x kl, keyOf P k (kf x) = some kl → ∀ zd, (DataW.map ((es.toList.map (Go.WideElems.rg P k rdSelf)).foldr DataW.insert [])).atKey kl zd = match F x with | some y => .held (vf y) | none => zd) {x : α} {kl : Lit} (hk : keyOf P k (kf x) = some kl) (hno : ∀ e ∈ es.toList, e.key ≠ kf x) : F x = none := by
  rcases fit_look false K ht hz hb hF hk with ⟨-, -, h2⟩ | ⟨e0, y, h0, h1, -⟩
  · cases hf : F x with
    | none => rfl
    | some v =>
      have h3 := (hat x kl hk .nil).symm.trans (h2 .nil)
      rw [hf] at h3; cases h3
  · exact absurd h1 (hno e0 h0)
theorem MpW.bump {w : World} {b n : Nat} {F : α → Option β} (h : MpW P w k kf vf b n F) (K : Keyed P k) (KL : Go.WideMaps.KeyLaw P k) (hinj : ∀ x x', kf x = kf x' → x = x') {t e : TypeId} (ht : P.underlying t = some (.map k e)) {y0 : β} (hz : ∀ u : World, (zeroValue e).run P u = .ok (vf y0) u) (hn : n < maxLen) {x : α} {kl : Lit} (hk : keyOf P k (kf x) = some kl) :
    ∃ v0 st w1, (Instr.mapEntry t (.map (some b)) (kf x)).run P w = .ok (.tuple #[v0, goInt st]) w1 ∧ w.grownBy w1 (some b) ∧ w1.heap.size = w.heap.size ∧
      (Instr.lookup t (.map (some b)) (kf x) false).run P w1 = .ok (vf ((F x).getD y0)) w1 ∧
      ∀ (w2 : World) (y : β), w2.heap[b]? = w1.heap[b]? → ∃ w', (Instr.entryStore t (.map (some b)) (goInt st) (vf y)).run P w2 = .ok () w' ∧ w2.grownBy w' (some b) ∧ MpW P w' k kf vf b (n + 1) (mpU F x y) := by
  have h0 := h
  obtain ⟨D, ⟨es, clock, hb, hF, hsz, rfl⟩, hD, hat⟩ := h
  obtain ⟨v0, st, es1, clock1, hrun, -, hlater⟩ := Go.WideElems.entry_then_store (R := rdSelf) KL ht hz hb hF hk
  have hb1 : (setBlock w b (.map es1 clock1)).heap[b]? = some (.map es1 clock1) := heap_setBlock_same hb _
  have hg1 : w.grownBy (setBlock w b (.map es1 clock1)) (some b) := ⟨rfl, rfl, rfl, by simp [setBlock], fun i _ hi => heap_setBlock_other hb _ (fun e => hi (by rw [e]))⟩
  refine ⟨v0, st, _, hrun, hg1, by simp [setBlock], ?_, fun w2 y hw2 => ?_⟩
  · rcases KL.find w hk es.toList hF.keys with ⟨h1, h2⟩ | ⟨j, e0, h1, h2, h3⟩
    · have hmine : (Instr.mapEntry t (.map (some b)) (kf x)).run P w = .ok (.tuple #[vf y0, goInt clock]) (setBlock w b (.map (es.push ⟨kf x, vf y0, clock⟩) (clock + 1))) := by
        simp [Instr.mapEntry, run_underlying ht, Go.MapKept.run_getObj_map hb, KL.check w false hk, h1, hz, Go.MapKept.run_setObj_map _ hb, Result.andThen, setBlock]
      have hupd : (Instr.mapUpdate t (.map (some b)) (kf x) (vf y0)).run P w = .ok () (setBlock w b (.map (es.push ⟨kf x, vf y0, clock⟩) (clock + 1))) := by
        simp [Instr.mapUpdate, run_underlying ht, Go.MapKept.run_getObj_map hb, KL.check w false hk, h1, Go.MapKept.run_setObj_map _ hb, Result.andThen, setBlock]
      have hw1 : setBlock w b (.map es1 clock1) = setBlock w b (.map (es.push ⟨kf x, vf y0, clock⟩) (clock + 1)) := ok_world (hrun.symm.trans hmine)
      obtain ⟨w', hr', hM, -⟩ := h0.upd K hinj ht hn (y := y0) hk
      have hw' : w' = setBlock w b (.map (es.push ⟨kf x, vf y0, clock⟩) (clock + 1)) := ok_world (hr'.symm.trans hupd)
      have hn0 : F x = none := MpW.none_of K ht (hz w) hb hF hat hk h2
      have hl := hM.look K ht (hz w') false hk
      rw [zge] at hl
      rw [hw1, ← hw', hn0]
      exact hl
    · have hj : es[j]? = some e0 := by simpa using h2
      have hsame : es.modify j (fun e => { e with key := kf x }) = es := by
        apply Array.ext'
        rw [Array.toList_modify, Go.ChangeMaps.modify_eq_set _ _ _ _ h2]
        have : ({ e0 with key := kf x } : MapEntry) = e0 := by rw [← h3]
        rw [this]
        exact Go.WideElems.set_self _ _ _ h2
      have hmine : (Instr.mapEntry t (.map (some b)) (kf x)).run P w = .ok (.tuple #[e0.val, goInt e0.born]) (setBlock w b (.map es clock)) := by
        simp [Instr.mapEntry, run_underlying ht, Go.MapKept.run_getObj_map hb, KL.check w false hk, h1, hj, h3, KL.stays w hk, hsame, Go.MapKept.run_setObj_map _ hb, Result.andThen, setBlock]
      have hw1 : setBlock w b (.map es1 clock1) = setBlock w b (.map es clock) := ok_world (hrun.symm.trans hmine)
      rw [hw1]
      have hM := h0.stay (w' := setBlock w b (.map es clock)) ((heap_setBlock_same hb _).trans hb.symm)
      rw [hM.look K ht (hz _) false hk]
      cases F x <;> rfl
  · obtain ⟨es', clock', hs, hu⟩ := hlater w2 (vf y) (hw2.trans hb1)
    have hw2b := hw2.trans hb1
    refine ⟨_, hs, ⟨rfl, rfl, rfl, by simp [setBlock], fun i _ hi => heap_setBlock_other hw2b _ (fun e => hi (by rw [e]))⟩, ?_⟩
    obtain ⟨w', hr', hM, -⟩ := h0.upd K hinj ht hn (y := y) hk
    have hw' : w' = setBlock w b (.map es' clock') := ok_world (hr'.symm.trans hu)
    refine hM.stay ?_
    rw [hw', heap_setBlock_same hb, heap_setBlock_same hw2b]
end
section
variable {P : Program} {N : Nat} {w0 : World} {l : List HP} {env : List (Nat × Value)} {o : Oper} {α β : Type} {k : TypeId} {kf : α → Value} {vf : β → Value}
theorem mpE_own {b n : Nat} {F : α → Option β} (i : Nat) (hi : l[i]? = some (mpE P k kf vf b n F)) (w : World) (hm : Mem w0 l w) : MpW P w k kf vf b n F := hm.holds _ (zbw hi)
theorem rq_makeMp {t : TypeId} (ho : o.op = .makeMap t none) : RunQ P N w0 l env o (fun v p => ∃ b, v = .map (some b) ∧ p = [mpE P k kf vf b 0 (fun _ => none)]) := rq_of fun a w st => by
  refine ⟨.map (some w.heap.size), _, w.alloc (.map #[] 0), by simp only [execOp, ho, Option.map_none, Sem.run_bind, Sem.run_pure, run_makeMap, Result.andThen_ok], ⟨_, rfl, rfl⟩, ?_⟩
  refine ⟨zgb (Below.refl _ _) _, fun p hp => ?_, fun p hp => ?_, fun p hp b hf => ?_, by simp⟩
  · rw [List.mem_singleton] at hp; subst hp
    exact ⟨.map [], World.ownsMap_made w _ _ _, ⟨_, rfl⟩, fun x kl _ zd => rfl⟩
  · rw [List.mem_singleton] at hp; subst hp; exact mpE_ok _ _ _
  · rw [List.mem_singleton] at hp; subst hp; cases hf
    exact ⟨Nat.le_refl _, by show w.heap.size < (w.heap.push _).size; rw [Array.size_push]; omega⟩
theorem rv_lookMp {t e : TypeId} {m x : Operand} {b n : Nat} {F : α → Option β} {z u : Value} {y : α} (ho : o.op = .lookup t m x false) (ht : P.underlying t = some (.map k e)) (K : Keyed P k) (hz : ∀ w : World, (zeroValue e).run P w = .ok z w) (hm : ev env m = some (.map (some b))) (hx : ev env x = some (kf y)) (hk : ∃ kl, keyOf P k (kf y) = some kl)
    (hM : ∀ w, Mem w0 l w → MpW P w k kf vf b n F) (hu : mpV vf z (F y) = u) : RunV P N w0 l env o u := fun a w st => by
  obtain ⟨kl, hk⟩ := hk
  have := (hM w st.mem).look K ht (hz w) false hk
  simp only [Bool.false_eq_true, if_false] at this
  rw [hu] at this
  simp [execOp, ho, st.eval hm, st.eval hx, this]
theorem zgd {t e : TypeId} {m x : Operand} {b n : Nat} {F : α → Option β} {z u : Value} {c : Bool} {y : α} (ho : o.op = .lookup t m x true) (ht : P.underlying t = some (.map k e)) (K : Keyed P k) (hz : ∀ w : World, (zeroValue e).run P w = .ok z w) (hm : ev env m = some (.map (some b))) (hx : ev env x = some (kf y)) (hk : ∃ kl, keyOf P k (kf y) = some kl)
    (hM : ∀ w, Mem w0 l w → MpW P w k kf vf b n F) (hu : mpV vf z (F y) = u) (hc : (F y).isSome = c) : RunV P N w0 l env o (.tuple #[u, .bool c]) := fun a w st => by
  obtain ⟨kl, hk⟩ := hk
  have := (hM w st.mem).look K ht (hz w) true hk
  simp only [if_true] at this
  rw [hu, hc] at this
  simp [execOp, ho, st.eval hm, st.eval hx, this]
theorem hl_updMp {ops : Array Oper} {rest : List Oper} {Q : Post} {t e : TypeId} {m x y : Operand} {b n i : Nat} {F : α → Option β} {kx : α} {vy : β} (hd : o.dst = none) (hw : want ops env o.guard = some true) (ho : o.op = .mapUpdate t m x y) (ht : P.underlying t = some (.map k e)) (K : Keyed P k) (hinj : ∀ x x', kf x = kf x' → x = x')
    (hm : ev env m = some (.map (some b))) (hx : ev env x = some (kf kx)) (hy : ev env y = some (vf vy)) (hk : ∃ kl, keyOf P k (kf kx) = some kl) (hi : l[i]? = some (mpE P k kf vf b n F)) (hn : n ≤ 1000000) {l' : List HP} (hl' : l.set i (mpE P k kf vf b (n + 1) (mpU F kx vy)) = l') (kk : HL P N ops w0 l' env rest Q) : HL P N ops w0 l env (o :: rest) Q := by
  subst hl'
  exact hl_store0 hd hw (fun a w st => by
    obtain ⟨kl, hk⟩ := hk
    obtain ⟨w', hrun, hM, hg⟩ := (mpE_own i hi w st.mem).upd K hinj ht (by unfold maxLen; omega) (y := vy) hk
    refine ⟨w', by simp [execOp, ho, st.eval hm, st.eval hx, st.eval hy, hrun], ?_⟩
    exact st.mem.turnAt hi hg.os hg.tape hg.output hg.size (fun c hc hf => hg.block c hc (fun e => hf (by cases e; rfl))) (mpE_ok _ _ _) (fun c hc => .inl hc) (fun c hc => by cases hc; exact hM.lt) hM) kk
theorem wpOp_val {ops : Array Oper} {Q : Post} {i : Nat} {K : Act → World → Prop} {a : Act} {w w' : World} {v : Value} (ho : ops[i]? = some o) (hg : o.guard = none) (hrun : (execOp a.eval o).run P w = .ok (.value v) w') (hK : K (a.put o.dst v) w') : wpOp P ops Q i K a w := by
  unfold wpOp
  rw [ho]
  simp only
  rw [if_pos (by unfold Region.wanted; rw [hg])]
  refine .inl ?_
  unfold Oper.wp
  rw [hrun, Oper.upon_value]; exact hK
theorem wpOp_skip {ops : Array Oper} {Q : Post} {i : Nat} {K : Act → World → Prop} {a : Act} {w w' : World} (ho : ops[i]? = some o) (hg : o.guard = none) (hd : o.dst = none) (hrun : (execOp a.eval o).run P w = .ok .skip w') (hK : K a w') : wpOp P ops Q i K a w := by
  unfold wpOp
  rw [ho]
  simp only
  rw [if_pos (by unfold Region.wanted; rw [hg])]
  refine .inl ?_
  unfold Oper.wp
  rw [hrun, Oper.upon_skip, hd]; exact hK
end
def bmpR (os : List Oper) (m : Nat) (seq : List Nat) : List Nat := Region.ready .any os.toArray ((seq.map (m + ·)).foldl (fun t i => t.setIfInBounds i true) (preT os.length m))
def bmpOk (os : List Oper) (m : Nat) : Bool :=
  bmpR os m [] == [m, m + 2] && bmpR os m [0] == [m + 1, m + 2] && bmpR os m [2] == [m, m + 3] &&
  bmpR os m [0, 1] == [m + 2] && bmpR os m [0, 2] == [m + 1, m + 3] && bmpR os m [2, 0] == [m + 1, m + 3] && bmpR os m [2, 3] == [m] &&
  bmpR os m [0, 1, 2] == [m + 3] && bmpR os m [0, 2, 1] == [m + 3] && bmpR os m [0, 2, 3] == [m + 1] && bmpR os m [2, 0, 1] == [m + 3] && bmpR os m [2, 0, 3] == [m + 1] && bmpR os m [2, 3, 0] == [m + 1] &&
  bmpR os m [0, 1, 2, 3] == [m + 4] && bmpR os m [0, 2, 1, 3] == [m + 4] && bmpR os m [0, 2, 3, 1] == [m + 4] && bmpR os m [2, 0, 1, 3] == [m + 4] && bmpR os m [2, 0, 3, 1] == [m + 4] && bmpR os m [2, 3, 0, 1] == [m + 4] &&
  bmpR os m [0, 1, 2, 3, 4] == [] && bmpR os m [0, 2, 1, 3, 4] == [] && bmpR os m [0, 2, 3, 1, 4] == [] && bmpR os m [2, 0, 1, 3, 4] == [] && bmpR os m [2, 0, 3, 1, 4] == [] && bmpR os m [2, 3, 0, 1, 4] == []
theorem zcu {P : Program} {ops : Array Oper} {Q : Post} {f : Nat} {listed : Array Bool} {a : Act} {w : World} {L : List Nat} (hr : Region.ready .any ops listed = L) (hL : L ≠ []) (h : ∀ i ∈ L, wpOp P ops Q i (wpAny P .any ops Q f (listed.setIfInBounds i true)) a w) : wpAny P .any ops Q (f + 1) listed a w :=
  ⟨fun h0 => absurd (hr.symm.trans h0) hL, fun i hi => h i (by rw [hr] at hi; exact hi)⟩
structure TT (N : Nat) (env : List (Nat × Value)) (d0 d1 d2 d3 : Nat) (a : Act) (x0 x1 x2 x3 : Option Value) : Prop where
  size : a.tmps.size = N
  defers : a.defers = []
  env_ : ∀ d v, lk env d = some v → a.tmps[d]? = some v
  s0 : ∀ v, x0 = some v → a.tmps[d0]? = some v
  s1 : ∀ v, x1 = some v → a.tmps[d1]? = some v
  s2 : ∀ v, x2 = some v → a.tmps[d2]? = some v
  s3 : ∀ v, x3 = some v → a.tmps[d3]? = some v
section
variable {N : Nat} {env : List (Nat × Value)} {d0 d1 d2 d3 : Nat} {a : Act} {x0 x1 x2 x3 : Option Value}
theorem put_at {a : Act} {d : Nat} {v : Value} (h : d < a.tmps.size) : (a.put (some d) v).tmps[d]? = some v := by simp [Act.put, h]
theorem zew {a : Act} {d j : Nat} {v : Value} (h : d ≠ j) : (a.put (some d) v).tmps[j]? = a.tmps[j]? := by simp [Act.put, Array.getElem?_setIfInBounds_ne h]
theorem put_size {a : Act} {d : Nat} {v : Value} : (a.put (some d) v).tmps.size = a.tmps.size := by simp [Act.put]
theorem fresh_ne {d j : Nat} {v : Value} (hf : lk env d = none) (h : lk env j = some v) : d ≠ j := fun e => by subst e; rw [hf] at h; cases h
theorem TT.p0 (h : TT N env d0 d1 d2 d3 a x0 x1 x2 x3) (hN : d0 < N) (hf : lk env d0 = none) (n1 : d0 ≠ d1) (n2 : d0 ≠ d2) (n3 : d0 ≠ d3) (v : Value) : TT N env d0 d1 d2 d3 (a.put (some d0) v) (some v) x1 x2 x3 :=
  ⟨put_size.trans h.size, h.defers, fun d u hd => (zew (fresh_ne hf hd)).trans (h.env_ d u hd), fun u e => by cases e; exact put_at (by rw [h.size]; exact hN), fun u e => (zew n1).trans (h.s1 u e), fun u e => (zew n2).trans (h.s2 u e), fun u e => (zew n3).trans (h.s3 u e)⟩
theorem TT.p1 (h : TT N env d0 d1 d2 d3 a x0 x1 x2 x3) (hN : d1 < N) (hf : lk env d1 = none) (n1 : d1 ≠ d0) (n2 : d1 ≠ d2) (n3 : d1 ≠ d3) (v : Value) : TT N env d0 d1 d2 d3 (a.put (some d1) v) x0 (some v) x2 x3 :=
  ⟨put_size.trans h.size, h.defers, fun d u hd => (zew (fresh_ne hf hd)).trans (h.env_ d u hd), fun u e => (zew n1).trans (h.s0 u e), fun u e => by cases e; exact put_at (by rw [h.size]; exact hN), fun u e => (zew n2).trans (h.s2 u e), fun u e => (zew n3).trans (h.s3 u e)⟩
theorem TT.p2 (h : TT N env d0 d1 d2 d3 a x0 x1 x2 x3) (hN : d2 < N) (hf : lk env d2 = none) (n1 : d2 ≠ d0) (n2 : d2 ≠ d1) (n3 : d2 ≠ d3) (v : Value) : TT N env d0 d1 d2 d3 (a.put (some d2) v) x0 x1 (some v) x3 :=
  ⟨put_size.trans h.size, h.defers, fun d u hd => (zew (fresh_ne hf hd)).trans (h.env_ d u hd), fun u e => (zew n1).trans (h.s0 u e), fun u e => (zew n2).trans (h.s1 u e), fun u e => by cases e; exact put_at (by rw [h.size]; exact hN), fun u e => (zew n3).trans (h.s3 u e)⟩
theorem TT.p3 (h : TT N env d0 d1 d2 d3 a x0 x1 x2 x3) (hN : d3 < N) (hf : lk env d3 = none) (n1 : d3 ≠ d0) (n2 : d3 ≠ d1) (n3 : d3 ≠ d2) (v : Value) : TT N env d0 d1 d2 d3 (a.put (some d3) v) x0 x1 x2 (some v) :=
  ⟨put_size.trans h.size, h.defers, fun d u hd => (zew (fresh_ne hf hd)).trans (h.env_ d u hd), fun u e => (zew n1).trans (h.s0 u e), fun u e => (zew n2).trans (h.s1 u e), fun u e => (zew n3).trans (h.s2 u e), fun u e => by cases e; exact put_at (by rw [h.size]; exact hN)⟩
theorem zej {a : Act} {t : Nat} {v : Value} (h : a.tmps[t]? = some v) : a.eval (.tmp t) = v := by simp [Act.eval, h]
end
section
variable {P : Program} {N : Nat} {w0 : World} {l : List HP} {env : List (Nat × Value)} {α β : Type} {k : TypeId} {kf : α → Value} {vf : β → Value}
theorem bump_tail {os : List Oper} {m : Nat} {Q : Post} {o0 o1 o2 o3 o4 : Oper} (hchk : bmpOk os m = true) (g0 : os[m]? = some o0) (g1 : os[m + 1]? = some o1) (g2 : os[m + 2]? = some o2) (g3 : os[m + 3]? = some o3) (g4 : os[m + 4]? = some o4)
    (u0 : o0.guard = none) (u1 : o1.guard = none) (u2 : o2.guard = none) (u3 : o3.guard = none) (u4 : o4.guard = none)
    {t e : TypeId} {tm tx : Nat} {y1 : Operand} {d0 d1 d2 d3 : Nat} {t1 t2 : TypeId} {bop : BinOp} (e0 : o0.dst = some d0) (e1 : o1.dst = some d1) (e2 : o2.dst = some d2) (e3 : o3.dst = some d3) (e4 : o4.dst = none)
    (p0 : o0.op = .lookup t (.tmp tm) (.tmp tx) false) (p1 : o1.op = .binOp bop t1 (.tmp d0) y1 t2) (p2 : o2.op = .mapEntry t (.tmp tm) (.tmp tx)) (p3 : o3.op = .extract (.tmp d2) 1) (p4 : o4.op = .entryStore t (.tmp tm) (.tmp d3) (.tmp d1))
    (hNN : d0 < N ∧ d1 < N ∧ d2 < N ∧ d3 < N) (hfr : lk env d0 = none ∧ lk env d1 = none ∧ lk env d2 = none ∧ lk env d3 = none) (nd : d0 ≠ d1 ∧ d0 ≠ d2 ∧ d0 ≠ d3 ∧ d1 ≠ d2 ∧ d1 ≠ d3 ∧ d2 ≠ d3)
    {b n i : Nat} {F : α → Option β} {y0 y' : β} {kx : α} (em : lk env tm = some (.map (some b))) (ex : lk env tx = some (kf kx)) (hk : ∃ kl, keyOf P k (kf kx) = some kl) (K : Keyed P k) (KL : Go.WideMaps.KeyLaw P k) (hinj : ∀ x x', kf x = kf x' → x = x') (ht : P.underlying t = some (.map k e)) (hz : ∀ u : World, (zeroValue e).run P u = .ok (vf y0) u) (hn : n ≤ 1000000)
    (hi : l[i]? = some (mpE P k kf vf b n F)) (hbin : ∀ (a : Act) (w : World), a.eval (.tmp d0) = vf ((F kx).getD y0) → (execOp a.eval o1).run P w = .ok (.value (vf y')) w)
    (kk : HQ N w0 (l.set i (mpE P k kf vf b (n + 1) (mpU F kx y'))) env .normal Q) : ∀ a w, St N w0 l env a w → wpAny P .any os.toArray Q 5 (preT os.length m) a w := by
  intro a w st
  obtain ⟨kl, hk⟩ := hk
  have hM := mpE_own i hi w st.mem
  obtain ⟨v0, sp, w1, hr2, hg1, hs1, hl1, hst⟩ := hM.bump K KL hinj ht hz (by unfold maxLen; omega) hk
  have hl0 : (Instr.lookup t (.map (some b)) (kf kx) false).run P w = .ok (vf ((F kx).getD y0)) w := by
    have := hM.look K ht (hz w) false hk
    simp only [Bool.false_eq_true, if_false] at this
    rw [this]; cases F kx <;> rfl
  obtain ⟨w2, hr4, hg2, hM2⟩ := hst w1 y' rfl
  have hmem2 : Mem w0 (l.set i (mpE P k kf vf b (n + 1) (mpU F kx y'))) w2 := by
    refine st.mem.turnAt hi (hg2.os.trans hg1.os) (hg2.tape.trans hg1.tape) (hg2.output.trans hg1.output) (Nat.le_trans hg1.size hg2.size) (fun c hc hf => ?_) (mpE_ok _ _ _) (fun c hc => .inl hc) (fun c hc => by cases hc; exact hM2.lt) hM2
    have hcb : some c ≠ some b := fun e => hf (by cases e; rfl)
    rw [hg2.block c (by omega) hcb, hg1.block c hc hcb]
  simp only [bmpOk, Bool.and_eq_true, beq_iff_eq] at hchk
  obtain ⟨⟨⟨⟨⟨⟨⟨⟨⟨⟨⟨⟨⟨⟨⟨⟨⟨⟨⟨⟨⟨⟨⟨⟨r_, r0⟩, r2⟩, r01⟩, r02⟩, r20⟩, r23⟩, r012⟩, r021⟩, r023⟩, r201⟩, r203⟩, r230⟩, r0123⟩, r0213⟩, r0231⟩, r2013⟩, r2031⟩, r2301⟩, f1⟩, f2⟩, f3⟩, f4⟩, f5⟩, f6⟩ := hchk
  unfold bmpR at r_ r0 r2 r01 r02 r20 r23 r012 r021 r023 r201 r203 r230 r0123 r0213 r0231 r2013 r2031 r2301 f1 f2 f3 f4 f5 f6
  simp only [List.map_cons, List.map_nil, List.foldl_cons, List.foldl_nil, Nat.add_zero] at r_ r0 r2 r01 r02 r20 r23 r012 r021 r023 r201 r203 r230 r0123 r0213 r0231 r2013 r2031 r2301 f1 f2 f3 f4 f5 f6
  have tt : TT N env d0 d1 d2 d3 a none none none none := ⟨st.size, st.defers, st.env, fun _ e => (by cases e), fun _ e => (by cases e), fun _ e => (by cases e), fun _ e => (by cases e)⟩
  -- the operations
  have o0A : ∀ {K' : Act → World → Prop} {a x1 x2 x3}, TT N env d0 d1 d2 d3 a none x1 x2 x3 → (∀ a', TT N env d0 d1 d2 d3 a' (some (vf ((F kx).getD y0))) x1 x2 x3 → K' a' w) → wpOp P os.toArray Q m K' a w := fun {K' a x1 x2 x3} h hK => by
    refine wpOp_val (o := o0) (w' := w) (v := vf ((F kx).getD y0)) (by simpa using g0) u0 ?_ (by rw [e0]; exact hK _ (h.p0 hNN.1 hfr.1 nd.1 nd.2.1 nd.2.2.1 _))
    simp [execOp, p0, zej (h.env_ _ _ em), zej (h.env_ _ _ ex), hl0]
  have o0B : ∀ {K' : Act → World → Prop} {a x1 x2 x3}, TT N env d0 d1 d2 d3 a none x1 x2 x3 → (∀ a', TT N env d0 d1 d2 d3 a' (some (vf ((F kx).getD y0))) x1 x2 x3 → K' a' w1) → wpOp P os.toArray Q m K' a w1 := fun {K' a x1 x2 x3} h hK => by
    refine wpOp_val (o := o0) (w' := w1) (v := vf ((F kx).getD y0)) (by simpa using g0) u0 ?_ (by rw [e0]; exact hK _ (h.p0 hNN.1 hfr.1 nd.1 nd.2.1 nd.2.2.1 _))
    simp [execOp, p0, zej (h.env_ _ _ em), zej (h.env_ _ _ ex), hl1]
  have o1A : ∀ {K' : Act → World → Prop} {a x1 x2 x3} (w), TT N env d0 d1 d2 d3 a (some (vf ((F kx).getD y0))) x1 x2 x3 → (∀ a', TT N env d0 d1 d2 d3 a' (some (vf ((F kx).getD y0))) (some (vf y')) x2 x3 → K' a' w) → wpOp P os.toArray Q (m + 1) K' a w := fun {K' a x1 x2 x3} w h hK => by
    exact wpOp_val (o := o1) (w' := w) (v := vf y') (by simpa using g1) u1 (hbin a w (zej (h.s0 _ rfl))) (by rw [e1]; exact hK _ (h.p1 hNN.2.1 hfr.2.1 nd.1.symm nd.2.2.2.1 nd.2.2.2.2.1 _))
  have o2A : ∀ {K' : Act → World → Prop} {a x0 x1 x3}, TT N env d0 d1 d2 d3 a x0 x1 none x3 → (∀ a', TT N env d0 d1 d2 d3 a' x0 x1 (some (.tuple #[v0, goInt sp])) x3 → K' a' w1) → wpOp P os.toArray Q (m + 2) K' a w := fun {K' a x0 x1 x3} h hK => by
    refine wpOp_val (o := o2) (w' := w1) (v := .tuple #[v0, goInt sp]) (by simpa using g2) u2 ?_ (by rw [e2]; exact hK _ (h.p2 hNN.2.2.1 hfr.2.2.1 nd.2.1.symm nd.2.2.2.1.symm nd.2.2.2.2.2 _))
    simp [execOp, p2, zej (h.env_ _ _ em), zej (h.env_ _ _ ex), hr2]
  have o3A : ∀ {K' : Act → World → Prop} {a x0 x1 x3}, TT N env d0 d1 d2 d3 a x0 x1 (some (.tuple #[v0, goInt sp])) x3 → (∀ a', TT N env d0 d1 d2 d3 a' x0 x1 (some (.tuple #[v0, goInt sp])) (some (goInt sp)) → K' a' w1) → wpOp P os.toArray Q (m + 3) K' a w1 := fun {K' a x0 x1 x3} h hK => by
    refine wpOp_val (o := o3) (w' := w1) (v := goInt sp) (by simpa using g3) u3 ?_ (by rw [e3]; exact hK _ (h.p3 hNN.2.2.2 hfr.2.2.2 nd.2.2.1.symm nd.2.2.2.2.1.symm nd.2.2.2.2.2.symm _))
    simp [execOp, p3, zej (h.s2 _ rfl), Instr.extract]
  have o4A : ∀ {a x0 x2} {listed : Array Bool}, Region.ready .any os.toArray listed = [] → TT N env d0 d1 d2 d3 a x0 (some (vf y')) x2 (some (goInt sp)) → wpOp P os.toArray Q (m + 4) (wpAny P .any os.toArray Q 0 listed) a w1 := fun {a x0 x2 listed} hr h => by
    refine wpOp_skip (o := o4) (w' := w2) (by simpa using g4) u4 e4 ?_ ⟨hr, kk a w2 ⟨hmem2, h.size, h.defers, h.env_⟩⟩
    simp [execOp, p4, zej (h.env_ _ _ em), zej (h.s3 _ rfl), zej (h.s1 _ rfl), hr4]
  refine zcu r_ (by simp) (fun i hi => ?_)
  simp only [List.mem_cons, List.not_mem_nil, or_false] at hi
  rcases hi with rfl | rfl
  · refine o0A tt (fun a tt => zcu r0 (by simp) (fun i hi => ?_))
    simp only [List.mem_cons, List.not_mem_nil, or_false] at hi
    rcases hi with rfl | rfl
    · refine o1A w tt (fun a tt => zcu r01 (by simp) (fun i hi => ?_))
      simp only [List.mem_cons, List.not_mem_nil, or_false] at hi
      subst hi
      refine o2A tt (fun a tt => zcu r012 (by simp) (fun i hi => ?_))
      simp only [List.mem_cons, List.not_mem_nil, or_false] at hi
      subst hi
      refine o3A tt (fun a tt => zcu r0123 (by simp) (fun i hi => ?_))
      simp only [List.mem_cons, List.not_mem_nil, or_false] at hi
      subst hi
      exact o4A f1 tt
    · refine o2A tt (fun a tt => zcu r02 (by simp) (fun i hi => ?_))
      simp only [List.mem_cons, List.not_mem_nil, or_false] at hi
      rcases hi with rfl | rfl
      · refine o1A w1 tt (fun a tt => zcu r021 (by simp) (fun i hi => ?_))
        simp only [List.mem_cons, List.not_mem_nil, or_false] at hi
        subst hi
        refine o3A tt (fun a tt => zcu r0213 (by simp) (fun i hi => ?_))
        simp only [List.mem_cons, List.not_mem_nil, or_false] at hi
        subst hi
        exact o4A f2 tt
      · refine o3A tt (fun a tt => zcu r023 (by simp) (fun i hi => ?_))
        simp only [List.mem_cons, List.not_mem_nil, or_false] at hi
        subst hi
        refine o1A w1 tt (fun a tt => zcu r0231 (by simp) (fun i hi => ?_))
        simp only [List.mem_cons, List.not_mem_nil, or_false] at hi
        subst hi
        exact o4A f3 tt
  · refine o2A tt (fun a tt => zcu r2 (by simp) (fun i hi => ?_))
    simp only [List.mem_cons, List.not_mem_nil, or_false] at hi
    rcases hi with rfl | rfl
    · refine o0B tt (fun a tt => zcu r20 (by simp) (fun i hi => ?_))
      simp only [List.mem_cons, List.not_mem_nil, or_false] at hi
      rcases hi with rfl | rfl
      · refine o1A w1 tt (fun a tt => zcu r201 (by simp) (fun i hi => ?_))
        simp only [List.mem_cons, List.not_mem_nil, or_false] at hi
        subst hi
        refine o3A tt (fun a tt => zcu r2013 (by simp) (fun i hi => ?_))
        simp only [List.mem_cons, List.not_mem_nil, or_false] at hi
        subst hi
        exact o4A f4 tt
      · refine o3A tt (fun a tt => zcu r203 (by simp) (fun i hi => ?_))
        simp only [List.mem_cons, List.not_mem_nil, or_false] at hi
        subst hi
        refine o1A w1 tt (fun a tt => zcu r2031 (by simp) (fun i hi => ?_))
        simp only [List.mem_cons, List.not_mem_nil, or_false] at hi
        subst hi
        exact o4A f5 tt
    · refine o3A tt (fun a tt => zcu r23 (by simp) (fun i hi => ?_))
      simp only [List.mem_cons, List.not_mem_nil, or_false] at hi
      subst hi
      refine o0B tt (fun a tt => zcu r230 (by simp) (fun i hi => ?_))
      simp only [List.mem_cons, List.not_mem_nil, or_false] at hi
      subst hi
      refine o1A w1 tt (fun a tt => zcu r2301 (by simp) (fun i hi => ?_))
      simp only [List.mem_cons, List.not_mem_nil, or_false] at hi
      subst hi
      exact o4A f6 tt
def bmpChk (os : List Oper) (N m : Nat) (dps : List (List Nat)) (dsts : List Nat) (env : List (Nat × Value)) (d0 d1 d2 d3 : Nat) : Bool :=
  drawOkG os m dps dsts && Nat.beq os.length (m + 5) && bmpOk os m && dsts.all (fun d => Nat.blt d N) && [d0, d1, d2, d3].all (fun d => Nat.blt d N) && decide ([d0, d1, d2, d3].Nodup)
theorem hc_bump {id : Nat} {os : List Oper} {Q : Post} (m : Nat) (dps : List (List Nat)) (dsts : List Nat) (vals : List Value) {d0 d1 d2 d3 : Nat} {env2 : List (Nat × Value)} (hmix : P.follows .mixedOrders = true) (hchk : bmpChk os N m dps dsts env d0 d1 d2 d3 = true) (hfresh : dsts.all (fun d => (lk env d).isNone) = true) (hfr : [d0, d1, d2, d3].all (fun d => (lk (envV dsts vals (List.range m) ++ env) d).isNone) = true)
    {t e : TypeId} {tm tx : Nat} {y1 : Operand} {t1 t2 : TypeId} {bop : BinOp} {o0 o1 o2 o3 o4 : Oper} (hd : os.drop m = [o0, o1, o2, o3, o4]) (hu : o0.guard = none ∧ o1.guard = none ∧ o2.guard = none ∧ o3.guard = none ∧ o4.guard = none) (he : o0.dst = some d0 ∧ o1.dst = some d1 ∧ o2.dst = some d2 ∧ o3.dst = some d3 ∧ o4.dst = none)
    (p0 : o0.op = .lookup t (.tmp tm) (.tmp tx) false) (p1 : o1.op = .binOp bop t1 (.tmp d0) y1 t2) (p2 : o2.op = .mapEntry t (.tmp tm) (.tmp tx)) (p3 : o3.op = .extract (.tmp d2) 1) (p4 : o4.op = .entryStore t (.tmp tm) (.tmp d3) (.tmp d1))
    {b n i : Nat} {F : α → Option β} {y0 y' : β} {kx : α} (em : lk (envV dsts vals (List.range m) ++ env) tm = some (.map (some b))) (ex : lk (envV dsts vals (List.range m) ++ env) tx = some (kf kx)) (hk : ∃ kl, keyOf P k (kf kx) = some kl) (K : Keyed P k) (KL : Go.WideMaps.KeyLaw P k) (hinj : ∀ x x', kf x = kf x' → x = x') (ht : P.underlying t = some (.map k e)) (hz : ∀ u : World, (zeroValue e).run P u = .ok (vf y0) u) (hn : n ≤ 1000000)
    (hi : l[i]? = some (mpE P k kf vf b n F)) (hbin : ∀ (a : Act) (w : World), a.eval (.tmp d0) = vf ((F kx).getD y0) → (execOp a.eval o1).run P w = .ok (.value (vf y')) w)
    {l' : List HP} (hl' : l.set i (mpE P k kf vf b (n + 1) (mpU F kx y')) = l')
    (due : DuesV P os.toArray N w0 l env dsts vals 0 dps (os.take m)) (hs : sub env2 (envV dsts vals (List.range m) ++ env)) (kk : HQ N w0 l' env2 .normal Q) : HC P N w0 l env (.region id os.toArray true) Q := by
  subst hl'
  simp only [bmpChk, Bool.and_eq_true, Nat.beq_eq, decide_eq_true_eq, List.all_cons, List.all_nil, Nat.blt_eq, and_true] at hchk
  obtain ⟨⟨⟨⟨⟨c1, c2⟩, c3⟩, c4⟩, c5⟩, c6⟩ := hchk
  simp only [List.nodup_cons, List.mem_cons, List.not_mem_nil, not_or, or_false, not_false_eq_true, and_true] at c6
  simp only [List.all_cons, List.all_nil, Bool.and_eq_true, Option.isNone_iff_eq_none, and_true] at hfr
  have hat : ∀ j, j < 5 → os[m + j]? = [o0, o1, o2, o3, o4][j]? := fun j hj => by rw [← hd, List.getElem?_drop]
  refine hc_drawnG hmix m dps dsts (fun i _ v p => v = vals.getD i undef ∧ p = []) c1 hfresh (by simpa [Nat.blt_eq] using c4) (fun i o ho hi vf pf hR => ?_) (fun vf pf hR f a w hf st => ?_)
  · have ho' : (os.take m)[i]? = some o := by rw [List.getElem?_take, if_pos hi]; exact ho
    have := dues_at (all := dps) (os.take m) dps 0 (dues_of_V _ _ _ due) i o ho' vf pf hR
    rwa [Nat.zero_add] at this
  · have e1 : (List.range m).flatMap pf = [] := List.flatMap_eq_nil_iff.2 (fun j hj => (hR j (List.mem_range.1 hj)).2)
    have e2 : envOf dsts vf (List.range m) = envV dsts vals (List.range m) := List.map_congr_left (fun j hj => by rw [(hR j (List.mem_range.1 hj)).1])
    rw [e1, e2, List.nil_append] at st
    have hf5 : f = 5 := by omega
    subst hf5
    exact bump_tail c3 (by simpa using hat 0 (by omega)) (hat 1 (by omega)) (hat 2 (by omega)) (hat 3 (by omega)) (hat 4 (by omega)) hu.1 hu.2.1 hu.2.2.1 hu.2.2.2.1 hu.2.2.2.2 he.1 he.2.1 he.2.2.1 he.2.2.2.1 he.2.2.2.2 p0 p1 p2 p3 p4 c5 hfr ⟨c6.1.1, c6.1.2.1, c6.1.2.2, c6.2.1.1, c6.2.1.2, c6.2.2.1⟩ em ex hk K KL hinj ht hz hn hi hbin
      (fun a w st => kk a w (st.less hs (.refl _))) a w st
end
def rowQ2 (e : Nat) (v : Value) (n : Nat) (xs : List Value) : HP := ⟨fun k => v.ownBlock = some k, fun w => xs.length = n * 2 ∧ ∃ g off cap cur, v = .slice (some ⟨g, off, none⟩) n cap ∧ w.heap[g]? = some (.cells cur e (0, 0)) ∧ n ≤ cap ∧ cap ≤ maxLen ∧ off + cap * 2 ≤ cur.size ∧ (cur.toList.drop off).take (n * 2) = xs⟩
theorem rowQ2_ok (e : Nat) (v : Value) (n : Nat) (xs : List Value) : (rowQ2 e v n xs).Ok := fun w w' hs hb ⟨hl, g, off, cap, cur, hv, hg, h⟩ => ⟨hl, g, off, cap, cur, hv, (hb g (by subst hv; rfl)).trans hg, h⟩
theorem Mem.toQ2 {w0 w : World} {l : List HP} {e n : Nat} {v : Value} {xs : List Value} (hn : 0 < n) (h : Mem w0 (rowE e 2 v n xs :: l) w) : Mem w0 (rowQ2 e v n xs :: l) w := by
  have hown : w.ownsRow 0 e 2 v n xs := h.holds _ List.mem_cons_self
  refine h.turn rfl rfl rfl (Nat.le_refl _) (fun b _ _ => rfl) (rowQ2_ok _ _ _ _) (fun b hf => .inl hf) (fun b hf => (h.new _ List.mem_cons_self b hf).2) ?_
  obtain ⟨hl, hc⟩ := hown
  rcases hc with ⟨rfl, h0⟩ | ⟨g, cap, cur, rfl, -, hg, h1, h2, h3, h4⟩
  · omega
  · exact ⟨by omega, g, 0, cap, cur, rfl, hg, h1, h2, by omega, by simpa using h4⟩
theorem slQ2 {g off n cap : Nat} (h : n + 1 ≤ cap) : ∃ off', slV (.slice (some ⟨g, off, none⟩) (n + 1) cap) 1 (n + 1) 2 = .slice (some ⟨g, off', none⟩) n (cap - 1) ∧ (off' = off + 2 ∨ (cap = 1 ∧ off' = off)) := by
  show ∃ off', sliced (some ⟨g, off, none⟩) 1 (n + 1) cap 2 = _ ∧ _
  unfold sliced
  by_cases e : cap = 1
  · exact ⟨off, by rw [if_pos e]; simp, .inr ⟨e, rfl⟩⟩
  · refine ⟨off + 2, ?_, .inl rfl⟩
    rw [if_neg e, Option.map_some, zfk]
    simp
theorem Mem.tailQ2 {w0 w : World} {l : List HP} {e n m : Nat} {v : Value} {xs : List Value} (hm : m = n + 1) (h : Mem w0 (rowQ2 e v m xs :: l) w) : Mem w0 (rowQ2 e (slV v 1 m 2) n (xs.drop 2) :: l) w := by
  subst hm
  obtain ⟨hl, g, off, cap, cur, rfl, hg, h1, h2, h3, h4⟩ := h.holds _ List.mem_cons_self
  obtain ⟨off', hv, ho⟩ := slQ2 (g := g) (off := off) h1
  rw [hv]
  refine h.turn rfl rfl rfl (Nat.le_refl _) (fun b _ _ => rfl) (rowQ2_ok _ _ _ _) (fun b hf => .inl hf) (fun b hf => (h.new _ List.mem_cons_self b hf).2) ?_
  refine ⟨by rw [List.length_drop]; omega, g, off', cap - 1, cur, rfl, hg, by omega, by omega, by omega, ?_⟩
  rcases ho with rfl | ⟨rfl, rfl⟩
  · rw [← h4, List.drop_take, List.drop_drop, show (n + 1) * 2 - 2 = n * 2 by omega]
  · have : n = 0 := by omega
    subst this
    rw [Nat.zero_mul, List.take_zero]
    have : xs.drop 2 = [] := List.drop_eq_nil_of_le (by omega)
    rw [this]
theorem rdsW_Q2 {w : World} {e n : Nat} {v : Value} {xs : List Value} (h : (rowQ2 e v n xs).holds w) : RdsW w v 2 n xs := by
  obtain ⟨hl, g, off, cap, cur, rfl, hg, h1, h2, h3, h4⟩ := h
  refine ⟨_, _, rfl, by omega, ⟨by unfold maxLen at h2; omega, h1⟩, fun _ => ⟨g, off, rfl, fun j u hj => ?_⟩⟩
  rw [zdc hg]
  have hlt : j < n * 2 := by rw [← hl]; exact (List.getElem?_eq_some_iff.1 hj).1
  rw [← h4, List.getElem?_take, if_pos hlt, List.getElem?_drop] at hj
  simpa using hj
theorem rd_Q2 {w0 : World} {l : List HP} {e n : Nat} {v : Value} {xs : List Value} (i : Nat) (hi : l[i]? = some (rowQ2 e v n xs)) : Rd w0 l v 2 n xs := fun w hm => rdsW_Q2 (hm.holds _ (zbw hi))
theorem two_at {q r : Value} {f : Nat → Option Value} (h0 : f 0 = some q) (h1 : f 1 = some r) : ∀ j u, [q, r][j]? = some u → f j = some u := fun j u hj => by
  match j, hj with
  | 0, hj => simp at hj; subst hj; exact h0
  | 1, hj => simp at hj; subst hj; exact h1
  | j + 2, hj => simp at hj
theorem app_queue2 {P : Program} (w : World) {t ty e : TypeId} {i : TypeInfo} {z : Value} (ht : P.underlying t = some (.slice e)) (hi : P.info? e = some i) (hz : i.zero = some z) (hsize : i.size = 2) (hby : i.bytes ≤ 1000) (hzs : z.cells.size = 2)
    {v : Value} {n : Nat} {xs : List Value} (hown : (rowQ2 e v n xs).holds w) (a : Addr) (c : Nat) (x y : Value) (hx : w.cell? (a.add 0) = some x) (hy : w.cell? (a.add 1) = some y) (h1 : x.oneCell' = true) (h2 : y.oneCell' = true) (hn : n + 1 ≤ 100000000000) :
    ∃ v' w', (Builtin.append_ #[t, t] ty #[v, .slice (some a) 1 c]).run P w = .ok v' w' ∧ (rowQ2 e v' (n + 1) (xs ++ [x, y])).holds w' ∧ w.grownBy w' v.ownBlock ∧ (v'.ownBlock = v.ownBlock ∨ v'.ownBlock = some w.heap.size) := by
  obtain ⟨hl, g, off, cap, cur, rfl, hg, hc1, hc2, hc3, hc4⟩ := hown
  have hnews : ∀ j u, [x, y][j]? = some u → w.cell? (a.add j) = some u := two_at hx hy
  have hone : ∀ u ∈ [x, y], u.oneCell' = true := fun u hu => by
    rcases List.mem_cons.1 hu with rfl | hu
    · exact h1
    · rw [List.mem_singleton] at hu; subst hu; exact h2
  have hlen : (xs ++ [x, y]).length = (n + 1) * 2 := by rw [List.length_append, hl]; simp; omega
  by_cases hroom : n + 1 ≤ cap
  · have hlt : off + n * 2 + 1 < cur.size := by omega
    have hr := run_append_room_cells (P := P) w t ty e i ht hi g off n cap a 1 c [x, y] (by rw [hsize]; rfl) hnews hone hroom
      (fun j hj => by
        have : j < 2 := by simpa using hj
        rw [zdc hg, hsize]
        simp; omega)
      (fun j hj => zfr hg)
    have e0 := heap_setCell_same w g (off + n * 2) cur e x hg
    have e1 := heap_setCell_same (w.setCell ⟨g, off + n * 2, none⟩ x) g (off + n * 2 + 1) _ e y e0
    refine ⟨_, _, hr, ⟨hlen, g, off, cap, (cur.setIfInBounds (off + n * 2) x).setIfInBounds (off + n * 2 + 1) y, rfl, ?_, hroom, hc2, by rw [Array.size_setIfInBounds, Array.size_setIfInBounds]; exact hc3, ?_⟩, ⟨?_, ?_, ?_, ?_, fun k _ hk => ?_⟩, .inl rfl⟩
    · rw [hsize]; exact e1
    · have e2 : ((cur.setIfInBounds (off + n * 2) x).setIfInBounds (off + n * 2 + 1) y).toList = (cur.toList.set (off + n * 2) x).set (off + n * 2 + 1) y := by simp
      rw [e2, List.drop_set, if_neg (by omega), List.drop_set, if_neg (by omega), show off + n * 2 - off = n * 2 by omega, show off + n * 2 + 1 - off = n * 2 + 1 by omega]
      have hdl : n * 2 + 1 < (cur.toList.drop off).length := by rw [List.length_drop, Array.length_toList]; omega
      generalize cur.toList.drop off = zs at *
      subst hc4
      rw [show (n + 1) * 2 = n * 2 + 1 + 1 by omega, List.take_succ_eq_append_getElem (by rw [List.length_set, List.length_set]; exact hdl), List.take_set_of_le (Nat.le_refl _), List.take_succ_eq_append_getElem (by rw [List.length_set]; omega), List.take_set_of_le (Nat.le_refl _)]
      simp
    · rfl
    · rfl
    · rfl
    · show w.heap.size ≤ (((w.setCell ⟨g, off + n * i.size, none⟩ x).setCell ⟨g, off + n * i.size + 1, none⟩ y)).heap.size
      simp
    · have hne : k ≠ g := fun e => hk (by simp [Value.ownBlock, e])
      show (((w.setCell ⟨g, off + n * i.size, none⟩ x).setCell ⟨g, off + n * i.size + 1, none⟩ y)).heap[k]? = _
      rw [heap_setCell_other _ ⟨g, off + n * i.size + 1, none⟩ k y hne, heap_setCell_other w ⟨g, off + n * i.size, none⟩ k x hne]
  · have holds : ∀ j u, xs[j]? = some u → w.cell? ((⟨g, off, none⟩ : Addr).add j) = some u := fun j u hj => by
      rw [zfk, zdc hg]
      have hlt : j < n * 2 := by rw [← hl]; exact (List.getElem?_eq_some_iff.1 hj).1
      rw [← hc4, List.getElem?_take, if_pos hlt, List.getElem?_drop] at hj
      simpa using hj
    have hbytes : (n + 1) * i.bytes ≤ 140737488355328 := by have := Nat.mul_le_mul hn hby; omega
    have hr := run_append_grow (P := P) w t ty e i z ht hi hz ⟨g, off, none⟩ n cap xs (by rw [hsize]; omega) holds a 1 c [x, y] (by rw [hsize]; rfl) hnews (by omega) (by omega) (growslice_fits (by omega) hbytes)
    have hge := grownCap_ge w (n + 1) cap e
    have hcm : grownCap w (n + 1) cap e ≤ maxLen := grownCap_le_maxLen w (n + 1) cap e (by unfold maxLen; omega)
    refine ⟨_, _, hr, ⟨hlen, w.heap.size, 0, _, _, rfl, heap_alloc_new w.drew _, hge, hcm, ?_, ?_⟩, ⟨rfl, rfl, rfl, by simp, fun k hk _ => heap_alloc_old w.drew _ hk⟩, .inr rfl⟩
    · simp only [Array.size_append, List.size_toArray, size_zeroCells, hzs]
      have : xs.length = n * 2 := hl
      simp only [List.length_cons, List.length_nil]
      omega
    · simp only [Array.toList_append, List.drop_zero]
      rw [← hlen]
      exact List.take_left
section
variable {P : Program} {N : Nat} {w0 : World} {l : List HP} {env : List (Nat × Value)} {o : Oper} {ops : Array Oper} {rest : List Oper} {Q : Post} {d : Nat}
theorem hl_appendQ2 {t e bytes n i : Nat} {x y : Operand} {v u z q r : Value} {xs : List Value} (hd : o.dst = some d) (hN : Nat.blt d N = true) (hw : want ops env o.guard = some true) (ho : o.op = .call { callee := .builtin .append, args := #[x, y], argTypes := #[t, t] })
    (hu : P.underlying t = some (.slice e)) (hinf : (P.info? e).map (fun i => (i.zero, i.size, i.bytes)) = some (some z, 2, bytes)) (hzs : (Nat.beq z.cells.size 2 && Nat.blt 0 2 && Nat.ble bytes 1000) = true)
    (hx : ev env x = some v) (hy : ev env y = some u) (hi : l[i]? = some (rowQ2 e v n xs)) (hr : Rd w0 l u 2 1 [q, r]) (h1 : q.oneCell' = true) (h2 : r.oneCell' = true) (hnm : n + 1 ≤ 100000000000)
    {n' : Nat} {xs' : List Value} (hn' : n + 1 = n') (hx' : xs ++ [q, r] = xs') {L : Value → List HP} (hL : ∀ v', l.set i (rowQ2 e v' n' xs') = L v')
    (k : ∀ v', HL P N ops w0 (L v') ((d, v') :: env) rest Q) : HL P N ops w0 l env (o :: rest) Q := fun a w st => wpList_step fun K hK => by
  rw [if_pos (st.wanted hw)]
  unfold Oper.wp
  obtain ⟨inf, hi', hz, hs, hby⟩ := info_parts hinf
  simp only [Bool.and_eq_true, Nat.beq_eq, Nat.blt_eq, Nat.ble_eq] at hzs
  obtain ⟨⟨hz1, hz2⟩, hz3⟩ := hzs
  obtain ⟨ad, cap, rfl, hl, hm, hc⟩ := hr w st.mem
  obtain ⟨b, off, rfl, hc'⟩ := hc (by omega)
  obtain ⟨v', w', e1, e2, e3, e4⟩ := app_queue2 (P := P) w (ty := o.type) hu hi' hz hs (by omega) hz1 (st.mem.holds _ (zbw hi)) ⟨b, off, none⟩ cap q r (by rw [zfk]; exact hc' 0 q rfl) (by rw [zfk]; exact hc' 1 r rfl) h1 h2 hnm
  have hrr : (execOp a.eval o).run P w = .ok (.value v') w' := by
    simp only [execOp, ho, resolve, invoke, builtin, Sem.run_bind, Sem.run_pure, Result.andThen_ok, List.map_toArray, List.map_cons, List.map_nil, st.eval hx, st.eval hy, e1]
  rw [hrr, Oper.upon_value, hd]
  subst hn' hx'
  have hm2 : Mem w0 (l.set i (rowQ2 e v' (n + 1) (xs ++ [q, r]))) w' := st.mem.turnAt hi e3.os e3.tape e3.output e3.size (fun k hk hf => e3.block k hk (fun e => hf e.symm)) (rowQ2_ok _ _ _ _) (fun k hk => by
    have hk' : v'.ownBlock = some k := hk
    rcases e4 with h5 | h5
    · exact .inl (show v.ownBlock = some k from h5 ▸ hk')
    · rw [h5] at hk'; cases hk'; exact .inr (Nat.le_refl _)) (fun k hk => by
    obtain ⟨-, g2, off2, cap2, cur2, hv2, hg2, -⟩ := e2
    have hk' : v'.ownBlock = some k := hk
    rw [hv2] at hk'
    have : g2 = k := by simpa [Value.ownBlock] using hk'
    subst this
    exact (Array.getElem?_eq_some_iff.1 hg2).1) e2
  refine hK _ _ (k v' _ _ (st.put hN ?_))
  rw [← hL]
  exact hm2
end
abbrev vx0 : Vx := (0, false)
abbrev frB (fr : List Bl) (k : Nat) : Prop := (fr.getD k bl0).b = true
def FanI (n : Nt) (k c : Int) : Prop := n.fst ≤ k ∧ (c = kdA n k ∨ c = kdB n k)
def gI (n : Nt) (node : Int) (fr : List Bl) : FGr where
  M := n.cnt.toNat
  S := node.toNat
  fan k c := Rch n node k ∧ FanI n k c
  leaf k := 1 ≤ k ∧ (k : Int) < n.fst
  free k := frB fr k
abbrev insF (ins : List Int) : Nat → Int := fun k => ins.getD k 0
structure FiCtx (n : Nt) (node h : Int) (ls : List Int) (fr : List Bl) (ins : List Int) (E : Nat → Nat → Int) (v : Int) : Prop where
  ok : NtOk n
  nd : n.fst ≤ node ∧ node < n.cnt
  fl_ : fr.length = n.cnt.toNat
  f1 : frB fr node.toNat
  f2 : ∀ k : Nat, k < n.cnt.toNat → frB fr k → (k : Int) = node ∨ h ≤ lbI ls k
  f3 : ∀ k : Nat, k < n.cnt.toNat → Rch n node k → h ≤ lbI ls k → frB fr k
  il : ins.length = n.cnt.toNat
  fl : Fl (gI n node fr) E (insF ins)
  val : ins.getD node.toNat 0 = v
theorem FanI.lt {n : Nt} (hn : NtOk n) {k c : Int} (h : FanI n k c) (hk : k < n.cnt) : 0 ≤ c ∧ c < k := by
  obtain ⟨o1, o2, o3, o4, o5⟩ := zfv hn h.1 hk
  rcases h.2 with e | e <;> omega
theorem gI_ok {n : Nt} (hn : NtOk n) {node : Int} (hnd : n.fst ≤ node ∧ node < n.cnt) {fr : List Bl} (hf : frB fr node.toNat) : FGrOk (gI n node fr) := by
  have hf1 : 1 ≤ n.fst := by have := hn.i0; unfold Nt.fst; omega
  refine ⟨by show node.toNat < n.cnt.toNat; omega, fun k c hfan => ?_, ?_, hf⟩
  · obtain ⟨hr, hf2⟩ := hfan
    have hrg := hr.rng hn (by omega) hnd.2
    have hlt := hf2.lt hn (by omega)
    have := hf2.1
    show k < n.cnt.toNat ∧ c < n.cnt.toNat ∧ c ≠ node.toNat ∧ c ≠ k ∧ ¬ (1 ≤ k ∧ (k : Int) < n.fst)
    omega
  · show ¬ (1 ≤ node.toNat ∧ (node.toNat : Int) < n.fst); omega
theorem FanI.rch {n : Nt} {node k c : Int} (h : FanI n k c) (hr : Rch n node k) : Rch n node c := by
  rcases h.2 with e | e
  · rw [e]; exact .a hr h.1
  · rw [e]; exact .b hr h.1
structure SrI (n : Nt) (node : Int) (fr : List Bl) (ins : List Int) (E : Nat → Nat → Int) (vs : List Vx) (q : Nat) (F : Vx → Option Vx) : Prop where
  nd : vs.Nodup
  dom : ∀ x, (F x).isSome = true ↔ x ∈ vs
  top : vs.getD 0 vx0 = (node.toNat, true) ∧ 0 < vs.length ∧ F (node.toNat, true) = some (node.toNat, true)
  par : ∀ x ∈ vs, x ≠ (node.toNat, true) → ∃ y, F x = some y ∧ y ∈ vs ∧ vs.idxOf y < vs.idxOf x ∧ Av (gI n node fr) E (insF ins) y x
  rch : ∀ x ∈ vs, Rch n node x.1
  clo : ∀ i, i < q → ∀ z, Av (gI n node fr) E (insF ins) (vs.getD i vx0) z → z.1 < n.cnt.toNat → z ∈ vs
  leaf : ∀ i, i < q → ¬ ((vs.getD i vx0).2 = false ∧ (gI n node fr).leaf (vs.getD i vx0).1)
section
variable {n : Nt} {node h : Int} {ls : List Int} {fr : List Bl} {ins : List Int} {E : Nat → Nat → Int} {v : Int} {vs : List Vx} {q : Nat} {F : Vx → Option Vx}
theorem SrI.start (hnd : 0 ≤ node) : SrI n node fr ins E [(node.toNat, true)] 0 (mpU (fun _ => none) (node.toNat, true) (node.toNat, true)) := by
  refine ⟨by simp, fun x => ?_, ⟨rfl, by simp, zge _ _ _⟩, fun x hx hne => absurd (List.mem_singleton.1 hx) hne, fun x hx => ?_, fun i hi => absurd hi (by omega), fun i hi => absurd hi (by omega)⟩
  · rw [List.mem_singleton]
    by_cases e : x = (node.toNat, true)
    · subst e; rw [zge]; simp
    · rw [mpU_ne _ _ e]; simp [e]
  · rw [List.mem_singleton] at hx; subst hx
    show Rch n node ((node.toNat : Nat) : Int)
    rw [Int.toNat_of_nonneg hnd]; exact .top
theorem SrI.rng (cx : FiCtx n node h ls fr ins E v) (hs : SrI n node fr ins E vs q F) {x : Vx} (hx : x ∈ vs) : x.1 < n.cnt.toNat ∧ (x.1 : Int) ≤ node := by
  have hf1 : 1 ≤ n.fst := by have := cx.ok.i0; unfold Nt.fst; omega
  have := cx.nd
  have := (hs.rch x hx).rng cx.ok (by omega) cx.nd.2
  omega
theorem nodup_vx : ∀ (N : Nat) (xs : List Vx), xs.Nodup → (∀ x ∈ xs, x.1 < N) → xs.length ≤ 2 * N
  | 0, [], _, _ => Nat.le_refl _
  | 0, x :: t, _, hr => by have := hr x List.mem_cons_self; omega
  | N + 1, xs, hn, hr => by
    have h1 := (hn.erase (N, true)).erase (N, false)
    have h2 := nodup_vx N ((xs.erase (N, true)).erase (N, false)) h1 (fun x hx => by
      have hx1 := (hn.erase (N, true)).mem_erase_iff.1 hx
      have hx2 := hn.mem_erase_iff.1 hx1.2
      have := hr x hx2.2
      by_cases e : x.1 = N
      · obtain ⟨x1, x2⟩ := x
        simp only at e; subst e
        cases x2
        · exact absurd rfl hx1.1
        · exact absurd rfl hx2.1
      · omega)
    have h3 : xs.length ≤ (xs.erase (N, true)).length + 1 := by rw [List.length_erase]; split <;> omega
    have h4 : (xs.erase (N, true)).length ≤ ((xs.erase (N, true)).erase (N, false)).length + 1 := by rw [List.length_erase (a := (N, false))]; split <;> omega
    omega
theorem SrI.len (cx : FiCtx n node h ls fr ins E v) (hs : SrI n node fr ins E vs q F) : vs.length ≤ 2 * n.cnt.toNat := nodup_vx _ _ hs.nd (fun x hx => (hs.rng cx hx).1)
theorem getD_app {α : Type} {l m : List α} {k : Nat} {d : α} (h : k < l.length) : (l ++ m).getD k d = l.getD k d := zfx h
theorem SrI.put (hs : SrI n node fr ins E vs q F) (hq : q < vs.length) {y z : Vx} (hy : y ∈ vs) (hz : ¬ z ∈ vs) (ha : Av (gI n node fr) E (insF ins) y z) (hr : Rch n node z.1) : SrI n node fr ins E (vs ++ [z]) q (mpU F z y) := by
  have hzs : z ≠ (node.toNat, true) := fun e => hz (by
    rw [e, ← hs.top.1]; exact zbj hs.top.2.1)
  refine ⟨?_, fun x => ?_, ⟨by rw [getD_app hs.top.2.1]; exact hs.top.1, by rw [List.length_append]; have := hs.top.2.1; omega, by rw [mpU_ne _ _ hzs.symm]; exact hs.top.2.2⟩, fun x hx hne => ?_, fun x hx => ?_, fun i hi w hw hl => ?_, fun i hi => ?_⟩
  · rw [List.nodup_append]
    refine ⟨hs.nd, by simp, fun a ha' b hb e => ?_⟩
    rw [List.mem_singleton] at hb; subst hb; subst e; exact hz ha'
  · rw [List.mem_append, List.mem_singleton]
    by_cases e : x = z
    · subst e; rw [zge]; simp
    · rw [mpU_ne _ _ e, hs.dom]; simp [e]
  · rcases List.mem_append.1 hx with hx | hx
    · obtain ⟨p, p1, p2, p3, p4⟩ := hs.par x hx hne
      have e : x ≠ z := fun e => hz (e ▸ hx)
      refine ⟨p, by rw [mpU_ne _ _ e]; exact p1, List.mem_append_left _ p2, ?_, p4⟩
      rw [List.idxOf_append, if_pos p2, List.idxOf_append, if_pos hx]; exact p3
    · rw [List.mem_singleton] at hx; subst hx
      refine ⟨y, zge _ _ _, List.mem_append_left _ hy, ?_, ha⟩
      rw [List.idxOf_append, if_pos hy, List.idxOf_append, if_neg hz]
      have := List.idxOf_lt_length_of_mem hy; omega
  · rcases List.mem_append.1 hx with hx | hx
    · exact hs.rch x hx
    · rw [List.mem_singleton] at hx; subst hx; exact hr
  · rw [getD_app (by omega)] at hw
    exact List.mem_append_left _ (hs.clo i hi w hw hl)
  · rw [getD_app (by omega)]; exact hs.leaf i hi
structure Vis (n : Nt) (node : Int) (fr : List Bl) (ins : List Int) (E : Nat → Nat → Int) (vs : List Vx) (q : Nat) (z : Vx) (vs' : List Vx) (F' : Vx → Option Vx) : Prop where
  s : SrI n node fr ins E vs' q F'
  mem : z ∈ vs'
  old : ∃ t, vs' = vs ++ t
theorem SrI.vis_old (hs : SrI n node fr ins E vs q F) {z : Vx} (hz : z ∈ vs) : Vis n node fr ins E vs q z vs F := ⟨hs, hz, [], (List.append_nil _).symm⟩
theorem SrI.vis_new (hs : SrI n node fr ins E vs q F) (hq : q < vs.length) {y z : Vx} (hy : y ∈ vs) (hz : ¬ z ∈ vs) (ha : Av (gI n node fr) E (insF ins) y z) (hr : Rch n node z.1) : Vis n node fr ins E vs q z (vs ++ [z]) (mpU F z y) := ⟨hs.put hq hy hz ha hr, List.mem_append_right _ (List.mem_singleton.2 rfl), [z], rfl⟩
theorem SrI.next (hs : SrI n node fr ins E vs q F) (hc : ∀ z, Av (gI n node fr) E (insF ins) (vs.getD q vx0) z → z.1 < n.cnt.toNat → z ∈ vs) (hl : ¬ ((vs.getD q vx0).2 = false ∧ (gI n node fr).leaf (vs.getD q vx0).1)) : SrI n node fr ins E vs (q + 1) F :=
  ⟨hs.nd, hs.dom, hs.top, hs.par, hs.rch, fun i hi => by
    by_cases e : i = q
    · subst e; exact hc
    · exact hs.clo i (by omega), fun i hi => by
    by_cases e : i = q
    · subst e; exact hl
    · exact hs.leaf i (by omega)⟩
theorem av_out (hn : NtOk n) {k : Nat} {z : Vx} (ha : Av (gI n node fr) E (insF ins) (k, true) z) : (z = (k, false) ∧ (frB fr k ∨ ins.getD k 0 = 0)) ∨ (z.2 = false ∧ 1 ≤ E k z.1) := by
  rcases ha with ⟨-, h2, -, h4⟩ | ⟨h1, -⟩ | ⟨h1, -⟩ | ⟨-, h2, h3⟩
  · exact .inl ⟨h2, h4⟩
  · cases h1
  · cases h1
  · exact .inr ⟨h2, h3⟩
theorem av_in {k : Nat} {z : Vx} (ha : Av (gI n node fr) E (insF ins) (k, false) z) : (z = (k, true) ∧ 1 ≤ ins.getD k 0) ∨ (z.2 = true ∧ FanI n k z.1) := by
  rcases ha with ⟨h1, -⟩ | ⟨-, h2, -, h4⟩ | ⟨-, h2, h3⟩ | ⟨h1, -⟩
  · cases h1
  · exact .inl ⟨h2, h4⟩
  · exact .inr ⟨h2, h3.2⟩
  · cases h1
structure TrI (n : Nt) (node : Int) (fr : List Bl) (ins : List Int) (E : Nat → Nat → Int) (v : Int) (vs : List Vx) (F : Vx → Option Vx) (x : Vx) : Prop where
  il : ins.length = n.cnt.toNat
  fp : Fp (gI n node fr) E (insF ins) x
  mem : x ∈ vs
  av : ∀ z ∈ vs, z ≠ (node.toNat, true) → vs.idxOf z ≤ vs.idxOf x → ∀ y, F z = some y → Av (gI n node fr) E (insF ins) y z
  val : ins.getD node.toNat 0 = v + at1_o x (node.toNat, true)
structure FromI (n : Nt) (node : Int) (vs : List Vx) (F : Vx → Option Vx) : Prop where
  nd : vs.Nodup
  top : F (node.toNat, true) = some (node.toNat, true)
  par : ∀ x ∈ vs, x ≠ (node.toNat, true) → ∃ y, F x = some y ∧ y ∈ vs ∧ vs.idxOf y < vs.idxOf x
  rng : ∀ x ∈ vs, x.1 < n.cnt.toNat
theorem SrI.from_ (cx : FiCtx n node h ls fr ins E v) (hs : SrI n node fr ins E vs q F) : FromI n node vs F := ⟨hs.nd, hs.top.2.2, fun x hx hne => by obtain ⟨y, a, b, c, d⟩ := hs.par x hx hne; exact ⟨y, a, b, c⟩, fun x hx => (hs.rng cx hx).1⟩
theorem SrI.found (cx : FiCtx n node h ls fr ins E v) (hs : SrI n node fr ins E vs q F) {k : Nat} (hk : (k, false) ∈ vs) (hl : 1 ≤ k ∧ (k : Int) < n.fst) : TrI n node fr ins E v vs F (k, false) := by
  refine ⟨cx.il, cx.fl.leaf hl, hk, fun z hz hne _ y hy => ?_, ?_⟩
  · obtain ⟨y', a, b, c, d⟩ := hs.par z hz hne
    have : y = y' := Option.some.inj (hy.symm.trans a)
    rw [this]; exact d
  · rw [zdv (fun e => by cases e), cx.val]; omega
theorem insF_set {k : Nat} {x : Int} (hk : k < ins.length) : insF (ins.set k x) = updF (insF ins) k x := by
  funext j
  unfold insF updF
  by_cases e : j = k
  · subst e; rw [if_pos rfl, zbn hk]
  · rw [if_neg e, List.getD_eq_getElem?_getD, List.getElem?_set_ne (fun q => e q.symm), ← List.getD_eq_getElem?_getD]
theorem TrI.step (hn : NtOk n) (hnd : n.fst ≤ node ∧ node < n.cnt) (hf : frB fr node.toNat) (hF : FromI n node vs F) {x y : Vx} (ht : TrI n node fr ins E v vs F x) (hx : x ≠ (node.toNat, true)) (hy : F x = some y) :
    y ≠ x ∧ vs.idxOf y < vs.idxOf x ∧ x.1 < n.cnt.toNat ∧ y.1 < n.cnt.toNat ∧
    (x.1 = y.1 → y.2 = true → TrI n node fr (ins.set x.1 (ins.getD x.1 0 + 1)) E v vs F y) ∧
    (x.1 = y.1 → y.2 = false → TrI n node fr (ins.set x.1 (ins.getD x.1 0 - 1)) E v vs F y) ∧
    (x.1 ≠ y.1 → x.2 = true → TrI n node fr ins (updT E x.1 y.1 (E x.1 y.1 + 1)) v vs F y) ∧
    (x.1 ≠ y.1 → x.2 = false → TrI n node fr ins (updT E y.1 x.1 (E y.1 x.1 - 1)) v vs F y) := by
  obtain ⟨y', a, b, c⟩ := hF.par x ht.mem hx
  have : y' = y := Option.some.inj (a.symm.trans hy)
  subst this
  have hg := gI_ok hn hnd hf
  have ha := ht.av x ht.mem hx (Nat.le_refl _) _ hy
  have hyx : y' ≠ x := fun e => by rw [e] at c; omega
  obtain ⟨E', I', p1, p2, p3, p4, p5, p6⟩ := fp_step hg ht.fp ha
  have hxr := hF.rng x ht.mem
  have hyr := hF.rng y' b
  have hil := ht.il
  have keep : ∀ z ∈ vs, z ≠ (node.toNat, true) → vs.idxOf z ≤ vs.idxOf y' → ∀ u, F z = some u → Av (gI n node fr) E' I' u z := fun z hz hne hzi u hu => by
    obtain ⟨u', b1, b2, b3⟩ := hF.par z hz hne
    have : u' = u := Option.some.inj (b1.symm.trans hu)
    subst this
    refine p2 _ _ (.inr fun e => by subst e; omega) ?_ (ht.av z hz hne (by omega) _ hu)
    by_cases e : z = y'
    · left; intro e2; subst e; subst e2; omega
    · exact .inr e
  -- the value at the source
  have hval : ∀ (I2 : List Int), insF I2 = I' → I2.length = n.cnt.toNat → I2.getD node.toNat 0 = v + at1_o y' (node.toNat, true) := fun I2 hI _ => by
    have e0 : I2.getD node.toNat 0 = I' node.toNat := by rw [← hI]
    rw [e0]
    have hv := ht.val
    rw [zdv hx] at hv
    have hvI : insF ins node.toNat = v := by show ins.getD node.toNat 0 = v; omega
    obtain ⟨x1, x2⟩ := x
    obtain ⟨y1, y2⟩ := y'
    by_cases hS : (y1, y2) = (node.toNat, true)
    · cases hS
      rw [zek]
      rcases ha with ⟨-, h2, -, -⟩ | ⟨h1, -⟩ | ⟨h1, -⟩ | ⟨-, h2, h3⟩
      · cases h2
        obtain ⟨-, rfl⟩ := p3 rfl rfl
        rw [zeq, hvI]
      · cases h1
      · cases h1
      · exact absurd rfl (hg.f _ _ (ht.fp.ef _ _ (show 0 < E node.toNat x1 from h3))).2.2.1
    · rw [zdv hS]
      rcases ha with ⟨h1, h2, -, -⟩ | ⟨h1, h2, h3, -⟩ | ⟨h1, h2, h3⟩ | ⟨h1, h2, h3⟩
      · simp only at h1; subst h1; cases h2
        obtain ⟨-, rfl⟩ := p3 rfl rfl
        rw [zel _ _ (fun e => hS (by rw [e])), hvI]; omega
      · simp only at h1; subst h1; cases h2
        obtain ⟨-, rfl⟩ := p4 rfl rfl
        have h9 : node.toNat ≠ y1 := fun e => h3 e.symm
        rw [zel _ _ h9, hvI]; omega
      · simp only at h1 h2; subst h1; subst h2
        obtain ⟨rfl, -⟩ := p5 rfl rfl (fun e => (hg.f _ _ h3).2.2.2.1 e.symm)
        rw [hvI]; omega
      · simp only at h1 h2; subst h1; subst h2
        obtain ⟨rfl, -⟩ := p6 rfl rfl (fun e => (hg.f _ _ (ht.fp.ef _ _ (show 0 < E y1 x1 from h3))).2.2.2.1 e)
        rw [hvI]; omega
  refine ⟨hyx, c, hxr, hyr, fun e1 e2 => ?_, fun e1 e2 => ?_, fun e1 e2 => ?_, fun e1 e2 => ?_⟩
  · obtain ⟨x1, x2⟩ := x
    obtain ⟨y1, y2⟩ := y'
    simp only at e1 e2 hxr; subst e1; subst e2
    have hx2 : x2 = false := by
      cases x2
      · rfl
      · exact absurd rfl hyx
    subst hx2
    obtain ⟨q1, q2⟩ := p3 rfl rfl
    have hI : insF (ins.set x1 (ins.getD x1 0 + 1)) = I' := by rw [q2, insF_set (by omega)]
    subst q1
    exact ⟨by rw [List.length_set]; exact hil, by rw [hI]; exact p1, b, by rw [hI]; exact keep, hval _ hI (by rw [List.length_set]; exact hil)⟩
  · obtain ⟨x1, x2⟩ := x
    obtain ⟨y1, y2⟩ := y'
    simp only at e1 e2 hxr; subst e1; subst e2
    have hx2 : x2 = true := by
      cases x2
      · exact absurd rfl hyx
      · rfl
    subst hx2
    obtain ⟨q1, q2⟩ := p4 rfl rfl
    have hI : insF (ins.set x1 (ins.getD x1 0 - 1)) = I' := by rw [q2, insF_set (by omega)]
    subst q1
    exact ⟨by rw [List.length_set]; exact hil, by rw [hI]; exact p1, b, by rw [hI]; exact keep, hval _ hI (by rw [List.length_set]; exact hil)⟩
  · have hy2 : y'.2 = false := by
      rcases ha with ⟨h1, h2, -, -⟩ | ⟨h1, -⟩ | ⟨h1, -⟩ | ⟨-, h2, -⟩
      · rw [h2] at e2; cases e2
      · exact h1
      · exact h1
      · rw [h2] at e2; cases e2
    obtain ⟨q1, q2⟩ := p5 e2 hy2 (fun e => e1 e.symm)
    have hI : insF ins = I' := q1.symm
    subst q2
    exact ⟨hil, by rw [hI]; exact p1, b, by rw [hI]; exact keep, hval _ hI hil⟩
  · have hy2 : y'.2 = true := by
      rcases ha with ⟨h1, -⟩ | ⟨-, h2, -⟩ | ⟨-, h2, -⟩ | ⟨h1, -⟩
      · exact h1
      · rw [h2] at e2; cases e2
      · rw [h2] at e2; cases e2
      · exact h1
    obtain ⟨q1, q2⟩ := p6 e2 hy2 (fun e => e1 e.symm)
    have hI : insF ins = I' := q1.symm
    subst q2
    exact ⟨hil, by rw [hI]; exact p1, b, by rw [hI]; exact keep, hval _ hI hil⟩
theorem TrI.done (cx : FiCtx n node h ls fr ins E v) {ins' : List Int} {E' : Nat → Nat → Int} (ht : TrI n node fr ins' E' v vs F (node.toNat, true)) : FiCtx n node h ls fr ins' E' (v + 1) :=
  ⟨cx.ok, cx.nd, cx.fl_, cx.f1, cx.f2, cx.f3, ht.il, Fp.done (g := gI n node fr) ht.fp, by rw [ht.val, zek]⟩
theorem TrI.all (cx : FiCtx n node h ls fr ins E v) (hF : FromI n node vs F) : ∀ (f : Nat) (x : Vx) (ins' : List Int) (E' : Nat → Nat → Int), vs.idxOf x < f → TrI n node fr ins' E' v vs F x → ∃ ins2 E2, FiCtx n node h ls fr ins2 E2 (v + 1)
  | 0, _, _, _, hf, _ => absurd hf (by omega)
  | f + 1, x, ins', E', hf, ht => by
    by_cases hx : x = (node.toNat, true)
    · subst hx; exact ⟨_, _, ht.done cx⟩
    · obtain ⟨y, a, b, c⟩ := hF.par x ht.mem hx
      obtain ⟨s1, s2, s3, s4, t1, t2, t3, t4⟩ := ht.step cx.ok cx.nd cx.f1 hF hx a
      by_cases e : x.1 = y.1
      · cases hy : y.2
        · exact TrI.all cx hF f y _ _ (by omega) (t2 e hy)
        · exact TrI.all cx hF f y _ _ (by omega) (t1 e hy)
      · cases hx2 : x.2
        · exact TrI.all cx hF f y _ _ (by omega) (t4 e hx2)
        · exact TrI.all cx hF f y _ _ (by omega) (t3 e hx2)
theorem covI_fan {C : List Int} {k c : Int} (h : Cov n C k) (h1 : 1 ≤ n.fst) (hk : ¬ k ∈ C) (hf : FanI n k c) : Cov n C c := by
  have := hf.1
  cases h with
  | zero => omega
  | mem e => exact absurd e hk
  | and _ _ p q =>
    rcases hf.2 with e | e
    · rw [e]; exact p
    · rw [e]; exact q
theorem covI_leaf {C : List Int} {z : Int} (h : Cov n C z) (h1 : 1 ≤ z) (hl : z < n.fst) (hz : ¬ z ∈ C) : False := by
  cases h with
  | zero => omega
  | mem e => exact hz e
  | and h0 _ _ _ => omega
theorem FiCtx.weak (cx : FiCtx n node h ls fr ins E v) {C : List Int} (hC : SepC n ls node h C) : v ≤ C.length := by
  have hnd := cx.nd
  have hf1 : 1 ≤ n.fst := by have := cx.ok.i0; unfold Nt.fst; omega
  have hmem : ∀ k : Nat, k ∈ C.map Int.toNat ↔ (k : Int) ∈ C := fun k => by
    rw [List.mem_map]
    constructor
    · rintro ⟨c, hc, rfl⟩; rw [Int.toNat_of_nonneg (hC.lo c hc).1.1]; exact hc
    · intro hc; exact ⟨_, hc, Int.toNat_natCast k⟩
  have hnn : ¬ node ∈ C := fun e => by have := (hC.lo _ e).1.2; omega
  have hb : ∀ k, Btw (gI n node fr) (· ∈ C.map Int.toNat) k → Cov n C k ∧ ¬ (k : Int) ∈ C := fun k hk => by
    induction hk with
    | s =>
      show Cov n C ((node.toNat : Nat) : Int) ∧ ¬ ((node.toNat : Nat) : Int) ∈ C
      rw [Int.toNat_of_nonneg (by omega)]; exact ⟨hC.cov, hnn⟩
    | @f k c _ hf hc ih =>
      rw [hmem] at hc
      refine ⟨?_, hc⟩
      exact covI_fan ih.1 hf1 ih.2 hf.2
  have h1 := weakF (gI_ok cx.ok cx.nd cx.f1) cx.fl (C.map Int.toNat) (fun c hc => by
    rw [hmem] at hc
    have hlo := hC.lo _ hc
    intro hfree
    rcases cx.f2 c (by omega) hfree with e | e <;> omega) (fun k hk => by
    obtain ⟨i2, i3⟩ := hb k hk
    rintro ⟨hl0, hl⟩
    exact covI_leaf i2 (by omega) hl i3)
  rw [List.length_map] at h1
  have h2 : ins.getD node.toNat 0 ≤ C.length := h1
  rw [cx.val] at h2; exact h2
def cutQ (F : Vx → Option Vx) (i : Nat) : Bool := (F (i, true)).isSome && !(F (i, false)).isSome && decide (i ≠ 0)
def cutF (F : Vx → Option Vx) (k : Nat) : List Int := ((List.range k).filter (cutQ F)).map fun i : Nat => (i : Int)
theorem cutF_yes {k : Nat} (h : cutQ F k = true) : cutF F k ++ [(k : Int)] = cutF F (k + 1) := by
  unfold cutF; rw [List.range_succ, List.filter_append, List.map_append, List.filter_cons_of_pos h]; rfl
theorem cutF_no {k : Nat} (h : cutQ F k = false) : cutF F k = cutF F (k + 1) := by
  unfold cutF; rw [List.range_succ, List.filter_append, List.map_append, List.filter_cons_of_neg (by rw [h]; decide)]; simp
theorem cutF_len (k : Nat) : (cutF F k).length ≤ k := by
  unfold cutF; rw [List.length_map]; have := List.length_filter_le (cutQ F) (List.range k); simpa using this
theorem cutF_mem {k : Nat} {x : Int} : x ∈ cutF F k ↔ (0 ≤ x ∧ x < k) ∧ cutQ F x.toNat = true := by
  unfold cutF
  simp only [List.mem_map, List.mem_filter, List.mem_range]
  constructor
  · rintro ⟨i, ⟨h1, h2⟩, rfl⟩
    exact ⟨⟨by omega, by omega⟩, by rw [Int.toNat_natCast]; exact h2⟩
  · rintro ⟨⟨h1, h2⟩, h3⟩
    exact ⟨x.toNat, ⟨by omega, h3⟩, by omega⟩
theorem cutF_asc : ∀ k : Nat, (cutF F k).Pairwise (· < ·) := fun k => by
  unfold cutF
  rw [List.pairwise_map]
  refine (List.Pairwise.filter _ List.pairwise_lt_range).imp (fun h => by omega)
theorem SrI.cut (cx : FiCtx n node h ls fr ins E v) (hs : SrI n node fr ins E vs q F) (hq : vs.length ≤ q) (hh : 1 ≤ h) :
    ((cutF F n.cnt.toNat).length : Int) = v ∧ SepC n ls node h (cutF F n.cnt.toNat) ∧ ∀ k ∈ cutF F n.cnt.toNat, Rch n node k := by
  have hnd := cx.nd
  have hf1 : 1 ≤ n.fst := by have := cx.ok.i0; unfold Nt.fst; omega
  have hg := gI_ok cx.ok cx.nd cx.f1
  have htop : (node.toNat, true) ∈ vs := by rw [← hs.top.1]; exact zbj hs.top.2.1
  have hclo : ∀ y z, y ∈ vs → Av (gI n node fr) E (insF ins) y z → z.1 < n.cnt.toNat → z ∈ vs := fun y z hy ha hz => by
    obtain ⟨i, hi, rfl⟩ := List.mem_iff_getElem.1 hy
    have e1 : vs.getD i vx0 = vs[i] := by rw [List.getD_eq_getElem?_getD, List.getElem?_eq_getElem hi]; rfl
    exact hs.clo i (by omega) z (by rw [e1]; exact ha) hz
  have hbot : (node.toNat, false) ∈ vs := hclo _ _ htop (.inl ⟨rfl, rfl, by show node.toNat < n.cnt.toNat; omega, .inl cx.f1⟩) (by show node.toNat < n.cnt.toNat; omega)
  have hr : Rchd (gI n node fr) E (insF ins) (· ∈ vs) := by
    refine ⟨hbot, fun y z hy ha hz => .inl (hclo y z hy ha hz), fun k hk => ?_, fun k hk => (hs.rng cx hk).1⟩
    obtain ⟨i, hi, e⟩ := List.mem_iff_getElem.1 hk
    have e1 : vs.getD i vx0 = (k, false) := by rw [List.getD_eq_getElem?_getD, List.getElem?_eq_getElem hi, ← e]; rfl
    have := hs.leaf i (by omega)
    rw [e1] at this
    exact fun q => this ⟨rfl, q⟩
  have h0 : (0, true) ∈ vs → (0, false) ∈ vs := fun hz => by
    have hI : insF ins 0 = 0 := by
      rw [cx.fl.dn 0 (by show 0 < n.cnt.toNat; omega) (fun q => by have := q.1; omega)]
      refine zdz _ (fun c _ => ?_)
      have e0 := cx.fl.e0 c 0
      by_cases p : 0 < E c 0
      · have := (cx.fl.ef _ _ p).2.1
        omega
      · omega
    exact hclo _ _ hz (.inl ⟨rfl, rfl, by show 0 < n.cnt.toNat; omega, .inr hI⟩) (by show 0 < n.cnt.toNat; omega)
  have hK : ∀ c, c ∈ (List.range n.cnt.toNat).filter (cutQ F) ↔ (c, true) ∈ vs ∧ ¬ (c, false) ∈ vs ∧ c ≠ (gI n node fr).S := fun c => by
    rw [List.mem_filter, List.mem_range]
    unfold cutQ
    rw [Bool.and_eq_true, Bool.and_eq_true, hs.dom, decide_eq_true_eq, Bool.not_eq_true', ← Bool.not_eq_true, hs.dom]
    constructor
    · rintro ⟨a, ⟨b, c1⟩, d⟩
      exact ⟨b, c1, fun e => c1 (by rw [e]; exact hbot)⟩
    · rintro ⟨a, b, c1⟩
      refine ⟨(hs.rng cx a).1, ⟨a, b⟩, fun e => ?_⟩
      subst e; exact b (h0 a)
  obtain ⟨l1, l2, l3⟩ := leastF hg cx.fl hr _ (List.nodup_range.filter _) hK
  have hmem : ∀ c : Int, c ∈ cutF F n.cnt.toNat → 0 ≤ c ∧ c.toNat ∈ (List.range n.cnt.toNat).filter (cutQ F) := fun c hc => by
    obtain ⟨⟨a, b⟩, d⟩ := cutF_mem.1 hc
    exact ⟨a, List.mem_filter.2 ⟨List.mem_range.2 (by omega), d⟩⟩
  have hrch : ∀ c ∈ cutF F n.cnt.toNat, Rch n node c := fun c hc => by
    obtain ⟨a, b⟩ := hmem c hc
    have := hs.rch _ ((hK _).1 b).1
    have h9 : Rch n node ((c.toNat : Nat) : Int) := this
    rwa [Int.toNat_of_nonneg a] at h9
  have key : ∀ (f : Nat) (k : Int), k.toNat < f → 0 ≤ k → (k.toNat, false) ∈ vs → Cov n (cutF F n.cnt.toNat) k := fun f => by
    induction f with
    | zero => intro k hf; exact absurd hf (by omega)
    | succ f ih =>
      intro k hf hk0 hk
      have hrg := hs.rng cx hk
      have hrg1 : k.toNat < n.cnt.toNat := hrg.1
      have hrk : Rch n node k := by
        have h9 : Rch n node ((k.toNat : Nat) : Int) := hs.rch _ hk
        rwa [Int.toNat_of_nonneg hk0] at h9
      by_cases kz : k = 0
      · rw [kz]; exact .zero
      · have hand : n.fst ≤ k := by
          by_cases c : n.fst ≤ k
          · exact c
          · exact absurd (show 1 ≤ k.toNat ∧ ((k.toNat : Nat) : Int) < n.fst by omega) (hr.leaf _ hk)
        obtain ⟨o1, o2, o3, o4, o5⟩ := zfv cx.ok hand (by omega)
        have hkid : ∀ c : Int, 0 ≤ c → c < k → FanI n k c → Cov n (cutF F n.cnt.toNat) c := fun c c0 ck hf2 => by
          have hc1 : (c.toNat, true) ∈ vs := hclo _ _ hk (.inr (.inr (.inl ⟨rfl, rfl, by
            show Rch n node ((k.toNat : Nat) : Int) ∧ FanI n ((k.toNat : Nat) : Int) ((c.toNat : Nat) : Int)
            rw [Int.toNat_of_nonneg hk0, Int.toNat_of_nonneg c0]; exact ⟨hrk, hf2⟩⟩))) (by show c.toNat < n.cnt.toNat; omega)
          by_cases c2 : (c.toNat, false) ∈ vs
          · exact ih c (by omega) c0 c2
          · refine .mem (cutF_mem.2 ⟨⟨c0, by omega⟩, ?_⟩)
            have h9 : c.toNat ∈ (List.range n.cnt.toNat).filter (cutQ F) := (hK _).2 ⟨hc1, c2, fun e => c2 (by rw [e]; exact hbot)⟩
            exact (List.mem_filter.1 h9).2
        exact .and hand (by omega) (hkid _ o2 o3 ⟨hand, .inl rfl⟩) (hkid _ o4 o5 ⟨hand, .inr rfl⟩)
  refine ⟨?_, ⟨fun c hc => ?_, key (node.toNat + 1) node (by omega) (by omega) hbot⟩, hrch⟩
  · have e1 : (cutF F n.cnt.toNat).length = ((List.range n.cnt.toNat).filter (cutQ F)).length := by unfold cutF; rw [List.length_map]
    rw [e1]
    have l1' : ins.getD node.toNat 0 = (((List.range n.cnt.toNat).filter (cutQ F)).length : Int) := l1
    rw [← l1', cx.val]
  · obtain ⟨a, b⟩ := hmem c hc
    obtain ⟨k1, k2, k3⟩ := (hK _).1 b
    have hrg := hs.rng cx k1
    have hrg1 : c.toNat < n.cnt.toNat := hrg.1
    have hrg2 : ((c.toNat : Nat) : Int) ≤ node := hrg.2
    have k3' : c.toNat ≠ node.toNat := k3
    refine ⟨⟨a, by omega⟩, ?_⟩
    by_cases q : lbI ls c < h
    · exact q
    · exfalso
      have hfree : frB fr c.toNat := cx.f3 c.toNat hrg1 (by rw [Int.toNat_of_nonneg a]; exact hrch c hc) (by rw [Int.toNat_of_nonneg a]; omega)
      exact l2 _ b hfree
end
def stV (x : Vx) : Value := .agg #[.int .i64 (x.1 : Int), .bool x.2]
def vxC (x : Vx) : List Value := [.int .i64 (x.1 : Int), .bool x.2]
def edV (p : Nat × Nat) : Value := .agg #[.int .i64 (p.1 : Int), .int .i64 (p.2 : Int)]
def inV (x : Int) : Value := .int .i64 x
theorem stV_inj : ∀ x x', stV x = stV x' → x = x' := fun x x' h => by
  obtain ⟨a, b⟩ := x
  obtain ⟨a', b'⟩ := x'
  simp only [stV, Value.agg.injEq] at h
  have h1 := congrArg Array.toList h
  simp at h1
  exact Prod.ext (by have := h1.1; show a = a'; omega) h1.2
theorem edV_inj : ∀ x x', edV x = edV x' → x = x' := fun x x' h => by
  obtain ⟨a, b⟩ := x
  obtain ⟨a', b'⟩ := x'
  simp only [edV, Value.agg.injEq] at h
  have h1 := congrArg Array.toList h
  simp at h1
  exact Prod.ext (by have := h1.1; show a = a'; omega) (by have := h1.2; show b = b'; omega)
theorem laidF : laidOutB Try.prog = true := by kernel_rfl
theorem klSt : Go.WideMaps.KeyLaw Try.prog 76 := deep_law_laid laidF (m := 2) (by omega) (of_decide_eq_true (by kernel_rfl)) (by kernel_rfl) (by rw [Try.underlying76])
theorem klEd : Go.WideMaps.KeyLaw Try.prog 88 := deep_law_laid laidF (m := 2) (by omega) (of_decide_eq_true (by kernel_rfl)) (by kernel_rfl) (by rw [Try.underlying88])
theorem kSt : Keyed Try.prog 76 := Keyed.of_law klSt
theorem kEd : Keyed Try.prog 88 := Keyed.of_law klEd
theorem wf_nat {x : Nat} (h : x ≤ 4611686018427387904) : (Lit.int .i64 (x : Int)).wf = true := by
  show (decide (IntKind.i64.min ≤ (x : Int)) && decide ((x : Int) ≤ IntKind.i64.max)) = true
  have h1 : IntKind.i64.min = -9223372036854775808 := by rfl
  have h2 : IntKind.i64.max = 9223372036854775807 := by rfl
  rw [h1, h2, decide_eq_true (by omega), decide_eq_true (by omega)]; rfl
theorem szF : ∃ m, Try.prog.types.size = m + 1 := ⟨Try.prog.types.size - 1, by kernel_rfl⟩
theorem c_int : Try.prog.cellsOf 3 = 1 := by kernel_rfl
theorem c_bool : Try.prog.cellsOf 4 = 1 := by kernel_rfl
theorem c_st : Try.prog.cellsOf 76 = 2 := by kernel_rfl
theorem c_ed : Try.prog.cellsOf 88 = 2 := by kernel_rfl
theorem keySt (x : Vx) (hx : x.1 ≤ 4611686018427387904) : ∃ kl, keyOf Try.prog 76 (stV x) = some kl := by
  have hkt : Try.prog.keyType 76 = true := by kernel_rfl
  obtain ⟨m, hm⟩ := szF
  unfold keyOf
  simp only [Try.underlying76]
  rw [if_pos (by simp [hkt, stV, Value.formed, Try.underlying76, c_st]), hm]
  unfold Program.keyLits
  simp only [Try.underlying76, stV, Value.cells]
  rw [if_pos (by rw [c_st]; exact ⟨rfl, by kernel_rfl⟩)]
  simp [Program.keyLits, Try.underlying3, Try.underlying4, c_int, c_bool, wf_nat hx]
theorem keyEd (p : Nat × Nat) (h1 : p.1 ≤ 4611686018427387904) (h2 : p.2 ≤ 4611686018427387904) : ∃ kl, keyOf Try.prog 88 (edV p) = some kl := by
  have hkt : Try.prog.keyType 88 = true := by kernel_rfl
  obtain ⟨m, hm⟩ := szF
  unfold keyOf
  simp only [Try.underlying88]
  rw [if_pos (by simp [hkt, edV, Value.formed, Try.underlying88, c_ed]), hm]
  unfold Program.keyLits
  simp only [Try.underlying88, edV, Value.cells]
  rw [if_pos (by rw [c_ed]; rfl), show List.range 2 = [0, 1] from rfl, List.mapM_cons, List.mapM_cons, List.mapM_nil]
  simp [c_int, Program.keyLits, Try.underlying3, wf_nat h1, wf_nat h2]
theorem zSt (w : World) : (zeroValue 76).run Try.prog w = .ok (stV vx0) w := by kernel_rfl
theorem zIn (w : World) : (zeroValue 3).run Try.prog w = .ok (inV 0) w := by kernel_rfl
abbrev frE (b n : Nat) (F : Vx → Option Vx) : HP := mpE Try.prog 76 stV stV b n F
abbrev egE (b n : Nat) (G : Nat × Nat → Option Int) : HP := mpE Try.prog 88 edV inV b n G
abbrev EgW (w : World) (b n : Nat) (G : Nat × Nat → Option Int) : Prop := MpW Try.prog w 88 edV inV b n G
def EgOk (G : Nat × Nat → Option Int) (E : Nat → Nat → Int) : Prop := ∀ c k, (G (c, k)).getD 0 = E c k
theorem EgOk.upd {G : Nat × Nat → Option Int} {E : Nat → Nat → Int} (h : EgOk G E) (c k : Nat) (x : Int) : EgOk (mpU G (c, k) x) (updT E c k x) := fun i j => by
  by_cases e : i = c ∧ j = k
  · obtain ⟨rfl, rfl⟩ := e; rw [zge, zft]; rfl
  · rw [mpU_ne _ _ (fun q => e (by cases q; exact ⟨rfl, rfl⟩)), zee _ _ e]; exact h i j
theorem DrawNode_ret (a : Option Addr) (len cap : Nat) (z : List Int) (w : World) (hb : BRow .u8 w a len cap z) (hlen : len ≤ 1048576) :
   Calls Try.prog 5 #[.slice a len cap] w (Ret w (fun v' post => ∃ (n : Nt) (node : Int), v' = .tuple #[n.agg, .int .i64 node] ∧ post = [ntE n] ∧ (n.sv.oneCell' = true ∧ n.av.oneCell' = true ∧ n.ov.oneCell' = true) ∧ NtOk n ∧ (n.ins ≤ 4 ∧ (n.ss.length : Int) ≤ 3 ∧ (n.gs.length : Int) ≤ 14) ∧ 0 ≤ node ∧ node < n.cnt)) := by
 refine zbg (N := 15) (args := [.slice a len cap]) Try.func5 rfl rfl (srQ ?_)
 refine zei rfl (zbq (z := .agg #[.int .i64 0, .slice none 0 0, .slice none 0 0, .slice none 0 0]) rfl rfl) ?_
 intro b1
 refine zbb 1 rfl (zaa (reQ 1 rfl ?_))
 refine hl_q rfl rfl rfl (zas rfl rfl (fun w hm => new_ret (hb.below hm.bel) hlen)) ?_
 intro v2 p3 hR4
 obtain ⟨ghR4, rfl, rfl⟩ := hR4
 refine zbb 1 rfl (zaa (reQ 1 rfl ?_))
 refine zda (R := (fun u_ p_ => ∃ n : Nt, u_ = n.agg ∧ p_ = bigE [curE ghR4 a len cap, ntE n] ∧ (n.sv.oneCell' = true ∧ n.av.oneCell' = true ∧ n.ov.oneCell' = true) ∧ NtOk n ∧ n.ins ≤ 4 ∧ (n.ss.length : Int) ≤ 3 ∧ (n.gs.length : Int) ≤ 14)) 0 rfl rfl rfl rfl rfl (fun l' w hm => l08Net_mut ghR4 a len cap z _ _ _ hm hb) ?_
 intro v5 p6 hR7
 obtain ⟨n, rfl, rfl, ⟨o1n, o2n, o3n⟩, hn, hnq1, hnq2, hnq3⟩ := hR7
 refine zdo (l' := [bigE [curE ghR4 a len cap, ntE n], boxE b1 #[.int .i64 0, .slice none 0 0, .slice none 0 0, .slice none 0 0] 28]) rfl ?_
 refine zei rfl (zbq (z := .agg #[.int .i64 0, .slice none 0 0, .slice none 0 0, .slice none 0 0]) rfl rfl) ?_
 intro b8
 refine zbu (cs' := #[.int .i64 n.ins, n.sv, n.av, n.ov]) (i := 0) (off := 0) (us := [.int .i64 n.ins, n.sv, n.av, n.ov]) rfl rfl rfl rfl rfl rfl rfl (zar rfl (zar o1n (zar o2n (zar o3n zbs)))) rfl rfl rfl (ntQ (zaa ?_))
 refine zfp 3 [2, 0, 1] rfl rfl (by decide) ?_
 refine zev [curE ghR4 a len cap, ntE n, boxE b8 #[.int .i64 n.ins, n.sv, n.av, n.ov] 28, boxE b1 #[.int .i64 0, .slice none 0 0, .slice none 0 0, .slice none 0 0] 28] zfy ?_
 have hi0 := hn.i0
 have hi1 := hn.i1
 have hs1 := hn.s1
 have ha1 := hn.a1
 have ho1 := hn.o1
 have hcnt : n.cnt = 1 + n.ins + n.ss.length + n.gs.length := rfl
 have hfst : n.fst = 1 + n.ins + n.ss.length := rfl
 refine zfo (l := [ntE n, boxE b8 #[.int .i64 n.ins, n.sv, n.av, n.ov] 28, boxE b1 #[.int .i64 0, .slice none 0 0, .slice none 0 0, .slice none 0 0] 28]) rfl 5 [0, 1, 2, 3, 4] (List.take 5 _) (List.drop 5 _) [[], [], [], [2], [1, 3]] [10, 11, 12, 13, 14] (fun i_ vs_ v_ p_ => match i_ with | 0 => v_ = .agg #[.int .i64 n.ins, n.sv, n.av, n.ov] ∧ p_ = [] | 1 => v_ = .pointer (some ⟨ghR4, 0, none⟩) ∧ p_ = [] | 2 => v_ = .agg #[.int .i64 n.ins, n.sv, n.av, n.ov] ∧ p_ = [] | 3 => v_ = .int .i64 n.cnt ∧ p_ = [] | 4 => (∃ pm_, p_ = [pm_] ∧ (fun u_ p_ => (∃ x_ : Int, u_ = .int .i64 x_ ∧ 0 ≤ x_ ∧ x_ < n.cnt) ∧ p_ = curE ghR4 a len cap) v_ pm_) | _ => True) [[], [], [], [2], [1, 3]] [none, none, none, none, some 7] [curE ghR4 a len cap] [0, 1, 2, 3, 4] 7 (List.take_append_drop 5 _).symm (by kernel_rfl) (by kernel_rfl) (by kernel_rfl) rfl rfl ?_ ?_
 ·
  refine ⟨?_, ?_, ?_, ?_, ?_, trivial⟩
  ·
   intro vf pf hmu hR
   refine dqQ [] [] rfl (zby (zau [5] rfl) (List.sublist_append_right _ _) ?_)
   exact zbz (zaf (cs := [.int .i64 n.ins, n.sv, n.av, n.ov]) rfl rfl rfl rfl rfl (zag 1 rfl 0 rfl))
  ·
   intro vf pf hmu hR
   refine dqQ [] [] rfl (zcd (zau [4] rfl) ?_)
   exact zbz (zae rfl)
  ·
   intro vf pf hmu hR
   refine dqQ [] [] rfl (zby (zau [5] rfl) (List.sublist_append_right _ _) ?_)
   exact zbz (zaf (cs := [.int .i64 n.ins, n.sv, n.av, n.ov]) rfl rfl rfl rfl rfl (zag 1 rfl 0 rfl))
  ·
   intro vf pf hmu hR
   have e2 := hR 2 (by decide)
   refine dqQ [2] [2] rfl (zby (sk 12 (congrArg some e2.1) (zak _)) (List.sublist_append_right _ _) ?_)
   exact (zas rfl rfl (fun w hm => zaz (zbk n w (zfu 0 rfl w hm) hn)))
  intro vf pf hmu hR
  have e1 := hR 1 (by decide)
  have e3 := hR 3 (by decide)
  refine Or.inl ⟨rfl, ?_⟩
  show RunM _ _ _ (pf 7) (([1, 3] : List Nat).flatMap pf ++ _) (envOf _ vf [1, 3] ++ _) _ _
  rw [hmu]
  exact zdn (sk 11 (congrArg some e1.1) (sk 13 (congrArg some e3.1) (zak _))) (by simp only [e1.2, e3.2, fS] <;> rfl) (zdm (R := (fun u_ p_ => (∃ x_ : Int, u_ = .int .i64 x_ ∧ 0 ≤ x_ ∧ x_ < n.cnt) ∧ p_ = curE ghR4 a len cap)) rfl rfl (fun L w hX hm => zcn ghR4 a len cap z n.cnt _ _ _ hm hb (by constructor <;> omega)))
 intro vf pf hmu hR
 have e0 := hR 0 (by decide)
 have e4 : (∃ pm_, (pf 4) = [pm_] ∧ (fun u_ p_ => (∃ x_ : Int, u_ = .int .i64 x_ ∧ 0 ≤ x_ ∧ x_ < n.cnt) ∧ p_ = curE ghR4 a len cap) (vf 4) pm_) := hR 4 (by decide)
 obtain ⟨p10, pE4, hR11⟩ := e4
 obtain ⟨v9, vE4⟩ : ∃ x, vf 4 = x := ⟨_, rfl⟩
 rw [vE4] at hR11
 obtain ⟨⟨xhR11, rfl, xhR110, xhR111⟩, rfl⟩ := hR11
 have q0 := hR 0 (by decide)
 have q1 := hR 1 (by decide)
 have q2 := hR 2 (by decide)
 have q3 := hR 3 (by decide)
 refine zcx (zbx [5, 4, 3, 2, 0] _ (sk 10 (congrArg some e0.1) (sk 14 (congrArg some vE4) (zak _))) rfl) (by simp only [pE4, vE4, q0.2, q1.2, q2.2, q3.2, fS] <;> rfl) ?_
 simp only [List.drop_succ_cons, List.drop_zero]
 refine zbu (cs' := #[.int .i64 n.ins, n.sv, n.av, n.ov]) (i := 3) (off := 0) (us := [.int .i64 n.ins, n.sv, n.av, n.ov]) rfl rfl rfl rfl rfl rfl rfl (zar rfl (zar o1n (zar o2n (zar o3n zbs)))) rfl rfl rfl (zbb 1 rfl ?_)
 exact zax (zdl (rs := [.cell 2 28, .tmp 3]) (vs := [.agg #[.int .i64 n.ins, n.sv, n.av, n.ov], .int .i64 xhR11]) (post := [ntE n]) rfl ⟨⟨b1, 0, [.int .i64 n.ins, n.sv, n.av, n.ov], rfl, rfl, by kernel_rfl, by kernel_rfl, zag 3 rfl 0 rfl⟩, rfl, trivial⟩ rfl (slQ [1] rfl) ⟨n, xhR11, rfl, rfl, ⟨o1n, o2n, o3n⟩, hn, ⟨hnq1, hnq2, hnq3⟩, by omega, by omega⟩)
open Go.RowKit
theorem asc_step {xs : List Int} {j : Nat} (h1 : 1 ≤ j) (h : ∀ i, i + 1 < j → xs.getD i 0 < xs.getD (i + 1) 0) (hb : xs.getD ((j : Int) - 1).toNat 0 < xs.getD j 0) : ∀ i, i + 1 < j + 1 → xs.getD i 0 < xs.getD (i + 1) 0 := fun i hi => by
  by_cases e : i + 1 = j
  · rw [show ((j : Int) - 1).toNat = i by omega] at hb; rw [e]; exact hb
  · exact h i (by omega)
theorem asc_no {xs : List Int} {j : Nat} (h1 : 1 ≤ j) (hj : j < xs.length) (hb : xs.getD j 0 ≤ xs.getD ((j : Int) - 1).toNat 0) : ¬ Asc xs := fun h => by
  have := h (j - 1) (by omega)
  rw [show j - 1 + 1 = j by omega] at this
  rw [show ((j : Int) - 1).toNat = j - 1 by omega] at hb
  omega
theorem hasBC_mem {xs : List Int} {x : Int} : hasB xs x = true ↔ x ∈ xs := by unfold hasB; exact List.contains_iff_mem
theorem hasBC_no {xs : List Int} {x : Int} (h : ∀ i, i < xs.length → xs.getD i 0 ≠ x) : hasB xs x = false := by
  cases hb : hasB xs x with
  | false => rfl
  | true => exact absurd (hasBC_mem.1 hb) (not_mem_of h)
theorem hasBC_at {xs : List Int} {x : Int} {j : Nat} (hj : j < xs.length) (h : xs.getD j 0 = x) : hasB xs x = true := hasBC_mem.2 (by rw [← h]; exact zbj hj)
theorem hasIntC_ans (xs : List Int) (x : Int) (v : Value) (w : World) (hv : RdsW w v 1 xs.length (xs.map (Value.int .i64))) (hlen : xs.length ≤ 1000000000) :
   Calls Try.prog 48 #[v, .int .i64 x] w (Ans w (.bool (hasB xs x))) := by
 refine zbg (N := 17) (args := [v, .int .i64 x]) Try.func48 rfl rfl (zbh 1 rfl (zaa (zaa (reQ 1 rfl (hvQ rfl (lnQ rfl rfl rfl (zac hv)) (zab 1 rfl (?_)))))))
 refine ntQ (zba ?_)
 refine lkQ1 (α := Nat) [0, 1, 4, 7, 8] rfl (fun j => []) (fun j => [(9, .int .i64 (j : Int))]) (fun j => j ≤ xs.length ∧ ∀ i, i < j → xs.getD i 0 ≠ x) (fun j => xs.length - j) 0 ⟨by omega, fun i hi => absurd hi (by omega)⟩ (saQ rfl) (.slnil) ?_
 intro j hi1
 obtain ⟨hk1, hk2⟩ := hi1
 refine srQ ?_
 refine zbr rfl rfl rfl rfl rfl rfl (fun h2 => ?_) (fun h2 => ?_)
 ·
  refine ntQ (tcQ rfl (zcw (sbQ (srQ (hvQ rfl (riQ 1 rfl rfl rfl rfl (zac hv)) (hvQ rfl (liQ rfl rfl rfl (zac hv)) (zab 1 rfl ?_)))))))
  refine ntQ (zaa (reQ 2 rfl ?_))
  refine zcj rfl rfl rfl rfl rfl rfl (fun h3 => ?_) (fun h3 => ?_)
  ·
   refine ntQ (zaq rfl (zbh 1 rfl ?_))
   refine zax (zat ?_)
   refine rt2Q ?_
   refine zat (zam ?_)
   exact zce rfl rfl (congrArg _ (hasBC_at (j := j) (by omega) (by assumption)).symm)
  refine ntQ (fsQ rfl (zdk (zai (hvQ rfl (vaQ rfl rfl rfl) (enQ 1 rfl ?_)))))
  exact zci (j + 1) ⟨by omega, fun i hi => by by_cases hij : i = j; (subst hij; assumption); exact hk2 i (by omega)⟩ (by omega) (saQ rfl) (.slnil)
 refine ntQ (fcQ rfl ?_)
 refine zbi (zep ?_)
 refine zal (zaj (zbh 1 rfl ?_))
 exact zax (zce rfl rfl (congrArg _ (hasBC_no (fun i hi => hk2 i (by omega))).symm))
theorem strAsc_ans (xs : List Int) (v : Value) (w : World) (hv : RdsW w v 1 xs.length (xs.map (Value.int .i64))) (hlen : xs.length ≤ 1000000) :
   Calls Try.prog 46 #[v] w (Ans w (.bool (pBc (Asc xs)))) := by
 refine zbg (N := 20) (args := [v]) Try.func46 rfl rfl (zbh 1 rfl (zaa (zbh 1 rfl ?_)))
 refine zba ?_
 refine lkQ1 (α := Nat) [0, 2] rfl (fun j => []) (fun j => [(3, .int .i64 (j : Int))]) (fun j => 1 ≤ j ∧ ∀ i, i + 1 < j → xs.getD i 0 < xs.getD (i + 1) 0) (fun j => xs.length - j) 1 ⟨by omega, fun i hi => absurd hi (by omega)⟩ (saQ rfl) (.slnil) ?_
 intro j hi1
 obtain ⟨hk1, hk2⟩ := hi1
 refine zaa (zaa (reQ 2 rfl (hvQ rfl (lnQ rfl rfl rfl (zac hv)) ?_)))
 refine zbr rfl rfl rfl rfl rfl rfl (fun h2 => ?_) (fun h2 => ?_)
 ·
  refine ntQ (zaq rfl (zcw (sbQ (zaa ?_))))
  refine zbl 10 [[], [], [1], [0, 2], [3], [], [], [5, 6], [7], [4, 8]] [10, 11, 12, 13, 14, 15, 16, 17, 18, 19] [v, .int .i64 (j : Int), .int .i64 ((j : Int) - 1), elP v (((j : Int) - 1).toNat * 1), .int .i64 (xs.getD (((j : Int) - 1).toNat) 0), v, .int .i64 (j : Int), elP v (((j : Int)).toNat * 1), .int .i64 (xs.getD j 0), .bool (decide (xs.getD j 0 ≤ xs.getD (((j : Int) - 1).toNat) 0))] (by kernel_rfl) rfl ?_ ?_
  ·
   exact ⟨iaQ rfl (zae rfl) rfl, iaQ rfl (zae rfl) rfl, iaQ rfl (vsQ rfl rfl rfl) rfl, iaQ rfl (riQ 1 rfl rfl rfl rfl (zac hv)) rfl, iaQ rfl (lzQ rfl rfl rfl (zac hv)) rfl, iaQ rfl (zae rfl) rfl, iaQ rfl (zae rfl) rfl, iaQ rfl (riQ 1 rfl rfl rfl rfl (zac hv)) rfl, iaQ rfl (liQ rfl rfl rfl (zac hv)) rfl, iaQ rfl (zbo rfl rfl rfl rfl) rfl, trivial⟩
  simp only [List.drop_succ_cons, List.drop_zero]
  refine ntQ ?_
  refine zgf rfl (fun h3 => ?_) (fun h3 => ?_)
  ·
   have h3p : xs.getD j 0 ≤ xs.getD (((j : Int) - 1).toNat) 0 := of_decide_eq_true h3
   refine zbh 1 rfl ?_
   refine zax (zat ?_)
   refine rt2Q ?_
   refine zat (zam ?_)
   exact zce rfl rfl (congrArg _ (pBc_no (asc_no hk1 (by omega) (by omega))).symm)
  have h3p : ¬ (xs.getD j 0 ≤ xs.getD (((j : Int) - 1).toNat) 0) := of_decide_eq_false h3
  refine zdg (zdk (reQ 1 rfl (hvQ rfl (vaQ rfl rfl rfl) (enQ 1 rfl ?_))))
  exact zci (j + 1) ⟨by omega, asc_step hk1 hk2 (by omega)⟩ (by omega) (saQ rfl) (.slnil)
 refine ntQ (zao rfl ?_)
 refine zbi (zep ?_)
 refine zal (zaj (zbh 1 rfl ?_))
 exact zax (zce rfl rfl (congrArg _ (pBc_yes (fun i hi => hk2 i (by omega))).symm))
structure Tab where
  N : Int
  B : Int
def pn (n : Int) : Nat := 2 ^ n.toNat
def tabB (t : Tab) (i : Nat) : Bool := decide (t.B / 2 ^ ((i : Nat) : Int).toNat % 2 = 1)
abbrev c0_o : Nat × Nat := (0, 0)
open Go.RowKit
open Go.RowKit
open Go.RowKit
open Go.RowKit
def Sq.val (s : Sq) : Int × Int × List Int := (s.kd, s.it, s.xs)
structure Like (n n' : Nt) : Prop where
  ins : n'.ins = n.ins
  gs : n'.gs = n.gs
  os : n'.os = n.os
  ss : n'.ss.map Sq.val = n.ss.map Sq.val
structure Grow (n n' : Nt) (x : Int) (k : Nat) (f : (Int → Int) → Int) : Prop where
  ins : n'.ins = n.ins
  ss : n'.ss.map Sq.val = n.ss.map Sq.val
  ok : NtOk n'
  ext : ∃ t, n'.gs = n.gs ++ t ∧ t.length ≤ k
  lit : LtOk x n'.cnt
  val : ∀ (st : List Int) (inp : Int), st.length = n.ss.length → bitL (valsL n' st inp) x = f (bitL (valsL n st inp))
section
variable {P : Program} {N : Nat} {w0 : World} {l l' : List HP} {env env' : List (Nat × Value)} {Q : Post} {o : Oper}
theorem zec {ops : Array Oper} {rest : List Oper} {d : Nat} {f : FuncId} {x : Operand} {xs : Array Operand} {ats : Array TypeId} {vs cs : List Value} {p : HP} {R : Value → HP → Prop} {ty : TypeId} {pos : String} {af : Array Edge} {gd : Option (Nat × Bool)} (i : Nat) (hN : Nat.blt d N = true) (hw : want ops env gd = some true)
    (hgo : goesB P f = true) (hx : ev env x = some (.func (.func f) #[] cs.toArray)) (hvs : evs env xs.toList = some vs) (hi : l[i]? = some p)
    (hc : ∀ L w, (∀ w, Mem w0 L w → Mem w0 (l.eraseIdx i) w) → Mem w0 (p :: L) w → Calls P f (vs ++ cs).toArray w fun e w' => ∃ v p', e = .returned v ∧ R v p' ∧ Mem w0 (p' :: L) w') (k : ∀ v p', R v p' → HL P N ops w0 (l.set i p') ((d, v) :: env) rest Q) : HL P N ops w0 l env ({ dst := some d, op := .call { callee := .value x, args := xs, argTypes := ats }, type := ty, pos := pos, after := af, guard := gd } :: rest) Q := fun a w st => wpList_step fun K hK => by
  have h1 := erase_perm l i p hi
  have hil : i < l.length := (List.getElem?_eq_some_iff.1 hi).1
  rw [if_pos (st.wanted hw)]
  unfold Oper.wp
  have h3 := evs_map st _ _ hvs
  have e1 : xs.map a.eval = vs.toArray := by apply Array.toList_inj.1; simpa using h3
  have h2 : (execOp a.eval { dst := some d, op := .call { callee := .value x, args := xs, argTypes := ats }, type := ty, pos := pos, after := af, guard := gd }).run P w = (callFunc f (vs ++ cs).toArray).run P w := by
    simp [execOp, resolve, Deferred.ofValue, invoke, st.eval hx, e1]
  rw [h2, run_go hgo, Oper.upon_enter]
  refine (hc (l.eraseIdx i) w (fun w h => h) (st.mem.perm h1)).mono fun e w' h => ?_
  obtain ⟨v, p', rfl, hR, hm'⟩ := h
  have h4 := erase_perm (l.set i p') i p' (List.getElem?_set_self hil)
  rw [List.eraseIdx_set_eq] at h4
  exact hK _ _ (k v p' hR _ _ (st.put hN (hm'.perm h4.symm)))
end
theorem box_lt {w0 : World} {l : List HP} {b : Nat} {cs : Array Value} {t : TypeId} (i : Nat) (h : l[i]? = some (boxE b cs t)) {w : World} (hm : Mem w0 l w) : b < w.heap.size := (hm.new _ (zbw h) b rfl).2
def cvr (d : Nat × Nat) (i : Nat) : Bool := i &&& d.1 == d.2
def covB (cs : List (Nat × Nat)) (i : Nat) : Bool := cs.any (fun d => cvr d i)
def CubsOk (n : Nat) (cs : List (Nat × Nat)) : Prop := ∀ d ∈ cs, d.1 < n ∧ d.2 < n ∧ d.2 &&& d.1 = d.2
def Priv (n k : Nat) (cs : List (Nat × Nat)) : Prop := ∀ q, k ≤ q → q < cs.length → ∃ i, i < n ∧ cvr (cs.getD q c0_o) i = true ∧ ∀ r, r < cs.length → r ≠ q → cvr (cs.getD r c0_o) i = false
structure MinOk (t : Tab) (k : Nat) (cs : List (Nat × Nat)) : Prop where
  ok : CubsOk (pn t.N) cs
  cov : ∀ i, i < pn t.N → covB cs i = tabB t i
  priv : Priv (pn t.N) k cs
def cb_o (d : Nat × Nat) (i : Nat) : Nat → Bool
  | 0 => true
  | k + 1 => cb_o d i k && (d.1 / 2 ^ k % 2 == 0 || d.2 / 2 ^ k % 2 == i / 2 ^ k % 2)
open Go.RowKit
theorem cov_inv {n : Nt} {cut : List Int} {k : Int} (h : Cov n cut k) (h0 : k ≠ 0) (hb : hasB cut k = false) : n.fst ≤ k ∧ k < n.cnt ∧ Cov n cut (ndA n k / 2) ∧ Cov n cut (ndB n k / 2) := by
  cases h with
  | zero => exact absurd rfl h0
  | mem hm => rw [hasBC_mem.2 hm] at hb; cases hb
  | and h1 h2 ha hb => exact ⟨h1, h2, ha, hb⟩
theorem escapes_step (n : Nt) (node : Int) (cut : List Int) (bs : List Bl) (cv v : Value) (w0 : World) (l : List HP) (w : World) (hm0 : Mem w0 (rowE 4 1 v bs.length (bs.flatMap blC) :: l) w) (hr : RdsNt w0 n) (hn : NtOk n) (hcr : RdsW w0 cv 1 cut.length (cut.map (Value.int .i64))) (hcl : cut.length ≤ 4) (hnd : 0 ≤ node ∧ node < n.cnt) (hbl : (bs.length : Int) = n.cnt) (hcov : Cov n cut node) (IH : ∀ (m : Int) (bs2 : List Bl) (l2 : List HP) (w2 : World), 0 ≤ m → m < node → Cov n cut m → bs2.length = bs.length → Mem w0 (rowE 4 1 v (bs2).length ((bs2).flatMap blC) :: l2) w2 → Calls Try.prog 49 #[n.agg, .int .i64 m, cv, v] w2 (fun e_ w_ => ∃ v_ p_, e_ = .returned v_ ∧ (v_ = .bool false ∧ ∃ bs' : List Bl, p_ = rowE 4 1 v (bs').length ((bs').flatMap blC) ∧ bs'.length = bs.length) ∧ Mem w0 (p_ :: l2) w_)) :
   Calls Try.prog 49 #[.agg #[.int .i64 n.ins, n.sv, n.av, n.ov], .int .i64 node, cv, v] w (fun e_ w_ => ∃ v_ p_, e_ = .returned v_ ∧ (fun v_ p_ => v_ = .bool false ∧ ∃ bs' : List Bl, p_ = rowE 4 1 v (bs').length ((bs').flatMap blC) ∧ bs'.length = bs.length) v_ p_ ∧ Mem w0 (p_ :: l) w_) := by
 have hi0 := hn.i0
 have hi1 := hn.i1
 have hs1 := hn.s1
 have ha1 := hn.a1
 have ho1 := hn.o1
 have hcnt : n.cnt = 1 + n.ins + n.ss.length + n.gs.length := rfl
 have hfst : n.fst = 1 + n.ins + n.ss.length := rfl
 refine zfj (N := 54) (args := [.agg #[.int .i64 n.ins, n.sv, n.av, n.ov], .int .i64 node, cv, v]) Try.func49 rfl rfl hm0 (srQ ?_)
 refine zei rfl (zco rfl rfl) ?_
 intro b1
 refine zbb 1 rfl (zaa (zaa (reQ 1 rfl ?_)))
 refine zcj rfl rfl rfl rfl rfl rfl (fun h2 => ?_) (fun h2 => ?_)
 ·
  refine zbb 11 rfl (zaq rfl (zaa (reQ 1 rfl (?_))))
  refine ntQ ?_
  refine zax (zam ?_)
  exact zex (rs := [.tmp 8]) (vs := [.bool false]) rfl ⟨rfl, trivial⟩ rfl (fun w hm => ⟨_, rowE 4 1 v bs.length (bs.flatMap blC), rfl, ⟨rfl, _, rfl, rfl⟩, hm.sub (.cons _ (.refl _))⟩)
 refine zab 3 rfl (hvQ rfl (riQ 1 rfl rfl rfl rfl (zad 1 rfl)) ?_)
 refine hvQ rfl (zav (u := .bool ((bs.getD ((node).toNat) bl0).b)) rfl rfl rfl (zad 1 rfl) (zbm blC (fun r => .bool r.b) (fun _ => rfl) bs bl0 (show (node).toNat < _ by omega))) (zbc (fun h3 => ?_) (fun h3 => ?_))
 ·
  refine zbb 6 rfl (zaq rfl (zbh 1 rfl ?_))
  refine zax (zam ?_)
  exact zex (rs := [.tmp 8]) (vs := [.bool false]) rfl ⟨rfl, trivial⟩ rfl (fun w hm => ⟨_, rowE 4 1 v bs.length (bs.flatMap blC), rfl, ⟨rfl, _, rfl, rfl⟩, hm.sub (.cons _ (.refl _))⟩)
 refine zab 4 rfl (zdw rfl (zas rfl rfl (fun w hm => zaz (hasIntC_ans cut node _ w ((zac hcr) w hm) (by omega)))) ?_)
 refine zbc (fun h4 => ?_) (fun h4 => ?_)
 ·
  refine zbb 1 rfl (zaq rfl (zbh 1 rfl ?_))
  refine zax (zam ?_)
  exact zex (rs := [.tmp 8]) (vs := [.bool false]) rfl ⟨rfl, trivial⟩ rfl (fun w hm => ⟨_, rowE 4 1 v bs.length (bs.flatMap blC), rfl, ⟨rfl, _, rfl, rfl⟩, hm.sub (.cons _ (.refl _))⟩)
 refine zbb 1 rfl (zao rfl (zcw (zaa (reQ 2 rfl (hvQ rfl (riQ 1 rfl rfl rfl rfl (zad 1 rfl)) ?_)))))
 refine zdh (i := 1) (n' := (bs.set ((node).toNat) { bs.getD ((node).toNat) bl0 with b := true }).length) rfl rfl rfl rfl rfl rfl rfl rfl (by first | omega | (simp only [List.length_set]; omega)) List.length_set.symm (zdb blC (fun r => .bool r.b) (fun _ => rfl) _ ({ bs.getD ((node).toNat) bl0 with b := true }) rfl) rfl (ntQ (ssrQ (hvQ rfl (zaf (cs := [.int .i64 n.ins, n.sv, n.av, n.ov]) rfl rfl rfl rfl rfl (zag 0 rfl 0 rfl)) (zab 1 rfl ?_))))
 obtain ⟨hc1, hc2, hcvA, hcvB⟩ := cov_inv hcov (by omega) (by assumption)
 obtain ⟨o1, o2, o3, o4, o5, o6⟩ := nd_ok hn hc1 hc2
 have ea : ndA n node = (n.gs.getD ((node - n.fst).toNat) an0).a := rfl
 have eb : ndB n node = (n.gs.getD ((node - n.fst).toNat) an0).b := rfl
 rw [ea] at o3 o4
 rw [eb] at o5 o6
 refine zdw rfl (zas rfl rfl (fun w hm => zaz (isAnd_yes n node w (hr.below hm.bel) hn))) (zbc (fun h5 => ?_) (fun h5 => absurd (((zfw.2 ⟨by omega, by omega⟩)).symm.trans h5) (by decide)))
 refine zbb 1 rfl (zao rfl (zcw (zaa ?_)))
 refine zfq rfl 9 [0, 1, 2, 3, 4, 5, 6, 7, 8] (List.take 9 _) (List.drop 9 _) [[], [0], [], [], [3], [2, 4], [1, 5], [6], []] [30, 31, 32, 33, 34, 35, 36, 37, 9] (fun i_ vs_ v_ p_ => match i_ with | 0 => v_ = .pointer (some ⟨b1, 0 + 2, none⟩) ∧ p_ = [] | 1 => v_ = n.av ∧ p_ = [] | 2 => v_ = .int .i64 node ∧ p_ = [] | 3 => v_ = .agg #[.int .i64 n.ins, n.sv, n.av, n.ov] ∧ p_ = [] | 4 => v_ = .int .i64 n.fst ∧ p_ = [] | 5 => v_ = .int .i64 (node - n.fst) ∧ p_ = [] | 6 => v_ = elP n.av ((node - n.fst).toNat * 2) ∧ p_ = [] | 7 => v_ = .agg #[.int .i64 ((n.gs.getD ((node - n.fst).toNat) an0).a), .int .i64 ((n.gs.getD ((node - n.fst).toNat) an0).b)] ∧ p_ = [] | 8 => IsBox #[.int .i64 0, .int .i64 0] 47 v_ p_ | _ => True) (List.take_append_drop 9 _).symm (by kernel_rfl) (by kernel_rfl) rfl rfl ?_ ?_
 ·
  refine ⟨?_, ?_, ?_, ?_, ?_, ?_, ?_, ?_, ?_, trivial⟩
  ·
   intro vf pf hR
   exact ovQ rfl (zau [4] rfl) (zbz (fdQ 2 rfl rfl rfl))
  ·
   intro vf pf hR
   have e0 := hR 0 (by decide)
   exact olQ rfl (sk 30 (congrArg some e0.1) (zak _)) (zbz (zan rfl rfl rfl (zah 0 rfl rfl)))
  ·
   intro vf pf hR
   exact ovQ rfl (zau [1] rfl) (zbz (zae rfl))
  ·
   intro vf pf hR
   exact olQ rfl (zau [4] rfl) (zbz (zaf (cs := [.int .i64 n.ins, n.sv, n.av, n.ov]) rfl rfl rfl rfl rfl (zag 0 rfl 0 rfl)))
  ·
   intro vf pf hR
   have e3 := hR 3 (by decide)
   exact olQ rfl (sk 33 (congrArg some e3.1) (zak _)) (zas rfl rfl (fun w hm => zaz (zdu n w (hr.below hm.bel) hn)))
  ·
   intro vf pf hR
   have e2 := hR 2 (by decide)
   have e4 := hR 4 (by decide)
   exact ovQ rfl (sk 32 (congrArg some e2.1) (sk 34 (congrArg some e4.1) (zak _))) (zbz (vsQ rfl rfl rfl))
  ·
   intro vf pf hR
   have e1 := hR 1 (by decide)
   have e5 := hR 5 (by decide)
   exact olQ rfl (sk 31 (congrArg some e1.1) (sk 35 (congrArg some e5.1) (zak _))) (zbz (riQ 2 rfl rfl rfl rfl (zac hr.an)))
  ·
   intro vf pf hR
   have e6 := hR 6 (by decide)
   exact olQ rfl (sk 36 (congrArg some e6.1) (zak _)) (zbz (zdj (us := [.int .i64 ((n.gs.getD ((node - n.fst).toNat) an0).a), .int .i64 ((n.gs.getD ((node - n.fst).toNat) an0).b)]) rfl rfl rfl rfl (zac hr.an) (by omega) rfl (zeo anC 2 (fun _ => rfl) n.gs an0 (show (node - n.fst).toNat < _ by omega) rfl)))
  intro vf pf hR
  exact olQ rfl (zak _) (zbq (z := .agg #[.int .i64 0, .int .i64 0]) rfl rfl)
 intro vf pf hR
 have e7 := hR 7 (by decide)
 have e8 : IsBox #[.int .i64 0, .int .i64 0] 47 (vf 8) (pf 8) := hR 8 (by decide)
 obtain ⟨b6, vE8, pE8⟩ := e8
 have q0 := hR 0 (by decide)
 have q1 := hR 1 (by decide)
 have q2 := hR 2 (by decide)
 have q3 := hR 3 (by decide)
 have q4 := hR 4 (by decide)
 have q5 := hR 5 (by decide)
 have q6 := hR 6 (by decide)
 have q7 := hR 7 (by decide)
 refine zcx (zbx [8, 4, 3, 2, 1, 0] _ (sk 9 (congrArg some vE8) (sk 22 rfl (sk 29 rfl (sk 37 (congrArg some e7.1) (zak _))))) rfl) (by simp only [pE8, vE8, q0.2, q1.2, q2.2, q3.2, q4.2, q5.2, q6.2, q7.2, fS] <;> rfl) ?_
 simp only [List.drop_succ_cons, List.drop_zero]
 refine zbu (cs' := #[.int .i64 ((n.gs.getD ((node - n.fst).toNat) an0).a), .int .i64 ((n.gs.getD ((node - n.fst).toNat) an0).b)]) (i := 0) (off := 0) (us := [.int .i64 ((n.gs.getD ((node - n.fst).toNat) an0).a), .int .i64 ((n.gs.getD ((node - n.fst).toNat) an0).b)]) rfl rfl rfl rfl rfl rfl rfl (zar rfl (zar rfl zbs)) rfl rfl rfl (ntQ (srQ (hvQ rfl (zaf (cs := [.int .i64 n.ins, n.sv, n.av, n.ov]) rfl rfl rfl rfl rfl (zag 1 rfl 0 rfl)) (hvQ rfl (fdQ 0 rfl rfl rfl) (hvQ rfl (zan rfl rfl rfl (zah 0 rfl rfl)) ?_)))))
 refine hvQ rfl (zdy rfl rfl rfl (by refine ⟨?_, ?_, ?_⟩ <;> omega)) ?_
 refine zab 2 rfl (zda (R := (fun v_ p_ => v_ = .bool false ∧ ∃ bs' : List Bl, p_ = rowE 4 1 v (bs').length ((bs').flatMap blC) ∧ bs'.length = bs.length)) 2 rfl rfl rfl rfl rfl (fun l' w hm => IH (((n.gs.getD ((node - n.fst).toNat) an0).a) / 2) (bs.set ((node).toNat) { bs.getD ((node).toNat) bl0 with b := true }) _ _ (by omega) (by omega) hcvA (by first | (rw [List.length_set]; done) | omega) hm) ?_)
 intro v7 p8 hR9
 obtain ⟨rfl, b2, rfl, hb2⟩ := hR9
 refine zdo (l' := (boxE b6 #[.int .i64 ((n.gs.getD ((node - n.fst).toNat) an0).a), .int .i64 ((n.gs.getD ((node - n.fst).toNat) an0).b)] 47 :: boxE b1 #[.int .i64 n.ins, n.sv, n.av, n.ov] 28 :: rowE 4 1 v b2.length (b2.flatMap blC) :: l)) rfl ?_
 refine zab 1 rfl (hvQ rfl (zaf (cs := [.int .i64 n.ins, n.sv, n.av, n.ov]) rfl rfl rfl rfl rfl (zag 1 rfl 0 rfl)) (hvQ rfl (fdQ 1 rfl rfl rfl) (hvQ rfl (zan rfl rfl rfl (zah 0 rfl rfl)) ?_)))
 refine hvQ rfl (zdy rfl rfl rfl (by refine ⟨?_, ?_, ?_⟩ <;> omega)) ?_
 refine zab 2 rfl (zda (R := (fun v_ p_ => v_ = .bool false ∧ ∃ bs' : List Bl, p_ = rowE 4 1 v (bs').length ((bs').flatMap blC) ∧ bs'.length = bs.length)) 2 rfl rfl rfl rfl rfl (fun l' w hm => IH (((n.gs.getD ((node - n.fst).toNat) an0).b) / 2) b2 _ _ (by omega) (by omega) hcvB (by first | (rw [List.length_set]; done) | omega) hm) ?_)
 intro v10 p11 hR12
 obtain ⟨rfl, b3, rfl, hb3⟩ := hR12
 refine zdo (l' := (boxE b6 #[.int .i64 ((n.gs.getD ((node - n.fst).toNat) an0).a), .int .i64 ((n.gs.getD ((node - n.fst).toNat) an0).b)] 47 :: boxE b1 #[.int .i64 n.ins, n.sv, n.av, n.ov] 28 :: rowE 4 1 v b3.length (b3.flatMap blC) :: l)) rfl ?_
 refine zbb 2 rfl ?_
 exact zax (zex (rs := [.tmp 8]) (vs := [.bool false]) rfl ⟨rfl, trivial⟩ rfl (fun w hm => ⟨_, rowE 4 1 v b3.length (b3.flatMap blC), rfl, ⟨rfl, _, rfl, by rw [hb3]⟩, hm.sub (.cons _ (.cons _ (.refl _)))⟩))
theorem escapes_mut (n : Nt) (cut : List Int) (cv v : Value) (w0 : World) (hr : RdsNt w0 n) (hn : NtOk n) (hcr : RdsW w0 cv 1 cut.length (cut.map (Value.int .i64))) (hcl : cut.length ≤ 4) : ∀ (k : Nat) (node : Int) (bs : List Bl) (l : List HP) (w : World), node.toNat < k → 0 ≤ node → node < n.cnt → (bs.length : Int) = n.cnt → Cov n cut node → Mem w0 (rowE 4 1 v (bs).length ((bs).flatMap blC) :: l) w →
    Calls Try.prog 49 #[n.agg, .int .i64 node, cv, v] w (fun e_ w_ => ∃ v_ p_, e_ = .returned v_ ∧ (v_ = .bool false ∧ ∃ bs' : List Bl, p_ = rowE 4 1 v (bs').length ((bs').flatMap blC) ∧ bs'.length = bs.length) ∧ Mem w0 (p_ :: l) w_)
  | 0, node, bs, l, w, hk, h0, h1, hl, hc, hm => absurd hk (by omega)
  | k + 1, node, bs, l, w, hk, h0, h1, hl, hc, hm => escapes_step n node cut bs cv v w0 l w hm hr hn hcr hcl ⟨h0, h1⟩ hl hc (fun m bs2 l2 w2 m0 m1 hc2 hb hm2 => by have := escapes_mut n cut cv v w0 hr hn hcr hcl k m bs2 l2 w2 (by omega) m0 (by omega) (by omega) hc2 hm2; rwa [hb] at this)
theorem cutOk_yes (n : Nt) (node : Int) (cut : List Int) (cv : Value) (w : World) (hr : RdsNt w n) (hn : NtOk n) (hcr : RdsW w cv 1 cut.length (cut.map (Value.int .i64))) (hcut : IsCut n node cut) (hnd : 0 ≤ node ∧ node < n.cnt) :
   Calls Try.prog 30 #[.agg #[.int .i64 n.ins, n.sv, n.av, n.ov], .int .i64 node, cv] w (Ans w (.bool true)) := by
 have hi0 := hn.i0
 have hi1 := hn.i1
 have hs1 := hn.s1
 have ha1 := hn.a1
 have ho1 := hn.o1
 have hcnt : n.cnt = 1 + n.ins + n.ss.length + n.gs.length := rfl
 have hfst : n.fst = 1 + n.ins + n.ss.length := rfl
 have hcl4 := hcut.len
 refine zbg (N := 40) (args := [.agg #[.int .i64 n.ins, n.sv, n.av, n.ov], .int .i64 node, cv]) Try.func30 rfl rfl (srQ ?_)
 refine zei rfl (zco rfl rfl) ?_
 intro b1
 refine zbb 1 rfl (zaa (zaa (reQ 1 rfl (hvQ rfl (lnQ rfl rfl rfl (zac hcr)) ?_))))
 refine zes rfl rfl rfl rfl rfl rfl (fun h2 => absurd h2 (by omega)) (fun h2 => ?_)
 refine zab 2 rfl (zdw rfl (zas rfl rfl (fun w hm => zaz (strAsc_ans cut _ w ((zac hcr) w hm) (by omega)))) ?_)
 refine zbc (fun h3 => ?_) (fun h3 => absurd (((pBc_yes (asc_pair.2 hcut.asc))).symm.trans h3) (by decide))
 refine zbb 2 rfl (zao rfl (zcw (srQ (hvQ rfl (zaf (cs := [.int .i64 n.ins, n.sv, n.av, n.ov]) rfl rfl rfl rfl rfl (zag 0 rfl 0 rfl)) (zab 1 rfl ?_)))))
 refine hl_q rfl rfl rfl (zas rfl rfl (fun w hm => cone_ret n node w (hr.below hm.bel) hn hnd)) ?_
 intro v4 p5 hR6
 obtain ⟨xs, rfl, hco⟩ := hR6
 have hxl := hco.len
 refine zbb 1 rfl (zaa (zaa (reQ 1 rfl (hvQ rfl (lnQ rfl rfl rfl (zac hcr)) (zbb 1 rfl (zba ?_))))))
 refine lkQ1 (α := Nat) [0, 1, 2, 3, 6, 7, 17, 21, 22] rfl (fun j => [rowE 3 1 v4 xs.length (xs.map (Value.int .i64)), boxE b1 #[.int .i64 n.ins, n.sv, n.av, n.ov] 28]) (fun j => [(23, .int .i64 (j : Int))]) (fun j => j ≤ cut.length) (fun j => cut.length - j) 0 (Nat.zero_le _) (saQ rfl) (pfQ rfl) ?_
 intro j hi7
 have hj := hi7
 refine srQ ?_
 refine zbr rfl rfl rfl rfl rfl rfl (fun h8 => ?_) (fun h8 => ?_)
 ·
  refine ntQ (tcQ rfl (zcw (sbQ (srQ (hvQ rfl (riQ 1 rfl rfl rfl rfl (zac hcr)) (hvQ rfl (liQ rfl rfl rfl (zac hcr)) (zab 1 rfl ?_)))))))
  refine ntQ (zaa (reQ 2 rfl ?_))
  refine zdw rfl (zas rfl rfl (fun w hm => zaz (hasIntC_ans xs (cut.getD j 0) _ w ((zad 0 rfl) w hm) (by omega)))) (zbc (fun h9 => ?_) (fun h9 => absurd (((hasBC_mem.2 (cone_rch hco (hcut.rch _ (zbj (by omega)))))).symm.trans h9) (by decide)))
  refine zbb 1 rfl (fsQ rfl (zdk (zai (hvQ rfl (vaQ rfl rfl rfl) (enQ 1 rfl ?_)))))
  exact zci (j + 1) (by omega) (by omega) (saQ rfl) (pfQ rfl)
 refine ntQ (fcQ rfl ?_)
 refine zbi (zep ?_)
 refine zal (zaj (zaa ?_))
 refine hc_draw3 (l := [rowE 3 1 v4 xs.length (xs.map (Value.int .i64)), boxE b1 #[.int .i64 n.ins, n.sv, n.av, n.ov] 28]) rfl 8 [0, 1, 2, 3, 4, 5, 6, 7] (List.take 8 _) (List.drop 8 _) [[], [], [], [], [3], [4], [0, 1, 2, 5], [5, 6]] [some 32, some 33, some 34, some 35, some 36, some 37, some 38, some 39] (fun i_ vs_ v_ p_ => match i_ with | 0 => v_ = .agg #[.int .i64 n.ins, n.sv, n.av, n.ov] ∧ p_ = [] | 1 => v_ = .int .i64 node ∧ p_ = [] | 2 => v_ = cv ∧ p_ = [] | 3 => v_ = .agg #[.int .i64 n.ins, n.sv, n.av, n.ov] ∧ p_ = [] | 4 => v_ = .int .i64 n.cnt ∧ p_ = [] | 5 => IsRow 4 1 ((List.replicate (n.cnt).toNat bl0).length) ((List.replicate (n.cnt).toNat bl0).flatMap blC) v_ p_ | 6 => (∃ pm_, p_ = [pm_] ∧ (fun v_ p_ => v_ = .bool false ∧ ∃ bs' : List Bl, p_ = rowE 4 1 ((List.getD vs_ 3 undef)) (bs').length ((bs').flatMap blC) ∧ bs'.length = (List.replicate (n.cnt).toNat bl0).length) v_ pm_) | 7 => v_ = .bool true ∧ p_ = [] | _ => True) [[], [], [], [], [3], [4], [0, 1, 2], [6]] [none, none, none, none, none, none, some 5, none] [] [0, 1, 2, 3, 4, 6, 7] 9 (List.take_append_drop 8 _).symm (by kernel_rfl) (by kernel_rfl) (by kernel_rfl) rfl rfl ?_ ?_
 ·
  refine ⟨?_, ?_, ?_, ?_, ?_, ?_, ?_, ?_, trivial⟩
  ·
   intro vf pf hmu hR
   refine dq3Q [] [] rfl (zby (zau [3] rfl) (List.sublist_append_right _ _) ?_)
   exact zbz (zaf (cs := [.int .i64 n.ins, n.sv, n.av, n.ov]) rfl rfl rfl rfl rfl (zag 1 rfl 0 rfl))
  ·
   intro vf pf hmu hR
   refine dq3Q [] [] rfl (zcd (zau [1] rfl) ?_)
   exact zbz (zae rfl)
  ·
   intro vf pf hmu hR
   refine dq3Q [] [] rfl (zcd (zau [2] rfl) ?_)
   exact zbz (zae rfl)
  ·
   intro vf pf hmu hR
   refine dq3Q [] [] rfl (zby (zau [3] rfl) (List.sublist_append_right _ _) ?_)
   exact zbz (zaf (cs := [.int .i64 n.ins, n.sv, n.av, n.ov]) rfl rfl rfl rfl rfl (zag 1 rfl 0 rfl))
  ·
   intro vf pf hmu hR
   have e3 := hR 3 (by decide)
   refine dq3Q [3] [3] rfl (zby (sk 35 (congrArg some e3.1) (zak _)) (List.sublist_append_right _ _) ?_)
   exact (zas rfl rfl (fun w hm => zaz (zbt n w (hr.below hm.bel) hn)))
  ·
   intro vf pf hmu hR
   have e4 := hR 4 (by decide)
   refine dq3Q [4] [4] rfl (zby (sk 36 (congrArg some e4.1) (zak _)) (List.sublist_append_right _ _) ?_)
   exact zff (z := .bool false) (s := 1) (bytes := 1) (n := (List.replicate (n.cnt).toNat bl0).length) (cs := ((List.replicate (n.cnt).toNat bl0).flatMap blC)) rfl Try.underlying62 rfl (by decide) rfl rfl (by first | (rw [List.length_replicate]; done) | (rw [List.length_replicate]; omega)) (by first | (rw [List.length_replicate]; done) | (rw [List.length_replicate]; omega)) (by rw [List.length_replicate]; omega) (zfh blC 1 (fun _ => rfl) bl0 _ rfl (n.cnt).toNat)
  ·
   intro vf pf hmu hR
   have e0 := hR 0 (by decide)
   have e1 := hR 1 (by decide)
   have e2 := hR 2 (by decide)
   have e5 : IsRow 4 1 ((List.replicate (n.cnt).toNat bl0).length) ((List.replicate (n.cnt).toNat bl0).flatMap blC) (vf 5) (pf 5) := hR 5 (by decide)
   obtain ⟨g10, vE5, pE5⟩ := e5
   refine Or.inl ⟨rfl, ?_⟩
   show RunM _ _ _ (pf 5) (([0, 1, 2] : List Nat).flatMap pf ++ _) (envOf3 _ vf [0, 1, 2, 5] ++ _) _ _
   rw [pE5]; rw [vE5]
   exact zdn (sk 32 (congrArg some e0.1) (sk 33 (congrArg some e1.1) (sk 34 (congrArg some e2.1) (sk 37 (congrArg some vE5) (zak _))))) (by simp only [e0.2, e1.2, e2.2, fS] <;> rfl) (rm_mono (zdm (R := (fun v_ p_ => v_ = .bool false ∧ ∃ bs' : List Bl, p_ = rowE 4 1 (.slice (some ⟨g10, 0, none⟩) ((List.replicate (n.cnt).toNat bl0).length) ((List.replicate (n.cnt).toNat bl0).length)) (bs').length ((bs').flatMap blC) ∧ bs'.length = (List.replicate (n.cnt).toNat bl0).length)) rfl rfl (fun L w hX hm => escapes_mut n cut cv _ _ hr hn hcr hcut.len (node.toNat + 1) node (List.replicate (n.cnt).toNat bl0) _ _ (by omega) hnd.1 hnd.2 (by rw [List.length_replicate]; omega) hcut.cov hm)) (fun v_ p_ h => by show (∃ pm_, p_ = [pm_] ∧ (fun v_ p_ => v_ = .bool false ∧ ∃ bs' : List Bl, p_ = rowE 4 1 ((vf 5)) (bs').length ((bs').flatMap blC) ∧ bs'.length = (List.replicate (n.cnt).toNat bl0).length) v_ pm_); rw [vE5]; exact h))
  intro vf pf hmu hR
  have e5 : IsRow 4 1 ((List.replicate (n.cnt).toNat bl0).length) ((List.replicate (n.cnt).toNat bl0).flatMap blC) (vf 5) (pf 5) := hR 5 (by decide)
  obtain ⟨g10, vE5, pE5⟩ := e5
  have e6 : (∃ pm_, (pf 6) = [pm_] ∧ (fun v_ p_ => v_ = .bool false ∧ ∃ bs' : List Bl, p_ = rowE 4 1 ((vf 5)) (bs').length ((bs').flatMap blC) ∧ bs'.length = (List.replicate (n.cnt).toNat bl0).length) (vf 6) pm_) := hR 6 (by decide)
  rw [vE5] at e6
  obtain ⟨p12, pE6, hR13⟩ := e6
  obtain ⟨v11, vE6⟩ : ∃ x, vf 6 = x := ⟨_, rfl⟩
  rw [vE6] at hR13
  obtain ⟨rfl, bs, rfl, hbl⟩ := hR13
  refine dq3Q [6] [5, 6] rfl (zcm (sk 38 (congrArg some vE6) (zak _)) (by simp only [pE6, vE6, fS] <;> rfl) ?_)
  exact zbz (zae rfl)
 intro vf pf hmu hR
 have e5 : IsRow 4 1 ((List.replicate (n.cnt).toNat bl0).length) ((List.replicate (n.cnt).toNat bl0).flatMap blC) (vf 5) (pf 5) := hR 5 (by decide)
 obtain ⟨g10, vE5, pE5⟩ := e5
 have e6 : (∃ pm_, (pf 6) = [pm_] ∧ (fun v_ p_ => v_ = .bool false ∧ ∃ bs' : List Bl, p_ = rowE 4 1 ((vf 5)) (bs').length ((bs').flatMap blC) ∧ bs'.length = (List.replicate (n.cnt).toNat bl0).length) (vf 6) pm_) := hR 6 (by decide)
 rw [vE5] at e6
 obtain ⟨p12, pE6, hR13⟩ := e6
 obtain ⟨v11, vE6⟩ : ∃ x, vf 6 = x := ⟨_, rfl⟩
 rw [vE6] at hR13
 obtain ⟨rfl, bs, rfl, hbl⟩ := hR13
 have e7 := hR 7 (by decide)
 have q0 := hR 0 (by decide)
 have q1 := hR 1 (by decide)
 have q2 := hR 2 (by decide)
 have q3 := hR 3 (by decide)
 have q4 := hR 4 (by decide)
 have q7 := hR 7 (by decide)
 refine zcx (zbx [24, 23, 22, 21, 17, 7, 6, 3, 2, 1, 0] _ (sk 39 (congrArg some e7.1) (zak _)) rfl) (by simp only [pE6, vE6, q0.2, q1.2, q2.2, q3.2, q4.2, q7.2, fS] <;> rfl) ?_
 simp only [List.drop_succ_cons, List.drop_zero]
 refine zbb 1 rfl ?_
 exact zax (zce rfl rfl rfl)
end Go.Proofs.Ytdagfahfgpjglaa
