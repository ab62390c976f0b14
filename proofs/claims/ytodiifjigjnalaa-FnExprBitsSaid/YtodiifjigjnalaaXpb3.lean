/- Texts of the law FnExprBits, part 3: what it uses. -/
import Derived.Test.YtodiifjigjnalaaXpb2
set_option linter.unusedVariables false
set_option linter.unusedSimpArgs false
set_option maxHeartbeats 4000000
set_option maxRecDepth 100000
namespace Go.Proofs.Ytodiifjigjnalaa
open Go.RowKit Go.ChangeShapes
open Go.RowKit
theorem sum_mut (b c : Nat) (n : Nt) (sv : Value) (W : Nat) (v : Value) (g : List An) (bad : Bool) (A B : List Int) (vA vB : Value) (cy : Int) (w0 : World) (l : List HP) (w : World) (hm0 : Mem w0 (adP b n c sv W v g bad :: l) w) (hn : NtOk (withG n g)) (hso : ∀ w, Mem w0 l w → RdsW w n.sv 3 n.ss.length (n.ss.flatMap sqC) ∧ (∀ s ∈ n.ss, RdsW w s.iv 1 s.xs.length (s.xs.map (Value.int .i64))) ∧ RdsW w n.ov 1 n.os.length (n.os.map (Value.int .i64))) (hone : n.sv.oneCell' = true ∧ n.ov.oneCell' = true) (hsv : sv.oneCell' = true) (hW : 1 ≤ W ∧ W ≤ 4) (hAr : ∀ w, Mem w0 l w → RdsW w vA 1 A.length (A.map (Value.int .i64))) (hAo : LsOk n g A) (hAl : A.length = W) (hBr : ∀ w, Mem w0 l w → RdsW w vB 1 B.length (B.map (Value.int .i64))) (hBo : LsOk n g B) (hBl : B.length = W) (hcy : LtOk cy (n.fst + g.length)) :
   Calls Try.prog 143 #[.pointer (some ⟨c, 0, none⟩), vA, vB, .int .i64 cy] w (fun e_ w_ => ∃ v_ p_, e_ = .returned v_ ∧ (fun u_ p_ => RE9 b n c sv W g bad (sumO n.fst A B cy W g) u_ p_) v_ p_ ∧ Mem w0 (p_ :: l) w_) := by
 have hi0 : 0 ≤ n.ins := hn.i0
 have hi1 : n.ins ≤ 20 := hn.i1
 have hs1 : n.ss.length ≤ 12 := hn.s1
 have hf : n.fst = 1 + n.ins + n.ss.length := rfl
 refine zdk (N := 61) (args := [.pointer (some ⟨c, 0, none⟩), vA, vB, .int .i64 cy]) Try.func143 rfl rfl hm0 (zbn 1 rfl (srQ ?_))
 refine zgt 3 1 (zbc 1 rfl (zac (zac (reQ 1 rfl ?_))))
 refine hvQ rfl (lnQ rfl rfl rfl (fun w hm => hAr w (hm.sub ((.cons _ (.cons _ (.refl _))))))) (zbc 1 rfl (zbf ?_))
 refine lkQ2 (α := Nat) (β := ASt) [0, 1, 2, 8, 15] rfl (fun k q => (rI9 3 q.u q.zs :: adP b n c sv W q.v q.g q.bad :: l)) (fun k q => [(3, .int .i64 q.c), (9, q.u), (16, .int .i64 (k : Int))]) (fun k q => k ≤ W ∧ Ext n g q.g ∧ LsOk n q.g q.zs ∧ q.zs.length = k ∧ LtOk q.c (n.fst + q.g.length) ∧ AdR (bad = true) (q.bad = true) (itO (sumS n.fst A B W) ((g, []), cy) k) ((q.g, q.zs), q.c)) (fun k q => W - k) 0 ⟨v, g, bad, [], _, cy⟩ ⟨Nat.zero_le _, Ext.refl hn, LsOk.nil, rfl, hcy, AdR.refl⟩ (saQ rfl) (.refl _) ?_
 intro k q hi2
 obtain ⟨hk, hE, hLs, hzl, hqc, hRd⟩ := hi2
 have hql : q.g.length ≤ 300 := hE.ok.a1
 obtain ⟨hqc0, hqc1⟩ := id hqc
 refine srQ ?_
 refine zcb rfl rfl rfl rfl rfl rfl (fun h3 => ?_) (fun h3 => ?_)
 ·
  refine ntQ (tcQ rfl (zdb (sbQ (srQ (enQ 2 rfl ?_)))))
  refine zaw (zac ?_)
  refine zdo 2 [0, 1] rfl rfl (by decide) ?_
  refine zdi (l := (rI9 3 q.u q.zs :: l)) rfl 10 [0, 1, 2, 3, 4, 5, 6, 7, 8, 9] (List.take 10 _) (List.drop 10 _) [[], [], [], [1, 2], [3], [], [], [5, 6], [7], [0, 4, 8]] [19, 20, 21, 22, 23, 24, 25, 26, 27, 28] (fun i_ vs_ v_ p_ => match i_ with | 0 => v_ = .pointer (some ⟨c, 0, none⟩) ∧ p_ = [] | 1 => v_ = vA ∧ p_ = [] | 2 => v_ = .int .i64 (k : Int) ∧ p_ = [] | 3 => v_ = elP vA (((k : Int)).toNat * 1) ∧ p_ = [] | 4 => v_ = .int .i64 (A.getD k 0) ∧ p_ = [] | 5 => v_ = vB ∧ p_ = [] | 6 => v_ = .int .i64 (k : Int) ∧ p_ = [] | 7 => v_ = elP vB (((k : Int)).toNat * 1) ∧ p_ = [] | 8 => v_ = .int .i64 (B.getD k 0) ∧ p_ = [] | 9 => (∃ pm_, p_ = [pm_] ∧ (AR9 b n c sv (W : Int) q.g q.bad (xorO n.fst q.g (A.getD k 0) (B.getD k 0))) v_ pm_) | _ => True) [[], [], [], [1, 2], [3], [], [], [5, 6], [7], [0, 4, 8]] [none, none, none, none, none, none, none, none, none, some 11] [adP b n c sv W q.v q.g q.bad] [0, 1, 2, 3, 4, 5, 6, 7, 8, 9] 11 (List.take_append_drop 10 _).symm (by kernel_rfl) (by kernel_rfl) (by kernel_rfl) rfl rfl ?_ ?_
  ·
   refine ⟨?_, ?_, ?_, ?_, ?_, ?_, ?_, ?_, ?_, ?_, trivial⟩
   ·
    intro vf pf hmu hR
    refine dqQ [] [] rfl (zay (zae [0] rfl) ?_)
    exact zbi (zax rfl)
   ·
    intro vf pf hmu hR
    refine dqQ [] [] rfl (zay (zae [1] rfl) ?_)
    exact zbi (zax rfl)
   ·
    intro vf pf hmu hR
    refine dqQ [] [] rfl (zay (zae [10] rfl) ?_)
    exact zbi (zax rfl)
   ·
    intro vf pf hmu hR
    have e1 := hR 1 (by decide)
    have e2 := hR 2 (by decide)
    refine dqQ [1, 2] [1, 2] rfl (zaq (sk 20 (congrArg some e1.1) (sk 21 (congrArg some e2.1) (zab _))) (List.sublist_append_right _ _) ?_)
    exact zbi (riQ 1 rfl rfl rfl rfl (fun w hm => hAr w (hm.sub ((.cons _ (.refl _))))))
   ·
    intro vf pf hmu hR
    have e3 := hR 3 (by decide)
    refine dqQ [3] [3] rfl (zaq (sk 22 (congrArg some e3.1) (zab _)) (List.sublist_append_right _ _) ?_)
    exact zbi (liQ rfl rfl rfl (fun w hm => hAr w (hm.sub ((.cons _ (.refl _))))))
   ·
    intro vf pf hmu hR
    refine dqQ [] [] rfl (zay (zae [2] rfl) ?_)
    exact zbi (zax rfl)
   ·
    intro vf pf hmu hR
    refine dqQ [] [] rfl (zay (zae [10] rfl) ?_)
    exact zbi (zax rfl)
   ·
    intro vf pf hmu hR
    have e5 := hR 5 (by decide)
    have e6 := hR 6 (by decide)
    refine dqQ [5, 6] [5, 6] rfl (zaq (sk 24 (congrArg some e5.1) (sk 25 (congrArg some e6.1) (zab _))) (List.sublist_append_right _ _) ?_)
    exact zbi (riQ 1 rfl rfl rfl rfl (fun w hm => hBr w (hm.sub ((.cons _ (.refl _))))))
   ·
    intro vf pf hmu hR
    have e7 := hR 7 (by decide)
    refine dqQ [7] [7] rfl (zaq (sk 26 (congrArg some e7.1) (zab _)) (List.sublist_append_right _ _) ?_)
    exact zbi (liQ rfl rfl rfl (fun w hm => hBr w (hm.sub ((.cons _ (.refl _))))))
   intro vf pf hmu hR
   have e0 := hR 0 (by decide)
   have e4 := hR 4 (by decide)
   have e8 := hR 8 (by decide)
   refine Or.inl ⟨rfl, ?_⟩
   show RunM _ _ _ (pf 11) (([0, 4, 8] : List Nat).flatMap pf ++ _) (envOf _ vf [0, 4, 8] ++ _) _ _
   rw [hmu]
   exact zbx (sk 19 (congrArg some e0.1) (sk 23 (congrArg some e4.1) (sk 27 (congrArg some e8.1) (zab _)))) (by simp only [e0.2, e4.2, e8.2, fS] <;> rfl) (zcn (R := (AR9 b n c sv (W : Int) q.g q.bad (xorO n.fst q.g (A.getD k 0) (B.getD k 0)))) rfl rfl (fun L w hX hm => adXor_mut b c n sv (W : Int) q.v q.g q.bad (A.getD k 0) (B.getD k 0) _ _ _ hm hE.ok (hE.lit (hAo.at (show k < A.length by omega))) (hE.lit (hBo.at (show k < B.length by omega))) (fun w hm => hso w ((hX w hm).sub (.cons _ (.refl _)))) hone hsv))
  intro vf pf hmu hR
  have e9 : (∃ pm_, (pf 9) = [pm_] ∧ (AR9 b n c sv (W : Int) q.g q.bad (xorO n.fst q.g (A.getD k 0) (B.getD k 0))) (vf 9) pm_) := hR 9 (by decide)
  obtain ⟨p5, pE9, hR6⟩ := e9
  obtain ⟨v4, vE9⟩ : ∃ x, vf 9 = x := ⟨_, rfl⟩
  rw [vE9] at hR6
  obtain ⟨zhR6, vhR6, ghR6, bdhR6, rfl, rfl, ohR6⟩ := hR6
  have thR6 := ohR6.lt
  obtain ⟨thR6a, thR6b⟩ := id thR6
  have lhR6 : ghR6.length ≤ 300 := ohR6.ex.ok.a1
  have q0 := hR 0 (by decide)
  have q1 := hR 1 (by decide)
  have q2 := hR 2 (by decide)
  have q3 := hR 3 (by decide)
  have q4 := hR 4 (by decide)
  have q5 := hR 5 (by decide)
  have q6 := hR 6 (by decide)
  have q7 := hR 7 (by decide)
  have q8 := hR 8 (by decide)
  refine zcd (zbs [17, 16, 15, 10, 9, 8, 3, 2, 1, 0] _ (sk 28 (congrArg some vE9) (zab _)) rfl) (by simp only [pE9, vE9, q0.2, q1.2, q2.2, q3.2, q4.2, q5.2, q6.2, q7.2, q8.2, fS] <;> rfl) ?_
  simp only [List.drop_succ_cons, List.drop_zero]
  refine zbc 1 rfl (zac (reQ 4 rfl ?_))
  refine zcz (R := (AR9 b n c sv (W : Int) ghR6 bdhR6 (xorO n.fst ghR6 zhR6 q.c))) 0 rfl rfl rfl rfl rfl (fun L w hX hm => adXor_mut b c n sv (W : Int) vhR6 ghR6 bdhR6 zhR6 q.c _ _ _ hm ohR6.ex.ok ohR6.lt (ohR6.ex.lit hqc) (fun w hm => hso w ((hX w hm).sub (.cons _ (.refl _)))) hone hsv) ?_
  intro v7 p8 hR9
  obtain ⟨zhR9, vhR9, ghR9, bdhR9, rfl, rfl, ohR9⟩ := hR9
  have thR9 := ohR9.lt
  obtain ⟨thR9a, thR9b⟩ := id thR9
  have lhR9 : ghR9.length ≤ 300 := ohR9.ex.ok.a1
  refine zck (l' := (adP b n c sv W vhR9 ghR9 bdhR9 :: rI9 3 q.u q.zs :: l)) rfl ?_
  refine zey rfl (zas (z := .int .i64 0) (s := 1) (cs := ([zhR9].map (Value.int .i64))) rfl Try.underlying48 rfl (by decide) rfl (by kernel_rfl) rfl) ?_
  intro g10
  refine zdc (i := 2) (z := .int .i64 0) (bytes := 8) rfl rfl rfl rfl Try.underlying48 (by kernel_rfl) rfl rfl rfl rfl (zao 0 rfl) (zcj _) (by first | omega | (simp; done) | (simp; omega)) (zco q.zs ([zhR9])) (zcx q.zs ([zhR9])) (fun _ => rfl) ?_
  intro v11
  refine zbc 1 rfl (zac (reQ 2 rfl ?_))
  refine hvQ rfl (lnQ rfl rfl rfl (fun w hm => hAr w (hm.sub ((.cons _ (.cons _ (.cons _ (.refl _)))))))) (hvQ rfl (vsQ rfl rfl rfl) ?_)
  refine zcb rfl rfl rfl rfl rfl rfl (fun h12 => ?_) (fun h12 => ?_)
  ·
   refine ntQ (zaj rfl (zac ?_))
   refine zdo 3 [2, 0, 1] rfl rfl (by decide) ?_
   refine zdi (l := (rowE 3 1 (.slice (some ⟨g10, 0, none⟩) 1 1) 1 ([zhR9].map (Value.int .i64)) :: rowE 3 1 v11 ((q.zs ++ ([zhR9])).length) ((q.zs ++ ([zhR9])).map (Value.int .i64)) :: l)) rfl 10 [0, 1, 2, 3, 4, 5, 6, 7, 8, 9] (List.take 10 _) (List.drop 10 _) [[], [], [], [1, 2], [3], [], [], [5, 6], [7], [0, 4, 8]] [41, 42, 43, 44, 45, 46, 47, 48, 49, 50] (fun i_ vs_ v_ p_ => match i_ with | 0 => v_ = .pointer (some ⟨c, 0, none⟩) ∧ p_ = [] | 1 => v_ = vA ∧ p_ = [] | 2 => v_ = .int .i64 (k : Int) ∧ p_ = [] | 3 => v_ = elP vA (((k : Int)).toNat * 1) ∧ p_ = [] | 4 => v_ = .int .i64 (A.getD k 0) ∧ p_ = [] | 5 => v_ = vB ∧ p_ = [] | 6 => v_ = .int .i64 (k : Int) ∧ p_ = [] | 7 => v_ = elP vB (((k : Int)).toNat * 1) ∧ p_ = [] | 8 => v_ = .int .i64 (B.getD k 0) ∧ p_ = [] | 9 => (∃ pm_, p_ = [pm_] ∧ (AR9 b n c sv (W : Int) ghR9 bdhR9 (andO n.fst ghR9 (A.getD k 0) (B.getD k 0))) v_ pm_) | _ => True) [[], [], [], [1, 2], [3], [], [], [5, 6], [7], [0, 4, 8]] [none, none, none, none, none, none, none, none, none, some 11] [adP b n c sv W vhR9 ghR9 bdhR9] [0, 1, 2, 3, 4, 5, 6, 7, 8, 9] 11 (List.take_append_drop 10 _).symm (by kernel_rfl) (by kernel_rfl) (by kernel_rfl) rfl rfl ?_ ?_
   ·
    refine ⟨?_, ?_, ?_, ?_, ?_, ?_, ?_, ?_, ?_, ?_, trivial⟩
    ·
     intro vf pf hmu hR
     refine dqQ [] [] rfl (zay (zae [0] rfl) ?_)
     exact zbi (zax rfl)
    ·
     intro vf pf hmu hR
     refine dqQ [] [] rfl (zay (zae [1] rfl) ?_)
     exact zbi (zax rfl)
    ·
     intro vf pf hmu hR
     refine dqQ [] [] rfl (zay (zae [10] rfl) ?_)
     exact zbi (zax rfl)
    ·
     intro vf pf hmu hR
     have e1 := hR 1 (by decide)
     have e2 := hR 2 (by decide)
     refine dqQ [1, 2] [1, 2] rfl (zaq (sk 42 (congrArg some e1.1) (sk 43 (congrArg some e2.1) (zab _))) (List.sublist_append_right _ _) ?_)
     exact zbi (riQ 1 rfl rfl rfl rfl (fun w hm => hAr w (hm.sub ((.cons _ (.cons _ (.refl _)))))))
    ·
     intro vf pf hmu hR
     have e3 := hR 3 (by decide)
     refine dqQ [3] [3] rfl (zaq (sk 44 (congrArg some e3.1) (zab _)) (List.sublist_append_right _ _) ?_)
     exact zbi (liQ rfl rfl rfl (fun w hm => hAr w (hm.sub ((.cons _ (.cons _ (.refl _)))))))
    ·
     intro vf pf hmu hR
     refine dqQ [] [] rfl (zay (zae [2] rfl) ?_)
     exact zbi (zax rfl)
    ·
     intro vf pf hmu hR
     refine dqQ [] [] rfl (zay (zae [10] rfl) ?_)
     exact zbi (zax rfl)
    ·
     intro vf pf hmu hR
     have e5 := hR 5 (by decide)
     have e6 := hR 6 (by decide)
     refine dqQ [5, 6] [5, 6] rfl (zaq (sk 46 (congrArg some e5.1) (sk 47 (congrArg some e6.1) (zab _))) (List.sublist_append_right _ _) ?_)
     exact zbi (riQ 1 rfl rfl rfl rfl (fun w hm => hBr w (hm.sub ((.cons _ (.cons _ (.refl _)))))))
    ·
     intro vf pf hmu hR
     have e7 := hR 7 (by decide)
     refine dqQ [7] [7] rfl (zaq (sk 48 (congrArg some e7.1) (zab _)) (List.sublist_append_right _ _) ?_)
     exact zbi (liQ rfl rfl rfl (fun w hm => hBr w (hm.sub ((.cons _ (.cons _ (.refl _)))))))
    intro vf pf hmu hR
    have e0 := hR 0 (by decide)
    have e4 := hR 4 (by decide)
    have e8 := hR 8 (by decide)
    refine Or.inl ⟨rfl, ?_⟩
    show RunM _ _ _ (pf 11) (([0, 4, 8] : List Nat).flatMap pf ++ _) (envOf _ vf [0, 4, 8] ++ _) _ _
    rw [hmu]
    exact zbx (sk 41 (congrArg some e0.1) (sk 45 (congrArg some e4.1) (sk 49 (congrArg some e8.1) (zab _)))) (by simp only [e0.2, e4.2, e8.2, fS] <;> rfl) (zcn (R := (AR9 b n c sv (W : Int) ghR9 bdhR9 (andO n.fst ghR9 (A.getD k 0) (B.getD k 0)))) rfl rfl (fun L w hX hm => adAnd_mut b c n sv (W : Int) vhR9 ghR9 bdhR9 (A.getD k 0) (B.getD k 0) _ _ _ hm ohR9.ex.ok (ohR9.ex.lit (ohR6.ex.lit (hE.lit (hAo.at (show k < A.length by omega))))) (ohR9.ex.lit (ohR6.ex.lit (hE.lit (hBo.at (show k < B.length by omega))))) (fun w hm => hso w ((hX w hm).sub (.cons _ (.cons _ (.refl _))))) hone hsv))
   intro vf pf hmu hR
   have e9 : (∃ pm_, (pf 9) = [pm_] ∧ (AR9 b n c sv (W : Int) ghR9 bdhR9 (andO n.fst ghR9 (A.getD k 0) (B.getD k 0))) (vf 9) pm_) := hR 9 (by decide)
   obtain ⟨p14, pE9, hR15⟩ := e9
   obtain ⟨v13, vE9⟩ : ∃ x, vf 9 = x := ⟨_, rfl⟩
   rw [vE9] at hR15
   obtain ⟨zhR15, vhR15, ghR15, bdhR15, rfl, rfl, ohR15⟩ := hR15
   have thR15 := ohR15.lt
   obtain ⟨thR15a, thR15b⟩ := id thR15
   have lhR15 : ghR15.length ≤ 300 := ohR15.ex.ok.a1
   have q0 := hR 0 (by decide)
   have q1 := hR 1 (by decide)
   have q2 := hR 2 (by decide)
   have q3 := hR 3 (by decide)
   have q4 := hR 4 (by decide)
   have q5 := hR 5 (by decide)
   have q6 := hR 6 (by decide)
   have q7 := hR 7 (by decide)
   have q8 := hR 8 (by decide)
   refine zcd (zbs [40, 17, 16, 15, 11, 10, 9, 8, 3, 2, 1, 0] _ (sk 50 (congrArg some vE9) (zab _)) rfl) (by simp only [pE9, vE9, q0.2, q1.2, q2.2, q3.2, q4.2, q5.2, q6.2, q7.2, q8.2, fS] <;> rfl) ?_
   simp only [List.drop_succ_cons, List.drop_zero]
   refine zbc 1 rfl (zac (reQ 3 rfl ?_))
   refine zcz (R := (AR9 b n c sv (W : Int) ghR15 bdhR15 (andO n.fst ghR15 zhR6 q.c))) 0 rfl rfl rfl rfl rfl (fun L w hX hm => adAnd_mut b c n sv (W : Int) vhR15 ghR15 bdhR15 zhR6 q.c _ _ _ hm ohR15.ex.ok (ohR15.ex.lit (ohR9.ex.lit ohR6.lt)) (ohR15.ex.lit (ohR9.ex.lit (ohR6.ex.lit hqc))) (fun w hm => hso w ((hX w hm).sub (.cons _ (.cons _ (.refl _))))) hone hsv) ?_
   intro v16 p17 hR18
   obtain ⟨zhR18, vhR18, ghR18, bdhR18, rfl, rfl, ohR18⟩ := hR18
   have thR18 := ohR18.lt
   obtain ⟨thR18a, thR18b⟩ := id thR18
   have lhR18 : ghR18.length ≤ 300 := ohR18.ex.ok.a1
   refine zck (l' := (adP b n c sv W vhR18 ghR18 bdhR18 :: rowE 3 1 (.slice (some ⟨g10, 0, none⟩) 1 1) 1 ([zhR9].map (Value.int .i64)) :: rowE 3 1 v11 ((q.zs ++ ([zhR9])).length) ((q.zs ++ ([zhR9])).map (Value.int .i64)) :: l)) rfl ?_
   refine zbc 1 rfl (reQ 3 rfl ?_)
   refine zcz (R := (AR9 b n c sv (W : Int) ghR18 bdhR18 (orO n.fst ghR18 zhR15 zhR18))) 0 rfl rfl rfl rfl rfl (fun L w hX hm => adOr_mut b c n sv (W : Int) vhR18 ghR18 bdhR18 zhR15 zhR18 _ _ _ hm ohR18.ex.ok (ohR18.ex.lit ohR15.lt) ohR18.lt (fun w hm => hso w ((hX w hm).sub (.cons _ (.cons _ (.refl _))))) hone hsv) ?_
   intro v19 p20 hR21
   obtain ⟨zhR21, vhR21, ghR21, bdhR21, rfl, rfl, ohR21⟩ := hR21
   have thR21 := ohR21.lt
   obtain ⟨thR21a, thR21b⟩ := id thR21
   have lhR21 : ghR21.length ≤ 300 := ohR21.ex.ok.a1
   refine zck (l' := (adP b n c sv W vhR21 ghR21 bdhR21 :: rowE 3 1 (.slice (some ⟨g10, 0, none⟩) 1 1) 1 ([zhR9].map (Value.int .i64)) :: rowE 3 1 v11 ((q.zs ++ ([zhR9])).length) ((q.zs ++ ([zhR9])).map (Value.int .i64)) :: l)) rfl ?_
   refine enQ 1 rfl (zdn (zav (hvQ rfl (vaQ rfl rfl rfl) (enQ 1 rfl ?_))))
   refine zaz 3 [0, 2] rfl rfl (by decide) ?_
   exact zci (k + 1) ⟨vhR21, ghR21, bdhR21, q.zs ++ ([zhR9]), v11, zhR21⟩ ⟨by omega, (((((hE.trans ohR6.ex).trans ohR9.ex).trans ohR15.ex).trans ohR18.ex).trans ohR21.ex), ((((hLs.ext (Ext.trans ohR6.ex ohR9.ex)).app ohR9.lt).ext ohR15.ex).ext ohR18.ex).ext ohR21.ex, by dsimp only; rw [List.length_append, List.length_singleton]; omega, ohR21.lt, AdR.step hRd (AdR.bind ohR6.ad (AdR.bind ohR9.ad (by dsimp only; rw [if_neg (by omega)]; exact AdR.bind ohR15.ad (AdR.bind ohR18.ad (AdR.map _ ohR21.ad)))))⟩ (by omega) (saQ rfl) (.refl _)
  refine ntQ (fsQ rfl (zdn (zav (hvQ rfl (vaQ rfl rfl rfl) (enQ 1 rfl ?_)))))
  refine zaz 3 [1, 2] rfl rfl (by decide) ?_
  exact zci (k + 1) ⟨vhR9, ghR9, bdhR9, q.zs ++ ([zhR9]), v11, q.c⟩ ⟨by omega, ((hE.trans ohR6.ex).trans ohR9.ex), (hLs.ext (Ext.trans ohR6.ex ohR9.ex)).app ohR9.lt, by dsimp only; rw [List.length_append, List.length_singleton]; omega, (ohR9.ex.lit (ohR6.ex.lit hqc)), AdR.step hRd (AdR.bind ohR6.ad (AdR.bind ohR9.ad (by dsimp only; rw [if_pos (by omega)]; exact AdR.refl)))⟩ (by omega) (saQ rfl) (.refl _)
 refine ntQ (fcQ rfl ?_)
 refine zby (zes ?_)
 refine zat (zaw (zbn 2 rfl ?_))
 refine zak (zaz 2 [0, 1] rfl rfl (by decide) ?_)
 refine zbk 2 rfl ?_
 exact zcf (rs := [.tmp 8]) (vs := [q.u]) rfl ⟨rfl, trivial⟩ rfl (fun w hm => ⟨_, bigE [adP b n c sv W q.v q.g q.bad, rI9 3 q.u q.zs], rfl, ⟨_, _, _, _, rfl, hE, hLs, by omega, by unfold sumO; rw [show W = k by omega]; rw [show W = k by omega] at hRd; exact AdR.map _ hRd⟩, hm.sub (.refl _)⟩)
theorem lone_lits {n : Nt} {g : List An} (hn : NtOk (withG n g)) {W : Nat} (hW : 1 ≤ W) {e : Int} (h : LtOk e (n.fst + g.length)) : LsOk n g (loneL W e) ∧ (loneL W e).length = W := by
  have hi0 : 0 ≤ n.ins := hn.i0
  have hf : n.fst = 1 + n.ins + n.ss.length := rfl
  refine ⟨fun x hx => ?_, by unfold loneL; rw [List.length_cons, List.length_replicate]; omega⟩
  unfold loneL at hx
  rcases List.mem_cons.1 hx with hx | hx
  · subst hx; exact h
  · rw [List.eq_of_mem_replicate hx]; exact ⟨by omega, by omega⟩
theorem cmpEq_mut (b c : Nat) (n : Nt) (sv : Value) (W : Nat) (v : Value) (g : List An) (bad : Bool) (A B : List Int) (vA vB : Value) (w0 : World) (l : List HP) (w : World) (hm0 : Mem w0 (adP b n c sv W v g bad :: l) w) (hn : NtOk (withG n g)) (hso : ∀ w, Mem w0 l w → RdsW w n.sv 3 n.ss.length (n.ss.flatMap sqC) ∧ (∀ s ∈ n.ss, RdsW w s.iv 1 s.xs.length (s.xs.map (Value.int .i64))) ∧ RdsW w n.ov 1 n.os.length (n.os.map (Value.int .i64))) (hone : n.sv.oneCell' = true ∧ n.ov.oneCell' = true) (hsv : sv.oneCell' = true) (hW : 1 ≤ W ∧ W ≤ 4) (hAr : ∀ w, Mem w0 l w → RdsW w vA 1 A.length (A.map (Value.int .i64))) (hAo : LsOk n g A) (hAl : A.length = W) (hBr : ∀ w, Mem w0 l w → RdsW w vB 1 B.length (B.map (Value.int .i64))) (hBo : LsOk n g B) (hBl : B.length = W) :
   Calls Try.prog 144 #[.pointer (some ⟨c, 0, none⟩), .int .i64 10, vA, vB] w (fun e_ w_ => ∃ v_ p_, e_ = .returned v_ ∧ (fun u_ p_ => RE9 b n c sv W g bad ((itO (eqS n.fst A B) (g, 1) W).map fun r => (r.1, loneL W r.2)) u_ p_) v_ p_ ∧ Mem w0 (p_ :: l) w_) := by
 have hi0 : 0 ≤ n.ins := hn.i0
 have hi1 : n.ins ≤ 20 := hn.i1
 have hs1 : n.ss.length ≤ 12 := hn.s1
 have hf : n.fst = 1 + n.ins + n.ss.length := rfl
 refine zdk (N := 48) (args := [.pointer (some ⟨c, 0, none⟩), .int .i64 10, vA, vB]) Try.func144 rfl rfl hm0 (zbn 1 rfl (zbn 1 rfl (zac ?_)))
 refine zac (reQ 1 rfl ?_)
 refine zbj rfl rfl rfl rfl rfl rfl (fun h1 => ?_) (fun h1 => absurd h1 (by omega))
 refine ntQ (zaj rfl (zav (zbc 1 rfl (zac (zac (reQ 1 rfl ?_))))))
 refine hvQ rfl (lnQ rfl rfl rfl (fun w hm => hAr w (hm.sub ((.cons _ (.refl _)))))) (zbc 1 rfl (zbf ?_))
 refine lkQ2 (α := Nat) (β := ASt) [0, 1, 2, 3, 8, 13, 15] rfl (fun k q => (adP b n c sv W q.v q.g q.bad :: l)) (fun k q => [(9, .int .i64 q.c), (16, .int .i64 (k : Int))]) (fun k q => k ≤ W ∧ Ext n g q.g ∧ LtOk q.c (n.fst + q.g.length) ∧ AdR (bad = true) (q.bad = true) (itO (eqS n.fst A B) (g, 1) k) (q.g, q.c)) (fun k q => W - k) 0 ⟨v, g, bad, [], .slice none 0 0, 1⟩ ⟨Nat.zero_le _, Ext.refl hn, ⟨by dsimp only; omega, by dsimp only; omega⟩, AdR.refl⟩ (saQ rfl) (.refl _) ?_
 intro k q hi2
 obtain ⟨hk, hE, hqc, hRd⟩ := hi2
 have hql : q.g.length ≤ 300 := hE.ok.a1
 obtain ⟨hqc0, hqc1⟩ := id hqc
 refine srQ ?_
 refine zcb rfl rfl rfl rfl rfl rfl (fun h3 => ?_) (fun h3 => ?_)
 ·
  refine ntQ (tcQ rfl (zdb (sbQ (srQ (enQ 2 rfl ?_)))))
  refine zaw (zac ?_)
  refine zdi (l := (l)) rfl 10 [0, 1, 2, 3, 4, 5, 6, 7, 8, 9] (List.take 10 _) (List.drop 10 _) [[], [], [], [1, 2], [3], [], [], [5, 6], [7], [0, 4, 8]] [19, 20, 21, 22, 23, 24, 25, 26, 27, 28] (fun i_ vs_ v_ p_ => match i_ with | 0 => v_ = .pointer (some ⟨c, 0, none⟩) ∧ p_ = [] | 1 => v_ = vA ∧ p_ = [] | 2 => v_ = .int .i64 (k : Int) ∧ p_ = [] | 3 => v_ = elP vA (((k : Int)).toNat * 1) ∧ p_ = [] | 4 => v_ = .int .i64 (A.getD k 0) ∧ p_ = [] | 5 => v_ = vB ∧ p_ = [] | 6 => v_ = .int .i64 (k : Int) ∧ p_ = [] | 7 => v_ = elP vB (((k : Int)).toNat * 1) ∧ p_ = [] | 8 => v_ = .int .i64 (B.getD k 0) ∧ p_ = [] | 9 => (∃ pm_, p_ = [pm_] ∧ (AR9 b n c sv (W : Int) q.g q.bad (xorO n.fst q.g (A.getD k 0) (B.getD k 0))) v_ pm_) | _ => True) [[], [], [], [1, 2], [3], [], [], [5, 6], [7], [0, 4, 8]] [none, none, none, none, none, none, none, none, none, some 11] [adP b n c sv W q.v q.g q.bad] [0, 1, 2, 3, 4, 5, 6, 7, 8, 9] 11 (List.take_append_drop 10 _).symm (by kernel_rfl) (by kernel_rfl) (by kernel_rfl) rfl rfl ?_ ?_
  ·
   refine ⟨?_, ?_, ?_, ?_, ?_, ?_, ?_, ?_, ?_, ?_, trivial⟩
   ·
    intro vf pf hmu hR
    refine dqQ [] [] rfl (zay (zae [0] rfl) ?_)
    exact zbi (zax rfl)
   ·
    intro vf pf hmu hR
    refine dqQ [] [] rfl (zay (zae [2] rfl) ?_)
    exact zbi (zax rfl)
   ·
    intro vf pf hmu hR
    refine dqQ [] [] rfl (zay (zae [10] rfl) ?_)
    exact zbi (zax rfl)
   ·
    intro vf pf hmu hR
    have e1 := hR 1 (by decide)
    have e2 := hR 2 (by decide)
    refine dqQ [1, 2] [1, 2] rfl (zaq (sk 20 (congrArg some e1.1) (sk 21 (congrArg some e2.1) (zab _))) (List.sublist_append_right _ _) ?_)
    exact zbi (riQ 1 rfl rfl rfl rfl (fun w hm => hAr w (hm.sub ((.refl _)))))
   ·
    intro vf pf hmu hR
    have e3 := hR 3 (by decide)
    refine dqQ [3] [3] rfl (zaq (sk 22 (congrArg some e3.1) (zab _)) (List.sublist_append_right _ _) ?_)
    exact zbi (liQ rfl rfl rfl (fun w hm => hAr w (hm.sub ((.refl _)))))
   ·
    intro vf pf hmu hR
    refine dqQ [] [] rfl (zay (zae [3] rfl) ?_)
    exact zbi (zax rfl)
   ·
    intro vf pf hmu hR
    refine dqQ [] [] rfl (zay (zae [10] rfl) ?_)
    exact zbi (zax rfl)
   ·
    intro vf pf hmu hR
    have e5 := hR 5 (by decide)
    have e6 := hR 6 (by decide)
    refine dqQ [5, 6] [5, 6] rfl (zaq (sk 24 (congrArg some e5.1) (sk 25 (congrArg some e6.1) (zab _))) (List.sublist_append_right _ _) ?_)
    exact zbi (riQ 1 rfl rfl rfl rfl (fun w hm => hBr w (hm.sub ((.refl _)))))
   ·
    intro vf pf hmu hR
    have e7 := hR 7 (by decide)
    refine dqQ [7] [7] rfl (zaq (sk 26 (congrArg some e7.1) (zab _)) (List.sublist_append_right _ _) ?_)
    exact zbi (liQ rfl rfl rfl (fun w hm => hBr w (hm.sub ((.refl _)))))
   intro vf pf hmu hR
   have e0 := hR 0 (by decide)
   have e4 := hR 4 (by decide)
   have e8 := hR 8 (by decide)
   refine Or.inl ⟨rfl, ?_⟩
   show RunM _ _ _ (pf 11) (([0, 4, 8] : List Nat).flatMap pf ++ _) (envOf _ vf [0, 4, 8] ++ _) _ _
   rw [hmu]
   exact zbx (sk 19 (congrArg some e0.1) (sk 23 (congrArg some e4.1) (sk 27 (congrArg some e8.1) (zab _)))) (by simp only [e0.2, e4.2, e8.2, fS] <;> rfl) (zcn (R := (AR9 b n c sv (W : Int) q.g q.bad (xorO n.fst q.g (A.getD k 0) (B.getD k 0)))) rfl rfl (fun L w hX hm => adXor_mut b c n sv (W : Int) q.v q.g q.bad (A.getD k 0) (B.getD k 0) _ _ _ hm hE.ok (hE.lit (hAo.at (show k < A.length by omega))) (hE.lit (hBo.at (show k < B.length by omega))) (fun w hm => hso w ((hX w hm).sub (.refl _))) hone hsv))
  intro vf pf hmu hR
  have e9 : (∃ pm_, (pf 9) = [pm_] ∧ (AR9 b n c sv (W : Int) q.g q.bad (xorO n.fst q.g (A.getD k 0) (B.getD k 0))) (vf 9) pm_) := hR 9 (by decide)
  obtain ⟨p5, pE9, hR6⟩ := e9
  obtain ⟨v4, vE9⟩ : ∃ x, vf 9 = x := ⟨_, rfl⟩
  rw [vE9] at hR6
  obtain ⟨zhR6, vhR6, ghR6, bdhR6, rfl, rfl, ohR6⟩ := hR6
  have thR6 := ohR6.lt
  obtain ⟨thR6a, thR6b⟩ := id thR6
  have lhR6 : ghR6.length ≤ 300 := ohR6.ex.ok.a1
  have q0 := hR 0 (by decide)
  have q1 := hR 1 (by decide)
  have q2 := hR 2 (by decide)
  have q3 := hR 3 (by decide)
  have q4 := hR 4 (by decide)
  have q5 := hR 5 (by decide)
  have q6 := hR 6 (by decide)
  have q7 := hR 7 (by decide)
  have q8 := hR 8 (by decide)
  refine zcd (zbs [17, 16, 15, 13, 10, 9, 8, 3, 2, 1, 0] _ (sk 28 (congrArg some vE9) (zab _)) rfl) (by simp only [pE9, vE9, q0.2, q1.2, q2.2, q3.2, q4.2, q5.2, q6.2, q7.2, q8.2, fS] <;> rfl) ?_
  simp only [List.drop_succ_cons, List.drop_zero]
  refine zbc 1 rfl (zac (reQ 1 rfl ?_))
  refine zbj rfl rfl rfl rfl rfl rfl (fun h7 => ?_) (fun h7 => absurd h7 (by omega))
  refine ntQ (zaj rfl (reQ 3 rfl (hvQ rfl (zcl rfl (by decide) rfl rfl (r := xr zhR6) (xor_xr (by omega) (by omega))) ?_)))
  refine zcz (R := (AR9 b n c sv (W : Int) ghR6 bdhR6 (andO n.fst ghR6 q.c (xr zhR6)))) 0 rfl rfl rfl rfl rfl (fun L w hX hm => adAnd_mut b c n sv (W : Int) vhR6 ghR6 bdhR6 q.c (xr zhR6) _ _ _ hm ohR6.ex.ok (ohR6.ex.lit hqc) (xr_ok ohR6.lt) (fun w hm => hso w ((hX w hm).sub (.refl _))) hone hsv) ?_
  intro v8 p9 hR10
  obtain ⟨zhR10, vhR10, ghR10, bdhR10, rfl, rfl, ohR10⟩ := hR10
  have thR10 := ohR10.lt
  obtain ⟨thR10a, thR10b⟩ := id thR10
  have lhR10 : ghR10.length ≤ 300 := ohR10.ex.ok.a1
  refine zck (l' := (adP b n c sv W vhR10 ghR10 bdhR10 :: l)) rfl ?_
  refine enQ 1 rfl (zdn (zav (hvQ rfl (vaQ rfl rfl rfl) (enQ 1 rfl ?_))))
  exact zci (k + 1) ⟨vhR10, ghR10, bdhR10, [], .slice none 0 0, zhR10⟩ ⟨by omega, ((hE.trans ohR6.ex).trans ohR10.ex), ohR10.lt, AdR.step hRd (AdR.bind ohR6.ad ohR10.ad)⟩ (by omega) (saQ rfl) (.refl _)
 refine ntQ (fcQ rfl ?_)
 refine zby (zes ?_)
 refine zat (zaw (zac (reQ 2 rfl ?_)))
 refine zfg rfl rfl rfl (zam rfl rfl (fun w hm => lone_ret b c sv W false q.c w (ad_rd (hm.holds _ (zbr (i := 0) rfl))).2.1 (ad_rd (hm.holds _ (zbr (i := 0) rfl))).2.2 hW)) ?_
 intro v11 p12 hR13
 subst hR13
 refine zbc 1 rfl ?_
 refine zak (zaz 2 [0, 1] rfl rfl (by decide) ?_)
 refine zbk 2 rfl ?_
 have hlo := lone_lits hE.ok hW.1 hqc
 exact zcf (rs := [.tmp 8]) (vs := [v11]) rfl ⟨rfl, trivial⟩ rfl (fun w hm => ⟨_, bigE [adP b n c sv W q.v q.g q.bad, rowE 3 1 v11 ((loneL W q.c).length) ((loneL W q.c).map (Value.int .i64))], rfl, ⟨_, _, _, _, rfl, hE, hlo.1, hlo.2, (show k = W by omega) ▸ AdR.map _ hRd⟩, hm.sub (.refl _)⟩)
theorem cmpLs_mut (b c : Nat) (n : Nt) (sv : Value) (W : Nat) (v : Value) (g : List An) (bad : Bool) (A B : List Int) (vA vB : Value) (w0 : World) (l : List HP) (w : World) (hm0 : Mem w0 (adP b n c sv W v g bad :: l) w) (hn : NtOk (withG n g)) (hso : ∀ w, Mem w0 l w → RdsW w n.sv 3 n.ss.length (n.ss.flatMap sqC) ∧ (∀ s ∈ n.ss, RdsW w s.iv 1 s.xs.length (s.xs.map (Value.int .i64))) ∧ RdsW w n.ov 1 n.os.length (n.os.map (Value.int .i64))) (hone : n.sv.oneCell' = true ∧ n.ov.oneCell' = true) (hsv : sv.oneCell' = true) (hW : 1 ≤ W ∧ W ≤ 4) (hAr : ∀ w, Mem w0 l w → RdsW w vA 1 A.length (A.map (Value.int .i64))) (hAo : LsOk n g A) (hAl : A.length = W) (hBr : ∀ w, Mem w0 l w → RdsW w vB 1 B.length (B.map (Value.int .i64))) (hBo : LsOk n g B) (hBl : B.length = W) :
   Calls Try.prog 144 #[.pointer (some ⟨c, 0, none⟩), .int .i64 11, vA, vB] w (fun e_ w_ => ∃ v_ p_, e_ = .returned v_ ∧ (fun u_ p_ => RE9 b n c sv W g bad ((itO (lsS n.fst A B) (g, 0) W).map fun r => (r.1, loneL W r.2)) u_ p_) v_ p_ ∧ Mem w0 (p_ :: l) w_) := by
 have hi0 : 0 ≤ n.ins := hn.i0
 have hi1 : n.ins ≤ 20 := hn.i1
 have hs1 : n.ss.length ≤ 12 := hn.s1
 have hf : n.fst = 1 + n.ins + n.ss.length := rfl
 refine zdk (N := 48) (args := [.pointer (some ⟨c, 0, none⟩), .int .i64 11, vA, vB]) Try.func144 rfl rfl hm0 (zbn 1 rfl (zbn 1 rfl (zac ?_)))
 refine zac (reQ 1 rfl ?_)
 refine zbj rfl rfl rfl rfl rfl rfl (fun h1 => absurd h1 (by omega)) (fun h1 => ?_)
 refine ntQ (zal rfl (zdb (zac (zac (reQ 1 rfl ?_)))))
 refine hvQ rfl (lnQ rfl rfl rfl (fun w hm => hAr w (hm.sub ((.cons _ (.refl _)))))) (zbc 1 rfl (zbf ?_))
 refine lkQ2 (α := Nat) (β := ASt) [0, 1, 2, 3, 8, 13, 15] rfl (fun k q => (adP b n c sv W q.v q.g q.bad :: l)) (fun k q => [(9, .int .i64 q.c), (16, .int .i64 (k : Int))]) (fun k q => k ≤ W ∧ Ext n g q.g ∧ LtOk q.c (n.fst + q.g.length) ∧ AdR (bad = true) (q.bad = true) (itO (lsS n.fst A B) (g, 0) k) (q.g, q.c)) (fun k q => W - k) 0 ⟨v, g, bad, [], .slice none 0 0, 0⟩ ⟨Nat.zero_le _, Ext.refl hn, ⟨by dsimp only; omega, by dsimp only; omega⟩, AdR.refl⟩ (saQ rfl) (.refl _) ?_
 intro k q hi2
 obtain ⟨hk, hE, hqc, hRd⟩ := hi2
 have hql : q.g.length ≤ 300 := hE.ok.a1
 obtain ⟨hqc0, hqc1⟩ := id hqc
 refine srQ ?_
 refine zcb rfl rfl rfl rfl rfl rfl (fun h3 => ?_) (fun h3 => ?_)
 ·
  refine ntQ (tcQ rfl (zdb (sbQ (srQ (enQ 2 rfl ?_)))))
  refine zaw (zac ?_)
  refine zdi (l := (l)) rfl 10 [0, 1, 2, 3, 4, 5, 6, 7, 8, 9] (List.take 10 _) (List.drop 10 _) [[], [], [], [1, 2], [3], [], [], [5, 6], [7], [0, 4, 8]] [19, 20, 21, 22, 23, 24, 25, 26, 27, 28] (fun i_ vs_ v_ p_ => match i_ with | 0 => v_ = .pointer (some ⟨c, 0, none⟩) ∧ p_ = [] | 1 => v_ = vA ∧ p_ = [] | 2 => v_ = .int .i64 (k : Int) ∧ p_ = [] | 3 => v_ = elP vA (((k : Int)).toNat * 1) ∧ p_ = [] | 4 => v_ = .int .i64 (A.getD k 0) ∧ p_ = [] | 5 => v_ = vB ∧ p_ = [] | 6 => v_ = .int .i64 (k : Int) ∧ p_ = [] | 7 => v_ = elP vB (((k : Int)).toNat * 1) ∧ p_ = [] | 8 => v_ = .int .i64 (B.getD k 0) ∧ p_ = [] | 9 => (∃ pm_, p_ = [pm_] ∧ (AR9 b n c sv (W : Int) q.g q.bad (xorO n.fst q.g (A.getD k 0) (B.getD k 0))) v_ pm_) | _ => True) [[], [], [], [1, 2], [3], [], [], [5, 6], [7], [0, 4, 8]] [none, none, none, none, none, none, none, none, none, some 11] [adP b n c sv W q.v q.g q.bad] [0, 1, 2, 3, 4, 5, 6, 7, 8, 9] 11 (List.take_append_drop 10 _).symm (by kernel_rfl) (by kernel_rfl) (by kernel_rfl) rfl rfl ?_ ?_
  ·
   refine ⟨?_, ?_, ?_, ?_, ?_, ?_, ?_, ?_, ?_, ?_, trivial⟩
   ·
    intro vf pf hmu hR
    refine dqQ [] [] rfl (zay (zae [0] rfl) ?_)
    exact zbi (zax rfl)
   ·
    intro vf pf hmu hR
    refine dqQ [] [] rfl (zay (zae [2] rfl) ?_)
    exact zbi (zax rfl)
   ·
    intro vf pf hmu hR
    refine dqQ [] [] rfl (zay (zae [10] rfl) ?_)
    exact zbi (zax rfl)
   ·
    intro vf pf hmu hR
    have e1 := hR 1 (by decide)
    have e2 := hR 2 (by decide)
    refine dqQ [1, 2] [1, 2] rfl (zaq (sk 20 (congrArg some e1.1) (sk 21 (congrArg some e2.1) (zab _))) (List.sublist_append_right _ _) ?_)
    exact zbi (riQ 1 rfl rfl rfl rfl (fun w hm => hAr w (hm.sub ((.refl _)))))
   ·
    intro vf pf hmu hR
    have e3 := hR 3 (by decide)
    refine dqQ [3] [3] rfl (zaq (sk 22 (congrArg some e3.1) (zab _)) (List.sublist_append_right _ _) ?_)
    exact zbi (liQ rfl rfl rfl (fun w hm => hAr w (hm.sub ((.refl _)))))
   ·
    intro vf pf hmu hR
    refine dqQ [] [] rfl (zay (zae [3] rfl) ?_)
    exact zbi (zax rfl)
   ·
    intro vf pf hmu hR
    refine dqQ [] [] rfl (zay (zae [10] rfl) ?_)
    exact zbi (zax rfl)
   ·
    intro vf pf hmu hR
    have e5 := hR 5 (by decide)
    have e6 := hR 6 (by decide)
    refine dqQ [5, 6] [5, 6] rfl (zaq (sk 24 (congrArg some e5.1) (sk 25 (congrArg some e6.1) (zab _))) (List.sublist_append_right _ _) ?_)
    exact zbi (riQ 1 rfl rfl rfl rfl (fun w hm => hBr w (hm.sub ((.refl _)))))
   ·
    intro vf pf hmu hR
    have e7 := hR 7 (by decide)
    refine dqQ [7] [7] rfl (zaq (sk 26 (congrArg some e7.1) (zab _)) (List.sublist_append_right _ _) ?_)
    exact zbi (liQ rfl rfl rfl (fun w hm => hBr w (hm.sub ((.refl _)))))
   intro vf pf hmu hR
   have e0 := hR 0 (by decide)
   have e4 := hR 4 (by decide)
   have e8 := hR 8 (by decide)
   refine Or.inl ⟨rfl, ?_⟩
   show RunM _ _ _ (pf 11) (([0, 4, 8] : List Nat).flatMap pf ++ _) (envOf _ vf [0, 4, 8] ++ _) _ _
   rw [hmu]
   exact zbx (sk 19 (congrArg some e0.1) (sk 23 (congrArg some e4.1) (sk 27 (congrArg some e8.1) (zab _)))) (by simp only [e0.2, e4.2, e8.2, fS] <;> rfl) (zcn (R := (AR9 b n c sv (W : Int) q.g q.bad (xorO n.fst q.g (A.getD k 0) (B.getD k 0)))) rfl rfl (fun L w hX hm => adXor_mut b c n sv (W : Int) q.v q.g q.bad (A.getD k 0) (B.getD k 0) _ _ _ hm hE.ok (hE.lit (hAo.at (show k < A.length by omega))) (hE.lit (hBo.at (show k < B.length by omega))) (fun w hm => hso w ((hX w hm).sub (.refl _))) hone hsv))
  intro vf pf hmu hR
  have e9 : (∃ pm_, (pf 9) = [pm_] ∧ (AR9 b n c sv (W : Int) q.g q.bad (xorO n.fst q.g (A.getD k 0) (B.getD k 0))) (vf 9) pm_) := hR 9 (by decide)
  obtain ⟨p5, pE9, hR6⟩ := e9
  obtain ⟨v4, vE9⟩ : ∃ x, vf 9 = x := ⟨_, rfl⟩
  rw [vE9] at hR6
  obtain ⟨zhR6, vhR6, ghR6, bdhR6, rfl, rfl, ohR6⟩ := hR6
  have thR6 := ohR6.lt
  obtain ⟨thR6a, thR6b⟩ := id thR6
  have lhR6 : ghR6.length ≤ 300 := ohR6.ex.ok.a1
  have q0 := hR 0 (by decide)
  have q1 := hR 1 (by decide)
  have q2 := hR 2 (by decide)
  have q3 := hR 3 (by decide)
  have q4 := hR 4 (by decide)
  have q5 := hR 5 (by decide)
  have q6 := hR 6 (by decide)
  have q7 := hR 7 (by decide)
  have q8 := hR 8 (by decide)
  refine zcd (zbs [17, 16, 15, 13, 10, 9, 8, 3, 2, 1, 0] _ (sk 28 (congrArg some vE9) (zab _)) rfl) (by simp only [pE9, vE9, q0.2, q1.2, q2.2, q3.2, q4.2, q5.2, q6.2, q7.2, q8.2, fS] <;> rfl) ?_
  simp only [List.drop_succ_cons, List.drop_zero]
  refine zbc 1 rfl (zac (reQ 1 rfl ?_))
  refine zbj rfl rfl rfl rfl rfl rfl (fun h7 => absurd h7 (by omega)) (fun h7 => ?_)
  refine ntQ (zal rfl (reQ 4 rfl ?_))
  refine hvQ rfl (riQ 1 rfl rfl rfl rfl (fun w hm => hBr w (hm.sub ((.cons _ (.refl _)))))) (hvQ rfl (liQ rfl rfl rfl (fun w hm => hBr w (hm.sub ((.cons _ (.refl _)))))) ?_)
  refine zag 1 rfl (zcz (R := (AR9 b n c sv (W : Int) ghR6 bdhR6 (muxO n.fst ghR6 zhR6 (B.getD k 0) q.c))) 0 rfl rfl rfl rfl rfl (fun L w hX hm => adMux_mut b c n sv (W : Int) vhR6 ghR6 bdhR6 zhR6 (B.getD k 0) q.c _ _ _ hm ohR6.ex.ok (ohR6.ex.lit (hE.lit (hBo.at (show k < B.length by omega)))) (ohR6.ex.lit hqc) ohR6.lt (fun w hm => hso w ((hX w hm).sub (.refl _))) hone hsv) ?_)
  intro v8 p9 hR10
  obtain ⟨zhR10, vhR10, ghR10, bdhR10, rfl, rfl, ohR10⟩ := hR10
  have thR10 := ohR10.lt
  obtain ⟨thR10a, thR10b⟩ := id thR10
  have lhR10 : ghR10.length ≤ 300 := ohR10.ex.ok.a1
  refine zck (l' := (adP b n c sv W vhR10 ghR10 bdhR10 :: l)) rfl ?_
  refine enQ 1 rfl (zdn (zav (hvQ rfl (vaQ rfl rfl rfl) (enQ 1 rfl ?_))))
  exact zci (k + 1) ⟨vhR10, ghR10, bdhR10, [], .slice none 0 0, zhR10⟩ ⟨by omega, ((hE.trans ohR6.ex).trans ohR10.ex), ohR10.lt, AdR.step hRd (AdR.bind ohR6.ad ohR10.ad)⟩ (by omega) (saQ rfl) (.refl _)
 refine ntQ (fcQ rfl ?_)
 refine zby (zes ?_)
 refine zat (zaw (zac (reQ 2 rfl ?_)))
 refine zfg rfl rfl rfl (zam rfl rfl (fun w hm => lone_ret b c sv W false q.c w (ad_rd (hm.holds _ (zbr (i := 0) rfl))).2.1 (ad_rd (hm.holds _ (zbr (i := 0) rfl))).2.2 hW)) ?_
 intro v11 p12 hR13
 subst hR13
 refine zbc 1 rfl ?_
 refine zak (zaz 2 [0, 1] rfl rfl (by decide) ?_)
 refine zbk 2 rfl ?_
 have hlo := lone_lits hE.ok hW.1 hqc
 exact zcf (rs := [.tmp 8]) (vs := [v11]) rfl ⟨rfl, trivial⟩ rfl (fun w hm => ⟨_, bigE [adP b n c sv W q.v q.g q.bad, rowE 3 1 v11 ((loneL W q.c).length) ((loneL W q.c).map (Value.int .i64))], rfl, ⟨_, _, _, _, rfl, hE, hlo.1, hlo.2, (show k = W by omega) ▸ AdR.map _ hRd⟩, hm.sub (.refl _)⟩)
def posA (h : Nat → Nat) (p : Nat) : Nat → Nat
  | 0 => p
  | i + 1 => h (posA h p i)
def enX (os : List Oq) : Nat → Nat → Nat
  | 0, p => p
  | u + 1, p => posA (enX os u) (p + 1) (arI (os.getD p oq0).k).toNat
theorem argE_pos (g : Nat → Int × Nat) (h : Nat → Nat) (p : Nat) (hg : ∀ q, (g q).2 = h q) : ∀ i, (argE g p i).2 = posA h p i
  | 0 => rfl
  | i + 1 => by
    show (g _).2 = h _
    rw [hg, argE_pos g h p hg i]
theorem evE_pos (os : List Oq) (vs : List Int) (x : Int) : ∀ u p, (evE os vs x u p).2 = enX os u p
  | 0, p => rfl
  | u + 1, p => by
    show (argE _ _ _).2 = posA _ _ _
    exact argE_pos _ _ _ (evE_pos os vs x u) _
def argO (h : Nat → List An → Option GL) (e : Nat → Nat) (p : Nat) (g : List An) : Nat → Option (List An × List (List Int))
  | 0 => some (g, [])
  | i + 1 => (argO h e p g i).bind fun s => (h (posA e p i) s.1).map fun r => (r.1, s.2 ++ [r.2])
def finO (f : Int) (W : Nat) (sg : List (List Int)) (o : Oq) (s : List An × List (List Int)) : Option GL :=
  if arI o.k = 0 then some (s.1, lfL sg o W) else if o.k = 4 then some (s.1, (s.2.getD 0 []).map xr)
  else if o.k = 12 then thO f (s.2.getD 0 []) (s.2.getD 1 []) (s.2.getD 2 []) W s.1 else twO f o.k (s.2.getD 0 []) (s.2.getD 1 []) W s.1
def exX (f : Int) (W : Nat) (sg : List (List Int)) (os : List Oq) : Nat → Nat → List An → Option GL
  | 0, _, g => some (g, [])
  | u + 1, p, g => (argO (exX f W sg os u) (enX os u) (p + 1) g (arI (os.getD p oq0).k).toNat).bind (finO f W sg (os.getD p oq0))
theorem AdR.arg {b0 b1 b2 : Prop} {h : Nat → List An → Option GL} {e : Nat → Nat} {p i : Nat} {g : List An} {s : List An × List (List Int)} {r : GL} (q : AdR b0 b1 (argO h e p g i) s) (k : AdR b1 b2 (h (posA e p i) s.1) r) : AdR b0 b2 (argO h e p g (i + 1)) (r.1, s.2 ++ [r.2]) :=
  q.bind (k.map (fun r => (r.1, s.2 ++ [r.2])))
theorem posA_ok {n : Int} {os : List Oq} (h : OpsP n os) {u p : Nat} (hf : os.length - p ≤ u + 1) (hp : p < os.length) (i : Nat) (hi : (i : Int) ≤ arI (os.getD p oq0).k) : p < posA (enX os u) (p + 1) i ∧ posA (enX os u) (p + 1) i ≤ os.length ∧ needK os (posA (enX os u) (p + 1) i) = needK os p + (arI (os.getD p oq0).k - 1) - i := by
  have h1 := argE_ok h hp (g := evE os [] 0 u) (fun q h1 h2 => evE_ok h [] 0 u q (by omega) h2) i hi
  rw [argE_pos _ _ _ (evE_pos os [] 0 u)] at h1; exact ⟨h1.1, h1.2.1, by omega⟩
theorem posA_lt {n : Int} {os : List Oq} (h : OpsP n os) {u p : Nat} (hf : os.length - p ≤ u + 1) (hp : p < os.length) (i : Nat) (hi : (i : Int) < arI (os.getD p oq0).k) : posA (enX os u) (p + 1) i < os.length := by
  obtain ⟨a1, a2, a3⟩ := posA_ok h hf hp i (by omega)
  have h1 := needK_pos h p hp
  rcases Nat.lt_or_ge (posA (enX os u) (p + 1) i) os.length with h8 | h8
  · exact h8
  · have e : posA (enX os u) (p + 1) i = os.length := by omega
    rw [e, h.fin] at a3; omega
def bvL (n : Nt) (st : List Int) (inp : Int) (g : List An) (ls : List Int) : List Int := ls.map (bitL (valsL (withG n g) st inp))
theorem zfk (n : Nt) (st : List Int) (inp : Int) (g : List An) {ls : List Int} {k : Nat} (h : k < ls.length) : (bvL n st inp g ls).getD k 0 = bitL (valsL (withG n g) st inp) (ls.getD k 0) := by
  unfold bvL; rw [List.getD_eq_getElem?_getD, List.getElem?_map, List.getD_eq_getElem?_getD, List.getElem?_eq_getElem h]; rfl
theorem bvL_app (n : Nt) (st : List Int) (inp : Int) (g : List An) (ls : List Int) (x : Int) : bvL n st inp g (ls ++ [x]) = bvL n st inp g ls ++ [bitL (valsL (withG n g) st inp) x] := by unfold bvL; rw [List.map_append]; rfl
theorem zgq {n : Nt} {g g' : List An} (h0 : NtOk (withG n g)) (e : Ext n g g') {st : List Int} (hs : st.length = n.ss.length) (inp : Int) {ls : List Int} (h : LsOk n g ls) : bvL n st inp g' ls = bvL n st inp g ls := by
  unfold bvL; exact List.map_congr_left (fun x hx => e.keep h0 hs inp (h x hx))
theorem zej (n : Nt) (st : List Int) (inp : Int) (g : List An) (ls : List Int) : (bvL n st inp g ls).length = ls.length := by unfold bvL; simp
def itB {β : Type} (step : Nat → β → β) (s : β) : Nat → β
  | 0 => s
  | k + 1 => step k (itB step s k)
theorem itO_ind {σ : Type} {step : Nat → σ → Option σ} {s : σ} (I : Nat → σ → Prop) (W : Nat) (h0 : I 0 s) (hs : ∀ k a b, k < W → I k a → step k a = some b → I (k + 1) b) : ∀ k c, k ≤ W → itO step s k = some c → I k c
  | 0, c, _, e => by cases e; exact h0
  | k + 1, c, hk, e => by
    unfold itO at e
    cases e1 : itO step s k with
    | none => rw [e1] at e; cases e
    | some a => rw [e1] at e; exact hs k a c (by omega) (itO_ind I W h0 hs k a (by omega) e1) e
abbrev bAnd (a b : Int) : Int := a * b
abbrev bOr (a b : Int) : Int := 1 - (1 - a) * (1 - b)
abbrev bXor (a b : Int) : Int := 1 - (1 - a * (1 - b)) * (1 - (1 - a) * b)
abbrev bMux (t a b : Int) : Int := 1 - (1 - t * a) * (1 - (1 - t) * b)
section
variable {n : Nt} {g : List An} {A B : List Int} {W : Nat}
theorem bw_bits {op : List An → Int → Int → Option (List An × Int)} {F : Int → Int → Int} {m : Nat} (hop : ∀ (g : List An) (a b : Int) (r : List An × Int), NtOk (withG n g) → op g a b = some r → AddOk n g r.1 r.2 m (fun ev => F (ev a) (ev b))) (hn : NtOk (withG n g)) (hA : LsOk n g A) (hB : LsOk n g B) (lA : A.length = W) (lB : B.length = W)
    {r : GL} (e : itO (bwS op A B) (g, []) W = some r) : Ext n g r.1 ∧ LsOk n r.1 r.2 ∧ r.2.length = W ∧ ∀ (st : List Int) (inp : Int), st.length = n.ss.length → bvL n st inp r.1 r.2 = (List.range W).map (fun k => F ((bvL n st inp g A).getD k 0) ((bvL n st inp g B).getD k 0)) := by
  have key := itO_ind (step := bwS op A B) (s := (g, [])) (fun k c => Ext n g c.1 ∧ LsOk n c.1 c.2 ∧ c.2.length = k ∧ ∀ (st : List Int) (inp : Int), st.length = n.ss.length → bvL n st inp c.1 c.2 = (List.range k).map (fun k => F ((bvL n st inp g A).getD k 0) ((bvL n st inp g B).getD k 0))) W
    ⟨Ext.refl hn, LsOk.nil, rfl, fun _ _ _ => rfl⟩ (fun k a b hk ⟨i1, i2, i3, i4⟩ e => by
      unfold bwS at e
      cases e1 : op a.1 (A.getD k 0) (B.getD k 0) with
      | none => rw [e1] at e; cases e
      | some q =>
        rw [e1] at e; cases e
        have ha := hop _ _ _ _ i1.ok e1
        refine ⟨i1.trans ha.toExt, (i2.ext ha.toExt).app ha.lit, by rw [List.length_append, List.length_singleton]; omega, fun st inp hs => ?_⟩
        rw [bvL_app, List.range_succ, List.map_append]
        show _ ++ [_] = _ ++ [_]
        rw [zgq i1.ok ha.toExt hs inp i2, i4 st inp hs, ha.val st inp hs]
        show _ ++ [F (bitL _ (A.getD k 0)) (bitL _ (B.getD k 0))] = _ ++ [F ((bvL n st inp g A).getD k 0) ((bvL n st inp g B).getD k 0)]
        rw [zfk n st inp g (ls := A) (k := k) (by omega), zfk n st inp g (ls := B) (k := k) (by omega), i1.keep hn hs inp (hA.at (by omega)), i1.keep hn hs inp (hB.at (by omega))])
  exact key W r (Nat.le_refl _) e
theorem or_bits (hn : NtOk (withG n g)) (hA : LsOk n g A) (lA : A.length = W) {r : List An × Int} (e : itO (orS n.fst A) (g, 0) W = some r) :
    Ext n g r.1 ∧ LtOk r.2 (n.fst + r.1.length) ∧ ∀ (st : List Int) (inp : Int), st.length = n.ss.length → bitL (valsL (withG n r.1) st inp) r.2 = itB (fun k s => bOr s ((bvL n st inp g A).getD k 0)) 0 W := by
  have hi0 : 0 ≤ n.ins := hn.i0
  have hf : n.fst = 1 + n.ins + n.ss.length := rfl
  have key := itO_ind (step := orS n.fst A) (s := (g, 0)) (fun k c => Ext n g c.1 ∧ LtOk c.2 (n.fst + c.1.length) ∧ ∀ (st : List Int) (inp : Int), st.length = n.ss.length → bitL (valsL (withG n c.1) st inp) c.2 = itB (fun k s => bOr s ((bvL n st inp g A).getD k 0)) 0 k) W
    ⟨Ext.refl hn, ⟨by omega, by dsimp only; omega⟩, fun st inp hs => by
      show bitL (valsL (withG n g) st inp) 0 = 0
      unfold bitL; rw [if_pos (by decide)]; exact val0 (n := withG n g) st inp⟩ (fun k a b hk ⟨i1, i2, i3⟩ e => by
      have ha := orO_ok i1.ok e
      refine ⟨i1.trans ha.toExt, ha.lit, fun st inp hs => ?_⟩
      rw [ha.val st inp hs]
      show bOr (bitL _ _) (bitL _ _) = bOr (itB _ _ k) _
      rw [i3 st inp hs, zfk n st inp g (ls := A) (by omega), i1.keep hn hs inp (hA.at (by omega))])
  exact key W r (Nat.le_refl _) e
end
theorem zdl {α β : Type} {o : Option α} {f : α → Option β} {c : β} (e : o.bind f = some c) : ∃ a, o = some a ∧ f a = some c := by
  cases o with
  | none => cases e
  | some a => exact ⟨a, rfl, e⟩
theorem zep {α β : Type} {o : Option α} {f : α → β} {c : β} (e : o.map f = some c) : ∃ a, o = some a ∧ f a = c := by
  cases o with
  | none => cases e
  | some a => cases e; exact ⟨a, rfl, rfl⟩
theorem bit_one {n : Nt} {g : List An} (hn : NtOk (withG n g)) {st : List Int} (inp : Int) : bitL (valsL (withG n g) st inp) 1 = 1 := by
  have := bit_xr (valsL (withG n g) st inp) (a := 0) (Int.le_refl _)
  rw [show xr 0 = 1 by decide] at this
  rw [this]; unfold bitL; rw [if_pos (by decide)]
  have := val0 (n := withG n g) st inp
  rw [show ((0 : Int) / 2).toNat = 0 by decide, this]; decide
theorem bit_zero {n : Nt} {g : List An} (hn : NtOk (withG n g)) {st : List Int} (inp : Int) : bitL (valsL (withG n g) st inp) 0 = 0 := by
  unfold bitL; rw [if_pos (by decide)]; exact val0 (n := withG n g) st inp
section
variable {n : Nt} {g : List An} {A B : List Int} {W : Nat}
theorem mx_bits (hn : NtOk (withG n g)) (hA : LsOk n g A) (hB : LsOk n g B) (lA : A.length = W) (lB : B.length = W) {x : Int} (hx : LtOk x (n.fst + g.length))
    {r : GL} (e : itO (mxS n.fst x A B) (g, []) W = some r) : Ext n g r.1 ∧ LsOk n r.1 r.2 ∧ r.2.length = W ∧ ∀ (st : List Int) (inp : Int), st.length = n.ss.length → bvL n st inp r.1 r.2 = (List.range W).map (fun k => bMux (bitL (valsL (withG n g) st inp) x) ((bvL n st inp g A).getD k 0) ((bvL n st inp g B).getD k 0)) := by
  have key := itO_ind (step := mxS n.fst x A B) (s := (g, [])) (fun k c => Ext n g c.1 ∧ LsOk n c.1 c.2 ∧ c.2.length = k ∧ ∀ (st : List Int) (inp : Int), st.length = n.ss.length → bvL n st inp c.1 c.2 = (List.range k).map (fun k => bMux (bitL (valsL (withG n g) st inp) x) ((bvL n st inp g A).getD k 0) ((bvL n st inp g B).getD k 0))) W
    ⟨Ext.refl hn, LsOk.nil, rfl, fun _ _ _ => rfl⟩ (fun k a b hk ⟨i1, i2, i3, i4⟩ e => by
      obtain ⟨q, e1, e2⟩ := zep e
      subst e2
      have ha := muxO_ok i1.ok (i1.lit (hB.at (k := k) (by omega))) e1
      refine ⟨i1.trans ha.toExt, (i2.ext ha.toExt).app ha.lit, by rw [List.length_append, List.length_singleton]; omega, fun st inp hs => ?_⟩
      rw [bvL_app, List.range_succ, List.map_append]
      show _ ++ [_] = _ ++ [_]
      rw [zgq i1.ok ha.toExt hs inp i2, i4 st inp hs, ha.val st inp hs]
      show _ ++ [bMux (bitL _ x) (bitL _ (A.getD k 0)) (bitL _ (B.getD k 0))] = _ ++ [bMux _ ((bvL n st inp g A).getD k 0) ((bvL n st inp g B).getD k 0)]
      rw [zfk n st inp g (ls := A) (k := k) (by omega), zfk n st inp g (ls := B) (k := k) (by omega), i1.keep hn hs inp (hA.at (by omega)), i1.keep hn hs inp (hB.at (by omega)), i1.keep hn hs inp hx])
  exact key W r (Nat.le_refl _) e
theorem one_bits {step : Nat → List An × Int → Option (List An × Int)} {x0 : Int} (hx0 : LtOk x0 (n.fst + g.length)) {S : (List Int → Int → Nat → Int → Int)} (hn : NtOk (withG n g))
    (hs : ∀ k (a b : List An × Int), k < W → Ext n g a.1 → LtOk a.2 (n.fst + a.1.length) → step k a = some b → Ext n a.1 b.1 ∧ LtOk b.2 (n.fst + b.1.length) ∧ ∀ (st : List Int) (inp : Int), st.length = n.ss.length → bitL (valsL (withG n b.1) st inp) b.2 = S st inp k (bitL (valsL (withG n a.1) st inp) a.2))
    {r : List An × Int} (e : itO step (g, x0) W = some r) : Ext n g r.1 ∧ LtOk r.2 (n.fst + r.1.length) ∧ ∀ (st : List Int) (inp : Int), st.length = n.ss.length → bitL (valsL (withG n r.1) st inp) r.2 = itB (S st inp) (bitL (valsL (withG n g) st inp) x0) W := by
  have key := itO_ind (step := step) (s := (g, x0)) (fun k c => Ext n g c.1 ∧ LtOk c.2 (n.fst + c.1.length) ∧ ∀ (st : List Int) (inp : Int), st.length = n.ss.length → bitL (valsL (withG n c.1) st inp) c.2 = itB (S st inp) (bitL (valsL (withG n g) st inp) x0) k) W
    ⟨Ext.refl hn, hx0, fun _ _ _ => rfl⟩ (fun k a b hk ⟨i1, i2, i3⟩ e => by
      obtain ⟨a1, a2, a3⟩ := hs k a b hk i1 i2 e
      exact ⟨i1.trans a1, a2, fun st inp h9 => by rw [a3 st inp h9, i3 st inp h9]; rfl⟩)
  exact key W r (Nat.le_refl _) e
theorem eq_bits (hn : NtOk (withG n g)) (hA : LsOk n g A) (hB : LsOk n g B) (lA : A.length = W) (lB : B.length = W) {r : List An × Int} (e : itO (eqS n.fst A B) (g, 1) W = some r) :
    Ext n g r.1 ∧ LtOk r.2 (n.fst + r.1.length) ∧ ∀ (st : List Int) (inp : Int), st.length = n.ss.length → bitL (valsL (withG n r.1) st inp) r.2 = itB (fun k s => bAnd s (1 - bXor ((bvL n st inp g A).getD k 0) ((bvL n st inp g B).getD k 0))) 1 W := by
  have hi0 : 0 ≤ n.ins := hn.i0
  have hf : n.fst = 1 + n.ins + n.ss.length := rfl
  have h := one_bits (S := fun st inp k s => bAnd s (1 - bXor ((bvL n st inp g A).getD k 0) ((bvL n st inp g B).getD k 0))) (x0 := 1) ⟨by omega, by omega⟩ hn (fun k a b hk i1 i2 e => by
    obtain ⟨y, e1, e2⟩ := zdl e
    have h1 := xorO_ok i1.ok e1
    have h2 := zfh h1.ok e2
    refine ⟨h1.toExt.trans h2.toExt, h2.lit, fun st inp hs => ?_⟩
    rw [h2.val st inp hs]
    show bitL _ a.2 * bitL _ (xr y.2) = _
    rw [bit_xr _ h1.lit.1, h1.toExt.keep i1.ok hs inp i2, h1.val st inp hs]
    show bAnd _ (1 - bXor (bitL _ (A.getD k 0)) (bitL _ (B.getD k 0))) = _
    rw [zfk n st inp g (ls := A) (k := k) (by omega), zfk n st inp g (ls := B) (k := k) (by omega), i1.keep hn hs inp (hA.at (by omega)), i1.keep hn hs inp (hB.at (by omega))]) e
  exact ⟨h.1, h.2.1, fun st inp hs => by rw [h.2.2 st inp hs, bit_one hn]⟩
theorem ls_bits (hn : NtOk (withG n g)) (hA : LsOk n g A) (hB : LsOk n g B) (lA : A.length = W) (lB : B.length = W) {r : List An × Int} (e : itO (lsS n.fst A B) (g, 0) W = some r) :
    Ext n g r.1 ∧ LtOk r.2 (n.fst + r.1.length) ∧ ∀ (st : List Int) (inp : Int), st.length = n.ss.length → bitL (valsL (withG n r.1) st inp) r.2 = itB (fun k s => bMux (bXor ((bvL n st inp g A).getD k 0) ((bvL n st inp g B).getD k 0)) ((bvL n st inp g B).getD k 0) s) 0 W := by
  have hi0 : 0 ≤ n.ins := hn.i0
  have hf : n.fst = 1 + n.ins + n.ss.length := rfl
  have h := one_bits (S := fun st inp k s => bMux (bXor ((bvL n st inp g A).getD k 0) ((bvL n st inp g B).getD k 0)) ((bvL n st inp g B).getD k 0) s) (x0 := 0) ⟨by omega, by omega⟩ hn (fun k a b hk i1 i2 e => by
    obtain ⟨y, e1, e2⟩ := zdl e
    have h1 := xorO_ok i1.ok e1
    have h2 := muxO_ok h1.ok (h1.toExt.lit i2) e2
    refine ⟨h1.toExt.trans h2.toExt, h2.lit, fun st inp hs => ?_⟩
    rw [h2.val st inp hs]
    show bMux (bitL _ y.2) (bitL _ (B.getD k 0)) (bitL _ a.2) = _
    rw [h1.toExt.keep i1.ok hs inp i2, h1.toExt.keep i1.ok hs inp (i1.lit (hB.at (by omega))), h1.val st inp hs]
    show bMux (bXor (bitL _ (A.getD k 0)) (bitL _ (B.getD k 0))) _ _ = _
    rw [zfk n st inp g (ls := A) (k := k) (by omega), zfk n st inp g (ls := B) (k := k) (by omega), i1.keep hn hs inp (hA.at (by omega)), i1.keep hn hs inp (hB.at (by omega))]) e
  exact ⟨h.1, h.2.1, fun st inp hs => by rw [h.2.2 st inp hs, bit_zero hn]⟩
def sumB (A B : List Int) (k : Nat) (s : List Int × Int) : List Int × Int := (s.1 ++ [bXor (bXor (A.getD k 0) (B.getD k 0)) s.2], bOr (bAnd (A.getD k 0) (B.getD k 0)) (bAnd (bXor (A.getD k 0) (B.getD k 0)) s.2))
theorem sum_bits (hn : NtOk (withG n g)) (hA : LsOk n g A) (hB : LsOk n g B) (lA : A.length = W) (lB : B.length = W) {c : Int} (hc : LtOk c (n.fst + g.length)) {r : GL} (e : sumO n.fst A B c W g = some r) :
    Ext n g r.1 ∧ LsOk n r.1 r.2 ∧ r.2.length = W ∧ ∀ (st : List Int) (inp : Int), st.length = n.ss.length → bvL n st inp r.1 r.2 = (itB (sumB (bvL n st inp g A) (bvL n st inp g B)) ([], bitL (valsL (withG n g) st inp) c) W).1 := by
  obtain ⟨z, ez, rfl⟩ := zep e
  have key := itO_ind (step := sumS n.fst A B W) (s := ((g, []), c)) (fun k q => Ext n g q.1.1 ∧ LsOk n q.1.1 q.1.2 ∧ q.1.2.length = k ∧ LtOk q.2 (n.fst + q.1.1.length) ∧ ∀ (st : List Int) (inp : Int), st.length = n.ss.length → bvL n st inp q.1.1 q.1.2 = (itB (sumB (bvL n st inp g A) (bvL n st inp g B)) ([], bitL (valsL (withG n g) st inp) c) k).1 ∧ (k < W → bitL (valsL (withG n q.1.1) st inp) q.2 = (itB (sumB (bvL n st inp g A) (bvL n st inp g B)) ([], bitL (valsL (withG n g) st inp) c) k).2)) W
    ⟨Ext.refl hn, LsOk.nil, rfl, hc, fun _ _ _ => ⟨rfl, fun _ => rfl⟩⟩ (fun k a b hk ⟨i1, i2, i3, i4, i5⟩ e => by
      obtain ⟨y, e1, e⟩ := zdl e
      obtain ⟨s, e2, e⟩ := zdl e
      have h1 := xorO_ok i1.ok e1
      have h2 := xorO_ok h1.ok e2
      have hbits : ∀ (st : List Int) (inp : Int), st.length = n.ss.length → bvL n st inp s.1 (a.1.2 ++ [s.2]) = (itB (sumB (bvL n st inp g A) (bvL n st inp g B)) ([], bitL (valsL (withG n g) st inp) c) (k + 1)).1 := fun st inp hs => by
        obtain ⟨j1, j2⟩ := i5 st inp hs
        rw [bvL_app, zgq h1.ok h2.toExt hs inp (i2.ext h1.toExt), zgq i1.ok h1.toExt hs inp i2, j1, h2.val st inp hs]
        show _ ++ [bXor (bitL _ y.2) (bitL _ a.2)] = _ ++ [bXor (bXor ((bvL n st inp g A).getD k 0) ((bvL n st inp g B).getD k 0)) _]
        rw [h1.toExt.keep i1.ok hs inp i4, j2 hk, h1.val st inp hs]
        show _ ++ [bXor (bXor (bitL _ (A.getD k 0)) (bitL _ (B.getD k 0))) _] = _
        rw [zfk n st inp g (ls := A) (k := k) (by omega), zfk n st inp g (ls := B) (k := k) (by omega), i1.keep hn hs inp (hA.at (by omega)), i1.keep hn hs inp (hB.at (by omega))]
      have hx := h1.toExt.trans h2.toExt
      split at e
      · next hl =>
        cases e
        exact ⟨i1.trans hx, ((i2.ext h1.toExt).ext h2.toExt).app h2.lit, by rw [List.length_append, List.length_singleton]; omega, hx.lit i4, fun st inp hs => ⟨hbits st inp hs, fun h9 => by omega⟩⟩
      · next hl =>
        obtain ⟨p, e3, e⟩ := zdl e
        obtain ⟨q, e4, e⟩ := zdl e
        obtain ⟨c2, e5, rfl⟩ := zep e
        have h3 := zfh h2.ok e3
        have h4 := zfh h3.ok e4
        have h5 := orO_ok h4.ok e5
        have hz := (h3.toExt.trans h4.toExt).trans h5.toExt
        have hls : LsOk n s.1 (a.1.2 ++ [s.2]) := ((i2.ext h1.toExt).ext h2.toExt).app h2.lit
        refine ⟨(i1.trans hx).trans hz, hls.ext hz, by rw [List.length_append, List.length_singleton]; omega, h5.lit, fun st inp hs => ⟨by rw [zgq h2.ok hz hs inp hls]; exact hbits st inp hs, fun _ => ?_⟩⟩
        obtain ⟨j1, j2⟩ := i5 st inp hs
        show bitL (valsL (withG n c2.1) st inp) c2.2 = bOr (bAnd ((bvL n st inp g A).getD k 0) ((bvL n st inp g B).getD k 0)) (bAnd (bXor ((bvL n st inp g A).getD k 0) ((bvL n st inp g B).getD k 0)) _)
        rw [h5.val st inp hs]
        show bOr (bitL _ p.2) (bitL _ q.2) = _
        rw [h4.val st inp hs, h4.toExt.keep h3.ok hs inp h3.lit, h3.val st inp hs]
        show bOr (bAnd (bitL _ (A.getD k 0)) (bitL _ (B.getD k 0))) (bAnd (bitL _ y.2) (bitL _ a.2)) = _
        have hAk := i1.lit (hA.at (k := k) (by omega))
        have hBk := i1.lit (hB.at (k := k) (by omega))
        rw [h3.toExt.keep h2.ok hs inp (h2.toExt.lit h1.lit), h3.toExt.keep h2.ok hs inp (hx.lit i4), hx.keep i1.ok hs inp hAk, hx.keep i1.ok hs inp hBk, h2.toExt.keep h1.ok hs inp h1.lit, hx.keep i1.ok hs inp i4, j2 hk, h1.val st inp hs]
        show bOr _ (bAnd (bXor (bitL _ (A.getD k 0)) (bitL _ (B.getD k 0))) _) = _
        rw [zfk n st inp g (ls := A) (k := k) (by omega), zfk n st inp g (ls := B) (k := k) (by omega), i1.keep hn hs inp (hA.at (by omega)), i1.keep hn hs inp (hB.at (by omega))])
  obtain ⟨a1, a2, a3, -, a5⟩ := key W z (Nat.le_refl _) ez
  exact ⟨a1, a2, a3, fun st inp hs => (a5 st inp hs).1⟩
end
def numB : List Int → Int
  | [] => 0
  | b :: bs => b + 2 * numB bs
def btW (W x : Nat) : List Int := (List.range W).map (fun k => ((x / 2 ^ k % 2 : Nat) : Int))
def Z01 (a : List Int) : Prop := ∀ x ∈ a, x = 0 ∨ x = 1
theorem bt_cons (W x b : Nat) (hb : b < 2) : btW (W + 1) (b + 2 * x) = (b : Int) :: btW W x := by
  unfold btW
  rw [List.range_succ_eq_map, List.map_cons, List.map_map]
  congr 1
  · rw [Nat.pow_zero, Nat.div_one]; congr 1; omega
  · refine List.map_congr_left (fun k _ => ?_)
    show (((b + 2 * x) / 2 ^ (k + 1) % 2 : Nat) : Int) = _
    rw [Nat.pow_succ, Nat.mul_comm (2 ^ k) 2, ← Nat.div_div_eq_div_mul, show (b + 2 * x) / 2 = x by omega]
theorem bt_ex : ∀ a : List Int, Z01 a → ∃ x : Nat, x < 2 ^ a.length ∧ a = btW a.length x
  | [], _ => ⟨0, by decide, rfl⟩
  | b :: t, h => by
    obtain ⟨x, hx, he⟩ := bt_ex t (fun y hy => h y (List.mem_cons_of_mem _ hy))
    have hb := h b List.mem_cons_self
    refine ⟨b.toNat + 2 * x, by rw [List.length_cons, Nat.pow_succ]; omega, ?_⟩
    rw [List.length_cons, bt_cons _ _ _ (by omega), ← he, Int.toNat_of_nonneg (by omega)]
theorem bt_ex16 {a : List Int} (h : Z01 a) {W : Nat} (hl : a.length = W) (hW : W ≤ 4) : ∃ x : Fin 16, a = btW W x := by
  obtain ⟨x, hx, he⟩ := bt_ex a h
  rw [hl] at hx he
  have : 2 ^ W ≤ 2 ^ 4 := Nat.pow_le_pow_right (by decide) hW
  exact ⟨⟨x, by omega⟩, he⟩
abbrev mk (v : Int) (W : Nat) : Int := bits .and .i64 v (wmK (W : Int))
def zpB (F : Int → Int → Int) (W : Nat) (a b : List Int) : List Int := (List.range W).map (fun k => F (a.getD k 0) (b.getD k 0))
def eqB (W : Nat) (a b : List Int) : Int := itB (fun k s => bAnd s (1 - bXor (a.getD k 0) (b.getD k 0))) 1 W
def lsB (W : Nat) (a b : List Int) : Int := itB (fun k s => bMux (bXor (a.getD k 0) (b.getD k 0)) (b.getD k 0) s) 0 W
def orB (W : Nat) (a : List Int) : Int := itB (fun k s => bOr s (a.getD k 0)) 0 W
def smB (W : Nat) (a b : List Int) (c : Int) : List Int := (itB (sumB a b) ([], c) W).1
def ngB (a : List Int) : List Int := a.map (fun x => 1 - x)
def chk2 (W x y : Nat) : Bool :=
  decide (numB (zpB bAnd W (btW W x) (btW W y)) = mk (bits .and .i64 (numB (btW W x)) (numB (btW W y))) W) &&
  decide (numB (zpB bOr W (btW W x) (btW W y)) = mk (bits .or .i64 (numB (btW W x)) (numB (btW W y))) W) &&
  decide (numB (zpB bXor W (btW W x) (btW W y)) = mk (bits .xor .i64 (numB (btW W x)) (numB (btW W y))) W) &&
  decide (numB (smB W (btW W x) (btW W y) 0) = mk (numB (btW W x) + numB (btW W y)) W) &&
  decide (numB (smB W (btW W x) (ngB (btW W y)) 1) = mk (numB (btW W x) - numB (btW W y)) W) &&
  decide (numB (loneL W (eqB W (btW W x) (btW W y))) = mk (if numB (btW W x) = numB (btW W y) then 1 else 0) W) &&
  decide (numB (loneL W (lsB W (btW W x) (btW W y))) = mk (if numB (btW W x) < numB (btW W y) then 1 else 0) W)
theorem chk2_ok : ∀ (W : Fin 4) (x y : Fin 16), chk2 (W + 1) x y = true := by decide +kernel
def chk1 (W x : Nat) : Bool :=
  decide (numB (ngB (btW W x)) = mk (bits .xor .i64 (-1) (numB (btW W x))) W) && decide (mk (numB (btW W x)) W = numB (btW W x)) && decide (orB W (btW W x) = if numB (btW W x) ≠ 0 then 1 else 0) &&
  decide (numB ((List.range W).map (fun k => (x : Int) / 2 ^ k % 2)) = mk (x : Int) W)
theorem chk1_ok : ∀ (W : Fin 4) (x : Fin 16), chk1 (W + 1) x = true := by decide +kernel
def chkS (W L x b : Nat) : Bool :=
  decide (numB ((List.range W).map (fun k => (btW L x).getD k 0)) = mk (numB (btW L x)) W) && decide (numB (loneL W ((btW L x).getD b 0)) = mk (bits .and .i64 (numB (btW L x) / 2 ^ b) 1) W)
theorem chkS_ok : ∀ (W : Fin 4) (L : Fin 5) (x : Fin 16) (b : Fin 4), chkS (W + 1) L x b = true := by decide +kernel
theorem num2 {W : Nat} (hW : 1 ≤ W ∧ W ≤ 4) {a b : List Int} (ha : Z01 a) (hb : Z01 b) (la : a.length = W) (lb : b.length = W) :
    numB (zpB bAnd W a b) = mk (bits .and .i64 (numB a) (numB b)) W ∧ numB (zpB bOr W a b) = mk (bits .or .i64 (numB a) (numB b)) W ∧ numB (zpB bXor W a b) = mk (bits .xor .i64 (numB a) (numB b)) W ∧ numB (smB W a b 0) = mk (numB a + numB b) W ∧
    numB (smB W a (ngB b) 1) = mk (numB a - numB b) W ∧ numB (loneL W (eqB W a b)) = mk (if numB a = numB b then 1 else 0) W ∧ numB (loneL W (lsB W a b)) = mk (if numB a < numB b then 1 else 0) W := by
  obtain ⟨x, rfl⟩ := bt_ex16 ha la hW.2
  obtain ⟨y, rfl⟩ := bt_ex16 hb lb hW.2
  obtain ⟨V, rfl⟩ : ∃ V : Fin 4, W = V.val + 1 := ⟨⟨W - 1, by omega⟩, by dsimp only; omega⟩
  have h := chk2_ok V x y
  unfold chk2 at h
  simp only [Bool.and_eq_true, decide_eq_true_eq] at h
  obtain ⟨⟨⟨⟨⟨⟨h1, h2⟩, h3⟩, h4⟩, h5⟩, h6⟩, h7⟩ := h
  exact ⟨h1, h2, h3, h4, h5, h6, h7⟩
theorem num1 {W : Nat} (hW : 1 ≤ W ∧ W ≤ 4) {a : List Int} (ha : Z01 a) (la : a.length = W) : numB (ngB a) = mk (bits .xor .i64 (-1) (numB a)) W ∧ mk (numB a) W = numB a ∧ orB W a = if numB a ≠ 0 then 1 else 0 := by
  obtain ⟨x, rfl⟩ := bt_ex16 ha la hW.2
  obtain ⟨V, rfl⟩ : ∃ V : Fin 4, W = V.val + 1 := ⟨⟨W - 1, by omega⟩, by dsimp only; omega⟩
  have h := chk1_ok V x
  unfold chk1 at h
  simp only [Bool.and_eq_true, decide_eq_true_eq] at h
  obtain ⟨⟨⟨h1, h2⟩, h3⟩, h4⟩ := h
  exact ⟨h1, h2, h3⟩
theorem numC {W : Nat} (hW : 1 ≤ W ∧ W ≤ 4) {v : Int} (hv : 0 ≤ v ∧ v ≤ 15) : numB ((List.range W).map (fun k => v / 2 ^ k % 2)) = mk v W := by
  obtain ⟨x, rfl⟩ : ∃ x : Fin 16, v = ((x.val : Nat) : Int) := ⟨⟨v.toNat, by omega⟩, by dsimp only; omega⟩
  obtain ⟨V, rfl⟩ : ∃ V : Fin 4, W = V.val + 1 := ⟨⟨W - 1, by omega⟩, by dsimp only; omega⟩
  have h := chk1_ok V x
  unfold chk1 at h
  simp only [Bool.and_eq_true, decide_eq_true_eq] at h
  exact h.2
theorem numS {W : Nat} (hW : 1 ≤ W ∧ W ≤ 4) {s : List Int} (hs : Z01 s) (hl : s.length ≤ 4) (b : Nat) (hb : b < 4) : numB ((List.range W).map (fun k => s.getD k 0)) = mk (numB s) W ∧ numB (loneL W (s.getD b 0)) = mk (bits .and .i64 (numB s / 2 ^ b) 1) W := by
  obtain ⟨x, hx⟩ := bt_ex16 hs rfl hl
  obtain ⟨V, rfl⟩ : ∃ V : Fin 4, W = V.val + 1 := ⟨⟨W - 1, by omega⟩, by dsimp only; omega⟩
  have h := chkS_ok V ⟨s.length, by omega⟩ x ⟨b, hb⟩
  unfold chkS at h
  simp only [Bool.and_eq_true, decide_eq_true_eq] at h
  rw [← hx] at h
  exact h
theorem bv_01 {n : Nt} {g : List An} (hn : NtOk (withG n g)) {ls : List Int} (h : LsOk n g ls) {st : List Int} (hs : st.length = n.ss.length) (inp : Int) : Z01 (bvL n st inp g ls) := fun x hx => by
  obtain ⟨y, hy, rfl⟩ := List.mem_map.1 hx
  exact bits01 hn hs inp (h y hy)
theorem bv_xr {n : Nt} {g : List An} {ls : List Int} (h : LsOk n g ls) (st : List Int) (inp : Int) : bvL n st inp g (ls.map xr) = ngB (bvL n st inp g ls) := by
  unfold bvL ngB
  rw [List.map_map, List.map_map]
  exact List.map_congr_left (fun x hx => bit_xr _ (h x hx).1)
theorem bv_lone {n : Nt} {g : List An} (hn : NtOk (withG n g)) (W : Nat) (e : Int) (st : List Int) (inp : Int) : bvL n st inp g (loneL W e) = loneL W (bitL (valsL (withG n g) st inp) e) := by
  unfold bvL loneL
  rw [List.map_cons, List.map_replicate, bit_zero hn]
theorem two_bits {n : Nt} {g : List An} {A B : List Int} {W : Nat} {kd : Int} (hW : 1 ≤ W ∧ W ≤ 4) (hk : 5 ≤ kd ∧ kd ≤ 11) (hn : NtOk (withG n g)) (hA : LsOk n g A) (hB : LsOk n g B) (lA : A.length = W) (lB : B.length = W) {r : GL} (e : twO n.fst kd A B W g = some r) :
    Ext n g r.1 ∧ LsOk n r.1 r.2 ∧ r.2.length = W ∧ ∀ (st : List Int) (inp : Int), st.length = n.ss.length → ∀ (vs : List Int) (o : Oq), o.k = kd → numB (bvL n st inp r.1 r.2) = mk (opV o vs [numB (bvL n st inp g A), numB (bvL n st inp g B)]) W := by
  have hi0 : 0 ≤ n.ins := hn.i0
  have hf : n.fst = 1 + n.ins + n.ss.length := rfl
  have hN := fun (st : List Int) (inp : Int) (hs : st.length = n.ss.length) => num2 hW (bv_01 hn hA hs inp) (bv_01 hn hB hs inp) (by rw [zej, lA]) (by rw [zej, lB])
  unfold twO at e
  split at e
  · next h5 =>
    obtain ⟨a1, a2, a3, a4⟩ := bw_bits (F := bAnd) (m := 1) (fun g a b r h e => zfh h e) hn hA hB lA lB e
    refine ⟨a1, a2, a3, fun st inp hs vs o ho => ?_⟩
    rw [a4 st inp hs]; refine (hN st inp hs).1.trans ?_
    unfold opV; rw [ho, h5]; rfl
  · split at e
    · next h5 h6 =>
      obtain ⟨a1, a2, a3, a4⟩ := bw_bits (F := bOr) (m := 1) (fun g a b r h e => orO_ok h e) hn hA hB lA lB e
      refine ⟨a1, a2, a3, fun st inp hs vs o ho => ?_⟩
      rw [a4 st inp hs]; refine (hN st inp hs).2.1.trans ?_
      unfold opV; rw [ho, h6]; rfl
    · split at e
      · next h5 h6 h7 =>
        obtain ⟨a1, a2, a3, a4⟩ := bw_bits (F := bXor) (m := 3) (fun g a b r h e => xorO_ok h e) hn hA hB lA lB e
        refine ⟨a1, a2, a3, fun st inp hs vs o ho => ?_⟩
        rw [a4 st inp hs]; refine (hN st inp hs).2.2.1.trans ?_
        unfold opV; rw [ho, h7]; rfl
      · split at e
        · next h5 h6 h7 h8 =>
          obtain ⟨a1, a2, a3, a4⟩ := sum_bits hn hA hB lA lB (c := 0) ⟨by omega, by omega⟩ e
          refine ⟨a1, a2, a3, fun st inp hs vs o ho => ?_⟩
          rw [a4 st inp hs, bit_zero hn]; refine (hN st inp hs).2.2.2.1.trans ?_
          unfold opV; rw [ho, h8]; rfl
        · split at e
          · next h5 h6 h7 h8 h9 =>
            obtain ⟨a1, a2, a3, a4⟩ := sum_bits hn hA hB.xr lA (by rw [List.length_map, lB]) (c := 1) ⟨by omega, by omega⟩ e
            refine ⟨a1, a2, a3, fun st inp hs vs o ho => ?_⟩
            rw [a4 st inp hs, bit_one hn, bv_xr hB]; refine (hN st inp hs).2.2.2.2.1.trans ?_
            unfold opV; rw [ho, h9]; rfl
          · split at e
            · next h5 h6 h7 h8 h9 h10 =>
              obtain ⟨z, ez, rfl⟩ := zep e
              obtain ⟨a1, a2, a3⟩ := eq_bits hn hA hB lA lB ez
              have hl := lone_lits a1.ok hW.1 a2
              refine ⟨a1, hl.1, hl.2, fun st inp hs vs o ho => ?_⟩
              rw [bv_lone a1.ok, a3 st inp hs]; refine (hN st inp hs).2.2.2.2.2.1.trans ?_
              unfold opV; rw [ho, h10]; rfl
            · next h5 h6 h7 h8 h9 h10 =>
              obtain ⟨z, ez, rfl⟩ := zep e
              obtain ⟨a1, a2, a3⟩ := ls_bits hn hA hB lA lB ez
              have hl := lone_lits a1.ok hW.1 a2
              refine ⟨a1, hl.1, hl.2, fun st inp hs vs o ho => ?_⟩
              rw [bv_lone a1.ok, a3 st inp hs]; refine (hN st inp hs).2.2.2.2.2.2.trans ?_
              unfold opV; rw [ho, show kd = 11 by omega]; rfl
theorem range_get (b : List Int) : (List.range b.length).map (fun k => b.getD k 0) = b := by
  refine List.ext_getElem (by simp) (fun i h1 h2 => ?_)
  rw [List.getElem_map, List.getElem_range, List.getD_eq_getElem?_getD, List.getElem?_eq_getElem h2]; rfl
theorem mux_one (b d : Int) : bMux 1 b d = b := by
  show 1 - (1 - 1 * b) * (1 - (1 - 1) * d) = b
  rw [Int.one_mul, Int.sub_self, Int.zero_mul, Int.sub_zero, Int.mul_one]; omega
theorem mux_zero (b d : Int) : bMux 0 b d = d := by
  show 1 - (1 - 0 * b) * (1 - (1 - 0) * d) = d
  simp only [Int.zero_mul, Int.sub_zero, Int.one_mul]; omega
theorem three_bits {n : Nt} {g : List An} {A B C : List Int} {W : Nat} (hW : 1 ≤ W ∧ W ≤ 4) (hn : NtOk (withG n g)) (hA : LsOk n g A) (hB : LsOk n g B) (hC : LsOk n g C) (lA : A.length = W) (lB : B.length = W) (lC : C.length = W) {r : GL} (e : thO n.fst A B C W g = some r) :
    Ext n g r.1 ∧ LsOk n r.1 r.2 ∧ r.2.length = W ∧ ∀ (st : List Int) (inp : Int), st.length = n.ss.length → ∀ (vs : List Int) (o : Oq), o.k = 12 → numB (bvL n st inp r.1 r.2) = mk (opV o vs [numB (bvL n st inp g A), numB (bvL n st inp g B), numB (bvL n st inp g C)]) W := by
  obtain ⟨z, e1, e2⟩ := zdl e
  obtain ⟨a1, a2, a3⟩ := or_bits hn hA lA e1
  obtain ⟨b1, b2, b3, b4⟩ := mx_bits a1.ok (hB.ext a1) (hC.ext a1) lB lC a2 e2
  refine ⟨a1.trans b1, b2, b3, fun st inp hs vs o ho => ?_⟩
  rw [b4 st inp hs, a3 st inp hs, zgq hn a1 hs inp hB, zgq hn a1 hs inp hC]
  have h1 := num1 hW (bv_01 hn hA hs inp) (by rw [zej, lA])
  have h2 := num1 hW (bv_01 hn hB hs inp) (by rw [zej, lB])
  have h3 := num1 hW (bv_01 hn hC hs inp) (by rw [zej, lC])
  have h4 : itB (fun k s => bOr s ((bvL n st inp g A).getD k 0)) 0 W = if numB (bvL n st inp g A) ≠ 0 then 1 else 0 := h1.2.2
  have eo : opV o vs [numB (bvL n st inp g A), numB (bvL n st inp g B), numB (bvL n st inp g C)] = if numB (bvL n st inp g A) ≠ 0 then numB (bvL n st inp g B) else numB (bvL n st inp g C) := by unfold opV; rw [ho]; rfl
  rw [h4, eo]
  by_cases hz : numB (bvL n st inp g A) ≠ 0
  · rw [if_pos hz, if_pos hz, h2.2.1]
    congr 1
    have : (bvL n st inp g B).length = W := by rw [zej, lB]
    conv => rhs; rw [← range_get (bvL n st inp g B), this]
    exact List.map_congr_left (fun k _ => mux_one _ _)
  · rw [if_neg hz, if_neg hz, h3.2.1]
    congr 1
    have : (bvL n st inp g C).length = W := by rw [zej, lC]
    conv => rhs; rw [← range_get (bvL n st inp g C), this]
    exact List.map_congr_left (fun k _ => mux_zero _ _)
def sgV (n : Nt) (st : List Int) (inp : Int) (g : List An) (sg : List (List Int)) : List Int := sg.map (fun s => numB (bvL n st inp g s))
structure SgOk (n : Nt) (g : List An) (sg : List (List Int)) : Prop where
  lt : ∀ s ∈ sg, LsOk n g s ∧ s.length ≤ 4
theorem sg_at {n : Nt} {g : List An} {sg : List (List Int)} (h : SgOk n g sg) {i : Nat} (hi : i < sg.length) : LsOk n g (sg.getD i []) ∧ (sg.getD i []).length ≤ 4 := h.lt _ (zbd hi)
theorem sgV_at (n : Nt) (st : List Int) (inp : Int) (g : List An) {sg : List (List Int)} {i : Nat} (hi : i < sg.length) : (sgV n st inp g sg).getD i 0 = numB (bvL n st inp g (sg.getD i [])) := by
  unfold sgV; rw [List.getD_eq_getElem?_getD, List.getElem?_map, List.getD_eq_getElem?_getD, List.getElem?_eq_getElem hi]; rfl
theorem bv_get {n : Nt} {g : List An} (hn : NtOk (withG n g)) (st : List Int) (inp : Int) (s : List Int) (k : Nat) : bitL (valsL (withG n g) st inp) (s.getD k 0) = (bvL n st inp g s).getD k 0 := by
  rcases Nat.lt_or_ge k s.length with h | h
  · exact (zfk n st inp g h).symm
  · rw [zem h, zem (by rw [zej]; exact h), bit_zero hn]
theorem leaf_bits {n : Nt} {g0 g : List An} {W : Nat} (hW : 1 ≤ W ∧ W ≤ 4) (h0 : NtOk (withG n g0)) (hE : Ext n g0 g) {sg : List (List Int)} (hS : SgOk n g0 sg) {o : Oq} (ho : OqP sg.length o) (ha : arI o.k = 0) (h1 : o.k ≠ 1) :
    LsOk n g (lfL sg o W) ∧ (lfL sg o W).length = W ∧ ∀ (st : List Int) (inp : Int), st.length = n.ss.length → numB (bvL n st inp g (lfL sg o W)) = mk (opV o (sgV n st inp g0 sg) []) W := by
  have hi0 : 0 ≤ n.ins := h0.i0
  have hf : n.fst = 1 + n.ins + n.ss.length := rfl
  have hz : LtOk 0 (n.fst + g.length) := ⟨by omega, by omega⟩
  have hkd : o.k = 0 ∧ (0 ≤ o.a ∧ o.a ≤ 15) ∨ (o.k = 2 ∧ 0 ≤ o.a ∧ o.a < sg.length) ∨ (o.k = 3 ∧ (0 ≤ o.a ∧ o.a < sg.length) ∧ 0 ≤ o.b ∧ o.b ≤ 3) := by
    rcases ho with h | h | h | h
    · exact .inl ⟨h.1, h.2.1⟩
    · exact .inr (.inl ⟨h.1, h.2.1⟩)
    · exact .inr (.inr ⟨h.1, h.2.1, h.2.2⟩)
    · exfalso; obtain ⟨a1, a2, a3, a4, -⟩ := h; unfold arI at ha; split at ha <;> (try split at ha) <;> (try split at ha) <;> (try split at ha) <;> omega
  have hsb : ∀ k, 0 ≤ o.a → o.a < sg.length → LtOk (sbL sg o.a k) (n.fst + g.length) := fun k q1 q2 => by
    have hs := sg_at hS (i := o.a.toNat) (by omega)
    unfold sbL
    rcases Nat.lt_or_ge k (sg.getD o.a.toNat []).length with h | h
    · exact hE.lit (hs.1.at h)
    · rw [zem h]; exact hz
  rcases hkd with ⟨hk, hv⟩ | ⟨hk, q1, q2⟩ | ⟨hk, ⟨q1, q2⟩, q3, q4⟩
  · have el : lfL sg o W = (List.range W).map (fun k => o.a / 2 ^ k % 2) := by unfold lfL; exact List.map_congr_left (fun k _ => by unfold lfB; rw [if_pos hk])
    refine ⟨fun x hx => ?_, lf_len _ _ _, fun st inp hs => ?_⟩
    · rw [el] at hx; obtain ⟨k, -, rfl⟩ := List.mem_map.1 hx
      exact ⟨by omega, by omega⟩
    · have eb : bvL n st inp g (lfL sg o W) = (List.range W).map (fun k => o.a / 2 ^ k % 2) := by
        rw [el]; unfold bvL; rw [List.map_map]
        refine List.map_congr_left (fun k _ => ?_)
        show bitL _ (o.a / 2 ^ k % 2) = _
        rcases (show o.a / 2 ^ k % 2 = 0 ∨ o.a / 2 ^ k % 2 = 1 by omega) with e | e <;> rw [e]
        · exact bit_zero hE.ok inp
        · exact bit_one hE.ok inp
      rw [eb, numC hW hv]; unfold opV; rw [if_pos hk]
  · have hs := sg_at hS (i := o.a.toNat) (by omega)
    have el : lfL sg o W = (List.range W).map (fun k => sbL sg o.a k) := by unfold lfL; exact List.map_congr_left (fun k _ => by unfold lfB; rw [if_neg (by omega), if_pos hk])
    refine ⟨fun x hx => ?_, lf_len _ _ _, fun st inp hst => ?_⟩
    · rw [el] at hx; obtain ⟨k, -, rfl⟩ := List.mem_map.1 hx
      exact hsb k q1 q2
    · have eb : bvL n st inp g (lfL sg o W) = (List.range W).map (fun k => (bvL n st inp g0 (sg.getD o.a.toNat [])).getD k 0) := by
        rw [el, ← zgq h0 hE hst inp hs.1]; unfold bvL; rw [List.map_map]
        exact List.map_congr_left (fun k _ => bv_get hE.ok st inp _ k)
      rw [eb, (numS hW (bv_01 h0 hs.1 hst inp) (by rw [zej]; exact hs.2) 0 (by decide)).1]
      unfold opV; rw [if_neg (by omega), if_pos hk, sgV_at n st inp g0 (by omega)]
  · have hs := sg_at hS (i := o.a.toNat) (by omega)
    have el : lfL sg o W = loneL W (sbL sg o.a o.b.toNat) := by rw [← lone_eq hW.1, lone_bit hW.1 hk]
    refine ⟨?_, lf_len _ _ _, fun st inp hst => ?_⟩
    · rw [el]; exact (lone_lits hE.ok hW.1 (hsb _ q1 q2)).1
    · rw [el, bv_lone hE.ok]
      have eb : bitL (valsL (withG n g) st inp) (sbL sg o.a o.b.toNat) = (bvL n st inp g0 (sg.getD o.a.toNat [])).getD o.b.toNat 0 := by
        rw [← zgq h0 hE hst inp hs.1]; exact bv_get hE.ok st inp _ _
      rw [eb, (numS hW (bv_01 h0 hs.1 hst inp) (by rw [zej]; exact hs.2) o.b.toNat (by omega)).2]
      unfold opV; rw [if_neg (by omega), if_neg (by omega), if_pos hk, sgV_at n st inp g0 (by omega)]
theorem ar_cases {k : Int} (h : 0 ≤ arI k) : (arI k = 0 ∧ k ≤ 3) ∨ (k = 4 ∧ arI k = 1) ∨ (k = 12 ∧ arI k = 3) ∨ ((5 ≤ k ∧ k ≤ 11) ∧ arI k = 2) := by
  unfold arI at h ⊢
  split at h
  · omega
  · next q0 =>
    rw [if_neg q0]
    split at h
    · next q1 => rw [if_pos q1]; omega
    · next q1 =>
      rw [if_neg q1]
      split at h
      · next q2 => rw [if_pos q2]; omega
      · next q2 =>
        rw [if_neg q2]
        split at h
        · next q3 => rw [if_pos q3]; omega
        · next q3 => rw [if_neg q3]; omega
theorem len_1 {α : Type} {l : List α} (h : l.length = 1) : ∃ a, l = [a] := by
  match l, h with
  | [a], _ => exact ⟨a, rfl⟩
theorem len_2 {α : Type} {l : List α} (h : l.length = 2) : ∃ a b, l = [a, b] := by
  match l, h with
  | [a, b], _ => exact ⟨a, b, rfl⟩
theorem len_3 {α : Type} {l : List α} (h : l.length = 3) : ∃ a b c, l = [a, b, c] := by
  match l, h with
  | [a, b, c], _ => exact ⟨a, b, c, rfl⟩
def ExR (n : Nt) (g0 : List An) (W : Nat) (sg : List (List Int)) (os : List Oq) (u p : Nat) (g : List An) (r : GL) : Prop := Ext n g r.1 ∧ LsOk n r.1 r.2 ∧ r.2.length = W ∧ ∀ (st : List Int) (inp : Int), st.length = n.ss.length → numB (bvL n st inp r.1 r.2) = (evE os (sgV n st inp g0 sg) (W : Int) u p).1
theorem arg_ok {n : Nt} {g0 : List An} {W : Nat} (h0 : NtOk (withG n g0)) {sg : List (List Int)} {os : List Oq} (hO : OpsP sg.length os) {u p : Nat} (hf : os.length - p ≤ u + 1) (hp : p < os.length) {g : List An} (hE : Ext n g0 g)
    (IH : ∀ (q : Nat) (g : List An) (r : GL), os.length - q ≤ u → q < os.length → Ext n g0 g → exX n.fst W sg os u q g = some r → ExR n g0 W sg os u q g r) : ∀ (i : Nat), (i : Int) ≤ arI (os.getD p oq0).k → ∀ s, argO (exX n.fst W sg os u) (enX os u) (p + 1) g i = some s →
    Ext n g s.1 ∧ s.2.length = i ∧ (∀ a ∈ s.2, LsOk n s.1 a ∧ a.length = W) ∧ ∀ (st : List Int) (inp : Int), st.length = n.ss.length → s.2.map (fun a => numB (bvL n st inp s.1 a)) = (argE (evE os (sgV n st inp g0 sg) (W : Int) u) (p + 1) i).1
  | 0, hi, s, e => by
    cases e
    exact ⟨Ext.refl hE.ok, rfl, fun a ha => (by cases ha), fun _ _ _ => rfl⟩
  | i + 1, hi, s, e => by
    obtain ⟨s0, e1, e2⟩ := zdl e
    obtain ⟨r0, e3, rfl⟩ := zep e2
    obtain ⟨i1, i2, i3, i4⟩ := arg_ok h0 hO hf hp hE IH i (by omega) s0 e1
    have hlt := posA_lt hO hf hp i (by omega)
    have hpk := posA_ok hO hf hp i (by omega)
    obtain ⟨j1, j2, j3, j4⟩ := IH _ _ _ (by omega) hlt (hE.trans i1) e3
    refine ⟨i1.trans j1, by rw [List.length_append, List.length_singleton]; omega, fun a ha => ?_, fun st inp hs => ?_⟩
    · rcases List.mem_append.1 ha with ha | ha
      · exact ⟨(i3 a ha).1.ext j1, (i3 a ha).2⟩
      · rw [List.mem_singleton] at ha; subst ha; exact ⟨j2, j3⟩
    · show (s0.2 ++ [r0.2]).map _ = (argE _ _ i).1 ++ [_]
      rw [List.map_append, ← i4 st inp hs, argE_pos _ _ _ (evE_pos os _ _ u) i]
      show _ ++ [numB (bvL n st inp r0.1 r0.2)] = _
      rw [j4 st inp hs]
      congr 1
      exact List.map_congr_left (fun a ha => by rw [zgq i1.ok j1 hs inp (i3 a ha).1])
theorem exX_ok {n : Nt} {g0 : List An} {W : Nat} (hW : 1 ≤ W ∧ W ≤ 4) (h0 : NtOk (withG n g0)) {sg : List (List Int)} (hS : SgOk n g0 sg) {os : List Oq} (hO : OpsP sg.length os) (h1 : ∀ i, i < os.length → (os.getD i oq0).k ≠ 1) :
    ∀ (u p : Nat) (g : List An) (r : GL), os.length - p ≤ u → p < os.length → Ext n g0 g → exX n.fst W sg os u p g = some r → ExR n g0 W sg os u p g r
  | 0, p, g, r, hf, hp, _, _ => by omega
  | u + 1, p, g, r, hf, hp, hE, e => by
    obtain ⟨s, e1, e2⟩ := zdl e
    have ho := (hO.op p hp).2
    have har : 0 ≤ arI (os.getD p oq0).k := by rcases arI_val hO hp with h | h | h | h <;> omega
    obtain ⟨a1, a2, a3, a4⟩ := arg_ok h0 hO hf hp hE (fun q g r q1 q2 q3 q4 => exX_ok hW h0 hS hO h1 u q g r q1 q2 q3 q4) _ (by rw [Int.toNat_of_nonneg har]; exact Int.le_refl _) s e1
    have ev : ∀ st inp, (evE os (sgV n st inp g0 sg) (W : Int) (u + 1) p).1 = mk (opV (os.getD p oq0) (sgV n st inp g0 sg) (argE (evE os (sgV n st inp g0 sg) (W : Int) u) (p + 1) (arI (os.getD p oq0).k).toNat).1) W := fun _ _ => rfl
    unfold finO at e2
    rcases ar_cases har with ⟨hk, -⟩ | ⟨hk, ha⟩ | ⟨hk, ha⟩ | ⟨hk, ha⟩
    · rw [if_pos hk] at e2; cases e2
      rw [hk] at e1; cases e1
      obtain ⟨b1, b2, b3⟩ := leaf_bits hW h0 hE hS ho hk (h1 p hp)
      exact ⟨Ext.refl hE.ok, b1, b2, fun st inp hs => by rw [ev, hk]; exact b3 st inp hs⟩
    · rw [if_neg (by omega), if_pos hk] at e2; cases e2
      rw [ha] at a2 a4
      obtain ⟨A, hA⟩ := len_1 a2
      rw [hA] at a3 a4 ⊢
      obtain ⟨lo, ll⟩ := a3 A List.mem_cons_self
      refine ⟨a1, lo.xr, by show (A.map xr).length = W; rw [List.length_map]; exact ll, fun st inp hs => ?_⟩
      rw [ev, ha, ← a4 st inp hs]
      show numB (bvL n st inp s.1 (A.map xr)) = _
      rw [bv_xr lo, (num1 hW (bv_01 a1.ok lo hs inp) (by rw [zej, ll])).1]
      unfold opV; rw [hk]; rfl
    · rw [if_neg (by omega), if_neg (by omega), if_pos hk] at e2
      rw [ha] at a2 a4
      obtain ⟨A, B, C, hA⟩ := len_3 a2
      rw [hA] at a3 a4 e2
      obtain ⟨lo, ll⟩ := a3 A List.mem_cons_self
      obtain ⟨lo2, ll2⟩ := a3 B (List.mem_cons_of_mem _ List.mem_cons_self)
      obtain ⟨lo3, ll3⟩ := a3 C (List.mem_cons_of_mem _ (List.mem_cons_of_mem _ List.mem_cons_self))
      obtain ⟨b1, b2, b3, b4⟩ := three_bits hW a1.ok lo lo2 lo3 ll ll2 ll3 e2
      refine ⟨a1.trans b1, b2, b3, fun st inp hs => ?_⟩
      rw [ev, ha, ← a4 st inp hs]
      exact b4 st inp hs _ _ hk
    · rw [if_neg (by omega), if_neg (by omega), if_neg (by omega)] at e2
      rw [ha] at a2 a4
      obtain ⟨A, B, hA⟩ := len_2 a2
      rw [hA] at a3 a4 e2
      obtain ⟨lo, ll⟩ := a3 A List.mem_cons_self
      obtain ⟨lo2, ll2⟩ := a3 B (List.mem_cons_of_mem _ List.mem_cons_self)
      obtain ⟨b1, b2, b3, b4⟩ := two_bits hW hk a1.ok lo lo2 ll ll2 e2
      refine ⟨a1.trans b1, b2, b3, fun st inp hs => ?_⟩
      rw [ev, ha, ← a4 st inp hs]
      exact b4 st inp hs _ _ rfl
def ntL (a : Int) : Int := if a < 0 then -2 else xr a
theorem ntL_neg {a : Int} (h : a < 0) : ntL a = -2 := if_pos h
theorem ntL_pos {a : Int} (h : 0 ≤ a) : ntL a = xr a := if_neg (by omega)
theorem ntL_succ {xs : List Int} {k : Nat} (h : k < xs.length) : (xs.take k).map ntL ++ [ntL (xs.getD k 0)] = (xs.take (k + 1)).map ntL := by
  rw [zen 0 h, List.map_append]; rfl
def PosL (xs : List Int) : Prop := ∀ k, k < xs.length → 0 ≤ xs.getD k 0
theorem zfl (a : Int) (w : World) (ha : a < 4294967296) :
   Calls Try.prog 158 #[.int .i64 a] w (Ans w (.int .i64 (ntL a))) := by
 refine zbq (N := 7) (args := [.int .i64 a]) Try.func158 rfl rfl (zbn 1 rfl (zac (zac (reQ 1 rfl ?_))))
 refine zcb rfl rfl rfl rfl rfl rfl (fun h1 => ?_) (fun h1 => ?_)
 ·
  refine ntQ (zaj rfl (zbn 1 rfl ?_))
  refine zak (zad ?_)
  exact zbl rfl rfl (by rw [ntL_neg (by omega)])
 refine ntQ (zal rfl (zdb (zac (reQ 1 rfl (hvQ rfl (zcl rfl (by decide) rfl rfl (r := xr a) (xor_xr (by omega) (by omega))) (zbc 1 rfl ?_))))))
 exact zak (zbl rfl rfl (by rw [ntL_pos (by omega)]))
theorem l11Pick_ans (xs : List Int) (v : Value) (k : Nat) (w : World) (hv : RdsW w v 1 xs.length (xs.map (Value.int .i64))) :
   Calls Try.prog 128 #[v, .int .i64 (k : Int)] w (Ans w (.int .i64 (xs.getD k 0))) := by
 have hv9 := sml hv
 refine zbq (N := 13) (args := [v, .int .i64 (k : Int)]) Try.func128 rfl rfl (zbn 1 rfl (zac (zac (reQ 2 rfl (hvQ rfl (lnQ rfl rfl rfl (zap hv)) ?_)))))
 refine zcb rfl rfl rfl rfl rfl rfl (fun h1 => ?_) (fun h1 => ?_)
 ·
  refine ntQ (zaj rfl (zac (reQ 2 rfl (hvQ rfl (riQ 1 rfl rfl rfl rfl (zap hv)) (hvQ rfl (liQ rfl rfl rfl (zap hv)) (zbc 1 rfl ?_))))))
  refine zak (zad ?_)
  exact zbl rfl rfl rfl
 refine ntQ (zal rfl (zdb (zbn 1 rfl ?_)))
 exact zak (zbl rfl rfl (by rw [zem (by omega)]))
theorem l11Not_ret (xs : List Int) (v : Value) (w : World) (hv : RdsW w v 1 xs.length (xs.map (Value.int .i64))) (hx : ∀ x ∈ xs, x < 4294967296) (hxl : xs.length ≤ 1000) :
   Calls Try.prog 129 #[v] w (Ret w (fun v' post => post = [rI9 3 v' ((xs.map ntL))])) := by
 have hv9 := sml hv
 refine zbq (N := 21) (args := [v]) Try.func129 rfl rfl (zbn 1 rfl (srQ ?_))
 refine zey rfl (zds (s := 1) rfl Try.underlying48 rfl) ?_
 intro g1
 refine zbc 1 rfl (zac (zbn 1 rfl (zbf ?_)))
 refine lkQ3 (α := Nat) (β := List Int) (γ := Value) [0, 2] rfl (fun k zs u => [rI9 3 u zs]) (fun k zs u => [(3, u), (4, .int .i64 (k : Int))]) (fun k zs u => k ≤ xs.length ∧ zs = (xs.take k).map ntL) (fun k zs u => xs.length - k) 0 [] _ ⟨Nat.zero_le _, rfl⟩ (saQ rfl) (pfQ rfl) ?_
 intro k zs u hi2
 obtain ⟨hk, hz⟩ := hi2
 have hzl : zs.length = k := by rw [hz, List.length_map, List.length_take]; omega
 refine zac (zac (reQ 2 rfl (hvQ rfl (lnQ rfl rfl rfl (zap hv)) ?_)))
 refine zcb rfl rfl rfl rfl rfl rfl (fun h3 => ?_) (fun h3 => ?_)
 ·
  refine ntQ (zaj rfl (zdb (sbQ (reQ 3 rfl (hvQ rfl (riQ 1 rfl rfl rfl rfl (zap hv)) (hvQ rfl (liQ rfl rfl rfl (zap hv)) ?_))))))
  refine zdu rfl (zam rfl rfl (fun w hm => zbb (zfl (xs.getD k 0) w (hx _ (zbd (by omega)))))) (zey rfl (zas (z := .int .i64 0) (s := 1) (cs := ([ntL (xs.getD k 0)].map (Value.int .i64))) rfl Try.underlying48 rfl (by decide) rfl (by kernel_rfl) rfl) ?_)
  intro g4
  refine zdc (i := 1) (z := .int .i64 0) (bytes := 8) rfl rfl rfl rfl Try.underlying48 (by kernel_rfl) rfl rfl rfl rfl (zao 0 rfl) (zcj _) (by first | omega | (simp; done) | (simp; omega)) (zco zs ([ntL (xs.getD k 0)])) (zcx zs ([ntL (xs.getD k 0)])) (fun _ => rfl) ?_
  intro v5
  refine enQ 1 rfl (zdn (reQ 1 rfl (hvQ rfl (vaQ rfl rfl rfl) (enQ 1 rfl ?_))))
  exact zdz (k + 1) (zs ++ ([ntL (xs.getD k 0)])) v5 ⟨by omega, by rw [hz]; exact ntL_succ (by omega)⟩ (by omega) (saQ rfl) (slQ [1] rfl)
 refine ntQ (zal rfl ?_)
 refine zby (zes ?_)
 refine zat (zaw (zbn 2 rfl ?_))
 exact zak (zev (post := [rI9 3 u zs]) rfl rfl (pfQ rfl) (by rw [hz, show k = xs.length by omega, List.take_length]))
theorem l11Right_ans (xs : List Int) (v : Value) (w : World) (hv : RdsW w v 1 xs.length (xs.map (Value.int .i64))) (hxl : xs.length ≤ 1000) :
   Calls Try.prog 93 #[v] w (Ans w (.bool (pB (PosL xs)))) := by
 have hv9 := sml hv
 refine zbq (N := 15) (args := [v]) Try.func93 rfl rfl (zbn 1 rfl (zac (zbn 1 rfl ?_)))
 refine zbf ?_
 refine lkQ1 (α := Nat) [0, 2] rfl (fun k => []) (fun k => [(3, .int .i64 (k : Int))]) (fun k => k ≤ xs.length ∧ ∀ q, q < k → 0 ≤ xs.getD q 0) (fun k => xs.length - k) 0 ⟨Nat.zero_le _, fun q hq => absurd hq (Nat.not_lt_zero _)⟩ (saQ rfl) (.slnil) ?_
 intro k hi1
 obtain ⟨hk, hp⟩ := hi1
 refine zac (zac (reQ 2 rfl (hvQ rfl (lnQ rfl rfl rfl (zap hv)) ?_)))
 refine zcb rfl rfl rfl rfl rfl rfl (fun h2 => ?_) (fun h2 => ?_)
 ·
  refine ntQ (zaj rfl (zdb (sbQ (zac (reQ 2 rfl (hvQ rfl (riQ 1 rfl rfl rfl rfl (zap hv)) (hvQ rfl (liQ rfl rfl rfl (zap hv)) ?_)))))))
  refine zcb rfl rfl rfl rfl rfl rfl (fun h3 => ?_) (fun h3 => ?_)
  ·
   refine ntQ (zaj rfl (zbn 1 rfl ?_))
   refine zak (zaf ?_)
   refine zfv ?_
   refine zaf (zad ?_)
   exact zbl rfl rfl (congrArg _ (zdr (fun hP => by have h9 := hP k (by omega); omega)).symm)
  refine ntQ (fsQ rfl (zdn (reQ 1 rfl (hvQ rfl (vaQ rfl rfl rfl) (enQ 1 rfl ?_)))))
  exact zcm (k + 1) ⟨by omega, fun q hq => by by_cases e9 : q = k; (subst e9; omega); exact hp q (by omega)⟩ (by omega) (saQ rfl) (.slnil)
 refine ntQ (zal rfl ?_)
 refine zby (zes ?_)
 refine zat (zaw (zbn 1 rfl ?_))
 exact zak (zbl rfl rfl (congrArg _ (zft (fun q hq => hp q (by omega))).symm))
def sqv (s : Sq) : Int × Int × List Int := (s.kd, s.it, s.xs)
def sqk (s : Sq) : Int × Int × Nat := (s.kd, s.it, s.xs.length)
def RdsSqs (w : World) (ss : List Sq) : Prop := ∀ s ∈ ss, RdsW w s.iv 1 s.xs.length (s.xs.map (Value.int .i64))
theorem RdsSqs.nil (w : World) : RdsSqs w [] := fun s hs => by cases hs
theorem RdsSqs.at {w : World} {ss : List Sq} (h : RdsSqs w ss) {k : Nat} (hk : k < ss.length) : RdsW w (ss.getD k sq0).iv 1 (ss.getD k sq0).xs.length ((ss.getD k sq0).xs.map (Value.int .i64)) := h _ (zbd hk)
theorem RdsSqs.app {w : World} {ss : List Sq} {s : Sq} (h : RdsSqs w ss) (hs : RdsW w s.iv 1 s.xs.length (s.xs.map (Value.int .i64))) : RdsSqs w (ss ++ [s]) := fun r hr => by
  rcases List.mem_append.1 hr with hr | hr
  · exact h r hr
  · rw [List.mem_singleton] at hr; subst hr; exact hs
theorem sqv_len {ss zs : List Sq} (h : zs.map sqv = ss.map sqv) : zs.length = ss.length := by simpa using congrArg List.length h
theorem sqk_len {ss zs : List Sq} (h : zs.map sqk = ss.map sqk) : zs.length = ss.length := by simpa using congrArg List.length h
theorem map_mem' {α β : Type} {f : α → β} {xs ys : List α} (h : xs.map f = ys.map f) {s : α} (hs : s ∈ xs) : ∃ r ∈ ys, f r = f s := by
  have h1 : f s ∈ ys.map f := h ▸ List.mem_map.2 ⟨s, hs, rfl⟩
  exact List.mem_map.1 h1
def mpL (tos : List Int) (l : Int) : Int := if l % 2 = 0 then tos.getD (l / 2).toNat 0 else xr (tos.getD (l / 2).toNat 0)
def MapOk (tos : List Int) (c m : Int) : Prop := (tos.length : Int) = c ∧ ∀ k, k < tos.length → LtOk (tos.getD k 0) m
structure Skel (n n2 : Nt) : Prop where
  ins : n2.ins = n.ins
  ss : n2.ss.map sqk = n.ss.map sqk
theorem Skel.fst {n n2 : Nt} (h : Skel n n2) : n2.fst = n.fst := by show 1 + n2.ins + (n2.ss.length : Int) = 1 + n.ins + n.ss.length; rw [h.ins, sqk_len h.ss]
theorem Skel.len {n n2 : Nt} (h : Skel n n2) : n2.ss.length = n.ss.length := sqk_len h.ss
theorem Skel.sq {n n2 : Nt} (h : Skel n n2) (hn : ∀ s ∈ n.ss, SqOk s) : ∀ s ∈ n2.ss, SqOk s := fun s hs => by
  obtain ⟨r, hr, he⟩ := map_mem' h.ss hs
  simp only [sqk, Prod.mk.injEq] at he
  exact ⟨by rw [← he.1, ← he.2.1, ← he.2.2]; exact (hn r hr).kind⟩
theorem sqk_of_sqv {zs ss : List Sq} (h : zs.map sqv = ss.map sqv) : zs.map sqk = ss.map sqk := by
  have e : sqk = (fun p : Int × Int × List Int => (p.1, p.2.1, p.2.2.length)) ∘ sqv := rfl
  rw [e, ← List.map_map, ← List.map_map, h]
structure Grew (n n2 : Nt) (x : Int) : Prop where
  sk : Skel n n2
  ok : NtOk n2
  l0 : n.gs.length ≤ n2.gs.length
  l1 : n2.gs.length ≤ n.gs.length + 1
  lit : LtOk x n2.cnt
theorem flat_onesH {α : Type} (f : α → List Value) (xs : List α) (h : ∀ r u, u ∈ f r → u.oneCell' = true) : ∀ q ∈ xs.flatMap f, q.oneCell' = true := fun q hq => by
  obtain ⟨r, -, h2⟩ := List.mem_flatMap.1 hq
  exact h r q h2
structure CopyOf (n n2 : Nt) : Prop where
  ins : n2.ins = n.ins
  gs : n2.gs = n.gs
  os : n2.os = n.os
  ss : n2.ss.map sqv = n.ss.map sqv
theorem CopyOf.sk {n n2 : Nt} (h : CopyOf n n2) : Skel n n2 := ⟨h.ins, sqk_of_sqv h.ss⟩
theorem CopyOf.cnt {n n2 : Nt} (h : CopyOf n n2) : n2.cnt = n.cnt := by show n2.fst + (n2.gs.length : Int) = n.fst + n.gs.length; rw [h.sk.fst, h.gs]
theorem CopyOf.ok {n n2 : Nt} (h : CopyOf n n2) (hn : NtOk n) : NtOk n2 :=
  ⟨by rw [h.ins]; exact hn.i0, by rw [h.ins]; exact hn.i1, by rw [h.sk.len]; exact hn.s1, by rw [h.gs]; exact hn.a1, by rw [h.os]; exact hn.o1, h.sk.sq hn.sq, fun s hs => by
    obtain ⟨r, hr, he⟩ := map_mem' h.ss hs
    simp only [sqv, Prod.mk.injEq] at he
    rw [← he.2.2, h.cnt]; exact hn.xs r hr, by rw [h.gs, h.sk.fst]; exact hn.an, by rw [h.os, h.cnt]; exact hn.ou⟩
theorem built_seqH (x0 : Int) (x1 : Int) (x2 : Value) (h2 : x2.oneCell' = true) : Try.prog.built 143 [(0, .int .i64 x0), (1, .int .i64 x1), (2, x2)] = some #[.int .i64 x0, .int .i64 x1, x2] := by
  (cases x2 <;> first | (exact absurd h2 Bool.false_ne_true) | kernel_rfl)
theorem built_netH (x0 : Int) (x1 : Value) (x2 : Value) (x3 : Value) (h1 : x1.oneCell' = true) (h2 : x2.oneCell' = true) (h3 : x3.oneCell' = true) : Try.prog.built 70 [(0, .int .i64 x0), (1, x1), (2, x2), (3, x3)] = some #[.int .i64 x0, x1, x2, x3] := by
  (cases x1 <;> first | (exact absurd h1 Bool.false_ne_true) | (cases x2 <;> first | (exact absurd h2 Bool.false_ne_true) | (cases x3 <;> first | (exact absurd h3 Bool.false_ne_true) | kernel_rfl)))
theorem zge {P : Program} {N : Nat} {w0 : World} {l : List HP} {env : List (Nat × Value)} {o : Oper} {t : TypeId} {ps : Array (Nat × Operand)} {vs : List (Nat × Value)} {cs : Array Value} (ho : o.op = .build t ps)
    (hp : ps.toList.mapM (fun p => (ev env p.2).map fun v => (p.1, v)) = some vs) (hb : ∀ w, Mem w0 l w → P.built t vs = some cs) : RunV P N w0 l env o (.agg cs) := fun a w st => zct ho hp (hb w st.mem) a w st
theorem l08CopySeqs_ret (ss : List Sq) (v : Value) (w : World) (hv : RdsW w v 3 ss.length (ss.flatMap sqC)) (hx : RdsSqs w ss) (hl : ss.length ≤ 20) (h4 : ∀ s ∈ ss, s.xs.length ≤ 4) :
   Calls Try.prog 127 #[v] w (Ret w (fun u_ p_ => ∃ (ps : List HP) (zs : List Sq), p_ = [rS9 143 3 u_ zs sqC, bigE ps] ∧ (∀ w, (bigE ps).holds w → RdsSqs w zs) ∧ zs.map sqv = ss.map sqv)) := by
 refine zbq (N := 34) (args := [v]) Try.func127 rfl rfl (zbn 1 rfl (srQ ?_))
 refine zey rfl (zds (s := 3) rfl Try.underlying67 rfl) ?_
 intro g1
 refine zbc 1 rfl (zac (zbn 1 rfl (zbf ?_)))
 refine zeo _ zfq ?_
 refine lkQ4 (α := Nat) (β := List Sq) (γ := Value) (δ := List HP) [0, 2] rfl (fun i zs gu ps => [bigE ps, rS9 143 3 gu zs sqC]) (fun i zs gu ps => [(3, gu), (4, .int .i64 (i : Int))]) (fun i zs gu ps => i ≤ ss.length ∧ zs.map sqv = (ss.take i).map sqv ∧ ∀ w, (bigE ps).holds w → RdsSqs w zs) (fun i zs gu ps => ss.length - i) 0 [] _ _ ⟨by omega, by simp, fun w _ => RdsSqs.nil w⟩ (saQ rfl) (pfQ rfl) ?_
 intro i zs gu ps hi2
 obtain ⟨hi, hz, hps⟩ := hi2
 have hzl : zs.length = i := by have h9 := sqv_len hz; rw [List.length_take] at h9; omega
 refine zac (zac (reQ 2 rfl (hvQ rfl (lnQ rfl rfl rfl (zap hv)) ?_)))
 refine zcb rfl rfl rfl rfl rfl rfl (fun h3 => ?_) (fun h3 => ?_)
 ·
  refine ntQ (zaj rfl (zdb (sbQ ?_)))
  have h44 := h4 _ (zbd (d := sq0) (show i < ss.length by omega))
  refine zdq (l := [bigE ps, rS9 143 3 gu zs sqC]) rfl 20 [0, 1, 2, 3, 4, 5, 6, 7, 8, 9, 10, 11, 12, 13, 14, 15, 16, 17, 18, 19] (List.take 20 _) (List.drop 20 _) [[], [], [], [1, 2], [3], [4], [], [], [6, 7], [8], [9], [], [], [], [12, 13], [14], [15], [11, 16], [5, 10, 17], [17, 18]] [some 12, some 13, some 14, some 15, some 16, some 17, some 18, some 19, some 20, some 21, some 22, some 23, some 24, some 25, some 26, some 27, some 28, some 29, some 30, some 31] (fun i_ vs_ v_ p_ => match i_ with | 0 => v_ = gu ∧ p_ = [] | 1 => v_ = v ∧ p_ = [] | 2 => v_ = .int .i64 (i : Int) ∧ p_ = [] | 3 => v_ = elP v (((i : Int)).toNat * 3) ∧ p_ = [] | 4 => v_ = elP v (((i : Int)).toNat * 3 + 0) ∧ p_ = [] | 5 => v_ = .int .i64 ((ss.getD i sq0).kd) ∧ p_ = [] | 6 => v_ = v ∧ p_ = [] | 7 => v_ = .int .i64 (i : Int) ∧ p_ = [] | 8 => v_ = elP v (((i : Int)).toNat * 3) ∧ p_ = [] | 9 => v_ = elP v (((i : Int)).toNat * 3 + 1) ∧ p_ = [] | 10 => v_ = .int .i64 ((ss.getD i sq0).it) ∧ p_ = [] | 11 => IsRow 3 1 0 ([]) v_ p_ | 12 => v_ = v ∧ p_ = [] | 13 => v_ = .int .i64 (i : Int) ∧ p_ = [] | 14 => v_ = elP v (((i : Int)).toNat * 3) ∧ p_ = [] | 15 => v_ = elP v (((i : Int)).toNat * 3 + 2) ∧ p_ = [] | 16 => v_ = (ss.getD i sq0).iv ∧ p_ = [] | 17 => (∃ pm_, p_ = [pm_] ∧ (fun u_ p_ => p_ = rowE 3 1 u_ (((ss.getD i sq0).xs).length) (((ss.getD i sq0).xs).map (Value.int .i64))) v_ pm_) | 18 => v_ = .agg #[.int .i64 ((ss.getD i sq0).kd), .int .i64 ((ss.getD i sq0).it), (gV9 vs_ 2)] ∧ p_ = [] | 19 => IsRow 143 3 1 ([.int .i64 ((ss.getD i sq0).kd), .int .i64 ((ss.getD i sq0).it), (gV9 vs_ 0)]) v_ p_ | _ => True) [[], [], [], [1, 2], [3], [4], [], [], [6, 7], [8], [9], [], [], [], [12, 13], [14], [15], [16], [5, 10, 17], [17, 18]] [none, none, none, none, none, none, none, none, none, none, none, none, none, none, none, none, none, some 11, none, none] [] [0, 1, 2, 3, 4, 5, 6, 7, 8, 9, 10, 12, 13, 14, 15, 16, 17, 18, 19] 22 (List.take_append_drop 20 _).symm (by kernel_rfl) (by kernel_rfl) (by kernel_rfl) rfl rfl ?_ ?_
  ·
   refine ⟨?_, ?_, ?_, ?_, ?_, ?_, ?_, ?_, ?_, ?_, ?_, ?_, ?_, ?_, ?_, ?_, ?_, ?_, ?_, ?_, trivial⟩
   ·
    intro vf pf hmu hR
    refine zce [] [] rfl (zay (zae [3] rfl) ?_)
    exact zbi (zax rfl)
   ·
    intro vf pf hmu hR
    refine zce [] [] rfl (zay (zae [0] rfl) ?_)
    exact zbi (zax rfl)
   ·
    intro vf pf hmu hR
    refine zce [] [] rfl (zay (zae [4] rfl) ?_)
    exact zbi (zax rfl)
   ·
    intro vf pf hmu hR
    have e1 := hR 1 (by decide)
    have e2 := hR 2 (by decide)
    refine zce [1, 2] [1, 2] rfl (zaq (sk 13 (congrArg some e1.1) (sk 14 (congrArg some e2.1) (zab _))) (List.sublist_append_right _ _) ?_)
    exact zbi (riQ 3 rfl rfl rfl rfl (zap hv))
   ·
    intro vf pf hmu hR
    have e3 := hR 3 (by decide)
    refine zce [3] [3] rfl (zaq (sk 15 (congrArg some e3.1) (zab _)) (List.sublist_append_right _ _) ?_)
    exact zbi (zde (k0 := 0) rfl rfl rfl (zap hv) (by omega))
   ·
    intro vf pf hmu hR
    have e4 := hR 4 (by decide)
    refine zce [4] [4] rfl (zaq (sk 16 (congrArg some e4.1) (zab _)) (List.sublist_append_right _ _) ?_)
    exact zbi (zba (u := .int .i64 ((ss.getD i sq0).kd)) rfl rfl rfl (zap hv) ((zef sqC 3 (fun _ => rfl) ss sq0 (show i < _ by omega) (by decide)).trans rfl))
   ·
    intro vf pf hmu hR
    refine zce [] [] rfl (zay (zae [0] rfl) ?_)
    exact zbi (zax rfl)
   ·
    intro vf pf hmu hR
    refine zce [] [] rfl (zay (zae [4] rfl) ?_)
    exact zbi (zax rfl)
   ·
    intro vf pf hmu hR
    have e6 := hR 6 (by decide)
    have e7 := hR 7 (by decide)
    refine zce [6, 7] [6, 7] rfl (zaq (sk 18 (congrArg some e6.1) (sk 19 (congrArg some e7.1) (zab _))) (List.sublist_append_right _ _) ?_)
    exact zbi (riQ 3 rfl rfl rfl rfl (zap hv))
   ·
    intro vf pf hmu hR
    have e8 := hR 8 (by decide)
    refine zce [8] [8] rfl (zaq (sk 20 (congrArg some e8.1) (zab _)) (List.sublist_append_right _ _) ?_)
    exact zbi (zde (k0 := 1) rfl rfl rfl (zap hv) (by omega))
   ·
    intro vf pf hmu hR
    have e9 := hR 9 (by decide)
    refine zce [9] [9] rfl (zaq (sk 21 (congrArg some e9.1) (zab _)) (List.sublist_append_right _ _) ?_)
    exact zbi (zba (u := .int .i64 ((ss.getD i sq0).it)) rfl rfl rfl (zap hv) ((zef sqC 3 (fun _ => rfl) ss sq0 (show i < _ by omega) (by decide)).trans rfl))
   ·
    intro vf pf hmu hR
    refine zce [] [] rfl (zaq (zab _) (List.sublist_append_right _ _) ?_)
    exact zds (s := 1) rfl Try.underlying48 rfl
   ·
    intro vf pf hmu hR
    refine zce [] [] rfl (zay (zae [0] rfl) ?_)
    exact zbi (zax rfl)
   ·
    intro vf pf hmu hR
    refine zce [] [] rfl (zay (zae [4] rfl) ?_)
    exact zbi (zax rfl)
   ·
    intro vf pf hmu hR
    have e12 := hR 12 (by decide)
    have e13 := hR 13 (by decide)
    refine zce [12, 13] [12, 13] rfl (zaq (sk 24 (congrArg some e12.1) (sk 25 (congrArg some e13.1) (zab _))) (List.sublist_append_right _ _) ?_)
    exact zbi (riQ 3 rfl rfl rfl rfl (zap hv))
   ·
    intro vf pf hmu hR
    have e14 := hR 14 (by decide)
    refine zce [14] [14] rfl (zaq (sk 26 (congrArg some e14.1) (zab _)) (List.sublist_append_right _ _) ?_)
    exact zbi (zde (k0 := 2) rfl rfl rfl (zap hv) (by omega))
   ·
    intro vf pf hmu hR
    have e15 := hR 15 (by decide)
    refine zce [15] [15] rfl (zaq (sk 27 (congrArg some e15.1) (zab _)) (List.sublist_append_right _ _) ?_)
    exact zbi (zba (u := (ss.getD i sq0).iv) rfl rfl rfl (zap hv) ((zef sqC 3 (fun _ => rfl) ss sq0 (show i < _ by omega) (by decide)).trans rfl))
   ·
    intro vf pf hmu hR
    have e11 : IsRow 3 1 0 ([]) (vf 11) (pf 11) := hR 11 (by decide)
    obtain ⟨g4, vE11, pE11⟩ := e11
    have e16 := hR 16 (by decide)
    refine Or.inl ⟨rfl, ?_⟩
    show RunM _ _ _ (pf 11) (([16] : List Nat).flatMap pf ++ _) (envOf3 _ vf [11, 16] ++ _) _ _
    rw [pE11]; rw [vE11]
    exact zbx (sk 23 (congrArg some vE11) (sk 28 (congrArg some e16.1) (zab _))) (by simp only [e16.2, fS] <;> rfl) (rm_append (d := 0) (z := .int .i64 0) (bytes := 8) (n' := ((ss.getD i sq0).xs).length) (xs' := (((ss.getD i sq0).xs).map (Value.int .i64))) rfl Try.underlying48 rfl rfl rfl rfl (zap (hx.at (k := i) (by omega))) (zcj _) (by first | omega | (simp; done) | (simp; omega)) (Nat.zero_add _) (List.nil_append _))
   ·
    intro vf pf hmu hR
    have e5 := hR 5 (by decide)
    have e10 := hR 10 (by decide)
    have e17 : (∃ pm_, (pf 17) = [pm_] ∧ (fun u_ p_ => p_ = rowE 3 1 u_ (((ss.getD i sq0).xs).length) (((ss.getD i sq0).xs).map (Value.int .i64))) (vf 17) pm_) := hR 17 (by decide)
    obtain ⟨p6, pE17, hR7⟩ := e17
    obtain ⟨v5, vE17⟩ : ∃ x, vf 17 = x := ⟨_, rfl⟩
    rw [vE17] at hR7
    subst hR7
    refine zce [5, 10, 17] [5, 10, 17] rfl (zbg (sk 17 (congrArg some e5.1) (sk 22 (congrArg some e10.1) (sk 29 (congrArg some vE17) (zab _)))) (by simp only [pE17, vE17, e5.2, e10.2, fS] <;> rfl) ?_)
    exact zbo (zbi (zge (cs := #[.int .i64 ((ss.getD i sq0).kd), .int .i64 ((ss.getD i sq0).it), v5]) rfl rfl (fun w hm => built_seqH ((ss.getD i sq0).kd) ((ss.getD i sq0).it) v5 ((zao 0 rfl w hm).one)))) (fun _ _ h => ⟨h.1.trans (by show _ = (.agg #[.int .i64 ((ss.getD i sq0).kd), .int .i64 ((ss.getD i sq0).it), (vf 17)] : Value); first | (rw [vE17]; done) | (rw [vE17]; rfl)), h.2⟩)
   intro vf pf hmu hR
   have e17 : (∃ pm_, (pf 17) = [pm_] ∧ (fun u_ p_ => p_ = rowE 3 1 u_ (((ss.getD i sq0).xs).length) (((ss.getD i sq0).xs).map (Value.int .i64))) (vf 17) pm_) := hR 17 (by decide)
   obtain ⟨p6, pE17, hR7⟩ := e17
   obtain ⟨v5, vE17⟩ : ∃ x, vf 17 = x := ⟨_, rfl⟩
   rw [vE17] at hR7
   subst hR7
   have e18 : (vf 18) = .agg #[.int .i64 ((ss.getD i sq0).kd), .int .i64 ((ss.getD i sq0).it), (vf 17)] ∧ (pf 18) = [] := hR 18 (by decide)
   rw [vE17] at e18
   refine zce [17, 18] [17, 18] rfl (zbg (sk 30 (congrArg some e18.1) (zab _)) (by simp only [pE17, vE17, e18.2, fS] <;> rfl) ?_)
   exact zbo (zas (z := .agg #[.int .i64 0, .int .i64 0, .slice none 0 0]) (s := 3) (cs := [.int .i64 ((ss.getD i sq0).kd), .int .i64 ((ss.getD i sq0).it), v5]) rfl Try.underlying67 rfl (by decide) rfl (by kernel_rfl) rfl) (fun v_ p_ h => by show IsRow 143 3 1 ([.int .i64 ((ss.getD i sq0).kd), .int .i64 ((ss.getD i sq0).it), (vf 17)]) v_ p_; rw [vE17]; exact h)
  intro vf pf hmu hR
  have e0 := hR 0 (by decide)
  have e11 : IsRow 3 1 0 ([]) (vf 11) (pf 11) := hR 11 (by decide)
  obtain ⟨g4, vE11, pE11⟩ := e11
  have e17 : (∃ pm_, (pf 17) = [pm_] ∧ (fun u_ p_ => p_ = rowE 3 1 u_ (((ss.getD i sq0).xs).length) (((ss.getD i sq0).xs).map (Value.int .i64))) (vf 17) pm_) := hR 17 (by decide)
  obtain ⟨p6, pE17, hR7⟩ := e17
  obtain ⟨v5, vE17⟩ : ∃ x, vf 17 = x := ⟨_, rfl⟩
  rw [vE17] at hR7
  subst hR7
  have e19 : IsRow 143 3 1 ([.int .i64 ((ss.getD i sq0).kd), .int .i64 ((ss.getD i sq0).it), (vf 17)]) (vf 19) (pf 19) := hR 19 (by decide)
  rw [vE17] at e19
  obtain ⟨g8, vE19, pE19⟩ := e19
  have q0 := hR 0 (by decide)
  have q1 := hR 1 (by decide)
  have q2 := hR 2 (by decide)
  have q3 := hR 3 (by decide)
  have q4 := hR 4 (by decide)
  have q5 := hR 5 (by decide)
  have q6 := hR 6 (by decide)
  have q7 := hR 7 (by decide)
  have q8 := hR 8 (by decide)
  have q9 := hR 9 (by decide)
  have q10 := hR 10 (by decide)
  have q12 := hR 12 (by decide)
  have q13 := hR 13 (by decide)
  have q14 := hR 14 (by decide)
  have q15 := hR 15 (by decide)
  have q16 := hR 16 (by decide)
  have q18 := hR 18 (by decide)
  refine zcd (zbs [9, 4, 3, 2, 0] _ (sk 12 (congrArg some e0.1) (sk 31 (congrArg some vE19) (zab _))) rfl) (by simp only [pE17, vE17, pE19, vE19, q0.2, q1.2, q2.2, q3.2, q4.2, q5.2, q6.2, q7.2, q8.2, q9.2, q10.2, q12.2, q13.2, q14.2, q15.2, q16.2, q18.2, fS] <;> rfl) ?_
  simp only [List.drop_succ_cons, List.drop_zero]
  refine zcr (i := 0) rfl (fun ho9 => ?_)
  refine zdc (i := 3) (z := .agg #[.int .i64 0, .int .i64 0, .slice none 0 0]) (bytes := 40) rfl rfl rfl rfl Try.underlying67 (by kernel_rfl) rfl rfl rfl rfl (zao 1 rfl) (zaa rfl (zaa rfl (zaa ho9 zbe))) (by first | omega | (simp only [List.length_append, List.length_cons, List.length_nil]; omega)) (zco zs [(Sq.mk ((ss.getD i sq0).kd) ((ss.getD i sq0).it) v5 (ss.getD i sq0).xs)]) (zei sqC zs (Sq.mk ((ss.getD i sq0).kd) ((ss.getD i sq0).it) v5 (ss.getD i sq0).xs) _ rfl) (fun _ => rfl) ?_
  intro v10
  refine enQ 1 rfl (zdn (reQ 1 rfl (hvQ rfl (vaQ rfl rfl rfl) (enQ 1 rfl ?_))))
  refine zaz 4 [3, 0, 2] rfl rfl (by decide) ?_
  refine zbk 2 rfl ?_
  exact hq_round4 (i + 1) (zs ++ [(Sq.mk ((ss.getD i sq0).kd) ((ss.getD i sq0).it) v5 (ss.getD i sq0).xs)]) v10 [bigE ps, rowE 3 1 v5 (((ss.getD i sq0).xs).length) (((ss.getD i sq0).xs).map (Value.int .i64))] ⟨by omega, by rw [List.map_append, hz, zen sq0 (show i < ss.length by omega), List.map_append]; rfl, fun w hw => (hps w (zau hw List.mem_cons_self)).app (zbh (zau hw (List.mem_cons_of_mem _ List.mem_cons_self)))⟩ (by omega) (saQ rfl) (pfQ rfl)
 refine ntQ (zal rfl ?_)
 refine zby (zes ?_)
 refine zat (zaw (zbn 2 rfl ?_))
 refine zak (zaz 2 [0, 1] rfl rfl (by decide) ?_)
 exact zev (post := [rS9 143 3 gu zs sqC, bigE ps]) rfl rfl (.refl _) ⟨_, zs, rfl, hps, by rw [hz, List.take_of_length_le (by omega)]⟩
theorem l08CopyG_ret (n : Nt) (w : World) (hr : RdsNt w n) (qs1 : n.ss.length ≤ 20) (qa1 : n.gs.length ≤ 400) (qo1 : n.os.length ≤ 40) (q4 : ∀ s ∈ n.ss, s.xs.length ≤ 4) :
   Calls Try.prog 90 #[.agg #[.int .i64 n.ins, n.sv, n.av, n.ov]] w (Ret w (fun u_ p_ => ∃ (ps : List HP) (m : Nt), u_ = m.agg ∧ p_ = [rS9 143 3 m.sv m.ss sqC, rS9 141 2 m.av m.gs anC, bigE ps] ∧ (∀ w, (bigE ps).holds w → RdsSqs w m.ss ∧ RdsW w m.ov 1 m.os.length (m.os.map (Value.int .i64))) ∧ (m.sv.oneCell' = true ∧ m.ov.oneCell' = true) ∧ CopyOf n m)) := by
 have hcnt : n.cnt = 1 + n.ins + n.ss.length + n.gs.length := rfl
 have hfst : n.fst = 1 + n.ins + n.ss.length := rfl
 refine zbq (N := 17) (args := [.agg #[.int .i64 n.ins, n.sv, n.av, n.ov]]) Try.func90 rfl rfl (srQ ?_)
 refine zed rfl (zdh rfl rfl) ?_
 intro b1
 refine zed rfl (zcc (z := .agg #[.int .i64 0, .slice none 0 0, .slice none 0 0, .slice none 0 0]) rfl rfl) ?_
 intro b2
 refine ntQ (zac ?_)
 refine zdq (l := [eB9 b2, nB9 b1 n]) rfl 13 [0, 1, 2, 3, 4, 5, 6, 7, 8, 9, 10, 11, 12] (List.take 13 _) (List.drop 13 _) [[], [0], [], [2], [3], [], [], [6], [5, 7], [], [], [10], [9, 11]] [some 3, some 4, some 5, some 6, some 7, some 8, some 9, some 10, some 11, some 12, some 13, some 14, some 15] (fun i_ vs_ v_ p_ => match i_ with | 0 => v_ = .pointer (some ⟨b1, 0 + 0, none⟩) ∧ p_ = [] | 1 => v_ = .int .i64 n.ins ∧ p_ = [] | 2 => v_ = .pointer (some ⟨b1, 0 + 1, none⟩) ∧ p_ = [] | 3 => v_ = n.sv ∧ p_ = [] | 4 => (fun u_ p_ => ∃ (ps : List HP) (zs : List Sq), p_ = [rS9 143 3 u_ zs sqC, bigE ps] ∧ (∀ w, (bigE ps).holds w → RdsSqs w zs) ∧ zs.map sqv = n.ss.map sqv) v_ p_ | 5 => IsRow 141 2 0 ([]) v_ p_ | 6 => v_ = .pointer (some ⟨b1, 0 + 2, none⟩) ∧ p_ = [] | 7 => v_ = n.av ∧ p_ = [] | 8 => (∃ pm_, p_ = [pm_] ∧ (fun u_ p_ => p_ = rS9 141 2 u_ n.gs anC) v_ pm_) | 9 => IsRow 3 1 0 ([]) v_ p_ | 10 => v_ = .pointer (some ⟨b1, 0 + 3, none⟩) ∧ p_ = [] | 11 => v_ = n.ov ∧ p_ = [] | 12 => (∃ pm_, p_ = [pm_] ∧ (fun u_ p_ => p_ = rI9 3 u_ n.os) v_ pm_) | _ => True) [[], [0], [], [2], [3], [], [], [6], [7], [], [], [10], [11]] [none, none, none, none, none, none, none, none, some 5, none, none, none, some 9] [] [0, 1, 2, 3, 4, 6, 7, 8, 10, 11, 12] 15 (List.take_append_drop 13 _).symm (by kernel_rfl) (by kernel_rfl) (by kernel_rfl) rfl rfl ?_ ?_
 ·
  refine ⟨?_, ?_, ?_, ?_, ?_, ?_, ?_, ?_, ?_, ?_, ?_, ?_, ?_, trivial⟩
  ·
   intro vf pf hmu hR
   refine zce [] [] rfl (zay (zae [1] rfl) ?_)
   exact zbi (fdQ 0 rfl rfl rfl)
  ·
   intro vf pf hmu hR
   have e0 := hR 0 (by decide)
   refine zce [0] [0] rfl (zaq (sk 3 (congrArg some e0.1) (zab _)) (List.sublist_append_right _ _) ?_)
   exact zbi (zan rfl rfl rfl (zai 1 rfl rfl))
  ·
   intro vf pf hmu hR
   refine zce [] [] rfl (zay (zae [1] rfl) ?_)
   exact zbi (fdQ 1 rfl rfl rfl)
  ·
   intro vf pf hmu hR
   have e2 := hR 2 (by decide)
   refine zce [2] [2] rfl (zaq (sk 5 (congrArg some e2.1) (zab _)) (List.sublist_append_right _ _) ?_)
   exact zbi (zan rfl rfl rfl (zai 1 rfl rfl))
  ·
   intro vf pf hmu hR
   have e3 := hR 3 (by decide)
   refine zce [3] [3] rfl (zaq (sk 6 (congrArg some e3.1) (zab _)) (List.sublist_append_right _ _) ?_)
   exact zam rfl rfl (fun w hm => l08CopySeqs_ret n.ss _ w (hr.sq.below hm.bel) (fun s hs => (hr.xs s hs).below hm.bel) qs1 q4)
  ·
   intro vf pf hmu hR
   refine zce [] [] rfl (zaq (zab _) (List.sublist_append_right _ _) ?_)
   exact zds (s := 2) rfl Try.underlying68 rfl
  ·
   intro vf pf hmu hR
   refine zce [] [] rfl (zay (zae [1] rfl) ?_)
   exact zbi (fdQ 2 rfl rfl rfl)
  ·
   intro vf pf hmu hR
   have e6 := hR 6 (by decide)
   refine zce [6] [6] rfl (zaq (sk 9 (congrArg some e6.1) (zab _)) (List.sublist_append_right _ _) ?_)
   exact zbi (zan rfl rfl rfl (zai 1 rfl rfl))
  ·
   intro vf pf hmu hR
   have e5 : IsRow 141 2 0 ([]) (vf 5) (pf 5) := hR 5 (by decide)
   obtain ⟨g6, vE5, pE5⟩ := e5
   have e7 := hR 7 (by decide)
   refine Or.inl ⟨rfl, ?_⟩
   show RunM _ _ _ (pf 5) (([7] : List Nat).flatMap pf ++ _) (envOf3 _ vf [5, 7] ++ _) _ _
   rw [pE5]; rw [vE5]
   exact zbx (sk 8 (congrArg some vE5) (sk 10 (congrArg some e7.1) (zab _))) (by simp only [e7.2, fS] <;> rfl) (rm_append (d := 0) (z := .agg #[.int .i64 0, .int .i64 0]) (bytes := 16) (n' := n.gs.length) (xs' := (n.gs.flatMap anC)) rfl Try.underlying68 rfl rfl rfl rfl (zap hr.an) (flat_onesH anC n.gs (fun r u hu => by simp [anC] at hu; first | (subst hu; rfl) | (rcases hu with rfl | rfl <;> rfl) | (rcases hu with rfl | rfl | rfl <;> rfl) | (rcases hu with rfl | rfl | rfl | rfl <;> rfl))) (by first | omega | (simp only [List.length_take, List.length_drop]; omega)) (Nat.zero_add _) (List.nil_append _))
  ·
   intro vf pf hmu hR
   refine zce [] [] rfl (zaq (zab _) (List.sublist_append_right _ _) ?_)
   exact zds (s := 1) rfl Try.underlying48 rfl
  ·
   intro vf pf hmu hR
   refine zce [] [] rfl (zay (zae [1] rfl) ?_)
   exact zbi (fdQ 3 rfl rfl rfl)
  ·
   intro vf pf hmu hR
   have e10 := hR 10 (by decide)
   refine zce [10] [10] rfl (zaq (sk 13 (congrArg some e10.1) (zab _)) (List.sublist_append_right _ _) ?_)
   exact zbi (zan rfl rfl rfl (zai 1 rfl rfl))
  intro vf pf hmu hR
  have e9 : IsRow 3 1 0 ([]) (vf 9) (pf 9) := hR 9 (by decide)
  obtain ⟨g10, vE9, pE9⟩ := e9
  have e11 := hR 11 (by decide)
  refine Or.inl ⟨rfl, ?_⟩
  show RunM _ _ _ (pf 9) (([11] : List Nat).flatMap pf ++ _) (envOf3 _ vf [9, 11] ++ _) _ _
  rw [pE9]; rw [vE9]
  exact zbx (sk 12 (congrArg some vE9) (sk 14 (congrArg some e11.1) (zab _))) (by simp only [e11.2, fS] <;> rfl) (rm_append (d := 0) (z := .int .i64 0) (bytes := 8) (n' := n.os.length) (xs' := (n.os.map (Value.int .i64))) rfl Try.underlying48 rfl rfl rfl rfl (zap hr.ou) (zcj _) (by first | omega | (simp; done) | (simp; omega)) (Nat.zero_add _) (List.nil_append _))
 intro vf pf hmu hR
 have e1 := hR 1 (by decide)
 have e4 : (fun u_ p_ => ∃ (ps : List HP) (zs : List Sq), p_ = [rS9 143 3 u_ zs sqC, bigE ps] ∧ (∀ w, (bigE ps).holds w → RdsSqs w zs) ∧ zs.map sqv = n.ss.map sqv) (vf 4) (pf 4) := hR 4 (by decide)
 obtain ⟨v3, vE4⟩ : ∃ x, vf 4 = x := ⟨_, rfl⟩
 obtain ⟨p4, pE4⟩ : ∃ x, pf 4 = x := ⟨_, rfl⟩
 have hR5 := e4
 rw [vE4, pE4] at hR5
 obtain ⟨ps, zs, rfl, hps, hzs⟩ := hR5
 have e5 : IsRow 141 2 0 ([]) (vf 5) (pf 5) := hR 5 (by decide)
 obtain ⟨g6, vE5, pE5⟩ := e5
 have e8 : (∃ pm_, (pf 8) = [pm_] ∧ (fun u_ p_ => p_ = rS9 141 2 u_ n.gs anC) (vf 8) pm_) := hR 8 (by decide)
 obtain ⟨p8, pE8, hR9⟩ := e8
 obtain ⟨v7, vE8⟩ : ∃ x, vf 8 = x := ⟨_, rfl⟩
 rw [vE8] at hR9
 subst hR9
 have e9 : IsRow 3 1 0 ([]) (vf 9) (pf 9) := hR 9 (by decide)
 obtain ⟨g10, vE9, pE9⟩ := e9
 have e12 : (∃ pm_, (pf 12) = [pm_] ∧ (fun u_ p_ => p_ = rI9 3 u_ n.os) (vf 12) pm_) := hR 12 (by decide)
 obtain ⟨p12, pE12, hR13⟩ := e12
 obtain ⟨v11, vE12⟩ : ∃ x, vf 12 = x := ⟨_, rfl⟩
 rw [vE12] at hR13
 subst hR13
 have q0 := hR 0 (by decide)
 have q1 := hR 1 (by decide)
 have q2 := hR 2 (by decide)
 have q3 := hR 3 (by decide)
 have q6 := hR 6 (by decide)
 have q7 := hR 7 (by decide)
 have q10 := hR 10 (by decide)
 have q11 := hR 11 (by decide)
 refine zcd (zbs [2, 1, 0] _ (sk 4 (congrArg some e1.1) (sk 7 (congrArg some vE4) (sk 11 (congrArg some vE8) (sk 15 (congrArg some vE12) (zab _))))) rfl) (by simp only [pE4, vE4, pE8, vE8, pE12, vE12, q0.2, q1.2, q2.2, q3.2, q6.2, q7.2, q10.2, q11.2, fS] <;> rfl) ?_
 simp only [List.drop_succ_cons, List.drop_zero]
 refine hvQ rfl (zge (cs := #[.int .i64 n.ins, v3, v7, v11]) rfl rfl (fun w hm => built_netH n.ins v3 v7 v11 ((zao 0 rfl w hm).one) ((zao 2 rfl w hm).one) ((zao 3 rfl w hm).one))) (zcr (i := 3) rfl (fun ho14 => ?_))
 refine zcr (i := 2) rfl (fun ho15 => ?_)
 refine zcr (i := 0) rfl (fun ho16 => ?_)
 refine zbm (cs' := #[.int .i64 n.ins, v3, v7, v11]) (i := 4) (off := 0) (us := [.int .i64 n.ins, v3, v7, v11]) rfl rfl rfl rfl rfl rfl rfl (zaa rfl (zaa ho16 (zaa ho15 (zaa ho14 zbe)))) rfl rfl rfl (ntQ ?_)
 refine zak (zbw (fun w hm => (zao 0 rfl w hm).one) (fun ho1 => ?_))
 refine zbw (fun w hm => (zao 3 rfl w hm).one) (fun ho2 => ?_)
 refine zaz 6 [4, 2, 0, 3, 1] rfl rfl (by decide) ?_
 refine zbk 2 rfl ?_
 refine zaz 4 [3, 0, 2, 1] rfl rfl (by decide) ?_
 exact zca (rs := [.cell 2 70]) (vs := [.agg #[.int .i64 n.ins, v3, v7, v11]]) (post := [rS9 143 3 v3 zs sqC, rS9 141 2 v7 n.gs anC, bigE [bigE ps, rI9 3 v11 n.os]]) rfl ⟨⟨b2, 0, [.int .i64 n.ins, v3, v7, v11], rfl, rfl, by kernel_rfl, by kernel_rfl, zah 3 rfl 0 rfl⟩, trivial⟩ rfl (slQ [0, 0, 0] rfl) ⟨_, (Nt.mk n.ins v3 v7 v11 zs n.gs n.os), rfl, rfl, fun w hw => ⟨hps w (zau hw List.mem_cons_self), zbh (zau hw (List.mem_cons_of_mem _ List.mem_cons_self))⟩, ⟨ho1, ho2⟩, ⟨rfl, rfl, rfl, hzs⟩⟩
theorem zfm (n : Nt) (w : World) (hr : RdsNt w n) (hn : NtOk n) : Calls Try.prog 90 #[.agg #[.int .i64 n.ins, n.sv, n.av, n.ov]] w (Ret w (fun u_ p_ => ∃ (ps : List HP) (m : Nt), u_ = m.agg ∧ p_ = [rS9 143 3 m.sv m.ss sqC, rS9 141 2 m.av m.gs anC, bigE ps] ∧ (∀ w, (bigE ps).holds w → RdsSqs w m.ss ∧ RdsW w m.ov 1 m.os.length (m.os.map (Value.int .i64))) ∧ (m.sv.oneCell' = true ∧ m.ov.oneCell' = true) ∧ CopyOf n m)) :=
  l08CopyG_ret n w hr (by have := hn.s1; omega) (by have := hn.a1; omega) (by have := hn.o1; omega) (fun s hs => (hn.sq s hs).len)
structure CpS (n m : Nt) : Prop where
  ins : m.ins = n.ins
  os : m.os = n.os
  ss : m.ss.map sqv = n.ss.map sqv
def OpS (n m : Nt) (o : Option (List An × Int)) (z : Int) : Prop := o = some (m.gs, z) ∨ (o = none ∧ z < 0 ∧ m.gs = n.gs)
theorem CopyOf.cps {n m : Nt} (h : CopyOf n m) : CpS n m := ⟨h.ins, h.os, h.ss⟩
theorem ops_no {n m : Nt} {o : Option (List An × Int)} {z : Int} (h : CopyOf n m) (e : o = none) (hz : z < 0) : OpS n m o z := .inr ⟨e, hz, h.gs⟩
theorem ops_as {n m : Nt} {o : Option (List An × Int)} {z : Int} (h : CopyOf n m) (e : o = some (n.gs, z)) : OpS n m o z := .inl (by rw [e, h.gs])
theorem xr_sym {x y : Int} (hx : 0 ≤ x) (hy : 0 ≤ y) : xr x = y ↔ x = xr y := ⟨fun h => by rw [← h, xr_xr hx], fun h => by rw [h, xr_xr hy]⟩
theorem lt_div {x m : Int} : LtOk x m ↔ 0 ≤ x ∧ x / 2 < m := by unfold LtOk; omega
theorem zea (x m : Int) (w : World) (hx : x ≤ 9223372036854775807) :
   Calls Try.prog 91 #[.int .i64 x, .int .i64 m] w (Ans w (.bool (decide (LtOk x m)))) := by
 refine zbq (N := 13) (args := [.int .i64 x, .int .i64 m]) Try.func91 rfl rfl (zbn 1 rfl (zac (reQ 1 rfl ?_)))
 refine zfw rfl rfl rfl rfl rfl rfl (fun h1 => ?_) (fun h1 => ?_)
 ·
  refine zag 2 rfl (hvQ rfl (rv_quo rfl rfl rfl (by refine ⟨?_, ?_, ?_⟩ <;> omega)) ?_)
  refine zag 1 rfl (zcb rfl rfl rfl rfl rfl rfl (fun h2 => ?_) (fun h2 => ?_))
  ·
   refine zbc 2 rfl ?_
   exact zak (zbl rfl rfl (congrArg _ (decide_eq_true (lt_div.2 (by omega))).symm))
  refine zbc 2 rfl ?_
  exact zak (zbl rfl rfl (congrArg _ (decide_eq_false (fun h9 => by have h8 := lt_div.1 h9; omega)).symm))
 refine zbc 7 rfl ?_
 exact zak (zbl rfl rfl (congrArg _ (decide_eq_false (fun h9 => by have h8 := lt_div.1 h9; omega)).symm))
theorem AddAndX_ret (n : Nt) (x y : Int) (w : World) (hr : RdsNt w n) (hn : NtOk n) (hxb : x < 4294967296) (hyb : y < 4294967296) :
   Calls Try.prog 161 #[.agg #[.int .i64 n.ins, n.sv, n.av, n.ov], .int .i64 x, .int .i64 y] w (Ret w (fun u_ p_ => ∃ (ps : List HP) (m : Nt) (z : Int), u_ = .tuple #[m.agg, .int .i64 z] ∧ p_ = [bigE ps] ∧ (∀ w, (bigE ps).holds w → RdsNt w m) ∧ (m.sv.oneCell' = true ∧ m.av.oneCell' = true ∧ m.ov.oneCell' = true) ∧ CpS n m ∧ OpS n m (andO n.fst n.gs x y) z)) := by
 have hi0 := hn.i0
 have hi1 := hn.i1
 have hs1 := hn.s1
 have ha1 := hn.a1
 have ho1 := hn.o1
 have hcnt : n.cnt = 1 + n.ins + n.ss.length + n.gs.length := rfl
 have hfst : n.fst = 1 + n.ins + n.ss.length := rfl
 have hmx : (if x < y then y else x) = max x y := by split <;> omega
 refine zbq (N := 99) (args := [.agg #[.int .i64 n.ins, n.sv, n.av, n.ov], .int .i64 x, .int .i64 y]) Try.func161 rfl rfl (srQ ?_)
 refine zed rfl (zdh rfl rfl) ?_
 intro b1
 refine zed rfl (zcc (z := .agg #[.int .i64 0, .slice none 0 0, .slice none 0 0, .slice none 0 0]) rfl rfl) ?_
 intro b2
 refine zbc 1 rfl (srQ (hvQ rfl (zar (cs := [.int .i64 n.ins, n.sv, n.av, n.ov]) rfl rfl rfl rfl rfl (zah 1 rfl 0 rfl)) ?_))
 refine zfg rfl rfl rfl (zam rfl rfl (fun w hm => zfm n w (hr.below hm.bel) hn)) ?_
 intro v3 p4 hR5
 obtain ⟨ps, m, rfl, rfl, hps, ⟨o1m, o3m⟩, hcp⟩ := hR5
 have hmg : m.gs.length = n.gs.length := by rw [hcp.gs]
 refine zed rfl (zcc (z := .agg #[.int .i64 0, .slice none 0 0, .slice none 0 0, .slice none 0 0]) rfl rfl) ?_
 intro b6
 refine zcr (i := 2) rfl (fun ho7 => ?_)
 refine zbm (cs' := #[.int .i64 m.ins, m.sv, m.av, m.ov]) (i := 0) (off := 0) (us := [.int .i64 m.ins, m.sv, m.av, m.ov]) rfl rfl rfl rfl rfl rfl rfl (zaa rfl (zaa o1m (zaa ho7 (zaa o3m zbe)))) rfl rfl rfl (ntQ (srQ (hvQ rfl (zar (cs := [.int .i64 n.ins, n.sv, n.av, n.ov]) rfl rfl rfl rfl rfl (zah 5 rfl 0 rfl)) ?_)))
 refine zdu rfl (zam rfl rfl (fun w hm => zbb (zeg n w (hr.below hm.bel) hn))) (zbc 1 rfl (zgk (hvQ rfl (zar (cs := [.int .i64 n.ins, n.sv, n.av, n.ov]) rfl rfl rfl rfl rfl (zah 5 rfl 0 rfl)) ?_)))
 refine zdu rfl (zam rfl rfl (fun w hm => zbb (zfx n w (hr.below hm.bel) hn))) (zag 4 rfl ?_)
 refine zdu rfl (zam rfl rfl (fun w hm => zbb (zea x n.cnt w (by omega)))) (zbz (fun h8 => ?_) (fun h8 => ?_))
 ·
  have hx := of_decide_eq_true h8
  obtain ⟨hx0, hx1⟩ := id hx
  refine zag 5 rfl (zdu rfl (zam rfl rfl (fun w hm => zbb (zea y n.cnt w (by omega)))) ?_)
  refine zbz (fun h9 => ?_) (fun h9 => ?_)
  ·
   have hy := of_decide_eq_true h9
   obtain ⟨hy0, hy1⟩ := id hy
   refine zbc 2 rfl (zal rfl (zdb (zac (zac (reQ 1 rfl ?_)))))
   refine zbj rfl rfl rfl rfl rfl rfl (fun h10 => ?_) (fun h10 => ?_)
   ·
    refine zbc 10 rfl (zaj rfl (srQ (hvQ rfl (zar (cs := [.int .i64 m.ins, m.sv, m.av, m.ov]) rfl rfl rfl rfl rfl (zah 0 rfl 0 rfl)) ?_)))
    refine zbm (cs' := #[.int .i64 m.ins, m.sv, m.av, m.ov]) (i := 4) (off := 0) (us := [.int .i64 m.ins, m.sv, m.av, m.ov]) rfl rfl rfl rfl rfl rfl rfl (zaa rfl (zaa o1m (zaa ho7 (zaa o3m zbe)))) rfl rfl rfl (zbc 1 rfl ?_)
    refine zak (zad ?_)
    have hgp : CpS n (m) ∧ OpS n (m) (andO n.fst n.gs x y) (0) := ⟨hcp.cps, ops_as hcp (zgv hx hy (by first | exact .inl (by omega) | exact .inr (.inl (by omega)) | exact .inr (.inr ((xr_sym hx0 hy0).2 (by omega)))))⟩
    refine zbw (fun w hm => (zao 2 rfl w hm).one) (fun ho2 => ?_)
    refine zaz 6 [4, 2, 3, 1] rfl rfl (by decide) ?_
    refine zbk 3 rfl ?_
    exact zca (rs := [.cell 6 70, .tmp 7]) (vs := [.agg #[.int .i64 m.ins, m.sv, m.av, m.ov], .int .i64 0]) (post := [bigE [rS9 143 3 m.sv m.ss sqC, bigE ps, rS9 141 2 m.av m.gs anC]]) rfl ⟨⟨b2, 0, [.int .i64 m.ins, m.sv, m.av, m.ov], rfl, rfl, by kernel_rfl, by kernel_rfl, zah 1 rfl 0 rfl⟩, rfl, trivial⟩ rfl (slQ [0] rfl) ⟨_, m, _, rfl, rfl, fun w hw => ⟨zbh (zau hw List.mem_cons_self), (hps w (zau hw (List.mem_cons_of_mem _ List.mem_cons_self))).1, zbh (zau hw (List.mem_cons_of_mem _ (List.mem_cons_of_mem _ List.mem_cons_self))), (hps w (zau hw (List.mem_cons_of_mem _ List.mem_cons_self))).2⟩, ⟨o1m, ho2, o3m⟩, hgp.1, hgp.2⟩
   refine zag 2 rfl (zbj rfl rfl rfl rfl rfl rfl (fun h11 => ?_) (fun h11 => ?_))
   ·
    refine zbc 7 rfl (zaj rfl (srQ (hvQ rfl (zar (cs := [.int .i64 m.ins, m.sv, m.av, m.ov]) rfl rfl rfl rfl rfl (zah 0 rfl 0 rfl)) ?_)))
    refine zbm (cs' := #[.int .i64 m.ins, m.sv, m.av, m.ov]) (i := 4) (off := 0) (us := [.int .i64 m.ins, m.sv, m.av, m.ov]) rfl rfl rfl rfl rfl rfl rfl (zaa rfl (zaa o1m (zaa ho7 (zaa o3m zbe)))) rfl rfl rfl (zbc 1 rfl ?_)
    refine zak (zad ?_)
    have hgp : CpS n (m) ∧ OpS n (m) (andO n.fst n.gs x y) (0) := ⟨hcp.cps, ops_as hcp (zgv hx hy (by first | exact .inl (by omega) | exact .inr (.inl (by omega)) | exact .inr (.inr ((xr_sym hx0 hy0).2 (by omega)))))⟩
    refine zbw (fun w hm => (zao 2 rfl w hm).one) (fun ho2 => ?_)
    refine zaz 6 [4, 2, 3, 1] rfl rfl (by decide) ?_
    refine zbk 3 rfl ?_
    exact zca (rs := [.cell 6 70, .tmp 7]) (vs := [.agg #[.int .i64 m.ins, m.sv, m.av, m.ov], .int .i64 0]) (post := [bigE [rS9 143 3 m.sv m.ss sqC, bigE ps, rS9 141 2 m.av m.gs anC]]) rfl ⟨⟨b2, 0, [.int .i64 m.ins, m.sv, m.av, m.ov], rfl, rfl, by kernel_rfl, by kernel_rfl, zah 1 rfl 0 rfl⟩, rfl, trivial⟩ rfl (slQ [0] rfl) ⟨_, m, _, rfl, rfl, fun w hw => ⟨zbh (zau hw List.mem_cons_self), (hps w (zau hw (List.mem_cons_of_mem _ List.mem_cons_self))).1, zbh (zau hw (List.mem_cons_of_mem _ (List.mem_cons_of_mem _ List.mem_cons_self))), (hps w (zau hw (List.mem_cons_of_mem _ List.mem_cons_self))).2⟩, ⟨o1m, ho2, o3m⟩, hgp.1, hgp.2⟩
   refine zag 4 rfl (hvQ rfl (zcl rfl (by decide) rfl rfl (r := xr y) (xor_xr hy0 (by omega))) ?_)
   refine zbj rfl rfl rfl rfl rfl rfl (fun h12 => ?_) (fun h12 => ?_)
   ·
    refine zbc 1 rfl (zaj rfl (srQ (hvQ rfl (zar (cs := [.int .i64 m.ins, m.sv, m.av, m.ov]) rfl rfl rfl rfl rfl (zah 0 rfl 0 rfl)) ?_)))
    refine zbm (cs' := #[.int .i64 m.ins, m.sv, m.av, m.ov]) (i := 4) (off := 0) (us := [.int .i64 m.ins, m.sv, m.av, m.ov]) rfl rfl rfl rfl rfl rfl rfl (zaa rfl (zaa o1m (zaa ho7 (zaa o3m zbe)))) rfl rfl rfl (zbc 1 rfl ?_)
    refine zak (zad ?_)
    have hgp : CpS n (m) ∧ OpS n (m) (andO n.fst n.gs x y) (0) := ⟨hcp.cps, ops_as hcp (zgv hx hy (by first | exact .inl (by omega) | exact .inr (.inl (by omega)) | exact .inr (.inr ((xr_sym hx0 hy0).2 (by omega)))))⟩
    refine zbw (fun w hm => (zao 2 rfl w hm).one) (fun ho2 => ?_)
    refine zaz 6 [4, 2, 3, 1] rfl rfl (by decide) ?_
    refine zbk 3 rfl ?_
    exact zca (rs := [.cell 6 70, .tmp 7]) (vs := [.agg #[.int .i64 m.ins, m.sv, m.av, m.ov], .int .i64 0]) (post := [bigE [rS9 143 3 m.sv m.ss sqC, bigE ps, rS9 141 2 m.av m.gs anC]]) rfl ⟨⟨b2, 0, [.int .i64 m.ins, m.sv, m.av, m.ov], rfl, rfl, by kernel_rfl, by kernel_rfl, zah 1 rfl 0 rfl⟩, rfl, trivial⟩ rfl (slQ [0] rfl) ⟨_, m, _, rfl, rfl, fun w hw => ⟨zbh (zau hw List.mem_cons_self), (hps w (zau hw (List.mem_cons_of_mem _ List.mem_cons_self))).1, zbh (zau hw (List.mem_cons_of_mem _ (List.mem_cons_of_mem _ List.mem_cons_self))), (hps w (zau hw (List.mem_cons_of_mem _ List.mem_cons_self))).2⟩, ⟨o1m, ho2, o3m⟩, hgp.1, hgp.2⟩
   refine zbc 1 rfl (zal rfl (zdb (zac (zac (reQ 1 rfl ?_)))))
   refine zbj rfl rfl rfl rfl rfl rfl (fun h13 => ?_) (fun h13 => ?_)
   ·
    refine zbc 5 rfl (zaj rfl (srQ (hvQ rfl (zar (cs := [.int .i64 m.ins, m.sv, m.av, m.ov]) rfl rfl rfl rfl rfl (zah 0 rfl 0 rfl)) (zag 1 rfl ?_))))
    refine zbm (cs' := #[.int .i64 m.ins, m.sv, m.av, m.ov]) (i := 4) (off := 0) (us := [.int .i64 m.ins, m.sv, m.av, m.ov]) rfl rfl rfl rfl rfl rfl rfl (zaa rfl (zaa o1m (zaa ho7 (zaa o3m zbe)))) rfl rfl rfl (zbc 1 rfl ?_)
    refine zak (zad ?_)
    have hgp : CpS n (m) ∧ OpS n (m) (andO n.fst n.gs x y) (y) := ⟨hcp.cps, ops_as hcp (andO_b hx hy (by have hxy := xr_sym hx0 hy0; omega) (by omega))⟩
    refine zbw (fun w hm => (zao 2 rfl w hm).one) (fun ho2 => ?_)
    refine zaz 6 [4, 2, 3, 1] rfl rfl (by decide) ?_
    refine zbk 3 rfl ?_
    exact zca (rs := [.cell 6 70, .tmp 7]) (vs := [.agg #[.int .i64 m.ins, m.sv, m.av, m.ov], .int .i64 y]) (post := [bigE [rS9 143 3 m.sv m.ss sqC, bigE ps, rS9 141 2 m.av m.gs anC]]) rfl ⟨⟨b2, 0, [.int .i64 m.ins, m.sv, m.av, m.ov], rfl, rfl, by kernel_rfl, by kernel_rfl, zah 1 rfl 0 rfl⟩, rfl, trivial⟩ rfl (slQ [0] rfl) ⟨_, m, _, rfl, rfl, fun w hw => ⟨zbh (zau hw List.mem_cons_self), (hps w (zau hw (List.mem_cons_of_mem _ List.mem_cons_self))).1, zbh (zau hw (List.mem_cons_of_mem _ (List.mem_cons_of_mem _ List.mem_cons_self))), (hps w (zau hw (List.mem_cons_of_mem _ List.mem_cons_self))).2⟩, ⟨o1m, ho2, o3m⟩, hgp.1, hgp.2⟩
   refine zag 3 rfl (zbj rfl rfl rfl rfl rfl rfl (fun h14 => ?_) (fun h14 => ?_))
   ·
    refine zbc 1 rfl (zaj rfl (srQ (hvQ rfl (zar (cs := [.int .i64 m.ins, m.sv, m.av, m.ov]) rfl rfl rfl rfl rfl (zah 0 rfl 0 rfl)) (zag 1 rfl ?_))))
    refine zbm (cs' := #[.int .i64 m.ins, m.sv, m.av, m.ov]) (i := 4) (off := 0) (us := [.int .i64 m.ins, m.sv, m.av, m.ov]) rfl rfl rfl rfl rfl rfl rfl (zaa rfl (zaa o1m (zaa ho7 (zaa o3m zbe)))) rfl rfl rfl (zbc 1 rfl ?_)
    refine zak (zad ?_)
    have hgp : CpS n (m) ∧ OpS n (m) (andO n.fst n.gs x y) (y) := ⟨hcp.cps, ops_as hcp (andO_b hx hy (by have hxy := xr_sym hx0 hy0; omega) (by omega))⟩
    refine zbw (fun w hm => (zao 2 rfl w hm).one) (fun ho2 => ?_)
    refine zaz 6 [4, 2, 3, 1] rfl rfl (by decide) ?_
    refine zbk 3 rfl ?_
    exact zca (rs := [.cell 6 70, .tmp 7]) (vs := [.agg #[.int .i64 m.ins, m.sv, m.av, m.ov], .int .i64 y]) (post := [bigE [rS9 143 3 m.sv m.ss sqC, bigE ps, rS9 141 2 m.av m.gs anC]]) rfl ⟨⟨b2, 0, [.int .i64 m.ins, m.sv, m.av, m.ov], rfl, rfl, by kernel_rfl, by kernel_rfl, zah 1 rfl 0 rfl⟩, rfl, trivial⟩ rfl (slQ [0] rfl) ⟨_, m, _, rfl, rfl, fun w hw => ⟨zbh (zau hw List.mem_cons_self), (hps w (zau hw (List.mem_cons_of_mem _ List.mem_cons_self))).1, zbh (zau hw (List.mem_cons_of_mem _ (List.mem_cons_of_mem _ List.mem_cons_self))), (hps w (zau hw (List.mem_cons_of_mem _ List.mem_cons_self))).2⟩, ⟨o1m, ho2, o3m⟩, hgp.1, hgp.2⟩
   refine zbc 1 rfl (zal rfl (zdb (zac (zac (reQ 1 rfl ?_)))))
   refine zbj rfl rfl rfl rfl rfl rfl (fun h15 => ?_) (fun h15 => ?_)
   ·
    refine ntQ (zaj rfl (srQ (hvQ rfl (zar (cs := [.int .i64 m.ins, m.sv, m.av, m.ov]) rfl rfl rfl rfl rfl (zah 0 rfl 0 rfl)) (zag 1 rfl ?_))))
    refine zbm (cs' := #[.int .i64 m.ins, m.sv, m.av, m.ov]) (i := 4) (off := 0) (us := [.int .i64 m.ins, m.sv, m.av, m.ov]) rfl rfl rfl rfl rfl rfl rfl (zaa rfl (zaa o1m (zaa ho7 (zaa o3m zbe)))) rfl rfl rfl (zbc 1 rfl ?_)
    refine zak (zad ?_)
    have hgp : CpS n (m) ∧ OpS n (m) (andO n.fst n.gs x y) (x) := ⟨hcp.cps, ops_as hcp (andO_a hx hy (by have hxy := xr_sym hx0 hy0; omega) (by omega) (by omega))⟩
    refine zbw (fun w hm => (zao 2 rfl w hm).one) (fun ho2 => ?_)
    refine zaz 6 [4, 2, 3, 1] rfl rfl (by decide) ?_
    refine zbk 3 rfl ?_
    exact zca (rs := [.cell 6 70, .tmp 7]) (vs := [.agg #[.int .i64 m.ins, m.sv, m.av, m.ov], .int .i64 x]) (post := [bigE [rS9 143 3 m.sv m.ss sqC, bigE ps, rS9 141 2 m.av m.gs anC]]) rfl ⟨⟨b2, 0, [.int .i64 m.ins, m.sv, m.av, m.ov], rfl, rfl, by kernel_rfl, by kernel_rfl, zah 1 rfl 0 rfl⟩, rfl, trivial⟩ rfl (slQ [0] rfl) ⟨_, m, _, rfl, rfl, fun w hw => ⟨zbh (zau hw List.mem_cons_self), (hps w (zau hw (List.mem_cons_of_mem _ List.mem_cons_self))).1, zbh (zau hw (List.mem_cons_of_mem _ (List.mem_cons_of_mem _ List.mem_cons_self))), (hps w (zau hw (List.mem_cons_of_mem _ List.mem_cons_self))).2⟩, ⟨o1m, ho2, o3m⟩, hgp.1, hgp.2⟩
   refine ntQ (zal rfl (zdb (zac (reQ 2 rfl (hvQ rfl (rv_min rfl rfl rfl) (zag 2 rfl (hvQ rfl (rv_max rfl rfl rfl) (hvQ rfl (zct (cs := #[.int .i64 (min x y), .int .i64 (if x < y then y else x)]) rfl rfl rfl) ?_))))))))
   refine zed rfl (zcc (z := .agg #[.int .i64 0, .int .i64 0]) rfl rfl) ?_
   intro b16
   refine zbm (cs' := #[.int .i64 (min x y), .int .i64 (if x < y then y else x)]) (i := 0) (off := 0) (us := [.int .i64 (min x y), .int .i64 (if x < y then y else x)]) rfl rfl rfl rfl rfl rfl rfl (zaa rfl (zaa rfl zbe)) rfl rfl rfl (ntQ (zac (zbn 1 rfl (zbf ?_))))
   refine lkQ1 (α := Nat) [0, 1, 2, 3, 6, 7, 8, 9, 10, 30, 43, 51, 55] rfl (fun i => [boxE b16 #[.int .i64 (min x y), .int .i64 (if x < y then y else x)] 141, nB9 b6 m, rS9 143 3 m.sv m.ss sqC, rS9 141 2 m.av m.gs anC, bigE ps, eB9 b2, nB9 b1 n]) (fun i => [(11, .int .i64 (i : Int))]) (fun i => i ≤ n.gs.length ∧ ∀ q, q < i → ¬ ((n.gs.getD q an0).a = min x y ∧ (n.gs.getD q an0).b = max x y)) (fun i => n.gs.length - i) 0 ⟨Nat.zero_le _, fun q hq => absurd hq (Nat.not_lt_zero _)⟩ (saQ rfl) (pfQ rfl) ?_
   intro i hi17
   obtain ⟨hi, hno⟩ := hi17
   refine zac (zac (reQ 1 rfl (hvQ rfl (fdQ 2 rfl rfl rfl) (hvQ rfl (zan rfl rfl rfl (zai 6 rfl rfl)) (hvQ rfl (lnQ rfl rfl rfl (zap hr.an)) ?_)))))
   refine zcb rfl rfl rfl rfl rfl rfl (fun h18 => ?_) (fun h18 => ?_)
   ·
    refine ntQ (zaj rfl (zdb (sbQ (zac ?_))))
    rcases Bool.eq_false_or_eq_true (eqA ((n.gs.getD i an0).a) ((n.gs.getD i an0).b) (min x y) (if x < y then y else x)) with hb19 | hb19
    ·
     obtain ⟨hq1, hq2⟩ := eqA_yes hb19
     refine zdp 7 [[], [0], [], [1, 2], [3], [], [4, 5]] [72, 73, 74, 75, 76, 77, 78] [.pointer (some ⟨b1, 0 + 2, none⟩), n.av, .int .i64 (i : Int), elP n.av (((i : Int)).toNat * 2), .agg #[.int .i64 ((n.gs.getD i an0).a), .int .i64 ((n.gs.getD i an0).b)], .agg #[.int .i64 (min x y), .int .i64 (if x < y then y else x)], .bool true] (by kernel_rfl) rfl ?_ ?_
     ·
      exact ⟨iaQ rfl (fdQ 2 rfl rfl rfl) rfl, iaQ rfl (zan rfl rfl rfl (zai 6 rfl rfl)) rfl, iaQ rfl (zax rfl) rfl, iaQ rfl (riQ 2 rfl rfl rfl rfl (zap hr.an)) rfl, iaQ rfl (zda (us := [.int .i64 ((n.gs.getD i an0).a), .int .i64 ((n.gs.getD i an0).b)]) rfl rfl rfl rfl (zap hr.an) (by omega) rfl (zdt anC 2 (fun _ => rfl) n.gs an0 (show i < _ by omega) rfl)) rfl, iaQ rfl (zar (cs := [.int .i64 (min x y), .int .i64 (if x < y then y else x)]) rfl rfl rfl rfl rfl (zah 0 rfl 0 rfl)) rfl, .inl ⟨rfl, rq_vb (rv_eqAn rfl rfl rfl) hb19⟩, trivial⟩
     simp only [List.drop_succ_cons, List.drop_zero]
     refine ntQ (zaj rfl (zac ?_))
     refine zdo 7 [6, 4, 3, 2, 1, 0, 5] rfl rfl (by decide) ?_
     refine zdq (l := [boxE b16 #[.int .i64 (min x y), .int .i64 (if x < y then y else x)] 141, nB9 b6 m, rS9 143 3 m.sv m.ss sqC, rS9 141 2 m.av m.gs anC, bigE ps, nB9 b1 n]) rfl 7 [0, 1, 2, 3, 4, 5, 6] (List.take 7 _) (List.drop 7 _) [[], [], [1], [], [2, 3], [4], [0]] [some 79, some 80, some 81, some 82, some 83, some 84, none] (fun i_ vs_ v_ p_ => match i_ with | 0 => v_ = .agg #[.int .i64 m.ins, m.sv, m.av, m.ov] ∧ p_ = [] | 1 => v_ = .agg #[.int .i64 n.ins, n.sv, n.av, n.ov] ∧ p_ = [] | 2 => v_ = .int .i64 n.fst ∧ p_ = [] | 3 => v_ = .int .i64 (i : Int) ∧ p_ = [] | 4 => v_ = .int .i64 (n.fst + (i : Int)) ∧ p_ = [] | 5 => v_ = .int .i64 (2 * (n.fst + (i : Int))) ∧ p_ = [] | 6 => p_ = [nB9 b2 m] | _ => True) [[], [], [1], [], [2, 3], [4], [0]] [none, none, none, none, none, none, some 8] [[eB9 b2]] [0, 1, 2, 3, 4, 5, 6] 8 (List.take_append_drop 7 _).symm (by kernel_rfl) (by kernel_rfl) (by kernel_rfl) rfl rfl ?_ ?_
     ·
      refine ⟨?_, ?_, ?_, ?_, ?_, ?_, ?_, trivial⟩
      ·
       intro vf pf hmu hR
       refine zce [] [] rfl (zaq (zae [8] rfl) (List.sublist_append_right _ _) ?_)
       exact zbi (zar (cs := [.int .i64 m.ins, m.sv, m.av, m.ov]) rfl rfl rfl rfl rfl (zah 1 rfl 0 rfl))
      ·
       intro vf pf hmu hR
       refine zce [] [] rfl (zaq (zae [3] rfl) (List.sublist_append_right _ _) ?_)
       exact zbi (zar (cs := [.int .i64 n.ins, n.sv, n.av, n.ov]) rfl rfl rfl rfl rfl (zah 5 rfl 0 rfl))
      ·
       intro vf pf hmu hR
       have e1 := hR 1 (by decide)
       refine zce [1] [1] rfl (zaq (sk 80 (congrArg some e1.1) (zab _)) (List.sublist_append_right _ _) ?_)
       exact (zam rfl rfl (fun w hm => zbb (zgm n w (hr.below hm.bel) hn)))
      ·
       intro vf pf hmu hR
       refine zce [] [] rfl (zay (zae [11] rfl) ?_)
       exact zbi (zax rfl)
      ·
       intro vf pf hmu hR
       have e2 := hR 2 (by decide)
       have e3 := hR 3 (by decide)
       refine zce [2, 3] [2, 3] rfl (zay (sk 81 (congrArg some e2.1) (sk 82 (congrArg some e3.1) (zab _))) ?_)
       exact zbi (vaQ rfl rfl rfl)
      ·
       intro vf pf hmu hR
       have e4 := hR 4 (by decide)
       refine zce [4] [4] rfl (zay (sk 83 (congrArg some e4.1) (zab _)) ?_)
       exact zbi (zfs rfl rfl rfl (by constructor <;> omega))
      intro vf pf hmu hR
      have e0 := hR 0 (by decide)
      refine Or.inl ⟨rfl, ?_⟩
      show RunM _ _ _ (pf 8) (([0] : List Nat).flatMap pf ++ _) (envOf3 _ vf [0] ++ _) _ _
      have hmu0 : pf 8 = [eB9 b2] := hmu 0 (show 0 < 1 by omega)
      rw [hmu0]
      exact zbx (sk 6 rfl (sk 79 (congrArg some e0.1) (zab _))) (by simp only [e0.2, fS] <;> rfl) (zel (zcs (us := [.int .i64 m.ins, m.sv, m.av, m.ov]) (off := 0) 0 rfl rfl rfl rfl rfl rfl (zaa rfl (zaa o1m (zaa ho7 (zaa o3m zbe)))) rfl rfl) (fun v_ p_ h => by show p_ = [nB9 b2 m]; exact h))
     intro vf pf hmu hR
     have e5 := hR 5 (by decide)
     have e6 : (pf 6) = [nB9 b2 m] := hR 6 (by decide)
     have pE6 := e6
     have q0 := hR 0 (by decide)
     have q1 := hR 1 (by decide)
     have q2 := hR 2 (by decide)
     have q3 := hR 3 (by decide)
     have q4 := hR 4 (by decide)
     have q5 := hR 5 (by decide)
     refine zcd (zbs [78, 69, 55, 51, 43, 30, 11, 10, 9, 8, 7, 6, 3, 2, 1, 0] _ (sk 84 (congrArg some e5.1) (zab _)) rfl) (by simp only [pE6, q0.2, q1.2, q2.2, q3.2, q4.2, q5.2, fS] <;> rfl) ?_
     simp only [List.drop_succ_cons, List.drop_zero]
     refine zbc 1 rfl ?_
     refine zak (zaf ?_)
     refine zfv ?_
     refine zaf (zad ?_)
     have hgp : CpS n (m) ∧ OpS n (m) (andO n.fst n.gs x y) (2 * (n.fst + (i : Int))) := ⟨hcp.cps, ops_as hcp (andO_hit hx hy (by have hxy := xr_sym hx0 hy0; omega) (by omega) (by omega) (by omega) ⟨hq1, by rw [hq2]; exact hmx⟩ hno)⟩
     refine zbw (fun w hm => (zao 4 rfl w hm).one) (fun ho2 => ?_)
     refine zaz 7 [0, 4, 5, 3] rfl rfl (by decide) ?_
     refine zbk 3 rfl ?_
     exact zca (rs := [.cell 6 70, .tmp 7]) (vs := [.agg #[.int .i64 m.ins, m.sv, m.av, m.ov], .int .i64 (2 * (n.fst + (i : Int)))]) (post := [bigE [rS9 143 3 m.sv m.ss sqC, bigE ps, rS9 141 2 m.av m.gs anC]]) rfl ⟨⟨b2, 0, [.int .i64 m.ins, m.sv, m.av, m.ov], rfl, rfl, by kernel_rfl, by kernel_rfl, zah 1 rfl 0 rfl⟩, rfl, trivial⟩ rfl (slQ [0] rfl) ⟨_, m, _, rfl, rfl, fun w hw => ⟨zbh (zau hw List.mem_cons_self), (hps w (zau hw (List.mem_cons_of_mem _ List.mem_cons_self))).1, zbh (zau hw (List.mem_cons_of_mem _ (List.mem_cons_of_mem _ List.mem_cons_self))), (hps w (zau hw (List.mem_cons_of_mem _ List.mem_cons_self))).2⟩, ⟨o1m, ho2, o3m⟩, hgp.1, hgp.2⟩
    have hqn := eqA_no hb19
    refine zdp 7 [[], [0], [], [1, 2], [3], [], [4, 5]] [72, 73, 74, 75, 76, 77, 78] [.pointer (some ⟨b1, 0 + 2, none⟩), n.av, .int .i64 (i : Int), elP n.av (((i : Int)).toNat * 2), .agg #[.int .i64 ((n.gs.getD i an0).a), .int .i64 ((n.gs.getD i an0).b)], .agg #[.int .i64 (min x y), .int .i64 (if x < y then y else x)], .bool false] (by kernel_rfl) rfl ?_ ?_
    ·
     exact ⟨iaQ rfl (fdQ 2 rfl rfl rfl) rfl, iaQ rfl (zan rfl rfl rfl (zai 6 rfl rfl)) rfl, iaQ rfl (zax rfl) rfl, iaQ rfl (riQ 2 rfl rfl rfl rfl (zap hr.an)) rfl, iaQ rfl (zda (us := [.int .i64 ((n.gs.getD i an0).a), .int .i64 ((n.gs.getD i an0).b)]) rfl rfl rfl rfl (zap hr.an) (by omega) rfl (zdt anC 2 (fun _ => rfl) n.gs an0 (show i < _ by omega) rfl)) rfl, iaQ rfl (zar (cs := [.int .i64 (min x y), .int .i64 (if x < y then y else x)]) rfl rfl rfl rfl rfl (zah 0 rfl 0 rfl)) rfl, .inl ⟨rfl, rq_vb (rv_eqAn rfl rfl rfl) hb19⟩, trivial⟩
    simp only [List.drop_succ_cons, List.drop_zero]
    refine ntQ (fsQ rfl (zdn (reQ 1 rfl (hvQ rfl (vaQ rfl rfl rfl) (enQ 1 rfl ?_)))))
    exact zcm (i + 1) ⟨by omega, fun q hq => by by_cases e9 : q = i; (subst e9; exact fun h9 => hqn ⟨h9.1, by rw [h9.2, hmx]⟩); exact hno q (by omega)⟩ (by omega) (saQ rfl) (pfQ rfl)
   refine ntQ (zal rfl ?_)
   refine zby (zes ?_)
   refine zat (zaw (zgk (hvQ rfl (fdQ 2 rfl rfl rfl) (hvQ rfl (zan rfl rfl rfl (zai 6 rfl rfl)) (hvQ rfl (lnQ rfl rfl rfl (zap hr.an)) ?_)))))
   refine zbj rfl rfl rfl rfl rfl rfl (fun h20 => ?_) (fun h20 => ?_)
   ·
    refine ntQ (zaj rfl (srQ (hvQ rfl (zar (cs := [.int .i64 m.ins, m.sv, m.av, m.ov]) rfl rfl rfl rfl rfl (zah 1 rfl 0 rfl)) ?_)))
    refine zbm (cs' := #[.int .i64 m.ins, m.sv, m.av, m.ov]) (i := 5) (off := 0) (us := [.int .i64 m.ins, m.sv, m.av, m.ov]) rfl rfl rfl rfl rfl rfl rfl (zaa rfl (zaa o1m (zaa ho7 (zaa o3m zbe)))) rfl rfl rfl (zbc 1 rfl ?_)
    refine zak (zad ?_)
    have hgp : CpS n (m) ∧ OpS n (m) (andO n.fst n.gs x y) (-1) := ⟨hcp.cps, ops_no hcp (by first | exact zek (fun h9 => absurd h9.1 (by assumption)) | exact zek (fun h9 => absurd h9.2 (by assumption)) | exact andO_full hx hy (by have hxy := xr_sym hx0 hy0; omega) (by omega) (by omega) (fun q hq => hno q (by omega)) (by omega)) (by omega)⟩
    refine zbw (fun w hm => (zao 3 rfl w hm).one) (fun ho2 => ?_)
    refine zaz 7 [5, 3, 4, 2] rfl rfl (by decide) ?_
    refine zbk 3 rfl ?_
    exact zca (rs := [.cell 6 70, .tmp 7]) (vs := [.agg #[.int .i64 m.ins, m.sv, m.av, m.ov], .int .i64 (-1)]) (post := [bigE [rS9 143 3 m.sv m.ss sqC, bigE ps, rS9 141 2 m.av m.gs anC]]) rfl ⟨⟨b2, 0, [.int .i64 m.ins, m.sv, m.av, m.ov], rfl, rfl, by kernel_rfl, by kernel_rfl, zah 1 rfl 0 rfl⟩, rfl, trivial⟩ rfl (slQ [0] rfl) ⟨_, m, _, rfl, rfl, fun w hw => ⟨zbh (zau hw List.mem_cons_self), (hps w (zau hw (List.mem_cons_of_mem _ List.mem_cons_self))).1, zbh (zau hw (List.mem_cons_of_mem _ (List.mem_cons_of_mem _ List.mem_cons_self))), (hps w (zau hw (List.mem_cons_of_mem _ List.mem_cons_self))).2⟩, ⟨o1m, ho2, o3m⟩, hgp.1, hgp.2⟩
   refine ntQ (zal rfl (zdb (srQ (hvQ rfl (fdQ 2 rfl rfl rfl) (hvQ rfl (zan rfl rfl rfl (zai 1 rfl rfl)) (hvQ rfl (zar (cs := [.int .i64 (min x y), .int .i64 (if x < y then y else x)]) rfl rfl rfl rfl rfl (zah 0 rfl 0 rfl)) ?_))))))
   refine zey rfl (zas (z := .agg #[.int .i64 0, .int .i64 0]) (s := 2) (cs := ([min x y, (if x < y then y else x)].map (Value.int .i64))) rfl Try.underlying68 rfl (by decide) rfl (by kernel_rfl) rfl) ?_
   intro g21
   refine zdc (i := 4) (z := .agg #[.int .i64 0, .int .i64 0]) (bytes := 16) rfl rfl rfl rfl Try.underlying68 (by kernel_rfl) rfl rfl rfl rfl (zao 0 rfl) (zcj _) (by first | omega | (simp only [List.length_append, List.length_cons, List.length_nil]; omega)) (zco m.gs [(An.mk (min x y) (if x < y then y else x))]) (zei anC m.gs (An.mk (min x y) (if x < y then y else x)) _ rfl) (fun _ => rfl) ?_
   intro v22
   refine hvQ rfl (fdQ 2 rfl rfl rfl) (zcr (i := 4) rfl (fun ho23 => ?_))
   refine zgs (i := 2) (cs' := #[.int .i64 m.ins, m.sv, v22, m.ov]) rfl rfl rfl rfl rfl rfl ho23 rfl rfl rfl rfl (ntQ (srQ (hvQ rfl (zar (cs := [.int .i64 m.ins, m.sv, v22, m.ov]) rfl rfl rfl rfl rfl (zah 2 rfl 0 rfl)) (zag 1 rfl (hvQ rfl (zfs rfl rfl rfl (by constructor <;> omega)) ?_)))))
   refine zbm (cs' := #[.int .i64 m.ins, m.sv, v22, m.ov]) (i := 6) (off := 0) (us := [.int .i64 m.ins, m.sv, v22, m.ov]) rfl rfl rfl rfl rfl rfl rfl (zaa rfl (zaa o1m (zaa ho23 (zaa o3m zbe)))) rfl rfl rfl (zbc 1 rfl ?_)
   refine zak ?_
   have hgp : CpS n ({ m with av := v22, gs := m.gs ++ [(An.mk (min x y) (if x < y then y else x))] }) ∧ OpS n ({ m with av := v22, gs := m.gs ++ [(An.mk (min x y) (if x < y then y else x))] }) (andO n.fst n.gs x y) (2 * n.cnt) := ⟨⟨hcp.ins, hcp.os, hcp.ss⟩, .inl (by rw [show (2 * n.cnt) = 2 * (n.fst + (n.gs.length : Int)) by omega]; dsimp only; rw [hcp.gs, hmx]; exact andO_new hx hy (by have hxy := xr_sym hx0 hy0; omega) (by omega) (by omega) (fun q hq => hno q (by omega)) (by omega))⟩
   refine zbw (fun w hm => (zao 4 rfl w hm).one) (fun ho2 => ?_)
   refine zaz 8 [6, 4, 5, 3] rfl rfl (by decide) ?_
   refine zbk 3 rfl ?_
   exact zca (rs := [.cell 6 70, .tmp 7]) (vs := [.agg #[.int .i64 m.ins, m.sv, v22, m.ov], .int .i64 (2 * n.cnt)]) (post := [bigE [rS9 143 3 m.sv m.ss sqC, bigE ps, rowE 141 2 v22 ((m.gs ++ [(An.mk (min x y) (if x < y then y else x))]).length) ((m.gs ++ [(An.mk (min x y) (if x < y then y else x))]).flatMap anC)]]) rfl ⟨⟨b2, 0, [.int .i64 m.ins, m.sv, v22, m.ov], rfl, rfl, by kernel_rfl, by kernel_rfl, zah 1 rfl 0 rfl⟩, rfl, trivial⟩ rfl (slQ [0] rfl) ⟨_, { m with av := v22, gs := m.gs ++ [(An.mk (min x y) (if x < y then y else x))] }, _, rfl, rfl, fun w hw => ⟨zbh (zau hw List.mem_cons_self), (hps w (zau hw (List.mem_cons_of_mem _ List.mem_cons_self))).1, zbh (zau hw (List.mem_cons_of_mem _ (List.mem_cons_of_mem _ List.mem_cons_self))), (hps w (zau hw (List.mem_cons_of_mem _ List.mem_cons_self))).2⟩, ⟨o1m, ho2, o3m⟩, hgp.1, hgp.2⟩
  have hyn := of_decide_eq_false h9
  refine zbc 2 rfl (zaj rfl (srQ (hvQ rfl (zar (cs := [.int .i64 m.ins, m.sv, m.av, m.ov]) rfl rfl rfl rfl rfl (zah 0 rfl 0 rfl)) ?_)))
  refine zbm (cs' := #[.int .i64 m.ins, m.sv, m.av, m.ov]) (i := 4) (off := 0) (us := [.int .i64 m.ins, m.sv, m.av, m.ov]) rfl rfl rfl rfl rfl rfl rfl (zaa rfl (zaa o1m (zaa ho7 (zaa o3m zbe)))) rfl rfl rfl (zbc 1 rfl ?_)
  refine zak (zad ?_)
  have hgp : CpS n (m) ∧ OpS n (m) (andO n.fst n.gs x y) (-1) := ⟨hcp.cps, ops_no hcp (by first | exact zek (fun h9 => absurd h9.1 (by assumption)) | exact zek (fun h9 => absurd h9.2 (by assumption)) | exact andO_full hx hy (by have hxy := xr_sym hx0 hy0; omega) (by omega) (by omega) (fun q hq => hno q (by omega)) (by omega)) (by omega)⟩
  refine zbw (fun w hm => (zao 2 rfl w hm).one) (fun ho2 => ?_)
  refine zaz 6 [4, 2, 3, 1] rfl rfl (by decide) ?_
  refine zbk 3 rfl ?_
  exact zca (rs := [.cell 6 70, .tmp 7]) (vs := [.agg #[.int .i64 m.ins, m.sv, m.av, m.ov], .int .i64 (-1)]) (post := [bigE [rS9 143 3 m.sv m.ss sqC, bigE ps, rS9 141 2 m.av m.gs anC]]) rfl ⟨⟨b2, 0, [.int .i64 m.ins, m.sv, m.av, m.ov], rfl, rfl, by kernel_rfl, by kernel_rfl, zah 1 rfl 0 rfl⟩, rfl, trivial⟩ rfl (slQ [0] rfl) ⟨_, m, _, rfl, rfl, fun w hw => ⟨zbh (zau hw List.mem_cons_self), (hps w (zau hw (List.mem_cons_of_mem _ List.mem_cons_self))).1, zbh (zau hw (List.mem_cons_of_mem _ (List.mem_cons_of_mem _ List.mem_cons_self))), (hps w (zau hw (List.mem_cons_of_mem _ List.mem_cons_self))).2⟩, ⟨o1m, ho2, o3m⟩, hgp.1, hgp.2⟩
 have hxn := of_decide_eq_false h8
 refine zbc 8 rfl (zaj rfl (srQ (hvQ rfl (zar (cs := [.int .i64 m.ins, m.sv, m.av, m.ov]) rfl rfl rfl rfl rfl (zah 0 rfl 0 rfl)) ?_)))
 refine zbm (cs' := #[.int .i64 m.ins, m.sv, m.av, m.ov]) (i := 4) (off := 0) (us := [.int .i64 m.ins, m.sv, m.av, m.ov]) rfl rfl rfl rfl rfl rfl rfl (zaa rfl (zaa o1m (zaa ho7 (zaa o3m zbe)))) rfl rfl rfl (zbc 1 rfl ?_)
 refine zak (zad ?_)
 have hgp : CpS n (m) ∧ OpS n (m) (andO n.fst n.gs x y) (-1) := ⟨hcp.cps, ops_no hcp (by first | exact zek (fun h9 => absurd h9.1 (by assumption)) | exact zek (fun h9 => absurd h9.2 (by assumption)) | exact andO_full hx hy (by have hxy := xr_sym hx0 hy0; omega) (by omega) (by omega) (fun q hq => hno q (by omega)) (by omega)) (by omega)⟩
 refine zbw (fun w hm => (zao 2 rfl w hm).one) (fun ho2 => ?_)
 refine zaz 6 [4, 2, 3, 1] rfl rfl (by decide) ?_
 refine zbk 3 rfl ?_
 exact zca (rs := [.cell 6 70, .tmp 7]) (vs := [.agg #[.int .i64 m.ins, m.sv, m.av, m.ov], .int .i64 (-1)]) (post := [bigE [rS9 143 3 m.sv m.ss sqC, bigE ps, rS9 141 2 m.av m.gs anC]]) rfl ⟨⟨b2, 0, [.int .i64 m.ins, m.sv, m.av, m.ov], rfl, rfl, by kernel_rfl, by kernel_rfl, zah 1 rfl 0 rfl⟩, rfl, trivial⟩ rfl (slQ [0] rfl) ⟨_, m, _, rfl, rfl, fun w hw => ⟨zbh (zau hw List.mem_cons_self), (hps w (zau hw (List.mem_cons_of_mem _ List.mem_cons_self))).1, zbh (zau hw (List.mem_cons_of_mem _ (List.mem_cons_of_mem _ List.mem_cons_self))), (hps w (zau hw (List.mem_cons_of_mem _ List.mem_cons_self))).2⟩, ⟨o1m, ho2, o3m⟩, hgp.1, hgp.2⟩
def blkOf (v : Value) : Nat := match v with | .pointer (some ⟨b, _, _⟩) => b | _ => 0
def tp9 (k : Nat) (v : Value) : Value := match v with | .tuple xs => xs.getD k undef | _ => undef
def ag9 (k : Nat) (v : Value) : Value := match v with | .agg xs => xs.getD k undef | _ => undef
theorem ntL_lt {a : Int} (h : a < 4294967295) : ntL a < 4294967296 := by unfold ntL xr; split <;> (try split) <;> omega
theorem andO_nt (f : Int) (gs : List An) (a b : Int) : andO f gs (ntL a) (ntL b) = andO f gs (xr a) (xr b) := by
  have hx : ∀ a : Int, a < 0 → xr a < 0 := fun a h => by unfold xr; split <;> omega
  by_cases ha : a < 0
  · rw [zek (a := ntL a) (fun h9 => by have h8 := h9.1.1; rw [ntL_neg ha] at h8; omega), zek (a := xr a) (fun h9 => by have h8 := h9.1.1; have h7 := hx a ha; omega)]
  · by_cases hb : b < 0
    · rw [zek (a := ntL a) (fun h9 => by have h8 := h9.2.1; rw [ntL_neg hb] at h8; omega), zek (a := xr a) (fun h9 => by have h8 := h9.2.1; have h7 := hx b hb; omega)]
    · rw [ntL_pos (by omega), ntL_pos (by omega)]
theorem OpS.orr {n m : Nt} {a b z : Int} (h : OpS n m (andO n.fst n.gs (ntL a) (ntL b)) z) (hz : 0 ≤ z) : OpS n m (orO n.fst n.gs a b) (xr z) := by
  rw [andO_nt] at h
  rcases h with h | h
  · exact .inl (by unfold orO; rw [h]; rfl)
  · omega
theorem OpS.orn {n m m2 : Nt} {a b z y : Int} (hn : NtOk n) (h : OpS n m (andO n.fst n.gs (ntL a) (ntL b)) z) (hz : z < 0) (hc : m2.gs = n.gs) (hy : y < 0) : OpS n m2 (orO n.fst n.gs a b) y := by
  rw [andO_nt] at h
  rcases h with h | h
  · have := (zfh (r := (m.gs, z)) (n := n) hn h).lit.1; dsimp only at this; omega
  · exact .inr ⟨by unfold orO; rw [h.1]; rfl, hy, hc⟩
theorem OpS.rng {n m : Nt} {a b z : Int} (hn : NtOk n) (h : OpS n m (andO n.fst n.gs a b) z) : z < 1000000 := by
  rcases h with h | h
  · have h1 := zfh (r := (m.gs, z)) (n := n) hn h
    have h2 := h1.lit.2
    have h3 := h1.ok.a1
    have h4 := hn.i1
    have h5 := hn.s1
    have h6 : n.fst = 1 + n.ins + n.ss.length := rfl
    have h7 : m.gs.length ≤ 300 := h3
    dsimp only at h2; omega
  · omega
theorem AddOrX_ret (n : Nt) (a b : Int) (w : World) (hr : RdsNt w n) (hn : NtOk n) (hxb : a < 4294967295) (hyb : b < 4294967295) :
   Calls Try.prog 131 #[.agg #[.int .i64 n.ins, n.sv, n.av, n.ov], .int .i64 a, .int .i64 b] w (Ret w (fun u_ p_ => ∃ (ps : List HP) (m : Nt) (z : Int), u_ = .tuple #[m.agg, .int .i64 z] ∧ p_ = [bigE ps] ∧ (∀ w, (bigE ps).holds w → RdsNt w m) ∧ (m.sv.oneCell' = true ∧ m.av.oneCell' = true ∧ m.ov.oneCell' = true) ∧ CpS n m ∧ OpS n m (orO n.fst n.gs a b) z)) := by
 have hi0 := hn.i0
 have hi1 := hn.i1
 have hs1 := hn.s1
 have ha1 := hn.a1
 have ho1 := hn.o1
 have hcnt : n.cnt = 1 + n.ins + n.ss.length + n.gs.length := rfl
 have hfst : n.fst = 1 + n.ins + n.ss.length := rfl
 refine zbq (N := 26) (args := [.agg #[.int .i64 n.ins, n.sv, n.av, n.ov], .int .i64 a, .int .i64 b]) Try.func131 rfl rfl (srQ ?_)
 refine zed rfl (zdh rfl rfl) ?_
 intro b1
 refine zed rfl (zcc (z := .agg #[.int .i64 0, .slice none 0 0, .slice none 0 0, .slice none 0 0]) rfl rfl) ?_
 intro b2
 refine zbc 1 rfl (zac ?_)
 refine zdq (l := [eB9 b2, nB9 b1 n]) rfl 11 [0, 1, 2, 3, 4, 5, 6, 7, 8, 9, 10] (List.take 11 _) (List.drop 11 _) [[], [], [1], [], [3], [0, 2, 4], [5], [5, 6], [5, 6], [], [5, 7, 9]] [some 11, some 12, some 13, some 14, some 15, some 16, some 10, some 17, some 18, some 8, none] (fun i_ vs_ v_ p_ => match i_ with | 0 => v_ = .agg #[.int .i64 n.ins, n.sv, n.av, n.ov] ∧ p_ = [] | 1 => v_ = .int .i64 a ∧ p_ = [] | 2 => v_ = .int .i64 (ntL a) ∧ p_ = [] | 3 => v_ = .int .i64 b ∧ p_ = [] | 4 => v_ = .int .i64 (ntL b) ∧ p_ = [] | 5 => (fun u_ p_ => ∃ (ps : List HP) (m : Nt) (z : Int), u_ = .tuple #[m.agg, .int .i64 z] ∧ p_ = [bigE ps] ∧ (∀ w, (bigE ps).holds w → RdsNt w m) ∧ (m.sv.oneCell' = true ∧ m.av.oneCell' = true ∧ m.ov.oneCell' = true) ∧ CpS n m ∧ OpS n m (andO n.fst n.gs (ntL a) (ntL b)) z) v_ p_ | 6 => v_ = .tuple #[.agg #[.int .i64 (intOf_o (ag9 0 (tp9 0 (gV9 vs_ 0)))), (ag9 1 (tp9 0 (gV9 vs_ 0))), (ag9 2 (tp9 0 (gV9 vs_ 0))), (ag9 3 (tp9 0 (gV9 vs_ 0)))], .int .i64 (intOf_o (tp9 1 (gV9 vs_ 0)))] ∧ p_ = [] | 7 => v_ = .agg #[.int .i64 (intOf_o (ag9 0 (tp9 0 (gV9 vs_ 0)))), (ag9 1 (tp9 0 (gV9 vs_ 0))), (ag9 2 (tp9 0 (gV9 vs_ 0))), (ag9 3 (tp9 0 (gV9 vs_ 0)))] ∧ p_ = [] | 8 => v_ = .int .i64 (intOf_o (tp9 1 (gV9 vs_ 0))) ∧ p_ = [] | 9 => IsBox #[.int .i64 0, .slice none 0 0, .slice none 0 0, .slice none 0 0] 70 v_ p_ | 10 => p_ = [boxE (blkOf (gV9 vs_ 2)) #[.int .i64 (intOf_o (ag9 0 (tp9 0 (gV9 vs_ 0)))), (ag9 1 (tp9 0 (gV9 vs_ 0))), (ag9 2 (tp9 0 (gV9 vs_ 0))), (ag9 3 (tp9 0 (gV9 vs_ 0)))] 70] | _ => True) [[], [], [1], [], [3], [0, 2, 4], [5], [5, 6], [5, 6], [], [5, 7]] [none, none, none, none, none, none, none, none, none, none, some 9] [] [0, 1, 2, 3, 4, 5, 6, 7, 8, 10] 12 (List.take_append_drop 11 _).symm (by kernel_rfl) (by kernel_rfl) (by kernel_rfl) rfl rfl ?_ ?_
 ·
  refine ⟨?_, ?_, ?_, ?_, ?_, ?_, ?_, ?_, ?_, ?_, ?_, trivial⟩
  ·
   intro vf pf hmu hR
   refine zce [] [] rfl (zaq (zae [3] rfl) (List.sublist_append_right _ _) ?_)
   exact zbi (zar (cs := [.int .i64 n.ins, n.sv, n.av, n.ov]) rfl rfl rfl rfl rfl (zah 1 rfl 0 rfl))
  ·
   intro vf pf hmu hR
   refine zce [] [] rfl (zay (zae [1] rfl) ?_)
   exact zbi (zax rfl)
  ·
   intro vf pf hmu hR
   have e1 := hR 1 (by decide)
   refine zce [1] [1] rfl (zaq (sk 12 (congrArg some e1.1) (zab _)) (List.sublist_append_right _ _) ?_)
   exact (zam rfl rfl (fun w hm => zbb (zfl a w (by omega))))
  ·
   intro vf pf hmu hR
   refine zce [] [] rfl (zay (zae [2] rfl) ?_)
   exact zbi (zax rfl)
  ·
   intro vf pf hmu hR
   have e3 := hR 3 (by decide)
   refine zce [3] [3] rfl (zaq (sk 14 (congrArg some e3.1) (zab _)) (List.sublist_append_right _ _) ?_)
   exact (zam rfl rfl (fun w hm => zbb (zfl b w (by omega))))
  ·
   intro vf pf hmu hR
   have e0 := hR 0 (by decide)
   have e2 := hR 2 (by decide)
   have e4 := hR 4 (by decide)
   refine zce [0, 2, 4] [0, 2, 4] rfl (zaq (sk 11 (congrArg some e0.1) (sk 13 (congrArg some e2.1) (sk 15 (congrArg some e4.1) (zab _)))) (List.sublist_append_right _ _) ?_)
   exact zam rfl rfl (fun w hm => AddAndX_ret n (ntL a) (ntL b) w (hr.below hm.bel) hn (by first | omega | exact ntL_lt (by omega)) (by first | omega | exact ntL_lt (by omega)))
  ·
   intro vf pf hmu hR
   have e5 : (fun u_ p_ => ∃ (ps : List HP) (m : Nt) (z : Int), u_ = .tuple #[m.agg, .int .i64 z] ∧ p_ = [bigE ps] ∧ (∀ w, (bigE ps).holds w → RdsNt w m) ∧ (m.sv.oneCell' = true ∧ m.av.oneCell' = true ∧ m.ov.oneCell' = true) ∧ CpS n m ∧ OpS n m (andO n.fst n.gs (ntL a) (ntL b)) z) (vf 5) (pf 5) := hR 5 (by decide)
   obtain ⟨v3, vE5⟩ : ∃ x, vf 5 = x := ⟨_, rfl⟩
   obtain ⟨p4, pE5⟩ : ∃ x, pf 5 = x := ⟨_, rfl⟩
   have hR5 := e5
   rw [vE5, pE5] at hR5
   obtain ⟨pshR5, mhR5, zhR5, rfl, rfl, hpmhR5, ⟨o1mhR5, o2mhR5, o3mhR5⟩, cpmhR5, homhR5⟩ := hR5
   refine zce [5] [5] rfl (zbg (sk 16 (congrArg some vE5) (zab _)) (by simp only [pE5, vE5, fS] <;> rfl) ?_)
   exact zbo (zbi (zax rfl)) (fun _ _ h => ⟨h.1.trans (by show _ = (.tuple #[.agg #[.int .i64 (intOf_o (ag9 0 (tp9 0 (vf 5)))), (ag9 1 (tp9 0 (vf 5))), (ag9 2 (tp9 0 (vf 5))), (ag9 3 (tp9 0 (vf 5)))], .int .i64 (intOf_o (tp9 1 (vf 5)))] : Value); first | (rw [vE5]; done) | (rw [vE5]; rfl)), h.2⟩)
  ·
   intro vf pf hmu hR
   have e5 : (fun u_ p_ => ∃ (ps : List HP) (m : Nt) (z : Int), u_ = .tuple #[m.agg, .int .i64 z] ∧ p_ = [bigE ps] ∧ (∀ w, (bigE ps).holds w → RdsNt w m) ∧ (m.sv.oneCell' = true ∧ m.av.oneCell' = true ∧ m.ov.oneCell' = true) ∧ CpS n m ∧ OpS n m (andO n.fst n.gs (ntL a) (ntL b)) z) (vf 5) (pf 5) := hR 5 (by decide)
   obtain ⟨v3, vE5⟩ : ∃ x, vf 5 = x := ⟨_, rfl⟩
   obtain ⟨p4, pE5⟩ : ∃ x, pf 5 = x := ⟨_, rfl⟩
   have hR5 := e5
   rw [vE5, pE5] at hR5
   obtain ⟨pshR5, mhR5, zhR5, rfl, rfl, hpmhR5, ⟨o1mhR5, o2mhR5, o3mhR5⟩, cpmhR5, homhR5⟩ := hR5
   have e6 : (vf 6) = .tuple #[.agg #[.int .i64 (intOf_o (ag9 0 (tp9 0 (vf 5)))), (ag9 1 (tp9 0 (vf 5))), (ag9 2 (tp9 0 (vf 5))), (ag9 3 (tp9 0 (vf 5)))], .int .i64 (intOf_o (tp9 1 (vf 5)))] ∧ (pf 6) = [] := hR 6 (by decide)
   rw [vE5] at e6
   refine zce [5, 6] [5, 6] rfl (zbg (sk 10 (congrArg some e6.1) (zab _)) (by simp only [pE5, vE5, e6.2, fS] <;> rfl) ?_)
   exact zbo (zbi (zax rfl)) (fun _ _ h => ⟨h.1.trans (by show _ = (.agg #[.int .i64 (intOf_o (ag9 0 (tp9 0 (vf 5)))), (ag9 1 (tp9 0 (vf 5))), (ag9 2 (tp9 0 (vf 5))), (ag9 3 (tp9 0 (vf 5)))] : Value); first | (rw [vE5]; done) | (rw [vE5]; rfl)), h.2⟩)
  ·
   intro vf pf hmu hR
   have e5 : (fun u_ p_ => ∃ (ps : List HP) (m : Nt) (z : Int), u_ = .tuple #[m.agg, .int .i64 z] ∧ p_ = [bigE ps] ∧ (∀ w, (bigE ps).holds w → RdsNt w m) ∧ (m.sv.oneCell' = true ∧ m.av.oneCell' = true ∧ m.ov.oneCell' = true) ∧ CpS n m ∧ OpS n m (andO n.fst n.gs (ntL a) (ntL b)) z) (vf 5) (pf 5) := hR 5 (by decide)
   obtain ⟨v3, vE5⟩ : ∃ x, vf 5 = x := ⟨_, rfl⟩
   obtain ⟨p4, pE5⟩ : ∃ x, pf 5 = x := ⟨_, rfl⟩
   have hR5 := e5
   rw [vE5, pE5] at hR5
   obtain ⟨pshR5, mhR5, zhR5, rfl, rfl, hpmhR5, ⟨o1mhR5, o2mhR5, o3mhR5⟩, cpmhR5, homhR5⟩ := hR5
   have e6 : (vf 6) = .tuple #[.agg #[.int .i64 (intOf_o (ag9 0 (tp9 0 (vf 5)))), (ag9 1 (tp9 0 (vf 5))), (ag9 2 (tp9 0 (vf 5))), (ag9 3 (tp9 0 (vf 5)))], .int .i64 (intOf_o (tp9 1 (vf 5)))] ∧ (pf 6) = [] := hR 6 (by decide)
   rw [vE5] at e6
   refine zce [5, 6] [5, 6] rfl (zbg (sk 10 (congrArg some e6.1) (zab _)) (by simp only [pE5, vE5, e6.2, fS] <;> rfl) ?_)
   exact zbo (zbi (zax rfl)) (fun _ _ h => ⟨h.1.trans (by show _ = (.int .i64 (intOf_o (tp9 1 (vf 5))) : Value); first | (rw [vE5]; done) | (rw [vE5]; rfl)), h.2⟩)
  ·
   intro vf pf hmu hR
   refine zce [] [] rfl (zaq (zab _) (List.sublist_append_right _ _) ?_)
   exact zcc (z := .agg #[.int .i64 0, .slice none 0 0, .slice none 0 0, .slice none 0 0]) rfl rfl
  intro vf pf hmu hR
  have e5 : (fun u_ p_ => ∃ (ps : List HP) (m : Nt) (z : Int), u_ = .tuple #[m.agg, .int .i64 z] ∧ p_ = [bigE ps] ∧ (∀ w, (bigE ps).holds w → RdsNt w m) ∧ (m.sv.oneCell' = true ∧ m.av.oneCell' = true ∧ m.ov.oneCell' = true) ∧ CpS n m ∧ OpS n m (andO n.fst n.gs (ntL a) (ntL b)) z) (vf 5) (pf 5) := hR 5 (by decide)
  obtain ⟨v3, vE5⟩ : ∃ x, vf 5 = x := ⟨_, rfl⟩
  obtain ⟨p4, pE5⟩ : ∃ x, pf 5 = x := ⟨_, rfl⟩
  have hR5 := e5
  rw [vE5, pE5] at hR5
  obtain ⟨pshR5, mhR5, zhR5, rfl, rfl, hpmhR5, ⟨o1mhR5, o2mhR5, o3mhR5⟩, cpmhR5, homhR5⟩ := hR5
  have e7 : (vf 7) = .agg #[.int .i64 (intOf_o (ag9 0 (tp9 0 (vf 5)))), (ag9 1 (tp9 0 (vf 5))), (ag9 2 (tp9 0 (vf 5))), (ag9 3 (tp9 0 (vf 5)))] ∧ (pf 7) = [] := hR 7 (by decide)
  rw [vE5] at e7
  have e9 : IsBox #[.int .i64 0, .slice none 0 0, .slice none 0 0, .slice none 0 0] 70 (vf 9) (pf 9) := hR 9 (by decide)
  obtain ⟨b6, vE9, pE9⟩ := e9
  refine Or.inl ⟨rfl, ?_⟩
  show RunM _ _ _ (pf 9) (([5, 7] : List Nat).flatMap pf ++ _) (envOf3 _ vf [5, 7, 9] ++ _) _ _
  rw [pE9]
  exact zbx (sk 8 (congrArg some vE9) (sk 17 (congrArg some e7.1) (zab _))) (by simp only [pE5, vE5, e7.2, fS] <;> rfl) (zel (zcs (us := [.int .i64 mhR5.ins, mhR5.sv, mhR5.av, mhR5.ov]) (off := 0) 0 rfl rfl rfl rfl rfl rfl (zaa rfl (zaa o1mhR5 (zaa o2mhR5 (zaa o3mhR5 zbe)))) rfl rfl) (fun v_ p_ h => by show p_ = [boxE (blkOf (vf 9)) #[.int .i64 (intOf_o (ag9 0 (tp9 0 (vf 5)))), (ag9 1 (tp9 0 (vf 5))), (ag9 2 (tp9 0 (vf 5))), (ag9 3 (tp9 0 (vf 5)))] 70]; rw [vE5, vE9]; exact h))
 intro vf pf hmu hR
 have e5 : (fun u_ p_ => ∃ (ps : List HP) (m : Nt) (z : Int), u_ = .tuple #[m.agg, .int .i64 z] ∧ p_ = [bigE ps] ∧ (∀ w, (bigE ps).holds w → RdsNt w m) ∧ (m.sv.oneCell' = true ∧ m.av.oneCell' = true ∧ m.ov.oneCell' = true) ∧ CpS n m ∧ OpS n m (andO n.fst n.gs (ntL a) (ntL b)) z) (vf 5) (pf 5) := hR 5 (by decide)
 obtain ⟨v3, vE5⟩ : ∃ x, vf 5 = x := ⟨_, rfl⟩
 obtain ⟨p4, pE5⟩ : ∃ x, pf 5 = x := ⟨_, rfl⟩
 have hR5 := e5
 rw [vE5, pE5] at hR5
 obtain ⟨pshR5, mhR5, zhR5, rfl, rfl, hpmhR5, ⟨o1mhR5, o2mhR5, o3mhR5⟩, cpmhR5, homhR5⟩ := hR5
 have e8 : (vf 8) = .int .i64 (intOf_o (tp9 1 (vf 5))) ∧ (pf 8) = [] := hR 8 (by decide)
 rw [vE5] at e8
 have e9 : IsBox #[.int .i64 0, .slice none 0 0, .slice none 0 0, .slice none 0 0] 70 (vf 9) (pf 9) := hR 9 (by decide)
 obtain ⟨b6, vE9, pE9⟩ := e9
 have e10 : (pf 10) = [boxE (blkOf (vf 9)) #[.int .i64 (intOf_o (ag9 0 (tp9 0 (vf 5)))), (ag9 1 (tp9 0 (vf 5))), (ag9 2 (tp9 0 (vf 5))), (ag9 3 (tp9 0 (vf 5)))] 70] := hR 10 (by decide)
 rw [vE5, vE9] at e10
 have pE10 := e10
 have q0 := hR 0 (by decide)
 have q1 := hR 1 (by decide)
 have q2 := hR 2 (by decide)
 have q3 := hR 3 (by decide)
 have q4 := hR 4 (by decide)
 have q6 := hR 6 (by decide)
 have q7 := hR 7 (by decide)
 have q8 := hR 8 (by decide)
 refine zcd (zbs [7, 6, 3, 2, 1, 0] _ (sk 8 (congrArg some vE9) (sk 18 (congrArg some e8.1) (zab _))) rfl) (by simp only [pE5, vE5, pE10, q0.2, q1.2, q2.2, q3.2, q4.2, q6.2, q7.2, q8.2, fS] <;> rfl) ?_
 simp only [List.drop_succ_cons, List.drop_zero]
 refine zbc 1 rfl (zac (zac (reQ 1 rfl ?_)))
 refine zcb rfl rfl rfl rfl rfl rfl (fun h7 => ?_) (fun h7 => ?_)
 ·
  refine ntQ (zaj rfl (srQ ?_))
  have hz9 : zhR5 < 0 := by assumption
  refine hvQ rfl (zar (cs := [.int .i64 n.ins, n.sv, n.av, n.ov]) rfl rfl rfl rfl rfl (zah 3 rfl 0 rfl)) (zfg rfl rfl rfl (zam rfl rfl (fun w hm => zfm n w (hr.below hm.bel) hn)) ?_)
  intro v8 p9 hR10
  obtain ⟨ps, m, rfl, rfl, hps, ⟨o1m, o3m⟩, hcp⟩ := hR10
  refine hl_know (fun w hm => (zao 1 rfl w hm).one) (fun ho2 => ?_)
  refine zcr (i := 1) rfl (fun ho11 => ?_)
  refine zbm (cs' := #[.int .i64 m.ins, m.sv, m.av, m.ov]) (i := 5) (off := 0) (us := [.int .i64 m.ins, m.sv, m.av, m.ov]) rfl rfl rfl rfl rfl rfl rfl (zaa rfl (zaa o1m (zaa ho11 (zaa o3m zbe)))) rfl rfl rfl (zbc 1 rfl ?_)
  refine zak (zad ?_)
  refine zaz 7 [5, 1, 2, 0] rfl rfl (by decide) ?_
  refine zbk 3 rfl ?_
  exact zca (rs := [.cell 6 70, .tmp 7]) (vs := [.agg #[.int .i64 m.ins, m.sv, m.av, m.ov], .int .i64 (-1)]) (post := [bigE [rS9 143 3 m.sv m.ss sqC, bigE ps, rS9 141 2 m.av m.gs anC]]) rfl ⟨⟨b2, 0, [.int .i64 m.ins, m.sv, m.av, m.ov], rfl, rfl, by kernel_rfl, by kernel_rfl, zah 1 rfl 0 rfl⟩, rfl, trivial⟩ rfl (slQ [0] rfl) ⟨_, m, _, rfl, rfl, fun w hw => ⟨zbh (zau hw List.mem_cons_self), (hps w (zau hw (List.mem_cons_of_mem _ List.mem_cons_self))).1, zbh (zau hw (List.mem_cons_of_mem _ (List.mem_cons_of_mem _ List.mem_cons_self))), (hps w (zau hw (List.mem_cons_of_mem _ List.mem_cons_self))).2⟩, ⟨o1m, ho2, o3m⟩, hcp.cps, .orn hn homhR5 (by omega) hcp.gs (by omega)⟩
 refine ntQ (zal rfl (zdb (srQ ?_)))
 have hz9 : ¬ zhR5 < 0 := by first | assumption | exact Int.not_lt.2 (by assumption)
 refine hvQ rfl (zar (cs := [.int .i64 mhR5.ins, mhR5.sv, mhR5.av, mhR5.ov]) rfl rfl rfl rfl rfl (zah 1 rfl 0 rfl)) (zag 1 rfl (hvQ rfl (zcl rfl (by decide) rfl rfl (r := xr zhR5) (xor_xr (by omega) (by have h9 := OpS.rng hn homhR5; omega))) ?_))
 refine zbm (cs' := #[.int .i64 mhR5.ins, mhR5.sv, mhR5.av, mhR5.ov]) (i := 2) (off := 0) (us := [.int .i64 mhR5.ins, mhR5.sv, mhR5.av, mhR5.ov]) rfl rfl rfl rfl rfl rfl rfl (zaa rfl (zaa o1mhR5 (zaa o2mhR5 (zaa o3mhR5 zbe)))) rfl rfl rfl (zbc 1 rfl ?_)
 exact zak (zca (rs := [.cell 6 70, .tmp 7]) (vs := [.agg #[.int .i64 mhR5.ins, mhR5.sv, mhR5.av, mhR5.ov], .int .i64 (xr zhR5)]) (post := [bigE pshR5]) rfl ⟨⟨b2, 0, [.int .i64 mhR5.ins, mhR5.sv, mhR5.av, mhR5.ov], rfl, rfl, by kernel_rfl, by kernel_rfl, zah 2 rfl 0 rfl⟩, rfl, trivial⟩ rfl (slQ [0] rfl) ⟨pshR5, mhR5, _, rfl, rfl, hpmhR5, ⟨o1mhR5, o2mhR5, o3mhR5⟩, cpmhR5, .orr homhR5 (by omega)⟩)
def JnS (n y m : Nt) (o : Option (List An × Int)) (z : Int) : Prop := (CpS y m ∧ o = some (m.gs, z)) ∨ (o = none ∧ z < 0 ∧ CpS n m ∧ m.gs = n.gs)
theorem jn_yes {n y m : Nt} {o : Option (List An × Int)} {z : Int} (hc : CpS y m) (h : OpS y m o z) (hz : ¬ z < 0) : JnS n y m o z := by
  rcases h with h | h
  · exact .inl ⟨hc, h⟩
  · exact absurd h.2.1 hz
theorem jn_no {n y m m2 : Nt} {p q z : Int} (hy : NtOk y) (h : OpS y m (orO y.fst y.gs p q) z) (hz : z < 0) (hc : CopyOf n m2) : JnS n y m2 (orO y.fst y.gs p q) (-1) := by
  rcases h with h | h
  · have := (orO_ok (r := (m.gs, z)) (n := y) hy h).lit.1; dsimp only at this; omega
  · exact .inr ⟨h.1, by omega, hc.cps, hc.gs⟩
theorem l10Join_ret (n y : Nt) (p q : Int) (w : World) (hr : RdsNt w n) (hn : NtOk n) (hry : RdsNt w y) (hny : NtOk y) (hxb : p < 4294967295) (hyb : q < 4294967295) :
   Calls Try.prog 162 #[.agg #[.int .i64 n.ins, n.sv, n.av, n.ov], .agg #[.int .i64 y.ins, y.sv, y.av, y.ov], .int .i64 p, .int .i64 q] w (Ret w (fun u_ p_ => ∃ (ps : List HP) (m : Nt) (z : Int), u_ = .tuple #[m.agg, .int .i64 z] ∧ p_ = [bigE ps] ∧ (∀ w, (bigE ps).holds w → RdsNt w m) ∧ (m.sv.oneCell' = true ∧ m.av.oneCell' = true ∧ m.ov.oneCell' = true) ∧ JnS n y m (orO y.fst y.gs p q) z)) := by
 have hi0 := hn.i0
 have hi1 := hn.i1
 have hs1 := hn.s1
 have ha1 := hn.a1
 have ho1 := hn.o1
 have hcnt : n.cnt = 1 + n.ins + n.ss.length + n.gs.length := rfl
 have hfst : n.fst = 1 + n.ins + n.ss.length := rfl
 refine zbq (N := 25) (args := [.agg #[.int .i64 n.ins, n.sv, n.av, n.ov], .agg #[.int .i64 y.ins, y.sv, y.av, y.ov], .int .i64 p, .int .i64 q]) Try.func162 rfl rfl (srQ ?_)
 refine zed rfl (zdh rfl rfl) ?_
 intro b1
 refine zed rfl (zdh rfl rfl) ?_
 intro b2
 refine zed rfl (zcc (z := .agg #[.int .i64 0, .slice none 0 0, .slice none 0 0, .slice none 0 0]) rfl rfl) ?_
 intro b3
 refine zbc 1 rfl (srQ (hvQ rfl (zar (cs := [.int .i64 y.ins, y.sv, y.av, y.ov]) rfl rfl rfl rfl rfl (zah 1 rfl 0 rfl)) (zag 2 rfl ?_)))
 refine zfg rfl rfl rfl (zam rfl rfl (fun w hm => AddOrX_ret y p q w (hry.below hm.bel) hny (by first | omega | exact ntL_lt (by omega)) (by first | omega | exact ntL_lt (by omega)))) ?_
 intro v4 p5 hR6
 obtain ⟨pshR6, mhR6, zhR6, rfl, rfl, hpmhR6, ⟨o1mhR6, o2mhR6, o3mhR6⟩, cpmhR6, homhR6⟩ := hR6
 refine zag 3 rfl (zed rfl (zcc (z := .agg #[.int .i64 0, .slice none 0 0, .slice none 0 0, .slice none 0 0]) rfl rfl) ?_)
 intro b7
 refine zbm (cs' := #[.int .i64 mhR6.ins, mhR6.sv, mhR6.av, mhR6.ov]) (i := 0) (off := 0) (us := [.int .i64 mhR6.ins, mhR6.sv, mhR6.av, mhR6.ov]) rfl rfl rfl rfl rfl rfl rfl (zaa rfl (zaa o1mhR6 (zaa o2mhR6 (zaa o3mhR6 zbe)))) rfl rfl rfl (zbc 1 rfl (zac (zac (reQ 1 rfl ?_))))
 refine zcb rfl rfl rfl rfl rfl rfl (fun h8 => ?_) (fun h8 => ?_)
 ·
  refine ntQ (zaj rfl (srQ (hvQ rfl (zar (cs := [.int .i64 n.ins, n.sv, n.av, n.ov]) rfl rfl rfl rfl rfl (zah 4 rfl 0 rfl)) ?_)))
  refine zfg rfl rfl rfl (zam rfl rfl (fun w hm => zfm n w (hr.below hm.bel) hn)) ?_
  intro v9 p10 hR11
  obtain ⟨ps, m, rfl, rfl, hps, ⟨o1m, o3m⟩, hcp⟩ := hR11
  refine hl_know (fun w hm => (zao 1 rfl w hm).one) (fun ho2 => ?_)
  refine zcr (i := 1) rfl (fun ho12 => ?_)
  refine zbm (cs' := #[.int .i64 m.ins, m.sv, m.av, m.ov]) (i := 5) (off := 0) (us := [.int .i64 m.ins, m.sv, m.av, m.ov]) rfl rfl rfl rfl rfl rfl rfl (zaa rfl (zaa o1m (zaa ho12 (zaa o3m zbe)))) rfl rfl rfl (zbc 1 rfl ?_)
  refine zak (zad ?_)
  refine zaz 8 [5, 1, 2, 0] rfl rfl (by decide) ?_
  refine zbk 3 rfl ?_
  exact zca (rs := [.cell 8 70, .tmp 9]) (vs := [.agg #[.int .i64 m.ins, m.sv, m.av, m.ov], .int .i64 (-1)]) (post := [bigE [rS9 143 3 m.sv m.ss sqC, bigE ps, rS9 141 2 m.av m.gs anC]]) rfl ⟨⟨b3, 0, [.int .i64 m.ins, m.sv, m.av, m.ov], rfl, rfl, by kernel_rfl, by kernel_rfl, zah 1 rfl 0 rfl⟩, rfl, trivial⟩ rfl (slQ [0] rfl) ⟨_, m, _, rfl, rfl, fun w hw => ⟨zbh (zau hw List.mem_cons_self), (hps w (zau hw (List.mem_cons_of_mem _ List.mem_cons_self))).1, zbh (zau hw (List.mem_cons_of_mem _ (List.mem_cons_of_mem _ List.mem_cons_self))), (hps w (zau hw (List.mem_cons_of_mem _ List.mem_cons_self))).2⟩, ⟨o1m, ho2, o3m⟩, jn_no hny homhR6 (by omega) hcp⟩
 refine ntQ (zal rfl (zdb (srQ (hvQ rfl (zar (cs := [.int .i64 mhR6.ins, mhR6.sv, mhR6.av, mhR6.ov]) rfl rfl rfl rfl rfl (zah 0 rfl 0 rfl)) (zag 1 rfl ?_)))))
 refine zbm (cs' := #[.int .i64 mhR6.ins, mhR6.sv, mhR6.av, mhR6.ov]) (i := 2) (off := 0) (us := [.int .i64 mhR6.ins, mhR6.sv, mhR6.av, mhR6.ov]) rfl rfl rfl rfl rfl rfl rfl (zaa rfl (zaa o1mhR6 (zaa o2mhR6 (zaa o3mhR6 zbe)))) rfl rfl rfl (zbc 1 rfl ?_)
 exact zak (zca (rs := [.cell 8 70, .tmp 9]) (vs := [.agg #[.int .i64 mhR6.ins, mhR6.sv, mhR6.av, mhR6.ov], .int .i64 zhR6]) (post := [bigE pshR6]) rfl ⟨⟨b3, 0, [.int .i64 mhR6.ins, mhR6.sv, mhR6.av, mhR6.ov], rfl, rfl, by kernel_rfl, by kernel_rfl, zah 2 rfl 0 rfl⟩, rfl, trivial⟩ rfl (slQ [1] rfl) ⟨pshR6, mhR6, _, rfl, rfl, hpmhR6, ⟨o1mhR6, o2mhR6, o3mhR6⟩, jn_yes cpmhR6 homhR6 (by omega)⟩)
theorem Ret.monoX {w : World} {R R' : Value → List HP → Prop} (h : ∀ u p, R u p → R' u p) : ∀ e w', Ret w R e w' → Ret w R' e w' := fun e w' ⟨v, post, h1, h2, h3⟩ => ⟨v, post, h1, h v post h2, h3⟩
theorem CpS.copy {n m : Nt} (c : CpS n m) : CopyOf (withG n m.gs) m := ⟨c.ins, rfl, c.os, c.ss⟩
theorem CpS.ok {n m : Nt} (c : CpS n m) (h : NtOk (withG n m.gs)) : NtOk m := c.copy.ok h
theorem CpS.fst {n m : Nt} (c : CpS n m) : m.fst = n.fst := c.copy.sk.fst
theorem CpS.refl (n : Nt) : CpS n n := ⟨rfl, rfl, rfl⟩
theorem CpS.trans {a b c : Nt} (h : CpS a b) (k : CpS b c) : CpS a c := ⟨k.ins.trans h.ins, k.os.trans h.os, k.ss.trans h.ss⟩
structure Gr (n m : Nt) : Prop where
  cp : CpS n m
  ok : NtOk m
  le : n.gs.length ≤ m.gs.length
theorem Gr.refl {n : Nt} (h : NtOk n) : Gr n n := ⟨CpS.refl n, h, Nat.le_refl _⟩
theorem Gr.trans {a b c : Nt} (h : Gr a b) (k : Gr b c) : Gr a c := ⟨h.cp.trans k.cp, k.ok, Nat.le_trans h.le k.le⟩
theorem Gr.fst {n m : Nt} (h : Gr n m) : m.fst = n.fst := h.cp.fst
theorem cnt_fst (n : Nt) : n.cnt = n.fst + n.gs.length := rfl
theorem Gr.cnt {n m : Nt} (h : Gr n m) : n.cnt ≤ m.cnt := by rw [cnt_fst, cnt_fst, h.fst]; have := h.le; omega
theorem zdw {n : Nt} (h : NtOk n) : 1 ≤ n.cnt ∧ n.cnt ≤ 400 := by
  have h1 := h.i0
  have h2 := h.i1
  have h3 := h.s1
  have h4 := h.a1
  have e : n.cnt = 1 + n.ins + n.ss.length + n.gs.length := rfl
  omega
def ES {α : Type} (b : Prop) (o : Option α) (a : α) : Prop := (¬ b ∧ o = some a) ∨ (b ∧ o = none)
section
variable {α β : Type} {b b0 b1 : Prop} {o : Option α} {a : α}
theorem ES.bind {f : α → Option β} {c : β} (h : ES b0 o a) (k : ¬ b0 → ES b1 (f a) c) (q : b0 → b1) : ES b1 (o.bind f) c := by
  rcases h with ⟨h1, rfl⟩ | ⟨h1, rfl⟩
  · exact k h1
  · exact .inr ⟨q h1, rfl⟩
theorem ES.map (f : α → β) (h : ES b o a) : ES b (o.map f) (f a) := by
  rcases h with ⟨h1, rfl⟩ | ⟨h1, rfl⟩
  · exact .inl ⟨h1, rfl⟩
  · exact .inr ⟨h1, rfl⟩
theorem ES.cng (e : b0 ↔ b1) (h : ES b0 o a) : ES b1 o a := h.imp (fun k => ⟨fun x => k.1 (e.2 x), k.2⟩) (fun k => ⟨e.1 k.1, k.2⟩)
theorem ES.pos (h : ES b o a) (k : ¬ b) : o = some a := h.elim (fun q => q.2) (fun q => absurd q.1 k)
theorem ES.neg (h : ES b o a) (k : b) : o = none := h.elim (fun q => absurd k q.1) (fun q => q.2)
theorem ES.yes (h : ES b o a) {r : α} (e : o = some r) : ¬ b ∧ r = a := by
  rcases h with ⟨h1, h2⟩ | ⟨h1, h2⟩
  · rw [h2] at e; cases e; exact ⟨h1, rfl⟩
  · rw [h2] at e; cases e
theorem ES.one {a : α} : ES False (some a) a := .inl ⟨id, rfl⟩
end
structure GtS (n m : Nt) (o : Option (List An × Int)) (z : Int) : Prop where
  gr : Gr n m
  es : ES (z < 0) o (m.gs, z)
  ln : z < 2 * m.cnt
theorem gts_of {n m : Nt} {o : Option (List An × Int)} {z : Int} {k : Nat} {f : List An × Int → (Int → Int) → Int} (hn : NtOk n) (c : CpS n m) (h : OpS n m o z) (hok : ∀ r, o = some r → AddOk n n.gs r.1 r.2 k (f r)) : GtS n m o z := by
  rcases h with e | ⟨e, hz, hg⟩
  · have q := hok _ e
    have hl := q.lit
    dsimp only at hl
    have e2 := cnt_fst m
    rw [c.fst] at e2
    exact ⟨⟨c, c.ok q.ok, q.len.1⟩, .inl ⟨by have := hl.1; omega, e⟩, by have := hl.2; omega⟩
  · have hm : NtOk m := c.ok (by rw [hg]; exact hn)
    exact ⟨⟨c, hm, by rw [hg]; exact Nat.le_refl _⟩, .inr ⟨hz, e⟩, by have := (zdw hm).1; omega⟩
theorem gts_and {n m : Nt} {a b z : Int} (hn : NtOk n) (c : CpS n m) (h : OpS n m (andO n.fst n.gs a b) z) : GtS n m (andO n.fst n.gs a b) z := gts_of (f := fun _ => fAnd a b) hn c h (fun r e => zfh (n := n) hn e)
theorem gts_or {n m : Nt} {a b z : Int} (hn : NtOk n) (c : CpS n m) (h : OpS n m (orO n.fst n.gs a b) z) : GtS n m (orO n.fst n.gs a b) z := gts_of (f := fun _ => fOr a b) hn c h (fun r e => orO_ok (n := n) hn e)
theorem gts_xor {n m : Nt} {a b z : Int} (hn : NtOk n) (c : CpS n m) (h : OpS n m (xorO n.fst n.gs a b) z) : GtS n m (xorO n.fst n.gs a b) z := gts_of (f := fun _ => fXor a b) hn c h (fun r e => xorO_ok (n := n) hn e)
theorem gts_mux {n m : Nt} {t a b z : Int} (hn : NtOk n) (hb : b < 0 ∨ LtOk b n.cnt) (c : CpS n m) (h : OpS n m (muxO n.fst n.gs t a b) z) : GtS n m (muxO n.fst n.gs t a b) z := by
  refine gts_of (k := 3) (f := fun _ => fMux t a b) hn c h (fun r e => ?_)
  rcases hb with hb | hb
  · exfalso
    unfold muxO at e
    obtain ⟨s, e1, e2⟩ := zdl e
    obtain ⟨u, e3, -⟩ := zdl e2
    have := (zfb e3).2.1; omega
  · exact muxO_ok (n := n) hn hb e
theorem xr_neg {a : Int} (h : a < 0) : xr a < 0 := by unfold xr; split <;> omega
theorem ntL_lt0 {a : Int} (h : a < 0) : ntL a < 0 := by rw [ntL_neg h]; omega
theorem andO_negl {f : Int} {gs : List An} {a b : Int} (h : a < 0) : andO f gs a b = none := zek (fun q => by have := q.1.1; omega)
theorem andO_negr {f : Int} {gs : List An} {a b : Int} (h : b < 0) : andO f gs a b = none := zek (fun q => by have := q.2.1; omega)
theorem andO_nr (f : Int) (gs : List An) (a b : Int) : andO f gs a (ntL b) = andO f gs a (xr b) := by
  by_cases hb : b < 0
  · rw [andO_negr (ntL_lt0 hb), andO_negr (xr_neg hb)]
  · rw [ntL_pos (by omega)]
theorem andO_nl (f : Int) (gs : List An) (a b : Int) : andO f gs (ntL a) b = andO f gs (xr a) b := by
  by_cases hb : a < 0
  · rw [andO_negl (ntL_lt0 hb), andO_negl (xr_neg hb)]
  · rw [ntL_pos (by omega)]
theorem and_ge {f : Int} {gs : List An} {a b z : Int} {g : List An} (h : ES (z < 0) (andO f gs a b) (g, z)) (hz : 0 ≤ z) : 0 ≤ a ∧ 0 ≤ b := by
  have e := zfb (h.pos (by omega)); exact ⟨e.1.1, e.2.1⟩
theorem or_ge {f : Int} {gs : List An} {a b z : Int} {g : List An} (h : ES (z < 0) (orO f gs a b) (g, z)) (hz : 0 ≤ z) : 0 ≤ a ∧ 0 ≤ b := by
  have e := orO_lits (h.pos (by omega)); exact ⟨e.1.1, e.2.1⟩
theorem xor_ge {f : Int} {gs : List An} {a b z : Int} {g : List An} (h : ES (z < 0) (xorO f gs a b) (g, z)) (hz : 0 ≤ z) : 0 ≤ a ∧ 0 ≤ b := by
  have e := zgg (h.pos (by omega)); exact ⟨e.1.1, e.2.1⟩
theorem muxO_ge {f : Int} {gs : List An} {t a b : Int} {r : List An × Int} (e : muxO f gs t a b = some r) : 0 ≤ t ∧ 0 ≤ a ∧ 0 ≤ b := by
  unfold muxO at e
  obtain ⟨s, e1, e2⟩ := zdl e
  obtain ⟨u, e3, -⟩ := zdl e2
  exact ⟨(zfb e1).1.1, (zfb e1).2.1, (zfb e3).2.1⟩
theorem mux_ge {f : Int} {gs : List An} {t a b z : Int} {g : List An} (h : ES (z < 0) (muxO f gs t a b) (g, z)) (hz : 0 ≤ z) : 0 ≤ t ∧ 0 ≤ a ∧ 0 ≤ b := muxO_ge (h.pos (by omega))
theorem pr_sim {n m1 m2 m : Nt} {a b c e p q z : Int} (g1 : GtS n m1 (andO n.fst n.gs a b) p) (g2 : GtS m1 m2 (andO m1.fst m1.gs c e) q) (j : JnS n m2 m (orO m2.fst m2.gs p q) z) : CpS n m ∧ OpS n m (prO n.fst n.gs a b c e) z := by
  have f1 := g1.gr.fst
  have f2 := g2.gr.fst
  have hk : ∀ r, prO n.fst n.gs a b c e = some r → orO m2.fst m2.gs p q = some r := fun r e0 => by
    unfold prO at e0
    obtain ⟨s, e1, e2⟩ := zdl e0
    obtain ⟨u, e3, e4⟩ := zdl e2
    obtain ⟨-, rfl⟩ := g1.es.yes e1
    rw [← f1] at e3
    obtain ⟨-, rfl⟩ := g2.es.yes e3
    rw [f2, f1]; exact e4
  rcases j with ⟨hc, ho⟩ | ⟨ho, hz, hc, hg⟩
  · refine ⟨(g1.gr.cp.trans g2.gr.cp).trans hc, .inl ?_⟩
    have hl := orO_lits ho
    have e1 := g1.es.pos (by have := hl.1.1; omega)
    have e2 := g2.es.pos (by have := hl.2.1; omega)
    unfold prO; rw [e1]; show (andO n.fst m1.gs c e).bind _ = _
    rw [← f1, e2]; show orO m1.fst m2.gs p q = _
    rw [← f2]; exact ho
  · refine ⟨hc, .inr ⟨?_, hz, hg⟩⟩
    cases h9 : prO n.fst n.gs a b c e with
    | none => rfl
    | some r => rw [hk r h9] at ho; cases ho
theorem xor_sim {n m1 m2 m : Nt} {a b p q z : Int} (g1 : GtS n m1 (andO n.fst n.gs a (ntL b)) p) (g2 : GtS m1 m2 (andO m1.fst m1.gs (ntL a) b) q) (j : JnS n m2 m (orO m2.fst m2.gs p q) z) : CpS n m ∧ OpS n m (xorO n.fst n.gs a b) z := by
  rw [andO_nr] at g1; rw [andO_nl] at g2; exact pr_sim g1 g2 j
theorem mux_sim {n m1 m2 m : Nt} {t a b p q z : Int} (g1 : GtS n m1 (andO n.fst n.gs t a) p) (g2 : GtS m1 m2 (andO m1.fst m1.gs (ntL t) b) q) (j : JnS n m2 m (orO m2.fst m2.gs p q) z) : CpS n m ∧ OpS n m (muxO n.fst n.gs t a b) z := by
  rw [andO_nl] at g2; exact pr_sim g1 g2 j
theorem mux_none {f : Int} {gs : List An} {t a b : Int} (h : ¬ ((0 ≤ t ∧ 0 ≤ a) ∧ 0 ≤ b)) : muxO f gs t a b = none := by
  cases h9 : muxO f gs t a b with
  | none => rfl
  | some r => have := muxO_ge h9; omega
theorem zha {xs : List Int} {z : Int} : PosL (xs ++ [z]) ↔ PosL xs ∧ 0 ≤ z := by
  constructor
  · intro h
    refine ⟨fun k hk => ?_, ?_⟩
    · have := h k (by rw [List.length_append, List.length_singleton]; omega)
      rw [List.getD_eq_getElem?_getD, List.getElem?_append_left hk, ← List.getD_eq_getElem?_getD] at this; exact this
    · have := h xs.length (by rw [List.length_append, List.length_singleton]; omega)
      rw [List.getD_eq_getElem?_getD, List.getElem?_append_right (Nat.le_refl _), Nat.sub_self] at this; exact this
  · rintro ⟨h, hz⟩ k hk
    rw [List.length_append, List.length_singleton] at hk
    rcases Nat.lt_or_ge k xs.length with h9 | h9
    · rw [List.getD_eq_getElem?_getD, List.getElem?_append_left h9, ← List.getD_eq_getElem?_getD]; exact h k h9
    · have e : k = xs.length := by omega
      subst e
      rw [List.getD_eq_getElem?_getD, List.getElem?_append_right (Nat.le_refl _), Nat.sub_self]; exact hz
theorem posL_nil : PosL [] := fun k hk => absurd hk (Nat.not_lt_zero _)
theorem npos_app {xs : List Int} {z : Int} (h : PosL xs) : z < 0 ↔ ¬ PosL (xs ++ [z]) := by
  rw [zha]; constructor
  · intro h1 h2; omega
  · intro h1; exact Int.not_le.1 (fun h2 => h1 ⟨h, h2⟩)
theorem npos_keep {xs : List Int} {z : Int} (h : ¬ PosL xs) : ¬ PosL (xs ++ [z]) := fun q => h (zha.1 q).1
theorem not_not {p : Prop} (h : ¬ ¬ p) : p := Classical.not_not.1 h
section
variable {f : Int} {A B : List Int} {k W : Nat} {g0 gn g1 g2 g3 g4 g5 : List An} {out : List Int}
theorem es_bw {op : List An → Int → Int → Option (List An × Int)} {z : Int} (h : ES (¬ PosL out) (itO (bwS op A B) (g0, []) k) (gn, out)) (g : ES (z < 0) (op gn (A.getD k 0) (B.getD k 0)) (g1, z)) : ES (¬ PosL (out ++ [z])) (itO (bwS op A B) (g0, []) (k + 1)) (g1, out ++ [z]) :=
  h.bind (fun hp => ES.cng (npos_app (not_not hp)) (g.map (fun (r : List An × Int) => ((r.1, out ++ [r.2]) : GL)))) npos_keep
theorem es_mx {e z : Int} (h : ES (¬ PosL out) (itO (mxS f e A B) (g0, []) k) (gn, out)) (g : ES (z < 0) (muxO f gn e (A.getD k 0) (B.getD k 0)) (g1, z)) : ES (¬ PosL (out ++ [z])) (itO (mxS f e A B) (g0, []) (k + 1)) (g1, out ++ [z]) :=
  h.bind (fun hp => ES.cng (npos_app (not_not hp)) (g.map (fun (r : List An × Int) => ((r.1, out ++ [r.2]) : GL)))) npos_keep
theorem es_or {e0 e z : Int} (h : ES (e < 0) (itO (orS f A) (g0, e0) k) (gn, e)) (g : ES (z < 0) (orO f gn e (A.getD k 0)) (g1, z)) : ES (z < 0) (itO (orS f A) (g0, e0) (k + 1)) (g1, z) :=
  h.bind (fun _ => g) (fun q => Int.not_le.1 (fun h9 => by have := (or_ge g h9).1; omega))
theorem es_eq {e0 e x z : Int} (h : ES (e < 0) (itO (eqS f A B) (g0, e0) k) (gn, e)) (p : ES (x < 0) (xorO f gn (A.getD k 0) (B.getD k 0)) (g1, x)) (g : ES (z < 0) (andO f g1 e (ntL x)) (g2, z)) : ES (z < 0) (itO (eqS f A B) (g0, e0) (k + 1)) (g2, z) :=
  h.bind (fun _ => p.bind (fun _ => by rw [andO_nr] at g; exact g) (fun q => Int.not_le.1 (fun h9 => by have := (and_ge g h9).2; have := ntL_lt0 q; omega))) (fun q => Int.not_le.1 (fun h9 => by have := (and_ge g h9).1; omega))
theorem es_ls {e0 e x z : Int} (h : ES (e < 0) (itO (lsS f A B) (g0, e0) k) (gn, e)) (p : ES (x < 0) (xorO f gn (A.getD k 0) (B.getD k 0)) (g1, x)) (g : ES (z < 0) (muxO f g1 x (B.getD k 0) e) (g2, z)) : ES (z < 0) (itO (lsS f A B) (g0, e0) (k + 1)) (g2, z) :=
  h.bind (fun _ => p.bind (fun _ => g) (fun q => Int.not_le.1 (fun h9 => by have := (mux_ge g h9).1; omega))) (fun q => Int.not_le.1 (fun h9 => by have := (mux_ge g h9).2.2; omega))
theorem es_last {c0 c x s : Int} (hk : k + 1 = W) (h : ES (¬ (PosL out ∧ 0 ≤ c)) (itO (sumS f A B W) ((g0, []), c0) k) ((gn, out), c)) (p : ES (x < 0) (xorO f gn (A.getD k 0) (B.getD k 0)) (g1, x)) (g : ES (s < 0) (xorO f g1 x c) (g2, s)) :
    ES (¬ PosL (out ++ [s])) (itO (sumS f A B W) ((g0, []), c0) W) ((g2, out ++ [s]), c) := by
  subst hk
  refine h.bind (fun hp => ?_) (fun q => ?_)
  · have hp := not_not hp
    refine ES.cng (npos_app hp.1) (p.bind (fun _ => g.bind (fun hs => ?_) id) (fun q => Int.not_le.1 (fun h9 => by have := (xor_ge g h9).1; omega)))
    dsimp only; rw [if_pos rfl]; exact .inl ⟨hs, rfl⟩
  · intro h9
    have h8 := zha.1 h9
    exact q ⟨h8.1, (xor_ge g h8.2).2⟩
theorem es_sum {c0 c x s p q r : Int} (hk : k + 1 ≠ W) (h : ES (¬ (PosL out ∧ 0 ≤ c)) (itO (sumS f A B W) ((g0, []), c0) k) ((gn, out), c)) (h1 : ES (x < 0) (xorO f gn (A.getD k 0) (B.getD k 0)) (g1, x)) (h2 : ES (s < 0) (xorO f g1 x c) (g2, s)) (h3 : ES (p < 0) (andO f g2 (A.getD k 0) (B.getD k 0)) (g3, p)) (h4 : ES (q < 0) (andO f g3 x c) (g4, q)) (h5 : ES (r < 0) (orO f g4 p q) (g5, r)) :
    ES (¬ (PosL (out ++ [s]) ∧ 0 ≤ r)) (itO (sumS f A B W) ((g0, []), c0) (k + 1)) ((g5, out ++ [s]), r) := by
  refine h.bind (fun hp => ?_) (fun q9 => ?_)
  · have hp := not_not hp
    refine h1.bind (fun _ => h2.bind (fun hs => ?_) (fun q9 h9 => ?_)) (fun q9 h9 => ?_)
    · dsimp only; rw [if_neg hk]
      refine h3.bind (fun _ => h4.bind (fun _ => ES.cng ?_ (h5.map _)) (fun q9 h9 => ?_)) (fun q9 h9 => ?_)
      · rw [zha]; constructor
        · intro h6 h7; omega
        · intro h6; exact Int.not_le.1 (fun h7 => h6 ⟨⟨hp.1, by omega⟩, h7⟩)
      · have := (or_ge h5 h9.2).2; omega
      · have := (or_ge h5 h9.2).1; omega
    · have := (zha.1 h9.1).2; omega
    · have := (xor_ge h2 (zha.1 h9.1).2).1; omega
  · intro h9
    have h8 := zha.1 h9.1
    exact q9 ⟨h8.1, (xor_ge h2 h8.2).2⟩
end
theorem posL_lone {W : Nat} {e : Int} : PosL (loneL W e) ↔ 0 ≤ e := by
  constructor
  · intro h; exact h 0 (by unfold loneL; simp)
  · intro h k hk
    unfold loneL
    cases k with
    | zero => exact h
    | succ k =>
      show 0 ≤ (List.replicate (W - 1) (0 : Int)).getD k 0
      rw [List.getD_eq_getElem?_getD, List.getElem?_replicate]; split <;> simp
theorem es_lone {e : Int} {W : Nat} {o : Option (List An × Int)} {g : List An} (h : ES (e < 0) o (g, e)) : ES (¬ PosL (loneL W e)) (o.map fun r => ((r.1, loneL W r.2) : GL)) (g, loneL W e) := ES.cng (by rw [posL_lone]; omega) (h.map (fun r => ((r.1, loneL W r.2) : GL)))
theorem zfo {σ : Type} {step : Nat → σ → Option σ} {P : Nat → Prop} (hs : ∀ k s r, step k s = some r → P k) : ∀ (n : Nat) {s r : σ}, itO step s n = some r → ∀ k, k < n → P k
  | 0, s, r, _, k, hk => absurd hk (Nat.not_lt_zero _)
  | n + 1, s, r, e, k, hk => by
    obtain ⟨u, e1, e2⟩ := zdl e
    rcases Nat.lt_or_ge k n with h | h
    · exact zfo hs n e1 k h
    · have : k = n := by omega
      subst this; exact hs _ _ _ e2
theorem two_pos {f kd : Int} {A B : List Int} {W : Nat} {g : List An} {r : GL} (e : twO f kd A B W g = some r) : ∀ k, k < W → 0 ≤ A.getD k 0 ∧ 0 ≤ B.getD k 0 := by
  unfold twO at e
  split at e
  · exact zfo (fun k s r h => by obtain ⟨u, h1, -⟩ := zep h; have := zfb h1; exact ⟨this.1.1, this.2.1⟩) W e
  · split at e
    · exact zfo (fun k s r h => by obtain ⟨u, h1, -⟩ := zep h; have := orO_lits h1; exact ⟨this.1.1, this.2.1⟩) W e
    · split at e
      · exact zfo (fun k s r h => by obtain ⟨u, h1, -⟩ := zep h; have := zgg h1; exact ⟨this.1.1, this.2.1⟩) W e
      · split at e
        · obtain ⟨u, e1, -⟩ := zep e
          exact zfo (fun k s r h => by obtain ⟨u, h1, -⟩ := zdl h; have := zgg h1; exact ⟨this.1.1, this.2.1⟩) W e1
        · split at e
          · obtain ⟨u, e1, -⟩ := zep e
            intro k hk
            have h0 := zfo (P := fun k => 0 ≤ A.getD k 0 ∧ 0 ≤ (B.map xr).getD k 0) (fun k s r h => by obtain ⟨u, h1, -⟩ := zdl h; have := zgg h1; exact ⟨this.1.1, this.2.1⟩) W e1 k hk
            refine ⟨h0.1, ?_⟩
            rcases Nat.lt_or_ge k B.length with h9 | h9
            · have e9 : (B.map xr).getD k 0 = xr (B.getD k 0) := by rw [List.getD_eq_getElem?_getD, List.getElem?_map, List.getD_eq_getElem?_getD, List.getElem?_eq_getElem h9]; rfl
              rw [e9] at h0
              exact Int.not_lt.1 (fun h8 => by have := xr_neg h8; have := h0.2; omega)
            · rw [zem h9]; exact Int.le_refl _
          · split at e
            · obtain ⟨u, e1, -⟩ := zep e
              exact zfo (fun k s r h => by obtain ⟨u, h1, -⟩ := zdl h; have := zgg h1; exact ⟨this.1.1, this.2.1⟩) W e1
            · obtain ⟨u, e1, -⟩ := zep e
              exact zfo (fun k s r h => by obtain ⟨u, h1, -⟩ := zdl h; have := zgg h1; exact ⟨this.1.1, this.2.1⟩) W e1
theorem mx_pos {f e : Int} {A B : List Int} {W : Nat} {g : List An} {r : GL} (h : itO (mxS f e A B) (g, []) W = some r) : ∀ k, k < W → 0 ≤ e ∧ 0 ≤ A.getD k 0 ∧ 0 ≤ B.getD k 0 := zfo (fun k s r h => by obtain ⟨u, h1, -⟩ := zep h; exact muxO_ge h1) W h
theorem or_pos {f : Int} {A : List Int} {W : Nat} {g : List An} {e0 : Int} {r : List An × Int} (h : itO (orS f A) (g, e0) W = some r) : ∀ k, k < W → 0 ≤ A.getD k 0 := zfo (step := orS f A) (fun k s r h => (orO_lits (show orO f s.1 s.2 (A.getD k 0) = some r from h)).2.1) W h
theorem rd_or {n m : Nt} {ps : List HP} {w : World} (h : m = n ∨ ∀ w, (bigE ps).holds w → RdsNt w m) (hr : RdsNt w n) (hp : (bigE ps).holds w) : RdsNt w m := by
  rcases h with rfl | h
  · exact hr
  · exact h w hp
abbrev GP9 (n : Nt) (o : Option (List An × Int)) (u_ : Value) (p_ : List HP) : Prop := ∃ (ps : List HP) (m : Nt) (z : Int), u_ = .tuple #[m.agg, .int .i64 z] ∧ p_ = [bigE ps] ∧ (∀ w, (bigE ps).holds w → RdsNt w m) ∧ (m.sv.oneCell' = true ∧ m.av.oneCell' = true ∧ m.ov.oneCell' = true) ∧ GtS n m o z
theorem zcy {a m : Int} (hm : 1 ≤ m) (h : a < 2 * m) : ntL a < 2 * m := by unfold ntL xr; split <;> (try split) <;> omega
theorem zex (n : Nt) (x y : Int) (w : World) (hr : RdsNt w n) (hn : NtOk n) (hx : x < 2 * n.cnt) (hy : y < 2 * n.cnt) : Calls Try.prog 161 #[.agg #[.int .i64 n.ins, n.sv, n.av, n.ov], .int .i64 x, .int .i64 y] w (Ret w (fun u_ p_ => GP9 n (andO n.fst n.gs x y) u_ p_)) :=
  (AddAndX_ret n x y w hr hn (by have := zdw hn; omega) (by have := zdw hn; omega)).mono (Ret.monoX fun u p ⟨ps, m, z, h1, h2, h3, h4, h5, h6⟩ => ⟨ps, m, z, h1, h2, h3, h4, gts_and hn h5 h6⟩)
theorem AddOrG_ret (n : Nt) (x y : Int) (w : World) (hr : RdsNt w n) (hn : NtOk n) (hx : x < 2 * n.cnt) (hy : y < 2 * n.cnt) : Calls Try.prog 131 #[.agg #[.int .i64 n.ins, n.sv, n.av, n.ov], .int .i64 x, .int .i64 y] w (Ret w (fun u_ p_ => GP9 n (orO n.fst n.gs x y) u_ p_)) :=
  (AddOrX_ret n x y w hr hn (by have := zdw hn; omega) (by have := zdw hn; omega)).mono (Ret.monoX fun u p ⟨ps, m, z, h1, h2, h3, h4, h5, h6⟩ => ⟨ps, m, z, h1, h2, h3, h4, gts_or hn h5 h6⟩)
theorem zhc {x m : Int} (h : ¬ LtOk x m) (hx : x < 2 * m) : x < 0 := by unfold LtOk at h; omega
theorem zgj (n : Nt) (x y : Int) (w : World) (hr : RdsNt w n) (hn : NtOk n) (hx : x < 2 * n.cnt) (hy : y < 2 * n.cnt) :
   Calls Try.prog 160 #[.agg #[.int .i64 n.ins, n.sv, n.av, n.ov], .int .i64 x, .int .i64 y] w (Ret w (fun u_ p_ => GP9 n (xorO n.fst n.gs x y) u_ p_)) := by
 have hi0 := hn.i0
 have hi1 := hn.i1
 have hs1 := hn.s1
 have ha1 := hn.a1
 have ho1 := hn.o1
 have hcnt : n.cnt = 1 + n.ins + n.ss.length + n.gs.length := rfl
 have hfst : n.fst = 1 + n.ins + n.ss.length := rfl
 have hcr := zdw hn
 refine zbq (N := 34) (args := [.agg #[.int .i64 n.ins, n.sv, n.av, n.ov], .int .i64 x, .int .i64 y]) Try.func160 rfl rfl (srQ ?_)
 refine zed rfl (zdh rfl rfl) ?_
 intro b1
 refine zed rfl (zcc (z := .agg #[.int .i64 0, .slice none 0 0, .slice none 0 0, .slice none 0 0]) rfl rfl) ?_
 intro b2
 refine zbc 1 rfl (zac ?_)
 refine zdq (l := [eB9 b2, nB9 b1 n]) rfl 10 [0, 1, 2, 3, 4, 5, 6, 7, 8, 9] (List.take 10 _) (List.drop 10 _) [[], [], [], [2], [0, 1, 3], [4], [4, 5], [4, 5], [], [4, 6, 8]] [some 12, some 13, some 14, some 15, some 16, some 11, some 17, some 18, some 8, none] (fun i_ vs_ v_ p_ => match i_ with | 0 => v_ = .agg #[.int .i64 n.ins, n.sv, n.av, n.ov] ∧ p_ = [] | 1 => v_ = .int .i64 x ∧ p_ = [] | 2 => v_ = .int .i64 y ∧ p_ = [] | 3 => v_ = .int .i64 (ntL y) ∧ p_ = [] | 4 => (fun u_ p_ => GP9 n (andO n.fst n.gs x (ntL y)) u_ p_) v_ p_ | 5 => v_ = .tuple #[.agg #[.int .i64 (intOf_o (ag9 0 (tp9 0 (gV9 vs_ 0)))), (ag9 1 (tp9 0 (gV9 vs_ 0))), (ag9 2 (tp9 0 (gV9 vs_ 0))), (ag9 3 (tp9 0 (gV9 vs_ 0)))], .int .i64 (intOf_o (tp9 1 (gV9 vs_ 0)))] ∧ p_ = [] | 6 => v_ = .agg #[.int .i64 (intOf_o (ag9 0 (tp9 0 (gV9 vs_ 0)))), (ag9 1 (tp9 0 (gV9 vs_ 0))), (ag9 2 (tp9 0 (gV9 vs_ 0))), (ag9 3 (tp9 0 (gV9 vs_ 0)))] ∧ p_ = [] | 7 => v_ = .int .i64 (intOf_o (tp9 1 (gV9 vs_ 0))) ∧ p_ = [] | 8 => IsBox #[.int .i64 0, .slice none 0 0, .slice none 0 0, .slice none 0 0] 70 v_ p_ | 9 => p_ = [boxE (blkOf (gV9 vs_ 2)) #[.int .i64 (intOf_o (ag9 0 (tp9 0 (gV9 vs_ 0)))), (ag9 1 (tp9 0 (gV9 vs_ 0))), (ag9 2 (tp9 0 (gV9 vs_ 0))), (ag9 3 (tp9 0 (gV9 vs_ 0)))] 70] | _ => True) [[], [], [], [2], [0, 1, 3], [4], [4, 5], [4, 5], [], [4, 6]] [none, none, none, none, none, none, none, none, none, some 8] [] [0, 1, 2, 3, 4, 5, 6, 7, 9] 11 (List.take_append_drop 10 _).symm (by kernel_rfl) (by kernel_rfl) (by kernel_rfl) rfl rfl ?_ ?_
 ·
  refine ⟨?_, ?_, ?_, ?_, ?_, ?_, ?_, ?_, ?_, ?_, trivial⟩
  ·
   intro vf pf hmu hR
   refine zce [] [] rfl (zaq (zae [3] rfl) (List.sublist_append_right _ _) ?_)
   exact zbi (zar (cs := [.int .i64 n.ins, n.sv, n.av, n.ov]) rfl rfl rfl rfl rfl (zah 1 rfl 0 rfl))
  ·
   intro vf pf hmu hR
   refine zce [] [] rfl (zay (zae [1] rfl) ?_)
   exact zbi (zax rfl)
  ·
   intro vf pf hmu hR
   refine zce [] [] rfl (zay (zae [2] rfl) ?_)
   exact zbi (zax rfl)
  ·
   intro vf pf hmu hR
   have e2 := hR 2 (by decide)
   refine zce [2] [2] rfl (zaq (sk 14 (congrArg some e2.1) (zab _)) (List.sublist_append_right _ _) ?_)
   exact (zam rfl rfl (fun w hm => zbb (zfl y w (by omega))))
  ·
   intro vf pf hmu hR
   have e0 := hR 0 (by decide)
   have e1 := hR 1 (by decide)
   have e3 := hR 3 (by decide)
   refine zce [0, 1, 3] [0, 1, 3] rfl (zaq (sk 12 (congrArg some e0.1) (sk 13 (congrArg some e1.1) (sk 15 (congrArg some e3.1) (zab _)))) (List.sublist_append_right _ _) ?_)
   exact zam rfl rfl (fun w hm => zex n x (ntL y) w (hr.below hm.bel) hn (by first | omega | exact zcy (by omega) (by omega)) (by first | omega | exact zcy (by omega) (by omega)))
  ·
   intro vf pf hmu hR
   have e4 : (fun u_ p_ => GP9 n (andO n.fst n.gs x (ntL y)) u_ p_) (vf 4) (pf 4) := hR 4 (by decide)
   obtain ⟨v3, vE4⟩ : ∃ x, vf 4 = x := ⟨_, rfl⟩
   obtain ⟨p4, pE4⟩ : ∃ x, pf 4 = x := ⟨_, rfl⟩
   have hR5 := e4
   rw [vE4, pE4] at hR5
   obtain ⟨pshR5, mhR5, zhR5, rfl, rfl, hpmhR5, ⟨o1mhR5, o2mhR5, o3mhR5⟩, gmhR5⟩ := hR5
   have lmhR5 := gmhR5.ln
   have cmhR5 := gmhR5.gr.cnt
   have rmhR5 := zdw gmhR5.gr.ok
   refine zce [4] [4] rfl (zbg (sk 16 (congrArg some vE4) (zab _)) (by simp only [pE4, vE4, fS] <;> rfl) ?_)
   exact zbo (zbi (zax rfl)) (fun _ _ h => ⟨h.1.trans (by show _ = (.tuple #[.agg #[.int .i64 (intOf_o (ag9 0 (tp9 0 (vf 4)))), (ag9 1 (tp9 0 (vf 4))), (ag9 2 (tp9 0 (vf 4))), (ag9 3 (tp9 0 (vf 4)))], .int .i64 (intOf_o (tp9 1 (vf 4)))] : Value); first | (rw [vE4]; done) | (rw [vE4]; rfl)), h.2⟩)
  ·
   intro vf pf hmu hR
   have e4 : (fun u_ p_ => GP9 n (andO n.fst n.gs x (ntL y)) u_ p_) (vf 4) (pf 4) := hR 4 (by decide)
   obtain ⟨v3, vE4⟩ : ∃ x, vf 4 = x := ⟨_, rfl⟩
   obtain ⟨p4, pE4⟩ : ∃ x, pf 4 = x := ⟨_, rfl⟩
   have hR5 := e4
   rw [vE4, pE4] at hR5
   obtain ⟨pshR5, mhR5, zhR5, rfl, rfl, hpmhR5, ⟨o1mhR5, o2mhR5, o3mhR5⟩, gmhR5⟩ := hR5
   have lmhR5 := gmhR5.ln
   have cmhR5 := gmhR5.gr.cnt
   have rmhR5 := zdw gmhR5.gr.ok
   have e5 : (vf 5) = .tuple #[.agg #[.int .i64 (intOf_o (ag9 0 (tp9 0 (vf 4)))), (ag9 1 (tp9 0 (vf 4))), (ag9 2 (tp9 0 (vf 4))), (ag9 3 (tp9 0 (vf 4)))], .int .i64 (intOf_o (tp9 1 (vf 4)))] ∧ (pf 5) = [] := hR 5 (by decide)
   rw [vE4] at e5
   refine zce [4, 5] [4, 5] rfl (zbg (sk 11 (congrArg some e5.1) (zab _)) (by simp only [pE4, vE4, e5.2, fS] <;> rfl) ?_)
   exact zbo (zbi (zax rfl)) (fun _ _ h => ⟨h.1.trans (by show _ = (.agg #[.int .i64 (intOf_o (ag9 0 (tp9 0 (vf 4)))), (ag9 1 (tp9 0 (vf 4))), (ag9 2 (tp9 0 (vf 4))), (ag9 3 (tp9 0 (vf 4)))] : Value); first | (rw [vE4]; done) | (rw [vE4]; rfl)), h.2⟩)
  ·
   intro vf pf hmu hR
   have e4 : (fun u_ p_ => GP9 n (andO n.fst n.gs x (ntL y)) u_ p_) (vf 4) (pf 4) := hR 4 (by decide)
   obtain ⟨v3, vE4⟩ : ∃ x, vf 4 = x := ⟨_, rfl⟩
   obtain ⟨p4, pE4⟩ : ∃ x, pf 4 = x := ⟨_, rfl⟩
   have hR5 := e4
   rw [vE4, pE4] at hR5
   obtain ⟨pshR5, mhR5, zhR5, rfl, rfl, hpmhR5, ⟨o1mhR5, o2mhR5, o3mhR5⟩, gmhR5⟩ := hR5
   have lmhR5 := gmhR5.ln
   have cmhR5 := gmhR5.gr.cnt
   have rmhR5 := zdw gmhR5.gr.ok
   have e5 : (vf 5) = .tuple #[.agg #[.int .i64 (intOf_o (ag9 0 (tp9 0 (vf 4)))), (ag9 1 (tp9 0 (vf 4))), (ag9 2 (tp9 0 (vf 4))), (ag9 3 (tp9 0 (vf 4)))], .int .i64 (intOf_o (tp9 1 (vf 4)))] ∧ (pf 5) = [] := hR 5 (by decide)
   rw [vE4] at e5
   refine zce [4, 5] [4, 5] rfl (zbg (sk 11 (congrArg some e5.1) (zab _)) (by simp only [pE4, vE4, e5.2, fS] <;> rfl) ?_)
   exact zbo (zbi (zax rfl)) (fun _ _ h => ⟨h.1.trans (by show _ = (.int .i64 (intOf_o (tp9 1 (vf 4))) : Value); first | (rw [vE4]; done) | (rw [vE4]; rfl)), h.2⟩)
  ·
   intro vf pf hmu hR
   refine zce [] [] rfl (zaq (zab _) (List.sublist_append_right _ _) ?_)
   exact zcc (z := .agg #[.int .i64 0, .slice none 0 0, .slice none 0 0, .slice none 0 0]) rfl rfl
  intro vf pf hmu hR
  have e4 : (fun u_ p_ => GP9 n (andO n.fst n.gs x (ntL y)) u_ p_) (vf 4) (pf 4) := hR 4 (by decide)
  obtain ⟨v3, vE4⟩ : ∃ x, vf 4 = x := ⟨_, rfl⟩
  obtain ⟨p4, pE4⟩ : ∃ x, pf 4 = x := ⟨_, rfl⟩
  have hR5 := e4
  rw [vE4, pE4] at hR5
  obtain ⟨pshR5, mhR5, zhR5, rfl, rfl, hpmhR5, ⟨o1mhR5, o2mhR5, o3mhR5⟩, gmhR5⟩ := hR5
  have lmhR5 := gmhR5.ln
  have cmhR5 := gmhR5.gr.cnt
  have rmhR5 := zdw gmhR5.gr.ok
  have e6 : (vf 6) = .agg #[.int .i64 (intOf_o (ag9 0 (tp9 0 (vf 4)))), (ag9 1 (tp9 0 (vf 4))), (ag9 2 (tp9 0 (vf 4))), (ag9 3 (tp9 0 (vf 4)))] ∧ (pf 6) = [] := hR 6 (by decide)
  rw [vE4] at e6
  have e8 : IsBox #[.int .i64 0, .slice none 0 0, .slice none 0 0, .slice none 0 0] 70 (vf 8) (pf 8) := hR 8 (by decide)
  obtain ⟨b6, vE8, pE8⟩ := e8
  refine Or.inl ⟨rfl, ?_⟩
  show RunM _ _ _ (pf 8) (([4, 6] : List Nat).flatMap pf ++ _) (envOf3 _ vf [4, 6, 8] ++ _) _ _
  rw [pE8]
  exact zbx (sk 8 (congrArg some vE8) (sk 17 (congrArg some e6.1) (zab _))) (by simp only [pE4, vE4, e6.2, fS] <;> rfl) (zel (zcs (us := [.int .i64 mhR5.ins, mhR5.sv, mhR5.av, mhR5.ov]) (off := 0) 0 rfl rfl rfl rfl rfl rfl (zaa rfl (zaa o1mhR5 (zaa o2mhR5 (zaa o3mhR5 zbe)))) rfl rfl) (fun v_ p_ h => by show p_ = [boxE (blkOf (vf 8)) #[.int .i64 (intOf_o (ag9 0 (tp9 0 (vf 4)))), (ag9 1 (tp9 0 (vf 4))), (ag9 2 (tp9 0 (vf 4))), (ag9 3 (tp9 0 (vf 4)))] 70]; rw [vE4, vE8]; exact h))
 intro vf pf hmu hR
 have e4 : (fun u_ p_ => GP9 n (andO n.fst n.gs x (ntL y)) u_ p_) (vf 4) (pf 4) := hR 4 (by decide)
 obtain ⟨v3, vE4⟩ : ∃ x, vf 4 = x := ⟨_, rfl⟩
 obtain ⟨p4, pE4⟩ : ∃ x, pf 4 = x := ⟨_, rfl⟩
 have hR5 := e4
 rw [vE4, pE4] at hR5
 obtain ⟨pshR5, mhR5, zhR5, rfl, rfl, hpmhR5, ⟨o1mhR5, o2mhR5, o3mhR5⟩, gmhR5⟩ := hR5
 have lmhR5 := gmhR5.ln
 have cmhR5 := gmhR5.gr.cnt
 have rmhR5 := zdw gmhR5.gr.ok
 have e7 : (vf 7) = .int .i64 (intOf_o (tp9 1 (vf 4))) ∧ (pf 7) = [] := hR 7 (by decide)
 rw [vE4] at e7
 have e8 : IsBox #[.int .i64 0, .slice none 0 0, .slice none 0 0, .slice none 0 0] 70 (vf 8) (pf 8) := hR 8 (by decide)
 obtain ⟨b6, vE8, pE8⟩ := e8
 have e9 : (pf 9) = [boxE (blkOf (vf 8)) #[.int .i64 (intOf_o (ag9 0 (tp9 0 (vf 4)))), (ag9 1 (tp9 0 (vf 4))), (ag9 2 (tp9 0 (vf 4))), (ag9 3 (tp9 0 (vf 4)))] 70] := hR 9 (by decide)
 rw [vE4, vE8] at e9
 have pE9 := e9
 have q0 := hR 0 (by decide)
 have q1 := hR 1 (by decide)
 have q2 := hR 2 (by decide)
 have q3 := hR 3 (by decide)
 have q5 := hR 5 (by decide)
 have q6 := hR 6 (by decide)
 have q7 := hR 7 (by decide)
 refine zcd (zbs [7, 6, 3, 2, 1, 0] _ (sk 8 (congrArg some vE8) (sk 18 (congrArg some e7.1) (zab _))) rfl) (by simp only [pE4, vE4, pE9, q0.2, q1.2, q2.2, q3.2, q5.2, q6.2, q7.2, fS] <;> rfl) ?_
 simp only [List.drop_succ_cons, List.drop_zero]
 refine zbc 1 rfl (zac ?_)
 refine zdo 4 [3, 2, 0, 1] rfl rfl (by decide) ?_
 refine zdq (l := [bigE pshR5, eB9 b2, nB9 b1 n]) rfl 9 [0, 1, 2, 3, 4, 5, 6, 7, 8] (List.take 9 _) (List.drop 9 _) [[], [], [1], [], [0, 2, 3], [4], [4, 5], [4, 5], [4, 6]] [some 20, some 21, some 22, some 23, some 24, some 19, some 25, some 26, none] (fun i_ vs_ v_ p_ => match i_ with | 0 => v_ = .agg #[.int .i64 mhR5.ins, mhR5.sv, mhR5.av, mhR5.ov] ∧ p_ = [] | 1 => v_ = .int .i64 x ∧ p_ = [] | 2 => v_ = .int .i64 (ntL x) ∧ p_ = [] | 3 => v_ = .int .i64 y ∧ p_ = [] | 4 => (fun u_ p_ => GP9 mhR5 (andO mhR5.fst mhR5.gs (ntL x) y) u_ p_) v_ p_ | 5 => v_ = .tuple #[.agg #[.int .i64 (intOf_o (ag9 0 (tp9 0 (gV9 vs_ 0)))), (ag9 1 (tp9 0 (gV9 vs_ 0))), (ag9 2 (tp9 0 (gV9 vs_ 0))), (ag9 3 (tp9 0 (gV9 vs_ 0)))], .int .i64 (intOf_o (tp9 1 (gV9 vs_ 0)))] ∧ p_ = [] | 6 => v_ = .agg #[.int .i64 (intOf_o (ag9 0 (tp9 0 (gV9 vs_ 0)))), (ag9 1 (tp9 0 (gV9 vs_ 0))), (ag9 2 (tp9 0 (gV9 vs_ 0))), (ag9 3 (tp9 0 (gV9 vs_ 0)))] ∧ p_ = [] | 7 => v_ = .int .i64 (intOf_o (tp9 1 (gV9 vs_ 0))) ∧ p_ = [] | 8 => p_ = [boxE b6 #[.int .i64 (intOf_o (ag9 0 (tp9 0 (gV9 vs_ 0)))), (ag9 1 (tp9 0 (gV9 vs_ 0))), (ag9 2 (tp9 0 (gV9 vs_ 0))), (ag9 3 (tp9 0 (gV9 vs_ 0)))] 70] | _ => True) [[10], [], [1], [], [0, 2, 3], [4], [4, 5], [4, 5], [4, 6]] [none, none, none, none, none, none, none, none, some 10] [[nB9 b6 mhR5]] [0, 1, 2, 3, 4, 5, 6, 7, 8] 10 (List.take_append_drop 9 _).symm (by kernel_rfl) (by kernel_rfl) (by kernel_rfl) rfl rfl ?_ ?_
 ·
  refine ⟨?_, ?_, ?_, ?_, ?_, ?_, ?_, ?_, ?_, trivial⟩
  ·
   intro vf pf hmu hR
   refine zce [10] [] rfl ?_
   have hmu0 : pf 10 = [nB9 b6 mhR5] := hmu 0 (show 0 < 1 by omega)
   exact zbg (zae [8] rfl) (by simp only [hmu0, fS] <;> rfl) (zbi (zar (cs := [.int .i64 mhR5.ins, mhR5.sv, mhR5.av, mhR5.ov]) rfl rfl rfl rfl rfl (zah 0 rfl 0 rfl)))
  ·
   intro vf pf hmu hR
   refine zce [] [] rfl (zay (zae [1] rfl) ?_)
   exact zbi (zax rfl)
  ·
   intro vf pf hmu hR
   have e1 := hR 1 (by decide)
   refine zce [1] [1] rfl (zaq (sk 21 (congrArg some e1.1) (zab _)) (List.sublist_append_right _ _) ?_)
   exact (zam rfl rfl (fun w hm => zbb (zfl x w (by omega))))
  ·
   intro vf pf hmu hR
   refine zce [] [] rfl (zay (zae [2] rfl) ?_)
   exact zbi (zax rfl)
  ·
   intro vf pf hmu hR
   have e0 := hR 0 (by decide)
   have e2 := hR 2 (by decide)
   have e3 := hR 3 (by decide)
   refine zce [0, 2, 3] [0, 2, 3] rfl (zaq (sk 20 (congrArg some e0.1) (sk 22 (congrArg some e2.1) (sk 23 (congrArg some e3.1) (zab _)))) (List.sublist_append_right _ _) ?_)
   exact zam rfl rfl (fun w hm => zex mhR5 (ntL x) y w (hpmhR5 w (hm.holds _ (zbr (i := 0) rfl))) gmhR5.gr.ok (by first | omega | exact zcy (by omega) (by omega)) (by first | omega | exact zcy (by omega) (by omega)))
  ·
   intro vf pf hmu hR
   have e4 : (fun u_ p_ => GP9 mhR5 (andO mhR5.fst mhR5.gs (ntL x) y) u_ p_) (vf 4) (pf 4) := hR 4 (by decide)
   obtain ⟨v7, vE4⟩ : ∃ x, vf 4 = x := ⟨_, rfl⟩
   obtain ⟨p8, pE4⟩ : ∃ x, pf 4 = x := ⟨_, rfl⟩
   have hR9 := e4
   rw [vE4, pE4] at hR9
   obtain ⟨pshR9, mhR9, zhR9, rfl, rfl, hpmhR9, ⟨o1mhR9, o2mhR9, o3mhR9⟩, gmhR9⟩ := hR9
   have lmhR9 := gmhR9.ln
   have cmhR9 := gmhR9.gr.cnt
   have rmhR9 := zdw gmhR9.gr.ok
   refine zce [4] [4] rfl (zbg (sk 24 (congrArg some vE4) (zab _)) (by simp only [pE4, vE4, fS] <;> rfl) ?_)
   exact zbo (zbi (zax rfl)) (fun _ _ h => ⟨h.1.trans (by show _ = (.tuple #[.agg #[.int .i64 (intOf_o (ag9 0 (tp9 0 (vf 4)))), (ag9 1 (tp9 0 (vf 4))), (ag9 2 (tp9 0 (vf 4))), (ag9 3 (tp9 0 (vf 4)))], .int .i64 (intOf_o (tp9 1 (vf 4)))] : Value); first | (rw [vE4]; done) | (rw [vE4]; rfl)), h.2⟩)
  ·
   intro vf pf hmu hR
   have e4 : (fun u_ p_ => GP9 mhR5 (andO mhR5.fst mhR5.gs (ntL x) y) u_ p_) (vf 4) (pf 4) := hR 4 (by decide)
   obtain ⟨v7, vE4⟩ : ∃ x, vf 4 = x := ⟨_, rfl⟩
   obtain ⟨p8, pE4⟩ : ∃ x, pf 4 = x := ⟨_, rfl⟩
   have hR9 := e4
   rw [vE4, pE4] at hR9
   obtain ⟨pshR9, mhR9, zhR9, rfl, rfl, hpmhR9, ⟨o1mhR9, o2mhR9, o3mhR9⟩, gmhR9⟩ := hR9
   have lmhR9 := gmhR9.ln
   have cmhR9 := gmhR9.gr.cnt
   have rmhR9 := zdw gmhR9.gr.ok
   have e5 : (vf 5) = .tuple #[.agg #[.int .i64 (intOf_o (ag9 0 (tp9 0 (vf 4)))), (ag9 1 (tp9 0 (vf 4))), (ag9 2 (tp9 0 (vf 4))), (ag9 3 (tp9 0 (vf 4)))], .int .i64 (intOf_o (tp9 1 (vf 4)))] ∧ (pf 5) = [] := hR 5 (by decide)
   rw [vE4] at e5
   refine zce [4, 5] [4, 5] rfl (zbg (sk 19 (congrArg some e5.1) (zab _)) (by simp only [pE4, vE4, e5.2, fS] <;> rfl) ?_)
   exact zbo (zbi (zax rfl)) (fun _ _ h => ⟨h.1.trans (by show _ = (.agg #[.int .i64 (intOf_o (ag9 0 (tp9 0 (vf 4)))), (ag9 1 (tp9 0 (vf 4))), (ag9 2 (tp9 0 (vf 4))), (ag9 3 (tp9 0 (vf 4)))] : Value); first | (rw [vE4]; done) | (rw [vE4]; rfl)), h.2⟩)
  ·
   intro vf pf hmu hR
   have e4 : (fun u_ p_ => GP9 mhR5 (andO mhR5.fst mhR5.gs (ntL x) y) u_ p_) (vf 4) (pf 4) := hR 4 (by decide)
   obtain ⟨v7, vE4⟩ : ∃ x, vf 4 = x := ⟨_, rfl⟩
   obtain ⟨p8, pE4⟩ : ∃ x, pf 4 = x := ⟨_, rfl⟩
   have hR9 := e4
   rw [vE4, pE4] at hR9
   obtain ⟨pshR9, mhR9, zhR9, rfl, rfl, hpmhR9, ⟨o1mhR9, o2mhR9, o3mhR9⟩, gmhR9⟩ := hR9
   have lmhR9 := gmhR9.ln
   have cmhR9 := gmhR9.gr.cnt
   have rmhR9 := zdw gmhR9.gr.ok
   have e5 : (vf 5) = .tuple #[.agg #[.int .i64 (intOf_o (ag9 0 (tp9 0 (vf 4)))), (ag9 1 (tp9 0 (vf 4))), (ag9 2 (tp9 0 (vf 4))), (ag9 3 (tp9 0 (vf 4)))], .int .i64 (intOf_o (tp9 1 (vf 4)))] ∧ (pf 5) = [] := hR 5 (by decide)
   rw [vE4] at e5
   refine zce [4, 5] [4, 5] rfl (zbg (sk 19 (congrArg some e5.1) (zab _)) (by simp only [pE4, vE4, e5.2, fS] <;> rfl) ?_)
   exact zbo (zbi (zax rfl)) (fun _ _ h => ⟨h.1.trans (by show _ = (.int .i64 (intOf_o (tp9 1 (vf 4))) : Value); first | (rw [vE4]; done) | (rw [vE4]; rfl)), h.2⟩)
  intro vf pf hmu hR
  have e4 : (fun u_ p_ => GP9 mhR5 (andO mhR5.fst mhR5.gs (ntL x) y) u_ p_) (vf 4) (pf 4) := hR 4 (by decide)
  obtain ⟨v7, vE4⟩ : ∃ x, vf 4 = x := ⟨_, rfl⟩
  obtain ⟨p8, pE4⟩ : ∃ x, pf 4 = x := ⟨_, rfl⟩
  have hR9 := e4
  rw [vE4, pE4] at hR9
  obtain ⟨pshR9, mhR9, zhR9, rfl, rfl, hpmhR9, ⟨o1mhR9, o2mhR9, o3mhR9⟩, gmhR9⟩ := hR9
  have lmhR9 := gmhR9.ln
  have cmhR9 := gmhR9.gr.cnt
  have rmhR9 := zdw gmhR9.gr.ok
  have e6 : (vf 6) = .agg #[.int .i64 (intOf_o (ag9 0 (tp9 0 (vf 4)))), (ag9 1 (tp9 0 (vf 4))), (ag9 2 (tp9 0 (vf 4))), (ag9 3 (tp9 0 (vf 4)))] ∧ (pf 6) = [] := hR 6 (by decide)
  rw [vE4] at e6
  refine Or.inl ⟨rfl, ?_⟩
  show RunM _ _ _ (pf 10) (([4, 6] : List Nat).flatMap pf ++ _) (envOf3 _ vf [4, 6] ++ _) _ _
  have hmu0 : pf 10 = [nB9 b6 mhR5] := hmu 0 (show 0 < 1 by omega)
  rw [hmu0]
  exact zbx (sk 8 rfl (sk 25 (congrArg some e6.1) (zab _))) (by simp only [pE4, vE4, e6.2, fS] <;> rfl) (zel (zcs (us := [.int .i64 mhR9.ins, mhR9.sv, mhR9.av, mhR9.ov]) (off := 0) 0 rfl rfl rfl rfl rfl rfl (zaa rfl (zaa o1mhR9 (zaa o2mhR9 (zaa o3mhR9 zbe)))) rfl rfl) (fun v_ p_ h => by show p_ = [boxE b6 #[.int .i64 (intOf_o (ag9 0 (tp9 0 (vf 4)))), (ag9 1 (tp9 0 (vf 4))), (ag9 2 (tp9 0 (vf 4))), (ag9 3 (tp9 0 (vf 4)))] 70]; rw [vE4]; exact h))
 intro vf pf hmu hR
 have e4 : (fun u_ p_ => GP9 mhR5 (andO mhR5.fst mhR5.gs (ntL x) y) u_ p_) (vf 4) (pf 4) := hR 4 (by decide)
 obtain ⟨v7, vE4⟩ : ∃ x, vf 4 = x := ⟨_, rfl⟩
 obtain ⟨p8, pE4⟩ : ∃ x, pf 4 = x := ⟨_, rfl⟩
 have hR9 := e4
 rw [vE4, pE4] at hR9
 obtain ⟨pshR9, mhR9, zhR9, rfl, rfl, hpmhR9, ⟨o1mhR9, o2mhR9, o3mhR9⟩, gmhR9⟩ := hR9
 have lmhR9 := gmhR9.ln
 have cmhR9 := gmhR9.gr.cnt
 have rmhR9 := zdw gmhR9.gr.ok
 have e7 : (vf 7) = .int .i64 (intOf_o (tp9 1 (vf 4))) ∧ (pf 7) = [] := hR 7 (by decide)
 rw [vE4] at e7
 have e8 : (pf 8) = [boxE b6 #[.int .i64 (intOf_o (ag9 0 (tp9 0 (vf 4)))), (ag9 1 (tp9 0 (vf 4))), (ag9 2 (tp9 0 (vf 4))), (ag9 3 (tp9 0 (vf 4)))] 70] := hR 8 (by decide)
 rw [vE4] at e8
 have pE8 := e8
 have q0 := hR 0 (by decide)
 have q1 := hR 1 (by decide)
 have q2 := hR 2 (by decide)
 have q3 := hR 3 (by decide)
 have q5 := hR 5 (by decide)
 have q6 := hR 6 (by decide)
 have q7 := hR 7 (by decide)
 refine zcd (zbs [9, 8, 7, 6, 3, 2, 1, 0] _ (sk 26 (congrArg some e7.1) (zab _)) rfl) (by simp only [pE4, vE4, pE8, q0.2, q1.2, q2.2, q3.2, q5.2, q6.2, q7.2, fS] <;> rfl) ?_
 simp only [List.drop_succ_cons, List.drop_zero]
 refine zbc 1 rfl (srQ (hvQ rfl (zar (cs := [.int .i64 n.ins, n.sv, n.av, n.ov]) rfl rfl rfl rfl rfl (zah 4 rfl 0 rfl)) (hvQ rfl (zar (cs := [.int .i64 mhR9.ins, mhR9.sv, mhR9.av, mhR9.ov]) rfl rfl rfl rfl rfl (zah 1 rfl 0 rfl)) (zag 2 rfl ?_))))
 refine zfg rfl rfl rfl (zam rfl rfl (fun w hm => l10Join_ret n mhR9 zhR5 zhR9 w (hr.below hm.bel) hn (hpmhR9 w (hm.holds _ (zbr (i := 0) rfl))) gmhR9.gr.ok (by omega) (by omega))) ?_
 intro v10 p11 hR12
 obtain ⟨pshR12, mhR12, zhR12, rfl, rfl, hpmhR12, ⟨o1mhR12, o2mhR12, o3mhR12⟩, hjmhR12⟩ := hR12
 refine zag 2 rfl (zbm (cs' := #[.int .i64 mhR12.ins, mhR12.sv, mhR12.av, mhR12.ov]) (i := 4) (off := 0) (us := [.int .i64 mhR12.ins, mhR12.sv, mhR12.av, mhR12.ov]) rfl rfl rfl rfl rfl rfl rfl (zaa rfl (zaa o1mhR12 (zaa o2mhR12 (zaa o3mhR12 zbe)))) rfl rfl rfl ?_)
 refine zbc 1 rfl ?_
 refine zak ?_
 have hsim := xor_sim gmhR5 gmhR9 hjmhR12
 exact zca (rs := [.cell 6 70, .tmp 7]) (vs := [.agg #[.int .i64 mhR12.ins, mhR12.sv, mhR12.av, mhR12.ov], .int .i64 zhR12]) (post := [bigE pshR12]) rfl ⟨⟨b2, 0, [.int .i64 mhR12.ins, mhR12.sv, mhR12.av, mhR12.ov], rfl, rfl, by kernel_rfl, by kernel_rfl, zah 4 rfl 0 rfl⟩, rfl, trivial⟩ rfl (slQ [0] rfl) ⟨pshR12, mhR12, _, rfl, rfl, hpmhR12, ⟨o1mhR12, o2mhR12, o3mhR12⟩, gts_xor hn hsim.1 hsim.2⟩
theorem AddMuxG_ret (n : Nt) (t x y : Int) (w : World) (hr : RdsNt w n) (hn : NtOk n) (ht : t < 2 * n.cnt) (hx : x < 2 * n.cnt) (hy : y < 2 * n.cnt) :
   Calls Try.prog 132 #[.agg #[.int .i64 n.ins, n.sv, n.av, n.ov], .int .i64 t, .int .i64 x, .int .i64 y] w (Ret w (fun u_ p_ => GP9 n (muxO n.fst n.gs t x y) u_ p_)) := by
 have hi0 := hn.i0
 have hi1 := hn.i1
 have hs1 := hn.s1
 have ha1 := hn.a1
 have ho1 := hn.o1
 have hcnt : n.cnt = 1 + n.ins + n.ss.length + n.gs.length := rfl
 have hfst : n.fst = 1 + n.ins + n.ss.length := rfl
 have hcr := zdw hn
 refine zbq (N := 61) (args := [.agg #[.int .i64 n.ins, n.sv, n.av, n.ov], .int .i64 t, .int .i64 x, .int .i64 y]) Try.func132 rfl rfl (srQ ?_)
 refine zed rfl (zdh rfl rfl) ?_
 intro b1
 refine zed rfl (zcc (z := .agg #[.int .i64 0, .slice none 0 0, .slice none 0 0, .slice none 0 0]) rfl rfl) ?_
 intro b2
 refine zbc 1 rfl (srQ (hvQ rfl (zar (cs := [.int .i64 n.ins, n.sv, n.av, n.ov]) rfl rfl rfl rfl rfl (zah 1 rfl 0 rfl)) ?_))
 refine zdu rfl (zam rfl rfl (fun w hm => zbb (zeg n w (hr.below hm.bel) hn))) (zbc 1 rfl (zgk (hvQ rfl (zar (cs := [.int .i64 n.ins, n.sv, n.av, n.ov]) rfl rfl rfl rfl rfl (zah 1 rfl 0 rfl)) ?_)))
 refine zdu rfl (zam rfl rfl (fun w hm => zbb (zfx n w (hr.below hm.bel) hn))) (zag 4 rfl ?_)
 refine zdu rfl (zam rfl rfl (fun w hm => zbb (zea t n.cnt w (by omega)))) (zbz (fun h3 => ?_) (fun h3 => ?_))
 ·
  have h3q := of_decide_eq_true h3
  refine zag 5 rfl (zdu rfl (zam rfl rfl (fun w hm => zbb (zea x n.cnt w (by omega)))) ?_)
  refine zbz (fun h4 => ?_) (fun h4 => ?_)
  ·
   have h4q := of_decide_eq_true h4
   refine zag 5 rfl (zdu rfl (zam rfl rfl (fun w hm => zbb (zea y n.cnt w (by omega)))) ?_)
   refine zbz (fun h5 => ?_) (fun h5 => ?_)
   ·
    have h5q := of_decide_eq_true h5
    refine zbc 2 rfl (zal rfl (zdb (srQ (hvQ rfl (zar (cs := [.int .i64 n.ins, n.sv, n.av, n.ov]) rfl rfl rfl rfl rfl (zah 1 rfl 0 rfl)) (zag 2 rfl ?_)))))
    refine zfg rfl rfl rfl (zam rfl rfl (fun w hm => zex n t x w (hr.below hm.bel) hn (by first | omega | exact zcy (by omega) (by omega)) (by first | omega | exact zcy (by omega) (by omega)))) ?_
    intro v6 p7 hR8
    obtain ⟨pshR8, mhR8, zhR8, rfl, rfl, hpmhR8, ⟨o1mhR8, o2mhR8, o3mhR8⟩, gmhR8⟩ := hR8
    have lmhR8 := gmhR8.ln
    have cmhR8 := gmhR8.gr.cnt
    have rmhR8 := zdw gmhR8.gr.ok
    refine zag 3 rfl (zed rfl (zcc (z := .agg #[.int .i64 0, .slice none 0 0, .slice none 0 0, .slice none 0 0]) rfl rfl) ?_)
    intro b9
    refine zbm (cs' := #[.int .i64 mhR8.ins, mhR8.sv, mhR8.av, mhR8.ov]) (i := 0) (off := 0) (us := [.int .i64 mhR8.ins, mhR8.sv, mhR8.av, mhR8.ov]) rfl rfl rfl rfl rfl rfl rfl (zaa rfl (zaa o1mhR8 (zaa o2mhR8 (zaa o3mhR8 zbe)))) rfl rfl rfl (zbc 1 rfl (zac ?_))
    refine zdq (l := [bigE pshR8, eB9 b2, nB9 b1 n]) rfl 9 [0, 1, 2, 3, 4, 5, 6, 7, 8] (List.take 9 _) (List.drop 9 _) [[], [], [1], [], [0, 2, 3], [4], [4, 5], [4, 5], [4, 6]] [some 47, some 48, some 49, some 50, some 51, some 46, some 52, some 53, none] (fun i_ vs_ v_ p_ => match i_ with | 0 => v_ = .agg #[.int .i64 mhR8.ins, mhR8.sv, mhR8.av, mhR8.ov] ∧ p_ = [] | 1 => v_ = .int .i64 t ∧ p_ = [] | 2 => v_ = .int .i64 (ntL t) ∧ p_ = [] | 3 => v_ = .int .i64 y ∧ p_ = [] | 4 => (fun u_ p_ => GP9 mhR8 (andO mhR8.fst mhR8.gs (ntL t) y) u_ p_) v_ p_ | 5 => v_ = .tuple #[.agg #[.int .i64 (intOf_o (ag9 0 (tp9 0 (gV9 vs_ 0)))), (ag9 1 (tp9 0 (gV9 vs_ 0))), (ag9 2 (tp9 0 (gV9 vs_ 0))), (ag9 3 (tp9 0 (gV9 vs_ 0)))], .int .i64 (intOf_o (tp9 1 (gV9 vs_ 0)))] ∧ p_ = [] | 6 => v_ = .agg #[.int .i64 (intOf_o (ag9 0 (tp9 0 (gV9 vs_ 0)))), (ag9 1 (tp9 0 (gV9 vs_ 0))), (ag9 2 (tp9 0 (gV9 vs_ 0))), (ag9 3 (tp9 0 (gV9 vs_ 0)))] ∧ p_ = [] | 7 => v_ = .int .i64 (intOf_o (tp9 1 (gV9 vs_ 0))) ∧ p_ = [] | 8 => p_ = [boxE b9 #[.int .i64 (intOf_o (ag9 0 (tp9 0 (gV9 vs_ 0)))), (ag9 1 (tp9 0 (gV9 vs_ 0))), (ag9 2 (tp9 0 (gV9 vs_ 0))), (ag9 3 (tp9 0 (gV9 vs_ 0)))] 70] | _ => True) [[10], [], [1], [], [0, 2, 3], [4], [4, 5], [4, 5], [4, 6]] [none, none, none, none, none, none, none, none, some 10] [[nB9 b9 mhR8]] [0, 1, 2, 3, 4, 5, 6, 7, 8] 10 (List.take_append_drop 9 _).symm (by kernel_rfl) (by kernel_rfl) (by kernel_rfl) rfl rfl ?_ ?_
    ·
     refine ⟨?_, ?_, ?_, ?_, ?_, ?_, ?_, ?_, ?_, trivial⟩
     ·
      intro vf pf hmu hR
      refine zce [10] [] rfl ?_
      have hmu0 : pf 10 = [nB9 b9 mhR8] := hmu 0 (show 0 < 1 by omega)
      exact zbg (zae [11] rfl) (by simp only [hmu0, fS] <;> rfl) (zbi (zar (cs := [.int .i64 mhR8.ins, mhR8.sv, mhR8.av, mhR8.ov]) rfl rfl rfl rfl rfl (zah 0 rfl 0 rfl)))
     ·
      intro vf pf hmu hR
      refine zce [] [] rfl (zay (zae [1] rfl) ?_)
      exact zbi (zax rfl)
     ·
      intro vf pf hmu hR
      have e1 := hR 1 (by decide)
      refine zce [1] [1] rfl (zaq (sk 48 (congrArg some e1.1) (zab _)) (List.sublist_append_right _ _) ?_)
      exact (zam rfl rfl (fun w hm => zbb (zfl t w (by omega))))
     ·
      intro vf pf hmu hR
      refine zce [] [] rfl (zay (zae [3] rfl) ?_)
      exact zbi (zax rfl)
     ·
      intro vf pf hmu hR
      have e0 := hR 0 (by decide)
      have e2 := hR 2 (by decide)
      have e3 := hR 3 (by decide)
      refine zce [0, 2, 3] [0, 2, 3] rfl (zaq (sk 47 (congrArg some e0.1) (sk 49 (congrArg some e2.1) (sk 50 (congrArg some e3.1) (zab _)))) (List.sublist_append_right _ _) ?_)
      exact zam rfl rfl (fun w hm => zex mhR8 (ntL t) y w (hpmhR8 w (hm.holds _ (zbr (i := 0) rfl))) gmhR8.gr.ok (by first | omega | exact zcy (by omega) (by omega)) (by first | omega | exact zcy (by omega) (by omega)))
     ·
      intro vf pf hmu hR
      have e4 : (fun u_ p_ => GP9 mhR8 (andO mhR8.fst mhR8.gs (ntL t) y) u_ p_) (vf 4) (pf 4) := hR 4 (by decide)
      obtain ⟨v10, vE4⟩ : ∃ x, vf 4 = x := ⟨_, rfl⟩
      obtain ⟨p11, pE4⟩ : ∃ x, pf 4 = x := ⟨_, rfl⟩
      have hR12 := e4
      rw [vE4, pE4] at hR12
      obtain ⟨pshR12, mhR12, zhR12, rfl, rfl, hpmhR12, ⟨o1mhR12, o2mhR12, o3mhR12⟩, gmhR12⟩ := hR12
      have lmhR12 := gmhR12.ln
      have cmhR12 := gmhR12.gr.cnt
      have rmhR12 := zdw gmhR12.gr.ok
      refine zce [4] [4] rfl (zbg (sk 51 (congrArg some vE4) (zab _)) (by simp only [pE4, vE4, fS] <;> rfl) ?_)
      exact zbo (zbi (zax rfl)) (fun _ _ h => ⟨h.1.trans (by show _ = (.tuple #[.agg #[.int .i64 (intOf_o (ag9 0 (tp9 0 (vf 4)))), (ag9 1 (tp9 0 (vf 4))), (ag9 2 (tp9 0 (vf 4))), (ag9 3 (tp9 0 (vf 4)))], .int .i64 (intOf_o (tp9 1 (vf 4)))] : Value); first | (rw [vE4]; done) | (rw [vE4]; rfl)), h.2⟩)
     ·
      intro vf pf hmu hR
      have e4 : (fun u_ p_ => GP9 mhR8 (andO mhR8.fst mhR8.gs (ntL t) y) u_ p_) (vf 4) (pf 4) := hR 4 (by decide)
      obtain ⟨v10, vE4⟩ : ∃ x, vf 4 = x := ⟨_, rfl⟩
      obtain ⟨p11, pE4⟩ : ∃ x, pf 4 = x := ⟨_, rfl⟩
      have hR12 := e4
      rw [vE4, pE4] at hR12
      obtain ⟨pshR12, mhR12, zhR12, rfl, rfl, hpmhR12, ⟨o1mhR12, o2mhR12, o3mhR12⟩, gmhR12⟩ := hR12
      have lmhR12 := gmhR12.ln
      have cmhR12 := gmhR12.gr.cnt
      have rmhR12 := zdw gmhR12.gr.ok
      have e5 : (vf 5) = .tuple #[.agg #[.int .i64 (intOf_o (ag9 0 (tp9 0 (vf 4)))), (ag9 1 (tp9 0 (vf 4))), (ag9 2 (tp9 0 (vf 4))), (ag9 3 (tp9 0 (vf 4)))], .int .i64 (intOf_o (tp9 1 (vf 4)))] ∧ (pf 5) = [] := hR 5 (by decide)
      rw [vE4] at e5
      refine zce [4, 5] [4, 5] rfl (zbg (sk 46 (congrArg some e5.1) (zab _)) (by simp only [pE4, vE4, e5.2, fS] <;> rfl) ?_)
      exact zbo (zbi (zax rfl)) (fun _ _ h => ⟨h.1.trans (by show _ = (.agg #[.int .i64 (intOf_o (ag9 0 (tp9 0 (vf 4)))), (ag9 1 (tp9 0 (vf 4))), (ag9 2 (tp9 0 (vf 4))), (ag9 3 (tp9 0 (vf 4)))] : Value); first | (rw [vE4]; done) | (rw [vE4]; rfl)), h.2⟩)
     ·
      intro vf pf hmu hR
      have e4 : (fun u_ p_ => GP9 mhR8 (andO mhR8.fst mhR8.gs (ntL t) y) u_ p_) (vf 4) (pf 4) := hR 4 (by decide)
      obtain ⟨v10, vE4⟩ : ∃ x, vf 4 = x := ⟨_, rfl⟩
      obtain ⟨p11, pE4⟩ : ∃ x, pf 4 = x := ⟨_, rfl⟩
      have hR12 := e4
      rw [vE4, pE4] at hR12
      obtain ⟨pshR12, mhR12, zhR12, rfl, rfl, hpmhR12, ⟨o1mhR12, o2mhR12, o3mhR12⟩, gmhR12⟩ := hR12
      have lmhR12 := gmhR12.ln
      have cmhR12 := gmhR12.gr.cnt
      have rmhR12 := zdw gmhR12.gr.ok
      have e5 : (vf 5) = .tuple #[.agg #[.int .i64 (intOf_o (ag9 0 (tp9 0 (vf 4)))), (ag9 1 (tp9 0 (vf 4))), (ag9 2 (tp9 0 (vf 4))), (ag9 3 (tp9 0 (vf 4)))], .int .i64 (intOf_o (tp9 1 (vf 4)))] ∧ (pf 5) = [] := hR 5 (by decide)
      rw [vE4] at e5
      refine zce [4, 5] [4, 5] rfl (zbg (sk 46 (congrArg some e5.1) (zab _)) (by simp only [pE4, vE4, e5.2, fS] <;> rfl) ?_)
      exact zbo (zbi (zax rfl)) (fun _ _ h => ⟨h.1.trans (by show _ = (.int .i64 (intOf_o (tp9 1 (vf 4))) : Value); first | (rw [vE4]; done) | (rw [vE4]; rfl)), h.2⟩)
     intro vf pf hmu hR
     have e4 : (fun u_ p_ => GP9 mhR8 (andO mhR8.fst mhR8.gs (ntL t) y) u_ p_) (vf 4) (pf 4) := hR 4 (by decide)
     obtain ⟨v10, vE4⟩ : ∃ x, vf 4 = x := ⟨_, rfl⟩
     obtain ⟨p11, pE4⟩ : ∃ x, pf 4 = x := ⟨_, rfl⟩
     have hR12 := e4
     rw [vE4, pE4] at hR12
     obtain ⟨pshR12, mhR12, zhR12, rfl, rfl, hpmhR12, ⟨o1mhR12, o2mhR12, o3mhR12⟩, gmhR12⟩ := hR12
     have lmhR12 := gmhR12.ln
     have cmhR12 := gmhR12.gr.cnt
     have rmhR12 := zdw gmhR12.gr.ok
     have e6 : (vf 6) = .agg #[.int .i64 (intOf_o (ag9 0 (tp9 0 (vf 4)))), (ag9 1 (tp9 0 (vf 4))), (ag9 2 (tp9 0 (vf 4))), (ag9 3 (tp9 0 (vf 4)))] ∧ (pf 6) = [] := hR 6 (by decide)
     rw [vE4] at e6
     refine Or.inl ⟨rfl, ?_⟩
     show RunM _ _ _ (pf 10) (([4, 6] : List Nat).flatMap pf ++ _) (envOf3 _ vf [4, 6] ++ _) _ _
     have hmu0 : pf 10 = [nB9 b9 mhR8] := hmu 0 (show 0 < 1 by omega)
     rw [hmu0]
     exact zbx (sk 11 rfl (sk 52 (congrArg some e6.1) (zab _))) (by simp only [pE4, vE4, e6.2, fS] <;> rfl) (zel (zcs (us := [.int .i64 mhR12.ins, mhR12.sv, mhR12.av, mhR12.ov]) (off := 0) 0 rfl rfl rfl rfl rfl rfl (zaa rfl (zaa o1mhR12 (zaa o2mhR12 (zaa o3mhR12 zbe)))) rfl rfl) (fun v_ p_ h => by show p_ = [boxE b9 #[.int .i64 (intOf_o (ag9 0 (tp9 0 (vf 4)))), (ag9 1 (tp9 0 (vf 4))), (ag9 2 (tp9 0 (vf 4))), (ag9 3 (tp9 0 (vf 4)))] 70]; rw [vE4]; exact h))
    intro vf pf hmu hR
    have e4 : (fun u_ p_ => GP9 mhR8 (andO mhR8.fst mhR8.gs (ntL t) y) u_ p_) (vf 4) (pf 4) := hR 4 (by decide)
    obtain ⟨v10, vE4⟩ : ∃ x, vf 4 = x := ⟨_, rfl⟩
    obtain ⟨p11, pE4⟩ : ∃ x, pf 4 = x := ⟨_, rfl⟩
    have hR12 := e4
    rw [vE4, pE4] at hR12
    obtain ⟨pshR12, mhR12, zhR12, rfl, rfl, hpmhR12, ⟨o1mhR12, o2mhR12, o3mhR12⟩, gmhR12⟩ := hR12
    have lmhR12 := gmhR12.ln
    have cmhR12 := gmhR12.gr.cnt
    have rmhR12 := zdw gmhR12.gr.ok
    have e7 : (vf 7) = .int .i64 (intOf_o (tp9 1 (vf 4))) ∧ (pf 7) = [] := hR 7 (by decide)
    rw [vE4] at e7
    have e8 : (pf 8) = [boxE b9 #[.int .i64 (intOf_o (ag9 0 (tp9 0 (vf 4)))), (ag9 1 (tp9 0 (vf 4))), (ag9 2 (tp9 0 (vf 4))), (ag9 3 (tp9 0 (vf 4)))] 70] := hR 8 (by decide)
    rw [vE4] at e8
    have pE8 := e8
    have q0 := hR 0 (by decide)
    have q1 := hR 1 (by decide)
    have q2 := hR 2 (by decide)
    have q3 := hR 3 (by decide)
    have q5 := hR 5 (by decide)
    have q6 := hR 6 (by decide)
    have q7 := hR 7 (by decide)
    refine zcd (zbs [36, 12, 11, 10, 9, 8, 4, 3, 2, 1, 0] _ (sk 53 (congrArg some e7.1) (zab _)) rfl) (by simp only [pE4, vE4, pE8, q0.2, q1.2, q2.2, q3.2, q5.2, q6.2, q7.2, fS] <;> rfl) ?_
    simp only [List.drop_succ_cons, List.drop_zero]
    refine zbc 1 rfl (srQ (hvQ rfl (zar (cs := [.int .i64 n.ins, n.sv, n.av, n.ov]) rfl rfl rfl rfl rfl (zah 4 rfl 0 rfl)) (hvQ rfl (zar (cs := [.int .i64 mhR12.ins, mhR12.sv, mhR12.av, mhR12.ov]) rfl rfl rfl rfl rfl (zah 1 rfl 0 rfl)) (zag 2 rfl ?_))))
    refine zfg rfl rfl rfl (zam rfl rfl (fun w hm => l10Join_ret n mhR12 zhR8 zhR12 w (hr.below hm.bel) hn (hpmhR12 w (hm.holds _ (zbr (i := 0) rfl))) gmhR12.gr.ok (by omega) (by omega))) ?_
    intro v13 p14 hR15
    obtain ⟨pshR15, mhR15, zhR15, rfl, rfl, hpmhR15, ⟨o1mhR15, o2mhR15, o3mhR15⟩, hjmhR15⟩ := hR15
    refine zag 2 rfl (zbm (cs' := #[.int .i64 mhR15.ins, mhR15.sv, mhR15.av, mhR15.ov]) (i := 4) (off := 0) (us := [.int .i64 mhR15.ins, mhR15.sv, mhR15.av, mhR15.ov]) rfl rfl rfl rfl rfl rfl rfl (zaa rfl (zaa o1mhR15 (zaa o2mhR15 (zaa o3mhR15 zbe)))) rfl rfl rfl ?_)
    refine zbc 1 rfl ?_
    refine zak ?_
    have hsim := mux_sim gmhR8 gmhR12 hjmhR15
    exact zca (rs := [.cell 8 70, .tmp 9]) (vs := [.agg #[.int .i64 mhR15.ins, mhR15.sv, mhR15.av, mhR15.ov], .int .i64 zhR15]) (post := [bigE pshR15]) rfl ⟨⟨b2, 0, [.int .i64 mhR15.ins, mhR15.sv, mhR15.av, mhR15.ov], rfl, rfl, by kernel_rfl, by kernel_rfl, zah 4 rfl 0 rfl⟩, rfl, trivial⟩ rfl (slQ [0] rfl) ⟨pshR15, mhR15, _, rfl, rfl, hpmhR15, ⟨o1mhR15, o2mhR15, o3mhR15⟩, gts_mux hn (Classical.or_iff_not_imp_left.2 (fun h9 => ⟨by omega, hy⟩)) hsim.1 hsim.2⟩
   have h5q := of_decide_eq_false h5
   refine zbc 2 rfl (zaj rfl (srQ (hvQ rfl (zar (cs := [.int .i64 n.ins, n.sv, n.av, n.ov]) rfl rfl rfl rfl rfl (zah 1 rfl 0 rfl)) ?_)))
   refine zfg rfl rfl rfl (zam rfl rfl (fun w hm => zfm n w (hr.below hm.bel) hn)) ?_
   intro v16 p17 hR18
   obtain ⟨ps, m, rfl, rfl, hps, ⟨o1m, o3m⟩, hcp⟩ := hR18
   refine hl_know (fun w hm => (zao 1 rfl w hm).one) (fun ho2 => ?_)
   refine zcr (i := 1) rfl (fun ho19 => ?_)
   refine zbm (cs' := #[.int .i64 m.ins, m.sv, m.av, m.ov]) (i := 3) (off := 0) (us := [.int .i64 m.ins, m.sv, m.av, m.ov]) rfl rfl rfl rfl rfl rfl rfl (zaa rfl (zaa o1m (zaa ho19 (zaa o3m zbe)))) rfl rfl rfl (zbc 1 rfl ?_)
   refine zak (zad ?_)
   refine zaz 5 [3, 1, 2, 0] rfl rfl (by decide) ?_
   refine zbk 3 rfl ?_
   exact zca (rs := [.cell 8 70, .tmp 9]) (vs := [.agg #[.int .i64 m.ins, m.sv, m.av, m.ov], .int .i64 (-1)]) (post := [bigE [rS9 143 3 m.sv m.ss sqC, bigE ps, rS9 141 2 m.av m.gs anC]]) rfl ⟨⟨b2, 0, [.int .i64 m.ins, m.sv, m.av, m.ov], rfl, rfl, by kernel_rfl, by kernel_rfl, zah 1 rfl 0 rfl⟩, rfl, trivial⟩ rfl (slQ [0] rfl) ⟨_, m, _, rfl, rfl, fun w hw => ⟨zbh (zau hw List.mem_cons_self), (hps w (zau hw (List.mem_cons_of_mem _ List.mem_cons_self))).1, zbh (zau hw (List.mem_cons_of_mem _ (List.mem_cons_of_mem _ List.mem_cons_self))), (hps w (zau hw (List.mem_cons_of_mem _ List.mem_cons_self))).2⟩, ⟨o1m, ho2, o3m⟩, ⟨⟨hcp.cps, hcp.ok hn, by rw [hcp.gs]; exact Nat.le_refl _⟩, .inr ⟨by omega, mux_none (fun h9 => by obtain ⟨⟨h91, h92⟩, h93⟩ := h9; first | exact absurd (zhc (by assumption) ht) (by omega) | exact absurd (zhc (by assumption) hx) (by omega) | exact absurd (zhc (by assumption) hy) (by omega))⟩, by have h9 := zdw (hcp.ok hn); omega⟩⟩
  have h4q := of_decide_eq_false h4
  refine zbc 8 rfl (zaj rfl (srQ (hvQ rfl (zar (cs := [.int .i64 n.ins, n.sv, n.av, n.ov]) rfl rfl rfl rfl rfl (zah 1 rfl 0 rfl)) ?_)))
  refine zfg rfl rfl rfl (zam rfl rfl (fun w hm => zfm n w (hr.below hm.bel) hn)) ?_
  intro v20 p21 hR22
  obtain ⟨ps, m, rfl, rfl, hps, ⟨o1m, o3m⟩, hcp⟩ := hR22
  refine hl_know (fun w hm => (zao 1 rfl w hm).one) (fun ho2 => ?_)
  refine zcr (i := 1) rfl (fun ho23 => ?_)
  refine zbm (cs' := #[.int .i64 m.ins, m.sv, m.av, m.ov]) (i := 3) (off := 0) (us := [.int .i64 m.ins, m.sv, m.av, m.ov]) rfl rfl rfl rfl rfl rfl rfl (zaa rfl (zaa o1m (zaa ho23 (zaa o3m zbe)))) rfl rfl rfl (zbc 1 rfl ?_)
  refine zak (zad ?_)
  refine zaz 5 [3, 1, 2, 0] rfl rfl (by decide) ?_
  refine zbk 3 rfl ?_
  exact zca (rs := [.cell 8 70, .tmp 9]) (vs := [.agg #[.int .i64 m.ins, m.sv, m.av, m.ov], .int .i64 (-1)]) (post := [bigE [rS9 143 3 m.sv m.ss sqC, bigE ps, rS9 141 2 m.av m.gs anC]]) rfl ⟨⟨b2, 0, [.int .i64 m.ins, m.sv, m.av, m.ov], rfl, rfl, by kernel_rfl, by kernel_rfl, zah 1 rfl 0 rfl⟩, rfl, trivial⟩ rfl (slQ [0] rfl) ⟨_, m, _, rfl, rfl, fun w hw => ⟨zbh (zau hw List.mem_cons_self), (hps w (zau hw (List.mem_cons_of_mem _ List.mem_cons_self))).1, zbh (zau hw (List.mem_cons_of_mem _ (List.mem_cons_of_mem _ List.mem_cons_self))), (hps w (zau hw (List.mem_cons_of_mem _ List.mem_cons_self))).2⟩, ⟨o1m, ho2, o3m⟩, ⟨⟨hcp.cps, hcp.ok hn, by rw [hcp.gs]; exact Nat.le_refl _⟩, .inr ⟨by omega, mux_none (fun h9 => by obtain ⟨⟨h91, h92⟩, h93⟩ := h9; first | exact absurd (zhc (by assumption) ht) (by omega) | exact absurd (zhc (by assumption) hx) (by omega) | exact absurd (zhc (by assumption) hy) (by omega))⟩, by have h9 := zdw (hcp.ok hn); omega⟩⟩
 have h3q := of_decide_eq_false h3
 refine zbc 14 rfl (zaj rfl (srQ (hvQ rfl (zar (cs := [.int .i64 n.ins, n.sv, n.av, n.ov]) rfl rfl rfl rfl rfl (zah 1 rfl 0 rfl)) ?_)))
 refine zfg rfl rfl rfl (zam rfl rfl (fun w hm => zfm n w (hr.below hm.bel) hn)) ?_
 intro v24 p25 hR26
 obtain ⟨ps, m, rfl, rfl, hps, ⟨o1m, o3m⟩, hcp⟩ := hR26
 refine hl_know (fun w hm => (zao 1 rfl w hm).one) (fun ho2 => ?_)
 refine zcr (i := 1) rfl (fun ho27 => ?_)
 refine zbm (cs' := #[.int .i64 m.ins, m.sv, m.av, m.ov]) (i := 3) (off := 0) (us := [.int .i64 m.ins, m.sv, m.av, m.ov]) rfl rfl rfl rfl rfl rfl rfl (zaa rfl (zaa o1m (zaa ho27 (zaa o3m zbe)))) rfl rfl rfl (zbc 1 rfl ?_)
 refine zak (zad ?_)
 refine zaz 5 [3, 1, 2, 0] rfl rfl (by decide) ?_
 refine zbk 3 rfl ?_
 exact zca (rs := [.cell 8 70, .tmp 9]) (vs := [.agg #[.int .i64 m.ins, m.sv, m.av, m.ov], .int .i64 (-1)]) (post := [bigE [rS9 143 3 m.sv m.ss sqC, bigE ps, rS9 141 2 m.av m.gs anC]]) rfl ⟨⟨b2, 0, [.int .i64 m.ins, m.sv, m.av, m.ov], rfl, rfl, by kernel_rfl, by kernel_rfl, zah 1 rfl 0 rfl⟩, rfl, trivial⟩ rfl (slQ [0] rfl) ⟨_, m, _, rfl, rfl, fun w hw => ⟨zbh (zau hw List.mem_cons_self), (hps w (zau hw (List.mem_cons_of_mem _ List.mem_cons_self))).1, zbh (zau hw (List.mem_cons_of_mem _ (List.mem_cons_of_mem _ List.mem_cons_self))), (hps w (zau hw (List.mem_cons_of_mem _ List.mem_cons_self))).2⟩, ⟨o1m, ho2, o3m⟩, ⟨⟨hcp.cps, hcp.ok hn, by rw [hcp.gs]; exact Nat.le_refl _⟩, .inr ⟨by omega, mux_none (fun h9 => by obtain ⟨⟨h91, h92⟩, h93⟩ := h9; first | exact absurd (zhc (by assumption) ht) (by omega) | exact absurd (zhc (by assumption) hx) (by omega) | exact absurd (zhc (by assumption) hy) (by omega))⟩, by have h9 := zdw (hcp.ok hn); omega⟩⟩
structure RSt where
  N : Nt
  ps : List HP
  c : Int
  zs : List Int
  u : Value
abbrev RX9 (n : Nt) (W : Nat) (o : Option GL) (u_ : Value) (p_ : List HP) : Prop := ∃ (ps : List HP) (m : Nt) (zv : Value) (zs : List Int), u_ = .tuple #[m.agg, zv] ∧ p_ = [bigE ps, rI9 3 zv zs] ∧ (m = n ∨ ∀ w, (bigE ps).holds w → RdsNt w m) ∧ (m.sv.oneCell' = true ∧ m.av.oneCell' = true ∧ m.ov.oneCell' = true) ∧ Gr n m ∧ zs.length = W ∧ (∀ x ∈ zs, x < 2 * m.cnt) ∧ ES (¬ PosL zs) o (m.gs, zs)
theorem ls_app {zs : List Int} {a b z : Int} (h : ∀ x ∈ zs, x < 2 * a) (hab : a ≤ b) (hz : z < 2 * b) : ∀ x ∈ zs ++ [z], x < 2 * b := fun x hx => by
  rcases List.mem_append.1 hx with hx | hx
  · have := h x hx; omega
  · rw [List.mem_singleton] at hx; subst hx; exact hz
theorem ls_nil {b : Int} : ∀ x ∈ ([] : List Int), x < 2 * b := fun x hx => by cases hx
theorem l11Sum_ret (n : Nt) (A B : List Int) (vA vB : Value) (cy : Int) (W : Nat) (w : World) (hr : RdsNt w n) (hn : NtOk n) (ha : RdsW w vA 1 A.length (A.map (Value.int .i64))) (hb : RdsW w vB 1 B.length (B.map (Value.int .i64))) (hAl : A.length = W) (hBl : B.length = W) (hW : 1 ≤ W ∧ W ≤ 4) (hA : ∀ x ∈ A, x < 2 * n.cnt) (hB : ∀ x ∈ B, x < 2 * n.cnt) (hcy : 0 ≤ cy ∧ cy ≤ 1) :
   Calls Try.prog 159 #[.agg #[.int .i64 n.ins, n.sv, n.av, n.ov], vA, vB, .int .i64 cy] w (Ret w (fun u_ p_ => RX9 n W (sumO n.fst A B cy W n.gs) u_ p_)) := by
 have hi0 := hn.i0
 have hi1 := hn.i1
 have hs1 := hn.s1
 have ha1 := hn.a1
 have ho1 := hn.o1
 have hcnt : n.cnt = 1 + n.ins + n.ss.length + n.gs.length := rfl
 have hfst : n.fst = 1 + n.ins + n.ss.length := rfl
 have hcr := zdw hn
 have ha9 := sml ha
 have hb9 := sml hb
 refine zbq (N := 83) (args := [.agg #[.int .i64 n.ins, n.sv, n.av, n.ov], vA, vB, .int .i64 cy]) Try.func159 rfl rfl (srQ ?_)
 refine zed rfl (zdh rfl rfl) ?_
 intro b1
 refine zed rfl (zcc (z := .agg #[.int .i64 0, .slice none 0 0, .slice none 0 0, .slice none 0 0]) rfl rfl) ?_
 intro b2
 refine zbc 1 rfl (srQ ?_)
 refine zey rfl (zds (s := 1) rfl Try.underlying48 rfl) ?_
 intro g3
 refine zbc 1 rfl (zac (zbn 1 rfl (zbf ?_)))
 refine zeo _ zfq ?_
 refine lkQ2 (α := Nat) (β := RSt) [0, 1, 2, 4, 8, 9] rfl (fun k q => [bigE q.ps, rI9 3 q.u q.zs, eB9 b2, nB9 b1 q.N]) (fun k q => [(3, .int .i64 q.c), (10, q.u), (11, .int .i64 (k : Int))]) (fun k q => k < W ∧ Gr n q.N ∧ (q.N = n ∨ ∀ w, (bigE q.ps).holds w → RdsNt w q.N) ∧ (q.N.sv.oneCell' = true ∧ q.N.av.oneCell' = true ∧ q.N.ov.oneCell' = true) ∧ q.zs.length = k ∧ (∀ x ∈ q.zs, x < 2 * q.N.cnt) ∧ q.c < 2 * q.N.cnt ∧ ES (¬ (PosL q.zs ∧ 0 ≤ q.c)) (itO (sumS n.fst A B W) ((n.gs, []), cy) k) ((q.N.gs, q.zs), q.c)) (fun k q => W - k) 0 ⟨n, [], cy, [], _⟩ ⟨by omega, Gr.refl hn, .inl rfl, ⟨hr.sq.one, hr.an.one, hr.ou.one⟩, rfl, ls_nil, (by dsimp only; omega), .inl ⟨fun h9 => h9 ⟨posL_nil, hcy.1⟩, rfl⟩⟩ (saQ rfl) (pfQ rfl) ?_
 intro k q hi4
 obtain ⟨hk, hG, hNq, ⟨o1q, o2q, o3q⟩, hzl, hLs, hqc, hE⟩ := hi4
 have hGc := hG.cnt
 have hGr := zdw hG.ok
 have hAk := hA _ (zbd (d := 0) (show k < A.length by omega))
 have hBk := hB _ (zbd (d := 0) (show k < B.length by omega))
 refine zac (zac (reQ 2 rfl (hvQ rfl (lnQ rfl rfl rfl (zap ha)) ?_)))
 refine zcb rfl rfl rfl rfl rfl rfl (fun h5 => ?_) (fun h5 => ?_)
 ·
  refine ntQ (zaj rfl (zdb (sbQ (zac ?_))))
  refine zdq (l := [bigE q.ps, rI9 3 q.u q.zs, eB9 b2, nB9 b1 q.N]) rfl 15 [0, 1, 2, 3, 4, 5, 6, 7, 8, 9, 10, 11, 12, 13, 14] (List.take 15 _) (List.drop 15 _) [[], [], [], [1, 2], [3], [], [], [5, 6], [7], [0, 4, 8], [9], [9, 10], [9, 10], [], [9, 11, 13]] [some 25, some 26, some 27, some 28, some 29, some 30, some 31, some 32, some 33, some 34, some 24, some 35, some 36, some 12, none] (fun i_ vs_ v_ p_ => match i_ with | 0 => v_ = .agg #[.int .i64 q.N.ins, q.N.sv, q.N.av, q.N.ov] ∧ p_ = [] | 1 => v_ = vA ∧ p_ = [] | 2 => v_ = .int .i64 (k : Int) ∧ p_ = [] | 3 => v_ = elP vA (((k : Int)).toNat * 1) ∧ p_ = [] | 4 => v_ = .int .i64 (A.getD k 0) ∧ p_ = [] | 5 => v_ = vB ∧ p_ = [] | 6 => v_ = .int .i64 (k : Int) ∧ p_ = [] | 7 => v_ = elP vB (((k : Int)).toNat * 1) ∧ p_ = [] | 8 => v_ = .int .i64 (B.getD k 0) ∧ p_ = [] | 9 => (fun u_ p_ => GP9 q.N (xorO q.N.fst q.N.gs (A.getD k 0) (B.getD k 0)) u_ p_) v_ p_ | 10 => v_ = .tuple #[.agg #[.int .i64 (intOf_o (ag9 0 (tp9 0 (gV9 vs_ 0)))), (ag9 1 (tp9 0 (gV9 vs_ 0))), (ag9 2 (tp9 0 (gV9 vs_ 0))), (ag9 3 (tp9 0 (gV9 vs_ 0)))], .int .i64 (intOf_o (tp9 1 (gV9 vs_ 0)))] ∧ p_ = [] | 11 => v_ = .agg #[.int .i64 (intOf_o (ag9 0 (tp9 0 (gV9 vs_ 0)))), (ag9 1 (tp9 0 (gV9 vs_ 0))), (ag9 2 (tp9 0 (gV9 vs_ 0))), (ag9 3 (tp9 0 (gV9 vs_ 0)))] ∧ p_ = [] | 12 => v_ = .int .i64 (intOf_o (tp9 1 (gV9 vs_ 0))) ∧ p_ = [] | 13 => IsBox #[.int .i64 0, .slice none 0 0, .slice none 0 0, .slice none 0 0] 70 v_ p_ | 14 => p_ = [boxE (blkOf (gV9 vs_ 2)) #[.int .i64 (intOf_o (ag9 0 (tp9 0 (gV9 vs_ 0)))), (ag9 1 (tp9 0 (gV9 vs_ 0))), (ag9 2 (tp9 0 (gV9 vs_ 0))), (ag9 3 (tp9 0 (gV9 vs_ 0)))] 70] | _ => True) [[], [], [], [1, 2], [3], [], [], [5, 6], [7], [0, 4, 8], [9], [9, 10], [9, 10], [], [9, 11]] [none, none, none, none, none, none, none, none, none, none, none, none, none, none, some 13] [] [0, 1, 2, 3, 4, 5, 6, 7, 8, 9, 10, 11, 12, 14] 16 (List.take_append_drop 15 _).symm (by kernel_rfl) (by kernel_rfl) (by kernel_rfl) rfl rfl ?_ ?_
  ·
   refine ⟨?_, ?_, ?_, ?_, ?_, ?_, ?_, ?_, ?_, ?_, ?_, ?_, ?_, ?_, ?_, trivial⟩
   ·
    intro vf pf hmu hR
    refine zce [] [] rfl (zaq (zae [4] rfl) (List.sublist_append_right _ _) ?_)
    exact zbi (zar (cs := [.int .i64 q.N.ins, q.N.sv, q.N.av, q.N.ov]) rfl rfl rfl rfl rfl (zah 3 rfl 0 rfl))
   ·
    intro vf pf hmu hR
    refine zce [] [] rfl (zay (zae [1] rfl) ?_)
    exact zbi (zax rfl)
   ·
    intro vf pf hmu hR
    refine zce [] [] rfl (zay (zae [11] rfl) ?_)
    exact zbi (zax rfl)
   ·
    intro vf pf hmu hR
    have e1 := hR 1 (by decide)
    have e2 := hR 2 (by decide)
    refine zce [1, 2] [1, 2] rfl (zaq (sk 26 (congrArg some e1.1) (sk 27 (congrArg some e2.1) (zab _))) (List.sublist_append_right _ _) ?_)
    exact zbi (riQ 1 rfl rfl rfl rfl (zap ha))
   ·
    intro vf pf hmu hR
    have e3 := hR 3 (by decide)
    refine zce [3] [3] rfl (zaq (sk 28 (congrArg some e3.1) (zab _)) (List.sublist_append_right _ _) ?_)
    exact zbi (liQ rfl rfl rfl (zap ha))
   ·
    intro vf pf hmu hR
    refine zce [] [] rfl (zay (zae [2] rfl) ?_)
    exact zbi (zax rfl)
   ·
    intro vf pf hmu hR
    refine zce [] [] rfl (zay (zae [11] rfl) ?_)
    exact zbi (zax rfl)
   ·
    intro vf pf hmu hR
    have e5 := hR 5 (by decide)
    have e6 := hR 6 (by decide)
    refine zce [5, 6] [5, 6] rfl (zaq (sk 30 (congrArg some e5.1) (sk 31 (congrArg some e6.1) (zab _))) (List.sublist_append_right _ _) ?_)
    exact zbi (riQ 1 rfl rfl rfl rfl (zap hb))
   ·
    intro vf pf hmu hR
    have e7 := hR 7 (by decide)
    refine zce [7] [7] rfl (zaq (sk 32 (congrArg some e7.1) (zab _)) (List.sublist_append_right _ _) ?_)
    exact zbi (liQ rfl rfl rfl (zap hb))
   ·
    intro vf pf hmu hR
    have e0 := hR 0 (by decide)
    have e4 := hR 4 (by decide)
    have e8 := hR 8 (by decide)
    refine zce [0, 4, 8] [0, 4, 8] rfl (zaq (sk 25 (congrArg some e0.1) (sk 29 (congrArg some e4.1) (sk 33 (congrArg some e8.1) (zab _)))) (List.sublist_append_right _ _) ?_)
    exact zam rfl rfl (fun w hm => zgj q.N (A.getD k 0) (B.getD k 0) w (rd_or hNq (hr.below hm.bel) (hm.holds _ (zbr (i := 0) rfl))) hG.ok (by first | omega | exact zcy (by omega) (by omega)) (by first | omega | exact zcy (by omega) (by omega)))
   ·
    intro vf pf hmu hR
    have e9 : (fun u_ p_ => GP9 q.N (xorO q.N.fst q.N.gs (A.getD k 0) (B.getD k 0)) u_ p_) (vf 9) (pf 9) := hR 9 (by decide)
    obtain ⟨v6, vE9⟩ : ∃ x, vf 9 = x := ⟨_, rfl⟩
    obtain ⟨p7, pE9⟩ : ∃ x, pf 9 = x := ⟨_, rfl⟩
    have hR8 := e9
    rw [vE9, pE9] at hR8
    obtain ⟨pshR8, mhR8, zhR8, rfl, rfl, hpmhR8, ⟨o1mhR8, o2mhR8, o3mhR8⟩, gmhR8⟩ := hR8
    have lmhR8 := gmhR8.ln
    have cmhR8 := gmhR8.gr.cnt
    have rmhR8 := zdw gmhR8.gr.ok
    have fmhR8 : mhR8.fst = n.fst := gmhR8.gr.fst.trans hG.fst
    have GmhR8 : Gr n mhR8 := hG.trans gmhR8.gr
    have emhR8 := gmhR8.es
    rw [hG.fst] at emhR8
    refine zce [9] [9] rfl (zbg (sk 34 (congrArg some vE9) (zab _)) (by simp only [pE9, vE9, fS] <;> rfl) ?_)
    exact zbo (zbi (zax rfl)) (fun _ _ h => ⟨h.1.trans (by show _ = (.tuple #[.agg #[.int .i64 (intOf_o (ag9 0 (tp9 0 (vf 9)))), (ag9 1 (tp9 0 (vf 9))), (ag9 2 (tp9 0 (vf 9))), (ag9 3 (tp9 0 (vf 9)))], .int .i64 (intOf_o (tp9 1 (vf 9)))] : Value); first | (rw [vE9]; done) | (rw [vE9]; rfl)), h.2⟩)
   ·
    intro vf pf hmu hR
    have e9 : (fun u_ p_ => GP9 q.N (xorO q.N.fst q.N.gs (A.getD k 0) (B.getD k 0)) u_ p_) (vf 9) (pf 9) := hR 9 (by decide)
    obtain ⟨v6, vE9⟩ : ∃ x, vf 9 = x := ⟨_, rfl⟩
    obtain ⟨p7, pE9⟩ : ∃ x, pf 9 = x := ⟨_, rfl⟩
    have hR8 := e9
    rw [vE9, pE9] at hR8
    obtain ⟨pshR8, mhR8, zhR8, rfl, rfl, hpmhR8, ⟨o1mhR8, o2mhR8, o3mhR8⟩, gmhR8⟩ := hR8
    have lmhR8 := gmhR8.ln
    have cmhR8 := gmhR8.gr.cnt
    have rmhR8 := zdw gmhR8.gr.ok
    have fmhR8 : mhR8.fst = n.fst := gmhR8.gr.fst.trans hG.fst
    have GmhR8 : Gr n mhR8 := hG.trans gmhR8.gr
    have emhR8 := gmhR8.es
    rw [hG.fst] at emhR8
    have e10 : (vf 10) = .tuple #[.agg #[.int .i64 (intOf_o (ag9 0 (tp9 0 (vf 9)))), (ag9 1 (tp9 0 (vf 9))), (ag9 2 (tp9 0 (vf 9))), (ag9 3 (tp9 0 (vf 9)))], .int .i64 (intOf_o (tp9 1 (vf 9)))] ∧ (pf 10) = [] := hR 10 (by decide)
    rw [vE9] at e10
    refine zce [9, 10] [9, 10] rfl (zbg (sk 24 (congrArg some e10.1) (zab _)) (by simp only [pE9, vE9, e10.2, fS] <;> rfl) ?_)
    exact zbo (zbi (zax rfl)) (fun _ _ h => ⟨h.1.trans (by show _ = (.agg #[.int .i64 (intOf_o (ag9 0 (tp9 0 (vf 9)))), (ag9 1 (tp9 0 (vf 9))), (ag9 2 (tp9 0 (vf 9))), (ag9 3 (tp9 0 (vf 9)))] : Value); first | (rw [vE9]; done) | (rw [vE9]; rfl)), h.2⟩)
   ·
    intro vf pf hmu hR
    have e9 : (fun u_ p_ => GP9 q.N (xorO q.N.fst q.N.gs (A.getD k 0) (B.getD k 0)) u_ p_) (vf 9) (pf 9) := hR 9 (by decide)
    obtain ⟨v6, vE9⟩ : ∃ x, vf 9 = x := ⟨_, rfl⟩
    obtain ⟨p7, pE9⟩ : ∃ x, pf 9 = x := ⟨_, rfl⟩
    have hR8 := e9
    rw [vE9, pE9] at hR8
    obtain ⟨pshR8, mhR8, zhR8, rfl, rfl, hpmhR8, ⟨o1mhR8, o2mhR8, o3mhR8⟩, gmhR8⟩ := hR8
    have lmhR8 := gmhR8.ln
    have cmhR8 := gmhR8.gr.cnt
    have rmhR8 := zdw gmhR8.gr.ok
    have fmhR8 : mhR8.fst = n.fst := gmhR8.gr.fst.trans hG.fst
    have GmhR8 : Gr n mhR8 := hG.trans gmhR8.gr
    have emhR8 := gmhR8.es
    rw [hG.fst] at emhR8
    have e10 : (vf 10) = .tuple #[.agg #[.int .i64 (intOf_o (ag9 0 (tp9 0 (vf 9)))), (ag9 1 (tp9 0 (vf 9))), (ag9 2 (tp9 0 (vf 9))), (ag9 3 (tp9 0 (vf 9)))], .int .i64 (intOf_o (tp9 1 (vf 9)))] ∧ (pf 10) = [] := hR 10 (by decide)
    rw [vE9] at e10
    refine zce [9, 10] [9, 10] rfl (zbg (sk 24 (congrArg some e10.1) (zab _)) (by simp only [pE9, vE9, e10.2, fS] <;> rfl) ?_)
    exact zbo (zbi (zax rfl)) (fun _ _ h => ⟨h.1.trans (by show _ = (.int .i64 (intOf_o (tp9 1 (vf 9))) : Value); first | (rw [vE9]; done) | (rw [vE9]; rfl)), h.2⟩)
   ·
    intro vf pf hmu hR
    refine zce [] [] rfl (zaq (zab _) (List.sublist_append_right _ _) ?_)
    exact zcc (z := .agg #[.int .i64 0, .slice none 0 0, .slice none 0 0, .slice none 0 0]) rfl rfl
   intro vf pf hmu hR
   have e9 : (fun u_ p_ => GP9 q.N (xorO q.N.fst q.N.gs (A.getD k 0) (B.getD k 0)) u_ p_) (vf 9) (pf 9) := hR 9 (by decide)
   obtain ⟨v6, vE9⟩ : ∃ x, vf 9 = x := ⟨_, rfl⟩
   obtain ⟨p7, pE9⟩ : ∃ x, pf 9 = x := ⟨_, rfl⟩
   have hR8 := e9
   rw [vE9, pE9] at hR8
   obtain ⟨pshR8, mhR8, zhR8, rfl, rfl, hpmhR8, ⟨o1mhR8, o2mhR8, o3mhR8⟩, gmhR8⟩ := hR8
   have lmhR8 := gmhR8.ln
   have cmhR8 := gmhR8.gr.cnt
   have rmhR8 := zdw gmhR8.gr.ok
   have fmhR8 : mhR8.fst = n.fst := gmhR8.gr.fst.trans hG.fst
   have GmhR8 : Gr n mhR8 := hG.trans gmhR8.gr
   have emhR8 := gmhR8.es
   rw [hG.fst] at emhR8
   have e11 : (vf 11) = .agg #[.int .i64 (intOf_o (ag9 0 (tp9 0 (vf 9)))), (ag9 1 (tp9 0 (vf 9))), (ag9 2 (tp9 0 (vf 9))), (ag9 3 (tp9 0 (vf 9)))] ∧ (pf 11) = [] := hR 11 (by decide)
   rw [vE9] at e11
   have e13 : IsBox #[.int .i64 0, .slice none 0 0, .slice none 0 0, .slice none 0 0] 70 (vf 13) (pf 13) := hR 13 (by decide)
   obtain ⟨b9, vE13, pE13⟩ := e13
   refine Or.inl ⟨rfl, ?_⟩
   show RunM _ _ _ (pf 13) (([9, 11] : List Nat).flatMap pf ++ _) (envOf3 _ vf [9, 11, 13] ++ _) _ _
   rw [pE13]
   exact zbx (sk 12 (congrArg some vE13) (sk 35 (congrArg some e11.1) (zab _))) (by simp only [pE9, vE9, e11.2, fS] <;> rfl) (zel (zcs (us := [.int .i64 mhR8.ins, mhR8.sv, mhR8.av, mhR8.ov]) (off := 0) 0 rfl rfl rfl rfl rfl rfl (zaa rfl (zaa o1mhR8 (zaa o2mhR8 (zaa o3mhR8 zbe)))) rfl rfl) (fun v_ p_ h => by show p_ = [boxE (blkOf (vf 13)) #[.int .i64 (intOf_o (ag9 0 (tp9 0 (vf 9)))), (ag9 1 (tp9 0 (vf 9))), (ag9 2 (tp9 0 (vf 9))), (ag9 3 (tp9 0 (vf 9)))] 70]; rw [vE9, vE13]; exact h))
  intro vf pf hmu hR
  have e9 : (fun u_ p_ => GP9 q.N (xorO q.N.fst q.N.gs (A.getD k 0) (B.getD k 0)) u_ p_) (vf 9) (pf 9) := hR 9 (by decide)
  obtain ⟨v6, vE9⟩ : ∃ x, vf 9 = x := ⟨_, rfl⟩
  obtain ⟨p7, pE9⟩ : ∃ x, pf 9 = x := ⟨_, rfl⟩
  have hR8 := e9
  rw [vE9, pE9] at hR8
  obtain ⟨pshR8, mhR8, zhR8, rfl, rfl, hpmhR8, ⟨o1mhR8, o2mhR8, o3mhR8⟩, gmhR8⟩ := hR8
  have lmhR8 := gmhR8.ln
  have cmhR8 := gmhR8.gr.cnt
  have rmhR8 := zdw gmhR8.gr.ok
  have fmhR8 : mhR8.fst = n.fst := gmhR8.gr.fst.trans hG.fst
  have GmhR8 : Gr n mhR8 := hG.trans gmhR8.gr
  have emhR8 := gmhR8.es
  rw [hG.fst] at emhR8
  have e12 : (vf 12) = .int .i64 (intOf_o (tp9 1 (vf 9))) ∧ (pf 12) = [] := hR 12 (by decide)
  rw [vE9] at e12
  have e13 : IsBox #[.int .i64 0, .slice none 0 0, .slice none 0 0, .slice none 0 0] 70 (vf 13) (pf 13) := hR 13 (by decide)
  obtain ⟨b9, vE13, pE13⟩ := e13
  have e14 : (pf 14) = [boxE (blkOf (vf 13)) #[.int .i64 (intOf_o (ag9 0 (tp9 0 (vf 9)))), (ag9 1 (tp9 0 (vf 9))), (ag9 2 (tp9 0 (vf 9))), (ag9 3 (tp9 0 (vf 9)))] 70] := hR 14 (by decide)
  rw [vE9, vE13] at e14
  have pE14 := e14
  have q0 := hR 0 (by decide)
  have q1 := hR 1 (by decide)
  have q2 := hR 2 (by decide)
  have q3 := hR 3 (by decide)
  have q4 := hR 4 (by decide)
  have q5 := hR 5 (by decide)
  have q6 := hR 6 (by decide)
  have q7 := hR 7 (by decide)
  have q8 := hR 8 (by decide)
  have q10 := hR 10 (by decide)
  have q11 := hR 11 (by decide)
  have q12 := hR 12 (by decide)
  refine zcd (zbs [11, 10, 9, 8, 4, 3, 2, 1, 0] _ (sk 12 (congrArg some vE13) (sk 21 rfl (sk 36 (congrArg some e12.1) (zab _)))) rfl) (by simp only [pE9, vE9, pE14, q0.2, q1.2, q2.2, q3.2, q4.2, q5.2, q6.2, q7.2, q8.2, q10.2, q11.2, q12.2, fS] <;> rfl) ?_
  simp only [List.drop_succ_cons, List.drop_zero]
  refine zbc 1 rfl (srQ (hvQ rfl (zar (cs := [.int .i64 mhR8.ins, mhR8.sv, mhR8.av, mhR8.ov]) rfl rfl rfl rfl rfl (zah 1 rfl 0 rfl)) (zag 2 rfl ?_)))
  refine zfg rfl rfl rfl (zam rfl rfl (fun w hm => zgj mhR8 zhR8 q.c w (hpmhR8 w (hm.holds _ (zbr (i := 0) rfl))) gmhR8.gr.ok (by first | omega | exact zcy (by omega) (by omega)) (by first | omega | exact zcy (by omega) (by omega)))) ?_
  intro v10 p11 hR12
  obtain ⟨pshR12, mhR12, zhR12, rfl, rfl, hpmhR12, ⟨o1mhR12, o2mhR12, o3mhR12⟩, gmhR12⟩ := hR12
  have lmhR12 := gmhR12.ln
  have cmhR12 := gmhR12.gr.cnt
  have rmhR12 := zdw gmhR12.gr.ok
  have fmhR12 : mhR12.fst = n.fst := gmhR12.gr.fst.trans fmhR8
  have GmhR12 : Gr n mhR12 := GmhR8.trans gmhR12.gr
  have emhR12 := gmhR12.es
  rw [fmhR8] at emhR12
  refine zag 3 rfl (zbm (cs' := #[.int .i64 mhR12.ins, mhR12.sv, mhR12.av, mhR12.ov]) (i := 2) (off := 0) (us := [.int .i64 mhR12.ins, mhR12.sv, mhR12.av, mhR12.ov]) rfl rfl rfl rfl rfl rfl rfl (zaa rfl (zaa o1mhR12 (zaa o2mhR12 (zaa o3mhR12 zbe)))) rfl rfl rfl ?_)
  refine zbc 1 rfl (zac (reQ 2 rfl ?_))
  refine zey rfl (zas (z := .int .i64 0) (s := 1) (cs := ([zhR12].map (Value.int .i64))) rfl Try.underlying48 rfl (by decide) rfl (by kernel_rfl) rfl) ?_
  intro g13
  refine zdc (i := 5) (z := .int .i64 0) (bytes := 8) rfl rfl rfl rfl Try.underlying48 (by kernel_rfl) rfl rfl rfl rfl (zao 0 rfl) (zcj _) (by first | omega | (simp; done) | (simp; omega)) (zco q.zs ([zhR12])) (zcx q.zs ([zhR12])) (fun _ => rfl) ?_
  intro v14
  refine zbc 1 rfl (srQ (hvQ rfl (zar (cs := [.int .i64 mhR12.ins, mhR12.sv, mhR12.av, mhR12.ov]) rfl rfl rfl rfl rfl (zah 3 rfl 0 rfl)) ?_))
  refine zbm (cs' := #[.int .i64 mhR12.ins, mhR12.sv, mhR12.av, mhR12.ov]) (i := 7) (off := 0) (us := [.int .i64 mhR12.ins, mhR12.sv, mhR12.av, mhR12.ov]) rfl rfl rfl rfl rfl rfl rfl (zaa rfl (zaa o1mhR12 (zaa o2mhR12 (zaa o3mhR12 zbe)))) rfl rfl rfl (ntQ (zac (zac (reQ 2 rfl (hvQ rfl (lnQ rfl rfl rfl (zap ha)) (hvQ rfl (vsQ rfl rfl rfl) ?_))))))
  refine zbj rfl rfl rfl rfl rfl rfl (fun h15 => ?_) (fun h15 => ?_)
  ·
   refine ntQ (zaj rfl ?_)
   refine zby (hq_then_exit ?_)
   refine hq_block_past rfl (zes ?_)
   refine zat (zaw (srQ (hvQ rfl (zar (cs := [.int .i64 mhR12.ins, mhR12.sv, mhR12.av, mhR12.ov]) rfl rfl rfl rfl rfl (zah 7 rfl 0 rfl)) (zag 1 rfl ?_))))
   refine zbm (cs' := #[.int .i64 mhR12.ins, mhR12.sv, mhR12.av, mhR12.ov]) (i := 6) (off := 0) (us := [.int .i64 mhR12.ins, mhR12.sv, mhR12.av, mhR12.ov]) rfl rfl rfl rfl rfl rfl rfl (zaa rfl (zaa o1mhR12 (zaa o2mhR12 (zaa o3mhR12 zbe)))) rfl rfl rfl (zbc 1 rfl ?_)
   exact zak (zca (rs := [.cell 8 70, .tmp 9]) (vs := [.agg #[.int .i64 mhR12.ins, mhR12.sv, mhR12.av, mhR12.ov], v14]) (post := [bigE pshR12, rowE 3 1 v14 ((q.zs ++ ([zhR12])).length) ((q.zs ++ ([zhR12])).map (Value.int .i64))]) rfl ⟨⟨b2, 0, [.int .i64 mhR12.ins, mhR12.sv, mhR12.av, mhR12.ov], rfl, rfl, by kernel_rfl, by kernel_rfl, zah 6 rfl 0 rfl⟩, rfl, trivial⟩ rfl (slQ [1, 3] rfl) ⟨pshR12, mhR12, _, _, rfl, rfl, .inr hpmhR12, ⟨o1mhR12, o2mhR12, o3mhR12⟩, GmhR12, by rw [List.length_append, List.length_singleton]; omega, ls_app hLs (by omega) (by omega), by unfold sumO; exact ES.map (·.1) (es_last (by omega) hE emhR8 emhR12)⟩)
  refine ntQ (zal rfl (zdb (zac ?_)))
  refine zdo 8 [7, 6, 5, 4, 2, 1, 0, 3] rfl rfl (by decide) ?_
  refine zdq (l := [rowE 3 1 (.slice (some ⟨g13, 0, none⟩) 1 1) 1 ([zhR12].map (Value.int .i64)), bigE pshR12, bigE pshR8, bigE q.ps, rowE 3 1 v14 ((q.zs ++ ([zhR12])).length) ((q.zs ++ ([zhR12])).map (Value.int .i64)), eB9 b2, nB9 b1 mhR12]) rfl 14 [0, 1, 2, 3, 4, 5, 6, 7, 8, 9, 10, 11, 12, 13] (List.take 14 _) (List.drop 14 _) [[], [], [], [1, 2], [3], [], [], [5, 6], [7], [0, 4, 8], [9], [9, 10], [9, 10], [9, 11]] [some 55, some 56, some 57, some 58, some 59, some 60, some 61, some 62, some 63, some 64, some 54, some 65, some 66, none] (fun i_ vs_ v_ p_ => match i_ with | 0 => v_ = .agg #[.int .i64 mhR12.ins, mhR12.sv, mhR12.av, mhR12.ov] ∧ p_ = [] | 1 => v_ = vA ∧ p_ = [] | 2 => v_ = .int .i64 (k : Int) ∧ p_ = [] | 3 => v_ = elP vA (((k : Int)).toNat * 1) ∧ p_ = [] | 4 => v_ = .int .i64 (A.getD k 0) ∧ p_ = [] | 5 => v_ = vB ∧ p_ = [] | 6 => v_ = .int .i64 (k : Int) ∧ p_ = [] | 7 => v_ = elP vB (((k : Int)).toNat * 1) ∧ p_ = [] | 8 => v_ = .int .i64 (B.getD k 0) ∧ p_ = [] | 9 => (fun u_ p_ => GP9 mhR12 (andO mhR12.fst mhR12.gs (A.getD k 0) (B.getD k 0)) u_ p_) v_ p_ | 10 => v_ = .tuple #[.agg #[.int .i64 (intOf_o (ag9 0 (tp9 0 (gV9 vs_ 0)))), (ag9 1 (tp9 0 (gV9 vs_ 0))), (ag9 2 (tp9 0 (gV9 vs_ 0))), (ag9 3 (tp9 0 (gV9 vs_ 0)))], .int .i64 (intOf_o (tp9 1 (gV9 vs_ 0)))] ∧ p_ = [] | 11 => v_ = .agg #[.int .i64 (intOf_o (ag9 0 (tp9 0 (gV9 vs_ 0)))), (ag9 1 (tp9 0 (gV9 vs_ 0))), (ag9 2 (tp9 0 (gV9 vs_ 0))), (ag9 3 (tp9 0 (gV9 vs_ 0)))] ∧ p_ = [] | 12 => v_ = .int .i64 (intOf_o (tp9 1 (gV9 vs_ 0))) ∧ p_ = [] | 13 => p_ = [boxE b9 #[.int .i64 (intOf_o (ag9 0 (tp9 0 (gV9 vs_ 0)))), (ag9 1 (tp9 0 (gV9 vs_ 0))), (ag9 2 (tp9 0 (gV9 vs_ 0))), (ag9 3 (tp9 0 (gV9 vs_ 0)))] 70] | _ => True) [[], [], [], [1, 2], [3], [], [], [5, 6], [7], [0, 4, 8], [9], [9, 10], [9, 10], [9, 11]] [none, none, none, none, none, none, none, none, none, none, none, none, none, some 15] [[nB9 b9 mhR12]] [0, 1, 2, 3, 4, 5, 6, 7, 8, 9, 10, 11, 12, 13] 15 (List.take_append_drop 14 _).symm (by kernel_rfl) (by kernel_rfl) (by kernel_rfl) rfl rfl ?_ ?_
  ·
   refine ⟨?_, ?_, ?_, ?_, ?_, ?_, ?_, ?_, ?_, ?_, ?_, ?_, ?_, ?_, trivial⟩
   ·
    intro vf pf hmu hR
    refine zce [] [] rfl (zaq (zae [4] rfl) (List.sublist_append_right _ _) ?_)
    exact zbi (zar (cs := [.int .i64 mhR12.ins, mhR12.sv, mhR12.av, mhR12.ov]) rfl rfl rfl rfl rfl (zah 6 rfl 0 rfl))
   ·
    intro vf pf hmu hR
    refine zce [] [] rfl (zay (zae [1] rfl) ?_)
    exact zbi (zax rfl)
   ·
    intro vf pf hmu hR
    refine zce [] [] rfl (zay (zae [11] rfl) ?_)
    exact zbi (zax rfl)
   ·
    intro vf pf hmu hR
    have e1 := hR 1 (by decide)
    have e2 := hR 2 (by decide)
    refine zce [1, 2] [1, 2] rfl (zaq (sk 56 (congrArg some e1.1) (sk 57 (congrArg some e2.1) (zab _))) (List.sublist_append_right _ _) ?_)
    exact zbi (riQ 1 rfl rfl rfl rfl (zap ha))
   ·
    intro vf pf hmu hR
    have e3 := hR 3 (by decide)
    refine zce [3] [3] rfl (zaq (sk 58 (congrArg some e3.1) (zab _)) (List.sublist_append_right _ _) ?_)
    exact zbi (liQ rfl rfl rfl (zap ha))
   ·
    intro vf pf hmu hR
    refine zce [] [] rfl (zay (zae [2] rfl) ?_)
    exact zbi (zax rfl)
   ·
    intro vf pf hmu hR
    refine zce [] [] rfl (zay (zae [11] rfl) ?_)
    exact zbi (zax rfl)
   ·
    intro vf pf hmu hR
    have e5 := hR 5 (by decide)
    have e6 := hR 6 (by decide)
    refine zce [5, 6] [5, 6] rfl (zaq (sk 60 (congrArg some e5.1) (sk 61 (congrArg some e6.1) (zab _))) (List.sublist_append_right _ _) ?_)
    exact zbi (riQ 1 rfl rfl rfl rfl (zap hb))
   ·
    intro vf pf hmu hR
    have e7 := hR 7 (by decide)
    refine zce [7] [7] rfl (zaq (sk 62 (congrArg some e7.1) (zab _)) (List.sublist_append_right _ _) ?_)
    exact zbi (liQ rfl rfl rfl (zap hb))
   ·
    intro vf pf hmu hR
    have e0 := hR 0 (by decide)
    have e4 := hR 4 (by decide)
    have e8 := hR 8 (by decide)
    refine zce [0, 4, 8] [0, 4, 8] rfl (zaq (sk 55 (congrArg some e0.1) (sk 59 (congrArg some e4.1) (sk 63 (congrArg some e8.1) (zab _)))) (List.sublist_append_right _ _) ?_)
    exact zam rfl rfl (fun w hm => zex mhR12 (A.getD k 0) (B.getD k 0) w (hpmhR12 w (hm.holds _ (zbr (i := 1) rfl))) gmhR12.gr.ok (by first | omega | exact zcy (by omega) (by omega)) (by first | omega | exact zcy (by omega) (by omega)))
   ·
    intro vf pf hmu hR
    have e9 : (fun u_ p_ => GP9 mhR12 (andO mhR12.fst mhR12.gs (A.getD k 0) (B.getD k 0)) u_ p_) (vf 9) (pf 9) := hR 9 (by decide)
    obtain ⟨v16, vE9⟩ : ∃ x, vf 9 = x := ⟨_, rfl⟩
    obtain ⟨p17, pE9⟩ : ∃ x, pf 9 = x := ⟨_, rfl⟩
    have hR18 := e9
    rw [vE9, pE9] at hR18
    obtain ⟨pshR18, mhR18, zhR18, rfl, rfl, hpmhR18, ⟨o1mhR18, o2mhR18, o3mhR18⟩, gmhR18⟩ := hR18
    have lmhR18 := gmhR18.ln
    have cmhR18 := gmhR18.gr.cnt
    have rmhR18 := zdw gmhR18.gr.ok
    have fmhR18 : mhR18.fst = n.fst := gmhR18.gr.fst.trans fmhR12
    have GmhR18 : Gr n mhR18 := GmhR12.trans gmhR18.gr
    have emhR18 := gmhR18.es
    rw [fmhR12] at emhR18
    refine zce [9] [9] rfl (zbg (sk 64 (congrArg some vE9) (zab _)) (by simp only [pE9, vE9, fS] <;> rfl) ?_)
    exact zbo (zbi (zax rfl)) (fun _ _ h => ⟨h.1.trans (by show _ = (.tuple #[.agg #[.int .i64 (intOf_o (ag9 0 (tp9 0 (vf 9)))), (ag9 1 (tp9 0 (vf 9))), (ag9 2 (tp9 0 (vf 9))), (ag9 3 (tp9 0 (vf 9)))], .int .i64 (intOf_o (tp9 1 (vf 9)))] : Value); first | (rw [vE9]; done) | (rw [vE9]; rfl)), h.2⟩)
   ·
    intro vf pf hmu hR
    have e9 : (fun u_ p_ => GP9 mhR12 (andO mhR12.fst mhR12.gs (A.getD k 0) (B.getD k 0)) u_ p_) (vf 9) (pf 9) := hR 9 (by decide)
    obtain ⟨v16, vE9⟩ : ∃ x, vf 9 = x := ⟨_, rfl⟩
    obtain ⟨p17, pE9⟩ : ∃ x, pf 9 = x := ⟨_, rfl⟩
    have hR18 := e9
    rw [vE9, pE9] at hR18
    obtain ⟨pshR18, mhR18, zhR18, rfl, rfl, hpmhR18, ⟨o1mhR18, o2mhR18, o3mhR18⟩, gmhR18⟩ := hR18
    have lmhR18 := gmhR18.ln
    have cmhR18 := gmhR18.gr.cnt
    have rmhR18 := zdw gmhR18.gr.ok
    have fmhR18 : mhR18.fst = n.fst := gmhR18.gr.fst.trans fmhR12
    have GmhR18 : Gr n mhR18 := GmhR12.trans gmhR18.gr
    have emhR18 := gmhR18.es
    rw [fmhR12] at emhR18
    have e10 : (vf 10) = .tuple #[.agg #[.int .i64 (intOf_o (ag9 0 (tp9 0 (vf 9)))), (ag9 1 (tp9 0 (vf 9))), (ag9 2 (tp9 0 (vf 9))), (ag9 3 (tp9 0 (vf 9)))], .int .i64 (intOf_o (tp9 1 (vf 9)))] ∧ (pf 10) = [] := hR 10 (by decide)
    rw [vE9] at e10
    refine zce [9, 10] [9, 10] rfl (zbg (sk 54 (congrArg some e10.1) (zab _)) (by simp only [pE9, vE9, e10.2, fS] <;> rfl) ?_)
    exact zbo (zbi (zax rfl)) (fun _ _ h => ⟨h.1.trans (by show _ = (.agg #[.int .i64 (intOf_o (ag9 0 (tp9 0 (vf 9)))), (ag9 1 (tp9 0 (vf 9))), (ag9 2 (tp9 0 (vf 9))), (ag9 3 (tp9 0 (vf 9)))] : Value); first | (rw [vE9]; done) | (rw [vE9]; rfl)), h.2⟩)
   ·
    intro vf pf hmu hR
    have e9 : (fun u_ p_ => GP9 mhR12 (andO mhR12.fst mhR12.gs (A.getD k 0) (B.getD k 0)) u_ p_) (vf 9) (pf 9) := hR 9 (by decide)
    obtain ⟨v16, vE9⟩ : ∃ x, vf 9 = x := ⟨_, rfl⟩
    obtain ⟨p17, pE9⟩ : ∃ x, pf 9 = x := ⟨_, rfl⟩
    have hR18 := e9
    rw [vE9, pE9] at hR18
    obtain ⟨pshR18, mhR18, zhR18, rfl, rfl, hpmhR18, ⟨o1mhR18, o2mhR18, o3mhR18⟩, gmhR18⟩ := hR18
    have lmhR18 := gmhR18.ln
    have cmhR18 := gmhR18.gr.cnt
    have rmhR18 := zdw gmhR18.gr.ok
    have fmhR18 : mhR18.fst = n.fst := gmhR18.gr.fst.trans fmhR12
    have GmhR18 : Gr n mhR18 := GmhR12.trans gmhR18.gr
    have emhR18 := gmhR18.es
    rw [fmhR12] at emhR18
    have e10 : (vf 10) = .tuple #[.agg #[.int .i64 (intOf_o (ag9 0 (tp9 0 (vf 9)))), (ag9 1 (tp9 0 (vf 9))), (ag9 2 (tp9 0 (vf 9))), (ag9 3 (tp9 0 (vf 9)))], .int .i64 (intOf_o (tp9 1 (vf 9)))] ∧ (pf 10) = [] := hR 10 (by decide)
    rw [vE9] at e10
    refine zce [9, 10] [9, 10] rfl (zbg (sk 54 (congrArg some e10.1) (zab _)) (by simp only [pE9, vE9, e10.2, fS] <;> rfl) ?_)
    exact zbo (zbi (zax rfl)) (fun _ _ h => ⟨h.1.trans (by show _ = (.int .i64 (intOf_o (tp9 1 (vf 9))) : Value); first | (rw [vE9]; done) | (rw [vE9]; rfl)), h.2⟩)
   intro vf pf hmu hR
   have e9 : (fun u_ p_ => GP9 mhR12 (andO mhR12.fst mhR12.gs (A.getD k 0) (B.getD k 0)) u_ p_) (vf 9) (pf 9) := hR 9 (by decide)
   obtain ⟨v16, vE9⟩ : ∃ x, vf 9 = x := ⟨_, rfl⟩
   obtain ⟨p17, pE9⟩ : ∃ x, pf 9 = x := ⟨_, rfl⟩
   have hR18 := e9
   rw [vE9, pE9] at hR18
   obtain ⟨pshR18, mhR18, zhR18, rfl, rfl, hpmhR18, ⟨o1mhR18, o2mhR18, o3mhR18⟩, gmhR18⟩ := hR18
   have lmhR18 := gmhR18.ln
   have cmhR18 := gmhR18.gr.cnt
   have rmhR18 := zdw gmhR18.gr.ok
   have fmhR18 : mhR18.fst = n.fst := gmhR18.gr.fst.trans fmhR12
   have GmhR18 : Gr n mhR18 := GmhR12.trans gmhR18.gr
   have emhR18 := gmhR18.es
   rw [fmhR12] at emhR18
   have e11 : (vf 11) = .agg #[.int .i64 (intOf_o (ag9 0 (tp9 0 (vf 9)))), (ag9 1 (tp9 0 (vf 9))), (ag9 2 (tp9 0 (vf 9))), (ag9 3 (tp9 0 (vf 9)))] ∧ (pf 11) = [] := hR 11 (by decide)
   rw [vE9] at e11
   refine Or.inl ⟨rfl, ?_⟩
   show RunM _ _ _ (pf 15) (([9, 11] : List Nat).flatMap pf ++ _) (envOf3 _ vf [9, 11] ++ _) _ _
   have hmu0 : pf 15 = [nB9 b9 mhR12] := hmu 0 (show 0 < 1 by omega)
   rw [hmu0]
   exact zbx (sk 12 rfl (sk 65 (congrArg some e11.1) (zab _))) (by simp only [pE9, vE9, e11.2, fS] <;> rfl) (zel (zcs (us := [.int .i64 mhR18.ins, mhR18.sv, mhR18.av, mhR18.ov]) (off := 0) 0 rfl rfl rfl rfl rfl rfl (zaa rfl (zaa o1mhR18 (zaa o2mhR18 (zaa o3mhR18 zbe)))) rfl rfl) (fun v_ p_ h => by show p_ = [boxE b9 #[.int .i64 (intOf_o (ag9 0 (tp9 0 (vf 9)))), (ag9 1 (tp9 0 (vf 9))), (ag9 2 (tp9 0 (vf 9))), (ag9 3 (tp9 0 (vf 9)))] 70]; rw [vE9]; exact h))
  intro vf pf hmu hR
  have e9 : (fun u_ p_ => GP9 mhR12 (andO mhR12.fst mhR12.gs (A.getD k 0) (B.getD k 0)) u_ p_) (vf 9) (pf 9) := hR 9 (by decide)
  obtain ⟨v16, vE9⟩ : ∃ x, vf 9 = x := ⟨_, rfl⟩
  obtain ⟨p17, pE9⟩ : ∃ x, pf 9 = x := ⟨_, rfl⟩
  have hR18 := e9
  rw [vE9, pE9] at hR18
  obtain ⟨pshR18, mhR18, zhR18, rfl, rfl, hpmhR18, ⟨o1mhR18, o2mhR18, o3mhR18⟩, gmhR18⟩ := hR18
  have lmhR18 := gmhR18.ln
  have cmhR18 := gmhR18.gr.cnt
  have rmhR18 := zdw gmhR18.gr.ok
  have fmhR18 : mhR18.fst = n.fst := gmhR18.gr.fst.trans fmhR12
  have GmhR18 : Gr n mhR18 := GmhR12.trans gmhR18.gr
  have emhR18 := gmhR18.es
  rw [fmhR12] at emhR18
  have e12 : (vf 12) = .int .i64 (intOf_o (tp9 1 (vf 9))) ∧ (pf 12) = [] := hR 12 (by decide)
  rw [vE9] at e12
  have e13 : (pf 13) = [boxE b9 #[.int .i64 (intOf_o (ag9 0 (tp9 0 (vf 9)))), (ag9 1 (tp9 0 (vf 9))), (ag9 2 (tp9 0 (vf 9))), (ag9 3 (tp9 0 (vf 9)))] 70] := hR 13 (by decide)
  rw [vE9] at e13
  have pE13 := e13
  have q0 := hR 0 (by decide)
  have q1 := hR 1 (by decide)
  have q2 := hR 2 (by decide)
  have q3 := hR 3 (by decide)
  have q4 := hR 4 (by decide)
  have q5 := hR 5 (by decide)
  have q6 := hR 6 (by decide)
  have q7 := hR 7 (by decide)
  have q8 := hR 8 (by decide)
  have q10 := hR 10 (by decide)
  have q11 := hR 11 (by decide)
  have q12 := hR 12 (by decide)
  refine zcd (zbs [53, 21, 14, 13, 12, 11, 10, 9, 8, 4, 3, 2, 1, 0] _ (sk 66 (congrArg some e12.1) (zab _)) rfl) (by simp only [pE9, vE9, pE13, q0.2, q1.2, q2.2, q3.2, q4.2, q5.2, q6.2, q7.2, q8.2, q10.2, q11.2, q12.2, fS] <;> rfl) ?_
  simp only [List.drop_succ_cons, List.drop_zero]
  refine zbc 1 rfl (srQ (hvQ rfl (zar (cs := [.int .i64 mhR18.ins, mhR18.sv, mhR18.av, mhR18.ov]) rfl rfl rfl rfl rfl (zah 1 rfl 0 rfl)) (zag 2 rfl ?_)))
  refine zfg rfl rfl rfl (zam rfl rfl (fun w hm => zex mhR18 zhR8 q.c w (hpmhR18 w (hm.holds _ (zbr (i := 0) rfl))) gmhR18.gr.ok (by first | omega | exact zcy (by omega) (by omega)) (by first | omega | exact zcy (by omega) (by omega)))) ?_
  intro v19 p20 hR21
  obtain ⟨pshR21, mhR21, zhR21, rfl, rfl, hpmhR21, ⟨o1mhR21, o2mhR21, o3mhR21⟩, gmhR21⟩ := hR21
  have lmhR21 := gmhR21.ln
  have cmhR21 := gmhR21.gr.cnt
  have rmhR21 := zdw gmhR21.gr.ok
  have fmhR21 : mhR21.fst = n.fst := gmhR21.gr.fst.trans fmhR18
  have GmhR21 : Gr n mhR21 := GmhR18.trans gmhR21.gr
  have emhR21 := gmhR21.es
  rw [fmhR18] at emhR21
  refine zag 3 rfl (zbm (cs' := #[.int .i64 mhR21.ins, mhR21.sv, mhR21.av, mhR21.ov]) (i := 2) (off := 0) (us := [.int .i64 mhR21.ins, mhR21.sv, mhR21.av, mhR21.ov]) rfl rfl rfl rfl rfl rfl rfl (zaa rfl (zaa o1mhR21 (zaa o2mhR21 (zaa o3mhR21 zbe)))) rfl rfl rfl ?_)
  refine zbc 1 rfl (zav (hvQ rfl (zar (cs := [.int .i64 mhR21.ins, mhR21.sv, mhR21.av, mhR21.ov]) rfl rfl rfl rfl rfl (zah 2 rfl 0 rfl)) (zag 2 rfl ?_)))
  refine zfg rfl rfl rfl (zam rfl rfl (fun w hm => AddOrG_ret mhR21 zhR18 zhR21 w (hpmhR21 w (hm.holds _ (zbr (i := 0) rfl))) gmhR21.gr.ok (by first | omega | exact zcy (by omega) (by omega)) (by first | omega | exact zcy (by omega) (by omega)))) ?_
  intro v22 p23 hR24
  obtain ⟨pshR24, mhR24, zhR24, rfl, rfl, hpmhR24, ⟨o1mhR24, o2mhR24, o3mhR24⟩, gmhR24⟩ := hR24
  have lmhR24 := gmhR24.ln
  have cmhR24 := gmhR24.gr.cnt
  have rmhR24 := zdw gmhR24.gr.ok
  have fmhR24 : mhR24.fst = n.fst := gmhR24.gr.fst.trans fmhR21
  have GmhR24 : Gr n mhR24 := GmhR21.trans gmhR24.gr
  have emhR24 := gmhR24.es
  rw [fmhR21] at emhR24
  refine zag 3 rfl (zbm (cs' := #[.int .i64 mhR24.ins, mhR24.sv, mhR24.av, mhR24.ov]) (i := 10) (off := 0) (us := [.int .i64 mhR24.ins, mhR24.sv, mhR24.av, mhR24.ov]) rfl rfl rfl rfl rfl rfl rfl (zaa rfl (zaa o1mhR24 (zaa o2mhR24 (zaa o3mhR24 zbe)))) rfl rfl rfl ?_)
  refine enQ 1 rfl (zdn (reQ 1 rfl (hvQ rfl (vaQ rfl rfl rfl) (enQ 1 rfl ?_))))
  refine zaz 11 [10, 9, 8, 0] rfl rfl (by decide) ?_
  exact zci (k + 1) ⟨mhR24, pshR24, zhR24, q.zs ++ ([zhR12]), v14⟩ ⟨by omega, GmhR24, .inr hpmhR24, ⟨o1mhR24, o2mhR24, o3mhR24⟩, by dsimp only; rw [List.length_append, List.length_singleton]; omega, ls_app hLs (by dsimp only; omega) (by dsimp only; omega), lmhR24, es_sum (by omega) hE emhR8 emhR12 emhR18 emhR21 emhR24⟩ (by omega) (saQ rfl) (pfQ rfl)
 refine ntQ (zal rfl ?_)
 refine zby (zes ?_)
 refine zat (zaw (srQ (hvQ rfl (zar (cs := [.int .i64 q.N.ins, q.N.sv, q.N.av, q.N.ov]) rfl rfl rfl rfl rfl (zah 3 rfl 0 rfl)) (zag 1 rfl ?_))))
 refine zbm (cs' := #[.int .i64 q.N.ins, q.N.sv, q.N.av, q.N.ov]) (i := 2) (off := 0) (us := [.int .i64 q.N.ins, q.N.sv, q.N.av, q.N.ov]) rfl rfl rfl rfl rfl rfl rfl (zaa rfl (zaa o1q (zaa o2q (zaa o3q zbe)))) rfl rfl rfl (zbc 1 rfl ?_)
 refine zak ?_
 exfalso
 omega
def bwO (f kd : Int) : List An → Int → Int → Option (List An × Int) := if kd = 5 then andO f else if kd = 6 then orO f else xorO f
theorem two_bw {f kd : Int} {A B : List Int} {W : Nat} {g : List An} (h : kd = 5 ∨ kd = 6 ∨ kd = 7) : twO f kd A B W g = itO (bwS (bwO f kd) A B) (g, []) W := by
  rcases h with h | h | h <;> subst h <;> rfl
theorem getD_nt (B : List Int) (k : Nat) : (B.map ntL).getD k 0 = ntL (B.getD k 0) ∨ (B.map ntL).getD k 0 = (B.map xr).getD k 0 := by
  rcases Nat.lt_or_ge k B.length with h | h
  · exact .inl (by rw [List.getD_eq_getElem?_getD, List.getElem?_map, List.getD_eq_getElem?_getD, List.getElem?_eq_getElem h]; rfl)
  · exact .inr (by rw [zem (by rw [List.length_map]; exact h), zem (by rw [List.length_map]; exact h)])
theorem getD_xr {B : List Int} {k : Nat} (h : k < B.length) : (B.map xr).getD k 0 = xr (B.getD k 0) := by rw [List.getD_eq_getElem?_getD, List.getElem?_map, List.getD_eq_getElem?_getD, List.getElem?_eq_getElem h]; rfl
theorem xorO_negr {f : Int} {gs : List An} {a b : Int} (h : b < 0) : xorO f gs a b = none := by unfold xorO; rw [andO_negr (xr_neg h)]; rfl
theorem xorO_nt (f : Int) (gs : List An) (a : Int) (B : List Int) (k : Nat) : xorO f gs a ((B.map ntL).getD k 0) = xorO f gs a ((B.map xr).getD k 0) := by
  rcases getD_nt B k with h | h
  · rcases Nat.lt_or_ge k B.length with hk | hk
    · rw [h, getD_xr hk]
      by_cases hb : B.getD k 0 < 0
      · rw [xorO_negr (ntL_lt0 hb), xorO_negr (xr_neg hb)]
      · rw [ntL_pos (by omega)]
    · rw [zem (xs := B.map ntL) (by rw [List.length_map]; exact hk), zem (xs := B.map xr) (by rw [List.length_map]; exact hk)]
  · rw [h]
theorem andO_negk {f : Int} {gs : List An} {a : Int} {B : List Int} {k : Nat} : andO f gs a ((B.map ntL).getD k 0) = andO f gs a ((B.map xr).getD k 0) := by
  rcases getD_nt B k with h | h
  · rcases Nat.lt_or_ge k B.length with hk | hk
    · rw [h, getD_xr hk]; exact andO_nr _ _ _ _
    · rw [zem (xs := B.map ntL) (by rw [List.length_map]; exact hk), zem (xs := B.map xr) (by rw [List.length_map]; exact hk)]
  · rw [h]
theorem sumO_nt (f : Int) (A B : List Int) (c : Int) (W : Nat) (g : List An) : sumO f A (B.map ntL) c W g = sumO f A (B.map xr) c W g := by
  have e : sumS f A (B.map ntL) W = sumS f A (B.map xr) W := by
    funext k s; unfold sumS; rw [xorO_nt]; congr 1; funext y; congr 1; funext z; rw [andO_negk]
  unfold sumO; rw [e]
theorem nt_bnd {B : List Int} {m : Int} (hm : 1 ≤ m) (h : ∀ x ∈ B, x < 2 * m) : ∀ x ∈ B.map ntL, x < 2 * m := fun x hx => by
  obtain ⟨y, hy, rfl⟩ := List.mem_map.1 hx
  exact zcy hm (h y hy)
theorem lone_len (W : Nat) (hW : 1 ≤ W) (e : Int) : (loneL W e).length = W := by unfold loneL; rw [List.length_cons, List.length_replicate]; omega
theorem lone_bnd {W : Nat} {e m : Int} (hm : 1 ≤ m) (h : e < 2 * m) : ∀ x ∈ loneL W e, x < 2 * m := fun x hx => by
  unfold loneL at hx
  rcases List.mem_cons.1 hx with hx | hx
  · subst hx; exact h
  · rw [List.eq_of_mem_replicate hx]; omega
theorem l07BitX_ans (b : Bool) (w : World)  :
   Calls Try.prog 156 #[.bool b] w (Ans w (.int .i64 (if b = true then 1 else 0))) := by
 refine zbq (N := 4) (args := [.bool b]) Try.func156 rfl rfl (zbn 1 rfl (zac (zac (reQ 1 rfl ?_))))
 refine zbz (fun h1 => ?_) (fun h1 => ?_)
 ·
  refine ntQ (zaj rfl (zbn 1 rfl ?_))
  refine zak (zad ?_)
  exact zbl rfl rfl (by first | rw [if_pos (by assumption)] | rw [if_neg (by simp_all)])
 refine ntQ (zal rfl (zdb (zbn 1 rfl ?_)))
 exact zak (zbl rfl rfl (by first | rw [if_pos (by assumption)] | rw [if_neg (by simp_all)]))
theorem l07BitE_ans (w : World) : Calls Try.prog 156 #[.bool true] w (Ans w (.int .i64 1)) ∧ Calls Try.prog 156 #[.bool false] w (Ans w (.int .i64 0)) := ⟨l07BitX_ans true w, l07BitX_ans false w⟩
end Go.Proofs.Ytodiifjigjnalaa
