/- Texts of the law FnExprBits, part 4: what it uses. -/
import Derived.Test.YtodiifjigjnalaaXpb3
set_option linter.unusedVariables false
set_option linter.unusedSimpArgs false
set_option maxHeartbeats 4000000
set_option maxRecDepth 100000
namespace Go.Proofs.Ytodiifjigjnalaa
open Go.RowKit Go.ChangeShapes
open Go.RowKit
theorem l11Two_ret (n : Nt) (kd : Int) (A B : List Int) (vA vB : Value) (W : Nat) (w : World) (hr : RdsNt w n) (hn : NtOk n) (ha : RdsW w vA 1 A.length (A.map (Value.int .i64))) (hb : RdsW w vB 1 B.length (B.map (Value.int .i64))) (hAl : A.length = W) (hBl : B.length = W) (hW : 1 ≤ W ∧ W ≤ 4) (hA : ∀ x ∈ A, x < 2 * n.cnt) (hB : ∀ x ∈ B, x < 2 * n.cnt) (hkd : 5 ≤ kd ∧ kd ≤ 11) :
   Calls Try.prog 130 #[.agg #[.int .i64 n.ins, n.sv, n.av, n.ov], .int .i64 kd, vA, vB] w (Ret w (fun u_ p_ => RX9 n W (twO n.fst kd A B W n.gs) u_ p_)) := by
 have hi0 := hn.i0
 have hi1 := hn.i1
 have hs1 := hn.s1
 have ha1 := hn.a1
 have ho1 := hn.o1
 have hcnt : n.cnt = 1 + n.ins + n.ss.length + n.gs.length := rfl
 have hfst : n.fst = 1 + n.ins + n.ss.length := rfl
 have hcr := zdw hn
 have ha9 := sml ha
 have hb9 := sml hb
 have hNB := nt_bnd (by omega) hB
 refine zbq (N := 153) (args := [.agg #[.int .i64 n.ins, n.sv, n.av, n.ov], .int .i64 kd, vA, vB]) Try.func130 rfl rfl (srQ ?_)
 refine zed rfl (zdh rfl rfl) ?_
 intro b1
 refine zed rfl (zcc (z := .agg #[.int .i64 0, .slice none 0 0, .slice none 0 0, .slice none 0 0]) rfl rfl) ?_
 intro b2
 refine zbc 1 rfl (zac (zbn 1 rfl (zbf (srQ ?_))))
 refine zbj rfl rfl rfl rfl rfl rfl (fun h3 => ?_) (fun h3 => ?_)
 ·
  refine zbc 1 rfl (zaj rfl (srQ (hvQ rfl (zar (cs := [.int .i64 n.ins, n.sv, n.av, n.ov]) rfl rfl rfl rfl rfl (zah 1 rfl 0 rfl)) (zag 2 rfl ?_))))
  refine zfg rfl rfl rfl (zam rfl rfl (fun w hm => l11Sum_ret n A B _ _ 0 W w (hr.below hm.bel) hn ((zap ha) w hm) ((zap hb) w hm) hAl hBl hW hA hB (by omega))) ?_
  intro v4 p5 hR6
  obtain ⟨pshR6, mhR6, zvhR6, zshR6, rfl, rfl, hpmhR6, ⟨o1mhR6, o2mhR6, o3mhR6⟩, GmhR6, zlhR6, zbhR6, zehR6⟩ := hR6
  refine zag 2 rfl (zbm (cs' := #[.int .i64 mhR6.ins, mhR6.sv, mhR6.av, mhR6.ov]) (i := 2) (off := 0) (us := [.int .i64 mhR6.ins, mhR6.sv, mhR6.av, mhR6.ov]) rfl rfl rfl rfl rfl rfl rfl (zaa rfl (zaa o1mhR6 (zaa o2mhR6 (zaa o3mhR6 zbe)))) rfl rfl rfl ?_)
  refine zbc 1 rfl ?_
  refine zak (zaf ?_)
  exact zad (zca (rs := [.cell 8 70, .tmp 9]) (vs := [.agg #[.int .i64 mhR6.ins, mhR6.sv, mhR6.av, mhR6.ov], zvhR6]) (post := [bigE pshR6, rI9 3 zvhR6 zshR6]) rfl ⟨⟨b2, 0, [.int .i64 mhR6.ins, mhR6.sv, mhR6.av, mhR6.ov], rfl, rfl, by kernel_rfl, by kernel_rfl, zah 2 rfl 0 rfl⟩, rfl, trivial⟩ rfl (slQ [0, 0] rfl) ⟨pshR6, mhR6, zvhR6, zshR6, rfl, rfl, hpmhR6, ⟨o1mhR6, o2mhR6, o3mhR6⟩, GmhR6, zlhR6, zbhR6, by rw [show twO n.fst kd A B W n.gs = sumO n.fst A B 0 W n.gs from (by unfold twO; rw [if_neg (by omega), if_neg (by omega), if_neg (by omega), if_pos (by omega)])]; exact zehR6⟩)
 refine zbc 1 rfl (zal rfl (srQ ?_))
 refine zbj rfl rfl rfl rfl rfl rfl (fun h7 => ?_) (fun h7 => ?_)
 ·
  refine zbc 1 rfl (zaj rfl (zac ?_))
  refine hc_draw rfl 7 [0, 1, 2, 3, 4, 5, 6] (List.take 7 _) (List.drop 7 _) [[], [], [], [2], [0, 1, 3], [4], [4]] [29, 30, 31, 32, 33, 34, 35] (fun i_ vs_ v_ p_ => match i_ with | 0 => v_ = .agg #[.int .i64 n.ins, n.sv, n.av, n.ov] ∧ p_ = [] | 1 => v_ = vA ∧ p_ = [] | 2 => v_ = vB ∧ p_ = [] | 3 => (fun v' post => post = [rI9 3 v' ((B.map ntL))]) v_ p_ | 4 => (fun u_ p_ => RX9 n W (sumO n.fst A (B.map ntL) 1 W n.gs) u_ p_) v_ p_ | 5 => v_ = .agg #[.int .i64 (intOf_o (ag9 0 (tp9 0 (gV9 vs_ 0)))), (ag9 1 (tp9 0 (gV9 vs_ 0))), (ag9 2 (tp9 0 (gV9 vs_ 0))), (ag9 3 (tp9 0 (gV9 vs_ 0)))] ∧ p_ = [] | 6 => v_ = (tp9 1 (gV9 vs_ 0)) ∧ p_ = [] | _ => True) (List.take_append_drop 7 _).symm (by kernel_rfl) (by kernel_rfl) rfl rfl ?_ ?_
  ·
   refine ⟨?_, ?_, ?_, ?_, ?_, ?_, ?_, trivial⟩
   ·
    intro vf pf hR
    exact olQ rfl (zae [4] rfl) (zbi (zar (cs := [.int .i64 n.ins, n.sv, n.av, n.ov]) rfl rfl rfl rfl rfl (zah 1 rfl 0 rfl)))
   ·
    intro vf pf hR
    exact ovQ rfl (zae [2] rfl) (zbi (zax rfl))
   ·
    intro vf pf hR
    exact ovQ rfl (zae [3] rfl) (zbi (zax rfl))
   ·
    intro vf pf hR
    have e2 := hR 2 (by decide)
    exact olQ rfl (sk 31 (congrArg some e2.1) (zab _)) (zam rfl rfl (fun w hm => l11Not_ret B _ w ((zap hb) w hm) (fun x hx => by have h9 := hB x hx; omega) (by omega)))
   ·
    intro vf pf hR
    have e0 := hR 0 (by decide)
    have e1 := hR 1 (by decide)
    have e3 : (fun v' post => post = [rI9 3 v' ((B.map ntL))]) (vf 3) (pf 3) := hR 3 (by decide)
    obtain ⟨v8, vE3⟩ : ∃ x, vf 3 = x := ⟨_, rfl⟩
    obtain ⟨p9, pE3⟩ : ∃ x, pf 3 = x := ⟨_, rfl⟩
    have hR10 := e3
    rw [vE3, pE3] at hR10
    subst hR10
    refine Or.inl ⟨rfl, ?_⟩
    exact zbg (sk 29 (congrArg some e0.1) (sk 30 (congrArg some e1.1) (sk 32 (congrArg some vE3) (zab _)))) (by simp only [pE3, vE3, e0.2, e1.2, fS] <;> rfl) (zam rfl rfl (fun w hm => l11Sum_ret n A (B.map ntL) _ _ 1 W w (hr.below hm.bel) hn ((zap ha) w hm) ((zao 0 rfl) w hm) hAl (by rw [List.length_map]; exact hBl) hW hA hNB (by omega)))
   ·
    intro vf pf hR
    have e4 : (fun u_ p_ => RX9 n W (sumO n.fst A (B.map ntL) 1 W n.gs) u_ p_) (vf 4) (pf 4) := hR 4 (by decide)
    obtain ⟨v11, vE4⟩ : ∃ x, vf 4 = x := ⟨_, rfl⟩
    obtain ⟨p12, pE4⟩ : ∃ x, pf 4 = x := ⟨_, rfl⟩
    have hR13 := e4
    rw [vE4, pE4] at hR13
    obtain ⟨pshR13, mhR13, zvhR13, zshR13, rfl, rfl, hpmhR13, ⟨o1mhR13, o2mhR13, o3mhR13⟩, GmhR13, zlhR13, zbhR13, zehR13⟩ := hR13
    refine Or.inl ⟨rfl, ?_⟩
    exact zbg (sk 33 (congrArg some vE4) (zab _)) (by simp only [pE4, vE4, fS] <;> rfl) (zbo (zbi (zax rfl)) (fun _ _ h => ⟨h.1.trans (by show _ = (.agg #[.int .i64 (intOf_o (ag9 0 (tp9 0 (vf 4)))), (ag9 1 (tp9 0 (vf 4))), (ag9 2 (tp9 0 (vf 4))), (ag9 3 (tp9 0 (vf 4)))] : Value); first | (rw [vE4]; done) | (rw [vE4]; rfl)), h.2⟩))
   intro vf pf hR
   have e4 : (fun u_ p_ => RX9 n W (sumO n.fst A (B.map ntL) 1 W n.gs) u_ p_) (vf 4) (pf 4) := hR 4 (by decide)
   obtain ⟨v11, vE4⟩ : ∃ x, vf 4 = x := ⟨_, rfl⟩
   obtain ⟨p12, pE4⟩ : ∃ x, pf 4 = x := ⟨_, rfl⟩
   have hR13 := e4
   rw [vE4, pE4] at hR13
   obtain ⟨pshR13, mhR13, zvhR13, zshR13, rfl, rfl, hpmhR13, ⟨o1mhR13, o2mhR13, o3mhR13⟩, GmhR13, zlhR13, zbhR13, zehR13⟩ := hR13
   refine Or.inl ⟨rfl, ?_⟩
   exact zbg (sk 33 (congrArg some vE4) (zab _)) (by simp only [pE4, vE4, fS] <;> rfl) (zbo (zbi (zax rfl)) (fun _ _ h => ⟨h.1.trans (by show _ = ((tp9 1 (vf 4)) : Value); first | (rw [vE4]; done) | (rw [vE4]; rfl)), h.2⟩))
  intro vf pf hR
  have e3 : (fun v' post => post = [rI9 3 v' ((B.map ntL))]) (vf 3) (pf 3) := hR 3 (by decide)
  obtain ⟨v8, vE3⟩ : ∃ x, vf 3 = x := ⟨_, rfl⟩
  obtain ⟨p9, pE3⟩ : ∃ x, pf 3 = x := ⟨_, rfl⟩
  have hR10 := e3
  rw [vE3, pE3] at hR10
  subst hR10
  have e4 : (fun u_ p_ => RX9 n W (sumO n.fst A (B.map ntL) 1 W n.gs) u_ p_) (vf 4) (pf 4) := hR 4 (by decide)
  obtain ⟨v11, vE4⟩ : ∃ x, vf 4 = x := ⟨_, rfl⟩
  obtain ⟨p12, pE4⟩ : ∃ x, pf 4 = x := ⟨_, rfl⟩
  have hR13 := e4
  rw [vE4, pE4] at hR13
  obtain ⟨pshR13, mhR13, zvhR13, zshR13, rfl, rfl, hpmhR13, ⟨o1mhR13, o2mhR13, o3mhR13⟩, GmhR13, zlhR13, zbhR13, zehR13⟩ := hR13
  have e5 : (vf 5) = .agg #[.int .i64 (intOf_o (ag9 0 (tp9 0 (vf 4)))), (ag9 1 (tp9 0 (vf 4))), (ag9 2 (tp9 0 (vf 4))), (ag9 3 (tp9 0 (vf 4)))] ∧ (pf 5) = [] := hR 5 (by decide)
  rw [vE4] at e5
  have e6 : (vf 6) = (tp9 1 (vf 4)) ∧ (pf 6) = [] := hR 6 (by decide)
  rw [vE4] at e6
  have q0 := hR 0 (by decide)
  have q1 := hR 1 (by decide)
  have q2 := hR 2 (by decide)
  have q5 := hR 5 (by decide)
  have q6 := hR 6 (by decide)
  refine zcd (zbs [27, 19, 18, 9, 8, 4, 3, 2, 1, 0] _ (sk 34 (congrArg some e5.1) (sk 35 (congrArg some e6.1) (zab _))) rfl) (by simp only [pE3, vE3, pE4, vE4, q0.2, q1.2, q2.2, q5.2, q6.2, fS] <;> rfl) ?_
  simp only [List.drop_succ_cons, List.drop_zero]
  refine zbm (cs' := #[.int .i64 mhR13.ins, mhR13.sv, mhR13.av, mhR13.ov]) (i := 3) (off := 0) (us := [.int .i64 mhR13.ins, mhR13.sv, mhR13.av, mhR13.ov]) rfl rfl rfl rfl rfl rfl rfl (zaa rfl (zaa o1mhR13 (zaa o2mhR13 (zaa o3mhR13 zbe)))) rfl rfl rfl (zbc 1 rfl ?_)
  refine zak (zaf ?_)
  exact zad (zca (rs := [.cell 8 70, .tmp 9]) (vs := [.agg #[.int .i64 mhR13.ins, mhR13.sv, mhR13.av, mhR13.ov], zvhR13]) (post := [bigE pshR13, rI9 3 zvhR13 zshR13]) rfl ⟨⟨b2, 0, [.int .i64 mhR13.ins, mhR13.sv, mhR13.av, mhR13.ov], rfl, rfl, by kernel_rfl, by kernel_rfl, zah 3 rfl 0 rfl⟩, rfl, trivial⟩ rfl (slQ [1, 0] rfl) ⟨pshR13, mhR13, zvhR13, zshR13, rfl, rfl, hpmhR13, ⟨o1mhR13, o2mhR13, o3mhR13⟩, GmhR13, zlhR13, zbhR13, by rw [show twO n.fst kd A B W n.gs = sumO n.fst A (B.map xr) 1 W n.gs from (by unfold twO; rw [if_neg (by omega), if_neg (by omega), if_neg (by omega), if_neg (by omega), if_pos (by omega)]), ← sumO_nt]; exact zehR13⟩)
 refine zbc 1 rfl (fsQ rfl (zdn (srQ ?_)))
 refine zey rfl (zds (s := 1) rfl Try.underlying48 rfl) ?_
 intro g14
 refine zbc 1 rfl (zac (zac (reQ 1 rfl ?_)))
 refine zbj rfl rfl rfl rfl rfl rfl (fun h15 => ?_) (fun h15 => ?_)
 ·
  refine zbc 4 rfl (zaj rfl (zac (reQ 1 rfl ?_)))
  refine zbj rfl rfl rfl rfl rfl rfl (fun h16 => ?_) (fun h16 => absurd h16 (by omega))
  refine zdu rfl (zam rfl rfl (fun w hm => zbb (l07BitE_ans w).1)) (zbc 1 rfl (zac (zbn 1 rfl (zbf ?_))))
  refine zeo _ zfq ?_
  refine lkQ2 (α := Nat) (β := RSt) [0, 1, 2, 3, 4, 8, 9, 18, 19, 27, 42] rfl (fun k q => [bigE q.ps, rI9 3 q.u q.zs, eB9 b2, nB9 b1 q.N]) (fun k q => [(10, q.u), (11, .int .i64 q.c), (12, .int .i64 (k : Int))]) (fun k q => k ≤ W ∧ Gr n q.N ∧ (q.N = n ∨ ∀ w, (bigE q.ps).holds w → RdsNt w q.N) ∧ (q.N.sv.oneCell' = true ∧ q.N.av.oneCell' = true ∧ q.N.ov.oneCell' = true) ∧ q.zs = List.replicate k 0 ∧ q.c < 2 * q.N.cnt ∧ ES (q.c < 0) (itO (eqS n.fst A B) (n.gs, 1) k) (q.N.gs, q.c)) (fun k q => W - k) 0 ⟨n, [], 1, [], _⟩ ⟨by omega, Gr.refl hn, .inl rfl, ⟨hr.sq.one, hr.an.one, hr.ou.one⟩, rfl, (by dsimp only; omega), .inl ⟨(by dsimp only; omega), rfl⟩⟩ (saQ rfl) (pfQ rfl) ?_
  intro k q hi17
  obtain ⟨hk, hG, hNq, ⟨o1q, o2q, o3q⟩, hz, hqc, hE⟩ := hi17
  have hGc := hG.cnt
  have hGr := zdw hG.ok
  have hzl : q.zs.length = k := by rw [hz, List.length_replicate]
  refine zac (zac (reQ 2 rfl (hvQ rfl (lnQ rfl rfl rfl (zap ha)) ?_)))
  refine zcb rfl rfl rfl rfl rfl rfl (fun h18 => ?_) (fun h18 => ?_)
  ·
   refine ntQ (zaj rfl (zdb (sbQ (zac ?_))))
   have hAk := hA _ (zbd (d := 0) (show k < A.length by omega))
   have hBk := hB _ (zbd (d := 0) (show k < B.length by omega))
   have hAk := hA _ (zbd (d := 0) (show k < A.length by omega))
   have hBk := hB _ (zbd (d := 0) (show k < B.length by omega))
   refine zdq (l := [bigE q.ps, rI9 3 q.u q.zs, eB9 b2, nB9 b1 q.N]) rfl 15 [0, 1, 2, 3, 4, 5, 6, 7, 8, 9, 10, 11, 12, 13, 14] (List.take 15 _) (List.drop 15 _) [[], [], [], [1, 2], [3], [], [], [5, 6], [7], [0, 4, 8], [9], [9, 10], [9, 10], [], [9, 11, 13]] [some 53, some 54, some 55, some 56, some 57, some 58, some 59, some 60, some 61, some 62, some 52, some 63, some 64, some 13, none] (fun i_ vs_ v_ p_ => match i_ with | 0 => v_ = .agg #[.int .i64 q.N.ins, q.N.sv, q.N.av, q.N.ov] ∧ p_ = [] | 1 => v_ = vA ∧ p_ = [] | 2 => v_ = .int .i64 (k : Int) ∧ p_ = [] | 3 => v_ = elP vA (((k : Int)).toNat * 1) ∧ p_ = [] | 4 => v_ = .int .i64 (A.getD k 0) ∧ p_ = [] | 5 => v_ = vB ∧ p_ = [] | 6 => v_ = .int .i64 (k : Int) ∧ p_ = [] | 7 => v_ = elP vB (((k : Int)).toNat * 1) ∧ p_ = [] | 8 => v_ = .int .i64 (B.getD k 0) ∧ p_ = [] | 9 => (fun u_ p_ => GP9 q.N (xorO q.N.fst q.N.gs (A.getD k 0) (B.getD k 0)) u_ p_) v_ p_ | 10 => v_ = .tuple #[.agg #[.int .i64 (intOf_o (ag9 0 (tp9 0 (gV9 vs_ 0)))), (ag9 1 (tp9 0 (gV9 vs_ 0))), (ag9 2 (tp9 0 (gV9 vs_ 0))), (ag9 3 (tp9 0 (gV9 vs_ 0)))], .int .i64 (intOf_o (tp9 1 (gV9 vs_ 0)))] ∧ p_ = [] | 11 => v_ = .agg #[.int .i64 (intOf_o (ag9 0 (tp9 0 (gV9 vs_ 0)))), (ag9 1 (tp9 0 (gV9 vs_ 0))), (ag9 2 (tp9 0 (gV9 vs_ 0))), (ag9 3 (tp9 0 (gV9 vs_ 0)))] ∧ p_ = [] | 12 => v_ = .int .i64 (intOf_o (tp9 1 (gV9 vs_ 0))) ∧ p_ = [] | 13 => IsBox #[.int .i64 0, .slice none 0 0, .slice none 0 0, .slice none 0 0] 70 v_ p_ | 14 => p_ = [boxE (blkOf (gV9 vs_ 2)) #[.int .i64 (intOf_o (ag9 0 (tp9 0 (gV9 vs_ 0)))), (ag9 1 (tp9 0 (gV9 vs_ 0))), (ag9 2 (tp9 0 (gV9 vs_ 0))), (ag9 3 (tp9 0 (gV9 vs_ 0)))] 70] | _ => True) [[], [], [], [1, 2], [3], [], [], [5, 6], [7], [0, 4, 8], [9], [9, 10], [9, 10], [], [9, 11]] [none, none, none, none, none, none, none, none, none, none, none, none, none, none, some 13] [] [0, 1, 2, 3, 4, 5, 6, 7, 8, 9, 10, 11, 12, 14] 16 (List.take_append_drop 15 _).symm (by kernel_rfl) (by kernel_rfl) (by kernel_rfl) rfl rfl ?_ ?_
   ·
    refine ⟨?_, ?_, ?_, ?_, ?_, ?_, ?_, ?_, ?_, ?_, ?_, ?_, ?_, ?_, ?_, trivial⟩
    ·
     intro vf pf hmu hR
     refine zce [] [] rfl (zaq (zae [4] rfl) (List.sublist_append_right _ _) ?_)
     exact zbi (zar (cs := [.int .i64 q.N.ins, q.N.sv, q.N.av, q.N.ov]) rfl rfl rfl rfl rfl (zah 3 rfl 0 rfl))
    ·
     intro vf pf hmu hR
     refine zce [] [] rfl (zay (zae [2] rfl) ?_)
     exact zbi (zax rfl)
    ·
     intro vf pf hmu hR
     refine zce [] [] rfl (zay (zae [12] rfl) ?_)
     exact zbi (zax rfl)
    ·
     intro vf pf hmu hR
     have e1 := hR 1 (by decide)
     have e2 := hR 2 (by decide)
     refine zce [1, 2] [1, 2] rfl (zaq (sk 54 (congrArg some e1.1) (sk 55 (congrArg some e2.1) (zab _))) (List.sublist_append_right _ _) ?_)
     exact zbi (riQ 1 rfl rfl rfl rfl (zap ha))
    ·
     intro vf pf hmu hR
     have e3 := hR 3 (by decide)
     refine zce [3] [3] rfl (zaq (sk 56 (congrArg some e3.1) (zab _)) (List.sublist_append_right _ _) ?_)
     exact zbi (liQ rfl rfl rfl (zap ha))
    ·
     intro vf pf hmu hR
     refine zce [] [] rfl (zay (zae [3] rfl) ?_)
     exact zbi (zax rfl)
    ·
     intro vf pf hmu hR
     refine zce [] [] rfl (zay (zae [12] rfl) ?_)
     exact zbi (zax rfl)
    ·
     intro vf pf hmu hR
     have e5 := hR 5 (by decide)
     have e6 := hR 6 (by decide)
     refine zce [5, 6] [5, 6] rfl (zaq (sk 58 (congrArg some e5.1) (sk 59 (congrArg some e6.1) (zab _))) (List.sublist_append_right _ _) ?_)
     exact zbi (riQ 1 rfl rfl rfl rfl (zap hb))
    ·
     intro vf pf hmu hR
     have e7 := hR 7 (by decide)
     refine zce [7] [7] rfl (zaq (sk 60 (congrArg some e7.1) (zab _)) (List.sublist_append_right _ _) ?_)
     exact zbi (liQ rfl rfl rfl (zap hb))
    ·
     intro vf pf hmu hR
     have e0 := hR 0 (by decide)
     have e4 := hR 4 (by decide)
     have e8 := hR 8 (by decide)
     refine zce [0, 4, 8] [0, 4, 8] rfl (zaq (sk 53 (congrArg some e0.1) (sk 57 (congrArg some e4.1) (sk 61 (congrArg some e8.1) (zab _)))) (List.sublist_append_right _ _) ?_)
     exact zam rfl rfl (fun w hm => zgj q.N (A.getD k 0) (B.getD k 0) w (rd_or hNq (hr.below hm.bel) (hm.holds _ (zbr (i := 0) rfl))) hG.ok (by first | omega | exact zcy (by omega) (by omega)) (by first | omega | exact zcy (by omega) (by omega)))
    ·
     intro vf pf hmu hR
     have e9 : (fun u_ p_ => GP9 q.N (xorO q.N.fst q.N.gs (A.getD k 0) (B.getD k 0)) u_ p_) (vf 9) (pf 9) := hR 9 (by decide)
     obtain ⟨v19, vE9⟩ : ∃ x, vf 9 = x := ⟨_, rfl⟩
     obtain ⟨p20, pE9⟩ : ∃ x, pf 9 = x := ⟨_, rfl⟩
     have hR21 := e9
     rw [vE9, pE9] at hR21
     obtain ⟨pshR21, mhR21, zhR21, rfl, rfl, hpmhR21, ⟨o1mhR21, o2mhR21, o3mhR21⟩, gmhR21⟩ := hR21
     have lmhR21 := gmhR21.ln
     have cmhR21 := gmhR21.gr.cnt
     have rmhR21 := zdw gmhR21.gr.ok
     have fmhR21 : mhR21.fst = n.fst := gmhR21.gr.fst.trans hG.fst
     have GmhR21 : Gr n mhR21 := hG.trans gmhR21.gr
     have emhR21 := gmhR21.es
     rw [hG.fst] at emhR21
     refine zce [9] [9] rfl (zbg (sk 62 (congrArg some vE9) (zab _)) (by simp only [pE9, vE9, fS] <;> rfl) ?_)
     exact zbo (zbi (zax rfl)) (fun _ _ h => ⟨h.1.trans (by show _ = (.tuple #[.agg #[.int .i64 (intOf_o (ag9 0 (tp9 0 (vf 9)))), (ag9 1 (tp9 0 (vf 9))), (ag9 2 (tp9 0 (vf 9))), (ag9 3 (tp9 0 (vf 9)))], .int .i64 (intOf_o (tp9 1 (vf 9)))] : Value); first | (rw [vE9]; done) | (rw [vE9]; rfl)), h.2⟩)
    ·
     intro vf pf hmu hR
     have e9 : (fun u_ p_ => GP9 q.N (xorO q.N.fst q.N.gs (A.getD k 0) (B.getD k 0)) u_ p_) (vf 9) (pf 9) := hR 9 (by decide)
     obtain ⟨v19, vE9⟩ : ∃ x, vf 9 = x := ⟨_, rfl⟩
     obtain ⟨p20, pE9⟩ : ∃ x, pf 9 = x := ⟨_, rfl⟩
     have hR21 := e9
     rw [vE9, pE9] at hR21
     obtain ⟨pshR21, mhR21, zhR21, rfl, rfl, hpmhR21, ⟨o1mhR21, o2mhR21, o3mhR21⟩, gmhR21⟩ := hR21
     have lmhR21 := gmhR21.ln
     have cmhR21 := gmhR21.gr.cnt
     have rmhR21 := zdw gmhR21.gr.ok
     have fmhR21 : mhR21.fst = n.fst := gmhR21.gr.fst.trans hG.fst
     have GmhR21 : Gr n mhR21 := hG.trans gmhR21.gr
     have emhR21 := gmhR21.es
     rw [hG.fst] at emhR21
     have e10 : (vf 10) = .tuple #[.agg #[.int .i64 (intOf_o (ag9 0 (tp9 0 (vf 9)))), (ag9 1 (tp9 0 (vf 9))), (ag9 2 (tp9 0 (vf 9))), (ag9 3 (tp9 0 (vf 9)))], .int .i64 (intOf_o (tp9 1 (vf 9)))] ∧ (pf 10) = [] := hR 10 (by decide)
     rw [vE9] at e10
     refine zce [9, 10] [9, 10] rfl (zbg (sk 52 (congrArg some e10.1) (zab _)) (by simp only [pE9, vE9, e10.2, fS] <;> rfl) ?_)
     exact zbo (zbi (zax rfl)) (fun _ _ h => ⟨h.1.trans (by show _ = (.agg #[.int .i64 (intOf_o (ag9 0 (tp9 0 (vf 9)))), (ag9 1 (tp9 0 (vf 9))), (ag9 2 (tp9 0 (vf 9))), (ag9 3 (tp9 0 (vf 9)))] : Value); first | (rw [vE9]; done) | (rw [vE9]; rfl)), h.2⟩)
    ·
     intro vf pf hmu hR
     have e9 : (fun u_ p_ => GP9 q.N (xorO q.N.fst q.N.gs (A.getD k 0) (B.getD k 0)) u_ p_) (vf 9) (pf 9) := hR 9 (by decide)
     obtain ⟨v19, vE9⟩ : ∃ x, vf 9 = x := ⟨_, rfl⟩
     obtain ⟨p20, pE9⟩ : ∃ x, pf 9 = x := ⟨_, rfl⟩
     have hR21 := e9
     rw [vE9, pE9] at hR21
     obtain ⟨pshR21, mhR21, zhR21, rfl, rfl, hpmhR21, ⟨o1mhR21, o2mhR21, o3mhR21⟩, gmhR21⟩ := hR21
     have lmhR21 := gmhR21.ln
     have cmhR21 := gmhR21.gr.cnt
     have rmhR21 := zdw gmhR21.gr.ok
     have fmhR21 : mhR21.fst = n.fst := gmhR21.gr.fst.trans hG.fst
     have GmhR21 : Gr n mhR21 := hG.trans gmhR21.gr
     have emhR21 := gmhR21.es
     rw [hG.fst] at emhR21
     have e10 : (vf 10) = .tuple #[.agg #[.int .i64 (intOf_o (ag9 0 (tp9 0 (vf 9)))), (ag9 1 (tp9 0 (vf 9))), (ag9 2 (tp9 0 (vf 9))), (ag9 3 (tp9 0 (vf 9)))], .int .i64 (intOf_o (tp9 1 (vf 9)))] ∧ (pf 10) = [] := hR 10 (by decide)
     rw [vE9] at e10
     refine zce [9, 10] [9, 10] rfl (zbg (sk 52 (congrArg some e10.1) (zab _)) (by simp only [pE9, vE9, e10.2, fS] <;> rfl) ?_)
     exact zbo (zbi (zax rfl)) (fun _ _ h => ⟨h.1.trans (by show _ = (.int .i64 (intOf_o (tp9 1 (vf 9))) : Value); first | (rw [vE9]; done) | (rw [vE9]; rfl)), h.2⟩)
    ·
     intro vf pf hmu hR
     refine zce [] [] rfl (zaq (zab _) (List.sublist_append_right _ _) ?_)
     exact zcc (z := .agg #[.int .i64 0, .slice none 0 0, .slice none 0 0, .slice none 0 0]) rfl rfl
    intro vf pf hmu hR
    have e9 : (fun u_ p_ => GP9 q.N (xorO q.N.fst q.N.gs (A.getD k 0) (B.getD k 0)) u_ p_) (vf 9) (pf 9) := hR 9 (by decide)
    obtain ⟨v19, vE9⟩ : ∃ x, vf 9 = x := ⟨_, rfl⟩
    obtain ⟨p20, pE9⟩ : ∃ x, pf 9 = x := ⟨_, rfl⟩
    have hR21 := e9
    rw [vE9, pE9] at hR21
    obtain ⟨pshR21, mhR21, zhR21, rfl, rfl, hpmhR21, ⟨o1mhR21, o2mhR21, o3mhR21⟩, gmhR21⟩ := hR21
    have lmhR21 := gmhR21.ln
    have cmhR21 := gmhR21.gr.cnt
    have rmhR21 := zdw gmhR21.gr.ok
    have fmhR21 : mhR21.fst = n.fst := gmhR21.gr.fst.trans hG.fst
    have GmhR21 : Gr n mhR21 := hG.trans gmhR21.gr
    have emhR21 := gmhR21.es
    rw [hG.fst] at emhR21
    have e11 : (vf 11) = .agg #[.int .i64 (intOf_o (ag9 0 (tp9 0 (vf 9)))), (ag9 1 (tp9 0 (vf 9))), (ag9 2 (tp9 0 (vf 9))), (ag9 3 (tp9 0 (vf 9)))] ∧ (pf 11) = [] := hR 11 (by decide)
    rw [vE9] at e11
    have e13 : IsBox #[.int .i64 0, .slice none 0 0, .slice none 0 0, .slice none 0 0] 70 (vf 13) (pf 13) := hR 13 (by decide)
    obtain ⟨b22, vE13, pE13⟩ := e13
    refine Or.inl ⟨rfl, ?_⟩
    show RunM _ _ _ (pf 13) (([9, 11] : List Nat).flatMap pf ++ _) (envOf3 _ vf [9, 11, 13] ++ _) _ _
    rw [pE13]
    exact zbx (sk 13 (congrArg some vE13) (sk 63 (congrArg some e11.1) (zab _))) (by simp only [pE9, vE9, e11.2, fS] <;> rfl) (zel (zcs (us := [.int .i64 mhR21.ins, mhR21.sv, mhR21.av, mhR21.ov]) (off := 0) 0 rfl rfl rfl rfl rfl rfl (zaa rfl (zaa o1mhR21 (zaa o2mhR21 (zaa o3mhR21 zbe)))) rfl rfl) (fun v_ p_ h => by show p_ = [boxE (blkOf (vf 13)) #[.int .i64 (intOf_o (ag9 0 (tp9 0 (vf 9)))), (ag9 1 (tp9 0 (vf 9))), (ag9 2 (tp9 0 (vf 9))), (ag9 3 (tp9 0 (vf 9)))] 70]; rw [vE9, vE13]; exact h))
   intro vf pf hmu hR
   have e9 : (fun u_ p_ => GP9 q.N (xorO q.N.fst q.N.gs (A.getD k 0) (B.getD k 0)) u_ p_) (vf 9) (pf 9) := hR 9 (by decide)
   obtain ⟨v19, vE9⟩ : ∃ x, vf 9 = x := ⟨_, rfl⟩
   obtain ⟨p20, pE9⟩ : ∃ x, pf 9 = x := ⟨_, rfl⟩
   have hR21 := e9
   rw [vE9, pE9] at hR21
   obtain ⟨pshR21, mhR21, zhR21, rfl, rfl, hpmhR21, ⟨o1mhR21, o2mhR21, o3mhR21⟩, gmhR21⟩ := hR21
   have lmhR21 := gmhR21.ln
   have cmhR21 := gmhR21.gr.cnt
   have rmhR21 := zdw gmhR21.gr.ok
   have fmhR21 : mhR21.fst = n.fst := gmhR21.gr.fst.trans hG.fst
   have GmhR21 : Gr n mhR21 := hG.trans gmhR21.gr
   have emhR21 := gmhR21.es
   rw [hG.fst] at emhR21
   have e12 : (vf 12) = .int .i64 (intOf_o (tp9 1 (vf 9))) ∧ (pf 12) = [] := hR 12 (by decide)
   rw [vE9] at e12
   have e13 : IsBox #[.int .i64 0, .slice none 0 0, .slice none 0 0, .slice none 0 0] 70 (vf 13) (pf 13) := hR 13 (by decide)
   obtain ⟨b22, vE13, pE13⟩ := e13
   have e14 : (pf 14) = [boxE (blkOf (vf 13)) #[.int .i64 (intOf_o (ag9 0 (tp9 0 (vf 9)))), (ag9 1 (tp9 0 (vf 9))), (ag9 2 (tp9 0 (vf 9))), (ag9 3 (tp9 0 (vf 9)))] 70] := hR 14 (by decide)
   rw [vE9, vE13] at e14
   have pE14 := e14
   have q0 := hR 0 (by decide)
   have q1 := hR 1 (by decide)
   have q2 := hR 2 (by decide)
   have q3 := hR 3 (by decide)
   have q4 := hR 4 (by decide)
   have q5 := hR 5 (by decide)
   have q6 := hR 6 (by decide)
   have q7 := hR 7 (by decide)
   have q8 := hR 8 (by decide)
   have q10 := hR 10 (by decide)
   have q11 := hR 11 (by decide)
   have q12 := hR 12 (by decide)
   refine zcd (zbs [12, 11, 10, 9, 8, 4, 3, 2, 1, 0] _ (sk 13 (congrArg some vE13) (zbs [49, 42, 27, 19, 18] _ (sk 64 (congrArg some e12.1) (zab _)) rfl)) rfl) (by simp only [pE9, vE9, pE14, q0.2, q1.2, q2.2, q3.2, q4.2, q5.2, q6.2, q7.2, q8.2, q10.2, q11.2, q12.2, fS] <;> rfl) ?_
   simp only [List.drop_succ_cons, List.drop_zero]
   refine zbc 1 rfl (zac (zac (reQ 1 rfl ?_)))
   refine zbj rfl rfl rfl rfl rfl rfl (fun h23 => ?_) (fun h23 => absurd h23 (by omega))
   refine ntQ (zaj rfl ?_)
   refine zdo 6 [5, 4, 3, 2, 0, 1] rfl rfl (by decide) ?_
   refine zdq (l := [bigE pshR21, bigE q.ps, rI9 3 q.u q.zs, eB9 b2, nB9 b1 q.N]) rfl 9 [0, 1, 2, 3, 4, 5, 6, 7, 8] (List.take 9 _) (List.drop 9 _) [[], [], [], [2], [0, 1, 3], [4], [4, 5], [4, 5], [4, 6]] [some 68, some 69, some 70, some 71, some 72, some 67, some 73, some 74, none] (fun i_ vs_ v_ p_ => match i_ with | 0 => v_ = .agg #[.int .i64 mhR21.ins, mhR21.sv, mhR21.av, mhR21.ov] ∧ p_ = [] | 1 => v_ = .int .i64 q.c ∧ p_ = [] | 2 => v_ = .int .i64 zhR21 ∧ p_ = [] | 3 => v_ = .int .i64 (ntL zhR21) ∧ p_ = [] | 4 => (fun u_ p_ => GP9 mhR21 (andO mhR21.fst mhR21.gs q.c (ntL zhR21)) u_ p_) v_ p_ | 5 => v_ = .tuple #[.agg #[.int .i64 (intOf_o (ag9 0 (tp9 0 (gV9 vs_ 0)))), (ag9 1 (tp9 0 (gV9 vs_ 0))), (ag9 2 (tp9 0 (gV9 vs_ 0))), (ag9 3 (tp9 0 (gV9 vs_ 0)))], .int .i64 (intOf_o (tp9 1 (gV9 vs_ 0)))] ∧ p_ = [] | 6 => v_ = .agg #[.int .i64 (intOf_o (ag9 0 (tp9 0 (gV9 vs_ 0)))), (ag9 1 (tp9 0 (gV9 vs_ 0))), (ag9 2 (tp9 0 (gV9 vs_ 0))), (ag9 3 (tp9 0 (gV9 vs_ 0)))] ∧ p_ = [] | 7 => v_ = .int .i64 (intOf_o (tp9 1 (gV9 vs_ 0))) ∧ p_ = [] | 8 => p_ = [boxE b22 #[.int .i64 (intOf_o (ag9 0 (tp9 0 (gV9 vs_ 0)))), (ag9 1 (tp9 0 (gV9 vs_ 0))), (ag9 2 (tp9 0 (gV9 vs_ 0))), (ag9 3 (tp9 0 (gV9 vs_ 0)))] 70] | _ => True) [[10], [], [], [2], [0, 1, 3], [4], [4, 5], [4, 5], [4, 6]] [none, none, none, none, none, none, none, none, some 10] [[nB9 b22 mhR21]] [0, 1, 2, 3, 4, 5, 6, 7, 8] 10 (List.take_append_drop 9 _).symm (by kernel_rfl) (by kernel_rfl) (by kernel_rfl) rfl rfl ?_ ?_
   ·
    refine ⟨?_, ?_, ?_, ?_, ?_, ?_, ?_, ?_, ?_, trivial⟩
    ·
     intro vf pf hmu hR
     refine zce [10] [] rfl ?_
     have hmu0 : pf 10 = [nB9 b22 mhR21] := hmu 0 (show 0 < 1 by omega)
     exact zbg (zae [13] rfl) (by simp only [hmu0, fS] <;> rfl) (zbi (zar (cs := [.int .i64 mhR21.ins, mhR21.sv, mhR21.av, mhR21.ov]) rfl rfl rfl rfl rfl (zah 0 rfl 0 rfl)))
    ·
     intro vf pf hmu hR
     refine zce [] [] rfl (zay (zae [11] rfl) ?_)
     exact zbi (zax rfl)
    ·
     intro vf pf hmu hR
     refine zce [] [] rfl (zay (zae [14] rfl) ?_)
     exact zbi (zax rfl)
    ·
     intro vf pf hmu hR
     have e2 := hR 2 (by decide)
     refine zce [2] [2] rfl (zaq (sk 70 (congrArg some e2.1) (zab _)) (List.sublist_append_right _ _) ?_)
     exact (zam rfl rfl (fun w hm => zbb (zfl zhR21 w (by omega))))
    ·
     intro vf pf hmu hR
     have e0 := hR 0 (by decide)
     have e1 := hR 1 (by decide)
     have e3 := hR 3 (by decide)
     refine zce [0, 1, 3] [0, 1, 3] rfl (zaq (sk 68 (congrArg some e0.1) (sk 69 (congrArg some e1.1) (sk 71 (congrArg some e3.1) (zab _)))) (List.sublist_append_right _ _) ?_)
     exact zam rfl rfl (fun w hm => zex mhR21 q.c (ntL zhR21) w (hpmhR21 w (hm.holds _ (zbr (i := 0) rfl))) gmhR21.gr.ok (by first | omega | exact zcy (by omega) (by omega)) (by first | omega | exact zcy (by omega) (by omega)))
    ·
     intro vf pf hmu hR
     have e4 : (fun u_ p_ => GP9 mhR21 (andO mhR21.fst mhR21.gs q.c (ntL zhR21)) u_ p_) (vf 4) (pf 4) := hR 4 (by decide)
     obtain ⟨v24, vE4⟩ : ∃ x, vf 4 = x := ⟨_, rfl⟩
     obtain ⟨p25, pE4⟩ : ∃ x, pf 4 = x := ⟨_, rfl⟩
     have hR26 := e4
     rw [vE4, pE4] at hR26
     obtain ⟨pshR26, mhR26, zhR26, rfl, rfl, hpmhR26, ⟨o1mhR26, o2mhR26, o3mhR26⟩, gmhR26⟩ := hR26
     have lmhR26 := gmhR26.ln
     have cmhR26 := gmhR26.gr.cnt
     have rmhR26 := zdw gmhR26.gr.ok
     have fmhR26 : mhR26.fst = n.fst := gmhR26.gr.fst.trans fmhR21
     have GmhR26 : Gr n mhR26 := GmhR21.trans gmhR26.gr
     have emhR26 := gmhR26.es
     rw [fmhR21] at emhR26
     refine zce [4] [4] rfl (zbg (sk 72 (congrArg some vE4) (zab _)) (by simp only [pE4, vE4, fS] <;> rfl) ?_)
     exact zbo (zbi (zax rfl)) (fun _ _ h => ⟨h.1.trans (by show _ = (.tuple #[.agg #[.int .i64 (intOf_o (ag9 0 (tp9 0 (vf 4)))), (ag9 1 (tp9 0 (vf 4))), (ag9 2 (tp9 0 (vf 4))), (ag9 3 (tp9 0 (vf 4)))], .int .i64 (intOf_o (tp9 1 (vf 4)))] : Value); first | (rw [vE4]; done) | (rw [vE4]; rfl)), h.2⟩)
    ·
     intro vf pf hmu hR
     have e4 : (fun u_ p_ => GP9 mhR21 (andO mhR21.fst mhR21.gs q.c (ntL zhR21)) u_ p_) (vf 4) (pf 4) := hR 4 (by decide)
     obtain ⟨v24, vE4⟩ : ∃ x, vf 4 = x := ⟨_, rfl⟩
     obtain ⟨p25, pE4⟩ : ∃ x, pf 4 = x := ⟨_, rfl⟩
     have hR26 := e4
     rw [vE4, pE4] at hR26
     obtain ⟨pshR26, mhR26, zhR26, rfl, rfl, hpmhR26, ⟨o1mhR26, o2mhR26, o3mhR26⟩, gmhR26⟩ := hR26
     have lmhR26 := gmhR26.ln
     have cmhR26 := gmhR26.gr.cnt
     have rmhR26 := zdw gmhR26.gr.ok
     have fmhR26 : mhR26.fst = n.fst := gmhR26.gr.fst.trans fmhR21
     have GmhR26 : Gr n mhR26 := GmhR21.trans gmhR26.gr
     have emhR26 := gmhR26.es
     rw [fmhR21] at emhR26
     have e5 : (vf 5) = .tuple #[.agg #[.int .i64 (intOf_o (ag9 0 (tp9 0 (vf 4)))), (ag9 1 (tp9 0 (vf 4))), (ag9 2 (tp9 0 (vf 4))), (ag9 3 (tp9 0 (vf 4)))], .int .i64 (intOf_o (tp9 1 (vf 4)))] ∧ (pf 5) = [] := hR 5 (by decide)
     rw [vE4] at e5
     refine zce [4, 5] [4, 5] rfl (zbg (sk 67 (congrArg some e5.1) (zab _)) (by simp only [pE4, vE4, e5.2, fS] <;> rfl) ?_)
     exact zbo (zbi (zax rfl)) (fun _ _ h => ⟨h.1.trans (by show _ = (.agg #[.int .i64 (intOf_o (ag9 0 (tp9 0 (vf 4)))), (ag9 1 (tp9 0 (vf 4))), (ag9 2 (tp9 0 (vf 4))), (ag9 3 (tp9 0 (vf 4)))] : Value); first | (rw [vE4]; done) | (rw [vE4]; rfl)), h.2⟩)
    ·
     intro vf pf hmu hR
     have e4 : (fun u_ p_ => GP9 mhR21 (andO mhR21.fst mhR21.gs q.c (ntL zhR21)) u_ p_) (vf 4) (pf 4) := hR 4 (by decide)
     obtain ⟨v24, vE4⟩ : ∃ x, vf 4 = x := ⟨_, rfl⟩
     obtain ⟨p25, pE4⟩ : ∃ x, pf 4 = x := ⟨_, rfl⟩
     have hR26 := e4
     rw [vE4, pE4] at hR26
     obtain ⟨pshR26, mhR26, zhR26, rfl, rfl, hpmhR26, ⟨o1mhR26, o2mhR26, o3mhR26⟩, gmhR26⟩ := hR26
     have lmhR26 := gmhR26.ln
     have cmhR26 := gmhR26.gr.cnt
     have rmhR26 := zdw gmhR26.gr.ok
     have fmhR26 : mhR26.fst = n.fst := gmhR26.gr.fst.trans fmhR21
     have GmhR26 : Gr n mhR26 := GmhR21.trans gmhR26.gr
     have emhR26 := gmhR26.es
     rw [fmhR21] at emhR26
     have e5 : (vf 5) = .tuple #[.agg #[.int .i64 (intOf_o (ag9 0 (tp9 0 (vf 4)))), (ag9 1 (tp9 0 (vf 4))), (ag9 2 (tp9 0 (vf 4))), (ag9 3 (tp9 0 (vf 4)))], .int .i64 (intOf_o (tp9 1 (vf 4)))] ∧ (pf 5) = [] := hR 5 (by decide)
     rw [vE4] at e5
     refine zce [4, 5] [4, 5] rfl (zbg (sk 67 (congrArg some e5.1) (zab _)) (by simp only [pE4, vE4, e5.2, fS] <;> rfl) ?_)
     exact zbo (zbi (zax rfl)) (fun _ _ h => ⟨h.1.trans (by show _ = (.int .i64 (intOf_o (tp9 1 (vf 4))) : Value); first | (rw [vE4]; done) | (rw [vE4]; rfl)), h.2⟩)
    intro vf pf hmu hR
    have e4 : (fun u_ p_ => GP9 mhR21 (andO mhR21.fst mhR21.gs q.c (ntL zhR21)) u_ p_) (vf 4) (pf 4) := hR 4 (by decide)
    obtain ⟨v24, vE4⟩ : ∃ x, vf 4 = x := ⟨_, rfl⟩
    obtain ⟨p25, pE4⟩ : ∃ x, pf 4 = x := ⟨_, rfl⟩
    have hR26 := e4
    rw [vE4, pE4] at hR26
    obtain ⟨pshR26, mhR26, zhR26, rfl, rfl, hpmhR26, ⟨o1mhR26, o2mhR26, o3mhR26⟩, gmhR26⟩ := hR26
    have lmhR26 := gmhR26.ln
    have cmhR26 := gmhR26.gr.cnt
    have rmhR26 := zdw gmhR26.gr.ok
    have fmhR26 : mhR26.fst = n.fst := gmhR26.gr.fst.trans fmhR21
    have GmhR26 : Gr n mhR26 := GmhR21.trans gmhR26.gr
    have emhR26 := gmhR26.es
    rw [fmhR21] at emhR26
    have e6 : (vf 6) = .agg #[.int .i64 (intOf_o (ag9 0 (tp9 0 (vf 4)))), (ag9 1 (tp9 0 (vf 4))), (ag9 2 (tp9 0 (vf 4))), (ag9 3 (tp9 0 (vf 4)))] ∧ (pf 6) = [] := hR 6 (by decide)
    rw [vE4] at e6
    refine Or.inl ⟨rfl, ?_⟩
    show RunM _ _ _ (pf 10) (([4, 6] : List Nat).flatMap pf ++ _) (envOf3 _ vf [4, 6] ++ _) _ _
    have hmu0 : pf 10 = [nB9 b22 mhR21] := hmu 0 (show 0 < 1 by omega)
    rw [hmu0]
    exact zbx (sk 13 rfl (sk 73 (congrArg some e6.1) (zab _))) (by simp only [pE4, vE4, e6.2, fS] <;> rfl) (zel (zcs (us := [.int .i64 mhR26.ins, mhR26.sv, mhR26.av, mhR26.ov]) (off := 0) 0 rfl rfl rfl rfl rfl rfl (zaa rfl (zaa o1mhR26 (zaa o2mhR26 (zaa o3mhR26 zbe)))) rfl rfl) (fun v_ p_ h => by show p_ = [boxE b22 #[.int .i64 (intOf_o (ag9 0 (tp9 0 (vf 4)))), (ag9 1 (tp9 0 (vf 4))), (ag9 2 (tp9 0 (vf 4))), (ag9 3 (tp9 0 (vf 4)))] 70]; rw [vE4]; exact h))
   intro vf pf hmu hR
   have e4 : (fun u_ p_ => GP9 mhR21 (andO mhR21.fst mhR21.gs q.c (ntL zhR21)) u_ p_) (vf 4) (pf 4) := hR 4 (by decide)
   obtain ⟨v24, vE4⟩ : ∃ x, vf 4 = x := ⟨_, rfl⟩
   obtain ⟨p25, pE4⟩ : ∃ x, pf 4 = x := ⟨_, rfl⟩
   have hR26 := e4
   rw [vE4, pE4] at hR26
   obtain ⟨pshR26, mhR26, zhR26, rfl, rfl, hpmhR26, ⟨o1mhR26, o2mhR26, o3mhR26⟩, gmhR26⟩ := hR26
   have lmhR26 := gmhR26.ln
   have cmhR26 := gmhR26.gr.cnt
   have rmhR26 := zdw gmhR26.gr.ok
   have fmhR26 : mhR26.fst = n.fst := gmhR26.gr.fst.trans fmhR21
   have GmhR26 : Gr n mhR26 := GmhR21.trans gmhR26.gr
   have emhR26 := gmhR26.es
   rw [fmhR21] at emhR26
   have e7 : (vf 7) = .int .i64 (intOf_o (tp9 1 (vf 4))) ∧ (pf 7) = [] := hR 7 (by decide)
   rw [vE4] at e7
   have e8 : (pf 8) = [boxE b22 #[.int .i64 (intOf_o (ag9 0 (tp9 0 (vf 4)))), (ag9 1 (tp9 0 (vf 4))), (ag9 2 (tp9 0 (vf 4))), (ag9 3 (tp9 0 (vf 4)))] 70] := hR 8 (by decide)
   rw [vE4] at e8
   have pE8 := e8
   have q0 := hR 0 (by decide)
   have q1 := hR 1 (by decide)
   have q2 := hR 2 (by decide)
   have q3 := hR 3 (by decide)
   have q5 := hR 5 (by decide)
   have q6 := hR 6 (by decide)
   have q7 := hR 7 (by decide)
   refine zcd (zbs [66, 49, 42, 27, 19, 18, 14, 13, 12, 11, 10, 9, 8, 4, 3, 2, 1, 0] _ (sk 74 (congrArg some e7.1) (zab _)) rfl) (by simp only [pE4, vE4, pE8, q0.2, q1.2, q2.2, q3.2, q5.2, q6.2, q7.2, fS] <;> rfl) ?_
   simp only [List.drop_succ_cons, List.drop_zero]
   refine zbc 1 rfl (srQ (hvQ rfl (zar (cs := [.int .i64 mhR26.ins, mhR26.sv, mhR26.av, mhR26.ov]) rfl rfl rfl rfl rfl (zah 1 rfl 0 rfl)) ?_))
   refine zbm (cs' := #[.int .i64 mhR26.ins, mhR26.sv, mhR26.av, mhR26.ov]) (i := 6) (off := 0) (us := [.int .i64 mhR26.ins, mhR26.sv, mhR26.av, mhR26.ov]) rfl rfl rfl rfl rfl rfl rfl (zaa rfl (zaa o1mhR26 (zaa o2mhR26 (zaa o3mhR26 zbe)))) rfl rfl rfl (ntQ (reQ 1 rfl ?_))
   refine zey rfl (zas (z := .int .i64 0) (s := 1) (cs := ([0].map (Value.int .i64))) rfl Try.underlying48 rfl (by decide) rfl (by kernel_rfl) rfl) ?_
   intro g27
   refine zdc (i := 5) (z := .int .i64 0) (bytes := 8) rfl rfl rfl rfl Try.underlying48 (by kernel_rfl) rfl rfl rfl rfl (zao 0 rfl) (zcj _) (by first | omega | (simp; done) | (simp; omega)) (zco q.zs ([0])) (zcx q.zs ([0])) (fun _ => rfl) ?_
   intro v28
   refine enQ 1 rfl (zdn (reQ 1 rfl (hvQ rfl (vaQ rfl rfl rfl) (enQ 1 rfl ?_))))
   refine zaz 8 [7, 6, 5, 1] rfl rfl (by decide) ?_
   exact zci (k + 1) ⟨mhR26, pshR26, zhR26, q.zs ++ ([0]), v28⟩ ⟨by omega, GmhR26, .inr hpmhR26, ⟨o1mhR26, o2mhR26, o3mhR26⟩, by dsimp only; rw [hz, List.replicate_succ'], lmhR26, es_eq hE emhR21 emhR26⟩ (by omega) (saQ rfl) (pfQ rfl)
  refine ntQ (zal rfl ?_)
  refine zby (zes ?_)
  refine zat (zaw (zac (reQ 2 rfl (hvQ rfl (riQ 1 rfl rfl rfl rfl (zao 1 rfl)) ?_))))
  refine hl_stE (i := 1) (n' := (q.zs.set 0 q.c).length) (xs' := ((q.zs.set 0 q.c).map (Value.int .i64))) rfl rfl rfl rfl rfl rfl rfl rfl (by first | omega | (simp only [List.length_set]; omega)) List.length_set.symm (zfc _ _ _) rfl (ntQ (srQ (hvQ rfl (zar (cs := [.int .i64 q.N.ins, q.N.sv, q.N.av, q.N.ov]) rfl rfl rfl rfl rfl (zah 3 rfl 0 rfl)) (zag 1 rfl ?_))))
  refine zbm (cs' := #[.int .i64 q.N.ins, q.N.sv, q.N.av, q.N.ov]) (i := 2) (off := 0) (us := [.int .i64 q.N.ins, q.N.sv, q.N.av, q.N.ov]) rfl rfl rfl rfl rfl rfl rfl (zaa rfl (zaa o1q (zaa o2q (zaa o3q zbe)))) rfl rfl rfl (zbc 1 rfl ?_)
  refine zak (zad ?_)
  have hset : q.zs.set 0 q.c = loneL W q.c := by rw [hz, show k = W by omega]; exact lone_eq hW.1 _
  rw [hset]
  rw [show k = W by omega] at hE
  exact zca (rs := [.cell 8 70, .tmp 9]) (vs := [.agg #[.int .i64 q.N.ins, q.N.sv, q.N.av, q.N.ov], q.u]) (post := [bigE q.ps, rowE 3 1 q.u ((loneL W q.c).length) ((loneL W q.c).map (Value.int .i64))]) rfl ⟨⟨b2, 0, [.int .i64 q.N.ins, q.N.sv, q.N.av, q.N.ov], rfl, rfl, by kernel_rfl, by kernel_rfl, zah 2 rfl 0 rfl⟩, rfl, trivial⟩ rfl (slQ [0, 0] rfl) ⟨q.ps, q.N, _, _, rfl, rfl, hNq, ⟨o1q, o2q, o3q⟩, hG, lone_len _ hW.1 _, lone_bnd (by omega) hqc, by rw [show twO n.fst kd A B W n.gs = (itO (eqS n.fst A B) (n.gs, 1) W).map (fun r => (r.1, loneL W r.2)) from (by unfold twO; rw [if_neg (by omega), if_neg (by omega), if_neg (by omega), if_neg (by omega), if_neg (by omega), if_pos (by omega)])]; exact es_lone hE⟩
 refine zag 2 rfl (zbj rfl rfl rfl rfl rfl rfl (fun h29 => ?_) (fun h29 => ?_))
 ·
  refine zbc 1 rfl (zaj rfl (zac (reQ 1 rfl ?_)))
  refine zbj rfl rfl rfl rfl rfl rfl (fun h30 => absurd h30 (by omega)) (fun h30 => ?_)
  refine zdu rfl (zam rfl rfl (fun w hm => zbb (l07BitE_ans w).2)) (zbc 1 rfl (zac (zbn 1 rfl (zbf ?_))))
  refine zeo _ zfq ?_
  refine lkQ2 (α := Nat) (β := RSt) [0, 1, 2, 3, 4, 8, 9, 18, 19, 27, 42] rfl (fun k q => [bigE q.ps, rI9 3 q.u q.zs, eB9 b2, nB9 b1 q.N]) (fun k q => [(10, q.u), (11, .int .i64 q.c), (12, .int .i64 (k : Int))]) (fun k q => k ≤ W ∧ Gr n q.N ∧ (q.N = n ∨ ∀ w, (bigE q.ps).holds w → RdsNt w q.N) ∧ (q.N.sv.oneCell' = true ∧ q.N.av.oneCell' = true ∧ q.N.ov.oneCell' = true) ∧ q.zs = List.replicate k 0 ∧ q.c < 2 * q.N.cnt ∧ ES (q.c < 0) (itO (lsS n.fst A B) (n.gs, 0) k) (q.N.gs, q.c)) (fun k q => W - k) 0 ⟨n, [], 0, [], _⟩ ⟨by omega, Gr.refl hn, .inl rfl, ⟨hr.sq.one, hr.an.one, hr.ou.one⟩, rfl, (by dsimp only; omega), .inl ⟨(by dsimp only; omega), rfl⟩⟩ (saQ rfl) (pfQ rfl) ?_
  intro k q hi31
  obtain ⟨hk, hG, hNq, ⟨o1q, o2q, o3q⟩, hz, hqc, hE⟩ := hi31
  have hGc := hG.cnt
  have hGr := zdw hG.ok
  have hzl : q.zs.length = k := by rw [hz, List.length_replicate]
  refine zac (zac (reQ 2 rfl (hvQ rfl (lnQ rfl rfl rfl (zap ha)) ?_)))
  refine zcb rfl rfl rfl rfl rfl rfl (fun h32 => ?_) (fun h32 => ?_)
  ·
   refine ntQ (zaj rfl (zdb (sbQ (zac ?_))))
   have hAk := hA _ (zbd (d := 0) (show k < A.length by omega))
   have hBk := hB _ (zbd (d := 0) (show k < B.length by omega))
   have hAk := hA _ (zbd (d := 0) (show k < A.length by omega))
   have hBk := hB _ (zbd (d := 0) (show k < B.length by omega))
   refine zdq (l := [bigE q.ps, rI9 3 q.u q.zs, eB9 b2, nB9 b1 q.N]) rfl 15 [0, 1, 2, 3, 4, 5, 6, 7, 8, 9, 10, 11, 12, 13, 14] (List.take 15 _) (List.drop 15 _) [[], [], [], [1, 2], [3], [], [], [5, 6], [7], [0, 4, 8], [9], [9, 10], [9, 10], [], [9, 11, 13]] [some 53, some 54, some 55, some 56, some 57, some 58, some 59, some 60, some 61, some 62, some 52, some 63, some 64, some 13, none] (fun i_ vs_ v_ p_ => match i_ with | 0 => v_ = .agg #[.int .i64 q.N.ins, q.N.sv, q.N.av, q.N.ov] ∧ p_ = [] | 1 => v_ = vA ∧ p_ = [] | 2 => v_ = .int .i64 (k : Int) ∧ p_ = [] | 3 => v_ = elP vA (((k : Int)).toNat * 1) ∧ p_ = [] | 4 => v_ = .int .i64 (A.getD k 0) ∧ p_ = [] | 5 => v_ = vB ∧ p_ = [] | 6 => v_ = .int .i64 (k : Int) ∧ p_ = [] | 7 => v_ = elP vB (((k : Int)).toNat * 1) ∧ p_ = [] | 8 => v_ = .int .i64 (B.getD k 0) ∧ p_ = [] | 9 => (fun u_ p_ => GP9 q.N (xorO q.N.fst q.N.gs (A.getD k 0) (B.getD k 0)) u_ p_) v_ p_ | 10 => v_ = .tuple #[.agg #[.int .i64 (intOf_o (ag9 0 (tp9 0 (gV9 vs_ 0)))), (ag9 1 (tp9 0 (gV9 vs_ 0))), (ag9 2 (tp9 0 (gV9 vs_ 0))), (ag9 3 (tp9 0 (gV9 vs_ 0)))], .int .i64 (intOf_o (tp9 1 (gV9 vs_ 0)))] ∧ p_ = [] | 11 => v_ = .agg #[.int .i64 (intOf_o (ag9 0 (tp9 0 (gV9 vs_ 0)))), (ag9 1 (tp9 0 (gV9 vs_ 0))), (ag9 2 (tp9 0 (gV9 vs_ 0))), (ag9 3 (tp9 0 (gV9 vs_ 0)))] ∧ p_ = [] | 12 => v_ = .int .i64 (intOf_o (tp9 1 (gV9 vs_ 0))) ∧ p_ = [] | 13 => IsBox #[.int .i64 0, .slice none 0 0, .slice none 0 0, .slice none 0 0] 70 v_ p_ | 14 => p_ = [boxE (blkOf (gV9 vs_ 2)) #[.int .i64 (intOf_o (ag9 0 (tp9 0 (gV9 vs_ 0)))), (ag9 1 (tp9 0 (gV9 vs_ 0))), (ag9 2 (tp9 0 (gV9 vs_ 0))), (ag9 3 (tp9 0 (gV9 vs_ 0)))] 70] | _ => True) [[], [], [], [1, 2], [3], [], [], [5, 6], [7], [0, 4, 8], [9], [9, 10], [9, 10], [], [9, 11]] [none, none, none, none, none, none, none, none, none, none, none, none, none, none, some 13] [] [0, 1, 2, 3, 4, 5, 6, 7, 8, 9, 10, 11, 12, 14] 16 (List.take_append_drop 15 _).symm (by kernel_rfl) (by kernel_rfl) (by kernel_rfl) rfl rfl ?_ ?_
   ·
    refine ⟨?_, ?_, ?_, ?_, ?_, ?_, ?_, ?_, ?_, ?_, ?_, ?_, ?_, ?_, ?_, trivial⟩
    ·
     intro vf pf hmu hR
     refine zce [] [] rfl (zaq (zae [4] rfl) (List.sublist_append_right _ _) ?_)
     exact zbi (zar (cs := [.int .i64 q.N.ins, q.N.sv, q.N.av, q.N.ov]) rfl rfl rfl rfl rfl (zah 3 rfl 0 rfl))
    ·
     intro vf pf hmu hR
     refine zce [] [] rfl (zay (zae [2] rfl) ?_)
     exact zbi (zax rfl)
    ·
     intro vf pf hmu hR
     refine zce [] [] rfl (zay (zae [12] rfl) ?_)
     exact zbi (zax rfl)
    ·
     intro vf pf hmu hR
     have e1 := hR 1 (by decide)
     have e2 := hR 2 (by decide)
     refine zce [1, 2] [1, 2] rfl (zaq (sk 54 (congrArg some e1.1) (sk 55 (congrArg some e2.1) (zab _))) (List.sublist_append_right _ _) ?_)
     exact zbi (riQ 1 rfl rfl rfl rfl (zap ha))
    ·
     intro vf pf hmu hR
     have e3 := hR 3 (by decide)
     refine zce [3] [3] rfl (zaq (sk 56 (congrArg some e3.1) (zab _)) (List.sublist_append_right _ _) ?_)
     exact zbi (liQ rfl rfl rfl (zap ha))
    ·
     intro vf pf hmu hR
     refine zce [] [] rfl (zay (zae [3] rfl) ?_)
     exact zbi (zax rfl)
    ·
     intro vf pf hmu hR
     refine zce [] [] rfl (zay (zae [12] rfl) ?_)
     exact zbi (zax rfl)
    ·
     intro vf pf hmu hR
     have e5 := hR 5 (by decide)
     have e6 := hR 6 (by decide)
     refine zce [5, 6] [5, 6] rfl (zaq (sk 58 (congrArg some e5.1) (sk 59 (congrArg some e6.1) (zab _))) (List.sublist_append_right _ _) ?_)
     exact zbi (riQ 1 rfl rfl rfl rfl (zap hb))
    ·
     intro vf pf hmu hR
     have e7 := hR 7 (by decide)
     refine zce [7] [7] rfl (zaq (sk 60 (congrArg some e7.1) (zab _)) (List.sublist_append_right _ _) ?_)
     exact zbi (liQ rfl rfl rfl (zap hb))
    ·
     intro vf pf hmu hR
     have e0 := hR 0 (by decide)
     have e4 := hR 4 (by decide)
     have e8 := hR 8 (by decide)
     refine zce [0, 4, 8] [0, 4, 8] rfl (zaq (sk 53 (congrArg some e0.1) (sk 57 (congrArg some e4.1) (sk 61 (congrArg some e8.1) (zab _)))) (List.sublist_append_right _ _) ?_)
     exact zam rfl rfl (fun w hm => zgj q.N (A.getD k 0) (B.getD k 0) w (rd_or hNq (hr.below hm.bel) (hm.holds _ (zbr (i := 0) rfl))) hG.ok (by first | omega | exact zcy (by omega) (by omega)) (by first | omega | exact zcy (by omega) (by omega)))
    ·
     intro vf pf hmu hR
     have e9 : (fun u_ p_ => GP9 q.N (xorO q.N.fst q.N.gs (A.getD k 0) (B.getD k 0)) u_ p_) (vf 9) (pf 9) := hR 9 (by decide)
     obtain ⟨v33, vE9⟩ : ∃ x, vf 9 = x := ⟨_, rfl⟩
     obtain ⟨p34, pE9⟩ : ∃ x, pf 9 = x := ⟨_, rfl⟩
     have hR35 := e9
     rw [vE9, pE9] at hR35
     obtain ⟨pshR35, mhR35, zhR35, rfl, rfl, hpmhR35, ⟨o1mhR35, o2mhR35, o3mhR35⟩, gmhR35⟩ := hR35
     have lmhR35 := gmhR35.ln
     have cmhR35 := gmhR35.gr.cnt
     have rmhR35 := zdw gmhR35.gr.ok
     have fmhR35 : mhR35.fst = n.fst := gmhR35.gr.fst.trans hG.fst
     have GmhR35 : Gr n mhR35 := hG.trans gmhR35.gr
     have emhR35 := gmhR35.es
     rw [hG.fst] at emhR35
     refine zce [9] [9] rfl (zbg (sk 62 (congrArg some vE9) (zab _)) (by simp only [pE9, vE9, fS] <;> rfl) ?_)
     exact zbo (zbi (zax rfl)) (fun _ _ h => ⟨h.1.trans (by show _ = (.tuple #[.agg #[.int .i64 (intOf_o (ag9 0 (tp9 0 (vf 9)))), (ag9 1 (tp9 0 (vf 9))), (ag9 2 (tp9 0 (vf 9))), (ag9 3 (tp9 0 (vf 9)))], .int .i64 (intOf_o (tp9 1 (vf 9)))] : Value); first | (rw [vE9]; done) | (rw [vE9]; rfl)), h.2⟩)
    ·
     intro vf pf hmu hR
     have e9 : (fun u_ p_ => GP9 q.N (xorO q.N.fst q.N.gs (A.getD k 0) (B.getD k 0)) u_ p_) (vf 9) (pf 9) := hR 9 (by decide)
     obtain ⟨v33, vE9⟩ : ∃ x, vf 9 = x := ⟨_, rfl⟩
     obtain ⟨p34, pE9⟩ : ∃ x, pf 9 = x := ⟨_, rfl⟩
     have hR35 := e9
     rw [vE9, pE9] at hR35
     obtain ⟨pshR35, mhR35, zhR35, rfl, rfl, hpmhR35, ⟨o1mhR35, o2mhR35, o3mhR35⟩, gmhR35⟩ := hR35
     have lmhR35 := gmhR35.ln
     have cmhR35 := gmhR35.gr.cnt
     have rmhR35 := zdw gmhR35.gr.ok
     have fmhR35 : mhR35.fst = n.fst := gmhR35.gr.fst.trans hG.fst
     have GmhR35 : Gr n mhR35 := hG.trans gmhR35.gr
     have emhR35 := gmhR35.es
     rw [hG.fst] at emhR35
     have e10 : (vf 10) = .tuple #[.agg #[.int .i64 (intOf_o (ag9 0 (tp9 0 (vf 9)))), (ag9 1 (tp9 0 (vf 9))), (ag9 2 (tp9 0 (vf 9))), (ag9 3 (tp9 0 (vf 9)))], .int .i64 (intOf_o (tp9 1 (vf 9)))] ∧ (pf 10) = [] := hR 10 (by decide)
     rw [vE9] at e10
     refine zce [9, 10] [9, 10] rfl (zbg (sk 52 (congrArg some e10.1) (zab _)) (by simp only [pE9, vE9, e10.2, fS] <;> rfl) ?_)
     exact zbo (zbi (zax rfl)) (fun _ _ h => ⟨h.1.trans (by show _ = (.agg #[.int .i64 (intOf_o (ag9 0 (tp9 0 (vf 9)))), (ag9 1 (tp9 0 (vf 9))), (ag9 2 (tp9 0 (vf 9))), (ag9 3 (tp9 0 (vf 9)))] : Value); first | (rw [vE9]; done) | (rw [vE9]; rfl)), h.2⟩)
    ·
     intro vf pf hmu hR
     have e9 : (fun u_ p_ => GP9 q.N (xorO q.N.fst q.N.gs (A.getD k 0) (B.getD k 0)) u_ p_) (vf 9) (pf 9) := hR 9 (by decide)
     obtain ⟨v33, vE9⟩ : ∃ x, vf 9 = x := ⟨_, rfl⟩
     obtain ⟨p34, pE9⟩ : ∃ x, pf 9 = x := ⟨_, rfl⟩
     have hR35 := e9
     rw [vE9, pE9] at hR35
     obtain ⟨pshR35, mhR35, zhR35, rfl, rfl, hpmhR35, ⟨o1mhR35, o2mhR35, o3mhR35⟩, gmhR35⟩ := hR35
     have lmhR35 := gmhR35.ln
     have cmhR35 := gmhR35.gr.cnt
     have rmhR35 := zdw gmhR35.gr.ok
     have fmhR35 : mhR35.fst = n.fst := gmhR35.gr.fst.trans hG.fst
     have GmhR35 : Gr n mhR35 := hG.trans gmhR35.gr
     have emhR35 := gmhR35.es
     rw [hG.fst] at emhR35
     have e10 : (vf 10) = .tuple #[.agg #[.int .i64 (intOf_o (ag9 0 (tp9 0 (vf 9)))), (ag9 1 (tp9 0 (vf 9))), (ag9 2 (tp9 0 (vf 9))), (ag9 3 (tp9 0 (vf 9)))], .int .i64 (intOf_o (tp9 1 (vf 9)))] ∧ (pf 10) = [] := hR 10 (by decide)
     rw [vE9] at e10
     refine zce [9, 10] [9, 10] rfl (zbg (sk 52 (congrArg some e10.1) (zab _)) (by simp only [pE9, vE9, e10.2, fS] <;> rfl) ?_)
     exact zbo (zbi (zax rfl)) (fun _ _ h => ⟨h.1.trans (by show _ = (.int .i64 (intOf_o (tp9 1 (vf 9))) : Value); first | (rw [vE9]; done) | (rw [vE9]; rfl)), h.2⟩)
    ·
     intro vf pf hmu hR
     refine zce [] [] rfl (zaq (zab _) (List.sublist_append_right _ _) ?_)
     exact zcc (z := .agg #[.int .i64 0, .slice none 0 0, .slice none 0 0, .slice none 0 0]) rfl rfl
    intro vf pf hmu hR
    have e9 : (fun u_ p_ => GP9 q.N (xorO q.N.fst q.N.gs (A.getD k 0) (B.getD k 0)) u_ p_) (vf 9) (pf 9) := hR 9 (by decide)
    obtain ⟨v33, vE9⟩ : ∃ x, vf 9 = x := ⟨_, rfl⟩
    obtain ⟨p34, pE9⟩ : ∃ x, pf 9 = x := ⟨_, rfl⟩
    have hR35 := e9
    rw [vE9, pE9] at hR35
    obtain ⟨pshR35, mhR35, zhR35, rfl, rfl, hpmhR35, ⟨o1mhR35, o2mhR35, o3mhR35⟩, gmhR35⟩ := hR35
    have lmhR35 := gmhR35.ln
    have cmhR35 := gmhR35.gr.cnt
    have rmhR35 := zdw gmhR35.gr.ok
    have fmhR35 : mhR35.fst = n.fst := gmhR35.gr.fst.trans hG.fst
    have GmhR35 : Gr n mhR35 := hG.trans gmhR35.gr
    have emhR35 := gmhR35.es
    rw [hG.fst] at emhR35
    have e11 : (vf 11) = .agg #[.int .i64 (intOf_o (ag9 0 (tp9 0 (vf 9)))), (ag9 1 (tp9 0 (vf 9))), (ag9 2 (tp9 0 (vf 9))), (ag9 3 (tp9 0 (vf 9)))] ∧ (pf 11) = [] := hR 11 (by decide)
    rw [vE9] at e11
    have e13 : IsBox #[.int .i64 0, .slice none 0 0, .slice none 0 0, .slice none 0 0] 70 (vf 13) (pf 13) := hR 13 (by decide)
    obtain ⟨b36, vE13, pE13⟩ := e13
    refine Or.inl ⟨rfl, ?_⟩
    show RunM _ _ _ (pf 13) (([9, 11] : List Nat).flatMap pf ++ _) (envOf3 _ vf [9, 11, 13] ++ _) _ _
    rw [pE13]
    exact zbx (sk 13 (congrArg some vE13) (sk 63 (congrArg some e11.1) (zab _))) (by simp only [pE9, vE9, e11.2, fS] <;> rfl) (zel (zcs (us := [.int .i64 mhR35.ins, mhR35.sv, mhR35.av, mhR35.ov]) (off := 0) 0 rfl rfl rfl rfl rfl rfl (zaa rfl (zaa o1mhR35 (zaa o2mhR35 (zaa o3mhR35 zbe)))) rfl rfl) (fun v_ p_ h => by show p_ = [boxE (blkOf (vf 13)) #[.int .i64 (intOf_o (ag9 0 (tp9 0 (vf 9)))), (ag9 1 (tp9 0 (vf 9))), (ag9 2 (tp9 0 (vf 9))), (ag9 3 (tp9 0 (vf 9)))] 70]; rw [vE9, vE13]; exact h))
   intro vf pf hmu hR
   have e9 : (fun u_ p_ => GP9 q.N (xorO q.N.fst q.N.gs (A.getD k 0) (B.getD k 0)) u_ p_) (vf 9) (pf 9) := hR 9 (by decide)
   obtain ⟨v33, vE9⟩ : ∃ x, vf 9 = x := ⟨_, rfl⟩
   obtain ⟨p34, pE9⟩ : ∃ x, pf 9 = x := ⟨_, rfl⟩
   have hR35 := e9
   rw [vE9, pE9] at hR35
   obtain ⟨pshR35, mhR35, zhR35, rfl, rfl, hpmhR35, ⟨o1mhR35, o2mhR35, o3mhR35⟩, gmhR35⟩ := hR35
   have lmhR35 := gmhR35.ln
   have cmhR35 := gmhR35.gr.cnt
   have rmhR35 := zdw gmhR35.gr.ok
   have fmhR35 : mhR35.fst = n.fst := gmhR35.gr.fst.trans hG.fst
   have GmhR35 : Gr n mhR35 := hG.trans gmhR35.gr
   have emhR35 := gmhR35.es
   rw [hG.fst] at emhR35
   have e12 : (vf 12) = .int .i64 (intOf_o (tp9 1 (vf 9))) ∧ (pf 12) = [] := hR 12 (by decide)
   rw [vE9] at e12
   have e13 : IsBox #[.int .i64 0, .slice none 0 0, .slice none 0 0, .slice none 0 0] 70 (vf 13) (pf 13) := hR 13 (by decide)
   obtain ⟨b36, vE13, pE13⟩ := e13
   have e14 : (pf 14) = [boxE (blkOf (vf 13)) #[.int .i64 (intOf_o (ag9 0 (tp9 0 (vf 9)))), (ag9 1 (tp9 0 (vf 9))), (ag9 2 (tp9 0 (vf 9))), (ag9 3 (tp9 0 (vf 9)))] 70] := hR 14 (by decide)
   rw [vE9, vE13] at e14
   have pE14 := e14
   have q0 := hR 0 (by decide)
   have q1 := hR 1 (by decide)
   have q2 := hR 2 (by decide)
   have q3 := hR 3 (by decide)
   have q4 := hR 4 (by decide)
   have q5 := hR 5 (by decide)
   have q6 := hR 6 (by decide)
   have q7 := hR 7 (by decide)
   have q8 := hR 8 (by decide)
   have q10 := hR 10 (by decide)
   have q11 := hR 11 (by decide)
   have q12 := hR 12 (by decide)
   refine zcd (zbs [12, 11, 10, 9, 8, 4, 3, 2, 1, 0] _ (sk 13 (congrArg some vE13) (zbs [49, 42, 27, 19, 18] _ (sk 64 (congrArg some e12.1) (zab _)) rfl)) rfl) (by simp only [pE9, vE9, pE14, q0.2, q1.2, q2.2, q3.2, q4.2, q5.2, q6.2, q7.2, q8.2, q10.2, q11.2, q12.2, fS] <;> rfl) ?_
   simp only [List.drop_succ_cons, List.drop_zero]
   refine zbc 1 rfl (zac (zac (reQ 1 rfl ?_)))
   refine zbj rfl rfl rfl rfl rfl rfl (fun h37 => absurd h37 (by omega)) (fun h37 => ?_)
   refine ntQ (zal rfl ?_)
   refine zdo 6 [5, 4, 3, 2, 0, 1] rfl rfl (by decide) ?_
   refine zdq (l := [bigE pshR35, bigE q.ps, rI9 3 q.u q.zs, eB9 b2, nB9 b1 q.N]) rfl 12 [0, 1, 2, 3, 4, 5, 6, 7, 8, 9, 10, 11] (List.take 12 _) (List.drop 12 _) [[], [], [], [], [2, 3], [4], [], [0, 1, 5, 6], [7], [7, 8], [7, 8], [7, 9]] [some 76, some 77, some 78, some 79, some 80, some 81, some 82, some 83, some 75, some 84, some 85, none] (fun i_ vs_ v_ p_ => match i_ with | 0 => v_ = .agg #[.int .i64 mhR35.ins, mhR35.sv, mhR35.av, mhR35.ov] ∧ p_ = [] | 1 => v_ = .int .i64 zhR35 ∧ p_ = [] | 2 => v_ = vB ∧ p_ = [] | 3 => v_ = .int .i64 (k : Int) ∧ p_ = [] | 4 => v_ = elP vB (((k : Int)).toNat * 1) ∧ p_ = [] | 5 => v_ = .int .i64 (B.getD k 0) ∧ p_ = [] | 6 => v_ = .int .i64 q.c ∧ p_ = [] | 7 => (fun u_ p_ => GP9 mhR35 (muxO mhR35.fst mhR35.gs zhR35 (B.getD k 0) q.c) u_ p_) v_ p_ | 8 => v_ = .tuple #[.agg #[.int .i64 (intOf_o (ag9 0 (tp9 0 (gV9 vs_ 0)))), (ag9 1 (tp9 0 (gV9 vs_ 0))), (ag9 2 (tp9 0 (gV9 vs_ 0))), (ag9 3 (tp9 0 (gV9 vs_ 0)))], .int .i64 (intOf_o (tp9 1 (gV9 vs_ 0)))] ∧ p_ = [] | 9 => v_ = .agg #[.int .i64 (intOf_o (ag9 0 (tp9 0 (gV9 vs_ 0)))), (ag9 1 (tp9 0 (gV9 vs_ 0))), (ag9 2 (tp9 0 (gV9 vs_ 0))), (ag9 3 (tp9 0 (gV9 vs_ 0)))] ∧ p_ = [] | 10 => v_ = .int .i64 (intOf_o (tp9 1 (gV9 vs_ 0))) ∧ p_ = [] | 11 => p_ = [boxE b36 #[.int .i64 (intOf_o (ag9 0 (tp9 0 (gV9 vs_ 0)))), (ag9 1 (tp9 0 (gV9 vs_ 0))), (ag9 2 (tp9 0 (gV9 vs_ 0))), (ag9 3 (tp9 0 (gV9 vs_ 0)))] 70] | _ => True) [[13], [], [], [], [2, 3], [4], [], [0, 1, 5, 6], [7], [7, 8], [7, 8], [7, 9]] [none, none, none, none, none, none, none, none, none, none, none, some 13] [[nB9 b36 mhR35]] [0, 1, 2, 3, 4, 5, 6, 7, 8, 9, 10, 11] 13 (List.take_append_drop 12 _).symm (by kernel_rfl) (by kernel_rfl) (by kernel_rfl) rfl rfl ?_ ?_
   ·
    refine ⟨?_, ?_, ?_, ?_, ?_, ?_, ?_, ?_, ?_, ?_, ?_, ?_, trivial⟩
    ·
     intro vf pf hmu hR
     refine zce [13] [] rfl ?_
     have hmu0 : pf 13 = [nB9 b36 mhR35] := hmu 0 (show 0 < 1 by omega)
     exact zbg (zae [13] rfl) (by simp only [hmu0, fS] <;> rfl) (zbi (zar (cs := [.int .i64 mhR35.ins, mhR35.sv, mhR35.av, mhR35.ov]) rfl rfl rfl rfl rfl (zah 0 rfl 0 rfl)))
    ·
     intro vf pf hmu hR
     refine zce [] [] rfl (zay (zae [14] rfl) ?_)
     exact zbi (zax rfl)
    ·
     intro vf pf hmu hR
     refine zce [] [] rfl (zay (zae [3] rfl) ?_)
     exact zbi (zax rfl)
    ·
     intro vf pf hmu hR
     refine zce [] [] rfl (zay (zae [12] rfl) ?_)
     exact zbi (zax rfl)
    ·
     intro vf pf hmu hR
     have e2 := hR 2 (by decide)
     have e3 := hR 3 (by decide)
     refine zce [2, 3] [2, 3] rfl (zaq (sk 78 (congrArg some e2.1) (sk 79 (congrArg some e3.1) (zab _))) (List.sublist_append_right _ _) ?_)
     exact zbi (riQ 1 rfl rfl rfl rfl (zap hb))
    ·
     intro vf pf hmu hR
     have e4 := hR 4 (by decide)
     refine zce [4] [4] rfl (zaq (sk 80 (congrArg some e4.1) (zab _)) (List.sublist_append_right _ _) ?_)
     exact zbi (liQ rfl rfl rfl (zap hb))
    ·
     intro vf pf hmu hR
     refine zce [] [] rfl (zay (zae [11] rfl) ?_)
     exact zbi (zax rfl)
    ·
     intro vf pf hmu hR
     have e0 := hR 0 (by decide)
     have e1 := hR 1 (by decide)
     have e5 := hR 5 (by decide)
     have e6 := hR 6 (by decide)
     refine zce [0, 1, 5, 6] [0, 1, 5, 6] rfl (zaq (sk 76 (congrArg some e0.1) (sk 77 (congrArg some e1.1) (sk 81 (congrArg some e5.1) (sk 82 (congrArg some e6.1) (zab _))))) (List.sublist_append_right _ _) ?_)
     exact zam rfl rfl (fun w hm => AddMuxG_ret mhR35 zhR35 (B.getD k 0) q.c w (hpmhR35 w (hm.holds _ (zbr (i := 0) rfl))) gmhR35.gr.ok (by first | omega | exact zcy (by omega) (by omega)) (by first | omega | exact zcy (by omega) (by omega)) (by first | omega | exact zcy (by omega) (by omega)))
    ·
     intro vf pf hmu hR
     have e7 : (fun u_ p_ => GP9 mhR35 (muxO mhR35.fst mhR35.gs zhR35 (B.getD k 0) q.c) u_ p_) (vf 7) (pf 7) := hR 7 (by decide)
     obtain ⟨v38, vE7⟩ : ∃ x, vf 7 = x := ⟨_, rfl⟩
     obtain ⟨p39, pE7⟩ : ∃ x, pf 7 = x := ⟨_, rfl⟩
     have hR40 := e7
     rw [vE7, pE7] at hR40
     obtain ⟨pshR40, mhR40, zhR40, rfl, rfl, hpmhR40, ⟨o1mhR40, o2mhR40, o3mhR40⟩, gmhR40⟩ := hR40
     have lmhR40 := gmhR40.ln
     have cmhR40 := gmhR40.gr.cnt
     have rmhR40 := zdw gmhR40.gr.ok
     have fmhR40 : mhR40.fst = n.fst := gmhR40.gr.fst.trans fmhR35
     have GmhR40 : Gr n mhR40 := GmhR35.trans gmhR40.gr
     have emhR40 := gmhR40.es
     rw [fmhR35] at emhR40
     refine zce [7] [7] rfl (zbg (sk 83 (congrArg some vE7) (zab _)) (by simp only [pE7, vE7, fS] <;> rfl) ?_)
     exact zbo (zbi (zax rfl)) (fun _ _ h => ⟨h.1.trans (by show _ = (.tuple #[.agg #[.int .i64 (intOf_o (ag9 0 (tp9 0 (vf 7)))), (ag9 1 (tp9 0 (vf 7))), (ag9 2 (tp9 0 (vf 7))), (ag9 3 (tp9 0 (vf 7)))], .int .i64 (intOf_o (tp9 1 (vf 7)))] : Value); first | (rw [vE7]; done) | (rw [vE7]; rfl)), h.2⟩)
    ·
     intro vf pf hmu hR
     have e7 : (fun u_ p_ => GP9 mhR35 (muxO mhR35.fst mhR35.gs zhR35 (B.getD k 0) q.c) u_ p_) (vf 7) (pf 7) := hR 7 (by decide)
     obtain ⟨v38, vE7⟩ : ∃ x, vf 7 = x := ⟨_, rfl⟩
     obtain ⟨p39, pE7⟩ : ∃ x, pf 7 = x := ⟨_, rfl⟩
     have hR40 := e7
     rw [vE7, pE7] at hR40
     obtain ⟨pshR40, mhR40, zhR40, rfl, rfl, hpmhR40, ⟨o1mhR40, o2mhR40, o3mhR40⟩, gmhR40⟩ := hR40
     have lmhR40 := gmhR40.ln
     have cmhR40 := gmhR40.gr.cnt
     have rmhR40 := zdw gmhR40.gr.ok
     have fmhR40 : mhR40.fst = n.fst := gmhR40.gr.fst.trans fmhR35
     have GmhR40 : Gr n mhR40 := GmhR35.trans gmhR40.gr
     have emhR40 := gmhR40.es
     rw [fmhR35] at emhR40
     have e8 : (vf 8) = .tuple #[.agg #[.int .i64 (intOf_o (ag9 0 (tp9 0 (vf 7)))), (ag9 1 (tp9 0 (vf 7))), (ag9 2 (tp9 0 (vf 7))), (ag9 3 (tp9 0 (vf 7)))], .int .i64 (intOf_o (tp9 1 (vf 7)))] ∧ (pf 8) = [] := hR 8 (by decide)
     rw [vE7] at e8
     refine zce [7, 8] [7, 8] rfl (zbg (sk 75 (congrArg some e8.1) (zab _)) (by simp only [pE7, vE7, e8.2, fS] <;> rfl) ?_)
     exact zbo (zbi (zax rfl)) (fun _ _ h => ⟨h.1.trans (by show _ = (.agg #[.int .i64 (intOf_o (ag9 0 (tp9 0 (vf 7)))), (ag9 1 (tp9 0 (vf 7))), (ag9 2 (tp9 0 (vf 7))), (ag9 3 (tp9 0 (vf 7)))] : Value); first | (rw [vE7]; done) | (rw [vE7]; rfl)), h.2⟩)
    ·
     intro vf pf hmu hR
     have e7 : (fun u_ p_ => GP9 mhR35 (muxO mhR35.fst mhR35.gs zhR35 (B.getD k 0) q.c) u_ p_) (vf 7) (pf 7) := hR 7 (by decide)
     obtain ⟨v38, vE7⟩ : ∃ x, vf 7 = x := ⟨_, rfl⟩
     obtain ⟨p39, pE7⟩ : ∃ x, pf 7 = x := ⟨_, rfl⟩
     have hR40 := e7
     rw [vE7, pE7] at hR40
     obtain ⟨pshR40, mhR40, zhR40, rfl, rfl, hpmhR40, ⟨o1mhR40, o2mhR40, o3mhR40⟩, gmhR40⟩ := hR40
     have lmhR40 := gmhR40.ln
     have cmhR40 := gmhR40.gr.cnt
     have rmhR40 := zdw gmhR40.gr.ok
     have fmhR40 : mhR40.fst = n.fst := gmhR40.gr.fst.trans fmhR35
     have GmhR40 : Gr n mhR40 := GmhR35.trans gmhR40.gr
     have emhR40 := gmhR40.es
     rw [fmhR35] at emhR40
     have e8 : (vf 8) = .tuple #[.agg #[.int .i64 (intOf_o (ag9 0 (tp9 0 (vf 7)))), (ag9 1 (tp9 0 (vf 7))), (ag9 2 (tp9 0 (vf 7))), (ag9 3 (tp9 0 (vf 7)))], .int .i64 (intOf_o (tp9 1 (vf 7)))] ∧ (pf 8) = [] := hR 8 (by decide)
     rw [vE7] at e8
     refine zce [7, 8] [7, 8] rfl (zbg (sk 75 (congrArg some e8.1) (zab _)) (by simp only [pE7, vE7, e8.2, fS] <;> rfl) ?_)
     exact zbo (zbi (zax rfl)) (fun _ _ h => ⟨h.1.trans (by show _ = (.int .i64 (intOf_o (tp9 1 (vf 7))) : Value); first | (rw [vE7]; done) | (rw [vE7]; rfl)), h.2⟩)
    intro vf pf hmu hR
    have e7 : (fun u_ p_ => GP9 mhR35 (muxO mhR35.fst mhR35.gs zhR35 (B.getD k 0) q.c) u_ p_) (vf 7) (pf 7) := hR 7 (by decide)
    obtain ⟨v38, vE7⟩ : ∃ x, vf 7 = x := ⟨_, rfl⟩
    obtain ⟨p39, pE7⟩ : ∃ x, pf 7 = x := ⟨_, rfl⟩
    have hR40 := e7
    rw [vE7, pE7] at hR40
    obtain ⟨pshR40, mhR40, zhR40, rfl, rfl, hpmhR40, ⟨o1mhR40, o2mhR40, o3mhR40⟩, gmhR40⟩ := hR40
    have lmhR40 := gmhR40.ln
    have cmhR40 := gmhR40.gr.cnt
    have rmhR40 := zdw gmhR40.gr.ok
    have fmhR40 : mhR40.fst = n.fst := gmhR40.gr.fst.trans fmhR35
    have GmhR40 : Gr n mhR40 := GmhR35.trans gmhR40.gr
    have emhR40 := gmhR40.es
    rw [fmhR35] at emhR40
    have e9 : (vf 9) = .agg #[.int .i64 (intOf_o (ag9 0 (tp9 0 (vf 7)))), (ag9 1 (tp9 0 (vf 7))), (ag9 2 (tp9 0 (vf 7))), (ag9 3 (tp9 0 (vf 7)))] ∧ (pf 9) = [] := hR 9 (by decide)
    rw [vE7] at e9
    refine Or.inl ⟨rfl, ?_⟩
    show RunM _ _ _ (pf 13) (([7, 9] : List Nat).flatMap pf ++ _) (envOf3 _ vf [7, 9] ++ _) _ _
    have hmu0 : pf 13 = [nB9 b36 mhR35] := hmu 0 (show 0 < 1 by omega)
    rw [hmu0]
    exact zbx (sk 13 rfl (sk 84 (congrArg some e9.1) (zab _))) (by simp only [pE7, vE7, e9.2, fS] <;> rfl) (zel (zcs (us := [.int .i64 mhR40.ins, mhR40.sv, mhR40.av, mhR40.ov]) (off := 0) 0 rfl rfl rfl rfl rfl rfl (zaa rfl (zaa o1mhR40 (zaa o2mhR40 (zaa o3mhR40 zbe)))) rfl rfl) (fun v_ p_ h => by show p_ = [boxE b36 #[.int .i64 (intOf_o (ag9 0 (tp9 0 (vf 7)))), (ag9 1 (tp9 0 (vf 7))), (ag9 2 (tp9 0 (vf 7))), (ag9 3 (tp9 0 (vf 7)))] 70]; rw [vE7]; exact h))
   intro vf pf hmu hR
   have e7 : (fun u_ p_ => GP9 mhR35 (muxO mhR35.fst mhR35.gs zhR35 (B.getD k 0) q.c) u_ p_) (vf 7) (pf 7) := hR 7 (by decide)
   obtain ⟨v38, vE7⟩ : ∃ x, vf 7 = x := ⟨_, rfl⟩
   obtain ⟨p39, pE7⟩ : ∃ x, pf 7 = x := ⟨_, rfl⟩
   have hR40 := e7
   rw [vE7, pE7] at hR40
   obtain ⟨pshR40, mhR40, zhR40, rfl, rfl, hpmhR40, ⟨o1mhR40, o2mhR40, o3mhR40⟩, gmhR40⟩ := hR40
   have lmhR40 := gmhR40.ln
   have cmhR40 := gmhR40.gr.cnt
   have rmhR40 := zdw gmhR40.gr.ok
   have fmhR40 : mhR40.fst = n.fst := gmhR40.gr.fst.trans fmhR35
   have GmhR40 : Gr n mhR40 := GmhR35.trans gmhR40.gr
   have emhR40 := gmhR40.es
   rw [fmhR35] at emhR40
   have e10 : (vf 10) = .int .i64 (intOf_o (tp9 1 (vf 7))) ∧ (pf 10) = [] := hR 10 (by decide)
   rw [vE7] at e10
   have e11 : (pf 11) = [boxE b36 #[.int .i64 (intOf_o (ag9 0 (tp9 0 (vf 7)))), (ag9 1 (tp9 0 (vf 7))), (ag9 2 (tp9 0 (vf 7))), (ag9 3 (tp9 0 (vf 7)))] 70] := hR 11 (by decide)
   rw [vE7] at e11
   have pE11 := e11
   have q0 := hR 0 (by decide)
   have q1 := hR 1 (by decide)
   have q2 := hR 2 (by decide)
   have q3 := hR 3 (by decide)
   have q4 := hR 4 (by decide)
   have q5 := hR 5 (by decide)
   have q6 := hR 6 (by decide)
   have q8 := hR 8 (by decide)
   have q9 := hR 9 (by decide)
   have q10 := hR 10 (by decide)
   refine zcd (zbs [66, 49, 42, 27, 19, 18, 14, 13, 12, 11, 10, 9, 8, 4, 3, 2, 1, 0] _ (sk 85 (congrArg some e10.1) (zab _)) rfl) (by simp only [pE7, vE7, pE11, q0.2, q1.2, q2.2, q3.2, q4.2, q5.2, q6.2, q8.2, q9.2, q10.2, fS] <;> rfl) ?_
   simp only [List.drop_succ_cons, List.drop_zero]
   refine zbc 1 rfl (srQ (hvQ rfl (zar (cs := [.int .i64 mhR40.ins, mhR40.sv, mhR40.av, mhR40.ov]) rfl rfl rfl rfl rfl (zah 1 rfl 0 rfl)) ?_))
   refine zbm (cs' := #[.int .i64 mhR40.ins, mhR40.sv, mhR40.av, mhR40.ov]) (i := 6) (off := 0) (us := [.int .i64 mhR40.ins, mhR40.sv, mhR40.av, mhR40.ov]) rfl rfl rfl rfl rfl rfl rfl (zaa rfl (zaa o1mhR40 (zaa o2mhR40 (zaa o3mhR40 zbe)))) rfl rfl rfl (ntQ (reQ 1 rfl ?_))
   refine zey rfl (zas (z := .int .i64 0) (s := 1) (cs := ([0].map (Value.int .i64))) rfl Try.underlying48 rfl (by decide) rfl (by kernel_rfl) rfl) ?_
   intro g41
   refine zdc (i := 5) (z := .int .i64 0) (bytes := 8) rfl rfl rfl rfl Try.underlying48 (by kernel_rfl) rfl rfl rfl rfl (zao 0 rfl) (zcj _) (by first | omega | (simp; done) | (simp; omega)) (zco q.zs ([0])) (zcx q.zs ([0])) (fun _ => rfl) ?_
   intro v42
   refine enQ 1 rfl (zdn (reQ 1 rfl (hvQ rfl (vaQ rfl rfl rfl) (enQ 1 rfl ?_))))
   refine zaz 8 [7, 6, 5, 1] rfl rfl (by decide) ?_
   exact zci (k + 1) ⟨mhR40, pshR40, zhR40, q.zs ++ ([0]), v42⟩ ⟨by omega, GmhR40, .inr hpmhR40, ⟨o1mhR40, o2mhR40, o3mhR40⟩, by dsimp only; rw [hz, List.replicate_succ'], lmhR40, es_ls hE emhR35 emhR40⟩ (by omega) (saQ rfl) (pfQ rfl)
  refine ntQ (zal rfl ?_)
  refine zby (zes ?_)
  refine zat (zaw (zac (reQ 2 rfl (hvQ rfl (riQ 1 rfl rfl rfl rfl (zao 1 rfl)) ?_))))
  refine hl_stE (i := 1) (n' := (q.zs.set 0 q.c).length) (xs' := ((q.zs.set 0 q.c).map (Value.int .i64))) rfl rfl rfl rfl rfl rfl rfl rfl (by first | omega | (simp only [List.length_set]; omega)) List.length_set.symm (zfc _ _ _) rfl (ntQ (srQ (hvQ rfl (zar (cs := [.int .i64 q.N.ins, q.N.sv, q.N.av, q.N.ov]) rfl rfl rfl rfl rfl (zah 3 rfl 0 rfl)) (zag 1 rfl ?_))))
  refine zbm (cs' := #[.int .i64 q.N.ins, q.N.sv, q.N.av, q.N.ov]) (i := 2) (off := 0) (us := [.int .i64 q.N.ins, q.N.sv, q.N.av, q.N.ov]) rfl rfl rfl rfl rfl rfl rfl (zaa rfl (zaa o1q (zaa o2q (zaa o3q zbe)))) rfl rfl rfl (zbc 1 rfl ?_)
  refine zak (zad ?_)
  have hset : q.zs.set 0 q.c = loneL W q.c := by rw [hz, show k = W by omega]; exact lone_eq hW.1 _
  rw [hset]
  rw [show k = W by omega] at hE
  exact zca (rs := [.cell 8 70, .tmp 9]) (vs := [.agg #[.int .i64 q.N.ins, q.N.sv, q.N.av, q.N.ov], q.u]) (post := [bigE q.ps, rowE 3 1 q.u ((loneL W q.c).length) ((loneL W q.c).map (Value.int .i64))]) rfl ⟨⟨b2, 0, [.int .i64 q.N.ins, q.N.sv, q.N.av, q.N.ov], rfl, rfl, by kernel_rfl, by kernel_rfl, zah 2 rfl 0 rfl⟩, rfl, trivial⟩ rfl (slQ [0, 0] rfl) ⟨q.ps, q.N, _, _, rfl, rfl, hNq, ⟨o1q, o2q, o3q⟩, hG, lone_len _ hW.1 _, lone_bnd (by omega) hqc, by rw [show twO n.fst kd A B W n.gs = (itO (lsS n.fst A B) (n.gs, 0) W).map (fun r => (r.1, loneL W r.2)) from (by unfold twO; rw [if_neg (by omega), if_neg (by omega), if_neg (by omega), if_neg (by omega), if_neg (by omega), if_neg (by omega)])]; exact es_lone hE⟩
 refine zbc 1 rfl (zal rfl (zdb (zac (zbn 1 rfl ?_))))
 refine zbf (zeo _ zfq ?_)
 refine lkQ2 (α := Nat) (β := RSt) [0, 1, 2, 3, 4, 8, 9, 18, 19, 27, 42] rfl (fun k q => [bigE q.ps, rI9 3 q.u q.zs, eB9 b2, nB9 b1 q.N]) (fun k q => [(10, q.u), (15, .int .i64 (k : Int))]) (fun k q => k ≤ W ∧ Gr n q.N ∧ (q.N = n ∨ ∀ w, (bigE q.ps).holds w → RdsNt w q.N) ∧ (q.N.sv.oneCell' = true ∧ q.N.av.oneCell' = true ∧ q.N.ov.oneCell' = true) ∧ q.zs.length = k ∧ (∀ x ∈ q.zs, x < 2 * q.N.cnt) ∧ ES (¬ PosL q.zs) (itO (bwS (bwO n.fst kd) A B) (n.gs, []) k) (q.N.gs, q.zs)) (fun k q => W - k) 0 ⟨n, [], 0, [], _⟩ ⟨by omega, Gr.refl hn, .inl rfl, ⟨hr.sq.one, hr.an.one, hr.ou.one⟩, rfl, ls_nil, .inl ⟨fun h9 => h9 posL_nil, rfl⟩⟩ (saQ rfl) (pfQ rfl) ?_
 intro k q hi43
 obtain ⟨hk, hG, hNq, ⟨o1q, o2q, o3q⟩, hzl, hLs, hE⟩ := hi43
 have hGc := hG.cnt
 have hGr := zdw hG.ok
 refine zac (zac (reQ 2 rfl (hvQ rfl (lnQ rfl rfl rfl (zap ha)) ?_)))
 refine zcb rfl rfl rfl rfl rfl rfl (fun h44 => ?_) (fun h44 => ?_)
 ·
  refine ntQ (zaj rfl (zdb (sbQ (zbn 1 rfl ?_))))
  refine srQ (hvQ rfl (zar (cs := [.int .i64 q.N.ins, q.N.sv, q.N.av, q.N.ov]) rfl rfl rfl rfl rfl (zah 3 rfl 0 rfl)) ?_)
  refine zed rfl (zcc (z := .agg #[.int .i64 0, .slice none 0 0, .slice none 0 0, .slice none 0 0]) rfl rfl) ?_
  intro b45
  refine zbm (cs' := #[.int .i64 q.N.ins, q.N.sv, q.N.av, q.N.ov]) (i := 0) (off := 0) (us := [.int .i64 q.N.ins, q.N.sv, q.N.av, q.N.ov]) rfl rfl rfl rfl rfl rfl rfl (zaa rfl (zaa o1q (zaa o2q (zaa o3q zbe)))) rfl rfl rfl (ntQ (zac (zbn 1 rfl (zbf (srQ ?_)))))
  refine zbj rfl rfl rfl rfl rfl rfl (fun h46 => ?_) (fun h46 => ?_)
  ·
   refine zbc 1 rfl (zaj rfl ?_)
   have hAk := hA _ (zbd (d := 0) (show k < A.length by omega))
   have hBk := hB _ (zbd (d := 0) (show k < B.length by omega))
   refine zdq (l := [bigE q.ps, rI9 3 q.u q.zs, eB9 b2, nB9 b1 q.N]) rfl 14 [0, 1, 2, 3, 4, 5, 6, 7, 8, 9, 10, 11, 12, 13] (List.take 14 _) (List.drop 14 _) [[], [], [], [1, 2], [3], [], [], [5, 6], [7], [0, 4, 8], [9], [9, 10], [9, 10], [9, 11]] [some 119, some 120, some 121, some 122, some 123, some 124, some 125, some 126, some 127, some 128, some 118, some 129, some 130, none] (fun i_ vs_ v_ p_ => match i_ with | 0 => v_ = .agg #[.int .i64 q.N.ins, q.N.sv, q.N.av, q.N.ov] ∧ p_ = [] | 1 => v_ = vA ∧ p_ = [] | 2 => v_ = .int .i64 (k : Int) ∧ p_ = [] | 3 => v_ = elP vA (((k : Int)).toNat * 1) ∧ p_ = [] | 4 => v_ = .int .i64 (A.getD k 0) ∧ p_ = [] | 5 => v_ = vB ∧ p_ = [] | 6 => v_ = .int .i64 (k : Int) ∧ p_ = [] | 7 => v_ = elP vB (((k : Int)).toNat * 1) ∧ p_ = [] | 8 => v_ = .int .i64 (B.getD k 0) ∧ p_ = [] | 9 => (fun u_ p_ => GP9 q.N (andO q.N.fst q.N.gs (A.getD k 0) (B.getD k 0)) u_ p_) v_ p_ | 10 => v_ = .tuple #[.agg #[.int .i64 (intOf_o (ag9 0 (tp9 0 (gV9 vs_ 0)))), (ag9 1 (tp9 0 (gV9 vs_ 0))), (ag9 2 (tp9 0 (gV9 vs_ 0))), (ag9 3 (tp9 0 (gV9 vs_ 0)))], .int .i64 (intOf_o (tp9 1 (gV9 vs_ 0)))] ∧ p_ = [] | 11 => v_ = .agg #[.int .i64 (intOf_o (ag9 0 (tp9 0 (gV9 vs_ 0)))), (ag9 1 (tp9 0 (gV9 vs_ 0))), (ag9 2 (tp9 0 (gV9 vs_ 0))), (ag9 3 (tp9 0 (gV9 vs_ 0)))] ∧ p_ = [] | 12 => v_ = .int .i64 (intOf_o (tp9 1 (gV9 vs_ 0))) ∧ p_ = [] | 13 => p_ = [boxE b45 #[.int .i64 (intOf_o (ag9 0 (tp9 0 (gV9 vs_ 0)))), (ag9 1 (tp9 0 (gV9 vs_ 0))), (ag9 2 (tp9 0 (gV9 vs_ 0))), (ag9 3 (tp9 0 (gV9 vs_ 0)))] 70] | _ => True) [[], [], [], [1, 2], [3], [], [], [5, 6], [7], [0, 4, 8], [9], [9, 10], [9, 10], [9, 11]] [none, none, none, none, none, none, none, none, none, none, none, none, none, some 15] [[nB9 b45 q.N]] [0, 1, 2, 3, 4, 5, 6, 7, 8, 9, 10, 11, 12, 13] 15 (List.take_append_drop 14 _).symm (by kernel_rfl) (by kernel_rfl) (by kernel_rfl) rfl rfl ?_ ?_
   ·
    refine ⟨?_, ?_, ?_, ?_, ?_, ?_, ?_, ?_, ?_, ?_, ?_, ?_, ?_, ?_, trivial⟩
    ·
     intro vf pf hmu hR
     refine zce [] [] rfl (zaq (zae [4] rfl) (List.sublist_append_right _ _) ?_)
     exact zbi (zar (cs := [.int .i64 q.N.ins, q.N.sv, q.N.av, q.N.ov]) rfl rfl rfl rfl rfl (zah 3 rfl 0 rfl))
    ·
     intro vf pf hmu hR
     refine zce [] [] rfl (zay (zae [2] rfl) ?_)
     exact zbi (zax rfl)
    ·
     intro vf pf hmu hR
     refine zce [] [] rfl (zay (zae [15] rfl) ?_)
     exact zbi (zax rfl)
    ·
     intro vf pf hmu hR
     have e1 := hR 1 (by decide)
     have e2 := hR 2 (by decide)
     refine zce [1, 2] [1, 2] rfl (zaq (sk 120 (congrArg some e1.1) (sk 121 (congrArg some e2.1) (zab _))) (List.sublist_append_right _ _) ?_)
     exact zbi (riQ 1 rfl rfl rfl rfl (zap ha))
    ·
     intro vf pf hmu hR
     have e3 := hR 3 (by decide)
     refine zce [3] [3] rfl (zaq (sk 122 (congrArg some e3.1) (zab _)) (List.sublist_append_right _ _) ?_)
     exact zbi (liQ rfl rfl rfl (zap ha))
    ·
     intro vf pf hmu hR
     refine zce [] [] rfl (zay (zae [3] rfl) ?_)
     exact zbi (zax rfl)
    ·
     intro vf pf hmu hR
     refine zce [] [] rfl (zay (zae [15] rfl) ?_)
     exact zbi (zax rfl)
    ·
     intro vf pf hmu hR
     have e5 := hR 5 (by decide)
     have e6 := hR 6 (by decide)
     refine zce [5, 6] [5, 6] rfl (zaq (sk 124 (congrArg some e5.1) (sk 125 (congrArg some e6.1) (zab _))) (List.sublist_append_right _ _) ?_)
     exact zbi (riQ 1 rfl rfl rfl rfl (zap hb))
    ·
     intro vf pf hmu hR
     have e7 := hR 7 (by decide)
     refine zce [7] [7] rfl (zaq (sk 126 (congrArg some e7.1) (zab _)) (List.sublist_append_right _ _) ?_)
     exact zbi (liQ rfl rfl rfl (zap hb))
    ·
     intro vf pf hmu hR
     have e0 := hR 0 (by decide)
     have e4 := hR 4 (by decide)
     have e8 := hR 8 (by decide)
     refine zce [0, 4, 8] [0, 4, 8] rfl (zaq (sk 119 (congrArg some e0.1) (sk 123 (congrArg some e4.1) (sk 127 (congrArg some e8.1) (zab _)))) (List.sublist_append_right _ _) ?_)
     exact zam rfl rfl (fun w hm => zex q.N (A.getD k 0) (B.getD k 0) w (rd_or hNq (hr.below hm.bel) (hm.holds _ (zbr (i := 0) rfl))) hG.ok (by first | omega | exact zcy (by omega) (by omega)) (by first | omega | exact zcy (by omega) (by omega)))
    ·
     intro vf pf hmu hR
     have e9 : (fun u_ p_ => GP9 q.N (andO q.N.fst q.N.gs (A.getD k 0) (B.getD k 0)) u_ p_) (vf 9) (pf 9) := hR 9 (by decide)
     obtain ⟨v47, vE9⟩ : ∃ x, vf 9 = x := ⟨_, rfl⟩
     obtain ⟨p48, pE9⟩ : ∃ x, pf 9 = x := ⟨_, rfl⟩
     have hR49 := e9
     rw [vE9, pE9] at hR49
     obtain ⟨pshR49, mhR49, zhR49, rfl, rfl, hpmhR49, ⟨o1mhR49, o2mhR49, o3mhR49⟩, gmhR49⟩ := hR49
     have lmhR49 := gmhR49.ln
     have cmhR49 := gmhR49.gr.cnt
     have rmhR49 := zdw gmhR49.gr.ok
     have fmhR49 : mhR49.fst = n.fst := gmhR49.gr.fst.trans hG.fst
     have GmhR49 : Gr n mhR49 := hG.trans gmhR49.gr
     have emhR49 := gmhR49.es
     rw [hG.fst] at emhR49
     refine zce [9] [9] rfl (zbg (sk 128 (congrArg some vE9) (zab _)) (by simp only [pE9, vE9, fS] <;> rfl) ?_)
     exact zbo (zbi (zax rfl)) (fun _ _ h => ⟨h.1.trans (by show _ = (.tuple #[.agg #[.int .i64 (intOf_o (ag9 0 (tp9 0 (vf 9)))), (ag9 1 (tp9 0 (vf 9))), (ag9 2 (tp9 0 (vf 9))), (ag9 3 (tp9 0 (vf 9)))], .int .i64 (intOf_o (tp9 1 (vf 9)))] : Value); first | (rw [vE9]; done) | (rw [vE9]; rfl)), h.2⟩)
    ·
     intro vf pf hmu hR
     have e9 : (fun u_ p_ => GP9 q.N (andO q.N.fst q.N.gs (A.getD k 0) (B.getD k 0)) u_ p_) (vf 9) (pf 9) := hR 9 (by decide)
     obtain ⟨v47, vE9⟩ : ∃ x, vf 9 = x := ⟨_, rfl⟩
     obtain ⟨p48, pE9⟩ : ∃ x, pf 9 = x := ⟨_, rfl⟩
     have hR49 := e9
     rw [vE9, pE9] at hR49
     obtain ⟨pshR49, mhR49, zhR49, rfl, rfl, hpmhR49, ⟨o1mhR49, o2mhR49, o3mhR49⟩, gmhR49⟩ := hR49
     have lmhR49 := gmhR49.ln
     have cmhR49 := gmhR49.gr.cnt
     have rmhR49 := zdw gmhR49.gr.ok
     have fmhR49 : mhR49.fst = n.fst := gmhR49.gr.fst.trans hG.fst
     have GmhR49 : Gr n mhR49 := hG.trans gmhR49.gr
     have emhR49 := gmhR49.es
     rw [hG.fst] at emhR49
     have e10 : (vf 10) = .tuple #[.agg #[.int .i64 (intOf_o (ag9 0 (tp9 0 (vf 9)))), (ag9 1 (tp9 0 (vf 9))), (ag9 2 (tp9 0 (vf 9))), (ag9 3 (tp9 0 (vf 9)))], .int .i64 (intOf_o (tp9 1 (vf 9)))] ∧ (pf 10) = [] := hR 10 (by decide)
     rw [vE9] at e10
     refine zce [9, 10] [9, 10] rfl (zbg (sk 118 (congrArg some e10.1) (zab _)) (by simp only [pE9, vE9, e10.2, fS] <;> rfl) ?_)
     exact zbo (zbi (zax rfl)) (fun _ _ h => ⟨h.1.trans (by show _ = (.agg #[.int .i64 (intOf_o (ag9 0 (tp9 0 (vf 9)))), (ag9 1 (tp9 0 (vf 9))), (ag9 2 (tp9 0 (vf 9))), (ag9 3 (tp9 0 (vf 9)))] : Value); first | (rw [vE9]; done) | (rw [vE9]; rfl)), h.2⟩)
    ·
     intro vf pf hmu hR
     have e9 : (fun u_ p_ => GP9 q.N (andO q.N.fst q.N.gs (A.getD k 0) (B.getD k 0)) u_ p_) (vf 9) (pf 9) := hR 9 (by decide)
     obtain ⟨v47, vE9⟩ : ∃ x, vf 9 = x := ⟨_, rfl⟩
     obtain ⟨p48, pE9⟩ : ∃ x, pf 9 = x := ⟨_, rfl⟩
     have hR49 := e9
     rw [vE9, pE9] at hR49
     obtain ⟨pshR49, mhR49, zhR49, rfl, rfl, hpmhR49, ⟨o1mhR49, o2mhR49, o3mhR49⟩, gmhR49⟩ := hR49
     have lmhR49 := gmhR49.ln
     have cmhR49 := gmhR49.gr.cnt
     have rmhR49 := zdw gmhR49.gr.ok
     have fmhR49 : mhR49.fst = n.fst := gmhR49.gr.fst.trans hG.fst
     have GmhR49 : Gr n mhR49 := hG.trans gmhR49.gr
     have emhR49 := gmhR49.es
     rw [hG.fst] at emhR49
     have e10 : (vf 10) = .tuple #[.agg #[.int .i64 (intOf_o (ag9 0 (tp9 0 (vf 9)))), (ag9 1 (tp9 0 (vf 9))), (ag9 2 (tp9 0 (vf 9))), (ag9 3 (tp9 0 (vf 9)))], .int .i64 (intOf_o (tp9 1 (vf 9)))] ∧ (pf 10) = [] := hR 10 (by decide)
     rw [vE9] at e10
     refine zce [9, 10] [9, 10] rfl (zbg (sk 118 (congrArg some e10.1) (zab _)) (by simp only [pE9, vE9, e10.2, fS] <;> rfl) ?_)
     exact zbo (zbi (zax rfl)) (fun _ _ h => ⟨h.1.trans (by show _ = (.int .i64 (intOf_o (tp9 1 (vf 9))) : Value); first | (rw [vE9]; done) | (rw [vE9]; rfl)), h.2⟩)
    intro vf pf hmu hR
    have e9 : (fun u_ p_ => GP9 q.N (andO q.N.fst q.N.gs (A.getD k 0) (B.getD k 0)) u_ p_) (vf 9) (pf 9) := hR 9 (by decide)
    obtain ⟨v47, vE9⟩ : ∃ x, vf 9 = x := ⟨_, rfl⟩
    obtain ⟨p48, pE9⟩ : ∃ x, pf 9 = x := ⟨_, rfl⟩
    have hR49 := e9
    rw [vE9, pE9] at hR49
    obtain ⟨pshR49, mhR49, zhR49, rfl, rfl, hpmhR49, ⟨o1mhR49, o2mhR49, o3mhR49⟩, gmhR49⟩ := hR49
    have lmhR49 := gmhR49.ln
    have cmhR49 := gmhR49.gr.cnt
    have rmhR49 := zdw gmhR49.gr.ok
    have fmhR49 : mhR49.fst = n.fst := gmhR49.gr.fst.trans hG.fst
    have GmhR49 : Gr n mhR49 := hG.trans gmhR49.gr
    have emhR49 := gmhR49.es
    rw [hG.fst] at emhR49
    have e11 : (vf 11) = .agg #[.int .i64 (intOf_o (ag9 0 (tp9 0 (vf 9)))), (ag9 1 (tp9 0 (vf 9))), (ag9 2 (tp9 0 (vf 9))), (ag9 3 (tp9 0 (vf 9)))] ∧ (pf 11) = [] := hR 11 (by decide)
    rw [vE9] at e11
    refine Or.inl ⟨rfl, ?_⟩
    show RunM _ _ _ (pf 15) (([9, 11] : List Nat).flatMap pf ++ _) (envOf3 _ vf [9, 11] ++ _) _ _
    have hmu0 : pf 15 = [nB9 b45 q.N] := hmu 0 (show 0 < 1 by omega)
    rw [hmu0]
    exact zbx (sk 17 rfl (sk 129 (congrArg some e11.1) (zab _))) (by simp only [pE9, vE9, e11.2, fS] <;> rfl) (zel (zcs (us := [.int .i64 mhR49.ins, mhR49.sv, mhR49.av, mhR49.ov]) (off := 0) 0 rfl rfl rfl rfl rfl rfl (zaa rfl (zaa o1mhR49 (zaa o2mhR49 (zaa o3mhR49 zbe)))) rfl rfl) (fun v_ p_ h => by show p_ = [boxE b45 #[.int .i64 (intOf_o (ag9 0 (tp9 0 (vf 9)))), (ag9 1 (tp9 0 (vf 9))), (ag9 2 (tp9 0 (vf 9))), (ag9 3 (tp9 0 (vf 9)))] 70]; rw [vE9]; exact h))
   intro vf pf hmu hR
   have e9 : (fun u_ p_ => GP9 q.N (andO q.N.fst q.N.gs (A.getD k 0) (B.getD k 0)) u_ p_) (vf 9) (pf 9) := hR 9 (by decide)
   obtain ⟨v47, vE9⟩ : ∃ x, vf 9 = x := ⟨_, rfl⟩
   obtain ⟨p48, pE9⟩ : ∃ x, pf 9 = x := ⟨_, rfl⟩
   have hR49 := e9
   rw [vE9, pE9] at hR49
   obtain ⟨pshR49, mhR49, zhR49, rfl, rfl, hpmhR49, ⟨o1mhR49, o2mhR49, o3mhR49⟩, gmhR49⟩ := hR49
   have lmhR49 := gmhR49.ln
   have cmhR49 := gmhR49.gr.cnt
   have rmhR49 := zdw gmhR49.gr.ok
   have fmhR49 : mhR49.fst = n.fst := gmhR49.gr.fst.trans hG.fst
   have GmhR49 : Gr n mhR49 := hG.trans gmhR49.gr
   have emhR49 := gmhR49.es
   rw [hG.fst] at emhR49
   have e12 : (vf 12) = .int .i64 (intOf_o (tp9 1 (vf 9))) ∧ (pf 12) = [] := hR 12 (by decide)
   rw [vE9] at e12
   have e13 : (pf 13) = [boxE b45 #[.int .i64 (intOf_o (ag9 0 (tp9 0 (vf 9)))), (ag9 1 (tp9 0 (vf 9))), (ag9 2 (tp9 0 (vf 9))), (ag9 3 (tp9 0 (vf 9)))] 70] := hR 13 (by decide)
   rw [vE9] at e13
   have pE13 := e13
   have q0 := hR 0 (by decide)
   have q1 := hR 1 (by decide)
   have q2 := hR 2 (by decide)
   have q3 := hR 3 (by decide)
   have q4 := hR 4 (by decide)
   have q5 := hR 5 (by decide)
   have q6 := hR 6 (by decide)
   have q7 := hR 7 (by decide)
   have q8 := hR 8 (by decide)
   have q10 := hR 10 (by decide)
   have q11 := hR 11 (by decide)
   have q12 := hR 12 (by decide)
   refine zcd (zbs [116, 102, 98, 42, 27, 19, 18, 17, 16, 15, 10, 9, 8, 4, 3, 2, 1, 0] _ (sk 130 (congrArg some e12.1) (zab _)) rfl) (by simp only [pE9, vE9, pE13, q0.2, q1.2, q2.2, q3.2, q4.2, q5.2, q6.2, q7.2, q8.2, q10.2, q11.2, q12.2, fS] <;> rfl) ?_
   simp only [List.drop_succ_cons, List.drop_zero]
   refine enQ 1 rfl (zdn (srQ (hvQ rfl (zar (cs := [.int .i64 mhR49.ins, mhR49.sv, mhR49.av, mhR49.ov]) rfl rfl rfl rfl rfl (zah 1 rfl 0 rfl)) ?_)))
   refine zbm (cs' := #[.int .i64 mhR49.ins, mhR49.sv, mhR49.av, mhR49.ov]) (i := 5) (off := 0) (us := [.int .i64 mhR49.ins, mhR49.sv, mhR49.av, mhR49.ov]) rfl rfl rfl rfl rfl rfl rfl (zaa rfl (zaa o1mhR49 (zaa o2mhR49 (zaa o3mhR49 zbe)))) rfl rfl rfl (ntQ (reQ 2 rfl ?_))
   refine zey rfl (zas (z := .int .i64 0) (s := 1) (cs := ([zhR49].map (Value.int .i64))) rfl Try.underlying48 rfl (by decide) rfl (by kernel_rfl) rfl) ?_
   intro g50
   refine zdc (i := 4) (z := .int .i64 0) (bytes := 8) rfl rfl rfl rfl Try.underlying48 (by kernel_rfl) rfl rfl rfl rfl (zao 0 rfl) (zcj _) (by first | omega | (simp; done) | (simp; omega)) (zco q.zs ([zhR49])) (zcx q.zs ([zhR49])) (fun _ => rfl) ?_
   intro v51
   refine enQ 1 rfl (zdn (reQ 1 rfl (hvQ rfl (vaQ rfl rfl rfl) (enQ 1 rfl ?_))))
   refine zaz 7 [6, 5, 4, 1] rfl rfl (by decide) ?_
   exact zci (k + 1) ⟨mhR49, pshR49, 0, q.zs ++ ([zhR49]), v51⟩ ⟨by omega, GmhR49, .inr hpmhR49, ⟨o1mhR49, o2mhR49, o3mhR49⟩, by dsimp only; rw [List.length_append, List.length_singleton]; omega, ls_app hLs (by dsimp only; omega) (by dsimp only; omega), es_bw hE (by unfold bwO; rw [if_pos (by omega)]; exact emhR49)⟩ (by omega) (saQ rfl) (pfQ rfl)
  refine zbc 1 rfl (zal rfl (srQ ?_))
  refine zbj rfl rfl rfl rfl rfl rfl (fun h52 => ?_) (fun h52 => ?_)
  ·
   refine zbc 1 rfl (zaj rfl ?_)
   have hAk := hA _ (zbd (d := 0) (show k < A.length by omega))
   have hBk := hB _ (zbd (d := 0) (show k < B.length by omega))
   refine zdq (l := [bigE q.ps, rI9 3 q.u q.zs, eB9 b2, nB9 b1 q.N]) rfl 14 [0, 1, 2, 3, 4, 5, 6, 7, 8, 9, 10, 11, 12, 13] (List.take 14 _) (List.drop 14 _) [[], [], [], [1, 2], [3], [], [], [5, 6], [7], [0, 4, 8], [9], [9, 10], [9, 10], [9, 11]] [some 134, some 135, some 136, some 137, some 138, some 139, some 140, some 141, some 142, some 143, some 133, some 144, some 145, none] (fun i_ vs_ v_ p_ => match i_ with | 0 => v_ = .agg #[.int .i64 q.N.ins, q.N.sv, q.N.av, q.N.ov] ∧ p_ = [] | 1 => v_ = vA ∧ p_ = [] | 2 => v_ = .int .i64 (k : Int) ∧ p_ = [] | 3 => v_ = elP vA (((k : Int)).toNat * 1) ∧ p_ = [] | 4 => v_ = .int .i64 (A.getD k 0) ∧ p_ = [] | 5 => v_ = vB ∧ p_ = [] | 6 => v_ = .int .i64 (k : Int) ∧ p_ = [] | 7 => v_ = elP vB (((k : Int)).toNat * 1) ∧ p_ = [] | 8 => v_ = .int .i64 (B.getD k 0) ∧ p_ = [] | 9 => (fun u_ p_ => GP9 q.N (orO q.N.fst q.N.gs (A.getD k 0) (B.getD k 0)) u_ p_) v_ p_ | 10 => v_ = .tuple #[.agg #[.int .i64 (intOf_o (ag9 0 (tp9 0 (gV9 vs_ 0)))), (ag9 1 (tp9 0 (gV9 vs_ 0))), (ag9 2 (tp9 0 (gV9 vs_ 0))), (ag9 3 (tp9 0 (gV9 vs_ 0)))], .int .i64 (intOf_o (tp9 1 (gV9 vs_ 0)))] ∧ p_ = [] | 11 => v_ = .agg #[.int .i64 (intOf_o (ag9 0 (tp9 0 (gV9 vs_ 0)))), (ag9 1 (tp9 0 (gV9 vs_ 0))), (ag9 2 (tp9 0 (gV9 vs_ 0))), (ag9 3 (tp9 0 (gV9 vs_ 0)))] ∧ p_ = [] | 12 => v_ = .int .i64 (intOf_o (tp9 1 (gV9 vs_ 0))) ∧ p_ = [] | 13 => p_ = [boxE b45 #[.int .i64 (intOf_o (ag9 0 (tp9 0 (gV9 vs_ 0)))), (ag9 1 (tp9 0 (gV9 vs_ 0))), (ag9 2 (tp9 0 (gV9 vs_ 0))), (ag9 3 (tp9 0 (gV9 vs_ 0)))] 70] | _ => True) [[], [], [], [1, 2], [3], [], [], [5, 6], [7], [0, 4, 8], [9], [9, 10], [9, 10], [9, 11]] [none, none, none, none, none, none, none, none, none, none, none, none, none, some 15] [[nB9 b45 q.N]] [0, 1, 2, 3, 4, 5, 6, 7, 8, 9, 10, 11, 12, 13] 15 (List.take_append_drop 14 _).symm (by kernel_rfl) (by kernel_rfl) (by kernel_rfl) rfl rfl ?_ ?_
   ·
    refine ⟨?_, ?_, ?_, ?_, ?_, ?_, ?_, ?_, ?_, ?_, ?_, ?_, ?_, ?_, trivial⟩
    ·
     intro vf pf hmu hR
     refine zce [] [] rfl (zaq (zae [4] rfl) (List.sublist_append_right _ _) ?_)
     exact zbi (zar (cs := [.int .i64 q.N.ins, q.N.sv, q.N.av, q.N.ov]) rfl rfl rfl rfl rfl (zah 3 rfl 0 rfl))
    ·
     intro vf pf hmu hR
     refine zce [] [] rfl (zay (zae [2] rfl) ?_)
     exact zbi (zax rfl)
    ·
     intro vf pf hmu hR
     refine zce [] [] rfl (zay (zae [15] rfl) ?_)
     exact zbi (zax rfl)
    ·
     intro vf pf hmu hR
     have e1 := hR 1 (by decide)
     have e2 := hR 2 (by decide)
     refine zce [1, 2] [1, 2] rfl (zaq (sk 135 (congrArg some e1.1) (sk 136 (congrArg some e2.1) (zab _))) (List.sublist_append_right _ _) ?_)
     exact zbi (riQ 1 rfl rfl rfl rfl (zap ha))
    ·
     intro vf pf hmu hR
     have e3 := hR 3 (by decide)
     refine zce [3] [3] rfl (zaq (sk 137 (congrArg some e3.1) (zab _)) (List.sublist_append_right _ _) ?_)
     exact zbi (liQ rfl rfl rfl (zap ha))
    ·
     intro vf pf hmu hR
     refine zce [] [] rfl (zay (zae [3] rfl) ?_)
     exact zbi (zax rfl)
    ·
     intro vf pf hmu hR
     refine zce [] [] rfl (zay (zae [15] rfl) ?_)
     exact zbi (zax rfl)
    ·
     intro vf pf hmu hR
     have e5 := hR 5 (by decide)
     have e6 := hR 6 (by decide)
     refine zce [5, 6] [5, 6] rfl (zaq (sk 139 (congrArg some e5.1) (sk 140 (congrArg some e6.1) (zab _))) (List.sublist_append_right _ _) ?_)
     exact zbi (riQ 1 rfl rfl rfl rfl (zap hb))
    ·
     intro vf pf hmu hR
     have e7 := hR 7 (by decide)
     refine zce [7] [7] rfl (zaq (sk 141 (congrArg some e7.1) (zab _)) (List.sublist_append_right _ _) ?_)
     exact zbi (liQ rfl rfl rfl (zap hb))
    ·
     intro vf pf hmu hR
     have e0 := hR 0 (by decide)
     have e4 := hR 4 (by decide)
     have e8 := hR 8 (by decide)
     refine zce [0, 4, 8] [0, 4, 8] rfl (zaq (sk 134 (congrArg some e0.1) (sk 138 (congrArg some e4.1) (sk 142 (congrArg some e8.1) (zab _)))) (List.sublist_append_right _ _) ?_)
     exact zam rfl rfl (fun w hm => AddOrG_ret q.N (A.getD k 0) (B.getD k 0) w (rd_or hNq (hr.below hm.bel) (hm.holds _ (zbr (i := 0) rfl))) hG.ok (by first | omega | exact zcy (by omega) (by omega)) (by first | omega | exact zcy (by omega) (by omega)))
    ·
     intro vf pf hmu hR
     have e9 : (fun u_ p_ => GP9 q.N (orO q.N.fst q.N.gs (A.getD k 0) (B.getD k 0)) u_ p_) (vf 9) (pf 9) := hR 9 (by decide)
     obtain ⟨v53, vE9⟩ : ∃ x, vf 9 = x := ⟨_, rfl⟩
     obtain ⟨p54, pE9⟩ : ∃ x, pf 9 = x := ⟨_, rfl⟩
     have hR55 := e9
     rw [vE9, pE9] at hR55
     obtain ⟨pshR55, mhR55, zhR55, rfl, rfl, hpmhR55, ⟨o1mhR55, o2mhR55, o3mhR55⟩, gmhR55⟩ := hR55
     have lmhR55 := gmhR55.ln
     have cmhR55 := gmhR55.gr.cnt
     have rmhR55 := zdw gmhR55.gr.ok
     have fmhR55 : mhR55.fst = n.fst := gmhR55.gr.fst.trans hG.fst
     have GmhR55 : Gr n mhR55 := hG.trans gmhR55.gr
     have emhR55 := gmhR55.es
     rw [hG.fst] at emhR55
     refine zce [9] [9] rfl (zbg (sk 143 (congrArg some vE9) (zab _)) (by simp only [pE9, vE9, fS] <;> rfl) ?_)
     exact zbo (zbi (zax rfl)) (fun _ _ h => ⟨h.1.trans (by show _ = (.tuple #[.agg #[.int .i64 (intOf_o (ag9 0 (tp9 0 (vf 9)))), (ag9 1 (tp9 0 (vf 9))), (ag9 2 (tp9 0 (vf 9))), (ag9 3 (tp9 0 (vf 9)))], .int .i64 (intOf_o (tp9 1 (vf 9)))] : Value); first | (rw [vE9]; done) | (rw [vE9]; rfl)), h.2⟩)
    ·
     intro vf pf hmu hR
     have e9 : (fun u_ p_ => GP9 q.N (orO q.N.fst q.N.gs (A.getD k 0) (B.getD k 0)) u_ p_) (vf 9) (pf 9) := hR 9 (by decide)
     obtain ⟨v53, vE9⟩ : ∃ x, vf 9 = x := ⟨_, rfl⟩
     obtain ⟨p54, pE9⟩ : ∃ x, pf 9 = x := ⟨_, rfl⟩
     have hR55 := e9
     rw [vE9, pE9] at hR55
     obtain ⟨pshR55, mhR55, zhR55, rfl, rfl, hpmhR55, ⟨o1mhR55, o2mhR55, o3mhR55⟩, gmhR55⟩ := hR55
     have lmhR55 := gmhR55.ln
     have cmhR55 := gmhR55.gr.cnt
     have rmhR55 := zdw gmhR55.gr.ok
     have fmhR55 : mhR55.fst = n.fst := gmhR55.gr.fst.trans hG.fst
     have GmhR55 : Gr n mhR55 := hG.trans gmhR55.gr
     have emhR55 := gmhR55.es
     rw [hG.fst] at emhR55
     have e10 : (vf 10) = .tuple #[.agg #[.int .i64 (intOf_o (ag9 0 (tp9 0 (vf 9)))), (ag9 1 (tp9 0 (vf 9))), (ag9 2 (tp9 0 (vf 9))), (ag9 3 (tp9 0 (vf 9)))], .int .i64 (intOf_o (tp9 1 (vf 9)))] ∧ (pf 10) = [] := hR 10 (by decide)
     rw [vE9] at e10
     refine zce [9, 10] [9, 10] rfl (zbg (sk 133 (congrArg some e10.1) (zab _)) (by simp only [pE9, vE9, e10.2, fS] <;> rfl) ?_)
     exact zbo (zbi (zax rfl)) (fun _ _ h => ⟨h.1.trans (by show _ = (.agg #[.int .i64 (intOf_o (ag9 0 (tp9 0 (vf 9)))), (ag9 1 (tp9 0 (vf 9))), (ag9 2 (tp9 0 (vf 9))), (ag9 3 (tp9 0 (vf 9)))] : Value); first | (rw [vE9]; done) | (rw [vE9]; rfl)), h.2⟩)
    ·
     intro vf pf hmu hR
     have e9 : (fun u_ p_ => GP9 q.N (orO q.N.fst q.N.gs (A.getD k 0) (B.getD k 0)) u_ p_) (vf 9) (pf 9) := hR 9 (by decide)
     obtain ⟨v53, vE9⟩ : ∃ x, vf 9 = x := ⟨_, rfl⟩
     obtain ⟨p54, pE9⟩ : ∃ x, pf 9 = x := ⟨_, rfl⟩
     have hR55 := e9
     rw [vE9, pE9] at hR55
     obtain ⟨pshR55, mhR55, zhR55, rfl, rfl, hpmhR55, ⟨o1mhR55, o2mhR55, o3mhR55⟩, gmhR55⟩ := hR55
     have lmhR55 := gmhR55.ln
     have cmhR55 := gmhR55.gr.cnt
     have rmhR55 := zdw gmhR55.gr.ok
     have fmhR55 : mhR55.fst = n.fst := gmhR55.gr.fst.trans hG.fst
     have GmhR55 : Gr n mhR55 := hG.trans gmhR55.gr
     have emhR55 := gmhR55.es
     rw [hG.fst] at emhR55
     have e10 : (vf 10) = .tuple #[.agg #[.int .i64 (intOf_o (ag9 0 (tp9 0 (vf 9)))), (ag9 1 (tp9 0 (vf 9))), (ag9 2 (tp9 0 (vf 9))), (ag9 3 (tp9 0 (vf 9)))], .int .i64 (intOf_o (tp9 1 (vf 9)))] ∧ (pf 10) = [] := hR 10 (by decide)
     rw [vE9] at e10
     refine zce [9, 10] [9, 10] rfl (zbg (sk 133 (congrArg some e10.1) (zab _)) (by simp only [pE9, vE9, e10.2, fS] <;> rfl) ?_)
     exact zbo (zbi (zax rfl)) (fun _ _ h => ⟨h.1.trans (by show _ = (.int .i64 (intOf_o (tp9 1 (vf 9))) : Value); first | (rw [vE9]; done) | (rw [vE9]; rfl)), h.2⟩)
    intro vf pf hmu hR
    have e9 : (fun u_ p_ => GP9 q.N (orO q.N.fst q.N.gs (A.getD k 0) (B.getD k 0)) u_ p_) (vf 9) (pf 9) := hR 9 (by decide)
    obtain ⟨v53, vE9⟩ : ∃ x, vf 9 = x := ⟨_, rfl⟩
    obtain ⟨p54, pE9⟩ : ∃ x, pf 9 = x := ⟨_, rfl⟩
    have hR55 := e9
    rw [vE9, pE9] at hR55
    obtain ⟨pshR55, mhR55, zhR55, rfl, rfl, hpmhR55, ⟨o1mhR55, o2mhR55, o3mhR55⟩, gmhR55⟩ := hR55
    have lmhR55 := gmhR55.ln
    have cmhR55 := gmhR55.gr.cnt
    have rmhR55 := zdw gmhR55.gr.ok
    have fmhR55 : mhR55.fst = n.fst := gmhR55.gr.fst.trans hG.fst
    have GmhR55 : Gr n mhR55 := hG.trans gmhR55.gr
    have emhR55 := gmhR55.es
    rw [hG.fst] at emhR55
    have e11 : (vf 11) = .agg #[.int .i64 (intOf_o (ag9 0 (tp9 0 (vf 9)))), (ag9 1 (tp9 0 (vf 9))), (ag9 2 (tp9 0 (vf 9))), (ag9 3 (tp9 0 (vf 9)))] ∧ (pf 11) = [] := hR 11 (by decide)
    rw [vE9] at e11
    refine Or.inl ⟨rfl, ?_⟩
    show RunM _ _ _ (pf 15) (([9, 11] : List Nat).flatMap pf ++ _) (envOf3 _ vf [9, 11] ++ _) _ _
    have hmu0 : pf 15 = [nB9 b45 q.N] := hmu 0 (show 0 < 1 by omega)
    rw [hmu0]
    exact zbx (sk 17 rfl (sk 144 (congrArg some e11.1) (zab _))) (by simp only [pE9, vE9, e11.2, fS] <;> rfl) (zel (zcs (us := [.int .i64 mhR55.ins, mhR55.sv, mhR55.av, mhR55.ov]) (off := 0) 0 rfl rfl rfl rfl rfl rfl (zaa rfl (zaa o1mhR55 (zaa o2mhR55 (zaa o3mhR55 zbe)))) rfl rfl) (fun v_ p_ h => by show p_ = [boxE b45 #[.int .i64 (intOf_o (ag9 0 (tp9 0 (vf 9)))), (ag9 1 (tp9 0 (vf 9))), (ag9 2 (tp9 0 (vf 9))), (ag9 3 (tp9 0 (vf 9)))] 70]; rw [vE9]; exact h))
   intro vf pf hmu hR
   have e9 : (fun u_ p_ => GP9 q.N (orO q.N.fst q.N.gs (A.getD k 0) (B.getD k 0)) u_ p_) (vf 9) (pf 9) := hR 9 (by decide)
   obtain ⟨v53, vE9⟩ : ∃ x, vf 9 = x := ⟨_, rfl⟩
   obtain ⟨p54, pE9⟩ : ∃ x, pf 9 = x := ⟨_, rfl⟩
   have hR55 := e9
   rw [vE9, pE9] at hR55
   obtain ⟨pshR55, mhR55, zhR55, rfl, rfl, hpmhR55, ⟨o1mhR55, o2mhR55, o3mhR55⟩, gmhR55⟩ := hR55
   have lmhR55 := gmhR55.ln
   have cmhR55 := gmhR55.gr.cnt
   have rmhR55 := zdw gmhR55.gr.ok
   have fmhR55 : mhR55.fst = n.fst := gmhR55.gr.fst.trans hG.fst
   have GmhR55 : Gr n mhR55 := hG.trans gmhR55.gr
   have emhR55 := gmhR55.es
   rw [hG.fst] at emhR55
   have e12 : (vf 12) = .int .i64 (intOf_o (tp9 1 (vf 9))) ∧ (pf 12) = [] := hR 12 (by decide)
   rw [vE9] at e12
   have e13 : (pf 13) = [boxE b45 #[.int .i64 (intOf_o (ag9 0 (tp9 0 (vf 9)))), (ag9 1 (tp9 0 (vf 9))), (ag9 2 (tp9 0 (vf 9))), (ag9 3 (tp9 0 (vf 9)))] 70] := hR 13 (by decide)
   rw [vE9] at e13
   have pE13 := e13
   have q0 := hR 0 (by decide)
   have q1 := hR 1 (by decide)
   have q2 := hR 2 (by decide)
   have q3 := hR 3 (by decide)
   have q4 := hR 4 (by decide)
   have q5 := hR 5 (by decide)
   have q6 := hR 6 (by decide)
   have q7 := hR 7 (by decide)
   have q8 := hR 8 (by decide)
   have q10 := hR 10 (by decide)
   have q11 := hR 11 (by decide)
   have q12 := hR 12 (by decide)
   refine zcd (zbs [131, 116, 102, 98, 42, 27, 19, 18, 17, 16, 15, 10, 9, 8, 4, 3, 2, 1, 0] _ (sk 145 (congrArg some e12.1) (zab _)) rfl) (by simp only [pE9, vE9, pE13, q0.2, q1.2, q2.2, q3.2, q4.2, q5.2, q6.2, q7.2, q8.2, q10.2, q11.2, q12.2, fS] <;> rfl) ?_
   simp only [List.drop_succ_cons, List.drop_zero]
   refine enQ 1 rfl (zdn (srQ (hvQ rfl (zar (cs := [.int .i64 mhR55.ins, mhR55.sv, mhR55.av, mhR55.ov]) rfl rfl rfl rfl rfl (zah 1 rfl 0 rfl)) ?_)))
   refine zbm (cs' := #[.int .i64 mhR55.ins, mhR55.sv, mhR55.av, mhR55.ov]) (i := 5) (off := 0) (us := [.int .i64 mhR55.ins, mhR55.sv, mhR55.av, mhR55.ov]) rfl rfl rfl rfl rfl rfl rfl (zaa rfl (zaa o1mhR55 (zaa o2mhR55 (zaa o3mhR55 zbe)))) rfl rfl rfl (ntQ (reQ 2 rfl ?_))
   refine zey rfl (zas (z := .int .i64 0) (s := 1) (cs := ([zhR55].map (Value.int .i64))) rfl Try.underlying48 rfl (by decide) rfl (by kernel_rfl) rfl) ?_
   intro g56
   refine zdc (i := 4) (z := .int .i64 0) (bytes := 8) rfl rfl rfl rfl Try.underlying48 (by kernel_rfl) rfl rfl rfl rfl (zao 0 rfl) (zcj _) (by first | omega | (simp; done) | (simp; omega)) (zco q.zs ([zhR55])) (zcx q.zs ([zhR55])) (fun _ => rfl) ?_
   intro v57
   refine enQ 1 rfl (zdn (reQ 1 rfl (hvQ rfl (vaQ rfl rfl rfl) (enQ 1 rfl ?_))))
   refine zaz 7 [6, 5, 4, 1] rfl rfl (by decide) ?_
   exact zci (k + 1) ⟨mhR55, pshR55, 0, q.zs ++ ([zhR55]), v57⟩ ⟨by omega, GmhR55, .inr hpmhR55, ⟨o1mhR55, o2mhR55, o3mhR55⟩, by dsimp only; rw [List.length_append, List.length_singleton]; omega, ls_app hLs (by dsimp only; omega) (by dsimp only; omega), es_bw hE (by unfold bwO; rw [if_neg (by omega), if_pos (by omega)]; exact emhR55)⟩ (by omega) (saQ rfl) (pfQ rfl)
  refine zbc 1 rfl (zal rfl ?_)
  have hAk := hA _ (zbd (d := 0) (show k < A.length by omega))
  have hBk := hB _ (zbd (d := 0) (show k < B.length by omega))
  refine zdq (l := [bigE q.ps, rI9 3 q.u q.zs, eB9 b2, nB9 b1 q.N]) rfl 14 [0, 1, 2, 3, 4, 5, 6, 7, 8, 9, 10, 11, 12, 13] (List.take 14 _) (List.drop 14 _) [[], [], [], [1, 2], [3], [], [], [5, 6], [7], [0, 4, 8], [9], [9, 10], [9, 10], [9, 11]] [some 104, some 105, some 106, some 107, some 108, some 109, some 110, some 111, some 112, some 113, some 103, some 114, some 115, none] (fun i_ vs_ v_ p_ => match i_ with | 0 => v_ = .agg #[.int .i64 q.N.ins, q.N.sv, q.N.av, q.N.ov] ∧ p_ = [] | 1 => v_ = vA ∧ p_ = [] | 2 => v_ = .int .i64 (k : Int) ∧ p_ = [] | 3 => v_ = elP vA (((k : Int)).toNat * 1) ∧ p_ = [] | 4 => v_ = .int .i64 (A.getD k 0) ∧ p_ = [] | 5 => v_ = vB ∧ p_ = [] | 6 => v_ = .int .i64 (k : Int) ∧ p_ = [] | 7 => v_ = elP vB (((k : Int)).toNat * 1) ∧ p_ = [] | 8 => v_ = .int .i64 (B.getD k 0) ∧ p_ = [] | 9 => (fun u_ p_ => GP9 q.N (xorO q.N.fst q.N.gs (A.getD k 0) (B.getD k 0)) u_ p_) v_ p_ | 10 => v_ = .tuple #[.agg #[.int .i64 (intOf_o (ag9 0 (tp9 0 (gV9 vs_ 0)))), (ag9 1 (tp9 0 (gV9 vs_ 0))), (ag9 2 (tp9 0 (gV9 vs_ 0))), (ag9 3 (tp9 0 (gV9 vs_ 0)))], .int .i64 (intOf_o (tp9 1 (gV9 vs_ 0)))] ∧ p_ = [] | 11 => v_ = .agg #[.int .i64 (intOf_o (ag9 0 (tp9 0 (gV9 vs_ 0)))), (ag9 1 (tp9 0 (gV9 vs_ 0))), (ag9 2 (tp9 0 (gV9 vs_ 0))), (ag9 3 (tp9 0 (gV9 vs_ 0)))] ∧ p_ = [] | 12 => v_ = .int .i64 (intOf_o (tp9 1 (gV9 vs_ 0))) ∧ p_ = [] | 13 => p_ = [boxE b45 #[.int .i64 (intOf_o (ag9 0 (tp9 0 (gV9 vs_ 0)))), (ag9 1 (tp9 0 (gV9 vs_ 0))), (ag9 2 (tp9 0 (gV9 vs_ 0))), (ag9 3 (tp9 0 (gV9 vs_ 0)))] 70] | _ => True) [[], [], [], [1, 2], [3], [], [], [5, 6], [7], [0, 4, 8], [9], [9, 10], [9, 10], [9, 11]] [none, none, none, none, none, none, none, none, none, none, none, none, none, some 15] [[nB9 b45 q.N]] [0, 1, 2, 3, 4, 5, 6, 7, 8, 9, 10, 11, 12, 13] 15 (List.take_append_drop 14 _).symm (by kernel_rfl) (by kernel_rfl) (by kernel_rfl) rfl rfl ?_ ?_
  ·
   refine ⟨?_, ?_, ?_, ?_, ?_, ?_, ?_, ?_, ?_, ?_, ?_, ?_, ?_, ?_, trivial⟩
   ·
    intro vf pf hmu hR
    refine zce [] [] rfl (zaq (zae [4] rfl) (List.sublist_append_right _ _) ?_)
    exact zbi (zar (cs := [.int .i64 q.N.ins, q.N.sv, q.N.av, q.N.ov]) rfl rfl rfl rfl rfl (zah 3 rfl 0 rfl))
   ·
    intro vf pf hmu hR
    refine zce [] [] rfl (zay (zae [2] rfl) ?_)
    exact zbi (zax rfl)
   ·
    intro vf pf hmu hR
    refine zce [] [] rfl (zay (zae [15] rfl) ?_)
    exact zbi (zax rfl)
   ·
    intro vf pf hmu hR
    have e1 := hR 1 (by decide)
    have e2 := hR 2 (by decide)
    refine zce [1, 2] [1, 2] rfl (zaq (sk 105 (congrArg some e1.1) (sk 106 (congrArg some e2.1) (zab _))) (List.sublist_append_right _ _) ?_)
    exact zbi (riQ 1 rfl rfl rfl rfl (zap ha))
   ·
    intro vf pf hmu hR
    have e3 := hR 3 (by decide)
    refine zce [3] [3] rfl (zaq (sk 107 (congrArg some e3.1) (zab _)) (List.sublist_append_right _ _) ?_)
    exact zbi (liQ rfl rfl rfl (zap ha))
   ·
    intro vf pf hmu hR
    refine zce [] [] rfl (zay (zae [3] rfl) ?_)
    exact zbi (zax rfl)
   ·
    intro vf pf hmu hR
    refine zce [] [] rfl (zay (zae [15] rfl) ?_)
    exact zbi (zax rfl)
   ·
    intro vf pf hmu hR
    have e5 := hR 5 (by decide)
    have e6 := hR 6 (by decide)
    refine zce [5, 6] [5, 6] rfl (zaq (sk 109 (congrArg some e5.1) (sk 110 (congrArg some e6.1) (zab _))) (List.sublist_append_right _ _) ?_)
    exact zbi (riQ 1 rfl rfl rfl rfl (zap hb))
   ·
    intro vf pf hmu hR
    have e7 := hR 7 (by decide)
    refine zce [7] [7] rfl (zaq (sk 111 (congrArg some e7.1) (zab _)) (List.sublist_append_right _ _) ?_)
    exact zbi (liQ rfl rfl rfl (zap hb))
   ·
    intro vf pf hmu hR
    have e0 := hR 0 (by decide)
    have e4 := hR 4 (by decide)
    have e8 := hR 8 (by decide)
    refine zce [0, 4, 8] [0, 4, 8] rfl (zaq (sk 104 (congrArg some e0.1) (sk 108 (congrArg some e4.1) (sk 112 (congrArg some e8.1) (zab _)))) (List.sublist_append_right _ _) ?_)
    exact zam rfl rfl (fun w hm => zgj q.N (A.getD k 0) (B.getD k 0) w (rd_or hNq (hr.below hm.bel) (hm.holds _ (zbr (i := 0) rfl))) hG.ok (by first | omega | exact zcy (by omega) (by omega)) (by first | omega | exact zcy (by omega) (by omega)))
   ·
    intro vf pf hmu hR
    have e9 : (fun u_ p_ => GP9 q.N (xorO q.N.fst q.N.gs (A.getD k 0) (B.getD k 0)) u_ p_) (vf 9) (pf 9) := hR 9 (by decide)
    obtain ⟨v58, vE9⟩ : ∃ x, vf 9 = x := ⟨_, rfl⟩
    obtain ⟨p59, pE9⟩ : ∃ x, pf 9 = x := ⟨_, rfl⟩
    have hR60 := e9
    rw [vE9, pE9] at hR60
    obtain ⟨pshR60, mhR60, zhR60, rfl, rfl, hpmhR60, ⟨o1mhR60, o2mhR60, o3mhR60⟩, gmhR60⟩ := hR60
    have lmhR60 := gmhR60.ln
    have cmhR60 := gmhR60.gr.cnt
    have rmhR60 := zdw gmhR60.gr.ok
    have fmhR60 : mhR60.fst = n.fst := gmhR60.gr.fst.trans hG.fst
    have GmhR60 : Gr n mhR60 := hG.trans gmhR60.gr
    have emhR60 := gmhR60.es
    rw [hG.fst] at emhR60
    refine zce [9] [9] rfl (zbg (sk 113 (congrArg some vE9) (zab _)) (by simp only [pE9, vE9, fS] <;> rfl) ?_)
    exact zbo (zbi (zax rfl)) (fun _ _ h => ⟨h.1.trans (by show _ = (.tuple #[.agg #[.int .i64 (intOf_o (ag9 0 (tp9 0 (vf 9)))), (ag9 1 (tp9 0 (vf 9))), (ag9 2 (tp9 0 (vf 9))), (ag9 3 (tp9 0 (vf 9)))], .int .i64 (intOf_o (tp9 1 (vf 9)))] : Value); first | (rw [vE9]; done) | (rw [vE9]; rfl)), h.2⟩)
   ·
    intro vf pf hmu hR
    have e9 : (fun u_ p_ => GP9 q.N (xorO q.N.fst q.N.gs (A.getD k 0) (B.getD k 0)) u_ p_) (vf 9) (pf 9) := hR 9 (by decide)
    obtain ⟨v58, vE9⟩ : ∃ x, vf 9 = x := ⟨_, rfl⟩
    obtain ⟨p59, pE9⟩ : ∃ x, pf 9 = x := ⟨_, rfl⟩
    have hR60 := e9
    rw [vE9, pE9] at hR60
    obtain ⟨pshR60, mhR60, zhR60, rfl, rfl, hpmhR60, ⟨o1mhR60, o2mhR60, o3mhR60⟩, gmhR60⟩ := hR60
    have lmhR60 := gmhR60.ln
    have cmhR60 := gmhR60.gr.cnt
    have rmhR60 := zdw gmhR60.gr.ok
    have fmhR60 : mhR60.fst = n.fst := gmhR60.gr.fst.trans hG.fst
    have GmhR60 : Gr n mhR60 := hG.trans gmhR60.gr
    have emhR60 := gmhR60.es
    rw [hG.fst] at emhR60
    have e10 : (vf 10) = .tuple #[.agg #[.int .i64 (intOf_o (ag9 0 (tp9 0 (vf 9)))), (ag9 1 (tp9 0 (vf 9))), (ag9 2 (tp9 0 (vf 9))), (ag9 3 (tp9 0 (vf 9)))], .int .i64 (intOf_o (tp9 1 (vf 9)))] ∧ (pf 10) = [] := hR 10 (by decide)
    rw [vE9] at e10
    refine zce [9, 10] [9, 10] rfl (zbg (sk 103 (congrArg some e10.1) (zab _)) (by simp only [pE9, vE9, e10.2, fS] <;> rfl) ?_)
    exact zbo (zbi (zax rfl)) (fun _ _ h => ⟨h.1.trans (by show _ = (.agg #[.int .i64 (intOf_o (ag9 0 (tp9 0 (vf 9)))), (ag9 1 (tp9 0 (vf 9))), (ag9 2 (tp9 0 (vf 9))), (ag9 3 (tp9 0 (vf 9)))] : Value); first | (rw [vE9]; done) | (rw [vE9]; rfl)), h.2⟩)
   ·
    intro vf pf hmu hR
    have e9 : (fun u_ p_ => GP9 q.N (xorO q.N.fst q.N.gs (A.getD k 0) (B.getD k 0)) u_ p_) (vf 9) (pf 9) := hR 9 (by decide)
    obtain ⟨v58, vE9⟩ : ∃ x, vf 9 = x := ⟨_, rfl⟩
    obtain ⟨p59, pE9⟩ : ∃ x, pf 9 = x := ⟨_, rfl⟩
    have hR60 := e9
    rw [vE9, pE9] at hR60
    obtain ⟨pshR60, mhR60, zhR60, rfl, rfl, hpmhR60, ⟨o1mhR60, o2mhR60, o3mhR60⟩, gmhR60⟩ := hR60
    have lmhR60 := gmhR60.ln
    have cmhR60 := gmhR60.gr.cnt
    have rmhR60 := zdw gmhR60.gr.ok
    have fmhR60 : mhR60.fst = n.fst := gmhR60.gr.fst.trans hG.fst
    have GmhR60 : Gr n mhR60 := hG.trans gmhR60.gr
    have emhR60 := gmhR60.es
    rw [hG.fst] at emhR60
    have e10 : (vf 10) = .tuple #[.agg #[.int .i64 (intOf_o (ag9 0 (tp9 0 (vf 9)))), (ag9 1 (tp9 0 (vf 9))), (ag9 2 (tp9 0 (vf 9))), (ag9 3 (tp9 0 (vf 9)))], .int .i64 (intOf_o (tp9 1 (vf 9)))] ∧ (pf 10) = [] := hR 10 (by decide)
    rw [vE9] at e10
    refine zce [9, 10] [9, 10] rfl (zbg (sk 103 (congrArg some e10.1) (zab _)) (by simp only [pE9, vE9, e10.2, fS] <;> rfl) ?_)
    exact zbo (zbi (zax rfl)) (fun _ _ h => ⟨h.1.trans (by show _ = (.int .i64 (intOf_o (tp9 1 (vf 9))) : Value); first | (rw [vE9]; done) | (rw [vE9]; rfl)), h.2⟩)
   intro vf pf hmu hR
   have e9 : (fun u_ p_ => GP9 q.N (xorO q.N.fst q.N.gs (A.getD k 0) (B.getD k 0)) u_ p_) (vf 9) (pf 9) := hR 9 (by decide)
   obtain ⟨v58, vE9⟩ : ∃ x, vf 9 = x := ⟨_, rfl⟩
   obtain ⟨p59, pE9⟩ : ∃ x, pf 9 = x := ⟨_, rfl⟩
   have hR60 := e9
   rw [vE9, pE9] at hR60
   obtain ⟨pshR60, mhR60, zhR60, rfl, rfl, hpmhR60, ⟨o1mhR60, o2mhR60, o3mhR60⟩, gmhR60⟩ := hR60
   have lmhR60 := gmhR60.ln
   have cmhR60 := gmhR60.gr.cnt
   have rmhR60 := zdw gmhR60.gr.ok
   have fmhR60 : mhR60.fst = n.fst := gmhR60.gr.fst.trans hG.fst
   have GmhR60 : Gr n mhR60 := hG.trans gmhR60.gr
   have emhR60 := gmhR60.es
   rw [hG.fst] at emhR60
   have e11 : (vf 11) = .agg #[.int .i64 (intOf_o (ag9 0 (tp9 0 (vf 9)))), (ag9 1 (tp9 0 (vf 9))), (ag9 2 (tp9 0 (vf 9))), (ag9 3 (tp9 0 (vf 9)))] ∧ (pf 11) = [] := hR 11 (by decide)
   rw [vE9] at e11
   refine Or.inl ⟨rfl, ?_⟩
   show RunM _ _ _ (pf 15) (([9, 11] : List Nat).flatMap pf ++ _) (envOf3 _ vf [9, 11] ++ _) _ _
   have hmu0 : pf 15 = [nB9 b45 q.N] := hmu 0 (show 0 < 1 by omega)
   rw [hmu0]
   exact zbx (sk 17 rfl (sk 114 (congrArg some e11.1) (zab _))) (by simp only [pE9, vE9, e11.2, fS] <;> rfl) (zel (zcs (us := [.int .i64 mhR60.ins, mhR60.sv, mhR60.av, mhR60.ov]) (off := 0) 0 rfl rfl rfl rfl rfl rfl (zaa rfl (zaa o1mhR60 (zaa o2mhR60 (zaa o3mhR60 zbe)))) rfl rfl) (fun v_ p_ h => by show p_ = [boxE b45 #[.int .i64 (intOf_o (ag9 0 (tp9 0 (vf 9)))), (ag9 1 (tp9 0 (vf 9))), (ag9 2 (tp9 0 (vf 9))), (ag9 3 (tp9 0 (vf 9)))] 70]; rw [vE9]; exact h))
  intro vf pf hmu hR
  have e9 : (fun u_ p_ => GP9 q.N (xorO q.N.fst q.N.gs (A.getD k 0) (B.getD k 0)) u_ p_) (vf 9) (pf 9) := hR 9 (by decide)
  obtain ⟨v58, vE9⟩ : ∃ x, vf 9 = x := ⟨_, rfl⟩
  obtain ⟨p59, pE9⟩ : ∃ x, pf 9 = x := ⟨_, rfl⟩
  have hR60 := e9
  rw [vE9, pE9] at hR60
  obtain ⟨pshR60, mhR60, zhR60, rfl, rfl, hpmhR60, ⟨o1mhR60, o2mhR60, o3mhR60⟩, gmhR60⟩ := hR60
  have lmhR60 := gmhR60.ln
  have cmhR60 := gmhR60.gr.cnt
  have rmhR60 := zdw gmhR60.gr.ok
  have fmhR60 : mhR60.fst = n.fst := gmhR60.gr.fst.trans hG.fst
  have GmhR60 : Gr n mhR60 := hG.trans gmhR60.gr
  have emhR60 := gmhR60.es
  rw [hG.fst] at emhR60
  have e12 : (vf 12) = .int .i64 (intOf_o (tp9 1 (vf 9))) ∧ (pf 12) = [] := hR 12 (by decide)
  rw [vE9] at e12
  have e13 : (pf 13) = [boxE b45 #[.int .i64 (intOf_o (ag9 0 (tp9 0 (vf 9)))), (ag9 1 (tp9 0 (vf 9))), (ag9 2 (tp9 0 (vf 9))), (ag9 3 (tp9 0 (vf 9)))] 70] := hR 13 (by decide)
  rw [vE9] at e13
  have pE13 := e13
  have q0 := hR 0 (by decide)
  have q1 := hR 1 (by decide)
  have q2 := hR 2 (by decide)
  have q3 := hR 3 (by decide)
  have q4 := hR 4 (by decide)
  have q5 := hR 5 (by decide)
  have q6 := hR 6 (by decide)
  have q7 := hR 7 (by decide)
  have q8 := hR 8 (by decide)
  have q10 := hR 10 (by decide)
  have q11 := hR 11 (by decide)
  have q12 := hR 12 (by decide)
  refine zcd (zbs [102, 98, 42, 27, 19, 18, 17, 16, 15, 10, 9, 8, 4, 3, 2, 1, 0] _ (sk 115 (congrArg some e12.1) (zae [131, 116] rfl)) rfl) (by simp only [pE9, vE9, pE13, q0.2, q1.2, q2.2, q3.2, q4.2, q5.2, q6.2, q7.2, q8.2, q10.2, q11.2, q12.2, fS] <;> rfl) ?_
  simp only [List.drop_succ_cons, List.drop_zero]
  refine enQ 1 rfl (zdn (srQ (hvQ rfl (zar (cs := [.int .i64 mhR60.ins, mhR60.sv, mhR60.av, mhR60.ov]) rfl rfl rfl rfl rfl (zah 1 rfl 0 rfl)) ?_)))
  refine zbm (cs' := #[.int .i64 mhR60.ins, mhR60.sv, mhR60.av, mhR60.ov]) (i := 5) (off := 0) (us := [.int .i64 mhR60.ins, mhR60.sv, mhR60.av, mhR60.ov]) rfl rfl rfl rfl rfl rfl rfl (zaa rfl (zaa o1mhR60 (zaa o2mhR60 (zaa o3mhR60 zbe)))) rfl rfl rfl (ntQ (reQ 2 rfl ?_))
  refine zey rfl (zas (z := .int .i64 0) (s := 1) (cs := ([zhR60].map (Value.int .i64))) rfl Try.underlying48 rfl (by decide) rfl (by kernel_rfl) rfl) ?_
  intro g61
  refine zdc (i := 4) (z := .int .i64 0) (bytes := 8) rfl rfl rfl rfl Try.underlying48 (by kernel_rfl) rfl rfl rfl rfl (zao 0 rfl) (zcj _) (by first | omega | (simp; done) | (simp; omega)) (zco q.zs ([zhR60])) (zcx q.zs ([zhR60])) (fun _ => rfl) ?_
  intro v62
  refine enQ 1 rfl (zdn (reQ 1 rfl (hvQ rfl (vaQ rfl rfl rfl) (enQ 1 rfl ?_))))
  refine zaz 7 [6, 5, 4, 1] rfl rfl (by decide) ?_
  exact zci (k + 1) ⟨mhR60, pshR60, 0, q.zs ++ ([zhR60]), v62⟩ ⟨by omega, GmhR60, .inr hpmhR60, ⟨o1mhR60, o2mhR60, o3mhR60⟩, by dsimp only; rw [List.length_append, List.length_singleton]; omega, ls_app hLs (by dsimp only; omega) (by dsimp only; omega), es_bw hE (by unfold bwO; rw [if_neg (by omega), if_neg (by omega)]; exact emhR60)⟩ (by omega) (saQ rfl) (pfQ rfl)
 refine ntQ (zal rfl ?_)
 refine zby (zes ?_)
 refine zat (zaw (srQ (hvQ rfl (zar (cs := [.int .i64 q.N.ins, q.N.sv, q.N.av, q.N.ov]) rfl rfl rfl rfl rfl (zah 3 rfl 0 rfl)) (zag 1 rfl ?_))))
 refine zbm (cs' := #[.int .i64 q.N.ins, q.N.sv, q.N.av, q.N.ov]) (i := 2) (off := 0) (us := [.int .i64 q.N.ins, q.N.sv, q.N.av, q.N.ov]) rfl rfl rfl rfl rfl rfl rfl (zaa rfl (zaa o1q (zaa o2q (zaa o3q zbe)))) rfl rfl rfl (zbc 1 rfl ?_)
 refine zak ?_
 rw [show k = W by omega] at hE
 exact zca (rs := [.cell 8 70, .tmp 9]) (vs := [.agg #[.int .i64 q.N.ins, q.N.sv, q.N.av, q.N.ov], q.u]) (post := [bigE q.ps, rI9 3 q.u q.zs]) rfl ⟨⟨b2, 0, [.int .i64 q.N.ins, q.N.sv, q.N.av, q.N.ov], rfl, rfl, by kernel_rfl, by kernel_rfl, zah 2 rfl 0 rfl⟩, rfl, trivial⟩ rfl (slQ [0, 0] rfl) ⟨q.ps, q.N, _, _, rfl, rfl, hNq, ⟨o1q, o2q, o3q⟩, hG, (by omega), hLs, by rw [two_bw (by omega)]; exact hE⟩
theorem zgc (k : Int) (w : World)  :
   Calls Try.prog 112 #[.int .i64 k] w (Ans w (.int .i64 (arI k))) := by
 refine zbq (N := 15) (args := [.int .i64 k]) Try.func112 rfl rfl (zbn 1 rfl (sbQ (zac (reQ 1 rfl ?_))))
 refine zdu rfl (zam rfl rfl (fun w hm => zbb (zer (zcq _ _ _ w)))) (zbz (fun h1 => ?_) (fun h1 => ?_))
 ·
  obtain ⟨h1a, h1b⟩ := (zcp _ _ _).1 h1
  refine zbc 1 rfl (zaj rfl (zbn 1 rfl ?_))
  refine zak (zaf ?_)
  exact zad (zbl rfl rfl (congrArg (Value.int .i64) (by unfold arI; (repeat' split) <;> first | rfl | (exfalso; omega))))
 have h1a := zhd h1
 refine zbc 1 rfl (zal rfl (zac (reQ 1 rfl ?_)))
 refine zbj rfl rfl rfl rfl rfl rfl (fun h2 => ?_) (fun h2 => ?_)
 ·
  refine zbc 1 rfl (zaj rfl (zbn 1 rfl ?_))
  refine zak (zaf ?_)
  exact zad (zbl rfl rfl (congrArg (Value.int .i64) (by unfold arI; (repeat' split) <;> first | rfl | (exfalso; omega))))
 refine zbc 1 rfl (zal rfl (zac (reQ 1 rfl ?_)))
 refine zdu rfl (zam rfl rfl (fun w hm => zbb (zer (zcq _ _ _ w)))) (zbz (fun h3 => ?_) (fun h3 => ?_))
 ·
  obtain ⟨h3a, h3b⟩ := (zcp _ _ _).1 h3
  refine zbc 1 rfl (zaj rfl (zbn 1 rfl ?_))
  refine zak (zaf ?_)
  exact zad (zbl rfl rfl (congrArg (Value.int .i64) (by unfold arI; (repeat' split) <;> first | rfl | (exfalso; omega))))
 have h3a := zhd h3
 refine zbc 1 rfl (zal rfl (zac (reQ 1 rfl ?_)))
 refine zbj rfl rfl rfl rfl rfl rfl (fun h4 => ?_) (fun h4 => ?_)
 ·
  refine zbc 1 rfl (zaj rfl (zbn 1 rfl ?_))
  refine zak (zaf ?_)
  exact zad (zbl rfl rfl (congrArg (Value.int .i64) (by unfold arI; (repeat' split) <;> first | rfl | (exfalso; omega))))
 refine zbc 1 rfl (fsQ rfl (zdn (zbn 1 rfl ?_)))
 exact zak (zbl rfl rfl (congrArg (Value.int .i64) (by unfold arI; (repeat' split) <;> first | rfl | (exfalso; omega))))
theorem opOk_ans (o : Oq) (n : Int) (w : World)  :
   Calls Try.prog 111 #[.agg #[.int .i64 o.k, .int .i64 o.a, .int .i64 o.b], .int .i64 n] w (Ans w (.bool (pB (OqP n o)))) := by
 refine zbq (N := 67) (args := [.agg #[.int .i64 o.k, .int .i64 o.a, .int .i64 o.b], .int .i64 n]) Try.func111 rfl rfl (srQ ?_)
 refine zed rfl (zdh rfl rfl) ?_
 intro b1
 refine zbc 1 rfl (sbQ (srQ (hvQ rfl (fdQ 0 rfl rfl rfl) (hvQ rfl (zan rfl rfl rfl (zai 0 rfl rfl)) ?_))))
 refine zbj rfl rfl rfl rfl rfl rfl (fun h2 => ?_) (fun h2 => ?_)
 ·
  refine zbc 1 rfl (zaj rfl (srQ (hvQ rfl (fdQ 1 rfl rfl rfl) (hvQ rfl (zan rfl rfl rfl (zai 0 rfl rfl)) ?_))))
  refine zdu rfl (zam rfl rfl (fun w hm => zbb (zer (zcq _ _ _ w)))) (zbz (fun h3 => ?_) (fun h3 => ?_))
  ·
   obtain ⟨h3a, h3b⟩ := (zcp _ _ _).1 h3
   refine zag 1 rfl (hvQ rfl (fdQ 2 rfl rfl rfl) (hvQ rfl (zan rfl rfl rfl (zai 0 rfl rfl)) ?_))
   refine zbj rfl rfl rfl rfl rfl rfl (fun h4 => ?_) (fun h4 => ?_)
   ·
    refine zbc 2 rfl ?_
    refine zak (zaf ?_)
    exact zad (zbl rfl rfl (congrArg _ (zft (by first | exact .inl ⟨by omega, ⟨by omega, by omega⟩, by omega⟩ | exact .inr (.inl ⟨by omega, ⟨by omega, by omega⟩, by omega⟩) | exact .inr (.inr (.inl ⟨by omega, ⟨by omega, by omega⟩, by omega, by omega⟩)) | exact .inr (.inr (.inr ⟨by omega, by omega, by omega, by omega, by omega, by omega⟩)))).symm))
   refine zbc 2 rfl ?_
   refine zak (zaf ?_)
   exact zad (zbl rfl rfl (congrArg _ (zdr (fun hp => by first | (rcases hp with ⟨p1, p2, p3⟩ | ⟨p1, p2, p3⟩ | ⟨p1, p2, p3⟩ | ⟨p1, p2, p3, p4, p5, p6⟩ <;> omega))).symm))
  have h3a := zhd h3
  refine zbc 6 rfl ?_
  refine zak (zaf ?_)
  exact zad (zbl rfl rfl (congrArg _ (zdr (fun hp => by first | (rcases hp with ⟨p1, p2, p3⟩ | ⟨p1, p2, p3⟩ | ⟨p1, p2, p3⟩ | ⟨p1, p2, p3, p4, p5, p6⟩ <;> omega))).symm))
 refine zbc 1 rfl (zal rfl (srQ (hvQ rfl (fdQ 0 rfl rfl rfl) (hvQ rfl (zan rfl rfl rfl (zai 0 rfl rfl)) ?_))))
 refine zbj rfl rfl rfl rfl rfl rfl (fun h5 => ?_) (fun h5 => ?_)
 ·
  refine zbc 1 rfl (zaj rfl (srQ (hvQ rfl (fdQ 1 rfl rfl rfl) (hvQ rfl (zan rfl rfl rfl (zai 0 rfl rfl)) ?_))))
  refine zfw rfl rfl rfl rfl rfl rfl (fun h6 => ?_) (fun h6 => ?_)
  ·
   refine zag 1 rfl (hvQ rfl (fdQ 1 rfl rfl rfl) (hvQ rfl (zan rfl rfl rfl (zai 0 rfl rfl)) (zag 1 rfl ?_)))
   refine zcb rfl rfl rfl rfl rfl rfl (fun h7 => ?_) (fun h7 => ?_)
   ·
    refine zag 2 rfl (hvQ rfl (fdQ 2 rfl rfl rfl) (hvQ rfl (zan rfl rfl rfl (zai 0 rfl rfl)) ?_))
    refine zbj rfl rfl rfl rfl rfl rfl (fun h8 => ?_) (fun h8 => ?_)
    ·
     refine zbc 2 rfl ?_
     refine zak (zaf ?_)
     exact zad (zbl rfl rfl (congrArg _ (zft (by first | exact .inl ⟨by omega, ⟨by omega, by omega⟩, by omega⟩ | exact .inr (.inl ⟨by omega, ⟨by omega, by omega⟩, by omega⟩) | exact .inr (.inr (.inl ⟨by omega, ⟨by omega, by omega⟩, by omega, by omega⟩)) | exact .inr (.inr (.inr ⟨by omega, by omega, by omega, by omega, by omega, by omega⟩)))).symm))
    refine zbc 2 rfl ?_
    refine zak (zaf ?_)
    exact zad (zbl rfl rfl (congrArg _ (zdr (fun hp => by first | (rcases hp with ⟨p1, p2, p3⟩ | ⟨p1, p2, p3⟩ | ⟨p1, p2, p3⟩ | ⟨p1, p2, p3, p4, p5, p6⟩ <;> omega))).symm))
   refine zbc 7 rfl ?_
   refine zak (zaf ?_)
   exact zad (zbl rfl rfl (congrArg _ (zdr (fun hp => by first | (rcases hp with ⟨p1, p2, p3⟩ | ⟨p1, p2, p3⟩ | ⟨p1, p2, p3⟩ | ⟨p1, p2, p3, p4, p5, p6⟩ <;> omega))).symm))
  refine zbc 12 rfl ?_
  refine zak (zaf ?_)
  exact zad (zbl rfl rfl (congrArg _ (zdr (fun hp => by first | (rcases hp with ⟨p1, p2, p3⟩ | ⟨p1, p2, p3⟩ | ⟨p1, p2, p3⟩ | ⟨p1, p2, p3, p4, p5, p6⟩ <;> omega))).symm))
 refine zbc 1 rfl (zal rfl (srQ (hvQ rfl (fdQ 0 rfl rfl rfl) (hvQ rfl (zan rfl rfl rfl (zai 0 rfl rfl)) ?_))))
 refine zbj rfl rfl rfl rfl rfl rfl (fun h9 => ?_) (fun h9 => ?_)
 ·
  refine zbc 1 rfl (zaj rfl (srQ (hvQ rfl (fdQ 1 rfl rfl rfl) (hvQ rfl (zan rfl rfl rfl (zai 0 rfl rfl)) ?_))))
  refine zfw rfl rfl rfl rfl rfl rfl (fun h10 => ?_) (fun h10 => ?_)
  ·
   refine zag 1 rfl (hvQ rfl (fdQ 1 rfl rfl rfl) (hvQ rfl (zan rfl rfl rfl (zai 0 rfl rfl)) (zag 1 rfl ?_)))
   refine zcb rfl rfl rfl rfl rfl rfl (fun h11 => ?_) (fun h11 => ?_)
   ·
    refine zag 2 rfl (hvQ rfl (fdQ 2 rfl rfl rfl) (hvQ rfl (zan rfl rfl rfl (zai 0 rfl rfl)) ?_))
    refine zdu rfl (zam rfl rfl (fun w hm => zbb (zer (zcq _ _ _ w)))) (zbz (fun h12 => ?_) (fun h12 => ?_))
    ·
     obtain ⟨h12a, h12b⟩ := (zcp _ _ _).1 h12
     refine zbc 2 rfl ?_
     refine zak (zaf ?_)
     exact zad (zbl rfl rfl (congrArg _ (zft (by first | exact .inl ⟨by omega, ⟨by omega, by omega⟩, by omega⟩ | exact .inr (.inl ⟨by omega, ⟨by omega, by omega⟩, by omega⟩) | exact .inr (.inr (.inl ⟨by omega, ⟨by omega, by omega⟩, by omega, by omega⟩)) | exact .inr (.inr (.inr ⟨by omega, by omega, by omega, by omega, by omega, by omega⟩)))).symm))
    have h12a := zhd h12
    refine zbc 2 rfl ?_
    refine zak (zaf ?_)
    exact zad (zbl rfl rfl (congrArg _ (zdr (fun hp => by first | (rcases hp with ⟨p1, p2, p3⟩ | ⟨p1, p2, p3⟩ | ⟨p1, p2, p3⟩ | ⟨p1, p2, p3, p4, p5, p6⟩ <;> omega))).symm))
   refine zbc 7 rfl ?_
   refine zak (zaf ?_)
   exact zad (zbl rfl rfl (congrArg _ (zdr (fun hp => by first | (rcases hp with ⟨p1, p2, p3⟩ | ⟨p1, p2, p3⟩ | ⟨p1, p2, p3⟩ | ⟨p1, p2, p3, p4, p5, p6⟩ <;> omega))).symm))
  refine zbc 12 rfl ?_
  refine zak (zaf ?_)
  exact zad (zbl rfl rfl (congrArg _ (zdr (fun hp => by first | (rcases hp with ⟨p1, p2, p3⟩ | ⟨p1, p2, p3⟩ | ⟨p1, p2, p3⟩ | ⟨p1, p2, p3, p4, p5, p6⟩ <;> omega))).symm))
 refine zbc 1 rfl (fsQ rfl (zdn (srQ (hvQ rfl (fdQ 0 rfl rfl rfl) (hvQ rfl (zan rfl rfl rfl (zai 0 rfl rfl)) ?_)))))
 refine zdu rfl (zam rfl rfl (fun w hm => zbb (zgc o.k w))) (zfw rfl rfl rfl rfl rfl rfl (fun h13 => ?_) (fun h13 => ?_))
 ·
  refine zag 1 rfl (hvQ rfl (fdQ 1 rfl rfl rfl) (hvQ rfl (zan rfl rfl rfl (zai 0 rfl rfl)) ?_))
  refine zbj rfl rfl rfl rfl rfl rfl (fun h14 => ?_) (fun h14 => ?_)
  ·
   refine zag 2 rfl (hvQ rfl (fdQ 2 rfl rfl rfl) (hvQ rfl (zan rfl rfl rfl (zai 0 rfl rfl)) ?_))
   refine zbj rfl rfl rfl rfl rfl rfl (fun h15 => ?_) (fun h15 => ?_)
   ·
    refine zbc 2 rfl ?_
    exact zak (zbl rfl rfl (congrArg _ (zft (by first | exact .inl ⟨by omega, ⟨by omega, by omega⟩, by omega⟩ | exact .inr (.inl ⟨by omega, ⟨by omega, by omega⟩, by omega⟩) | exact .inr (.inr (.inl ⟨by omega, ⟨by omega, by omega⟩, by omega, by omega⟩)) | exact .inr (.inr (.inr ⟨by omega, by omega, by omega, by omega, by omega, by omega⟩)))).symm))
   refine zbc 2 rfl ?_
   exact zak (zbl rfl rfl (congrArg _ (zdr (fun hp => by first | (rcases hp with ⟨p1, p2, p3⟩ | ⟨p1, p2, p3⟩ | ⟨p1, p2, p3⟩ | ⟨p1, p2, p3, p4, p5, p6⟩ <;> omega))).symm))
  refine zbc 7 rfl ?_
  exact zak (zbl rfl rfl (congrArg _ (zdr (fun hp => by first | (rcases hp with ⟨p1, p2, p3⟩ | ⟨p1, p2, p3⟩ | ⟨p1, p2, p3⟩ | ⟨p1, p2, p3, p4, p5, p6⟩ <;> omega))).symm))
 refine zbc 11 rfl ?_
 exact zak (zbl rfl rfl (congrArg _ (zdr (fun hp => by first | (rcases hp with ⟨p1, p2, p3⟩ | ⟨p1, p2, p3⟩ | ⟨p1, p2, p3⟩ | ⟨p1, p2, p3, p4, p5, p6⟩ <;> omega))).symm))
theorem implOpsOk_ans (os : List Oq) (n : Int) (v : Value) (w : World) (hv : RdsW w v 3 os.length (os.flatMap oqC)) :
   Calls Try.prog 55 #[v, .int .i64 n] w (Ans w (.bool (pB (OpsP n os)))) := by
 have hv9 := sml hv
 refine zbq (N := 39) (args := [v, .int .i64 n]) Try.func55 rfl rfl (zbn 1 rfl (zac (zac (reQ 1 rfl (hvQ rfl (lnQ rfl rfl rfl (zap hv)) ?_)))))
 refine zbj rfl rfl rfl rfl rfl rfl (fun h1 => ?_) (fun h1 => ?_)
 ·
  refine zbc 5 rfl (zaj rfl (zbn 1 rfl ?_))
  refine zak (zad ?_)
  exact zbl rfl rfl (congrArg _ (zdr (fun hp => by first | (have := hp.len; omega) | (have := hp.pos; omega) | (have := (hp.op i (by omega)).1; omega) | (exact absurd (hp.op i (by omega)).2 (by assumption)) | (have := hp.fin; rw [show os.length = i by omega] at this; omega))).symm)
 refine zag 2 rfl (hvQ rfl (lnQ rfl rfl rfl (zap hv)) ?_)
 refine zeq rfl rfl rfl rfl rfl rfl (fun h2 => ?_) (fun h2 => ?_)
 ·
  refine zbc 1 rfl (zaj rfl (zbn 1 rfl ?_))
  refine zak (zad ?_)
  exact zbl rfl rfl (congrArg _ (zdr (fun hp => by first | (have := hp.len; omega) | (have := hp.pos; omega) | (have := (hp.op i (by omega)).1; omega) | (exact absurd (hp.op i (by omega)).2 (by assumption)) | (have := hp.fin; rw [show os.length = i by omega] at this; omega))).symm)
 refine zbc 1 rfl (zal rfl (zdb (zbn 1 rfl (zac ?_))))
 refine zac (reQ 1 rfl (hvQ rfl (lnQ rfl rfl rfl (zap hv)) (zbc 1 rfl (zbf ?_))))
 refine lkQ2 (α := Nat) (β := Int) [0, 1, 4, 15, 16, 17] rfl (fun i c => []) (fun i c => [(5, .int .i64 c), (18, .int .i64 (i : Int))]) (fun i c => i ≤ os.length ∧ c = needK os i ∧ ∀ q, q < i → needK os q ≠ 0 ∧ OqP n (os.getD q oq0)) (fun i c => os.length - i) 0 1 ⟨Nat.zero_le _, rfl, fun q hq => absurd hq (by omega)⟩ (saQ rfl) (.slnil) ?_
 intro i c hi3
 obtain ⟨hi, hc, hall⟩ := hi3
 have hnr := needK_rng os i
 have har := arI_rng (os.getD i oq0).k
 refine srQ ?_
 refine zcb rfl rfl rfl rfl rfl rfl (fun h4 => ?_) (fun h4 => ?_)
 ·
  refine ntQ (tcQ rfl (zdb (sbQ (srQ (hvQ rfl (riQ 3 rfl rfl rfl rfl (zap hv)) ?_)))))
  refine hvQ rfl (zda (us := [.int .i64 ((os.getD i oq0).k), .int .i64 ((os.getD i oq0).a), .int .i64 ((os.getD i oq0).b)]) rfl rfl rfl rfl (zap hv) (by omega) rfl (zdt oqC 3 (fun _ => rfl) os oq0 (show i < _ by omega) rfl)) (zed rfl (zcc (z := .agg #[.int .i64 0, .int .i64 0, .int .i64 0]) rfl rfl) ?_)
  intro b5
  refine zbm (cs' := #[.int .i64 ((os.getD i oq0).k), .int .i64 ((os.getD i oq0).a), .int .i64 ((os.getD i oq0).b)]) (i := 0) (off := 0) (us := [.int .i64 ((os.getD i oq0).k), .int .i64 ((os.getD i oq0).a), .int .i64 ((os.getD i oq0).b)]) rfl rfl rfl rfl rfl rfl rfl (zaa rfl (zaa rfl (zaa rfl zbe))) rfl rfl rfl (ntQ (zac (zac (reQ 1 rfl ?_))))
  refine zbj rfl rfl rfl rfl rfl rfl (fun h6 => ?_) (fun h6 => ?_)
  ·
   refine zbc 6 rfl (zaj rfl (srQ (enQ 1 rfl ?_)))
   refine zaw (zak ?_)
   refine zad (zaf ?_)
   refine zfv ?_
   refine zaf (zad ?_)
   exact zbl rfl rfl (congrArg _ (zdr (fun hp => by first | (have := hp.len; omega) | (have := hp.pos; omega) | (have := (hp.op i (by omega)).1; omega) | (exact absurd (hp.op i (by omega)).2 (by assumption)) | (have := hp.fin; rw [show os.length = i by omega] at this; omega))).symm)
  refine zag 1 rfl (hvQ rfl (zar (cs := [.int .i64 ((os.getD i oq0).k), .int .i64 ((os.getD i oq0).a), .int .i64 ((os.getD i oq0).b)]) rfl rfl rfl rfl rfl (zah 0 rfl 0 rfl)) (zag 1 rfl ?_))
  refine zdu rfl (zam rfl rfl (fun w hm => zbb (opOk_ans (os.getD i oq0) n w))) (zbz (fun h7 => ?_) (fun h7 => ?_))
  ·
   have h7p := of_pB h7
   refine zbc 2 rfl (zal rfl (zdb (reQ 1 rfl (hvQ rfl (fdQ 0 rfl rfl rfl) (hvQ rfl (zan rfl rfl rfl (zai 0 rfl rfl)) ?_)))))
   refine zdu rfl (zam rfl rfl (fun w hm => zbb (zgc ((os.getD i oq0).k) w))) (hvQ rfl (vsQ rfl rfl rfl) (hvQ rfl (vaQ rfl rfl rfl) (enQ 1 rfl (zdn (zav (hvQ rfl (vaQ rfl rfl rfl) (enQ 1 rfl ?_)))))))
   exact zci (i + 1) (c + ((arI ((os.getD i oq0).k)) - 1)) ⟨by omega, by show _ = needK os i + (arI (os.getD i oq0).k - 1); omega, fun q hq => by by_cases e : q = i; (subst e; exact ⟨by omega, by assumption⟩); exact hall q (by omega)⟩ (by omega) (saQ rfl) (slQ [] rfl)
  have h7p := of_pBn h7
  refine zbc 2 rfl (zaj rfl (zbn 1 rfl ?_))
  refine zak (zad ?_)
  refine zaf (zfv ?_)
  refine zaf (zad ?_)
  exact zbl rfl rfl (congrArg _ (zdr (fun hp => by first | (have := hp.len; omega) | (have := hp.pos; omega) | (have := (hp.op i (by omega)).1; omega) | (exact absurd (hp.op i (by omega)).2 (by assumption)) | (have := hp.fin; rw [show os.length = i by omega] at this; omega))).symm)
 refine ntQ (fcQ rfl ?_)
 refine zby (zes ?_)
 refine zat (zaw (zac (reQ 1 rfl ?_)))
 refine zbj rfl rfl rfl rfl rfl rfl (fun h8 => ?_) (fun h8 => ?_)
 ·
  refine zbc 1 rfl ?_
  exact zak (zbl rfl rfl (congrArg _ (zft ⟨by omega, fun q hq => hall q (by omega), by rw [show os.length = i by omega]; omega⟩).symm))
 refine zbc 1 rfl ?_
 exact zak (zbl rfl rfl (congrArg _ (zdr (fun hp => by first | (have := hp.len; omega) | (have := hp.pos; omega) | (have := (hp.op i (by omega)).1; omega) | (exact absurd (hp.op i (by omega)).2 (by assumption)) | (have := hp.fin; rw [show os.length = i by omega] at this; omega))).symm))
theorem arI_cases (k : Int) : (k = 4 → arI k = 1) ∧ (5 ≤ k ∧ k ≤ 11 → arI k = 2) ∧ (k = 12 → arI k = 3) := by unfold arI; refine ⟨?_, ?_, ?_⟩ <;> intro h <;> (repeat' split) <;> omega
theorem evE_rng (os : List Oq) (vs : List Int) {x : Int} (hx : 0 ≤ x ∧ x ≤ 4) : ∀ (f p : Nat), 0 ≤ (evE os vs x f p).1 ∧ (evE os vs x f p).1 ≤ 15
  | 0, p => ⟨Int.le_refl _, by show (0 : Int) ≤ 15; decide⟩
  | f + 1, p => by
    have h1 := wm_rng hx
    have h2 := and_range (opV (os.getD p oq0) vs (argE (evE os vs x f) (p + 1) (arI (os.getD p oq0).k).toNat).1) (wmK x) (by unfold wmK; omega) (by unfold wmK; omega)
    have h3 : wmK x ≤ 15 := by unfold wmK; omega
    exact ⟨h2.1, Int.le_trans h2.2 h3⟩
theorem argE_rng {g : Nat → Int × Nat} (hg : ∀ q, 0 ≤ (g q).1 ∧ (g q).1 ≤ 15) (p : Nat) : ∀ i, ∀ y ∈ (argE g p i).1, 0 ≤ y ∧ y ≤ 15
  | 0, y, hy => by cases hy
  | i + 1, y, hy => by
    rcases List.mem_append.1 (show y ∈ (argE g p i).1 ++ [_] from hy) with h | h
    · exact argE_rng hg p i y h
    · rw [List.mem_singleton] at h; subst h; exact hg _
theorem getD_rng {L : List Int} (h : ∀ y ∈ L, 0 ≤ y ∧ y ≤ 15) (q : Nat) : 0 ≤ L.getD q 0 ∧ L.getD q 0 ≤ 15 := by
  by_cases hq : q < L.length
  · exact h _ (zbd hq)
  · rw [List.getD_eq_getElem?_getD, List.getElem?_eq_none (by omega)]; decide
theorem exprAt_step (os : List Oq) (vs : List Int) (x : Int) (f p : Nat) (v u : Value) (w : World) (hv : RdsW w v 3 os.length (os.flatMap oqC)) (hu : RdsW w u 1 vs.length (vs.map (Value.int .i64))) (hok : OpsP vs.length os) (hp : p < os.length) (hpf : os.length - p ≤ f + 1) (hx : 0 ≤ x ∧ x ≤ 4) (IH : ∀ (q : Nat), p < q → q < os.length → ∀ (w2 : World), RdsW w2 v 3 os.length (os.flatMap oqC) → RdsW w2 u 1 vs.length (vs.map (Value.int .i64)) → Calls Try.prog 104 #[v, .int .i64 (q : Int), u, .int .i64 x] w2 (Ret w2 (fun u_ p_ => u_ = .tuple #[.int .i64 (evE os vs x f q).1, .int .i64 ((evE os vs x f q).2 : Int)] ∧ p_ = []))) :
   Calls Try.prog 104 #[v, .int .i64 (p : Int), u, .int .i64 x] w (Ret w (fun u_ p_ => u_ = .tuple #[.int .i64 (evE os vs x (f + 1) p).1, .int .i64 ((evE os vs x (f + 1) p).2 : Int)] ∧ p_ = [])) := by
 have hv9 := sml hv
 have hl15 := hok.len
 have hgo : ∀ q, p < q → q < os.length → q < ((evE os vs x f) q).2 ∧ ((evE os vs x f) q).2 ≤ os.length ∧ needK os ((evE os vs x f) q).2 = needK os q - 1 := fun q h1 h2 => evE_ok hok vs x f q (by omega) h2
 have har0 := arI_val hok hp
 have hop := (hok.op p hp).2
 unfold OqP at hop
 have harc := arI_cases (os.getD p oq0).k
 refine zbq (N := 155) (args := [v, .int .i64 (p : Int), u, .int .i64 x]) Try.func104 rfl rfl ?_
 refine hc_keep _ [3, 2, 1, 0] rfl (zac (zav (zag 2 rfl (zbp [9, 8, 3, 2, 1, 0] rfl (zbu (zaw (zac (zav (zag 2 rfl (zfi rfl rfl rfl (zdg (s := 3) rfl Try.underlying71 (by kernel_rfl) rfl rfl (zap hv) (by omega) (by omega)) ?_))))))))))
 refine zfi rfl rfl rfl (zda (us := [.int .i64 ((os.getD p oq0).k), .int .i64 ((os.getD p oq0).a), .int .i64 ((os.getD p oq0).b)]) rfl (by kernel_rfl) (by kernel_rfl) rfl (zap hv) (by omega) rfl (zdt oqC 3 (fun _ => rfl) os oq0 (show p < _ by omega) rfl)) ?_
 refine hl_box rfl rfl rfl (zcc (z := .agg #[.int .i64 0, .int .i64 0, .int .i64 0]) rfl (by kernel_rfl)) ?_
 intro b1
 refine zbm (cs' := #[.int .i64 ((os.getD p oq0).k), .int .i64 ((os.getD p oq0).a), .int .i64 ((os.getD p oq0).b)]) (i := 0) (off := 0) (us := [.int .i64 ((os.getD p oq0).k), .int .i64 ((os.getD p oq0).a), .int .i64 ((os.getD p oq0).b)]) rfl rfl rfl (by kernel_rfl) rfl rfl rfl (zaa rfl (zaa rfl (zaa rfl zbe))) rfl rfl rfl ?_
 refine zbp [10, 9, 8, 3, 2, 1, 0] rfl (zbu (zaw (zac (zav (zag 1 rfl ?_)))))
 refine hl_callV rfl rfl rfl (zam (by kernel_rfl) rfl (fun w hm => zbb (widthMask_ans x w hx))) ?_
 refine zag 1 rfl (zbp [11, 10, 9, 8, 3, 2, 1, 0] rfl (zbu (zaw (zac (zav (zag 1 rfl (zfi rfl rfl rfl (rv_add rfl rfl rfl (by constructor <;> omega)) (zag 1 rfl (zbp [11, 10, 9, 8, 3, 2, 1, 0] rfl (zbu (zaw (zac (zav ?_)))))))))))))
 refine zgt 3 1 ?_
 refine zfi rfl rfl rfl (zax rfl) (zbp [12, 11, 10, 9, 8, 3, 2, 1, 0] rfl (zbu (zaw (zac (zac (zav (zag 1 rfl (zbp [13, 12, 11, 10, 9, 8, 3, 2, 1, 0] rfl (zbu (zaw (zbf ?_)))))))))))
 refine hc_loop3 (α := Nat) (β := Value) (γ := List Int) (fun i gt zs => [rI9 3 gt zs, boxE b1 #[.int .i64 ((os.getD p oq0).k), .int .i64 ((os.getD p oq0).a), .int .i64 ((os.getD p oq0).b)] 97]) (fun i gt zs => [(0, v), (1, .int .i64 ((argE (evE os vs x f) (p + 1) i).2 : Int)), (2, u), (3, .int .i64 x), (8, .int .i64 0), (9, .int .i64 0), (10, .pointer (some ⟨b1, 0, none⟩)), (11, .int .i64 (wmK x)), (12, gt), (13, .int .i64 (i : Int))]) (fun i gt zs => (i : Int) ≤ arI (os.getD p oq0).k ∧ zs = (argE (evE os vs x f) (p + 1) i).1) (fun i gt zs => (arI (os.getD p oq0).k).toNat - i) 0 _ [] ⟨by omega, rfl⟩ (zae [13, 12, 11, 10, 9, 8, 3, 2, 1, 0] rfl) ((.cons_cons _ (.cons_cons _ .slnil))) ?_
 intro i gt zs hi3
 obtain ⟨hi, hz⟩ := hi3
 have hzl : zs.length = i := by rw [hz]; exact argE_len _ _ _
 have hpo := argE_ok hok hp hgo i hi
 have hzr := getD_rng (L := zs) (by rw [hz]; exact argE_rng (evE_rng os vs hx f) _ _)
 have hzr0 := hzr 0
 have hzr1 := hzr 1
 have hpl := fun h9 => argE_lt hok hp hgo i h9
 refine zac (zac (zav (zag 1 rfl (zfi rfl rfl rfl (zgx (k0 := 0) rfl (by kernel_rfl) rfl) (zfi rfl rfl rfl (zan rfl (by kernel_rfl) rfl (zai 1 rfl rfl)) ?_)))))
 refine hl_callV rfl rfl rfl (zam (by kernel_rfl) rfl (fun w hm => zbb (zgc ((os.getD p oq0).k) w))) ?_
 refine zcb rfl rfl rfl rfl rfl rfl (fun h4 => ?_) (fun h4 => ?_)
 ·
  refine zbp [29, 13, 12, 11, 10, 9, 8, 3, 2, 1, 0] rfl (zbu (zaw (zaj rfl (zgo (zaw (zac (zbf (zac (zav ?_)))))))))
  have hpl9 := hpl (by omega)
  refine zfi rfl rfl rfl (zax rfl) (zag 3 rfl ?_)
  refine zfg rfl rfl rfl (zam (by kernel_rfl) rfl (fun w hm => IH (argE (evE os vs x f) (p + 1) i).2 (by omega) (by omega) w (hv.below hm.bel) (hu.below hm.bel))) ?_
  intro v5 p6 hR7
  obtain ⟨rfl, rfl⟩ := hR7
  refine zag 5 rfl (zbp [29, 15, 14, 13, 12, 11, 10, 9, 8, 3, 2, 1, 0] rfl (zbu (zaw (zac (zav (zag 2 rfl ?_))))))
  refine hl_row rfl rfl rfl (zas (z := .int .i64 0) (s := 1) (cs := ([((evE os vs x f) (argE (evE os vs x f) (p + 1) i).2).1].map (Value.int .i64))) rfl Try.underlying48 (by kernel_rfl) (by decide) rfl (by kernel_rfl) rfl) ?_
  intro g8
  refine zdc (i := 1) (z := .int .i64 0) (bytes := 8) rfl rfl rfl rfl Try.underlying48 (by kernel_rfl) (by kernel_rfl) rfl rfl rfl (zao 0 rfl) (zcj _) (by first | omega | (simp; done) | (simp; omega)) (zco zs ([((evE os vs x f) (argE (evE os vs x f) (p + 1) i).2).1])) (zcx zs ([((evE os vs x f) (argE (evE os vs x f) (p + 1) i).2).1])) (fun _ => rfl) ?_
  intro v9
  refine zag 1 rfl (zbp [29, 15, 14, 13, 12, 11, 10, 9, 8, 3, 2, 1, 0] rfl (zbu (zaw (zav (zag 2 rfl (zbp [29, 15, 14, 13, 12, 11, 10, 9, 8, 3, 2, 1, 0] rfl (zbu (zbt (zaw (zav (zag 1 rfl (zfi rfl rfl rfl (rv_add rfl rfl rfl (by constructor <;> omega)) (zag 1 rfl ?_)))))))))))))
  refine zbp [29, 15, 14, 13, 12, 11, 10, 9, 8, 3, 2, 1, 0] rfl (zbu ?_)
  exact zdz (i + 1) v9 (zs ++ ([((evE os vs x f) (argE (evE os vs x f) (p + 1) i).2).1])) ⟨by omega, by rw [hz]; rfl⟩ (by omega) (zae [13, 12, 11, 10, 9, 8, 3, 2, 1, 0] rfl) ((.cons _ (.cons_cons _ (.cons_cons _ .slnil))))
 refine zbp [29, 13, 12, 11, 10, 9, 8, 3, 2, 1, 0] rfl (zbu (zaw (zal rfl ?_)))
 refine zby ?_
 refine hq_then_exit (hq_then_exit ?_)
 refine zat ?_
 refine zaw (zac (zav (zag 1 rfl (zbp [29, 16, 13, 12, 11, 10, 9, 8, 3, 2, 1, 0] rfl (zbu (zaw (zac (zac (zav (zfi rfl rfl rfl (zgx (k0 := 0) rfl (by kernel_rfl) rfl) (zfi rfl rfl rfl (zan rfl (by kernel_rfl) rfl (zai 1 rfl rfl)) (zbp [46, 29, 16, 13, 12, 11, 10, 9, 8, 3, 2, 1, 0] rfl (zbu ?_)))))))))))))
 refine zaw (zbf (zac (zav ?_)))
 refine zbj rfl rfl rfl rfl rfl rfl (fun h10 => ?_) (fun h10 => ?_)
 ·
  refine zag 1 rfl (zbp [47, 46, 29, 16, 13, 12, 11, 10, 9, 8, 3, 2, 1, 0] rfl (zbu (zaw (zaj rfl (zav (zfi rfl rfl rfl (zgx (k0 := 1) rfl (by kernel_rfl) rfl) (zfi rfl rfl rfl (zan rfl (by kernel_rfl) rfl (zai 1 rfl rfl)) (zag 1 rfl (zbp [47, 46, 29, 16, 13, 12, 11, 10, 9, 8, 3, 2, 1, 0] rfl (zbu (zbt (zaw (zac ?_)))))))))))))
  refine zav (zag 2 rfl (zfi rfl rfl rfl (zcl rfl (by decide) rfl rfl (r := bits .and .i64 ((os.getD p oq0).a) (wmK x)) rfl) (zag 3 rfl (zbp [47, 46, 29, 16, 13, 12, 11, 10, 9, 8, 3, 2, 1, 0] rfl (zbu (zaw ?_))))))
  refine zak ?_
  have hii : i = (arI (os.getD p oq0).k).toNat := by omega
  have hov : opV (os.getD p oq0) vs zs = (os.getD p oq0).a := by unfold opV; (repeat' split) <;> first | rfl | (exfalso; omega) | omega
  exact zca (rs := [.tmp 8, .tmp 9]) (vs := [.int .i64 (bits .and .i64 ((os.getD p oq0).a) (wmK x)), .int .i64 ((argE (evE os vs x f) (p + 1) i).2 : Int)]) (post := []) rfl ⟨rfl, rfl, trivial⟩ rfl ((.cons _ (.cons _ .slnil))) ⟨by rw [show evE os vs x (f + 1) p = (bits .and .i64 (opV (os.getD p oq0) vs (argE (evE os vs x f) (p + 1) (arI (os.getD p oq0).k).toNat).1) (wmK x), (argE (evE os vs x f) (p + 1) (arI (os.getD p oq0).k).toNat).2) from rfl, ← hii, ← hz, hov]; rfl, rfl⟩
 refine zag 1 rfl (zbp [47, 46, 29, 16, 13, 12, 11, 10, 9, 8, 3, 2, 1, 0] rfl (zbu (zaw (zal rfl (zac (zav ?_))))))
 refine zbj rfl rfl rfl rfl rfl rfl (fun h11 => ?_) (fun h11 => ?_)
 ·
  refine zag 1 rfl (zbp [51, 47, 46, 29, 16, 13, 12, 11, 10, 9, 8, 3, 2, 1, 0] rfl (zbu (zaw (zaj rfl (zav (zag 1 rfl (zfi rfl rfl rfl (zgx (k0 := 1) rfl (by kernel_rfl) rfl) (zfi rfl rfl rfl (zan rfl (by kernel_rfl) rfl (zai 1 rfl rfl)) (zfi rfl rfl rfl (zdg (s := 1) rfl Try.underlying48 (by kernel_rfl) rfl rfl (zap hu) (by omega) (by omega)) (zfi rfl rfl rfl (zba (u := .int .i64 (vs.getD (((os.getD p oq0).a).toNat) 0)) rfl (by kernel_rfl) rfl (zap hu) (zcg (show _ < vs.length by omega))) (zag 1 rfl (zbp [51, 47, 46, 29, 16, 13, 12, 11, 10, 9, 8, 3, 2, 1, 0] rfl (zbu ?_)))))))))))))
  refine zbt (zaw (zac (zav (zag 2 rfl (zfi rfl rfl rfl (zcl rfl (by decide) rfl rfl (r := bits .and .i64 (vs.getD (((os.getD p oq0).a).toNat) 0) (wmK x)) rfl) (zag 3 rfl (zbp [51, 47, 46, 29, 16, 13, 12, 11, 10, 9, 8, 3, 2, 1, 0] rfl (zbu (zaw ?_)))))))))
  refine zak ?_
  have hii : i = (arI (os.getD p oq0).k).toNat := by omega
  have hov : opV (os.getD p oq0) vs zs = vs.getD (((os.getD p oq0).a).toNat) 0 := by unfold opV; (repeat' split) <;> first | rfl | (exfalso; omega) | omega
  exact zca (rs := [.tmp 8, .tmp 9]) (vs := [.int .i64 (bits .and .i64 (vs.getD (((os.getD p oq0).a).toNat) 0) (wmK x)), .int .i64 ((argE (evE os vs x f) (p + 1) i).2 : Int)]) (post := []) rfl ⟨rfl, rfl, trivial⟩ rfl ((.cons _ (.cons _ .slnil))) ⟨by rw [show evE os vs x (f + 1) p = (bits .and .i64 (opV (os.getD p oq0) vs (argE (evE os vs x f) (p + 1) (arI (os.getD p oq0).k).toNat).1) (wmK x), (argE (evE os vs x f) (p + 1) (arI (os.getD p oq0).k).toNat).2) from rfl, ← hii, ← hz, hov]; rfl, rfl⟩
 refine zag 1 rfl (zbp [51, 47, 46, 29, 16, 13, 12, 11, 10, 9, 8, 3, 2, 1, 0] rfl (zbu (zaw (zal rfl (zac (zav ?_))))))
 refine zbj rfl rfl rfl rfl rfl rfl (fun h12 => ?_) (fun h12 => ?_)
 ·
  refine zag 1 rfl (zbp [58, 51, 47, 46, 29, 16, 13, 12, 11, 10, 9, 8, 3, 2, 1, 0] rfl (zbu (zaw (zaj rfl ?_))))
  refine zdp 10 [[], [], [1], [0, 2], [3], [], [5], [6], [4, 7], [8]] [60, 61, 62, 63, 64, 65, 66, 67, 68, 69] [u, .pointer (some ⟨b1, 0 + 1, none⟩), .int .i64 ((os.getD p oq0).a), elP u (((os.getD p oq0).a).toNat * 1), .int .i64 (vs.getD (((os.getD p oq0).a).toNat) 0), .pointer (some ⟨b1, 0 + 2, none⟩), .int .i64 ((os.getD p oq0).b), .int .u64 ((os.getD p oq0).b), .int .i64 ((vs.getD (((os.getD p oq0).a).toNat) 0) / 2 ^ ((os.getD p oq0).b : Int).toNat), .int .i64 (bits .and .i64 ((vs.getD (((os.getD p oq0).a).toNat) 0) / 2 ^ ((os.getD p oq0).b : Int).toNat) 1)] (by kernel_rfl) rfl ?_ ?_
  ·
   refine ⟨?_, ?_, ?_, ?_, ?_, ?_, ?_, ?_, ?_, ?_, trivial⟩
   · exact .inl ⟨rfl, zdd (zax rfl) rfl⟩
   · exact .inl ⟨rfl, zdd (zgx (k0 := 1) rfl (by kernel_rfl) rfl) rfl⟩
   · exact .inl ⟨rfl, zdd (zan rfl (by kernel_rfl) rfl (zai 1 rfl rfl)) rfl⟩
   · exact .inl ⟨rfl, zdd (zdg (s := 1) rfl Try.underlying48 (by kernel_rfl) rfl rfl (zap hu) (by omega) (by omega)) rfl⟩
   · exact .inl ⟨rfl, zdd (zba (u := .int .i64 (vs.getD (((os.getD p oq0).a).toNat) 0)) rfl (by kernel_rfl) rfl (zap hu) (zcg (show _ < vs.length by omega))) rfl⟩
   · exact .inl ⟨rfl, zdd (zgx (k0 := 2) rfl (by kernel_rfl) rfl) rfl⟩
   · exact .inl ⟨rfl, zdd (zan rfl (by kernel_rfl) rfl (zai 1 rfl rfl)) rfl⟩
   · exact .inl ⟨rfl, zdd (rv_conv rfl Try.underlying3 Try.underlying154 rfl (IntWalk.u64_in _ (by omega))) rfl⟩
   · exact .inl ⟨rfl, zdd (rv_shr rfl rfl rfl (by omega)) rfl⟩
   exact .inl ⟨rfl, zdd (zcl rfl (by decide) rfl rfl (r := bits .and .i64 ((vs.getD (((os.getD p oq0).a).toNat) 0) / 2 ^ ((os.getD p oq0).b : Int).toNat) 1) rfl) rfl⟩
  refine zbp [69, 58, 51, 47, 46, 29, 16, 13, 12, 11, 10, 9, 8, 3, 2, 1, 0] rfl ?_
  simp only [List.drop_succ_cons, List.drop_zero]
  refine zag 1 rfl (zbp [58, 51, 47, 46, 29, 16, 13, 12, 11, 10, 9, 8, 3, 2, 1, 0] rfl (zbu (zbt (zaw (zac (zav (zag 2 rfl (zfi rfl rfl rfl (zcl rfl (by decide) rfl rfl (r := bits .and .i64 (bits .and .i64 ((vs.getD (((os.getD p oq0).a).toNat) 0) / 2 ^ ((os.getD p oq0).b : Int).toNat) 1) (wmK x)) rfl) (zag 3 rfl (zbp [58, 51, 47, 46, 29, 16, 13, 12, 11, 10, 9, 8, 3, 2, 1, 0] rfl (zbu (zaw ?_))))))))))))
  refine zak ?_
  have hii : i = (arI (os.getD p oq0).k).toNat := by omega
  have hov : opV (os.getD p oq0) vs zs = bits .and .i64 ((vs.getD (((os.getD p oq0).a).toNat) 0) / 2 ^ ((os.getD p oq0).b : Int).toNat) 1 := by unfold opV; (repeat' split) <;> first | rfl | (exfalso; omega) | omega
  exact zca (rs := [.tmp 8, .tmp 9]) (vs := [.int .i64 (bits .and .i64 (bits .and .i64 ((vs.getD (((os.getD p oq0).a).toNat) 0) / 2 ^ ((os.getD p oq0).b : Int).toNat) 1) (wmK x)), .int .i64 ((argE (evE os vs x f) (p + 1) i).2 : Int)]) (post := []) rfl ⟨rfl, rfl, trivial⟩ rfl ((.cons _ (.cons _ .slnil))) ⟨by rw [show evE os vs x (f + 1) p = (bits .and .i64 (opV (os.getD p oq0) vs (argE (evE os vs x f) (p + 1) (arI (os.getD p oq0).k).toNat).1) (wmK x), (argE (evE os vs x f) (p + 1) (arI (os.getD p oq0).k).toNat).2) from rfl, ← hii, ← hz, hov]; rfl, rfl⟩
 refine zag 1 rfl (zbp [58, 51, 47, 46, 29, 16, 13, 12, 11, 10, 9, 8, 3, 2, 1, 0] rfl (zbu (zaw (zal rfl (zac (zav ?_))))))
 refine zbj rfl rfl rfl rfl rfl rfl (fun h13 => ?_) (fun h13 => ?_)
 ·
  refine zag 1 rfl (zbp [70, 58, 51, 47, 46, 29, 16, 13, 12, 11, 10, 9, 8, 3, 2, 1, 0] rfl (zbu (zaw (zaj rfl (zav (zag 1 rfl (zfi rfl rfl rfl (zdg (s := 1) rfl Try.underlying48 (by kernel_rfl) rfl rfl (zao 0 rfl) (by omega) (by omega)) (zfi rfl rfl rfl (zba (u := .int .i64 (zs.getD 0 0)) rfl (by kernel_rfl) rfl (zao 0 rfl) (zcg (show _ < zs.length by omega))) (zfi rfl rfl rfl (rv_unx rfl rfl) (zag 1 rfl (zbp [70, 58, 51, 47, 46, 29, 16, 13, 12, 11, 10, 9, 8, 3, 2, 1, 0] rfl (zbu (zbt ?_)))))))))))))
  refine zaw (zac (zav (zag 2 rfl (zfi rfl rfl rfl (zcl rfl (by decide) rfl rfl (r := bits .and .i64 (bits .xor .i64 (-1) (zs.getD 0 0)) (wmK x)) rfl) (zag 3 rfl (zbp [70, 58, 51, 47, 46, 29, 16, 13, 12, 11, 10, 9, 8, 3, 2, 1, 0] rfl (zbu (zaw ?_))))))))
  refine zak ?_
  have hii : i = (arI (os.getD p oq0).k).toNat := by omega
  have hov : opV (os.getD p oq0) vs zs = bits .xor .i64 (-1) (zs.getD 0 0) := by unfold opV; (repeat' split) <;> first | rfl | (exfalso; omega) | omega
  exact zca (rs := [.tmp 8, .tmp 9]) (vs := [.int .i64 (bits .and .i64 (bits .xor .i64 (-1) (zs.getD 0 0)) (wmK x)), .int .i64 ((argE (evE os vs x f) (p + 1) i).2 : Int)]) (post := []) rfl ⟨rfl, rfl, trivial⟩ rfl ((.cons _ (.cons _ .slnil))) ⟨by rw [show evE os vs x (f + 1) p = (bits .and .i64 (opV (os.getD p oq0) vs (argE (evE os vs x f) (p + 1) (arI (os.getD p oq0).k).toNat).1) (wmK x), (argE (evE os vs x f) (p + 1) (arI (os.getD p oq0).k).toNat).2) from rfl, ← hii, ← hz, hov]; rfl, rfl⟩
 refine zag 1 rfl (zbp [70, 58, 51, 47, 46, 29, 16, 13, 12, 11, 10, 9, 8, 3, 2, 1, 0] rfl (zbu (zaw (zal rfl (zac (zav ?_))))))
 refine zbj rfl rfl rfl rfl rfl rfl (fun h14 => ?_) (fun h14 => ?_)
 ·
  refine zag 1 rfl (zbp [76, 70, 58, 51, 47, 46, 29, 16, 13, 12, 11, 10, 9, 8, 3, 2, 1, 0] rfl (zbu (zaw (zaj rfl ?_))))
  refine zdp 7 [[], [0], [1], [], [3], [4], [2, 5]] [78, 79, 80, 81, 82, 83, 84] [gt, elP gt ((0 : Int).toNat * 1), .int .i64 (zs.getD 0 0), gt, elP gt ((1 : Int).toNat * 1), .int .i64 (zs.getD 1 0), .int .i64 (bits .and .i64 (zs.getD 0 0) (zs.getD 1 0))] (by kernel_rfl) rfl ?_ ?_
  ·
   refine ⟨?_, ?_, ?_, ?_, ?_, ?_, ?_, trivial⟩
   · exact .inl ⟨rfl, zdd (zax rfl) rfl⟩
   · exact .inl ⟨rfl, zdd (zdg (s := 1) rfl Try.underlying48 (by kernel_rfl) rfl rfl (zao 0 rfl) (by omega) (by omega)) rfl⟩
   · exact .inl ⟨rfl, zdd (zba (u := .int .i64 (zs.getD 0 0)) rfl (by kernel_rfl) rfl (zao 0 rfl) (zcg (show _ < zs.length by omega))) rfl⟩
   · exact .inl ⟨rfl, zdd (zax rfl) rfl⟩
   · exact .inl ⟨rfl, zdd (zdg (s := 1) rfl Try.underlying48 (by kernel_rfl) rfl rfl (zao 0 rfl) (by omega) (by omega)) rfl⟩
   · exact .inl ⟨rfl, zdd (zba (u := .int .i64 (zs.getD 1 0)) rfl (by kernel_rfl) rfl (zao 0 rfl) (zcg (show _ < zs.length by omega))) rfl⟩
   exact .inl ⟨rfl, zdd (zcl rfl (by decide) rfl rfl (r := bits .and .i64 (zs.getD 0 0) (zs.getD 1 0)) rfl) rfl⟩
  refine zbp [84, 76, 70, 58, 51, 47, 46, 29, 16, 13, 12, 11, 10, 9, 8, 3, 2, 1, 0] rfl ?_
  simp only [List.drop_succ_cons, List.drop_zero]
  refine zag 1 rfl (zbp [76, 70, 58, 51, 47, 46, 29, 16, 13, 12, 11, 10, 9, 8, 3, 2, 1, 0] rfl (zbu (zbt (zaw (zac (zav (zag 2 rfl (zfi rfl rfl rfl (zcl rfl (by decide) rfl rfl (r := bits .and .i64 (bits .and .i64 (zs.getD 0 0) (zs.getD 1 0)) (wmK x)) rfl) (zag 3 rfl (zbp [76, 70, 58, 51, 47, 46, 29, 16, 13, 12, 11, 10, 9, 8, 3, 2, 1, 0] rfl (zbu (zaw ?_))))))))))))
  refine zak ?_
  have hii : i = (arI (os.getD p oq0).k).toNat := by omega
  have hov : opV (os.getD p oq0) vs zs = bits .and .i64 (zs.getD 0 0) (zs.getD 1 0) := by unfold opV; (repeat' split) <;> first | rfl | (exfalso; omega) | omega
  exact zca (rs := [.tmp 8, .tmp 9]) (vs := [.int .i64 (bits .and .i64 (bits .and .i64 (zs.getD 0 0) (zs.getD 1 0)) (wmK x)), .int .i64 ((argE (evE os vs x f) (p + 1) i).2 : Int)]) (post := []) rfl ⟨rfl, rfl, trivial⟩ rfl ((.cons _ (.cons _ .slnil))) ⟨by rw [show evE os vs x (f + 1) p = (bits .and .i64 (opV (os.getD p oq0) vs (argE (evE os vs x f) (p + 1) (arI (os.getD p oq0).k).toNat).1) (wmK x), (argE (evE os vs x f) (p + 1) (arI (os.getD p oq0).k).toNat).2) from rfl, ← hii, ← hz, hov]; rfl, rfl⟩
 refine zag 1 rfl (zbp [76, 70, 58, 51, 47, 46, 29, 16, 13, 12, 11, 10, 9, 8, 3, 2, 1, 0] rfl (zbu (zaw (zal rfl (zac (zav ?_))))))
 refine zbj rfl rfl rfl rfl rfl rfl (fun h15 => ?_) (fun h15 => ?_)
 ·
  refine zag 1 rfl (zbp [85, 76, 70, 58, 51, 47, 46, 29, 16, 13, 12, 11, 10, 9, 8, 3, 2, 1, 0] rfl (zbu (zaw (zaj rfl ?_))))
  refine zdp 7 [[], [0], [1], [], [3], [4], [2, 5]] [87, 88, 89, 90, 91, 92, 93] [gt, elP gt ((0 : Int).toNat * 1), .int .i64 (zs.getD 0 0), gt, elP gt ((1 : Int).toNat * 1), .int .i64 (zs.getD 1 0), .int .i64 (bits .or .i64 (zs.getD 0 0) (zs.getD 1 0))] (by kernel_rfl) rfl ?_ ?_
  ·
   refine ⟨?_, ?_, ?_, ?_, ?_, ?_, ?_, trivial⟩
   · exact .inl ⟨rfl, zdd (zax rfl) rfl⟩
   · exact .inl ⟨rfl, zdd (zdg (s := 1) rfl Try.underlying48 (by kernel_rfl) rfl rfl (zao 0 rfl) (by omega) (by omega)) rfl⟩
   · exact .inl ⟨rfl, zdd (zba (u := .int .i64 (zs.getD 0 0)) rfl (by kernel_rfl) rfl (zao 0 rfl) (zcg (show _ < zs.length by omega))) rfl⟩
   · exact .inl ⟨rfl, zdd (zax rfl) rfl⟩
   · exact .inl ⟨rfl, zdd (zdg (s := 1) rfl Try.underlying48 (by kernel_rfl) rfl rfl (zao 0 rfl) (by omega) (by omega)) rfl⟩
   · exact .inl ⟨rfl, zdd (zba (u := .int .i64 (zs.getD 1 0)) rfl (by kernel_rfl) rfl (zao 0 rfl) (zcg (show _ < zs.length by omega))) rfl⟩
   exact .inl ⟨rfl, zdd (zcl rfl (by decide) rfl rfl (r := bits .or .i64 (zs.getD 0 0) (zs.getD 1 0)) rfl) rfl⟩
  refine zbp [93, 85, 76, 70, 58, 51, 47, 46, 29, 16, 13, 12, 11, 10, 9, 8, 3, 2, 1, 0] rfl ?_
  simp only [List.drop_succ_cons, List.drop_zero]
  refine zag 1 rfl (zbp [85, 76, 70, 58, 51, 47, 46, 29, 16, 13, 12, 11, 10, 9, 8, 3, 2, 1, 0] rfl (zbu (zbt (zaw (zac (zav (zag 2 rfl (zfi rfl rfl rfl (zcl rfl (by decide) rfl rfl (r := bits .and .i64 (bits .or .i64 (zs.getD 0 0) (zs.getD 1 0)) (wmK x)) rfl) (zag 3 rfl (zbp [85, 76, 70, 58, 51, 47, 46, 29, 16, 13, 12, 11, 10, 9, 8, 3, 2, 1, 0] rfl (zbu (zaw ?_))))))))))))
  refine zak ?_
  have hii : i = (arI (os.getD p oq0).k).toNat := by omega
  have hov : opV (os.getD p oq0) vs zs = bits .or .i64 (zs.getD 0 0) (zs.getD 1 0) := by unfold opV; (repeat' split) <;> first | rfl | (exfalso; omega) | omega
  exact zca (rs := [.tmp 8, .tmp 9]) (vs := [.int .i64 (bits .and .i64 (bits .or .i64 (zs.getD 0 0) (zs.getD 1 0)) (wmK x)), .int .i64 ((argE (evE os vs x f) (p + 1) i).2 : Int)]) (post := []) rfl ⟨rfl, rfl, trivial⟩ rfl ((.cons _ (.cons _ .slnil))) ⟨by rw [show evE os vs x (f + 1) p = (bits .and .i64 (opV (os.getD p oq0) vs (argE (evE os vs x f) (p + 1) (arI (os.getD p oq0).k).toNat).1) (wmK x), (argE (evE os vs x f) (p + 1) (arI (os.getD p oq0).k).toNat).2) from rfl, ← hii, ← hz, hov]; rfl, rfl⟩
 refine zag 1 rfl (zbp [85, 76, 70, 58, 51, 47, 46, 29, 16, 13, 12, 11, 10, 9, 8, 3, 2, 1, 0] rfl (zbu (zaw (zal rfl (zac (zav ?_))))))
 refine zbj rfl rfl rfl rfl rfl rfl (fun h16 => ?_) (fun h16 => ?_)
 ·
  refine zag 1 rfl (zbp [94, 85, 76, 70, 58, 51, 47, 46, 29, 16, 13, 12, 11, 10, 9, 8, 3, 2, 1, 0] rfl (zbu (zaw (zaj rfl ?_))))
  refine zdp 7 [[], [0], [1], [], [3], [4], [2, 5]] [96, 97, 98, 99, 100, 101, 102] [gt, elP gt ((0 : Int).toNat * 1), .int .i64 (zs.getD 0 0), gt, elP gt ((1 : Int).toNat * 1), .int .i64 (zs.getD 1 0), .int .i64 (bits .xor .i64 (zs.getD 0 0) (zs.getD 1 0))] (by kernel_rfl) rfl ?_ ?_
  ·
   refine ⟨?_, ?_, ?_, ?_, ?_, ?_, ?_, trivial⟩
   · exact .inl ⟨rfl, zdd (zax rfl) rfl⟩
   · exact .inl ⟨rfl, zdd (zdg (s := 1) rfl Try.underlying48 (by kernel_rfl) rfl rfl (zao 0 rfl) (by omega) (by omega)) rfl⟩
   · exact .inl ⟨rfl, zdd (zba (u := .int .i64 (zs.getD 0 0)) rfl (by kernel_rfl) rfl (zao 0 rfl) (zcg (show _ < zs.length by omega))) rfl⟩
   · exact .inl ⟨rfl, zdd (zax rfl) rfl⟩
   · exact .inl ⟨rfl, zdd (zdg (s := 1) rfl Try.underlying48 (by kernel_rfl) rfl rfl (zao 0 rfl) (by omega) (by omega)) rfl⟩
   · exact .inl ⟨rfl, zdd (zba (u := .int .i64 (zs.getD 1 0)) rfl (by kernel_rfl) rfl (zao 0 rfl) (zcg (show _ < zs.length by omega))) rfl⟩
   exact .inl ⟨rfl, zdd (zcl rfl (by decide) rfl rfl (r := bits .xor .i64 (zs.getD 0 0) (zs.getD 1 0)) rfl) rfl⟩
  refine zbp [102, 94, 85, 76, 70, 58, 51, 47, 46, 29, 16, 13, 12, 11, 10, 9, 8, 3, 2, 1, 0] rfl ?_
  simp only [List.drop_succ_cons, List.drop_zero]
  refine zag 1 rfl (zbp [94, 85, 76, 70, 58, 51, 47, 46, 29, 16, 13, 12, 11, 10, 9, 8, 3, 2, 1, 0] rfl (zbu (zbt (zaw (zac (zav (zag 2 rfl (zfi rfl rfl rfl (zcl rfl (by decide) rfl rfl (r := bits .and .i64 (bits .xor .i64 (zs.getD 0 0) (zs.getD 1 0)) (wmK x)) rfl) (zag 3 rfl (zbp [94, 85, 76, 70, 58, 51, 47, 46, 29, 16, 13, 12, 11, 10, 9, 8, 3, 2, 1, 0] rfl (zbu (zaw ?_))))))))))))
  refine zak ?_
  have hii : i = (arI (os.getD p oq0).k).toNat := by omega
  have hov : opV (os.getD p oq0) vs zs = bits .xor .i64 (zs.getD 0 0) (zs.getD 1 0) := by unfold opV; (repeat' split) <;> first | rfl | (exfalso; omega) | omega
  exact zca (rs := [.tmp 8, .tmp 9]) (vs := [.int .i64 (bits .and .i64 (bits .xor .i64 (zs.getD 0 0) (zs.getD 1 0)) (wmK x)), .int .i64 ((argE (evE os vs x f) (p + 1) i).2 : Int)]) (post := []) rfl ⟨rfl, rfl, trivial⟩ rfl ((.cons _ (.cons _ .slnil))) ⟨by rw [show evE os vs x (f + 1) p = (bits .and .i64 (opV (os.getD p oq0) vs (argE (evE os vs x f) (p + 1) (arI (os.getD p oq0).k).toNat).1) (wmK x), (argE (evE os vs x f) (p + 1) (arI (os.getD p oq0).k).toNat).2) from rfl, ← hii, ← hz, hov]; rfl, rfl⟩
 refine zag 1 rfl (zbp [94, 85, 76, 70, 58, 51, 47, 46, 29, 16, 13, 12, 11, 10, 9, 8, 3, 2, 1, 0] rfl (zbu (zaw (zal rfl (zac (zav ?_))))))
 refine zbj rfl rfl rfl rfl rfl rfl (fun h17 => ?_) (fun h17 => ?_)
 ·
  refine zag 1 rfl (zbp [103, 94, 85, 76, 70, 58, 51, 47, 46, 29, 16, 13, 12, 11, 10, 9, 8, 3, 2, 1, 0] rfl (zbu (zaw (zaj rfl ?_))))
  refine zdp 7 [[], [0], [1], [], [3], [4], [2, 5]] [105, 106, 107, 108, 109, 110, 111] [gt, elP gt ((0 : Int).toNat * 1), .int .i64 (zs.getD 0 0), gt, elP gt ((1 : Int).toNat * 1), .int .i64 (zs.getD 1 0), .int .i64 ((zs.getD 0 0) + (zs.getD 1 0))] (by kernel_rfl) rfl ?_ ?_
  ·
   refine ⟨?_, ?_, ?_, ?_, ?_, ?_, ?_, trivial⟩
   · exact .inl ⟨rfl, zdd (zax rfl) rfl⟩
   · exact .inl ⟨rfl, zdd (zdg (s := 1) rfl Try.underlying48 (by kernel_rfl) rfl rfl (zao 0 rfl) (by omega) (by omega)) rfl⟩
   · exact .inl ⟨rfl, zdd (zba (u := .int .i64 (zs.getD 0 0)) rfl (by kernel_rfl) rfl (zao 0 rfl) (zcg (show _ < zs.length by omega))) rfl⟩
   · exact .inl ⟨rfl, zdd (zax rfl) rfl⟩
   · exact .inl ⟨rfl, zdd (zdg (s := 1) rfl Try.underlying48 (by kernel_rfl) rfl rfl (zao 0 rfl) (by omega) (by omega)) rfl⟩
   · exact .inl ⟨rfl, zdd (zba (u := .int .i64 (zs.getD 1 0)) rfl (by kernel_rfl) rfl (zao 0 rfl) (zcg (show _ < zs.length by omega))) rfl⟩
   exact .inl ⟨rfl, zdd (rv_add rfl rfl rfl (by constructor <;> omega)) rfl⟩
  refine zbp [111, 103, 94, 85, 76, 70, 58, 51, 47, 46, 29, 16, 13, 12, 11, 10, 9, 8, 3, 2, 1, 0] rfl ?_
  simp only [List.drop_succ_cons, List.drop_zero]
  refine zag 1 rfl (zbp [103, 94, 85, 76, 70, 58, 51, 47, 46, 29, 16, 13, 12, 11, 10, 9, 8, 3, 2, 1, 0] rfl (zbu (zbt (zaw (zac (zav (zag 2 rfl (zfi rfl rfl rfl (zcl rfl (by decide) rfl rfl (r := bits .and .i64 ((zs.getD 0 0) + (zs.getD 1 0)) (wmK x)) rfl) (zag 3 rfl (zbp [103, 94, 85, 76, 70, 58, 51, 47, 46, 29, 16, 13, 12, 11, 10, 9, 8, 3, 2, 1, 0] rfl (zbu (zaw ?_))))))))))))
  refine zak ?_
  have hii : i = (arI (os.getD p oq0).k).toNat := by omega
  have hov : opV (os.getD p oq0) vs zs = (zs.getD 0 0) + (zs.getD 1 0) := by unfold opV; (repeat' split) <;> first | rfl | (exfalso; omega) | omega
  exact zca (rs := [.tmp 8, .tmp 9]) (vs := [.int .i64 (bits .and .i64 ((zs.getD 0 0) + (zs.getD 1 0)) (wmK x)), .int .i64 ((argE (evE os vs x f) (p + 1) i).2 : Int)]) (post := []) rfl ⟨rfl, rfl, trivial⟩ rfl ((.cons _ (.cons _ .slnil))) ⟨by rw [show evE os vs x (f + 1) p = (bits .and .i64 (opV (os.getD p oq0) vs (argE (evE os vs x f) (p + 1) (arI (os.getD p oq0).k).toNat).1) (wmK x), (argE (evE os vs x f) (p + 1) (arI (os.getD p oq0).k).toNat).2) from rfl, ← hii, ← hz, hov]; rfl, rfl⟩
 refine zag 1 rfl (zbp [103, 94, 85, 76, 70, 58, 51, 47, 46, 29, 16, 13, 12, 11, 10, 9, 8, 3, 2, 1, 0] rfl (zbu (zaw (zal rfl (zac (zav ?_))))))
 refine zbj rfl rfl rfl rfl rfl rfl (fun h18 => ?_) (fun h18 => ?_)
 ·
  refine zag 1 rfl (zbp [112, 103, 94, 85, 76, 70, 58, 51, 47, 46, 29, 16, 13, 12, 11, 10, 9, 8, 3, 2, 1, 0] rfl (zbu (zaw (zaj rfl ?_))))
  refine zdp 7 [[], [0], [1], [], [3], [4], [2, 5]] [114, 115, 116, 117, 118, 119, 120] [gt, elP gt ((0 : Int).toNat * 1), .int .i64 (zs.getD 0 0), gt, elP gt ((1 : Int).toNat * 1), .int .i64 (zs.getD 1 0), .int .i64 ((zs.getD 0 0) - (zs.getD 1 0))] (by kernel_rfl) rfl ?_ ?_
  ·
   refine ⟨?_, ?_, ?_, ?_, ?_, ?_, ?_, trivial⟩
   · exact .inl ⟨rfl, zdd (zax rfl) rfl⟩
   · exact .inl ⟨rfl, zdd (zdg (s := 1) rfl Try.underlying48 (by kernel_rfl) rfl rfl (zao 0 rfl) (by omega) (by omega)) rfl⟩
   · exact .inl ⟨rfl, zdd (zba (u := .int .i64 (zs.getD 0 0)) rfl (by kernel_rfl) rfl (zao 0 rfl) (zcg (show _ < zs.length by omega))) rfl⟩
   · exact .inl ⟨rfl, zdd (zax rfl) rfl⟩
   · exact .inl ⟨rfl, zdd (zdg (s := 1) rfl Try.underlying48 (by kernel_rfl) rfl rfl (zao 0 rfl) (by omega) (by omega)) rfl⟩
   · exact .inl ⟨rfl, zdd (zba (u := .int .i64 (zs.getD 1 0)) rfl (by kernel_rfl) rfl (zao 0 rfl) (zcg (show _ < zs.length by omega))) rfl⟩
   exact .inl ⟨rfl, zdd (rv_sub rfl rfl rfl (by constructor <;> omega)) rfl⟩
  refine zbp [120, 112, 103, 94, 85, 76, 70, 58, 51, 47, 46, 29, 16, 13, 12, 11, 10, 9, 8, 3, 2, 1, 0] rfl ?_
  simp only [List.drop_succ_cons, List.drop_zero]
  refine zag 1 rfl (zbp [112, 103, 94, 85, 76, 70, 58, 51, 47, 46, 29, 16, 13, 12, 11, 10, 9, 8, 3, 2, 1, 0] rfl (zbu (zbt (zaw (zac (zav (zag 2 rfl (zfi rfl rfl rfl (zcl rfl (by decide) rfl rfl (r := bits .and .i64 ((zs.getD 0 0) - (zs.getD 1 0)) (wmK x)) rfl) (zag 3 rfl (zbp [112, 103, 94, 85, 76, 70, 58, 51, 47, 46, 29, 16, 13, 12, 11, 10, 9, 8, 3, 2, 1, 0] rfl (zbu (zaw ?_))))))))))))
  refine zak ?_
  have hii : i = (arI (os.getD p oq0).k).toNat := by omega
  have hov : opV (os.getD p oq0) vs zs = (zs.getD 0 0) - (zs.getD 1 0) := by unfold opV; (repeat' split) <;> first | rfl | (exfalso; omega) | omega
  exact zca (rs := [.tmp 8, .tmp 9]) (vs := [.int .i64 (bits .and .i64 ((zs.getD 0 0) - (zs.getD 1 0)) (wmK x)), .int .i64 ((argE (evE os vs x f) (p + 1) i).2 : Int)]) (post := []) rfl ⟨rfl, rfl, trivial⟩ rfl ((.cons _ (.cons _ .slnil))) ⟨by rw [show evE os vs x (f + 1) p = (bits .and .i64 (opV (os.getD p oq0) vs (argE (evE os vs x f) (p + 1) (arI (os.getD p oq0).k).toNat).1) (wmK x), (argE (evE os vs x f) (p + 1) (arI (os.getD p oq0).k).toNat).2) from rfl, ← hii, ← hz, hov]; rfl, rfl⟩
 refine zag 1 rfl (zbp [112, 103, 94, 85, 76, 70, 58, 51, 47, 46, 29, 16, 13, 12, 11, 10, 9, 8, 3, 2, 1, 0] rfl (zbu (zaw (zal rfl (zac (zav ?_))))))
 refine zbj rfl rfl rfl rfl rfl rfl (fun h19 => ?_) (fun h19 => ?_)
 ·
  refine zag 1 rfl (zbp [121, 112, 103, 94, 85, 76, 70, 58, 51, 47, 46, 29, 16, 13, 12, 11, 10, 9, 8, 3, 2, 1, 0] rfl (zbu (zaw (zaj rfl (zac ?_)))))
  rcases Bool.eq_false_or_eq_true ((zs.getD 0 0) == (zs.getD 1 0)) with hb20 | hb20
  ·
   have hb20p : zs.getD 0 0 = zs.getD 1 0 := beq_iff_eq.1 hb20
   refine zdp 7 [[], [0], [1], [], [3], [4], [2, 5]] [123, 124, 125, 126, 127, 128, 129] [gt, elP gt ((0 : Int).toNat * 1), .int .i64 (zs.getD 0 0), gt, elP gt ((1 : Int).toNat * 1), .int .i64 (zs.getD 1 0), .bool true] (by kernel_rfl) rfl ?_ ?_
   ·
    refine ⟨?_, ?_, ?_, ?_, ?_, ?_, ?_, trivial⟩
    · exact .inl ⟨rfl, zdd (zax rfl) rfl⟩
    · exact .inl ⟨rfl, zdd (zdg (s := 1) rfl Try.underlying48 (by kernel_rfl) rfl rfl (zao 0 rfl) (by omega) (by omega)) rfl⟩
    · exact .inl ⟨rfl, zdd (zba (u := .int .i64 (zs.getD 0 0)) rfl (by kernel_rfl) rfl (zao 0 rfl) (zcg (show _ < zs.length by omega))) rfl⟩
    · exact .inl ⟨rfl, zdd (zax rfl) rfl⟩
    · exact .inl ⟨rfl, zdd (zdg (s := 1) rfl Try.underlying48 (by kernel_rfl) rfl rfl (zao 0 rfl) (by omega) (by omega)) rfl⟩
    · exact .inl ⟨rfl, zdd (zba (u := .int .i64 (zs.getD 1 0)) rfl (by kernel_rfl) rfl (zao 0 rfl) (zcg (show _ < zs.length by omega))) rfl⟩
    exact .inl ⟨rfl, rq_vb (zgr rfl rfl rfl rfl) hb20⟩
   refine zbp [129, 121, 112, 103, 94, 85, 76, 70, 58, 51, 47, 46, 29, 16, 13, 12, 11, 10, 9, 8, 3, 2, 1, 0] rfl ?_
   simp only [List.drop_succ_cons, List.drop_zero]
   refine zbp [129, 121, 112, 103, 94, 85, 76, 70, 58, 51, 47, 46, 29, 16, 13, 12, 11, 10, 9, 8, 3, 2, 1, 0] rfl (zbu (zaw (zaj rfl (zav (zag 1 rfl (zbp [129, 121, 112, 103, 94, 85, 76, 70, 58, 51, 47, 46, 29, 16, 13, 12, 11, 10, 9, 8, 3, 2, 1, 0] rfl (zbu (zbt (zaw (zac (zav (zag 2 rfl (zfi rfl rfl rfl (zcl rfl (by decide) rfl rfl (r := bits .and .i64 1 (wmK x)) rfl) ?_)))))))))))))
   refine zag 3 rfl (zbp [129, 121, 112, 103, 94, 85, 76, 70, 58, 51, 47, 46, 29, 16, 13, 12, 11, 10, 9, 8, 3, 2, 1, 0] rfl (zbu (zaw ?_)))
   refine zak ?_
   have hii : i = (arI (os.getD p oq0).k).toNat := by omega
   have hov : opV (os.getD p oq0) vs zs = 1 := by unfold opV; (repeat' split) <;> first | rfl | (exfalso; omega) | omega
   exact zca (rs := [.tmp 8, .tmp 9]) (vs := [.int .i64 (bits .and .i64 1 (wmK x)), .int .i64 ((argE (evE os vs x f) (p + 1) i).2 : Int)]) (post := []) rfl ⟨rfl, rfl, trivial⟩ rfl ((.cons _ (.cons _ .slnil))) ⟨by rw [show evE os vs x (f + 1) p = (bits .and .i64 (opV (os.getD p oq0) vs (argE (evE os vs x f) (p + 1) (arI (os.getD p oq0).k).toNat).1) (wmK x), (argE (evE os vs x f) (p + 1) (arI (os.getD p oq0).k).toNat).2) from rfl, ← hii, ← hz, hov]; rfl, rfl⟩
  have hb20p : zs.getD 0 0 ≠ zs.getD 1 0 := beq_eq_false_iff_ne.1 hb20
  refine zdp 7 [[], [0], [1], [], [3], [4], [2, 5]] [123, 124, 125, 126, 127, 128, 129] [gt, elP gt ((0 : Int).toNat * 1), .int .i64 (zs.getD 0 0), gt, elP gt ((1 : Int).toNat * 1), .int .i64 (zs.getD 1 0), .bool false] (by kernel_rfl) rfl ?_ ?_
  ·
   refine ⟨?_, ?_, ?_, ?_, ?_, ?_, ?_, trivial⟩
   · exact .inl ⟨rfl, zdd (zax rfl) rfl⟩
   · exact .inl ⟨rfl, zdd (zdg (s := 1) rfl Try.underlying48 (by kernel_rfl) rfl rfl (zao 0 rfl) (by omega) (by omega)) rfl⟩
   · exact .inl ⟨rfl, zdd (zba (u := .int .i64 (zs.getD 0 0)) rfl (by kernel_rfl) rfl (zao 0 rfl) (zcg (show _ < zs.length by omega))) rfl⟩
   · exact .inl ⟨rfl, zdd (zax rfl) rfl⟩
   · exact .inl ⟨rfl, zdd (zdg (s := 1) rfl Try.underlying48 (by kernel_rfl) rfl rfl (zao 0 rfl) (by omega) (by omega)) rfl⟩
   · exact .inl ⟨rfl, zdd (zba (u := .int .i64 (zs.getD 1 0)) rfl (by kernel_rfl) rfl (zao 0 rfl) (zcg (show _ < zs.length by omega))) rfl⟩
   exact .inl ⟨rfl, rq_vb (zgr rfl rfl rfl rfl) hb20⟩
  refine zbp [129, 121, 112, 103, 94, 85, 76, 70, 58, 51, 47, 46, 29, 16, 13, 12, 11, 10, 9, 8, 3, 2, 1, 0] rfl ?_
  simp only [List.drop_succ_cons, List.drop_zero]
  refine zbp [129, 121, 112, 103, 94, 85, 76, 70, 58, 51, 47, 46, 29, 16, 13, 12, 11, 10, 9, 8, 3, 2, 1, 0] rfl (zbu (zaw (zal rfl (zgo (zbt (zaw (zac (zav (zag 2 rfl (zfi rfl rfl rfl (zcl rfl (by decide) rfl rfl (r := bits .and .i64 0 (wmK x)) rfl) (zag 3 rfl (zbp [129, 121, 112, 103, 94, 85, 76, 70, 58, 51, 47, 46, 29, 16, 13, 12, 11, 10, 9, 8, 3, 2, 1, 0] rfl (zbu ?_)))))))))))))
  refine zaw ?_
  refine zak ?_
  have hii : i = (arI (os.getD p oq0).k).toNat := by omega
  have hov : opV (os.getD p oq0) vs zs = 0 := by unfold opV; (repeat' split) <;> first | rfl | (exfalso; omega) | omega
  exact zca (rs := [.tmp 8, .tmp 9]) (vs := [.int .i64 (bits .and .i64 0 (wmK x)), .int .i64 ((argE (evE os vs x f) (p + 1) i).2 : Int)]) (post := []) rfl ⟨rfl, rfl, trivial⟩ rfl ((.cons _ (.cons _ .slnil))) ⟨by rw [show evE os vs x (f + 1) p = (bits .and .i64 (opV (os.getD p oq0) vs (argE (evE os vs x f) (p + 1) (arI (os.getD p oq0).k).toNat).1) (wmK x), (argE (evE os vs x f) (p + 1) (arI (os.getD p oq0).k).toNat).2) from rfl, ← hii, ← hz, hov]; rfl, rfl⟩
 refine zag 1 rfl (zbp [121, 112, 103, 94, 85, 76, 70, 58, 51, 47, 46, 29, 16, 13, 12, 11, 10, 9, 8, 3, 2, 1, 0] rfl (zbu (zaw (zal rfl (zac (zav ?_))))))
 refine zbj rfl rfl rfl rfl rfl rfl (fun h21 => ?_) (fun h21 => ?_)
 ·
  refine zag 1 rfl (zbp [130, 121, 112, 103, 94, 85, 76, 70, 58, 51, 47, 46, 29, 16, 13, 12, 11, 10, 9, 8, 3, 2, 1, 0] rfl (zbu (zaw (zaj rfl (zac ?_)))))
  rcases Bool.eq_false_or_eq_true (decide (zs.getD 0 0 < zs.getD 1 0)) with hb22 | hb22
  ·
   have hb22p : zs.getD 0 0 < zs.getD 1 0 := of_decide_eq_true hb22
   refine zdp 7 [[], [0], [1], [], [3], [4], [2, 5]] [132, 133, 134, 135, 136, 137, 138] [gt, elP gt ((0 : Int).toNat * 1), .int .i64 (zs.getD 0 0), gt, elP gt ((1 : Int).toNat * 1), .int .i64 (zs.getD 1 0), .bool true] (by kernel_rfl) rfl ?_ ?_
   ·
    refine ⟨?_, ?_, ?_, ?_, ?_, ?_, ?_, trivial⟩
    · exact .inl ⟨rfl, zdd (zax rfl) rfl⟩
    · exact .inl ⟨rfl, zdd (zdg (s := 1) rfl Try.underlying48 (by kernel_rfl) rfl rfl (zao 0 rfl) (by omega) (by omega)) rfl⟩
    · exact .inl ⟨rfl, zdd (zba (u := .int .i64 (zs.getD 0 0)) rfl (by kernel_rfl) rfl (zao 0 rfl) (zcg (show _ < zs.length by omega))) rfl⟩
    · exact .inl ⟨rfl, zdd (zax rfl) rfl⟩
    · exact .inl ⟨rfl, zdd (zdg (s := 1) rfl Try.underlying48 (by kernel_rfl) rfl rfl (zao 0 rfl) (by omega) (by omega)) rfl⟩
    · exact .inl ⟨rfl, zdd (zba (u := .int .i64 (zs.getD 1 0)) rfl (by kernel_rfl) rfl (zao 0 rfl) (zcg (show _ < zs.length by omega))) rfl⟩
    exact .inl ⟨rfl, rq_vb (zgr rfl rfl rfl rfl) hb22⟩
   refine zbp [138, 130, 121, 112, 103, 94, 85, 76, 70, 58, 51, 47, 46, 29, 16, 13, 12, 11, 10, 9, 8, 3, 2, 1, 0] rfl ?_
   simp only [List.drop_succ_cons, List.drop_zero]
   refine zbp [138, 130, 121, 112, 103, 94, 85, 76, 70, 58, 51, 47, 46, 29, 16, 13, 12, 11, 10, 9, 8, 3, 2, 1, 0] rfl (zbu (zaw (zaj rfl (zav (zag 1 rfl (zbp [138, 130, 121, 112, 103, 94, 85, 76, 70, 58, 51, 47, 46, 29, 16, 13, 12, 11, 10, 9, 8, 3, 2, 1, 0] rfl (zbu (zbt (zaw (zac (zav (zag 2 rfl (zfi rfl rfl rfl (zcl rfl (by decide) rfl rfl (r := bits .and .i64 1 (wmK x)) rfl) ?_)))))))))))))
   refine zag 3 rfl (zbp [138, 130, 121, 112, 103, 94, 85, 76, 70, 58, 51, 47, 46, 29, 16, 13, 12, 11, 10, 9, 8, 3, 2, 1, 0] rfl (zbu (zaw ?_)))
   refine zak ?_
   have hii : i = (arI (os.getD p oq0).k).toNat := by omega
   have hov : opV (os.getD p oq0) vs zs = 1 := by unfold opV; (repeat' split) <;> first | rfl | (exfalso; omega) | omega
   exact zca (rs := [.tmp 8, .tmp 9]) (vs := [.int .i64 (bits .and .i64 1 (wmK x)), .int .i64 ((argE (evE os vs x f) (p + 1) i).2 : Int)]) (post := []) rfl ⟨rfl, rfl, trivial⟩ rfl ((.cons _ (.cons _ .slnil))) ⟨by rw [show evE os vs x (f + 1) p = (bits .and .i64 (opV (os.getD p oq0) vs (argE (evE os vs x f) (p + 1) (arI (os.getD p oq0).k).toNat).1) (wmK x), (argE (evE os vs x f) (p + 1) (arI (os.getD p oq0).k).toNat).2) from rfl, ← hii, ← hz, hov]; rfl, rfl⟩
  have hb22p : ¬ (zs.getD 0 0 < zs.getD 1 0) := of_decide_eq_false hb22
  refine zdp 7 [[], [0], [1], [], [3], [4], [2, 5]] [132, 133, 134, 135, 136, 137, 138] [gt, elP gt ((0 : Int).toNat * 1), .int .i64 (zs.getD 0 0), gt, elP gt ((1 : Int).toNat * 1), .int .i64 (zs.getD 1 0), .bool false] (by kernel_rfl) rfl ?_ ?_
  ·
   refine ⟨?_, ?_, ?_, ?_, ?_, ?_, ?_, trivial⟩
   · exact .inl ⟨rfl, zdd (zax rfl) rfl⟩
   · exact .inl ⟨rfl, zdd (zdg (s := 1) rfl Try.underlying48 (by kernel_rfl) rfl rfl (zao 0 rfl) (by omega) (by omega)) rfl⟩
   · exact .inl ⟨rfl, zdd (zba (u := .int .i64 (zs.getD 0 0)) rfl (by kernel_rfl) rfl (zao 0 rfl) (zcg (show _ < zs.length by omega))) rfl⟩
   · exact .inl ⟨rfl, zdd (zax rfl) rfl⟩
   · exact .inl ⟨rfl, zdd (zdg (s := 1) rfl Try.underlying48 (by kernel_rfl) rfl rfl (zao 0 rfl) (by omega) (by omega)) rfl⟩
   · exact .inl ⟨rfl, zdd (zba (u := .int .i64 (zs.getD 1 0)) rfl (by kernel_rfl) rfl (zao 0 rfl) (zcg (show _ < zs.length by omega))) rfl⟩
   exact .inl ⟨rfl, rq_vb (zgr rfl rfl rfl rfl) hb22⟩
  refine zbp [138, 130, 121, 112, 103, 94, 85, 76, 70, 58, 51, 47, 46, 29, 16, 13, 12, 11, 10, 9, 8, 3, 2, 1, 0] rfl ?_
  simp only [List.drop_succ_cons, List.drop_zero]
  refine zbp [138, 130, 121, 112, 103, 94, 85, 76, 70, 58, 51, 47, 46, 29, 16, 13, 12, 11, 10, 9, 8, 3, 2, 1, 0] rfl (zbu (zaw (zal rfl (zgo (zbt (zaw (zac (zav (zag 2 rfl (zfi rfl rfl rfl (zcl rfl (by decide) rfl rfl (r := bits .and .i64 0 (wmK x)) rfl) (zag 3 rfl (zbp [138, 130, 121, 112, 103, 94, 85, 76, 70, 58, 51, 47, 46, 29, 16, 13, 12, 11, 10, 9, 8, 3, 2, 1, 0] rfl (zbu ?_)))))))))))))
  refine zaw ?_
  refine zak ?_
  have hii : i = (arI (os.getD p oq0).k).toNat := by omega
  have hov : opV (os.getD p oq0) vs zs = 0 := by unfold opV; (repeat' split) <;> first | rfl | (exfalso; omega) | omega
  exact zca (rs := [.tmp 8, .tmp 9]) (vs := [.int .i64 (bits .and .i64 0 (wmK x)), .int .i64 ((argE (evE os vs x f) (p + 1) i).2 : Int)]) (post := []) rfl ⟨rfl, rfl, trivial⟩ rfl ((.cons _ (.cons _ .slnil))) ⟨by rw [show evE os vs x (f + 1) p = (bits .and .i64 (opV (os.getD p oq0) vs (argE (evE os vs x f) (p + 1) (arI (os.getD p oq0).k).toNat).1) (wmK x), (argE (evE os vs x f) (p + 1) (arI (os.getD p oq0).k).toNat).2) from rfl, ← hii, ← hz, hov]; rfl, rfl⟩
 refine zag 1 rfl (zbp [130, 121, 112, 103, 94, 85, 76, 70, 58, 51, 47, 46, 29, 16, 13, 12, 11, 10, 9, 8, 3, 2, 1, 0] rfl (zbu (zaw (zal rfl (zac (zav ?_))))))
 refine zbj rfl rfl rfl rfl rfl rfl (fun h23 => ?_) (fun h23 => ?_)
 ·
  refine zag 1 rfl (zbp [139, 130, 121, 112, 103, 94, 85, 76, 70, 58, 51, 47, 46, 29, 16, 13, 12, 11, 10, 9, 8, 3, 2, 1, 0] rfl (zbu (zaw (zaj rfl (zac (zav (zag 1 rfl (zfi rfl rfl rfl (zdg (s := 1) rfl Try.underlying48 (by kernel_rfl) rfl rfl (zao 0 rfl) (by omega) (by omega)) (zfi rfl rfl rfl (zba (u := .int .i64 (zs.getD 2 0)) rfl (by kernel_rfl) rfl (zao 0 rfl) (zcg (show _ < zs.length by omega))) (zag 1 rfl (zbp [139, 130, 121, 112, 103, 94, 85, 76, 70, 58, 51, 47, 46, 29, 16, 13, 12, 11, 10, 9, 8, 3, 2, 1, 0] rfl (zbu (zaw ?_)))))))))))))
  refine zac (zav (zag 1 rfl (zfi rfl rfl rfl (zdg (s := 1) rfl Try.underlying48 (by kernel_rfl) rfl rfl (zao 0 rfl) (by omega) (by omega)) (zfi rfl rfl rfl (zba (u := .int .i64 (zs.getD 0 0)) rfl (by kernel_rfl) rfl (zao 0 rfl) (zcg (show _ < zs.length by omega))) ?_))))
  refine hl_neq rfl rfl rfl rfl rfl rfl (fun h24 => ?_) (fun h24 => ?_)
  ·
   refine zbp [147, 139, 130, 121, 112, 103, 94, 85, 76, 70, 58, 51, 47, 46, 29, 16, 13, 12, 11, 10, 9, 8, 3, 2, 1, 0] rfl (zbu (zaw (zaj rfl (zav (zag 1 rfl (zfi rfl rfl rfl (zdg (s := 1) rfl Try.underlying48 (by kernel_rfl) rfl rfl (zao 0 rfl) (by omega) (by omega)) (zfi rfl rfl rfl (zba (u := .int .i64 (zs.getD 1 0)) rfl (by kernel_rfl) rfl (zao 0 rfl) (zcg (show _ < zs.length by omega))) (zag 1 rfl (zbp [147, 139, 130, 121, 112, 103, 94, 85, 76, 70, 58, 51, 47, 46, 29, 16, 13, 12, 11, 10, 9, 8, 3, 2, 1, 0] rfl (zbu (zbt (zaw (zac ?_)))))))))))))
   refine zav (zag 2 rfl (zfi rfl rfl rfl (zcl rfl (by decide) rfl rfl (r := bits .and .i64 (zs.getD 1 0) (wmK x)) rfl) (zag 3 rfl (zbp [147, 139, 130, 121, 112, 103, 94, 85, 76, 70, 58, 51, 47, 46, 29, 16, 13, 12, 11, 10, 9, 8, 3, 2, 1, 0] rfl (zbu (zaw ?_))))))
   refine zak ?_
   have hii : i = (arI (os.getD p oq0).k).toNat := by omega
   have hov : opV (os.getD p oq0) vs zs = zs.getD 1 0 := by unfold opV; (repeat' split) <;> first | rfl | (exfalso; omega) | omega
   exact zca (rs := [.tmp 8, .tmp 9]) (vs := [.int .i64 (bits .and .i64 (zs.getD 1 0) (wmK x)), .int .i64 ((argE (evE os vs x f) (p + 1) i).2 : Int)]) (post := []) rfl ⟨rfl, rfl, trivial⟩ rfl ((.cons _ (.cons _ .slnil))) ⟨by rw [show evE os vs x (f + 1) p = (bits .and .i64 (opV (os.getD p oq0) vs (argE (evE os vs x f) (p + 1) (arI (os.getD p oq0).k).toNat).1) (wmK x), (argE (evE os vs x f) (p + 1) (arI (os.getD p oq0).k).toNat).2) from rfl, ← hii, ← hz, hov]; rfl, rfl⟩
  refine zbp [147, 139, 130, 121, 112, 103, 94, 85, 76, 70, 58, 51, 47, 46, 29, 16, 13, 12, 11, 10, 9, 8, 3, 2, 1, 0] rfl (zbu (zaw (zal rfl (zgo (zbt (zaw (zac (zav (zag 2 rfl (zfi rfl rfl rfl (zcl rfl (by decide) rfl rfl (r := bits .and .i64 (zs.getD 2 0) (wmK x)) rfl) (zag 3 rfl (zbp [147, 139, 130, 121, 112, 103, 94, 85, 76, 70, 58, 51, 47, 46, 29, 16, 13, 12, 11, 10, 9, 8, 3, 2, 1, 0] rfl (zbu ?_)))))))))))))
  refine zaw ?_
  refine zak ?_
  have hii : i = (arI (os.getD p oq0).k).toNat := by omega
  have hov : opV (os.getD p oq0) vs zs = zs.getD 2 0 := by unfold opV; (repeat' split) <;> first | rfl | (exfalso; omega) | omega
  exact zca (rs := [.tmp 8, .tmp 9]) (vs := [.int .i64 (bits .and .i64 (zs.getD 2 0) (wmK x)), .int .i64 ((argE (evE os vs x f) (p + 1) i).2 : Int)]) (post := []) rfl ⟨rfl, rfl, trivial⟩ rfl ((.cons _ (.cons _ .slnil))) ⟨by rw [show evE os vs x (f + 1) p = (bits .and .i64 (opV (os.getD p oq0) vs (argE (evE os vs x f) (p + 1) (arI (os.getD p oq0).k).toNat).1) (wmK x), (argE (evE os vs x f) (p + 1) (arI (os.getD p oq0).k).toNat).2) from rfl, ← hii, ← hz, hov]; rfl, rfl⟩
 refine zag 1 rfl (zbp [139, 130, 121, 112, 103, 94, 85, 76, 70, 58, 51, 47, 46, 29, 16, 13, 12, 11, 10, 9, 8, 3, 2, 1, 0] rfl (zbu (zaw (zal rfl (zgo (zbt (zaw (zac (zav (zag 2 rfl (zfi rfl rfl rfl (zcl rfl (by decide) rfl rfl (r := bits .and .i64 0 (wmK x)) rfl) (zag 3 rfl (zbp [139, 130, 121, 112, 103, 94, 85, 76, 70, 58, 51, 47, 46, 29, 16, 13, 12, 11, 10, 9, 8, 3, 2, 1, 0] rfl ?_)))))))))))))
 refine zbu (zaw ?_)
 refine zak ?_
 have hii : i = (arI (os.getD p oq0).k).toNat := by omega
 have hov : opV (os.getD p oq0) vs zs = 0 := by unfold opV; (repeat' split) <;> first | rfl | (exfalso; omega) | omega
 exact zca (rs := [.tmp 8, .tmp 9]) (vs := [.int .i64 (bits .and .i64 0 (wmK x)), .int .i64 ((argE (evE os vs x f) (p + 1) i).2 : Int)]) (post := []) rfl ⟨rfl, rfl, trivial⟩ rfl ((.cons _ (.cons _ .slnil))) ⟨by rw [show evE os vs x (f + 1) p = (bits .and .i64 (opV (os.getD p oq0) vs (argE (evE os vs x f) (p + 1) (arI (os.getD p oq0).k).toNat).1) (wmK x), (argE (evE os vs x f) (p + 1) (arI (os.getD p oq0).k).toNat).2) from rfl, ← hii, ← hz, hov]; rfl, rfl⟩
def ExM (w : World) (n : Nt) (sv : Value) (rs : List CRow) (vO : Value) (os : List Oq) : Prop := (RdsW w n.sv 3 n.ss.length (n.ss.flatMap sqC) ∧ (∀ s ∈ n.ss, RdsW w s.iv 1 s.xs.length (s.xs.map (Value.int .i64))) ∧ RdsW w n.ov 1 n.os.length (n.os.map (Value.int .i64))) ∧ (RdsW w sv 1 rs.length (rs.flatMap crowC) ∧ RdsAll w rs) ∧ RdsW w vO 3 os.length (os.flatMap oqC)
abbrev EX9 (b : Nat) (n : Nt) (c : Nat) (sv : Value) (W : Nat) (rs : List CRow) (os : List Oq) (g : List An) (bd : Bool) (q f : Nat) (u_ : Value) (p_ : HP) : Prop := ∃ (v_ : Value) (g_ : List An) (bd_ : Bool) (zs : List Int) (zv : Value), u_ = .tuple #[zv, .int .i64 (enX os f q : Int)] ∧ p_ = bigE [adP b n c sv (W : Int) v_ g_ bd_, rI9 3 zv zs] ∧ Ext n g g_ ∧ LsOk n g_ zs ∧ zs.length = W ∧ AdR (bd = true) (bd_ = true) (exX n.fst W (rs.map CRow.xs) os f q g) (g_, zs)
theorem xs_at (ar : List CRow) (k : Nat) : (ar.map CRow.xs).getD k [] = (ar.getD k crow0).xs := by
  rw [List.getD_eq_getElem?_getD, List.getElem?_map, List.getD_eq_getElem?_getD]
  cases ar[k]? <;> rfl
theorem zgp {b0 b1 b2 : Prop} {f : Int} {W : Nat} {sg : List (List Int)} {os : List Oq} {u p i : Nat} {g : List An} {s : List An × List (List Int)} {r : GL} (hii : i = (arI (os.getD p oq0).k).toNat) (h : AdR b0 b1 (argO (exX f W sg os u) (enX os u) (p + 1) g i) s) (k : AdR b1 b2 (finO f W sg (os.getD p oq0) s) r) : AdR b0 b2 (exX f W sg os (u + 1) p g) r := by subst hii; exact h.bind k
section
variable {f : Int} {W : Nat} {sg : List (List Int)} {o : Oq} {g : List An} {ar : List CRow} {b0 b1 : Prop} {r : GL}
theorem fin_leaf (h : arI o.k = 0) : AdR b0 b0 (finO f W sg o (g, ar.map CRow.xs)) (g, lfL sg o W) := by unfold finO; rw [if_pos h]; exact AdR.refl
theorem fin_not (h : o.k = 4) : AdR b0 b0 (finO f W sg o (g, ar.map CRow.xs)) (g, (ar.getD 0 crow0).xs.map xr) := by
  unfold finO; rw [if_neg (by rw [h]; decide), if_pos h, ← xs_at]; exact AdR.refl
theorem fin_mux (h : o.k = 12) (k : AdR b0 b1 (thO f (ar.getD 0 crow0).xs (ar.getD 1 crow0).xs (ar.getD 2 crow0).xs W g) r) : AdR b0 b1 (finO f W sg o (g, ar.map CRow.xs)) r := by
  unfold finO; rw [if_neg (by rw [h]; decide), if_neg (by omega), if_pos h]; dsimp only; rw [xs_at, xs_at, xs_at]; exact k
theorem fin_two (h : 5 ≤ o.k ∧ o.k ≤ 11) (k : AdR b0 b1 (twO f o.k (ar.getD 0 crow0).xs (ar.getD 1 crow0).xs W g) r) : AdR b0 b1 (finO f W sg o (g, ar.map CRow.xs)) r := by
  have h0 : arI o.k ≠ 0 := by have := (arI_cases o.k).2.1 h; omega
  unfold finO; rw [if_neg h0, if_neg (by omega), if_neg (by omega)]; dsimp only; rw [xs_at, xs_at]; exact k
theorem SgOk.ext {n : Nt} {g g' : List An} {sg : List (List Int)} (h : SgOk n g sg) (e : Ext n g g') : SgOk n g' sg := ⟨fun s hs => ⟨(h.lt s hs).1.ext e, (h.lt s hs).2⟩⟩
theorem ls_small {n : Nt} {g : List An} {xs : List Int} (hn : NtOk (withG n g)) (h : LsOk n g xs) : ∀ x ∈ xs, 0 ≤ x ∧ x < 4294967296 := fun x hx => by
  have h1 := h x hx
  have hi1 : n.ins ≤ 20 := hn.i1
  have hs1 : n.ss.length ≤ 12 := hn.s1
  have hf : n.fst = 1 + n.ins + n.ss.length := rfl
  have hg : g.length ≤ 300 := hn.a1
  obtain ⟨h2, h3⟩ := h1
  omega
theorem ar_ls {n : Nt} {ar : List CRow} {zv : Value} {zs : List Int} {g g' : List An} {W : Nat} (h : ∀ r ∈ ar, LsOk n g r.xs ∧ r.xs.length = W) (e : Ext n g g') (hz : LsOk n g' zs) (hl : zs.length = W) : ∀ r ∈ ar ++ [CRow.mk zv zs], LsOk n g' r.xs ∧ r.xs.length = W := fun r hr => by
  rcases List.mem_append.1 hr with hr | hr
  · exact ⟨(h r hr).1.ext e, (h r hr).2⟩
  · rw [List.mem_singleton] at hr; subst hr; exact ⟨hz, hl⟩
end
theorem addExpr_step (b c : Nat) (n : Nt) (sv : Value) (W : Nat) (v : Value) (g : List An) (bad : Bool) (rs : List CRow) (os : List Oq) (vO : Value) (f p : Nat) (w0 : World) (l : List HP) (w : World) (hm0 : Mem w0 (adP b n c sv W v g bad :: l) w) (hn : NtOk (withG n g)) (hS : SgOk n g (rs.map CRow.xs)) (hq : ∀ w, Mem w0 l w → ExM w n sv rs vO os) (hone : n.sv.oneCell' = true ∧ n.ov.oneCell' = true) (hsv : sv.oneCell' = true) (hW : 1 ≤ W ∧ W ≤ 4) (hok : OpsP (rs.map CRow.xs).length os) (hp : p < os.length) (hpf : os.length - p ≤ f + 1) (h1k : ∀ i, i < os.length → (os.getD i oq0).k ≠ 1) (IH : ∀ (q : Nat) (v2 : Value) (g2 : List An) (bad2 : Bool) (l2 : List HP) (w2 : World), p < q → q < os.length → NtOk (withG n g2) → SgOk n g2 (rs.map CRow.xs) → (∀ w, Mem w0 l2 w → ExM w n sv rs vO os) → Mem w0 (adP b n c sv W v2 g2 bad2 :: l2) w2 → Calls Try.prog 97 #[.pointer (some ⟨c, 0, none⟩), vO, .int .i64 (q : Int)] w2 (fun e_ w_ => ∃ v' p_', e_ = .returned v' ∧ (fun u_ p_ => EX9 b n c sv W rs os g2 bad2 q f u_ p_) v' p_' ∧ Mem w0 (p_' :: l2) w_)) :
   Calls Try.prog 97 #[.pointer (some ⟨c, 0, none⟩), vO, .int .i64 (p : Int)] w (fun e_ w_ => ∃ v_ p_, e_ = .returned v_ ∧ (fun u_ p_ => EX9 b n c sv W rs os g bad p (f + 1) u_ p_) v_ p_ ∧ Mem w0 (p_ :: l) w_) := by
 have hi0 : 0 ≤ n.ins := hn.i0
 have hi1 : n.ins ≤ 20 := hn.i1
 have hs1 : n.ss.length ≤ 12 := hn.s1
 have hf : n.fst = 1 + n.ins + n.ss.length := rfl
 have hso := fun (w : World) (hm : Mem w0 l w) => (hq w hm).1
 have hl15 := hok.len
 have har0 := arI_val hok hp
 have hop1 := (hok.op p hp).2
 have hop0 := hop1
 rw [List.length_map] at hop0
 have harc := ar_cases (k := (os.getD p oq0).k) (by omega)
 refine zdk (N := 203) (args := [.pointer (some ⟨c, 0, none⟩), vO, .int .i64 (p : Int)]) Try.func97 rfl rfl hm0 (zbn 2 rfl (zac (reQ 2 rfl ?_)))
 refine hvQ rfl (riQ 3 rfl rfl rfl rfl (fun w hm => (hq w (hm.sub ((.cons _ (.refl _))))).2.2)) (hvQ rfl (zda (us := [.int .i64 ((os.getD p oq0).k), .int .i64 ((os.getD p oq0).a), .int .i64 ((os.getD p oq0).b)]) rfl rfl rfl rfl (fun w hm => (hq w (hm.sub ((.cons _ (.refl _))))).2.2) (by omega) rfl (zdt oqC 3 (fun _ => rfl) os oq0 (show p < _ by omega) rfl)) ?_)
 refine zed rfl (zcc (z := .agg #[.int .i64 0, .int .i64 0, .int .i64 0]) rfl rfl) ?_
 intro b1
 refine zbm (cs' := #[.int .i64 ((os.getD p oq0).k), .int .i64 ((os.getD p oq0).a), .int .i64 ((os.getD p oq0).b)]) (i := 0) (off := 0) (us := [.int .i64 ((os.getD p oq0).k), .int .i64 ((os.getD p oq0).a), .int .i64 ((os.getD p oq0).b)]) rfl rfl rfl rfl rfl rfl rfl (zaa rfl (zaa rfl (zaa rfl zbe))) rfl rfl rfl (ntQ (zac (reQ 1 rfl (hvQ rfl (vaQ rfl rfl rfl) (zbc 1 rfl (srQ ?_))))))
 refine zgt 48 1 (zbc 1 rfl (zac (zbn 1 rfl (zbf ?_))))
 refine zeo _ zfq ?_
 refine hc_loop5 (α := Nat) (β := ASt) (γ := List CRow) (δ := Value) (fun i r ar av ps => (bigE ps :: rS9 48 1 av ar crowC :: boxE b1 #[.int .i64 ((os.getD p oq0).k), .int .i64 ((os.getD p oq0).a), .int .i64 ((os.getD p oq0).b)] 97 :: adP b n c sv W r.v r.g r.bad :: l)) (fun i r ar av ps => [(0, .pointer (some ⟨c, 0, none⟩)), (1, vO), (2, .int .i64 ((posA (enX os f) (p + 1) i) : Int)), (6, .slice none 0 0), (7, .int .i64 0), (8, .pointer (some ⟨b1, 0, none⟩)), (9, av), (10, .int .i64 (i : Int))]) (fun i r ar av ps => (i : Int) ≤ arI (os.getD p oq0).k ∧ Ext n g r.g ∧ ar.length = i ∧ (∀ q ∈ ar, LsOk n r.g q.xs ∧ q.xs.length = W) ∧ (∀ w, (bigE ps).holds w → RdsAll w ar) ∧ AdR (bad = true) (r.bad = true) (argO (exX n.fst W (rs.map CRow.xs) os f) (enX os f) (p + 1) g i) (r.g, ar.map CRow.xs)) (fun i r ar av ps => (arI (os.getD p oq0).k).toNat - i) 0 ⟨v, g, bad, [], .slice none 0 0, 0⟩ [] _ [] ⟨by omega, Ext.refl hn, rfl, (fun q hq => by cases hq), fun w _ => RdsAll.nil w, AdR.refl⟩ (zae [10, 9, 8, 7, 6, 2, 1, 0] rfl) (.refl _) ?_
 intro i r ar av ps hi3
 obtain ⟨hi, hE, hal, hls, hps, hRd⟩ := hi3
 have hpo := posA_ok hok hpf hp i hi
 have hpl := fun h9 => posA_lt hok hpf hp i h9
 have hql : r.g.length ≤ 300 := hE.ok.a1
 refine zac (zac (reQ 1 rfl (hvQ rfl (fdQ 0 rfl rfl rfl) (hvQ rfl (zan rfl rfl rfl (zai 2 rfl rfl)) ?_))))
 refine zdu rfl (zam rfl rfl (fun w hm => zbb (zgc ((os.getD p oq0).k) w))) (zcb rfl rfl rfl rfl rfl rfl (fun h4 => ?_) (fun h4 => ?_))
 ·
  refine ntQ (zaj rfl (zdb (sbQ (zac (reQ 3 rfl ?_)))))
  refine zcz (R := (fun u_ p_ => EX9 b n c sv W rs os r.g r.bad (posA (enX os f) (p + 1) i) f u_ p_)) 3 rfl rfl rfl rfl rfl (fun L w hX hm => IH (posA (enX os f) (p + 1) i) r.v r.g r.bad _ _ (by omega) (hpl (by omega)) hE.ok (SgOk.ext hS hE) (fun w h => hq w ((hX w h).sub (.cons _ (.cons _ (.cons _ (.refl _)))))) hm) ?_
  intro v5 p6 hR7
  obtain ⟨vhR7, ghR7, bdhR7, zshR7, zvhR7, rfl, rfl, exhR7, lshR7, zlhR7, adhR7⟩ := hR7
  refine zck (l' := (bigE ps :: rS9 48 1 av ar crowC :: boxE b1 #[.int .i64 ((os.getD p oq0).k), .int .i64 ((os.getD p oq0).a), .int .i64 ((os.getD p oq0).b)] 97 :: bigE [adP b n c sv (W : Int) vhR7 ghR7 bdhR7, rI9 3 zvhR7 zshR7] :: l)) rfl ?_
  refine zag 1 rfl (zew 4 [2, 1, 0, 3] rfl rfl (by decide) ?_)
  refine zfa (adP b n c sv W vhR7 ghR7 bdhR7 :: rI9 3 zvhR7 zshR7 :: bigE ps :: rS9 48 1 av ar crowC :: boxE b1 #[.int .i64 ((os.getD p oq0).k), .int .i64 ((os.getD p oq0).a), .int .i64 ((os.getD p oq0).b)] 97 :: l) zdv ?_
  refine zbc 4 rfl (zac (reQ 2 rfl ?_))
  refine zey rfl (zgh rfl Try.underlying44 (by kernel_rfl) rfl (fun w hm => (zao 1 rfl w hm).one)) ?_
  intro g8
  refine zcr (i := 2) rfl (fun ho9 => ?_)
  refine zdc (i := 4) (z := .slice none 0 0) (bytes := 24) rfl rfl rfl rfl Try.underlying44 (by kernel_rfl) rfl rfl rfl rfl (zao 0 rfl) (zaa ho9 zbe) (by first | omega | (simp only [List.length_append, List.length_cons, List.length_nil]; omega)) (zco ar [(CRow.mk zvhR7 zshR7)]) (zei crowC ar (CRow.mk zvhR7 zshR7) _ rfl) (fun _ => rfl) ?_
  intro v10
  refine zbc 1 rfl (zav (enQ 2 rfl (zdn (reQ 1 rfl (hvQ rfl (vaQ rfl rfl rfl) (zag 1 rfl ?_))))))
  refine zbu (zaz 6 [5, 4, 1, 2, 3] rfl rfl (by decide) ?_)
  refine zbk 2 rfl ?_
  refine zaz 4 [1, 3, 2, 0] rfl rfl (by decide) ?_
  exact hq_round5 (i + 1) ⟨vhR7, ghR7, bdhR7, [], .slice none 0 0, 0⟩ (ar ++ [(CRow.mk zvhR7 zshR7)]) v10 [bigE ps, rI9 3 zvhR7 zshR7] ⟨by omega, hE.trans exhR7, by rw [List.length_append, List.length_singleton]; omega, ar_ls hls exhR7 lshR7 zlhR7, fun w hw => RdsAll.cons (u := CRow.mk zvhR7 zshR7) (hps w (zau hw List.mem_cons_self)) (zbh (zau hw (List.mem_cons_of_mem _ List.mem_cons_self))) (fun q hq => (List.mem_append.1 hq).elim .inr (fun h => .inl (List.mem_singleton.1 h))), by rw [List.map_append]; exact AdR.arg hRd adhR7⟩ (by omega) (zae [10, 9, 8, 7, 6, 2, 1, 0] rfl) (.refl _)
 refine ntQ (zal rfl ?_)
 refine zby (zes ?_)
 refine zat (zaw (zac (zac (reQ 1 rfl (hvQ rfl (lnQ rfl rfl rfl (zao 1 rfl)) ?_)))))
 refine zbj rfl rfl rfl rfl rfl rfl (fun h11 => ?_) (fun h11 => ?_)
 ·
  refine ntQ (zaj rfl (zac (reQ 1 rfl (hvQ rfl (zar (cs := [.int .i64 ((os.getD p oq0).k), .int .i64 ((os.getD p oq0).a), .int .i64 ((os.getD p oq0).b)]) rfl rfl rfl rfl rfl (zah 2 rfl 0 rfl)) ?_))))
  refine zfg rfl rfl rfl (zam rfl rfl (fun w hm => leaf_ret b c sv W false rs (os.getD p oq0) w (ad_rd (hm.holds _ (zbr (i := 3) rfl))).1 (ad_rd (hm.holds _ (zbr (i := 3) rfl))).2.1 (ad_rd (hm.holds _ (zbr (i := 3) rfl))).2.2 (hq w (hm.sub ((.cons _ (.cons _ (.cons _ (.cons _ (.refl _)))))))).2.1.1 (hq w (hm.sub ((.cons _ (.cons _ (.cons _ (.cons _ (.refl _)))))))).2.1.2 hW hop0 (by omega) (h1k p hp))) ?_
  intro v12 p13 hR14
  subst hR14
  refine zbc 3 rfl ?_
  refine zak (zad ?_)
  have hii : i = (arI (os.getD p oq0).k).toNat := by omega
  refine zaz 5 [3, 2, 1, 0, 4] rfl rfl (by decide) ?_
  refine zbk 2 rfl ?_
  have hpe : ((posA (enX os f) (p + 1) i) : Int) = (enX os (f + 1) p : Int) := by rw [hii]; rfl
  exact zcf (rs := [.tmp 6, .tmp 7]) (vs := [v12, .int .i64 ((posA (enX os f) (p + 1) i) : Int)]) rfl ⟨rfl, rfl, trivial⟩ rfl (fun w hm => ⟨_, bigE [adP b n c sv W r.v r.g r.bad, rowE 3 1 v12 ((lfL (rs.map CRow.xs) (os.getD p oq0) W).length) ((lfL (rs.map CRow.xs) (os.getD p oq0) W).map (Value.int .i64))], rfl, ⟨_, _, _, _, _, (by rw [hpe]; rfl), rfl, hE, (leaf_bits hW hn hE hS hop1 (by omega) (h1k p hp)).1, lf_len _ _ _, zgp hii hRd (fin_leaf (by omega))⟩, hm.sub (.cons_cons _ (.cons _ (.cons _ (.cons _ (.refl _)))))⟩)
 refine ntQ (zal rfl (zdb (srQ ?_)))
 refine zgt 3 1 (zbc 1 rfl (zgk (hvQ rfl (fdQ 0 rfl rfl rfl) (hvQ rfl (zan rfl rfl rfl (zai 3 rfl rfl)) (ntQ (zbf (zac ?_)))))))
 refine zav (zbj rfl rfl rfl rfl rfl rfl (fun h16 => ?_) (fun h16 => ?_))
 ·
  refine zbc 1 rfl (zaj rfl (zav ?_))
  have hA0 := hls _ (zdj (es := ar) (i := 0) (d := crow0) (by omega))
  have hAl0 : ((ar.getD 0 crow0).xs).length = W := hA0.2
  refine zag 1 rfl (hvQ rfl (riQ 1 rfl rfl rfl rfl (zao 2 rfl)) ?_)
  refine hvQ rfl (zba (u := (ar.getD 0 crow0).v) rfl rfl rfl (zao 2 rfl) (zcv crowC (fun r => r.v) (fun _ => rfl) ar crow0 (show 0 < _ by omega))) (zfg rfl rfl rfl (zam rfl rfl (fun w hm => complements_ret ((ar.getD 0 crow0).xs) _ w ((fun w hm => (hps w (hm.holds _ (zbr (i := 1) rfl))).at (k := 0) (by omega)) w hm) (ls_small hE.ok hA0.1) (by omega))) ?_)
  intro v17 p18 hR19
  subst hR19
  refine enQ 1 rfl (zdn (zbn 4 rfl ?_))
  refine zak ?_
  have hii : i = (arI (os.getD p oq0).k).toNat := by omega
  refine zaz 6 [4, 3, 2, 1, 0, 5] rfl rfl (by decide) ?_
  refine zbk 2 rfl ?_
  have hpe : ((posA (enX os f) (p + 1) i) : Int) = (enX os (f + 1) p : Int) := by rw [hii]; rfl
  exact zcf (rs := [.tmp 6, .tmp 7]) (vs := [v17, .int .i64 ((posA (enX os f) (p + 1) i) : Int)]) rfl ⟨rfl, rfl, trivial⟩ rfl (fun w hm => ⟨_, bigE [adP b n c sv W r.v r.g r.bad, rowE 3 1 v17 (((ar.getD 0 crow0).xs.map xr).length) (((ar.getD 0 crow0).xs.map xr).map (Value.int .i64))], rfl, ⟨_, _, _, _, _, (by rw [hpe]; rfl), rfl, hE, hA0.1.xr, (by rw [List.length_map]; exact hA0.2), zgp hii hRd (fin_not (by omega))⟩, hm.sub (.cons_cons _ (.cons _ (.cons _ (.cons _ (.cons _ (.refl _))))))⟩)
 refine zbc 1 rfl (zal rfl (zgk ?_))
 refine zbj rfl rfl rfl rfl rfl rfl (fun h20 => ?_) (fun h20 => ?_)
 ·
  refine zbc 1 rfl (zaj rfl (zdb (zaj rfl (srQ ?_))))
  have hA0 := hls _ (zdj (es := ar) (i := 0) (d := crow0) (by omega))
  have hAl0 : ((ar.getD 0 crow0).xs).length = W := hA0.2
  have hA1 := hls _ (zdj (es := ar) (i := 1) (d := crow0) (by omega))
  have hAl1 : ((ar.getD 1 crow0).xs).length = W := hA1.2
  refine zag 1 rfl (hvQ rfl (riQ 1 rfl rfl rfl rfl (zao 2 rfl)) ?_)
  refine hvQ rfl (zba (u := (ar.getD 0 crow0).v) rfl rfl rfl (zao 2 rfl) (zcv crowC (fun r => r.v) (fun _ => rfl) ar crow0 (show 0 < _ by omega))) (hvQ rfl (lnQ rfl rfl rfl (fun w hm => (hps w (hm.holds _ (zbr (i := 1) rfl))).at (k := 0) (by omega))) ?_)
  refine zbc 1 rfl (zbf ?_)
  refine lkQ2 (α := Nat) (β := ASt) [0, 1, 2, 6, 7, 8, 9, 10, 29, 46, 52, 92, 98, 105] rfl (fun k q => (rI9 3 q.u q.zs :: bigE ps :: rS9 48 1 av ar crowC :: boxE b1 #[.int .i64 ((os.getD p oq0).k), .int .i64 ((os.getD p oq0).a), .int .i64 ((os.getD p oq0).b)] 97 :: adP b n c sv W q.v q.g q.bad :: l)) (fun k q => [(13, q.u), (106, .int .i64 (k : Int))]) (fun k q => k ≤ W ∧ Ext n r.g q.g ∧ LsOk n q.g q.zs ∧ q.zs.length = k ∧ AdR (r.bad = true) (q.bad = true) (itO (bwS (andO n.fst) (ar.getD 0 crow0).xs (ar.getD 1 crow0).xs) (r.g, []) k) (q.g, q.zs)) (fun k q => W - k) 0 ⟨r.v, r.g, r.bad, [], _, 0⟩ ⟨Nat.zero_le _, Ext.refl hE.ok, LsOk.nil, rfl, AdR.refl⟩ (saQ rfl) (.refl _) ?_
  intro k q hi21
  obtain ⟨hk, hQ, hLs, hzl, hRq⟩ := hi21
  have hqq : q.g.length ≤ 300 := hQ.ok.a1
  refine srQ ?_
  refine zcb rfl rfl rfl rfl rfl rfl (fun h22 => ?_) (fun h22 => ?_)
  ·
   refine ntQ (tcQ rfl (zdb (sbQ (srQ (enQ 2 rfl ?_)))))
   refine zaw (srQ (hvQ rfl (fdQ 0 rfl rfl rfl) (hvQ rfl (zan rfl rfl rfl (zai 3 rfl rfl)) (ntQ (zbf (srQ ?_))))))
   refine zbj rfl rfl rfl rfl rfl rfl (fun h23 => ?_) (fun h23 => absurd h23 (by omega))
   refine zbc 1 rfl (zaj rfl ?_)
   refine zdo 5 [3, 2, 1, 0, 4] rfl rfl (by decide) ?_
   refine zdi (l := (rI9 3 q.u q.zs :: bigE ps :: rS9 48 1 av ar crowC :: boxE b1 #[.int .i64 ((os.getD p oq0).k), .int .i64 ((os.getD p oq0).a), .int .i64 ((os.getD p oq0).b)] 97 :: l)) rfl 16 [0, 1, 2, 3, 4, 5, 6, 7, 8, 9, 10, 11, 12, 13, 14, 15] (List.take 16 _) (List.drop 16 _) [[], [], [], [2], [3], [], [4, 5], [6], [], [8], [9], [], [10, 11], [12], [1, 7, 13], [14]] [130, 131, 132, 133, 134, 135, 136, 137, 138, 139, 140, 141, 142, 143, 144, 145] (fun i_ vs_ v_ p_ => match i_ with | 0 => v_ = q.u ∧ p_ = [] | 1 => v_ = .pointer (some ⟨c, 0, none⟩) ∧ p_ = [] | 2 => v_ = av ∧ p_ = [] | 3 => v_ = elP av ((0 : Int).toNat * 1) ∧ p_ = [] | 4 => v_ = (ar.getD 0 crow0).v ∧ p_ = [] | 5 => v_ = .int .i64 (k : Int) ∧ p_ = [] | 6 => v_ = elP ((ar.getD 0 crow0).v) (((k : Int)).toNat * 1) ∧ p_ = [] | 7 => v_ = .int .i64 (((ar.getD 0 crow0).xs).getD k 0) ∧ p_ = [] | 8 => v_ = av ∧ p_ = [] | 9 => v_ = elP av ((1 : Int).toNat * 1) ∧ p_ = [] | 10 => v_ = (ar.getD 1 crow0).v ∧ p_ = [] | 11 => v_ = .int .i64 (k : Int) ∧ p_ = [] | 12 => v_ = elP ((ar.getD 1 crow0).v) (((k : Int)).toNat * 1) ∧ p_ = [] | 13 => v_ = .int .i64 (((ar.getD 1 crow0).xs).getD k 0) ∧ p_ = [] | 14 => (∃ pm_, p_ = [pm_] ∧ (AR9 b n c sv (W : Int) q.g q.bad (andO n.fst q.g (((ar.getD 0 crow0).xs).getD k 0) (((ar.getD 1 crow0).xs).getD k 0))) v_ pm_) | 15 => IsRow 3 1 1 ([(intOf_o (gV9 vs_ 0))].map (Value.int .i64)) v_ p_ | _ => True) [[], [], [], [2], [3], [], [4, 5], [6], [], [8], [9], [], [10, 11], [12], [1, 7, 13], [14]] [none, none, none, none, none, none, none, none, none, none, none, none, none, none, some 18, none] [adP b n c sv W q.v q.g q.bad] [0, 1, 2, 3, 4, 5, 6, 7, 8, 9, 10, 11, 12, 13, 14, 15] 18 (List.take_append_drop 16 _).symm (by kernel_rfl) (by kernel_rfl) (by kernel_rfl) rfl rfl ?_ ?_
   ·
    refine ⟨?_, ?_, ?_, ?_, ?_, ?_, ?_, ?_, ?_, ?_, ?_, ?_, ?_, ?_, ?_, ?_, trivial⟩
    ·
     intro vf pf hmu hR
     refine dqQ [] [] rfl (zay (zae [13] rfl) ?_)
     exact zbi (zax rfl)
    ·
     intro vf pf hmu hR
     refine dqQ [] [] rfl (zay (zae [0] rfl) ?_)
     exact zbi (zax rfl)
    ·
     intro vf pf hmu hR
     refine dqQ [] [] rfl (zay (zae [9] rfl) ?_)
     exact zbi (zax rfl)
    ·
     intro vf pf hmu hR
     have e2 := hR 2 (by decide)
     refine dqQ [2] [2] rfl (zaq (sk 132 (congrArg some e2.1) (zab _)) (List.sublist_append_right _ _) ?_)
     exact zbi (riQ 1 rfl rfl rfl rfl (zao 2 rfl))
    ·
     intro vf pf hmu hR
     have e3 := hR 3 (by decide)
     refine dqQ [3] [3] rfl (zaq (sk 133 (congrArg some e3.1) (zab _)) (List.sublist_append_right _ _) ?_)
     exact zbi (zba (u := (ar.getD 0 crow0).v) rfl rfl rfl (zao 2 rfl) (zcv crowC (fun r => r.v) (fun _ => rfl) ar crow0 (show 0 < _ by omega)))
    ·
     intro vf pf hmu hR
     refine dqQ [] [] rfl (zay (zae [14] rfl) ?_)
     exact zbi (zax rfl)
    ·
     intro vf pf hmu hR
     have e4 := hR 4 (by decide)
     have e5 := hR 5 (by decide)
     refine dqQ [4, 5] [4, 5] rfl (zaq (sk 134 (congrArg some e4.1) (sk 135 (congrArg some e5.1) (zab _))) (List.sublist_append_right _ _) ?_)
     exact zbi (riQ 1 rfl rfl rfl rfl (fun w hm => (hps w (hm.holds _ (zbr (i := 1) rfl))).at (k := 0) (by omega)))
    ·
     intro vf pf hmu hR
     have e6 := hR 6 (by decide)
     refine dqQ [6] [6] rfl (zaq (sk 136 (congrArg some e6.1) (zab _)) (List.sublist_append_right _ _) ?_)
     exact zbi (zba (u := .int .i64 (((ar.getD 0 crow0).xs).getD k 0)) rfl rfl rfl (fun w hm => (hps w (hm.holds _ (zbr (i := 1) rfl))).at (k := 0) (by omega)) (zcg (show _ < ((ar.getD 0 crow0).xs).length by omega)))
    ·
     intro vf pf hmu hR
     refine dqQ [] [] rfl (zay (zae [9] rfl) ?_)
     exact zbi (zax rfl)
    ·
     intro vf pf hmu hR
     have e8 := hR 8 (by decide)
     refine dqQ [8] [8] rfl (zaq (sk 138 (congrArg some e8.1) (zab _)) (List.sublist_append_right _ _) ?_)
     exact zbi (riQ 1 rfl rfl rfl rfl (zao 2 rfl))
    ·
     intro vf pf hmu hR
     have e9 := hR 9 (by decide)
     refine dqQ [9] [9] rfl (zaq (sk 139 (congrArg some e9.1) (zab _)) (List.sublist_append_right _ _) ?_)
     exact zbi (zba (u := (ar.getD 1 crow0).v) rfl rfl rfl (zao 2 rfl) (zcv crowC (fun r => r.v) (fun _ => rfl) ar crow0 (show 1 < _ by omega)))
    ·
     intro vf pf hmu hR
     refine dqQ [] [] rfl (zay (zae [14] rfl) ?_)
     exact zbi (zax rfl)
    ·
     intro vf pf hmu hR
     have e10 := hR 10 (by decide)
     have e11 := hR 11 (by decide)
     refine dqQ [10, 11] [10, 11] rfl (zaq (sk 140 (congrArg some e10.1) (sk 141 (congrArg some e11.1) (zab _))) (List.sublist_append_right _ _) ?_)
     exact zbi (riQ 1 rfl rfl rfl rfl (fun w hm => (hps w (hm.holds _ (zbr (i := 1) rfl))).at (k := 1) (by omega)))
    ·
     intro vf pf hmu hR
     have e12 := hR 12 (by decide)
     refine dqQ [12] [12] rfl (zaq (sk 142 (congrArg some e12.1) (zab _)) (List.sublist_append_right _ _) ?_)
     exact zbi (zba (u := .int .i64 (((ar.getD 1 crow0).xs).getD k 0)) rfl rfl rfl (fun w hm => (hps w (hm.holds _ (zbr (i := 1) rfl))).at (k := 1) (by omega)) (zcg (show _ < ((ar.getD 1 crow0).xs).length by omega)))
    ·
     intro vf pf hmu hR
     have e1 := hR 1 (by decide)
     have e7 := hR 7 (by decide)
     have e13 := hR 13 (by decide)
     refine Or.inl ⟨rfl, ?_⟩
     show RunM _ _ _ (pf 18) (([1, 7, 13] : List Nat).flatMap pf ++ _) (envOf _ vf [1, 7, 13] ++ _) _ _
     rw [hmu]
     exact zbx (sk 131 (congrArg some e1.1) (sk 137 (congrArg some e7.1) (sk 143 (congrArg some e13.1) (zab _)))) (by simp only [e1.2, e7.2, e13.2, fS] <;> rfl) (zcn (R := (AR9 b n c sv (W : Int) q.g q.bad (andO n.fst q.g (((ar.getD 0 crow0).xs).getD k 0) (((ar.getD 1 crow0).xs).getD k 0)))) rfl rfl (fun L w hX hm => adAnd_mut b c n sv (W : Int) q.v q.g q.bad (((ar.getD 0 crow0).xs).getD k 0) (((ar.getD 1 crow0).xs).getD k 0) _ _ _ hm hQ.ok (hQ.lit (hA0.1.at (show k < ((ar.getD 0 crow0).xs).length by omega))) (hQ.lit (hA1.1.at (show k < ((ar.getD 1 crow0).xs).length by omega))) (fun w hm => hso w ((hX w hm).sub (.cons _ (.cons _ (.cons _ (.cons _ (.refl _))))))) hone hsv))
    intro vf pf hmu hR
    have e14 : (∃ pm_, (pf 14) = [pm_] ∧ (AR9 b n c sv (W : Int) q.g q.bad (andO n.fst q.g (((ar.getD 0 crow0).xs).getD k 0) (((ar.getD 1 crow0).xs).getD k 0))) (vf 14) pm_) := hR 14 (by decide)
    obtain ⟨p25, pE14, hR26⟩ := e14
    obtain ⟨v24, vE14⟩ : ∃ x, vf 14 = x := ⟨_, rfl⟩
    rw [vE14] at hR26
    obtain ⟨zhR26, vhR26, ghR26, bdhR26, rfl, rfl, ohR26⟩ := hR26
    have thR26 := ohR26.lt
    obtain ⟨thR26a, thR26b⟩ := id thR26
    have lhR26 : ghR26.length ≤ 300 := ohR26.ex.ok.a1
    refine dqQ [14] [14] rfl (zbg (sk 144 (congrArg some vE14) (zab _)) (by simp only [pE14, vE14, fS] <;> rfl) ?_)
    exact zbo (zas (z := .int .i64 0) (s := 1) (cs := ([zhR26].map (Value.int .i64))) rfl Try.underlying48 rfl (by decide) rfl (by kernel_rfl) rfl) (fun v_ p_ h => by show IsRow 3 1 1 ([(intOf_o (vf 14))].map (Value.int .i64)) v_ p_; rw [vE14]; exact h)
   intro vf pf hmu hR
   have e0 := hR 0 (by decide)
   have e14 : (∃ pm_, (pf 14) = [pm_] ∧ (AR9 b n c sv (W : Int) q.g q.bad (andO n.fst q.g (((ar.getD 0 crow0).xs).getD k 0) (((ar.getD 1 crow0).xs).getD k 0))) (vf 14) pm_) := hR 14 (by decide)
   obtain ⟨p25, pE14, hR26⟩ := e14
   obtain ⟨v24, vE14⟩ : ∃ x, vf 14 = x := ⟨_, rfl⟩
   rw [vE14] at hR26
   obtain ⟨zhR26, vhR26, ghR26, bdhR26, rfl, rfl, ohR26⟩ := hR26
   have thR26 := ohR26.lt
   obtain ⟨thR26a, thR26b⟩ := id thR26
   have lhR26 : ghR26.length ≤ 300 := ohR26.ex.ok.a1
   have e15 : IsRow 3 1 1 ([(intOf_o (vf 14))].map (Value.int .i64)) (vf 15) (pf 15) := hR 15 (by decide)
   rw [vE14] at e15
   obtain ⟨g27, vE15, pE15⟩ := e15
   have q0 := hR 0 (by decide)
   have q1 := hR 1 (by decide)
   have q2 := hR 2 (by decide)
   have q3 := hR 3 (by decide)
   have q4 := hR 4 (by decide)
   have q5 := hR 5 (by decide)
   have q6 := hR 6 (by decide)
   have q7 := hR 7 (by decide)
   have q8 := hR 8 (by decide)
   have q9 := hR 9 (by decide)
   have q10 := hR 10 (by decide)
   have q11 := hR 11 (by decide)
   have q12 := hR 12 (by decide)
   have q13 := hR 13 (by decide)
   refine zcd (zbs [128, 110, 107, 106, 105, 98, 92, 52, 46, 29, 14, 13, 10, 9, 8, 7, 6, 2, 1, 0] _ (sk 130 (congrArg some e0.1) (sk 145 (congrArg some vE15) (zab _))) rfl) (by simp only [pE14, vE14, pE15, vE15, q0.2, q1.2, q2.2, q3.2, q4.2, q5.2, q6.2, q7.2, q8.2, q9.2, q10.2, q11.2, q12.2, q13.2, fS] <;> rfl) ?_
   simp only [List.drop_succ_cons, List.drop_zero]
   refine zdc (i := 2) (z := .int .i64 0) (bytes := 8) rfl rfl rfl rfl Try.underlying48 (by kernel_rfl) rfl rfl rfl rfl (zao 1 rfl) (zcj _) (by first | omega | (simp; done) | (simp; omega)) (zco q.zs ([zhR26])) (zcx q.zs ([zhR26])) (fun _ => rfl) ?_
   intro v28
   refine enQ 1 rfl (zbt (zdn (zav (hvQ rfl (vaQ rfl rfl rfl) (enQ 1 rfl ?_)))))
   refine zaz 6 [0, 5, 4, 3, 2] rfl rfl (by decide) ?_
   exact zci (k + 1) ⟨vhR26, ghR26, bdhR26, q.zs ++ ([zhR26]), v28, 0⟩ ⟨by omega, hQ.trans ohR26.ex, (hLs.ext ohR26.ex).app ohR26.lt, by dsimp only; rw [List.length_append, List.length_singleton]; omega, AdR.step hRq (AdR.map _ ohR26.ad)⟩ (by omega) (saQ rfl) (.refl _)
  refine ntQ (fcQ rfl ?_)
  refine zby (zes ?_)
  refine zat (zdn (zbn 4 rfl ?_))
  refine zak ?_
  have hii : i = (arI (os.getD p oq0).k).toNat := by omega
  refine zaz 5 [3, 2, 1, 0, 4] rfl rfl (by decide) ?_
  refine zbk 2 rfl ?_
  have hpe : ((posA (enX os f) (p + 1) i) : Int) = (enX os (f + 1) p : Int) := by rw [hii]; rfl
  exact zcf (rs := [.tmp 6, .tmp 7]) (vs := [q.u, .int .i64 ((posA (enX os f) (p + 1) i) : Int)]) rfl ⟨rfl, rfl, trivial⟩ rfl (fun w hm => ⟨_, bigE [adP b n c sv W q.v q.g q.bad, rI9 3 q.u q.zs], rfl, ⟨_, _, _, _, _, (by rw [hpe]; rfl), rfl, hE.trans hQ, hLs, (by omega), zgp hii hRd (fin_two (by omega) (by unfold twO; rw [if_pos (by omega)]; rw [show k = W by omega] at hRq; exact hRq))⟩, hm.sub (.cons_cons _ (.cons _ (.cons _ (.cons _ (.refl _)))))⟩)
 refine zbc 1 rfl (zal rfl (srQ ?_))
 refine zbj rfl rfl rfl rfl rfl rfl (fun h29 => ?_) (fun h29 => ?_)
 ·
  refine zbc 1 rfl (zaj rfl (zdb (zaj rfl (srQ ?_))))
  have hA0 := hls _ (zdj (es := ar) (i := 0) (d := crow0) (by omega))
  have hAl0 : ((ar.getD 0 crow0).xs).length = W := hA0.2
  have hA1 := hls _ (zdj (es := ar) (i := 1) (d := crow0) (by omega))
  have hAl1 : ((ar.getD 1 crow0).xs).length = W := hA1.2
  refine zag 1 rfl (hvQ rfl (riQ 1 rfl rfl rfl rfl (zao 2 rfl)) ?_)
  refine hvQ rfl (zba (u := (ar.getD 0 crow0).v) rfl rfl rfl (zao 2 rfl) (zcv crowC (fun r => r.v) (fun _ => rfl) ar crow0 (show 0 < _ by omega))) (hvQ rfl (lnQ rfl rfl rfl (fun w hm => (hps w (hm.holds _ (zbr (i := 1) rfl))).at (k := 0) (by omega))) ?_)
  refine zbc 1 rfl (zbf ?_)
  refine lkQ2 (α := Nat) (β := ASt) [0, 1, 2, 6, 7, 8, 9, 10, 29, 46, 52, 92, 98, 105] rfl (fun k q => (rI9 3 q.u q.zs :: bigE ps :: rS9 48 1 av ar crowC :: boxE b1 #[.int .i64 ((os.getD p oq0).k), .int .i64 ((os.getD p oq0).a), .int .i64 ((os.getD p oq0).b)] 97 :: adP b n c sv W q.v q.g q.bad :: l)) (fun k q => [(13, q.u), (106, .int .i64 (k : Int))]) (fun k q => k ≤ W ∧ Ext n r.g q.g ∧ LsOk n q.g q.zs ∧ q.zs.length = k ∧ AdR (r.bad = true) (q.bad = true) (itO (bwS (orO n.fst) (ar.getD 0 crow0).xs (ar.getD 1 crow0).xs) (r.g, []) k) (q.g, q.zs)) (fun k q => W - k) 0 ⟨r.v, r.g, r.bad, [], _, 0⟩ ⟨Nat.zero_le _, Ext.refl hE.ok, LsOk.nil, rfl, AdR.refl⟩ (saQ rfl) (.refl _) ?_
  intro k q hi30
  obtain ⟨hk, hQ, hLs, hzl, hRq⟩ := hi30
  have hqq : q.g.length ≤ 300 := hQ.ok.a1
  refine srQ ?_
  refine zcb rfl rfl rfl rfl rfl rfl (fun h31 => ?_) (fun h31 => ?_)
  ·
   refine ntQ (tcQ rfl (zdb (sbQ (srQ (enQ 2 rfl ?_)))))
   refine zaw (srQ (hvQ rfl (fdQ 0 rfl rfl rfl) (hvQ rfl (zan rfl rfl rfl (zai 3 rfl rfl)) (ntQ (zbf (srQ ?_))))))
   refine zbj rfl rfl rfl rfl rfl rfl (fun h32 => absurd h32 (by omega)) (fun h32 => ?_)
   refine zbc 1 rfl (zal rfl (srQ ?_))
   refine zbj rfl rfl rfl rfl rfl rfl (fun h33 => ?_) (fun h33 => absurd h33 (by omega))
   refine zbc 1 rfl (zaj rfl ?_)
   refine zdo 5 [3, 2, 1, 0, 4] rfl rfl (by decide) ?_
   refine zdi (l := (rI9 3 q.u q.zs :: bigE ps :: rS9 48 1 av ar crowC :: boxE b1 #[.int .i64 ((os.getD p oq0).k), .int .i64 ((os.getD p oq0).a), .int .i64 ((os.getD p oq0).b)] 97 :: l)) rfl 16 [0, 1, 2, 3, 4, 5, 6, 7, 8, 9, 10, 11, 12, 13, 14, 15] (List.take 16 _) (List.drop 16 _) [[], [], [], [2], [3], [], [4, 5], [6], [], [8], [9], [], [10, 11], [12], [1, 7, 13], [14]] [149, 150, 151, 152, 153, 154, 155, 156, 157, 158, 159, 160, 161, 162, 163, 164] (fun i_ vs_ v_ p_ => match i_ with | 0 => v_ = q.u ∧ p_ = [] | 1 => v_ = .pointer (some ⟨c, 0, none⟩) ∧ p_ = [] | 2 => v_ = av ∧ p_ = [] | 3 => v_ = elP av ((0 : Int).toNat * 1) ∧ p_ = [] | 4 => v_ = (ar.getD 0 crow0).v ∧ p_ = [] | 5 => v_ = .int .i64 (k : Int) ∧ p_ = [] | 6 => v_ = elP ((ar.getD 0 crow0).v) (((k : Int)).toNat * 1) ∧ p_ = [] | 7 => v_ = .int .i64 (((ar.getD 0 crow0).xs).getD k 0) ∧ p_ = [] | 8 => v_ = av ∧ p_ = [] | 9 => v_ = elP av ((1 : Int).toNat * 1) ∧ p_ = [] | 10 => v_ = (ar.getD 1 crow0).v ∧ p_ = [] | 11 => v_ = .int .i64 (k : Int) ∧ p_ = [] | 12 => v_ = elP ((ar.getD 1 crow0).v) (((k : Int)).toNat * 1) ∧ p_ = [] | 13 => v_ = .int .i64 (((ar.getD 1 crow0).xs).getD k 0) ∧ p_ = [] | 14 => (∃ pm_, p_ = [pm_] ∧ (AR9 b n c sv (W : Int) q.g q.bad (orO n.fst q.g (((ar.getD 0 crow0).xs).getD k 0) (((ar.getD 1 crow0).xs).getD k 0))) v_ pm_) | 15 => IsRow 3 1 1 ([(intOf_o (gV9 vs_ 0))].map (Value.int .i64)) v_ p_ | _ => True) [[], [], [], [2], [3], [], [4, 5], [6], [], [8], [9], [], [10, 11], [12], [1, 7, 13], [14]] [none, none, none, none, none, none, none, none, none, none, none, none, none, none, some 18, none] [adP b n c sv W q.v q.g q.bad] [0, 1, 2, 3, 4, 5, 6, 7, 8, 9, 10, 11, 12, 13, 14, 15] 18 (List.take_append_drop 16 _).symm (by kernel_rfl) (by kernel_rfl) (by kernel_rfl) rfl rfl ?_ ?_
   ·
    refine ⟨?_, ?_, ?_, ?_, ?_, ?_, ?_, ?_, ?_, ?_, ?_, ?_, ?_, ?_, ?_, ?_, trivial⟩
    ·
     intro vf pf hmu hR
     refine dqQ [] [] rfl (zay (zae [13] rfl) ?_)
     exact zbi (zax rfl)
    ·
     intro vf pf hmu hR
     refine dqQ [] [] rfl (zay (zae [0] rfl) ?_)
     exact zbi (zax rfl)
    ·
     intro vf pf hmu hR
     refine dqQ [] [] rfl (zay (zae [9] rfl) ?_)
     exact zbi (zax rfl)
    ·
     intro vf pf hmu hR
     have e2 := hR 2 (by decide)
     refine dqQ [2] [2] rfl (zaq (sk 151 (congrArg some e2.1) (zab _)) (List.sublist_append_right _ _) ?_)
     exact zbi (riQ 1 rfl rfl rfl rfl (zao 2 rfl))
    ·
     intro vf pf hmu hR
     have e3 := hR 3 (by decide)
     refine dqQ [3] [3] rfl (zaq (sk 152 (congrArg some e3.1) (zab _)) (List.sublist_append_right _ _) ?_)
     exact zbi (zba (u := (ar.getD 0 crow0).v) rfl rfl rfl (zao 2 rfl) (zcv crowC (fun r => r.v) (fun _ => rfl) ar crow0 (show 0 < _ by omega)))
    ·
     intro vf pf hmu hR
     refine dqQ [] [] rfl (zay (zae [14] rfl) ?_)
     exact zbi (zax rfl)
    ·
     intro vf pf hmu hR
     have e4 := hR 4 (by decide)
     have e5 := hR 5 (by decide)
     refine dqQ [4, 5] [4, 5] rfl (zaq (sk 153 (congrArg some e4.1) (sk 154 (congrArg some e5.1) (zab _))) (List.sublist_append_right _ _) ?_)
     exact zbi (riQ 1 rfl rfl rfl rfl (fun w hm => (hps w (hm.holds _ (zbr (i := 1) rfl))).at (k := 0) (by omega)))
    ·
     intro vf pf hmu hR
     have e6 := hR 6 (by decide)
     refine dqQ [6] [6] rfl (zaq (sk 155 (congrArg some e6.1) (zab _)) (List.sublist_append_right _ _) ?_)
     exact zbi (zba (u := .int .i64 (((ar.getD 0 crow0).xs).getD k 0)) rfl rfl rfl (fun w hm => (hps w (hm.holds _ (zbr (i := 1) rfl))).at (k := 0) (by omega)) (zcg (show _ < ((ar.getD 0 crow0).xs).length by omega)))
    ·
     intro vf pf hmu hR
     refine dqQ [] [] rfl (zay (zae [9] rfl) ?_)
     exact zbi (zax rfl)
    ·
     intro vf pf hmu hR
     have e8 := hR 8 (by decide)
     refine dqQ [8] [8] rfl (zaq (sk 157 (congrArg some e8.1) (zab _)) (List.sublist_append_right _ _) ?_)
     exact zbi (riQ 1 rfl rfl rfl rfl (zao 2 rfl))
    ·
     intro vf pf hmu hR
     have e9 := hR 9 (by decide)
     refine dqQ [9] [9] rfl (zaq (sk 158 (congrArg some e9.1) (zab _)) (List.sublist_append_right _ _) ?_)
     exact zbi (zba (u := (ar.getD 1 crow0).v) rfl rfl rfl (zao 2 rfl) (zcv crowC (fun r => r.v) (fun _ => rfl) ar crow0 (show 1 < _ by omega)))
    ·
     intro vf pf hmu hR
     refine dqQ [] [] rfl (zay (zae [14] rfl) ?_)
     exact zbi (zax rfl)
    ·
     intro vf pf hmu hR
     have e10 := hR 10 (by decide)
     have e11 := hR 11 (by decide)
     refine dqQ [10, 11] [10, 11] rfl (zaq (sk 159 (congrArg some e10.1) (sk 160 (congrArg some e11.1) (zab _))) (List.sublist_append_right _ _) ?_)
     exact zbi (riQ 1 rfl rfl rfl rfl (fun w hm => (hps w (hm.holds _ (zbr (i := 1) rfl))).at (k := 1) (by omega)))
    ·
     intro vf pf hmu hR
     have e12 := hR 12 (by decide)
     refine dqQ [12] [12] rfl (zaq (sk 161 (congrArg some e12.1) (zab _)) (List.sublist_append_right _ _) ?_)
     exact zbi (zba (u := .int .i64 (((ar.getD 1 crow0).xs).getD k 0)) rfl rfl rfl (fun w hm => (hps w (hm.holds _ (zbr (i := 1) rfl))).at (k := 1) (by omega)) (zcg (show _ < ((ar.getD 1 crow0).xs).length by omega)))
    ·
     intro vf pf hmu hR
     have e1 := hR 1 (by decide)
     have e7 := hR 7 (by decide)
     have e13 := hR 13 (by decide)
     refine Or.inl ⟨rfl, ?_⟩
     show RunM _ _ _ (pf 18) (([1, 7, 13] : List Nat).flatMap pf ++ _) (envOf _ vf [1, 7, 13] ++ _) _ _
     rw [hmu]
     exact zbx (sk 150 (congrArg some e1.1) (sk 156 (congrArg some e7.1) (sk 162 (congrArg some e13.1) (zab _)))) (by simp only [e1.2, e7.2, e13.2, fS] <;> rfl) (zcn (R := (AR9 b n c sv (W : Int) q.g q.bad (orO n.fst q.g (((ar.getD 0 crow0).xs).getD k 0) (((ar.getD 1 crow0).xs).getD k 0)))) rfl rfl (fun L w hX hm => adOr_mut b c n sv (W : Int) q.v q.g q.bad (((ar.getD 0 crow0).xs).getD k 0) (((ar.getD 1 crow0).xs).getD k 0) _ _ _ hm hQ.ok (hQ.lit (hA0.1.at (show k < ((ar.getD 0 crow0).xs).length by omega))) (hQ.lit (hA1.1.at (show k < ((ar.getD 1 crow0).xs).length by omega))) (fun w hm => hso w ((hX w hm).sub (.cons _ (.cons _ (.cons _ (.cons _ (.refl _))))))) hone hsv))
    intro vf pf hmu hR
    have e14 : (∃ pm_, (pf 14) = [pm_] ∧ (AR9 b n c sv (W : Int) q.g q.bad (orO n.fst q.g (((ar.getD 0 crow0).xs).getD k 0) (((ar.getD 1 crow0).xs).getD k 0))) (vf 14) pm_) := hR 14 (by decide)
    obtain ⟨p35, pE14, hR36⟩ := e14
    obtain ⟨v34, vE14⟩ : ∃ x, vf 14 = x := ⟨_, rfl⟩
    rw [vE14] at hR36
    obtain ⟨zhR36, vhR36, ghR36, bdhR36, rfl, rfl, ohR36⟩ := hR36
    have thR36 := ohR36.lt
    obtain ⟨thR36a, thR36b⟩ := id thR36
    have lhR36 : ghR36.length ≤ 300 := ohR36.ex.ok.a1
    refine dqQ [14] [14] rfl (zbg (sk 163 (congrArg some vE14) (zab _)) (by simp only [pE14, vE14, fS] <;> rfl) ?_)
    exact zbo (zas (z := .int .i64 0) (s := 1) (cs := ([zhR36].map (Value.int .i64))) rfl Try.underlying48 rfl (by decide) rfl (by kernel_rfl) rfl) (fun v_ p_ h => by show IsRow 3 1 1 ([(intOf_o (vf 14))].map (Value.int .i64)) v_ p_; rw [vE14]; exact h)
   intro vf pf hmu hR
   have e0 := hR 0 (by decide)
   have e14 : (∃ pm_, (pf 14) = [pm_] ∧ (AR9 b n c sv (W : Int) q.g q.bad (orO n.fst q.g (((ar.getD 0 crow0).xs).getD k 0) (((ar.getD 1 crow0).xs).getD k 0))) (vf 14) pm_) := hR 14 (by decide)
   obtain ⟨p35, pE14, hR36⟩ := e14
   obtain ⟨v34, vE14⟩ : ∃ x, vf 14 = x := ⟨_, rfl⟩
   rw [vE14] at hR36
   obtain ⟨zhR36, vhR36, ghR36, bdhR36, rfl, rfl, ohR36⟩ := hR36
   have thR36 := ohR36.lt
   obtain ⟨thR36a, thR36b⟩ := id thR36
   have lhR36 : ghR36.length ≤ 300 := ohR36.ex.ok.a1
   have e15 : IsRow 3 1 1 ([(intOf_o (vf 14))].map (Value.int .i64)) (vf 15) (pf 15) := hR 15 (by decide)
   rw [vE14] at e15
   obtain ⟨g37, vE15, pE15⟩ := e15
   have q0 := hR 0 (by decide)
   have q1 := hR 1 (by decide)
   have q2 := hR 2 (by decide)
   have q3 := hR 3 (by decide)
   have q4 := hR 4 (by decide)
   have q5 := hR 5 (by decide)
   have q6 := hR 6 (by decide)
   have q7 := hR 7 (by decide)
   have q8 := hR 8 (by decide)
   have q9 := hR 9 (by decide)
   have q10 := hR 10 (by decide)
   have q11 := hR 11 (by decide)
   have q12 := hR 12 (by decide)
   have q13 := hR 13 (by decide)
   refine zcd (zbs [147, 128, 110, 107, 106, 105, 98, 92, 52, 46, 29, 14, 13, 10, 9, 8, 7, 6, 2, 1, 0] _ (sk 149 (congrArg some e0.1) (sk 164 (congrArg some vE15) (zab _))) rfl) (by simp only [pE14, vE14, pE15, vE15, q0.2, q1.2, q2.2, q3.2, q4.2, q5.2, q6.2, q7.2, q8.2, q9.2, q10.2, q11.2, q12.2, q13.2, fS] <;> rfl) ?_
   simp only [List.drop_succ_cons, List.drop_zero]
   refine zdc (i := 2) (z := .int .i64 0) (bytes := 8) rfl rfl rfl rfl Try.underlying48 (by kernel_rfl) rfl rfl rfl rfl (zao 1 rfl) (zcj _) (by first | omega | (simp; done) | (simp; omega)) (zco q.zs ([zhR36])) (zcx q.zs ([zhR36])) (fun _ => rfl) ?_
   intro v38
   refine enQ 1 rfl (zbt (zdn (zav (hvQ rfl (vaQ rfl rfl rfl) (enQ 1 rfl ?_)))))
   refine zaz 6 [0, 5, 4, 3, 2] rfl rfl (by decide) ?_
   exact zci (k + 1) ⟨vhR36, ghR36, bdhR36, q.zs ++ ([zhR36]), v38, 0⟩ ⟨by omega, hQ.trans ohR36.ex, (hLs.ext ohR36.ex).app ohR36.lt, by dsimp only; rw [List.length_append, List.length_singleton]; omega, AdR.step hRq (AdR.map _ ohR36.ad)⟩ (by omega) (saQ rfl) (.refl _)
  refine ntQ (fcQ rfl ?_)
  refine zby (zes ?_)
  refine zat (zdn (zbn 4 rfl ?_))
  refine zak ?_
  have hii : i = (arI (os.getD p oq0).k).toNat := by omega
  refine zaz 5 [3, 2, 1, 0, 4] rfl rfl (by decide) ?_
  refine zbk 2 rfl ?_
  have hpe : ((posA (enX os f) (p + 1) i) : Int) = (enX os (f + 1) p : Int) := by rw [hii]; rfl
  exact zcf (rs := [.tmp 6, .tmp 7]) (vs := [q.u, .int .i64 ((posA (enX os f) (p + 1) i) : Int)]) rfl ⟨rfl, rfl, trivial⟩ rfl (fun w hm => ⟨_, bigE [adP b n c sv W q.v q.g q.bad, rI9 3 q.u q.zs], rfl, ⟨_, _, _, _, _, (by rw [hpe]; rfl), rfl, hE.trans hQ, hLs, (by omega), zgp hii hRd (fin_two (by omega) (by unfold twO; rw [if_neg (by omega), if_pos (by omega)]; rw [show k = W by omega] at hRq; exact hRq))⟩, hm.sub (.cons_cons _ (.cons _ (.cons _ (.cons _ (.refl _)))))⟩)
 refine zbc 1 rfl (zal rfl (zav ?_))
 refine zbj rfl rfl rfl rfl rfl rfl (fun h39 => ?_) (fun h39 => ?_)
 ·
  refine zbc 1 rfl (zaj rfl (srQ ?_))
  have hA0 := hls _ (zdj (es := ar) (i := 0) (d := crow0) (by omega))
  have hAl0 : ((ar.getD 0 crow0).xs).length = W := hA0.2
  have hA1 := hls _ (zdj (es := ar) (i := 1) (d := crow0) (by omega))
  have hAl1 : ((ar.getD 1 crow0).xs).length = W := hA1.2
  refine zag 1 rfl (hvQ rfl (riQ 1 rfl rfl rfl rfl (zao 2 rfl)) ?_)
  refine hvQ rfl (zba (u := (ar.getD 0 crow0).v) rfl rfl rfl (zao 2 rfl) (zcv crowC (fun r => r.v) (fun _ => rfl) ar crow0 (show 0 < _ by omega))) (hvQ rfl (lnQ rfl rfl rfl (fun w hm => (hps w (hm.holds _ (zbr (i := 1) rfl))).at (k := 0) (by omega))) ?_)
  refine zbc 1 rfl (zbf ?_)
  refine lkQ2 (α := Nat) (β := ASt) [0, 1, 2, 6, 7, 8, 9, 10, 29, 46, 52, 92, 98, 105] rfl (fun k q => (rI9 3 q.u q.zs :: bigE ps :: rS9 48 1 av ar crowC :: boxE b1 #[.int .i64 ((os.getD p oq0).k), .int .i64 ((os.getD p oq0).a), .int .i64 ((os.getD p oq0).b)] 97 :: adP b n c sv W q.v q.g q.bad :: l)) (fun k q => [(13, q.u), (106, .int .i64 (k : Int))]) (fun k q => k ≤ W ∧ Ext n r.g q.g ∧ LsOk n q.g q.zs ∧ q.zs.length = k ∧ AdR (r.bad = true) (q.bad = true) (itO (bwS (xorO n.fst) (ar.getD 0 crow0).xs (ar.getD 1 crow0).xs) (r.g, []) k) (q.g, q.zs)) (fun k q => W - k) 0 ⟨r.v, r.g, r.bad, [], _, 0⟩ ⟨Nat.zero_le _, Ext.refl hE.ok, LsOk.nil, rfl, AdR.refl⟩ (saQ rfl) (.refl _) ?_
  intro k q hi40
  obtain ⟨hk, hQ, hLs, hzl, hRq⟩ := hi40
  have hqq : q.g.length ≤ 300 := hQ.ok.a1
  refine srQ ?_
  refine zcb rfl rfl rfl rfl rfl rfl (fun h41 => ?_) (fun h41 => ?_)
  ·
   refine ntQ (tcQ rfl (zdb (sbQ (srQ (enQ 2 rfl ?_)))))
   refine zaw (srQ (hvQ rfl (fdQ 0 rfl rfl rfl) (hvQ rfl (zan rfl rfl rfl (zai 3 rfl rfl)) (ntQ (zbf (srQ ?_))))))
   refine zbj rfl rfl rfl rfl rfl rfl (fun h42 => absurd h42 (by omega)) (fun h42 => ?_)
   refine zbc 1 rfl (zal rfl (srQ ?_))
   refine zbj rfl rfl rfl rfl rfl rfl (fun h43 => absurd h43 (by omega)) (fun h43 => ?_)
   refine zbc 1 rfl (zal rfl ?_)
   refine zdo 5 [3, 2, 1, 0, 4] rfl rfl (by decide) ?_
   refine zdi (l := (rI9 3 q.u q.zs :: bigE ps :: rS9 48 1 av ar crowC :: boxE b1 #[.int .i64 ((os.getD p oq0).k), .int .i64 ((os.getD p oq0).a), .int .i64 ((os.getD p oq0).b)] 97 :: l)) rfl 16 [0, 1, 2, 3, 4, 5, 6, 7, 8, 9, 10, 11, 12, 13, 14, 15] (List.take 16 _) (List.drop 16 _) [[], [], [], [2], [3], [], [4, 5], [6], [], [8], [9], [], [10, 11], [12], [1, 7, 13], [14]] [111, 112, 113, 114, 115, 116, 117, 118, 119, 120, 121, 122, 123, 124, 125, 126] (fun i_ vs_ v_ p_ => match i_ with | 0 => v_ = q.u ∧ p_ = [] | 1 => v_ = .pointer (some ⟨c, 0, none⟩) ∧ p_ = [] | 2 => v_ = av ∧ p_ = [] | 3 => v_ = elP av ((0 : Int).toNat * 1) ∧ p_ = [] | 4 => v_ = (ar.getD 0 crow0).v ∧ p_ = [] | 5 => v_ = .int .i64 (k : Int) ∧ p_ = [] | 6 => v_ = elP ((ar.getD 0 crow0).v) (((k : Int)).toNat * 1) ∧ p_ = [] | 7 => v_ = .int .i64 (((ar.getD 0 crow0).xs).getD k 0) ∧ p_ = [] | 8 => v_ = av ∧ p_ = [] | 9 => v_ = elP av ((1 : Int).toNat * 1) ∧ p_ = [] | 10 => v_ = (ar.getD 1 crow0).v ∧ p_ = [] | 11 => v_ = .int .i64 (k : Int) ∧ p_ = [] | 12 => v_ = elP ((ar.getD 1 crow0).v) (((k : Int)).toNat * 1) ∧ p_ = [] | 13 => v_ = .int .i64 (((ar.getD 1 crow0).xs).getD k 0) ∧ p_ = [] | 14 => (∃ pm_, p_ = [pm_] ∧ (AR9 b n c sv (W : Int) q.g q.bad (xorO n.fst q.g (((ar.getD 0 crow0).xs).getD k 0) (((ar.getD 1 crow0).xs).getD k 0))) v_ pm_) | 15 => IsRow 3 1 1 ([(intOf_o (gV9 vs_ 0))].map (Value.int .i64)) v_ p_ | _ => True) [[], [], [], [2], [3], [], [4, 5], [6], [], [8], [9], [], [10, 11], [12], [1, 7, 13], [14]] [none, none, none, none, none, none, none, none, none, none, none, none, none, none, some 18, none] [adP b n c sv W q.v q.g q.bad] [0, 1, 2, 3, 4, 5, 6, 7, 8, 9, 10, 11, 12, 13, 14, 15] 18 (List.take_append_drop 16 _).symm (by kernel_rfl) (by kernel_rfl) (by kernel_rfl) rfl rfl ?_ ?_
   ·
    refine ⟨?_, ?_, ?_, ?_, ?_, ?_, ?_, ?_, ?_, ?_, ?_, ?_, ?_, ?_, ?_, ?_, trivial⟩
    ·
     intro vf pf hmu hR
     refine dqQ [] [] rfl (zay (zae [13] rfl) ?_)
     exact zbi (zax rfl)
    ·
     intro vf pf hmu hR
     refine dqQ [] [] rfl (zay (zae [0] rfl) ?_)
     exact zbi (zax rfl)
    ·
     intro vf pf hmu hR
     refine dqQ [] [] rfl (zay (zae [9] rfl) ?_)
     exact zbi (zax rfl)
    ·
     intro vf pf hmu hR
     have e2 := hR 2 (by decide)
     refine dqQ [2] [2] rfl (zaq (sk 113 (congrArg some e2.1) (zab _)) (List.sublist_append_right _ _) ?_)
     exact zbi (riQ 1 rfl rfl rfl rfl (zao 2 rfl))
    ·
     intro vf pf hmu hR
     have e3 := hR 3 (by decide)
     refine dqQ [3] [3] rfl (zaq (sk 114 (congrArg some e3.1) (zab _)) (List.sublist_append_right _ _) ?_)
     exact zbi (zba (u := (ar.getD 0 crow0).v) rfl rfl rfl (zao 2 rfl) (zcv crowC (fun r => r.v) (fun _ => rfl) ar crow0 (show 0 < _ by omega)))
    ·
     intro vf pf hmu hR
     refine dqQ [] [] rfl (zay (zae [14] rfl) ?_)
     exact zbi (zax rfl)
    ·
     intro vf pf hmu hR
     have e4 := hR 4 (by decide)
     have e5 := hR 5 (by decide)
     refine dqQ [4, 5] [4, 5] rfl (zaq (sk 115 (congrArg some e4.1) (sk 116 (congrArg some e5.1) (zab _))) (List.sublist_append_right _ _) ?_)
     exact zbi (riQ 1 rfl rfl rfl rfl (fun w hm => (hps w (hm.holds _ (zbr (i := 1) rfl))).at (k := 0) (by omega)))
    ·
     intro vf pf hmu hR
     have e6 := hR 6 (by decide)
     refine dqQ [6] [6] rfl (zaq (sk 117 (congrArg some e6.1) (zab _)) (List.sublist_append_right _ _) ?_)
     exact zbi (zba (u := .int .i64 (((ar.getD 0 crow0).xs).getD k 0)) rfl rfl rfl (fun w hm => (hps w (hm.holds _ (zbr (i := 1) rfl))).at (k := 0) (by omega)) (zcg (show _ < ((ar.getD 0 crow0).xs).length by omega)))
    ·
     intro vf pf hmu hR
     refine dqQ [] [] rfl (zay (zae [9] rfl) ?_)
     exact zbi (zax rfl)
    ·
     intro vf pf hmu hR
     have e8 := hR 8 (by decide)
     refine dqQ [8] [8] rfl (zaq (sk 119 (congrArg some e8.1) (zab _)) (List.sublist_append_right _ _) ?_)
     exact zbi (riQ 1 rfl rfl rfl rfl (zao 2 rfl))
    ·
     intro vf pf hmu hR
     have e9 := hR 9 (by decide)
     refine dqQ [9] [9] rfl (zaq (sk 120 (congrArg some e9.1) (zab _)) (List.sublist_append_right _ _) ?_)
     exact zbi (zba (u := (ar.getD 1 crow0).v) rfl rfl rfl (zao 2 rfl) (zcv crowC (fun r => r.v) (fun _ => rfl) ar crow0 (show 1 < _ by omega)))
    ·
     intro vf pf hmu hR
     refine dqQ [] [] rfl (zay (zae [14] rfl) ?_)
     exact zbi (zax rfl)
    ·
     intro vf pf hmu hR
     have e10 := hR 10 (by decide)
     have e11 := hR 11 (by decide)
     refine dqQ [10, 11] [10, 11] rfl (zaq (sk 121 (congrArg some e10.1) (sk 122 (congrArg some e11.1) (zab _))) (List.sublist_append_right _ _) ?_)
     exact zbi (riQ 1 rfl rfl rfl rfl (fun w hm => (hps w (hm.holds _ (zbr (i := 1) rfl))).at (k := 1) (by omega)))
    ·
     intro vf pf hmu hR
     have e12 := hR 12 (by decide)
     refine dqQ [12] [12] rfl (zaq (sk 123 (congrArg some e12.1) (zab _)) (List.sublist_append_right _ _) ?_)
     exact zbi (zba (u := .int .i64 (((ar.getD 1 crow0).xs).getD k 0)) rfl rfl rfl (fun w hm => (hps w (hm.holds _ (zbr (i := 1) rfl))).at (k := 1) (by omega)) (zcg (show _ < ((ar.getD 1 crow0).xs).length by omega)))
    ·
     intro vf pf hmu hR
     have e1 := hR 1 (by decide)
     have e7 := hR 7 (by decide)
     have e13 := hR 13 (by decide)
     refine Or.inl ⟨rfl, ?_⟩
     show RunM _ _ _ (pf 18) (([1, 7, 13] : List Nat).flatMap pf ++ _) (envOf _ vf [1, 7, 13] ++ _) _ _
     rw [hmu]
     exact zbx (sk 112 (congrArg some e1.1) (sk 118 (congrArg some e7.1) (sk 124 (congrArg some e13.1) (zab _)))) (by simp only [e1.2, e7.2, e13.2, fS] <;> rfl) (zcn (R := (AR9 b n c sv (W : Int) q.g q.bad (xorO n.fst q.g (((ar.getD 0 crow0).xs).getD k 0) (((ar.getD 1 crow0).xs).getD k 0)))) rfl rfl (fun L w hX hm => adXor_mut b c n sv (W : Int) q.v q.g q.bad (((ar.getD 0 crow0).xs).getD k 0) (((ar.getD 1 crow0).xs).getD k 0) _ _ _ hm hQ.ok (hQ.lit (hA0.1.at (show k < ((ar.getD 0 crow0).xs).length by omega))) (hQ.lit (hA1.1.at (show k < ((ar.getD 1 crow0).xs).length by omega))) (fun w hm => hso w ((hX w hm).sub (.cons _ (.cons _ (.cons _ (.cons _ (.refl _))))))) hone hsv))
    intro vf pf hmu hR
    have e14 : (∃ pm_, (pf 14) = [pm_] ∧ (AR9 b n c sv (W : Int) q.g q.bad (xorO n.fst q.g (((ar.getD 0 crow0).xs).getD k 0) (((ar.getD 1 crow0).xs).getD k 0))) (vf 14) pm_) := hR 14 (by decide)
    obtain ⟨p45, pE14, hR46⟩ := e14
    obtain ⟨v44, vE14⟩ : ∃ x, vf 14 = x := ⟨_, rfl⟩
    rw [vE14] at hR46
    obtain ⟨zhR46, vhR46, ghR46, bdhR46, rfl, rfl, ohR46⟩ := hR46
    have thR46 := ohR46.lt
    obtain ⟨thR46a, thR46b⟩ := id thR46
    have lhR46 : ghR46.length ≤ 300 := ohR46.ex.ok.a1
    refine dqQ [14] [14] rfl (zbg (sk 125 (congrArg some vE14) (zab _)) (by simp only [pE14, vE14, fS] <;> rfl) ?_)
    exact zbo (zas (z := .int .i64 0) (s := 1) (cs := ([zhR46].map (Value.int .i64))) rfl Try.underlying48 rfl (by decide) rfl (by kernel_rfl) rfl) (fun v_ p_ h => by show IsRow 3 1 1 ([(intOf_o (vf 14))].map (Value.int .i64)) v_ p_; rw [vE14]; exact h)
   intro vf pf hmu hR
   have e0 := hR 0 (by decide)
   have e14 : (∃ pm_, (pf 14) = [pm_] ∧ (AR9 b n c sv (W : Int) q.g q.bad (xorO n.fst q.g (((ar.getD 0 crow0).xs).getD k 0) (((ar.getD 1 crow0).xs).getD k 0))) (vf 14) pm_) := hR 14 (by decide)
   obtain ⟨p45, pE14, hR46⟩ := e14
   obtain ⟨v44, vE14⟩ : ∃ x, vf 14 = x := ⟨_, rfl⟩
   rw [vE14] at hR46
   obtain ⟨zhR46, vhR46, ghR46, bdhR46, rfl, rfl, ohR46⟩ := hR46
   have thR46 := ohR46.lt
   obtain ⟨thR46a, thR46b⟩ := id thR46
   have lhR46 : ghR46.length ≤ 300 := ohR46.ex.ok.a1
   have e15 : IsRow 3 1 1 ([(intOf_o (vf 14))].map (Value.int .i64)) (vf 15) (pf 15) := hR 15 (by decide)
   rw [vE14] at e15
   obtain ⟨g47, vE15, pE15⟩ := e15
   have q0 := hR 0 (by decide)
   have q1 := hR 1 (by decide)
   have q2 := hR 2 (by decide)
   have q3 := hR 3 (by decide)
   have q4 := hR 4 (by decide)
   have q5 := hR 5 (by decide)
   have q6 := hR 6 (by decide)
   have q7 := hR 7 (by decide)
   have q8 := hR 8 (by decide)
   have q9 := hR 9 (by decide)
   have q10 := hR 10 (by decide)
   have q11 := hR 11 (by decide)
   have q12 := hR 12 (by decide)
   have q13 := hR 13 (by decide)
   refine zcd (zbs [110, 107, 106, 105, 98, 92, 52, 46, 29, 14, 13, 10, 9, 8, 7, 6, 2, 1, 0] _ (sk 111 (congrArg some e0.1) (sk 126 (congrArg some vE15) (zae [147, 128] rfl))) rfl) (by simp only [pE14, vE14, pE15, vE15, q0.2, q1.2, q2.2, q3.2, q4.2, q5.2, q6.2, q7.2, q8.2, q9.2, q10.2, q11.2, q12.2, q13.2, fS] <;> rfl) ?_
   simp only [List.drop_succ_cons, List.drop_zero]
   refine zdc (i := 2) (z := .int .i64 0) (bytes := 8) rfl rfl rfl rfl Try.underlying48 (by kernel_rfl) rfl rfl rfl rfl (zao 1 rfl) (zcj _) (by first | omega | (simp; done) | (simp; omega)) (zco q.zs ([zhR46])) (zcx q.zs ([zhR46])) (fun _ => rfl) ?_
   intro v48
   refine enQ 1 rfl (zbt (zdn (zav (hvQ rfl (vaQ rfl rfl rfl) (enQ 1 rfl ?_)))))
   refine zaz 6 [0, 5, 4, 3, 2] rfl rfl (by decide) ?_
   exact zci (k + 1) ⟨vhR46, ghR46, bdhR46, q.zs ++ ([zhR46]), v48, 0⟩ ⟨by omega, hQ.trans ohR46.ex, (hLs.ext ohR46.ex).app ohR46.lt, by dsimp only; rw [List.length_append, List.length_singleton]; omega, AdR.step hRq (AdR.map _ ohR46.ad)⟩ (by omega) (saQ rfl) (.refl _)
  refine ntQ (fcQ rfl ?_)
  refine zby (zes ?_)
  refine zat (zdn (zbn 4 rfl ?_))
  refine zak ?_
  have hii : i = (arI (os.getD p oq0).k).toNat := by omega
  refine zaz 5 [3, 2, 1, 0, 4] rfl rfl (by decide) ?_
  refine zbk 2 rfl ?_
  have hpe : ((posA (enX os f) (p + 1) i) : Int) = (enX os (f + 1) p : Int) := by rw [hii]; rfl
  exact zcf (rs := [.tmp 6, .tmp 7]) (vs := [q.u, .int .i64 ((posA (enX os f) (p + 1) i) : Int)]) rfl ⟨rfl, rfl, trivial⟩ rfl (fun w hm => ⟨_, bigE [adP b n c sv W q.v q.g q.bad, rI9 3 q.u q.zs], rfl, ⟨_, _, _, _, _, (by rw [hpe]; rfl), rfl, hE.trans hQ, hLs, (by omega), zgp hii hRd (fin_two (by omega) (by unfold twO; rw [if_neg (by omega), if_neg (by omega), if_pos (by omega)]; rw [show k = W by omega] at hRq; exact hRq))⟩, hm.sub (.cons_cons _ (.cons _ (.cons _ (.cons _ (.refl _)))))⟩)
 refine zbc 1 rfl (zal rfl (srQ ?_))
 refine zbj rfl rfl rfl rfl rfl rfl (fun h49 => ?_) (fun h49 => ?_)
 ·
  refine zbc 1 rfl (zaj rfl ?_)
  have hA0 := hls _ (zdj (es := ar) (i := 0) (d := crow0) (by omega))
  have hAl0 : ((ar.getD 0 crow0).xs).length = W := hA0.2
  have hA1 := hls _ (zdj (es := ar) (i := 1) (d := crow0) (by omega))
  have hAl1 : ((ar.getD 1 crow0).xs).length = W := hA1.2
  refine zdo 5 [3, 2, 1, 0, 4] rfl rfl (by decide) ?_
  refine zdi (l := (rowE 3 1 (.slice none 0 0) 0 ([]) :: bigE ps :: rS9 48 1 av ar crowC :: boxE b1 #[.int .i64 ((os.getD p oq0).k), .int .i64 ((os.getD p oq0).a), .int .i64 ((os.getD p oq0).b)] 97 :: l)) rfl 8 [0, 1, 2, 3, 4, 5, 6, 7] (List.take 8 _) (List.drop 8 _) [[], [], [1], [2], [], [4], [5], [0, 3, 6]] [169, 170, 171, 172, 173, 174, 175, 176] (fun i_ vs_ v_ p_ => match i_ with | 0 => v_ = .pointer (some ⟨c, 0, none⟩) ∧ p_ = [] | 1 => v_ = av ∧ p_ = [] | 2 => v_ = elP av ((0 : Int).toNat * 1) ∧ p_ = [] | 3 => v_ = (ar.getD 0 crow0).v ∧ p_ = [] | 4 => v_ = av ∧ p_ = [] | 5 => v_ = elP av ((1 : Int).toNat * 1) ∧ p_ = [] | 6 => v_ = (ar.getD 1 crow0).v ∧ p_ = [] | 7 => (∃ pm_, p_ = [pm_] ∧ (fun u_ p_ => RE9 b n c sv W r.g r.bad (sumO n.fst ((ar.getD 0 crow0).xs) ((ar.getD 1 crow0).xs) 0 W r.g) u_ p_) v_ pm_) | _ => True) [[], [], [1], [2], [], [4], [5], [0, 3, 6]] [none, none, none, none, none, none, none, some 9] [adP b n c sv W r.v r.g r.bad] [0, 1, 2, 3, 4, 5, 6, 7] 9 (List.take_append_drop 8 _).symm (by kernel_rfl) (by kernel_rfl) (by kernel_rfl) rfl rfl ?_ ?_
  ·
   refine ⟨?_, ?_, ?_, ?_, ?_, ?_, ?_, ?_, trivial⟩
   ·
    intro vf pf hmu hR
    refine dqQ [] [] rfl (zay (zae [0] rfl) ?_)
    exact zbi (zax rfl)
   ·
    intro vf pf hmu hR
    refine dqQ [] [] rfl (zay (zae [9] rfl) ?_)
    exact zbi (zax rfl)
   ·
    intro vf pf hmu hR
    have e1 := hR 1 (by decide)
    refine dqQ [1] [1] rfl (zaq (sk 170 (congrArg some e1.1) (zab _)) (List.sublist_append_right _ _) ?_)
    exact zbi (riQ 1 rfl rfl rfl rfl (zao 2 rfl))
   ·
    intro vf pf hmu hR
    have e2 := hR 2 (by decide)
    refine dqQ [2] [2] rfl (zaq (sk 171 (congrArg some e2.1) (zab _)) (List.sublist_append_right _ _) ?_)
    exact zbi (zba (u := (ar.getD 0 crow0).v) rfl rfl rfl (zao 2 rfl) (zcv crowC (fun r => r.v) (fun _ => rfl) ar crow0 (show 0 < _ by omega)))
   ·
    intro vf pf hmu hR
    refine dqQ [] [] rfl (zay (zae [9] rfl) ?_)
    exact zbi (zax rfl)
   ·
    intro vf pf hmu hR
    have e4 := hR 4 (by decide)
    refine dqQ [4] [4] rfl (zaq (sk 173 (congrArg some e4.1) (zab _)) (List.sublist_append_right _ _) ?_)
    exact zbi (riQ 1 rfl rfl rfl rfl (zao 2 rfl))
   ·
    intro vf pf hmu hR
    have e5 := hR 5 (by decide)
    refine dqQ [5] [5] rfl (zaq (sk 174 (congrArg some e5.1) (zab _)) (List.sublist_append_right _ _) ?_)
    exact zbi (zba (u := (ar.getD 1 crow0).v) rfl rfl rfl (zao 2 rfl) (zcv crowC (fun r => r.v) (fun _ => rfl) ar crow0 (show 1 < _ by omega)))
   intro vf pf hmu hR
   have e0 := hR 0 (by decide)
   have e3 := hR 3 (by decide)
   have e6 := hR 6 (by decide)
   refine Or.inl ⟨rfl, ?_⟩
   show RunM _ _ _ (pf 9) (([0, 3, 6] : List Nat).flatMap pf ++ _) (envOf _ vf [0, 3, 6] ++ _) _ _
   rw [hmu]
   exact zbx (sk 169 (congrArg some e0.1) (sk 172 (congrArg some e3.1) (sk 175 (congrArg some e6.1) (zab _)))) (by simp only [e0.2, e3.2, e6.2, fS] <;> rfl) (zcn (R := (fun u_ p_ => RE9 b n c sv W r.g r.bad (sumO n.fst ((ar.getD 0 crow0).xs) ((ar.getD 1 crow0).xs) 0 W r.g) u_ p_)) rfl rfl (fun L w hX hm => sum_mut b c n sv W r.v r.g r.bad ((ar.getD 0 crow0).xs) ((ar.getD 1 crow0).xs) _ _ 0 _ _ _ hm hE.ok (fun w hm => hso w ((hX w hm).sub (.cons _ (.cons _ (.cons _ (.cons _ (.refl _))))))) hone hsv hW (fun w hm => (hps w ((hX w hm).holds _ (zbr (i := 1) rfl))).at (k := 0) (by omega)) hA0.1 hA0.2 (fun w hm => (hps w ((hX w hm).holds _ (zbr (i := 1) rfl))).at (k := 1) (by omega)) hA1.1 hA1.2 ⟨by omega, by omega⟩))
  intro vf pf hmu hR
  have e7 : (∃ pm_, (pf 7) = [pm_] ∧ (fun u_ p_ => RE9 b n c sv W r.g r.bad (sumO n.fst ((ar.getD 0 crow0).xs) ((ar.getD 1 crow0).xs) 0 W r.g) u_ p_) (vf 7) pm_) := hR 7 (by decide)
  obtain ⟨p51, pE7, hR52⟩ := e7
  obtain ⟨v50, vE7⟩ : ∃ x, vf 7 = x := ⟨_, rfl⟩
  rw [vE7] at hR52
  obtain ⟨vhR52, ghR52, bdhR52, zshR52, rfl, exhR52, lshR52, zlhR52, adhR52⟩ := hR52
  have q0 := hR 0 (by decide)
  have q1 := hR 1 (by decide)
  have q2 := hR 2 (by decide)
  have q3 := hR 3 (by decide)
  have q4 := hR 4 (by decide)
  have q5 := hR 5 (by decide)
  have q6 := hR 6 (by decide)
  refine zcd (zbs [167, 98, 92, 52, 46, 29, 13, 10, 9, 8, 7, 6, 2, 1, 0] _ (sk 176 (congrArg some vE7) (zab _)) rfl) (by simp only [pE7, vE7, q0.2, q1.2, q2.2, q3.2, q4.2, q5.2, q6.2, fS] <;> rfl) ?_
  simp only [List.drop_succ_cons, List.drop_zero]
  refine enQ 1 rfl (zdn (zbn 4 rfl ?_))
  refine zak ?_
  have hii : i = (arI (os.getD p oq0).k).toNat := by omega
  have hpe : ((posA (enX os f) (p + 1) i) : Int) = (enX os (f + 1) p : Int) := by rw [hii]; rfl
  exact zcf (rs := [.tmp 6, .tmp 7]) (vs := [v50, .int .i64 ((posA (enX os f) (p + 1) i) : Int)]) rfl ⟨rfl, rfl, trivial⟩ rfl (fun w hm => ⟨_, bigE [adP b n c sv (W : Int) vhR52 ghR52 bdhR52, rI9 3 v50 zshR52], rfl, ⟨_, _, _, _, _, (by rw [hpe]; rfl), rfl, hE.trans exhR52, lshR52, zlhR52, zgp hii hRd (fin_two (by omega) (by rw [show twO n.fst (os.getD p oq0).k (ar.getD 0 crow0).xs (ar.getD 1 crow0).xs W r.g = _ from (by unfold twO; rw [if_neg (by omega), if_neg (by omega), if_neg (by omega), if_pos (by omega)])]; exact adhR52))⟩, hm.sub (.cons_cons _ (.cons _ (.cons _ (.cons _ (.cons _ (.refl _))))))⟩)
 refine zbc 1 rfl (zal rfl (srQ ?_))
 refine zbj rfl rfl rfl rfl rfl rfl (fun h53 => ?_) (fun h53 => ?_)
 ·
  refine zbc 1 rfl (zaj rfl ?_)
  have hA0 := hls _ (zdj (es := ar) (i := 0) (d := crow0) (by omega))
  have hAl0 : ((ar.getD 0 crow0).xs).length = W := hA0.2
  have hA1 := hls _ (zdj (es := ar) (i := 1) (d := crow0) (by omega))
  have hAl1 : ((ar.getD 1 crow0).xs).length = W := hA1.2
  refine zdo 5 [3, 2, 1, 0, 4] rfl rfl (by decide) ?_
  refine zdi (l := (rowE 3 1 (.slice none 0 0) 0 ([]) :: bigE ps :: rS9 48 1 av ar crowC :: boxE b1 #[.int .i64 ((os.getD p oq0).k), .int .i64 ((os.getD p oq0).a), .int .i64 ((os.getD p oq0).b)] 97 :: l)) rfl 9 [0, 1, 2, 3, 4, 5, 6, 7, 8] (List.take 9 _) (List.drop 9 _) [[], [], [1], [2], [], [4], [5], [6], [0, 3, 7]] [179, 180, 181, 182, 183, 184, 185, 186, 187] (fun i_ vs_ v_ p_ => match i_ with | 0 => v_ = .pointer (some ⟨c, 0, none⟩) ∧ p_ = [] | 1 => v_ = av ∧ p_ = [] | 2 => v_ = elP av ((0 : Int).toNat * 1) ∧ p_ = [] | 3 => v_ = (ar.getD 0 crow0).v ∧ p_ = [] | 4 => v_ = av ∧ p_ = [] | 5 => v_ = elP av ((1 : Int).toNat * 1) ∧ p_ = [] | 6 => v_ = (ar.getD 1 crow0).v ∧ p_ = [] | 7 => (fun v' post => post = [rI9 3 v' (((ar.getD 1 crow0).xs.map xr))]) v_ p_ | 8 => (∃ pm_, p_ = [pm_] ∧ (fun u_ p_ => RE9 b n c sv W r.g r.bad (sumO n.fst ((ar.getD 0 crow0).xs) ((ar.getD 1 crow0).xs.map xr) 1 W r.g) u_ p_) v_ pm_) | _ => True) [[], [], [1], [2], [], [4], [5], [6], [0, 3, 7]] [none, none, none, none, none, none, none, none, some 10] [adP b n c sv W r.v r.g r.bad] [0, 1, 2, 3, 4, 5, 6, 7, 8] 10 (List.take_append_drop 9 _).symm (by kernel_rfl) (by kernel_rfl) (by kernel_rfl) rfl rfl ?_ ?_
  ·
   refine ⟨?_, ?_, ?_, ?_, ?_, ?_, ?_, ?_, ?_, trivial⟩
   ·
    intro vf pf hmu hR
    refine dqQ [] [] rfl (zay (zae [0] rfl) ?_)
    exact zbi (zax rfl)
   ·
    intro vf pf hmu hR
    refine dqQ [] [] rfl (zay (zae [9] rfl) ?_)
    exact zbi (zax rfl)
   ·
    intro vf pf hmu hR
    have e1 := hR 1 (by decide)
    refine dqQ [1] [1] rfl (zaq (sk 180 (congrArg some e1.1) (zab _)) (List.sublist_append_right _ _) ?_)
    exact zbi (riQ 1 rfl rfl rfl rfl (zao 2 rfl))
   ·
    intro vf pf hmu hR
    have e2 := hR 2 (by decide)
    refine dqQ [2] [2] rfl (zaq (sk 181 (congrArg some e2.1) (zab _)) (List.sublist_append_right _ _) ?_)
    exact zbi (zba (u := (ar.getD 0 crow0).v) rfl rfl rfl (zao 2 rfl) (zcv crowC (fun r => r.v) (fun _ => rfl) ar crow0 (show 0 < _ by omega)))
   ·
    intro vf pf hmu hR
    refine dqQ [] [] rfl (zay (zae [9] rfl) ?_)
    exact zbi (zax rfl)
   ·
    intro vf pf hmu hR
    have e4 := hR 4 (by decide)
    refine dqQ [4] [4] rfl (zaq (sk 183 (congrArg some e4.1) (zab _)) (List.sublist_append_right _ _) ?_)
    exact zbi (riQ 1 rfl rfl rfl rfl (zao 2 rfl))
   ·
    intro vf pf hmu hR
    have e5 := hR 5 (by decide)
    refine dqQ [5] [5] rfl (zaq (sk 184 (congrArg some e5.1) (zab _)) (List.sublist_append_right _ _) ?_)
    exact zbi (zba (u := (ar.getD 1 crow0).v) rfl rfl rfl (zao 2 rfl) (zcv crowC (fun r => r.v) (fun _ => rfl) ar crow0 (show 1 < _ by omega)))
   ·
    intro vf pf hmu hR
    have e6 := hR 6 (by decide)
    refine dqQ [6] [6] rfl (zaq (sk 185 (congrArg some e6.1) (zab _)) (List.sublist_append_right _ _) ?_)
    exact zam rfl rfl (fun w hm => complements_ret ((ar.getD 1 crow0).xs) _ w ((fun w hm => (hps w (hm.holds _ (zbr (i := 1) rfl))).at (k := 1) (by omega)) w hm) (ls_small hE.ok hA1.1) (by omega))
   intro vf pf hmu hR
   have e0 := hR 0 (by decide)
   have e3 := hR 3 (by decide)
   have e7 : (fun v' post => post = [rI9 3 v' (((ar.getD 1 crow0).xs.map xr))]) (vf 7) (pf 7) := hR 7 (by decide)
   obtain ⟨v54, vE7⟩ : ∃ x, vf 7 = x := ⟨_, rfl⟩
   obtain ⟨p55, pE7⟩ : ∃ x, pf 7 = x := ⟨_, rfl⟩
   have hR56 := e7
   rw [vE7, pE7] at hR56
   subst hR56
   refine Or.inl ⟨rfl, ?_⟩
   show RunM _ _ _ (pf 10) (([0, 3, 7] : List Nat).flatMap pf ++ _) (envOf _ vf [0, 3, 7] ++ _) _ _
   rw [hmu]
   exact zbx (sk 179 (congrArg some e0.1) (sk 182 (congrArg some e3.1) (sk 186 (congrArg some vE7) (zab _)))) (by simp only [pE7, vE7, e0.2, e3.2, fS] <;> rfl) (zcn (R := (fun u_ p_ => RE9 b n c sv W r.g r.bad (sumO n.fst ((ar.getD 0 crow0).xs) ((ar.getD 1 crow0).xs.map xr) 1 W r.g) u_ p_)) rfl rfl (fun L w hX hm => sum_mut b c n sv W r.v r.g r.bad ((ar.getD 0 crow0).xs) ((ar.getD 1 crow0).xs.map xr) _ _ 1 _ _ _ hm hE.ok (fun w hm => hso w ((hX w hm).sub (.cons _ (.cons _ (.cons _ (.cons _ (.cons _ (.refl _)))))))) hone hsv hW (fun w hm => (hps w ((hX w hm).holds _ (zbr (i := 2) rfl))).at (k := 0) (by omega)) hA0.1 hA0.2 (fun w hm => (zao (l := (rowE 3 1 v54 (((ar.getD 1 crow0).xs.map xr).length) (((ar.getD 1 crow0).xs.map xr).map (Value.int .i64)) :: rowE 3 1 (.slice none 0 0) 0 ([]) :: bigE ps :: rS9 48 1 av ar crowC :: boxE b1 #[.int .i64 ((os.getD p oq0).k), .int .i64 ((os.getD p oq0).a), .int .i64 ((os.getD p oq0).b)] 97 :: l)) 0 rfl) w (hX w hm)) hA1.1.xr (by rw [List.length_map]; exact hA1.2) ⟨by omega, by omega⟩))
  intro vf pf hmu hR
  have e7 : (fun v' post => post = [rI9 3 v' (((ar.getD 1 crow0).xs.map xr))]) (vf 7) (pf 7) := hR 7 (by decide)
  obtain ⟨v54, vE7⟩ : ∃ x, vf 7 = x := ⟨_, rfl⟩
  obtain ⟨p55, pE7⟩ : ∃ x, pf 7 = x := ⟨_, rfl⟩
  have hR56 := e7
  rw [vE7, pE7] at hR56
  subst hR56
  have e8 : (∃ pm_, (pf 8) = [pm_] ∧ (fun u_ p_ => RE9 b n c sv W r.g r.bad (sumO n.fst ((ar.getD 0 crow0).xs) ((ar.getD 1 crow0).xs.map xr) 1 W r.g) u_ p_) (vf 8) pm_) := hR 8 (by decide)
  obtain ⟨p58, pE8, hR59⟩ := e8
  obtain ⟨v57, vE8⟩ : ∃ x, vf 8 = x := ⟨_, rfl⟩
  rw [vE8] at hR59
  obtain ⟨vhR59, ghR59, bdhR59, zshR59, rfl, exhR59, lshR59, zlhR59, adhR59⟩ := hR59
  have q0 := hR 0 (by decide)
  have q1 := hR 1 (by decide)
  have q2 := hR 2 (by decide)
  have q3 := hR 3 (by decide)
  have q4 := hR 4 (by decide)
  have q5 := hR 5 (by decide)
  have q6 := hR 6 (by decide)
  refine zcd (zbs [177, 167, 98, 92, 52, 46, 29, 13, 10, 9, 8, 7, 6, 2, 1, 0] _ (sk 187 (congrArg some vE8) (zab _)) rfl) (by simp only [pE7, vE7, pE8, vE8, q0.2, q1.2, q2.2, q3.2, q4.2, q5.2, q6.2, fS] <;> rfl) ?_
  simp only [List.drop_succ_cons, List.drop_zero]
  refine enQ 1 rfl (zdn (zbn 4 rfl ?_))
  refine zak ?_
  have hii : i = (arI (os.getD p oq0).k).toNat := by omega
  have hpe : ((posA (enX os f) (p + 1) i) : Int) = (enX os (f + 1) p : Int) := by rw [hii]; rfl
  exact zcf (rs := [.tmp 6, .tmp 7]) (vs := [v57, .int .i64 ((posA (enX os f) (p + 1) i) : Int)]) rfl ⟨rfl, rfl, trivial⟩ rfl (fun w hm => ⟨_, bigE [adP b n c sv (W : Int) vhR59 ghR59 bdhR59, rI9 3 v57 zshR59], rfl, ⟨_, _, _, _, _, (by rw [hpe]; rfl), rfl, hE.trans exhR59, lshR59, zlhR59, zgp hii hRd (fin_two (by omega) (by rw [show twO n.fst (os.getD p oq0).k (ar.getD 0 crow0).xs (ar.getD 1 crow0).xs W r.g = _ from (by unfold twO; rw [if_neg (by omega), if_neg (by omega), if_neg (by omega), if_neg (by omega), if_pos (by omega)])]; exact adhR59))⟩, hm.sub (.cons _ (.cons_cons _ (.cons _ (.cons _ (.cons _ (.cons _ (.refl _)))))))⟩)
 refine zbc 1 rfl (zal rfl (zgk ?_))
 refine zbj rfl rfl rfl rfl rfl rfl (fun h60 => ?_) (fun h60 => ?_)
 ·
  refine zbc 1 rfl (zaj rfl (zdb (zaj rfl ?_)))
  have hA0 := hls _ (zdj (es := ar) (i := 0) (d := crow0) (by omega))
  have hAl0 : ((ar.getD 0 crow0).xs).length = W := hA0.2
  have hA1 := hls _ (zdj (es := ar) (i := 1) (d := crow0) (by omega))
  have hAl1 : ((ar.getD 1 crow0).xs).length = W := hA1.2
  refine zdo 5 [3, 2, 1, 0, 4] rfl rfl (by decide) ?_
  refine zdi (l := (rowE 3 1 (.slice none 0 0) 0 ([]) :: bigE ps :: rS9 48 1 av ar crowC :: boxE b1 #[.int .i64 ((os.getD p oq0).k), .int .i64 ((os.getD p oq0).a), .int .i64 ((os.getD p oq0).b)] 97 :: l)) rfl 10 [0, 1, 2, 3, 4, 5, 6, 7, 8, 9] (List.take 10 _) (List.drop 10 _) [[], [], [1], [], [3], [4], [], [6], [7], [0, 2, 5, 8]] [191, 192, 193, 194, 195, 196, 197, 198, 199, 200] (fun i_ vs_ v_ p_ => match i_ with | 0 => v_ = .pointer (some ⟨c, 0, none⟩) ∧ p_ = [] | 1 => v_ = .pointer (some ⟨b1, 0 + 0, none⟩) ∧ p_ = [] | 2 => v_ = .int .i64 ((os.getD p oq0).k) ∧ p_ = [] | 3 => v_ = av ∧ p_ = [] | 4 => v_ = elP av ((0 : Int).toNat * 1) ∧ p_ = [] | 5 => v_ = (ar.getD 0 crow0).v ∧ p_ = [] | 6 => v_ = av ∧ p_ = [] | 7 => v_ = elP av ((1 : Int).toNat * 1) ∧ p_ = [] | 8 => v_ = (ar.getD 1 crow0).v ∧ p_ = [] | 9 => (∃ pm_, p_ = [pm_] ∧ (fun u_ p_ => RE9 b n c sv W r.g r.bad ((itO (eqS n.fst ((ar.getD 0 crow0).xs) ((ar.getD 1 crow0).xs)) (r.g, (1 : Int)) W).map (fun (r : List An × Int) => ((r.1, loneL W r.2) : GL))) u_ p_) v_ pm_) | _ => True) [[], [], [1], [], [3], [4], [], [6], [7], [0, 2, 5, 8]] [none, none, none, none, none, none, none, none, none, some 11] [adP b n c sv W r.v r.g r.bad] [0, 1, 2, 3, 4, 5, 6, 7, 8, 9] 11 (List.take_append_drop 10 _).symm (by kernel_rfl) (by kernel_rfl) (by kernel_rfl) rfl rfl ?_ ?_
  ·
   refine ⟨?_, ?_, ?_, ?_, ?_, ?_, ?_, ?_, ?_, ?_, trivial⟩
   ·
    intro vf pf hmu hR
    refine dqQ [] [] rfl (zay (zae [0] rfl) ?_)
    exact zbi (zax rfl)
   ·
    intro vf pf hmu hR
    refine dqQ [] [] rfl (zay (zae [8] rfl) ?_)
    exact zbi (fdQ 0 rfl rfl rfl)
   ·
    intro vf pf hmu hR
    have e1 := hR 1 (by decide)
    refine dqQ [1] [1] rfl (zaq (sk 192 (congrArg some e1.1) (zab _)) (List.sublist_append_right _ _) ?_)
    exact zbi (zan rfl rfl rfl (zai 3 rfl rfl))
   ·
    intro vf pf hmu hR
    refine dqQ [] [] rfl (zay (zae [9] rfl) ?_)
    exact zbi (zax rfl)
   ·
    intro vf pf hmu hR
    have e3 := hR 3 (by decide)
    refine dqQ [3] [3] rfl (zaq (sk 194 (congrArg some e3.1) (zab _)) (List.sublist_append_right _ _) ?_)
    exact zbi (riQ 1 rfl rfl rfl rfl (zao 2 rfl))
   ·
    intro vf pf hmu hR
    have e4 := hR 4 (by decide)
    refine dqQ [4] [4] rfl (zaq (sk 195 (congrArg some e4.1) (zab _)) (List.sublist_append_right _ _) ?_)
    exact zbi (zba (u := (ar.getD 0 crow0).v) rfl rfl rfl (zao 2 rfl) (zcv crowC (fun r => r.v) (fun _ => rfl) ar crow0 (show 0 < _ by omega)))
   ·
    intro vf pf hmu hR
    refine dqQ [] [] rfl (zay (zae [9] rfl) ?_)
    exact zbi (zax rfl)
   ·
    intro vf pf hmu hR
    have e6 := hR 6 (by decide)
    refine dqQ [6] [6] rfl (zaq (sk 197 (congrArg some e6.1) (zab _)) (List.sublist_append_right _ _) ?_)
    exact zbi (riQ 1 rfl rfl rfl rfl (zao 2 rfl))
   ·
    intro vf pf hmu hR
    have e7 := hR 7 (by decide)
    refine dqQ [7] [7] rfl (zaq (sk 198 (congrArg some e7.1) (zab _)) (List.sublist_append_right _ _) ?_)
    exact zbi (zba (u := (ar.getD 1 crow0).v) rfl rfl rfl (zao 2 rfl) (zcv crowC (fun r => r.v) (fun _ => rfl) ar crow0 (show 1 < _ by omega)))
   intro vf pf hmu hR
   have e0 := hR 0 (by decide)
   have e2 := hR 2 (by decide)
   have e5 := hR 5 (by decide)
   have e8 := hR 8 (by decide)
   refine Or.inl ⟨rfl, ?_⟩
   show RunM _ _ _ (pf 11) (([0, 2, 5, 8] : List Nat).flatMap pf ++ _) (envOf _ vf [0, 2, 5, 8] ++ _) _ _
   rw [hmu]
   exact zbx (sk 191 (congrArg some e0.1) (sk 193 (congrArg some e2.1) (sk 196 (congrArg some e5.1) (sk 199 (congrArg some e8.1) (zab _))))) (by simp only [e0.2, e2.2, e5.2, e8.2, fS] <;> rfl) (zcn (R := (fun u_ p_ => RE9 b n c sv W r.g r.bad ((itO (eqS n.fst ((ar.getD 0 crow0).xs) ((ar.getD 1 crow0).xs)) (r.g, (1 : Int)) W).map (fun (r : List An × Int) => ((r.1, loneL W r.2) : GL))) u_ p_)) rfl rfl (fun L w hX hm => (by have hk9 : (os.getD p oq0).k = 10 := (by omega); rw [hk9]; exact cmpEq_mut b c n sv W r.v r.g r.bad ((ar.getD 0 crow0).xs) ((ar.getD 1 crow0).xs) _ _ _ _ _ hm hE.ok (fun w hm => hso w ((hX w hm).sub (.cons _ (.cons _ (.cons _ (.cons _ (.refl _))))))) hone hsv hW (fun w hm => (hps w ((hX w hm).holds _ (zbr (i := 1) rfl))).at (k := 0) (by omega)) hA0.1 hA0.2 (fun w hm => (hps w ((hX w hm).holds _ (zbr (i := 1) rfl))).at (k := 1) (by omega)) hA1.1 hA1.2)))
  intro vf pf hmu hR
  have e9 : (∃ pm_, (pf 9) = [pm_] ∧ (fun u_ p_ => RE9 b n c sv W r.g r.bad ((itO (eqS n.fst ((ar.getD 0 crow0).xs) ((ar.getD 1 crow0).xs)) (r.g, (1 : Int)) W).map (fun (r : List An × Int) => ((r.1, loneL W r.2) : GL))) u_ p_) (vf 9) pm_) := hR 9 (by decide)
  obtain ⟨p62, pE9, hR63⟩ := e9
  obtain ⟨v61, vE9⟩ : ∃ x, vf 9 = x := ⟨_, rfl⟩
  rw [vE9] at hR63
  obtain ⟨vhR63, ghR63, bdhR63, zshR63, rfl, exhR63, lshR63, zlhR63, adhR63⟩ := hR63
  have q0 := hR 0 (by decide)
  have q1 := hR 1 (by decide)
  have q2 := hR 2 (by decide)
  have q3 := hR 3 (by decide)
  have q4 := hR 4 (by decide)
  have q5 := hR 5 (by decide)
  have q6 := hR 6 (by decide)
  have q7 := hR 7 (by decide)
  have q8 := hR 8 (by decide)
  refine zcd (zbs [188, 177, 167, 98, 92, 52, 46, 29, 13, 10, 9, 8, 7, 6, 2, 1, 0] _ (sk 200 (congrArg some vE9) (zab _)) rfl) (by simp only [pE9, vE9, q0.2, q1.2, q2.2, q3.2, q4.2, q5.2, q6.2, q7.2, q8.2, fS] <;> rfl) ?_
  simp only [List.drop_succ_cons, List.drop_zero]
  refine enQ 1 rfl (zdn (zbn 4 rfl ?_))
  refine zak ?_
  have hii : i = (arI (os.getD p oq0).k).toNat := by omega
  have hpe : ((posA (enX os f) (p + 1) i) : Int) = (enX os (f + 1) p : Int) := by rw [hii]; rfl
  exact zcf (rs := [.tmp 6, .tmp 7]) (vs := [v61, .int .i64 ((posA (enX os f) (p + 1) i) : Int)]) rfl ⟨rfl, rfl, trivial⟩ rfl (fun w hm => ⟨_, bigE [adP b n c sv (W : Int) vhR63 ghR63 bdhR63, rI9 3 v61 zshR63], rfl, ⟨_, _, _, _, _, (by rw [hpe]; rfl), rfl, hE.trans exhR63, lshR63, zlhR63, zgp hii hRd (fin_two (by omega) (by rw [show twO n.fst (os.getD p oq0).k (ar.getD 0 crow0).xs (ar.getD 1 crow0).xs W r.g = _ from (by unfold twO; rw [if_neg (by omega), if_neg (by omega), if_neg (by omega), if_neg (by omega), if_neg (by omega), if_pos (by omega)])]; exact adhR63))⟩, hm.sub (.cons_cons _ (.cons _ (.cons _ (.cons _ (.cons _ (.refl _))))))⟩)
 refine zbc 1 rfl (zal rfl (zav ?_))
 refine zbj rfl rfl rfl rfl rfl rfl (fun h64 => ?_) (fun h64 => ?_)
 ·
  refine zbc 1 rfl (zaj rfl ?_)
  have hA0 := hls _ (zdj (es := ar) (i := 0) (d := crow0) (by omega))
  have hAl0 : ((ar.getD 0 crow0).xs).length = W := hA0.2
  have hA1 := hls _ (zdj (es := ar) (i := 1) (d := crow0) (by omega))
  have hAl1 : ((ar.getD 1 crow0).xs).length = W := hA1.2
  refine zdo 5 [3, 2, 1, 0, 4] rfl rfl (by decide) ?_
  refine zdi (l := (rowE 3 1 (.slice none 0 0) 0 ([]) :: bigE ps :: rS9 48 1 av ar crowC :: boxE b1 #[.int .i64 ((os.getD p oq0).k), .int .i64 ((os.getD p oq0).a), .int .i64 ((os.getD p oq0).b)] 97 :: l)) rfl 10 [0, 1, 2, 3, 4, 5, 6, 7, 8, 9] (List.take 10 _) (List.drop 10 _) [[], [], [1], [], [3], [4], [], [6], [7], [0, 2, 5, 8]] [191, 192, 193, 194, 195, 196, 197, 198, 199, 200] (fun i_ vs_ v_ p_ => match i_ with | 0 => v_ = .pointer (some ⟨c, 0, none⟩) ∧ p_ = [] | 1 => v_ = .pointer (some ⟨b1, 0 + 0, none⟩) ∧ p_ = [] | 2 => v_ = .int .i64 ((os.getD p oq0).k) ∧ p_ = [] | 3 => v_ = av ∧ p_ = [] | 4 => v_ = elP av ((0 : Int).toNat * 1) ∧ p_ = [] | 5 => v_ = (ar.getD 0 crow0).v ∧ p_ = [] | 6 => v_ = av ∧ p_ = [] | 7 => v_ = elP av ((1 : Int).toNat * 1) ∧ p_ = [] | 8 => v_ = (ar.getD 1 crow0).v ∧ p_ = [] | 9 => (∃ pm_, p_ = [pm_] ∧ (fun u_ p_ => RE9 b n c sv W r.g r.bad ((itO (lsS n.fst ((ar.getD 0 crow0).xs) ((ar.getD 1 crow0).xs)) (r.g, (0 : Int)) W).map (fun (r : List An × Int) => ((r.1, loneL W r.2) : GL))) u_ p_) v_ pm_) | _ => True) [[], [], [1], [], [3], [4], [], [6], [7], [0, 2, 5, 8]] [none, none, none, none, none, none, none, none, none, some 11] [adP b n c sv W r.v r.g r.bad] [0, 1, 2, 3, 4, 5, 6, 7, 8, 9] 11 (List.take_append_drop 10 _).symm (by kernel_rfl) (by kernel_rfl) (by kernel_rfl) rfl rfl ?_ ?_
  ·
   refine ⟨?_, ?_, ?_, ?_, ?_, ?_, ?_, ?_, ?_, ?_, trivial⟩
   ·
    intro vf pf hmu hR
    refine dqQ [] [] rfl (zay (zae [0] rfl) ?_)
    exact zbi (zax rfl)
   ·
    intro vf pf hmu hR
    refine dqQ [] [] rfl (zay (zae [8] rfl) ?_)
    exact zbi (fdQ 0 rfl rfl rfl)
   ·
    intro vf pf hmu hR
    have e1 := hR 1 (by decide)
    refine dqQ [1] [1] rfl (zaq (sk 192 (congrArg some e1.1) (zab _)) (List.sublist_append_right _ _) ?_)
    exact zbi (zan rfl rfl rfl (zai 3 rfl rfl))
   ·
    intro vf pf hmu hR
    refine dqQ [] [] rfl (zay (zae [9] rfl) ?_)
    exact zbi (zax rfl)
   ·
    intro vf pf hmu hR
    have e3 := hR 3 (by decide)
    refine dqQ [3] [3] rfl (zaq (sk 194 (congrArg some e3.1) (zab _)) (List.sublist_append_right _ _) ?_)
    exact zbi (riQ 1 rfl rfl rfl rfl (zao 2 rfl))
   ·
    intro vf pf hmu hR
    have e4 := hR 4 (by decide)
    refine dqQ [4] [4] rfl (zaq (sk 195 (congrArg some e4.1) (zab _)) (List.sublist_append_right _ _) ?_)
    exact zbi (zba (u := (ar.getD 0 crow0).v) rfl rfl rfl (zao 2 rfl) (zcv crowC (fun r => r.v) (fun _ => rfl) ar crow0 (show 0 < _ by omega)))
   ·
    intro vf pf hmu hR
    refine dqQ [] [] rfl (zay (zae [9] rfl) ?_)
    exact zbi (zax rfl)
   ·
    intro vf pf hmu hR
    have e6 := hR 6 (by decide)
    refine dqQ [6] [6] rfl (zaq (sk 197 (congrArg some e6.1) (zab _)) (List.sublist_append_right _ _) ?_)
    exact zbi (riQ 1 rfl rfl rfl rfl (zao 2 rfl))
   ·
    intro vf pf hmu hR
    have e7 := hR 7 (by decide)
    refine dqQ [7] [7] rfl (zaq (sk 198 (congrArg some e7.1) (zab _)) (List.sublist_append_right _ _) ?_)
    exact zbi (zba (u := (ar.getD 1 crow0).v) rfl rfl rfl (zao 2 rfl) (zcv crowC (fun r => r.v) (fun _ => rfl) ar crow0 (show 1 < _ by omega)))
   intro vf pf hmu hR
   have e0 := hR 0 (by decide)
   have e2 := hR 2 (by decide)
   have e5 := hR 5 (by decide)
   have e8 := hR 8 (by decide)
   refine Or.inl ⟨rfl, ?_⟩
   show RunM _ _ _ (pf 11) (([0, 2, 5, 8] : List Nat).flatMap pf ++ _) (envOf _ vf [0, 2, 5, 8] ++ _) _ _
   rw [hmu]
   exact zbx (sk 191 (congrArg some e0.1) (sk 193 (congrArg some e2.1) (sk 196 (congrArg some e5.1) (sk 199 (congrArg some e8.1) (zab _))))) (by simp only [e0.2, e2.2, e5.2, e8.2, fS] <;> rfl) (zcn (R := (fun u_ p_ => RE9 b n c sv W r.g r.bad ((itO (lsS n.fst ((ar.getD 0 crow0).xs) ((ar.getD 1 crow0).xs)) (r.g, (0 : Int)) W).map (fun (r : List An × Int) => ((r.1, loneL W r.2) : GL))) u_ p_)) rfl rfl (fun L w hX hm => (by have hk9 : (os.getD p oq0).k = 11 := (by omega); rw [hk9]; exact cmpLs_mut b c n sv W r.v r.g r.bad ((ar.getD 0 crow0).xs) ((ar.getD 1 crow0).xs) _ _ _ _ _ hm hE.ok (fun w hm => hso w ((hX w hm).sub (.cons _ (.cons _ (.cons _ (.cons _ (.refl _))))))) hone hsv hW (fun w hm => (hps w ((hX w hm).holds _ (zbr (i := 1) rfl))).at (k := 0) (by omega)) hA0.1 hA0.2 (fun w hm => (hps w ((hX w hm).holds _ (zbr (i := 1) rfl))).at (k := 1) (by omega)) hA1.1 hA1.2)))
  intro vf pf hmu hR
  have e9 : (∃ pm_, (pf 9) = [pm_] ∧ (fun u_ p_ => RE9 b n c sv W r.g r.bad ((itO (lsS n.fst ((ar.getD 0 crow0).xs) ((ar.getD 1 crow0).xs)) (r.g, (0 : Int)) W).map (fun (r : List An × Int) => ((r.1, loneL W r.2) : GL))) u_ p_) (vf 9) pm_) := hR 9 (by decide)
  obtain ⟨p66, pE9, hR67⟩ := e9
  obtain ⟨v65, vE9⟩ : ∃ x, vf 9 = x := ⟨_, rfl⟩
  rw [vE9] at hR67
  obtain ⟨vhR67, ghR67, bdhR67, zshR67, rfl, exhR67, lshR67, zlhR67, adhR67⟩ := hR67
  have q0 := hR 0 (by decide)
  have q1 := hR 1 (by decide)
  have q2 := hR 2 (by decide)
  have q3 := hR 3 (by decide)
  have q4 := hR 4 (by decide)
  have q5 := hR 5 (by decide)
  have q6 := hR 6 (by decide)
  have q7 := hR 7 (by decide)
  have q8 := hR 8 (by decide)
  refine zcd (zbs [188, 177, 167, 98, 92, 52, 46, 29, 13, 10, 9, 8, 7, 6, 2, 1, 0] _ (sk 200 (congrArg some vE9) (zab _)) rfl) (by simp only [pE9, vE9, q0.2, q1.2, q2.2, q3.2, q4.2, q5.2, q6.2, q7.2, q8.2, fS] <;> rfl) ?_
  simp only [List.drop_succ_cons, List.drop_zero]
  refine enQ 1 rfl (zdn (zbn 4 rfl ?_))
  refine zak ?_
  have hii : i = (arI (os.getD p oq0).k).toNat := by omega
  have hpe : ((posA (enX os f) (p + 1) i) : Int) = (enX os (f + 1) p : Int) := by rw [hii]; rfl
  exact zcf (rs := [.tmp 6, .tmp 7]) (vs := [v65, .int .i64 ((posA (enX os f) (p + 1) i) : Int)]) rfl ⟨rfl, rfl, trivial⟩ rfl (fun w hm => ⟨_, bigE [adP b n c sv (W : Int) vhR67 ghR67 bdhR67, rI9 3 v65 zshR67], rfl, ⟨_, _, _, _, _, (by rw [hpe]; rfl), rfl, hE.trans exhR67, lshR67, zlhR67, zgp hii hRd (fin_two (by omega) (by rw [show twO n.fst (os.getD p oq0).k (ar.getD 0 crow0).xs (ar.getD 1 crow0).xs W r.g = _ from (by unfold twO; rw [if_neg (by omega), if_neg (by omega), if_neg (by omega), if_neg (by omega), if_neg (by omega), if_neg (by omega)])]; exact adhR67))⟩, hm.sub (.cons_cons _ (.cons _ (.cons _ (.cons _ (.cons _ (.refl _))))))⟩)
 refine zbc 1 rfl (zal rfl (zbn 1 rfl (zgk ?_)))
 have hA0 := hls _ (zdj (es := ar) (i := 0) (d := crow0) (by omega))
 have hAl0 : ((ar.getD 0 crow0).xs).length = W := hA0.2
 have hA1 := hls _ (zdj (es := ar) (i := 1) (d := crow0) (by omega))
 have hAl1 : ((ar.getD 1 crow0).xs).length = W := hA1.2
 have hA2 := hls _ (zdj (es := ar) (i := 2) (d := crow0) (by omega))
 have hAl2 : ((ar.getD 2 crow0).xs).length = W := hA2.2
 refine zag 1 rfl (hvQ rfl (riQ 1 rfl rfl rfl rfl (zao 2 rfl)) ?_)
 refine hvQ rfl (zba (u := (ar.getD 0 crow0).v) rfl rfl rfl (zao 2 rfl) (zcv crowC (fun r => r.v) (fun _ => rfl) ar crow0 (show 0 < _ by omega))) (hvQ rfl (lnQ rfl rfl rfl (fun w hm => (hps w (hm.holds _ (zbr (i := 1) rfl))).at (k := 0) (by omega))) ?_)
 refine zbc 1 rfl (zbf ?_)
 refine lkQ2 (α := Nat) (β := ASt) [0, 1, 2, 6, 7, 8, 9, 10, 13, 29, 46, 52, 55, 56, 92, 98, 167, 177, 188] rfl (fun k q => (rowE 3 1 (.slice none 0 0) 0 ([]) :: bigE ps :: rS9 48 1 av ar crowC :: boxE b1 #[.int .i64 ((os.getD p oq0).k), .int .i64 ((os.getD p oq0).a), .int .i64 ((os.getD p oq0).b)] 97 :: adP b n c sv W q.v q.g q.bad :: l)) (fun k q => [(15, .int .i64 q.c), (57, .int .i64 (k : Int))]) (fun k q => k ≤ W ∧ Ext n r.g q.g ∧ LtOk q.c (n.fst + q.g.length) ∧ AdR (r.bad = true) (q.bad = true) (itO (orS n.fst (ar.getD 0 crow0).xs) (r.g, 0) k) (q.g, q.c)) (fun k q => W - k) 0 ⟨r.v, r.g, r.bad, [], .slice none 0 0, 0⟩ ⟨Nat.zero_le _, Ext.refl hE.ok, ⟨by dsimp only; omega, by dsimp only; omega⟩, AdR.refl⟩ (saQ rfl) (.refl _) ?_
 intro k q hi68
 obtain ⟨hk, hQ, hqc, hRq⟩ := hi68
 have hqq : q.g.length ≤ 300 := hQ.ok.a1
 refine srQ ?_
 refine zcb rfl rfl rfl rfl rfl rfl (fun h69 => ?_) (fun h69 => ?_)
 ·
  refine ntQ (tcQ rfl (zdb (sbQ (srQ ?_))))
  refine hvQ rfl (riQ 1 rfl rfl rfl rfl (fun w hm => (hps w (hm.holds _ (zbr (i := 1) rfl))).at (k := 0) (by omega))) (hvQ rfl (zba (u := .int .i64 (((ar.getD 0 crow0).xs).getD k 0)) rfl rfl rfl (fun w hm => (hps w (hm.holds _ (zbr (i := 1) rfl))).at (k := 0) (by omega)) (zcg (show _ < ((ar.getD 0 crow0).xs).length by omega))) ?_)
  refine zbc 1 rfl (reQ 3 rfl ?_)
  refine zcz (R := (AR9 b n c sv (W : Int) q.g q.bad (orO n.fst q.g q.c (((ar.getD 0 crow0).xs).getD k 0)))) 4 rfl rfl rfl rfl rfl (fun L w hX hm => adOr_mut b c n sv (W : Int) q.v q.g q.bad q.c (((ar.getD 0 crow0).xs).getD k 0) _ _ _ hm hQ.ok hqc (hQ.lit (hA0.1.at (show k < ((ar.getD 0 crow0).xs).length by omega))) (fun w hm => hso w ((hX w hm).sub (.cons _ (.cons _ (.cons _ (.cons _ (.refl _))))))) hone hsv) ?_
  intro v70 p71 hR72
  obtain ⟨zhR72, vhR72, ghR72, bdhR72, rfl, rfl, ohR72⟩ := hR72
  have thR72 := ohR72.lt
  obtain ⟨thR72a, thR72b⟩ := id thR72
  have lhR72 : ghR72.length ≤ 300 := ohR72.ex.ok.a1
  refine zck (l' := (rowE 3 1 (.slice none 0 0) 0 ([]) :: bigE ps :: rS9 48 1 av ar crowC :: boxE b1 #[.int .i64 ((os.getD p oq0).k), .int .i64 ((os.getD p oq0).a), .int .i64 ((os.getD p oq0).b)] 97 :: adP b n c sv W vhR72 ghR72 bdhR72 :: l)) rfl ?_
  refine enQ 1 rfl (zdn (zav (hvQ rfl (vaQ rfl rfl rfl) (enQ 1 rfl ?_))))
  exact zci (k + 1) ⟨vhR72, ghR72, bdhR72, [], .slice none 0 0, zhR72⟩ ⟨by omega, hQ.trans ohR72.ex, ohR72.lt, AdR.step hRq ohR72.ad⟩ (by omega) (saQ rfl) (.refl _)
 refine ntQ (fcQ rfl ?_)
 refine zby (zes ?_)
 refine zat (zaw (zac (reQ 1 rfl (hvQ rfl (riQ 1 rfl rfl rfl rfl (zao 2 rfl)) ?_))))
 refine hvQ rfl (zba (u := (ar.getD 1 crow0).v) rfl rfl rfl (zao 2 rfl) (zcv crowC (fun r => r.v) (fun _ => rfl) ar crow0 (show 1 < _ by omega))) (hvQ rfl (lnQ rfl rfl rfl (fun w hm => (hps w (hm.holds _ (zbr (i := 1) rfl))).at (k := 1) (by omega))) ?_)
 refine zbc 1 rfl (zbf ?_)
 refine lkQ2 (α := Nat) (β := ASt) [0, 1, 2, 6, 7, 8, 9, 10, 15, 29, 46, 52, 55, 56, 57, 58, 69, 92, 98, 167, 177, 188] rfl (fun j t => (rI9 3 t.u t.zs :: bigE ps :: rS9 48 1 av ar crowC :: boxE b1 #[.int .i64 ((os.getD p oq0).k), .int .i64 ((os.getD p oq0).a), .int .i64 ((os.getD p oq0).b)] 97 :: adP b n c sv W t.v t.g t.bad :: l)) (fun j t => [(13, t.u), (70, .int .i64 (j : Int))]) (fun j t => j ≤ W ∧ Ext n q.g t.g ∧ LsOk n t.g t.zs ∧ t.zs.length = j ∧ AdR (q.bad = true) (t.bad = true) (itO (mxS n.fst q.c (ar.getD 1 crow0).xs (ar.getD 2 crow0).xs) (q.g, []) j) (t.g, t.zs)) (fun j t => W - j) 0 ⟨q.v, q.g, q.bad, [], _, 0⟩ ⟨Nat.zero_le _, Ext.refl hQ.ok, LsOk.nil, rfl, AdR.refl⟩ (saQ rfl) (.refl _) ?_
 intro j t hi73
 obtain ⟨hj, hT, hLs, hzl, hRt⟩ := hi73
 have hqt : t.g.length ≤ 300 := hT.ok.a1
 refine srQ ?_
 refine zcb rfl rfl rfl rfl rfl rfl (fun h74 => ?_) (fun h74 => ?_)
 ·
  refine ntQ (tcQ rfl (zdb (sbQ (srQ (enQ 2 rfl ?_)))))
  refine zaw (zdo 5 [3, 2, 1, 0, 4] rfl rfl (by decide) ?_)
  refine zdi (l := (rI9 3 t.u t.zs :: bigE ps :: rS9 48 1 av ar crowC :: boxE b1 #[.int .i64 ((os.getD p oq0).k), .int .i64 ((os.getD p oq0).a), .int .i64 ((os.getD p oq0).b)] 97 :: l)) rfl 17 [0, 1, 2, 3, 4, 5, 6, 7, 8, 9, 10, 11, 12, 13, 14, 15, 16] (List.take 17 _) (List.drop 17 _) [[], [], [], [], [3], [4], [], [5, 6], [7], [], [9], [10], [], [11, 12], [13], [1, 2, 8, 14], [15]] [73, 74, 75, 76, 77, 78, 79, 80, 81, 82, 83, 84, 85, 86, 87, 88, 89] (fun i_ vs_ v_ p_ => match i_ with | 0 => v_ = t.u ∧ p_ = [] | 1 => v_ = .pointer (some ⟨c, 0, none⟩) ∧ p_ = [] | 2 => v_ = .int .i64 q.c ∧ p_ = [] | 3 => v_ = av ∧ p_ = [] | 4 => v_ = elP av ((1 : Int).toNat * 1) ∧ p_ = [] | 5 => v_ = (ar.getD 1 crow0).v ∧ p_ = [] | 6 => v_ = .int .i64 (j : Int) ∧ p_ = [] | 7 => v_ = elP ((ar.getD 1 crow0).v) (((j : Int)).toNat * 1) ∧ p_ = [] | 8 => v_ = .int .i64 (((ar.getD 1 crow0).xs).getD j 0) ∧ p_ = [] | 9 => v_ = av ∧ p_ = [] | 10 => v_ = elP av ((2 : Int).toNat * 1) ∧ p_ = [] | 11 => v_ = (ar.getD 2 crow0).v ∧ p_ = [] | 12 => v_ = .int .i64 (j : Int) ∧ p_ = [] | 13 => v_ = elP ((ar.getD 2 crow0).v) (((j : Int)).toNat * 1) ∧ p_ = [] | 14 => v_ = .int .i64 (((ar.getD 2 crow0).xs).getD j 0) ∧ p_ = [] | 15 => (∃ pm_, p_ = [pm_] ∧ (AR9 b n c sv (W : Int) t.g t.bad (muxO n.fst t.g q.c (((ar.getD 1 crow0).xs).getD j 0) (((ar.getD 2 crow0).xs).getD j 0))) v_ pm_) | 16 => IsRow 3 1 1 ([(intOf_o (gV9 vs_ 0))].map (Value.int .i64)) v_ p_ | _ => True) [[], [], [], [], [3], [4], [], [5, 6], [7], [], [9], [10], [], [11, 12], [13], [1, 2, 8, 14], [15]] [none, none, none, none, none, none, none, none, none, none, none, none, none, none, none, some 19, none] [adP b n c sv W t.v t.g t.bad] [0, 1, 2, 3, 4, 5, 6, 7, 8, 9, 10, 11, 12, 13, 14, 15, 16] 19 (List.take_append_drop 17 _).symm (by kernel_rfl) (by kernel_rfl) (by kernel_rfl) rfl rfl ?_ ?_
  ·
   refine ⟨?_, ?_, ?_, ?_, ?_, ?_, ?_, ?_, ?_, ?_, ?_, ?_, ?_, ?_, ?_, ?_, ?_, trivial⟩
   ·
    intro vf pf hmu hR
    refine dqQ [] [] rfl (zay (zae [13] rfl) ?_)
    exact zbi (zax rfl)
   ·
    intro vf pf hmu hR
    refine dqQ [] [] rfl (zay (zae [0] rfl) ?_)
    exact zbi (zax rfl)
   ·
    intro vf pf hmu hR
    refine dqQ [] [] rfl (zay (zae [15] rfl) ?_)
    exact zbi (zax rfl)
   ·
    intro vf pf hmu hR
    refine dqQ [] [] rfl (zay (zae [9] rfl) ?_)
    exact zbi (zax rfl)
   ·
    intro vf pf hmu hR
    have e3 := hR 3 (by decide)
    refine dqQ [3] [3] rfl (zaq (sk 76 (congrArg some e3.1) (zab _)) (List.sublist_append_right _ _) ?_)
    exact zbi (riQ 1 rfl rfl rfl rfl (zao 2 rfl))
   ·
    intro vf pf hmu hR
    have e4 := hR 4 (by decide)
    refine dqQ [4] [4] rfl (zaq (sk 77 (congrArg some e4.1) (zab _)) (List.sublist_append_right _ _) ?_)
    exact zbi (zba (u := (ar.getD 1 crow0).v) rfl rfl rfl (zao 2 rfl) (zcv crowC (fun r => r.v) (fun _ => rfl) ar crow0 (show 1 < _ by omega)))
   ·
    intro vf pf hmu hR
    refine dqQ [] [] rfl (zay (zae [18] rfl) ?_)
    exact zbi (zax rfl)
   ·
    intro vf pf hmu hR
    have e5 := hR 5 (by decide)
    have e6 := hR 6 (by decide)
    refine dqQ [5, 6] [5, 6] rfl (zaq (sk 78 (congrArg some e5.1) (sk 79 (congrArg some e6.1) (zab _))) (List.sublist_append_right _ _) ?_)
    exact zbi (riQ 1 rfl rfl rfl rfl (fun w hm => (hps w (hm.holds _ (zbr (i := 1) rfl))).at (k := 1) (by omega)))
   ·
    intro vf pf hmu hR
    have e7 := hR 7 (by decide)
    refine dqQ [7] [7] rfl (zaq (sk 80 (congrArg some e7.1) (zab _)) (List.sublist_append_right _ _) ?_)
    exact zbi (zba (u := .int .i64 (((ar.getD 1 crow0).xs).getD j 0)) rfl rfl rfl (fun w hm => (hps w (hm.holds _ (zbr (i := 1) rfl))).at (k := 1) (by omega)) (zcg (show _ < ((ar.getD 1 crow0).xs).length by omega)))
   ·
    intro vf pf hmu hR
    refine dqQ [] [] rfl (zay (zae [9] rfl) ?_)
    exact zbi (zax rfl)
   ·
    intro vf pf hmu hR
    have e9 := hR 9 (by decide)
    refine dqQ [9] [9] rfl (zaq (sk 82 (congrArg some e9.1) (zab _)) (List.sublist_append_right _ _) ?_)
    exact zbi (riQ 1 rfl rfl rfl rfl (zao 2 rfl))
   ·
    intro vf pf hmu hR
    have e10 := hR 10 (by decide)
    refine dqQ [10] [10] rfl (zaq (sk 83 (congrArg some e10.1) (zab _)) (List.sublist_append_right _ _) ?_)
    exact zbi (zba (u := (ar.getD 2 crow0).v) rfl rfl rfl (zao 2 rfl) (zcv crowC (fun r => r.v) (fun _ => rfl) ar crow0 (show 2 < _ by omega)))
   ·
    intro vf pf hmu hR
    refine dqQ [] [] rfl (zay (zae [18] rfl) ?_)
    exact zbi (zax rfl)
   ·
    intro vf pf hmu hR
    have e11 := hR 11 (by decide)
    have e12 := hR 12 (by decide)
    refine dqQ [11, 12] [11, 12] rfl (zaq (sk 84 (congrArg some e11.1) (sk 85 (congrArg some e12.1) (zab _))) (List.sublist_append_right _ _) ?_)
    exact zbi (riQ 1 rfl rfl rfl rfl (fun w hm => (hps w (hm.holds _ (zbr (i := 1) rfl))).at (k := 2) (by omega)))
   ·
    intro vf pf hmu hR
    have e13 := hR 13 (by decide)
    refine dqQ [13] [13] rfl (zaq (sk 86 (congrArg some e13.1) (zab _)) (List.sublist_append_right _ _) ?_)
    exact zbi (zba (u := .int .i64 (((ar.getD 2 crow0).xs).getD j 0)) rfl rfl rfl (fun w hm => (hps w (hm.holds _ (zbr (i := 1) rfl))).at (k := 2) (by omega)) (zcg (show _ < ((ar.getD 2 crow0).xs).length by omega)))
   ·
    intro vf pf hmu hR
    have e1 := hR 1 (by decide)
    have e2 := hR 2 (by decide)
    have e8 := hR 8 (by decide)
    have e14 := hR 14 (by decide)
    refine Or.inl ⟨rfl, ?_⟩
    show RunM _ _ _ (pf 19) (([1, 2, 8, 14] : List Nat).flatMap pf ++ _) (envOf _ vf [1, 2, 8, 14] ++ _) _ _
    rw [hmu]
    exact zbx (sk 74 (congrArg some e1.1) (sk 75 (congrArg some e2.1) (sk 81 (congrArg some e8.1) (sk 87 (congrArg some e14.1) (zab _))))) (by simp only [e1.2, e2.2, e8.2, e14.2, fS] <;> rfl) (zcn (R := (AR9 b n c sv (W : Int) t.g t.bad (muxO n.fst t.g q.c (((ar.getD 1 crow0).xs).getD j 0) (((ar.getD 2 crow0).xs).getD j 0)))) rfl rfl (fun L w hX hm => adMux_mut b c n sv (W : Int) t.v t.g t.bad q.c (((ar.getD 1 crow0).xs).getD j 0) (((ar.getD 2 crow0).xs).getD j 0) _ _ _ hm hT.ok ((hQ.trans hT).lit (hA1.1.at (show j < ((ar.getD 1 crow0).xs).length by omega))) ((hQ.trans hT).lit (hA2.1.at (show j < ((ar.getD 2 crow0).xs).length by omega))) (hT.lit hqc) (fun w hm => hso w ((hX w hm).sub (.cons _ (.cons _ (.cons _ (.cons _ (.refl _))))))) hone hsv))
   intro vf pf hmu hR
   have e15 : (∃ pm_, (pf 15) = [pm_] ∧ (AR9 b n c sv (W : Int) t.g t.bad (muxO n.fst t.g q.c (((ar.getD 1 crow0).xs).getD j 0) (((ar.getD 2 crow0).xs).getD j 0))) (vf 15) pm_) := hR 15 (by decide)
   obtain ⟨p76, pE15, hR77⟩ := e15
   obtain ⟨v75, vE15⟩ : ∃ x, vf 15 = x := ⟨_, rfl⟩
   rw [vE15] at hR77
   obtain ⟨zhR77, vhR77, ghR77, bdhR77, rfl, rfl, ohR77⟩ := hR77
   have thR77 := ohR77.lt
   obtain ⟨thR77a, thR77b⟩ := id thR77
   have lhR77 : ghR77.length ≤ 300 := ohR77.ex.ok.a1
   refine dqQ [15] [15] rfl (zbg (sk 88 (congrArg some vE15) (zab _)) (by simp only [pE15, vE15, fS] <;> rfl) ?_)
   exact zbo (zas (z := .int .i64 0) (s := 1) (cs := ([zhR77].map (Value.int .i64))) rfl Try.underlying48 rfl (by decide) rfl (by kernel_rfl) rfl) (fun v_ p_ h => by show IsRow 3 1 1 ([(intOf_o (vf 15))].map (Value.int .i64)) v_ p_; rw [vE15]; exact h)
  intro vf pf hmu hR
  have e0 := hR 0 (by decide)
  have e15 : (∃ pm_, (pf 15) = [pm_] ∧ (AR9 b n c sv (W : Int) t.g t.bad (muxO n.fst t.g q.c (((ar.getD 1 crow0).xs).getD j 0) (((ar.getD 2 crow0).xs).getD j 0))) (vf 15) pm_) := hR 15 (by decide)
  obtain ⟨p76, pE15, hR77⟩ := e15
  obtain ⟨v75, vE15⟩ : ∃ x, vf 15 = x := ⟨_, rfl⟩
  rw [vE15] at hR77
  obtain ⟨zhR77, vhR77, ghR77, bdhR77, rfl, rfl, ohR77⟩ := hR77
  have thR77 := ohR77.lt
  obtain ⟨thR77a, thR77b⟩ := id thR77
  have lhR77 : ghR77.length ≤ 300 := ohR77.ex.ok.a1
  have e16 : IsRow 3 1 1 ([(intOf_o (vf 15))].map (Value.int .i64)) (vf 16) (pf 16) := hR 16 (by decide)
  rw [vE15] at e16
  obtain ⟨g78, vE16, pE16⟩ := e16
  have q0 := hR 0 (by decide)
  have q1 := hR 1 (by decide)
  have q2 := hR 2 (by decide)
  have q3 := hR 3 (by decide)
  have q4 := hR 4 (by decide)
  have q5 := hR 5 (by decide)
  have q6 := hR 6 (by decide)
  have q7 := hR 7 (by decide)
  have q8 := hR 8 (by decide)
  have q9 := hR 9 (by decide)
  have q10 := hR 10 (by decide)
  have q11 := hR 11 (by decide)
  have q12 := hR 12 (by decide)
  have q13 := hR 13 (by decide)
  have q14 := hR 14 (by decide)
  refine zcd (zbs [71, 70, 69, 58, 57, 56, 55, 52, 46, 29, 18, 15, 13, 10, 9, 8, 7, 6, 2, 1, 0] _ (sk 73 (congrArg some e0.1) (sk 89 (congrArg some vE16) (zae [188, 177, 167, 98, 92] rfl))) rfl) (by simp only [pE15, vE15, pE16, vE16, q0.2, q1.2, q2.2, q3.2, q4.2, q5.2, q6.2, q7.2, q8.2, q9.2, q10.2, q11.2, q12.2, q13.2, q14.2, fS] <;> rfl) ?_
  simp only [List.drop_succ_cons, List.drop_zero]
  refine zdc (i := 2) (z := .int .i64 0) (bytes := 8) rfl rfl rfl rfl Try.underlying48 (by kernel_rfl) rfl rfl rfl rfl (zao 1 rfl) (zcj _) (by first | omega | (simp; done) | (simp; omega)) (zco t.zs ([zhR77])) (zcx t.zs ([zhR77])) (fun _ => rfl) ?_
  intro v79
  refine enQ 1 rfl (zdn (zav (hvQ rfl (vaQ rfl rfl rfl) (enQ 1 rfl ?_))))
  refine zaz 6 [0, 5, 4, 3, 2] rfl rfl (by decide) ?_
  exact zci (j + 1) ⟨vhR77, ghR77, bdhR77, t.zs ++ ([zhR77]), v79, 0⟩ ⟨by omega, hT.trans ohR77.ex, (hLs.ext ohR77.ex).app ohR77.lt, by dsimp only; rw [List.length_append, List.length_singleton]; omega, AdR.step hRt (AdR.map _ ohR77.ad)⟩ (by omega) (saQ rfl) (.refl _)
 refine ntQ (fcQ rfl ?_)
 refine zby (zes ?_)
 refine zat (zdn (zbn 4 rfl ?_))
 refine zak ?_
 have hii : i = (arI (os.getD p oq0).k).toNat := by omega
 refine zaz 5 [3, 2, 1, 0, 4] rfl rfl (by decide) ?_
 refine zbk 2 rfl ?_
 have hpe : ((posA (enX os f) (p + 1) i) : Int) = (enX os (f + 1) p : Int) := by rw [hii]; rfl
 exact zcf (rs := [.tmp 6, .tmp 7]) (vs := [t.u, .int .i64 ((posA (enX os f) (p + 1) i) : Int)]) rfl ⟨rfl, rfl, trivial⟩ rfl (fun w hm => ⟨_, bigE [adP b n c sv W t.v t.g t.bad, rI9 3 t.u t.zs], rfl, ⟨_, _, _, _, _, (by rw [hpe]; rfl), rfl, (hE.trans hQ).trans hT, hLs, (by omega), zgp hii hRd (fin_mux (by omega) (by rw [show k = W by omega] at hRq; rw [show j = W by omega] at hRt; exact AdR.bind hRq hRt))⟩, hm.sub (.cons_cons _ (.cons _ (.cons _ (.cons _ (.refl _)))))⟩)
theorem or_tr {n m m2 : Nt} {P Q : HP} (h : m = n ∨ ∀ w, P.holds w → RdsNt w m) (k : m2 = m ∨ ∀ w, Q.holds w → RdsNt w m2) : m2 = n ∨ ∀ w, (bigE [P, Q]).holds w → RdsNt w m2 := by
  rcases k with rfl | k
  · exact h.imp id (fun q w hw => q w (zau hw List.mem_cons_self))
  · exact .inr (fun w hw => k w (zau hw (List.mem_cons_of_mem _ List.mem_cons_self)))
theorem SgOk.gr {n m : Nt} {sg : List (List Int)} (h : SgOk n n.gs sg) (g : Gr n m) : SgOk m m.gs sg := ⟨fun s hs => ⟨fun x hx => by
  have h1 := (h.lt s hs).1 x hx
  have h2 := g.cnt
  rw [cnt_fst, cnt_fst] at h2
  exact ⟨h1.1, by have := h1.2; omega⟩, (h.lt s hs).2⟩⟩
section
variable {f : Int} {W : Nat} {sg : List (List Int)} {os : List Oq} {u p i : Nat} {g g1 g2 : List An} {L : List (List Int)} {z zs a b d : List Int} {b0 : Prop}
theorem es_arg {H : Nat → List An → Option GL} {e : Nat → Nat} (h : ES b0 (argO H e p g i) (g1, L)) (k : ES (¬ PosL z) (H (posA e p i) g1) (g2, z)) : ES (b0 ∨ ¬ PosL z) (argO H e p g (i + 1)) (g2, L ++ [z]) :=
  h.bind (fun hb => ES.cng (by constructor; exact .inr; exact fun h9 => h9.resolve_left hb) (k.map (fun (r : GL) => (r.1, L ++ [r.2])))) .inl
theorem es_fin {s : List An × List (List Int)} (hi : (arI (os.getD p oq0).k).toNat = i) (h : ES b0 (argO (exX f W sg os u) (enX os u) (p + 1) g i) s) (k : ¬ b0 → ES (¬ PosL zs) (finO f W sg (os.getD p oq0) s) (g2, zs)) (q : b0 → ¬ PosL zs) : ES (¬ PosL zs) (exX f W sg os (u + 1) p g) (g2, zs) := by
  subst hi; exact h.bind k q
theorem es_two {kd : Int} (hk : ES (¬ PosL zs) (twO f kd a b W g) (g2, zs)) (ha : a.length = W) (hb : b.length = W) : ((False ∨ ¬ PosL a) ∨ ¬ PosL b) → ¬ PosL zs := by
  intro h9 h8
  have h7 := two_pos (hk.pos (fun h => h h8))
  rcases h9 with (h9 | h9) | h9
  · exact h9
  · exact h9 (fun k hk => (h7 k (by omega)).1)
  · exact h9 (fun k hk => (h7 k (by omega)).2)
theorem es_three {e : Int} (hW : 1 ≤ W) (hE : ES (e < 0) (itO (orS f a) (g, 0) W) (g1, e)) (hM : ES (¬ PosL zs) (itO (mxS f e b d) (g1, []) W) (g2, zs)) : ES (¬ PosL zs) (thO f a b d W g) (g2, zs) :=
  hE.bind (fun _ => hM) (fun h9 h8 => by have := (mx_pos (hM.pos (fun h => h h8)) 0 (by omega)).1; omega)
theorem es_threeq {e : Int} (hW : 1 ≤ W) (hE : ES (e < 0) (itO (orS f a) (g, 0) W) (g1, e)) (hM : ES (¬ PosL zs) (itO (mxS f e b d) (g1, []) W) (g2, zs)) (ha : a.length = W) (hb : b.length = W) (hd : d.length = W) : (((False ∨ ¬ PosL a) ∨ ¬ PosL b) ∨ ¬ PosL d) → ¬ PosL zs := by
  intro h9 h8
  have h7 := mx_pos (hM.pos (fun h => h h8))
  have h6 := or_pos (hE.pos (by have := (h7 0 (by omega)).1; omega))
  rcases h9 with ((h9 | h9) | h9) | h9
  · exact h9
  · exact h9 (fun k hk => h6 k (by omega))
  · exact h9 (fun k hk => (h7 k (by omega)).2.1)
  · exact h9 (fun k hk => (h7 k (by omega)).2.2)
theorem nt_xr (h : PosL a) : a.map ntL = a.map xr := List.map_congr_left (fun x hx => by
  obtain ⟨i, hi, rfl⟩ := List.mem_iff_getElem.1 hx
  have h1 := h i hi
  rw [List.getD_eq_getElem?_getD, List.getElem?_eq_getElem hi] at h1
  exact ntL_pos h1)
theorem nt_npos (h : ¬ PosL a) : ¬ PosL (a.map ntL) := fun q => h (fun k hk => by
  have h1 := q k (by rw [List.length_map]; exact hk)
  rw [List.getD_eq_getElem?_getD, List.getElem?_map, List.getElem?_eq_getElem hk] at h1
  have h2 : 0 ≤ ntL a[k] := h1
  rw [List.getD_eq_getElem?_getD, List.getElem?_eq_getElem hk]
  exact Int.not_lt.1 (fun h3 => by have := ntL_lt0 (show a[k] < 0 from h3); omega))
theorem xr_pos (h : PosL a) : PosL (a.map xr) := fun k hk => by
  rw [List.length_map] at hk
  have h1 := h k hk
  rw [getD_xr hk]
  unfold xr; split <;> omega
theorem fin_notE {ar : List (List Int)} {o : Oq} (h : o.k = 4) (ha : ar.getD 0 [] = a) (hp : PosL a) : ES (¬ PosL (a.map ntL)) (finO f W sg o (g, ar)) (g, a.map ntL) := by
  unfold finO; rw [if_neg (by rw [h]; decide), if_pos h]; dsimp only; rw [ha, nt_xr hp]; exact .inl ⟨fun q => q (xr_pos hp), rfl⟩
theorem fin_muxE {ar : List (List Int)} {o : Oq} (h : o.k = 12) : finO f W sg o (g, ar) = thO f (ar.getD 0 []) (ar.getD 1 []) (ar.getD 2 []) W g := by
  unfold finO; rw [if_neg (by rw [h]; decide), if_neg (by omega), if_pos h]
theorem fin_twoE {ar : List (List Int)} {o : Oq} (h : 5 ≤ o.k ∧ o.k ≤ 11) : finO f W sg o (g, ar) = twO f o.k (ar.getD 0 []) (ar.getD 1 []) W g := by
  have h0 : arI o.k ≠ 0 := by have := (arI_cases o.k).2.1 h; omega
  unfold finO; rw [if_neg h0, if_neg (by omega), if_neg (by omega)]
theorem fin_leafE {ar : List (List Int)} {o : Oq} (h : arI o.k = 0) : finO f W sg o (g, ar) = some (g, lfL sg o W) := by unfold finO; rw [if_pos h]
end
theorem lf_posE {n : Nt} {g : List An} {zs : List Int} (h : LsOk n g zs) : PosL zs := fun k hk => (h.at hk).1
theorem ls_bndE {n : Nt} {zs : List Int} (h : LsOk n n.gs zs) : ∀ x ∈ zs, x < 2 * n.cnt := fun x hx => (h x hx).2
theorem en_4 {os : List Oq} {u p : Nat} (h : arI (os.getD p oq0).k = 1) : enX os (u + 1) p = enX os u (p + 1) := by show posA _ _ _ = _; rw [h]; rfl
theorem en_two {os : List Oq} {u p : Nat} (h : arI (os.getD p oq0).k = 2) : enX os (u + 1) p = enX os u (enX os u (p + 1)) := by show posA _ _ _ = _; rw [h]; rfl
theorem en_three {os : List Oq} {u p : Nat} (h : arI (os.getD p oq0).k = 3) : enX os (u + 1) p = enX os u (enX os u (enX os u (p + 1))) := by show posA _ _ _ = _; rw [h]; rfl
theorem en_0 {os : List Oq} {u p : Nat} (h : arI (os.getD p oq0).k = 0) : enX os (u + 1) p = p + 1 := by show posA _ _ _ = _; rw [h]; rfl
theorem inD_ans (x lo hi : Int) (w : World)  :
   Calls Try.prog 69 #[.int .i64 x, .int .i64 lo, .int .i64 hi] w (Ans w (.bool (inR x lo hi))) := by
 refine zbq (N := 15) (args := [.int .i64 x, .int .i64 lo, .int .i64 hi]) Try.func69 rfl rfl (zbn 1 rfl (zac (reQ 2 rfl ?_)))
 refine zfw rfl rfl rfl rfl rfl rfl (fun h1 => ?_) (fun h1 => ?_)
 ·
  refine zag 3 rfl (hl_leq rfl rfl rfl rfl rfl rfl (fun h2 => ?_) (fun h2 => ?_))
  ·
   refine zbc 2 rfl ?_
   exact zak (zbl rfl rfl (congrArg _ (((zcp _ _ _).2 (by omega)).symm)))
  refine zbc 2 rfl ?_
  exact zak (zbl rfl rfl (congrArg _ ((Bool.eq_false_iff.2 (fun h => by have := (zcp _ _ _).1 h; omega)).symm)))
 refine zbc 6 rfl ?_
 exact zak (zbl rfl rfl (congrArg _ ((Bool.eq_false_iff.2 (fun h => by have := (zcp _ _ _).1 h; omega)).symm)))
theorem zfy (k : Int) (w : World)  :
   Calls Try.prog 124 #[.int .i64 k] w (Ans w (.int .i64 (arI k))) := by
 refine zbq (N := 12) (args := [.int .i64 k]) Try.func124 rfl rfl (zbn 1 rfl (zac (zac (reQ 1 rfl ?_))))
 refine zdu rfl (zam rfl rfl (fun w hm => zbb (inD_ans k 0 12 w))) (zbz (fun h1 => ?_) (fun h1 => ?_))
 ·
  obtain ⟨h1a, h1b⟩ := (zcp _ _ _).1 h1
  refine zbc 1 rfl (zal rfl (zdb (zac (zac (reQ 1 rfl ?_)))))
  refine hl_leq rfl rfl rfl rfl rfl rfl (fun h2 => ?_) (fun h2 => ?_)
  ·
   refine ntQ (zaj rfl (zbn 1 rfl ?_))
   refine zak (zad ?_)
   exact zbl rfl rfl (congrArg (Value.int .i64) (by unfold arI; (repeat' split) <;> first | rfl | (exfalso; omega)))
  refine ntQ (zal rfl (zdb (zac (zac (reQ 1 rfl ?_)))))
  refine zbj rfl rfl rfl rfl rfl rfl (fun h3 => ?_) (fun h3 => ?_)
  ·
   refine ntQ (zaj rfl (zbn 1 rfl ?_))
   refine zak (zad ?_)
   exact zbl rfl rfl (congrArg (Value.int .i64) (by unfold arI; (repeat' split) <;> first | rfl | (exfalso; omega)))
  refine ntQ (zal rfl (zdb (zac (zac (reQ 1 rfl ?_)))))
  refine zbj rfl rfl rfl rfl rfl rfl (fun h4 => ?_) (fun h4 => ?_)
  ·
   refine ntQ (zaj rfl (zbn 1 rfl ?_))
   refine zak (zad ?_)
   exact zbl rfl rfl (congrArg (Value.int .i64) (by unfold arI; (repeat' split) <;> first | rfl | (exfalso; omega)))
  refine ntQ (zal rfl (zdb (zbn 1 rfl ?_)))
  exact zak (zbl rfl rfl (congrArg (Value.int .i64) (by unfold arI; (repeat' split) <;> first | rfl | (exfalso; omega))))
 have h1a := zhd h1
 refine zbc 1 rfl (zaj rfl (zbn 1 rfl ?_))
 refine zak (zad ?_)
 exact zbl rfl rfl (congrArg (Value.int .i64) (by unfold arI; (repeat' split) <;> first | rfl | (exfalso; omega)))
theorem l04Op_ans (o : Oq) (n : Int) (w : World)  :
   Calls Try.prog 126 #[.agg #[.int .i64 o.k, .int .i64 o.a, .int .i64 o.b], .int .i64 n] w (Ans w (.bool (pB (OqP n o)))) := by
 refine zbq (N := 63) (args := [.agg #[.int .i64 o.k, .int .i64 o.a, .int .i64 o.b], .int .i64 n]) Try.func126 rfl rfl (srQ ?_)
 refine zed rfl (zdh rfl rfl) ?_
 intro b1
 refine zbc 1 rfl (zgk (hvQ rfl (fdQ 0 rfl rfl rfl) (hvQ rfl (zan rfl rfl rfl (zai 0 rfl rfl)) (ntQ (zbf (zac ?_))))))
 refine zav (zbj rfl rfl rfl rfl rfl rfl (fun h2 => ?_) (fun h2 => ?_))
 ·
  refine zbc 1 rfl (zaj rfl (srQ (hvQ rfl (fdQ 1 rfl rfl rfl) (hvQ rfl (zan rfl rfl rfl (zai 0 rfl rfl)) ?_))))
  refine zdu rfl (zam rfl rfl (fun w hm => zbb (inD_ans o.a 0 15 w))) (zbz (fun h3 => ?_) (fun h3 => ?_))
  ·
   obtain ⟨h3a, h3b⟩ := (zcp _ _ _).1 h3
   refine zag 1 rfl (hvQ rfl (fdQ 2 rfl rfl rfl) (hvQ rfl (zan rfl rfl rfl (zai 0 rfl rfl)) ?_))
   refine zbj rfl rfl rfl rfl rfl rfl (fun h4 => ?_) (fun h4 => ?_)
   ·
    refine zbc 2 rfl ?_
    refine zak (zaf ?_)
    exact zad (zbl rfl rfl (congrArg _ (zft (by first | exact .inl ⟨by omega, ⟨by omega, by omega⟩, by omega⟩ | exact .inr (.inl ⟨by omega, ⟨by omega, by omega⟩, by omega⟩) | exact .inr (.inr (.inl ⟨by omega, ⟨by omega, by omega⟩, by omega, by omega⟩)) | exact .inr (.inr (.inr ⟨by omega, by omega, by omega, by omega, by omega, by omega⟩)))).symm))
   refine zbc 2 rfl ?_
   refine zak (zaf ?_)
   exact zad (zbl rfl rfl (congrArg _ (zdr (fun hp => by first | (rcases hp with ⟨p1, p2, p3⟩ | ⟨p1, p2, p3⟩ | ⟨p1, p2, p3⟩ | ⟨p1, p2, p3, p4, p5, p6⟩ <;> omega))).symm))
  have h3a := zhd h3
  refine zbc 6 rfl ?_
  refine zak (zaf ?_)
  exact zad (zbl rfl rfl (congrArg _ (zdr (fun hp => by first | (rcases hp with ⟨p1, p2, p3⟩ | ⟨p1, p2, p3⟩ | ⟨p1, p2, p3⟩ | ⟨p1, p2, p3, p4, p5, p6⟩ <;> omega))).symm))
 refine zbc 1 rfl (zal rfl (srQ ?_))
 refine zbj rfl rfl rfl rfl rfl rfl (fun h5 => ?_) (fun h5 => ?_)
 ·
  refine zbc 1 rfl (zaj rfl (srQ (hvQ rfl (fdQ 1 rfl rfl rfl) (hvQ rfl (zan rfl rfl rfl (zai 0 rfl rfl)) ?_))))
  refine zfw rfl rfl rfl rfl rfl rfl (fun h6 => ?_) (fun h6 => ?_)
  ·
   refine zag 1 rfl (hvQ rfl (fdQ 1 rfl rfl rfl) (hvQ rfl (zan rfl rfl rfl (zai 0 rfl rfl)) (zag 1 rfl ?_)))
   refine zcb rfl rfl rfl rfl rfl rfl (fun h7 => ?_) (fun h7 => ?_)
   ·
    refine zag 2 rfl (hvQ rfl (fdQ 2 rfl rfl rfl) (hvQ rfl (zan rfl rfl rfl (zai 0 rfl rfl)) ?_))
    refine zbj rfl rfl rfl rfl rfl rfl (fun h8 => ?_) (fun h8 => ?_)
    ·
     refine zbc 2 rfl ?_
     refine zak (zaf ?_)
     exact zad (zbl rfl rfl (congrArg _ (zft (by first | exact .inl ⟨by omega, ⟨by omega, by omega⟩, by omega⟩ | exact .inr (.inl ⟨by omega, ⟨by omega, by omega⟩, by omega⟩) | exact .inr (.inr (.inl ⟨by omega, ⟨by omega, by omega⟩, by omega, by omega⟩)) | exact .inr (.inr (.inr ⟨by omega, by omega, by omega, by omega, by omega, by omega⟩)))).symm))
    refine zbc 2 rfl ?_
    refine zak (zaf ?_)
    exact zad (zbl rfl rfl (congrArg _ (zdr (fun hp => by first | (rcases hp with ⟨p1, p2, p3⟩ | ⟨p1, p2, p3⟩ | ⟨p1, p2, p3⟩ | ⟨p1, p2, p3, p4, p5, p6⟩ <;> omega))).symm))
   refine zbc 7 rfl ?_
   refine zak (zaf ?_)
   exact zad (zbl rfl rfl (congrArg _ (zdr (fun hp => by first | (rcases hp with ⟨p1, p2, p3⟩ | ⟨p1, p2, p3⟩ | ⟨p1, p2, p3⟩ | ⟨p1, p2, p3, p4, p5, p6⟩ <;> omega))).symm))
  refine zbc 12 rfl ?_
  refine zak (zaf ?_)
  exact zad (zbl rfl rfl (congrArg _ (zdr (fun hp => by first | (rcases hp with ⟨p1, p2, p3⟩ | ⟨p1, p2, p3⟩ | ⟨p1, p2, p3⟩ | ⟨p1, p2, p3, p4, p5, p6⟩ <;> omega))).symm))
 refine zbc 1 rfl (zal rfl (srQ ?_))
 refine zbj rfl rfl rfl rfl rfl rfl (fun h9 => ?_) (fun h9 => ?_)
 ·
  refine zbc 1 rfl (zaj rfl (srQ (hvQ rfl (fdQ 1 rfl rfl rfl) (hvQ rfl (zan rfl rfl rfl (zai 0 rfl rfl)) ?_))))
  refine zfw rfl rfl rfl rfl rfl rfl (fun h10 => ?_) (fun h10 => ?_)
  ·
   refine zag 1 rfl (hvQ rfl (fdQ 1 rfl rfl rfl) (hvQ rfl (zan rfl rfl rfl (zai 0 rfl rfl)) (zag 1 rfl ?_)))
   refine zcb rfl rfl rfl rfl rfl rfl (fun h11 => ?_) (fun h11 => ?_)
   ·
    refine zag 2 rfl (hvQ rfl (fdQ 2 rfl rfl rfl) (hvQ rfl (zan rfl rfl rfl (zai 0 rfl rfl)) ?_))
    refine zdu rfl (zam rfl rfl (fun w hm => zbb (inD_ans o.b 0 3 w))) (zbz (fun h12 => ?_) (fun h12 => ?_))
    ·
     obtain ⟨h12a, h12b⟩ := (zcp _ _ _).1 h12
     refine zbc 2 rfl ?_
     refine zak (zaf ?_)
     exact zad (zbl rfl rfl (congrArg _ (zft (by first | exact .inl ⟨by omega, ⟨by omega, by omega⟩, by omega⟩ | exact .inr (.inl ⟨by omega, ⟨by omega, by omega⟩, by omega⟩) | exact .inr (.inr (.inl ⟨by omega, ⟨by omega, by omega⟩, by omega, by omega⟩)) | exact .inr (.inr (.inr ⟨by omega, by omega, by omega, by omega, by omega, by omega⟩)))).symm))
    have h12a := zhd h12
    refine zbc 2 rfl ?_
    refine zak (zaf ?_)
    exact zad (zbl rfl rfl (congrArg _ (zdr (fun hp => by first | (rcases hp with ⟨p1, p2, p3⟩ | ⟨p1, p2, p3⟩ | ⟨p1, p2, p3⟩ | ⟨p1, p2, p3, p4, p5, p6⟩ <;> omega))).symm))
   refine zbc 7 rfl ?_
   refine zak (zaf ?_)
   exact zad (zbl rfl rfl (congrArg _ (zdr (fun hp => by first | (rcases hp with ⟨p1, p2, p3⟩ | ⟨p1, p2, p3⟩ | ⟨p1, p2, p3⟩ | ⟨p1, p2, p3, p4, p5, p6⟩ <;> omega))).symm))
  refine zbc 12 rfl ?_
  refine zak (zaf ?_)
  exact zad (zbl rfl rfl (congrArg _ (zdr (fun hp => by first | (rcases hp with ⟨p1, p2, p3⟩ | ⟨p1, p2, p3⟩ | ⟨p1, p2, p3⟩ | ⟨p1, p2, p3, p4, p5, p6⟩ <;> omega))).symm))
 refine zbc 1 rfl (fsQ rfl (zdn (srQ (hvQ rfl (fdQ 0 rfl rfl rfl) (hvQ rfl (zan rfl rfl rfl (zai 0 rfl rfl)) ?_)))))
 refine zdu rfl (zam rfl rfl (fun w hm => zbb (zfy o.k w))) (zfw rfl rfl rfl rfl rfl rfl (fun h13 => ?_) (fun h13 => ?_))
 ·
  refine zag 1 rfl (hvQ rfl (fdQ 1 rfl rfl rfl) (hvQ rfl (zan rfl rfl rfl (zai 0 rfl rfl)) ?_))
  refine zbj rfl rfl rfl rfl rfl rfl (fun h14 => ?_) (fun h14 => ?_)
  ·
   refine zag 2 rfl (hvQ rfl (fdQ 2 rfl rfl rfl) (hvQ rfl (zan rfl rfl rfl (zai 0 rfl rfl)) ?_))
   refine zbj rfl rfl rfl rfl rfl rfl (fun h15 => ?_) (fun h15 => ?_)
   ·
    refine zbc 2 rfl ?_
    exact zak (zbl rfl rfl (congrArg _ (zft (by first | exact .inl ⟨by omega, ⟨by omega, by omega⟩, by omega⟩ | exact .inr (.inl ⟨by omega, ⟨by omega, by omega⟩, by omega⟩) | exact .inr (.inr (.inl ⟨by omega, ⟨by omega, by omega⟩, by omega, by omega⟩)) | exact .inr (.inr (.inr ⟨by omega, by omega, by omega, by omega, by omega, by omega⟩)))).symm))
   refine zbc 2 rfl ?_
   exact zak (zbl rfl rfl (congrArg _ (zdr (fun hp => by first | (rcases hp with ⟨p1, p2, p3⟩ | ⟨p1, p2, p3⟩ | ⟨p1, p2, p3⟩ | ⟨p1, p2, p3, p4, p5, p6⟩ <;> omega))).symm))
  refine zbc 7 rfl ?_
  exact zak (zbl rfl rfl (congrArg _ (zdr (fun hp => by first | (rcases hp with ⟨p1, p2, p3⟩ | ⟨p1, p2, p3⟩ | ⟨p1, p2, p3⟩ | ⟨p1, p2, p3, p4, p5, p6⟩ <;> omega))).symm))
 refine zbc 11 rfl ?_
 exact zak (zbl rfl rfl (congrArg _ (zdr (fun hp => by first | (rcases hp with ⟨p1, p2, p3⟩ | ⟨p1, p2, p3⟩ | ⟨p1, p2, p3⟩ | ⟨p1, p2, p3, p4, p5, p6⟩ <;> omega))).symm))
theorem specOpsOk_ans (os : List Oq) (n : Int) (v : Value) (w : World) (hv : RdsW w v 3 os.length (os.flatMap oqC)) :
   Calls Try.prog 89 #[v, .int .i64 n] w (Ans w (.bool (pB (OpsP n os)))) := by
 have hv9 := sml hv
 refine zbq (N := 38) (args := [v, .int .i64 n]) Try.func89 rfl rfl (zbn 1 rfl (zac (zac (reQ 1 rfl (hvQ rfl (lnQ rfl rfl rfl (zap hv)) ?_)))))
 refine zeq rfl rfl rfl rfl rfl rfl (fun h1 => ?_) (fun h1 => ?_)
 ·
  refine ntQ (zaj rfl (zbn 1 rfl ?_))
  refine zak (zad ?_)
  exact zbl rfl rfl (congrArg _ (zdr (fun hp => by first | (have := hp.len; omega) | (have := hp.pos; omega) | (have := (hp.op i (by omega)).1; omega) | (exact absurd (hp.op i (by omega)).2 (by assumption)) | (have := hp.fin; rw [show os.length = i by omega] at this; omega))).symm)
 refine ntQ (zal rfl (zdb (zbn 1 rfl (zac (zac ?_)))))
 refine zav (zbc 1 rfl (zbf ?_))
 refine lkQ2 (α := Nat) (β := Int) [0, 1, 4, 9] rfl (fun i c => []) (fun i c => [(5, .int .i64 c), (6, .int .i64 (i : Int))]) (fun i c => i ≤ os.length ∧ c = needK os i ∧ ∀ q, q < i → needK os q ≠ 0 ∧ OqP n (os.getD q oq0)) (fun i c => os.length - i) 0 1 ⟨Nat.zero_le _, rfl, fun q hq => absurd hq (by omega)⟩ (saQ rfl) (.slnil) ?_
 intro i c hi2
 obtain ⟨hi, hc, hall⟩ := hi2
 have hnr := needK_rng os i
 have har := arI_rng (os.getD i oq0).k
 refine zac (zac (reQ 2 rfl (hvQ rfl (lnQ rfl rfl rfl (zap hv)) ?_)))
 refine zcb rfl rfl rfl rfl rfl rfl (fun h3 => ?_) (fun h3 => ?_)
 ·
  refine ntQ (zaj rfl (zdb (sbQ (zac (zac (reQ 1 rfl ?_))))))
  refine zbj rfl rfl rfl rfl rfl rfl (fun h4 => ?_) (fun h4 => ?_)
  ·
   refine zbc 9 rfl (zaj rfl (zac (reQ 1 rfl (?_))))
   refine ntQ ?_
   refine zak (zad ?_)
   refine zaf (zfv ?_)
   refine zaf (zad ?_)
   exact zbl rfl rfl (congrArg _ (zdr (fun hp => by first | (have := hp.len; omega) | (have := hp.pos; omega) | (have := (hp.op i (by omega)).1; omega) | (exact absurd (hp.op i (by omega)).2 (by assumption)) | (have := hp.fin; rw [show os.length = i by omega] at this; omega))).symm)
  refine zag 3 rfl (hvQ rfl (riQ 3 rfl rfl rfl rfl (zap hv)) ?_)
  refine hvQ rfl (zda (us := [.int .i64 ((os.getD i oq0).k), .int .i64 ((os.getD i oq0).a), .int .i64 ((os.getD i oq0).b)]) rfl rfl rfl rfl (zap hv) (by omega) rfl (zdt oqC 3 (fun _ => rfl) os oq0 (show i < _ by omega) rfl)) (zag 1 rfl ?_)
  refine zdu rfl (zam rfl rfl (fun w hm => zbb (l04Op_ans (os.getD i oq0) n w))) (zbz (fun h5 => ?_) (fun h5 => ?_))
  ·
   have h5p := of_pB h5
   refine zbc 2 rfl (zal rfl (zdb (reQ 1 rfl (hvQ rfl (vsQ rfl rfl rfl) (zag 2 rfl (hvQ rfl (riQ 3 rfl rfl rfl rfl (zap hv)) (hvQ rfl (zde (k0 := 0) rfl rfl rfl (zap hv) (by omega)) ?_)))))))
   refine hvQ rfl (zba (u := .int .i64 ((os.getD i oq0).k)) rfl rfl rfl (zap hv) ((zef oqC 3 (fun _ => rfl) os oq0 (show i < _ by omega) (by decide)).trans rfl)) (zdu rfl (zam rfl rfl (fun w hm => zbb (zfy ((os.getD i oq0).k) w))) ?_)
   refine hvQ rfl (vaQ rfl rfl rfl) (enQ 1 rfl (zdn (reQ 1 rfl (hvQ rfl (vaQ rfl rfl rfl) (enQ 1 rfl ?_)))))
   exact zci (i + 1) ((c - 1) + (arI ((os.getD i oq0).k))) ⟨by omega, by show _ = needK os i + (arI (os.getD i oq0).k - 1); omega, fun q hq => by by_cases e : q = i; (subst e; exact ⟨by omega, by assumption⟩); exact hall q (by omega)⟩ (by omega) (saQ rfl) (.slnil)
  have h5p := of_pBn h5
  refine zbc 2 rfl (zaj rfl (zbn 1 rfl ?_))
  refine zak (zad ?_)
  refine zaf (zfv ?_)
  refine zaf (zad ?_)
  exact zbl rfl rfl (congrArg _ (zdr (fun hp => by first | (have := hp.len; omega) | (have := hp.pos; omega) | (have := (hp.op i (by omega)).1; omega) | (exact absurd (hp.op i (by omega)).2 (by assumption)) | (have := hp.fin; rw [show os.length = i by omega] at this; omega))).symm)
 refine ntQ (zal rfl ?_)
 refine zby (zes ?_)
 refine zat (zaw (zac (reQ 1 rfl ?_)))
 refine zbj rfl rfl rfl rfl rfl rfl (fun h6 => ?_) (fun h6 => ?_)
 ·
  refine zbc 1 rfl ?_
  exact zak (zbl rfl rfl (congrArg _ (zft ⟨by omega, fun q hq => hall q (by omega), by rw [show os.length = i by omega]; omega⟩).symm))
 refine zbc 1 rfl ?_
 exact zak (zbl rfl rfl (congrArg _ (zdr (fun hp => by first | (have := hp.len; omega) | (have := hp.pos; omega) | (have := (hp.op i (by omega)).1; omega) | (exact absurd (hp.op i (by omega)).2 (by assumption)) | (have := hp.fin; rw [show os.length = i by omega] at this; omega))).symm))
abbrev XR9 (n : Nt) (W : Nat) (rs : List CRow) (os : List Oq) (f q : Nat) (u_ : Value) (p_ : List HP) : Prop := ∃ (ps : List HP) (m : Nt) (zv : Value) (zs : List Int), u_ = .tuple #[m.agg, zv, .int .i64 (enX os f q : Int)] ∧ p_ = [bigE ps, rI9 3 zv zs] ∧ (m = n ∨ ∀ w, (bigE ps).holds w → RdsNt w m) ∧ (m.sv.oneCell' = true ∧ m.av.oneCell' = true ∧ m.ov.oneCell' = true) ∧ Gr n m ∧ zs.length = W ∧ (∀ x ∈ zs, x < 2 * m.cnt) ∧ ES (¬ PosL zs) (exX n.fst W (rs.map CRow.xs) os f q n.gs) (m.gs, zs)
theorem leaf_kind {n : Int} {o : Oq} (ho : OqP n o) (h0 : arI o.k = 0) (h1 : o.k ≠ 1) : o.k = 0 ∨ (o.k = 2 ∧ 0 ≤ o.a ∧ o.a < n) ∨ (o.k = 3 ∧ (0 ≤ o.a ∧ o.a < n) ∧ 0 ≤ o.b ∧ o.b ≤ 3) := by
  rcases ho with h | h | h | h
  · exact .inl h.1
  · exact .inr (.inl ⟨h.1, h.2.1⟩)
  · exact .inr (.inr ⟨h.1, h.2.1, h.2.2⟩)
  · exfalso; obtain ⟨a1, a2, a3, a4, -⟩ := h; unfold arI at h0; split at h0 <;> (try split at h0) <;> (try split at h0) <;> (try split at h0) <;> omega
theorem RdsAll.sub9 {w w' : World} {rs : List CRow} (h : RdsAll w rs) (hb : Below w.heap.size w w') : RdsAll w' rs := fun r hr => (h r hr).below hb
end Go.Proofs.Ytodiifjigjnalaa
