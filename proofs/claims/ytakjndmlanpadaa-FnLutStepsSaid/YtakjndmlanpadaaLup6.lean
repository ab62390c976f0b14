/- Texts of the law FnLutSteps, part 6: what it uses. -/
import Derived.Test.YtakjndmlanpadaaLup5
set_option linter.unusedVariables false
set_option linter.unusedSimpArgs false
namespace Go.Proofs.Ytakjndmlanpadaa
open Go.RowKit Go.ChangeShapes
open Go.RowKit
set_option maxHeartbeats 4000000 in
set_option maxRecDepth 100000 in
theorem l20Net_mut (g : Nat) (a : Option Addr) (len cap : Nat) (z : List Int) (w0 : World) (l : List HP) (w : World) (hm0 : Mem w0 (curE g a len cap :: l) w) (hb : BRow .u8 w0 a len cap z) :
   Calls Try.prog 29 #[.pointer (some ⟨g, 0, none⟩)] w (fun e_ w_ => ∃ v_ p_, e_ = .returned v_ ∧ (fun u_ p_ => ∃ (ps : List HP) (m : Ln), u_ = m.agg ∧ p_ = bigE [curE g a len cap, bigE ps] ∧ (∀ w, (bigE ps).holds w → RdsLn w m) ∧ (m.sv.oneCell' = true ∧ m.lv.oneCell' = true ∧ m.ov.oneCell' = true) ∧ LnOk m) v_ p_ ∧ Mem w0 (p_ :: l) w_) := by
 refine zfi (N := 154) (args := [.pointer (some ⟨g, 0, none⟩)]) Try.func29 rfl rfl hm0 ?_
 refine zbt _ [0] rfl (zaf (zab ?_))
 refine zci rfl rfl rfl (zcj (z := .agg #[.int .i64 0, .slice none 0 0, .slice none 0 0, .slice none 0 0]) rfl (by kernel_rfl)) ?_
 intro b1
 refine zac [2, 0] rfl (zae (zaa (zaf (zaf (zab ?_)))))
 refine zad 1 rfl ?_
 refine zcx (R := (fun u_ p_ => (∃ b : Bool, u_ = .bool b) ∧ p_ = curE g a len cap)) 1 rfl rfl (by kernel_rfl) rfl rfl (fun l' w hm => once_mut hm hb (2) (by omega) (by omega)) ?_
 intro v2 p3 hR4
 obtain ⟨⟨xhR4, rfl⟩, rfl⟩ := hR4
 refine zdw (l' := (boxE b1 #[.int .i64 0, .slice none 0 0, .slice none 0 0, .slice none 0 0] 28 :: curE g a len cap :: l)) rfl ?_
 refine zck (fun h5 => ?_) (fun h5 => ?_)
 ·
  refine zac [18, 2, 0] rfl (zae (zaa (zbb rfl (zaf (zab ?_)))))
  refine zad 1 rfl ?_
  refine zcx (R := (fun u_ p_ => ∃ n : Nt, u_ = n.agg ∧ p_ = bigE [curE g a len cap, ntE n] ∧ (n.sv.oneCell' = true ∧ n.av.oneCell' = true ∧ n.ov.oneCell' = true) ∧ NtOk n ∧ n.ins ≤ 4 ∧ (n.ss.length : Int) ≤ 3 ∧ (n.gs.length : Int) ≤ 16)) 1 rfl rfl (by kernel_rfl) rfl rfl (fun l' w hm => l08Sized_mut g a len cap z 4 3 16 _ _ _ hm hb (by decide) (by decide) (by decide)) ?_
  intro v6 p7 hR8
  obtain ⟨n, rfl, rfl, ⟨o1n, o2n, o3n⟩, hn, hnq1, hnq2, hnq3⟩ := hR8
  have hi0 := hn.i0
  have hi1 := hn.i1
  have hs1 := hn.s1
  have ha1 := hn.a1
  have ho1 := hn.o1
  have hcnt : n.cnt = 1 + n.ins + n.ss.length + n.gs.length := rfl
  have hfst : n.fst = 1 + n.ins + n.ss.length := rfl
  refine zdw (l' := (boxE b1 #[.int .i64 0, .slice none 0 0, .slice none 0 0, .slice none 0 0] 28 :: bigE [curE g a len cap, ntE n] :: l)) rfl ?_
  refine hl_pick 2 [0, 1] rfl rfl (by decide) ?_
  refine hl_conv (curE g a len cap :: ntE n :: boxE b1 #[.int .i64 0, .slice none 0 0, .slice none 0 0, .slice none 0 0] 28 :: l) zft ?_
  refine hl_q rfl rfl rfl (zba (by kernel_rfl) rfl (fun w hm => Hash_ret n w (zfo 1 rfl w hm) hn)) ?_
  intro v9 p10 hR11
  obtain ⟨qs, m, rfl, rfl, hqs, ⟨o1m, o2m, o3m⟩, hmok, hsk, hml⟩ := hR11
  refine zci rfl rfl rfl (zcj (z := .agg #[.int .i64 0, .slice none 0 0, .slice none 0 0, .slice none 0 0]) rfl (by kernel_rfl)) ?_
  intro b12
  refine zcn (cs' := #[.int .i64 m.ins, m.sv, m.av, m.ov]) (i := 0) (off := 0) (us := [.int .i64 m.ins, m.sv, m.av, m.ov]) rfl rfl rfl (by kernel_rfl) rfl rfl rfl (zar rfl (zar o1m (zar o2m (zar o3m zby)))) rfl rfl rfl ?_
  refine zac [18, 3, 2, 0] rfl (zae (zaa (zaf ?_)))
  have hkl := hsk.len
  have hml9 := hml
  refine zfh 5 [4, 3, 1, 0, 2] rfl rfl (by decide) ?_
  refine hc_draw4 (l := (boxE b12 #[.int .i64 m.ins, m.sv, m.av, m.ov] 101 :: bigE qs :: ntE n :: boxE b1 #[.int .i64 0, .slice none 0 0, .slice none 0 0, .slice none 0 0] 28 :: l)) (by kernel_rfl) 10 [0, 1, 2, 3, 4, 5, 6, 7, 8, 9] (List.take 10 _) (List.drop 10 _) [[], [], [], [1, 2], [0, 3], [4], [4, 5], [4, 5], [], [4, 6, 8]] [some 23, some 24, some 25, some 26, some 27, some 22, some 28, some 29, some 4, none] (fun i_ vs_ v_ p_ => match i_ with | 0 => v_ = .agg #[.int .i64 m.ins, m.sv, m.av, m.ov] ∧ p_ = [] | 1 => v_ = .pointer (some ⟨g, 0, none⟩) ∧ p_ = [] | 2 => v_ = .agg #[.int .i64 m.ins, m.sv, m.av, m.ov] ∧ p_ = [] | 3 => (∃ pm_, p_ = [pm_] ∧ (fun u_ p_ => ∃ (ps : List HP) (rs : List CRow), p_ = bigE [curE g a len cap, rowE 26 1 u_ rs.length (rs.flatMap crowC), bigE ps] ∧ (∀ w, (bigE ps).holds w → RdsAll w rs) ∧ rs.length = m.gs.length ∧ ∀ r ∈ rs, r.xs.length ≤ 400) v_ pm_) | 4 => (fun u_ p_ => ∃ (ps : List HP) (m : Ln) (b : Bool), u_ = .tuple #[m.agg, .bool b] ∧ p_ = [bigE ps] ∧ (∀ w, (bigE ps).holds w → RdsLn w m) ∧ (m.sv.oneCell' = true ∧ m.lv.oneCell' = true ∧ m.ov.oneCell' = true) ∧ LnOk m) v_ p_ | 5 => v_ = .tuple #[.agg #[.int .i64 (tIn9 (List.getD vs_ 0 undef)), (tF9 1 (List.getD vs_ 0 undef)), (tF9 2 (List.getD vs_ 0 undef)), (tF9 3 (List.getD vs_ 0 undef))], .bool (tSndB (List.getD vs_ 0 undef))] ∧ p_ = [] | 6 => v_ = .agg #[.int .i64 (tIn9 (List.getD vs_ 0 undef)), (tF9 1 (List.getD vs_ 0 undef)), (tF9 2 (List.getD vs_ 0 undef)), (tF9 3 (List.getD vs_ 0 undef))] ∧ p_ = [] | 7 => v_ = .bool (tSndB (List.getD vs_ 0 undef)) ∧ p_ = [] | 8 => IsBox #[.int .i64 0, .slice none 0 0, .slice none 0 0, .slice none 0 0] 28 v_ p_ | 9 => p_ = [boxE (blkOf (List.getD vs_ 2 undef)) #[.int .i64 (tIn9 (List.getD vs_ 0 undef)), (tF9 1 (List.getD vs_ 0 undef)), (tF9 2 (List.getD vs_ 0 undef)), (tF9 3 (List.getD vs_ 0 undef))] 28] | _ => True) [[], [], [], [1, 2], [0, 3], [4], [4, 5], [4, 5], [], [4, 6]] [none, none, none, some 11, none, none, none, none, none, some 8] [[curE g a len cap]] [0, 1, 2, 3, 4, 5, 6, 7, 9] 11 (List.take_append_drop 10 _).symm (by kernel_rfl) (by kernel_rfl) (by kernel_rfl) rfl rfl ?_ ?_
  ·
   refine ⟨?_, ?_, ?_, ?_, ?_, ?_, ?_, ?_, ?_, ?_, trivial⟩
   ·
    intro vf pf hmu hR
    refine Or.inl ⟨rfl, ?_⟩
    show RunQ _ _ _ (([] : List Nat).flatMap pf ++ _) (envOf3 _ vf [] ++ _) _ _
    refine zau (sk 3 rfl (zag _)) (List.sublist_append_right _ _) ?_
    exact rq_v (zbc (cs := [.int .i64 m.ins, m.sv, m.av, m.ov]) rfl (by kernel_rfl) (by kernel_rfl) rfl rfl (zay 0 rfl 0 rfl))
   ·
    intro vf pf hmu hR
    refine Or.inl ⟨rfl, ?_⟩
    show RunQ _ _ _ (([] : List Nat).flatMap pf ++ _) (envOf3 _ vf [] ++ _) _ _
    refine zbh (sk 0 rfl (zag _)) ?_
    exact rq_v (zap rfl)
   ·
    intro vf pf hmu hR
    refine Or.inl ⟨rfl, ?_⟩
    show RunQ _ _ _ (([] : List Nat).flatMap pf ++ _) (envOf3 _ vf [] ++ _) _ _
    refine zau (sk 3 rfl (zag _)) (List.sublist_append_right _ _) ?_
    exact rq_v (zbc (cs := [.int .i64 m.ins, m.sv, m.av, m.ov]) rfl (by kernel_rfl) (by kernel_rfl) rfl rfl (zay 0 rfl 0 rfl))
   ·
    intro vf pf hmu hR
    have e1 : (vf 1) = .pointer (some ⟨g, 0, none⟩) ∧ (pf 1) = [] := hR 1 (by decide)
    have e2 : (vf 2) = .agg #[.int .i64 m.ins, m.sv, m.av, m.ov] ∧ (pf 2) = [] := hR 2 (by decide)
    refine Or.inl ⟨rfl, ?_⟩
    show RunM _ _ _ (pf 11) (([1, 2] : List Nat).flatMap pf ++ _) (envOf3 _ vf [1, 2] ++ _) _ _
    have hmu0 : pf 11 = [curE g a len cap] := hmu 0 (show 0 < 1 by omega)
    rw [hmu0]
    refine zdo (sk 24 (congrArg some e1.1) (sk 25 (congrArg some e2.1) (zag _))) (by simp only [e1.2, e2.2, fS] <;> rfl) ?_
    exact zej (R := (fun u_ p_ => ∃ (ps : List HP) (rs : List CRow), p_ = bigE [curE g a len cap, rowE 26 1 u_ rs.length (rs.flatMap crowC), bigE ps] ∧ (∀ w, (bigE ps).holds w → RdsAll w rs) ∧ rs.length = m.gs.length ∧ ∀ r ∈ rs, r.xs.length ≤ 400)) (by kernel_rfl) rfl (fun L w hX hm => l18Cuts_mut g a len cap z m _ _ _ hm hb (fun w hm9 => hqs w ((hX _ hm9).holds _ (zcl (i := 1) rfl))) hmok)
   ·
    intro vf pf hmu hR
    have e0 : (vf 0) = .agg #[.int .i64 m.ins, m.sv, m.av, m.ov] ∧ (pf 0) = [] := hR 0 (by decide)
    have e3 : (∃ pm_, (pf 3) = [pm_] ∧ (fun u_ p_ => ∃ (ps : List HP) (rs : List CRow), p_ = bigE [curE g a len cap, rowE 26 1 u_ rs.length (rs.flatMap crowC), bigE ps] ∧ (∀ w, (bigE ps).holds w → RdsAll w rs) ∧ rs.length = m.gs.length ∧ ∀ r ∈ rs, r.xs.length ≤ 400) (vf 3) pm_) := hR 3 (by decide)
    obtain ⟨p14, pE3, hR15⟩ := e3
    obtain ⟨v13, vE3⟩ : ∃ x, vf 3 = x := ⟨_, rfl⟩
    rw [vE3] at hR15
    obtain ⟨ps, rs, rfl, hps, hrl, h400⟩ := hR15
    refine Or.inl ⟨rfl, ?_⟩
    show RunQ _ _ _ (([0, 3] : List Nat).flatMap pf ++ _) (envOf3 _ vf [0, 3] ++ _) _ _
    refine zcg (sk 23 (congrArg some e0.1) (sk 26 (congrArg some vE3) (zag _))) (by simp only [pE3, vE3, e0.2, fS] <;> rfl) ?_
    exact zba (by kernel_rfl) rfl (fun w hm => ToLuts_ret m rs _ w (hqs w (hm.holds _ (zcl (i := 2) rfl))) hmok ⟨zcc (hold_at (hm.holds _ (zcl (i := 0) rfl)) (j := 1) rfl), hps w (hold_at (hm.holds _ (zcl (i := 0) rfl)) (j := 2) rfl)⟩ h400 (by omega))
   ·
    intro vf pf hmu hR
    have e4 : (fun u_ p_ => ∃ (ps : List HP) (m : Ln) (b : Bool), u_ = .tuple #[m.agg, .bool b] ∧ p_ = [bigE ps] ∧ (∀ w, (bigE ps).holds w → RdsLn w m) ∧ (m.sv.oneCell' = true ∧ m.lv.oneCell' = true ∧ m.ov.oneCell' = true) ∧ LnOk m) (vf 4) (pf 4) := hR 4 (by decide)
    obtain ⟨v16, vE4⟩ : ∃ x, vf 4 = x := ⟨_, rfl⟩
    obtain ⟨p17, pE4⟩ : ∃ x, pf 4 = x := ⟨_, rfl⟩
    have hR18 := e4
    rw [vE4, pE4] at hR18
    obtain ⟨ls_, tl, tb, rfl, rfl, hls, ⟨o1t, o2t, o3t⟩, htl⟩ := hR18
    refine Or.inl ⟨rfl, ?_⟩
    show RunQ _ _ _ (([4] : List Nat).flatMap pf ++ _) (envOf3 _ vf [4] ++ _) _ _
    refine zcg (sk 27 (congrArg some vE4) (zag _)) (by simp only [pE4, vE4, fS] <;> rfl) ?_
    exact zcw (rq_v (zap rfl)) (fun _ _ h => ⟨h.1.trans (by show _ = (.tuple #[.agg #[.int .i64 (tIn9 (vf 4)), (tF9 1 (vf 4)), (tF9 2 (vf 4)), (tF9 3 (vf 4))], .bool (tSndB (vf 4))] : Value); first | (rw [vE4]; done) | (rw [vE4]; rfl)), h.2⟩)
   ·
    intro vf pf hmu hR
    have e4 : (fun u_ p_ => ∃ (ps : List HP) (m : Ln) (b : Bool), u_ = .tuple #[m.agg, .bool b] ∧ p_ = [bigE ps] ∧ (∀ w, (bigE ps).holds w → RdsLn w m) ∧ (m.sv.oneCell' = true ∧ m.lv.oneCell' = true ∧ m.ov.oneCell' = true) ∧ LnOk m) (vf 4) (pf 4) := hR 4 (by decide)
    obtain ⟨v16, vE4⟩ : ∃ x, vf 4 = x := ⟨_, rfl⟩
    obtain ⟨p17, pE4⟩ : ∃ x, pf 4 = x := ⟨_, rfl⟩
    have hR18 := e4
    rw [vE4, pE4] at hR18
    obtain ⟨ls_, tl, tb, rfl, rfl, hls, ⟨o1t, o2t, o3t⟩, htl⟩ := hR18
    have e5 : (vf 5) = .tuple #[.agg #[.int .i64 (tIn9 (vf 4)), (tF9 1 (vf 4)), (tF9 2 (vf 4)), (tF9 3 (vf 4))], .bool (tSndB (vf 4))] ∧ (pf 5) = [] := hR 5 (by decide)
    rw [vE4] at e5
    refine Or.inl ⟨rfl, ?_⟩
    show RunQ _ _ _ (([4, 5] : List Nat).flatMap pf ++ _) (envOf3 _ vf [4, 5] ++ _) _ _
    refine zcg (sk 22 (congrArg some e5.1) (zag _)) (by simp only [pE4, vE4, e5.2, fS] <;> rfl) ?_
    exact zcw (rq_v (zap rfl)) (fun _ _ h => ⟨h.1.trans (by show _ = (.agg #[.int .i64 (tIn9 (vf 4)), (tF9 1 (vf 4)), (tF9 2 (vf 4)), (tF9 3 (vf 4))] : Value); first | (rw [vE4]; done) | (rw [vE4]; rfl)), h.2⟩)
   ·
    intro vf pf hmu hR
    have e4 : (fun u_ p_ => ∃ (ps : List HP) (m : Ln) (b : Bool), u_ = .tuple #[m.agg, .bool b] ∧ p_ = [bigE ps] ∧ (∀ w, (bigE ps).holds w → RdsLn w m) ∧ (m.sv.oneCell' = true ∧ m.lv.oneCell' = true ∧ m.ov.oneCell' = true) ∧ LnOk m) (vf 4) (pf 4) := hR 4 (by decide)
    obtain ⟨v16, vE4⟩ : ∃ x, vf 4 = x := ⟨_, rfl⟩
    obtain ⟨p17, pE4⟩ : ∃ x, pf 4 = x := ⟨_, rfl⟩
    have hR18 := e4
    rw [vE4, pE4] at hR18
    obtain ⟨ls_, tl, tb, rfl, rfl, hls, ⟨o1t, o2t, o3t⟩, htl⟩ := hR18
    have e5 : (vf 5) = .tuple #[.agg #[.int .i64 (tIn9 (vf 4)), (tF9 1 (vf 4)), (tF9 2 (vf 4)), (tF9 3 (vf 4))], .bool (tSndB (vf 4))] ∧ (pf 5) = [] := hR 5 (by decide)
    rw [vE4] at e5
    refine Or.inl ⟨rfl, ?_⟩
    show RunQ _ _ _ (([4, 5] : List Nat).flatMap pf ++ _) (envOf3 _ vf [4, 5] ++ _) _ _
    refine zcg (sk 22 (congrArg some e5.1) (zag _)) (by simp only [pE4, vE4, e5.2, fS] <;> rfl) ?_
    exact zcw (rq_v (zap rfl)) (fun _ _ h => ⟨h.1.trans (by show _ = (.bool (tSndB (vf 4)) : Value); first | (rw [vE4]; done) | (rw [vE4]; rfl)), h.2⟩)
   ·
    intro vf pf hmu hR
    refine Or.inl ⟨rfl, ?_⟩
    show RunQ _ _ _ (([] : List Nat).flatMap pf ++ _) (envOf3 _ vf [] ++ _) _ _
    refine zau (zag _) (List.sublist_append_right _ _) ?_
    exact zcj (z := .agg #[.int .i64 0, .slice none 0 0, .slice none 0 0, .slice none 0 0]) rfl (by kernel_rfl)
   intro vf pf hmu hR
   have e4 : (fun u_ p_ => ∃ (ps : List HP) (m : Ln) (b : Bool), u_ = .tuple #[m.agg, .bool b] ∧ p_ = [bigE ps] ∧ (∀ w, (bigE ps).holds w → RdsLn w m) ∧ (m.sv.oneCell' = true ∧ m.lv.oneCell' = true ∧ m.ov.oneCell' = true) ∧ LnOk m) (vf 4) (pf 4) := hR 4 (by decide)
   obtain ⟨v16, vE4⟩ : ∃ x, vf 4 = x := ⟨_, rfl⟩
   obtain ⟨p17, pE4⟩ : ∃ x, pf 4 = x := ⟨_, rfl⟩
   have hR18 := e4
   rw [vE4, pE4] at hR18
   obtain ⟨ls_, tl, tb, rfl, rfl, hls, ⟨o1t, o2t, o3t⟩, htl⟩ := hR18
   have e6 : (vf 6) = .agg #[.int .i64 (tIn9 (vf 4)), (tF9 1 (vf 4)), (tF9 2 (vf 4)), (tF9 3 (vf 4))] ∧ (pf 6) = [] := hR 6 (by decide)
   rw [vE4] at e6
   have e8 : IsBox #[.int .i64 0, .slice none 0 0, .slice none 0 0, .slice none 0 0] 28 (vf 8) (pf 8) := hR 8 (by decide)
   obtain ⟨b19, vE8, pE8⟩ := e8
   refine Or.inl ⟨rfl, ?_⟩
   show RunM _ _ _ (pf 8) (([4, 6] : List Nat).flatMap pf ++ _) (envOf3 _ vf [4, 6, 8] ++ _) _ _
   rw [pE8]
   refine zdo (sk 4 (congrArg some vE8) (sk 28 (congrArg some e6.1) (zag _))) (by simp only [pE4, vE4, e6.2, fS] <;> rfl) ?_
   exact rm_mono (rm_storeBoxN (us := [.int .i64 tl.ins, tl.sv, tl.lv, tl.ov]) (off := 0) 0 rfl rfl (by kernel_rfl) rfl rfl rfl (zar rfl (zar o1t (zar o2t (zar o3t zby)))) rfl rfl) (fun v_ p_ h => by show p_ = [boxE (blkOf (vf 8)) #[.int .i64 (tIn9 (vf 4)), (tF9 1 (vf 4)), (tF9 2 (vf 4)), (tF9 3 (vf 4))] 28]; rw [vE4, vE8]; exact h)
  intro vf pf hmu hR
  have e3 : (∃ pm_, (pf 3) = [pm_] ∧ (fun u_ p_ => ∃ (ps : List HP) (rs : List CRow), p_ = bigE [curE g a len cap, rowE 26 1 u_ rs.length (rs.flatMap crowC), bigE ps] ∧ (∀ w, (bigE ps).holds w → RdsAll w rs) ∧ rs.length = m.gs.length ∧ ∀ r ∈ rs, r.xs.length ≤ 400) (vf 3) pm_) := hR 3 (by decide)
  obtain ⟨p14, pE3, hR15⟩ := e3
  obtain ⟨v13, vE3⟩ : ∃ x, vf 3 = x := ⟨_, rfl⟩
  rw [vE3] at hR15
  obtain ⟨ps, rs, rfl, hps, hrl, h400⟩ := hR15
  have e4 : (fun u_ p_ => ∃ (ps : List HP) (m : Ln) (b : Bool), u_ = .tuple #[m.agg, .bool b] ∧ p_ = [bigE ps] ∧ (∀ w, (bigE ps).holds w → RdsLn w m) ∧ (m.sv.oneCell' = true ∧ m.lv.oneCell' = true ∧ m.ov.oneCell' = true) ∧ LnOk m) (vf 4) (pf 4) := hR 4 (by decide)
  obtain ⟨v16, vE4⟩ : ∃ x, vf 4 = x := ⟨_, rfl⟩
  obtain ⟨p17, pE4⟩ : ∃ x, pf 4 = x := ⟨_, rfl⟩
  have hR18 := e4
  rw [vE4, pE4] at hR18
  obtain ⟨ls_, tl, tb, rfl, rfl, hls, ⟨o1t, o2t, o3t⟩, htl⟩ := hR18
  have e7 : (vf 7) = .bool (tSndB (vf 4)) ∧ (pf 7) = [] := hR 7 (by decide)
  rw [vE4] at e7
  have e8 : IsBox #[.int .i64 0, .slice none 0 0, .slice none 0 0, .slice none 0 0] 28 (vf 8) (pf 8) := hR 8 (by decide)
  obtain ⟨b19, vE8, pE8⟩ := e8
  have e9 : (pf 9) = [boxE (blkOf (vf 8)) #[.int .i64 (tIn9 (vf 4)), (tF9 1 (vf 4)), (tF9 2 (vf 4)), (tF9 3 (vf 4))] 28] := hR 9 (by decide)
  rw [vE4, vE8] at e9
  have pE9 := e9
  have q0 : (vf 0) = .agg #[.int .i64 m.ins, m.sv, m.av, m.ov] ∧ (pf 0) = [] := hR 0 (by decide)
  have q1 : (vf 1) = .pointer (some ⟨g, 0, none⟩) ∧ (pf 1) = [] := hR 1 (by decide)
  have q2 : (vf 2) = .agg #[.int .i64 m.ins, m.sv, m.av, m.ov] ∧ (pf 2) = [] := hR 2 (by decide)
  have q5 : (vf 5) = .tuple #[.agg #[.int .i64 (tIn9 (vf 4)), (tF9 1 (vf 4)), (tF9 2 (vf 4)), (tF9 3 (vf 4))], .bool (tSndB (vf 4))] ∧ (pf 5) = [] := hR 5 (by decide)
  have q6 : (vf 6) = .agg #[.int .i64 (tIn9 (vf 4)), (tF9 1 (vf 4)), (tF9 2 (vf 4)), (tF9 3 (vf 4))] ∧ (pf 6) = [] := hR 6 (by decide)
  have q7 : (vf 7) = .bool (tSndB (vf 4)) ∧ (pf 7) = [] := hR 7 (by decide)
  refine zcs (sk 0 rfl (sk 2 rfl (sk 3 rfl (sk 4 (congrArg some vE8) (sk 18 rfl (sk 29 (congrArg some e7.1) (zag _))))))) (by simp only [pE3, vE3, pE4, vE4, pE9, q0.2, q1.2, q2.2, q5.2, q6.2, q7.2, fS] <;> rfl) ?_
  simp only [List.drop_succ_cons, List.drop_zero]
  refine zad 1 rfl (zac [18, 4, 3, 2, 0] rfl (zae (zaa (zaf (zab ?_)))))
  refine hl_v rfl rfl rfl (zbc (cs := [.int .i64 tl.ins, tl.sv, tl.lv, tl.ov]) rfl (by kernel_rfl) (by kernel_rfl) rfl rfl (zay 2 rfl 0 rfl)) ?_
  refine zcn (cs' := #[.int .i64 tl.ins, tl.sv, tl.lv, tl.ov]) (i := 6) (off := 0) (us := [.int .i64 tl.ins, tl.sv, tl.lv, tl.ov]) rfl rfl rfl (by kernel_rfl) rfl rfl rfl (zar rfl (zar o1t (zar o2t (zar o3t zby)))) rfl rfl rfl ?_
  refine zac [18, 4, 3, 2, 0] rfl (zae (zaa ?_))
  refine zbl ?_
  refine zao ?_
  refine zbu 7 [6, 5, 4, 3, 2, 1, 0] rfl rfl (by decide) ?_
  refine hq_conv (curE g a len cap :: rowE 26 1 v13 rs.length (rs.flatMap crowC) :: bigE ps :: bigE ls_ :: boxE b19 #[.int .i64 tl.ins, tl.sv, tl.lv, tl.ov] 28 :: boxE b12 #[.int .i64 m.ins, m.sv, m.av, m.ov] 101 :: bigE qs :: ntE n :: boxE b1 #[.int .i64 tl.ins, tl.sv, tl.lv, tl.ov] 28 :: l) zft ?_
  refine zbu 9 [8, 3, 0] rfl rfl (by decide) ?_
  refine zcz 2 rfl ?_
  exact hq_ret (rs := [.cell 2 28]) (vs := [.agg #[.int .i64 tl.ins, tl.sv, tl.lv, tl.ov]]) rfl ⟨⟨b1, 0, [.int .i64 tl.ins, tl.sv, tl.lv, tl.ov], rfl, rfl, by kernel_rfl, by kernel_rfl, zay 1 rfl 0 rfl⟩, trivial⟩ rfl (fun w hm => ⟨_, bigE [curE g a len cap, bigE ls_], rfl, ⟨_, tl, rfl, rfl, hls, ⟨o1t, o2t, o3t⟩, htl⟩, hm.sub ((.cons_cons _ (.cons _ (.refl _))))⟩)
 refine zac [18, 2, 0] rfl (zae (zaa (zaq rfl (zaz (zaa ?_)))))
 refine zaf (zab (zad 1 rfl ?_))
 refine zcx (R := (fun u_ p_ => ∃ n : Nt, u_ = n.agg ∧ p_ = bigE [curE g a len cap, ntE n] ∧ (n.sv.oneCell' = true ∧ n.av.oneCell' = true ∧ n.ov.oneCell' = true) ∧ NtOk n ∧ n.ins ≤ 4 ∧ (n.ss.length : Int) ≤ 3 ∧ (n.gs.length : Int) ≤ 0)) 1 rfl rfl (by kernel_rfl) rfl rfl (fun l' w hm => l08Sized_mut g a len cap z 4 3 0 _ _ _ hm hb (by decide) (by decide) (by decide)) ?_
 intro v20 p21 hR22
 obtain ⟨n, rfl, rfl, ⟨o1n, o2n, o3n⟩, hn, hnq1, hnq2, hnq3⟩ := hR22
 have hi0 := hn.i0
 have hi1 := hn.i1
 have hs1 := hn.s1
 have ha1 := hn.a1
 have ho1 := hn.o1
 have hcnt : n.cnt = 1 + n.ins + n.ss.length + n.gs.length := rfl
 have hfst : n.fst = 1 + n.ins + n.ss.length := rfl
 refine zdw (l' := (boxE b1 #[.int .i64 0, .slice none 0 0, .slice none 0 0, .slice none 0 0] 28 :: bigE [curE g a len cap, ntE n] :: l)) rfl ?_
 refine zci rfl rfl rfl (zcj (z := .agg #[.int .i64 0, .slice none 0 0, .slice none 0 0, .slice none 0 0]) rfl (by kernel_rfl)) ?_
 intro b23
 refine zcn (cs' := #[.int .i64 n.ins, n.sv, n.av, n.ov]) (i := 0) (off := 0) (us := [.int .i64 n.ins, n.sv, n.av, n.ov]) rfl rfl rfl (by kernel_rfl) rfl rfl rfl (zar rfl (zar o1n (zar o2n (zar o3n zby)))) rfl rfl rfl ?_
 refine zac [18, 6, 2, 0] rfl (zae (zaa (zaf (zab ?_))))
 refine hl_pick 3 [1, 0, 2] rfl rfl (by decide) ?_
 refine hl_conv (curE g a len cap :: ntE n :: boxE b23 #[.int .i64 n.ins, n.sv, n.av, n.ov] 101 :: boxE b1 #[.int .i64 0, .slice none 0 0, .slice none 0 0, .slice none 0 0] 28 :: l) zft ?_
 refine hl_v rfl rfl rfl (zat (k0 := 0) rfl (by kernel_rfl) rfl) (hl_v rfl rfl rfl (zbd rfl (by kernel_rfl) rfl (zaw 2 rfl rfl)) (hl_v rfl rfl rfl (zdu (cs := #[.int .i64 n.ins, .slice none 0 0, .slice none 0 0, .slice none 0 0]) rfl rfl (by kernel_rfl)) ?_))
 refine zci rfl rfl rfl (zcj (z := .agg #[.int .i64 0, .slice none 0 0, .slice none 0 0, .slice none 0 0]) rfl (by kernel_rfl)) ?_
 intro b24
 refine zcn (cs' := #[.int .i64 n.ins, .slice none 0 0, .slice none 0 0, .slice none 0 0]) (i := 0) (off := 0) (us := [.int .i64 n.ins, .slice none 0 0, .slice none 0 0, .slice none 0 0]) rfl rfl rfl (by kernel_rfl) rfl rfl rfl (zar rfl (zar rfl (zar rfl (zar rfl zby)))) rfl rfl rfl ?_
 refine zac [18, 7, 6, 2, 0] rfl (zae (zaa (zaf (zab (zad 1 rfl ?_)))))
 refine zcx (R := (fun u_ p_ => (∃ x_ : Int, u_ = .int .i64 x_ ∧ 0 ≤ x_ ∧ x_ < 7) ∧ p_ = curE g a len cap)) 1 rfl rfl (by kernel_rfl) rfl rfl (fun l' w hm => zct g a len cap z 7 _ _ _ hm hb (by constructor <;> omega)) ?_
 intro v25 p26 hR27
 obtain ⟨⟨xhR27, rfl, xhR270, xhR271⟩, rfl⟩ := hR27
 refine zdw (l' := (boxE b24 #[.int .i64 n.ins, .slice none 0 0, .slice none 0 0, .slice none 0 0] 28 :: curE g a len cap :: ntE n :: boxE b23 #[.int .i64 n.ins, n.sv, n.av, n.ov] 101 :: boxE b1 #[.int .i64 0, .slice none 0 0, .slice none 0 0, .slice none 0 0] 28 :: l)) rfl ?_
 refine zad 1 rfl (zac [18, 8, 7, 6, 2, 0] rfl (zae (zaa (zaf (zab ?_)))))
 refine hl_v rfl rfl rfl (zbc (cs := [.int .i64 n.ins, n.sv, n.av, n.ov]) rfl (by kernel_rfl) (by kernel_rfl) rfl rfl (zay 3 rfl 0 rfl)) ?_
 refine zbm rfl rfl rfl (zba (by kernel_rfl) rfl (fun w hm => zbk (zbv n w (zfo 2 rfl w hm) hn))) ?_
 refine zad 1 rfl (hl_v rfl rfl rfl (zbj rfl rfl rfl (by constructor <;> omega)) (zad 1 rfl (zac [18, 9, 8, 7, 6, 2, 0] rfl (zae (zaa ?_)))))
 refine zaf (zaf (zab (zad 1 rfl (zac [18, 10, 9, 8, 7, 6, 2, 0] rfl (zae ?_)))))
 refine zaa (zax ?_)
 refine zea (rowE 3 1 (.slice none 0 0) 0 ([]) :: boxE b24 #[.int .i64 n.ins, .slice none 0 0, .slice none 0 0, .slice none 0 0] 28 :: curE g a len cap :: ntE n :: boxE b23 #[.int .i64 n.ins, n.sv, n.av, n.ov] 101 :: boxE b1 #[.int .i64 0, .slice none 0 0, .slice none 0 0, .slice none 0 0] 28 :: l) (fun w hm => hm.nilRow 3 1) ?_
 refine zea (rowE 72 2 (.slice none 0 0) (([] : List Lt).length) (([] : List Lt).flatMap ltC) :: rowE 3 1 (.slice none 0 0) 0 ([]) :: boxE b24 #[.int .i64 n.ins, .slice none 0 0, .slice none 0 0, .slice none 0 0] 28 :: curE g a len cap :: ntE n :: boxE b23 #[.int .i64 n.ins, n.sv, n.av, n.ov] 101 :: boxE b1 #[.int .i64 0, .slice none 0 0, .slice none 0 0, .slice none 0 0] 28 :: l) (fun w hm => hm.nilRow 72 2) ?_
 refine zea (rowE 35 3 (.slice none 0 0) (([] : List Sq).length) (([] : List Sq).flatMap sqC) :: rowE 72 2 (.slice none 0 0) (([] : List Lt).length) (([] : List Lt).flatMap ltC) :: rowE 3 1 (.slice none 0 0) 0 ([]) :: boxE b24 #[.int .i64 n.ins, .slice none 0 0, .slice none 0 0, .slice none 0 0] 28 :: curE g a len cap :: ntE n :: boxE b23 #[.int .i64 n.ins, n.sv, n.av, n.ov] 101 :: boxE b1 #[.int .i64 0, .slice none 0 0, .slice none 0 0, .slice none 0 0] 28 :: l) (fun w hm => hm.nilRow 35 3) ?_
 refine zea _ zfk ?_
 refine zdl (α := Nat) (β := Value) (γ := List Sq) (δ := List HP) (fun i uq ss bs => (bigE bs :: rowE 35 3 uq ss.length (ss.flatMap sqC) :: rowE 72 2 (.slice none 0 0) (([] : List Lt).length) (([] : List Lt).flatMap ltC) :: rowE 3 1 (.slice none 0 0) 0 ([]) :: boxE b24 #[.int .i64 n.ins, uq, .slice none 0 0, .slice none 0 0] 28 :: curE g a len cap :: ntE n :: boxE b23 #[.int .i64 n.ins, n.sv, n.av, n.ov] 101 :: boxE b1 #[.int .i64 0, .slice none 0 0, .slice none 0 0, .slice none 0 0] 28 :: l)) (fun i uq ss bs => [(0, .pointer (some ⟨g, 0, none⟩)), (2, .pointer (some ⟨b1, 0, none⟩)), (6, .pointer (some ⟨b23, 0, none⟩)), (7, .pointer (some ⟨b24, 0, none⟩)), (8, .int .i64 xhR27), (9, .int .i64 (n.fst + xhR27)), (10, .int .i64 (i : Int)), (18, .bool false)]) (fun i uq ss bs => i ≤ n.ss.length ∧ ss.length = i ∧ SqsN (n.fst + xhR27) ss ∧ ∀ w, (bigE bs).holds w → RdsSqs w ss) (fun i uq ss bs => n.ss.length - i) 0 _ [] [] ⟨Nat.zero_le _, rfl, SqsN.nil _, fun w _ => RdsSqs.nil w⟩ (zan [18, 10, 9, 8, 7, 6, 2, 0] rfl) ((.cons_cons _ (.cons_cons _ (.cons_cons _ (.cons_cons _ (.cons_cons _ (.cons_cons _ (.cons_cons _ (.cons_cons _ (.cons_cons _ (.refl _))))))))))) ?_
 intro i uq ss bs hi28
 obtain ⟨hi, hsl, hsn, hbs⟩ := hi28
 refine zaf (zaf (zab (zad 1 rfl (hl_v rfl rfl rfl (zat (k0 := 1) rfl (by kernel_rfl) rfl) (hl_v rfl rfl rfl (zbd rfl (by kernel_rfl) rfl (zaw 7 rfl rfl)) ?_)))))
 refine hl_v rfl rfl rfl (zbo rfl Try.underlying24 rfl (fun w hm => (zfo 6 rfl w hm).sq)) ?_
 refine zbw rfl rfl rfl rfl rfl rfl (fun h29 => ?_) (fun h29 => ?_)
 ·
  refine zac [46, 18, 10, 9, 8, 7, 6, 2, 0] rfl (zae (zaa (zbb rfl (zaz (zaa ?_)))))
  refine zaf (zax (zaf ?_))
  refine zdj (by kernel_rfl) 14 [0, 1, 2, 3, 4, 5, 6, 7, 8, 9, 10, 11, 12, 13] (List.take 14 _) (List.drop 14 _) [[], [0], [], [1, 2], [3], [4], [], [6], [], [7, 8], [9], [10], [5, 11], []] [49, 50, 51, 52, 53, 54, 55, 56, 57, 58, 59, 60, 61, 11] (fun i_ vs_ v_ p_ => match i_ with | 0 => v_ = .pointer (some ⟨b23, 0 + 1, none⟩) ∧ p_ = [] | 1 => v_ = n.sv ∧ p_ = [] | 2 => v_ = .int .i64 (i : Int) ∧ p_ = [] | 3 => v_ = elP n.sv (((i : Int)).toNat * 3) ∧ p_ = [] | 4 => v_ = elP n.sv (((i : Int)).toNat * 3 + 0) ∧ p_ = [] | 5 => v_ = .int .i64 ((n.ss.getD i sq0).kd) ∧ p_ = [] | 6 => v_ = .pointer (some ⟨b23, 0 + 1, none⟩) ∧ p_ = [] | 7 => v_ = n.sv ∧ p_ = [] | 8 => v_ = .int .i64 (i : Int) ∧ p_ = [] | 9 => v_ = elP n.sv (((i : Int)).toNat * 3) ∧ p_ = [] | 10 => v_ = elP n.sv (((i : Int)).toNat * 3 + 1) ∧ p_ = [] | 11 => v_ = .int .i64 ((n.ss.getD i sq0).it) ∧ p_ = [] | 12 => v_ = .agg #[.int .i64 ((n.ss.getD i sq0).kd), .int .i64 ((n.ss.getD i sq0).it), .slice none 0 0] ∧ p_ = [] | 13 => IsBox #[.int .i64 0, .int .i64 0, .slice none 0 0] 35 v_ p_ | _ => True) (List.take_append_drop 14 _).symm (by kernel_rfl) (by kernel_rfl) rfl rfl ?_ ?_
  ·
   refine ⟨?_, ?_, ?_, ?_, ?_, ?_, ?_, ?_, ?_, ?_, ?_, ?_, ?_, ?_, trivial⟩
   ·
    intro vf pf hR
    refine Or.inl ⟨rfl, ?_⟩
    refine zbh (sk 6 rfl (zag _)) ?_
    exact rq_v (zat (k0 := 1) rfl (by kernel_rfl) rfl)
   ·
    intro vf pf hR
    have e0 : (vf 0) = .pointer (some ⟨b23, 0 + 1, none⟩) ∧ (pf 0) = [] := hR 0 (by decide)
    refine Or.inl ⟨rfl, ?_⟩
    refine zau (sk 49 (congrArg some e0.1) (zag _)) (List.sublist_append_right _ _) ?_
    exact rq_v (zbd rfl (by kernel_rfl) rfl (zaw 7 rfl rfl))
   ·
    intro vf pf hR
    refine Or.inl ⟨rfl, ?_⟩
    refine zbh (sk 10 rfl (zag _)) ?_
    exact rq_v (zap rfl)
   ·
    intro vf pf hR
    have e1 : (vf 1) = n.sv ∧ (pf 1) = [] := hR 1 (by decide)
    have e2 : (vf 2) = .int .i64 (i : Int) ∧ (pf 2) = [] := hR 2 (by decide)
    refine Or.inl ⟨rfl, ?_⟩
    refine zau (sk 50 (congrArg some e1.1) (sk 51 (congrArg some e2.1) (zag _))) (List.sublist_append_right _ _) ?_
    exact rq_v (zal (s := 3) rfl Try.underlying24 (by kernel_rfl) rfl rfl (fun w hm => (zfo 6 rfl w hm).sq) (by omega) (by omega))
   ·
    intro vf pf hR
    have e3 : (vf 3) = elP n.sv (((i : Int)).toNat * 3) ∧ (pf 3) = [] := hR 3 (by decide)
    refine Or.inl ⟨rfl, ?_⟩
    refine zau (sk 52 (congrArg some e3.1) (zag _)) (List.sublist_append_right _ _) ?_
    exact rq_v (zcm (k0 := 0) rfl (by kernel_rfl) rfl (fun w hm => (zfo 6 rfl w hm).sq) (by omega))
   ·
    intro vf pf hR
    have e4 : (vf 4) = elP n.sv (((i : Int)).toNat * 3 + 0) ∧ (pf 4) = [] := hR 4 (by decide)
    refine Or.inl ⟨rfl, ?_⟩
    refine zau (sk 53 (congrArg some e4.1) (zag _)) (List.sublist_append_right _ _) ?_
    exact rq_v (zam (u := .int .i64 ((n.ss.getD i sq0).kd)) rfl (by kernel_rfl) rfl (fun w hm => (zfo 6 rfl w hm).sq) ((zdf sqC 3 (fun _ => rfl) n.ss sq0 (show i < _ by omega) (by decide)).trans rfl))
   ·
    intro vf pf hR
    refine Or.inl ⟨rfl, ?_⟩
    refine zbh (sk 6 rfl (zag _)) ?_
    exact rq_v (zat (k0 := 1) rfl (by kernel_rfl) rfl)
   ·
    intro vf pf hR
    have e6 : (vf 6) = .pointer (some ⟨b23, 0 + 1, none⟩) ∧ (pf 6) = [] := hR 6 (by decide)
    refine Or.inl ⟨rfl, ?_⟩
    refine zau (sk 55 (congrArg some e6.1) (zag _)) (List.sublist_append_right _ _) ?_
    exact rq_v (zbd rfl (by kernel_rfl) rfl (zaw 7 rfl rfl))
   ·
    intro vf pf hR
    refine Or.inl ⟨rfl, ?_⟩
    refine zbh (sk 10 rfl (zag _)) ?_
    exact rq_v (zap rfl)
   ·
    intro vf pf hR
    have e7 : (vf 7) = n.sv ∧ (pf 7) = [] := hR 7 (by decide)
    have e8 : (vf 8) = .int .i64 (i : Int) ∧ (pf 8) = [] := hR 8 (by decide)
    refine Or.inl ⟨rfl, ?_⟩
    refine zau (sk 56 (congrArg some e7.1) (sk 57 (congrArg some e8.1) (zag _))) (List.sublist_append_right _ _) ?_
    exact rq_v (zal (s := 3) rfl Try.underlying24 (by kernel_rfl) rfl rfl (fun w hm => (zfo 6 rfl w hm).sq) (by omega) (by omega))
   ·
    intro vf pf hR
    have e9 : (vf 9) = elP n.sv (((i : Int)).toNat * 3) ∧ (pf 9) = [] := hR 9 (by decide)
    refine Or.inl ⟨rfl, ?_⟩
    refine zau (sk 58 (congrArg some e9.1) (zag _)) (List.sublist_append_right _ _) ?_
    exact rq_v (zcm (k0 := 1) rfl (by kernel_rfl) rfl (fun w hm => (zfo 6 rfl w hm).sq) (by omega))
   ·
    intro vf pf hR
    have e10 : (vf 10) = elP n.sv (((i : Int)).toNat * 3 + 1) ∧ (pf 10) = [] := hR 10 (by decide)
    refine Or.inl ⟨rfl, ?_⟩
    refine zau (sk 59 (congrArg some e10.1) (zag _)) (List.sublist_append_right _ _) ?_
    exact rq_v (zam (u := .int .i64 ((n.ss.getD i sq0).it)) rfl (by kernel_rfl) rfl (fun w hm => (zfo 6 rfl w hm).sq) ((zdf sqC 3 (fun _ => rfl) n.ss sq0 (show i < _ by omega) (by decide)).trans rfl))
   ·
    intro vf pf hR
    have e5 : (vf 5) = .int .i64 ((n.ss.getD i sq0).kd) ∧ (pf 5) = [] := hR 5 (by decide)
    have e11 : (vf 11) = .int .i64 ((n.ss.getD i sq0).it) ∧ (pf 11) = [] := hR 11 (by decide)
    refine Or.inl ⟨rfl, ?_⟩
    refine zbh (sk 54 (congrArg some e5.1) (sk 60 (congrArg some e11.1) (zag _))) ?_
    exact rq_v (zdu (cs := #[.int .i64 ((n.ss.getD i sq0).kd), .int .i64 ((n.ss.getD i sq0).it), .slice none 0 0]) rfl rfl (by kernel_rfl))
   intro vf pf hR
   refine Or.inl ⟨rfl, ?_⟩
   refine zau (zag _) (List.sublist_append_right _ _) ?_
   exact zcj (z := .agg #[.int .i64 0, .int .i64 0, .slice none 0 0]) rfl (by kernel_rfl)
  intro vf pf hR
  have e12 : (vf 12) = .agg #[.int .i64 ((n.ss.getD i sq0).kd), .int .i64 ((n.ss.getD i sq0).it), .slice none 0 0] ∧ (pf 12) = [] := hR 12 (by decide)
  have e13 : IsBox #[.int .i64 0, .int .i64 0, .slice none 0 0] 35 (vf 13) (pf 13) := hR 13 (by decide)
  obtain ⟨b30, vE13, pE13⟩ := e13
  have q0 : (vf 0) = .pointer (some ⟨b23, 0 + 1, none⟩) ∧ (pf 0) = [] := hR 0 (by decide)
  have q1 : (vf 1) = n.sv ∧ (pf 1) = [] := hR 1 (by decide)
  have q2 : (vf 2) = .int .i64 (i : Int) ∧ (pf 2) = [] := hR 2 (by decide)
  have q3 : (vf 3) = elP n.sv (((i : Int)).toNat * 3) ∧ (pf 3) = [] := hR 3 (by decide)
  have q4 : (vf 4) = elP n.sv (((i : Int)).toNat * 3 + 0) ∧ (pf 4) = [] := hR 4 (by decide)
  have q5 : (vf 5) = .int .i64 ((n.ss.getD i sq0).kd) ∧ (pf 5) = [] := hR 5 (by decide)
  have q6 : (vf 6) = .pointer (some ⟨b23, 0 + 1, none⟩) ∧ (pf 6) = [] := hR 6 (by decide)
  have q7 : (vf 7) = n.sv ∧ (pf 7) = [] := hR 7 (by decide)
  have q8 : (vf 8) = .int .i64 (i : Int) ∧ (pf 8) = [] := hR 8 (by decide)
  have q9 : (vf 9) = elP n.sv (((i : Int)).toNat * 3) ∧ (pf 9) = [] := hR 9 (by decide)
  have q10 : (vf 10) = elP n.sv (((i : Int)).toNat * 3 + 1) ∧ (pf 10) = [] := hR 10 (by decide)
  have q11 : (vf 11) = .int .i64 ((n.ss.getD i sq0).it) ∧ (pf 11) = [] := hR 11 (by decide)
  have q12 : (vf 12) = .agg #[.int .i64 ((n.ss.getD i sq0).kd), .int .i64 ((n.ss.getD i sq0).it), .slice none 0 0] ∧ (pf 12) = [] := hR 12 (by decide)
  refine zcs (sk 0 rfl (sk 2 rfl (sk 6 rfl (sk 7 rfl (sk 8 rfl (sk 9 rfl (sk 10 rfl (sk 11 (congrArg some vE13) (sk 18 rfl (sk 46 rfl (sk 61 (congrArg some e12.1) (zag _)))))))))))) (by simp only [pE13, vE13, q0.2, q1.2, q2.2, q3.2, q4.2, q5.2, q6.2, q7.2, q8.2, q9.2, q10.2, q11.2, q12.2, fS] <;> rfl) ?_
  simp only [List.drop_succ_cons, List.drop_zero]
  refine zcn (cs' := #[.int .i64 ((n.ss.getD i sq0).kd), .int .i64 ((n.ss.getD i sq0).it), .slice none 0 0]) (i := 0) (off := 0) (us := [.int .i64 ((n.ss.getD i sq0).kd), .int .i64 ((n.ss.getD i sq0).it), .slice none 0 0]) rfl rfl rfl (by kernel_rfl) rfl rfl rfl (zar rfl (zar rfl (zar rfl zby))) rfl rfl rfl ?_
  refine zac [46, 18, 11, 10, 9, 8, 7, 6, 2, 0] rfl (zae (zaa (zaf (zaf (zab ?_)))))
  refine zad 1 rfl (zac [46, 18, 12, 11, 10, 9, 8, 7, 6, 2, 0] rfl (zae (zaa (zax ?_))))
  refine zea (rowE 3 1 (.slice none 0 0) 0 ([]) :: boxE b30 #[.int .i64 ((n.ss.getD i sq0).kd), .int .i64 ((n.ss.getD i sq0).it), .slice none 0 0] 35 :: bigE bs :: rowE 35 3 uq ss.length (ss.flatMap sqC) :: rowE 72 2 (.slice none 0 0) (([] : List Lt).length) (([] : List Lt).flatMap ltC) :: rowE 3 1 (.slice none 0 0) 0 ([]) :: boxE b24 #[.int .i64 n.ins, uq, .slice none 0 0, .slice none 0 0] 28 :: curE g a len cap :: ntE n :: boxE b23 #[.int .i64 n.ins, n.sv, n.av, n.ov] 101 :: boxE b1 #[.int .i64 0, .slice none 0 0, .slice none 0 0, .slice none 0 0] 28 :: l) (fun w hm => hm.nilRow 3 1) ?_
  refine zcy (α := Nat) (β := Value) (γ := List Int) (fun k ui xs => (rowE 3 1 ui xs.length (xs.map (Value.int .i64)) :: boxE b30 #[.int .i64 ((n.ss.getD i sq0).kd), .int .i64 ((n.ss.getD i sq0).it), ui] 35 :: bigE bs :: rowE 35 3 uq ss.length (ss.flatMap sqC) :: rowE 72 2 (.slice none 0 0) (([] : List Lt).length) (([] : List Lt).flatMap ltC) :: rowE 3 1 (.slice none 0 0) 0 ([]) :: boxE b24 #[.int .i64 n.ins, uq, .slice none 0 0, .slice none 0 0] 28 :: curE g a len cap :: ntE n :: boxE b23 #[.int .i64 n.ins, n.sv, n.av, n.ov] 101 :: boxE b1 #[.int .i64 0, .slice none 0 0, .slice none 0 0, .slice none 0 0] 28 :: l)) (fun k ui xs => [(0, .pointer (some ⟨g, 0, none⟩)), (2, .pointer (some ⟨b1, 0, none⟩)), (6, .pointer (some ⟨b23, 0, none⟩)), (7, .pointer (some ⟨b24, 0, none⟩)), (8, .int .i64 xhR27), (9, .int .i64 (n.fst + xhR27)), (10, .int .i64 (i : Int)), (11, .pointer (some ⟨b30, 0, none⟩)), (12, .int .i64 (k : Int)), (18, .bool false), (46, .bool true)]) (fun k ui xs => k ≤ (n.ss.getD i sq0).xs.length ∧ xs.length = k ∧ BelowP xs (n.fst + xhR27)) (fun k ui xs => (n.ss.getD i sq0).xs.length - k) 0 _ [] ⟨Nat.zero_le _, rfl, BelowP.nil _⟩ (zan [46, 18, 12, 11, 10, 9, 8, 7, 6, 2, 0] rfl) ((.cons_cons _ (.cons_cons _ (.cons_cons _ (.cons_cons _ (.cons_cons _ (.cons_cons _ (.cons_cons _ (.cons_cons _ (.cons_cons _ (.cons_cons _ (.cons_cons _ (.refl _))))))))))))) ?_
  intro k ui xs hi31
  obtain ⟨hk, hxl, hxb⟩ := hi31
  have hx4 := (hn.sq _ (zcf (d := sq0) (show i < n.ss.length by omega))).len
  refine zaf (zaf (zab (zad 1 rfl (hl_v rfl rfl rfl (zat (k0 := 1) rfl (by kernel_rfl) rfl) (hl_v rfl rfl rfl (zbd rfl (by kernel_rfl) rfl (zaw 9 rfl rfl)) ?_)))))
  refine zad 1 rfl ?_
  refine hl_v rfl rfl rfl (zal (s := 3) rfl Try.underlying24 (by kernel_rfl) rfl rfl (fun w hm => (zfo 8 rfl w hm).sq) (by omega) (by omega)) ?_
  refine hl_v rfl rfl rfl (zcm (k0 := 2) rfl (by kernel_rfl) rfl (fun w hm => (zfo 8 rfl w hm).sq) (by omega)) ?_
  refine hl_v rfl rfl rfl (zam (u := (n.ss.getD i sq0).iv) rfl (by kernel_rfl) rfl (fun w hm => (zfo 8 rfl w hm).sq) ((zdf sqC 3 (fun _ => rfl) n.ss sq0 (show i < _ by omega) (by decide)).trans rfl)) ?_
  refine hl_v rfl rfl rfl (zbo rfl Try.underlying26 rfl (fun w hm => (zfo 8 rfl w hm).at (k := i) (by omega))) ?_
  refine zbw rfl rfl rfl rfl rfl rfl (fun h32 => ?_) (fun h32 => ?_)
  ·
   refine zac [70, 46, 18, 12, 11, 10, 9, 8, 7, 6, 2, 0] rfl (zae (zaa (zbb rfl (zaz (zaa ?_)))))
   refine zaf (zax ?_)
   refine zfh 11 [10, 9, 8, 6, 5, 4, 3, 2, 1, 0, 7] rfl rfl (by decide) ?_
   refine zfy (l := (rowE 3 1 ui xs.length (xs.map (Value.int .i64)) :: boxE b30 #[.int .i64 ((n.ss.getD i sq0).kd), .int .i64 ((n.ss.getD i sq0).it), ui] 35 :: bigE bs :: rowE 35 3 uq ss.length (ss.flatMap sqC) :: rowE 72 2 (.slice none 0 0) (([] : List Lt).length) (([] : List Lt).flatMap ltC) :: rowE 3 1 (.slice none 0 0) 0 ([]) :: boxE b24 #[.int .i64 n.ins, uq, .slice none 0 0, .slice none 0 0] 28 :: ntE n :: boxE b23 #[.int .i64 n.ins, n.sv, n.av, n.ov] 101 :: boxE b1 #[.int .i64 0, .slice none 0 0, .slice none 0 0, .slice none 0 0] 28 :: l)) (by kernel_rfl) 10 [0, 1, 2, 3, 4, 5, 6, 7, 8, 9] (List.take 10 _) (List.drop 10 _) [[], [0], [], [2], [], [], [5], [4, 6], [3, 7], [7, 8]] [73, 74, 75, 76, 77, 78, 79, 80, 81, 82] (fun i_ vs_ v_ p_ => match i_ with | 0 => v_ = .pointer (some ⟨b30, 0 + 2, none⟩) ∧ p_ = [] | 1 => v_ = ui ∧ p_ = [] | 2 => v_ = .int .i64 (n.fst + xhR27) ∧ p_ = [] | 3 => v_ = .int .i64 ((n.fst + xhR27) - 1) ∧ p_ = [] | 4 => v_ = .pointer (some ⟨g, 0, none⟩) ∧ p_ = [] | 5 => v_ = .int .i64 (n.fst + xhR27) ∧ p_ = [] | 6 => v_ = .int .i64 (min (n.fst + xhR27) 7) ∧ p_ = [] | 7 => (∃ pm_, p_ = [pm_] ∧ (fun u_ p_ => (∃ x_ : Int, u_ = .int .i64 x_ ∧ 0 ≤ x_ ∧ x_ < min (n.fst + xhR27) 7) ∧ p_ = curE g a len cap) v_ pm_) | 8 => v_ = .int .i64 (((n.fst + xhR27) - 1) - (intOf_o (List.getD vs_ 1 undef))) ∧ p_ = [] | 9 => IsRow_o 3 1 1 ([((n.fst + xhR27) - 1) - (intOf_o (List.getD vs_ 0 undef))].map (Value.int .i64)) v_ p_ | _ => True) [[], [0], [], [2], [], [], [5], [4, 6], [3, 7], [7, 8]] [none, none, none, none, none, none, none, some 13, none, none] [curE g a len cap] [0, 1, 2, 3, 4, 5, 6, 7, 8, 9] 13 (List.take_append_drop 10 _).symm (by kernel_rfl) (by kernel_rfl) (by kernel_rfl) rfl rfl ?_ ?_
   ·
    refine ⟨?_, ?_, ?_, ?_, ?_, ?_, ?_, ?_, ?_, ?_, trivial⟩
    ·
     intro vf pf hmu hR
     refine Or.inl ⟨rfl, ?_⟩
     show RunQ _ _ _ (([] : List Nat).flatMap pf ++ _) (envOf _ vf [] ++ _) _ _
     refine zbh (sk 11 rfl (zag _)) ?_
     exact rq_v (zat (k0 := 2) rfl (by kernel_rfl) rfl)
    ·
     intro vf pf hmu hR
     have e0 : (vf 0) = .pointer (some ⟨b30, 0 + 2, none⟩) ∧ (pf 0) = [] := hR 0 (by decide)
     refine Or.inl ⟨rfl, ?_⟩
     show RunQ _ _ _ (([0] : List Nat).flatMap pf ++ _) (envOf _ vf [0] ++ _) _ _
     refine zau (sk 73 (congrArg some e0.1) (zag _)) (List.sublist_append_right _ _) ?_
     exact rq_v (zbd rfl (by kernel_rfl) rfl (zaw 1 rfl rfl))
    ·
     intro vf pf hmu hR
     refine Or.inl ⟨rfl, ?_⟩
     show RunQ _ _ _ (([] : List Nat).flatMap pf ++ _) (envOf _ vf [] ++ _) _ _
     refine zbh (sk 9 rfl (zag _)) ?_
     exact rq_v (zap rfl)
    ·
     intro vf pf hmu hR
     have e2 : (vf 2) = .int .i64 (n.fst + xhR27) ∧ (pf 2) = [] := hR 2 (by decide)
     refine Or.inl ⟨rfl, ?_⟩
     show RunQ _ _ _ (([2] : List Nat).flatMap pf ++ _) (envOf _ vf [2] ++ _) _ _
     refine zbh (sk 75 (congrArg some e2.1) (zag _)) ?_
     exact rq_v (zdb rfl rfl rfl (by constructor <;> omega))
    ·
     intro vf pf hmu hR
     refine Or.inl ⟨rfl, ?_⟩
     show RunQ _ _ _ (([] : List Nat).flatMap pf ++ _) (envOf _ vf [] ++ _) _ _
     refine zbh (sk 0 rfl (zag _)) ?_
     exact rq_v (zap rfl)
    ·
     intro vf pf hmu hR
     refine Or.inl ⟨rfl, ?_⟩
     show RunQ _ _ _ (([] : List Nat).flatMap pf ++ _) (envOf _ vf [] ++ _) _ _
     refine zbh (sk 9 rfl (zag _)) ?_
     exact rq_v (zap rfl)
    ·
     intro vf pf hmu hR
     have e5 : (vf 5) = .int .i64 (n.fst + xhR27) ∧ (pf 5) = [] := hR 5 (by decide)
     refine Or.inl ⟨rfl, ?_⟩
     show RunQ _ _ _ (([5] : List Nat).flatMap pf ++ _) (envOf _ vf [5] ++ _) _ _
     refine zbh (sk 78 (congrArg some e5.1) (zag _)) ?_
     exact rq_v (rv_min rfl rfl rfl)
    ·
     intro vf pf hmu hR
     have e4 : (vf 4) = .pointer (some ⟨g, 0, none⟩) ∧ (pf 4) = [] := hR 4 (by decide)
     have e6 : (vf 6) = .int .i64 (min (n.fst + xhR27) 7) ∧ (pf 6) = [] := hR 6 (by decide)
     refine Or.inl ⟨rfl, ?_⟩
     show RunM _ _ _ (pf 13) (([4, 6] : List Nat).flatMap pf ++ _) (envOf _ vf [4, 6] ++ _) _ _
     rw [hmu]
     refine zdo (sk 77 (congrArg some e4.1) (sk 79 (congrArg some e6.1) (zag _))) (by simp only [e4.2, e6.2, fS] <;> rfl) ?_
     exact zej (R := (fun u_ p_ => (∃ x_ : Int, u_ = .int .i64 x_ ∧ 0 ≤ x_ ∧ x_ < min (n.fst + xhR27) 7) ∧ p_ = curE g a len cap)) (by kernel_rfl) rfl (fun L w hX hm => zct g a len cap z (min (n.fst + xhR27) 7) _ _ _ hm hb (by constructor <;> omega))
    ·
     intro vf pf hmu hR
     have e3 : (vf 3) = .int .i64 ((n.fst + xhR27) - 1) ∧ (pf 3) = [] := hR 3 (by decide)
     have e7 : (∃ pm_, (pf 7) = [pm_] ∧ (fun u_ p_ => (∃ x_ : Int, u_ = .int .i64 x_ ∧ 0 ≤ x_ ∧ x_ < min (n.fst + xhR27) 7) ∧ p_ = curE g a len cap) (vf 7) pm_) := hR 7 (by decide)
     obtain ⟨p34, pE7, hR35⟩ := e7
     obtain ⟨v33, vE7⟩ : ∃ x, vf 7 = x := ⟨_, rfl⟩
     rw [vE7] at hR35
     obtain ⟨⟨xhR35, rfl, xhR350, xhR351⟩, rfl⟩ := hR35
     refine Or.inl ⟨rfl, ?_⟩
     show RunQ _ _ _ (([3, 7] : List Nat).flatMap pf ++ _) (envOf _ vf [3, 7] ++ _) _ _
     refine zcg (sk 76 (congrArg some e3.1) (sk 80 (congrArg some vE7) (zag _))) (by simp only [pE7, vE7, e3.2, fS] <;> rfl) ?_
     exact zcw (rq_v (zdb rfl rfl rfl (by constructor <;> omega))) (fun _ _ h => ⟨h.1.trans (by show _ = (.int .i64 (((n.fst + xhR27) - 1) - (intOf_o (vf 7))) : Value); first | (rw [vE7]; done) | (rw [vE7]; rfl)), h.2⟩)
    intro vf pf hmu hR
    have e7 : (∃ pm_, (pf 7) = [pm_] ∧ (fun u_ p_ => (∃ x_ : Int, u_ = .int .i64 x_ ∧ 0 ≤ x_ ∧ x_ < min (n.fst + xhR27) 7) ∧ p_ = curE g a len cap) (vf 7) pm_) := hR 7 (by decide)
    obtain ⟨p34, pE7, hR35⟩ := e7
    obtain ⟨v33, vE7⟩ : ∃ x, vf 7 = x := ⟨_, rfl⟩
    rw [vE7] at hR35
    obtain ⟨⟨xhR35, rfl, xhR350, xhR351⟩, rfl⟩ := hR35
    have e8 : (vf 8) = .int .i64 (((n.fst + xhR27) - 1) - (intOf_o (vf 7))) ∧ (pf 8) = [] := hR 8 (by decide)
    rw [vE7] at e8
    refine Or.inl ⟨rfl, ?_⟩
    show RunQ _ _ _ (([7, 8] : List Nat).flatMap pf ++ _) (envOf _ vf [7, 8] ++ _) _ _
    refine zcg (sk 81 (congrArg some e8.1) (zag _)) (by simp only [pE7, vE7, e8.2, fS] <;> rfl) ?_
    exact zcw (zbe (z := .int .i64 0) (s := 1) (cs := ([((n.fst + xhR27) - 1) - xhR35].map (Value.int .i64))) rfl Try.underlying26 (by kernel_rfl) (by decide) rfl (by kernel_rfl) rfl) (fun v_ p_ h => by show IsRow_o 3 1 1 ([((n.fst + xhR27) - 1) - (intOf_o (vf 7))].map (Value.int .i64)) v_ p_; rw [vE7]; exact h)
   intro vf pf hmu hR
   have e1 : (vf 1) = ui ∧ (pf 1) = [] := hR 1 (by decide)
   have e7 : (∃ pm_, (pf 7) = [pm_] ∧ (fun u_ p_ => (∃ x_ : Int, u_ = .int .i64 x_ ∧ 0 ≤ x_ ∧ x_ < min (n.fst + xhR27) 7) ∧ p_ = curE g a len cap) (vf 7) pm_) := hR 7 (by decide)
   obtain ⟨p34, pE7, hR35⟩ := e7
   obtain ⟨v33, vE7⟩ : ∃ x, vf 7 = x := ⟨_, rfl⟩
   rw [vE7] at hR35
   obtain ⟨⟨xhR35, rfl, xhR350, xhR351⟩, rfl⟩ := hR35
   have e9 : IsRow_o 3 1 1 ([((n.fst + xhR27) - 1) - (intOf_o (vf 7))].map (Value.int .i64)) (vf 9) (pf 9) := hR 9 (by decide)
   rw [vE7] at e9
   obtain ⟨g36, vE9, pE9⟩ := e9
   have q0 : (vf 0) = .pointer (some ⟨b30, 0 + 2, none⟩) ∧ (pf 0) = [] := hR 0 (by decide)
   have q1 : (vf 1) = ui ∧ (pf 1) = [] := hR 1 (by decide)
   have q2 : (vf 2) = .int .i64 (n.fst + xhR27) ∧ (pf 2) = [] := hR 2 (by decide)
   have q3 : (vf 3) = .int .i64 ((n.fst + xhR27) - 1) ∧ (pf 3) = [] := hR 3 (by decide)
   have q4 : (vf 4) = .pointer (some ⟨g, 0, none⟩) ∧ (pf 4) = [] := hR 4 (by decide)
   have q5 : (vf 5) = .int .i64 (n.fst + xhR27) ∧ (pf 5) = [] := hR 5 (by decide)
   have q6 : (vf 6) = .int .i64 (min (n.fst + xhR27) 7) ∧ (pf 6) = [] := hR 6 (by decide)
   have q8 : (vf 8) = .int .i64 (((n.fst + xhR27) - 1) - (intOf_o (vf 7))) ∧ (pf 8) = [] := hR 8 (by decide)
   refine zcs (sk 0 rfl (sk 2 rfl (sk 6 rfl (sk 7 rfl (sk 8 rfl (sk 9 rfl (sk 10 rfl (sk 11 rfl (sk 12 rfl (sk 18 rfl (sk 46 rfl (sk 70 rfl (sk 74 (congrArg some e1.1) (sk 82 (congrArg some vE9) (zag _))))))))))))))) (by simp only [pE7, vE7, pE9, vE9, q0.2, q1.2, q2.2, q3.2, q4.2, q5.2, q6.2, q8.2, fS] <;> rfl) ?_
   simp only [List.drop_succ_cons, List.drop_zero]
   refine zco (i := 2) (z := .int .i64 0) (bytes := 8) rfl rfl rfl rfl Try.underlying26 (by kernel_rfl) (by kernel_rfl) rfl rfl rfl (zas 1 rfl) (zcd _) (by first | omega | (simp; done) | (simp; omega)) (zcb xs ([((n.fst + xhR27) - 1) - xhR35])) (zcv xs ([((n.fst + xhR27) - 1) - xhR35])) (fun _ => rfl) ?_
   intro v37
   refine hl_v rfl rfl rfl (zat (k0 := 2) rfl (by kernel_rfl) rfl) ?_
   refine zda (i := 2) rfl (fun ho38 => ?_)
   refine zem (i := 3) (cs' := #[.int .i64 ((n.ss.getD i sq0).kd), .int .i64 ((n.ss.getD i sq0).it), v37]) rfl rfl rfl (by kernel_rfl) rfl rfl ho38 rfl rfl rfl rfl ?_
   refine zac [70, 46, 18, 12, 11, 10, 9, 8, 7, 6, 2, 0] rfl (zae (zai (zaa (zab (zad 1 rfl ?_)))))
   refine hl_v rfl rfl rfl (zbj rfl rfl rfl (by constructor <;> omega)) (zad 1 rfl (zac [70, 46, 18, 12, 11, 10, 9, 8, 7, 6, 2, 0] rfl (zae ?_)))
   refine zbu 12 [11, 10, 9, 0, 8, 7, 6, 5, 4, 3, 2] rfl rfl (by decide) ?_
   exact zce (k + 1) v37 (xs ++ ([((n.fst + xhR27) - 1) - xhR35])) ⟨by omega, by rw [List.length_append, List.length_singleton]; omega, hxb.app (by omega)⟩ (by omega) (zan [46, 18, 12, 11, 10, 9, 8, 7, 6, 2, 0] rfl) ((.cons_cons _ (.cons_cons _ (.cons_cons _ (.cons_cons _ (.cons_cons _ (.cons_cons _ (.cons_cons _ (.cons_cons _ (.cons_cons _ (.cons_cons _ (.cons_cons _ (.refl _)))))))))))))
  refine zac [70, 46, 18, 12, 11, 10, 9, 8, 7, 6, 2, 0] rfl (zae (zaa (zaq rfl ?_)))
  refine zbp ?_
  refine zah (zah ?_)
  refine zav ?_
  refine zaa (zab (hl_v rfl rfl rfl (zat (k0 := 1) rfl (by kernel_rfl) rfl) (hl_v rfl rfl rfl (zbd rfl (by kernel_rfl) rfl (zaw 6 rfl rfl)) (hl_v rfl rfl rfl (zbc (cs := [.int .i64 ((n.ss.getD i sq0).kd), .int .i64 ((n.ss.getD i sq0).it), ui]) rfl (by kernel_rfl) (by kernel_rfl) rfl rfl (zay 1 rfl 0 rfl)) ?_))))
  refine zbr rfl rfl rfl (zbe (z := .agg #[.int .i64 0, .int .i64 0, .slice none 0 0]) (s := 3) (cs := [.int .i64 ((n.ss.getD i sq0).kd), .int .i64 ((n.ss.getD i sq0).it), ui]) rfl Try.underlying24 (by kernel_rfl) (by decide) rfl (by kernel_rfl) rfl) ?_
  intro g39
  refine zda (i := 1) rfl (fun ho40 => ?_)
  refine zco (i := 4) (z := .agg #[.int .i64 0, .int .i64 0, .slice none 0 0]) (bytes := 40) rfl rfl rfl rfl Try.underlying24 (by kernel_rfl) (by kernel_rfl) rfl rfl rfl (zas 0 rfl) (zar rfl (zar rfl (zar ho40 zby))) (by first | omega | (simp only [List.length_append, List.length_cons, List.length_nil]; omega)) (zcb ss [(Sq.mk ((n.ss.getD i sq0).kd) ((n.ss.getD i sq0).it) ui xs)]) (zdc sqC ss (Sq.mk ((n.ss.getD i sq0).kd) ((n.ss.getD i sq0).it) ui xs) _ rfl) (fun _ => rfl) ?_
  intro v41
  refine hl_v rfl rfl rfl (zat (k0 := 1) rfl (by kernel_rfl) rfl) ?_
  refine zda (i := 4) rfl (fun ho42 => ?_)
  refine zem (i := 7) (cs' := #[.int .i64 n.ins, v41, .slice none 0 0, .slice none 0 0]) rfl rfl rfl (by kernel_rfl) rfl rfl ho42 rfl rfl rfl rfl ?_
  refine zac [70, 46, 18, 12, 11, 10, 9, 8, 7, 6, 2, 0] rfl (zae (zai (zaa (zab (zad 1 rfl ?_)))))
  refine hl_v rfl rfl rfl (zbj rfl rfl rfl (by constructor <;> omega)) (zad 1 rfl (zac [70, 46, 18, 12, 11, 10, 9, 8, 7, 6, 2, 0] rfl (zae ?_)))
  refine zbu 12 [11, 10, 9, 8, 7, 6, 5, 4, 1, 3] rfl rfl (by decide) ?_
  refine zcz 2 rfl ?_
  exact zbx (i + 1) v41 (ss ++ [(Sq.mk ((n.ss.getD i sq0).kd) ((n.ss.getD i sq0).it) ui xs)]) [bigE bs, rowE 3 1 ui xs.length (xs.map (Value.int .i64))] ⟨by omega, by rw [List.length_append, List.length_singleton]; omega, hsn.app (sqOk_len (hn.sq _ (zcf (d := sq0) (by omega))) (by omega) _) hxb, fun w hw => (hbs w (zbn hw List.mem_cons_self)).app (zcc (zbn hw (List.mem_cons_of_mem _ List.mem_cons_self)))⟩ (by omega) (zan [18, 10, 9, 8, 7, 6, 2, 0] rfl) ((.cons_cons _ (.cons_cons _ (.cons_cons _ (.cons_cons _ (.cons_cons _ (.cons_cons _ (.cons_cons _ (.cons_cons _ (.cons_cons _ (.refl _)))))))))))
 refine zac [46, 18, 10, 9, 8, 7, 6, 2, 0] rfl (zae (zaa (zaq rfl ?_)))
 refine zbp ?_
 refine zah (zah ?_)
 refine zav ?_
 refine zaa (zaf (zaf (zab (zad 1 rfl (zac [46, 18, 13, 10, 9, 8, 7, 6, 2, 0] rfl ?_)))))
 refine zae (zaa (zax ?_))
 refine zdl (α := Nat) (β := Value) (γ := List Lt) (δ := List HP) (fun j u3 ls bs2 => (bigE bs2 :: rowE 35 3 uq ss.length (ss.flatMap sqC) :: rowE 72 2 u3 ls.length (ls.flatMap ltC) :: rowE 3 1 (.slice none 0 0) 0 ([]) :: boxE b24 #[.int .i64 n.ins, uq, u3, .slice none 0 0] 28 :: curE g a len cap :: ntE n :: boxE b23 #[.int .i64 n.ins, n.sv, n.av, n.ov] 101 :: boxE b1 #[.int .i64 0, .slice none 0 0, .slice none 0 0, .slice none 0 0] 28 :: l)) (fun j u3 ls bs2 => [(0, .pointer (some ⟨g, 0, none⟩)), (2, .pointer (some ⟨b1, 0, none⟩)), (6, .pointer (some ⟨b23, 0, none⟩)), (7, .pointer (some ⟨b24, 0, none⟩)), (8, .int .i64 xhR27), (9, .int .i64 (n.fst + xhR27)), (13, .int .i64 (j : Int)), (18, .bool false), (46, .bool false)]) (fun j u3 ls bs2 => (j : Int) ≤ xhR27 ∧ ls.length = j ∧ LutsOk n.fst ls ∧ ∀ w, (bigE bs2).holds w → RdsSqs w ss ∧ RdsLuts w ls) (fun j u3 ls bs2 => xhR27.toNat - j) 0 _ [] _ ⟨by omega, rfl, LutsOk.nil _, fun w hw => ⟨hbs w hw, RdsLuts.nil w⟩⟩ (zan [46, 18, 13, 9, 8, 7, 6, 2, 0] rfl) ((.cons_cons _ (.cons_cons _ (.cons_cons _ (.cons_cons _ (.cons_cons _ (.cons_cons _ (.cons_cons _ (.cons_cons _ (.cons_cons _ (.refl _))))))))))) ?_
 intro j u3 ls bs2 hi43
 obtain ⟨hj, hll, hlo, hbs2⟩ := hi43
 refine zaf (zaf (zab (zad 2 rfl ?_)))
 refine zbw rfl rfl rfl rfl rfl rfl (fun h44 => ?_) (fun h44 => ?_)
 ·
  refine zac [93, 46, 18, 13, 9, 8, 7, 6, 2, 0] rfl (zae (zaa (zbb rfl (zaz (zaa ?_)))))
  refine zaf (zax (zaf (zab (hl_v rfl rfl rfl (zdu (cs := #[.slice none 0 0, .int .i64 0]) rfl rfl (by kernel_rfl)) ?_))))
  refine zci rfl rfl rfl (zcj (z := .agg #[.slice none 0 0, .int .i64 0]) rfl (by kernel_rfl)) ?_
  intro b45
  refine zcn (cs' := #[.slice none 0 0, .int .i64 0]) (i := 0) (off := 0) (us := [.slice none 0 0, .int .i64 0]) rfl rfl rfl (by kernel_rfl) rfl rfl rfl (zar rfl (zar rfl zby)) rfl rfl rfl ?_
  refine zac [93, 46, 18, 14, 13, 9, 8, 7, 6, 2, 0] rfl (zae (zaa (zaf (zaf (zab ?_)))))
  refine zad 1 rfl ?_
  refine zcx (R := (fun u_ p_ => (∃ x_ : Int, u_ = .int .i64 x_ ∧ 0 ≤ x_ ∧ x_ < 5) ∧ p_ = curE g a len cap)) 6 rfl rfl (by kernel_rfl) rfl rfl (fun l' w hm => zct g a len cap z 5 _ _ _ hm hb (by constructor <;> omega)) ?_
  intro v46 p47 hR48
  obtain ⟨⟨xhR48, rfl, xhR480, xhR481⟩, rfl⟩ := hR48
  refine zdw (l' := (boxE b45 #[.slice none 0 0, .int .i64 0] 72 :: bigE bs2 :: rowE 35 3 uq ss.length (ss.flatMap sqC) :: rowE 72 2 u3 ls.length (ls.flatMap ltC) :: rowE 3 1 (.slice none 0 0) 0 ([]) :: boxE b24 #[.int .i64 n.ins, uq, u3, .slice none 0 0] 28 :: curE g a len cap :: ntE n :: boxE b23 #[.int .i64 n.ins, n.sv, n.av, n.ov] 101 :: boxE b1 #[.int .i64 0, .slice none 0 0, .slice none 0 0, .slice none 0 0] 28 :: l)) rfl ?_
  refine zad 1 rfl (zac [93, 46, 18, 15, 14, 13, 9, 8, 7, 6, 2, 0] rfl (zae (zaa (zax ?_))))
  refine zea (rowE 3 1 (.slice none 0 0) 0 ([]) :: boxE b45 #[.slice none 0 0, .int .i64 0] 72 :: bigE bs2 :: rowE 35 3 uq ss.length (ss.flatMap sqC) :: rowE 72 2 u3 ls.length (ls.flatMap ltC) :: rowE 3 1 (.slice none 0 0) 0 ([]) :: boxE b24 #[.int .i64 n.ins, uq, u3, .slice none 0 0] 28 :: curE g a len cap :: ntE n :: boxE b23 #[.int .i64 n.ins, n.sv, n.av, n.ov] 101 :: boxE b1 #[.int .i64 0, .slice none 0 0, .slice none 0 0, .slice none 0 0] 28 :: l) (fun w hm => hm.nilRow 3 1) ?_
  refine zcy (α := Int) (β := Value) (γ := List Int) (fun k ui xs => (rowE 3 1 ui xs.length (xs.map (Value.int .i64)) :: boxE b45 #[ui, .int .i64 0] 72 :: bigE bs2 :: rowE 35 3 uq ss.length (ss.flatMap sqC) :: rowE 72 2 u3 ls.length (ls.flatMap ltC) :: rowE 3 1 (.slice none 0 0) 0 ([]) :: boxE b24 #[.int .i64 n.ins, uq, u3, .slice none 0 0] 28 :: curE g a len cap :: ntE n :: boxE b23 #[.int .i64 n.ins, n.sv, n.av, n.ov] 101 :: boxE b1 #[.int .i64 0, .slice none 0 0, .slice none 0 0, .slice none 0 0] 28 :: l)) (fun k ui xs => [(0, .pointer (some ⟨g, 0, none⟩)), (2, .pointer (some ⟨b1, 0, none⟩)), (6, .pointer (some ⟨b23, 0, none⟩)), (7, .pointer (some ⟨b24, 0, none⟩)), (8, .int .i64 xhR27), (9, .int .i64 (n.fst + xhR27)), (13, .int .i64 (j : Int)), (14, .pointer (some ⟨b45, 0, none⟩)), (15, .int .i64 k), (18, .bool false), (46, .bool false), (93, .bool true)]) (fun k ui xs => (0 ≤ k ∧ k ≤ 4) ∧ (xs.length : Int) + k ≤ 4 ∧ BelowP xs (n.fst + (j : Int))) (fun k ui xs => k.toNat) _ _ [] ⟨by omega, by simp; omega, BelowP.nil _⟩ (zan [93, 46, 18, 15, 14, 13, 9, 8, 7, 6, 2, 0] rfl) ((.cons_cons _ (.cons_cons _ (.cons_cons _ (.cons_cons _ (.cons_cons _ (.cons_cons _ (.cons_cons _ (.cons_cons _ (.cons_cons _ (.cons_cons _ (.cons_cons _ (.refl _))))))))))))) ?_
  intro k ui xs hi49
  obtain ⟨hk, hxl, hxb⟩ := hi49
  refine zaf (zaf (zab (zad 1 rfl ?_)))
  refine zfg rfl rfl rfl rfl rfl rfl (fun h50 => ?_) (fun h50 => ?_)
  ·
   refine zac [100, 93, 46, 18, 15, 14, 13, 9, 8, 7, 6, 2, 0] rfl (zae (zaa (zbb rfl (zaz (zaa ?_)))))
   refine zaf (zax ?_)
   refine zfh 11 [10, 9, 8, 6, 5, 4, 3, 2, 1, 0, 7] rfl rfl (by decide) ?_
   refine zfy (l := (rowE 3 1 ui xs.length (xs.map (Value.int .i64)) :: boxE b45 #[ui, .int .i64 0] 72 :: bigE bs2 :: rowE 35 3 uq ss.length (ss.flatMap sqC) :: rowE 72 2 u3 ls.length (ls.flatMap ltC) :: rowE 3 1 (.slice none 0 0) 0 ([]) :: boxE b24 #[.int .i64 n.ins, uq, u3, .slice none 0 0] 28 :: ntE n :: boxE b23 #[.int .i64 n.ins, n.sv, n.av, n.ov] 101 :: boxE b1 #[.int .i64 0, .slice none 0 0, .slice none 0 0, .slice none 0 0] 28 :: l)) (by kernel_rfl) 16 [0, 1, 2, 3, 4, 5, 6, 7, 8, 9, 10, 11, 12, 13, 14, 15] (List.take 16 _) (List.drop 16 _) [[], [0], [], [2], [], [3, 4], [5], [], [], [8], [], [9, 10], [11], [7, 12], [6, 13], [13, 14]] [103, 104, 105, 106, 107, 108, 109, 110, 111, 112, 113, 114, 115, 116, 117, 118] (fun i_ vs_ v_ p_ => match i_ with | 0 => v_ = .pointer (some ⟨b45, 0 + 0, none⟩) ∧ p_ = [] | 1 => v_ = ui ∧ p_ = [] | 2 => v_ = .agg #[.int .i64 n.ins, uq, u3, .slice none 0 0] ∧ p_ = [] | 3 => v_ = .int .i64 n.fst ∧ p_ = [] | 4 => v_ = .int .i64 (j : Int) ∧ p_ = [] | 5 => v_ = .int .i64 (n.fst + (j : Int)) ∧ p_ = [] | 6 => v_ = .int .i64 ((n.fst + (j : Int)) - 1) ∧ p_ = [] | 7 => v_ = .pointer (some ⟨g, 0, none⟩) ∧ p_ = [] | 8 => v_ = .agg #[.int .i64 n.ins, uq, u3, .slice none 0 0] ∧ p_ = [] | 9 => v_ = .int .i64 n.fst ∧ p_ = [] | 10 => v_ = .int .i64 (j : Int) ∧ p_ = [] | 11 => v_ = .int .i64 (n.fst + (j : Int)) ∧ p_ = [] | 12 => v_ = .int .i64 (min (n.fst + (j : Int)) 8) ∧ p_ = [] | 13 => (∃ pm_, p_ = [pm_] ∧ (fun u_ p_ => (∃ x_ : Int, u_ = .int .i64 x_ ∧ 0 ≤ x_ ∧ x_ < min (n.fst + (j : Int)) 8) ∧ p_ = curE g a len cap) v_ pm_) | 14 => v_ = .int .i64 (((n.fst + (j : Int)) - 1) - (intOf_o (List.getD vs_ 1 undef))) ∧ p_ = [] | 15 => IsRow_o 3 1 1 ([((n.fst + (j : Int)) - 1) - (intOf_o (List.getD vs_ 0 undef))].map (Value.int .i64)) v_ p_ | _ => True) [[], [0], [], [2], [], [3, 4], [5], [], [], [8], [], [9, 10], [11], [7, 12], [6, 13], [13, 14]] [none, none, none, none, none, none, none, none, none, none, none, none, none, some 19, none, none] [curE g a len cap] [0, 1, 2, 3, 4, 5, 6, 7, 8, 9, 10, 11, 12, 13, 14, 15] 19 (List.take_append_drop 16 _).symm (by kernel_rfl) (by kernel_rfl) (by kernel_rfl) rfl rfl ?_ ?_
   ·
    refine ⟨?_, ?_, ?_, ?_, ?_, ?_, ?_, ?_, ?_, ?_, ?_, ?_, ?_, ?_, ?_, ?_, trivial⟩
    ·
     intro vf pf hmu hR
     refine Or.inl ⟨rfl, ?_⟩
     show RunQ _ _ _ (([] : List Nat).flatMap pf ++ _) (envOf _ vf [] ++ _) _ _
     refine zbh (sk 14 rfl (zag _)) ?_
     exact rq_v (zat (k0 := 0) rfl (by kernel_rfl) rfl)
    ·
     intro vf pf hmu hR
     have e0 : (vf 0) = .pointer (some ⟨b45, 0 + 0, none⟩) ∧ (pf 0) = [] := hR 0 (by decide)
     refine Or.inl ⟨rfl, ?_⟩
     show RunQ _ _ _ (([0] : List Nat).flatMap pf ++ _) (envOf _ vf [0] ++ _) _ _
     refine zau (sk 103 (congrArg some e0.1) (zag _)) (List.sublist_append_right _ _) ?_
     exact rq_v (zbd rfl (by kernel_rfl) rfl (zaw 1 rfl rfl))
    ·
     intro vf pf hmu hR
     refine Or.inl ⟨rfl, ?_⟩
     show RunQ _ _ _ (([] : List Nat).flatMap pf ++ _) (envOf _ vf [] ++ _) _ _
     refine zau (sk 7 rfl (zag _)) (List.sublist_append_right _ _) ?_
     exact rq_v (zbc (cs := [.int .i64 n.ins, uq, u3, .slice none 0 0]) rfl (by kernel_rfl) (by kernel_rfl) rfl rfl (zay 6 rfl 0 rfl))
    ·
     intro vf pf hmu hR
     have e2 : (vf 2) = .agg #[.int .i64 n.ins, uq, u3, .slice none 0 0] ∧ (pf 2) = [] := hR 2 (by decide)
     refine Or.inl ⟨rfl, ?_⟩
     show RunQ _ _ _ (([2] : List Nat).flatMap pf ++ _) (envOf _ vf [2] ++ _) _ _
     refine zau (sk 105 (congrArg some e2.1) (zag _)) (List.sublist_append_right _ _) ?_
     exact (zba (by kernel_rfl) rfl (fun w hm => zbk (by have h9 := l20First_ans (Ln.mk n.ins uq u3 (.slice none 0 0) ss ls []) w ⟨⟨zas 3 rfl w hm, (hbs2 w (hm.holds _ (zcl (i := 2) rfl))).1⟩, ⟨zas 4 rfl w hm, (hbs2 w (hm.holds _ (zcl (i := 2) rfl))).2⟩, rd_nil (w0 := w) (l := []) w (Mem.refl w)⟩ ⟨by show 0 ≤ n.ins ∧ n.ins ≤ 20; omega, by show ss.length ≤ 12; omega, by show ls.length ≤ 400; omega, by show 0 ≤ 16; omega⟩; rw [show (Ln.mk n.ins uq u3 (.slice none 0 0) ss ls []).fst = n.fst by show 1 + n.ins + (ss.length : Int) = n.fst; omega] at h9; exact h9)))
    ·
     intro vf pf hmu hR
     refine Or.inl ⟨rfl, ?_⟩
     show RunQ _ _ _ (([] : List Nat).flatMap pf ++ _) (envOf _ vf [] ++ _) _ _
     refine zbh (sk 13 rfl (zag _)) ?_
     exact rq_v (zap rfl)
    ·
     intro vf pf hmu hR
     have e3 : (vf 3) = .int .i64 n.fst ∧ (pf 3) = [] := hR 3 (by decide)
     have e4 : (vf 4) = .int .i64 (j : Int) ∧ (pf 4) = [] := hR 4 (by decide)
     refine Or.inl ⟨rfl, ?_⟩
     show RunQ _ _ _ (([3, 4] : List Nat).flatMap pf ++ _) (envOf _ vf [3, 4] ++ _) _ _
     refine zbh (sk 106 (congrArg some e3.1) (sk 107 (congrArg some e4.1) (zag _))) ?_
     exact rq_v (zbj rfl rfl rfl (by constructor <;> omega))
    ·
     intro vf pf hmu hR
     have e5 : (vf 5) = .int .i64 (n.fst + (j : Int)) ∧ (pf 5) = [] := hR 5 (by decide)
     refine Or.inl ⟨rfl, ?_⟩
     show RunQ _ _ _ (([5] : List Nat).flatMap pf ++ _) (envOf _ vf [5] ++ _) _ _
     refine zbh (sk 108 (congrArg some e5.1) (zag _)) ?_
     exact rq_v (zdb rfl rfl rfl (by constructor <;> omega))
    ·
     intro vf pf hmu hR
     refine Or.inl ⟨rfl, ?_⟩
     show RunQ _ _ _ (([] : List Nat).flatMap pf ++ _) (envOf _ vf [] ++ _) _ _
     refine zbh (sk 0 rfl (zag _)) ?_
     exact rq_v (zap rfl)
    ·
     intro vf pf hmu hR
     refine Or.inl ⟨rfl, ?_⟩
     show RunQ _ _ _ (([] : List Nat).flatMap pf ++ _) (envOf _ vf [] ++ _) _ _
     refine zau (sk 7 rfl (zag _)) (List.sublist_append_right _ _) ?_
     exact rq_v (zbc (cs := [.int .i64 n.ins, uq, u3, .slice none 0 0]) rfl (by kernel_rfl) (by kernel_rfl) rfl rfl (zay 6 rfl 0 rfl))
    ·
     intro vf pf hmu hR
     have e8 : (vf 8) = .agg #[.int .i64 n.ins, uq, u3, .slice none 0 0] ∧ (pf 8) = [] := hR 8 (by decide)
     refine Or.inl ⟨rfl, ?_⟩
     show RunQ _ _ _ (([8] : List Nat).flatMap pf ++ _) (envOf _ vf [8] ++ _) _ _
     refine zau (sk 111 (congrArg some e8.1) (zag _)) (List.sublist_append_right _ _) ?_
     exact (zba (by kernel_rfl) rfl (fun w hm => zbk (by have h9 := l20First_ans (Ln.mk n.ins uq u3 (.slice none 0 0) ss ls []) w ⟨⟨zas 3 rfl w hm, (hbs2 w (hm.holds _ (zcl (i := 2) rfl))).1⟩, ⟨zas 4 rfl w hm, (hbs2 w (hm.holds _ (zcl (i := 2) rfl))).2⟩, rd_nil (w0 := w) (l := []) w (Mem.refl w)⟩ ⟨by show 0 ≤ n.ins ∧ n.ins ≤ 20; omega, by show ss.length ≤ 12; omega, by show ls.length ≤ 400; omega, by show 0 ≤ 16; omega⟩; rw [show (Ln.mk n.ins uq u3 (.slice none 0 0) ss ls []).fst = n.fst by show 1 + n.ins + (ss.length : Int) = n.fst; omega] at h9; exact h9)))
    ·
     intro vf pf hmu hR
     refine Or.inl ⟨rfl, ?_⟩
     show RunQ _ _ _ (([] : List Nat).flatMap pf ++ _) (envOf _ vf [] ++ _) _ _
     refine zbh (sk 13 rfl (zag _)) ?_
     exact rq_v (zap rfl)
    ·
     intro vf pf hmu hR
     have e9 : (vf 9) = .int .i64 n.fst ∧ (pf 9) = [] := hR 9 (by decide)
     have e10 : (vf 10) = .int .i64 (j : Int) ∧ (pf 10) = [] := hR 10 (by decide)
     refine Or.inl ⟨rfl, ?_⟩
     show RunQ _ _ _ (([9, 10] : List Nat).flatMap pf ++ _) (envOf _ vf [9, 10] ++ _) _ _
     refine zbh (sk 112 (congrArg some e9.1) (sk 113 (congrArg some e10.1) (zag _))) ?_
     exact rq_v (zbj rfl rfl rfl (by constructor <;> omega))
    ·
     intro vf pf hmu hR
     have e11 : (vf 11) = .int .i64 (n.fst + (j : Int)) ∧ (pf 11) = [] := hR 11 (by decide)
     refine Or.inl ⟨rfl, ?_⟩
     show RunQ _ _ _ (([11] : List Nat).flatMap pf ++ _) (envOf _ vf [11] ++ _) _ _
     refine zbh (sk 114 (congrArg some e11.1) (zag _)) ?_
     exact rq_v (rv_min rfl rfl rfl)
    ·
     intro vf pf hmu hR
     have e7 : (vf 7) = .pointer (some ⟨g, 0, none⟩) ∧ (pf 7) = [] := hR 7 (by decide)
     have e12 : (vf 12) = .int .i64 (min (n.fst + (j : Int)) 8) ∧ (pf 12) = [] := hR 12 (by decide)
     refine Or.inl ⟨rfl, ?_⟩
     show RunM _ _ _ (pf 19) (([7, 12] : List Nat).flatMap pf ++ _) (envOf _ vf [7, 12] ++ _) _ _
     rw [hmu]
     refine zdo (sk 110 (congrArg some e7.1) (sk 115 (congrArg some e12.1) (zag _))) (by simp only [e7.2, e12.2, fS] <;> rfl) ?_
     exact zej (R := (fun u_ p_ => (∃ x_ : Int, u_ = .int .i64 x_ ∧ 0 ≤ x_ ∧ x_ < min (n.fst + (j : Int)) 8) ∧ p_ = curE g a len cap)) (by kernel_rfl) rfl (fun L w hX hm => zct g a len cap z (min (n.fst + (j : Int)) 8) _ _ _ hm hb (by constructor <;> omega))
    ·
     intro vf pf hmu hR
     have e6 : (vf 6) = .int .i64 ((n.fst + (j : Int)) - 1) ∧ (pf 6) = [] := hR 6 (by decide)
     have e13 : (∃ pm_, (pf 13) = [pm_] ∧ (fun u_ p_ => (∃ x_ : Int, u_ = .int .i64 x_ ∧ 0 ≤ x_ ∧ x_ < min (n.fst + (j : Int)) 8) ∧ p_ = curE g a len cap) (vf 13) pm_) := hR 13 (by decide)
     obtain ⟨p52, pE13, hR53⟩ := e13
     obtain ⟨v51, vE13⟩ : ∃ x, vf 13 = x := ⟨_, rfl⟩
     rw [vE13] at hR53
     obtain ⟨⟨xhR53, rfl, xhR530, xhR531⟩, rfl⟩ := hR53
     refine Or.inl ⟨rfl, ?_⟩
     show RunQ _ _ _ (([6, 13] : List Nat).flatMap pf ++ _) (envOf _ vf [6, 13] ++ _) _ _
     refine zcg (sk 109 (congrArg some e6.1) (sk 116 (congrArg some vE13) (zag _))) (by simp only [pE13, vE13, e6.2, fS] <;> rfl) ?_
     exact zcw (rq_v (zdb rfl rfl rfl (by constructor <;> omega))) (fun _ _ h => ⟨h.1.trans (by show _ = (.int .i64 (((n.fst + (j : Int)) - 1) - (intOf_o (vf 13))) : Value); first | (rw [vE13]; done) | (rw [vE13]; rfl)), h.2⟩)
    intro vf pf hmu hR
    have e13 : (∃ pm_, (pf 13) = [pm_] ∧ (fun u_ p_ => (∃ x_ : Int, u_ = .int .i64 x_ ∧ 0 ≤ x_ ∧ x_ < min (n.fst + (j : Int)) 8) ∧ p_ = curE g a len cap) (vf 13) pm_) := hR 13 (by decide)
    obtain ⟨p52, pE13, hR53⟩ := e13
    obtain ⟨v51, vE13⟩ : ∃ x, vf 13 = x := ⟨_, rfl⟩
    rw [vE13] at hR53
    obtain ⟨⟨xhR53, rfl, xhR530, xhR531⟩, rfl⟩ := hR53
    have e14 : (vf 14) = .int .i64 (((n.fst + (j : Int)) - 1) - (intOf_o (vf 13))) ∧ (pf 14) = [] := hR 14 (by decide)
    rw [vE13] at e14
    refine Or.inl ⟨rfl, ?_⟩
    show RunQ _ _ _ (([13, 14] : List Nat).flatMap pf ++ _) (envOf _ vf [13, 14] ++ _) _ _
    refine zcg (sk 117 (congrArg some e14.1) (zag _)) (by simp only [pE13, vE13, e14.2, fS] <;> rfl) ?_
    exact zcw (zbe (z := .int .i64 0) (s := 1) (cs := ([((n.fst + (j : Int)) - 1) - xhR53].map (Value.int .i64))) rfl Try.underlying26 (by kernel_rfl) (by decide) rfl (by kernel_rfl) rfl) (fun v_ p_ h => by show IsRow_o 3 1 1 ([((n.fst + (j : Int)) - 1) - (intOf_o (vf 13))].map (Value.int .i64)) v_ p_; rw [vE13]; exact h)
   intro vf pf hmu hR
   have e1 : (vf 1) = ui ∧ (pf 1) = [] := hR 1 (by decide)
   have e13 : (∃ pm_, (pf 13) = [pm_] ∧ (fun u_ p_ => (∃ x_ : Int, u_ = .int .i64 x_ ∧ 0 ≤ x_ ∧ x_ < min (n.fst + (j : Int)) 8) ∧ p_ = curE g a len cap) (vf 13) pm_) := hR 13 (by decide)
   obtain ⟨p52, pE13, hR53⟩ := e13
   obtain ⟨v51, vE13⟩ : ∃ x, vf 13 = x := ⟨_, rfl⟩
   rw [vE13] at hR53
   obtain ⟨⟨xhR53, rfl, xhR530, xhR531⟩, rfl⟩ := hR53
   have e15 : IsRow_o 3 1 1 ([((n.fst + (j : Int)) - 1) - (intOf_o (vf 13))].map (Value.int .i64)) (vf 15) (pf 15) := hR 15 (by decide)
   rw [vE13] at e15
   obtain ⟨g54, vE15, pE15⟩ := e15
   have q0 : (vf 0) = .pointer (some ⟨b45, 0 + 0, none⟩) ∧ (pf 0) = [] := hR 0 (by decide)
   have q1 : (vf 1) = ui ∧ (pf 1) = [] := hR 1 (by decide)
   have q2 : (vf 2) = .agg #[.int .i64 n.ins, uq, u3, .slice none 0 0] ∧ (pf 2) = [] := hR 2 (by decide)
   have q3 : (vf 3) = .int .i64 n.fst ∧ (pf 3) = [] := hR 3 (by decide)
   have q4 : (vf 4) = .int .i64 (j : Int) ∧ (pf 4) = [] := hR 4 (by decide)
   have q5 : (vf 5) = .int .i64 (n.fst + (j : Int)) ∧ (pf 5) = [] := hR 5 (by decide)
   have q6 : (vf 6) = .int .i64 ((n.fst + (j : Int)) - 1) ∧ (pf 6) = [] := hR 6 (by decide)
   have q7 : (vf 7) = .pointer (some ⟨g, 0, none⟩) ∧ (pf 7) = [] := hR 7 (by decide)
   have q8 : (vf 8) = .agg #[.int .i64 n.ins, uq, u3, .slice none 0 0] ∧ (pf 8) = [] := hR 8 (by decide)
   have q9 : (vf 9) = .int .i64 n.fst ∧ (pf 9) = [] := hR 9 (by decide)
   have q10 : (vf 10) = .int .i64 (j : Int) ∧ (pf 10) = [] := hR 10 (by decide)
   have q11 : (vf 11) = .int .i64 (n.fst + (j : Int)) ∧ (pf 11) = [] := hR 11 (by decide)
   have q12 : (vf 12) = .int .i64 (min (n.fst + (j : Int)) 8) ∧ (pf 12) = [] := hR 12 (by decide)
   have q14 : (vf 14) = .int .i64 (((n.fst + (j : Int)) - 1) - (intOf_o (vf 13))) ∧ (pf 14) = [] := hR 14 (by decide)
   refine zcs (sk 0 rfl (sk 2 rfl (sk 6 rfl (sk 7 rfl (sk 8 rfl (sk 9 rfl (sk 13 rfl (sk 14 rfl (sk 15 rfl (sk 18 rfl (sk 46 rfl (sk 93 rfl (sk 100 rfl (sk 104 (congrArg some e1.1) (sk 118 (congrArg some vE15) (zag _)))))))))))))))) (by simp only [pE13, vE13, pE15, vE15, q0.2, q1.2, q2.2, q3.2, q4.2, q5.2, q6.2, q7.2, q8.2, q9.2, q10.2, q11.2, q12.2, q14.2, fS] <;> rfl) ?_
   simp only [List.drop_succ_cons, List.drop_zero]
   refine zco (i := 2) (z := .int .i64 0) (bytes := 8) rfl rfl rfl rfl Try.underlying26 (by kernel_rfl) (by kernel_rfl) rfl rfl rfl (zas 1 rfl) (zcd _) (by first | omega | (simp; done) | (simp; omega)) (zcb xs ([((n.fst + (j : Int)) - 1) - xhR53])) (zcv xs ([((n.fst + (j : Int)) - 1) - xhR53])) (fun _ => rfl) ?_
   intro v55
   refine hl_v rfl rfl rfl (zat (k0 := 0) rfl (by kernel_rfl) rfl) ?_
   refine zda (i := 2) rfl (fun ho56 => ?_)
   refine zem (i := 3) (cs' := #[v55, .int .i64 0]) rfl rfl rfl (by kernel_rfl) rfl rfl ho56 rfl rfl rfl rfl ?_
   refine zac [100, 93, 46, 18, 15, 14, 13, 9, 8, 7, 6, 2, 0] rfl (zae (zai (zaa (zab (zad 1 rfl ?_)))))
   refine hl_v rfl rfl rfl (zdb rfl rfl rfl (by constructor <;> omega)) (zad 1 rfl (zac [100, 93, 46, 18, 15, 14, 13, 9, 8, 7, 6, 2, 0] rfl (zae ?_)))
   refine zbu 12 [11, 10, 9, 0, 8, 7, 6, 5, 4, 3, 2] rfl rfl (by decide) ?_
   exact zce (k - 1) v55 (xs ++ ([((n.fst + (j : Int)) - 1) - xhR53])) ⟨by omega, by rw [List.length_append, List.length_singleton]; omega, hxb.app (by omega)⟩ (by omega) (zan [93, 46, 18, 15, 14, 13, 9, 8, 7, 6, 2, 0] rfl) ((.cons_cons _ (.cons_cons _ (.cons_cons _ (.cons_cons _ (.cons_cons _ (.cons_cons _ (.cons_cons _ (.cons_cons _ (.cons_cons _ (.cons_cons _ (.cons_cons _ (.refl _)))))))))))))
  refine zac [100, 93, 46, 18, 15, 14, 13, 9, 8, 7, 6, 2, 0] rfl (zae (zaa (zaq rfl ?_)))
  refine zbp ?_
  refine zah (zah ?_)
  refine zav ?_
  refine zaa (zaf (zab (zad 1 rfl (hl_v rfl rfl rfl (zat (k0 := 0) rfl (by kernel_rfl) rfl) (hl_v rfl rfl rfl (zbd rfl (by kernel_rfl) rfl (zaw 1 rfl rfl)) ?_)))))
  refine hl_v rfl rfl rfl (zbo rfl Try.underlying26 rfl (zas 0 rfl)) ?_
  have hq9 := qT_rng (n := (xs.length : Int)) (by omega)
  refine zbm rfl rfl rfl (zba (by kernel_rfl) rfl (fun w hm => zbk (l02FullT_ans (xs.length : Int) w (by omega)))) ?_
  refine hl_v rfl rfl rfl (zbj rfl rfl rfl (by constructor <;> omega)) ?_
  refine zcx (R := (fun u_ p_ => (∃ x_ : Int, u_ = .int .i64 x_ ∧ 0 ≤ x_ ∧ x_ < (qT (xs.length : Int) - 1) + 1) ∧ p_ = curE g a len cap)) 7 rfl rfl (by kernel_rfl) rfl rfl (fun l' w hm => zct g a len cap z ((qT (xs.length : Int) - 1) + 1) _ _ _ hm hb (by constructor <;> omega)) ?_
  intro v57 p58 hR59
  obtain ⟨⟨xhR59, rfl, xhR590, xhR591⟩, rfl⟩ := hR59
  refine zdw (l' := (rowE 3 1 ui xs.length (xs.map (Value.int .i64)) :: boxE b45 #[ui, .int .i64 0] 72 :: bigE bs2 :: rowE 35 3 uq ss.length (ss.flatMap sqC) :: rowE 72 2 u3 ls.length (ls.flatMap ltC) :: rowE 3 1 (.slice none 0 0) 0 ([]) :: boxE b24 #[.int .i64 n.ins, uq, u3, .slice none 0 0] 28 :: curE g a len cap :: ntE n :: boxE b23 #[.int .i64 n.ins, n.sv, n.av, n.ov] 101 :: boxE b1 #[.int .i64 0, .slice none 0 0, .slice none 0 0, .slice none 0 0] 28 :: l)) rfl ?_
  refine hl_v rfl rfl rfl (zat (k0 := 1) rfl (by kernel_rfl) rfl) ?_
  refine zem (i := 1) (cs' := #[ui, .int .i64 xhR59]) rfl rfl rfl (by kernel_rfl) rfl rfl rfl rfl rfl rfl rfl ?_
  refine zac [100, 93, 46, 18, 15, 14, 13, 9, 8, 7, 6, 2, 0] rfl (zae (zaa (zab (hl_v rfl rfl rfl (zat (k0 := 2) rfl (by kernel_rfl) rfl) (hl_v rfl rfl rfl (zbd rfl (by kernel_rfl) rfl (zaw 6 rfl rfl)) ?_)))))
  refine hl_v rfl rfl rfl (zbc (cs := [ui, .int .i64 xhR59]) rfl (by kernel_rfl) (by kernel_rfl) rfl rfl (zay 1 rfl 0 rfl)) ?_
  refine zbr rfl rfl rfl (zbe (z := .agg #[.slice none 0 0, .int .i64 0]) (s := 2) (cs := [ui, .int .i64 xhR59]) rfl Try.underlying25 (by kernel_rfl) (by decide) rfl (by kernel_rfl) rfl) ?_
  intro g60
  refine zda (i := 1) rfl (fun ho61 => ?_)
  refine zco (i := 5) (z := .agg #[.slice none 0 0, .int .i64 0]) (bytes := 32) rfl rfl rfl rfl Try.underlying25 (by kernel_rfl) (by kernel_rfl) rfl rfl rfl (zas 0 rfl) (zar ho61 (zar rfl zby)) (by first | omega | (simp only [List.length_append, List.length_cons, List.length_nil]; omega)) (zcb ls [(Lt.mk ui xs xhR59)]) (zdc ltC ls (Lt.mk ui xs xhR59) _ rfl) (fun _ => rfl) ?_
  intro v62
  refine hl_v rfl rfl rfl (zat (k0 := 2) rfl (by kernel_rfl) rfl) ?_
  refine zda (i := 5) rfl (fun ho63 => ?_)
  refine zem (i := 7) (cs' := #[.int .i64 n.ins, uq, v62, .slice none 0 0]) rfl rfl rfl (by kernel_rfl) rfl rfl ho63 rfl rfl rfl rfl ?_
  refine zac [100, 93, 46, 18, 15, 14, 13, 9, 8, 7, 6, 2, 0] rfl (zae (zai (zaa (zab (zad 1 rfl ?_)))))
  refine hl_v rfl rfl rfl (zbj rfl rfl rfl (by constructor <;> omega)) (zad 1 rfl (zac [100, 93, 46, 18, 15, 14, 13, 9, 8, 7, 6, 2, 0] rfl (zae ?_)))
  refine zbu 12 [11, 10, 9, 8, 7, 6, 5, 4, 1, 3] rfl rfl (by decide) ?_
  refine zcz 2 rfl ?_
  exact zbx (j + 1) v62 (ls ++ [(Lt.mk ui xs xhR59)]) [bigE bs2, rowE 3 1 ui xs.length (xs.map (Value.int .i64))] ⟨by omega, by rw [List.length_append, List.length_singleton]; omega, hlo.app ⟨⟨by show xs.length ≤ 4; omega, by rw [show n.fst + (ls.length : Int) = n.fst + (j : Int) by omega]; exact hxb⟩, ⟨by show 0 ≤ (xs.length : Int) ∧ (xs.length : Int) ≤ 4; omega, by dsimp only; omega⟩⟩, fun w hw => ⟨(hbs2 w (zbn hw List.mem_cons_self)).1, (hbs2 w (zbn hw List.mem_cons_self)).2.app (zcc (zbn hw (List.mem_cons_of_mem _ List.mem_cons_self)))⟩⟩ (by omega) (zan [46, 18, 13, 9, 8, 7, 6, 2, 0] rfl) ((.cons_cons _ (.cons_cons _ (.cons_cons _ (.cons_cons _ (.cons_cons _ (.cons_cons _ (.cons_cons _ (.cons_cons _ (.cons_cons _ (.refl _)))))))))))
 refine zac [93, 46, 18, 13, 9, 8, 7, 6, 2, 0] rfl (zae (zaa (zaq rfl ?_)))
 refine zbp ?_
 refine zah (zah ?_)
 refine zav ?_
 refine zaa (zaf (zaf (zab (zad 1 rfl ?_))))
 refine zcx (R := (fun u_ p_ => (∃ x_ : Int, u_ = .int .i64 x_ ∧ 0 ≤ x_ ∧ x_ < 3) ∧ p_ = curE g a len cap)) 5 rfl rfl (by kernel_rfl) rfl rfl (fun l' w hm => zct g a len cap z 3 _ _ _ hm hb (by constructor <;> omega)) ?_
 intro v64 p65 hR66
 obtain ⟨⟨xhR66, rfl, xhR660, xhR661⟩, rfl⟩ := hR66
 refine zdw (l' := (bigE bs2 :: rowE 35 3 uq ss.length (ss.flatMap sqC) :: rowE 72 2 u3 ls.length (ls.flatMap ltC) :: rowE 3 1 (.slice none 0 0) 0 ([]) :: boxE b24 #[.int .i64 n.ins, uq, u3, .slice none 0 0] 28 :: curE g a len cap :: ntE n :: boxE b23 #[.int .i64 n.ins, n.sv, n.av, n.ov] 101 :: boxE b1 #[.int .i64 0, .slice none 0 0, .slice none 0 0, .slice none 0 0] 28 :: l)) rfl ?_
 refine zad 1 rfl (zac [93, 46, 18, 16, 13, 9, 8, 7, 6, 2, 0] rfl (zae (zaa (zax ?_))))
 refine zcy (α := Int) (β := Value) (γ := List Int) (fun k uo os => (bigE bs2 :: rowE 35 3 uq ss.length (ss.flatMap sqC) :: rowE 72 2 u3 ls.length (ls.flatMap ltC) :: rowE 3 1 uo os.length (os.map (Value.int .i64)) :: boxE b24 #[.int .i64 n.ins, uq, u3, uo] 28 :: curE g a len cap :: ntE n :: boxE b23 #[.int .i64 n.ins, n.sv, n.av, n.ov] 101 :: boxE b1 #[.int .i64 0, .slice none 0 0, .slice none 0 0, .slice none 0 0] 28 :: l)) (fun k uo os => [(0, .pointer (some ⟨g, 0, none⟩)), (2, .pointer (some ⟨b1, 0, none⟩)), (6, .pointer (some ⟨b23, 0, none⟩)), (7, .pointer (some ⟨b24, 0, none⟩)), (8, .int .i64 xhR27), (9, .int .i64 (n.fst + xhR27)), (16, .int .i64 k), (18, .bool false), (46, .bool false), (93, .bool false)]) (fun k uo os => (-1 ≤ k ∧ k ≤ 3) ∧ (os.length : Int) + k ≤ 3 ∧ BelowP os (n.fst + xhR27)) (fun k uo os => (k + 1).toNat) _ _ [] ⟨by omega, by simp; omega, BelowP.nil _⟩ (zan [93, 46, 18, 16, 9, 8, 7, 6, 2, 0] rfl) ((.cons_cons _ (.cons_cons _ (.cons_cons _ (.cons_cons _ (.cons_cons _ (.cons_cons _ (.cons_cons _ (.cons_cons _ (.cons_cons _ (.refl _))))))))))) ?_
 intro k uo os hi67
 obtain ⟨hk0, hol, hoo⟩ := hi67
 refine zaf (zaf (zab (zad 1 rfl ?_)))
 refine zey rfl rfl rfl rfl rfl rfl (fun h68 => ?_) (fun h68 => ?_)
 ·
  refine zac [138, 93, 46, 18, 16, 9, 8, 7, 6, 2, 0] rfl (zae (zaa (zbb rfl (zaz (zaa ?_)))))
  refine zaf (zax ?_)
  refine zfh 9 [8, 7, 6, 4, 3, 2, 1, 0, 5] rfl rfl (by decide) ?_
  refine zfy (l := (bigE bs2 :: rowE 35 3 uq ss.length (ss.flatMap sqC) :: rowE 72 2 u3 ls.length (ls.flatMap ltC) :: rowE 3 1 uo os.length (os.map (Value.int .i64)) :: boxE b24 #[.int .i64 n.ins, uq, u3, uo] 28 :: ntE n :: boxE b23 #[.int .i64 n.ins, n.sv, n.av, n.ov] 101 :: boxE b1 #[.int .i64 0, .slice none 0 0, .slice none 0 0, .slice none 0 0] 28 :: l)) (by kernel_rfl) 10 [0, 1, 2, 3, 4, 5, 6, 7, 8, 9] (List.take 10 _) (List.drop 10 _) [[], [0], [], [2], [], [], [5], [4, 6], [3, 7], [7, 8]] [141, 142, 143, 144, 145, 146, 147, 148, 149, 150] (fun i_ vs_ v_ p_ => match i_ with | 0 => v_ = .pointer (some ⟨b24, 0 + 3, none⟩) ∧ p_ = [] | 1 => v_ = uo ∧ p_ = [] | 2 => v_ = .int .i64 (n.fst + xhR27) ∧ p_ = [] | 3 => v_ = .int .i64 ((n.fst + xhR27) - 1) ∧ p_ = [] | 4 => v_ = .pointer (some ⟨g, 0, none⟩) ∧ p_ = [] | 5 => v_ = .int .i64 (n.fst + xhR27) ∧ p_ = [] | 6 => v_ = .int .i64 (min (n.fst + xhR27) 6) ∧ p_ = [] | 7 => (∃ pm_, p_ = [pm_] ∧ (fun u_ p_ => (∃ x_ : Int, u_ = .int .i64 x_ ∧ 0 ≤ x_ ∧ x_ < min (n.fst + xhR27) 6) ∧ p_ = curE g a len cap) v_ pm_) | 8 => v_ = .int .i64 (((n.fst + xhR27) - 1) - (intOf_o (List.getD vs_ 1 undef))) ∧ p_ = [] | 9 => IsRow_o 3 1 1 ([((n.fst + xhR27) - 1) - (intOf_o (List.getD vs_ 0 undef))].map (Value.int .i64)) v_ p_ | _ => True) [[], [0], [], [2], [], [], [5], [4, 6], [3, 7], [7, 8]] [none, none, none, none, none, none, none, some 13, none, none] [curE g a len cap] [0, 1, 2, 3, 4, 5, 6, 7, 8, 9] 13 (List.take_append_drop 10 _).symm (by kernel_rfl) (by kernel_rfl) (by kernel_rfl) rfl rfl ?_ ?_
  ·
   refine ⟨?_, ?_, ?_, ?_, ?_, ?_, ?_, ?_, ?_, ?_, trivial⟩
   ·
    intro vf pf hmu hR
    refine Or.inl ⟨rfl, ?_⟩
    show RunQ _ _ _ (([] : List Nat).flatMap pf ++ _) (envOf _ vf [] ++ _) _ _
    refine zbh (sk 7 rfl (zag _)) ?_
    exact rq_v (zat (k0 := 3) rfl (by kernel_rfl) rfl)
   ·
    intro vf pf hmu hR
    have e0 : (vf 0) = .pointer (some ⟨b24, 0 + 3, none⟩) ∧ (pf 0) = [] := hR 0 (by decide)
    refine Or.inl ⟨rfl, ?_⟩
    show RunQ _ _ _ (([0] : List Nat).flatMap pf ++ _) (envOf _ vf [0] ++ _) _ _
    refine zau (sk 141 (congrArg some e0.1) (zag _)) (List.sublist_append_right _ _) ?_
    exact rq_v (zbd rfl (by kernel_rfl) rfl (zaw 4 rfl rfl))
   ·
    intro vf pf hmu hR
    refine Or.inl ⟨rfl, ?_⟩
    show RunQ _ _ _ (([] : List Nat).flatMap pf ++ _) (envOf _ vf [] ++ _) _ _
    refine zbh (sk 9 rfl (zag _)) ?_
    exact rq_v (zap rfl)
   ·
    intro vf pf hmu hR
    have e2 : (vf 2) = .int .i64 (n.fst + xhR27) ∧ (pf 2) = [] := hR 2 (by decide)
    refine Or.inl ⟨rfl, ?_⟩
    show RunQ _ _ _ (([2] : List Nat).flatMap pf ++ _) (envOf _ vf [2] ++ _) _ _
    refine zbh (sk 143 (congrArg some e2.1) (zag _)) ?_
    exact rq_v (zdb rfl rfl rfl (by constructor <;> omega))
   ·
    intro vf pf hmu hR
    refine Or.inl ⟨rfl, ?_⟩
    show RunQ _ _ _ (([] : List Nat).flatMap pf ++ _) (envOf _ vf [] ++ _) _ _
    refine zbh (sk 0 rfl (zag _)) ?_
    exact rq_v (zap rfl)
   ·
    intro vf pf hmu hR
    refine Or.inl ⟨rfl, ?_⟩
    show RunQ _ _ _ (([] : List Nat).flatMap pf ++ _) (envOf _ vf [] ++ _) _ _
    refine zbh (sk 9 rfl (zag _)) ?_
    exact rq_v (zap rfl)
   ·
    intro vf pf hmu hR
    have e5 : (vf 5) = .int .i64 (n.fst + xhR27) ∧ (pf 5) = [] := hR 5 (by decide)
    refine Or.inl ⟨rfl, ?_⟩
    show RunQ _ _ _ (([5] : List Nat).flatMap pf ++ _) (envOf _ vf [5] ++ _) _ _
    refine zbh (sk 146 (congrArg some e5.1) (zag _)) ?_
    exact rq_v (rv_min rfl rfl rfl)
   ·
    intro vf pf hmu hR
    have e4 : (vf 4) = .pointer (some ⟨g, 0, none⟩) ∧ (pf 4) = [] := hR 4 (by decide)
    have e6 : (vf 6) = .int .i64 (min (n.fst + xhR27) 6) ∧ (pf 6) = [] := hR 6 (by decide)
    refine Or.inl ⟨rfl, ?_⟩
    show RunM _ _ _ (pf 13) (([4, 6] : List Nat).flatMap pf ++ _) (envOf _ vf [4, 6] ++ _) _ _
    rw [hmu]
    refine zdo (sk 145 (congrArg some e4.1) (sk 147 (congrArg some e6.1) (zag _))) (by simp only [e4.2, e6.2, fS] <;> rfl) ?_
    exact zej (R := (fun u_ p_ => (∃ x_ : Int, u_ = .int .i64 x_ ∧ 0 ≤ x_ ∧ x_ < min (n.fst + xhR27) 6) ∧ p_ = curE g a len cap)) (by kernel_rfl) rfl (fun L w hX hm => zct g a len cap z (min (n.fst + xhR27) 6) _ _ _ hm hb (by constructor <;> omega))
   ·
    intro vf pf hmu hR
    have e3 : (vf 3) = .int .i64 ((n.fst + xhR27) - 1) ∧ (pf 3) = [] := hR 3 (by decide)
    have e7 : (∃ pm_, (pf 7) = [pm_] ∧ (fun u_ p_ => (∃ x_ : Int, u_ = .int .i64 x_ ∧ 0 ≤ x_ ∧ x_ < min (n.fst + xhR27) 6) ∧ p_ = curE g a len cap) (vf 7) pm_) := hR 7 (by decide)
    obtain ⟨p70, pE7, hR71⟩ := e7
    obtain ⟨v69, vE7⟩ : ∃ x, vf 7 = x := ⟨_, rfl⟩
    rw [vE7] at hR71
    obtain ⟨⟨xhR71, rfl, xhR710, xhR711⟩, rfl⟩ := hR71
    refine Or.inl ⟨rfl, ?_⟩
    show RunQ _ _ _ (([3, 7] : List Nat).flatMap pf ++ _) (envOf _ vf [3, 7] ++ _) _ _
    refine zcg (sk 144 (congrArg some e3.1) (sk 148 (congrArg some vE7) (zag _))) (by simp only [pE7, vE7, e3.2, fS] <;> rfl) ?_
    exact zcw (rq_v (zdb rfl rfl rfl (by constructor <;> omega))) (fun _ _ h => ⟨h.1.trans (by show _ = (.int .i64 (((n.fst + xhR27) - 1) - (intOf_o (vf 7))) : Value); first | (rw [vE7]; done) | (rw [vE7]; rfl)), h.2⟩)
   intro vf pf hmu hR
   have e7 : (∃ pm_, (pf 7) = [pm_] ∧ (fun u_ p_ => (∃ x_ : Int, u_ = .int .i64 x_ ∧ 0 ≤ x_ ∧ x_ < min (n.fst + xhR27) 6) ∧ p_ = curE g a len cap) (vf 7) pm_) := hR 7 (by decide)
   obtain ⟨p70, pE7, hR71⟩ := e7
   obtain ⟨v69, vE7⟩ : ∃ x, vf 7 = x := ⟨_, rfl⟩
   rw [vE7] at hR71
   obtain ⟨⟨xhR71, rfl, xhR710, xhR711⟩, rfl⟩ := hR71
   have e8 : (vf 8) = .int .i64 (((n.fst + xhR27) - 1) - (intOf_o (vf 7))) ∧ (pf 8) = [] := hR 8 (by decide)
   rw [vE7] at e8
   refine Or.inl ⟨rfl, ?_⟩
   show RunQ _ _ _ (([7, 8] : List Nat).flatMap pf ++ _) (envOf _ vf [7, 8] ++ _) _ _
   refine zcg (sk 149 (congrArg some e8.1) (zag _)) (by simp only [pE7, vE7, e8.2, fS] <;> rfl) ?_
   exact zcw (zbe (z := .int .i64 0) (s := 1) (cs := ([((n.fst + xhR27) - 1) - xhR71].map (Value.int .i64))) rfl Try.underlying26 (by kernel_rfl) (by decide) rfl (by kernel_rfl) rfl) (fun v_ p_ h => by show IsRow_o 3 1 1 ([((n.fst + xhR27) - 1) - (intOf_o (vf 7))].map (Value.int .i64)) v_ p_; rw [vE7]; exact h)
  intro vf pf hmu hR
  have e1 : (vf 1) = uo ∧ (pf 1) = [] := hR 1 (by decide)
  have e7 : (∃ pm_, (pf 7) = [pm_] ∧ (fun u_ p_ => (∃ x_ : Int, u_ = .int .i64 x_ ∧ 0 ≤ x_ ∧ x_ < min (n.fst + xhR27) 6) ∧ p_ = curE g a len cap) (vf 7) pm_) := hR 7 (by decide)
  obtain ⟨p70, pE7, hR71⟩ := e7
  obtain ⟨v69, vE7⟩ : ∃ x, vf 7 = x := ⟨_, rfl⟩
  rw [vE7] at hR71
  obtain ⟨⟨xhR71, rfl, xhR710, xhR711⟩, rfl⟩ := hR71
  have e9 : IsRow_o 3 1 1 ([((n.fst + xhR27) - 1) - (intOf_o (vf 7))].map (Value.int .i64)) (vf 9) (pf 9) := hR 9 (by decide)
  rw [vE7] at e9
  obtain ⟨g72, vE9, pE9⟩ := e9
  have q0 : (vf 0) = .pointer (some ⟨b24, 0 + 3, none⟩) ∧ (pf 0) = [] := hR 0 (by decide)
  have q1 : (vf 1) = uo ∧ (pf 1) = [] := hR 1 (by decide)
  have q2 : (vf 2) = .int .i64 (n.fst + xhR27) ∧ (pf 2) = [] := hR 2 (by decide)
  have q3 : (vf 3) = .int .i64 ((n.fst + xhR27) - 1) ∧ (pf 3) = [] := hR 3 (by decide)
  have q4 : (vf 4) = .pointer (some ⟨g, 0, none⟩) ∧ (pf 4) = [] := hR 4 (by decide)
  have q5 : (vf 5) = .int .i64 (n.fst + xhR27) ∧ (pf 5) = [] := hR 5 (by decide)
  have q6 : (vf 6) = .int .i64 (min (n.fst + xhR27) 6) ∧ (pf 6) = [] := hR 6 (by decide)
  have q8 : (vf 8) = .int .i64 (((n.fst + xhR27) - 1) - (intOf_o (vf 7))) ∧ (pf 8) = [] := hR 8 (by decide)
  refine zcs (sk 0 rfl (sk 2 rfl (sk 6 rfl (sk 7 rfl (sk 8 rfl (sk 9 rfl (sk 16 rfl (sk 18 rfl (sk 46 rfl (sk 93 rfl (sk 138 rfl (sk 142 (congrArg some e1.1) (sk 150 (congrArg some vE9) (zag _)))))))))))))) (by simp only [pE7, vE7, pE9, vE9, q0.2, q1.2, q2.2, q3.2, q4.2, q5.2, q6.2, q8.2, fS] <;> rfl) ?_
  simp only [List.drop_succ_cons, List.drop_zero]
  refine zco (i := 5) (z := .int .i64 0) (bytes := 8) rfl rfl rfl rfl Try.underlying26 (by kernel_rfl) (by kernel_rfl) rfl rfl rfl (zas 1 rfl) (zcd _) (by first | omega | (simp; done) | (simp; omega)) (zcb os ([((n.fst + xhR27) - 1) - xhR71])) (zcv os ([((n.fst + xhR27) - 1) - xhR71])) (fun _ => rfl) ?_
  intro v73
  refine hl_v rfl rfl rfl (zat (k0 := 3) rfl (by kernel_rfl) rfl) ?_
  refine zda (i := 5) rfl (fun ho74 => ?_)
  refine zem (i := 6) (cs' := #[.int .i64 n.ins, uq, u3, v73]) rfl rfl rfl (by kernel_rfl) rfl rfl ho74 rfl rfl rfl rfl ?_
  refine zac [138, 93, 46, 18, 16, 9, 8, 7, 6, 2, 0] rfl (zae (zai (zaa (zab (zad 1 rfl ?_)))))
  refine hl_v rfl rfl rfl (zdb rfl rfl rfl (by constructor <;> omega)) (zad 1 rfl (zac [138, 93, 46, 18, 16, 9, 8, 7, 6, 2, 0] rfl (zae ?_)))
  refine zbu 10 [9, 8, 7, 0, 6, 5, 4, 3, 2] rfl rfl (by decide) ?_
  exact zce (k - 1) v73 (os ++ ([((n.fst + xhR27) - 1) - xhR71])) ⟨by omega, by rw [List.length_append, List.length_singleton]; omega, hoo.app (by omega)⟩ (by omega) (zan [93, 46, 18, 16, 9, 8, 7, 6, 2, 0] rfl) ((.cons_cons _ (.cons_cons _ (.cons_cons _ (.cons_cons _ (.cons_cons _ (.cons_cons _ (.cons_cons _ (.cons_cons _ (.cons_cons _ (.refl _)))))))))))
 refine zac [138, 93, 46, 18, 16, 9, 8, 7, 6, 2, 0] rfl (zae (zaa (zaq rfl ?_)))
 refine zbp ?_
 refine zah (zah ?_)
 refine zav ?_
 refine zaa (zaf (zab (hl_v rfl rfl rfl (zbc (cs := [.int .i64 n.ins, uq, u3, uo]) rfl (by kernel_rfl) (by kernel_rfl) rfl rfl (zay 4 rfl 0 rfl)) ?_)))
 refine zda (i := 3) rfl (fun ho75 => ?_)
 refine zda (i := 2) rfl (fun ho76 => ?_)
 refine zda (i := 1) rfl (fun ho77 => ?_)
 refine zcn (cs' := #[.int .i64 n.ins, uq, u3, uo]) (i := 8) (off := 0) (us := [.int .i64 n.ins, uq, u3, uo]) rfl rfl rfl (by kernel_rfl) rfl rfl rfl (zar rfl (zar ho77 (zar ho76 (zar ho75 zby)))) rfl rfl rfl ?_
 refine zac [138, 93, 46, 18, 16, 9, 8, 7, 6, 2, 0] rfl (zae (zaa ?_))
 refine zbl ?_
 refine zdz (fun w hm => (zas 1 rfl w hm).one) (fun ho1 => ?_)
 refine zdz (fun w hm => (zas 2 rfl w hm).one) (fun ho2 => ?_)
 refine zdz (fun w hm => (zas 3 rfl w hm).one) (fun ho3 => ?_)
 refine zbu 9 [8, 5, 0, 3, 2, 1] rfl rfl (by decide) ?_
 refine zcz 4 rfl ?_
 refine zbu 3 [2, 0, 1] rfl rfl (by decide) ?_
 refine zcz 2 rfl ?_
 exact hq_ret (rs := [.cell 2 28]) (vs := [.agg #[.int .i64 n.ins, uq, u3, uo]]) rfl ⟨⟨b1, 0, [.int .i64 n.ins, uq, u3, uo], rfl, rfl, by kernel_rfl, by kernel_rfl, zay 1 rfl 0 rfl⟩, trivial⟩ rfl (fun w hm => ⟨_, bigE [curE g a len cap, bigE [rowE 35 3 uq ss.length (ss.flatMap sqC), rowE 72 2 u3 ls.length (ls.flatMap ltC), rowE 3 1 uo os.length (os.map (Value.int .i64)), bigE bs2]], rfl, ⟨_, (Ln.mk n.ins uq u3 uo ss ls os), rfl, rfl, fun w hw => ⟨⟨zcc (zbn hw List.mem_cons_self), (hbs2 w (zbn hw (List.mem_cons_of_mem _ (List.mem_cons_of_mem _ (List.mem_cons_of_mem _ List.mem_cons_self))))).1⟩, ⟨zcc (zbn hw (List.mem_cons_of_mem _ List.mem_cons_self)), (hbs2 w (zbn hw (List.mem_cons_of_mem _ (List.mem_cons_of_mem _ (List.mem_cons_of_mem _ List.mem_cons_self))))).2⟩, zcc (zbn hw (List.mem_cons_of_mem _ (List.mem_cons_of_mem _ List.mem_cons_self)))⟩, ⟨ho1, ho2, ho3⟩, ln_mk hn (by omega) (by omega) (by omega) (by rw [show n.fst + (ls.length : Int) = n.fst + xhR27 by omega]; exact hoo) (by rw [show n.fst + (ls.length : Int) = n.fst + xhR27 by omega]; exact hsn) hlo⟩, hm.sub ((.cons_cons _ (.cons _ (.refl _))))⟩)
set_option maxHeartbeats 400000 in
theorem seqMost_ram (w : World) : Calls Try.prog 41 #[.int .i64 1] w fun e w' => e = .returned (.int .i64 31) ∧ w = w' := by
  go_enter Try.func41, Try.ntmps41
  go_wp2
  go_ret
  exact ⟨rfl, rfl⟩
set_option maxHeartbeats 400000 in
theorem seqMost_flop (w : World) : Calls Try.prog 41 #[.int .i64 0] w fun e w' => e = .returned (.int .i64 1) ∧ w = w' := by
  go_enter Try.func41, Try.ntmps41
  go_wp2
  go_ret
  exact ⟨rfl, rfl⟩
def ramOut (v i : Nat) : Nat := (v / 2 ^ (i % 4 + 1) % 2) + v / 2 * 2
def ramN (v i : Nat) : Nat := if i / 8 % 2 = 1 then ramOut v i - (ramOut v i / 2 ^ (i % 4 + 1) % 2) * 2 ^ (i % 4 + 1) + (i / 4 % 2) * 2 ^ (i % 4 + 1) else ramOut v i
theorem ram_write : ∀ i : Nat, i < 16 → ∀ v : Nat, v < 32 → (bits BinOp.and IntKind.i64 ((i : Int) / 8) 1 == 1) = true →
    bits BinOp.or IntKind.i64 (bits BinOp.andNot IntKind.i64 (bits BinOp.or IntKind.i64 (bits BinOp.and IntKind.i64 ((v : Int) / 2 ^ min (IntKind.u64.wrap (IntKind.u64.wrap (bits BinOp.and IntKind.i64 (i : Int) 3) + 1)).toNat 64) 1) (bits BinOp.andNot IntKind.i64 (v : Int) 1)) (wrap64 (2 ^ min (IntKind.u64.wrap (IntKind.u64.wrap (bits BinOp.and IntKind.i64 (i : Int) 3) + 1)).toNat 64)))
      (wrap64 (bits BinOp.and IntKind.i64 ((i : Int) / 4) 1 * 2 ^ min (IntKind.u64.wrap (IntKind.u64.wrap (bits BinOp.and IntKind.i64 (i : Int) 3) + 1)).toNat 64)) = ((ramN v i : Nat) : Int) := by decide +kernel
theorem ram_keep : ∀ i : Nat, i < 16 → ∀ v : Nat, v < 32 → (bits BinOp.and IntKind.i64 ((i : Int) / 8) 1 == 1) = false → bits BinOp.or IntKind.i64 (bits BinOp.and IntKind.i64 ((v : Int) / 2 ^ min (IntKind.u64.wrap (IntKind.u64.wrap (bits BinOp.and IntKind.i64 (i : Int) 3) + 1)).toNat 64) 1) (bits BinOp.andNot IntKind.i64 (v : Int) 1) = ((ramN v i : Nat) : Int) := by decide +kernel
theorem ram_lt : ∀ i : Nat, i < 16 → ∀ v : Nat, v < 32 → ramN v i < 32 := by decide +kernel
set_option maxHeartbeats 400000 in
theorem seqNext_ram (v i : Nat) (hv : v < 32) (hi : i < 16) (w : World) : Calls Try.prog 65 #[.int .i64 1, .int .i64 (v : Int), .int .i64 (i : Int)] w fun e w' => e = .returned (.int .i64 (ramN v i : Nat)) ∧ w = w' := by
  have hr : inR (v : Int) 0 31 = true := inR_true (by omega) (by omega)
  go_enter Try.func65, Try.ntmps65
  go_wp2_with (first
    | (go_at_call 41; refine (seqMost_ram _).mono ?_; rintro e w' ⟨rfl, rfl⟩)
    | (go_at_call 40; refine (zec _ _ _ _).mono ?_; rintro e w' ⟨rfl, rfl⟩))
  all_goals go_ret
  all_goals refine ⟨rt_int ?_, rfl⟩
  · exact ram_write i hi v hv (by assumption)
  · exact ram_keep i hi v hv (by assumption)
/-- the next state of an element -/
def snT (kd v x : Int) : Int := if kd = 0 then x % 2 else (ramN v.toNat x.toNat : Int)
theorem snT_rng {kd v x : Int} (hk : kd = 0 ∨ kd = 1) (hv : StR kd v) (hx : 0 ≤ x ∧ x < 16) : StR kd (snT kd v x) := by
  unfold StR at *
  unfold snT
  rcases hk with rfl | rfl
  · rw [if_pos rfl]; omega
  · rw [if_neg (by decide)]
    have := ram_lt x.toNat (by omega) v.toNat (by omega)
    omega
def nxK (n : Ln) (st : List Int) (inp : Int) (k : Nat) : Int := snT (n.ss.getD k sq0).kd (st.getD k 0) (pk (atV (valT n st inp) (n.ss.getD k sq0).xs) (n.ss.getD k sq0).xs.length)
def nxT (n : Ln) (st : List Int) (inp : Int) (k : Nat) : List Int := (List.range k).map (nxK n st inp)
theorem nxT_len (n : Ln) (st : List Int) (inp : Int) (k : Nat) : (nxT n st inp k).length = k := by simp [nxT]
theorem nxT_step (n : Ln) (st : List Int) (inp : Int) (k : Nat) : nxT n st inp k ++ [nxK n st inp k] = nxT n st inp (k + 1) := by unfold nxT; rw [List.range_succ, List.map_append]; rfl
theorem nxT_at {n : Ln} {st : List Int} {inp : Int} {k j : Nat} (h : j < k) : (nxT n st inp k).getD j 0 = nxK n st inp j := by
  unfold nxT; rw [List.getD_eq_getElem?_getD, List.getElem?_map, List.getElem?_range h]; rfl
def outT (n : Ln) (st : List Int) (inp : Int) : Int := pk (atV (valT n st inp) n.os) n.os.length
def itL (n : Ln) (k : Nat) : List Int := (n.ss.take k).map Sq.it
theorem itL_step (n : Ln) {k : Nat} (h : k < n.ss.length) : itL n k ++ [(n.ss.getD k sq0).it] = itL n (k + 1) := by unfold itL; rw [zei sq0 h, List.map_append]; rfl
theorem itL_len (n : Ln) {k : Nat} (h : k ≤ n.ss.length) : (itL n k).length = k := by simp [itL]; omega
def stA (n : Ln) (is : List Int) : Nat → List Int
  | 0 => itL n n.ss.length
  | k + 1 => nxT n (stA n is k) (is.getD k 0) n.ss.length
def runT (n : Ln) (is : List Int) (k : Nat) : List Int := (List.range k).map fun j => outT n (stA n is j) (is.getD j 0)
theorem runT_len (n : Ln) (is : List Int) (k : Nat) : (runT n is k).length = k := by simp [runT]
theorem runT_step (n : Ln) (is : List Int) (k : Nat) : runT n is k ++ [outT n (stA n is k) (is.getD k 0)] = runT n is (k + 1) := by unfold runT; rw [List.range_succ, List.map_append]; rfl
theorem runT_at {n : Ln} {is : List Int} {k j : Nat} (h : j < k) : (runT n is k).getD j 0 = outT n (stA n is j) (is.getD j 0) := by
  unfold runT; rw [List.getD_eq_getElem?_getD, List.getElem?_map, List.getElem?_range h]; rfl
theorem vt_len {n : Ln} (hn : LnOk n) {st : List Int} (hs : StP n st) (inp : Int) : ((valT n st inp).length : Int) = n.cnt := by
  have := hn.sz.i
  rw [vl_len, hs.len]; unfold Ln.cnt; omega
theorem vt_rng {n : Ln} (hn : LnOk n) {st : List Int} (hs : StP n st) (inp : Int) {xs : List Int} (hx : BelowP xs n.cnt) : (∀ q, q < xs.length → 0 ≤ xs.getD q 0 ∧ xs.getD q 0 < (valT n st inp).length) ∧ ∀ q, q < xs.length → atV (valT n st inp) xs q = 0 ∨ atV (valT n st inp) xs q = 1 := by
  have hl := vt_len hn hs inp
  refine ⟨fun q hq => ⟨(hx q hq).1, by rw [hl]; exact (hx q hq).2⟩, fun q hq => ?_⟩
  have := hx q hq
  have hl2 : ((vlL n st inp n.ls.length).length : Int) = n.cnt := hl
  exact vl01 n st inp n.ls.length _ (by omega)
theorem sq_len {s : Sq} (h : SqOk s) : s.xs.length ≤ 4 ∧ (s.kd = 0 ∨ s.kd = 1) := by rcases h.kind with ⟨a, b, c⟩ | ⟨a, b, c⟩ <;> omega
theorem nxT_ok {n : Ln} (hn : LnOk n) {st : List Int} (hs : StP n st) (inp : Int) : StP n (nxT n st inp n.ss.length) := ⟨nxT_len _ _ _ _, fun k hk => by
  rw [nxT_at hk]
  have hq := hn.sq k hk
  have hv := (vt_rng hn hs inp hq.2).2
  have h4 := sq_len hq.1
  exact snT_rng h4.2 (hs.rng k hk) (pk16 hv h4.1)⟩
theorem stA_ok {n : Ln} (hn : LnOk n) (is : List Int) : ∀ k, StP n (stA n is k)
  | 0 => ⟨itL_len n (Nat.le_refl _), fun k hk => by
    have hq := (hn.sq k hk).1.kind
    show StR _ ((itL n n.ss.length).getD k 0)
    have e : (itL n n.ss.length).getD k 0 = (n.ss.getD k sq0).it := by
      unfold itL; rw [List.take_length]; simp [hk]
    rw [e]; unfold StR
    rcases hq with ⟨a, b, c⟩ | ⟨a, b, c⟩ <;> omega⟩
  | k + 1 => nxT_ok hn (stA_ok hn is k) _
theorem pow16T {k : Nat} (h : k ≤ 16) : (2 : Int) ^ k ≤ 65536 := (pow16 h).2
theorem pk_16 {b : Nat → Int} {k : Nat} (h : ∀ q, q < k → b q = 0 ∨ b q = 1) (hk : k ≤ 16) : 0 ≤ pk b k ∧ pk b k < 65536 := by
  have := pk_rng k h
  have := pow16T hk
  omega
theorem shl_pk16 {b : Int} {k : Nat} (hb : b = 0 ∨ b = 1) (hk : k ≤ 16) : IntKind.i64.wrap (b * 2 ^ ((k : Int)).toNat) = b * 2 ^ k := shl_bitE hb hk
theorem or_pk16 {b : Nat → Int} {k : Nat} (h : ∀ q, q < k → b q = 0 ∨ b q = 1) (hb : b k = 0 ∨ b k = 1) (hk : k ≤ 16) : bits .or .i64 (pk b k) (b k * 2 ^ k) = pk b (k + 1) := by
  obtain ⟨h0, h1⟩ := pk_rng k h
  have hp := pow16T hk
  have hp0 : (0 : Int) < 2 ^ k := Int.pow_pos (by decide)
  rw [Bit.or_int _ _ h0 (by omega) (by rcases hb with e | e <;> rw [e] <;> omega) (by rcases hb with e | e <;> rw [e] <;> omega)]
  have e2 : (b k * 2 ^ k).toNat = (b k).toNat * 2 ^ k := by
    rcases hb with e | e <;> rw [e]
    · simp
    · rw [Int.one_mul, two_pow, Int.toNat_natCast]; simp
  have hlt : (pk b k).toNat < 2 ^ k := by rw [two_pow] at h1; omega
  rw [e2, Bit.or_join _ _ _ hlt]
  show _ = pk b k + b k * 2 ^ k
  rw [← e2]
  have : 0 ≤ b k * 2 ^ k := by rcases hb with e | e <;> rw [e] <;> omega
  omega
theorem getI_atT {xs : List Int} {x : Int} (h0 : 0 ≤ x) (h1 : x < xs.length) : getI xs x = xs.getD x.toNat 0 := by unfold getI; rw [if_pos ⟨h0, h1⟩]
set_option maxHeartbeats 4000000 in
set_option maxRecDepth 100000 in
theorem seqNextF_ans (v x : Int) (w : World) (hv : 0 ≤ v ∧ v ≤ 1) :
   Calls Try.prog 65 #[.int .i64 0, .int .i64 v, .int .i64 x] w (Ans w (.int .i64 (x % 2))) := by
 refine zbq (N := 44) (args := [.int .i64 0, .int .i64 v, .int .i64 x]) Try.func65 rfl rfl ?_
 refine zbt _ [2, 1, 0] rfl (zaf (zab (zad 1 rfl (zac [6, 2, 1, 0] rfl (zae ?_)))))
 refine zaa (zaf (zaf (zab (zad 2 rfl ?_))))
 refine zbm rfl rfl rfl (zba (by kernel_rfl) rfl (fun w hm => zbk (ans_of (seqMost_flop w)))) ?_
 refine zbm rfl rfl rfl (zba (by kernel_rfl) rfl (fun w hm => zbk (ans_of (zec _ _ _ w)))) ?_
 refine zck (fun h1 => ?_) (fun h1 => absurd ((((zen _ _ _).2 (by omega))).symm.trans h1) (by decide))
 refine zad 1 rfl (zac [13, 6, 2, 1, 0] rfl (zae (zaa (zaq rfl (zaz ?_)))))
 refine zaa (zaf (zaf (zab (zad 1 rfl ?_))))
 refine zdi rfl rfl rfl rfl rfl rfl (fun h2 => ?_) (fun h2 => absurd h2 (by omega))
 refine zac [15, 13, 6, 2, 1, 0] rfl (zae (zaa (zbb rfl (zaf (zab ?_)))))
 refine zad 1 rfl (hl_v rfl rfl rfl (zeg rfl (by decide) rfl rfl (r := x % 2) (andOne _)) (zad 1 rfl (zac [15, 13, 6, 2, 1, 0] rfl (zae (zaa ?_)))))
 refine zbl ?_
 refine zao ?_
 exact zch rfl rfl rfl
theorem seqNextT_ans (kd v x : Int) (w : World) (hk : kd = 0 ∨ kd = 1) (hv : StR kd v) (hx : 0 ≤ x ∧ x < 16) : Calls Try.prog 65 #[.int .i64 kd, .int .i64 v, .int .i64 x] w (Ans w (.int .i64 (snT kd v x))) := by
  unfold StR at hv
  rcases hk with rfl | rfl
  · exact seqNextF_ans v x w (by omega)
  · have h := seqNext_ram v.toNat x.toNat (by omega) (by omega) w
    rw [Int.toNat_of_nonneg (by omega), Int.toNat_of_nonneg (by omega)] at h
    exact ans_of h
set_option maxHeartbeats 4000000 in
set_option maxRecDepth 100000 in
theorem packNodesL_ans (xs ns : List Int) (v u : Value) (w : World) (hv : RdsW w v 1 xs.length (xs.map (Value.int .i64))) (hu : RdsW w u 1 ns.length (ns.map (Value.int .i64))) (hl : ns.length ≤ 16) (hns : ∀ q, q < ns.length → 0 ≤ ns.getD q 0 ∧ ns.getD q 0 < xs.length) (h01 : ∀ q, q < ns.length → atV xs ns q = 0 ∨ atV xs ns q = 1) :
   Calls Try.prog 66 #[v, u] w (Ans w (.int .i64 (pk (atV xs ns) ns.length))) := by
 refine zbq (N := 26) (args := [v, u]) Try.func66 rfl rfl ?_
 refine zbt _ [1, 0] rfl (zaf (zab (zad 1 rfl (zac [4, 1, 0] rfl (zae ?_)))))
 refine zaa (zaf (zab (zad 1 rfl (zac [5, 4, 1, 0] rfl (zae ?_)))))
 refine zaa (zaf (zaf (zab (zad 1 rfl (hl_v rfl rfl rfl (zbo rfl Try.underlying26 rfl (zak hu)) ?_)))))
 refine zad 1 rfl (zac [10, 9, 8, 5, 4, 1, 0] rfl (zae (zaa (zax ?_))))
 refine zdt (α := Nat) (β := Int) (fun k q => []) (fun k q => [(0, v), (1, u), (4, .int .i64 0), (5, .int .i64 q), (8, u), (9, .int .i64 (ns.length : Int)), (10, .int .i64 (k : Int))]) (fun k q => k ≤ ns.length ∧ q = pk (atV xs ns) k) (fun k q => ns.length - k) 0 0 ⟨Nat.zero_le _, rfl⟩ (zan [10, 9, 8, 5, 4, 1, 0] rfl) (.slnil) ?_
 intro k q hi1
 obtain ⟨hk, hq⟩ := hi1
 refine zaf (zab ?_)
 refine zbw rfl rfl rfl rfl rfl rfl (fun h2 => ?_) (fun h2 => ?_)
 ·
  refine zac [11, 10, 9, 8, 5, 4, 1, 0] rfl (zae (zaa (zaf (zbb rfl (zaz ?_)))))
  refine zaa (zaf (zax (zaf (zab (zad 1 rfl ?_)))))
  refine hl_v rfl rfl rfl (zal (s := 1) rfl Try.underlying26 (by kernel_rfl) rfl rfl (zak hu) (by omega) (by omega)) (hl_v rfl rfl rfl (zam (u := .int .i64 (ns.getD k 0)) rfl (by kernel_rfl) rfl (zak hu) (zbg (show _ < ns.length by omega))) (zad 2 rfl (zac [11, 10, 9, 8, 7, 6, 5, 4, 1, 0] rfl (zae (zaa ?_)))))
  refine zab ?_
  have hnk := hns k (by omega)
  have hbk := h01 k (by omega)
  have hpr := pk_16 (b := atV xs ns) (k := k) (fun z hz => h01 z (by omega)) (by omega)
  have hbk2 : xs.getD (ns.getD k 0).toNat 0 = 0 ∨ xs.getD (ns.getD k 0).toNat 0 = 1 := hbk
  have hpw := pow16T (k := k) (by omega)
  have hpw0 : (0 : Int) < 2 ^ k := Int.pow_pos (by decide)
  refine hl_v rfl rfl rfl (zap rfl) (zad 2 rfl (hl_v rfl rfl rfl (zal (s := 1) rfl Try.underlying26 (by kernel_rfl) rfl rfl (zak hv) (by omega) (by omega)) (hl_v rfl rfl rfl (zam (u := .int .i64 (xs.getD ((ns.getD k 0).toNat) 0)) rfl (by kernel_rfl) rfl (zak hv) (zbg (show _ < xs.length by omega))) (zad 1 rfl (hl_v rfl rfl rfl (rv_conv rfl Try.underlying3 Try.underlying111 rfl (IntWalk.u64_in _ (by omega))) ?_)))))
  refine hl_v rfl rfl rfl (zfd (k := .i64) (kk := .u64) (r := xs.getD (ns.getD k 0).toNat 0 * 2 ^ k) rfl rfl rfl rfl (by omega) (shl_pk16 hbk2 (by omega))) ?_
  refine hl_v rfl rfl rfl (zeg rfl (by decide) rfl rfl (r := pk (atV xs ns) (k + 1)) (by rw [hq]; exact or_pk16 (fun z hz => h01 z (by omega)) hbk (by omega))) ?_
  refine zad 1 rfl (zac [11, 10, 9, 8, 7, 6, 5, 4, 1, 0] rfl (zae (zai (zaa (zab ?_)))))
  refine hl_v rfl rfl rfl (zbj rfl rfl rfl (by constructor <;> omega)) (zad 1 rfl (zac [11, 10, 9, 8, 7, 6, 5, 4, 1, 0] rfl (zae ?_)))
  exact zcu (k + 1) _ ⟨by omega, by first | rfl | (rw [hq]; rfl)⟩ (by omega) (zan [10, 9, 8, 5, 4, 1, 0] rfl) (.slnil)
 refine zac [11, 10, 9, 8, 5, 4, 1, 0] rfl (zae (zaa (zaf (zaq rfl ?_))))
 refine zbp ?_
 refine zah (zah ?_)
 refine zav ?_
 refine zaa (zaf (zab (zad 2 rfl (zac [11, 10, 9, 8, 5, 4, 1, 0] rfl (zae ?_)))))
 refine zaa ?_
 refine zbl ?_
 exact zch rfl rfl (by rw [hq, show k = ns.length by omega])
set_option maxHeartbeats 4000000 in
set_option maxRecDepth 100000 in
theorem lutStart_ret (n : Ln) (w : World) (hr : RdsLn w n) (hok : LnOk n) :
   Calls Try.prog 32 #[.agg #[.int .i64 n.ins, n.sv, n.lv, n.ov]] w (Ret w (fun v' post => post = [rowE 3 1 v' ((itL n n.ss.length)).length (((itL n n.ss.length)).map (Value.int .i64))])) := by
 have hso := sml hr.ou
 have hss := hr.sq.small
 have hsl := hr.lt.small
 have hcnt : n.cnt = 1 + n.ins + n.ss.length + n.ls.length := rfl
 have hfst : n.fst = 1 + n.ins + n.ss.length := rfl
 obtain ⟨⟨si0, si1⟩, s2, s3, s4⟩ := hok.sz
 refine zbq (N := 20) (args := [.agg #[.int .i64 n.ins, n.sv, n.lv, n.ov]]) Try.func32 rfl rfl ?_
 refine zbt _ [0] rfl (zaf (zab ?_))
 refine zci rfl rfl rfl (zdd rfl rfl) ?_
 intro b1
 refine zad 1 rfl (zac [2, 1, 0] rfl (zae (zaa (zaf (zab ?_)))))
 refine hl_nilRow 3 1 ?_
 refine hl_v rfl rfl rfl (zap rfl) (zac [3, 2, 1, 0] rfl (zae (zaa (zaf (zaf ?_)))))
 refine zab (hl_v rfl rfl rfl (zat (k0 := 1) rfl (by kernel_rfl) rfl) (hl_v rfl rfl rfl (zbd rfl (by kernel_rfl) rfl (zaw 1 rfl rfl)) (hl_v rfl rfl rfl (zbo rfl Try.underlying24 rfl (zak ((hr).sq.row))) (zad 1 rfl (zac [9, 8, 7, 3, 2, 1, 0] rfl ?_)))))
 refine zae (zaa (zax ?_))
 refine zcy (α := Nat) (β := Value) (γ := List Int) (fun k u zs => [rowE 3 1 u zs.length (zs.map (Value.int .i64)), boxE b1 #[.int .i64 n.ins, n.sv, n.lv, n.ov] 28]) (fun k u zs => [(0, .agg #[.int .i64 n.ins, n.sv, n.lv, n.ov]), (1, .pointer (some ⟨b1, 0, none⟩)), (2, .slice none 0 0), (3, u), (7, n.sv), (8, .int .i64 (n.ss.length : Int)), (9, .int .i64 (k : Int))]) (fun k u zs => k ≤ n.ss.length ∧ zs = itL n k) (fun k u zs => n.ss.length - k) 0 _ [] ⟨Nat.zero_le _, rfl⟩ (zan [9, 8, 7, 3, 2, 1, 0] rfl) ((.cons_cons _ (.cons_cons _ .slnil))) ?_
 intro k u zs hi3
 obtain ⟨hk, hz⟩ := hi3
 have hzl : zs.length = k := by rw [hz]; exact itL_len n hk
 refine zaf (zab ?_)
 refine zbw rfl rfl rfl rfl rfl rfl (fun h4 => ?_) (fun h4 => ?_)
 ·
  refine zac [10, 9, 8, 7, 3, 2, 1, 0] rfl (zae (zaa (zaf (zbb rfl (zaz ?_)))))
  refine zaa (zaf (zax (zaf (zab (hl_v rfl rfl rfl (zal (s := 3) rfl Try.underlying24 (by kernel_rfl) rfl rfl (zak ((hr).sq.row)) (by omega) (by omega)) ?_)))))
  refine hl_v rfl rfl rfl (zdr (us := [.int .i64 ((n.ss.getD k sq0).kd), .int .i64 ((n.ss.getD k sq0).it), (n.ss.getD k sq0).iv]) rfl (by kernel_rfl) (by kernel_rfl) rfl (zak ((hr).sq.row)) (by omega) rfl (zel sqC 3 (fun _ => rfl) n.ss sq0 (show k < _ by omega) rfl)) ?_
  refine zci rfl rfl rfl (zcj (z := .agg #[.int .i64 0, .int .i64 0, .slice none 0 0]) rfl (by kernel_rfl)) ?_
  intro b5
  refine zcn (cs' := #[.int .i64 ((n.ss.getD k sq0).kd), .int .i64 ((n.ss.getD k sq0).it), (n.ss.getD k sq0).iv]) (i := 0) (off := 0) (us := [.int .i64 ((n.ss.getD k sq0).kd), .int .i64 ((n.ss.getD k sq0).it), (n.ss.getD k sq0).iv]) rfl rfl rfl (by kernel_rfl) rfl rfl rfl (zar rfl (zar rfl (zar (hr.sq.at (d := sq0) (k := k) (by omega)).one zby))) rfl rfl rfl ?_
  refine zac [10, 9, 8, 7, 5, 3, 2, 1, 0] rfl (zae (zaa (zab (zad 1 rfl (hl_v rfl rfl rfl (zat (k0 := 1) rfl (by kernel_rfl) rfl) ?_)))))
  refine hl_v rfl rfl rfl (zbd rfl (by kernel_rfl) rfl (zaw 0 rfl rfl)) ?_
  refine zbr rfl rfl rfl (zbe (z := .int .i64 0) (s := 1) (cs := ([(n.ss.getD k sq0).it].map (Value.int .i64))) rfl Try.underlying26 (by kernel_rfl) (by decide) rfl (by kernel_rfl) rfl) ?_
  intro g6
  refine zco (i := 2) (z := .int .i64 0) (bytes := 8) rfl rfl rfl rfl Try.underlying26 (by kernel_rfl) (by kernel_rfl) rfl rfl rfl (zas 0 rfl) (zcd _) (by first | omega | (simp; done) | (simp; omega)) (zcb zs ([(n.ss.getD k sq0).it])) (zcv zs ([(n.ss.getD k sq0).it])) (fun _ => rfl) ?_
  intro v7
  refine zad 1 rfl (zac [10, 9, 8, 7, 5, 3, 2, 1, 0] rfl (zae (zai (zaa (zab ?_)))))
  refine hl_v rfl rfl rfl (zbj rfl rfl rfl (by constructor <;> omega)) (zad 1 rfl (zac [10, 9, 8, 7, 5, 3, 2, 1, 0] rfl (zae ?_)))
  exact zce (k + 1) v7 (zs ++ ([(n.ss.getD k sq0).it])) ⟨by omega, by rw [hz]; exact itL_step n (by omega)⟩ (by omega) (zan [9, 8, 7, 3, 2, 1, 0] rfl) ((.cons _ (.cons _ (.cons_cons _ (.cons_cons _ .slnil)))))
 refine zac [10, 9, 8, 7, 3, 2, 1, 0] rfl (zae (zaa (zaf (zaq rfl ?_))))
 refine zbp ?_
 refine zah (zah ?_)
 refine zav ?_
 refine zaa (zaf (zab (zad 2 rfl (zac [10, 9, 8, 7, 3, 2, 1, 0] rfl (zae ?_)))))
 refine zaa ?_
 refine zbl ?_
 exact zdn (post := [rowE 3 1 u zs.length (zs.map (Value.int .i64))]) rfl rfl ((.cons_cons _ (.cons _ .slnil))) (by rw [hz, show k = n.ss.length by omega])
set_option maxHeartbeats 4000000 in
set_option maxRecDepth 100000 in
theorem lutStep_ret (n : Ln) (st : List Int) (v : Value) (inp : Int) (w : World) (hr : RdsLn w n) (hok : LnOk n) (hst : RdsW w v 1 st.length (st.map (Value.int .i64))) (hsp : StP n st) :
   Calls Try.prog 33 #[.agg #[.int .i64 n.ins, n.sv, n.lv, n.ov], v, .int .i64 inp] w (Ret w (fun u_ p_ => ∃ nv : Value, u_ = .tuple #[nv, .int .i64 (outT n st inp)] ∧ p_ = [rowE 3 1 nv (nxT n st inp n.ss.length).length ((nxT n st inp n.ss.length).map (Value.int .i64))])) := by
 have hso := sml hr.ou
 have hss := hr.sq.small
 have hsl := hr.lt.small
 have hcnt : n.cnt = 1 + n.ins + n.ss.length + n.ls.length := rfl
 have hfst : n.fst = 1 + n.ins + n.ss.length := rfl
 obtain ⟨⟨si0, si1⟩, s2, s3, s4⟩ := hok.sz
 have hsl9 := hsp.len
 refine zbq (N := 44) (args := [.agg #[.int .i64 n.ins, n.sv, n.lv, n.ov], v, .int .i64 inp]) Try.func33 rfl rfl ?_
 refine zbt _ [2, 1, 0] rfl (zaf (zab ?_))
 refine zci rfl rfl rfl (zdd rfl rfl) ?_
 intro b1
 refine zad 2 rfl (zac [7, 6, 3, 2, 1, 0] rfl (zae (zaa (zaf (zab ?_)))))
 refine hl_v rfl rfl rfl (zbc (cs := [.int .i64 n.ins, n.sv, n.lv, n.ov]) rfl (by kernel_rfl) (by kernel_rfl) rfl rfl (zay 0 rfl 0 rfl)) (zad 2 rfl ?_)
 refine hl_q rfl rfl rfl (zba (by kernel_rfl) rfl (fun w hm => lutValues_ret n st _ inp w (hr.below hm.bel) (hst.below hm.bel) hok hsp)) ?_
 intro v2 p3 hR4
 subst hR4
 refine zad 1 rfl (zac [8, 7, 6, 3, 2, 1, 0] rfl (zae (zaa (zaf (zab ?_)))))
 refine hl_nilRow 3 1 ?_
 refine hl_v rfl rfl rfl (zap rfl) (zac [9, 8, 7, 6, 3, 2, 1, 0] rfl (zae (zaa (zaf (zaf ?_)))))
 refine zab (hl_v rfl rfl rfl (zat (k0 := 1) rfl (by kernel_rfl) rfl) (hl_v rfl rfl rfl (zbd rfl (by kernel_rfl) rfl (zaw 2 rfl rfl)) (hl_v rfl rfl rfl (zbo rfl Try.underlying24 rfl (zak ((hr).sq.row))) (zad 1 rfl (zac [19, 18, 17, 9, 8, 7, 6, 3, 2, 1, 0] rfl ?_)))))
 refine zae (zaa (zax ?_))
 refine zcy (α := Nat) (β := Value) (γ := List Int) (fun k u zs => [rowE 3 1 u zs.length (zs.map (Value.int .i64)), rowE 3 1 v2 ((valT n st inp).length) ((valT n st inp).map (Value.int .i64)), boxE b1 #[.int .i64 n.ins, n.sv, n.lv, n.ov] 28]) (fun k u zs => [(0, .agg #[.int .i64 n.ins, n.sv, n.lv, n.ov]), (1, v), (2, .int .i64 inp), (3, .pointer (some ⟨b1, 0, none⟩)), (6, .slice none 0 0), (7, .int .i64 0), (8, v2), (9, u), (17, n.sv), (18, .int .i64 (n.ss.length : Int)), (19, .int .i64 (k : Int))]) (fun k u zs => k ≤ n.ss.length ∧ zs = nxT n st inp k) (fun k u zs => n.ss.length - k) 0 _ [] ⟨Nat.zero_le _, rfl⟩ (zan [19, 18, 17, 9, 8, 7, 6, 3, 2, 1, 0] rfl) ((.cons_cons _ (.cons_cons _ (.cons_cons _ .slnil)))) ?_
 intro k u zs hi6
 obtain ⟨hk, hz⟩ := hi6
 have hzl : zs.length = k := by rw [hz]; exact nxT_len n st inp k
 refine zaf (zab ?_)
 refine zbw rfl rfl rfl rfl rfl rfl (fun h7 => ?_) (fun h7 => ?_)
 ·
  refine zac [20, 19, 18, 17, 9, 8, 7, 6, 3, 2, 1, 0] rfl (zae (zaa (zaf (zbb rfl (zaz ?_)))))
  refine zaa (zaf (zax (zaf (zab (zad 1 rfl ?_)))))
  refine hl_v rfl rfl rfl (zal (s := 3) rfl Try.underlying24 (by kernel_rfl) rfl rfl (zak ((hr).sq.row)) (by omega) (by omega)) ?_
  refine hl_v rfl rfl rfl (zdr (us := [.int .i64 ((n.ss.getD k sq0).kd), .int .i64 ((n.ss.getD k sq0).it), (n.ss.getD k sq0).iv]) rfl (by kernel_rfl) (by kernel_rfl) rfl (zak ((hr).sq.row)) (by omega) rfl (zel sqC 3 (fun _ => rfl) n.ss sq0 (show k < _ by omega) rfl)) ?_
  refine zci rfl rfl rfl (zcj (z := .agg #[.int .i64 0, .int .i64 0, .slice none 0 0]) rfl (by kernel_rfl)) ?_
  intro b8
  refine zad 1 rfl ?_
  refine zcn (cs' := #[.int .i64 ((n.ss.getD k sq0).kd), .int .i64 ((n.ss.getD k sq0).it), (n.ss.getD k sq0).iv]) (i := 0) (off := 0) (us := [.int .i64 ((n.ss.getD k sq0).kd), .int .i64 ((n.ss.getD k sq0).it), (n.ss.getD k sq0).iv]) rfl rfl rfl (by kernel_rfl) rfl rfl rfl (zar rfl (zar rfl (zar (hr.sq.at (d := sq0) (k := k) (by omega)).one zby))) rfl rfl rfl ?_
  refine zac [20, 19, 18, 17, 11, 10, 9, 8, 7, 6, 3, 2, 1, 0] rfl (zae (zaa ?_))
  refine zdj (by kernel_rfl) 13 [0, 1, 2, 3, 4, 5, 6, 7, 8, 9, 10, 11, 12] (List.take 13 _) (List.drop 13 _) [[], [], [1], [], [], [3, 4], [5], [], [], [8], [7, 9], [2, 6, 10], [11]] [24, 25, 26, 27, 28, 29, 30, 31, 32, 33, 34, 35, 36] (fun i_ vs_ v_ p_ => match i_ with | 0 => v_ = u ∧ p_ = [] | 1 => v_ = .pointer (some ⟨b8, 0 + 0, none⟩) ∧ p_ = [] | 2 => v_ = .int .i64 ((n.ss.getD k sq0).kd) ∧ p_ = [] | 3 => v_ = v ∧ p_ = [] | 4 => v_ = .int .i64 (k : Int) ∧ p_ = [] | 5 => v_ = elP v (((k : Int)).toNat * 1) ∧ p_ = [] | 6 => v_ = .int .i64 (st.getD k 0) ∧ p_ = [] | 7 => v_ = v2 ∧ p_ = [] | 8 => v_ = .pointer (some ⟨b8, 0 + 2, none⟩) ∧ p_ = [] | 9 => v_ = (n.ss.getD k sq0).iv ∧ p_ = [] | 10 => v_ = .int .i64 (pk (atV (valT n st inp) ((n.ss.getD k sq0).xs)) ((n.ss.getD k sq0).xs).length) ∧ p_ = [] | 11 => v_ = .int .i64 (nxK n st inp k) ∧ p_ = [] | 12 => IsRow_o 3 1 1 ([nxK n st inp k].map (Value.int .i64)) v_ p_ | _ => True) (List.take_append_drop 13 _).symm (by kernel_rfl) (by kernel_rfl) rfl rfl ?_ ?_
  ·
   refine ⟨?_, ?_, ?_, ?_, ?_, ?_, ?_, ?_, ?_, ?_, ?_, ?_, ?_, trivial⟩
   ·
    intro vf pf hR
    refine Or.inl ⟨rfl, ?_⟩
    refine zbh (sk 9 rfl (zag _)) ?_
    exact rq_v (zap rfl)
   ·
    intro vf pf hR
    refine Or.inl ⟨rfl, ?_⟩
    refine zbh (sk 11 rfl (zag _)) ?_
    exact rq_v (zat (k0 := 0) rfl (by kernel_rfl) rfl)
   ·
    intro vf pf hR
    have e1 : (vf 1) = .pointer (some ⟨b8, 0 + 0, none⟩) ∧ (pf 1) = [] := hR 1 (by decide)
    refine Or.inl ⟨rfl, ?_⟩
    refine zau (sk 25 (congrArg some e1.1) (zag _)) (List.sublist_append_right _ _) ?_
    exact rq_v (zbd rfl (by kernel_rfl) rfl (zaw 0 rfl rfl))
   ·
    intro vf pf hR
    refine Or.inl ⟨rfl, ?_⟩
    refine zbh (sk 1 rfl (zag _)) ?_
    exact rq_v (zap rfl)
   ·
    intro vf pf hR
    refine Or.inl ⟨rfl, ?_⟩
    refine zbh (sk 10 rfl (zag _)) ?_
    exact rq_v (zap rfl)
   ·
    intro vf pf hR
    have e3 : (vf 3) = v ∧ (pf 3) = [] := hR 3 (by decide)
    have e4 : (vf 4) = .int .i64 (k : Int) ∧ (pf 4) = [] := hR 4 (by decide)
    refine Or.inl ⟨rfl, ?_⟩
    refine zau (sk 27 (congrArg some e3.1) (sk 28 (congrArg some e4.1) (zag _))) (List.sublist_append_right _ _) ?_
    exact rq_v (zal (s := 1) rfl Try.underlying26 (by kernel_rfl) rfl rfl (zak hst) (by omega) (by omega))
   ·
    intro vf pf hR
    have e5 : (vf 5) = elP v (((k : Int)).toNat * 1) ∧ (pf 5) = [] := hR 5 (by decide)
    refine Or.inl ⟨rfl, ?_⟩
    refine zau (sk 29 (congrArg some e5.1) (zag _)) (List.sublist_append_right _ _) ?_
    exact rq_v (zam (u := .int .i64 (st.getD k 0)) rfl (by kernel_rfl) rfl (zak hst) (zbg (show _ < st.length by omega)))
   ·
    intro vf pf hR
    refine Or.inl ⟨rfl, ?_⟩
    refine zbh (sk 8 rfl (zag _)) ?_
    exact rq_v (zap rfl)
   ·
    intro vf pf hR
    refine Or.inl ⟨rfl, ?_⟩
    refine zbh (sk 11 rfl (zag _)) ?_
    exact rq_v (zat (k0 := 2) rfl (by kernel_rfl) rfl)
   ·
    intro vf pf hR
    have e8 : (vf 8) = .pointer (some ⟨b8, 0 + 2, none⟩) ∧ (pf 8) = [] := hR 8 (by decide)
    refine Or.inl ⟨rfl, ?_⟩
    refine zau (sk 32 (congrArg some e8.1) (zag _)) (List.sublist_append_right _ _) ?_
    exact rq_v (zbd rfl (by kernel_rfl) rfl (zaw 0 rfl rfl))
   ·
    intro vf pf hR
    have e7 : (vf 7) = v2 ∧ (pf 7) = [] := hR 7 (by decide)
    have e9 : (vf 9) = (n.ss.getD k sq0).iv ∧ (pf 9) = [] := hR 9 (by decide)
    refine Or.inl ⟨rfl, ?_⟩
    refine zau (sk 31 (congrArg some e7.1) (sk 33 (congrArg some e9.1) (zag _))) (List.sublist_append_right _ _) ?_
    exact (zba (by kernel_rfl) rfl (fun w hm => zbk (packNodes_ans (valT n st inp) ((n.ss.getD k sq0).xs) _ _ w ((zas 2 rfl) w hm) ((zak ((hr).sq.at (d := sq0) (k := k) (by omega))) w hm) (sq_len (hok.sq k (by omega)).1).1 (vt_rng hok hsp inp (hok.sq k (by omega)).2).1 (vt_rng hok hsp inp (hok.sq k (by omega)).2).2)))
   ·
    intro vf pf hR
    have e2 : (vf 2) = .int .i64 ((n.ss.getD k sq0).kd) ∧ (pf 2) = [] := hR 2 (by decide)
    have e6 : (vf 6) = .int .i64 (st.getD k 0) ∧ (pf 6) = [] := hR 6 (by decide)
    have e10 : (vf 10) = .int .i64 (pk (atV (valT n st inp) ((n.ss.getD k sq0).xs)) ((n.ss.getD k sq0).xs).length) ∧ (pf 10) = [] := hR 10 (by decide)
    refine Or.inl ⟨rfl, ?_⟩
    refine zau (sk 26 (congrArg some e2.1) (sk 30 (congrArg some e6.1) (sk 34 (congrArg some e10.1) (zag _)))) (List.sublist_append_right _ _) ?_
    exact (zba (by kernel_rfl) rfl (fun w hm => zbk (seqNextT_ans ((n.ss.getD k sq0).kd) (st.getD k 0) (pk (atV (valT n st inp) ((n.ss.getD k sq0).xs)) ((n.ss.getD k sq0).xs).length) w (sq_len (hok.sq k (by omega)).1).2 (hsp.rng k (by omega)) (pk16 (vt_rng hok hsp inp (hok.sq k (by omega)).2).2 (sq_len (hok.sq k (by omega)).1).1))))
   intro vf pf hR
   have e11 : (vf 11) = .int .i64 (nxK n st inp k) ∧ (pf 11) = [] := hR 11 (by decide)
   refine Or.inl ⟨rfl, ?_⟩
   refine zau (sk 35 (congrArg some e11.1) (zag _)) (List.sublist_append_right _ _) ?_
   exact zbe (z := .int .i64 0) (s := 1) (cs := ([nxK n st inp k].map (Value.int .i64))) rfl Try.underlying26 (by kernel_rfl) (by decide) rfl (by kernel_rfl) rfl
  intro vf pf hR
  have e0 : (vf 0) = u ∧ (pf 0) = [] := hR 0 (by decide)
  have e12 : IsRow_o 3 1 1 ([nxK n st inp k].map (Value.int .i64)) (vf 12) (pf 12) := hR 12 (by decide)
  obtain ⟨g9, vE12, pE12⟩ := e12
  have q0 : (vf 0) = u ∧ (pf 0) = [] := hR 0 (by decide)
  have q1 : (vf 1) = .pointer (some ⟨b8, 0 + 0, none⟩) ∧ (pf 1) = [] := hR 1 (by decide)
  have q2 : (vf 2) = .int .i64 ((n.ss.getD k sq0).kd) ∧ (pf 2) = [] := hR 2 (by decide)
  have q3 : (vf 3) = v ∧ (pf 3) = [] := hR 3 (by decide)
  have q4 : (vf 4) = .int .i64 (k : Int) ∧ (pf 4) = [] := hR 4 (by decide)
  have q5 : (vf 5) = elP v (((k : Int)).toNat * 1) ∧ (pf 5) = [] := hR 5 (by decide)
  have q6 : (vf 6) = .int .i64 (st.getD k 0) ∧ (pf 6) = [] := hR 6 (by decide)
  have q7 : (vf 7) = v2 ∧ (pf 7) = [] := hR 7 (by decide)
  have q8 : (vf 8) = .pointer (some ⟨b8, 0 + 2, none⟩) ∧ (pf 8) = [] := hR 8 (by decide)
  have q9 : (vf 9) = (n.ss.getD k sq0).iv ∧ (pf 9) = [] := hR 9 (by decide)
  have q10 : (vf 10) = .int .i64 (pk (atV (valT n st inp) ((n.ss.getD k sq0).xs)) ((n.ss.getD k sq0).xs).length) ∧ (pf 10) = [] := hR 10 (by decide)
  have q11 : (vf 11) = .int .i64 (nxK n st inp k) ∧ (pf 11) = [] := hR 11 (by decide)
  refine zcs (sk 0 rfl (sk 1 rfl (sk 2 rfl (sk 3 rfl (sk 6 rfl (sk 7 rfl (sk 8 rfl (sk 9 rfl (sk 10 rfl (sk 11 rfl (sk 17 rfl (sk 18 rfl (sk 19 rfl (sk 20 rfl (sk 24 (congrArg some e0.1) (sk 36 (congrArg some vE12) (zag _))))))))))))))))) (by simp only [pE12, vE12, q0.2, q1.2, q2.2, q3.2, q4.2, q5.2, q6.2, q7.2, q8.2, q9.2, q10.2, q11.2, fS] <;> rfl) ?_
  simp only [List.drop_succ_cons, List.drop_zero]
  refine zco (i := 2) (z := .int .i64 0) (bytes := 8) rfl rfl rfl rfl Try.underlying26 (by kernel_rfl) (by kernel_rfl) rfl rfl rfl (zas 0 rfl) (zcd _) (by first | omega | (simp; done) | (simp; omega)) (zcb zs ([nxK n st inp k])) (zcv zs ([nxK n st inp k])) (fun _ => rfl) ?_
  intro v10
  refine zad 1 rfl (zac [20, 19, 18, 17, 11, 10, 9, 8, 7, 6, 3, 2, 1, 0] rfl (zae (zai (zaa (zab ?_)))))
  refine hl_v rfl rfl rfl (zbj rfl rfl rfl (by constructor <;> omega)) (zad 1 rfl (zac [20, 19, 18, 17, 11, 10, 9, 8, 7, 6, 3, 2, 1, 0] rfl (zae ?_)))
  exact zce (k + 1) v10 (zs ++ ([nxK n st inp k])) ⟨by omega, by rw [hz]; exact nxT_step n st inp k⟩ (by omega) (zan [19, 18, 17, 9, 8, 7, 6, 3, 2, 1, 0] rfl) ((.cons _ (.cons _ (.cons_cons _ (.cons_cons _ (.cons_cons _ .slnil))))))
 refine zac [20, 19, 18, 17, 9, 8, 7, 6, 3, 2, 1, 0] rfl (zae (zaa (zaf (zaq rfl ?_))))
 refine zbp ?_
 refine zah (zah ?_)
 refine zav ?_
 refine zaa (zaf (zab (zad 2 rfl (hl_v rfl rfl rfl (zat (k0 := 3) rfl (by kernel_rfl) rfl) (hl_v rfl rfl rfl (zbd rfl (by kernel_rfl) rfl (zaw 2 rfl rfl)) ?_)))))
 refine zbm rfl rfl rfl (zba (by kernel_rfl) rfl (fun w hm => zbk (packNodesL_ans (valT n st inp) n.os _ _ w ((zas 1 rfl) w hm) ((zak ((hr).ou)) w hm) (by omega) (vt_rng hok hsp inp hok.ou).1 (vt_rng hok hsp inp hok.ou).2))) ?_
 refine zad 2 rfl (zac [20, 19, 18, 17, 9, 8, 7, 6, 3, 2, 1, 0] rfl (zae (zaa ?_)))
 refine zbl ?_
 exact zde (rs := [.tmp 6, .tmp 7]) (vs := [u, .int .i64 (pk (atV (valT n st inp) n.os) n.os.length)]) (post := [rowE 3 1 u zs.length (zs.map (Value.int .i64))]) rfl ⟨rfl, rfl, trivial⟩ rfl ((.cons_cons _ (.cons _ (.cons _ .slnil)))) ⟨_, rfl, (by rw [hz, show k = n.ss.length by omega])⟩
set_option maxHeartbeats 4000000 in
set_option maxRecDepth 100000 in
theorem implLutValuesT_ret (n : Ln) (st : List Int) (v : Value) (inp : Int) (w : World) (hr : RdsLn w n) (hok : LnOk n) (hst : RdsW w v 1 st.length (st.map (Value.int .i64))) (hsp : StP n st) :
   Calls Try.prog 12 #[.agg #[.int .i64 n.ins, n.sv, n.lv, n.ov], v, .int .i64 inp] w (Ret w (fun v' post => post = [rowE 3 1 v' (valT n st inp).length ((valT n st inp).map (Value.int .i64))])) := by
 have hso := sml hr.ou
 have hss := hr.sq.small
 have hsl := hr.lt.small
 have hcnt : n.cnt = 1 + n.ins + n.ss.length + n.ls.length := rfl
 have hfst : n.fst = 1 + n.ins + n.ss.length := rfl
 obtain ⟨⟨si0, si1⟩, s2, s3, s4⟩ := hok.sz
 have hsl9 := hsp.len
 refine zbq (N := 15) (args := [.agg #[.int .i64 n.ins, n.sv, n.lv, n.ov], v, .int .i64 inp]) Try.func12 rfl rfl ?_
 refine zbt _ [2, 1, 0] rfl (zaf (zab ?_))
 refine zci rfl rfl rfl (zdd rfl rfl) ?_
 intro b1
 refine zad 1 rfl (zac [6, 3, 2, 1, 0] rfl (zae (zaa (zaf (zaf ?_)))))
 refine zab (hl_v rfl rfl rfl (zbc (cs := [.int .i64 n.ins, n.sv, n.lv, n.ov]) rfl (by kernel_rfl) (by kernel_rfl) rfl rfl (zay 0 rfl 0 rfl)) (zad 1 rfl ?_))
 refine zbm rfl rfl rfl (zba (by kernel_rfl) rfl (fun w hm => zbk (by have h9 := zet n st _ w (hr.below hm.bel) (hst.below hm.bel); rw [zfm ⟨hok, hsp⟩] at h9; exact h9))) ?_
 refine zad 1 rfl (zac [10, 6, 3, 2, 1, 0] rfl (zae (zaa (zaq rfl (zaz ?_)))))
 refine zaa (zaf (zab (hl_v rfl rfl rfl (zbc (cs := [.int .i64 n.ins, n.sv, n.lv, n.ov]) rfl (by kernel_rfl) (by kernel_rfl) rfl rfl (zay 0 rfl 0 rfl)) (zad 2 rfl ?_))))
 refine hl_q rfl rfl rfl (zba (by kernel_rfl) rfl (fun w hm => lutValues_ret n st _ inp w (hr.below hm.bel) (hst.below hm.bel) hok hsp)) ?_
 intro v2 p3 hR4
 subst hR4
 refine zad 1 rfl (zac [10, 6, 3, 2, 1, 0] rfl (zae (zaa ?_)))
 refine zbl ?_
 exact zdn (post := [rowE 3 1 v2 ((valT n st inp).length) ((valT n st inp).map (Value.int .i64))]) rfl rfl ((.cons_cons _ (.cons _ .slnil))) rfl
set_option maxHeartbeats 4000000 in
set_option maxRecDepth 100000 in
theorem LutStepT_ret (n : Ln) (st : List Int) (v : Value) (inp : Int) (w : World) (hr : RdsLn w n) (hok : LnOk n) (hst : RdsW w v 1 st.length (st.map (Value.int .i64))) (hsp : StP n st) :
   Calls Try.prog 13 #[.agg #[.int .i64 n.ins, n.sv, n.lv, n.ov], v, .int .i64 inp] w (Ret w (fun u_ p_ => ∃ nv : Value, u_ = .tuple #[nv, .int .i64 (outT n st inp)] ∧ p_ = [rowE 3 1 nv (nxT n st inp n.ss.length).length ((nxT n st inp n.ss.length).map (Value.int .i64))])) := by
 have hso := sml hr.ou
 have hss := hr.sq.small
 have hsl := hr.lt.small
 have hcnt : n.cnt = 1 + n.ins + n.ss.length + n.ls.length := rfl
 have hfst : n.fst = 1 + n.ins + n.ss.length := rfl
 obtain ⟨⟨si0, si1⟩, s2, s3, s4⟩ := hok.sz
 have hsl9 := hsp.len
 refine zbq (N := 18) (args := [.agg #[.int .i64 n.ins, n.sv, n.lv, n.ov], v, .int .i64 inp]) Try.func13 rfl rfl ?_
 refine zbt _ [2, 1, 0] rfl (zaf (zab ?_))
 refine zci rfl rfl rfl (zdd rfl rfl) ?_
 intro b1
 refine zad 2 rfl (zac [7, 6, 3, 2, 1, 0] rfl (zae (zaa (zaf (zaf ?_)))))
 refine zab (hl_v rfl rfl rfl (zbc (cs := [.int .i64 n.ins, n.sv, n.lv, n.ov]) rfl (by kernel_rfl) (by kernel_rfl) rfl rfl (zay 0 rfl 0 rfl)) (zad 1 rfl ?_))
 refine zbm rfl rfl rfl (zba (by kernel_rfl) rfl (fun w hm => zbk (by have h9 := zet n st _ w (hr.below hm.bel) (hst.below hm.bel); rw [zfm ⟨hok, hsp⟩] at h9; exact h9))) ?_
 refine zad 1 rfl (zac [11, 7, 6, 3, 2, 1, 0] rfl (zae (zaa (zaq rfl (zaz ?_)))))
 refine zaa (zaf (zab (hl_v rfl rfl rfl (zbc (cs := [.int .i64 n.ins, n.sv, n.lv, n.ov]) rfl (by kernel_rfl) (by kernel_rfl) rfl rfl (zay 0 rfl 0 rfl)) (zad 2 rfl ?_))))
 refine hl_q rfl rfl rfl (zba (by kernel_rfl) rfl (fun w hm => lutStep_ret n st _ inp w (hr.below hm.bel) hok (hst.below hm.bel) hsp)) ?_
 intro v2 p3 hR4
 obtain ⟨nv, rfl, rfl⟩ := hR4
 refine zad 4 rfl (zac [11, 7, 6, 3, 2, 1, 0] rfl (zae (zaa ?_)))
 refine zbl ?_
 exact zde (rs := [.tmp 6, .tmp 7]) (vs := [nv, .int .i64 (outT n st inp)]) (post := [rowE 3 1 nv ((nxT n st inp n.ss.length).length) ((nxT n st inp n.ss.length).map (Value.int .i64))]) rfl ⟨rfl, rfl, trivial⟩ rfl ((.cons_cons _ (.cons _ .slnil))) ⟨_, rfl, rfl⟩
set_option maxHeartbeats 4000000 in
set_option maxRecDepth 100000 in
theorem LutRunT_ret (n : Ln) (is : List Int) (v : Value) (w : World) (hr : RdsLn w n) (hok : LnOk n) (hiv : RdsW w v 1 is.length (is.map (Value.int .i64))) (hil : is.length ≤ 16) :
   Calls Try.prog 10 #[.agg #[.int .i64 n.ins, n.sv, n.lv, n.ov], v] w (Ret w (fun v' post => post = [rowE 3 1 v' ((runT n is is.length)).length (((runT n is is.length)).map (Value.int .i64))])) := by
 have hso := sml hr.ou
 have hss := hr.sq.small
 have hsl := hr.lt.small
 have hcnt : n.cnt = 1 + n.ins + n.ss.length + n.ls.length := rfl
 have hfst : n.fst = 1 + n.ins + n.ss.length := rfl
 obtain ⟨⟨si0, si1⟩, s2, s3, s4⟩ := hok.sz
 refine zbq (N := 41) (args := [.agg #[.int .i64 n.ins, n.sv, n.lv, n.ov], v]) Try.func10 rfl rfl ?_
 refine zbt _ [1, 0] rfl (zaf (zab ?_))
 refine zci rfl rfl rfl (zdd rfl rfl) ?_
 intro b1
 refine zad 1 rfl (zac [4, 2, 1, 0] rfl (zae (zaa (zaf (zaf ?_)))))
 refine zab (hl_v rfl rfl rfl (zbc (cs := [.int .i64 n.ins, n.sv, n.lv, n.ov]) rfl (by kernel_rfl) (by kernel_rfl) rfl rfl (zay 0 rfl 0 rfl)) ?_)
 refine zbm rfl rfl rfl (zba (by kernel_rfl) rfl (fun w hm => zbk (by have h9 := zex n w (hr.below hm.bel); rw [zfm hok] at h9; exact h9))) ?_
 refine zad 3 rfl (hl_v rfl rfl rfl (zbo rfl Try.underlying26 rfl (zak hiv)) ?_)
 refine zfg rfl rfl rfl rfl rfl rfl (fun h2 => ?_) (fun h2 => ?_)
 ·
  refine zad 1 rfl (zac [18, 4, 2, 1, 0] rfl (zae (zaa (zbb rfl (zaf ?_)))))
  refine zab (zad 1 rfl (zac [18, 4, 2, 1, 0] rfl (zae (zaa ?_))))
  refine zbl ?_
  refine zao ?_
  exfalso
  omega
 refine zad 1 rfl (zac [18, 4, 2, 1, 0] rfl (zae (zaa (zaq rfl (zaz ?_)))))
 refine zaa (zaf (zab (hl_v rfl rfl rfl (zbc (cs := [.int .i64 n.ins, n.sv, n.lv, n.ov]) rfl (by kernel_rfl) (by kernel_rfl) rfl rfl (zay 0 rfl 0 rfl)) ?_)))
 refine hl_q rfl rfl rfl (zba (by kernel_rfl) rfl (fun w hm => lutStart_ret n w (hr.below hm.bel) hok)) ?_
 intro v3 p4 hR5
 subst hR5
 refine zad 1 rfl (zac [18, 5, 4, 2, 1, 0] rfl (zae (zaa (zaf (zab ?_)))))
 refine hl_nilRow 3 1 ?_
 refine hl_v rfl rfl rfl (zap rfl) (zac [18, 6, 5, 4, 2, 1, 0] rfl (zae (zaa (zaf (zaf ?_)))))
 refine zab (zad 1 rfl (hl_v rfl rfl rfl (zbo rfl Try.underlying26 rfl (zak hiv)) (zad 1 rfl (zac [23, 22, 21, 18, 6, 5, 4, 2, 1, 0] rfl (zae ?_)))))
 refine zaa (zax ?_)
 refine zfh 3 [2, 1, 0] rfl rfl (by decide) ?_
 refine zdl (α := Nat) (β := Value) (γ := List Int) (δ := Value) (fun k u zs sv => [rowE 3 1 u zs.length (zs.map (Value.int .i64)), rowE 3 1 sv ((stA n is k).length) ((stA n is k).map (Value.int .i64)), boxE b1 #[.int .i64 n.ins, n.sv, n.lv, n.ov] 28]) (fun k u zs sv => [(0, .agg #[.int .i64 n.ins, n.sv, n.lv, n.ov]), (1, v), (2, .pointer (some ⟨b1, 0, none⟩)), (4, .slice none 0 0), (5, sv), (6, u), (18, .bool false), (21, v), (22, .int .i64 (is.length : Int)), (23, .int .i64 (k : Int))]) (fun k u zs sv => k ≤ is.length ∧ zs = runT n is k) (fun k u zs sv => is.length - k) 0 _ [] _ ⟨Nat.zero_le _, rfl⟩ (zan [23, 22, 21, 18, 6, 5, 4, 2, 1, 0] rfl) ((.cons_cons _ (.cons_cons _ (.cons_cons _ .slnil)))) ?_
 intro k u zs sv hi7
 obtain ⟨hk, hz⟩ := hi7
 have hzl : zs.length = k := by rw [hz]; exact runT_len n is k
 have hsk := stA_ok hok is k
 refine zaf (zab ?_)
 refine zbw rfl rfl rfl rfl rfl rfl (fun h8 => ?_) (fun h8 => ?_)
 ·
  refine zac [24, 23, 22, 21, 18, 6, 5, 4, 2, 1, 0] rfl (zae (zaa (zaf (zbb rfl (zaz ?_)))))
  refine zaa (zaf (zax (zaf (zab (hl_v rfl rfl rfl (zal (s := 1) rfl Try.underlying26 (by kernel_rfl) rfl rfl (zak hiv) (by omega) (by omega)) ?_)))))
  refine hl_v rfl rfl rfl (zam (u := .int .i64 (is.getD k 0)) rfl (by kernel_rfl) rfl (zak hiv) (zbg (show _ < is.length by omega))) (zad 1 rfl (zac [24, 23, 22, 21, 18, 8, 6, 5, 4, 2, 1, 0] rfl (zae (zaa (zaf ?_)))))
  refine zab (hl_v rfl rfl rfl (zbc (cs := [.int .i64 n.ins, n.sv, n.lv, n.ov]) rfl (by kernel_rfl) (by kernel_rfl) rfl rfl (zay 2 rfl 0 rfl)) (zad 2 rfl ?_))
  refine hl_q rfl rfl rfl (zba (by kernel_rfl) rfl (fun w hm => lutStep_ret n (stA n is k) _ (is.getD k 0) w (hr.below hm.bel) hok ((zas 1 rfl) w hm) hsk)) ?_
  intro v9 p10 hR11
  obtain ⟨nv, rfl, rfl⟩ := hR11
  refine zad 5 rfl (zac [24, 23, 22, 21, 18, 10, 9, 8, 6, 5, 4, 2, 1, 0] rfl (zae (zaa (zaf (zab ?_)))))
  refine zad 2 rfl ?_
  refine zbr rfl rfl rfl (zbe (z := .int .i64 0) (s := 1) (cs := ([outT n (stA n is k) (is.getD k 0)].map (Value.int .i64))) rfl Try.underlying26 (by kernel_rfl) (by decide) rfl (by kernel_rfl) rfl) ?_
  intro g12
  refine zco (i := 2) (z := .int .i64 0) (bytes := 8) rfl rfl rfl rfl Try.underlying26 (by kernel_rfl) (by kernel_rfl) rfl rfl rfl (zas 0 rfl) (zcd _) (by first | omega | (simp; done) | (simp; omega)) (zcb zs ([outT n (stA n is k) (is.getD k 0)])) (zcv zs ([outT n (stA n is k) (is.getD k 0)])) (fun _ => rfl) ?_
  intro v13
  refine zad 1 rfl (zac [24, 23, 22, 21, 18, 10, 9, 8, 6, 5, 4, 2, 1, 0] rfl (zae (zaa (zab (zad 2 rfl ?_)))))
  refine zac [24, 23, 22, 21, 18, 10, 9, 8, 6, 5, 4, 2, 1, 0] rfl (zae (zai (zaa (zab (hl_v rfl rfl rfl (zbj rfl rfl rfl (by constructor <;> omega)) ?_)))))
  refine zad 1 rfl (zac [24, 23, 22, 21, 18, 10, 9, 8, 6, 5, 4, 2, 1, 0] rfl (zae ?_))
  refine zbu 5 [4, 1, 2] rfl rfl (by decide) ?_
  exact zbx (k + 1) v13 (zs ++ ([outT n (stA n is k) (is.getD k 0)])) nv ⟨by omega, by rw [hz]; exact runT_step n is k⟩ (by omega) (zan [23, 22, 21, 18, 6, 5, 4, 2, 1, 0] rfl) ((.cons_cons _ (.cons_cons _ (.cons_cons _ .slnil))))
 refine zac [24, 23, 22, 21, 18, 6, 5, 4, 2, 1, 0] rfl (zae (zaa (zaf (zaq rfl ?_))))
 refine zbp ?_
 refine zah (zah ?_)
 refine zav ?_
 refine zaa (zaf (zab (zad 2 rfl (zac [24, 23, 22, 21, 18, 6, 5, 4, 2, 1, 0] rfl (zae ?_)))))
 refine zaa ?_
 refine zbl ?_
 exact zdn (post := [rowE 3 1 u zs.length (zs.map (Value.int .i64))]) rfl rfl ((.cons_cons _ (.cons _ (.cons _ .slnil)))) (by rw [hz, show k = is.length by omega])
set_option maxHeartbeats 4000000 in
set_option maxRecDepth 100000 in
theorem pickIntL_mut (g : Nat) (a : Option Addr) (len cap : Nat) (z : List Int) (v : Value) (L : List Int) (w0 : World) (l : List HP) (w : World) (hm0 : Mem w0 (curE g a len cap :: l) w) (hb : BRow .u8 w0 a len cap z) (hv : Rd w0 l v 1 L.length (L.map (Value.int .i64))) (hL : 1 ≤ L.length ∧ L.length ≤ 256) :
   Calls Try.prog 64 #[.pointer (some ⟨g, 0, none⟩), v] w (fun e_ w_ => ∃ v_ p_, e_ = .returned v_ ∧ (fun u_ p_ => (∃ x : Int, u_ = .int .i64 x ∧ x ∈ L) ∧ p_ = curE g a len cap) v_ p_ ∧ Mem w0 (p_ :: l) w_) := by
 refine zfi (N := 12) (args := [.pointer (some ⟨g, 0, none⟩), v]) Try.func64 rfl rfl hm0 ?_
 refine zbt _ [1, 0] rfl (zaf (zab (zad 1 rfl (zac [4, 1, 0] rfl (zae ?_)))))
 refine zaa (zaf (zab (zad 3 rfl ?_)))
 refine hl_v rfl rfl rfl (zbo rfl Try.underlying26 rfl (fun w hm => hv w (hm.sub (.cons _ (.refl _))))) ?_
 refine zcx (R := (fun u_ p_ => (∃ x_ : Int, u_ = .int .i64 x_ ∧ 0 ≤ x_ ∧ x_ < (L.length : Int)) ∧ p_ = curE g a len cap)) 0 rfl rfl (by kernel_rfl) rfl rfl (fun l' w hm => zct g a len cap z (L.length : Int) _ _ _ hm hb (by constructor <;> omega)) ?_
 intro v1 p2 hR3
 obtain ⟨⟨xhR3, rfl, xhR30, xhR31⟩, rfl⟩ := hR3
 refine zdw (l' := (curE g a len cap :: l)) rfl ?_
 refine hl_v rfl rfl rfl (zal (s := 1) rfl Try.underlying26 (by kernel_rfl) rfl rfl (fun w hm => hv w (hm.sub (.cons _ (.refl _)))) (by omega) (by omega)) ?_
 refine hl_v rfl rfl rfl (zam (u := .int .i64 (L.getD ((xhR3).toNat) 0)) rfl (by kernel_rfl) rfl (fun w hm => hv w (hm.sub (.cons _ (.refl _)))) (zbg (show _ < L.length by omega))) ?_
 refine zad 1 rfl (zac [4, 1, 0] rfl (zae (zaa ?_)))
 refine zbl ?_
 exact hq_ret (rs := [.tmp 4]) (vs := [.int .i64 (L.getD ((xhR3).toNat) 0)]) rfl ⟨rfl, trivial⟩ rfl (fun w hm => ⟨_, curE g a len cap, rfl, ⟨⟨_, rfl, zcp (es := L) (d := 0) (by omega)⟩, rfl⟩, hm.sub ((.cons_cons _ (.refl _)))⟩)
set_option maxHeartbeats 4000000 in
set_option maxRecDepth 100000 in
theorem l09MasksL_mut (g : Nat) (a : Option Addr) (len cap : Nat) (z : List Int) (m : Nat) (w0 : World) (l : List HP) (w : World) (hm0 : Mem w0 (curE g a len cap :: l) w) (hb : BRow .u8 w0 a len cap z) (hm12 : m ≤ 12) :
   Calls Try.prog 31 #[.pointer (some ⟨g, 0, none⟩), .int .i64 (m : Int)] w (fun e_ w_ => ∃ v_ p_, e_ = .returned v_ ∧ (fun u_ p_ => ∃ is : List Int, p_ = bigE [curE g a len cap, rowE 3 1 u_ is.length (is.map (Value.int .i64))] ∧ is.length = m) v_ p_ ∧ Mem w0 (p_ :: l) w_) := by
 refine zfi (N := 26) (args := [.pointer (some ⟨g, 0, none⟩), .int .i64 (m : Int)]) Try.func31 rfl rfl hm0 ?_
 refine zbt _ [1, 0] rfl (zaf (zab (zad 1 rfl (zac [4, 1, 0] rfl (zae ?_)))))
 refine zaa (zaf (zab ?_))
 refine zbr rfl rfl rfl (zcr (s := 1) rfl Try.underlying26 (by kernel_rfl)) ?_
 intro g1
 refine zad 1 rfl (zac [5, 4, 1, 0] rfl (zae (zaa (zaf (zaf ?_)))))
 refine zab (zad 1 rfl (zac [6, 5, 4, 1, 0] rfl (zae (zaa (zax ?_)))))
 refine zcy (α := Nat) (β := Value) (γ := List Int) (fun k u is => (rowE 3 1 u is.length (is.map (Value.int .i64)) :: curE g a len cap :: l)) (fun k u is => [(0, .pointer (some ⟨g, 0, none⟩)), (1, .int .i64 (m : Int)), (4, .slice none 0 0), (5, u), (6, .int .i64 (k : Int))]) (fun k u is => k ≤ m ∧ is.length = k) (fun k u is => m - k) 0 _ [] ⟨Nat.zero_le _, rfl⟩ (zan [6, 5, 4, 1, 0] rfl) ((.cons_cons _ (.cons_cons _ (.refl _)))) ?_
 intro k u is hi2
 obtain ⟨hk, hil⟩ := hi2
 refine zaf (zaf (zab (zad 2 rfl ?_)))
 refine zbw rfl rfl rfl rfl rfl rfl (fun h3 => ?_) (fun h3 => ?_)
 ·
  refine zac [11, 6, 5, 4, 1, 0] rfl (zae (zaa (zbb rfl (zaz (zaa ?_)))))
  refine zaf (zax (zaf (zab (zad 1 rfl ?_))))
  refine zcx (R := (fun u_ p_ => (∃ x_ : Int, u_ = .int .i64 x_ ∧ 0 ≤ x_ ∧ x_ < 256) ∧ p_ = curE g a len cap)) 1 rfl rfl (by kernel_rfl) rfl rfl (fun l' w hm => zct g a len cap z 256 _ _ _ hm hb (by constructor <;> omega)) ?_
  intro v4 p5 hR6
  obtain ⟨⟨xhR6, rfl, xhR60, xhR61⟩, rfl⟩ := hR6
  refine zdw (l' := (rowE 3 1 u is.length (is.map (Value.int .i64)) :: curE g a len cap :: l)) rfl ?_
  refine zad 1 rfl (zac [11, 7, 6, 5, 4, 1, 0] rfl (zae (zaa (zaf (zaf ?_)))))
  refine zab (zad 1 rfl ?_)
  refine zcx (R := (fun u_ p_ => (∃ b : Bool, u_ = .bool b) ∧ p_ = curE g a len cap)) 1 rfl rfl (by kernel_rfl) rfl rfl (fun l' w hm => once_mut hm hb (12) (by omega) (by omega)) ?_
  intro v7 p8 hR9
  obtain ⟨⟨xhR9, rfl⟩, rfl⟩ := hR9
  refine zdw (l' := (rowE 3 1 u is.length (is.map (Value.int .i64)) :: curE g a len cap :: l)) rfl ?_
  refine zck (fun h10 => ?_) (fun h10 => ?_)
  ·
   refine zac [17, 11, 7, 6, 5, 4, 1, 0] rfl (zae (zaa (zbb rfl (zab (zad 1 rfl ?_)))))
   refine zbr rfl rfl rfl (zbe (z := .int .i64 0) (s := 1) (cs := ([-1, 1048575, 1048576, 9223372036854775807, -9223372036854775808].map (Value.int .i64))) rfl Try.underlying26 (by kernel_rfl) (by decide) rfl (by kernel_rfl) rfl) ?_
   intro g11
   refine hl_callM2 (R := (fun u_ p_ => (∃ x : Int, u_ = .int .i64 x ∧ x ∈ [-1, 1048575, 1048576, 9223372036854775807, -9223372036854775808]) ∧ p_ = curE g a len cap)) 2 rfl rfl (by kernel_rfl) rfl rfl (fun L w hX hm => pickIntL_mut g a len cap z (.slice (some ⟨g11, 0, none⟩) 5 5) [-1, 1048575, 1048576, 9223372036854775807, -9223372036854775808] _ _ _ hm hb (fun w hm => (zas (l := (rowE 3 1 (.slice (some ⟨g11, 0, none⟩) 5 5) 5 ([-1, 1048575, 1048576, 9223372036854775807, -9223372036854775808].map (Value.int .i64)) :: rowE 3 1 u is.length (is.map (Value.int .i64)) :: l)) 0 rfl) w (hX w hm)) (by decide)) ?_
   intro v12 p13 hR14
   obtain ⟨⟨xhR14, rfl, -⟩, rfl⟩ := hR14
   refine zdw (l' := (rowE 3 1 (.slice (some ⟨g11, 0, none⟩) 5 5) 5 ([-1, 1048575, 1048576, 9223372036854775807, -9223372036854775808].map (Value.int .i64)) :: rowE 3 1 u is.length (is.map (Value.int .i64)) :: curE g a len cap :: l)) rfl ?_
   refine zad 1 rfl (zac [17, 11, 7, 6, 5, 4, 1, 0] rfl (zae (zaa (zab (zad 2 rfl ?_)))))
   refine zbr rfl rfl rfl (zbe (z := .int .i64 0) (s := 1) (cs := ([xhR14].map (Value.int .i64))) rfl Try.underlying26 (by kernel_rfl) (by decide) rfl (by kernel_rfl) rfl) ?_
   intro g15
   refine zco (i := 2) (z := .int .i64 0) (bytes := 8) rfl rfl rfl rfl Try.underlying26 (by kernel_rfl) (by kernel_rfl) rfl rfl rfl (zas 0 rfl) (zcd _) (by first | omega | (simp; done) | (simp; omega)) (zcb is ([xhR14])) (zcv is ([xhR14])) (fun _ => rfl) ?_
   intro v16
   refine zad 1 rfl (zac [17, 11, 7, 6, 5, 4, 1, 0] rfl (zae (zai (zaa (zab ?_)))))
   refine zad 1 rfl (hl_v rfl rfl rfl (zbj rfl rfl rfl (by constructor <;> omega)) (zad 1 rfl (zac [17, 11, 7, 6, 5, 4, 1, 0] rfl (zae ?_))))
   exact zce (k + 1) v16 (is ++ ([xhR14])) ⟨by omega, by rw [List.length_append, List.length_singleton]; omega⟩ (by omega) (zan [6, 5, 4, 1, 0] rfl) ((.cons _ (.cons _ (.cons_cons _ (.cons_cons _ (.refl _))))))
  refine zac [17, 11, 7, 6, 5, 4, 1, 0] rfl (zae (zaa (zaq rfl (zaz (zaa ?_)))))
  refine zab (zad 2 rfl ?_)
  refine zbr rfl rfl rfl (zbe (z := .int .i64 0) (s := 1) (cs := ([xhR6].map (Value.int .i64))) rfl Try.underlying26 (by kernel_rfl) (by decide) rfl (by kernel_rfl) rfl) ?_
  intro g17
  refine zco (i := 1) (z := .int .i64 0) (bytes := 8) rfl rfl rfl rfl Try.underlying26 (by kernel_rfl) (by kernel_rfl) rfl rfl rfl (zas 0 rfl) (zcd _) (by first | omega | (simp; done) | (simp; omega)) (zcb is ([xhR6])) (zcv is ([xhR6])) (fun _ => rfl) ?_
  intro v18
  refine zad 1 rfl (zac [17, 11, 7, 6, 5, 4, 1, 0] rfl (zae (zai (zaa (zab ?_)))))
  refine zad 1 rfl (hl_v rfl rfl rfl (zbj rfl rfl rfl (by constructor <;> omega)) (zad 1 rfl (zac [17, 11, 7, 6, 5, 4, 1, 0] rfl (zae ?_))))
  exact zce (k + 1) v18 (is ++ ([xhR6])) ⟨by omega, by rw [List.length_append, List.length_singleton]; omega⟩ (by omega) (zan [6, 5, 4, 1, 0] rfl) ((.cons _ (.cons_cons _ (.cons_cons _ (.refl _)))))
 refine zac [11, 6, 5, 4, 1, 0] rfl (zae (zaa (zaq rfl ?_)))
 refine zbp ?_
 refine zah (zah ?_)
 refine zav ?_
 refine zaa (zaf (zab (zad 2 rfl (zac [11, 6, 5, 4, 1, 0] rfl (zae ?_)))))
 refine zaa ?_
 refine zbl ?_
 refine zbu 2 [0, 1] rfl rfl (by decide) ?_
 refine zcz 2 rfl ?_
 exact hq_ret (rs := [.tmp 4]) (vs := [u]) rfl ⟨rfl, trivial⟩ rfl (fun w hm => ⟨_, bigE [curE g a len cap, rowE 3 1 u is.length (is.map (Value.int .i64))], rfl, ⟨is, rfl, by omega⟩, hm.sub ((.cons_cons _ (.refl _)))⟩)
set_option maxHeartbeats 4000000 in
set_option maxRecDepth 100000 in
theorem DrawMasksL_ret (a : Option Addr) (len cap : Nat) (z : List Int) (w : World) (hb : BRow .u8 w a len cap z) (hlen : len ≤ 1048576) :
   Calls Try.prog 9 #[.slice a len cap] w (Ret w (fun u_ p_ => ∃ is : List Int, p_ = [rowE 3 1 u_ is.length (is.map (Value.int .i64))] ∧ is.length ≤ 12)) := by
 refine zbq (N := 11) (args := [.slice a len cap]) Try.func9 rfl rfl ?_
 refine zbt _ [0] rfl (zaf (zab (zad 1 rfl (zac [2, 0] rfl (zae ?_)))))
 refine zaa (zaf (zab (zad 1 rfl ?_)))
 refine hl_q rfl rfl rfl (zba (by kernel_rfl) rfl (fun w hm => new_ret (hb.below hm.bel) hlen)) ?_
 intro v1 p2 hR3
 obtain ⟨ghR3, rfl, rfl⟩ := hR3
 refine zad 1 rfl (zac [3, 2, 0] rfl (zae (zaa (zaf (zab ?_)))))
 refine zad 2 rfl ?_
 refine zcx (R := (fun u_ p_ => (∃ x_ : Int, u_ = .int .i64 x_ ∧ 0 ≤ x_ ∧ x_ < 12) ∧ p_ = curE ghR3 a len cap)) 0 rfl rfl (by kernel_rfl) rfl rfl (fun l' w hm => zct ghR3 a len cap z 12 _ _ _ hm hb (by constructor <;> omega)) ?_
 intro v4 p5 hR6
 obtain ⟨⟨xhR6, rfl, xhR60, xhR61⟩, rfl⟩ := hR6
 refine zdw (l' := [curE ghR3 a len cap]) rfl ?_
 refine hl_v rfl rfl rfl (zbj rfl rfl rfl (by constructor <;> omega)) ?_
 refine zcx (R := (fun u_ p_ => ∃ is : List Int, p_ = bigE [curE ghR3 a len cap, rowE 3 1 u_ is.length (is.map (Value.int .i64))] ∧ is.length = (1 + xhR6).toNat)) 0 rfl rfl (by kernel_rfl) rfl rfl (fun l' w hm => (by have h9 := l09MasksL_mut ghR3 a len cap z (1 + xhR6).toNat _ _ _ hm hb (by omega); rw [Int.toNat_of_nonneg (by omega)] at h9; exact h9)) ?_
 intro v7 p8 hR9
 obtain ⟨is, rfl, hil⟩ := hR9
 refine zdw (l' := [bigE [curE ghR3 a len cap, rowE 3 1 v7 is.length (is.map (Value.int .i64))]]) rfl ?_
 refine zad 1 rfl (zac [3, 2, 0] rfl (zae (zaa ?_)))
 refine zbl ?_
 refine zbu 1 [0] rfl rfl (by decide) ?_
 refine hq_conv [curE ghR3 a len cap, rowE 3 1 v7 is.length (is.map (Value.int .i64))] zft ?_
 exact zde (rs := [.tmp 2]) (vs := [v7]) (post := [rowE 3 1 v7 is.length (is.map (Value.int .i64))]) rfl ⟨rfl, trivial⟩ rfl ((.cons _ (.cons_cons _ .slnil))) ⟨is, rfl, by omega⟩
set_option maxHeartbeats 4000000 in
set_option maxRecDepth 100000 in
theorem DrawLuts_ret (a : Option Addr) (len cap : Nat) (z : List Int) (w : World) (hb : BRow .u8 w a len cap z) (hlen : len ≤ 1048576) :
   Calls Try.prog 8 #[.slice a len cap] w (Ret w (fun u_ p_ => ∃ (ps : List HP) (m : Ln) (sv : Value), u_ = .tuple #[m.agg, sv] ∧ p_ = [bigE ps] ∧ (∀ w, (bigE ps).holds w → RdsLn w m) ∧ (m.sv.oneCell' = true ∧ m.lv.oneCell' = true ∧ m.ov.oneCell' = true) ∧ LnOk m)) := by
 refine zbq (N := 35) (args := [.slice a len cap]) Try.func8 rfl rfl ?_
 refine zbt _ [0] rfl (zaf (zab ?_))
 refine zci rfl rfl rfl (zcj (z := .agg #[.int .i64 0, .slice none 0 0, .slice none 0 0, .slice none 0 0]) rfl (by kernel_rfl)) ?_
 intro b1
 refine zad 1 rfl (zac [3, 2, 0] rfl (zae (zaa (zaf (zab ?_)))))
 refine zad 1 rfl ?_
 refine hl_q rfl rfl rfl (zba (by kernel_rfl) rfl (fun w hm => new_ret (hb.below hm.bel) hlen)) ?_
 intro v2 p3 hR4
 obtain ⟨ghR4, rfl, rfl⟩ := hR4
 refine zad 1 rfl (zac [4, 3, 2, 0] rfl (zae (zaa (zaf (zab ?_)))))
 refine zad 1 rfl ?_
 refine zcx (R := (fun u_ p_ => ∃ (ps : List HP) (m : Ln), u_ = m.agg ∧ p_ = bigE [curE ghR4 a len cap, bigE ps] ∧ (∀ w, (bigE ps).holds w → RdsLn w m) ∧ (m.sv.oneCell' = true ∧ m.lv.oneCell' = true ∧ m.ov.oneCell' = true) ∧ LnOk m)) 0 rfl rfl (by kernel_rfl) rfl rfl (fun l' w hm => l20Net_mut ghR4 a len cap z _ _ _ hm hb) ?_
 intro v5 p6 hR7
 obtain ⟨ps, m, rfl, rfl, hps, ⟨o1m, o2m, o3m⟩, hok⟩ := hR7
 refine zdw (l' := [bigE [curE ghR4 a len cap, bigE ps], boxE b1 #[.int .i64 0, .slice none 0 0, .slice none 0 0, .slice none 0 0] 28]) rfl ?_
 refine zci rfl rfl rfl (zcj (z := .agg #[.int .i64 0, .slice none 0 0, .slice none 0 0, .slice none 0 0]) rfl (by kernel_rfl)) ?_
 intro b8
 refine zcn (cs' := #[.int .i64 m.ins, m.sv, m.lv, m.ov]) (i := 0) (off := 0) (us := [.int .i64 m.ins, m.sv, m.lv, m.ov]) rfl rfl rfl (by kernel_rfl) rfl rfl rfl (zar rfl (zar o1m (zar o2m (zar o3m zby)))) rfl rfl rfl ?_
 refine zac [5, 4, 3, 2, 0] rfl (zae (zaa (zaf (zab ?_))))
 refine hl_pick 3 [2, 0, 1] rfl rfl (by decide) ?_
 refine hl_conv [curE ghR4 a len cap, bigE ps, boxE b8 #[.int .i64 m.ins, m.sv, m.lv, m.ov] 28, boxE b1 #[.int .i64 0, .slice none 0 0, .slice none 0 0, .slice none 0 0] 28] zft ?_
 have hcnt : m.cnt = 1 + m.ins + m.ss.length + m.ls.length := rfl
 have hfst : m.fst = 1 + m.ins + m.ss.length := rfl
 obtain ⟨⟨si0, si1⟩, s2, s3, s4⟩ := hok.sz
 refine zbr rfl rfl rfl (zcr (s := 1) rfl Try.underlying26 (by kernel_rfl)) ?_
 intro g9
 refine zad 1 rfl (zac [6, 5, 4, 3, 2, 0] rfl (zae (zaa (zaf (zaf ?_)))))
 refine zab (zad 1 rfl (zac [7, 6, 5, 4, 3, 2, 0] rfl (zae (zaa (zax ?_)))))
 refine zcy (α := Nat) (β := Value) (γ := List Int) (fun k u is => [rowE 3 1 u is.length (is.map (Value.int .i64)), curE ghR4 a len cap, bigE ps, boxE b8 #[.int .i64 m.ins, m.sv, m.lv, m.ov] 28, boxE b1 #[.int .i64 0, .slice none 0 0, .slice none 0 0, .slice none 0 0] 28]) (fun k u is => [(0, .slice a len cap), (2, .pointer (some ⟨b1, 0, none⟩)), (3, .slice none 0 0), (4, .pointer (some ⟨ghR4, 0, none⟩)), (5, .pointer (some ⟨b8, 0, none⟩)), (6, u), (7, .int .i64 (k : Int))]) (fun k u is => k ≤ m.ss.length ∧ is.length = k) (fun k u is => m.ss.length - k) 0 _ [] ⟨Nat.zero_le _, rfl⟩ (zan [7, 6, 5, 4, 3, 2, 0] rfl) ((.cons_cons _ (.cons_cons _ (.cons_cons _ (.cons_cons _ (.cons_cons _ .slnil)))))) ?_
 intro k u is hi10
 obtain ⟨hk, hil⟩ := hi10
 refine zaf (zaf (zab (zad 1 rfl (hl_v rfl rfl rfl (zat (k0 := 1) rfl (by kernel_rfl) rfl) (hl_v rfl rfl rfl (zbd rfl (by kernel_rfl) rfl (zaw 3 rfl rfl)) ?_)))))
 refine hl_v rfl rfl rfl (zbo rfl Try.underlying24 rfl (fun w hm => (hps w (hm.holds _ (zcl (i := 2) rfl))).sq.row)) ?_
 refine zbw rfl rfl rfl rfl rfl rfl (fun h11 => ?_) (fun h11 => ?_)
 ·
  refine zac [17, 7, 6, 5, 4, 3, 2, 0] rfl (zae (zaa (zbb rfl (zaz (zaa ?_)))))
  refine zaf (zax (zab ?_))
  have hkd := (sq_len (hok.sq k (by omega)).1).2
  refine hl_v rfl rfl rfl (zap rfl) (zad 1 rfl (hl_v rfl rfl rfl (zat (k0 := 1) rfl (by kernel_rfl) rfl) (hl_v rfl rfl rfl (zbd rfl (by kernel_rfl) rfl (zaw 3 rfl rfl)) (zad 1 rfl ?_))))
  refine hl_v rfl rfl rfl (zal (s := 3) rfl Try.underlying24 (by kernel_rfl) rfl rfl (fun w hm => (hps w (hm.holds _ (zcl (i := 2) rfl))).sq.row) (by omega) (by omega)) ?_
  refine hl_v rfl rfl rfl (zcm (k0 := 0) rfl (by kernel_rfl) rfl (fun w hm => (hps w (hm.holds _ (zcl (i := 2) rfl))).sq.row) (by omega)) ?_
  refine hl_v rfl rfl rfl (zam (u := .int .i64 ((m.ss.getD k sq0).kd)) rfl (by kernel_rfl) rfl (fun w hm => (hps w (hm.holds _ (zcl (i := 2) rfl))).sq.row) ((zdf sqC 3 (fun _ => rfl) m.ss sq0 (show k < _ by omega) (by decide)).trans rfl)) ?_
  refine hl_v rfl rfl rfl (zeq rfl rfl rfl (by constructor <;> omega)) (hl_v rfl rfl rfl (zbj rfl rfl rfl (by constructor <;> omega)) ?_)
  refine zcx (R := (fun u_ p_ => (∃ x_ : Int, u_ = .int .i64 x_ ∧ 0 ≤ x_ ∧ x_ < 2 + (30 * ((m.ss.getD k sq0).kd))) ∧ p_ = curE ghR4 a len cap)) 1 rfl rfl (by kernel_rfl) rfl rfl (fun l' w hm => zct ghR4 a len cap z (2 + (30 * ((m.ss.getD k sq0).kd))) _ _ _ hm hb (by constructor <;> omega)) ?_
  intro v12 p13 hR14
  obtain ⟨⟨xhR14, rfl, xhR140, xhR141⟩, rfl⟩ := hR14
  refine zdw (l' := [rowE 3 1 u is.length (is.map (Value.int .i64)), curE ghR4 a len cap, bigE ps, boxE b8 #[.int .i64 m.ins, m.sv, m.lv, m.ov] 28, boxE b1 #[.int .i64 0, .slice none 0 0, .slice none 0 0, .slice none 0 0] 28]) rfl ?_
  refine zbr rfl rfl rfl (zbe (z := .int .i64 0) (s := 1) (cs := ([xhR14].map (Value.int .i64))) rfl Try.underlying26 (by kernel_rfl) (by decide) rfl (by kernel_rfl) rfl) ?_
  intro g15
  refine zco (i := 1) (z := .int .i64 0) (bytes := 8) rfl rfl rfl rfl Try.underlying26 (by kernel_rfl) (by kernel_rfl) rfl rfl rfl (zas 0 rfl) (zcd _) (by first | omega | (simp; done) | (simp; omega)) (zcb is ([xhR14])) (zcv is ([xhR14])) (fun _ => rfl) ?_
  intro v16
  refine zad 1 rfl (zac [17, 7, 6, 5, 4, 3, 2, 0] rfl (zae (zai (zaa (zab ?_)))))
  refine zad 1 rfl (hl_v rfl rfl rfl (zbj rfl rfl rfl (by constructor <;> omega)) (zad 1 rfl (zac [17, 7, 6, 5, 4, 3, 2, 0] rfl (zae ?_))))
  exact zce (k + 1) v16 (is ++ ([xhR14])) ⟨by omega, by rw [List.length_append, List.length_singleton]; omega⟩ (by omega) (zan [7, 6, 5, 4, 3, 2, 0] rfl) ((.cons _ (.cons_cons _ (.cons_cons _ (.cons_cons _ (.cons_cons _ (.cons_cons _ .slnil)))))))
 refine zac [17, 7, 6, 5, 4, 3, 2, 0] rfl (zae (zaa (zaq rfl ?_)))
 refine zbp ?_
 refine zah (zah ?_)
 refine zav ?_
 refine zaa (zaf (zab (hl_v rfl rfl rfl (zbc (cs := [.int .i64 m.ins, m.sv, m.lv, m.ov]) rfl (by kernel_rfl) (by kernel_rfl) rfl rfl (zay 3 rfl 0 rfl)) (zad 1 rfl ?_))))
 refine zcn (cs' := #[.int .i64 m.ins, m.sv, m.lv, m.ov]) (i := 4) (off := 0) (us := [.int .i64 m.ins, m.sv, m.lv, m.ov]) rfl rfl rfl (by kernel_rfl) rfl rfl rfl (zar rfl (zar o1m (zar o2m (zar o3m zby)))) rfl rfl rfl ?_
 refine zad 1 rfl (zac [17, 7, 6, 5, 4, 3, 2, 0] rfl (zae (zaa ?_)))
 refine zbl ?_
 exact zde (rs := [.cell 2 28, .tmp 3]) (vs := [.agg #[.int .i64 m.ins, m.sv, m.lv, m.ov], u]) (post := [bigE ps]) rfl ⟨⟨b1, 0, [.int .i64 m.ins, m.sv, m.lv, m.ov], rfl, rfl, by kernel_rfl, by kernel_rfl, zay 4 rfl 0 rfl⟩, rfl, trivial⟩ rfl ((.cons _ (.cons _ (.cons_cons _ (.cons _ (.cons _ .slnil)))))) ⟨ps, m, _, rfl, rfl, hps, ⟨o1m, o2m, o3m⟩, hok⟩
open Go.RowKit
set_option maxHeartbeats 4000000 in
set_option maxRecDepth 100000 in
theorem lawsGetT_ans (xs : List Int) (x : Int) (v : Value) (w : World) (hv : RdsW w v 1 xs.length (xs.map (Value.int .i64))) (hlen : xs.length ≤ 1000000000) :
   Calls Try.prog 14 #[v, .int .i64 x] w (Ans w (.int .i64 (getI xs x))) := by
 refine zbq (N := 17) (args := [v, .int .i64 x]) Try.func14 rfl rfl ?_
 refine zbt _ [1, 0] rfl (zaf (zab (zad 1 rfl (zac [4, 1, 0] rfl (zae ?_)))))
 refine zaa (zaf (zaf (zab (zad 1 rfl ?_))))
 refine zbw rfl rfl rfl rfl rfl rfl (fun h1 => ?_) (fun h1 => ?_)
 ·
  refine zad 3 rfl (zbi rfl rfl rfl (zbi rfl rfl rfl (zad 1 rfl (zac [12, 4, 1, 0] rfl (zae ?_)))))
  refine zaa (zbb rfl (zaf (zab (zad 1 rfl (zac [12, 4, 1, 0] rfl ?_)))))
  refine zae (zaa ?_)
  refine zbl ?_
  refine zao ?_
  exact zch rfl rfl (by unfold getI; rw [if_neg (by omega)])
 refine zad 3 rfl (hl_v rfl rfl rfl (zbo rfl Try.underlying26 rfl (zak hv)) ?_)
 refine zey rfl rfl rfl rfl rfl rfl (fun h2 => ?_) (fun h2 => ?_)
 ·
  refine zad 1 rfl (zac [12, 4, 1, 0] rfl (zae (zaa (zbb rfl (zaf ?_)))))
  refine zab (zad 1 rfl (zac [12, 4, 1, 0] rfl (zae (zaa ?_))))
  refine zbl ?_
  refine zao ?_
  exact zch rfl rfl (by unfold getI; rw [if_neg (by omega)])
 refine zad 1 rfl (zac [12, 4, 1, 0] rfl (zae (zaa (zaq rfl (zaz ?_)))))
 refine zaa (zaf (zab (zad 2 rfl (hl_v rfl rfl rfl (zal (s := 1) rfl Try.underlying26 (by kernel_rfl) rfl rfl (zak hv) (by omega) (by omega)) (hl_v rfl rfl rfl (zam (u := .int .i64 (xs.getD ((x).toNat) 0)) rfl (by kernel_rfl) rfl (zak hv) (zbg (show _ < xs.length by omega))) ?_)))))
 refine zad 1 rfl (zac [12, 4, 1, 0] rfl (zae (zaa ?_)))
 refine zbl ?_
 exact zch rfl rfl (by unfold getI; rw [if_pos (by omega)])
set_option maxHeartbeats 4000000 in
set_option maxRecDepth 100000 in
theorem walk_FnLutSteps (a0 : Option Addr) (len0 cap0 : Nat) (z0 : List Int) (w : World) (hbr : BRow .u8 w a0 len0 cap0 z0) :
   Calls Try.prog 3 #[.slice a0 len0 cap0] w (Ans w (.bool true)) := by
 refine zbq (N := 114) (args := [.slice a0 len0 cap0]) Try.func3 rfl rfl ?_
 refine zbt _ [0] rfl (zaf (zab (zad 1 rfl (zac [2, 0] rfl (zae ?_)))))
 refine zaa (zaf (zaf (zab (zad 1 rfl ?_))))
 refine zbm rfl rfl rfl (zba (by kernel_rfl) rfl (fun w hm => zbk (ans_of (big_any a0 len0 cap0 w (hbr.len_le))))) ?_
 refine zck (fun h1 => ?_) (fun h1 => ?_)
 ·
  have h1p := of_decide_eq_true h1
  refine zac [16, 2, 0] rfl (zae (zaa (zbb rfl (zaf (zab ?_)))))
  refine zad 1 rfl (zac [16, 2, 0] rfl (zae (zaa ?_)))
  refine zbl ?_
  refine zao ?_
  exact zch rfl rfl rfl
 have h1p := of_decide_eq_false h1
 refine zac [16, 2, 0] rfl (zae (zaa (zaq rfl (zaz (zaa ?_)))))
 refine zaf (zab (zad 1 rfl ?_))
 refine hl_q rfl rfl rfl (zba (by kernel_rfl) rfl (fun w hm => DrawLuts_ret _ _ _ z0 w (hbr.below hm.bel) (by omega))) ?_
 intro v2 p3 hR4
 obtain ⟨ps, m, sv, rfl, rfl, hps, ⟨o1m, o2m, o3m⟩, hok⟩ := hR4
 have hcnt : m.cnt = 1 + m.ins + m.ss.length + m.ls.length := rfl
 have hfst : m.fst = 1 + m.ins + m.ss.length := rfl
 obtain ⟨⟨si0, si1⟩, s2, s3, s4⟩ := hok.sz
 refine zad 3 rfl ?_
 refine zci rfl rfl rfl (zcj (z := .agg #[.int .i64 0, .slice none 0 0, .slice none 0 0, .slice none 0 0]) rfl (by kernel_rfl)) ?_
 intro b5
 refine zcn (cs' := #[.int .i64 m.ins, m.sv, m.lv, m.ov]) (i := 0) (off := 0) (us := [.int .i64 m.ins, m.sv, m.lv, m.ov]) rfl rfl rfl (by kernel_rfl) rfl rfl rfl (zar rfl (zar o1m (zar o2m (zar o3m zby)))) rfl rfl rfl ?_
 refine zad 1 rfl (zac [16, 3, 2, 0] rfl (zae (zaa (zaf (zab ?_)))))
 refine zad 1 rfl ?_
 refine hl_q rfl rfl rfl (zba (by kernel_rfl) rfl (fun w hm => DrawMasksL_ret _ _ _ z0 w (hbr.below hm.bel) (by omega))) ?_
 intro v6 p7 hR8
 obtain ⟨is, rfl, hil⟩ := hR8
 refine zad 1 rfl (zac [16, 5, 3, 2, 0] rfl (zae (zaa (zaf (zab ?_)))))
 refine hl_v rfl rfl rfl (zbc (cs := [.int .i64 m.ins, m.sv, m.lv, m.ov]) rfl (by kernel_rfl) (by kernel_rfl) rfl rfl (zay 1 rfl 0 rfl)) (zad 1 rfl ?_)
 refine hl_q rfl rfl rfl (zba (by kernel_rfl) rfl (fun w hm => LutRunT_ret m is _ w (hps w (hm.holds _ (zcl (i := 2) rfl))) hok ((zas 0 rfl) w hm) (by omega))) ?_
 intro v9 p10 hR11
 subst hR11
 refine zad 1 rfl (zac [16, 6, 5, 3, 2, 0] rfl (zae (zaa (zaf (zaf ?_)))))
 refine zab ?_
 have hrl9 := runT_len m is is.length
 refine hl_v rfl rfl rfl (zap rfl) (hl_v rfl rfl rfl (zbo rfl Try.underlying26 rfl (zas 0 rfl)) (zad 1 rfl (hl_v rfl rfl rfl (zbo rfl Try.underlying26 rfl (zas 1 rfl)) ?_)))
 refine hl_neq rfl rfl rfl rfl rfl rfl (fun h12 => ?_) (fun h12 => ?_)
 ·
  refine zad 1 rfl (zbi rfl rfl rfl (zbi rfl rfl rfl (zad 2 rfl (zac [36, 16, 6, 5, 3, 2, 0] rfl (zae ?_)))))
  refine zaa (zbb rfl (zaf (zab (zad 1 rfl (zac [36, 16, 6, 5, 3, 2, 0] rfl ?_)))))
  refine zae (zaa ?_)
  refine zbl ?_
  refine zao ?_
  exfalso
  omega
 refine zad 1 rfl (hl_v rfl rfl rfl (zbc (cs := [.int .i64 m.ins, m.sv, m.lv, m.ov]) rfl (by kernel_rfl) (by kernel_rfl) rfl rfl (zay 2 rfl 0 rfl)) ?_)
 refine zbm rfl rfl rfl (zba (by kernel_rfl) rfl (fun w hm => zbk (by have h9 := zex m w (hps w (hm.holds _ (zcl (i := 3) rfl))); rw [zfm hok] at h9; exact h9))) ?_
 refine zad 2 rfl (zac [36, 16, 6, 5, 3, 2, 0] rfl (zae (zaa (zaq rfl (zaz ?_)))))
 refine zaa (zaf (zab ?_))
 refine zbr rfl rfl rfl (zcr (s := 1) rfl Try.underlying26 (by kernel_rfl)) ?_
 intro g13
 refine zad 1 rfl (zac [36, 16, 7, 6, 5, 3, 2, 0] rfl (zae (zaa (zaf (zaf ?_)))))
 refine zab (zad 1 rfl (zac [36, 16, 8, 7, 6, 5, 3, 2, 0] rfl (zae (zaa (zax ?_)))))
 refine zcy (α := Nat) (β := Value) (γ := List Int) (fun k u zs => [rowE 3 1 u zs.length (zs.map (Value.int .i64)), rowE 3 1 v9 ((runT m is is.length).length) ((runT m is is.length).map (Value.int .i64)), rowE 3 1 v6 is.length (is.map (Value.int .i64)), boxE b5 #[.int .i64 m.ins, m.sv, m.lv, m.ov] 28, bigE ps]) (fun k u zs => [(0, .slice a0 len0 cap0), (2, .bool false), (3, .pointer (some ⟨b5, 0, none⟩)), (5, v6), (6, v9), (7, u), (8, .int .i64 (k : Int)), (16, .bool false), (36, .bool false)]) (fun k u zs => k ≤ m.ss.length ∧ zs = itL m k) (fun k u zs => m.ss.length - k) 0 _ [] ⟨Nat.zero_le _, rfl⟩ (zan [36, 16, 8, 7, 6, 5, 3, 2, 0] rfl) ((.cons_cons _ (.cons_cons _ (.cons_cons _ (.cons_cons _ (.cons_cons _ .slnil)))))) ?_
 intro k u zs hi14
 obtain ⟨hk, hz⟩ := hi14
 have hzl : zs.length = k := by rw [hz]; exact itL_len m hk
 refine zaf (zaf (zab (zad 1 rfl (hl_v rfl rfl rfl (zat (k0 := 1) rfl (by kernel_rfl) rfl) (hl_v rfl rfl rfl (zbd rfl (by kernel_rfl) rfl (zaw 3 rfl rfl)) ?_)))))
 refine hl_v rfl rfl rfl (zbo rfl Try.underlying24 rfl (fun w hm => (hps w (hm.holds _ (zcl (i := 4) rfl))).sq.row)) ?_
 refine zbw rfl rfl rfl rfl rfl rfl (fun h15 => ?_) (fun h15 => ?_)
 ·
  refine zac [42, 36, 16, 8, 7, 6, 5, 3, 2, 0] rfl (zae (zaa (zbb rfl (zaz (zaa ?_)))))
  refine zaf (zax (zab (zad 1 rfl (hl_v rfl rfl rfl (zat (k0 := 1) rfl (by kernel_rfl) rfl) (hl_v rfl rfl rfl (zbd rfl (by kernel_rfl) rfl (zaw 3 rfl rfl)) ?_)))))
  refine zad 1 rfl ?_
  refine hl_v rfl rfl rfl (zal (s := 3) rfl Try.underlying24 (by kernel_rfl) rfl rfl (fun w hm => (hps w (hm.holds _ (zcl (i := 4) rfl))).sq.row) (by omega) (by omega)) ?_
  refine hl_v rfl rfl rfl (zcm (k0 := 1) rfl (by kernel_rfl) rfl (fun w hm => (hps w (hm.holds _ (zcl (i := 4) rfl))).sq.row) (by omega)) ?_
  refine hl_v rfl rfl rfl (zam (u := .int .i64 ((m.ss.getD k sq0).it)) rfl (by kernel_rfl) rfl (fun w hm => (hps w (hm.holds _ (zcl (i := 4) rfl))).sq.row) ((zdf sqC 3 (fun _ => rfl) m.ss sq0 (show k < _ by omega) (by decide)).trans rfl)) ?_
  refine zbr rfl rfl rfl (zbe (z := .int .i64 0) (s := 1) (cs := ([(m.ss.getD k sq0).it].map (Value.int .i64))) rfl Try.underlying26 (by kernel_rfl) (by decide) rfl (by kernel_rfl) rfl) ?_
  intro g16
  refine zco (i := 1) (z := .int .i64 0) (bytes := 8) rfl rfl rfl rfl Try.underlying26 (by kernel_rfl) (by kernel_rfl) rfl rfl rfl (zas 0 rfl) (zcd _) (by first | omega | (simp; done) | (simp; omega)) (zcb zs ([(m.ss.getD k sq0).it])) (zcv zs ([(m.ss.getD k sq0).it])) (fun _ => rfl) ?_
  intro v17
  refine zad 1 rfl (zac [42, 36, 16, 8, 7, 6, 5, 3, 2, 0] rfl (zae (zai (zaa (zab ?_)))))
  refine zad 1 rfl (hl_v rfl rfl rfl (zbj rfl rfl rfl (by constructor <;> omega)) (zad 1 rfl (zac [42, 36, 16, 8, 7, 6, 5, 3, 2, 0] rfl (zae ?_))))
  exact zce (k + 1) v17 (zs ++ ([(m.ss.getD k sq0).it])) ⟨by omega, by rw [hz]; exact itL_step m (by omega)⟩ (by omega) (zan [36, 16, 8, 7, 6, 5, 3, 2, 0] rfl) ((.cons _ (.cons_cons _ (.cons_cons _ (.cons_cons _ (.cons_cons _ (.cons_cons _ .slnil)))))))
 refine zac [42, 36, 16, 8, 7, 6, 5, 3, 2, 0] rfl (zae (zaa (zaq rfl ?_)))
 refine zbp ?_
 refine zah (zah ?_)
 refine zav ?_
 refine zaa (zaf (zaf (zab (zad 1 rfl (zac [42, 36, 16, 9, 8, 7, 6, 5, 3, 2, 0] rfl ?_)))))
 refine zae (zaa (zax ?_))
 have hz0 : zs = stA m is 0 := by rw [hz, show k = m.ss.length by omega]; rfl
 clear hz hzl
 subst hz0
 refine zdt (α := Nat) (β := Value) (fun k u => [rowE 3 1 u ((stA m is k).length) ((stA m is k).map (Value.int .i64)), rowE 3 1 v9 ((runT m is is.length).length) ((runT m is is.length).map (Value.int .i64)), rowE 3 1 v6 is.length (is.map (Value.int .i64)), boxE b5 #[.int .i64 m.ins, m.sv, m.lv, m.ov] 28, bigE ps]) (fun k u => [(0, .slice a0 len0 cap0), (2, .bool false), (3, .pointer (some ⟨b5, 0, none⟩)), (5, v6), (6, v9), (7, u), (9, .int .i64 (k : Int)), (16, .bool false), (36, .bool false), (42, .bool false)]) (fun k u => k ≤ is.length) (fun k u => is.length - k) 0 _ (Nat.zero_le _) (zan [42, 36, 16, 9, 7, 6, 5, 3, 2, 0] rfl) ((.cons_cons _ (.cons_cons _ (.cons_cons _ (.cons_cons _ (.cons_cons _ .slnil)))))) ?_
 intro k u hi18
 have hk := hi18
 have hsk := stA_ok hok is k
 have hvl := vt_len hok hsk (is.getD k 0)
 have hvl2 : (((valT m (stA m is k) (is.getD k 0))).length : Int) = m.cnt := hvl
 have hsl := hsk.len
 refine zaf (zaf (zab (zad 2 rfl (hl_v rfl rfl rfl (zbo rfl Try.underlying26 rfl (zas 2 rfl)) ?_))))
 refine zbw rfl rfl rfl rfl rfl rfl (fun h19 => ?_) (fun h19 => ?_)
 ·
  refine zac [57, 42, 36, 16, 9, 7, 6, 5, 3, 2, 0] rfl (zae (zaa (zbb rfl (zaz (zaa ?_)))))
  refine zaf (zax (zaf ?_))
  refine zdj (by kernel_rfl) 7 [0, 1, 2, 3, 4, 5, 6] (List.take 7 _) (List.drop 7 _) [[], [], [], [], [2, 3], [4], [0, 1, 5]] [60, 61, 62, 63, 64, 65, 66] (fun i_ vs_ v_ p_ => match i_ with | 0 => v_ = .agg #[.int .i64 m.ins, m.sv, m.lv, m.ov] ∧ p_ = [] | 1 => v_ = u ∧ p_ = [] | 2 => v_ = v6 ∧ p_ = [] | 3 => v_ = .int .i64 (k : Int) ∧ p_ = [] | 4 => v_ = elP v6 (((k : Int)).toNat * 1) ∧ p_ = [] | 5 => v_ = .int .i64 (is.getD k 0) ∧ p_ = [] | 6 => (fun v' post => post = [rowE 3 1 v' ((valT m (stA m is k) (is.getD k 0))).length (((valT m (stA m is k) (is.getD k 0))).map (Value.int .i64))]) v_ p_ | _ => True) (List.take_append_drop 7 _).symm (by kernel_rfl) (by kernel_rfl) rfl rfl ?_ ?_
  ·
   refine ⟨?_, ?_, ?_, ?_, ?_, ?_, ?_, trivial⟩
   ·
    intro vf pf hR
    refine Or.inl ⟨rfl, ?_⟩
    refine zau (sk 3 rfl (zag _)) (List.sublist_append_right _ _) ?_
    exact rq_v (zbc (cs := [.int .i64 m.ins, m.sv, m.lv, m.ov]) rfl (by kernel_rfl) (by kernel_rfl) rfl rfl (zay 3 rfl 0 rfl))
   ·
    intro vf pf hR
    refine Or.inl ⟨rfl, ?_⟩
    refine zbh (sk 7 rfl (zag _)) ?_
    exact rq_v (zap rfl)
   ·
    intro vf pf hR
    refine Or.inl ⟨rfl, ?_⟩
    refine zbh (sk 5 rfl (zag _)) ?_
    exact rq_v (zap rfl)
   ·
    intro vf pf hR
    refine Or.inl ⟨rfl, ?_⟩
    refine zbh (sk 9 rfl (zag _)) ?_
    exact rq_v (zap rfl)
   ·
    intro vf pf hR
    have e2 : (vf 2) = v6 ∧ (pf 2) = [] := hR 2 (by decide)
    have e3 : (vf 3) = .int .i64 (k : Int) ∧ (pf 3) = [] := hR 3 (by decide)
    refine Or.inl ⟨rfl, ?_⟩
    refine zau (sk 62 (congrArg some e2.1) (sk 63 (congrArg some e3.1) (zag _))) (List.sublist_append_right _ _) ?_
    exact rq_v (zal (s := 1) rfl Try.underlying26 (by kernel_rfl) rfl rfl (zas 2 rfl) (by omega) (by omega))
   ·
    intro vf pf hR
    have e4 : (vf 4) = elP v6 (((k : Int)).toNat * 1) ∧ (pf 4) = [] := hR 4 (by decide)
    refine Or.inl ⟨rfl, ?_⟩
    refine zau (sk 64 (congrArg some e4.1) (zag _)) (List.sublist_append_right _ _) ?_
    exact rq_v (zam (u := .int .i64 (is.getD k 0)) rfl (by kernel_rfl) rfl (zas 2 rfl) (zbg (show _ < is.length by omega)))
   intro vf pf hR
   have e0 : (vf 0) = .agg #[.int .i64 m.ins, m.sv, m.lv, m.ov] ∧ (pf 0) = [] := hR 0 (by decide)
   have e1 : (vf 1) = u ∧ (pf 1) = [] := hR 1 (by decide)
   have e5 : (vf 5) = .int .i64 (is.getD k 0) ∧ (pf 5) = [] := hR 5 (by decide)
   refine Or.inl ⟨rfl, ?_⟩
   refine zau (sk 60 (congrArg some e0.1) (sk 61 (congrArg some e1.1) (sk 65 (congrArg some e5.1) (zag _)))) (List.sublist_append_right _ _) ?_
   exact zba (by kernel_rfl) rfl (fun w hm => implLutValuesT_ret m (stA m is k) _ (is.getD k 0) w (hps w (hm.holds _ (zcl (i := 4) rfl))) hok ((zas 0 rfl) w hm) hsk)
  intro vf pf hR
  have e6 : (fun v' post => post = [rowE 3 1 v' ((valT m (stA m is k) (is.getD k 0))).length (((valT m (stA m is k) (is.getD k 0))).map (Value.int .i64))]) (vf 6) (pf 6) := hR 6 (by decide)
  obtain ⟨v20, vE6⟩ : ∃ x, vf 6 = x := ⟨_, rfl⟩
  obtain ⟨p21, pE6⟩ : ∃ x, pf 6 = x := ⟨_, rfl⟩
  have hR22 := e6
  rw [vE6, pE6] at hR22
  subst hR22
  have q0 : (vf 0) = .agg #[.int .i64 m.ins, m.sv, m.lv, m.ov] ∧ (pf 0) = [] := hR 0 (by decide)
  have q1 : (vf 1) = u ∧ (pf 1) = [] := hR 1 (by decide)
  have q2 : (vf 2) = v6 ∧ (pf 2) = [] := hR 2 (by decide)
  have q3 : (vf 3) = .int .i64 (k : Int) ∧ (pf 3) = [] := hR 3 (by decide)
  have q4 : (vf 4) = elP v6 (((k : Int)).toNat * 1) ∧ (pf 4) = [] := hR 4 (by decide)
  have q5 : (vf 5) = .int .i64 (is.getD k 0) ∧ (pf 5) = [] := hR 5 (by decide)
  refine zcs (sk 0 rfl (sk 2 rfl (sk 3 rfl (sk 5 rfl (sk 6 rfl (sk 7 rfl (sk 9 rfl (sk 16 rfl (sk 36 rfl (sk 42 rfl (sk 57 rfl (sk 66 (congrArg some vE6) (zag _))))))))))))) (by simp only [pE6, vE6, q0.2, q1.2, q2.2, q3.2, q4.2, q5.2, fS] <;> rfl) ?_
  simp only [List.drop_succ_cons, List.drop_zero]
  refine zad 1 rfl (zac [57, 42, 36, 16, 10, 9, 7, 6, 5, 3, 2, 0] rfl (zae (zaa (zaf ?_))))
  refine zdj (by kernel_rfl) 11 [0, 1, 2, 3, 4, 5, 6, 7, 8, 9, 10] (List.take 11 _) (List.drop 11 _) [[], [], [], [], [2, 3], [4], [0, 1, 5], [6], [6, 7], [6, 7], [6, 8]] [68, 69, 70, 71, 72, 73, 74, 67, 75, 76, 11] (fun i_ vs_ v_ p_ => match i_ with | 0 => v_ = .agg #[.int .i64 m.ins, m.sv, m.lv, m.ov] ∧ p_ = [] | 1 => v_ = u ∧ p_ = [] | 2 => v_ = v6 ∧ p_ = [] | 3 => v_ = .int .i64 (k : Int) ∧ p_ = [] | 4 => v_ = elP v6 (((k : Int)).toNat * 1) ∧ p_ = [] | 5 => v_ = .int .i64 (is.getD k 0) ∧ p_ = [] | 6 => (fun u_ p_ => ∃ nv : Value, u_ = .tuple #[nv, .int .i64 (outT m (stA m is k) (is.getD k 0))] ∧ p_ = [rowE 3 1 nv (nxT m (stA m is k) (is.getD k 0) m.ss.length).length ((nxT m (stA m is k) (is.getD k 0) m.ss.length).map (Value.int .i64))]) v_ p_ | 7 => v_ = .tuple #[(tFstH (List.getD vs_ 0 undef)), .int .i64 (outT m (stA m is k) (is.getD k 0))] ∧ p_ = [] | 8 => v_ = (tFstH (List.getD vs_ 0 undef)) ∧ p_ = [] | 9 => v_ = .int .i64 (outT m (stA m is k) (is.getD k 0)) ∧ p_ = [] | 10 => v_ = (tFstH (List.getD vs_ 0 undef)) ∧ p_ = [] | _ => True) (List.take_append_drop 11 _).symm (by kernel_rfl) (by kernel_rfl) rfl rfl ?_ ?_
  ·
   refine ⟨?_, ?_, ?_, ?_, ?_, ?_, ?_, ?_, ?_, ?_, ?_, trivial⟩
   ·
    intro vf pf hR
    refine Or.inl ⟨rfl, ?_⟩
    refine zau (sk 3 rfl (zag _)) (List.sublist_append_right _ _) ?_
    exact rq_v (zbc (cs := [.int .i64 m.ins, m.sv, m.lv, m.ov]) rfl (by kernel_rfl) (by kernel_rfl) rfl rfl (zay 4 rfl 0 rfl))
   ·
    intro vf pf hR
    refine Or.inl ⟨rfl, ?_⟩
    refine zbh (sk 7 rfl (zag _)) ?_
    exact rq_v (zap rfl)
   ·
    intro vf pf hR
    refine Or.inl ⟨rfl, ?_⟩
    refine zbh (sk 5 rfl (zag _)) ?_
    exact rq_v (zap rfl)
   ·
    intro vf pf hR
    refine Or.inl ⟨rfl, ?_⟩
    refine zbh (sk 9 rfl (zag _)) ?_
    exact rq_v (zap rfl)
   ·
    intro vf pf hR
    have e2 : (vf 2) = v6 ∧ (pf 2) = [] := hR 2 (by decide)
    have e3 : (vf 3) = .int .i64 (k : Int) ∧ (pf 3) = [] := hR 3 (by decide)
    refine Or.inl ⟨rfl, ?_⟩
    refine zau (sk 70 (congrArg some e2.1) (sk 71 (congrArg some e3.1) (zag _))) (List.sublist_append_right _ _) ?_
    exact rq_v (zal (s := 1) rfl Try.underlying26 (by kernel_rfl) rfl rfl (zas 3 rfl) (by omega) (by omega))
   ·
    intro vf pf hR
    have e4 : (vf 4) = elP v6 (((k : Int)).toNat * 1) ∧ (pf 4) = [] := hR 4 (by decide)
    refine Or.inl ⟨rfl, ?_⟩
    refine zau (sk 72 (congrArg some e4.1) (zag _)) (List.sublist_append_right _ _) ?_
    exact rq_v (zam (u := .int .i64 (is.getD k 0)) rfl (by kernel_rfl) rfl (zas 3 rfl) (zbg (show _ < is.length by omega)))
   ·
    intro vf pf hR
    have e0 : (vf 0) = .agg #[.int .i64 m.ins, m.sv, m.lv, m.ov] ∧ (pf 0) = [] := hR 0 (by decide)
    have e1 : (vf 1) = u ∧ (pf 1) = [] := hR 1 (by decide)
    have e5 : (vf 5) = .int .i64 (is.getD k 0) ∧ (pf 5) = [] := hR 5 (by decide)
    refine Or.inl ⟨rfl, ?_⟩
    refine zau (sk 68 (congrArg some e0.1) (sk 69 (congrArg some e1.1) (sk 73 (congrArg some e5.1) (zag _)))) (List.sublist_append_right _ _) ?_
    exact zba (by kernel_rfl) rfl (fun w hm => LutStepT_ret m (stA m is k) _ (is.getD k 0) w (hps w (hm.holds _ (zcl (i := 5) rfl))) hok ((zas 1 rfl) w hm) hsk)
   ·
    intro vf pf hR
    have e6 : (fun u_ p_ => ∃ nv : Value, u_ = .tuple #[nv, .int .i64 (outT m (stA m is k) (is.getD k 0))] ∧ p_ = [rowE 3 1 nv (nxT m (stA m is k) (is.getD k 0) m.ss.length).length ((nxT m (stA m is k) (is.getD k 0) m.ss.length).map (Value.int .i64))]) (vf 6) (pf 6) := hR 6 (by decide)
    obtain ⟨v23, vE6⟩ : ∃ x, vf 6 = x := ⟨_, rfl⟩
    obtain ⟨p24, pE6⟩ : ∃ x, pf 6 = x := ⟨_, rfl⟩
    have hR25 := e6
    rw [vE6, pE6] at hR25
    obtain ⟨nv, rfl, rfl⟩ := hR25
    refine Or.inl ⟨rfl, ?_⟩
    refine zcg (sk 74 (congrArg some vE6) (zag _)) (by simp only [pE6, vE6, fS] <;> rfl) ?_
    exact zcw (rq_v (zap rfl)) (fun _ _ h => ⟨h.1.trans (by show _ = (.tuple #[(tFstH (vf 6)), .int .i64 (outT m (stA m is k) (is.getD k 0))] : Value); first | (rw [vE6]; done) | (rw [vE6]; rfl)), h.2⟩)
   ·
    intro vf pf hR
    have e6 : (fun u_ p_ => ∃ nv : Value, u_ = .tuple #[nv, .int .i64 (outT m (stA m is k) (is.getD k 0))] ∧ p_ = [rowE 3 1 nv (nxT m (stA m is k) (is.getD k 0) m.ss.length).length ((nxT m (stA m is k) (is.getD k 0) m.ss.length).map (Value.int .i64))]) (vf 6) (pf 6) := hR 6 (by decide)
    obtain ⟨v23, vE6⟩ : ∃ x, vf 6 = x := ⟨_, rfl⟩
    obtain ⟨p24, pE6⟩ : ∃ x, pf 6 = x := ⟨_, rfl⟩
    have hR25 := e6
    rw [vE6, pE6] at hR25
    obtain ⟨nv, rfl, rfl⟩ := hR25
    have e7 : (vf 7) = .tuple #[(tFstH (vf 6)), .int .i64 (outT m (stA m is k) (is.getD k 0))] ∧ (pf 7) = [] := hR 7 (by decide)
    rw [vE6] at e7
    refine Or.inl ⟨rfl, ?_⟩
    refine zcg (sk 67 (congrArg some e7.1) (zag _)) (by simp only [pE6, vE6, e7.2, fS] <;> rfl) ?_
    exact zcw (rq_v (zap rfl)) (fun _ _ h => ⟨h.1.trans (by show _ = ((tFstH (vf 6)) : Value); first | (rw [vE6]; done) | (rw [vE6]; rfl)), h.2⟩)
   ·
    intro vf pf hR
    have e6 : (fun u_ p_ => ∃ nv : Value, u_ = .tuple #[nv, .int .i64 (outT m (stA m is k) (is.getD k 0))] ∧ p_ = [rowE 3 1 nv (nxT m (stA m is k) (is.getD k 0) m.ss.length).length ((nxT m (stA m is k) (is.getD k 0) m.ss.length).map (Value.int .i64))]) (vf 6) (pf 6) := hR 6 (by decide)
    obtain ⟨v23, vE6⟩ : ∃ x, vf 6 = x := ⟨_, rfl⟩
    obtain ⟨p24, pE6⟩ : ∃ x, pf 6 = x := ⟨_, rfl⟩
    have hR25 := e6
    rw [vE6, pE6] at hR25
    obtain ⟨nv, rfl, rfl⟩ := hR25
    have e7 : (vf 7) = .tuple #[(tFstH (vf 6)), .int .i64 (outT m (stA m is k) (is.getD k 0))] ∧ (pf 7) = [] := hR 7 (by decide)
    rw [vE6] at e7
    refine Or.inl ⟨rfl, ?_⟩
    refine zcg (sk 67 (congrArg some e7.1) (zag _)) (by simp only [pE6, vE6, e7.2, fS] <;> rfl) ?_
    exact rq_v (zap rfl)
   intro vf pf hR
   have e6 : (fun u_ p_ => ∃ nv : Value, u_ = .tuple #[nv, .int .i64 (outT m (stA m is k) (is.getD k 0))] ∧ p_ = [rowE 3 1 nv (nxT m (stA m is k) (is.getD k 0) m.ss.length).length ((nxT m (stA m is k) (is.getD k 0) m.ss.length).map (Value.int .i64))]) (vf 6) (pf 6) := hR 6 (by decide)
   obtain ⟨v23, vE6⟩ : ∃ x, vf 6 = x := ⟨_, rfl⟩
   obtain ⟨p24, pE6⟩ : ∃ x, pf 6 = x := ⟨_, rfl⟩
   have hR25 := e6
   rw [vE6, pE6] at hR25
   obtain ⟨nv, rfl, rfl⟩ := hR25
   have e8 : (vf 8) = (tFstH (vf 6)) ∧ (pf 8) = [] := hR 8 (by decide)
   rw [vE6] at e8
   refine Or.inl ⟨rfl, ?_⟩
   refine zcg (sk 75 (congrArg some e8.1) (zag _)) (by simp only [pE6, vE6, e8.2, fS] <;> rfl) ?_
   exact zcw (rq_v (zap rfl)) (fun _ _ h => ⟨h.1.trans (by show _ = ((tFstH (vf 6)) : Value); first | (rw [vE6]; done) | (rw [vE6]; rfl)), h.2⟩)
  intro vf pf hR
  have e6 : (fun u_ p_ => ∃ nv : Value, u_ = .tuple #[nv, .int .i64 (outT m (stA m is k) (is.getD k 0))] ∧ p_ = [rowE 3 1 nv (nxT m (stA m is k) (is.getD k 0) m.ss.length).length ((nxT m (stA m is k) (is.getD k 0) m.ss.length).map (Value.int .i64))]) (vf 6) (pf 6) := hR 6 (by decide)
  obtain ⟨v23, vE6⟩ : ∃ x, vf 6 = x := ⟨_, rfl⟩
  obtain ⟨p24, pE6⟩ : ∃ x, pf 6 = x := ⟨_, rfl⟩
  have hR25 := e6
  rw [vE6, pE6] at hR25
  obtain ⟨nv, rfl, rfl⟩ := hR25
  have e9 : (vf 9) = .int .i64 (outT m (stA m is k) (is.getD k 0)) ∧ (pf 9) = [] := hR 9 (by decide)
  have e10 : (vf 10) = (tFstH (vf 6)) ∧ (pf 10) = [] := hR 10 (by decide)
  rw [vE6] at e10
  have q0 : (vf 0) = .agg #[.int .i64 m.ins, m.sv, m.lv, m.ov] ∧ (pf 0) = [] := hR 0 (by decide)
  have q1 : (vf 1) = u ∧ (pf 1) = [] := hR 1 (by decide)
  have q2 : (vf 2) = v6 ∧ (pf 2) = [] := hR 2 (by decide)
  have q3 : (vf 3) = .int .i64 (k : Int) ∧ (pf 3) = [] := hR 3 (by decide)
  have q4 : (vf 4) = elP v6 (((k : Int)).toNat * 1) ∧ (pf 4) = [] := hR 4 (by decide)
  have q5 : (vf 5) = .int .i64 (is.getD k 0) ∧ (pf 5) = [] := hR 5 (by decide)
  have q7 : (vf 7) = .tuple #[(tFstH (vf 6)), .int .i64 (outT m (stA m is k) (is.getD k 0))] ∧ (pf 7) = [] := hR 7 (by decide)
  have q8 : (vf 8) = (tFstH (vf 6)) ∧ (pf 8) = [] := hR 8 (by decide)
  have q9 : (vf 9) = .int .i64 (outT m (stA m is k) (is.getD k 0)) ∧ (pf 9) = [] := hR 9 (by decide)
  have q10 : (vf 10) = (tFstH (vf 6)) ∧ (pf 10) = [] := hR 10 (by decide)
  refine zcs (sk 0 rfl (sk 2 rfl (sk 3 rfl (sk 5 rfl (sk 6 rfl (sk 7 rfl (sk 9 rfl (sk 10 rfl (sk 11 (congrArg some e10.1) (sk 16 rfl (sk 36 rfl (sk 42 rfl (sk 57 rfl (sk 76 (congrArg some e9.1) (zag _))))))))))))))) (by simp only [pE6, vE6, q0.2, q1.2, q2.2, q3.2, q4.2, q5.2, q7.2, q8.2, q9.2, q10.2, fS] <;> rfl) ?_
  simp only [List.drop_succ_cons, List.drop_zero]
  refine zad 1 rfl (zac [57, 42, 36, 16, 12, 11, 10, 9, 7, 6, 5, 3, 2, 0] rfl (zae (zaa (zaf (zab ?_)))))
  refine zad 1 rfl (zac [57, 42, 36, 16, 13, 12, 11, 10, 9, 7, 6, 5, 3, 2, 0] rfl (zae (zaa (zaf (zaf ?_)))))
  refine zab (zad 1 rfl (zac [57, 42, 36, 16, 14, 13, 12, 11, 10, 9, 7, 6, 5, 3, 2, 0] rfl (zae (zaa (zax ?_)))))
  refine zdt (α := Nat) (β := Int) (fun j sh => [rowE 3 1 nv ((nxT m (stA m is k) (is.getD k 0) m.ss.length).length) ((nxT m (stA m is k) (is.getD k 0) m.ss.length).map (Value.int .i64)), rowE 3 1 v20 ((valT m (stA m is k) (is.getD k 0)).length) ((valT m (stA m is k) (is.getD k 0)).map (Value.int .i64)), rowE 3 1 u ((stA m is k).length) ((stA m is k).map (Value.int .i64)), rowE 3 1 v9 ((runT m is is.length).length) ((runT m is is.length).map (Value.int .i64)), rowE 3 1 v6 is.length (is.map (Value.int .i64)), boxE b5 #[.int .i64 m.ins, m.sv, m.lv, m.ov] 28, bigE ps]) (fun j sh => [(0, .slice a0 len0 cap0), (2, .bool false), (3, .pointer (some ⟨b5, 0, none⟩)), (5, v6), (6, v9), (7, u), (9, .int .i64 (k : Int)), (10, v20), (11, nv), (12, .int .i64 (outT m (stA m is k) (is.getD k 0))), (13, .int .i64 sh), (14, .int .i64 (j : Int)), (16, .bool false), (36, .bool false), (42, .bool false), (57, .bool true)]) (fun j sh => j ≤ m.os.length ∧ sh = pk (atV (valT m (stA m is k) (is.getD k 0)) m.os) j) (fun j sh => m.os.length - j) 0 0 ⟨Nat.zero_le _, rfl⟩ (zan [57, 42, 36, 16, 14, 13, 12, 11, 10, 9, 7, 6, 5, 3, 2, 0] rfl) ((.cons_cons _ (.cons_cons _ (.cons_cons _ (.cons_cons _ (.cons_cons _ (.cons_cons _ (.cons_cons _ .slnil)))))))) ?_
  intro j sh hi26
  obtain ⟨hj, hq⟩ := hi26
  have hkb := pk_16 (b := atV (valT m (stA m is k) (is.getD k 0)) m.os) (k := j) (fun z hz => (vt_rng hok hsk (is.getD k 0) hok.ou).2 z (by omega)) (by omega)
  rw [← hq] at hkb
  refine zaf (zaf (zab (zad 1 rfl (hl_v rfl rfl rfl (zat (k0 := 3) rfl (by kernel_rfl) rfl) (hl_v rfl rfl rfl (zbd rfl (by kernel_rfl) rfl (zaw 5 rfl rfl)) ?_)))))
  refine hl_v rfl rfl rfl (zbo rfl Try.underlying26 rfl (fun w hm => (hps w (hm.holds _ (zcl (i := 6) rfl))).ou)) ?_
  refine zbw rfl rfl rfl rfl rfl rfl (fun h27 => ?_) (fun h27 => ?_)
  ·
   refine zac [81, 57, 42, 36, 16, 14, 13, 12, 11, 10, 9, 7, 6, 5, 3, 2, 0] rfl (zae (zaa (zbb rfl (zaz (zaa ?_)))))
   refine zaf (zax (zab ?_))
   have hgr := (vt_rng hok hsk (is.getD k 0) hok.ou).1 j (by omega)
   have hgb : ((valT m (stA m is k) (is.getD k 0)).getD (m.os.getD j 0).toNat 0) = 0 ∨ ((valT m (stA m is k) (is.getD k 0)).getD (m.os.getD j 0).toNat 0) = 1 := (vt_rng hok hsk (is.getD k 0) hok.ou).2 j (by omega)
   have hpw := pow16T (k := j) (by omega)
   have hpw0 : (0 : Int) < 2 ^ j := Int.pow_pos (by decide)
   refine hl_v rfl rfl rfl (zap rfl) (zad 1 rfl (hl_v rfl rfl rfl (zat (k0 := 3) rfl (by kernel_rfl) rfl) (hl_v rfl rfl rfl (zbd rfl (by kernel_rfl) rfl (zaw 5 rfl rfl)) (zad 1 rfl ?_))))
   refine hl_v rfl rfl rfl (zal (s := 1) rfl Try.underlying26 (by kernel_rfl) rfl rfl (fun w hm => (hps w (hm.holds _ (zcl (i := 6) rfl))).ou) (by omega) (by omega)) ?_
   refine hl_v rfl rfl rfl (zam (u := .int .i64 (m.os.getD j 0)) rfl (by kernel_rfl) rfl (fun w hm => (hps w (hm.holds _ (zcl (i := 6) rfl))).ou) (zbg (show _ < m.os.length by omega))) ?_
   refine zbm rfl rfl rfl (zba (by kernel_rfl) rfl (fun w hm => zbk (by have h9 := lawsGetT_ans (valT m (stA m is k) (is.getD k 0)) (m.os.getD j 0) _ w ((zas 1 rfl) w hm) (by omega); rw [getI_atT hgr.1 hgr.2] at h9; exact h9))) ?_
   refine hl_v rfl rfl rfl (rv_max rfl rfl rfl) ?_
   rw [show (if 0 < ((valT m (stA m is k) (is.getD k 0)).getD (m.os.getD j 0).toNat 0) then ((valT m (stA m is k) (is.getD k 0)).getD (m.os.getD j 0).toNat 0) else 0) = ((valT m (stA m is k) (is.getD k 0)).getD (m.os.getD j 0).toNat 0) by rcases hgb with e9 | e9 <;> rw [e9] <;> rfl]
   refine hl_v rfl rfl rfl (zap rfl) (hl_v rfl rfl rfl (zfd (k := .i64) (kk := .i64) (r := ((valT m (stA m is k) (is.getD k 0)).getD (m.os.getD j 0).toNat 0) * 2 ^ j) rfl rfl rfl rfl (by omega) (shl_pk16 hgb (by omega))) (hl_v rfl rfl rfl (zbj rfl rfl rfl (by rcases hgb with e9 | e9 <;> rw [e9] <;> constructor <;> omega)) (zad 1 rfl (zac [81, 57, 42, 36, 16, 14, 13, 12, 11, 10, 9, 7, 6, 5, 3, 2, 0] rfl (zae ?_)))))
   refine zai (zaa (zab (zad 1 rfl (hl_v rfl rfl rfl (zbj rfl rfl rfl (by constructor <;> omega)) (zad 1 rfl ?_)))))
   refine zac [81, 57, 42, 36, 16, 14, 13, 12, 11, 10, 9, 7, 6, 5, 3, 2, 0] rfl (zae ?_)
   exact zcu (j + 1) _ ⟨by omega, by rw [hq]; rfl⟩ (by omega) (zan [57, 42, 36, 16, 14, 13, 12, 11, 10, 9, 7, 6, 5, 3, 2, 0] rfl) ((.cons_cons _ (.cons_cons _ (.cons_cons _ (.cons_cons _ (.cons_cons _ (.cons_cons _ (.cons_cons _ .slnil))))))))
  refine zac [81, 57, 42, 36, 16, 14, 13, 12, 11, 10, 9, 7, 6, 5, 3, 2, 0] rfl (zae (zaa (zaq rfl ?_)))
  refine zbp ?_
  refine zah (zah ?_)
  refine zav ?_
  refine zaa (zaf (zaf (zab ?_)))
  have hrt : (runT m is is.length).getD k 0 = outT m (stA m is k) (is.getD k 0) := runT_at (by omega)
  have hsh : sh = outT m (stA m is k) (is.getD k 0) := by rw [hq, show j = m.os.length by omega]; rfl
  refine hl_v rfl rfl rfl (zbc (cs := [.int .i64 m.ins, m.sv, m.lv, m.ov]) rfl (by kernel_rfl) (by kernel_rfl) rfl rfl (zay 5 rfl 0 rfl)) (zad 1 rfl ?_)
  refine zbm rfl rfl rfl (zba (by kernel_rfl) rfl (fun w hm => zbk (by have h9 := zet m (stA m is k) _ w (hps w (hm.holds _ (zcl (i := 6) rfl))) ((zas 2 rfl) w hm); rw [zfm ⟨hok, hsk⟩] at h9; exact h9))) ?_
  refine zad 5 rfl (hl_v rfl rfl rfl (zal (s := 1) rfl Try.underlying26 (by kernel_rfl) rfl rfl (zas 3 rfl) (by omega) (by omega)) (hl_v rfl rfl rfl (zam (u := .int .i64 ((runT m is is.length).getD k 0)) rfl (by kernel_rfl) rfl (zas 3 rfl) (zbg (show _ < (runT m is is.length).length by omega))) ?_))
  refine hl_neq rfl rfl rfl rfl rfl rfl (fun h28 => ?_) (fun h28 => ?_)
  ·
   refine zad 4 rfl (zbi rfl rfl rfl (zad 1 rfl (zac [112, 81, 57, 42, 36, 16, 14, 13, 12, 11, 10, 9, 7, 6, 5, 3, 2, 0] rfl (zae (zaa ?_)))))
   refine zbb rfl (zaf (zab (zad 1 rfl (zac [112, 81, 57, 42, 36, 16, 14, 13, 12, 11, 10, 9, 7, 6, 5, 3, 2, 0] rfl (zae ?_)))))
   refine zaa ?_
   refine zbl ?_
   refine zao ?_
   refine zbf ?_
   refine zao (zao ?_)
   refine zbf ?_
   refine zao ?_
   exfalso
   omega
  refine zad 4 rfl ?_
  refine hl_neq rfl rfl rfl rfl rfl rfl (fun h29 => ?_) (fun h29 => ?_)
  ·
   refine zad 1 rfl (zac [112, 81, 57, 42, 36, 16, 14, 13, 12, 11, 10, 9, 7, 6, 5, 3, 2, 0] rfl (zae (zaa (zbb rfl (zaf ?_)))))
   refine zab (zad 1 rfl (zac [112, 81, 57, 42, 36, 16, 14, 13, 12, 11, 10, 9, 7, 6, 5, 3, 2, 0] rfl (zae (zaa ?_))))
   refine zbl ?_
   refine zao ?_
   refine zbf ?_
   refine zao (zao ?_)
   refine zbf ?_
   refine zao ?_
   exfalso
   omega
  refine zad 1 rfl (zac [112, 81, 57, 42, 36, 16, 14, 13, 12, 11, 10, 9, 7, 6, 5, 3, 2, 0] rfl (zae (zaa (zaq rfl (zaz ?_)))))
  refine zaa (zab (zad 2 rfl (zac [112, 81, 57, 42, 36, 16, 14, 13, 12, 11, 10, 9, 7, 6, 5, 3, 2, 0] rfl (zae (zai ?_)))))
  refine zaa (zab (zad 1 rfl (hl_v rfl rfl rfl (zbj rfl rfl rfl (by constructor <;> omega)) (zad 1 rfl (zac [112, 81, 57, 42, 36, 16, 14, 13, 12, 11, 10, 9, 7, 6, 5, 3, 2, 0] rfl ?_)))))
  refine zae ?_
  exact zcu (k + 1) nv (by omega) (by omega) (zan [42, 36, 16, 9, 7, 6, 5, 3, 2, 0] rfl) ((.cons_cons _ (.cons _ (.cons _ (.cons_cons _ (.cons_cons _ (.cons_cons _ (.cons_cons _ .slnil))))))))
 refine zac [57, 42, 36, 16, 9, 7, 6, 5, 3, 2, 0] rfl (zae (zaa (zaq rfl ?_)))
 refine zbp ?_
 refine zah (zah ?_)
 refine zav ?_
 refine zaa (zaf (zab (zad 1 rfl (zac [57, 42, 36, 16, 9, 7, 6, 5, 3, 2, 0] rfl (zae ?_)))))
 refine zaa ?_
 refine zbl ?_
 exact zch rfl rfl rfl
end Go.Proofs.Ytakjndmlanpadaa
