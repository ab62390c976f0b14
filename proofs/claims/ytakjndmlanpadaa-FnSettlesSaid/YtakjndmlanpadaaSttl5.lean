/- Texts of the law FnSettles, part 5: what it uses. -/
import Derived.Test.YtakjndmlanpadaaSttl4
set_option linter.unusedVariables false
set_option linter.unusedSimpArgs false
namespace Go.Proofs.Ytakjndmlanpadaa
open Go.RowKit Go.ChangeShapes
open Go.RowKit
set_option maxHeartbeats 4000000 in
set_option maxRecDepth 100000 in
theorem l20Net_mut (g : Nat) (a : Option Addr) (len cap : Nat) (z : List Int) (w0 : World) (l : List HP) (w : World) (hm0 : Mem w0 (curE g a len cap :: l) w) (hb : BRow .u8 w0 a len cap z) :
   Calls Try.prog 29 #[.pointer (some ⟨g, 0, none⟩)] w (fun e_ w_ => ∃ v_ p_, e_ = .returned v_ ∧ (fun u_ p_ => ∃ (ps : List HP) (m : Ln), u_ = m.agg ∧ p_ = bigE [curE g a len cap, bigE ps] ∧ (∀ w, (bigE ps).holds w → RdsLn w m) ∧ (m.sv.oneCell' = true ∧ m.lv.oneCell' = true ∧ m.ov.oneCell' = true) ∧ LnOk m) v_ p_ ∧ Mem w0 (p_ :: l) w_) := by
 refine zgn (N := 154) (args := [.pointer (some ⟨g, 0, none⟩)]) Try.func29 rfl rfl hm0 (srQ ?_)
 refine zef rfl (zbw (z := .agg #[.int .i64 0, .slice none 0 0, .slice none 0 0, .slice none 0 0]) rfl rfl) ?_
 intro b1
 refine ntQ (zac (zac (reQ 1 rfl ?_)))
 refine zdd (R := (fun u_ p_ => (∃ b : Bool, u_ = .bool b) ∧ p_ = curE g a len cap)) 1 rfl rfl rfl rfl rfl (fun l' w hm => once_mut hm hb (2) (by omega) (by omega)) ?_
 intro v2 p3 hR4
 obtain ⟨⟨xhR4, rfl⟩, rfl⟩ := hR4
 refine zee (l' := (boxE b1 #[.int .i64 0, .slice none 0 0, .slice none 0 0, .slice none 0 0] 28 :: curE g a len cap :: l)) rfl ?_
 refine zbl (fun h5 => ?_) (fun h5 => ?_)
 ·
  refine ntQ (zan rfl (zac (reQ 1 rfl ?_)))
  refine zdd (R := (fun u_ p_ => ∃ n : Nt, u_ = n.agg ∧ p_ = bigE [curE g a len cap, ntE n] ∧ (n.sv.oneCell' = true ∧ n.av.oneCell' = true ∧ n.ov.oneCell' = true) ∧ NtOk n ∧ n.ins ≤ 4 ∧ (n.ss.length : Int) ≤ 3 ∧ (n.gs.length : Int) ≤ 16)) 1 rfl rfl rfl rfl rfl (fun l' w hm => l08Sized_mut g a len cap z 4 3 16 _ _ _ hm hb (by decide) (by decide) (by decide)) ?_
  intro v6 p7 hR8
  obtain ⟨n, rfl, rfl, ⟨o1n, o2n, o3n⟩, hn, hnq1, hnq2, hnq3⟩ := hR8
  have hi0 := hn.i0
  have hi1 := hn.i1
  have hs1 := hn.s1
  have ha1 := hn.a1
  have ho1 := hn.o1
  have hcnt : n.cnt = 1 + n.ins + n.ss.length + n.gs.length := rfl
  have hfst : n.fst = 1 + n.ins + n.ss.length := rfl
  refine zee (l' := (boxE b1 #[.int .i64 0, .slice none 0 0, .slice none 0 0, .slice none 0 0] 28 :: bigE [curE g a len cap, ntE n] :: l)) rfl ?_
  refine zge 2 [0, 1] rfl rfl (by decide) ?_
  refine zfz (curE g a len cap :: ntE n :: boxE b1 #[.int .i64 0, .slice none 0 0, .slice none 0 0, .slice none 0 0] 28 :: l) zfv ?_
  refine hl_q rfl rfl rfl (zap rfl rfl (fun w hm => Hash_ret n w (zgj 1 rfl w hm) hn)) ?_
  intro v9 p10 hR11
  obtain ⟨qs, m, rfl, rfl, hqs, ⟨o1m, o2m, o3m⟩, hmok, hsk, hml⟩ := hR11
  refine zef rfl (zbw (z := .agg #[.int .i64 0, .slice none 0 0, .slice none 0 0, .slice none 0 0]) rfl rfl) ?_
  intro b12
  refine zcb (cs' := #[.int .i64 m.ins, m.sv, m.av, m.ov]) (i := 0) (off := 0) (us := [.int .i64 m.ins, m.sv, m.av, m.ov]) rfl rfl rfl rfl rfl rfl rfl (zaf rfl (zaf o1m (zaf o2m (zaf o3m zbo)))) rfl rfl rfl (ntQ (zac ?_))
  have hkl := hsk.len
  have hml9 := hml
  refine zfd 5 [4, 3, 1, 0, 2] rfl rfl (by decide) ?_
  refine hc_draw4 (l := (boxE b12 #[.int .i64 m.ins, m.sv, m.av, m.ov] 101 :: bigE qs :: ntE n :: boxE b1 #[.int .i64 0, .slice none 0 0, .slice none 0 0, .slice none 0 0] 28 :: l)) rfl 10 [0, 1, 2, 3, 4, 5, 6, 7, 8, 9] (List.take 10 _) (List.drop 10 _) [[], [], [], [1, 2], [0, 3], [4], [4, 5], [4, 5], [], [4, 6, 8]] [some 23, some 24, some 25, some 26, some 27, some 22, some 28, some 29, some 4, none] (fun i_ vs_ v_ p_ => match i_ with | 0 => v_ = .agg #[.int .i64 m.ins, m.sv, m.av, m.ov] ∧ p_ = [] | 1 => v_ = .pointer (some ⟨g, 0, none⟩) ∧ p_ = [] | 2 => v_ = .agg #[.int .i64 m.ins, m.sv, m.av, m.ov] ∧ p_ = [] | 3 => (∃ pm_, p_ = [pm_] ∧ (fun u_ p_ => ∃ (ps : List HP) (rs : List CRow), p_ = bigE [curE g a len cap, rowE 26 1 u_ rs.length (rs.flatMap crowC), bigE ps] ∧ (∀ w, (bigE ps).holds w → RdsAll w rs) ∧ rs.length = m.gs.length ∧ ∀ r ∈ rs, r.xs.length ≤ 400) v_ pm_) | 4 => (fun u_ p_ => ∃ (ps : List HP) (m : Ln) (b : Bool), u_ = .tuple #[m.agg, .bool b] ∧ p_ = [bigE ps] ∧ (∀ w, (bigE ps).holds w → RdsLn w m) ∧ (m.sv.oneCell' = true ∧ m.lv.oneCell' = true ∧ m.ov.oneCell' = true) ∧ LnOk m) v_ p_ | 5 => v_ = .tuple #[.agg #[.int .i64 (tIn9 (List.getD vs_ 0 undef)), (tF9 1 (List.getD vs_ 0 undef)), (tF9 2 (List.getD vs_ 0 undef)), (tF9 3 (List.getD vs_ 0 undef))], .bool (tSndB (List.getD vs_ 0 undef))] ∧ p_ = [] | 6 => v_ = .agg #[.int .i64 (tIn9 (List.getD vs_ 0 undef)), (tF9 1 (List.getD vs_ 0 undef)), (tF9 2 (List.getD vs_ 0 undef)), (tF9 3 (List.getD vs_ 0 undef))] ∧ p_ = [] | 7 => v_ = .bool (tSndB (List.getD vs_ 0 undef)) ∧ p_ = [] | 8 => IsBox #[.int .i64 0, .slice none 0 0, .slice none 0 0, .slice none 0 0] 28 v_ p_ | 9 => p_ = [boxE (blkOf (List.getD vs_ 2 undef)) #[.int .i64 (tIn9 (List.getD vs_ 0 undef)), (tF9 1 (List.getD vs_ 0 undef)), (tF9 2 (List.getD vs_ 0 undef)), (tF9 3 (List.getD vs_ 0 undef))] 28] | _ => True) [[], [], [], [1, 2], [0, 3], [4], [4, 5], [4, 5], [], [4, 6]] [none, none, none, some 11, none, none, none, none, none, some 8] [[curE g a len cap]] [0, 1, 2, 3, 4, 5, 6, 7, 9] 11 (List.take_append_drop 10 _).symm (by kernel_rfl) (by kernel_rfl) (by kernel_rfl) rfl rfl ?_ ?_
  ·
   refine ⟨?_, ?_, ?_, ?_, ?_, ?_, ?_, ?_, ?_, ?_, trivial⟩
   ·
    intro vf pf hmu hR
    refine zea [] [] rfl (zbq (zal [3] rfl) (List.sublist_append_right _ _) ?_)
    exact zbd (zas (cs := [.int .i64 m.ins, m.sv, m.av, m.ov]) rfl rfl rfl rfl rfl (zao 0 rfl 0 rfl))
   ·
    intro vf pf hmu hR
    refine zea [] [] rfl (zbr (zal [0] rfl) ?_)
    exact zbd (zah rfl)
   ·
    intro vf pf hmu hR
    refine zea [] [] rfl (zbq (zal [3] rfl) (List.sublist_append_right _ _) ?_)
    exact zbd (zas (cs := [.int .i64 m.ins, m.sv, m.av, m.ov]) rfl rfl rfl rfl rfl (zao 0 rfl 0 rfl))
   ·
    intro vf pf hmu hR
    have e1 := hR 1 (by decide)
    have e2 := hR 2 (by decide)
    refine Or.inl ⟨rfl, ?_⟩
    show RunM _ _ _ (pf 11) (([1, 2] : List Nat).flatMap pf ++ _) (envOf3 _ vf [1, 2] ++ _) _ _
    have hmu0 : pf 11 = [curE g a len cap] := hmu 0 (show 0 < 1 by omega)
    rw [hmu0]
    exact zda (sk 24 (congrArg some e1.1) (sk 25 (congrArg some e2.1) (zad _))) (by simp only [e1.2, e2.2, fS] <;> rfl) (zdt (R := (fun u_ p_ => ∃ (ps : List HP) (rs : List CRow), p_ = bigE [curE g a len cap, rowE 26 1 u_ rs.length (rs.flatMap crowC), bigE ps] ∧ (∀ w, (bigE ps).holds w → RdsAll w rs) ∧ rs.length = m.gs.length ∧ ∀ r ∈ rs, r.xs.length ≤ 400)) rfl rfl (fun L w hX hm => l18Cuts_mut g a len cap z m _ _ _ hm hb (fun w hm9 => hqs w ((hX _ hm9).holds _ (zcg (i := 1) rfl))) hmok))
   ·
    intro vf pf hmu hR
    have e0 := hR 0 (by decide)
    have e3 : (∃ pm_, (pf 3) = [pm_] ∧ (fun u_ p_ => ∃ (ps : List HP) (rs : List CRow), p_ = bigE [curE g a len cap, rowE 26 1 u_ rs.length (rs.flatMap crowC), bigE ps] ∧ (∀ w, (bigE ps).holds w → RdsAll w rs) ∧ rs.length = m.gs.length ∧ ∀ r ∈ rs, r.xs.length ≤ 400) (vf 3) pm_) := hR 3 (by decide)
    obtain ⟨p14, pE3, hR15⟩ := e3
    obtain ⟨v13, vE3⟩ : ∃ x, vf 3 = x := ⟨_, rfl⟩
    rw [vE3] at hR15
    obtain ⟨ps, rs, rfl, hps, hrl, h400⟩ := hR15
    refine zea [0, 3] [0, 3] rfl (zby (sk 23 (congrArg some e0.1) (sk 26 (congrArg some vE3) (zad _))) (by simp only [pE3, vE3, e0.2, fS] <;> rfl) ?_)
    exact zap rfl rfl (fun w hm => ToLuts_ret m rs _ w (hqs w (hm.holds _ (zcg (i := 2) rfl))) hmok ⟨zbm (hold_at (hm.holds _ (zcg (i := 0) rfl)) (j := 1) rfl), hps w (hold_at (hm.holds _ (zcg (i := 0) rfl)) (j := 2) rfl)⟩ h400 (by omega))
   ·
    intro vf pf hmu hR
    have e4 : (fun u_ p_ => ∃ (ps : List HP) (m : Ln) (b : Bool), u_ = .tuple #[m.agg, .bool b] ∧ p_ = [bigE ps] ∧ (∀ w, (bigE ps).holds w → RdsLn w m) ∧ (m.sv.oneCell' = true ∧ m.lv.oneCell' = true ∧ m.ov.oneCell' = true) ∧ LnOk m) (vf 4) (pf 4) := hR 4 (by decide)
    obtain ⟨v16, vE4⟩ : ∃ x, vf 4 = x := ⟨_, rfl⟩
    obtain ⟨p17, pE4⟩ : ∃ x, pf 4 = x := ⟨_, rfl⟩
    have hR18 := e4
    rw [vE4, pE4] at hR18
    obtain ⟨ls_, tl, tb, rfl, rfl, hls, ⟨o1t, o2t, o3t⟩, htl⟩ := hR18
    refine zea [4] [4] rfl (zby (sk 27 (congrArg some vE4) (zad _)) (by simp only [pE4, vE4, fS] <;> rfl) ?_)
    exact zck (zbd (zah rfl)) (fun _ _ h => ⟨h.1.trans (by show _ = (.tuple #[.agg #[.int .i64 (tIn9 (vf 4)), (tF9 1 (vf 4)), (tF9 2 (vf 4)), (tF9 3 (vf 4))], .bool (tSndB (vf 4))] : Value); first | (rw [vE4]; done) | (rw [vE4]; rfl)), h.2⟩)
   ·
    intro vf pf hmu hR
    have e4 : (fun u_ p_ => ∃ (ps : List HP) (m : Ln) (b : Bool), u_ = .tuple #[m.agg, .bool b] ∧ p_ = [bigE ps] ∧ (∀ w, (bigE ps).holds w → RdsLn w m) ∧ (m.sv.oneCell' = true ∧ m.lv.oneCell' = true ∧ m.ov.oneCell' = true) ∧ LnOk m) (vf 4) (pf 4) := hR 4 (by decide)
    obtain ⟨v16, vE4⟩ : ∃ x, vf 4 = x := ⟨_, rfl⟩
    obtain ⟨p17, pE4⟩ : ∃ x, pf 4 = x := ⟨_, rfl⟩
    have hR18 := e4
    rw [vE4, pE4] at hR18
    obtain ⟨ls_, tl, tb, rfl, rfl, hls, ⟨o1t, o2t, o3t⟩, htl⟩ := hR18
    have e5 : (vf 5) = .tuple #[.agg #[.int .i64 (tIn9 (vf 4)), (tF9 1 (vf 4)), (tF9 2 (vf 4)), (tF9 3 (vf 4))], .bool (tSndB (vf 4))] ∧ (pf 5) = [] := hR 5 (by decide)
    rw [vE4] at e5
    refine zea [4, 5] [4, 5] rfl (zby (sk 22 (congrArg some e5.1) (zad _)) (by simp only [pE4, vE4, e5.2, fS] <;> rfl) ?_)
    exact zck (zbd (zah rfl)) (fun _ _ h => ⟨h.1.trans (by show _ = (.agg #[.int .i64 (tIn9 (vf 4)), (tF9 1 (vf 4)), (tF9 2 (vf 4)), (tF9 3 (vf 4))] : Value); first | (rw [vE4]; done) | (rw [vE4]; rfl)), h.2⟩)
   ·
    intro vf pf hmu hR
    have e4 : (fun u_ p_ => ∃ (ps : List HP) (m : Ln) (b : Bool), u_ = .tuple #[m.agg, .bool b] ∧ p_ = [bigE ps] ∧ (∀ w, (bigE ps).holds w → RdsLn w m) ∧ (m.sv.oneCell' = true ∧ m.lv.oneCell' = true ∧ m.ov.oneCell' = true) ∧ LnOk m) (vf 4) (pf 4) := hR 4 (by decide)
    obtain ⟨v16, vE4⟩ : ∃ x, vf 4 = x := ⟨_, rfl⟩
    obtain ⟨p17, pE4⟩ : ∃ x, pf 4 = x := ⟨_, rfl⟩
    have hR18 := e4
    rw [vE4, pE4] at hR18
    obtain ⟨ls_, tl, tb, rfl, rfl, hls, ⟨o1t, o2t, o3t⟩, htl⟩ := hR18
    have e5 : (vf 5) = .tuple #[.agg #[.int .i64 (tIn9 (vf 4)), (tF9 1 (vf 4)), (tF9 2 (vf 4)), (tF9 3 (vf 4))], .bool (tSndB (vf 4))] ∧ (pf 5) = [] := hR 5 (by decide)
    rw [vE4] at e5
    refine zea [4, 5] [4, 5] rfl (zby (sk 22 (congrArg some e5.1) (zad _)) (by simp only [pE4, vE4, e5.2, fS] <;> rfl) ?_)
    exact zck (zbd (zah rfl)) (fun _ _ h => ⟨h.1.trans (by show _ = (.bool (tSndB (vf 4)) : Value); first | (rw [vE4]; done) | (rw [vE4]; rfl)), h.2⟩)
   ·
    intro vf pf hmu hR
    refine zea [] [] rfl (zbq (zad _) (List.sublist_append_right _ _) ?_)
    exact zbw (z := .agg #[.int .i64 0, .slice none 0 0, .slice none 0 0, .slice none 0 0]) rfl rfl
   intro vf pf hmu hR
   have e4 : (fun u_ p_ => ∃ (ps : List HP) (m : Ln) (b : Bool), u_ = .tuple #[m.agg, .bool b] ∧ p_ = [bigE ps] ∧ (∀ w, (bigE ps).holds w → RdsLn w m) ∧ (m.sv.oneCell' = true ∧ m.lv.oneCell' = true ∧ m.ov.oneCell' = true) ∧ LnOk m) (vf 4) (pf 4) := hR 4 (by decide)
   obtain ⟨v16, vE4⟩ : ∃ x, vf 4 = x := ⟨_, rfl⟩
   obtain ⟨p17, pE4⟩ : ∃ x, pf 4 = x := ⟨_, rfl⟩
   have hR18 := e4
   rw [vE4, pE4] at hR18
   obtain ⟨ls_, tl, tb, rfl, rfl, hls, ⟨o1t, o2t, o3t⟩, htl⟩ := hR18
   have e6 : (vf 6) = .agg #[.int .i64 (tIn9 (vf 4)), (tF9 1 (vf 4)), (tF9 2 (vf 4)), (tF9 3 (vf 4))] ∧ (pf 6) = [] := hR 6 (by decide)
   rw [vE4] at e6
   have e8 : IsBox #[.int .i64 0, .slice none 0 0, .slice none 0 0, .slice none 0 0] 28 (vf 8) (pf 8) := hR 8 (by decide)
   obtain ⟨b19, vE8, pE8⟩ := e8
   refine Or.inl ⟨rfl, ?_⟩
   show RunM _ _ _ (pf 8) (([4, 6] : List Nat).flatMap pf ++ _) (envOf3 _ vf [4, 6, 8] ++ _) _ _
   rw [pE8]
   exact zda (sk 4 (congrArg some vE8) (sk 28 (congrArg some e6.1) (zad _))) (by simp only [pE4, vE4, e6.2, fS] <;> rfl) (rm_mono (zga (us := [.int .i64 tl.ins, tl.sv, tl.lv, tl.ov]) (off := 0) 0 rfl rfl rfl rfl rfl rfl (zaf rfl (zaf o1t (zaf o2t (zaf o3t zbo)))) rfl rfl) (fun v_ p_ h => by show p_ = [boxE (blkOf (vf 8)) #[.int .i64 (tIn9 (vf 4)), (tF9 1 (vf 4)), (tF9 2 (vf 4)), (tF9 3 (vf 4))] 28]; rw [vE4, vE8]; exact h))
  intro vf pf hmu hR
  have e3 : (∃ pm_, (pf 3) = [pm_] ∧ (fun u_ p_ => ∃ (ps : List HP) (rs : List CRow), p_ = bigE [curE g a len cap, rowE 26 1 u_ rs.length (rs.flatMap crowC), bigE ps] ∧ (∀ w, (bigE ps).holds w → RdsAll w rs) ∧ rs.length = m.gs.length ∧ ∀ r ∈ rs, r.xs.length ≤ 400) (vf 3) pm_) := hR 3 (by decide)
  obtain ⟨p14, pE3, hR15⟩ := e3
  obtain ⟨v13, vE3⟩ : ∃ x, vf 3 = x := ⟨_, rfl⟩
  rw [vE3] at hR15
  obtain ⟨ps, rs, rfl, hps, hrl, h400⟩ := hR15
  have e4 : (fun u_ p_ => ∃ (ps : List HP) (m : Ln) (b : Bool), u_ = .tuple #[m.agg, .bool b] ∧ p_ = [bigE ps] ∧ (∀ w, (bigE ps).holds w → RdsLn w m) ∧ (m.sv.oneCell' = true ∧ m.lv.oneCell' = true ∧ m.ov.oneCell' = true) ∧ LnOk m) (vf 4) (pf 4) := hR 4 (by decide)
  obtain ⟨v16, vE4⟩ : ∃ x, vf 4 = x := ⟨_, rfl⟩
  obtain ⟨p17, pE4⟩ : ∃ x, pf 4 = x := ⟨_, rfl⟩
  have hR18 := e4
  rw [vE4, pE4] at hR18
  obtain ⟨ls_, tl, tb, rfl, rfl, hls, ⟨o1t, o2t, o3t⟩, htl⟩ := hR18
  have e7 : (vf 7) = .bool (tSndB (vf 4)) ∧ (pf 7) = [] := hR 7 (by decide)
  rw [vE4] at e7
  have e8 : IsBox #[.int .i64 0, .slice none 0 0, .slice none 0 0, .slice none 0 0] 28 (vf 8) (pf 8) := hR 8 (by decide)
  obtain ⟨b19, vE8, pE8⟩ := e8
  have e9 : (pf 9) = [boxE (blkOf (vf 8)) #[.int .i64 (tIn9 (vf 4)), (tF9 1 (vf 4)), (tF9 2 (vf 4)), (tF9 3 (vf 4))] 28] := hR 9 (by decide)
  rw [vE4, vE8] at e9
  have pE9 := e9
  have q0 := hR 0 (by decide)
  have q1 := hR 1 (by decide)
  have q2 := hR 2 (by decide)
  have q5 := hR 5 (by decide)
  have q6 := hR 6 (by decide)
  have q7 := hR 7 (by decide)
  refine zcj (zbe [3, 2, 0] _ (sk 4 (congrArg some vE8) (sk 18 rfl (sk 29 (congrArg some e7.1) (zad _)))) rfl) (by simp only [pE3, vE3, pE4, vE4, pE9, q0.2, q1.2, q2.2, q5.2, q6.2, q7.2, fS] <;> rfl) ?_
  simp only [List.drop_succ_cons, List.drop_zero]
  refine zbc 1 rfl (srQ (hvQ rfl (zas (cs := [.int .i64 tl.ins, tl.sv, tl.lv, tl.ov]) rfl rfl rfl rfl rfl (zao 2 rfl 0 rfl)) ?_))
  refine zcb (cs' := #[.int .i64 tl.ins, tl.sv, tl.lv, tl.ov]) (i := 6) (off := 0) (us := [.int .i64 tl.ins, tl.sv, tl.lv, tl.ov]) rfl rfl rfl rfl rfl rfl rfl (zaf rfl (zaf o1t (zaf o2t (zaf o3t zbo)))) rfl rfl rfl (ntQ ?_)
  refine zaw (zam ?_)
  refine zbj 7 [6, 5, 4, 3, 2, 1, 0] rfl rfl (by decide) ?_
  refine zew (curE g a len cap :: rowE 26 1 v13 rs.length (rs.flatMap crowC) :: bigE ps :: bigE ls_ :: boxE b19 #[.int .i64 tl.ins, tl.sv, tl.lv, tl.ov] 28 :: boxE b12 #[.int .i64 m.ins, m.sv, m.av, m.ov] 101 :: bigE qs :: ntE n :: boxE b1 #[.int .i64 tl.ins, tl.sv, tl.lv, tl.ov] 28 :: l) zfv ?_
  refine zbj 9 [8, 3, 0] rfl rfl (by decide) ?_
  refine zcr 2 rfl ?_
  exact hq_ret (rs := [.cell 2 28]) (vs := [.agg #[.int .i64 tl.ins, tl.sv, tl.lv, tl.ov]]) rfl ⟨⟨b1, 0, [.int .i64 tl.ins, tl.sv, tl.lv, tl.ov], rfl, rfl, by kernel_rfl, by kernel_rfl, zao 1 rfl 0 rfl⟩, trivial⟩ rfl (fun w hm => ⟨_, bigE [curE g a len cap, bigE ls_], rfl, ⟨_, tl, rfl, rfl, hls, ⟨o1t, o2t, o3t⟩, htl⟩, hm.sub (.cons_cons _ (.cons _ (.refl _)))⟩)
 refine ntQ (zaq rfl (zcq (zac (reQ 1 rfl ?_))))
 refine zdd (R := (fun u_ p_ => ∃ n : Nt, u_ = n.agg ∧ p_ = bigE [curE g a len cap, ntE n] ∧ (n.sv.oneCell' = true ∧ n.av.oneCell' = true ∧ n.ov.oneCell' = true) ∧ NtOk n ∧ n.ins ≤ 4 ∧ (n.ss.length : Int) ≤ 3 ∧ (n.gs.length : Int) ≤ 0)) 1 rfl rfl rfl rfl rfl (fun l' w hm => l08Sized_mut g a len cap z 4 3 0 _ _ _ hm hb (by decide) (by decide) (by decide)) ?_
 intro v20 p21 hR22
 obtain ⟨n, rfl, rfl, ⟨o1n, o2n, o3n⟩, hn, hnq1, hnq2, hnq3⟩ := hR22
 have hi0 := hn.i0
 have hi1 := hn.i1
 have hs1 := hn.s1
 have ha1 := hn.a1
 have ho1 := hn.o1
 have hcnt : n.cnt = 1 + n.ins + n.ss.length + n.gs.length := rfl
 have hfst : n.fst = 1 + n.ins + n.ss.length := rfl
 refine zee (l' := (boxE b1 #[.int .i64 0, .slice none 0 0, .slice none 0 0, .slice none 0 0] 28 :: bigE [curE g a len cap, ntE n] :: l)) rfl ?_
 refine zef rfl (zbw (z := .agg #[.int .i64 0, .slice none 0 0, .slice none 0 0, .slice none 0 0]) rfl rfl) ?_
 intro b23
 refine zcb (cs' := #[.int .i64 n.ins, n.sv, n.av, n.ov]) (i := 0) (off := 0) (us := [.int .i64 n.ins, n.sv, n.av, n.ov]) rfl rfl rfl rfl rfl rfl rfl (zaf rfl (zaf o1n (zaf o2n (zaf o3n zbo)))) rfl rfl rfl (ntQ (srQ ?_))
 refine zge 3 [1, 0, 2] rfl rfl (by decide) ?_
 refine zfz (curE g a len cap :: ntE n :: boxE b23 #[.int .i64 n.ins, n.sv, n.av, n.ov] 101 :: boxE b1 #[.int .i64 0, .slice none 0 0, .slice none 0 0, .slice none 0 0] 28 :: l) zfv ?_
 refine hvQ rfl (zaa (k0 := 0) rfl rfl rfl) (hvQ rfl (zaj rfl rfl rfl (zae 2 rfl rfl)) (hvQ rfl (zdp (cs := #[.int .i64 n.ins, .slice none 0 0, .slice none 0 0, .slice none 0 0]) rfl rfl rfl) ?_))
 refine zef rfl (zbw (z := .agg #[.int .i64 0, .slice none 0 0, .slice none 0 0, .slice none 0 0]) rfl rfl) ?_
 intro b24
 refine zcb (cs' := #[.int .i64 n.ins, .slice none 0 0, .slice none 0 0, .slice none 0 0]) (i := 0) (off := 0) (us := [.int .i64 n.ins, .slice none 0 0, .slice none 0 0, .slice none 0 0]) rfl rfl rfl rfl rfl rfl rfl (zaf rfl (zaf rfl (zaf rfl (zaf rfl zbo)))) rfl rfl rfl (ntQ (zac (reQ 1 rfl ?_)))
 refine zdd (R := (fun u_ p_ => (∃ x_ : Int, u_ = .int .i64 x_ ∧ 0 ≤ x_ ∧ x_ < 7) ∧ p_ = curE g a len cap)) 1 rfl rfl rfl rfl rfl (fun l' w hm => zch g a len cap z 7 _ _ _ hm hb (by constructor <;> omega)) ?_
 intro v25 p26 hR27
 obtain ⟨⟨xhR27, rfl, xhR270, xhR271⟩, rfl⟩ := hR27
 refine zee (l' := (boxE b24 #[.int .i64 n.ins, .slice none 0 0, .slice none 0 0, .slice none 0 0] 28 :: curE g a len cap :: ntE n :: boxE b23 #[.int .i64 n.ins, n.sv, n.av, n.ov] 101 :: boxE b1 #[.int .i64 0, .slice none 0 0, .slice none 0 0, .slice none 0 0] 28 :: l)) rfl ?_
 refine zbc 1 rfl (srQ (hvQ rfl (zas (cs := [.int .i64 n.ins, n.sv, n.av, n.ov]) rfl rfl rfl rfl rfl (zao 3 rfl 0 rfl)) ?_))
 refine zdn rfl (zap rfl rfl (fun w hm => zau (zbs n w (zgj 2 rfl w hm) hn))) (zar 1 rfl (hvQ rfl (vaQ rfl rfl rfl) (zbc 1 rfl (zac (zba 1 rfl (zax ?_))))))
 refine zdi (rowE 3 1 (.slice none 0 0) 0 ([]) :: boxE b24 #[.int .i64 n.ins, .slice none 0 0, .slice none 0 0, .slice none 0 0] 28 :: curE g a len cap :: ntE n :: boxE b23 #[.int .i64 n.ins, n.sv, n.av, n.ov] 101 :: boxE b1 #[.int .i64 0, .slice none 0 0, .slice none 0 0, .slice none 0 0] 28 :: l) (fun w hm => hm.nilRow 3 1) ?_
 refine zdi (rowE 72 2 (.slice none 0 0) (([] : List Lt).length) (([] : List Lt).flatMap ltC) :: rowE 3 1 (.slice none 0 0) 0 ([]) :: boxE b24 #[.int .i64 n.ins, .slice none 0 0, .slice none 0 0, .slice none 0 0] 28 :: curE g a len cap :: ntE n :: boxE b23 #[.int .i64 n.ins, n.sv, n.av, n.ov] 101 :: boxE b1 #[.int .i64 0, .slice none 0 0, .slice none 0 0, .slice none 0 0] 28 :: l) (fun w hm => hm.nilRow 72 2) ?_
 refine zdi (rowE 35 3 (.slice none 0 0) (([] : List Sq).length) (([] : List Sq).flatMap sqC) :: rowE 72 2 (.slice none 0 0) (([] : List Lt).length) (([] : List Lt).flatMap ltC) :: rowE 3 1 (.slice none 0 0) 0 ([]) :: boxE b24 #[.int .i64 n.ins, .slice none 0 0, .slice none 0 0, .slice none 0 0] 28 :: curE g a len cap :: ntE n :: boxE b23 #[.int .i64 n.ins, n.sv, n.av, n.ov] 101 :: boxE b1 #[.int .i64 0, .slice none 0 0, .slice none 0 0, .slice none 0 0] 28 :: l) (fun w hm => hm.nilRow 35 3) ?_
 refine zdi _ zfu ?_
 refine lkQ4 (α := Nat) (β := Value) (γ := List Sq) (δ := List HP) [0, 2, 6, 7, 8, 9, 18] rfl (fun i uq ss bs => (bigE bs :: rowE 35 3 uq ss.length (ss.flatMap sqC) :: rowE 72 2 (.slice none 0 0) (([] : List Lt).length) (([] : List Lt).flatMap ltC) :: rowE 3 1 (.slice none 0 0) 0 ([]) :: boxE b24 #[.int .i64 n.ins, uq, .slice none 0 0, .slice none 0 0] 28 :: curE g a len cap :: ntE n :: boxE b23 #[.int .i64 n.ins, n.sv, n.av, n.ov] 101 :: boxE b1 #[.int .i64 0, .slice none 0 0, .slice none 0 0, .slice none 0 0] 28 :: l)) (fun i uq ss bs => [(10, .int .i64 (i : Int))]) (fun i uq ss bs => i ≤ n.ss.length ∧ ss.length = i ∧ SqsN (n.fst + xhR27) ss ∧ ∀ w, (bigE bs).holds w → RdsSqs w ss) (fun i uq ss bs => n.ss.length - i) 0 _ [] [] ⟨Nat.zero_le _, rfl, SqsN.nil _, fun w _ => RdsSqs.nil w⟩ (saQ rfl) (.refl _) ?_
 intro i uq ss bs hi28
 obtain ⟨hi, hsl, hsn, hbs⟩ := hi28
 refine zac (zac (reQ 1 rfl (hvQ rfl (zaa (k0 := 1) rfl rfl rfl) (hvQ rfl (zaj rfl rfl rfl (zae 7 rfl rfl)) ?_))))
 refine hvQ rfl (lnQ rfl rfl rfl (fun w hm => (zgj 6 rfl w hm).sq)) (zbn rfl rfl rfl rfl rfl rfl (fun h29 => ?_) (fun h29 => ?_))
 ·
  refine ntQ (zan rfl (zcq (sbQ (zac ?_))))
  refine zdr rfl 14 [0, 1, 2, 3, 4, 5, 6, 7, 8, 9, 10, 11, 12, 13] (List.take 14 _) (List.drop 14 _) [[], [0], [], [1, 2], [3], [4], [], [6], [], [7, 8], [9], [10], [5, 11], []] [49, 50, 51, 52, 53, 54, 55, 56, 57, 58, 59, 60, 61, 11] (fun i_ vs_ v_ p_ => match i_ with | 0 => v_ = .pointer (some ⟨b23, 0 + 1, none⟩) ∧ p_ = [] | 1 => v_ = n.sv ∧ p_ = [] | 2 => v_ = .int .i64 (i : Int) ∧ p_ = [] | 3 => v_ = elP n.sv (((i : Int)).toNat * 3) ∧ p_ = [] | 4 => v_ = elP n.sv (((i : Int)).toNat * 3 + 0) ∧ p_ = [] | 5 => v_ = .int .i64 ((n.ss.getD i sq0).kd) ∧ p_ = [] | 6 => v_ = .pointer (some ⟨b23, 0 + 1, none⟩) ∧ p_ = [] | 7 => v_ = n.sv ∧ p_ = [] | 8 => v_ = .int .i64 (i : Int) ∧ p_ = [] | 9 => v_ = elP n.sv (((i : Int)).toNat * 3) ∧ p_ = [] | 10 => v_ = elP n.sv (((i : Int)).toNat * 3 + 1) ∧ p_ = [] | 11 => v_ = .int .i64 ((n.ss.getD i sq0).it) ∧ p_ = [] | 12 => v_ = .agg #[.int .i64 ((n.ss.getD i sq0).kd), .int .i64 ((n.ss.getD i sq0).it), .slice none 0 0] ∧ p_ = [] | 13 => IsBox #[.int .i64 0, .int .i64 0, .slice none 0 0] 35 v_ p_ | _ => True) (List.take_append_drop 14 _).symm (by kernel_rfl) (by kernel_rfl) rfl rfl ?_ ?_
  ·
   refine ⟨?_, ?_, ?_, ?_, ?_, ?_, ?_, ?_, ?_, ?_, ?_, ?_, ?_, ?_, trivial⟩
   ·
    intro vf pf hR
    exact ovQ rfl (zal [6] rfl) (zbd (zaa (k0 := 1) rfl rfl rfl))
   ·
    intro vf pf hR
    have e0 := hR 0 (by decide)
    exact olQ rfl (sk 49 (congrArg some e0.1) (zad _)) (zbd (zaj rfl rfl rfl (zae 7 rfl rfl)))
   ·
    intro vf pf hR
    exact ovQ rfl (zal [10] rfl) (zbd (zah rfl))
   ·
    intro vf pf hR
    have e1 := hR 1 (by decide)
    have e2 := hR 2 (by decide)
    exact olQ rfl (sk 50 (congrArg some e1.1) (sk 51 (congrArg some e2.1) (zad _))) (zbd (riQ 3 rfl rfl rfl rfl (fun w hm => (zgj 6 rfl w hm).sq)))
   ·
    intro vf pf hR
    have e3 := hR 3 (by decide)
    exact olQ rfl (sk 52 (congrArg some e3.1) (zad _)) (zbd (zbt (k0 := 0) rfl rfl rfl (fun w hm => (zgj 6 rfl w hm).sq) (by omega)))
   ·
    intro vf pf hR
    have e4 := hR 4 (by decide)
    exact olQ rfl (sk 53 (congrArg some e4.1) (zad _)) (zbd (zat (u := .int .i64 ((n.ss.getD i sq0).kd)) rfl rfl rfl (fun w hm => (zgj 6 rfl w hm).sq) ((zcu sqC 3 (fun _ => rfl) n.ss sq0 (show i < _ by omega) (by decide)).trans rfl)))
   ·
    intro vf pf hR
    exact ovQ rfl (zal [6] rfl) (zbd (zaa (k0 := 1) rfl rfl rfl))
   ·
    intro vf pf hR
    have e6 := hR 6 (by decide)
    exact olQ rfl (sk 55 (congrArg some e6.1) (zad _)) (zbd (zaj rfl rfl rfl (zae 7 rfl rfl)))
   ·
    intro vf pf hR
    exact ovQ rfl (zal [10] rfl) (zbd (zah rfl))
   ·
    intro vf pf hR
    have e7 := hR 7 (by decide)
    have e8 := hR 8 (by decide)
    exact olQ rfl (sk 56 (congrArg some e7.1) (sk 57 (congrArg some e8.1) (zad _))) (zbd (riQ 3 rfl rfl rfl rfl (fun w hm => (zgj 6 rfl w hm).sq)))
   ·
    intro vf pf hR
    have e9 := hR 9 (by decide)
    exact olQ rfl (sk 58 (congrArg some e9.1) (zad _)) (zbd (zbt (k0 := 1) rfl rfl rfl (fun w hm => (zgj 6 rfl w hm).sq) (by omega)))
   ·
    intro vf pf hR
    have e10 := hR 10 (by decide)
    exact olQ rfl (sk 59 (congrArg some e10.1) (zad _)) (zbd (zat (u := .int .i64 ((n.ss.getD i sq0).it)) rfl rfl rfl (fun w hm => (zgj 6 rfl w hm).sq) ((zcu sqC 3 (fun _ => rfl) n.ss sq0 (show i < _ by omega) (by decide)).trans rfl)))
   ·
    intro vf pf hR
    have e5 := hR 5 (by decide)
    have e11 := hR 11 (by decide)
    exact ovQ rfl (sk 54 (congrArg some e5.1) (sk 60 (congrArg some e11.1) (zad _))) (zbd (zdp (cs := #[.int .i64 ((n.ss.getD i sq0).kd), .int .i64 ((n.ss.getD i sq0).it), .slice none 0 0]) rfl rfl rfl))
   intro vf pf hR
   exact olQ rfl (zad _) (zbw (z := .agg #[.int .i64 0, .int .i64 0, .slice none 0 0]) rfl rfl)
  intro vf pf hR
  have e12 := hR 12 (by decide)
  have e13 : IsBox #[.int .i64 0, .int .i64 0, .slice none 0 0] 35 (vf 13) (pf 13) := hR 13 (by decide)
  obtain ⟨b30, vE13, pE13⟩ := e13
  have q0 := hR 0 (by decide)
  have q1 := hR 1 (by decide)
  have q2 := hR 2 (by decide)
  have q3 := hR 3 (by decide)
  have q4 := hR 4 (by decide)
  have q5 := hR 5 (by decide)
  have q6 := hR 6 (by decide)
  have q7 := hR 7 (by decide)
  have q8 := hR 8 (by decide)
  have q9 := hR 9 (by decide)
  have q10 := hR 10 (by decide)
  have q11 := hR 11 (by decide)
  have q12 := hR 12 (by decide)
  refine zcj (zbe [10, 9, 8, 7, 6, 2, 0] _ (sk 11 (congrArg some vE13) (sk 18 rfl (sk 46 rfl (sk 61 (congrArg some e12.1) (zad _))))) rfl) (by simp only [pE13, vE13, q0.2, q1.2, q2.2, q3.2, q4.2, q5.2, q6.2, q7.2, q8.2, q9.2, q10.2, q11.2, q12.2, fS] <;> rfl) ?_
  simp only [List.drop_succ_cons, List.drop_zero]
  refine zcb (cs' := #[.int .i64 ((n.ss.getD i sq0).kd), .int .i64 ((n.ss.getD i sq0).it), .slice none 0 0]) (i := 0) (off := 0) (us := [.int .i64 ((n.ss.getD i sq0).kd), .int .i64 ((n.ss.getD i sq0).it), .slice none 0 0]) rfl rfl rfl rfl rfl rfl rfl (zaf rfl (zaf rfl (zaf rfl zbo))) rfl rfl rfl (ntQ (zac (zba 1 rfl (zax ?_))))
  refine zdi (rowE 3 1 (.slice none 0 0) 0 ([]) :: boxE b30 #[.int .i64 ((n.ss.getD i sq0).kd), .int .i64 ((n.ss.getD i sq0).it), .slice none 0 0] 35 :: bigE bs :: rowE 35 3 uq ss.length (ss.flatMap sqC) :: rowE 72 2 (.slice none 0 0) (([] : List Lt).length) (([] : List Lt).flatMap ltC) :: rowE 3 1 (.slice none 0 0) 0 ([]) :: boxE b24 #[.int .i64 n.ins, uq, .slice none 0 0, .slice none 0 0] 28 :: curE g a len cap :: ntE n :: boxE b23 #[.int .i64 n.ins, n.sv, n.av, n.ov] 101 :: boxE b1 #[.int .i64 0, .slice none 0 0, .slice none 0 0, .slice none 0 0] 28 :: l) (fun w hm => hm.nilRow 3 1) ?_
  refine lkQ3 (α := Nat) (β := Value) (γ := List Int) [0, 2, 6, 7, 8, 9, 10, 11, 18, 46] rfl (fun k ui xs => (rowE 3 1 ui xs.length (xs.map (Value.int .i64)) :: boxE b30 #[.int .i64 ((n.ss.getD i sq0).kd), .int .i64 ((n.ss.getD i sq0).it), ui] 35 :: bigE bs :: rowE 35 3 uq ss.length (ss.flatMap sqC) :: rowE 72 2 (.slice none 0 0) (([] : List Lt).length) (([] : List Lt).flatMap ltC) :: rowE 3 1 (.slice none 0 0) 0 ([]) :: boxE b24 #[.int .i64 n.ins, uq, .slice none 0 0, .slice none 0 0] 28 :: curE g a len cap :: ntE n :: boxE b23 #[.int .i64 n.ins, n.sv, n.av, n.ov] 101 :: boxE b1 #[.int .i64 0, .slice none 0 0, .slice none 0 0, .slice none 0 0] 28 :: l)) (fun k ui xs => [(12, .int .i64 (k : Int))]) (fun k ui xs => k ≤ (n.ss.getD i sq0).xs.length ∧ xs.length = k ∧ BelowP xs (n.fst + xhR27)) (fun k ui xs => (n.ss.getD i sq0).xs.length - k) 0 _ [] ⟨Nat.zero_le _, rfl, BelowP.nil _⟩ (saQ rfl) (.refl _) ?_
  intro k ui xs hi31
  obtain ⟨hk, hxl, hxb⟩ := hi31
  have hx4 := (hn.sq _ (zce (d := sq0) (show i < n.ss.length by omega))).len
  refine zac (zac (reQ 1 rfl (hvQ rfl (zaa (k0 := 1) rfl rfl rfl) (hvQ rfl (zaj rfl rfl rfl (zae 9 rfl rfl)) (zar 1 rfl ?_)))))
  refine hvQ rfl (riQ 3 rfl rfl rfl rfl (fun w hm => (zgj 8 rfl w hm).sq)) (hvQ rfl (zbt (k0 := 2) rfl rfl rfl (fun w hm => (zgj 8 rfl w hm).sq) (by omega)) ?_)
  refine hvQ rfl (zat (u := (n.ss.getD i sq0).iv) rfl rfl rfl (fun w hm => (zgj 8 rfl w hm).sq) ((zcu sqC 3 (fun _ => rfl) n.ss sq0 (show i < _ by omega) (by decide)).trans rfl)) (hvQ rfl (lnQ rfl rfl rfl (fun w hm => (zgj 8 rfl w hm).at (k := i) (by omega))) ?_)
  refine zbn rfl rfl rfl rfl rfl rfl (fun h32 => ?_) (fun h32 => ?_)
  ·
   refine ntQ (zan rfl (zcq (sbQ ?_)))
   refine zfd 11 [10, 9, 8, 6, 5, 4, 3, 2, 1, 0, 7] rfl rfl (by decide) ?_
   refine zfe (l := (rowE 3 1 ui xs.length (xs.map (Value.int .i64)) :: boxE b30 #[.int .i64 ((n.ss.getD i sq0).kd), .int .i64 ((n.ss.getD i sq0).it), ui] 35 :: bigE bs :: rowE 35 3 uq ss.length (ss.flatMap sqC) :: rowE 72 2 (.slice none 0 0) (([] : List Lt).length) (([] : List Lt).flatMap ltC) :: rowE 3 1 (.slice none 0 0) 0 ([]) :: boxE b24 #[.int .i64 n.ins, uq, .slice none 0 0, .slice none 0 0] 28 :: ntE n :: boxE b23 #[.int .i64 n.ins, n.sv, n.av, n.ov] 101 :: boxE b1 #[.int .i64 0, .slice none 0 0, .slice none 0 0, .slice none 0 0] 28 :: l)) rfl 10 [0, 1, 2, 3, 4, 5, 6, 7, 8, 9] (List.take 10 _) (List.drop 10 _) [[], [0], [], [2], [], [], [5], [4, 6], [3, 7], [7, 8]] [73, 74, 75, 76, 77, 78, 79, 80, 81, 82] (fun i_ vs_ v_ p_ => match i_ with | 0 => v_ = .pointer (some ⟨b30, 0 + 2, none⟩) ∧ p_ = [] | 1 => v_ = ui ∧ p_ = [] | 2 => v_ = .int .i64 (n.fst + xhR27) ∧ p_ = [] | 3 => v_ = .int .i64 ((n.fst + xhR27) - 1) ∧ p_ = [] | 4 => v_ = .pointer (some ⟨g, 0, none⟩) ∧ p_ = [] | 5 => v_ = .int .i64 (n.fst + xhR27) ∧ p_ = [] | 6 => v_ = .int .i64 (min (n.fst + xhR27) 7) ∧ p_ = [] | 7 => (∃ pm_, p_ = [pm_] ∧ (fun u_ p_ => (∃ x_ : Int, u_ = .int .i64 x_ ∧ 0 ≤ x_ ∧ x_ < min (n.fst + xhR27) 7) ∧ p_ = curE g a len cap) v_ pm_) | 8 => v_ = .int .i64 (((n.fst + xhR27) - 1) - (intOf_o (List.getD vs_ 1 undef))) ∧ p_ = [] | 9 => IsRow_o 3 1 1 ([((n.fst + xhR27) - 1) - (intOf_o (List.getD vs_ 0 undef))].map (Value.int .i64)) v_ p_ | _ => True) [[], [0], [], [2], [], [], [5], [4, 6], [3, 7], [7, 8]] [none, none, none, none, none, none, none, some 13, none, none] [curE g a len cap] [0, 1, 2, 3, 4, 5, 6, 7, 8, 9] 13 (List.take_append_drop 10 _).symm (by kernel_rfl) (by kernel_rfl) (by kernel_rfl) rfl rfl ?_ ?_
   ·
    refine ⟨?_, ?_, ?_, ?_, ?_, ?_, ?_, ?_, ?_, ?_, trivial⟩
    ·
     intro vf pf hmu hR
     refine dqQ [] [] rfl (zbr (zal [11] rfl) ?_)
     exact zbd (zaa (k0 := 2) rfl rfl rfl)
    ·
     intro vf pf hmu hR
     have e0 := hR 0 (by decide)
     refine dqQ [0] [0] rfl (zbq (sk 73 (congrArg some e0.1) (zad _)) (List.sublist_append_right _ _) ?_)
     exact zbd (zaj rfl rfl rfl (zae 1 rfl rfl))
    ·
     intro vf pf hmu hR
     refine dqQ [] [] rfl (zbr (zal [9] rfl) ?_)
     exact zbd (zah rfl)
    ·
     intro vf pf hmu hR
     have e2 := hR 2 (by decide)
     refine dqQ [2] [2] rfl (zbr (sk 75 (congrArg some e2.1) (zad _)) ?_)
     exact zbd (vsQ rfl rfl rfl)
    ·
     intro vf pf hmu hR
     refine dqQ [] [] rfl (zbr (zal [0] rfl) ?_)
     exact zbd (zah rfl)
    ·
     intro vf pf hmu hR
     refine dqQ [] [] rfl (zbr (zal [9] rfl) ?_)
     exact zbd (zah rfl)
    ·
     intro vf pf hmu hR
     have e5 := hR 5 (by decide)
     refine dqQ [5] [5] rfl (zbr (sk 78 (congrArg some e5.1) (zad _)) ?_)
     exact zbd (rv_min rfl rfl rfl)
    ·
     intro vf pf hmu hR
     have e4 := hR 4 (by decide)
     have e6 := hR 6 (by decide)
     refine Or.inl ⟨rfl, ?_⟩
     show RunM _ _ _ (pf 13) (([4, 6] : List Nat).flatMap pf ++ _) (envOf _ vf [4, 6] ++ _) _ _
     rw [hmu]
     exact zda (sk 77 (congrArg some e4.1) (sk 79 (congrArg some e6.1) (zad _))) (by simp only [e4.2, e6.2, fS] <;> rfl) (zdt (R := (fun u_ p_ => (∃ x_ : Int, u_ = .int .i64 x_ ∧ 0 ≤ x_ ∧ x_ < min (n.fst + xhR27) 7) ∧ p_ = curE g a len cap)) rfl rfl (fun L w hX hm => zch g a len cap z (min (n.fst + xhR27) 7) _ _ _ hm hb (by constructor <;> omega)))
    ·
     intro vf pf hmu hR
     have e3 := hR 3 (by decide)
     have e7 : (∃ pm_, (pf 7) = [pm_] ∧ (fun u_ p_ => (∃ x_ : Int, u_ = .int .i64 x_ ∧ 0 ≤ x_ ∧ x_ < min (n.fst + xhR27) 7) ∧ p_ = curE g a len cap) (vf 7) pm_) := hR 7 (by decide)
     obtain ⟨p34, pE7, hR35⟩ := e7
     obtain ⟨v33, vE7⟩ : ∃ x, vf 7 = x := ⟨_, rfl⟩
     rw [vE7] at hR35
     obtain ⟨⟨xhR35, rfl, xhR350, xhR351⟩, rfl⟩ := hR35
     refine dqQ [3, 7] [3, 7] rfl (zby (sk 76 (congrArg some e3.1) (sk 80 (congrArg some vE7) (zad _))) (by simp only [pE7, vE7, e3.2, fS] <;> rfl) ?_)
     exact zck (zbd (vsQ rfl rfl rfl)) (fun _ _ h => ⟨h.1.trans (by show _ = (.int .i64 (((n.fst + xhR27) - 1) - (intOf_o (vf 7))) : Value); first | (rw [vE7]; done) | (rw [vE7]; rfl)), h.2⟩)
    intro vf pf hmu hR
    have e7 : (∃ pm_, (pf 7) = [pm_] ∧ (fun u_ p_ => (∃ x_ : Int, u_ = .int .i64 x_ ∧ 0 ≤ x_ ∧ x_ < min (n.fst + xhR27) 7) ∧ p_ = curE g a len cap) (vf 7) pm_) := hR 7 (by decide)
    obtain ⟨p34, pE7, hR35⟩ := e7
    obtain ⟨v33, vE7⟩ : ∃ x, vf 7 = x := ⟨_, rfl⟩
    rw [vE7] at hR35
    obtain ⟨⟨xhR35, rfl, xhR350, xhR351⟩, rfl⟩ := hR35
    have e8 : (vf 8) = .int .i64 (((n.fst + xhR27) - 1) - (intOf_o (vf 7))) ∧ (pf 8) = [] := hR 8 (by decide)
    rw [vE7] at e8
    refine dqQ [7, 8] [7, 8] rfl (zby (sk 81 (congrArg some e8.1) (zad _)) (by simp only [pE7, vE7, e8.2, fS] <;> rfl) ?_)
    exact zck (zav (z := .int .i64 0) (s := 1) (cs := ([((n.fst + xhR27) - 1) - xhR35].map (Value.int .i64))) rfl Try.underlying26 rfl (by decide) rfl (by kernel_rfl) rfl) (fun v_ p_ h => by show IsRow_o 3 1 1 ([((n.fst + xhR27) - 1) - (intOf_o (vf 7))].map (Value.int .i64)) v_ p_; rw [vE7]; exact h)
   intro vf pf hmu hR
   have e1 := hR 1 (by decide)
   have e7 : (∃ pm_, (pf 7) = [pm_] ∧ (fun u_ p_ => (∃ x_ : Int, u_ = .int .i64 x_ ∧ 0 ≤ x_ ∧ x_ < min (n.fst + xhR27) 7) ∧ p_ = curE g a len cap) (vf 7) pm_) := hR 7 (by decide)
   obtain ⟨p34, pE7, hR35⟩ := e7
   obtain ⟨v33, vE7⟩ : ∃ x, vf 7 = x := ⟨_, rfl⟩
   rw [vE7] at hR35
   obtain ⟨⟨xhR35, rfl, xhR350, xhR351⟩, rfl⟩ := hR35
   have e9 : IsRow_o 3 1 1 ([((n.fst + xhR27) - 1) - (intOf_o (vf 7))].map (Value.int .i64)) (vf 9) (pf 9) := hR 9 (by decide)
   rw [vE7] at e9
   obtain ⟨g36, vE9, pE9⟩ := e9
   have q0 := hR 0 (by decide)
   have q1 := hR 1 (by decide)
   have q2 := hR 2 (by decide)
   have q3 := hR 3 (by decide)
   have q4 := hR 4 (by decide)
   have q5 := hR 5 (by decide)
   have q6 := hR 6 (by decide)
   have q8 := hR 8 (by decide)
   refine zcj (zbe [70, 46, 18, 12, 11, 10, 9, 8, 7, 6, 2, 0] _ (sk 74 (congrArg some e1.1) (sk 82 (congrArg some vE9) (zad _))) rfl) (by simp only [pE7, vE7, pE9, vE9, q0.2, q1.2, q2.2, q3.2, q4.2, q5.2, q6.2, q8.2, fS] <;> rfl) ?_
   simp only [List.drop_succ_cons, List.drop_zero]
   refine zci (i := 2) (z := .int .i64 0) (bytes := 8) rfl rfl rfl rfl Try.underlying26 (by kernel_rfl) rfl rfl rfl rfl (zag 1 rfl) (zbz _) (by first | omega | (simp; done) | (simp; omega)) (zbx xs ([((n.fst + xhR27) - 1) - xhR35])) (zco xs ([((n.fst + xhR27) - 1) - xhR35])) (fun _ => rfl) ?_
   intro v37
   refine hvQ rfl (zaa (k0 := 2) rfl rfl rfl) (zcp (i := 2) rfl (fun ho38 => ?_))
   refine zei (i := 3) (cs' := #[.int .i64 ((n.ss.getD i sq0).kd), .int .i64 ((n.ss.getD i sq0).it), v37]) rfl rfl rfl rfl rfl rfl ho38 rfl rfl rfl rfl (zcf (zcv (reQ 1 rfl (hvQ rfl (vaQ rfl rfl rfl) (enQ 1 rfl ?_)))))
   refine zbj 12 [11, 10, 9, 0, 8, 7, 6, 5, 4, 3, 2] rfl rfl (by decide) ?_
   exact zbv (k + 1) v37 (xs ++ ([((n.fst + xhR27) - 1) - xhR35])) ⟨by omega, by rw [List.length_append, List.length_singleton]; omega, hxb.app (by omega)⟩ (by omega) (saQ rfl) (.refl _)
  refine ntQ (zaq rfl ?_)
  refine zbb (zds ?_)
  refine zai (zay (zbg (hvQ rfl (zaa (k0 := 1) rfl rfl rfl) (hvQ rfl (zaj rfl rfl rfl (zae 6 rfl rfl)) (hvQ rfl (zas (cs := [.int .i64 ((n.ss.getD i sq0).kd), .int .i64 ((n.ss.getD i sq0).it), ui]) rfl rfl rfl rfl rfl (zao 1 rfl 0 rfl)) ?_)))))
  refine zdw rfl (zav (z := .agg #[.int .i64 0, .int .i64 0, .slice none 0 0]) (s := 3) (cs := [.int .i64 ((n.ss.getD i sq0).kd), .int .i64 ((n.ss.getD i sq0).it), ui]) rfl Try.underlying24 rfl (by decide) rfl (by kernel_rfl) rfl) ?_
  intro g39
  refine zcp (i := 1) rfl (fun ho40 => ?_)
  refine zci (i := 4) (z := .agg #[.int .i64 0, .int .i64 0, .slice none 0 0]) (bytes := 40) rfl rfl rfl rfl Try.underlying24 (by kernel_rfl) rfl rfl rfl rfl (zag 0 rfl) (zaf rfl (zaf rfl (zaf ho40 zbo))) (by first | omega | (simp only [List.length_append, List.length_cons, List.length_nil]; omega)) (zbx ss [(Sq.mk ((n.ss.getD i sq0).kd) ((n.ss.getD i sq0).it) ui xs)]) (zcy sqC ss (Sq.mk ((n.ss.getD i sq0).kd) ((n.ss.getD i sq0).it) ui xs) _ rfl) (fun _ => rfl) ?_
  intro v41
  refine hvQ rfl (zaa (k0 := 1) rfl rfl rfl) (zcp (i := 4) rfl (fun ho42 => ?_))
  refine zei (i := 7) (cs' := #[.int .i64 n.ins, v41, .slice none 0 0, .slice none 0 0]) rfl rfl rfl rfl rfl rfl ho42 rfl rfl rfl rfl (zcf (zcv (reQ 1 rfl (hvQ rfl (vaQ rfl rfl rfl) (enQ 1 rfl ?_)))))
  refine zbj 12 [11, 10, 9, 8, 7, 6, 5, 4, 1, 3] rfl rfl (by decide) ?_
  refine zcr 2 rfl ?_
  exact zbu (i + 1) v41 (ss ++ [(Sq.mk ((n.ss.getD i sq0).kd) ((n.ss.getD i sq0).it) ui xs)]) [bigE bs, rowE 3 1 ui xs.length (xs.map (Value.int .i64))] ⟨by omega, by rw [List.length_append, List.length_singleton]; omega, hsn.app (sqOk_len (hn.sq _ (zce (d := sq0) (by omega))) (by omega) _) hxb, fun w hw => (hbs w (zaz hw List.mem_cons_self)).app (zbm (zaz hw (List.mem_cons_of_mem _ List.mem_cons_self)))⟩ (by omega) (saQ rfl) (.refl _)
 refine ntQ (zaq rfl ?_)
 refine zbb (zds ?_)
 refine zai (zay (zac (zba 1 rfl (zax ?_))))
 refine lkQ4 (α := Nat) (β := Value) (γ := List Lt) (δ := List HP) [0, 2, 6, 7, 8, 9, 18, 46] rfl (fun j u3 ls bs2 => (bigE bs2 :: rowE 35 3 uq ss.length (ss.flatMap sqC) :: rowE 72 2 u3 ls.length (ls.flatMap ltC) :: rowE 3 1 (.slice none 0 0) 0 ([]) :: boxE b24 #[.int .i64 n.ins, uq, u3, .slice none 0 0] 28 :: curE g a len cap :: ntE n :: boxE b23 #[.int .i64 n.ins, n.sv, n.av, n.ov] 101 :: boxE b1 #[.int .i64 0, .slice none 0 0, .slice none 0 0, .slice none 0 0] 28 :: l)) (fun j u3 ls bs2 => [(13, .int .i64 (j : Int))]) (fun j u3 ls bs2 => (j : Int) ≤ xhR27 ∧ ls.length = j ∧ LutsOk n.fst ls ∧ ∀ w, (bigE bs2).holds w → RdsSqs w ss ∧ RdsLuts w ls) (fun j u3 ls bs2 => xhR27.toNat - j) 0 _ [] _ ⟨by omega, rfl, LutsOk.nil _, fun w hw => ⟨hbs w hw, RdsLuts.nil w⟩⟩ (saQ rfl) (.refl _) ?_
 intro j u3 ls bs2 hi43
 obtain ⟨hj, hll, hlo, hbs2⟩ := hi43
 refine zac (zac (reQ 2 rfl ?_))
 refine zbn rfl rfl rfl rfl rfl rfl (fun h44 => ?_) (fun h44 => ?_)
 ·
  refine ntQ (zan rfl (zcq (sbQ (srQ (hvQ rfl (zdp (cs := #[.slice none 0 0, .int .i64 0]) rfl rfl rfl) ?_)))))
  refine zef rfl (zbw (z := .agg #[.slice none 0 0, .int .i64 0]) rfl rfl) ?_
  intro b45
  refine zcb (cs' := #[.slice none 0 0, .int .i64 0]) (i := 0) (off := 0) (us := [.slice none 0 0, .int .i64 0]) rfl rfl rfl rfl rfl rfl rfl (zaf rfl (zaf rfl zbo)) rfl rfl rfl (ntQ (zac (zac (reQ 1 rfl ?_))))
  refine zdd (R := (fun u_ p_ => (∃ x_ : Int, u_ = .int .i64 x_ ∧ 0 ≤ x_ ∧ x_ < 5) ∧ p_ = curE g a len cap)) 6 rfl rfl rfl rfl rfl (fun l' w hm => zch g a len cap z 5 _ _ _ hm hb (by constructor <;> omega)) ?_
  intro v46 p47 hR48
  obtain ⟨⟨xhR48, rfl, xhR480, xhR481⟩, rfl⟩ := hR48
  refine zee (l' := (boxE b45 #[.slice none 0 0, .int .i64 0] 72 :: bigE bs2 :: rowE 35 3 uq ss.length (ss.flatMap sqC) :: rowE 72 2 u3 ls.length (ls.flatMap ltC) :: rowE 3 1 (.slice none 0 0) 0 ([]) :: boxE b24 #[.int .i64 n.ins, uq, u3, .slice none 0 0] 28 :: curE g a len cap :: ntE n :: boxE b23 #[.int .i64 n.ins, n.sv, n.av, n.ov] 101 :: boxE b1 #[.int .i64 0, .slice none 0 0, .slice none 0 0, .slice none 0 0] 28 :: l)) rfl ?_
  refine zbc 1 rfl (zax ?_)
  refine zdi (rowE 3 1 (.slice none 0 0) 0 ([]) :: boxE b45 #[.slice none 0 0, .int .i64 0] 72 :: bigE bs2 :: rowE 35 3 uq ss.length (ss.flatMap sqC) :: rowE 72 2 u3 ls.length (ls.flatMap ltC) :: rowE 3 1 (.slice none 0 0) 0 ([]) :: boxE b24 #[.int .i64 n.ins, uq, u3, .slice none 0 0] 28 :: curE g a len cap :: ntE n :: boxE b23 #[.int .i64 n.ins, n.sv, n.av, n.ov] 101 :: boxE b1 #[.int .i64 0, .slice none 0 0, .slice none 0 0, .slice none 0 0] 28 :: l) (fun w hm => hm.nilRow 3 1) ?_
  refine lkQ3 (α := Int) (β := Value) (γ := List Int) [0, 2, 6, 7, 8, 9, 13, 14, 18, 46, 93] rfl (fun k ui xs => (rowE 3 1 ui xs.length (xs.map (Value.int .i64)) :: boxE b45 #[ui, .int .i64 0] 72 :: bigE bs2 :: rowE 35 3 uq ss.length (ss.flatMap sqC) :: rowE 72 2 u3 ls.length (ls.flatMap ltC) :: rowE 3 1 (.slice none 0 0) 0 ([]) :: boxE b24 #[.int .i64 n.ins, uq, u3, .slice none 0 0] 28 :: curE g a len cap :: ntE n :: boxE b23 #[.int .i64 n.ins, n.sv, n.av, n.ov] 101 :: boxE b1 #[.int .i64 0, .slice none 0 0, .slice none 0 0, .slice none 0 0] 28 :: l)) (fun k ui xs => [(15, .int .i64 k)]) (fun k ui xs => (0 ≤ k ∧ k ≤ 4) ∧ (xs.length : Int) + k ≤ 4 ∧ BelowP xs (n.fst + (j : Int))) (fun k ui xs => k.toNat) _ _ [] ⟨by omega, by simp; omega, BelowP.nil _⟩ (saQ rfl) (.refl _) ?_
  intro k ui xs hi49
  obtain ⟨hk, hxl, hxb⟩ := hi49
  refine zac (zac (reQ 1 rfl ?_))
  refine zfk rfl rfl rfl rfl rfl rfl (fun h50 => ?_) (fun h50 => ?_)
  ·
   refine ntQ (zan rfl (zcq (sbQ ?_)))
   refine zfd 11 [10, 9, 8, 6, 5, 4, 3, 2, 1, 0, 7] rfl rfl (by decide) ?_
   refine zfe (l := (rowE 3 1 ui xs.length (xs.map (Value.int .i64)) :: boxE b45 #[ui, .int .i64 0] 72 :: bigE bs2 :: rowE 35 3 uq ss.length (ss.flatMap sqC) :: rowE 72 2 u3 ls.length (ls.flatMap ltC) :: rowE 3 1 (.slice none 0 0) 0 ([]) :: boxE b24 #[.int .i64 n.ins, uq, u3, .slice none 0 0] 28 :: ntE n :: boxE b23 #[.int .i64 n.ins, n.sv, n.av, n.ov] 101 :: boxE b1 #[.int .i64 0, .slice none 0 0, .slice none 0 0, .slice none 0 0] 28 :: l)) rfl 16 [0, 1, 2, 3, 4, 5, 6, 7, 8, 9, 10, 11, 12, 13, 14, 15] (List.take 16 _) (List.drop 16 _) [[], [0], [], [2], [], [3, 4], [5], [], [], [8], [], [9, 10], [11], [7, 12], [6, 13], [13, 14]] [103, 104, 105, 106, 107, 108, 109, 110, 111, 112, 113, 114, 115, 116, 117, 118] (fun i_ vs_ v_ p_ => match i_ with | 0 => v_ = .pointer (some ⟨b45, 0 + 0, none⟩) ∧ p_ = [] | 1 => v_ = ui ∧ p_ = [] | 2 => v_ = .agg #[.int .i64 n.ins, uq, u3, .slice none 0 0] ∧ p_ = [] | 3 => v_ = .int .i64 n.fst ∧ p_ = [] | 4 => v_ = .int .i64 (j : Int) ∧ p_ = [] | 5 => v_ = .int .i64 (n.fst + (j : Int)) ∧ p_ = [] | 6 => v_ = .int .i64 ((n.fst + (j : Int)) - 1) ∧ p_ = [] | 7 => v_ = .pointer (some ⟨g, 0, none⟩) ∧ p_ = [] | 8 => v_ = .agg #[.int .i64 n.ins, uq, u3, .slice none 0 0] ∧ p_ = [] | 9 => v_ = .int .i64 n.fst ∧ p_ = [] | 10 => v_ = .int .i64 (j : Int) ∧ p_ = [] | 11 => v_ = .int .i64 (n.fst + (j : Int)) ∧ p_ = [] | 12 => v_ = .int .i64 (min (n.fst + (j : Int)) 8) ∧ p_ = [] | 13 => (∃ pm_, p_ = [pm_] ∧ (fun u_ p_ => (∃ x_ : Int, u_ = .int .i64 x_ ∧ 0 ≤ x_ ∧ x_ < min (n.fst + (j : Int)) 8) ∧ p_ = curE g a len cap) v_ pm_) | 14 => v_ = .int .i64 (((n.fst + (j : Int)) - 1) - (intOf_o (List.getD vs_ 1 undef))) ∧ p_ = [] | 15 => IsRow_o 3 1 1 ([((n.fst + (j : Int)) - 1) - (intOf_o (List.getD vs_ 0 undef))].map (Value.int .i64)) v_ p_ | _ => True) [[], [0], [], [2], [], [3, 4], [5], [], [], [8], [], [9, 10], [11], [7, 12], [6, 13], [13, 14]] [none, none, none, none, none, none, none, none, none, none, none, none, none, some 19, none, none] [curE g a len cap] [0, 1, 2, 3, 4, 5, 6, 7, 8, 9, 10, 11, 12, 13, 14, 15] 19 (List.take_append_drop 16 _).symm (by kernel_rfl) (by kernel_rfl) (by kernel_rfl) rfl rfl ?_ ?_
   ·
    refine ⟨?_, ?_, ?_, ?_, ?_, ?_, ?_, ?_, ?_, ?_, ?_, ?_, ?_, ?_, ?_, ?_, trivial⟩
    ·
     intro vf pf hmu hR
     refine dqQ [] [] rfl (zbr (zal [14] rfl) ?_)
     exact zbd (zaa (k0 := 0) rfl rfl rfl)
    ·
     intro vf pf hmu hR
     have e0 := hR 0 (by decide)
     refine dqQ [0] [0] rfl (zbq (sk 103 (congrArg some e0.1) (zad _)) (List.sublist_append_right _ _) ?_)
     exact zbd (zaj rfl rfl rfl (zae 1 rfl rfl))
    ·
     intro vf pf hmu hR
     refine dqQ [] [] rfl (zbq (zal [7] rfl) (List.sublist_append_right _ _) ?_)
     exact zbd (zas (cs := [.int .i64 n.ins, uq, u3, .slice none 0 0]) rfl rfl rfl rfl rfl (zao 6 rfl 0 rfl))
    ·
     intro vf pf hmu hR
     have e2 := hR 2 (by decide)
     refine dqQ [2] [2] rfl (zbq (sk 105 (congrArg some e2.1) (zad _)) (List.sublist_append_right _ _) ?_)
     exact (zap (by kernel_rfl) rfl (fun w hm => zau (by have h9 := zfi (Ln.mk n.ins uq u3 (.slice none 0 0) ss ls []) w ⟨⟨zag 3 rfl w hm, (hbs2 w (hm.holds _ (zcg (i := 2) rfl))).1⟩, ⟨zag 4 rfl w hm, (hbs2 w (hm.holds _ (zcg (i := 2) rfl))).2⟩, rd_nil (w0 := w) (l := []) w (Mem.refl w)⟩ ⟨by show 0 ≤ n.ins ∧ n.ins ≤ 20; omega, by show ss.length ≤ 12; omega, by show ls.length ≤ 400; omega, by show 0 ≤ 16; omega⟩; rw [show (Ln.mk n.ins uq u3 (.slice none 0 0) ss ls []).fst = n.fst by show 1 + n.ins + (ss.length : Int) = n.fst; omega] at h9; exact h9)))
    ·
     intro vf pf hmu hR
     refine dqQ [] [] rfl (zbr (zal [13] rfl) ?_)
     exact zbd (zah rfl)
    ·
     intro vf pf hmu hR
     have e3 := hR 3 (by decide)
     have e4 := hR 4 (by decide)
     refine dqQ [3, 4] [3, 4] rfl (zbr (sk 106 (congrArg some e3.1) (sk 107 (congrArg some e4.1) (zad _))) ?_)
     exact zbd (vaQ rfl rfl rfl)
    ·
     intro vf pf hmu hR
     have e5 := hR 5 (by decide)
     refine dqQ [5] [5] rfl (zbr (sk 108 (congrArg some e5.1) (zad _)) ?_)
     exact zbd (vsQ rfl rfl rfl)
    ·
     intro vf pf hmu hR
     refine dqQ [] [] rfl (zbr (zal [0] rfl) ?_)
     exact zbd (zah rfl)
    ·
     intro vf pf hmu hR
     refine dqQ [] [] rfl (zbq (zal [7] rfl) (List.sublist_append_right _ _) ?_)
     exact zbd (zas (cs := [.int .i64 n.ins, uq, u3, .slice none 0 0]) rfl rfl rfl rfl rfl (zao 6 rfl 0 rfl))
    ·
     intro vf pf hmu hR
     have e8 := hR 8 (by decide)
     refine dqQ [8] [8] rfl (zbq (sk 111 (congrArg some e8.1) (zad _)) (List.sublist_append_right _ _) ?_)
     exact (zap (by kernel_rfl) rfl (fun w hm => zau (by have h9 := zfi (Ln.mk n.ins uq u3 (.slice none 0 0) ss ls []) w ⟨⟨zag 3 rfl w hm, (hbs2 w (hm.holds _ (zcg (i := 2) rfl))).1⟩, ⟨zag 4 rfl w hm, (hbs2 w (hm.holds _ (zcg (i := 2) rfl))).2⟩, rd_nil (w0 := w) (l := []) w (Mem.refl w)⟩ ⟨by show 0 ≤ n.ins ∧ n.ins ≤ 20; omega, by show ss.length ≤ 12; omega, by show ls.length ≤ 400; omega, by show 0 ≤ 16; omega⟩; rw [show (Ln.mk n.ins uq u3 (.slice none 0 0) ss ls []).fst = n.fst by show 1 + n.ins + (ss.length : Int) = n.fst; omega] at h9; exact h9)))
    ·
     intro vf pf hmu hR
     refine dqQ [] [] rfl (zbr (zal [13] rfl) ?_)
     exact zbd (zah rfl)
    ·
     intro vf pf hmu hR
     have e9 := hR 9 (by decide)
     have e10 := hR 10 (by decide)
     refine dqQ [9, 10] [9, 10] rfl (zbr (sk 112 (congrArg some e9.1) (sk 113 (congrArg some e10.1) (zad _))) ?_)
     exact zbd (vaQ rfl rfl rfl)
    ·
     intro vf pf hmu hR
     have e11 := hR 11 (by decide)
     refine dqQ [11] [11] rfl (zbr (sk 114 (congrArg some e11.1) (zad _)) ?_)
     exact zbd (rv_min rfl rfl rfl)
    ·
     intro vf pf hmu hR
     have e7 := hR 7 (by decide)
     have e12 := hR 12 (by decide)
     refine Or.inl ⟨rfl, ?_⟩
     show RunM _ _ _ (pf 19) (([7, 12] : List Nat).flatMap pf ++ _) (envOf _ vf [7, 12] ++ _) _ _
     rw [hmu]
     exact zda (sk 110 (congrArg some e7.1) (sk 115 (congrArg some e12.1) (zad _))) (by simp only [e7.2, e12.2, fS] <;> rfl) (zdt (R := (fun u_ p_ => (∃ x_ : Int, u_ = .int .i64 x_ ∧ 0 ≤ x_ ∧ x_ < min (n.fst + (j : Int)) 8) ∧ p_ = curE g a len cap)) rfl rfl (fun L w hX hm => zch g a len cap z (min (n.fst + (j : Int)) 8) _ _ _ hm hb (by constructor <;> omega)))
    ·
     intro vf pf hmu hR
     have e6 := hR 6 (by decide)
     have e13 : (∃ pm_, (pf 13) = [pm_] ∧ (fun u_ p_ => (∃ x_ : Int, u_ = .int .i64 x_ ∧ 0 ≤ x_ ∧ x_ < min (n.fst + (j : Int)) 8) ∧ p_ = curE g a len cap) (vf 13) pm_) := hR 13 (by decide)
     obtain ⟨p52, pE13, hR53⟩ := e13
     obtain ⟨v51, vE13⟩ : ∃ x, vf 13 = x := ⟨_, rfl⟩
     rw [vE13] at hR53
     obtain ⟨⟨xhR53, rfl, xhR530, xhR531⟩, rfl⟩ := hR53
     refine dqQ [6, 13] [6, 13] rfl (zby (sk 109 (congrArg some e6.1) (sk 116 (congrArg some vE13) (zad _))) (by simp only [pE13, vE13, e6.2, fS] <;> rfl) ?_)
     exact zck (zbd (vsQ rfl rfl rfl)) (fun _ _ h => ⟨h.1.trans (by show _ = (.int .i64 (((n.fst + (j : Int)) - 1) - (intOf_o (vf 13))) : Value); first | (rw [vE13]; done) | (rw [vE13]; rfl)), h.2⟩)
    intro vf pf hmu hR
    have e13 : (∃ pm_, (pf 13) = [pm_] ∧ (fun u_ p_ => (∃ x_ : Int, u_ = .int .i64 x_ ∧ 0 ≤ x_ ∧ x_ < min (n.fst + (j : Int)) 8) ∧ p_ = curE g a len cap) (vf 13) pm_) := hR 13 (by decide)
    obtain ⟨p52, pE13, hR53⟩ := e13
    obtain ⟨v51, vE13⟩ : ∃ x, vf 13 = x := ⟨_, rfl⟩
    rw [vE13] at hR53
    obtain ⟨⟨xhR53, rfl, xhR530, xhR531⟩, rfl⟩ := hR53
    have e14 : (vf 14) = .int .i64 (((n.fst + (j : Int)) - 1) - (intOf_o (vf 13))) ∧ (pf 14) = [] := hR 14 (by decide)
    rw [vE13] at e14
    refine dqQ [13, 14] [13, 14] rfl (zby (sk 117 (congrArg some e14.1) (zad _)) (by simp only [pE13, vE13, e14.2, fS] <;> rfl) ?_)
    exact zck (zav (z := .int .i64 0) (s := 1) (cs := ([((n.fst + (j : Int)) - 1) - xhR53].map (Value.int .i64))) rfl Try.underlying26 rfl (by decide) rfl (by kernel_rfl) rfl) (fun v_ p_ h => by show IsRow_o 3 1 1 ([((n.fst + (j : Int)) - 1) - (intOf_o (vf 13))].map (Value.int .i64)) v_ p_; rw [vE13]; exact h)
   intro vf pf hmu hR
   have e1 := hR 1 (by decide)
   have e13 : (∃ pm_, (pf 13) = [pm_] ∧ (fun u_ p_ => (∃ x_ : Int, u_ = .int .i64 x_ ∧ 0 ≤ x_ ∧ x_ < min (n.fst + (j : Int)) 8) ∧ p_ = curE g a len cap) (vf 13) pm_) := hR 13 (by decide)
   obtain ⟨p52, pE13, hR53⟩ := e13
   obtain ⟨v51, vE13⟩ : ∃ x, vf 13 = x := ⟨_, rfl⟩
   rw [vE13] at hR53
   obtain ⟨⟨xhR53, rfl, xhR530, xhR531⟩, rfl⟩ := hR53
   have e15 : IsRow_o 3 1 1 ([((n.fst + (j : Int)) - 1) - (intOf_o (vf 13))].map (Value.int .i64)) (vf 15) (pf 15) := hR 15 (by decide)
   rw [vE13] at e15
   obtain ⟨g54, vE15, pE15⟩ := e15
   have q0 := hR 0 (by decide)
   have q1 := hR 1 (by decide)
   have q2 := hR 2 (by decide)
   have q3 := hR 3 (by decide)
   have q4 := hR 4 (by decide)
   have q5 := hR 5 (by decide)
   have q6 := hR 6 (by decide)
   have q7 := hR 7 (by decide)
   have q8 := hR 8 (by decide)
   have q9 := hR 9 (by decide)
   have q10 := hR 10 (by decide)
   have q11 := hR 11 (by decide)
   have q12 := hR 12 (by decide)
   have q14 := hR 14 (by decide)
   refine zcj (zbe [100, 93, 46, 18, 15, 14, 13, 9, 8, 7, 6, 2, 0] _ (sk 104 (congrArg some e1.1) (sk 118 (congrArg some vE15) (zad _))) rfl) (by simp only [pE13, vE13, pE15, vE15, q0.2, q1.2, q2.2, q3.2, q4.2, q5.2, q6.2, q7.2, q8.2, q9.2, q10.2, q11.2, q12.2, q14.2, fS] <;> rfl) ?_
   simp only [List.drop_succ_cons, List.drop_zero]
   refine zci (i := 2) (z := .int .i64 0) (bytes := 8) rfl rfl rfl rfl Try.underlying26 (by kernel_rfl) rfl rfl rfl rfl (zag 1 rfl) (zbz _) (by first | omega | (simp; done) | (simp; omega)) (zbx xs ([((n.fst + (j : Int)) - 1) - xhR53])) (zco xs ([((n.fst + (j : Int)) - 1) - xhR53])) (fun _ => rfl) ?_
   intro v55
   refine hvQ rfl (zaa (k0 := 0) rfl rfl rfl) (zcp (i := 2) rfl (fun ho56 => ?_))
   refine zei (i := 3) (cs' := #[v55, .int .i64 0]) rfl rfl rfl rfl rfl rfl ho56 rfl rfl rfl rfl (zcf (zcv (reQ 1 rfl (hvQ rfl (vsQ rfl rfl rfl) (enQ 1 rfl ?_)))))
   refine zbj 12 [11, 10, 9, 0, 8, 7, 6, 5, 4, 3, 2] rfl rfl (by decide) ?_
   exact zbv (k - 1) v55 (xs ++ ([((n.fst + (j : Int)) - 1) - xhR53])) ⟨by omega, by rw [List.length_append, List.length_singleton]; omega, hxb.app (by omega)⟩ (by omega) (saQ rfl) (.refl _)
  refine ntQ (zaq rfl ?_)
  refine zbb (zds ?_)
  refine zai (zay (zac (reQ 1 rfl (hvQ rfl (zaa (k0 := 0) rfl rfl rfl) (hvQ rfl (zaj rfl rfl rfl (zae 1 rfl rfl)) (hvQ rfl (lnQ rfl rfl rfl (zag 0 rfl)) ?_))))))
  have hq9 := qT_rng (n := (xs.length : Int)) (by omega)
  refine zdn rfl (zap rfl rfl (fun w hm => zau (l02FullT_ans (xs.length : Int) w (by omega)))) (hvQ rfl (vaQ rfl rfl rfl) ?_)
  refine zdd (R := (fun u_ p_ => (∃ x_ : Int, u_ = .int .i64 x_ ∧ 0 ≤ x_ ∧ x_ < (qT (xs.length : Int) - 1) + 1) ∧ p_ = curE g a len cap)) 7 rfl rfl rfl rfl rfl (fun l' w hm => zch g a len cap z ((qT (xs.length : Int) - 1) + 1) _ _ _ hm hb (by constructor <;> omega)) ?_
  intro v57 p58 hR59
  obtain ⟨⟨xhR59, rfl, xhR590, xhR591⟩, rfl⟩ := hR59
  refine zee (l' := (rowE 3 1 ui xs.length (xs.map (Value.int .i64)) :: boxE b45 #[ui, .int .i64 0] 72 :: bigE bs2 :: rowE 35 3 uq ss.length (ss.flatMap sqC) :: rowE 72 2 u3 ls.length (ls.flatMap ltC) :: rowE 3 1 (.slice none 0 0) 0 ([]) :: boxE b24 #[.int .i64 n.ins, uq, u3, .slice none 0 0] 28 :: curE g a len cap :: ntE n :: boxE b23 #[.int .i64 n.ins, n.sv, n.av, n.ov] 101 :: boxE b1 #[.int .i64 0, .slice none 0 0, .slice none 0 0, .slice none 0 0] 28 :: l)) rfl ?_
  refine hvQ rfl (zaa (k0 := 1) rfl rfl rfl) (zei (i := 1) (cs' := #[ui, .int .i64 xhR59]) rfl rfl rfl rfl rfl rfl rfl rfl rfl rfl rfl ?_)
  refine ntQ (zbg (hvQ rfl (zaa (k0 := 2) rfl rfl rfl) (hvQ rfl (zaj rfl rfl rfl (zae 6 rfl rfl)) (hvQ rfl (zas (cs := [ui, .int .i64 xhR59]) rfl rfl rfl rfl rfl (zao 1 rfl 0 rfl)) ?_))))
  refine zdw rfl (zav (z := .agg #[.slice none 0 0, .int .i64 0]) (s := 2) (cs := [ui, .int .i64 xhR59]) rfl Try.underlying25 rfl (by decide) rfl (by kernel_rfl) rfl) ?_
  intro g60
  refine zcp (i := 1) rfl (fun ho61 => ?_)
  refine zci (i := 5) (z := .agg #[.slice none 0 0, .int .i64 0]) (bytes := 32) rfl rfl rfl rfl Try.underlying25 (by kernel_rfl) rfl rfl rfl rfl (zag 0 rfl) (zaf ho61 (zaf rfl zbo)) (by first | omega | (simp only [List.length_append, List.length_cons, List.length_nil]; omega)) (zbx ls [(Lt.mk ui xs xhR59)]) (zcy ltC ls (Lt.mk ui xs xhR59) _ rfl) (fun _ => rfl) ?_
  intro v62
  refine hvQ rfl (zaa (k0 := 2) rfl rfl rfl) (zcp (i := 5) rfl (fun ho63 => ?_))
  refine zei (i := 7) (cs' := #[.int .i64 n.ins, uq, v62, .slice none 0 0]) rfl rfl rfl rfl rfl rfl ho63 rfl rfl rfl rfl (zcf (zcv (reQ 1 rfl (hvQ rfl (vaQ rfl rfl rfl) (enQ 1 rfl ?_)))))
  refine zbj 12 [11, 10, 9, 8, 7, 6, 5, 4, 1, 3] rfl rfl (by decide) ?_
  refine zcr 2 rfl ?_
  exact zbu (j + 1) v62 (ls ++ [(Lt.mk ui xs xhR59)]) [bigE bs2, rowE 3 1 ui xs.length (xs.map (Value.int .i64))] ⟨by omega, by rw [List.length_append, List.length_singleton]; omega, hlo.app ⟨⟨by show xs.length ≤ 4; omega, by rw [show n.fst + (ls.length : Int) = n.fst + (j : Int) by omega]; exact hxb⟩, ⟨by show 0 ≤ (xs.length : Int) ∧ (xs.length : Int) ≤ 4; omega, by dsimp only; omega⟩⟩, fun w hw => ⟨(hbs2 w (zaz hw List.mem_cons_self)).1, (hbs2 w (zaz hw List.mem_cons_self)).2.app (zbm (zaz hw (List.mem_cons_of_mem _ List.mem_cons_self)))⟩⟩ (by omega) (saQ rfl) (.refl _)
 refine ntQ (zaq rfl ?_)
 refine zbb (zds ?_)
 refine zai (zay (zac (zac (reQ 1 rfl ?_))))
 refine zdd (R := (fun u_ p_ => (∃ x_ : Int, u_ = .int .i64 x_ ∧ 0 ≤ x_ ∧ x_ < 3) ∧ p_ = curE g a len cap)) 5 rfl rfl rfl rfl rfl (fun l' w hm => zch g a len cap z 3 _ _ _ hm hb (by constructor <;> omega)) ?_
 intro v64 p65 hR66
 obtain ⟨⟨xhR66, rfl, xhR660, xhR661⟩, rfl⟩ := hR66
 refine zee (l' := (bigE bs2 :: rowE 35 3 uq ss.length (ss.flatMap sqC) :: rowE 72 2 u3 ls.length (ls.flatMap ltC) :: rowE 3 1 (.slice none 0 0) 0 ([]) :: boxE b24 #[.int .i64 n.ins, uq, u3, .slice none 0 0] 28 :: curE g a len cap :: ntE n :: boxE b23 #[.int .i64 n.ins, n.sv, n.av, n.ov] 101 :: boxE b1 #[.int .i64 0, .slice none 0 0, .slice none 0 0, .slice none 0 0] 28 :: l)) rfl ?_
 refine zbc 1 rfl (zax ?_)
 refine lkQ3 (α := Int) (β := Value) (γ := List Int) [0, 2, 6, 7, 8, 9, 18, 46, 93] rfl (fun k uo os => (bigE bs2 :: rowE 35 3 uq ss.length (ss.flatMap sqC) :: rowE 72 2 u3 ls.length (ls.flatMap ltC) :: rowE 3 1 uo os.length (os.map (Value.int .i64)) :: boxE b24 #[.int .i64 n.ins, uq, u3, uo] 28 :: curE g a len cap :: ntE n :: boxE b23 #[.int .i64 n.ins, n.sv, n.av, n.ov] 101 :: boxE b1 #[.int .i64 0, .slice none 0 0, .slice none 0 0, .slice none 0 0] 28 :: l)) (fun k uo os => [(16, .int .i64 k)]) (fun k uo os => (-1 ≤ k ∧ k ≤ 3) ∧ (os.length : Int) + k ≤ 3 ∧ BelowP os (n.fst + xhR27)) (fun k uo os => (k + 1).toNat) _ _ [] ⟨by omega, by simp; omega, BelowP.nil _⟩ (saQ rfl) (.refl _) ?_
 intro k uo os hi67
 obtain ⟨hk0, hol, hoo⟩ := hi67
 refine zac (zac (reQ 1 rfl ?_))
 refine zff rfl rfl rfl rfl rfl rfl (fun h68 => ?_) (fun h68 => ?_)
 ·
  refine ntQ (zan rfl (zcq (sbQ ?_)))
  refine zfd 9 [8, 7, 6, 4, 3, 2, 1, 0, 5] rfl rfl (by decide) ?_
  refine zfe (l := (bigE bs2 :: rowE 35 3 uq ss.length (ss.flatMap sqC) :: rowE 72 2 u3 ls.length (ls.flatMap ltC) :: rowE 3 1 uo os.length (os.map (Value.int .i64)) :: boxE b24 #[.int .i64 n.ins, uq, u3, uo] 28 :: ntE n :: boxE b23 #[.int .i64 n.ins, n.sv, n.av, n.ov] 101 :: boxE b1 #[.int .i64 0, .slice none 0 0, .slice none 0 0, .slice none 0 0] 28 :: l)) rfl 10 [0, 1, 2, 3, 4, 5, 6, 7, 8, 9] (List.take 10 _) (List.drop 10 _) [[], [0], [], [2], [], [], [5], [4, 6], [3, 7], [7, 8]] [141, 142, 143, 144, 145, 146, 147, 148, 149, 150] (fun i_ vs_ v_ p_ => match i_ with | 0 => v_ = .pointer (some ⟨b24, 0 + 3, none⟩) ∧ p_ = [] | 1 => v_ = uo ∧ p_ = [] | 2 => v_ = .int .i64 (n.fst + xhR27) ∧ p_ = [] | 3 => v_ = .int .i64 ((n.fst + xhR27) - 1) ∧ p_ = [] | 4 => v_ = .pointer (some ⟨g, 0, none⟩) ∧ p_ = [] | 5 => v_ = .int .i64 (n.fst + xhR27) ∧ p_ = [] | 6 => v_ = .int .i64 (min (n.fst + xhR27) 6) ∧ p_ = [] | 7 => (∃ pm_, p_ = [pm_] ∧ (fun u_ p_ => (∃ x_ : Int, u_ = .int .i64 x_ ∧ 0 ≤ x_ ∧ x_ < min (n.fst + xhR27) 6) ∧ p_ = curE g a len cap) v_ pm_) | 8 => v_ = .int .i64 (((n.fst + xhR27) - 1) - (intOf_o (List.getD vs_ 1 undef))) ∧ p_ = [] | 9 => IsRow_o 3 1 1 ([((n.fst + xhR27) - 1) - (intOf_o (List.getD vs_ 0 undef))].map (Value.int .i64)) v_ p_ | _ => True) [[], [0], [], [2], [], [], [5], [4, 6], [3, 7], [7, 8]] [none, none, none, none, none, none, none, some 13, none, none] [curE g a len cap] [0, 1, 2, 3, 4, 5, 6, 7, 8, 9] 13 (List.take_append_drop 10 _).symm (by kernel_rfl) (by kernel_rfl) (by kernel_rfl) rfl rfl ?_ ?_
  ·
   refine ⟨?_, ?_, ?_, ?_, ?_, ?_, ?_, ?_, ?_, ?_, trivial⟩
   ·
    intro vf pf hmu hR
    refine dqQ [] [] rfl (zbr (zal [7] rfl) ?_)
    exact zbd (zaa (k0 := 3) rfl rfl rfl)
   ·
    intro vf pf hmu hR
    have e0 := hR 0 (by decide)
    refine dqQ [0] [0] rfl (zbq (sk 141 (congrArg some e0.1) (zad _)) (List.sublist_append_right _ _) ?_)
    exact zbd (zaj rfl rfl rfl (zae 4 rfl rfl))
   ·
    intro vf pf hmu hR
    refine dqQ [] [] rfl (zbr (zal [9] rfl) ?_)
    exact zbd (zah rfl)
   ·
    intro vf pf hmu hR
    have e2 := hR 2 (by decide)
    refine dqQ [2] [2] rfl (zbr (sk 143 (congrArg some e2.1) (zad _)) ?_)
    exact zbd (vsQ rfl rfl rfl)
   ·
    intro vf pf hmu hR
    refine dqQ [] [] rfl (zbr (zal [0] rfl) ?_)
    exact zbd (zah rfl)
   ·
    intro vf pf hmu hR
    refine dqQ [] [] rfl (zbr (zal [9] rfl) ?_)
    exact zbd (zah rfl)
   ·
    intro vf pf hmu hR
    have e5 := hR 5 (by decide)
    refine dqQ [5] [5] rfl (zbr (sk 146 (congrArg some e5.1) (zad _)) ?_)
    exact zbd (rv_min rfl rfl rfl)
   ·
    intro vf pf hmu hR
    have e4 := hR 4 (by decide)
    have e6 := hR 6 (by decide)
    refine Or.inl ⟨rfl, ?_⟩
    show RunM _ _ _ (pf 13) (([4, 6] : List Nat).flatMap pf ++ _) (envOf _ vf [4, 6] ++ _) _ _
    rw [hmu]
    exact zda (sk 145 (congrArg some e4.1) (sk 147 (congrArg some e6.1) (zad _))) (by simp only [e4.2, e6.2, fS] <;> rfl) (zdt (R := (fun u_ p_ => (∃ x_ : Int, u_ = .int .i64 x_ ∧ 0 ≤ x_ ∧ x_ < min (n.fst + xhR27) 6) ∧ p_ = curE g a len cap)) rfl rfl (fun L w hX hm => zch g a len cap z (min (n.fst + xhR27) 6) _ _ _ hm hb (by constructor <;> omega)))
   ·
    intro vf pf hmu hR
    have e3 := hR 3 (by decide)
    have e7 : (∃ pm_, (pf 7) = [pm_] ∧ (fun u_ p_ => (∃ x_ : Int, u_ = .int .i64 x_ ∧ 0 ≤ x_ ∧ x_ < min (n.fst + xhR27) 6) ∧ p_ = curE g a len cap) (vf 7) pm_) := hR 7 (by decide)
    obtain ⟨p70, pE7, hR71⟩ := e7
    obtain ⟨v69, vE7⟩ : ∃ x, vf 7 = x := ⟨_, rfl⟩
    rw [vE7] at hR71
    obtain ⟨⟨xhR71, rfl, xhR710, xhR711⟩, rfl⟩ := hR71
    refine dqQ [3, 7] [3, 7] rfl (zby (sk 144 (congrArg some e3.1) (sk 148 (congrArg some vE7) (zad _))) (by simp only [pE7, vE7, e3.2, fS] <;> rfl) ?_)
    exact zck (zbd (vsQ rfl rfl rfl)) (fun _ _ h => ⟨h.1.trans (by show _ = (.int .i64 (((n.fst + xhR27) - 1) - (intOf_o (vf 7))) : Value); first | (rw [vE7]; done) | (rw [vE7]; rfl)), h.2⟩)
   intro vf pf hmu hR
   have e7 : (∃ pm_, (pf 7) = [pm_] ∧ (fun u_ p_ => (∃ x_ : Int, u_ = .int .i64 x_ ∧ 0 ≤ x_ ∧ x_ < min (n.fst + xhR27) 6) ∧ p_ = curE g a len cap) (vf 7) pm_) := hR 7 (by decide)
   obtain ⟨p70, pE7, hR71⟩ := e7
   obtain ⟨v69, vE7⟩ : ∃ x, vf 7 = x := ⟨_, rfl⟩
   rw [vE7] at hR71
   obtain ⟨⟨xhR71, rfl, xhR710, xhR711⟩, rfl⟩ := hR71
   have e8 : (vf 8) = .int .i64 (((n.fst + xhR27) - 1) - (intOf_o (vf 7))) ∧ (pf 8) = [] := hR 8 (by decide)
   rw [vE7] at e8
   refine dqQ [7, 8] [7, 8] rfl (zby (sk 149 (congrArg some e8.1) (zad _)) (by simp only [pE7, vE7, e8.2, fS] <;> rfl) ?_)
   exact zck (zav (z := .int .i64 0) (s := 1) (cs := ([((n.fst + xhR27) - 1) - xhR71].map (Value.int .i64))) rfl Try.underlying26 rfl (by decide) rfl (by kernel_rfl) rfl) (fun v_ p_ h => by show IsRow_o 3 1 1 ([((n.fst + xhR27) - 1) - (intOf_o (vf 7))].map (Value.int .i64)) v_ p_; rw [vE7]; exact h)
  intro vf pf hmu hR
  have e1 := hR 1 (by decide)
  have e7 : (∃ pm_, (pf 7) = [pm_] ∧ (fun u_ p_ => (∃ x_ : Int, u_ = .int .i64 x_ ∧ 0 ≤ x_ ∧ x_ < min (n.fst + xhR27) 6) ∧ p_ = curE g a len cap) (vf 7) pm_) := hR 7 (by decide)
  obtain ⟨p70, pE7, hR71⟩ := e7
  obtain ⟨v69, vE7⟩ : ∃ x, vf 7 = x := ⟨_, rfl⟩
  rw [vE7] at hR71
  obtain ⟨⟨xhR71, rfl, xhR710, xhR711⟩, rfl⟩ := hR71
  have e9 : IsRow_o 3 1 1 ([((n.fst + xhR27) - 1) - (intOf_o (vf 7))].map (Value.int .i64)) (vf 9) (pf 9) := hR 9 (by decide)
  rw [vE7] at e9
  obtain ⟨g72, vE9, pE9⟩ := e9
  have q0 := hR 0 (by decide)
  have q1 := hR 1 (by decide)
  have q2 := hR 2 (by decide)
  have q3 := hR 3 (by decide)
  have q4 := hR 4 (by decide)
  have q5 := hR 5 (by decide)
  have q6 := hR 6 (by decide)
  have q8 := hR 8 (by decide)
  refine zcj (zbe [138, 93, 46, 18, 16, 9, 8, 7, 6, 2, 0] _ (sk 142 (congrArg some e1.1) (sk 150 (congrArg some vE9) (zad _))) rfl) (by simp only [pE7, vE7, pE9, vE9, q0.2, q1.2, q2.2, q3.2, q4.2, q5.2, q6.2, q8.2, fS] <;> rfl) ?_
  simp only [List.drop_succ_cons, List.drop_zero]
  refine zci (i := 5) (z := .int .i64 0) (bytes := 8) rfl rfl rfl rfl Try.underlying26 (by kernel_rfl) rfl rfl rfl rfl (zag 1 rfl) (zbz _) (by first | omega | (simp; done) | (simp; omega)) (zbx os ([((n.fst + xhR27) - 1) - xhR71])) (zco os ([((n.fst + xhR27) - 1) - xhR71])) (fun _ => rfl) ?_
  intro v73
  refine hvQ rfl (zaa (k0 := 3) rfl rfl rfl) (zcp (i := 5) rfl (fun ho74 => ?_))
  refine zei (i := 6) (cs' := #[.int .i64 n.ins, uq, u3, v73]) rfl rfl rfl rfl rfl rfl ho74 rfl rfl rfl rfl (zcf (zcv (reQ 1 rfl (hvQ rfl (vsQ rfl rfl rfl) (enQ 1 rfl ?_)))))
  refine zbj 10 [9, 8, 7, 0, 6, 5, 4, 3, 2] rfl rfl (by decide) ?_
  exact zbv (k - 1) v73 (os ++ ([((n.fst + xhR27) - 1) - xhR71])) ⟨by omega, by rw [List.length_append, List.length_singleton]; omega, hoo.app (by omega)⟩ (by omega) (saQ rfl) (.refl _)
 refine ntQ (zaq rfl ?_)
 refine zbb (zds ?_)
 refine zai (zay (srQ (hvQ rfl (zas (cs := [.int .i64 n.ins, uq, u3, uo]) rfl rfl rfl rfl rfl (zao 4 rfl 0 rfl)) ?_)))
 refine zcp (i := 3) rfl (fun ho75 => ?_)
 refine zcp (i := 2) rfl (fun ho76 => ?_)
 refine zcp (i := 1) rfl (fun ho77 => ?_)
 refine zcb (cs' := #[.int .i64 n.ins, uq, u3, uo]) (i := 8) (off := 0) (us := [.int .i64 n.ins, uq, u3, uo]) rfl rfl rfl rfl rfl rfl rfl (zaf rfl (zaf ho77 (zaf ho76 (zaf ho75 zbo)))) rfl rfl rfl (ntQ ?_)
 refine zaw (zdq (fun w hm => (zag 1 rfl w hm).one) (fun ho1 => ?_))
 refine zdq (fun w hm => (zag 2 rfl w hm).one) (fun ho2 => ?_)
 refine zdq (fun w hm => (zag 3 rfl w hm).one) (fun ho3 => ?_)
 refine zbj 9 [8, 5, 0, 3, 2, 1] rfl rfl (by decide) ?_
 refine zcr 4 rfl ?_
 refine zbj 3 [2, 0, 1] rfl rfl (by decide) ?_
 refine zcr 2 rfl ?_
 exact hq_ret (rs := [.cell 2 28]) (vs := [.agg #[.int .i64 n.ins, uq, u3, uo]]) rfl ⟨⟨b1, 0, [.int .i64 n.ins, uq, u3, uo], rfl, rfl, by kernel_rfl, by kernel_rfl, zao 1 rfl 0 rfl⟩, trivial⟩ rfl (fun w hm => ⟨_, bigE [curE g a len cap, bigE [rowE 35 3 uq ss.length (ss.flatMap sqC), rowE 72 2 u3 ls.length (ls.flatMap ltC), rowE 3 1 uo os.length (os.map (Value.int .i64)), bigE bs2]], rfl, ⟨_, (Ln.mk n.ins uq u3 uo ss ls os), rfl, rfl, fun w hw => ⟨⟨zbm (zaz hw List.mem_cons_self), (hbs2 w (zaz hw (List.mem_cons_of_mem _ (List.mem_cons_of_mem _ (List.mem_cons_of_mem _ List.mem_cons_self))))).1⟩, ⟨zbm (zaz hw (List.mem_cons_of_mem _ List.mem_cons_self)), (hbs2 w (zaz hw (List.mem_cons_of_mem _ (List.mem_cons_of_mem _ (List.mem_cons_of_mem _ List.mem_cons_self))))).2⟩, zbm (zaz hw (List.mem_cons_of_mem _ (List.mem_cons_of_mem _ List.mem_cons_self)))⟩, ⟨ho1, ho2, ho3⟩, ln_mk hn (by omega) (by omega) (by omega) (by rw [show n.fst + (ls.length : Int) = n.fst + xhR27 by omega]; exact hoo) (by rw [show n.fst + (ls.length : Int) = n.fst + xhR27 by omega]; exact hsn) hlo⟩, hm.sub (.cons_cons _ (.cons _ (.refl _)))⟩)
theorem vt_len {n : Ln} (hn : LnOk n) {st : List Int} (hs : StP n st) (inp : Int) : ((valT n st inp).length : Int) = n.cnt := by
  have := hn.sz.i
  rw [zes, hs.len]; unfold Ln.cnt; omega
theorem sq_len {s : Sq} (h : SqOk s) : s.xs.length ≤ 4 ∧ (s.kd = 0 ∨ s.kd = 1) := by rcases h.kind with ⟨a, b, c⟩ | ⟨a, b, c⟩ <;> omega
open Go.RowKit
open Go.RowKit
open Go.RowKit
def mx (a b : Int) : Int := if a < b then b else a
theorem mx_le (a b : Int) : a ≤ mx a b ∧ b ≤ mx a b ∧ (mx a b = a ∨ mx a b = b) := by unfold mx; split <;> omega
def lutS (x : Td) (o : List Int) (r : List Bl) (i : Nat) : Nat → Int × Bool
  | 0 => (0, false)
  | j + 1 => if (r.getD ((x.n.ls.getD i lt0).xs.getD j 0).toNat bl0).b = true then (mx (lutS x o r i j).1 (o.getD ((x.n.ls.getD i lt0).xs.getD j 0).toNat 0 + (x.dl.getD i ir0).xs.getD j 0), true) else lutS x o r i j
def stp (x : Td) (o : List Int) (r : List Bl) (m : Nat) : Int × Bool :=
  if m = 0 then (0, false) else if (m : Int) ≤ x.n.ins then (0, true) else if (m : Int) < x.n.fst then (x.ks.getD ((m : Int) - 1 - x.n.ins).toNat 0, true) else lutS x o r ((m : Int) - x.n.fst).toNat (x.n.ls.getD ((m : Int) - x.n.fst).toNat lt0).xs.length
def sL (x : Td) : Nat → List Int × List Bl
  | 0 => ([], [])
  | m + 1 => ((sL x m).1 ++ [(stp x (sL x m).1 (sL x m).2 m).1], (sL x m).2 ++ [⟨(stp x (sL x m).1 (sL x m).2 m).2⟩])
theorem sL_succ (x : Td) (m : Nat) : sL x (m + 1) = ((sL x m).1 ++ [(stp x (sL x m).1 (sL x m).2 m).1], (sL x m).2 ++ [⟨(stp x (sL x m).1 (sL x m).2 m).2⟩]) := rfl
theorem sL_len (x : Td) : ∀ m, (sL x m).1.length = m ∧ (sL x m).2.length = m
  | 0 => ⟨rfl, rfl⟩
  | m + 1 => by have := sL_len x m; unfold sL; simp [this.1, this.2]
theorem sL_pre (x : Td) : ∀ m k, k < m → (sL x m).1.getD k 0 = (stp x (sL x k).1 (sL x k).2 k).1 ∧ ((sL x m).2.getD k bl0).b = (stp x (sL x k).1 (sL x k).2 k).2
  | 0, k, h => by omega
  | m + 1, k, h => by
    obtain ⟨l1, l2⟩ := sL_len x m
    rw [sL_succ]
    by_cases e : k < m
    · rw [zct (by omega), zct (by omega)]; exact sL_pre x m k e
    · obtain rfl : k = m := by omega
      constructor
      · show ((sL x k).1 ++ [_]).getD k 0 = _; rw [zde (by omega), l1, Nat.sub_self]; rfl
      · show (((sL x k).2 ++ [_]).getD k bl0).b = _; rw [zde (by omega), l2, Nat.sub_self]; rfl
/-- the greatest sum -/
def MaxV (ps : List Pt) (D : Int → Nat → Int) (k : Nat) (v : Int) : Prop := (∀ p ∈ ps, 0 ≤ D p.n k → p.s + D p.n k ≤ v) ∧ 0 ≤ v ∧ (v = 0 ∨ ∃ p ∈ ps, 0 ≤ D p.n k ∧ v = p.s + D p.n k)
theorem MaxV.uniq {ps : List Pt} {D : Int → Nat → Int} {k : Nat} {v w : Int} (h1 : MaxV ps D k v) (h2 : MaxV ps D k w) : v = w := by
  obtain ⟨a1, a2, a3⟩ := h1
  obtain ⟨b1, b2, b3⟩ := h2
  have hvw : v ≤ w := by
    rcases a3 with e | ⟨p, hp, hd, e⟩
    · omega
    · have := b1 p hp hd; omega
  have hwv : w ≤ v := by
    rcases b3 with e | ⟨p, hp, hd, e⟩
    · omega
    · have := a1 p hp hd; omega
  omega
def accF (D : Int → Nat → Int) (q : Nat) (ps : List Pt) : Int := ps.foldl (fun a p => if 0 ≤ D p.n q then mx a (p.s + D p.n q) else a) 0
theorem acc_snoc (D : Int → Nat → Int) (q : Nat) (ps : List Pt) (p : Pt) : accF D q (ps ++ [p]) = if 0 ≤ D p.n q then mx (accF D q ps) (p.s + D p.n q) else accF D q ps := by unfold accF; rw [List.foldl_append]; rfl
theorem acc_max (D : Int → Nat → Int) (q : Nat) : ∀ (k : Nat) (ps : List Pt), k ≤ ps.length → MaxV (ps.take k) D q (accF D q (ps.take k))
  | 0, ps, _ => ⟨fun p hp => by simp at hp, Int.le_refl _, .inl rfl⟩
  | k + 1, ps, h => by
    obtain ⟨a, b, c⟩ := acc_max D q k ps (by omega)
    rw [zer pt0 (by omega), acc_snoc]
    by_cases hd : 0 ≤ D (ps.getD k pt0).n q
    · rw [if_pos hd]
      obtain ⟨m1, m2, m3⟩ := mx_le (accF D q (ps.take k)) ((ps.getD k pt0).s + D (ps.getD k pt0).n q)
      refine ⟨fun p hp h0 => ?_, by omega, ?_⟩
      · rcases List.mem_append.1 hp with hp | hp
        · have := a p hp h0; omega
        · rw [List.mem_singleton] at hp; subst hp; omega
      · rcases m3 with e | e
        · rcases c with c | ⟨p, hp, h0, c⟩
          · left; omega
          · right; exact ⟨p, List.mem_append_left _ hp, h0, by omega⟩
        · right; exact ⟨_, List.mem_append_right _ (List.mem_singleton.2 rfl), hd, e⟩
    · rw [if_neg hd]
      refine ⟨fun p hp h0 => ?_, b, ?_⟩
      · rcases List.mem_append.1 hp with hp | hp
        · exact a p hp h0
        · rw [List.mem_singleton] at hp; subst hp; exact absurd h0 hd
      · rcases c with c | ⟨p, hp, h0, c⟩
        · left; exact c
        · right; exact ⟨p, List.mem_append_left _ hp, h0, c⟩
/-- a fold of longest delays over some arcs -/
theorem fold_maxS {out : List Int} : ∀ (l : List Arc) (b : Int), (∀ a ∈ l, 0 ≤ a.d) → -1 ≤ b →
    (b ≤ l.foldl (stepD true out) b) ∧ (∀ a ∈ l, 0 ≤ out.getD a.f.toNat 0 → out.getD a.f.toNat 0 + a.d ≤ l.foldl (stepD true out) b) ∧ (l.foldl (stepD true out) b = b ∨ ∃ a ∈ l, 0 ≤ out.getD a.f.toNat 0 ∧ l.foldl (stepD true out) b = out.getD a.f.toNat 0 + a.d)
  | [], b, _, _ => And.intro (Int.le_refl _) (And.intro (fun a ha => absurd ha List.not_mem_nil) (Or.inl rfl))
  | a :: l, b, hd, hb => by
    have hda : 0 ≤ a.d := hd a List.mem_cons_self
    have hs : stepD true out b a = if out.getD a.f.toNat 0 < 0 then b else if b < out.getD a.f.toNat 0 + a.d then out.getD a.f.toNat 0 + a.d else b := by
      unfold stepD
      by_cases h1 : out.getD a.f.toNat 0 < 0
      · rw [if_pos h1, if_pos h1]
      · rw [if_neg h1, if_neg h1]
        by_cases h2 : b < out.getD a.f.toNat 0 + a.d
        · rw [if_pos (.inr (.inl ⟨rfl, h2⟩)), if_pos h2]
        · rw [if_neg h2, if_neg (by rintro (h | ⟨-, h⟩ | ⟨h, -⟩); omega; exact h2 h; cases h)]
    have hb2 : b ≤ stepD true out b a ∧ -1 ≤ stepD true out b a := by rw [hs]; constructor <;> (split <;> (try split) <;> omega)
    obtain ⟨i1, i2, i3⟩ := fold_maxS (out := out) l (stepD true out b a) (fun c hc => hd c (List.mem_cons_of_mem _ hc)) hb2.2
    rw [List.foldl_cons]
    refine ⟨by omega, fun c hc h0 => ?_, ?_⟩
    · rcases List.mem_cons.1 hc with rfl | hc
      · have : out.getD c.f.toNat 0 + c.d ≤ stepD true out b c := by rw [hs, if_neg (by omega)]; split <;> omega
        omega
      · exact i2 c hc h0
    · rcases i3 with e | ⟨c, hc, h0, e⟩
      · by_cases h1 : out.getD a.f.toNat 0 < 0
        · left; rw [e, hs, if_pos h1]
        · by_cases h2 : b < out.getD a.f.toNat 0 + a.d
          · right; exact ⟨a, List.mem_cons_self, by omega, by rw [e, hs, if_neg h1, if_pos h2]⟩
          · left; rw [e, hs, if_neg h1, if_neg h2]
      · right; exact ⟨c, List.mem_cons_of_mem _ hc, h0, e⟩
theorem into_app (u v : List Arc) (k : Nat) : intoL (u ++ v) k = intoL u k ++ intoL v k := List.filter_append ..
theorem into_none {u : List Arc} {k : Nat} (h : ∀ a ∈ u, a.t ≠ (k : Int)) : intoL u k = [] := by
  unfold intoL; rw [List.filter_eq_nil_iff]; intro a ha; simpa using h a ha
theorem into_same {u : List Arc} {k : Nat} (h : ∀ a ∈ u, a.t = (k : Int)) : intoL u k = u := by
  unfold intoL; rw [List.filter_eq_self]; intro a ha; simpa using h a ha
def blkI (x : Td) (i : Nat) : List Arc := (List.range (x.n.ls.getD i lt0).xs.length).map (fun j => ⟨(x.n.ls.getD i lt0).xs.getD j 0, x.n.fst + i, (x.dl.getD i ir0).xs.getD j 0⟩)
theorem blk_t {x : Td} {i : Nat} {a : Arc} (h : a ∈ blkI x i) : a.t = x.n.fst + i := by
  unfold blkI at h; obtain ⟨j, -, rfl⟩ := List.mem_map.1 h; rfl
theorem into_arcL (x : Td) (h0 : 0 ≤ x.n.fst) (i : Nat) : ∀ m, intoL (arcL x m) (x.n.fst + i).toNat = if i < m then blkI x i else []
  | 0 => rfl
  | m + 1 => by
    have e : (((x.n.fst + i).toNat : Nat) : Int) = x.n.fst + i := by omega
    show intoL (arcL x m ++ blkI x m) _ = _
    rw [into_app, into_arcL x h0 i m]
    by_cases h1 : i = m
    · subst h1
      rw [if_neg (by omega), if_pos (by omega), into_same (fun a ha => by rw [e]; exact blk_t ha), List.nil_append]
    · rw [into_none (u := blkI x m) (fun a ha => by rw [e, blk_t ha]; omega), List.append_nil]
      by_cases h2 : i < m
      · rw [if_pos h2, if_pos (by omega)]
      · rw [if_neg h2, if_neg (by omega)]
theorem arcL_t {x : Td} : ∀ {m : Nat} {a : Arc}, a ∈ arcL x m → x.n.fst ≤ a.t ∧ a.t < x.n.fst + m
  | 0, a, h => by cases h
  | m + 1, a, h => by
    rcases List.mem_append.1 (show a ∈ arcL x m ++ blkI x m from h) with h | h
    · have := arcL_t h; omega
    · have := blk_t h; omega
theorem into_arcS (x : Td) {k : Nat} (hk : (k : Int) < x.n.cnt) : ∀ m, intoL (arcS x m) k = intoL (arcL x x.n.ls.length) k
  | 0 => rfl
  | m + 1 => by
    unfold arcS
    rw [into_app, into_arcS x hk m, into_none (u := List.map _ _) (fun a ha => by
      obtain ⟨j, -, rfl⟩ := List.mem_map.1 ha
      show x.n.cnt + (nS x m : Int) + j ≠ k; omega), List.append_nil]
theorem lau_mem {x : Td} {K : Nat} {p : Pt} : p ∈ lauB x K ↔ (∃ q : Nat, q < x.n.ins.toNat ∧ p = ⟨1 + q, 0⟩) ∨ (∃ q : Nat, q < K ∧ p = ⟨1 + x.n.ins + q, x.ks.getD q 0⟩) := by
  unfold lauB lauA
  rw [List.mem_append, List.mem_map, List.mem_map]
  constructor
  · rintro (⟨q, hq, rfl⟩ | ⟨q, hq, rfl⟩)
    · exact .inl ⟨q, List.mem_range.1 hq, rfl⟩
    · exact .inr ⟨q, List.mem_range.1 hq, rfl⟩
  · rintro (⟨q, hq, rfl⟩ | ⟨q, hq, rfl⟩)
    · exact .inl ⟨q, List.mem_range.2 hq, rfl⟩
    · exact .inr ⟨q, List.mem_range.2 hq, rfl⟩
abbrev gsX (x : Td) : List Arc := arcS x x.n.ss.length
abbrev psX (x : Td) : List Pt := lauB x x.ks.length
abbrev DX (x : Td) : Int → Nat → Int := fun s k => Dl true (gsX x) s k
theorem ps_rng {x : Td} (h : TdOk x) {p : Pt} (hp : p ∈ psX x) : 1 ≤ p.n ∧ p.n < x.n.fst ∧ 0 ≤ p.s := by
  have hb := h.bnd
  have hf : x.n.fst = 1 + x.n.ins + x.n.ss.length := rfl
  have h0 := hb.i
  rcases lau_mem.1 hp with ⟨q, hq, rfl⟩ | ⟨q, hq, rfl⟩
  · exact ⟨by show (1 : Int) ≤ 1 + q; omega, by show (1 : Int) + q < _; omega, Int.le_refl _⟩
  · have := h.k.2 q hq
    have := hb.k
    exact ⟨by show (1 : Int) ≤ 1 + x.n.ins + q; omega, by show 1 + x.n.ins + (q : Int) < _; omega, by show 0 ≤ x.ks.getD q 0; omega⟩
theorem leaf_D {x : Td} (h : TdOk x) (s : Int) {k : Nat} (hk : (k : Int) < x.n.fst) : DX x s k = if (k : Int) = s then 0 else -1 := by
  have hb := h.bnd.i
  have hf : x.n.fst = 1 + x.n.ins + x.n.ss.length := rfl
  have hc : x.n.cnt = x.n.fst + x.n.ls.length := rfl
  show Dl true (gsX x) s k = _
  rw [Dl_def, into_arcS x (by omega), into_none (fun a ha => by have := arcL_t ha; omega)]; rfl
theorem gok_x {x : Td} (h : TdOk x) : GOk (x.n.cnt + nS x x.n.ss.length) (gsX x) := by
  have hb := h.bnd
  have hi := hb.i
  have hf : x.n.fst = 1 + x.n.ins + x.n.ss.length := rfl
  have hc : x.n.cnt = x.n.fst + x.n.ls.length := rfl
  have h1 := nS_le h.n x.n.ss.length (Nat.le_refl _)
  have h2 := arcL_le h.n x.n.ls.length (Nat.le_refl _)
  have hs := hb.s
  have hl := hb.l
  have blk : ∀ m, m ≤ x.n.ls.length → ∀ a ∈ arcL x m, ArcOk x.n.cnt a := by
    intro m
    induction m with
    | zero => intro _ a ha; cases ha
    | succ m ih =>
      intro hm a ha
      rcases List.mem_append.1 (show a ∈ arcL x m ++ blkI x m from ha) with ha | ha
      · exact ih (by omega) a ha
      · unfold blkI at ha
        obtain ⟨j, hj, rfl⟩ := List.mem_map.1 ha
        have hj' := List.mem_range.1 hj
        have a1 := (h.n.lt m (by omega)).1.2 j hj'
        have a2 := (h.dl m (by omega)).2 j (by have := (h.dl m (by omega)).1; omega)
        exact ⟨⟨a1.1, a1.2⟩, by show x.n.fst + (m : Int) < _; omega, a2.1, a2.2⟩
  have seq : ∀ m, m ≤ x.n.ss.length → ∀ a ∈ arcS x m, ArcOk (x.n.cnt + nS x m) a := by
    intro m
    induction m with
    | zero => intro _ a ha; have := blk _ (Nat.le_refl _) a ha; exact ⟨this.1, by have := this.2.1; show a.t < x.n.cnt + ((0 : Nat) : Int); omega, this.2.2⟩
    | succ m ih =>
      intro hm a ha
      unfold arcS at ha
      rcases List.mem_append.1 ha with ha | ha
      · have := ih (by omega) a ha
        exact ⟨this.1, by have := this.2.1; show a.t < x.n.cnt + ((nS x m + (x.n.ss.getD m sq0).xs.length : Nat) : Int); omega, this.2.2⟩
      · obtain ⟨j, hj, rfl⟩ := List.mem_map.1 ha
        have hj' := List.mem_range.1 hj
        have a1 := (h.n.sq m (by omega)).2 j hj'
        have a2 := (h.ds m (by omega)).2 j (by have := (h.ds m (by omega)).1; omega)
        exact ⟨⟨a1.1, by show (x.n.ss.getD m sq0).xs.getD j 0 < x.n.cnt + (nS x m : Int) + j; omega⟩, by show x.n.cnt + (nS x m : Int) + j < x.n.cnt + ((nS x m + (x.n.ss.getD m sq0).xs.length : Nat) : Int); omega, a2.1, a2.2⟩
  exact ⟨by omega, by omega, by rw [arcS_len]; omega, seq _ (Nat.le_refl _)⟩
theorem lutS_max (x : Td) (o : List Int) (r : List Bl) (i : Nat) (hd : ∀ j, j < (x.n.ls.getD i lt0).xs.length → 0 ≤ (x.dl.getD i ir0).xs.getD j 0) (ho : ∀ q, 0 ≤ o.getD q 0) : ∀ k, k ≤ (x.n.ls.getD i lt0).xs.length →
    (∀ j, j < k → (r.getD ((x.n.ls.getD i lt0).xs.getD j 0).toNat bl0).b = true → o.getD ((x.n.ls.getD i lt0).xs.getD j 0).toNat 0 + (x.dl.getD i ir0).xs.getD j 0 ≤ (lutS x o r i k).1) ∧ 0 ≤ (lutS x o r i k).1 ∧
    ((lutS x o r i k).1 = 0 ∨ ∃ j, j < k ∧ (r.getD ((x.n.ls.getD i lt0).xs.getD j 0).toNat bl0).b = true ∧ (lutS x o r i k).1 = o.getD ((x.n.ls.getD i lt0).xs.getD j 0).toNat 0 + (x.dl.getD i ir0).xs.getD j 0) ∧
    ((lutS x o r i k).2 = true ↔ ∃ j, j < k ∧ (r.getD ((x.n.ls.getD i lt0).xs.getD j 0).toNat bl0).b = true)
  | 0, _ => ⟨fun j hj => absurd hj (by omega), Int.le_refl _, Or.inl rfl, Iff.intro (fun h => absurd h Bool.false_ne_true) (fun ⟨j, hj, _⟩ => absurd hj (by omega))⟩
  | k + 1, hk => by
    obtain ⟨a, b, c, d⟩ := lutS_max x o r i hd ho k (by omega)
    unfold lutS
    by_cases hr : (r.getD ((x.n.ls.getD i lt0).xs.getD k 0).toNat bl0).b = true
    · rw [if_pos hr]
      obtain ⟨m1, m2, m3⟩ := mx_le (lutS x o r i k).1 (o.getD ((x.n.ls.getD i lt0).xs.getD k 0).toNat 0 + (x.dl.getD i ir0).xs.getD k 0)
      have h1 := hd k (by omega)
      have h2 := ho ((x.n.ls.getD i lt0).xs.getD k 0).toNat
      refine ⟨fun j hj hrj => ?_, by show 0 ≤ mx _ _; omega, ?_, ⟨fun _ => ⟨k, by omega, hr⟩, fun _ => rfl⟩⟩
      · show _ ≤ mx _ _
        by_cases e : j = k
        · subst e; exact m2
        · have := a j (by omega) hrj; omega
      · show mx _ _ = 0 ∨ ∃ j, _ ∧ _ ∧ mx _ _ = _
        rcases m3 with e | e
        · rcases c with c | ⟨j, hj, hrj, c⟩
          · left; rw [e]; exact c
          · right; exact ⟨j, by omega, hrj, by rw [e]; exact c⟩
        · right; exact ⟨k, by omega, hr, e⟩
    · rw [if_neg hr]
      refine ⟨fun j hj hrj => ?_, b, ?_, ?_⟩
      · by_cases e : j = k
        · subst e; exact absurd hrj hr
        · exact a j (by omega) hrj
      · rcases c with c | ⟨j, hj, hrj, c⟩
        · left; exact c
        · right; exact ⟨j, by omega, hrj, c⟩
      · rw [d]
        constructor
        · rintro ⟨j, hj, hrj⟩; exact ⟨j, by omega, hrj⟩
        · rintro ⟨j, hj, hrj⟩
          by_cases e : j = k
          · subst e; exact absurd hrj hr
          · exact ⟨j, by omega, hrj⟩
theorem settle_max {x : Td} (h : TdOk x) : ∀ (N k : Nat), k < N → (k : Int) < x.n.cnt → MaxV (psX x) (DX x) k (stp x (sL x k).1 (sL x k).2 k).1 ∧ ((stp x (sL x k).1 (sL x k).2 k).2 = true ↔ ∃ p ∈ psX x, 0 ≤ DX x p.n k)
  | 0, k, hN, _ => by omega
  | N + 1, k, hN, hk => by
    have hb := h.bnd
    have hi := hb.i
    have hf : x.n.fst = 1 + x.n.ins + x.n.ss.length := rfl
    have hc : x.n.cnt = x.n.fst + x.n.ls.length := rfl
    by_cases hleaf : (k : Int) < x.n.fst
    · have hD : ∀ s, DX x s k = if (k : Int) = s then 0 else -1 := fun s => leaf_D h s hleaf
      have hpk : ∀ p ∈ psX x, 0 ≤ DX x p.n k → p.n = k ∧ DX x p.n k = 0 := fun p hp h0 => by
        rw [hD] at h0 ⊢
        by_cases e : (k : Int) = p.n
        · rw [if_pos e]; exact ⟨e.symm, rfl⟩
        · rw [if_neg e] at h0; omega
      unfold stp
      by_cases h0 : k = 0
      · rw [if_pos h0]
        have hno : ∀ p ∈ psX x, ¬ 0 ≤ DX x p.n k := fun p hp h9 => by have := (hpk p hp h9).1; have := (ps_rng h hp).1; omega
        exact ⟨⟨fun p hp h9 => absurd h9 (hno p hp), Int.le_refl _, .inl rfl⟩, ⟨fun h9 => absurd h9 Bool.false_ne_true, fun ⟨p, hp, h9⟩ => absurd h9 (hno p hp)⟩⟩
      · rw [if_neg h0]
        by_cases h1 : (k : Int) ≤ x.n.ins
        · rw [if_pos h1]
          have hmem : (⟨k, 0⟩ : Pt) ∈ psX x := lau_mem.2 (.inl ⟨k - 1, by omega, by rw [show (1 : Int) + ((k - 1 : Nat) : Int) = k by omega]⟩)
          have hdk : 0 ≤ DX x (k : Int) k := by rw [hD, if_pos rfl]; exact Int.le_refl _
          refine ⟨⟨fun p hp h9 => ?_, Int.le_refl _, .inl rfl⟩, ⟨fun _ => ⟨_, hmem, hdk⟩, fun _ => rfl⟩⟩
          obtain ⟨e1, e2⟩ := hpk p hp h9
          rw [e2]
          rcases lau_mem.1 hp with ⟨q, hq, rfl⟩ | ⟨q, hq, rfl⟩
          · exact Int.le_refl _
          · exfalso; have e3 : 1 + x.n.ins + (q : Int) = k := e1; omega
        · rw [if_neg h1, if_pos hleaf]
          have hq0 : ((k : Int) - 1 - x.n.ins).toNat < x.ks.length := by have := hb.k; omega
          have hmem : (⟨k, x.ks.getD ((k : Int) - 1 - x.n.ins).toNat 0⟩ : Pt) ∈ psX x := lau_mem.2 (.inr ⟨((k : Int) - 1 - x.n.ins).toNat, hq0, by rw [show 1 + x.n.ins + ((((k : Int) - 1 - x.n.ins).toNat : Nat) : Int) = k by omega]⟩)
          have hdk : DX x (k : Int) k = 0 := by rw [hD, if_pos rfl]
          have hs0 := (h.k.2 _ hq0).1
          refine ⟨⟨fun p hp h9 => ?_, hs0, .inr ⟨_, hmem, by show 0 ≤ DX x (k : Int) k; omega, by show _ = _ + DX x (k : Int) k; rw [hdk]; exact (Int.add_zero _).symm⟩⟩, ⟨fun _ => ⟨_, hmem, by show 0 ≤ DX x (k : Int) k; omega⟩, fun _ => rfl⟩⟩
          obtain ⟨e1, e2⟩ := hpk p hp h9
          rw [e2]
          rcases lau_mem.1 hp with ⟨q, hq, rfl⟩ | ⟨q, hq, rfl⟩
          · exfalso; have e3 : 1 + (q : Int) = k := e1; omega
          · have e3 : 1 + x.n.ins + (q : Int) = k := e1
            show x.ks.getD q 0 + 0 ≤ _
            rw [show ((k : Int) - 1 - x.n.ins).toNat = q by omega]; omega
    · obtain ⟨i, hik⟩ : ∃ i : Nat, (k : Int) = x.n.fst + i := ⟨((k : Int) - x.n.fst).toNat, by omega⟩
      have hil : i < x.n.ls.length := by omega
      have hki : k = (x.n.fst + i).toNat := by omega
      have hlt := h.n.lt i hil
      have hdl := h.dl i hil
      have hX : ∀ j, j < (x.n.ls.getD i lt0).xs.length → 0 ≤ (x.n.ls.getD i lt0).xs.getD j 0 ∧ (x.n.ls.getD i lt0).xs.getD j 0 < x.n.fst + i := fun j hj => hlt.1.2 j hj
      have hd : ∀ j, j < (x.n.ls.getD i lt0).xs.length → 0 ≤ (x.dl.getD i ir0).xs.getD j 0 := fun j hj => (hdl.2 j (by have := hdl.1; omega)).1
      have IH : ∀ j, j < (x.n.ls.getD i lt0).xs.length → MaxV (psX x) (DX x) ((x.n.ls.getD i lt0).xs.getD j 0).toNat ((sL x k).1.getD ((x.n.ls.getD i lt0).xs.getD j 0).toNat 0) ∧ (((sL x k).2.getD ((x.n.ls.getD i lt0).xs.getD j 0).toNat bl0).b = true ↔ ∃ p ∈ psX x, 0 ≤ DX x p.n ((x.n.ls.getD i lt0).xs.getD j 0).toNat) := fun j hj => by
        have := hX j hj
        obtain ⟨e1, e2⟩ := sL_pre x k ((x.n.ls.getD i lt0).xs.getD j 0).toNat (by omega)
        rw [e1, e2]
        exact settle_max h N _ (by omega) (by omega)
      have ho : ∀ q, 0 ≤ (sL x k).1.getD q 0 := fun q => by
        by_cases hq : q < k
        · rw [(sL_pre x k q hq).1]; exact (settle_max h N q (by omega) (by omega)).1.2.1
        · rw [List.getD_eq_getElem?_getD, List.getElem?_eq_none (by have := (sL_len x k).1; omega)]; exact Int.le_refl _
      have hst : stp x (sL x k).1 (sL x k).2 k = lutS x (sL x k).1 (sL x k).2 i (x.n.ls.getD i lt0).xs.length := by
        unfold stp
        rw [if_neg (by omega), if_neg (by omega), if_neg hleaf, show ((k : Int) - x.n.fst).toNat = i by omega]
      obtain ⟨a, b, c, d⟩ := lutS_max x (sL x k).1 (sL x k).2 i hd ho _ (Nat.le_refl _)
      rw [hst]
      -- a point's delay at the table
      have hDk : ∀ p ∈ psX x, (∀ j, j < (x.n.ls.getD i lt0).xs.length → 0 ≤ DX x p.n ((x.n.ls.getD i lt0).xs.getD j 0).toNat → DX x p.n ((x.n.ls.getD i lt0).xs.getD j 0).toNat + (x.dl.getD i ir0).xs.getD j 0 ≤ DX x p.n k) ∧
          (0 ≤ DX x p.n k → ∃ j, j < (x.n.ls.getD i lt0).xs.length ∧ 0 ≤ DX x p.n ((x.n.ls.getD i lt0).xs.getD j 0).toNat ∧ DX x p.n k = DX x p.n ((x.n.ls.getD i lt0).xs.getD j 0).toNat + (x.dl.getD i ir0).xs.getD j 0) := fun p hp => by
        have hpr := ps_rng h hp
        have hE : DX x p.n k = (blkI x i).foldl (stepD true (delL true (gsX x) p.n k)) (-1) := by
          show Dl true (gsX x) p.n k = _
          rw [Dl_def, if_neg (by omega), into_arcS x hk, hki, into_arcL x (by omega) i, if_pos hil]
        have hat : ∀ j, j < (x.n.ls.getD i lt0).xs.length → (delL true (gsX x) p.n k).getD ((x.n.ls.getD i lt0).xs.getD j 0).toNat 0 = DX x p.n ((x.n.ls.getD i lt0).xs.getD j 0).toNat := fun j hj => by
          have := hX j hj; exact del_at true (gsX x) p.n k _ (by omega)
        obtain ⟨f1, f2, f3⟩ := fold_maxS (out := delL true (gsX x) p.n k) (blkI x i) (-1) (fun q hq => by unfold blkI at hq; obtain ⟨j, hj, rfl⟩ := List.mem_map.1 hq; exact hd j (List.mem_range.1 hj)) (Int.le_refl _)
        rw [← hE] at f1 f2 f3
        refine ⟨fun j hj h9 => ?_, fun h9 => ?_⟩
        · have := f2 ⟨(x.n.ls.getD i lt0).xs.getD j 0, x.n.fst + i, (x.dl.getD i ir0).xs.getD j 0⟩ (by unfold blkI; exact List.mem_map.2 ⟨j, List.mem_range.2 hj, rfl⟩) (by rw [hat j hj]; exact h9)
          rw [hat j hj] at this; exact this
        · rcases f3 with e | ⟨q, hq, h8, e⟩
          · omega
          · unfold blkI at hq
            obtain ⟨j, hj, rfl⟩ := List.mem_map.1 hq
            have hj' := List.mem_range.1 hj
            exact ⟨j, hj', by rw [← hat j hj']; exact h8, by rw [← hat j hj']; exact e⟩
      have up : ∀ p ∈ psX x, 0 ≤ DX x p.n k → p.s + DX x p.n k ≤ (lutS x (sL x k).1 (sL x k).2 i (x.n.ls.getD i lt0).xs.length).1 := fun p hp h9 => by
        obtain ⟨j, hj, h8, e⟩ := (hDk p hp).2 h9
        have h7 := (IH j hj).1.1 p hp h8
        have h6 := a j hj ((IH j hj).2.2 ⟨p, hp, h8⟩)
        rw [e]; omega
      refine ⟨⟨up, b, ?_⟩, ?_⟩
      · rcases c with c | ⟨j, hj, hrj, c⟩
        · left; exact c
        · right
          obtain ⟨p0, hp0, hd0⟩ := (IH j hj).2.1 hrj
          obtain ⟨p, hp, h8, e⟩ : ∃ p ∈ psX x, 0 ≤ DX x p.n ((x.n.ls.getD i lt0).xs.getD j 0).toNat ∧ (sL x k).1.getD ((x.n.ls.getD i lt0).xs.getD j 0).toNat 0 = p.s + DX x p.n ((x.n.ls.getD i lt0).xs.getD j 0).toNat := by
            rcases (IH j hj).1.2.2 with e | e
            · have h7 := (IH j hj).1.1 p0 hp0 hd0
              have h6 := (ps_rng h hp0).2.2
              exact ⟨p0, hp0, hd0, by omega⟩
            · exact e
          have h5 := (hDk p hp).1 j hj h8
          have h4 := hd j hj
          have h3 := up p hp (by omega)
          exact ⟨p, hp, by omega, by omega⟩
      · rw [d]
        constructor
        · rintro ⟨j, hj, hrj⟩
          obtain ⟨p, hp, h8⟩ := (IH j hj).2.1 hrj
          have h5 := (hDk p hp).1 j hj h8
          have h4 := hd j hj
          exact ⟨p, hp, by omega⟩
        · rintro ⟨p, hp, h9⟩
          obtain ⟨j, hj, h8, -⟩ := (hDk p hp).2 h9
          exact ⟨j, hj, (IH j hj).2.2 ⟨p, hp, h8⟩⟩
/-- the settle times of both -/
def setL (x : Td) : List Int := (List.range x.n.cnt.toNat).map (fun q => accF (DX x) q (psX x))
theorem settle_eq {x : Td} (h : TdOk x) : (sL x x.n.cnt.toNat).1 = setL x := by
  have hb := h.bnd.i
  have hc : x.n.cnt = 1 + x.n.ins + x.n.ss.length + x.n.ls.length := rfl
  refine ext_getD (d := 0) (by rw [(sL_len x _).1]; simp [setL]) (fun q hq => ?_)
  rw [(sL_len x _).1] at hq
  rw [(sL_pre x _ q hq).1]
  have h1 := (settle_max h (q + 1) q (by omega) (by omega)).1
  have h2 := acc_max (DX x) q (psX x).length (psX x) (Nat.le_refl _)
  rw [List.take_length] at h2
  rw [h1.uniq h2]
  simp [setL, hq]
noncomputable def setR (x : Td) : List Int := if pB (TdOk x) = true then setL x else []
def fzB (C : Nat) (vs : List Bl) : List Bl := vs ++ List.replicate (C - vs.length) bl0
theorem fzB_len {C : Nat} {vs : List Bl} (h : vs.length ≤ C) : (fzB C vs).length = C := by simp [fzB]; omega
theorem fzB_set {C : Nat} {vs : List Bl} {x : Bl} {j : Nat} (hj : j = vs.length) (h : vs.length < C) : (fzB C vs).set j x = fzB C (vs ++ [x]) := by
  subst hj
  unfold fzB
  rw [List.set_append_right _ _ (Nat.le_refl _), Nat.sub_self, List.length_append, List.length_singleton, show C - vs.length = (C - (vs.length + 1)) + 1 by omega, List.replicate_succ, List.set_cons_zero]
  simp
theorem fz_zero {C : Nat} {vs : List Int} (h : vs.length < C) : fzT C (vs ++ [0]) = fzT C vs := by
  unfold fzT
  rw [List.length_append, List.length_singleton, show C - vs.length = (C - (vs.length + 1)) + 1 by omega, List.replicate_succ, List.append_assoc]; rfl
theorem fzB_zero {C : Nat} {vs : List Bl} (h : vs.length < C) : fzB C (vs ++ [⟨false⟩]) = fzB C vs := by
  unfold fzB
  rw [List.length_append, List.length_singleton, show C - vs.length = (C - (vs.length + 1)) + 1 by omega, List.replicate_succ, List.append_assoc]; rfl
theorem fz_reset {C : Nat} {vs : List Int} {a b : Int} {j : Nat} (hj : j = vs.length) (h : vs.length < C) : (fzT C (vs ++ [a])).set j b = fzT C (vs ++ [b]) := by
  subst hj
  unfold fzT
  rw [List.append_assoc, List.set_append_right _ _ (Nat.le_refl _), Nat.sub_self, List.length_append, List.length_append, List.append_assoc]; rfl
theorem fzB_reset {C : Nat} {vs : List Bl} {a b : Bl} {j : Nat} (hj : j = vs.length) (h : vs.length < C) : (fzB C (vs ++ [a])).set j b = fzB C (vs ++ [b]) := by
  subst hj
  unfold fzB
  rw [List.append_assoc, List.set_append_right _ _ (Nat.le_refl _), Nat.sub_self, List.length_append, List.length_append, List.append_assoc]; rfl
theorem sL_one (x : Td) : sL x 1 = ([0], [⟨false⟩]) := rfl
theorem st_first (x : Td) {C : Nat} (h : 1 ≤ C) : List.replicate C (0 : Int) = fzT C (sL x 1).1 ∧ List.replicate C bl0 = fzB C (sL x 1).2 := by
  rw [sL_one]
  refine ⟨fz_one h, ?_⟩
  have := fzB_zero (vs := []) (C := C) (by simp; omega)
  rw [List.nil_append] at this
  rw [this]; simp [fzB]
theorem st_in {x : Td} {m C : Nat} {zs : List Int} {bs : List Bl} (h0 : 1 ≤ m) (h1 : (m : Int) ≤ x.n.ins) (hC : m < C) (hz : zs = fzT C (sL x m).1) (hb : bs = fzB C (sL x m).2) : zs = fzT C (sL x (m + 1)).1 ∧ bs.set m ⟨true⟩ = fzB C (sL x (m + 1)).2 := by
  obtain ⟨l1, l2⟩ := sL_len x m
  have e : stp x (sL x m).1 (sL x m).2 m = (0, true) := by unfold stp; rw [if_neg (by omega), if_pos h1]
  rw [sL_succ, e]
  exact ⟨by show zs = fzT C ((sL x m).1 ++ [0]); rw [fz_zero (by omega)]; exact hz, by rw [hb]; exact fzB_set (by omega) (by omega)⟩
theorem st_seq {x : Td} {m C : Nat} {zs : List Int} {bs : List Bl} (h0 : ¬ (m : Int) ≤ x.n.ins) (hi : 0 ≤ x.n.ins) (h1 : (m : Int) < x.n.fst) (hC : m < C) (hz : zs = fzT C (sL x m).1) (hb : bs = fzB C (sL x m).2) :
    zs.set m (x.ks.getD ((m : Int) - 1 - x.n.ins).toNat 0) = fzT C (sL x (m + 1)).1 ∧ bs.set m ⟨true⟩ = fzB C (sL x (m + 1)).2 := by
  obtain ⟨l1, l2⟩ := sL_len x m
  have e : stp x (sL x m).1 (sL x m).2 m = (x.ks.getD ((m : Int) - 1 - x.n.ins).toNat 0, true) := by unfold stp; rw [if_neg (by omega), if_neg h0, if_pos h1]
  rw [sL_succ, e]
  exact ⟨by rw [hz]; exact fz_set (by omega) (by omega), by rw [hb]; exact fzB_set (by omega) (by omega)⟩
theorem st_lut {x : Td} {m C i : Nat} {zs : List Int} {bs : List Bl} (hi : 0 ≤ x.n.ins) (hm : (m : Int) - x.n.fst = i) (hz : zs = fzT C ((sL x m).1 ++ [(lutS x (sL x m).1 (sL x m).2 i (x.n.ls.getD i lt0).xs.length).1])) (hb : bs = fzB C ((sL x m).2 ++ [⟨(lutS x (sL x m).1 (sL x m).2 i (x.n.ls.getD i lt0).xs.length).2⟩])) :
    zs = fzT C (sL x (m + 1)).1 ∧ bs = fzB C (sL x (m + 1)).2 := by
  have hf : x.n.fst = 1 + x.n.ins + x.n.ss.length := rfl
  have e : stp x (sL x m).1 (sL x m).2 m = lutS x (sL x m).1 (sL x m).2 i (x.n.ls.getD i lt0).xs.length := by
    unfold stp; rw [if_neg (by omega), if_neg (by omega), if_neg (by omega), show ((m : Int) - x.n.fst).toNat = i by omega]
  rw [sL_succ, e]; exact ⟨hz, hb⟩
theorem lut_yes {x : Td} {o : List Int} {r : List Bl} {i j : Nat} (h : (r.getD ((x.n.ls.getD i lt0).xs.getD j 0).toNat bl0).b = true) : lutS x o r i (j + 1) = (mx (lutS x o r i j).1 (o.getD ((x.n.ls.getD i lt0).xs.getD j 0).toNat 0 + (x.dl.getD i ir0).xs.getD j 0), true) := if_pos h
theorem lut_no {x : Td} {o : List Int} {r : List Bl} {i j : Nat} (h : (r.getD ((x.n.ls.getD i lt0).xs.getD j 0).toNat bl0).b = false) : lutS x o r i (j + 1) = lutS x o r i j := if_neg (by rw [h]; decide)
theorem o_bnd {x : Td} (h : TdOk x) {m : Nat} (hm : (m : Int) ≤ x.n.cnt) {q : Nat} (hq : q < m) : 0 ≤ (sL x m).1.getD q 0 ∧ (sL x m).1.getD q 0 ≤ 100000 := by
  have hb := h.bnd
  have hi := hb.i
  have hs := hb.s
  have hl := hb.l
  have hc : x.n.cnt = 1 + x.n.ins + x.n.ss.length + x.n.ls.length := rfl
  rw [(sL_pre x m q hq).1]
  obtain ⟨a, b, c⟩ := (settle_max h (q + 1) q (by omega) (by omega)).1
  refine ⟨b, ?_⟩
  rcases c with c | ⟨p, hp, h0, c⟩
  · omega
  · have h1 := (Dl_rng (gok_x h) true p.n (q + 1) q (by omega)).2
    have h2 : p.s ≤ 50 := by
      rcases lau_mem.1 hp with ⟨t, ht, rfl⟩ | ⟨t, ht, rfl⟩
      · show (0 : Int) ≤ 50; decide
      · exact (h.k.2 t ht).2
    have h3 : DX x p.n q ≤ 100 * (q : Int) := h1
    omega
theorem setR_ok {x : Td} (h : TdOk x) : setR x = setL x := by unfold setR; rw [if_pos (zet h)]
theorem setR_no {x : Td} (h : ¬ TdOk x) : setR x = [] := by unfold setR; rw [zdg h]; rfl
set_option maxHeartbeats 4000000 in
set_option maxRecDepth 100000 in
theorem implSettleTimes_ret (x : Td) (w : World) (hr : RdsTd w x) :
   Calls Try.prog 18 #[.agg #[.int .i64 x.n.ins, x.n.sv, x.n.lv, x.n.ov, x.pv, x.qv, x.kv, x.av, x.bv, .int .i64 x.oi, .int .i64 x.ni]] w (Ret w (fun v' post => post = [rowE 3 1 v' (setR x).length ((setR x).map (Value.int .i64))])) := by
 have t1 := sml hr.ks
 have t2 := sml hr.ao
 have t3 := sml hr.bs
 have t4 := hr.dl.small
 have t5 := hr.ds.small
 have t6 := hr.n.sq.small
 have t7 := hr.n.lt.small
 have t8 := sml hr.n.ou
 have hcnt : x.n.cnt = 1 + x.n.ins + x.n.ss.length + x.n.ls.length := rfl
 have hfst : x.n.fst = 1 + x.n.ins + x.n.ss.length := rfl
 refine zbh (N := 102) (args := [.agg #[.int .i64 x.n.ins, x.n.sv, x.n.lv, x.n.ov, x.pv, x.qv, x.kv, x.av, x.bv, .int .i64 x.oi, .int .i64 x.ni]]) Try.func18 rfl rfl (srQ ?_)
 refine zef rfl (zcx rfl rfl) ?_
 intro b1
 refine zfy 3 1 (zbc 1 rfl (zgg (hvQ rfl (zas (cs := [.int .i64 x.n.ins, x.n.sv, x.n.lv, x.n.ov, x.pv, x.qv, x.kv, x.av, x.bv, .int .i64 x.oi, .int .i64 x.ni]) rfl rfl rfl rfl rfl (zao 1 rfl 0 rfl)) ?_)))
 refine zdn rfl (zap rfl rfl (fun w hm => zau (zfx x w (hr.below hm.bel)))) (zbl (fun h3 => ?_) (fun h3 => ?_))
 ·
  have hok := zgi h3
  obtain ⟨ci, cs_, cl, ck, ca, cb, cd, ce⟩ := hok.bnd
  have hi0 := ci.1
  have hi1 := ci.2
  refine zbc 1 rfl (zaq rfl (zcq (srQ (hvQ rfl (zaa (k0 := 0) rfl rfl rfl) (hvQ rfl (zas (cs := [.int .i64 x.n.ins, x.n.sv, x.n.lv, x.n.ov]) rfl rfl rfl rfl rfl (zao 1 rfl 0 rfl)) ?_)))))
  refine zef rfl (zbw (z := .agg #[.int .i64 0, .slice none 0 0, .slice none 0 0, .slice none 0 0]) rfl rfl) ?_
  intro b4
  refine zcb (cs' := #[.int .i64 x.n.ins, x.n.sv, x.n.lv, x.n.ov]) (i := 0) (off := 0) (us := [.int .i64 x.n.ins, x.n.sv, x.n.lv, x.n.ov]) rfl rfl rfl rfl rfl rfl rfl (zaf rfl (zaf hr.n.sq.row.one (zaf hr.n.lt.row.one (zaf hr.n.ou.one zbo)))) rfl rfl rfl (ntQ (srQ (hvQ rfl (zas (cs := [.int .i64 x.n.ins, x.n.sv, x.n.lv, x.n.ov]) rfl rfl rfl rfl rfl (zao 0 rfl 0 rfl)) ?_)))
  refine zdn rfl (zap rfl rfl (fun w hm => zau (zey x.n w (hr.n.below hm.bel) hok.n.sz))) (zdw rfl (zem (z := .int .i64 0) (s := 1) (bytes := 8) (n := (List.replicate (x.n.cnt).toNat (0 : Int)).length) (cs := ((List.replicate (x.n.cnt).toNat (0 : Int)).map (Value.int .i64))) rfl Try.underlying26 rfl (by decide) rfl rfl (by first | (rw [List.length_replicate]; done) | (rw [List.length_replicate]; omega)) (by first | (rw [List.length_replicate]; done) | (rw [List.length_replicate]; omega)) (by rw [List.length_replicate]; omega) (zfc _)) ?_)
  intro g5
  refine zbc 1 rfl (srQ (hvQ rfl (zas (cs := [.int .i64 x.n.ins, x.n.sv, x.n.lv, x.n.ov]) rfl rfl rfl rfl rfl (zao 1 rfl 0 rfl)) ?_))
  refine zdn rfl (zap rfl rfl (fun w hm => zau (zey x.n w (hr.n.below hm.bel) hok.n.sz))) (zdw rfl (zem (z := .bool false) (s := 1) (bytes := 1) (n := (List.replicate (x.n.cnt).toNat bl0).length) (cs := ((List.replicate (x.n.cnt).toNat bl0).flatMap blC)) rfl Try.underlying80 rfl (by decide) rfl rfl (by first | (rw [List.length_replicate]; done) | (rw [List.length_replicate]; omega)) (by first | (rw [List.length_replicate]; done) | (rw [List.length_replicate]; omega)) (by rw [List.length_replicate]; omega) (zfb blC 1 (fun _ => rfl) bl0 _ rfl (x.n.cnt).toNat)) ?_)
  intro g6
  refine zbc 1 rfl (zac (zba 1 rfl (zax ?_)))
  refine lkQ3 (α := Nat) (β := List Int) (γ := List Bl) [0, 1, 2, 3, 4, 5, 12] rfl (fun m zs bs => [rowE 4 1 (.slice (some ⟨g6, 0, none⟩) ((List.replicate (x.n.cnt).toNat bl0).length) ((List.replicate (x.n.cnt).toNat bl0).length)) bs.length (bs.flatMap blC), rowE 3 1 (.slice (some ⟨g5, 0, none⟩) ((List.replicate (x.n.cnt).toNat (0 : Int)).length) ((List.replicate (x.n.cnt).toNat (0 : Int)).length)) zs.length (zs.map (Value.int .i64)), boxE b4 #[.int .i64 x.n.ins, x.n.sv, x.n.lv, x.n.ov] 28, rowE 3 1 (.slice none 0 0) 0 ([]), boxE b1 #[.int .i64 x.n.ins, x.n.sv, x.n.lv, x.n.ov, x.pv, x.qv, x.kv, x.av, x.bv, .int .i64 x.oi, .int .i64 x.ni] 45]) (fun m zs bs => [(6, .int .i64 (m : Int))]) (fun m zs bs => 1 ≤ m ∧ (m : Int) ≤ x.n.cnt ∧ zs = fzT x.n.cnt.toNat (sL x m).1 ∧ bs = fzB x.n.cnt.toNat (sL x m).2) (fun m zs bs => x.n.cnt.toNat - m) 1 _ _ ⟨by omega, by omega, (st_first x (by omega)).1, (st_first x (by omega)).2⟩ (saQ rfl) (.cons_cons _ (.cons_cons _ (.cons_cons _ (.cons_cons _ (pfQ rfl))))) ?_
  intro m zs bs hi7
  obtain ⟨hm1, hm2, hz, hb⟩ := hi7
  obtain ⟨hl1, hl2⟩ := sL_len x m
  have hzl : zs.length = x.n.cnt.toNat := by rw [hz]; exact fz_len (by omega)
  have hbl : bs.length = x.n.cnt.toNat := by rw [hb]; exact fzB_len (by omega)
  refine zac (zac (reQ 1 rfl (hvQ rfl (zas (cs := [.int .i64 x.n.ins, x.n.sv, x.n.lv, x.n.ov]) rfl rfl rfl rfl rfl (zao 2 rfl 0 rfl)) ?_)))
  refine zdn rfl (zap rfl rfl (fun w hm => zau (zey x.n w (hr.n.below hm.bel) hok.n.sz))) (zbn rfl rfl rfl rfl rfl rfl (fun h8 => ?_) (fun h8 => ?_))
  ·
   refine ntQ (zan rfl (zcq (sbQ (zax (zac (reQ 1 rfl (hvQ rfl (zaa (k0 := 0) rfl rfl rfl) (hvQ rfl (zaj rfl rfl rfl (zae 2 rfl rfl)) ?_))))))))
   refine hl_leq rfl rfl rfl rfl rfl rfl (fun h9 => ?_) (fun h9 => ?_)
   ·
    refine zbc 1 rfl (zan rfl (reQ 2 rfl (hvQ rfl (riQ 1 rfl rfl rfl rfl (zag 0 rfl)) ?_)))
    refine zcz (i := 0) (n' := (bs.set m { bs.getD m bl0 with b := true }).length) rfl rfl rfl rfl rfl rfl rfl rfl (by first | omega | (simp only [List.length_set]; omega)) List.length_set.symm (zdc blC (fun r => .bool r.b) (fun _ => rfl) _ ({ bs.getD m bl0 with b := true }) rfl) rfl (zcf (zcd (zcv (reQ 1 rfl (hvQ rfl (vaQ rfl rfl rfl) (enQ 1 rfl ?_))))))
    have hnx := st_in hm1 (by omega) (by omega) hz hb
    exact zbv (m + 1) zs (bs.set m { bs.getD m bl0 with b := true }) ⟨by omega, by omega, hnx.1, hnx.2⟩ (by omega) (saQ rfl) (.cons_cons _ (.cons_cons _ (.cons_cons _ (.cons_cons _ (pfQ rfl)))))
   refine zbc 1 rfl (zaq rfl (zac (reQ 1 rfl (hvQ rfl (zas (cs := [.int .i64 x.n.ins, x.n.sv, x.n.lv, x.n.ov]) rfl rfl rfl rfl rfl (zao 2 rfl 0 rfl)) ?_))))
   refine zdn rfl (zap rfl rfl (fun w hm => zau (zej x.n w (hr.n.below hm.bel) hok.n.sz))) (zbn rfl rfl rfl rfl rfl rfl (fun h10 => ?_) (fun h10 => ?_))
   ·
    refine zbc 1 rfl (zan rfl (zac (reQ 2 rfl (hvQ rfl (riQ 1 rfl rfl rfl rfl (zag 0 rfl)) ?_))))
    refine zcz (i := 0) (n' := (bs.set m { bs.getD m bl0 with b := true }).length) rfl rfl rfl rfl rfl rfl rfl rfl (by first | omega | (simp only [List.length_set]; omega)) List.length_set.symm (zdc blC (fun r => .bool r.b) (fun _ => rfl) _ ({ bs.getD m bl0 with b := true }) rfl) rfl (ntQ (reQ 2 rfl (hvQ rfl (zaa (k0 := 6) rfl rfl rfl) (hvQ rfl (zaj rfl rfl rfl (zae 4 rfl rfl)) (zar 1 rfl (hvQ rfl (vsQ rfl rfl rfl) (hvQ rfl (zaa (k0 := 0) rfl rfl rfl) (hvQ rfl (zaj rfl rfl rfl (zae 2 rfl rfl)) (hvQ rfl (vsQ rfl rfl rfl) (hvQ rfl (riQ 1 rfl rfl rfl rfl (zab ((hr).ks))) (hvQ rfl (lzQ rfl rfl rfl (zab ((hr).ks))) ?_)))))))))))
    refine hvQ rfl (riQ 1 rfl rfl rfl rfl (zag 1 rfl)) (zcz (i := 1) (n' := (zs.set m (x.ks.getD ((((m : Int) - 1) - x.n.ins).toNat) 0)).length) (xs' := ((zs.set m (x.ks.getD ((((m : Int) - 1) - x.n.ins).toNat) 0)).map (Value.int .i64))) rfl rfl rfl rfl rfl rfl rfl rfl (by first | omega | (simp only [List.length_set]; omega)) List.length_set.symm (zdj _ _ _) rfl ?_)
    refine zcf (zcd (zcv (reQ 1 rfl (hvQ rfl (vaQ rfl rfl rfl) (enQ 1 rfl ?_)))))
    have hnx := st_seq (by omega) (by omega) (by omega) (by omega) hz hb
    exact zbv (m + 1) (zs.set m (x.ks.getD ((((m : Int) - 1) - x.n.ins).toNat) 0)) (bs.set m { bs.getD m bl0 with b := true }) ⟨by omega, by omega, hnx.1, hnx.2⟩ (by omega) (saQ rfl) (.cons_cons _ (.cons_cons _ (.cons_cons _ (.cons_cons _ (pfQ rfl)))))
   refine zbc 1 rfl (zaq rfl (zac (reQ 1 rfl (hvQ rfl (zas (cs := [.int .i64 x.n.ins, x.n.sv, x.n.lv, x.n.ov]) rfl rfl rfl rfl rfl (zao 2 rfl 0 rfl)) ?_))))
   refine zdn rfl (zap rfl rfl (fun w hm => zau (zej x.n w (hr.n.below hm.bel) hok.n.sz))) (hvQ rfl (vsQ rfl rfl rfl) ?_)
   obtain ⟨i, hmi⟩ : ∃ i : Nat, (m : Int) - x.n.fst = (i : Int) := ⟨((m : Int) - x.n.fst).toNat, by omega⟩
   rw [hmi]
   have hil : i < x.n.ls.length := by omega
   have hlt9 := hok.n.lt i hil
   have hx4 := hlt9.1.1
   have hdi : (x.dl.getD i ir0).xs.length = (x.n.ls.getD i lt0).xs.length := by have := (hok.dl i hil).1; omega
   refine zbc 1 rfl (srQ (hvQ rfl (zaa (k0 := 2) rfl rfl rfl) (hvQ rfl (zaj rfl rfl rfl (zae 2 rfl rfl)) (zar 1 rfl (hvQ rfl (riQ 2 rfl rfl rfl rfl (zab ((hr).n.lt.row))) (hvQ rfl (zbt (k0 := 0) rfl rfl rfl (zab ((hr).n.lt.row)) (by omega)) ?_))))))
   refine hvQ rfl (zat (u := (x.n.ls.getD i lt0).iv) rfl rfl rfl (zab ((hr).n.lt.row)) ((zcu ltC 2 (fun _ => rfl) x.n.ls lt0 (show i < _ by omega) (by decide)).trans rfl)) (hvQ rfl (lnQ rfl rfl rfl (zab ((hr).n.lt.at (d := lt0) (k := i) (by omega)))) (zbc 1 rfl (zax ?_)))
   refine lkQ3 (α := Nat) (β := List Int) (γ := List Bl) [0, 1, 2, 3, 4, 5, 6, 7, 12, 24, 36, 37, 73, 81] rfl (fun j z2 b2 => [rowE 4 1 (.slice (some ⟨g6, 0, none⟩) ((List.replicate (x.n.cnt).toNat bl0).length) ((List.replicate (x.n.cnt).toNat bl0).length)) b2.length (b2.flatMap blC), rowE 3 1 (.slice (some ⟨g5, 0, none⟩) ((List.replicate (x.n.cnt).toNat (0 : Int)).length) ((List.replicate (x.n.cnt).toNat (0 : Int)).length)) z2.length (z2.map (Value.int .i64)), boxE b4 #[.int .i64 x.n.ins, x.n.sv, x.n.lv, x.n.ov] 28, rowE 3 1 (.slice none 0 0) 0 ([]), boxE b1 #[.int .i64 x.n.ins, x.n.sv, x.n.lv, x.n.ov, x.pv, x.qv, x.kv, x.av, x.bv, .int .i64 x.oi, .int .i64 x.ni] 45]) (fun j z2 b2 => [(38, .int .i64 (j : Int))]) (fun j z2 b2 => j ≤ (x.n.ls.getD i lt0).xs.length ∧ z2 = fzT x.n.cnt.toNat ((sL x m).1 ++ [(lutS x (sL x m).1 (sL x m).2 i j).1]) ∧ b2 = fzB x.n.cnt.toNat ((sL x m).2 ++ [⟨(lutS x (sL x m).1 (sL x m).2 i j).2⟩])) (fun j z2 b2 => (x.n.ls.getD i lt0).xs.length - j) 0 zs bs ⟨Nat.zero_le _, by show zs = fzT _ (_ ++ [0]); rw [fz_zero (by omega)]; exact hz, by show bs = fzB _ (_ ++ [⟨false⟩]); rw [fzB_zero (by omega)]; exact hb⟩ (saQ rfl) (.cons_cons _ (.cons_cons _ (.cons_cons _ (.cons_cons _ (pfQ rfl))))) ?_
   intro j z2 b2 hi11
   obtain ⟨hj, hz2, hb2⟩ := hi11
   have hzl2 : z2.length = x.n.cnt.toNat := by rw [hz2]; exact fz_len (by rw [List.length_append, List.length_singleton]; omega)
   have hbl2 : b2.length = x.n.cnt.toNat := by rw [hb2]; exact fzB_len (by rw [List.length_append, List.length_singleton]; omega)
   refine srQ ?_
   refine zbn rfl rfl rfl rfl rfl rfl (fun h12 => ?_) (fun h12 => ?_)
   ·
    refine ntQ (tcQ rfl (zcq (sbQ (zac (reQ 1 rfl (hvQ rfl (riQ 1 rfl rfl rfl rfl (zab ((hr).n.lt.at (d := lt0) (k := i) (by omega)))) (hvQ rfl (zat (u := .int .i64 (((x.n.ls.getD i lt0).xs).getD j 0)) rfl rfl rfl (zab ((hr).n.lt.at (d := lt0) (k := i) (by omega))) (zdk (show _ < ((x.n.ls.getD i lt0).xs).length by omega))) ?_)))))))
    refine zbc 2 rfl (srQ ?_)
    have hns := hlt9.1.2 j (by omega)
    have hbk : (b2.getD ((x.n.ls.getD i lt0).xs.getD j 0).toNat bl0).b = ((sL x m).2.getD ((x.n.ls.getD i lt0).xs.getD j 0).toNat bl0).b := by rw [hb2]; unfold fzB; rw [zct (by rw [List.length_append, List.length_singleton]; omega), zct (by omega)]
    have hzk : z2.getD ((x.n.ls.getD i lt0).xs.getD j 0).toNat 0 = (sL x m).1.getD ((x.n.ls.getD i lt0).xs.getD j 0).toNat 0 := by rw [hz2]; unfold fzT; rw [zct (by rw [List.length_append, List.length_singleton]; omega), zct (by omega)]
    have hzm : z2.getD m 0 = (lutS x (sL x m).1 (sL x m).2 i j).1 := by rw [hz2]; unfold fzT; rw [zct (by rw [List.length_append, List.length_singleton]; omega), zde (by omega), hl1, Nat.sub_self]; rfl
    have hob := o_bnd hok hm2 (q := ((x.n.ls.getD i lt0).xs.getD j 0).toNat) (by omega)
    have hdj := (hok.dl i hil).2 j (by omega)
    refine zar 2 rfl (hvQ rfl (riQ 1 rfl rfl rfl rfl (zag 0 rfl)) ?_)
    refine hvQ rfl (zat (u := .bool ((b2.getD ((((x.n.ls.getD i lt0).xs).getD j 0).toNat) bl0).b)) rfl rfl rfl (zag 0 rfl) (zbk blC (fun r => .bool r.b) (fun _ => rfl) b2 bl0 (show (((x.n.ls.getD i lt0).xs).getD j 0).toNat < _ by omega))) (zbl (fun h13 => ?_) (fun h13 => ?_))
    ·
     refine ntQ (zan rfl (zac (reQ 2 rfl (hvQ rfl (riQ 1 rfl rfl rfl rfl (zag 0 rfl)) ?_))))
     refine zcz (i := 0) (n' := (b2.set m { b2.getD m bl0 with b := true }).length) rfl rfl rfl rfl rfl rfl rfl rfl (by first | omega | (simp only [List.length_set]; omega)) List.length_set.symm (zdc blC (fun r => .bool r.b) (fun _ => rfl) _ ({ b2.getD m bl0 with b := true }) rfl) rfl (ntQ ?_)
     have hz2v : z2.set m (if z2.getD m 0 < (z2.getD ((x.n.ls.getD i lt0).xs.getD j 0).toNat 0 + (x.dl.getD i ir0).xs.getD j 0) then (z2.getD ((x.n.ls.getD i lt0).xs.getD j 0).toNat 0 + (x.dl.getD i ir0).xs.getD j 0) else z2.getD m 0) = (fzT x.n.cnt.toNat ((sL x m).1 ++ [(lutS x (sL x m).1 (sL x m).2 i j).1])).set m (mx (lutS x (sL x m).1 (sL x m).2 i j).1 ((sL x m).1.getD ((x.n.ls.getD i lt0).xs.getD j 0).toNat 0 + (x.dl.getD i ir0).xs.getD j 0)) := by rw [hzm, hzk, ← hz2]; rfl
     refine zbi 22 [[], [], [], [], [2, 3], [4], [], [], [6, 7], [8], [], [10], [11], [], [12, 13], [14], [], [15, 16], [17], [9, 18], [5, 19], [0, 1]] [50, 51, 52, 53, 54, 55, 56, 57, 58, 59, 60, 61, 62, 63, 64, 65, 66, 67, 68, 69, 70, 71] [.slice (some ⟨g5, 0, none⟩) ((List.replicate (x.n.cnt).toNat (0 : Int)).length) ((List.replicate (x.n.cnt).toNat (0 : Int)).length), .int .i64 (m : Int), .slice (some ⟨g5, 0, none⟩) ((List.replicate (x.n.cnt).toNat (0 : Int)).length) ((List.replicate (x.n.cnt).toNat (0 : Int)).length), .int .i64 (m : Int), elP (.slice (some ⟨g5, 0, none⟩) ((List.replicate (x.n.cnt).toNat (0 : Int)).length) ((List.replicate (x.n.cnt).toNat (0 : Int)).length)) (((m : Int)).toNat * 1), .int .i64 (z2.getD m 0), .slice (some ⟨g5, 0, none⟩) ((List.replicate (x.n.cnt).toNat (0 : Int)).length) ((List.replicate (x.n.cnt).toNat (0 : Int)).length), .int .i64 (((x.n.ls.getD i lt0).xs).getD j 0), elP (.slice (some ⟨g5, 0, none⟩) ((List.replicate (x.n.cnt).toNat (0 : Int)).length) ((List.replicate (x.n.cnt).toNat (0 : Int)).length)) ((((x.n.ls.getD i lt0).xs).getD j 0).toNat * 1), .int .i64 (z2.getD ((((x.n.ls.getD i lt0).xs).getD j 0).toNat) 0), .pointer (some ⟨b1, 0 + 4, none⟩), .pointer (some ⟨b1, 0 + 4 + 0, none⟩), x.pv, .int .i64 (i : Int), elP x.pv (((i : Int)).toNat * 1), (x.dl.getD i ir0).v, .int .i64 (j : Int), elP ((x.dl.getD i ir0).v) (((j : Int)).toNat * 1), .int .i64 (((x.dl.getD i ir0).xs).getD j 0), .int .i64 ((z2.getD ((((x.n.ls.getD i lt0).xs).getD j 0).toNat) 0) + (((x.dl.getD i ir0).xs).getD j 0)), .int .i64 (if z2.getD m 0 < (z2.getD ((((x.n.ls.getD i lt0).xs).getD j 0).toNat) 0) + (((x.dl.getD i ir0).xs).getD j 0) then (z2.getD ((((x.n.ls.getD i lt0).xs).getD j 0).toNat) 0) + (((x.dl.getD i ir0).xs).getD j 0) else z2.getD m 0), elP (.slice (some ⟨g5, 0, none⟩) ((List.replicate (x.n.cnt).toNat (0 : Int)).length) ((List.replicate (x.n.cnt).toNat (0 : Int)).length)) (((m : Int)).toNat * 1)] (by kernel_rfl) rfl ?_ ?_
     ·
      exact ⟨iaQ rfl (zah rfl) rfl, iaQ rfl (zah rfl) rfl, iaQ rfl (zah rfl) rfl, iaQ rfl (zah rfl) rfl, iaQ rfl (riQ 1 rfl rfl rfl rfl (zag 1 rfl)) rfl, iaQ rfl (liQ rfl rfl rfl (zag 1 rfl)) rfl, iaQ rfl (zah rfl) rfl, iaQ rfl (zah rfl) rfl, iaQ rfl (riQ 1 rfl rfl rfl rfl (zag 1 rfl)) rfl, iaQ rfl (lzQ rfl rfl rfl (zag 1 rfl)) rfl, iaQ rfl (zaa (k0 := 4) rfl rfl rfl) rfl, iaQ rfl (zaa (k0 := 0) rfl rfl rfl) rfl, iaQ rfl (zaj rfl rfl rfl (zae 4 rfl rfl)) rfl, iaQ rfl (zah rfl) rfl, iaQ rfl (riQ 1 rfl rfl rfl rfl (zab ((hr).dl.row))) rfl, iaQ rfl (zat (u := (x.dl.getD i ir0).v) rfl rfl rfl (zab ((hr).dl.row)) (zbk irC (fun r => r.v) (fun _ => rfl) x.dl ir0 (show i < _ by omega))) rfl, iaQ rfl (zah rfl) rfl, iaQ rfl (riQ 1 rfl rfl rfl rfl (zab ((hr).dl.at (d := ir0) (k := i) (by omega)))) rfl, iaQ rfl (zat (u := .int .i64 (((x.dl.getD i ir0).xs).getD j 0)) rfl rfl rfl (zab ((hr).dl.at (d := ir0) (k := i) (by omega))) (zdk (show _ < ((x.dl.getD i ir0).xs).length by omega))) rfl, iaQ rfl (vaQ rfl rfl rfl) rfl, iaQ rfl (rv_max rfl rfl rfl) rfl, iaQ rfl (riQ 1 rfl rfl rfl rfl (zag 1 rfl)) rfl, trivial⟩
     simp only [List.drop_succ_cons, List.drop_zero]
     refine zcz (i := 1) (n' := (z2.set m (if z2.getD m 0 < (z2.getD ((((x.n.ls.getD i lt0).xs).getD j 0).toNat) 0) + (((x.dl.getD i ir0).xs).getD j 0) then (z2.getD ((((x.n.ls.getD i lt0).xs).getD j 0).toNat) 0) + (((x.dl.getD i ir0).xs).getD j 0) else z2.getD m 0)).length) (xs' := ((z2.set m (if z2.getD m 0 < (z2.getD ((((x.n.ls.getD i lt0).xs).getD j 0).toNat) 0) + (((x.dl.getD i ir0).xs).getD j 0) then (z2.getD ((((x.n.ls.getD i lt0).xs).getD j 0).toNat) 0) + (((x.dl.getD i ir0).xs).getD j 0) else z2.getD m 0)).map (Value.int .i64))) rfl rfl rfl rfl rfl rfl rfl rfl (by first | omega | (simp only [List.length_set]; omega)) List.length_set.symm (zdj _ _ _) rfl (zcf (zcv (zbg (hvQ rfl (vaQ rfl rfl rfl) (enQ 1 rfl ?_)))))
     exact zbv (j + 1) (z2.set m (if z2.getD m 0 < (z2.getD ((((x.n.ls.getD i lt0).xs).getD j 0).toNat) 0) + (((x.dl.getD i ir0).xs).getD j 0) then (z2.getD ((((x.n.ls.getD i lt0).xs).getD j 0).toNat) 0) + (((x.dl.getD i ir0).xs).getD j 0) else z2.getD m 0)) (b2.set m { b2.getD m bl0 with b := true }) ⟨by omega, by rw [lut_yes (by rw [← hbk]; assumption), hz2v]; exact fz_reset (by omega) (by omega), by rw [lut_yes (by rw [← hbk]; assumption), hb2]; exact fzB_reset (by omega) (by omega)⟩ (by omega) (saQ rfl) (.cons_cons _ (.cons_cons _ (.cons_cons _ (.cons_cons _ (pfQ rfl)))))
    refine ntQ (fsQ rfl (zcv (zbg (hvQ rfl (vaQ rfl rfl rfl) (enQ 1 rfl ?_)))))
    exact zbv (j + 1) z2 b2 ⟨by omega, by rw [lut_no (by rw [← hbk]; assumption)]; exact hz2, by rw [lut_no (by rw [← hbk]; assumption)]; exact hb2⟩ (by omega) (saQ rfl) (.cons_cons _ (.cons_cons _ (.cons_cons _ (.cons_cons _ (pfQ rfl)))))
   refine ntQ (fcQ rfl ?_)
   refine zbb (zds ?_)
   refine zai (zcd (zcv (reQ 1 rfl (hvQ rfl (vaQ rfl rfl rfl) (enQ 1 rfl ?_)))))
   have hnx := st_lut (zs := z2) (bs := b2) (by omega) hmi (by rw [← show j = (x.n.ls.getD i lt0).xs.length by omega]; exact hz2) (by rw [← show j = (x.n.ls.getD i lt0).xs.length by omega]; exact hb2)
   exact zbv (m + 1) z2 b2 ⟨by omega, by omega, hnx.1, hnx.2⟩ (by omega) (saQ rfl) (.cons_cons _ (.cons_cons _ (.cons_cons _ (.cons_cons _ (pfQ rfl)))))
  refine ntQ (zaq rfl ?_)
  refine zbb (zds ?_)
  refine zai (zay (zba 2 rfl ?_))
  refine zaw ?_
  have hsR : zs = setR x := by rw [setR_ok hok, ← settle_eq hok, hz, show m = x.n.cnt.toNat by omega, fz_all (by rw [(sL_len x _).1])]
  exact zdh (post := [rowE 3 1 (.slice (some ⟨g5, 0, none⟩) ((List.replicate (x.n.cnt).toNat (0 : Int)).length) ((List.replicate (x.n.cnt).toNat (0 : Int)).length)) zs.length (zs.map (Value.int .i64))]) rfl rfl (.cons _ (.cons_cons _ (.cons _ (.cons _ (slQ [] rfl))))) (by first | (rw [hsR]; done) | (rw [hsR]; rfl))
 have hno := zex h3
 refine zbc 1 rfl (zan rfl (srQ ?_))
 refine zfy 3 1 (zbc 1 rfl ?_)
 refine zaw (zam ?_)
 have hsR := setR_no hno
 exact zdh (post := [rowE 3 1 (.slice none 0 0) 0 ([])]) rfl rfl (.cons_cons _ (.cons _ (slQ [] rfl))) (by first | (rw [hsR]; done) | (rw [hsR]; rfl))
abbrev ovX (x : Td) : List Int := valT x.n x.ao x.oi
abbrev nvX (x : Td) : List Int := valT x.n x.bs x.ni
def atW (o : Int) (wv : List Int) (t : Int) : Int := if t < 0 then o else wv.getD t.toNat 0
/-- the input j of table i at a time -/
def lin (x : Td) (ws : List (List Int)) (i : Nat) (t : Int) (j : Nat) : Int :=
  atW ((ovX x).getD ((x.n.ls.getD i lt0).xs.getD j 0).toNat 0) (ws.getD ((x.n.ls.getD i lt0).xs.getD j 0).toNat []) (t - (x.dl.getD i ir0).xs.getD j 0)
def wvV (x : Td) (ws : List (List Int)) (k : Nat) (t : Int) : Int :=
  if (k : Int) < x.n.fst then (if 0 ≤ (k : Int) - 1 - x.n.ins ∧ t < x.ks.getD ((k : Int) - 1 - x.n.ins).toNat 0 then (ovX x).getD k 0 else (nvX x).getD k 0)
  else lutV (x.n.ls.getD ((k : Int) - x.n.fst).toNat lt0) (lin x ws ((k : Int) - x.n.fst).toNat t)
def rowW (x : Td) (ws : List (List Int)) (k h : Nat) : List Int := (List.range h).map (fun t : Nat => wvV x ws k (t : Int))
def wvsL (x : Td) (h : Nat) : Nat → List (List Int)
  | 0 => []
  | k + 1 => wvsL x h k ++ [rowW x (wvsL x h k) k (h + 1)]
theorem wvs_succ (x : Td) (h k : Nat) : wvsL x h (k + 1) = wvsL x h k ++ [rowW x (wvsL x h k) k (h + 1)] := rfl
theorem rowW_len (x : Td) (ws : List (List Int)) (k h : Nat) : (rowW x ws k h).length = h := by simp [rowW]
theorem rowW_succ (x : Td) (ws : List (List Int)) (k h : Nat) : rowW x ws k h ++ [wvV x ws k (h : Int)] = rowW x ws k (h + 1) := by unfold rowW; rw [List.range_succ, List.map_append]; rfl
theorem rowW_at (x : Td) (ws : List (List Int)) {k h t : Nat} (ht : t < h) : (rowW x ws k h).getD t 0 = wvV x ws k (t : Int) := by simp [rowW, ht]
theorem wvs_len (x : Td) (h : Nat) : ∀ k, (wvsL x h k).length = k
  | 0 => rfl
  | k + 1 => by unfold wvsL; rw [List.length_append, wvs_len x h k]; rfl
theorem wvs_at (x : Td) (h : Nat) : ∀ k q, q < k → (wvsL x h k).getD q [] = rowW x (wvsL x h q) q (h + 1)
  | 0, _, hq => absurd hq (by omega)
  | k + 1, q, hq => by
    rw [wvs_succ]
    by_cases e : q = k
    · subst e
      rw [zde (by rw [wvs_len]; omega), wvs_len, Nat.sub_self]; rfl
    · rw [zct (by rw [wvs_len]; omega)]; exact wvs_at x h k q (by omega)
theorem wvs_rl (x : Td) (h : Nat) {k q : Nat} (hq : q < k) : ((wvsL x h k).getD q []).length = h + 1 := by rw [wvs_at x h k q hq, rowW_len]
theorem wvs_val (x : Td) (h : Nat) {k q t : Nat} (hq : q < k) (ht : t ≤ h) : ((wvsL x h k).getD q []).getD t 0 = wvV x (wvsL x h q) q (t : Int) := by rw [wvs_at x h k q hq]; exact rowW_at x _ (by omega)
theorem vl_pre (n : Ln) (st : List Int) (inp : Int) {q : Nat} (hq : q < 1 + n.ins.toNat + st.length) : ∀ i, (vlL n st inp i).getD q 0 = (pb_o n st inp st.length).getD q 0
  | 0 => rfl
  | i + 1 => by unfold vlL; rw [zct (by rw [zes]; omega)]; exact vl_pre n st inp hq i
theorem val_zero (n : Ln) (st : List Int) (inp : Int) : (valT n st inp).getD 0 0 = 0 := by
  rw [vl_pre n st inp (by omega)]; unfold pb_o pa_o; rfl
theorem val_in (n : Ln) (st : List Int) (inp : Int) {k : Nat} (h0 : 1 ≤ k) (h1 : k ≤ n.ins.toNat) : (valT n st inp).getD k 0 = inp / 2 ^ (k - 1) % 2 := by
  rw [vl_pre n st inp (by omega)]; unfold pb_o
  rw [zct (by rw [pa_len]; omega)]; unfold pa_o
  rw [zde (by simp; omega)]
  simp only [List.length_singleton]
  have : ((List.range n.ins.toNat).map (fun k => inp / 2 ^ k % 2)).getD (k - 1) 0 = inp / 2 ^ (k - 1) % 2 := by simp [show k - 1 < n.ins.toNat by omega]
  exact this
theorem val_seq (n : Ln) (st : List Int) (inp : Int) {s : Nat} (h : s < st.length) : (valT n st inp).getD (1 + n.ins.toNat + s) 0 = st.getD s 0 % 2 := by
  rw [vl_pre n st inp (by omega)]; unfold pb_o
  rw [zde (by rw [pa_len]; omega), pa_len, List.take_length, show 1 + n.ins.toNat + s - (1 + n.ins.toNat) = s by omega]
  exact getD_mapv (· % 2) st s 0
theorem wv_zero (x : Td) (ws : List (List Int)) (t : Int) (hi : 0 ≤ x.n.ins) : wvV x ws 0 t = 0 := by
  have hf : x.n.fst = 1 + x.n.ins + x.n.ss.length := rfl
  unfold wvV; rw [if_pos (by omega), if_neg (by omega)]; exact val_zero _ _ _
theorem wv_in (x : Td) (ws : List (List Int)) (t : Int) {k : Nat} (h0 : 1 ≤ k) (h1 : (k : Int) ≤ x.n.ins) : wvV x ws k t = x.ni / 2 ^ ((k : Int) - 1).toNat % 2 := by
  have hf : x.n.fst = 1 + x.n.ins + x.n.ss.length := rfl
  unfold wvV; rw [if_pos (by omega), if_neg (by omega), show ((k : Int) - 1).toNat = k - 1 by omega]; exact val_in _ _ _ h0 (by omega)
theorem wv_old (x : Td) (ws : List (List Int)) (t : Int) {k : Nat} (hi : 0 ≤ x.n.ins) (ha : x.ao.length = x.n.ss.length) (h0 : x.n.ins < (k : Int)) (h1 : (k : Int) < x.n.fst) (ht : t < x.ks.getD ((k : Int) - 1 - x.n.ins).toNat 0) : wvV x ws k t = x.ao.getD ((k : Int) - 1 - x.n.ins).toNat 0 % 2 := by
  have hf : x.n.fst = 1 + x.n.ins + x.n.ss.length := rfl
  unfold wvV; rw [if_pos h1, if_pos ⟨by omega, ht⟩]
  have := val_seq x.n x.ao x.oi (s := ((k : Int) - 1 - x.n.ins).toNat) (by omega)
  rw [show 1 + x.n.ins.toNat + ((k : Int) - 1 - x.n.ins).toNat = k by omega] at this; exact this
theorem wv_new (x : Td) (ws : List (List Int)) (t : Int) {k : Nat} (hi : 0 ≤ x.n.ins) (hb : x.bs.length = x.n.ss.length) (h0 : x.n.ins < (k : Int)) (h1 : (k : Int) < x.n.fst) (ht : ¬ t < x.ks.getD ((k : Int) - 1 - x.n.ins).toNat 0) : wvV x ws k t = x.bs.getD ((k : Int) - 1 - x.n.ins).toNat 0 % 2 := by
  have hf : x.n.fst = 1 + x.n.ins + x.n.ss.length := rfl
  unfold wvV; rw [if_pos h1, if_neg (fun h => ht h.2)]
  have := val_seq x.n x.bs x.ni (s := ((k : Int) - 1 - x.n.ins).toNat) (by omega)
  rw [show 1 + x.n.ins.toNat + ((k : Int) - 1 - x.n.ins).toNat = k by omega] at this; exact this
theorem wv_lut (x : Td) (ws : List (List Int)) (t : Int) {k i : Nat} (h : (k : Int) - x.n.fst = (i : Int)) : wvV x ws k t = lutV (x.n.ls.getD i lt0) (lin x ws i t) := by
  unfold wvV; rw [if_neg (by omega), show ((k : Int) - x.n.fst).toNat = i by omega]
theorem wv01 {x : Td} (h : TdOk x) (ws : List (List Int)) (k : Nat) (t : Int) : wvV x ws k t = 0 ∨ wvV x ws k t = 1 := by
  have hb := h.bnd
  have hi := hb.i
  have ha := hb.a
  have hb2 := hb.b
  have hf : x.n.fst = 1 + x.n.ins + x.n.ss.length := rfl
  unfold wvV
  split
  · split
    · exact vl01 _ _ _ _ k (by rw [zes]; omega)
    · exact vl01 _ _ _ _ k (by rw [zes]; omega)
  · exact lut01 _ _
theorem at01 {x : Td} (h : TdOk x) {hz k q : Nat} (hq : q < k) (hk : (q : Int) < x.n.cnt) {t : Int} (ht : t ≤ hz) : atW ((ovX x).getD q 0) ((wvsL x hz k).getD q []) t = 0 ∨ atW ((ovX x).getD q 0) ((wvsL x hz k).getD q []) t = 1 := by
  have hb := h.bnd
  have hi := hb.i
  have ha := hb.a
  have hc : x.n.cnt = 1 + x.n.ins + x.n.ss.length + x.n.ls.length := rfl
  unfold atW
  split
  · exact vl01 _ _ _ _ q (by rw [zes]; omega)
  · rw [wvs_val x hz hq (by omega)]; exact wv01 h _ _ _
theorem lin01 {x : Td} (h : TdOk x) {hz i : Nat} (hi : i < x.n.ls.length) {k : Nat} (hk : (k : Int) - x.n.fst = i) {t : Int} (ht : t ≤ hz) (j : Nat) (hj : j < (x.n.ls.getD i lt0).xs.length) : lin x (wvsL x hz k) i t j = 0 ∨ lin x (wvsL x hz k) i t j = 1 := by
  have h1 := (h.n.lt i hi).1.2 j hj
  have h2 := (h.dl i hi).2 j (by have := (h.dl i hi).1; omega)
  have hc : x.n.cnt = 1 + x.n.ins + x.n.ss.length + x.n.ls.length := rfl
  have hf : x.n.fst = 1 + x.n.ins + x.n.ss.length := rfl
  exact at01 h (by omega) (by omega) (by omega)
noncomputable def wavR (x : Td) (a : Int) : List (List Int) := if pB (TdOk x) = true then (if 0 ≤ a ∧ a ≤ 1100 then wvsL x a.toNat x.n.cnt.toNat else []) else []
theorem wavR_ok {x : Td} (h : TdOk x) {a : Int} (h0 : 0 ≤ a ∧ a ≤ 1100) : wavR x a = wvsL x a.toNat x.n.cnt.toNat := by unfold wavR; rw [if_pos (zet h), if_pos h0]
theorem wavR_no {x : Td} {a : Int} (h : ¬ TdOk x ∨ ¬ (0 ≤ a ∧ a ≤ 1100)) : wavR x a = [] := by
  unfold wavR
  rcases h with h | h
  · rw [zdg h]; rfl
  · rw [if_neg h]; split <;> rfl
theorem conv_setPart {w0 : World} {ps l : List HP} {j : Nat} {p' : HP} (h : j < ps.length) : Conv w0 (p' :: bigE ps :: l) (bigE (ps.set j p') :: l) := fun w hm => by
  have h1 : Mem w0 (bigE ps :: p' :: l) w := hm.perm (.swap _ _ _)
  have h2 := conv_focus (j := j) (p := ps[j]) (List.getElem?_eq_getElem h) w h1
  have h3 : Mem w0 (bigE (ps.eraseIdx j) :: p' :: l) w := h2.sub (List.sublist_cons_self _ _)
  exact conv_unfocus h w (h3.perm (.swap _ _ _))
theorem conv_irSet {w0 : World} {l : List HP} {es : List IR} {j : Nat} {e' : IR} (h : j < es.length) : Conv w0 (irPart e' :: bigE (es.map irPart) :: l) (bigE ((es.set j e').map irPart) :: l) := fun w hm => by
  rw [List.map_set]; exact conv_setPart (by rw [List.length_map]; exact h) w hm
theorem zfm {w0 : World} {l : List HP} {es : List IR} {j : Nat} (h : j < es.length) : Conv w0 (bigE (es.map irPart) :: l) (irPart (es.getD j ir0) :: bigE ((es.map irPart).eraseIdx j) :: l) :=
  conv_focus (by rw [List.getElem?_map, getD_at h (d := ir0)]; rfl)
theorem zev {w0 : World} {l : List HP} {es : List IR} {j : Nat} {e' : IR} (h : j < es.length) : Conv w0 (irPart e' :: bigE ((es.map irPart).eraseIdx j) :: l) (bigE ((es.set j e').map irPart) :: l) := fun w hm => by
  rw [List.map_set]; exact conv_unfocus (by rw [List.length_map]; exact h) w hm
theorem Mem.irNil {w0 w : World} {l : List HP} (h : Mem w0 l w) (n : Nat) : Mem w0 (bigE ((List.replicate n ir0).map irPart) :: l) w := by
  refine Mem.big ?_
  rw [List.map_replicate]
  exact h.bigNil _ _ n
/-- rows of ints_o whose parts and row stand apart -/
theorem rdsIr_sep {w0 w : World} {l : List HP} {v : Value} {es : List IR} (hm : Mem w0 l w) (i j : Nat) (hi : l[i]? = some (bigE (es.map irPart))) (hj : l[j]? = some (rowE 26 1 v es.length (es.flatMap irC))) : RdsIr w v es :=
  ⟨zbm (hm.holds _ (zcg hj)), fun r hr => zbm ((hm.holds _ (zcg hi)).1 (irPart r) (List.mem_map.2 ⟨r, hr, rfl⟩)).2⟩
theorem rv_buildM {P : Program} {N : Nat} {w0 : World} {l : List HP} {env : List (Nat × Value)} {o : Oper} {t : TypeId} {ps : Array (Nat × Operand)} {vs : List (Nat × Value)} {cs : Array Value} (ho : o.op = .build t ps)
    (hp : ps.toList.mapM (fun p => (ev env p.2).map fun v => (p.1, v)) = some vs) (hb : ∀ w, Mem w0 l w → P.built t vs = some cs) : RunV P N w0 l env o (.agg cs) := fun a w st => zdp ho hp (hb w st.mem) a w st
structure WOk (x : Td) (h m C : Nat) (es : List IR) : Prop where
  len : es.length = C
  row : ∀ q, q < m → (es.getD q ir0).xs = (wvsL x h m).getD q []
theorem w_start (x : Td) (h C : Nat) : WOk x h 0 C (List.replicate C ir0) := ⟨by simp, fun q hq => absurd hq (by omega)⟩
theorem WOk.set {x : Td} {h m C : Nat} {es : List IR} (k : WOk x h m C es) (e : IR) : WOk x h m C (es.set m e) := ⟨by rw [List.length_set]; exact k.len, fun q hq => by rw [set_neG (by omega)]; exact k.row q hq⟩
theorem WOk.next {x : Td} {h m C : Nat} {es : List IR} (k : WOk x h m C es) (hr : (es.getD m ir0).xs = rowW x (wvsL x h m) m (h + 1)) : WOk x h (m + 1) C es := ⟨k.len, fun q hq => by
  by_cases e : q = m
  · subst e; rw [hr, wvs_at x h _ _ (by omega)]
  · rw [k.row q (by omega), wvs_at x h _ _ (by omega), wvs_at x h _ _ (by omega)]⟩
theorem ext_getDs {es : List IR} {ws : List (List Int)} (h1 : es.length = ws.length) (h2 : ∀ q, q < ws.length → (es.getD q ir0).xs = ws.getD q []) : es.map IR.xs = ws := by
  refine List.ext_getElem (by rw [List.length_map]; exact h1) (fun q q1 q2 => ?_)
  have := h2 q q2
  rw [List.getElem_map]
  rw [List.getD_eq_getElem?_getD, List.getElem?_eq_getElem (by omega), List.getD_eq_getElem?_getD, List.getElem?_eq_getElem q2] at this
  exact this
theorem WOk.all {x : Td} {h C : Nat} {es : List IR} (k : WOk x h C C es) : es.map IR.xs = wvsL x h C := ext_getDs (by rw [wvs_len]; exact k.len) (fun q hq => k.row q (by rw [wvs_len] at hq; exact hq))
theorem rowW_zero (x : Td) (ws : List (List Int)) (k h : Nat) : List.replicate (h + 1) (0 : Int) = fzT (h + 1) (rowW x ws k 0) := fz_nil _
theorem rowW_set {x : Td} {ws : List (List Int)} {k h t : Nat} (ht : t ≤ h) {v : Int} (hv : v = wvV x ws k (t : Int)) : (fzT (h + 1) (rowW x ws k t)).set t v = fzT (h + 1) (rowW x ws k (t + 1)) := by
  rw [fz_set (by rw [rowW_len]) (by rw [rowW_len]; omega), hv, rowW_succ]
theorem fzT_lenW (x : Td) (ws : List (List Int)) {k h t : Nat} (ht : t ≤ h + 1) : (fzT (h + 1) (rowW x ws k t)).length = h + 1 := fz_len (by rw [rowW_len]; exact ht)
theorem fzT_allW (x : Td) (ws : List (List Int)) (k h : Nat) : fzT (h + 1) (rowW x ws k (h + 1)) = rowW x ws k (h + 1) := fz_all (rowW_len _ _ _ _)
/-- a box of waves -/
structure Wv where
  bv : Value
  av : Value
  vs : List Int
  es : List IR
structure RdsWv (w : World) (b : Nat) (g : Wv) : Prop where
  c0 : w.cell? ⟨b, 0, none⟩ = some g.bv
  c1 : w.cell? ⟨b, 1, none⟩ = some g.av
  vs : RdsW w g.bv 1 g.vs.length (g.vs.map (Value.int .i64))
  es : RdsIr w g.av g.es
theorem RdsWv.lt {w : World} {b : Nat} {g : Wv} (h : RdsWv w b g) : b < w.heap.size := World.block_lt_of_cell? _ _ h.c0
set_option maxHeartbeats 4000000 in
set_option maxRecDepth 100000 in
theorem wavesAt_ans (b : Nat) (g : Wv) (k t : Int) (w : World) (hg : RdsWv w b g) (hk : 0 ≤ k ∧ k < g.vs.length) (he : g.es.length = g.vs.length) (ht : t < (g.es.getD k.toNat ir0).xs.length) :
   Calls Try.prog 54 #[.pointer (some ⟨b, 0, none⟩), .int .i64 k, .int .i64 t] w (Ans w (.int .i64 (atW (g.vs.getD k.toNat 0) (g.es.getD k.toNat ir0).xs t))) := by
 refine zbh (N := 26) (args := [.pointer (some ⟨b, 0, none⟩), .int .i64 k, .int .i64 t]) Try.func54 rfl rfl (zba 1 rfl (zac (zac (reQ 1 rfl ?_))))
 refine zbn rfl rfl rfl rfl rfl rfl (fun h1 => ?_) (fun h1 => ?_)
 ·
  refine ntQ (zan rfl (zac (reQ 1 rfl (hvQ rfl (zeb rfl rfl) (hvQ rfl (zaa (k0 := 0) rfl rfl rfl) ?_)))))
  refine hvQ rfl (zaj rfl rfl rfl (fun w hm => (hm.bel.cell (p := ⟨b, 0 + 0, none⟩) hg.lt).trans hg.c0)) (zar 1 rfl (hvQ rfl (riQ 1 rfl rfl rfl rfl (zab hg.vs)) (hvQ rfl (lzQ rfl rfl rfl (zab hg.vs)) (zbc 1 rfl ?_))))
  refine zaw (zam ?_)
  exact zbf rfl rfl (by unfold atW; first | rw [if_pos (by omega)] | rw [if_neg (by omega)])
 refine ntQ (zaq rfl (zcq (zac (reQ 1 rfl (hvQ rfl (zeb rfl rfl) (hvQ rfl (zaa (k0 := 1) rfl rfl rfl) ?_))))))
 refine hvQ rfl (zaj rfl rfl rfl (fun w hm => (hm.bel.cell (p := ⟨b, 0 + 1, none⟩) hg.lt).trans hg.c1)) (zar 1 rfl (hvQ rfl (riQ 1 rfl rfl rfl rfl (zab hg.es.row)) ?_))
 refine hvQ rfl (zat (u := (g.es.getD k.toNat ir0).v) rfl rfl rfl (zab hg.es.row) (zbk irC (fun r => r.v) (fun _ => rfl) g.es ir0 (show (k).toNat < _ by omega))) (zar 1 rfl (hvQ rfl (riQ 1 rfl rfl rfl rfl (zab (hg.es.at (d := ir0) (k := k.toNat) (by omega)))) (hvQ rfl (zat (u := .int .i64 (((g.es.getD k.toNat ir0).xs).getD ((t).toNat) 0)) rfl rfl rfl (zab (hg.es.at (d := ir0) (k := k.toNat) (by omega))) (zdk (show _ < ((g.es.getD k.toNat ir0).xs).length by omega))) (zbc 1 rfl ?_))))
 exact zaw (zbf rfl rfl (by unfold atW; first | rw [if_pos (by omega)] | rw [if_neg (by omega)]))
theorem wavesAt_lin {x : Td} {h m C i j b : Nat} {u v : Value} {es : List IR} {K d t : Int} (w : World) (c0 : w.cell? ⟨b, 0, none⟩ = some u) (c1 : w.cell? ⟨b, 1, none⟩ = some v) (hu : RdsW w u 1 (ovX x).length ((ovX x).map (Value.int .i64))) (hv : RdsIr w v es) (hw : WOk x h m C es)
    (hk : (x.n.ls.getD i lt0).xs.getD j 0 = K) (hd : (x.dl.getD i ir0).xs.getD j 0 = d) (hr : 0 ≤ K ∧ K < m) (hC : C = (ovX x).length) (hm : m < C) (ht : t - d ≤ h) :
    Calls Try.prog 54 #[.pointer (some ⟨b, 0, none⟩), .int .i64 K, .int .i64 (t - d)] w (Ans w (.int .i64 (lin x (wvsL x h m) i t j))) := by
  have hq := hw.row K.toNat (by omega)
  have hl : (es.getD K.toNat ir0).xs.length = h + 1 := by rw [hq]; exact wvs_rl x h (by omega)
  have h9 := wavesAt_ans b ⟨u, v, ovX x, es⟩ K (t - d) w ⟨c0, c1, hu, hv⟩ (show 0 ≤ K ∧ K < ((ovX x).length : Int) from by omega) (show es.length = (ovX x).length from by rw [hw.len]; exact hC) (show t - d < ((es.getD K.toNat ir0).xs.length : Int) from by omega)
  have e : atW ((ovX x).getD K.toNat 0) (es.getD K.toNat ir0).xs (t - d) = lin x (wvsL x h m) i t j := by unfold lin; rw [hq, hk, hd]
  rw [← e]; exact h9
set_option maxHeartbeats 4000000 in
theorem built_waves (x0 : Value) (x1 : Value) (h0 : x0.oneCell' = true) (h1 : x1.oneCell' = true) : Try.prog.built 82 [(0, x0), (1, x1)] = some #[x0, x1] := by
  (cases x0 <;> first | (exact absurd h0 Bool.false_ne_true) | (cases x1 <;> first | (exact absurd h1 Bool.false_ne_true) | kernel_rfl))
theorem hq_oneW {N : Nat} {w0 : World} {l : List HP} {env : List (Nat × Value)} {Q : Post} {ex : Exit} {i e s n : Nat} {v : Value} {xs : List Value} (hi : l[i]? = some (rowE e s v n xs)) (k : v.oneCell' = true → HQ N w0 l env ex Q) : HQ N w0 l env ex Q := fun a w st => k (zbm (st.mem.holds _ (zcg hi))).one a w st
theorem flat_same {es : List IR} {m : Nat} {xs : List Int} : (es.set m (IR.mk (es.getD m ir0).v xs)).flatMap irC = es.flatMap irC := by
  have e : ∀ zs : List IR, zs.flatMap irC = zs.map IR.v := fun zs => by induction zs with
    | nil => rfl
    | cons a bs ih => rw [List.flatMap_cons, List.map_cons, ih]; rfl
  rw [e, e, List.map_set]
  refine List.ext_getElem (by simp) (fun q h1 h2 => ?_)
  rw [List.getElem_set]
  split
  · subst_vars
    rw [List.getElem_map, List.getD_eq_getElem?_getD, List.getElem?_eq_getElem (by simpa using h2)]; rfl
  · rfl
set_option maxHeartbeats 4000000 in
set_option maxRecDepth 100000 in
theorem wavesOf_ret (x : Td) (a : Int) (w : World) (hr : RdsTd w x) (hok : TdOk x) (ha : 0 ≤ a ∧ a ≤ 1100) :
   Calls Try.prog 48 #[.agg #[.int .i64 x.n.ins, x.n.sv, x.n.lv, x.n.ov, x.pv, x.qv, x.kv, x.av, x.bv, .int .i64 x.oi, .int .i64 x.ni], .int .i64 a] w (Ret w (fun v' post => ∃ (b : Nat) (bv av : Value) (es : List IR), v' = .pointer (some ⟨b, 0, none⟩) ∧ post = [irsE av es, boxE b #[bv, av] 82, rowE 3 1 bv (ovX x).length ((ovX x).map (Value.int .i64))] ∧ WOk x a.toNat x.n.cnt.toNat x.n.cnt.toNat es ∧ av.oneCell' = true)) := by
 have t1 := sml hr.ks
 have t2 := sml hr.ao
 have t3 := sml hr.bs
 have t4 := hr.dl.small
 have t5 := hr.ds.small
 have t6 := hr.n.sq.small
 have t7 := hr.n.lt.small
 have t8 := sml hr.n.ou
 have hcnt : x.n.cnt = 1 + x.n.ins + x.n.ss.length + x.n.ls.length := rfl
 have hfst : x.n.fst = 1 + x.n.ins + x.n.ss.length := rfl
 obtain ⟨ci, cs_, cl, ck, ca, cb, cd, ce⟩ := hok.bnd
 have hi0 := ci.1
 have hi1 := ci.2
 have hvl := zes x.n x.ao x.oi x.n.ls.length
 have hov : (ovX x).length = x.n.cnt.toNat := by show (vlL _ _ _ _).length = _; omega
 have hrl : (List.replicate x.n.cnt.toNat ir0).length = x.n.cnt.toNat := List.length_replicate
 refine zbh (N := 152) (args := [.agg #[.int .i64 x.n.ins, x.n.sv, x.n.lv, x.n.ov, x.pv, x.qv, x.kv, x.av, x.bv, .int .i64 x.oi, .int .i64 x.ni], .int .i64 a]) Try.func48 rfl rfl (srQ ?_)
 refine zef rfl (zcx rfl rfl) ?_
 intro b1
 refine zbc 1 rfl (srQ (hvQ rfl (zaa (k0 := 0) rfl rfl rfl) (hvQ rfl (zas (cs := [.int .i64 x.n.ins, x.n.sv, x.n.lv, x.n.ov]) rfl rfl rfl rfl rfl (zao 0 rfl 0 rfl)) ?_)))
 refine zef rfl (zbw (z := .agg #[.int .i64 0, .slice none 0 0, .slice none 0 0, .slice none 0 0]) rfl rfl) ?_
 intro b2
 refine zcb (cs' := #[.int .i64 x.n.ins, x.n.sv, x.n.lv, x.n.ov]) (i := 0) (off := 0) (us := [.int .i64 x.n.ins, x.n.sv, x.n.lv, x.n.ov]) rfl rfl rfl rfl rfl rfl rfl (zaf rfl (zaf hr.n.sq.row.one (zaf hr.n.lt.row.one (zaf hr.n.ou.one zbo)))) rfl rfl rfl (ntQ (zac ?_))
 refine zdr rfl 11 [0, 1, 2, 3, 4, 5, 6, 7, 8, 9, 10] (List.take 11 _) (List.drop 11 _) [[], [], [1], [], [3], [0, 2, 4], [], [6], [7], [5, 8], [5, 8, 9]] [17, 18, 19, 20, 21, 22, 23, 24, 25, 26, 27] (fun i_ vs_ v_ p_ => match i_ with | 0 => v_ = .agg #[.int .i64 x.n.ins, x.n.sv, x.n.lv, x.n.ov] ∧ p_ = [] | 1 => v_ = .pointer (some ⟨b1, 0 + 7, none⟩) ∧ p_ = [] | 2 => v_ = x.av ∧ p_ = [] | 3 => v_ = .pointer (some ⟨b1, 0 + 9, none⟩) ∧ p_ = [] | 4 => v_ = .int .i64 x.oi ∧ p_ = [] | 5 => (fun v' post => post = [rowE 3 1 v' (ovX x).length ((ovX x).map (Value.int .i64))]) v_ p_ | 6 => v_ = .agg #[.int .i64 x.n.ins, x.n.sv, x.n.lv, x.n.ov] ∧ p_ = [] | 7 => v_ = .int .i64 x.n.cnt ∧ p_ = [] | 8 => IsRow_o 26 1 ((List.replicate (x.n.cnt).toNat ir0).length) ((List.replicate (x.n.cnt).toNat ir0).flatMap irC) v_ p_ | 9 => v_ = .agg #[(List.getD vs_ 0 undef), (List.getD vs_ 1 undef)] ∧ p_ = [] | 10 => IsBox #[(List.getD vs_ 0 undef), (List.getD vs_ 1 undef)] 82 v_ p_ | _ => True) (List.take_append_drop 11 _).symm (by kernel_rfl) (by kernel_rfl) rfl rfl ?_ ?_
 ·
  refine ⟨?_, ?_, ?_, ?_, ?_, ?_, ?_, ?_, ?_, ?_, ?_, trivial⟩
  ·
   intro vf pf hR
   exact olQ rfl (zal [5] rfl) (zbd (zas (cs := [.int .i64 x.n.ins, x.n.sv, x.n.lv, x.n.ov]) rfl rfl rfl rfl rfl (zao 0 rfl 0 rfl)))
  ·
   intro vf pf hR
   exact ovQ rfl (zal [2] rfl) (zbd (zaa (k0 := 7) rfl rfl rfl))
  ·
   intro vf pf hR
   have e1 := hR 1 (by decide)
   exact olQ rfl (sk 18 (congrArg some e1.1) (zad _)) (zbd (zaj rfl rfl rfl (zae 1 rfl rfl)))
  ·
   intro vf pf hR
   exact ovQ rfl (zal [2] rfl) (zbd (zaa (k0 := 9) rfl rfl rfl))
  ·
   intro vf pf hR
   have e3 := hR 3 (by decide)
   exact olQ rfl (sk 20 (congrArg some e3.1) (zad _)) (zbd (zaj rfl rfl rfl (zae 1 rfl rfl)))
  ·
   intro vf pf hR
   have e0 := hR 0 (by decide)
   have e2 := hR 2 (by decide)
   have e4 := hR 4 (by decide)
   exact olQ rfl (sk 17 (congrArg some e0.1) (sk 19 (congrArg some e2.1) (sk 21 (congrArg some e4.1) (zad _)))) (zap rfl rfl (fun w hm => lutValues_ret x.n x.ao _ x.oi w (hr.n.below hm.bel) (hr.ao.below hm.bel) hok.n hok.a))
  ·
   intro vf pf hR
   exact olQ rfl (zal [5] rfl) (zbd (zas (cs := [.int .i64 x.n.ins, x.n.sv, x.n.lv, x.n.ov]) rfl rfl rfl rfl rfl (zao 0 rfl 0 rfl)))
  ·
   intro vf pf hR
   have e6 := hR 6 (by decide)
   exact olQ rfl (sk 23 (congrArg some e6.1) (zad _)) (zap rfl rfl (fun w hm => zau (zey x.n w (hr.n.below hm.bel) hok.n.sz)))
  ·
   intro vf pf hR
   have e7 := hR 7 (by decide)
   exact olQ rfl (sk 24 (congrArg some e7.1) (zad _)) (zem (z := .slice none 0 0) (s := 1) (bytes := 24) (n := (List.replicate (x.n.cnt).toNat ir0).length) (cs := ((List.replicate (x.n.cnt).toNat ir0).flatMap irC)) rfl Try.underlying41 rfl (by decide) rfl rfl (by first | (rw [List.length_replicate]; done) | (rw [List.length_replicate]; omega)) (by first | (rw [List.length_replicate]; done) | (rw [List.length_replicate]; omega)) (by rw [List.length_replicate]; omega) (zfb irC 1 (fun _ => rfl) ir0 _ rfl (x.n.cnt).toNat))
  ·
   intro vf pf hR
   have e5 : (fun v' post => post = [rowE 3 1 v' (ovX x).length ((ovX x).map (Value.int .i64))]) (vf 5) (pf 5) := hR 5 (by decide)
   obtain ⟨v3, vE5⟩ : ∃ x, vf 5 = x := ⟨_, rfl⟩
   obtain ⟨p4, pE5⟩ : ∃ x, pf 5 = x := ⟨_, rfl⟩
   have hR5 := e5
   rw [vE5, pE5] at hR5
   subst hR5
   have e8 : IsRow_o 26 1 ((List.replicate (x.n.cnt).toNat ir0).length) ((List.replicate (x.n.cnt).toNat ir0).flatMap irC) (vf 8) (pf 8) := hR 8 (by decide)
   obtain ⟨g6, vE8, pE8⟩ := e8
   refine Or.inl ⟨rfl, ?_⟩
   exact zby (sk 22 (congrArg some vE5) (sk 25 (congrArg some vE8) (zad _))) (by simp only [pE5, vE5, pE8, vE8, fS] <;> rfl) (zck (zbd (rv_buildM (cs := #[v3, .slice (some ⟨g6, 0, none⟩) ((List.replicate (x.n.cnt).toNat ir0).length) ((List.replicate (x.n.cnt).toNat ir0).length)]) rfl rfl (fun w hm => built_waves v3 (.slice (some ⟨g6, 0, none⟩) ((List.replicate (x.n.cnt).toNat ir0).length) ((List.replicate (x.n.cnt).toNat ir0).length)) ((zag 0 rfl w hm).one) rfl))) (fun _ _ h => ⟨h.1.trans (by show _ = (.agg #[(vf 5), (vf 8)] : Value); first | (rw [vE5, vE8]; done) | (rw [vE5, vE8]; rfl)), h.2⟩))
  intro vf pf hR
  have e5 : (fun v' post => post = [rowE 3 1 v' (ovX x).length ((ovX x).map (Value.int .i64))]) (vf 5) (pf 5) := hR 5 (by decide)
  obtain ⟨v3, vE5⟩ : ∃ x, vf 5 = x := ⟨_, rfl⟩
  obtain ⟨p4, pE5⟩ : ∃ x, pf 5 = x := ⟨_, rfl⟩
  have hR5 := e5
  rw [vE5, pE5] at hR5
  subst hR5
  have e8 : IsRow_o 26 1 ((List.replicate (x.n.cnt).toNat ir0).length) ((List.replicate (x.n.cnt).toNat ir0).flatMap irC) (vf 8) (pf 8) := hR 8 (by decide)
  obtain ⟨g6, vE8, pE8⟩ := e8
  have e9 : (vf 9) = .agg #[(vf 5), (vf 8)] ∧ (pf 9) = [] := hR 9 (by decide)
  rw [vE5, vE8] at e9
  refine Or.inl ⟨rfl, ?_⟩
  exact zby (sk 26 (congrArg some e9.1) (zad _)) (by simp only [pE5, vE5, pE8, vE8, e9.2, fS] <;> rfl) (zck (zcx rfl rfl) (fun v_ p_ h => by show IsBox #[(vf 5), (vf 8)] 82 v_ p_; rw [vE5, vE8]; exact h))
 intro vf pf hR
 have e5 : (fun v' post => post = [rowE 3 1 v' (ovX x).length ((ovX x).map (Value.int .i64))]) (vf 5) (pf 5) := hR 5 (by decide)
 obtain ⟨v3, vE5⟩ : ∃ x, vf 5 = x := ⟨_, rfl⟩
 obtain ⟨p4, pE5⟩ : ∃ x, pf 5 = x := ⟨_, rfl⟩
 have hR5 := e5
 rw [vE5, pE5] at hR5
 subst hR5
 have e8 : IsRow_o 26 1 ((List.replicate (x.n.cnt).toNat ir0).length) ((List.replicate (x.n.cnt).toNat ir0).flatMap irC) (vf 8) (pf 8) := hR 8 (by decide)
 obtain ⟨g6, vE8, pE8⟩ := e8
 have e10 : IsBox #[(vf 5), (vf 8)] 82 (vf 10) (pf 10) := hR 10 (by decide)
 rw [vE5, vE8] at e10
 obtain ⟨b7, vE10, pE10⟩ := e10
 have q0 := hR 0 (by decide)
 have q1 := hR 1 (by decide)
 have q2 := hR 2 (by decide)
 have q3 := hR 3 (by decide)
 have q4 := hR 4 (by decide)
 have q6 := hR 6 (by decide)
 have q7 := hR 7 (by decide)
 have q9 := hR 9 (by decide)
 refine zcj (zbe [5, 4, 2, 1, 0] _ (sk 27 (congrArg some vE10) (zad _)) rfl) (by simp only [pE5, vE5, pE8, vE8, pE10, vE10, q0.2, q1.2, q2.2, q3.2, q4.2, q6.2, q7.2, q9.2, fS] <;> rfl) ?_
 simp only [List.drop_succ_cons, List.drop_zero]
 refine zbc 1 rfl (zac (zac (reQ 1 rfl (hvQ rfl (zeb rfl rfl) (hvQ rfl (zaa (k0 := 1) rfl rfl rfl) (hvQ rfl (zaj rfl rfl rfl (zae 2 rfl rfl)) (hvQ rfl (lnQ rfl rfl rfl (zag 1 rfl)) (zar 1 rfl (?_)))))))))
 refine ntQ (zax ?_)
 refine zdi [bigE ((List.replicate x.n.cnt.toNat ir0).map irPart), rowE 3 1 v3 ((ovX x).length) ((ovX x).map (Value.int .i64)), rowE 26 1 (.slice (some ⟨g6, 0, none⟩) ((List.replicate (x.n.cnt).toNat ir0).length) ((List.replicate (x.n.cnt).toNat ir0).length)) ((List.replicate (x.n.cnt).toNat ir0).length) ((List.replicate (x.n.cnt).toNat ir0).flatMap irC), boxE b7 #[v3, .slice (some ⟨g6, 0, none⟩) ((List.replicate (x.n.cnt).toNat ir0).length) ((List.replicate (x.n.cnt).toNat ir0).length)] 82, boxE b2 #[.int .i64 x.n.ins, x.n.sv, x.n.lv, x.n.ov] 28, boxE b1 #[.int .i64 x.n.ins, x.n.sv, x.n.lv, x.n.ov, x.pv, x.qv, x.kv, x.av, x.bv, .int .i64 x.oi, .int .i64 x.ni] 45] (fun w hm => hm.irNil x.n.cnt.toNat) ?_
 refine lkQ2 (α := Nat) (β := List IR) [0, 1, 2, 4, 5, 6, 32] rfl (fun m es => [bigE (es.map irPart), rowE 3 1 v3 ((ovX x).length) ((ovX x).map (Value.int .i64)), rowE 26 1 (.slice (some ⟨g6, 0, none⟩) ((List.replicate (x.n.cnt).toNat ir0).length) ((List.replicate (x.n.cnt).toNat ir0).length)) es.length (es.flatMap irC), boxE b7 #[v3, .slice (some ⟨g6, 0, none⟩) ((List.replicate (x.n.cnt).toNat ir0).length) ((List.replicate (x.n.cnt).toNat ir0).length)] 82, boxE b2 #[.int .i64 x.n.ins, x.n.sv, x.n.lv, x.n.ov] 28, boxE b1 #[.int .i64 x.n.ins, x.n.sv, x.n.lv, x.n.ov, x.pv, x.qv, x.kv, x.av, x.bv, .int .i64 x.oi, .int .i64 x.ni] 45]) (fun m es => [(33, .int .i64 (m : Int))]) (fun m es => m ≤ x.n.cnt.toNat ∧ WOk x a.toNat m x.n.cnt.toNat es) (fun m es => x.n.cnt.toNat - m) 0 (List.replicate x.n.cnt.toNat ir0) ⟨by omega, w_start _ _ _⟩ (saQ rfl) (.cons_cons _ (.cons_cons _ (.cons_cons _ (.cons_cons _ (.cons_cons _ (pfQ rfl)))))) ?_
 intro m es hi8
 obtain ⟨hm9, hw⟩ := hi8
 have hel := hw.len
 refine srQ ?_
 refine zbn rfl rfl rfl rfl rfl rfl (fun h9 => ?_) (fun h9 => ?_)
 ·
  refine ntQ (tcQ rfl (zcq (sbQ (srQ (enQ 2 rfl ?_)))))
  refine zay (zac ?_)
  refine zdr rfl 9 [0, 1, 2, 3, 4, 5, 6, 7, 8] (List.take 9 _) (List.drop 9 _) [[], [0], [1], [2], [], [], [5], [6], [3, 4]] [36, 37, 38, 39, 40, 41, 42, 43, 44] (fun i_ vs_ v_ p_ => match i_ with | 0 => v_ = .pointer (some ⟨b7, 0, none⟩) ∧ p_ = [] | 1 => v_ = .pointer (some ⟨b7, 0, none⟩) ∧ p_ = [] | 2 => v_ = .pointer (some ⟨b7, 0 + 1, none⟩) ∧ p_ = [] | 3 => v_ = .slice (some ⟨g6, 0, none⟩) ((List.replicate (x.n.cnt).toNat ir0).length) ((List.replicate (x.n.cnt).toNat ir0).length) ∧ p_ = [] | 4 => v_ = .int .i64 (m : Int) ∧ p_ = [] | 5 => v_ = .int .i64 a ∧ p_ = [] | 6 => v_ = .int .i64 (a + 1) ∧ p_ = [] | 7 => IsRow_o 3 1 ((List.replicate (a + 1).toNat (0 : Int)).length) ((List.replicate (a + 1).toNat (0 : Int)).map (Value.int .i64)) v_ p_ | 8 => v_ = elP (.slice (some ⟨g6, 0, none⟩) ((List.replicate (x.n.cnt).toNat ir0).length) ((List.replicate (x.n.cnt).toNat ir0).length)) (((m : Int)).toNat * 1) ∧ p_ = [] | _ => True) (List.take_append_drop 9 _).symm (by kernel_rfl) (by kernel_rfl) rfl rfl ?_ ?_
  ·
   refine ⟨?_, ?_, ?_, ?_, ?_, ?_, ?_, ?_, ?_, trivial⟩
   ·
    intro vf pf hR
    exact ovQ rfl (zal [6] rfl) (zbd (zah rfl))
   ·
    intro vf pf hR
    have e0 := hR 0 (by decide)
    exact ovQ rfl (sk 36 (congrArg some e0.1) (zad _)) (zbd (zeb rfl rfl))
   ·
    intro vf pf hR
    have e1 := hR 1 (by decide)
    exact ovQ rfl (sk 37 (congrArg some e1.1) (zad _)) (zbd (zaa (k0 := 1) rfl rfl rfl))
   ·
    intro vf pf hR
    have e2 := hR 2 (by decide)
    exact olQ rfl (sk 38 (congrArg some e2.1) (zad _)) (zbd (zaj rfl rfl rfl (zae 3 rfl rfl)))
   ·
    intro vf pf hR
    exact ovQ rfl (zal [7] rfl) (zbd (zah rfl))
   ·
    intro vf pf hR
    exact ovQ rfl (zal [1] rfl) (zbd (zah rfl))
   ·
    intro vf pf hR
    have e5 := hR 5 (by decide)
    exact ovQ rfl (sk 41 (congrArg some e5.1) (zad _)) (zbd (vaQ rfl rfl rfl))
   ·
    intro vf pf hR
    have e6 := hR 6 (by decide)
    exact olQ rfl (sk 42 (congrArg some e6.1) (zad _)) (zem (z := .int .i64 0) (s := 1) (bytes := 8) (n := (List.replicate (a + 1).toNat (0 : Int)).length) (cs := ((List.replicate (a + 1).toNat (0 : Int)).map (Value.int .i64))) rfl Try.underlying26 rfl (by decide) rfl rfl (by first | (rw [List.length_replicate]; done) | (rw [List.length_replicate]; omega)) (by first | (rw [List.length_replicate]; done) | (rw [List.length_replicate]; omega)) (by rw [List.length_replicate]; omega) (zfc _))
   intro vf pf hR
   have e3 := hR 3 (by decide)
   have e4 := hR 4 (by decide)
   exact olQ rfl (sk 39 (congrArg some e3.1) (sk 40 (congrArg some e4.1) (zad _))) (zbd (riQ 1 rfl rfl rfl rfl (zag 2 rfl)))
  intro vf pf hR
  have e7 : IsRow_o 3 1 ((List.replicate (a + 1).toNat (0 : Int)).length) ((List.replicate (a + 1).toNat (0 : Int)).map (Value.int .i64)) (vf 7) (pf 7) := hR 7 (by decide)
  obtain ⟨g10, vE7, pE7⟩ := e7
  have e8 := hR 8 (by decide)
  have q0 := hR 0 (by decide)
  have q1 := hR 1 (by decide)
  have q2 := hR 2 (by decide)
  have q3 := hR 3 (by decide)
  have q4 := hR 4 (by decide)
  have q5 := hR 5 (by decide)
  have q6 := hR 6 (by decide)
  have q8 := hR 8 (by decide)
  refine zcj (zbe [34, 33, 32, 7, 6, 5, 4, 2, 1, 0] _ (sk 43 (congrArg some vE7) (sk 44 (congrArg some e8.1) (zad _))) rfl) (by simp only [pE7, vE7, q0.2, q1.2, q2.2, q3.2, q4.2, q5.2, q6.2, q8.2, fS] <;> rfl) ?_
  simp only [List.drop_succ_cons, List.drop_zero]
  refine zcz (i := 3) (n' := (es.set m (IR.mk (.slice (some ⟨g10, 0, none⟩) ((List.replicate (a + 1).toNat (0 : Int)).length) ((List.replicate (a + 1).toNat (0 : Int)).length)) (List.replicate ((a + 1).toNat) (0 : Int)))).length) rfl rfl rfl rfl rfl rfl rfl rfl (by first | omega | (simp only [List.length_set]; omega)) List.length_set.symm (zdc irC (fun r => r.v) (fun _ => rfl) _ (IR.mk (.slice (some ⟨g10, 0, none⟩) ((List.replicate (a + 1).toNat (0 : Int)).length) ((List.replicate (a + 1).toNat (0 : Int)).length)) (List.replicate ((a + 1).toNat) (0 : Int))) rfl) rfl (ntQ (zba 1 rfl (zax ?_)))
  refine zfd 7 [6, 5, 4, 3, 2, 1, 0] rfl rfl (by decide) ?_
  refine zdi [bigE ((es.set m (IR.mk (.slice (some ⟨g10, 0, none⟩) ((List.replicate (a + 1).toNat (0 : Int)).length) ((List.replicate (a + 1).toNat (0 : Int)).length)) (List.replicate ((a + 1).toNat) (0 : Int)))).map irPart), rowE 3 1 v3 ((ovX x).length) ((ovX x).map (Value.int .i64)), rowE 26 1 (.slice (some ⟨g6, 0, none⟩) ((List.replicate (x.n.cnt).toNat ir0).length) ((List.replicate (x.n.cnt).toNat ir0).length)) ((es.set m (IR.mk (.slice (some ⟨g10, 0, none⟩) ((List.replicate (a + 1).toNat (0 : Int)).length) ((List.replicate (a + 1).toNat (0 : Int)).length)) (List.replicate ((a + 1).toNat) (0 : Int)))).length) ((es.set m (IR.mk (.slice (some ⟨g10, 0, none⟩) ((List.replicate (a + 1).toNat (0 : Int)).length) ((List.replicate (a + 1).toNat (0 : Int)).length)) (List.replicate ((a + 1).toNat) (0 : Int)))).flatMap irC), boxE b7 #[v3, .slice (some ⟨g6, 0, none⟩) ((List.replicate (x.n.cnt).toNat ir0).length) ((List.replicate (x.n.cnt).toNat ir0).length)] 82, boxE b2 #[.int .i64 x.n.ins, x.n.sv, x.n.lv, x.n.ov] 28, boxE b1 #[.int .i64 x.n.ins, x.n.sv, x.n.lv, x.n.ov, x.pv, x.qv, x.kv, x.av, x.bv, .int .i64 x.oi, .int .i64 x.ni] 45] (conv_irSet (es := es) (j := m) (e' := (IR.mk (.slice (some ⟨g10, 0, none⟩) ((List.replicate (a + 1).toNat (0 : Int)).length) ((List.replicate (a + 1).toNat (0 : Int)).length)) (List.replicate ((a + 1).toNat) (0 : Int)))) (by omega)) ?_
  refine lkQ2 (α := Nat) (β := List IR) [0, 1, 2, 4, 5, 6, 7, 32, 33, 34] rfl (fun t e2 => [bigE (e2.map irPart), rowE 3 1 v3 ((ovX x).length) ((ovX x).map (Value.int .i64)), rowE 26 1 (.slice (some ⟨g6, 0, none⟩) ((List.replicate (x.n.cnt).toNat ir0).length) ((List.replicate (x.n.cnt).toNat ir0).length)) e2.length (e2.flatMap irC), boxE b7 #[v3, .slice (some ⟨g6, 0, none⟩) ((List.replicate (x.n.cnt).toNat ir0).length) ((List.replicate (x.n.cnt).toNat ir0).length)] 82, boxE b2 #[.int .i64 x.n.ins, x.n.sv, x.n.lv, x.n.ov] 28, boxE b1 #[.int .i64 x.n.ins, x.n.sv, x.n.lv, x.n.ov, x.pv, x.qv, x.kv, x.av, x.bv, .int .i64 x.oi, .int .i64 x.ni] 45]) (fun t e2 => [(8, .int .i64 (t : Int))]) (fun t e2 => t ≤ a.toNat + 1 ∧ WOk x a.toNat m x.n.cnt.toNat e2 ∧ (e2.getD m ir0).xs = fzT (a.toNat + 1) (rowW x (wvsL x a.toNat m) m t)) (fun t e2 => a.toNat + 1 - t) 0 (es.set m (IR.mk (.slice (some ⟨g10, 0, none⟩) ((List.replicate (a + 1).toNat (0 : Int)).length) ((List.replicate (a + 1).toNat (0 : Int)).length)) (List.replicate ((a + 1).toNat) (0 : Int)))) ⟨by omega, hw.set _, by rw [zgh (by omega)]; show List.replicate _ _ = _; rw [show (a + 1).toNat = a.toNat + 1 by omega]; exact rowW_zero x _ m _⟩ (saQ rfl) (.cons_cons _ (.cons_cons _ (.cons_cons _ (.cons_cons _ (.cons_cons _ (pfQ rfl)))))) ?_
  intro t e2 hi11
  obtain ⟨ht, hw2, hx2⟩ := hi11
  have hel2 := hw2.len
  have hxl2 : (e2.getD m ir0).xs.length = a.toNat + 1 := by rw [hx2]; exact fzT_lenW _ _ ht
  refine zac (zac (reQ 2 rfl ?_))
  refine hl_leq rfl rfl rfl rfl rfl rfl (fun h12 => ?_) (fun h12 => ?_)
  ·
   refine ntQ (zan rfl (zcq (sbQ (zba 1 rfl ?_))))
   refine sbQ (zac (reQ 1 rfl ?_))
   refine zcs rfl rfl rfl rfl rfl rfl (fun h13 => ?_) (fun h13 => ?_)
   ·
    refine zbc 1 rfl (zan rfl (hc_skip (zcv (zbg ?_))))
    refine zge 6 [5, 4, 3, 2, 1, 0] rfl rfl (by decide) ?_
    refine zfz [rowE 3 1 ((e2.getD m ir0).v) (((e2.getD m ir0).xs).length) (((e2.getD m ir0).xs).map (Value.int .i64)), bigE ((e2.map irPart).eraseIdx m), rowE 3 1 v3 ((ovX x).length) ((ovX x).map (Value.int .i64)), rowE 26 1 (.slice (some ⟨g6, 0, none⟩) ((List.replicate (x.n.cnt).toNat ir0).length) ((List.replicate (x.n.cnt).toNat ir0).length)) e2.length (e2.flatMap irC), boxE b7 #[v3, .slice (some ⟨g6, 0, none⟩) ((List.replicate (x.n.cnt).toNat ir0).length) ((List.replicate (x.n.cnt).toNat ir0).length)] 82, boxE b2 #[.int .i64 x.n.ins, x.n.sv, x.n.lv, x.n.ov] 28, boxE b1 #[.int .i64 x.n.ins, x.n.sv, x.n.lv, x.n.ov, x.pv, x.qv, x.kv, x.av, x.bv, .int .i64 x.oi, .int .i64 x.ni] 45] (zfm (es := e2) (j := m) (by omega)) ?_
    refine zar 1 rfl (hvQ rfl (zeb rfl rfl) (hvQ rfl (zaa (k0 := 1) rfl rfl rfl) (hvQ rfl (zaj rfl rfl rfl (zae 4 rfl rfl)) (zar 1 rfl (hvQ rfl (riQ 1 rfl rfl rfl rfl (zag 3 rfl)) ?_)))))
    refine hvQ rfl (zat (u := (e2.getD m ir0).v) rfl rfl rfl (zag 3 rfl) (zbk irC (fun r => r.v) (fun _ => rfl) e2 ir0 (show m < _ by omega))) (zar 2 rfl (hvQ rfl (riQ 1 rfl rfl rfl rfl (zag 0 rfl)) ?_))
    refine zcz (i := 0) (n' := (((e2.getD m ir0).xs).set t 0).length) (xs' := ((((e2.getD m ir0).xs).set t 0).map (Value.int .i64))) rfl rfl rfl rfl rfl rfl rfl rfl (by first | omega | (simp only [List.length_set]; omega)) List.length_set.symm (zdj _ _ _) rfl (zcf (zcv (reQ 1 rfl (hvQ rfl (vaQ rfl rfl rfl) (enQ 1 rfl ?_)))))
    have hv9 : 0 = wvV x (wvsL x a.toNat m) m (t : Int) := by rw [show m = 0 by omega]; exact (wv_zero x _ _ hi0).symm
    refine zbj 7 [6, 5, 4, 3, 2, 1, 0] rfl rfl (by decide) ?_
    refine zew [bigE ((e2.set m (IR.mk (e2.getD m ir0).v (((e2.getD m ir0).xs).set t 0))).map irPart), rowE 3 1 v3 ((ovX x).length) ((ovX x).map (Value.int .i64)), rowE 26 1 (.slice (some ⟨g6, 0, none⟩) ((List.replicate (x.n.cnt).toNat ir0).length) ((List.replicate (x.n.cnt).toNat ir0).length)) ((e2.set m (IR.mk (e2.getD m ir0).v (((e2.getD m ir0).xs).set t 0))).length) ((e2.set m (IR.mk (e2.getD m ir0).v (((e2.getD m ir0).xs).set t 0))).flatMap irC), boxE b7 #[v3, .slice (some ⟨g6, 0, none⟩) ((List.replicate (x.n.cnt).toNat ir0).length) ((List.replicate (x.n.cnt).toNat ir0).length)] 82, boxE b2 #[.int .i64 x.n.ins, x.n.sv, x.n.lv, x.n.ov] 28, boxE b1 #[.int .i64 x.n.ins, x.n.sv, x.n.lv, x.n.ov, x.pv, x.qv, x.kv, x.av, x.bv, .int .i64 x.oi, .int .i64 x.ni] 45] (fun w hm => by
        have h8 := zev (es := e2) (j := m) (e' := IR.mk (e2.getD m ir0).v (((e2.getD m ir0).xs).set t 0)) (by omega) w hm
        have h7 : (e2.set m (IR.mk (e2.getD m ir0).v (((e2.getD m ir0).xs).set t 0))).flatMap irC = e2.flatMap irC := flat_same
        rw [h7, List.length_set]; exact h8) ?_
    exact zca (t + 1) (e2.set m (IR.mk (e2.getD m ir0).v (((e2.getD m ir0).xs).set t 0))) ⟨by omega, hw2.set _, by rw [zgh (by omega)]; show ((e2.getD m ir0).xs).set t 0 = _; rw [hx2]; exact rowW_set (by omega) hv9⟩ (by omega) (saQ rfl) (.cons_cons _ (.cons_cons _ (.cons_cons _ (.cons_cons _ (.cons_cons _ (pfQ rfl))))))
   refine zbc 1 rfl (zaq rfl (zac (reQ 1 rfl (hvQ rfl (zaa (k0 := 0) rfl rfl rfl) (hvQ rfl (zaj rfl rfl rfl (zae 4 rfl rfl)) ?_)))))
   refine hl_leq rfl rfl rfl rfl rfl rfl (fun h14 => ?_) (fun h14 => ?_)
   ·
    refine zar 1 rfl (zcf (zay (zan rfl (zbg (hvQ rfl (zaa (k0 := 10) rfl rfl rfl) (hvQ rfl (zaj rfl rfl rfl (zae 5 rfl rfl)) (zar 1 rfl (hvQ rfl (vsQ rfl rfl rfl) (hvQ rfl (rv_conv rfl Try.underlying3 Try.underlying111 rfl (IntWalk.u64_in _ (by omega))) (hvQ rfl (rv_shr rfl rfl rfl (by omega)) (hvQ rfl (zdb rfl (by decide) rfl rfl (r := (x.ni / 2 ^ ((m : Int) - 1 : Int).toNat) % 2) (andOne _)) (zar 1 rfl ?_))))))))))))
    refine zcf (zcv (zbg ?_))
    refine zge 6 [5, 4, 3, 2, 1, 0] rfl rfl (by decide) ?_
    refine zfz [rowE 3 1 ((e2.getD m ir0).v) (((e2.getD m ir0).xs).length) (((e2.getD m ir0).xs).map (Value.int .i64)), bigE ((e2.map irPart).eraseIdx m), rowE 3 1 v3 ((ovX x).length) ((ovX x).map (Value.int .i64)), rowE 26 1 (.slice (some ⟨g6, 0, none⟩) ((List.replicate (x.n.cnt).toNat ir0).length) ((List.replicate (x.n.cnt).toNat ir0).length)) e2.length (e2.flatMap irC), boxE b7 #[v3, .slice (some ⟨g6, 0, none⟩) ((List.replicate (x.n.cnt).toNat ir0).length) ((List.replicate (x.n.cnt).toNat ir0).length)] 82, boxE b2 #[.int .i64 x.n.ins, x.n.sv, x.n.lv, x.n.ov] 28, boxE b1 #[.int .i64 x.n.ins, x.n.sv, x.n.lv, x.n.ov, x.pv, x.qv, x.kv, x.av, x.bv, .int .i64 x.oi, .int .i64 x.ni] 45] (zfm (es := e2) (j := m) (by omega)) ?_
    refine zar 1 rfl (hvQ rfl (zeb rfl rfl) (hvQ rfl (zaa (k0 := 1) rfl rfl rfl) (hvQ rfl (zaj rfl rfl rfl (zae 4 rfl rfl)) (zar 1 rfl (hvQ rfl (riQ 1 rfl rfl rfl rfl (zag 3 rfl)) ?_)))))
    refine hvQ rfl (zat (u := (e2.getD m ir0).v) rfl rfl rfl (zag 3 rfl) (zbk irC (fun r => r.v) (fun _ => rfl) e2 ir0 (show m < _ by omega))) (zar 2 rfl (hvQ rfl (riQ 1 rfl rfl rfl rfl (zag 0 rfl)) ?_))
    refine zcz (i := 0) (n' := (((e2.getD m ir0).xs).set t ((x.ni / 2 ^ ((m : Int) - 1 : Int).toNat) % 2)).length) (xs' := ((((e2.getD m ir0).xs).set t ((x.ni / 2 ^ ((m : Int) - 1 : Int).toNat) % 2)).map (Value.int .i64))) rfl rfl rfl rfl rfl rfl rfl rfl (by first | omega | (simp only [List.length_set]; omega)) List.length_set.symm (zdj _ _ _) rfl (zcf (zcv (reQ 1 rfl (hvQ rfl (vaQ rfl rfl rfl) (enQ 1 rfl ?_)))))
    have hv9 : (x.ni / 2 ^ ((m : Int) - 1 : Int).toNat) % 2 = wvV x (wvsL x a.toNat m) m (t : Int) := (wv_in x _ _ (by omega) (by omega)).symm
    refine zbj 7 [6, 5, 4, 3, 2, 1, 0] rfl rfl (by decide) ?_
    refine zew [bigE ((e2.set m (IR.mk (e2.getD m ir0).v (((e2.getD m ir0).xs).set t ((x.ni / 2 ^ ((m : Int) - 1 : Int).toNat) % 2)))).map irPart), rowE 3 1 v3 ((ovX x).length) ((ovX x).map (Value.int .i64)), rowE 26 1 (.slice (some ⟨g6, 0, none⟩) ((List.replicate (x.n.cnt).toNat ir0).length) ((List.replicate (x.n.cnt).toNat ir0).length)) ((e2.set m (IR.mk (e2.getD m ir0).v (((e2.getD m ir0).xs).set t ((x.ni / 2 ^ ((m : Int) - 1 : Int).toNat) % 2)))).length) ((e2.set m (IR.mk (e2.getD m ir0).v (((e2.getD m ir0).xs).set t ((x.ni / 2 ^ ((m : Int) - 1 : Int).toNat) % 2)))).flatMap irC), boxE b7 #[v3, .slice (some ⟨g6, 0, none⟩) ((List.replicate (x.n.cnt).toNat ir0).length) ((List.replicate (x.n.cnt).toNat ir0).length)] 82, boxE b2 #[.int .i64 x.n.ins, x.n.sv, x.n.lv, x.n.ov] 28, boxE b1 #[.int .i64 x.n.ins, x.n.sv, x.n.lv, x.n.ov, x.pv, x.qv, x.kv, x.av, x.bv, .int .i64 x.oi, .int .i64 x.ni] 45] (fun w hm => by
        have h8 := zev (es := e2) (j := m) (e' := IR.mk (e2.getD m ir0).v (((e2.getD m ir0).xs).set t ((x.ni / 2 ^ ((m : Int) - 1 : Int).toNat) % 2))) (by omega) w hm
        have h7 : (e2.set m (IR.mk (e2.getD m ir0).v (((e2.getD m ir0).xs).set t ((x.ni / 2 ^ ((m : Int) - 1 : Int).toNat) % 2)))).flatMap irC = e2.flatMap irC := flat_same
        rw [h7, List.length_set]; exact h8) ?_
    exact zca (t + 1) (e2.set m (IR.mk (e2.getD m ir0).v (((e2.getD m ir0).xs).set t ((x.ni / 2 ^ ((m : Int) - 1 : Int).toNat) % 2)))) ⟨by omega, hw2.set _, by rw [zgh (by omega)]; show ((e2.getD m ir0).xs).set t ((x.ni / 2 ^ ((m : Int) - 1 : Int).toNat) % 2) = _; rw [hx2]; exact rowW_set (by omega) hv9⟩ (by omega) (saQ rfl) (.cons_cons _ (.cons_cons _ (.cons_cons _ (.cons_cons _ (.cons_cons _ (pfQ rfl))))))
   refine zbc 1 rfl (zaq rfl (zac (reQ 1 rfl (hvQ rfl (zas (cs := [.int .i64 x.n.ins, x.n.sv, x.n.lv, x.n.ov]) rfl rfl rfl rfl rfl (zao 4 rfl 0 rfl)) ?_))))
   refine zdn rfl (zap rfl rfl (fun w hm => zau (zej x.n w (hr.n.below hm.bel) hok.n.sz))) (zbn rfl rfl rfl rfl rfl rfl (fun h15 => ?_) (fun h15 => ?_))
   ·
    refine zbc 1 rfl (zan rfl (zac (reQ 1 rfl (hvQ rfl (vsQ rfl rfl rfl) (hvQ rfl (zaa (k0 := 0) rfl rfl rfl) (hvQ rfl (zaj rfl rfl rfl (zae 4 rfl rfl)) (hvQ rfl (vsQ rfl rfl rfl) (zar 1 rfl (?_)))))))))
    refine zcf (zay (zac (zbg (hvQ rfl (zaa (k0 := 7) rfl rfl rfl) (hvQ rfl (zaj rfl rfl rfl (zae 5 rfl rfl)) (zar 1 rfl (hvQ rfl (riQ 1 rfl rfl rfl rfl (zab ((hr).ao))) (hvQ rfl (lzQ rfl rfl rfl (zab ((hr).ao))) (hvQ rfl (zdb rfl (by decide) rfl rfl (r := (x.ao.getD ((((m : Int) - 1) - x.n.ins).toNat) 0) % 2) (andOne _)) (zbc 1 rfl ?_))))))))))
    refine zac (reQ 1 rfl (hvQ rfl (zaa (k0 := 6) rfl rfl rfl) (hvQ rfl (zaj rfl rfl rfl (zae 5 rfl rfl)) (zar 1 rfl (hvQ rfl (riQ 1 rfl rfl rfl rfl (zab ((hr).ks))) (hvQ rfl (lzQ rfl rfl rfl (zab ((hr).ks))) ?_))))))
    refine zff rfl rfl rfl rfl rfl rfl (fun h16 => ?_) (fun h16 => ?_)
    ·
     refine (zcf (zay (zan rfl (zbg (hvQ rfl (zaa (k0 := 8) rfl rfl rfl) (hvQ rfl (zaj rfl rfl rfl (zae 5 rfl rfl)) (zar 1 rfl (hvQ rfl (riQ 1 rfl rfl rfl rfl (zab ((hr).bs))) (hvQ rfl (lzQ rfl rfl rfl (zab ((hr).bs))) (hvQ rfl (zdb rfl (by decide) rfl rfl (r := (x.bs.getD ((((m : Int) - 1) - x.n.ins).toNat) 0) % 2) (andOne _)) (zar 1 rfl (zcf ?_))))))))))))
     refine zcv (zbg ?_)
     refine zge 6 [5, 4, 3, 2, 1, 0] rfl rfl (by decide) ?_
     refine zfz [rowE 3 1 ((e2.getD m ir0).v) (((e2.getD m ir0).xs).length) (((e2.getD m ir0).xs).map (Value.int .i64)), bigE ((e2.map irPart).eraseIdx m), rowE 3 1 v3 ((ovX x).length) ((ovX x).map (Value.int .i64)), rowE 26 1 (.slice (some ⟨g6, 0, none⟩) ((List.replicate (x.n.cnt).toNat ir0).length) ((List.replicate (x.n.cnt).toNat ir0).length)) e2.length (e2.flatMap irC), boxE b7 #[v3, .slice (some ⟨g6, 0, none⟩) ((List.replicate (x.n.cnt).toNat ir0).length) ((List.replicate (x.n.cnt).toNat ir0).length)] 82, boxE b2 #[.int .i64 x.n.ins, x.n.sv, x.n.lv, x.n.ov] 28, boxE b1 #[.int .i64 x.n.ins, x.n.sv, x.n.lv, x.n.ov, x.pv, x.qv, x.kv, x.av, x.bv, .int .i64 x.oi, .int .i64 x.ni] 45] (zfm (es := e2) (j := m) (by omega)) ?_
     refine zar 1 rfl (hvQ rfl (zeb rfl rfl) (hvQ rfl (zaa (k0 := 1) rfl rfl rfl) (hvQ rfl (zaj rfl rfl rfl (zae 4 rfl rfl)) (zar 1 rfl (hvQ rfl (riQ 1 rfl rfl rfl rfl (zag 3 rfl)) ?_)))))
     refine hvQ rfl (zat (u := (e2.getD m ir0).v) rfl rfl rfl (zag 3 rfl) (zbk irC (fun r => r.v) (fun _ => rfl) e2 ir0 (show m < _ by omega))) (zar 2 rfl (hvQ rfl (riQ 1 rfl rfl rfl rfl (zag 0 rfl)) ?_))
     refine zcz (i := 0) (n' := (((e2.getD m ir0).xs).set t ((x.bs.getD ((((m : Int) - 1) - x.n.ins).toNat) 0) % 2)).length) (xs' := ((((e2.getD m ir0).xs).set t ((x.bs.getD ((((m : Int) - 1) - x.n.ins).toNat) 0) % 2)).map (Value.int .i64))) rfl rfl rfl rfl rfl rfl rfl rfl (by first | omega | (simp only [List.length_set]; omega)) List.length_set.symm (zdj _ _ _) rfl (zcf (zcv (reQ 1 rfl (hvQ rfl (vaQ rfl rfl rfl) (enQ 1 rfl ?_)))))
     have hv9 : (x.bs.getD ((((m : Int) - 1) - x.n.ins).toNat) 0) % 2 = wvV x (wvsL x a.toNat m) m (t : Int) := (wv_new x _ _ hi0 cb (by omega) (by omega) (by omega)).symm
     refine zbj 7 [6, 5, 4, 3, 2, 1, 0] rfl rfl (by decide) ?_
     refine zew [bigE ((e2.set m (IR.mk (e2.getD m ir0).v (((e2.getD m ir0).xs).set t ((x.bs.getD ((((m : Int) - 1) - x.n.ins).toNat) 0) % 2)))).map irPart), rowE 3 1 v3 ((ovX x).length) ((ovX x).map (Value.int .i64)), rowE 26 1 (.slice (some ⟨g6, 0, none⟩) ((List.replicate (x.n.cnt).toNat ir0).length) ((List.replicate (x.n.cnt).toNat ir0).length)) ((e2.set m (IR.mk (e2.getD m ir0).v (((e2.getD m ir0).xs).set t ((x.bs.getD ((((m : Int) - 1) - x.n.ins).toNat) 0) % 2)))).length) ((e2.set m (IR.mk (e2.getD m ir0).v (((e2.getD m ir0).xs).set t ((x.bs.getD ((((m : Int) - 1) - x.n.ins).toNat) 0) % 2)))).flatMap irC), boxE b7 #[v3, .slice (some ⟨g6, 0, none⟩) ((List.replicate (x.n.cnt).toNat ir0).length) ((List.replicate (x.n.cnt).toNat ir0).length)] 82, boxE b2 #[.int .i64 x.n.ins, x.n.sv, x.n.lv, x.n.ov] 28, boxE b1 #[.int .i64 x.n.ins, x.n.sv, x.n.lv, x.n.ov, x.pv, x.qv, x.kv, x.av, x.bv, .int .i64 x.oi, .int .i64 x.ni] 45] (fun w hm => by
         have h8 := zev (es := e2) (j := m) (e' := IR.mk (e2.getD m ir0).v (((e2.getD m ir0).xs).set t ((x.bs.getD ((((m : Int) - 1) - x.n.ins).toNat) 0) % 2))) (by omega) w hm
         have h7 : (e2.set m (IR.mk (e2.getD m ir0).v (((e2.getD m ir0).xs).set t ((x.bs.getD ((((m : Int) - 1) - x.n.ins).toNat) 0) % 2)))).flatMap irC = e2.flatMap irC := flat_same
         rw [h7, List.length_set]; exact h8) ?_
     exact zca (t + 1) (e2.set m (IR.mk (e2.getD m ir0).v (((e2.getD m ir0).xs).set t ((x.bs.getD ((((m : Int) - 1) - x.n.ins).toNat) 0) % 2)))) ⟨by omega, hw2.set _, by rw [zgh (by omega)]; show ((e2.getD m ir0).xs).set t ((x.bs.getD ((((m : Int) - 1) - x.n.ins).toNat) 0) % 2) = _; rw [hx2]; exact rowW_set (by omega) hv9⟩ (by omega) (saQ rfl) (.cons_cons _ (.cons_cons _ (.cons_cons _ (.cons_cons _ (.cons_cons _ (pfQ rfl))))))
    refine ntQ (fsQ rfl (zcv (zbg ?_)))
    refine zge 6 [5, 4, 3, 2, 1, 0] rfl rfl (by decide) ?_
    refine zfz [rowE 3 1 ((e2.getD m ir0).v) (((e2.getD m ir0).xs).length) (((e2.getD m ir0).xs).map (Value.int .i64)), bigE ((e2.map irPart).eraseIdx m), rowE 3 1 v3 ((ovX x).length) ((ovX x).map (Value.int .i64)), rowE 26 1 (.slice (some ⟨g6, 0, none⟩) ((List.replicate (x.n.cnt).toNat ir0).length) ((List.replicate (x.n.cnt).toNat ir0).length)) e2.length (e2.flatMap irC), boxE b7 #[v3, .slice (some ⟨g6, 0, none⟩) ((List.replicate (x.n.cnt).toNat ir0).length) ((List.replicate (x.n.cnt).toNat ir0).length)] 82, boxE b2 #[.int .i64 x.n.ins, x.n.sv, x.n.lv, x.n.ov] 28, boxE b1 #[.int .i64 x.n.ins, x.n.sv, x.n.lv, x.n.ov, x.pv, x.qv, x.kv, x.av, x.bv, .int .i64 x.oi, .int .i64 x.ni] 45] (zfm (es := e2) (j := m) (by omega)) ?_
    refine zar 1 rfl (hvQ rfl (zeb rfl rfl) (hvQ rfl (zaa (k0 := 1) rfl rfl rfl) (hvQ rfl (zaj rfl rfl rfl (zae 4 rfl rfl)) (zar 1 rfl (hvQ rfl (riQ 1 rfl rfl rfl rfl (zag 3 rfl)) ?_)))))
    refine hvQ rfl (zat (u := (e2.getD m ir0).v) rfl rfl rfl (zag 3 rfl) (zbk irC (fun r => r.v) (fun _ => rfl) e2 ir0 (show m < _ by omega))) (zar 2 rfl (hvQ rfl (riQ 1 rfl rfl rfl rfl (zag 0 rfl)) ?_))
    refine zcz (i := 0) (n' := (((e2.getD m ir0).xs).set t ((x.ao.getD ((((m : Int) - 1) - x.n.ins).toNat) 0) % 2)).length) (xs' := ((((e2.getD m ir0).xs).set t ((x.ao.getD ((((m : Int) - 1) - x.n.ins).toNat) 0) % 2)).map (Value.int .i64))) rfl rfl rfl rfl rfl rfl rfl rfl (by first | omega | (simp only [List.length_set]; omega)) List.length_set.symm (zdj _ _ _) rfl (zcf (zcv (reQ 1 rfl (hvQ rfl (vaQ rfl rfl rfl) (enQ 1 rfl ?_)))))
    have hv9 : (x.ao.getD ((((m : Int) - 1) - x.n.ins).toNat) 0) % 2 = wvV x (wvsL x a.toNat m) m (t : Int) := (wv_old x _ _ hi0 ca (by omega) (by omega) (by omega)).symm
    refine zbj 7 [6, 5, 4, 3, 2, 1, 0] rfl rfl (by decide) ?_
    refine zew [bigE ((e2.set m (IR.mk (e2.getD m ir0).v (((e2.getD m ir0).xs).set t ((x.ao.getD ((((m : Int) - 1) - x.n.ins).toNat) 0) % 2)))).map irPart), rowE 3 1 v3 ((ovX x).length) ((ovX x).map (Value.int .i64)), rowE 26 1 (.slice (some ⟨g6, 0, none⟩) ((List.replicate (x.n.cnt).toNat ir0).length) ((List.replicate (x.n.cnt).toNat ir0).length)) ((e2.set m (IR.mk (e2.getD m ir0).v (((e2.getD m ir0).xs).set t ((x.ao.getD ((((m : Int) - 1) - x.n.ins).toNat) 0) % 2)))).length) ((e2.set m (IR.mk (e2.getD m ir0).v (((e2.getD m ir0).xs).set t ((x.ao.getD ((((m : Int) - 1) - x.n.ins).toNat) 0) % 2)))).flatMap irC), boxE b7 #[v3, .slice (some ⟨g6, 0, none⟩) ((List.replicate (x.n.cnt).toNat ir0).length) ((List.replicate (x.n.cnt).toNat ir0).length)] 82, boxE b2 #[.int .i64 x.n.ins, x.n.sv, x.n.lv, x.n.ov] 28, boxE b1 #[.int .i64 x.n.ins, x.n.sv, x.n.lv, x.n.ov, x.pv, x.qv, x.kv, x.av, x.bv, .int .i64 x.oi, .int .i64 x.ni] 45] (fun w hm => by
        have h8 := zev (es := e2) (j := m) (e' := IR.mk (e2.getD m ir0).v (((e2.getD m ir0).xs).set t ((x.ao.getD ((((m : Int) - 1) - x.n.ins).toNat) 0) % 2))) (by omega) w hm
        have h7 : (e2.set m (IR.mk (e2.getD m ir0).v (((e2.getD m ir0).xs).set t ((x.ao.getD ((((m : Int) - 1) - x.n.ins).toNat) 0) % 2)))).flatMap irC = e2.flatMap irC := flat_same
        rw [h7, List.length_set]; exact h8) ?_
    exact zca (t + 1) (e2.set m (IR.mk (e2.getD m ir0).v (((e2.getD m ir0).xs).set t ((x.ao.getD ((((m : Int) - 1) - x.n.ins).toNat) 0) % 2)))) ⟨by omega, hw2.set _, by rw [zgh (by omega)]; show ((e2.getD m ir0).xs).set t ((x.ao.getD ((((m : Int) - 1) - x.n.ins).toNat) 0) % 2) = _; rw [hx2]; exact rowW_set (by omega) hv9⟩ (by omega) (saQ rfl) (.cons_cons _ (.cons_cons _ (.cons_cons _ (.cons_cons _ (.cons_cons _ (pfQ rfl))))))
   refine zbc 1 rfl (zaq rfl (zac (reQ 1 rfl (hvQ rfl (zas (cs := [.int .i64 x.n.ins, x.n.sv, x.n.lv, x.n.ov]) rfl rfl rfl rfl rfl (zao 4 rfl 0 rfl)) ?_))))
   refine zdn rfl (zap rfl rfl (fun w hm => zau (zej x.n w (hr.n.below hm.bel) hok.n.sz))) (hvQ rfl (vsQ rfl rfl rfl) ?_)
   obtain ⟨i, hmi⟩ : ∃ i : Nat, (m : Int) - x.n.fst = (i : Int) := ⟨((m : Int) - x.n.fst).toNat, by omega⟩
   rw [hmi]
   have hil : i < x.n.ls.length := by omega
   have hlt9 := hok.n.lt i hil
   have hx4 := hlt9.1.1
   have hdi : (x.dl.getD i ir0).xs.length = (x.n.ls.getD i lt0).xs.length := by have := (hok.dl i hil).1; omega
   refine zbc 1 rfl (zba 1 rfl (zgg (hvQ rfl (zaa (k0 := 2) rfl rfl rfl) ?_)))
   refine hvQ rfl (zaj rfl rfl rfl (zae 4 rfl rfl)) (zar 1 rfl (hvQ rfl (riQ 2 rfl rfl rfl rfl (zab ((hr).n.lt.row))) (hvQ rfl (zbt (k0 := 0) rfl rfl rfl (zab ((hr).n.lt.row)) (by omega)) ?_)))
   refine hvQ rfl (zat (u := (x.n.ls.getD i lt0).iv) rfl rfl rfl (zab ((hr).n.lt.row)) ((zcu ltC 2 (fun _ => rfl) x.n.ls lt0 (show i < _ by omega) (by decide)).trans rfl)) (hvQ rfl (lnQ rfl rfl rfl (zab ((hr).n.lt.at (d := lt0) (k := i) (by omega)))) (zbc 1 rfl (zax ?_)))
   refine lkQ2 (α := Nat) (β := Int) [0, 1, 2, 4, 5, 6, 7, 8, 9, 11, 32, 33, 34, 47, 59, 60, 96, 99, 111] rfl (fun j q => [bigE (e2.map irPart), rowE 3 1 v3 ((ovX x).length) ((ovX x).map (Value.int .i64)), rowE 26 1 (.slice (some ⟨g6, 0, none⟩) ((List.replicate (x.n.cnt).toNat ir0).length) ((List.replicate (x.n.cnt).toNat ir0).length)) e2.length (e2.flatMap irC), boxE b7 #[v3, .slice (some ⟨g6, 0, none⟩) ((List.replicate (x.n.cnt).toNat ir0).length) ((List.replicate (x.n.cnt).toNat ir0).length)] 82, boxE b2 #[.int .i64 x.n.ins, x.n.sv, x.n.lv, x.n.ov] 28, boxE b1 #[.int .i64 x.n.ins, x.n.sv, x.n.lv, x.n.ov, x.pv, x.qv, x.kv, x.av, x.bv, .int .i64 x.oi, .int .i64 x.ni] 45]) (fun j q => [(12, .int .i64 q), (61, .int .i64 (j : Int))]) (fun j q => j ≤ (x.n.ls.getD i lt0).xs.length ∧ q = pk (lin x (wvsL x a.toNat m) i (t : Int)) j) (fun j q => (x.n.ls.getD i lt0).xs.length - j) 0 0 ⟨Nat.zero_le _, rfl⟩ (saQ rfl) (.cons_cons _ (.cons_cons _ (.cons_cons _ (.cons_cons _ (.cons_cons _ (pfQ rfl)))))) ?_
   intro j q hi17
   obtain ⟨hj, hq⟩ := hi17
   refine srQ ?_
   refine zbn rfl rfl rfl rfl rfl rfl (fun h18 => ?_) (fun h18 => ?_)
   ·
    refine ntQ (tcQ rfl (zcq (sbQ (zac (reQ 1 rfl (hvQ rfl (riQ 1 rfl rfl rfl rfl (zab ((hr).n.lt.at (d := lt0) (k := i) (by omega)))) (hvQ rfl (zat (u := .int .i64 (((x.n.ls.getD i lt0).xs).getD j 0)) rfl rfl rfl (zab ((hr).n.lt.at (d := lt0) (k := i) (by omega))) (zdk (show _ < ((x.n.ls.getD i lt0).xs).length by omega))) ?_)))))))
    refine zbc 2 rfl (zbg ?_)
    have hns := hlt9.1.2 j (by omega)
    have hdj := (hok.dl i hil).2 j (by omega)
    have hbk : (lin x (wvsL x a.toNat m) i (t : Int)) j = 0 ∨ (lin x (wvsL x a.toNat m) i (t : Int)) j = 1 := lin01 hok (by omega) hmi (by omega) j (by omega)
    have hal : ∀ z, z < j → (lin x (wvsL x a.toNat m) i (t : Int)) z = 0 ∨ (lin x (wvsL x a.toNat m) i (t : Int)) z = 1 := fun z hz => lin01 hok (by omega) hmi (by omega) z (by omega)
    have hpr := pk16 (b := (lin x (wvsL x a.toNat m) i (t : Int))) (k := j) hal (by omega)
    refine zar 4 rfl (hvQ rfl (zaa (k0 := 4) rfl rfl rfl) (hvQ rfl (zaa (k0 := 0) rfl rfl rfl) (hvQ rfl (zaj rfl rfl rfl (zae 5 rfl rfl)) (zar 1 rfl (hvQ rfl (riQ 1 rfl rfl rfl rfl (zab ((hr).dl.row))) ?_)))))
    refine hvQ rfl (zat (u := (x.dl.getD i ir0).v) rfl rfl rfl (zab ((hr).dl.row)) (zbk irC (fun r => r.v) (fun _ => rfl) x.dl ir0 (show i < _ by omega))) (zar 1 rfl (hvQ rfl (riQ 1 rfl rfl rfl rfl (zab ((hr).dl.at (d := ir0) (k := i) (by omega)))) (hvQ rfl (zat (u := .int .i64 (((x.dl.getD i ir0).xs).getD j 0)) rfl rfl rfl (zab ((hr).dl.at (d := ir0) (k := i) (by omega))) (zdk (show _ < ((x.dl.getD i ir0).xs).length by omega))) (hvQ rfl (vsQ rfl rfl rfl) ?_))))
    refine zdn rfl (zap rfl rfl (fun w hm => zau (wavesAt_lin w (zae 3 rfl rfl w hm) (zae 3 rfl rfl w hm) (zag 1 rfl w hm) (rdsIr_sep hm 0 2 rfl rfl) hw2 rfl rfl (by omega) hov.symm (by omega) (by omega)))) (zar 1 rfl (hvQ rfl (rv_conv rfl Try.underlying3 Try.underlying111 rfl (IntWalk.u64_in _ (by omega))) (hvQ rfl (zfw (k := .i64) (kk := .u64) (r := (lin x (wvsL x a.toNat m) i (t : Int)) j * 2 ^ j) rfl rfl rfl rfl (by omega) (shl_pk hbk (by omega))) (hvQ rfl (zdb rfl (by decide) rfl rfl (r := pk (lin x (wvsL x a.toNat m) i (t : Int)) (j + 1)) (by rw [hq]; exact or_pk hal hbk (by omega))) (enQ 1 rfl (zcv (zbg (hvQ rfl (vaQ rfl rfl rfl) (enQ 1 rfl ?_)))))))))
    exact zca (j + 1) _ ⟨by omega, by first | rfl | (rw [hq]; rfl)⟩ (by omega) (saQ rfl) (.cons_cons _ (.cons_cons _ (.cons_cons _ (.cons_cons _ (.cons_cons _ (pfQ rfl))))))
   refine ntQ (fcQ rfl ?_)
   refine zbb (zds ?_)
   refine zai (zay (zbg ?_))
   have hal : ∀ z, z < j → (lin x (wvsL x a.toNat m) i (t : Int)) z = 0 ∨ (lin x (wvsL x a.toNat m) i (t : Int)) z = 1 := fun z hz => lin01 hok (by omega) hmi (by omega) z (by omega)
   have hpr := pk16 (b := (lin x (wvsL x a.toNat m) i (t : Int))) (k := j) hal (by omega)
   refine hvQ rfl (zaa (k0 := 2) rfl rfl rfl) (hvQ rfl (zaj rfl rfl rfl (zae 4 rfl rfl)) (zar 1 rfl (hvQ rfl (riQ 2 rfl rfl rfl rfl (zab ((hr).n.lt.row))) (hvQ rfl (zbt (k0 := 1) rfl rfl rfl (zab ((hr).n.lt.row)) (by omega)) ?_))))
   refine hvQ rfl (zat (u := .int .i64 ((x.n.ls.getD i lt0).ma)) rfl rfl rfl (zab ((hr).n.lt.row)) ((zcu ltC 2 (fun _ => rfl) x.n.ls lt0 (show i < _ by omega) (by decide)).trans rfl)) (zar 1 rfl (hvQ rfl (rv_conv rfl Try.underlying3 Try.underlying111 rfl (IntWalk.u64_in _ (by omega))) (hvQ rfl (rv_shr rfl rfl rfl (by omega)) (hvQ rfl (zdb rfl (by decide) rfl rfl (r := (((x.n.ls.getD i lt0).ma) / 2 ^ (q : Int).toNat) % 2) (andOne _)) (enQ 1 rfl (zcv (zbg ?_)))))))
   refine zge 6 [5, 4, 3, 2, 1, 0] rfl rfl (by decide) ?_
   refine zfz [rowE 3 1 ((e2.getD m ir0).v) (((e2.getD m ir0).xs).length) (((e2.getD m ir0).xs).map (Value.int .i64)), bigE ((e2.map irPart).eraseIdx m), rowE 3 1 v3 ((ovX x).length) ((ovX x).map (Value.int .i64)), rowE 26 1 (.slice (some ⟨g6, 0, none⟩) ((List.replicate (x.n.cnt).toNat ir0).length) ((List.replicate (x.n.cnt).toNat ir0).length)) e2.length (e2.flatMap irC), boxE b7 #[v3, .slice (some ⟨g6, 0, none⟩) ((List.replicate (x.n.cnt).toNat ir0).length) ((List.replicate (x.n.cnt).toNat ir0).length)] 82, boxE b2 #[.int .i64 x.n.ins, x.n.sv, x.n.lv, x.n.ov] 28, boxE b1 #[.int .i64 x.n.ins, x.n.sv, x.n.lv, x.n.ov, x.pv, x.qv, x.kv, x.av, x.bv, .int .i64 x.oi, .int .i64 x.ni] 45] (zfm (es := e2) (j := m) (by omega)) ?_
   refine zar 1 rfl (hvQ rfl (zeb rfl rfl) (hvQ rfl (zaa (k0 := 1) rfl rfl rfl) (hvQ rfl (zaj rfl rfl rfl (zae 4 rfl rfl)) (zar 1 rfl (hvQ rfl (riQ 1 rfl rfl rfl rfl (zag 3 rfl)) ?_)))))
   refine hvQ rfl (zat (u := (e2.getD m ir0).v) rfl rfl rfl (zag 3 rfl) (zbk irC (fun r => r.v) (fun _ => rfl) e2 ir0 (show m < _ by omega))) (zar 2 rfl (hvQ rfl (riQ 1 rfl rfl rfl rfl (zag 0 rfl)) ?_))
   refine zcz (i := 0) (n' := (((e2.getD m ir0).xs).set t ((((x.n.ls.getD i lt0).ma) / 2 ^ (q : Int).toNat) % 2)).length) (xs' := ((((e2.getD m ir0).xs).set t ((((x.n.ls.getD i lt0).ma) / 2 ^ (q : Int).toNat) % 2)).map (Value.int .i64))) rfl rfl rfl rfl rfl rfl rfl rfl (by first | omega | (simp only [List.length_set]; omega)) List.length_set.symm (zdj _ _ _) rfl (zcf (zcv (reQ 1 rfl (hvQ rfl (vaQ rfl rfl rfl) (enQ 1 rfl ?_)))))
   have hv9 : (((x.n.ls.getD i lt0).ma) / 2 ^ (q : Int).toNat) % 2 = wvV x (wvsL x a.toNat m) m (t : Int) := by rw [wv_lut x _ _ hmi]; unfold lutV; rw [hq, show j = (x.n.ls.getD i lt0).xs.length by omega]
   refine zbj 7 [6, 5, 4, 3, 2, 1, 0] rfl rfl (by decide) ?_
   refine zew [bigE ((e2.set m (IR.mk (e2.getD m ir0).v (((e2.getD m ir0).xs).set t ((((x.n.ls.getD i lt0).ma) / 2 ^ (q : Int).toNat) % 2)))).map irPart), rowE 3 1 v3 ((ovX x).length) ((ovX x).map (Value.int .i64)), rowE 26 1 (.slice (some ⟨g6, 0, none⟩) ((List.replicate (x.n.cnt).toNat ir0).length) ((List.replicate (x.n.cnt).toNat ir0).length)) ((e2.set m (IR.mk (e2.getD m ir0).v (((e2.getD m ir0).xs).set t ((((x.n.ls.getD i lt0).ma) / 2 ^ (q : Int).toNat) % 2)))).length) ((e2.set m (IR.mk (e2.getD m ir0).v (((e2.getD m ir0).xs).set t ((((x.n.ls.getD i lt0).ma) / 2 ^ (q : Int).toNat) % 2)))).flatMap irC), boxE b7 #[v3, .slice (some ⟨g6, 0, none⟩) ((List.replicate (x.n.cnt).toNat ir0).length) ((List.replicate (x.n.cnt).toNat ir0).length)] 82, boxE b2 #[.int .i64 x.n.ins, x.n.sv, x.n.lv, x.n.ov] 28, boxE b1 #[.int .i64 x.n.ins, x.n.sv, x.n.lv, x.n.ov, x.pv, x.qv, x.kv, x.av, x.bv, .int .i64 x.oi, .int .i64 x.ni] 45] (fun w hm => by
       have h8 := zev (es := e2) (j := m) (e' := IR.mk (e2.getD m ir0).v (((e2.getD m ir0).xs).set t ((((x.n.ls.getD i lt0).ma) / 2 ^ (q : Int).toNat) % 2))) (by omega) w hm
       have h7 : (e2.set m (IR.mk (e2.getD m ir0).v (((e2.getD m ir0).xs).set t ((((x.n.ls.getD i lt0).ma) / 2 ^ (q : Int).toNat) % 2)))).flatMap irC = e2.flatMap irC := flat_same
       rw [h7, List.length_set]; exact h8) ?_
   exact zca (t + 1) (e2.set m (IR.mk (e2.getD m ir0).v (((e2.getD m ir0).xs).set t ((((x.n.ls.getD i lt0).ma) / 2 ^ (q : Int).toNat) % 2)))) ⟨by omega, hw2.set _, by rw [zgh (by omega)]; show ((e2.getD m ir0).xs).set t ((((x.n.ls.getD i lt0).ma) / 2 ^ (q : Int).toNat) % 2) = _; rw [hx2]; exact rowW_set (by omega) hv9⟩ (by omega) (saQ rfl) (.cons_cons _ (.cons_cons _ (.cons_cons _ (.cons_cons _ (.cons_cons _ (pfQ rfl))))))
  refine ntQ (zaq rfl ?_)
  refine zbb (zds ?_)
  refine zai (zcv (zbg (hvQ rfl (vaQ rfl rfl rfl) (enQ 1 rfl ?_))))
  exact zca (m + 1) e2 ⟨by omega, hw2.next (by rw [hx2, show t = a.toNat + 1 by omega]; exact fzT_allW _ _ _ _)⟩ (by omega) (saQ rfl) (.cons_cons _ (.cons_cons _ (.cons_cons _ (.cons_cons _ (.cons_cons _ (pfQ rfl))))))
 refine ntQ (fcQ rfl ?_)
 refine zbb (zds ?_)
 refine zai (zay (zba 2 rfl ?_))
 refine zaw (hq_oneW (i := 2) rfl (fun hoR => ?_))
 refine zbj 6 [1, 3, 2, 0] rfl rfl (by decide) ?_
 refine zew [irsE (.slice (some ⟨g6, 0, none⟩) ((List.replicate (x.n.cnt).toNat ir0).length) ((List.replicate (x.n.cnt).toNat ir0).length)) es, boxE b7 #[v3, .slice (some ⟨g6, 0, none⟩) ((List.replicate (x.n.cnt).toNat ir0).length) ((List.replicate (x.n.cnt).toNat ir0).length)] 82, rowE 3 1 v3 ((ovX x).length) ((ovX x).map (Value.int .i64))] (conv_big (ps := [bigE (es.map irPart), rowE 26 1 (.slice (some ⟨g6, 0, none⟩) ((List.replicate (x.n.cnt).toNat ir0).length) ((List.replicate (x.n.cnt).toNat ir0).length)) es.length (es.flatMap irC)])) ?_
 exact zdh (post := [irsE (.slice (some ⟨g6, 0, none⟩) ((List.replicate (x.n.cnt).toNat ir0).length) ((List.replicate (x.n.cnt).toNat ir0).length)) es, boxE b7 #[v3, .slice (some ⟨g6, 0, none⟩) ((List.replicate (x.n.cnt).toNat ir0).length) ((List.replicate (x.n.cnt).toNat ir0).length)] 82, rowE 3 1 v3 ((ovX x).length) ((ovX x).map (Value.int .i64))]) rfl rfl (.refl _) ⟨b7, v3, .slice (some ⟨g6, 0, none⟩) ((List.replicate (x.n.cnt).toNat ir0).length) ((List.replicate (x.n.cnt).toNat ir0).length), es, rfl, rfl, by rw [show m = x.n.cnt.toNat by omega] at hw; exact hw, hoR⟩
open Go.RowKit
open Go.RowKit
set_option maxHeartbeats 4000000 in
set_option maxRecDepth 100000 in
theorem implWaveforms_ret (x : Td) (a : Int) (w : World) (hr : RdsTd w x) :
   Calls Try.prog 19 #[.agg #[.int .i64 x.n.ins, x.n.sv, x.n.lv, x.n.ov, x.pv, x.qv, x.kv, x.av, x.bv, .int .i64 x.oi, .int .i64 x.ni], .int .i64 a] w (Ret w (fun v' post => ∃ es : List IR, post = [irsE v' es] ∧ es.map IR.xs = wavR x a)) := by
 have t1 := sml hr.ks
 have t2 := sml hr.ao
 have t3 := sml hr.bs
 have t4 := hr.dl.small
 have t5 := hr.ds.small
 have t6 := hr.n.sq.small
 have t7 := hr.n.lt.small
 have t8 := sml hr.n.ou
 have hcnt : x.n.cnt = 1 + x.n.ins + x.n.ss.length + x.n.ls.length := rfl
 have hfst : x.n.fst = 1 + x.n.ins + x.n.ss.length := rfl
 refine zbh (N := 19) (args := [.agg #[.int .i64 x.n.ins, x.n.sv, x.n.lv, x.n.ov, x.pv, x.qv, x.kv, x.av, x.bv, .int .i64 x.oi, .int .i64 x.ni], .int .i64 a]) Try.func19 rfl rfl (srQ ?_)
 refine zef rfl (zcx rfl rfl) ?_
 intro b1
 refine zfy 26 1 ?_
 refine zee (l' := [rowE 26 1 (.slice none 0 0) (([] : List IR).length) (([] : List IR).flatMap irC), boxE b1 #[.int .i64 x.n.ins, x.n.sv, x.n.lv, x.n.ov, x.pv, x.qv, x.kv, x.av, x.bv, .int .i64 x.oi, .int .i64 x.ni] 45]) rfl ?_
 refine zbc 1 rfl (zgg (hvQ rfl (zas (cs := [.int .i64 x.n.ins, x.n.sv, x.n.lv, x.n.ov, x.pv, x.qv, x.kv, x.av, x.bv, .int .i64 x.oi, .int .i64 x.ni]) rfl rfl rfl rfl rfl (zao 1 rfl 0 rfl)) ?_))
 refine zdn rfl (zap rfl rfl (fun w hm => zau (zfx x w (hr.below hm.bel)))) (zbl (fun h3 => ?_) (fun h3 => ?_))
 ·
  have hok := zgi h3
  obtain ⟨ci, cs_, cl, ck, ca, cb, cd, ce⟩ := hok.bnd
  have hi0 := ci.1
  have hi1 := ci.2
  refine zar 3 rfl (zdn rfl (zap rfl rfl (fun w hm => zau (ans_of (zed _ _ _ w)))) ?_)
  refine zbl (fun h4 => ?_) (fun h4 => ?_)
  ·
   obtain ⟨h4a, h4b⟩ := (zdf _ _ _).1 h4
   refine zbc 2 rfl (zaq rfl (zcq (srQ (hvQ rfl (zas (cs := [.int .i64 x.n.ins, x.n.sv, x.n.lv, x.n.ov, x.pv, x.qv, x.kv, x.av, x.bv, .int .i64 x.oi, .int .i64 x.ni]) rfl rfl rfl rfl rfl (zao 1 rfl 0 rfl)) (zar 1 rfl ?_)))))
   refine hl_q rfl rfl rfl (zap rfl rfl (fun w hm => wavesOf_ret x a w (hr.below hm.bel) hok (by omega))) ?_
   intro v5 p6 hR7
   obtain ⟨b, bv, av, es, rfl, rfl, hw, hoav⟩ := hR7
   have hwl := hw.len
   refine hvQ rfl (zeb rfl rfl) (hvQ rfl (zaa (k0 := 1) rfl rfl rfl) (hvQ rfl (zaj rfl rfl rfl (zae 1 rfl rfl)) (zbc 1 rfl ?_)))
   refine zaw (zbj 5 [0] rfl rfl (by decide) ?_)
   exact zdh (post := [irsE av es]) rfl rfl (.refl _) ⟨es, rfl, by rw [hw.all, wavR_ok hok (by omega)]⟩
  have h4a := zdv h4
  refine zbc 2 rfl (zan rfl (srQ ?_))
  refine zfy 26 1 ?_
  refine zee (l' := [rowE 26 1 (.slice none 0 0) (([] : List IR).length) (([] : List IR).flatMap irC), rowE 26 1 (.slice none 0 0) (([] : List IR).length) (([] : List IR).flatMap irC), boxE b1 #[.int .i64 x.n.ins, x.n.sv, x.n.lv, x.n.ov, x.pv, x.qv, x.kv, x.av, x.bv, .int .i64 x.oi, .int .i64 x.ni] 45]) rfl ?_
  refine zbc 1 rfl ?_
  refine zaw (zam ?_)
  refine zbj 3 [0] rfl rfl (by decide) ?_
  refine zew [irsE (.slice none 0 0) ([] : List IR)] (fun w hm => by
      have h1 : Mem _ [rowE 26 1 (.slice none 0 0) ([] : List IR).length (([] : List IR).flatMap irC)] w := hm
      have h2 := Mem.big (ps := []) h1
      exact Mem.big (ps := [bigE (([] : List IR).map irPart), rowE 26 1 (.slice none 0 0) ([] : List IR).length (([] : List IR).flatMap irC)]) h2) ?_
  exact zdh (post := [irsE (.slice none 0 0) ([] : List IR)]) rfl rfl (.refl _) ⟨[], rfl, by first | exact (wavR_no (.inl hno)).symm | exact (wavR_no (.inr (by omega))).symm⟩
 have hno := zex h3
 refine zbc 6 rfl (zan rfl (srQ ?_))
 refine zfy 26 1 ?_
 refine zee (l' := [rowE 26 1 (.slice none 0 0) (([] : List IR).length) (([] : List IR).flatMap irC), rowE 26 1 (.slice none 0 0) (([] : List IR).length) (([] : List IR).flatMap irC), boxE b1 #[.int .i64 x.n.ins, x.n.sv, x.n.lv, x.n.ov, x.pv, x.qv, x.kv, x.av, x.bv, .int .i64 x.oi, .int .i64 x.ni] 45]) rfl ?_
 refine zbc 1 rfl ?_
 refine zaw (zam ?_)
 refine zbj 3 [0] rfl rfl (by decide) ?_
 refine zew [irsE (.slice none 0 0) ([] : List IR)] (fun w hm => by
     have h1 : Mem _ [rowE 26 1 (.slice none 0 0) ([] : List IR).length (([] : List IR).flatMap irC)] w := hm
     have h2 := Mem.big (ps := []) h1
     exact Mem.big (ps := [bigE (([] : List IR).map irPart), rowE 26 1 (.slice none 0 0) ([] : List IR).length (([] : List IR).flatMap irC)]) h2) ?_
 exact zdh (post := [irsE (.slice none 0 0) ([] : List IR)]) rfl rfl (.refl _) ⟨[], rfl, by first | exact (wavR_no (.inl hno)).symm | exact (wavR_no (.inr (by omega))).symm⟩
theorem vl_mono (n : Ln) (st : List Int) (inp : Int) {i q : Nat} (hq : q < (vlL n st inp i).length) : ∀ m, i ≤ m → (vlL n st inp m).getD q 0 = (vlL n st inp i).getD q 0
  | 0, h => by obtain rfl : i = 0 := by omega
               rfl
  | m + 1, h => by
    by_cases e : i = m + 1
    · subst e; rfl
    · have ih := vl_mono n st inp hq m (by omega)
      have hl := zes n st inp m
      have hl2 := zes n st inp i
      rw [← ih]
      show (vlL n st inp m ++ [_]).getD q 0 = _
      exact zct (by omega)
theorem lutV_ext {l : Lt} {b c : Nat → Int} (h : ∀ q, q < l.xs.length → b q = c q) : lutV l b = lutV l c := by unfold lutV; rw [pk_ext _ h]
theorem val_lut {n : Ln} (hok : LnOk n) {st : List Int} (hs : StP n st) (inp : Int) {i : Nat} (hi : i < n.ls.length) : (valT n st inp).getD (n.fst + i).toNat 0 = lutV (n.ls.getD i lt0) (atV (valT n st inp) (n.ls.getD i lt0).xs) := by
  have h0 := hok.sz.i
  have hf : n.fst = 1 + n.ins + n.ss.length := rfl
  have hl := zes n st inp i
  have hl1 := zes n st inp (i + 1)
  have hsl := hs.len
  show (vlL n st inp n.ls.length).getD _ 0 = _
  rw [vl_mono n st inp (i := i + 1) (by omega) n.ls.length (by omega)]
  show (vlL n st inp i ++ [_]).getD _ 0 = _
  rw [zde (by omega), show (n.fst + (i : Int)).toNat - (vlL n st inp i).length = 0 by omega]
  show lutV _ _ = _
  refine lutV_ext fun q hq => ?_
  have hx := (hok.lt i hi).1.2 q hq
  show (vlL n st inp i).getD _ 0 = (vlL n st inp n.ls.length).getD _ 0
  exact (vl_mono n st inp (by omega) n.ls.length (by omega)).symm
/-- a node's wave from the time that it settles -/
theorem settle_core {x : Td} (h : TdOk x) (hz : Nat) : ∀ (N k : Nat), k < N → (k : Int) < x.n.cnt →
    ((stp x (sL x k).1 (sL x k).2 k).2 = true → ∀ t : Nat, t ≤ hz → (stp x (sL x k).1 (sL x k).2 k).1 ≤ t → wvV x (wvsL x hz k) k (t : Int) = (nvX x).getD k 0) ∧
    ((stp x (sL x k).1 (sL x k).2 k).2 = false → (ovX x).getD k 0 = (nvX x).getD k 0 ∧ ∀ t : Nat, t ≤ hz → wvV x (wvsL x hz k) k (t : Int) = (nvX x).getD k 0)
  | 0, k, hk, _ => absurd hk (by omega)
  | N + 1, k, hk, hc => by
    have h0 := h.n.sz.i
    have hf : x.n.fst = 1 + x.n.ins + x.n.ss.length := rfl
    have hcn : x.n.cnt = 1 + x.n.ins + x.n.ss.length + x.n.ls.length := rfl
    by_cases k0 : k = 0
    · subst k0
      refine ⟨fun hr => absurd (show (false : Bool) = true from hr) (by decide), fun _ => ⟨by rw [val_zero, val_zero], fun t ht => by rw [wv_zero _ _ _ h0.1, val_zero]⟩⟩
    by_cases k1 : (k : Int) ≤ x.n.ins
    · have e : stp x (sL x k).1 (sL x k).2 k = (0, true) := by unfold stp; rw [if_neg k0, if_pos k1]
      rw [e]
      refine ⟨fun _ t ht _ => ?_, fun hr => absurd hr (by decide)⟩
      unfold wvV; rw [if_pos (by omega), if_neg (by omega)]
    by_cases k2 : (k : Int) < x.n.fst
    · have e : stp x (sL x k).1 (sL x k).2 k = (x.ks.getD ((k : Int) - 1 - x.n.ins).toNat 0, true) := by unfold stp; rw [if_neg k0, if_neg k1, if_pos k2]
      rw [e]
      refine ⟨fun _ t ht hs => ?_, fun hr => absurd (show (true : Bool) = false from hr) (by decide)⟩
      have hs' : x.ks.getD ((k : Int) - 1 - x.n.ins).toNat 0 ≤ (t : Int) := hs
      unfold wvV; rw [if_pos k2, if_neg (by omega)]
    obtain ⟨i, hi⟩ : ∃ i : Nat, (k : Int) - x.n.fst = i := ⟨((k : Int) - x.n.fst).toNat, by omega⟩
    have hil : i < x.n.ls.length := by omega
    have e : stp x (sL x k).1 (sL x k).2 k = lutS x (sL x k).1 (sL x k).2 i (x.n.ls.getD i lt0).xs.length := by
      unfold stp; rw [if_neg k0, if_neg k1, if_neg k2, show ((k : Int) - x.n.fst).toNat = i by omega]
    have hd : ∀ j, j < (x.n.ls.getD i lt0).xs.length → 0 ≤ (x.dl.getD i ir0).xs.getD j 0 := fun j hj => by
      have := h.dl i hil
      exact (this.2 j (by have := this.1; omega)).1
    have ho : ∀ q, 0 ≤ (sL x k).1.getD q 0 := fun q => by
      by_cases hq : q < k
      · exact (o_bnd h (by omega) hq).1
      · rw [List.getD_eq_getElem?_getD, List.getElem?_eq_none (by rw [(sL_len x k).1]; omega)]; exact Int.le_refl _
    obtain ⟨m1, m2, m3, m4⟩ := lutS_max x (sL x k).1 (sL x k).2 i hd ho _ (Nat.le_refl _)
    rw [e]
    have hbl := (h.n.lt i hil).1.2
    have hq : ∀ j, j < (x.n.ls.getD i lt0).xs.length → ((x.n.ls.getD i lt0).xs.getD j 0).toNat < k := fun j hj => by have := hbl j hj; omega
    have ih := fun j (hj : j < (x.n.ls.getD i lt0).xs.length) => settle_core h hz N _ (show ((x.n.ls.getD i lt0).xs.getD j 0).toNat < N by have := hq j hj; omega) (by have := hq j hj; omega)
    have hpre := fun j (hj : j < (x.n.ls.getD i lt0).xs.length) => sL_pre x k _ (hq j hj)
    have hkv : k = (x.n.fst + i).toNat := by omega
    have hnv : (nvX x).getD k 0 = lutV (x.n.ls.getD i lt0) (atV (nvX x) (x.n.ls.getD i lt0).xs) := by rw [hkv]; exact val_lut h.n h.b x.ni hil
    have hov : (ovX x).getD k 0 = lutV (x.n.ls.getD i lt0) (atV (ovX x) (x.n.ls.getD i lt0).xs) := by rw [hkv]; exact val_lut h.n h.a x.oi hil
    -- an input that nothing reaches
    have still : ∀ j, j < (x.n.ls.getD i lt0).xs.length → ((sL x k).2.getD ((x.n.ls.getD i lt0).xs.getD j 0).toNat bl0).b = false → ∀ t : Nat, t ≤ hz → lin x (wvsL x hz k) i (t : Int) j = atV (nvX x) (x.n.ls.getD i lt0).xs j := fun j hj hr t ht => by
      rw [(hpre j hj).2] at hr
      obtain ⟨a, b⟩ := (ih j hj).2 hr
      have hdj := hd j hj
      unfold lin atW
      split
      · exact a
      · rename_i hn
        rw [wvs_val x hz (hq j hj) (by omega)]
        exact b _ (by omega)
    constructor
    · intro hr t ht hs
      rw [wv_lut x _ _ hi, hnv]
      refine lutV_ext fun j hj => ?_
      cases hrj : ((sL x k).2.getD ((x.n.ls.getD i lt0).xs.getD j 0).toNat bl0).b with
      | false => exact still j hj hrj t ht
      | true =>
        have hm := m1 j hj hrj
        have hoj := ho ((x.n.ls.getD i lt0).xs.getD j 0).toNat
        have hdj := hd j hj
        rw [(hpre j hj).2] at hrj
        unfold lin atW
        rw [if_neg (by omega), wvs_val x hz (hq j hj) (by omega)]
        refine (ih j hj).1 hrj _ (by omega) ?_
        rw [← (hpre j hj).1]; omega
    · intro hr
      have hno : ∀ j, j < (x.n.ls.getD i lt0).xs.length → ((sL x k).2.getD ((x.n.ls.getD i lt0).xs.getD j 0).toNat bl0).b = false := fun j hj => by
        cases hb : ((sL x k).2.getD ((x.n.ls.getD i lt0).xs.getD j 0).toNat bl0).b with
        | false => rfl
        | true => rw [m4.2 ⟨j, hj, hb⟩] at hr; cases hr
      refine ⟨?_, fun t ht => ?_⟩
      · rw [hov, hnv]
        refine lutV_ext fun j hj => ?_
        have hr2 := hno j hj
        rw [(hpre j hj).2] at hr2
        exact ((ih j hj).2 hr2).1
      · rw [wv_lut x _ _ hi, hnv]
        exact lutV_ext fun j hj => still j hj (hno j hj) t ht
theorem settles {x : Td} (h : TdOk x) {hz k t : Nat} (hk : (k : Int) < x.n.cnt) (ht : t ≤ hz) (hs : (setR x).getD k 0 ≤ t) : ((wavR x hz).getD k []).getD t 0 = (nvX x).getD k 0 ∨ ¬ hz ≤ 1100 := by
  by_cases h11 : hz ≤ 1100
  · refine .inl ?_
    rw [wavR_ok h (by omega), Int.toNat_natCast, wvs_val x hz (by omega) ht]
    rw [setR_ok h, ← settle_eq h, (sL_pre x _ k (by omega)).1] at hs
    obtain ⟨a, b⟩ := settle_core h hz (k + 1) k (by omega) hk
    cases hr : (stp x (sL x k).1 (sL x k).2 k).2 with
    | true => exact a hr t ht hs
    | false => exact (b hr).2 t ht
  · exact .inr h11
open Go.RowKit
def LiR (xs : List Int) (m : Int) : Prop := ∀ j, j < xs.length → 0 ≤ xs.getD j 0 ∧ xs.getD j 0 ≤ m
theorem LiR.nil (m : Int) : LiR [] m := fun j hj => absurd hj (by simp)
theorem LiR.app {xs : List Int} {m x : Int} (h : LiR xs m) (hx : 0 ≤ x ∧ x ≤ m) : LiR (xs ++ [x]) m := fun j hj => by
  rw [List.length_append, List.length_singleton] at hj
  by_cases e : j < xs.length
  · rw [zct e]; exact h j e
  · have e2 : j = xs.length := by omega
    subst e2
    rw [zde (Nat.le_refl _), Nat.sub_self]; exact hx
def IrsOk (sz : Nat → Nat) (rs : List IR) : Prop := ∀ i, i < rs.length → LiP (rs.getD i ir0).xs (sz i) 100
theorem IrsOk.nil (sz : Nat → Nat) : IrsOk sz [] := fun j hj => absurd hj (by simp)
theorem IrsOk.app {sz : Nat → Nat} {rs : List IR} {r : IR} (h : IrsOk sz rs) (h1 : r.xs.length = sz rs.length) (h2 : LiR r.xs 100) : IrsOk sz (rs ++ [r]) := fun j hj => by
  rw [List.length_append, List.length_singleton] at hj
  by_cases e : j < rs.length
  · rw [zct e]; exact h j e
  · have e2 : j = rs.length := by omega
    subst e2
    rw [zde (Nat.le_refl _), Nat.sub_self]; exact ⟨by show (r.xs.length : Int) = _; rw [h1], h2⟩
def RdsIRs (w : World) (rs : List IR) : Prop := ∀ r ∈ rs, RdsW w r.v 1 r.xs.length (r.xs.map (Value.int .i64))
theorem RdsIRs.nil (w : World) : RdsIRs w [] := fun r hr => by cases hr
theorem RdsIRs.app {w : World} {rs : List IR} {r : IR} (h : RdsIRs w rs) (hr : RdsW w r.v 1 r.xs.length (r.xs.map (Value.int .i64))) : RdsIRs w (rs ++ [r]) := fun q hq => by
  rcases List.mem_append.1 hq with hq | hq
  · exact h q hq
  · rw [List.mem_singleton] at hq; subst hq; exact hr
structure TdOnes (x : Td) : Prop where
  sv : x.n.sv.oneCell' = true
  lv : x.n.lv.oneCell' = true
  ov : x.n.ov.oneCell' = true
  pv : x.pv.oneCell' = true
  qv : x.qv.oneCell' = true
  kv : x.kv.oneCell' = true
  av : x.av.oneCell' = true
  bv : x.bv.oneCell' = true
theorem st_small {n : Ln} {st : List Int} (hl : st.length = n.ss.length) (hr : LiR st 1) : StP n st := ⟨hl, fun k hk => by have := hr k (by omega); unfold StR; omega⟩
set_option maxHeartbeats 4000000 in
theorem built_tdD (i a b : Int) (sv lv ov : Value) (h1 : sv.oneCell' = true) (h2 : lv.oneCell' = true) (h3 : ov.oneCell' = true) : Try.prog.built 45 [(0, .agg #[.int .i64 i, sv, lv, ov]), (5, .int .i64 a), (6, .int .i64 b)] = some #[.int .i64 i, sv, lv, ov, .slice none 0 0, .slice none 0 0, .slice none 0 0, .slice none 0 0, .slice none 0 0, .int .i64 a, .int .i64 b] := by
  (cases sv <;> first | (exact absurd h1 Bool.false_ne_true) | (cases lv <;> first | (exact absurd h2 Bool.false_ne_true) | (cases ov <;> first | (exact absurd h3 Bool.false_ne_true) | kernel_rfl)))
set_option maxHeartbeats 4000000 in
set_option maxRecDepth 100000 in
theorem l37Timed_mut (g : Nat) (a : Option Addr) (len cap : Nat) (z : List Int) (w0 : World) (l : List HP) (w : World) (hm0 : Mem w0 (curE g a len cap :: l) w) (hb : BRow .u8 w0 a len cap z) :
   Calls Try.prog 42 #[.pointer (some ⟨g, 0, none⟩)] w (fun e_ w_ => ∃ v_ p_, e_ = .returned v_ ∧ (fun u_ p_ => ∃ (ps : List HP) (x : Td), u_ = x.agg ∧ p_ = bigE [curE g a len cap, bigE ps] ∧ (∀ w, (bigE ps).holds w → RdsTd w x) ∧ TdOnes x ∧ TdOk x) v_ p_ ∧ Mem w0 (p_ :: l) w_) := by
 refine zgn (N := 105) (args := [.pointer (some ⟨g, 0, none⟩)]) Try.func42 rfl rfl hm0 (srQ ?_)
 refine zef rfl (zbw (z := .agg #[.int .i64 0, .slice none 0 0, .slice none 0 0, .slice none 0 0, .slice none 0 0, .slice none 0 0, .slice none 0 0, .slice none 0 0, .slice none 0 0, .int .i64 0, .int .i64 0]) rfl rfl) ?_
 intro b1
 refine ntQ (zac (reQ 1 rfl ?_))
 refine zdd (R := (fun u_ p_ => ∃ (ps : List HP) (m : Ln), u_ = m.agg ∧ p_ = bigE [curE g a len cap, bigE ps] ∧ (∀ w, (bigE ps).holds w → RdsLn w m) ∧ (m.sv.oneCell' = true ∧ m.lv.oneCell' = true ∧ m.ov.oneCell' = true) ∧ LnOk m)) 1 rfl rfl rfl rfl rfl (fun l' w hm => l20Net_mut g a len cap z _ _ _ hm hb) ?_
 intro v2 p3 hR4
 obtain ⟨ps, m, rfl, rfl, hps, ⟨o1m, o2m, o3m⟩, hok⟩ := hR4
 refine zee (l' := (boxE b1 #[.int .i64 0, .slice none 0 0, .slice none 0 0, .slice none 0 0, .slice none 0 0, .slice none 0 0, .slice none 0 0, .slice none 0 0, .slice none 0 0, .int .i64 0, .int .i64 0] 45 :: bigE [curE g a len cap, bigE ps] :: l)) rfl ?_
 refine zge 2 [0, 1] rfl rfl (by decide) ?_
 refine zfz (curE g a len cap :: bigE ps :: boxE b1 #[.int .i64 0, .slice none 0 0, .slice none 0 0, .slice none 0 0, .slice none 0 0, .slice none 0 0, .slice none 0 0, .slice none 0 0, .slice none 0 0, .int .i64 0, .int .i64 0] 45 :: l) zfv ?_
 have hcnt : m.cnt = 1 + m.ins + m.ss.length + m.ls.length := rfl
 have hfst : m.fst = 1 + m.ins + m.ss.length := rfl
 obtain ⟨⟨si0, si1⟩, s2, s3, s4⟩ := hok.sz
 refine zef rfl (zbw (z := .agg #[.int .i64 0, .slice none 0 0, .slice none 0 0, .slice none 0 0]) rfl rfl) ?_
 intro b5
 refine zcb (cs' := #[.int .i64 m.ins, m.sv, m.lv, m.ov]) (i := 0) (off := 0) (us := [.int .i64 m.ins, m.sv, m.lv, m.ov]) rfl rfl rfl rfl rfl rfl rfl (zaf rfl (zaf o1m (zaf o2m (zaf o3m zbo)))) rfl rfl rfl (ntQ (zac ?_))
 refine zfd 4 [3, 2, 0, 1] rfl rfl (by decide) ?_
 refine zfe (l := (boxE b5 #[.int .i64 m.ins, m.sv, m.lv, m.ov] 28 :: bigE ps :: boxE b1 #[.int .i64 0, .slice none 0 0, .slice none 0 0, .slice none 0 0, .slice none 0 0, .slice none 0 0, .slice none 0 0, .slice none 0 0, .slice none 0 0, .int .i64 0, .int .i64 0] 45 :: l)) rfl 7 [0, 1, 2, 3, 4, 5, 6] (List.take 7 _) (List.drop 7 _) [[], [], [1], [], [2, 3], [0, 2, 4], []] [13, 14, 15, 16, 17, 18, 4] (fun i_ vs_ v_ p_ => match i_ with | 0 => v_ = .agg #[.int .i64 m.ins, m.sv, m.lv, m.ov] ∧ p_ = [] | 1 => v_ = .pointer (some ⟨g, 0, none⟩) ∧ p_ = [] | 2 => (∃ pm_, p_ = [pm_] ∧ (fun u_ p_ => (∃ x_ : Int, u_ = .int .i64 x_ ∧ 0 ≤ x_ ∧ x_ < 256) ∧ p_ = curE g a len cap) v_ pm_) | 3 => v_ = .pointer (some ⟨g, 0, none⟩) ∧ p_ = [] | 4 => (∃ pm_, p_ = [pm_] ∧ (fun u_ p_ => (∃ x_ : Int, u_ = .int .i64 x_ ∧ 0 ≤ x_ ∧ x_ < 256) ∧ p_ = curE g a len cap) v_ pm_) | 5 => v_ = .agg #[.int .i64 m.ins, m.sv, m.lv, m.ov, .slice none 0 0, .slice none 0 0, .slice none 0 0, .slice none 0 0, .slice none 0 0, .int .i64 (intOf_o (List.getD vs_ 1 undef)), .int .i64 (intOf_o (List.getD vs_ 2 undef))] ∧ p_ = [] | 6 => IsBox #[.int .i64 0, .slice none 0 0, .slice none 0 0, .slice none 0 0, .slice none 0 0, .slice none 0 0, .slice none 0 0, .slice none 0 0, .slice none 0 0, .int .i64 0, .int .i64 0] 45 v_ p_ | _ => True) [[], [], [1], [], [3], [0, 4], []] [none, none, some 8, none, some 2, none, none] [curE g a len cap] [0, 1, 3, 4, 5, 6] 8 (List.take_append_drop 7 _).symm (by kernel_rfl) (by kernel_rfl) (by kernel_rfl) rfl rfl ?_ ?_
 ·
  refine ⟨?_, ?_, ?_, ?_, ?_, ?_, ?_, trivial⟩
  ·
   intro vf pf hmu hR
   refine dqQ [] [] rfl (zbq (zal [3] rfl) (List.sublist_append_right _ _) ?_)
   exact zbd (zas (cs := [.int .i64 m.ins, m.sv, m.lv, m.ov]) rfl rfl rfl rfl rfl (zao 0 rfl 0 rfl))
  ·
   intro vf pf hmu hR
   refine dqQ [] [] rfl (zbr (zal [0] rfl) ?_)
   exact zbd (zah rfl)
  ·
   intro vf pf hmu hR
   have e1 := hR 1 (by decide)
   refine Or.inl ⟨rfl, ?_⟩
   show RunM _ _ _ (pf 8) (([1] : List Nat).flatMap pf ++ _) (envOf _ vf [1] ++ _) _ _
   rw [hmu]
   exact zda (sk 14 (congrArg some e1.1) (zad _)) (by simp only [e1.2, fS] <;> rfl) (zdt (R := (fun u_ p_ => (∃ x_ : Int, u_ = .int .i64 x_ ∧ 0 ≤ x_ ∧ x_ < 256) ∧ p_ = curE g a len cap)) rfl rfl (fun L w hX hm => zch g a len cap z 256 _ _ _ hm hb (by constructor <;> omega)))
  ·
   intro vf pf hmu hR
   refine dqQ [] [] rfl (zbr (zal [0] rfl) ?_)
   exact zbd (zah rfl)
  ·
   intro vf pf hmu hR
   have e2 : (∃ pm_, (pf 2) = [pm_] ∧ (fun u_ p_ => (∃ x_ : Int, u_ = .int .i64 x_ ∧ 0 ≤ x_ ∧ x_ < 256) ∧ p_ = curE g a len cap) (vf 2) pm_) := hR 2 (by decide)
   obtain ⟨p7, pE2, hR8⟩ := e2
   obtain ⟨v6, vE2⟩ : ∃ x, vf 2 = x := ⟨_, rfl⟩
   rw [vE2] at hR8
   obtain ⟨⟨xhR8, rfl, xhR80, xhR81⟩, rfl⟩ := hR8
   have e3 := hR 3 (by decide)
   refine Or.inl ⟨rfl, ?_⟩
   show RunM _ _ _ (pf 2) (([3] : List Nat).flatMap pf ++ _) (envOf _ vf [2, 3] ++ _) _ _
   rw [pE2]
   exact zda (sk 16 (congrArg some e3.1) (zad _)) (by simp only [e3.2, fS] <;> rfl) (zdt (R := (fun u_ p_ => (∃ x_ : Int, u_ = .int .i64 x_ ∧ 0 ≤ x_ ∧ x_ < 256) ∧ p_ = curE g a len cap)) rfl rfl (fun L w hX hm => zch g a len cap z 256 _ _ _ hm hb (by constructor <;> omega)))
  ·
   intro vf pf hmu hR
   have e0 := hR 0 (by decide)
   have e2 : (∃ pm_, (pf 2) = [pm_] ∧ (fun u_ p_ => (∃ x_ : Int, u_ = .int .i64 x_ ∧ 0 ≤ x_ ∧ x_ < 256) ∧ p_ = curE g a len cap) (vf 2) pm_) := hR 2 (by decide)
   obtain ⟨p7, pE2, hR8⟩ := e2
   obtain ⟨v6, vE2⟩ : ∃ x, vf 2 = x := ⟨_, rfl⟩
   rw [vE2] at hR8
   obtain ⟨⟨xhR8, rfl, xhR80, xhR81⟩, rfl⟩ := hR8
   have e4 : (∃ pm_, (pf 4) = [pm_] ∧ (fun u_ p_ => (∃ x_ : Int, u_ = .int .i64 x_ ∧ 0 ≤ x_ ∧ x_ < 256) ∧ p_ = curE g a len cap) (vf 4) pm_) := hR 4 (by decide)
   obtain ⟨p10, pE4, hR11⟩ := e4
   obtain ⟨v9, vE4⟩ : ∃ x, vf 4 = x := ⟨_, rfl⟩
   rw [vE4] at hR11
   obtain ⟨⟨xhR11, rfl, xhR110, xhR111⟩, rfl⟩ := hR11
   refine dqQ [0, 4] [0, 2, 4] rfl (zby (sk 13 (congrArg some e0.1) (sk 15 (congrArg some vE2) (sk 17 (congrArg some vE4) (zad _)))) (by simp only [pE4, vE4, e0.2, fS] <;> rfl) ?_)
   exact zck (zbd (zfg (cs := #[.int .i64 m.ins, m.sv, m.lv, m.ov, .slice none 0 0, .slice none 0 0, .slice none 0 0, .slice none 0 0, .slice none 0 0, .int .i64 xhR8, .int .i64 xhR11]) rfl rfl (fun w hm => built_tdD m.ins xhR8 xhR11 m.sv m.lv m.ov o1m o2m o3m))) (fun _ _ h => ⟨h.1.trans (by show _ = (.agg #[.int .i64 m.ins, m.sv, m.lv, m.ov, .slice none 0 0, .slice none 0 0, .slice none 0 0, .slice none 0 0, .slice none 0 0, .int .i64 (intOf_o (vf 2)), .int .i64 (intOf_o (vf 4))] : Value); first | (rw [vE2, vE4]; done) | (rw [vE2, vE4]; rfl)), h.2⟩)
  intro vf pf hmu hR
  refine dqQ [] [] rfl (zbq (zad _) (List.sublist_append_right _ _) ?_)
  exact zbw (z := .agg #[.int .i64 0, .slice none 0 0, .slice none 0 0, .slice none 0 0, .slice none 0 0, .slice none 0 0, .slice none 0 0, .slice none 0 0, .slice none 0 0, .int .i64 0, .int .i64 0]) rfl rfl
 intro vf pf hmu hR
 have e2 : (∃ pm_, (pf 2) = [pm_] ∧ (fun u_ p_ => (∃ x_ : Int, u_ = .int .i64 x_ ∧ 0 ≤ x_ ∧ x_ < 256) ∧ p_ = curE g a len cap) (vf 2) pm_) := hR 2 (by decide)
 obtain ⟨p7, pE2, hR8⟩ := e2
 obtain ⟨v6, vE2⟩ : ∃ x, vf 2 = x := ⟨_, rfl⟩
 rw [vE2] at hR8
 obtain ⟨⟨xhR8, rfl, xhR80, xhR81⟩, rfl⟩ := hR8
 have e4 : (∃ pm_, (pf 4) = [pm_] ∧ (fun u_ p_ => (∃ x_ : Int, u_ = .int .i64 x_ ∧ 0 ≤ x_ ∧ x_ < 256) ∧ p_ = curE g a len cap) (vf 4) pm_) := hR 4 (by decide)
 obtain ⟨p10, pE4, hR11⟩ := e4
 obtain ⟨v9, vE4⟩ : ∃ x, vf 4 = x := ⟨_, rfl⟩
 rw [vE4] at hR11
 obtain ⟨⟨xhR11, rfl, xhR110, xhR111⟩, rfl⟩ := hR11
 have e5 : (vf 5) = .agg #[.int .i64 m.ins, m.sv, m.lv, m.ov, .slice none 0 0, .slice none 0 0, .slice none 0 0, .slice none 0 0, .slice none 0 0, .int .i64 (intOf_o (vf 2)), .int .i64 (intOf_o (vf 4))] ∧ (pf 5) = [] := hR 5 (by decide)
 rw [vE2, vE4] at e5
 have e6 : IsBox #[.int .i64 0, .slice none 0 0, .slice none 0 0, .slice none 0 0, .slice none 0 0, .slice none 0 0, .slice none 0 0, .slice none 0 0, .slice none 0 0, .int .i64 0, .int .i64 0] 45 (vf 6) (pf 6) := hR 6 (by decide)
 obtain ⟨b12, vE6, pE6⟩ := e6
 have q0 := hR 0 (by decide)
 have q1 := hR 1 (by decide)
 have q3 := hR 3 (by decide)
 have q5 := hR 5 (by decide)
 refine zcj (zbe [3, 2, 0] _ (sk 4 (congrArg some vE6) (sk 18 (congrArg some e5.1) (zad _))) rfl) (by simp only [pE4, vE4, pE6, vE6, q0.2, q1.2, q3.2, q5.2, fS] <;> rfl) ?_
 simp only [List.drop_succ_cons, List.drop_zero]
 refine zcb (cs' := #[.int .i64 m.ins, m.sv, m.lv, m.ov, .slice none 0 0, .slice none 0 0, .slice none 0 0, .slice none 0 0, .slice none 0 0, .int .i64 xhR8, .int .i64 xhR11]) (i := 1) (off := 0) (us := [.int .i64 m.ins, m.sv, m.lv, m.ov, .slice none 0 0, .slice none 0 0, .slice none 0 0, .slice none 0 0, .slice none 0 0, .int .i64 xhR8, .int .i64 xhR11]) rfl rfl rfl rfl rfl rfl rfl (zaf rfl (zaf o1m (zaf o2m (zaf o3m (zaf rfl (zaf rfl (zaf rfl (zaf rfl (zaf rfl (zaf rfl (zaf rfl zbo))))))))))) rfl (by kernel_rfl) rfl (ntQ (zac (zba 1 rfl (zax ?_))))
 refine zdi (rowE 3 1 (.slice none 0 0) 0 ([]) :: curE g a len cap :: boxE b12 #[.int .i64 m.ins, m.sv, m.lv, m.ov, .slice none 0 0, .slice none 0 0, .slice none 0 0, .slice none 0 0, .slice none 0 0, .int .i64 xhR8, .int .i64 xhR11] 45 :: boxE b5 #[.int .i64 m.ins, m.sv, m.lv, m.ov] 28 :: bigE ps :: boxE b1 #[.int .i64 0, .slice none 0 0, .slice none 0 0, .slice none 0 0, .slice none 0 0, .slice none 0 0, .slice none 0 0, .slice none 0 0, .slice none 0 0, .int .i64 0, .int .i64 0] 45 :: l) (fun w hm => hm.nilRow 3 1) ?_
 refine zdi (rowE 3 1 (.slice none 0 0) 0 ([]) :: rowE 3 1 (.slice none 0 0) 0 ([]) :: curE g a len cap :: boxE b12 #[.int .i64 m.ins, m.sv, m.lv, m.ov, .slice none 0 0, .slice none 0 0, .slice none 0 0, .slice none 0 0, .slice none 0 0, .int .i64 xhR8, .int .i64 xhR11] 45 :: boxE b5 #[.int .i64 m.ins, m.sv, m.lv, m.ov] 28 :: bigE ps :: boxE b1 #[.int .i64 0, .slice none 0 0, .slice none 0 0, .slice none 0 0, .slice none 0 0, .slice none 0 0, .slice none 0 0, .slice none 0 0, .slice none 0 0, .int .i64 0, .int .i64 0] 45 :: l) (fun w hm => hm.nilRow 3 1) ?_
 refine zdi (rowE 3 1 (.slice none 0 0) 0 ([]) :: rowE 3 1 (.slice none 0 0) 0 ([]) :: rowE 3 1 (.slice none 0 0) 0 ([]) :: curE g a len cap :: boxE b12 #[.int .i64 m.ins, m.sv, m.lv, m.ov, .slice none 0 0, .slice none 0 0, .slice none 0 0, .slice none 0 0, .slice none 0 0, .int .i64 xhR8, .int .i64 xhR11] 45 :: boxE b5 #[.int .i64 m.ins, m.sv, m.lv, m.ov] 28 :: bigE ps :: boxE b1 #[.int .i64 0, .slice none 0 0, .slice none 0 0, .slice none 0 0, .slice none 0 0, .slice none 0 0, .slice none 0 0, .slice none 0 0, .slice none 0 0, .int .i64 0, .int .i64 0] 45 :: l) (fun w hm => hm.nilRow 3 1) ?_
 refine zdi (rowE 26 1 (.slice none 0 0) (([] : List IR).length) (([] : List IR).flatMap irC) :: rowE 3 1 (.slice none 0 0) 0 ([]) :: rowE 3 1 (.slice none 0 0) 0 ([]) :: rowE 3 1 (.slice none 0 0) 0 ([]) :: curE g a len cap :: boxE b12 #[.int .i64 m.ins, m.sv, m.lv, m.ov, .slice none 0 0, .slice none 0 0, .slice none 0 0, .slice none 0 0, .slice none 0 0, .int .i64 xhR8, .int .i64 xhR11] 45 :: boxE b5 #[.int .i64 m.ins, m.sv, m.lv, m.ov] 28 :: bigE ps :: boxE b1 #[.int .i64 0, .slice none 0 0, .slice none 0 0, .slice none 0 0, .slice none 0 0, .slice none 0 0, .slice none 0 0, .slice none 0 0, .slice none 0 0, .int .i64 0, .int .i64 0] 45 :: l) (fun w hm => hm.nilRow 26 1) ?_
 refine zdi (rowE 26 1 (.slice none 0 0) (([] : List IR).length) (([] : List IR).flatMap irC) :: rowE 26 1 (.slice none 0 0) (([] : List IR).length) (([] : List IR).flatMap irC) :: rowE 3 1 (.slice none 0 0) 0 ([]) :: rowE 3 1 (.slice none 0 0) 0 ([]) :: rowE 3 1 (.slice none 0 0) 0 ([]) :: curE g a len cap :: boxE b12 #[.int .i64 m.ins, m.sv, m.lv, m.ov, .slice none 0 0, .slice none 0 0, .slice none 0 0, .slice none 0 0, .slice none 0 0, .int .i64 xhR8, .int .i64 xhR11] 45 :: boxE b5 #[.int .i64 m.ins, m.sv, m.lv, m.ov] 28 :: bigE ps :: boxE b1 #[.int .i64 0, .slice none 0 0, .slice none 0 0, .slice none 0 0, .slice none 0 0, .slice none 0 0, .slice none 0 0, .slice none 0 0, .slice none 0 0, .int .i64 0, .int .i64 0] 45 :: l) (fun w hm => hm.nilRow 26 1) ?_
 refine zdi _ zfu ?_
 refine lkQ4 (α := Nat) (β := Value) (γ := List IR) (δ := List HP) [0, 2, 3, 4] rfl (fun i ud dl bs => (bigE bs :: rowE 26 1 ud dl.length (dl.flatMap irC) :: rowE 26 1 (.slice none 0 0) (([] : List IR).length) (([] : List IR).flatMap irC) :: rowE 3 1 (.slice none 0 0) 0 ([]) :: rowE 3 1 (.slice none 0 0) 0 ([]) :: rowE 3 1 (.slice none 0 0) 0 ([]) :: curE g a len cap :: boxE b12 #[.int .i64 m.ins, m.sv, m.lv, m.ov, ud, .slice none 0 0, .slice none 0 0, .slice none 0 0, .slice none 0 0, .int .i64 xhR8, .int .i64 xhR11] 45 :: boxE b5 #[.int .i64 m.ins, m.sv, m.lv, m.ov] 28 :: bigE ps :: boxE b1 #[.int .i64 0, .slice none 0 0, .slice none 0 0, .slice none 0 0, .slice none 0 0, .slice none 0 0, .slice none 0 0, .slice none 0 0, .slice none 0 0, .int .i64 0, .int .i64 0] 45 :: l)) (fun i ud dl bs => [(5, .int .i64 (i : Int))]) (fun i ud dl bs => i ≤ m.ls.length ∧ dl.length = i ∧ IrsOk (fun q => (m.ls.getD q lt0).xs.length) dl ∧ ∀ w, (bigE bs).holds w → RdsIRs w dl) (fun i ud dl bs => m.ls.length - i) 0 _ [] [] ⟨Nat.zero_le _, rfl, IrsOk.nil _, fun w _ => RdsIRs.nil w⟩ (saQ rfl) (.refl _) ?_
 intro i ud dl bs hi13
 obtain ⟨hi, hdl, hdo, hbs⟩ := hi13
 refine zac (zac (reQ 1 rfl (hvQ rfl (zaa (k0 := 2) rfl rfl rfl) (hvQ rfl (zaj rfl rfl rfl (zae 8 rfl rfl)) ?_))))
 refine hvQ rfl (lnQ rfl rfl rfl (fun w hm => (hps w (hm.holds _ (zcg (i := 9) rfl))).lt.row)) (zbn rfl rfl rfl rfl rfl rfl (fun h14 => ?_) (fun h14 => ?_))
 ·
  refine ntQ (zan rfl (zcq (sbQ (srQ ?_))))
  refine zdw rfl (zcl (s := 1) rfl Try.underlying26 rfl) ?_
  intro g15
  refine zbc 1 rfl (zac (zba 1 rfl (zax ?_)))
  refine lkQ3 (α := Nat) (β := Value) (γ := List Int) [0, 2, 3, 4, 5, 23] rfl (fun j ur xs => (rowE 3 1 ur xs.length (xs.map (Value.int .i64)) :: bigE bs :: rowE 26 1 ud dl.length (dl.flatMap irC) :: rowE 26 1 (.slice none 0 0) (([] : List IR).length) (([] : List IR).flatMap irC) :: rowE 3 1 (.slice none 0 0) 0 ([]) :: rowE 3 1 (.slice none 0 0) 0 ([]) :: rowE 3 1 (.slice none 0 0) 0 ([]) :: curE g a len cap :: boxE b12 #[.int .i64 m.ins, m.sv, m.lv, m.ov, ud, .slice none 0 0, .slice none 0 0, .slice none 0 0, .slice none 0 0, .int .i64 xhR8, .int .i64 xhR11] 45 :: boxE b5 #[.int .i64 m.ins, m.sv, m.lv, m.ov] 28 :: bigE ps :: boxE b1 #[.int .i64 0, .slice none 0 0, .slice none 0 0, .slice none 0 0, .slice none 0 0, .slice none 0 0, .slice none 0 0, .slice none 0 0, .slice none 0 0, .int .i64 0, .int .i64 0] 45 :: l)) (fun j ur xs => [(6, ur), (7, .int .i64 (j : Int))]) (fun j ur xs => j ≤ (m.ls.getD i lt0).xs.length ∧ xs.length = j ∧ LiR xs 100) (fun j ur xs => (m.ls.getD i lt0).xs.length - j) 0 _ [] ⟨Nat.zero_le _, rfl, LiR.nil _⟩ (saQ rfl) (.refl _) ?_
  intro j ur xs hi16
  obtain ⟨hj, hxl, hxr⟩ := hi16
  have hx4 := (hok.lt i (by omega)).1.1
  refine zac (zac (reQ 1 rfl (hvQ rfl (zaa (k0 := 2) rfl rfl rfl) (hvQ rfl (zaj rfl rfl rfl (zae 9 rfl rfl)) (zar 1 rfl ?_)))))
  refine hvQ rfl (riQ 2 rfl rfl rfl rfl (fun w hm => (hps w (hm.holds _ (zcg (i := 10) rfl))).lt.row)) (hvQ rfl (zbt (k0 := 0) rfl rfl rfl (fun w hm => (hps w (hm.holds _ (zcg (i := 10) rfl))).lt.row) (by omega)) ?_)
  refine hvQ rfl (zat (u := (m.ls.getD i lt0).iv) rfl rfl rfl (fun w hm => (hps w (hm.holds _ (zcg (i := 10) rfl))).lt.row) ((zcu ltC 2 (fun _ => rfl) m.ls lt0 (show i < _ by omega) (by decide)).trans rfl)) (hvQ rfl (lnQ rfl rfl rfl (fun w hm => (hps w (hm.holds _ (zcg (i := 10) rfl))).lt.at (d := lt0) (k := i) (by omega))) ?_)
  refine zbn rfl rfl rfl rfl rfl rfl (fun h17 => ?_) (fun h17 => ?_)
  ·
   refine ntQ (zan rfl (zcq (sbQ (reQ 2 rfl ?_))))
   refine zdd (R := (fun u_ p_ => (∃ x_ : Int, u_ = .int .i64 x_ ∧ 0 ≤ x_ ∧ x_ < 6) ∧ p_ = curE g a len cap)) 7 rfl rfl rfl rfl rfl (fun l' w hm => zch g a len cap z 6 _ _ _ hm hb (by constructor <;> omega)) ?_
   intro v18 p19 hR20
   obtain ⟨⟨xhR20, rfl, xhR200, xhR201⟩, rfl⟩ := hR20
   refine zee (l' := (rowE 3 1 ur xs.length (xs.map (Value.int .i64)) :: bigE bs :: rowE 26 1 ud dl.length (dl.flatMap irC) :: rowE 26 1 (.slice none 0 0) (([] : List IR).length) (([] : List IR).flatMap irC) :: rowE 3 1 (.slice none 0 0) 0 ([]) :: rowE 3 1 (.slice none 0 0) 0 ([]) :: rowE 3 1 (.slice none 0 0) 0 ([]) :: curE g a len cap :: boxE b12 #[.int .i64 m.ins, m.sv, m.lv, m.ov, ud, .slice none 0 0, .slice none 0 0, .slice none 0 0, .slice none 0 0, .int .i64 xhR8, .int .i64 xhR11] 45 :: boxE b5 #[.int .i64 m.ins, m.sv, m.lv, m.ov] 28 :: bigE ps :: boxE b1 #[.int .i64 0, .slice none 0 0, .slice none 0 0, .slice none 0 0, .slice none 0 0, .slice none 0 0, .slice none 0 0, .slice none 0 0, .slice none 0 0, .int .i64 0, .int .i64 0] 45 :: l)) rfl ?_
   refine zdw rfl (zav (z := .int .i64 0) (s := 1) (cs := ([xhR20].map (Value.int .i64))) rfl Try.underlying26 rfl (by decide) rfl (by kernel_rfl) rfl) ?_
   intro g21
   refine zci (i := 1) (z := .int .i64 0) (bytes := 8) rfl rfl rfl rfl Try.underlying26 (by kernel_rfl) rfl rfl rfl rfl (zag 0 rfl) (zbz _) (by first | omega | (simp; done) | (simp; omega)) (zbx xs ([xhR20])) (zco xs ([xhR20])) (fun _ => rfl) ?_
   intro v22
   refine enQ 1 rfl (zcv (reQ 1 rfl (hvQ rfl (vaQ rfl rfl rfl) (enQ 1 rfl ?_))))
   exact zbv (j + 1) v22 (xs ++ ([xhR20])) ⟨by omega, by rw [List.length_append, List.length_singleton]; omega, hxr.app (by omega)⟩ (by omega) (saQ rfl) (.cons _ (.refl _))
  refine ntQ (zaq rfl ?_)
  refine zbb (zds ?_)
  refine zai (zay (zbg (hvQ rfl (zaa (k0 := 4) rfl rfl rfl) (hvQ rfl (zaa (k0 := 0) rfl rfl rfl) (hvQ rfl (zaj rfl rfl rfl (zae 8 rfl rfl)) (zar 1 rfl ?_))))))
  refine zdw rfl (zeg rfl Try.underlying41 (by kernel_rfl) rfl (fun w hm => (zag 0 rfl w hm).one)) ?_
  intro g23
  refine zcp (i := 1) rfl (fun ho24 => ?_)
  refine zci (i := 3) (z := .slice none 0 0) (bytes := 24) rfl rfl rfl rfl Try.underlying41 (by kernel_rfl) rfl rfl rfl rfl (zag 0 rfl) (zaf ho24 zbo) (by first | omega | (simp only [List.length_append, List.length_cons, List.length_nil]; omega)) (zbx dl [(IR.mk ur xs)]) (zcy irC dl (IR.mk ur xs) _ rfl) (fun _ => rfl) ?_
  intro v25
  refine hvQ rfl (zaa (k0 := 4) rfl rfl rfl) (hvQ rfl (zaa (k0 := 0) rfl rfl rfl) ?_)
  refine zcp (i := 3) rfl (fun ho26 => ?_)
  refine zei (i := 9) (cs' := #[.int .i64 m.ins, m.sv, m.lv, m.ov, v25, .slice none 0 0, .slice none 0 0, .slice none 0 0, .slice none 0 0, .int .i64 xhR8, .int .i64 xhR11]) rfl rfl rfl rfl rfl rfl ho26 rfl rfl rfl rfl (zcf (zcv (reQ 1 rfl (hvQ rfl (vaQ rfl rfl rfl) (enQ 1 rfl ?_)))))
  refine zbj 13 [12, 11, 10, 9, 8, 7, 6, 5, 4, 3, 1, 2] rfl rfl (by decide) ?_
  refine zcr 2 rfl ?_
  exact zbu (i + 1) v25 (dl ++ [(IR.mk ur xs)]) [bigE bs, rowE 3 1 ur xs.length (xs.map (Value.int .i64))] ⟨by omega, by rw [List.length_append, List.length_singleton]; omega, hdo.app (by show xs.length = (m.ls.getD dl.length lt0).xs.length; rw [hdl]; omega) hxr, fun w hw => (hbs w (zaz hw List.mem_cons_self)).app (zbm (zaz hw (List.mem_cons_of_mem _ List.mem_cons_self)))⟩ (by omega) (saQ rfl) (.refl _)
 refine ntQ (zaq rfl ?_)
 refine zbb (zds ?_)
 refine zai (zay (zac (zba 1 rfl (zax ?_))))
 refine lkQ4 (α := Nat) (β := List IR) (γ := List Int × List Int × List Int) (δ := (Value × Value × Value × Value) × List HP) [0, 2, 3, 4, 23] rfl (fun k ds zz yy => (bigE yy.2 :: rowE 26 1 ud dl.length (dl.flatMap irC) :: rowE 26 1 yy.1.1 ds.length (ds.flatMap irC) :: rowE 3 1 yy.1.2.1 zz.1.length (zz.1.map (Value.int .i64)) :: rowE 3 1 yy.1.2.2.1 zz.2.1.length (zz.2.1.map (Value.int .i64)) :: rowE 3 1 yy.1.2.2.2 zz.2.2.length (zz.2.2.map (Value.int .i64)) :: curE g a len cap :: boxE b12 #[.int .i64 m.ins, m.sv, m.lv, m.ov, ud, yy.1.1, yy.1.2.1, yy.1.2.2.1, yy.1.2.2.2, .int .i64 xhR8, .int .i64 xhR11] 45 :: boxE b5 #[.int .i64 m.ins, m.sv, m.lv, m.ov] 28 :: bigE ps :: boxE b1 #[.int .i64 0, .slice none 0 0, .slice none 0 0, .slice none 0 0, .slice none 0 0, .slice none 0 0, .slice none 0 0, .slice none 0 0, .slice none 0 0, .int .i64 0, .int .i64 0] 45 :: l)) (fun k ds zz yy => [(8, .int .i64 (k : Int))]) (fun k ds zz yy => k ≤ m.ss.length ∧ ds.length = k ∧ IrsOk (fun q => (m.ss.getD q sq0).xs.length) ds ∧ zz.1.length = k ∧ LiR zz.1 50 ∧ zz.2.1.length = k ∧ LiR zz.2.1 1 ∧ zz.2.2.length = k ∧ LiR zz.2.2 1 ∧ ∀ w, (bigE yy.2).holds w → RdsIRs w dl ∧ RdsIRs w ds) (fun k ds zz yy => m.ss.length - k) 0 [] ([], [], []) ((_, _, _, _), _) ⟨Nat.zero_le _, rfl, IrsOk.nil _, rfl, LiR.nil _, rfl, LiR.nil _, rfl, LiR.nil _, fun w hw => ⟨hbs w hw, RdsIRs.nil w⟩⟩ (saQ rfl) (.refl _) ?_
 intro k ds zz yy hi27
 obtain ⟨hk, hel, heo, hl1, hz1, hl2, hz2, hl3, hz3, hys⟩ := hi27
 refine zac (zac (reQ 1 rfl (hvQ rfl (zaa (k0 := 1) rfl rfl rfl) (hvQ rfl (zaj rfl rfl rfl (zae 8 rfl rfl)) ?_))))
 refine hvQ rfl (lnQ rfl rfl rfl (fun w hm => (hps w (hm.holds _ (zcg (i := 9) rfl))).sq.row)) (zbn rfl rfl rfl rfl rfl rfl (fun h28 => ?_) (fun h28 => ?_))
 ·
  refine ntQ (zan rfl (zcq (sbQ (srQ ?_))))
  refine zdw rfl (zcl (s := 1) rfl Try.underlying26 rfl) ?_
  intro g29
  refine zbc 1 rfl (zac (zba 1 rfl (zax ?_)))
  refine lkQ3 (α := Nat) (β := Value) (γ := List Int) [0, 2, 3, 4, 8, 23, 55] rfl (fun j ur xs => (rowE 3 1 ur xs.length (xs.map (Value.int .i64)) :: bigE yy.2 :: rowE 26 1 ud dl.length (dl.flatMap irC) :: rowE 26 1 yy.1.1 ds.length (ds.flatMap irC) :: rowE 3 1 yy.1.2.1 zz.1.length (zz.1.map (Value.int .i64)) :: rowE 3 1 yy.1.2.2.1 zz.2.1.length (zz.2.1.map (Value.int .i64)) :: rowE 3 1 yy.1.2.2.2 zz.2.2.length (zz.2.2.map (Value.int .i64)) :: curE g a len cap :: boxE b12 #[.int .i64 m.ins, m.sv, m.lv, m.ov, ud, yy.1.1, yy.1.2.1, yy.1.2.2.1, yy.1.2.2.2, .int .i64 xhR8, .int .i64 xhR11] 45 :: boxE b5 #[.int .i64 m.ins, m.sv, m.lv, m.ov] 28 :: bigE ps :: boxE b1 #[.int .i64 0, .slice none 0 0, .slice none 0 0, .slice none 0 0, .slice none 0 0, .slice none 0 0, .slice none 0 0, .slice none 0 0, .slice none 0 0, .int .i64 0, .int .i64 0] 45 :: l)) (fun j ur xs => [(9, ur), (10, .int .i64 (j : Int))]) (fun j ur xs => j ≤ (m.ss.getD k sq0).xs.length ∧ xs.length = j ∧ LiR xs 100) (fun j ur xs => (m.ss.getD k sq0).xs.length - j) 0 _ [] ⟨Nat.zero_le _, rfl, LiR.nil _⟩ (saQ rfl) (.refl _) ?_
  intro j ur xs hi30
  obtain ⟨hj, hxl, hxr⟩ := hi30
  have hx4 := (sq_len (hok.sq k (by omega)).1).1
  refine zac (zac (reQ 1 rfl (hvQ rfl (zaa (k0 := 1) rfl rfl rfl) (hvQ rfl (zaj rfl rfl rfl (zae 9 rfl rfl)) (zar 1 rfl ?_)))))
  refine hvQ rfl (riQ 3 rfl rfl rfl rfl (fun w hm => (hps w (hm.holds _ (zcg (i := 10) rfl))).sq.row)) (hvQ rfl (zbt (k0 := 2) rfl rfl rfl (fun w hm => (hps w (hm.holds _ (zcg (i := 10) rfl))).sq.row) (by omega)) ?_)
  refine hvQ rfl (zat (u := (m.ss.getD k sq0).iv) rfl rfl rfl (fun w hm => (hps w (hm.holds _ (zcg (i := 10) rfl))).sq.row) ((zcu sqC 3 (fun _ => rfl) m.ss sq0 (show k < _ by omega) (by decide)).trans rfl)) (hvQ rfl (lnQ rfl rfl rfl (fun w hm => (hps w (hm.holds _ (zcg (i := 10) rfl))).sq.at (d := sq0) (k := k) (by omega))) ?_)
  refine zbn rfl rfl rfl rfl rfl rfl (fun h31 => ?_) (fun h31 => ?_)
  ·
   refine ntQ (zan rfl (zcq (sbQ (reQ 2 rfl ?_))))
   refine zdd (R := (fun u_ p_ => (∃ x_ : Int, u_ = .int .i64 x_ ∧ 0 ≤ x_ ∧ x_ < 6) ∧ p_ = curE g a len cap)) 7 rfl rfl rfl rfl rfl (fun l' w hm => zch g a len cap z 6 _ _ _ hm hb (by constructor <;> omega)) ?_
   intro v32 p33 hR34
   obtain ⟨⟨xhR34, rfl, xhR340, xhR341⟩, rfl⟩ := hR34
   refine zee (l' := (rowE 3 1 ur xs.length (xs.map (Value.int .i64)) :: bigE yy.2 :: rowE 26 1 ud dl.length (dl.flatMap irC) :: rowE 26 1 yy.1.1 ds.length (ds.flatMap irC) :: rowE 3 1 yy.1.2.1 zz.1.length (zz.1.map (Value.int .i64)) :: rowE 3 1 yy.1.2.2.1 zz.2.1.length (zz.2.1.map (Value.int .i64)) :: rowE 3 1 yy.1.2.2.2 zz.2.2.length (zz.2.2.map (Value.int .i64)) :: curE g a len cap :: boxE b12 #[.int .i64 m.ins, m.sv, m.lv, m.ov, ud, yy.1.1, yy.1.2.1, yy.1.2.2.1, yy.1.2.2.2, .int .i64 xhR8, .int .i64 xhR11] 45 :: boxE b5 #[.int .i64 m.ins, m.sv, m.lv, m.ov] 28 :: bigE ps :: boxE b1 #[.int .i64 0, .slice none 0 0, .slice none 0 0, .slice none 0 0, .slice none 0 0, .slice none 0 0, .slice none 0 0, .slice none 0 0, .slice none 0 0, .int .i64 0, .int .i64 0] 45 :: l)) rfl ?_
   refine zdw rfl (zav (z := .int .i64 0) (s := 1) (cs := ([xhR34].map (Value.int .i64))) rfl Try.underlying26 rfl (by decide) rfl (by kernel_rfl) rfl) ?_
   intro g35
   refine zci (i := 1) (z := .int .i64 0) (bytes := 8) rfl rfl rfl rfl Try.underlying26 (by kernel_rfl) rfl rfl rfl rfl (zag 0 rfl) (zbz _) (by first | omega | (simp; done) | (simp; omega)) (zbx xs ([xhR34])) (zco xs ([xhR34])) (fun _ => rfl) ?_
   intro v36
   refine enQ 1 rfl (zcv (reQ 1 rfl (hvQ rfl (vaQ rfl rfl rfl) (enQ 1 rfl ?_))))
   exact zbv (j + 1) v36 (xs ++ ([xhR34])) ⟨by omega, by rw [List.length_append, List.length_singleton]; omega, hxr.app (by omega)⟩ (by omega) (saQ rfl) (.cons _ (.refl _))
  refine ntQ (zaq rfl ?_)
  refine zbb (zds ?_)
  refine zai (zay (srQ (hvQ rfl (zaa (k0 := 4) rfl rfl rfl) (hvQ rfl (zaa (k0 := 1) rfl rfl rfl) (hvQ rfl (zaj rfl rfl rfl (zae 8 rfl rfl)) (zar 1 rfl ?_))))))
  refine zdw rfl (zeg rfl Try.underlying41 (by kernel_rfl) rfl (fun w hm => (zag 0 rfl w hm).one)) ?_
  intro g37
  refine zcp (i := 1) rfl (fun ho38 => ?_)
  refine zci (i := 4) (z := .slice none 0 0) (bytes := 24) rfl rfl rfl rfl Try.underlying41 (by kernel_rfl) rfl rfl rfl rfl (zag 0 rfl) (zaf ho38 zbo) (by first | omega | (simp only [List.length_append, List.length_cons, List.length_nil]; omega)) (zbx ds [(IR.mk ur xs)]) (zcy irC ds (IR.mk ur xs) _ rfl) (fun _ => rfl) ?_
  intro v39
  refine hvQ rfl (zaa (k0 := 4) rfl rfl rfl) (hvQ rfl (zaa (k0 := 1) rfl rfl rfl) ?_)
  refine zcp (i := 4) rfl (fun ho40 => ?_)
  refine zei (i := 9) (cs' := #[.int .i64 m.ins, m.sv, m.lv, m.ov, ud, v39, yy.1.2.1, yy.1.2.2.1, yy.1.2.2.2, .int .i64 xhR8, .int .i64 xhR11]) rfl rfl rfl rfl rfl rfl ho40 rfl rfl rfl rfl (ntQ (zac ?_))
  refine zfd 13 [12, 11, 10, 9, 7, 6, 5, 4, 3, 2, 1, 0, 8] rfl rfl (by decide) ?_
  refine zfe (l := (rowE 26 1 (.slice (some ⟨g37, 0, none⟩) 1 1) 1 ([ur]) :: rowE 3 1 ur xs.length (xs.map (Value.int .i64)) :: bigE yy.2 :: rowE 26 1 ud dl.length (dl.flatMap irC) :: rowE 26 1 v39 ((ds ++ [(IR.mk ur xs)]).length) ((ds ++ [(IR.mk ur xs)]).flatMap irC) :: rowE 3 1 yy.1.2.1 zz.1.length (zz.1.map (Value.int .i64)) :: rowE 3 1 yy.1.2.2.1 zz.2.1.length (zz.2.1.map (Value.int .i64)) :: rowE 3 1 yy.1.2.2.2 zz.2.2.length (zz.2.2.map (Value.int .i64)) :: boxE b12 #[.int .i64 m.ins, m.sv, m.lv, m.ov, ud, v39, yy.1.2.1, yy.1.2.2.1, yy.1.2.2.2, .int .i64 xhR8, .int .i64 xhR11] 45 :: boxE b5 #[.int .i64 m.ins, m.sv, m.lv, m.ov] 28 :: bigE ps :: boxE b1 #[.int .i64 0, .slice none 0 0, .slice none 0 0, .slice none 0 0, .slice none 0 0, .slice none 0 0, .slice none 0 0, .slice none 0 0, .slice none 0 0, .int .i64 0, .int .i64 0] 45 :: l)) rfl 5 [0, 1, 2, 3, 4] (List.take 5 _) (List.drop 5 _) [[], [0], [], [2], [3]] [83, 84, 85, 86, 87] (fun i_ vs_ v_ p_ => match i_ with | 0 => v_ = .pointer (some ⟨b12, 0 + 6, none⟩) ∧ p_ = [] | 1 => v_ = yy.1.2.1 ∧ p_ = [] | 2 => v_ = .pointer (some ⟨g, 0, none⟩) ∧ p_ = [] | 3 => (∃ pm_, p_ = [pm_] ∧ (fun u_ p_ => (∃ x_ : Int, u_ = .int .i64 x_ ∧ 0 ≤ x_ ∧ x_ < 5) ∧ p_ = curE g a len cap) v_ pm_) | 4 => IsRow_o 3 1 1 ([(intOf_o (List.getD vs_ 0 undef))].map (Value.int .i64)) v_ p_ | _ => True) [[], [0], [], [2], [3]] [none, none, none, some 8, none] [curE g a len cap] [0, 1, 2, 3, 4] 8 (List.take_append_drop 5 _).symm (by kernel_rfl) (by kernel_rfl) (by kernel_rfl) rfl rfl ?_ ?_
  ·
   refine ⟨?_, ?_, ?_, ?_, ?_, trivial⟩
   ·
    intro vf pf hmu hR
    refine dqQ [] [] rfl (zbr (zal [4] rfl) ?_)
    exact zbd (zaa (k0 := 6) rfl rfl rfl)
   ·
    intro vf pf hmu hR
    have e0 := hR 0 (by decide)
    refine dqQ [0] [0] rfl (zbq (sk 83 (congrArg some e0.1) (zad _)) (List.sublist_append_right _ _) ?_)
    exact zbd (zaj rfl rfl rfl (zae 8 rfl rfl))
   ·
    intro vf pf hmu hR
    refine dqQ [] [] rfl (zbr (zal [0] rfl) ?_)
    exact zbd (zah rfl)
   ·
    intro vf pf hmu hR
    have e2 := hR 2 (by decide)
    refine Or.inl ⟨rfl, ?_⟩
    show RunM _ _ _ (pf 8) (([2] : List Nat).flatMap pf ++ _) (envOf _ vf [2] ++ _) _ _
    rw [hmu]
    exact zda (sk 85 (congrArg some e2.1) (zad _)) (by simp only [e2.2, fS] <;> rfl) (zdt (R := (fun u_ p_ => (∃ x_ : Int, u_ = .int .i64 x_ ∧ 0 ≤ x_ ∧ x_ < 5) ∧ p_ = curE g a len cap)) rfl rfl (fun L w hX hm => zch g a len cap z 5 _ _ _ hm hb (by constructor <;> omega)))
   intro vf pf hmu hR
   have e3 : (∃ pm_, (pf 3) = [pm_] ∧ (fun u_ p_ => (∃ x_ : Int, u_ = .int .i64 x_ ∧ 0 ≤ x_ ∧ x_ < 5) ∧ p_ = curE g a len cap) (vf 3) pm_) := hR 3 (by decide)
   obtain ⟨p42, pE3, hR43⟩ := e3
   obtain ⟨v41, vE3⟩ : ∃ x, vf 3 = x := ⟨_, rfl⟩
   rw [vE3] at hR43
   obtain ⟨⟨xhR43, rfl, xhR430, xhR431⟩, rfl⟩ := hR43
   refine dqQ [3] [3] rfl (zby (sk 86 (congrArg some vE3) (zad _)) (by simp only [pE3, vE3, fS] <;> rfl) ?_)
   exact zck (zav (z := .int .i64 0) (s := 1) (cs := ([xhR43].map (Value.int .i64))) rfl Try.underlying26 rfl (by decide) rfl (by kernel_rfl) rfl) (fun v_ p_ h => by show IsRow_o 3 1 1 ([(intOf_o (vf 3))].map (Value.int .i64)) v_ p_; rw [vE3]; exact h)
  intro vf pf hmu hR
  have e1 := hR 1 (by decide)
  have e3 : (∃ pm_, (pf 3) = [pm_] ∧ (fun u_ p_ => (∃ x_ : Int, u_ = .int .i64 x_ ∧ 0 ≤ x_ ∧ x_ < 5) ∧ p_ = curE g a len cap) (vf 3) pm_) := hR 3 (by decide)
  obtain ⟨p42, pE3, hR43⟩ := e3
  obtain ⟨v41, vE3⟩ : ∃ x, vf 3 = x := ⟨_, rfl⟩
  rw [vE3] at hR43
  obtain ⟨⟨xhR43, rfl, xhR430, xhR431⟩, rfl⟩ := hR43
  have e4 : IsRow_o 3 1 1 ([(intOf_o (vf 3))].map (Value.int .i64)) (vf 4) (pf 4) := hR 4 (by decide)
  rw [vE3] at e4
  obtain ⟨g44, vE4, pE4⟩ := e4
  have q0 := hR 0 (by decide)
  have q1 := hR 1 (by decide)
  have q2 := hR 2 (by decide)
  refine zcj (zbe [67, 55, 23, 10, 9, 8, 4, 3, 2, 0] _ (sk 84 (congrArg some e1.1) (sk 87 (congrArg some vE4) (zad _))) rfl) (by simp only [pE3, vE3, pE4, vE4, q0.2, q1.2, q2.2, fS] <;> rfl) ?_
  simp only [List.drop_succ_cons, List.drop_zero]
  refine zci (i := 7) (z := .int .i64 0) (bytes := 8) rfl rfl rfl rfl Try.underlying26 (by kernel_rfl) rfl rfl rfl rfl (zag 1 rfl) (zbz _) (by first | omega | (simp; done) | (simp; omega)) (zbx zz.1 ([xhR43])) (zco zz.1 ([xhR43])) (fun _ => rfl) ?_
  intro v45
  refine hvQ rfl (zaa (k0 := 6) rfl rfl rfl) (zcp (i := 7) rfl (fun ho46 => ?_))
  refine zei (i := 10) (cs' := #[.int .i64 m.ins, m.sv, m.lv, m.ov, ud, v39, v45, yy.1.2.2.1, yy.1.2.2.2, .int .i64 xhR8, .int .i64 xhR11]) rfl rfl rfl rfl rfl rfl ho46 rfl rfl rfl rfl (ntQ (zac ?_))
  refine zfe (l := (rowE 3 1 (.slice (some ⟨g44, 0, none⟩) 1 1) 1 ([xhR43].map (Value.int .i64)) :: rowE 26 1 (.slice (some ⟨g37, 0, none⟩) 1 1) 1 ([ur]) :: rowE 3 1 ur xs.length (xs.map (Value.int .i64)) :: bigE yy.2 :: rowE 26 1 ud dl.length (dl.flatMap irC) :: rowE 26 1 v39 ((ds ++ [(IR.mk ur xs)]).length) ((ds ++ [(IR.mk ur xs)]).flatMap irC) :: rowE 3 1 v45 ((zz.1 ++ ([xhR43])).length) ((zz.1 ++ ([xhR43])).map (Value.int .i64)) :: rowE 3 1 yy.1.2.2.1 zz.2.1.length (zz.2.1.map (Value.int .i64)) :: rowE 3 1 yy.1.2.2.2 zz.2.2.length (zz.2.2.map (Value.int .i64)) :: boxE b12 #[.int .i64 m.ins, m.sv, m.lv, m.ov, ud, v39, v45, yy.1.2.2.1, yy.1.2.2.2, .int .i64 xhR8, .int .i64 xhR11] 45 :: boxE b5 #[.int .i64 m.ins, m.sv, m.lv, m.ov] 28 :: bigE ps :: boxE b1 #[.int .i64 0, .slice none 0 0, .slice none 0 0, .slice none 0 0, .slice none 0 0, .slice none 0 0, .slice none 0 0, .slice none 0 0, .slice none 0 0, .int .i64 0, .int .i64 0] 45 :: l)) rfl 5 [0, 1, 2, 3, 4] (List.take 5 _) (List.drop 5 _) [[], [0], [], [2], [3]] [90, 91, 92, 93, 94] (fun i_ vs_ v_ p_ => match i_ with | 0 => v_ = .pointer (some ⟨b12, 0 + 7, none⟩) ∧ p_ = [] | 1 => v_ = yy.1.2.2.1 ∧ p_ = [] | 2 => v_ = .pointer (some ⟨g, 0, none⟩) ∧ p_ = [] | 3 => (∃ pm_, p_ = [pm_] ∧ (fun u_ p_ => (∃ x_ : Int, u_ = .int .i64 x_ ∧ 0 ≤ x_ ∧ x_ < 2) ∧ p_ = curE g a len cap) v_ pm_) | 4 => IsRow_o 3 1 1 ([(intOf_o (List.getD vs_ 0 undef))].map (Value.int .i64)) v_ p_ | _ => True) [[], [0], [], [2], [3]] [none, none, none, some 8, none] [curE g a len cap] [0, 1, 2, 3, 4] 8 (List.take_append_drop 5 _).symm (by kernel_rfl) (by kernel_rfl) (by kernel_rfl) rfl rfl ?_ ?_
  ·
   refine ⟨?_, ?_, ?_, ?_, ?_, trivial⟩
   ·
    intro vf pf hmu hR
    refine dqQ [] [] rfl (zbr (zal [4] rfl) ?_)
    exact zbd (zaa (k0 := 7) rfl rfl rfl)
   ·
    intro vf pf hmu hR
    have e0 := hR 0 (by decide)
    refine dqQ [0] [0] rfl (zbq (sk 90 (congrArg some e0.1) (zad _)) (List.sublist_append_right _ _) ?_)
    exact zbd (zaj rfl rfl rfl (zae 9 rfl rfl))
   ·
    intro vf pf hmu hR
    refine dqQ [] [] rfl (zbr (zal [0] rfl) ?_)
    exact zbd (zah rfl)
   ·
    intro vf pf hmu hR
    have e2 := hR 2 (by decide)
    refine Or.inl ⟨rfl, ?_⟩
    show RunM _ _ _ (pf 8) (([2] : List Nat).flatMap pf ++ _) (envOf _ vf [2] ++ _) _ _
    rw [hmu]
    exact zda (sk 92 (congrArg some e2.1) (zad _)) (by simp only [e2.2, fS] <;> rfl) (zdt (R := (fun u_ p_ => (∃ x_ : Int, u_ = .int .i64 x_ ∧ 0 ≤ x_ ∧ x_ < 2) ∧ p_ = curE g a len cap)) rfl rfl (fun L w hX hm => zch g a len cap z 2 _ _ _ hm hb (by constructor <;> omega)))
   intro vf pf hmu hR
   have e3 : (∃ pm_, (pf 3) = [pm_] ∧ (fun u_ p_ => (∃ x_ : Int, u_ = .int .i64 x_ ∧ 0 ≤ x_ ∧ x_ < 2) ∧ p_ = curE g a len cap) (vf 3) pm_) := hR 3 (by decide)
   obtain ⟨p48, pE3, hR49⟩ := e3
   obtain ⟨v47, vE3⟩ : ∃ x, vf 3 = x := ⟨_, rfl⟩
   rw [vE3] at hR49
   obtain ⟨⟨xhR49, rfl, xhR490, xhR491⟩, rfl⟩ := hR49
   refine dqQ [3] [3] rfl (zby (sk 93 (congrArg some vE3) (zad _)) (by simp only [pE3, vE3, fS] <;> rfl) ?_)
   exact zck (zav (z := .int .i64 0) (s := 1) (cs := ([xhR49].map (Value.int .i64))) rfl Try.underlying26 rfl (by decide) rfl (by kernel_rfl) rfl) (fun v_ p_ h => by show IsRow_o 3 1 1 ([(intOf_o (vf 3))].map (Value.int .i64)) v_ p_; rw [vE3]; exact h)
  intro vf pf hmu hR
  have e1 := hR 1 (by decide)
  have e3 : (∃ pm_, (pf 3) = [pm_] ∧ (fun u_ p_ => (∃ x_ : Int, u_ = .int .i64 x_ ∧ 0 ≤ x_ ∧ x_ < 2) ∧ p_ = curE g a len cap) (vf 3) pm_) := hR 3 (by decide)
  obtain ⟨p48, pE3, hR49⟩ := e3
  obtain ⟨v47, vE3⟩ : ∃ x, vf 3 = x := ⟨_, rfl⟩
  rw [vE3] at hR49
  obtain ⟨⟨xhR49, rfl, xhR490, xhR491⟩, rfl⟩ := hR49
  have e4 : IsRow_o 3 1 1 ([(intOf_o (vf 3))].map (Value.int .i64)) (vf 4) (pf 4) := hR 4 (by decide)
  rw [vE3] at e4
  obtain ⟨g50, vE4, pE4⟩ := e4
  have q0 := hR 0 (by decide)
  have q1 := hR 1 (by decide)
  have q2 := hR 2 (by decide)
  refine zcj (zbe [67, 55, 23, 10, 9, 8, 4, 3, 2, 0] _ (sk 91 (congrArg some e1.1) (sk 94 (congrArg some vE4) (zad _))) rfl) (by simp only [pE3, vE3, pE4, vE4, q0.2, q1.2, q2.2, fS] <;> rfl) ?_
  simp only [List.drop_succ_cons, List.drop_zero]
  refine zci (i := 9) (z := .int .i64 0) (bytes := 8) rfl rfl rfl rfl Try.underlying26 (by kernel_rfl) rfl rfl rfl rfl (zag 1 rfl) (zbz _) (by first | omega | (simp; done) | (simp; omega)) (zbx zz.2.1 ([xhR49])) (zco zz.2.1 ([xhR49])) (fun _ => rfl) ?_
  intro v51
  refine hvQ rfl (zaa (k0 := 7) rfl rfl rfl) (zcp (i := 9) rfl (fun ho52 => ?_))
  refine zei (i := 11) (cs' := #[.int .i64 m.ins, m.sv, m.lv, m.ov, ud, v39, v45, v51, yy.1.2.2.2, .int .i64 xhR8, .int .i64 xhR11]) rfl rfl rfl rfl rfl rfl ho52 rfl rfl rfl rfl (ntQ ?_)
  refine zfe (l := (rowE 3 1 (.slice (some ⟨g50, 0, none⟩) 1 1) 1 ([xhR49].map (Value.int .i64)) :: rowE 3 1 (.slice (some ⟨g44, 0, none⟩) 1 1) 1 ([xhR43].map (Value.int .i64)) :: rowE 26 1 (.slice (some ⟨g37, 0, none⟩) 1 1) 1 ([ur]) :: rowE 3 1 ur xs.length (xs.map (Value.int .i64)) :: bigE yy.2 :: rowE 26 1 ud dl.length (dl.flatMap irC) :: rowE 26 1 v39 ((ds ++ [(IR.mk ur xs)]).length) ((ds ++ [(IR.mk ur xs)]).flatMap irC) :: rowE 3 1 v45 ((zz.1 ++ ([xhR43])).length) ((zz.1 ++ ([xhR43])).map (Value.int .i64)) :: rowE 3 1 v51 ((zz.2.1 ++ ([xhR49])).length) ((zz.2.1 ++ ([xhR49])).map (Value.int .i64)) :: rowE 3 1 yy.1.2.2.2 zz.2.2.length (zz.2.2.map (Value.int .i64)) :: boxE b12 #[.int .i64 m.ins, m.sv, m.lv, m.ov, ud, v39, v45, v51, yy.1.2.2.2, .int .i64 xhR8, .int .i64 xhR11] 45 :: boxE b5 #[.int .i64 m.ins, m.sv, m.lv, m.ov] 28 :: bigE ps :: boxE b1 #[.int .i64 0, .slice none 0 0, .slice none 0 0, .slice none 0 0, .slice none 0 0, .slice none 0 0, .slice none 0 0, .slice none 0 0, .slice none 0 0, .int .i64 0, .int .i64 0] 45 :: l)) rfl 5 [0, 1, 2, 3, 4] (List.take 5 _) (List.drop 5 _) [[], [0], [], [2], [3]] [97, 98, 99, 100, 101] (fun i_ vs_ v_ p_ => match i_ with | 0 => v_ = .pointer (some ⟨b12, 0 + 8, none⟩) ∧ p_ = [] | 1 => v_ = yy.1.2.2.2 ∧ p_ = [] | 2 => v_ = .pointer (some ⟨g, 0, none⟩) ∧ p_ = [] | 3 => (∃ pm_, p_ = [pm_] ∧ (fun u_ p_ => (∃ x_ : Int, u_ = .int .i64 x_ ∧ 0 ≤ x_ ∧ x_ < 2) ∧ p_ = curE g a len cap) v_ pm_) | 4 => IsRow_o 3 1 1 ([(intOf_o (List.getD vs_ 0 undef))].map (Value.int .i64)) v_ p_ | _ => True) [[], [0], [], [2], [3]] [none, none, none, some 8, none] [curE g a len cap] [0, 1, 2, 3, 4] 8 (List.take_append_drop 5 _).symm (by kernel_rfl) (by kernel_rfl) (by kernel_rfl) rfl rfl ?_ ?_
  ·
   refine ⟨?_, ?_, ?_, ?_, ?_, trivial⟩
   ·
    intro vf pf hmu hR
    refine dqQ [] [] rfl (zbr (zal [4] rfl) ?_)
    exact zbd (zaa (k0 := 8) rfl rfl rfl)
   ·
    intro vf pf hmu hR
    have e0 := hR 0 (by decide)
    refine dqQ [0] [0] rfl (zbq (sk 97 (congrArg some e0.1) (zad _)) (List.sublist_append_right _ _) ?_)
    exact zbd (zaj rfl rfl rfl (zae 10 rfl rfl))
   ·
    intro vf pf hmu hR
    refine dqQ [] [] rfl (zbr (zal [0] rfl) ?_)
    exact zbd (zah rfl)
   ·
    intro vf pf hmu hR
    have e2 := hR 2 (by decide)
    refine Or.inl ⟨rfl, ?_⟩
    show RunM _ _ _ (pf 8) (([2] : List Nat).flatMap pf ++ _) (envOf _ vf [2] ++ _) _ _
    rw [hmu]
    exact zda (sk 99 (congrArg some e2.1) (zad _)) (by simp only [e2.2, fS] <;> rfl) (zdt (R := (fun u_ p_ => (∃ x_ : Int, u_ = .int .i64 x_ ∧ 0 ≤ x_ ∧ x_ < 2) ∧ p_ = curE g a len cap)) rfl rfl (fun L w hX hm => zch g a len cap z 2 _ _ _ hm hb (by constructor <;> omega)))
   intro vf pf hmu hR
   have e3 : (∃ pm_, (pf 3) = [pm_] ∧ (fun u_ p_ => (∃ x_ : Int, u_ = .int .i64 x_ ∧ 0 ≤ x_ ∧ x_ < 2) ∧ p_ = curE g a len cap) (vf 3) pm_) := hR 3 (by decide)
   obtain ⟨p54, pE3, hR55⟩ := e3
   obtain ⟨v53, vE3⟩ : ∃ x, vf 3 = x := ⟨_, rfl⟩
   rw [vE3] at hR55
   obtain ⟨⟨xhR55, rfl, xhR550, xhR551⟩, rfl⟩ := hR55
   refine dqQ [3] [3] rfl (zby (sk 100 (congrArg some vE3) (zad _)) (by simp only [pE3, vE3, fS] <;> rfl) ?_)
   exact zck (zav (z := .int .i64 0) (s := 1) (cs := ([xhR55].map (Value.int .i64))) rfl Try.underlying26 rfl (by decide) rfl (by kernel_rfl) rfl) (fun v_ p_ h => by show IsRow_o 3 1 1 ([(intOf_o (vf 3))].map (Value.int .i64)) v_ p_; rw [vE3]; exact h)
  intro vf pf hmu hR
  have e1 := hR 1 (by decide)
  have e3 : (∃ pm_, (pf 3) = [pm_] ∧ (fun u_ p_ => (∃ x_ : Int, u_ = .int .i64 x_ ∧ 0 ≤ x_ ∧ x_ < 2) ∧ p_ = curE g a len cap) (vf 3) pm_) := hR 3 (by decide)
  obtain ⟨p54, pE3, hR55⟩ := e3
  obtain ⟨v53, vE3⟩ : ∃ x, vf 3 = x := ⟨_, rfl⟩
  rw [vE3] at hR55
  obtain ⟨⟨xhR55, rfl, xhR550, xhR551⟩, rfl⟩ := hR55
  have e4 : IsRow_o 3 1 1 ([(intOf_o (vf 3))].map (Value.int .i64)) (vf 4) (pf 4) := hR 4 (by decide)
  rw [vE3] at e4
  obtain ⟨g56, vE4, pE4⟩ := e4
  have q0 := hR 0 (by decide)
  have q1 := hR 1 (by decide)
  have q2 := hR 2 (by decide)
  refine zcj (zbe [67, 55, 23, 10, 9, 8, 4, 3, 2, 0] _ (sk 98 (congrArg some e1.1) (sk 101 (congrArg some vE4) (zad _))) rfl) (by simp only [pE3, vE3, pE4, vE4, q0.2, q1.2, q2.2, fS] <;> rfl) ?_
  simp only [List.drop_succ_cons, List.drop_zero]
  refine zci (i := 11) (z := .int .i64 0) (bytes := 8) rfl rfl rfl rfl Try.underlying26 (by kernel_rfl) rfl rfl rfl rfl (zag 1 rfl) (zbz _) (by first | omega | (simp; done) | (simp; omega)) (zbx zz.2.2 ([xhR55])) (zco zz.2.2 ([xhR55])) (fun _ => rfl) ?_
  intro v57
  refine hvQ rfl (zaa (k0 := 8) rfl rfl rfl) (zcp (i := 11) rfl (fun ho58 => ?_))
  refine zei (i := 12) (cs' := #[.int .i64 m.ins, m.sv, m.lv, m.ov, ud, v39, v45, v51, v57, .int .i64 xhR8, .int .i64 xhR11]) rfl rfl rfl rfl rfl rfl ho58 rfl rfl rfl rfl (zcf (zcv (reQ 1 rfl (hvQ rfl (vaQ rfl rfl rfl) (enQ 1 rfl ?_)))))
  refine zbj 16 [15, 14, 13, 12, 11, 10, 9, 8, 7, 0, 5, 6] rfl rfl (by decide) ?_
  refine zcr 2 rfl ?_
  refine zbj 11 [10, 9, 8, 7, 1, 6, 5, 4, 3, 2, 0] rfl rfl (by decide) ?_
  exact zbu (k + 1) (ds ++ [(IR.mk ur xs)]) (zz.1 ++ ([xhR43]), zz.2.1 ++ ([xhR49]), zz.2.2 ++ ([xhR55])) ((v39, v45, v51, v57), [bigE yy.2, rowE 3 1 ur xs.length (xs.map (Value.int .i64))]) ⟨by omega, by rw [List.length_append, List.length_singleton]; omega, heo.app (by show xs.length = (m.ss.getD ds.length sq0).xs.length; rw [hel]; omega) hxr, by rw [List.length_append, List.length_singleton]; omega, hz1.app (by omega), by rw [List.length_append, List.length_singleton]; omega, hz2.app (by omega), by rw [List.length_append, List.length_singleton]; omega, hz3.app (by omega), fun w hw => ⟨(hys w (zaz hw List.mem_cons_self)).1, (hys w (zaz hw List.mem_cons_self)).2.app (zbm (zaz hw (List.mem_cons_of_mem _ List.mem_cons_self)))⟩⟩ (by omega) (saQ rfl) (.refl _)
 refine ntQ (zaq rfl ?_)
 refine zbb (zds ?_)
 refine zai (zay (srQ (hvQ rfl (zas (cs := [.int .i64 m.ins, m.sv, m.lv, m.ov, ud, yy.1.1, yy.1.2.1, yy.1.2.2.1, yy.1.2.2.2, .int .i64 xhR8, .int .i64 xhR11]) rfl rfl rfl rfl rfl (zao 7 rfl 0 rfl)) ?_)))
 refine zcp (i := 5) rfl (fun ho59 => ?_)
 refine zcp (i := 4) rfl (fun ho60 => ?_)
 refine zcp (i := 3) rfl (fun ho61 => ?_)
 refine zcp (i := 2) rfl (fun ho62 => ?_)
 refine zcp (i := 1) rfl (fun ho63 => ?_)
 refine zcb (cs' := #[.int .i64 m.ins, m.sv, m.lv, m.ov, ud, yy.1.1, yy.1.2.1, yy.1.2.2.1, yy.1.2.2.2, .int .i64 xhR8, .int .i64 xhR11]) (i := 10) (off := 0) (us := [.int .i64 m.ins, m.sv, m.lv, m.ov, ud, yy.1.1, yy.1.2.1, yy.1.2.2.1, yy.1.2.2.2, .int .i64 xhR8, .int .i64 xhR11]) rfl rfl rfl rfl rfl rfl rfl (zaf rfl (zaf o1m (zaf o2m (zaf o3m (zaf ho63 (zaf ho62 (zaf ho61 (zaf ho60 (zaf ho59 (zaf rfl (zaf rfl zbo))))))))))) rfl (by kernel_rfl) rfl (ntQ ?_)
 refine zaw (zdq (fun w hm => (zag 1 rfl w hm).one) (fun hoD => ?_))
 refine zdq (fun w hm => (zag 2 rfl w hm).one) (fun hoE => ?_)
 refine zdq (fun w hm => (zag 3 rfl w hm).one) (fun hoK => ?_)
 refine zdq (fun w hm => (zag 4 rfl w hm).one) (fun hoA => ?_)
 refine zdq (fun w hm => (zag 5 rfl w hm).one) (fun hoZ => ?_)
 refine zbj 11 [10, 6, 0, 9, 5, 4, 3, 2, 1] rfl rfl (by decide) ?_
 refine zcr 7 rfl ?_
 refine zbj 3 [2, 0, 1] rfl rfl (by decide) ?_
 refine zcr 2 rfl ?_
 exact hq_ret (rs := [.cell 2 45]) (vs := [.agg #[.int .i64 m.ins, m.sv, m.lv, m.ov, ud, yy.1.1, yy.1.2.1, yy.1.2.2.1, yy.1.2.2.2, .int .i64 xhR8, .int .i64 xhR11]]) rfl ⟨⟨b1, 0, [.int .i64 m.ins, m.sv, m.lv, m.ov, ud, yy.1.1, yy.1.2.1, yy.1.2.2.1, yy.1.2.2.2, .int .i64 xhR8, .int .i64 xhR11], rfl, rfl, by kernel_rfl, by kernel_rfl, zao 1 rfl 0 rfl⟩, trivial⟩ rfl (fun w hm => ⟨_, bigE [curE g a len cap, bigE [rowE 26 1 ud dl.length (dl.flatMap irC), rowE 26 1 yy.1.1 ds.length (ds.flatMap irC), rowE 3 1 yy.1.2.1 zz.1.length (zz.1.map (Value.int .i64)), rowE 3 1 yy.1.2.2.1 zz.2.1.length (zz.2.1.map (Value.int .i64)), rowE 3 1 yy.1.2.2.2 zz.2.2.length (zz.2.2.map (Value.int .i64)), bigE ps, bigE yy.2]], rfl, ⟨_, (Td.mk m ud dl yy.1.1 ds yy.1.2.1 zz.1 yy.1.2.2.1 zz.2.1 yy.1.2.2.2 zz.2.2 xhR8 xhR11), rfl, rfl, fun w hw => ⟨hps w (zaz hw (List.mem_cons_of_mem _ (List.mem_cons_of_mem _ (List.mem_cons_of_mem _ (List.mem_cons_of_mem _ (List.mem_cons_of_mem _ List.mem_cons_self)))))), ⟨zbm (zaz hw List.mem_cons_self), (hys w (zaz hw (List.mem_cons_of_mem _ (List.mem_cons_of_mem _ (List.mem_cons_of_mem _ (List.mem_cons_of_mem _ (List.mem_cons_of_mem _ (List.mem_cons_of_mem _ List.mem_cons_self)))))))).1⟩, ⟨zbm (zaz hw (List.mem_cons_of_mem _ List.mem_cons_self)), (hys w (zaz hw (List.mem_cons_of_mem _ (List.mem_cons_of_mem _ (List.mem_cons_of_mem _ (List.mem_cons_of_mem _ (List.mem_cons_of_mem _ (List.mem_cons_of_mem _ List.mem_cons_self)))))))).2⟩, zbm (zaz hw (List.mem_cons_of_mem _ (List.mem_cons_of_mem _ List.mem_cons_self))), zbm (zaz hw (List.mem_cons_of_mem _ (List.mem_cons_of_mem _ (List.mem_cons_of_mem _ List.mem_cons_self)))), zbm (zaz hw (List.mem_cons_of_mem _ (List.mem_cons_of_mem _ (List.mem_cons_of_mem _ (List.mem_cons_of_mem _ List.mem_cons_self)))))⟩, ⟨o1m, o2m, o3m, hoD, hoE, hoK, hoA, hoZ⟩, ⟨hok, st_small (n := m) (st := zz.2.1) (by omega) hz2, st_small (n := m) (st := zz.2.2) (by omega) hz3, ⟨by show (zz.1.length : Int) = m.ss.length; omega, hz1⟩, by show dl.length = m.ls.length; omega, fun i2 hi2 => hdo i2 (by have : i2 < m.ls.length := hi2; omega), by show ds.length = m.ss.length; omega, fun i2 hi2 => heo i2 (by have : i2 < m.ss.length := hi2; omega)⟩⟩, hm.sub (.cons_cons _ (.cons _ (.refl _)))⟩)
open Go.RowKit
theorem wav_len {x : Td} (h : TdOk x) : (wavR x 60).length = x.n.cnt.toNat := by rw [wavR_ok h (by omega)]; exact wvs_len _ _ _
theorem wav_row {x : Td} (h : TdOk x) {k : Nat} (hk : k < x.n.cnt.toNat) : ((wavR x 60).getD k []).length = 61 := by rw [wavR_ok h (by omega), show (60 : Int).toNat = 60 from rfl]; exact wvs_rl x 60 hk
theorem set_len {x : Td} (h : TdOk x) : (setR x).length = x.n.cnt.toNat := by rw [setR_ok h]; simp [setL]
theorem set_bnd {x : Td} (h : TdOk x) {k : Nat} (hk : k < x.n.cnt.toNat) : 0 ≤ (setR x).getD k 0 ∧ (setR x).getD k 0 ≤ 100000 := by rw [setR_ok h, ← settle_eq h]; exact o_bnd h (by omega) hk
theorem es_len {es : List IR} {ws : List (List Int)} (h : es.map IR.xs = ws) : es.length = ws.length := by rw [← h]; simp
theorem es_at {es : List IR} {ws : List (List Int)} (h : es.map IR.xs = ws) {k : Nat} (hk : k < es.length) : (es.getD k ir0).xs = ws.getD k [] := by rw [← h]; simp [hk]
theorem td_cnt {x : Td} (h : TdOk x) : x.n.cnt = 1 + x.n.ins + x.n.ss.length + x.n.ls.length ∧ (0 ≤ x.n.ins ∧ x.n.ins ≤ 20) ∧ x.n.ss.length ≤ 12 ∧ x.n.ls.length ≤ 400 := ⟨rfl, h.n.sz.i, h.n.sz.s, h.n.sz.l⟩
theorem put11 (a0 a1 a2 a3 a4 a5 a6 a7 a8 a9 a10 u0 u1 u2 u3 u4 u5 u6 u7 u8 u9 u10 : Value) : putN #[a0, a1, a2, a3, a4, a5, a6, a7, a8, a9, a10] 0 [u0, u1, u2, u3, u4, u5, u6, u7, u8, u9, u10] = #[u0, u1, u2, u3, u4, u5, u6, u7, u8, u9, u10] := by kernel_rfl
set_option maxHeartbeats 4000000 in
set_option maxRecDepth 100000 in
theorem DrawTimed_ret (a : Option Addr) (len cap : Nat) (z : List Int) (w : World) (hb : BRow .u8 w a len cap z) (hlen : len ≤ 1048576) :
   Calls Try.prog 16 #[.slice a len cap] w (Ret w (fun u_ p_ => ∃ (ps : List HP) (x : Td) (pd : Int), u_ = .tuple #[x.agg, .int .i64 pd] ∧ p_ = [bigE ps] ∧ (∀ w, (bigE ps).holds w → RdsTd w x) ∧ TdOnes x ∧ TdOk x ∧ 1 ≤ pd ∧ pd ≤ 40)) := by
 refine zbh (N := 14) (args := [.slice a len cap]) Try.func16 rfl rfl (srQ ?_)
 refine zef rfl (zbw (z := .agg #[.int .i64 0, .slice none 0 0, .slice none 0 0, .slice none 0 0, .slice none 0 0, .slice none 0 0, .slice none 0 0, .slice none 0 0, .slice none 0 0, .int .i64 0, .int .i64 0]) rfl rfl) ?_
 intro b1
 refine zbc 1 rfl (zac (reQ 1 rfl ?_))
 refine hl_q rfl rfl rfl (zap rfl rfl (fun w hm => new_ret (hb.below hm.bel) hlen)) ?_
 intro v2 p3 hR4
 obtain ⟨ghR4, rfl, rfl⟩ := hR4
 refine zbc 1 rfl (zac (reQ 1 rfl ?_))
 refine zdd (R := (fun u_ p_ => ∃ (ps : List HP) (x : Td), u_ = x.agg ∧ p_ = bigE [curE ghR4 a len cap, bigE ps] ∧ (∀ w, (bigE ps).holds w → RdsTd w x) ∧ TdOnes x ∧ TdOk x)) 0 rfl rfl rfl rfl rfl (fun l' w hm => l37Timed_mut ghR4 a len cap z _ _ _ hm hb) ?_
 intro v5 p6 hR7
 obtain ⟨ps, x, rfl, rfl, hps, h1s, hok⟩ := hR7
 refine zee (l' := [bigE [curE ghR4 a len cap, bigE ps], boxE b1 #[.int .i64 0, .slice none 0 0, .slice none 0 0, .slice none 0 0, .slice none 0 0, .slice none 0 0, .slice none 0 0, .slice none 0 0, .slice none 0 0, .int .i64 0, .int .i64 0] 45]) rfl ?_
 refine zge 2 [1, 0] rfl rfl (by decide) ?_
 refine zfz [curE ghR4 a len cap, bigE ps, boxE b1 #[.int .i64 0, .slice none 0 0, .slice none 0 0, .slice none 0 0, .slice none 0 0, .slice none 0 0, .slice none 0 0, .slice none 0 0, .slice none 0 0, .int .i64 0, .int .i64 0] 45] zfv ?_
 refine zef rfl (zbw (z := .agg #[.int .i64 0, .slice none 0 0, .slice none 0 0, .slice none 0 0, .slice none 0 0, .slice none 0 0, .slice none 0 0, .slice none 0 0, .slice none 0 0, .int .i64 0, .int .i64 0]) rfl rfl) ?_
 intro b8
 refine zcb (cs' := #[.int .i64 x.n.ins, x.n.sv, x.n.lv, x.n.ov, x.pv, x.qv, x.kv, x.av, x.bv, .int .i64 x.oi, .int .i64 x.ni]) (i := 0) (off := 0) (us := [.int .i64 x.n.ins, x.n.sv, x.n.lv, x.n.ov, x.pv, x.qv, x.kv, x.av, x.bv, .int .i64 x.oi, .int .i64 x.ni]) rfl rfl rfl rfl rfl rfl rfl (zaf rfl (zaf h1s.sv (zaf h1s.lv (zaf h1s.ov (zaf h1s.pv (zaf h1s.qv (zaf h1s.kv (zaf h1s.av (zaf h1s.bv (zaf rfl (zaf rfl zbo))))))))))) rfl (by kernel_rfl) rfl (ntQ (zac ?_))
 refine zfd 4 [2, 0, 3, 1] rfl rfl (by decide) ?_
 refine hc_draw4 (l := [boxE b8 #[.int .i64 x.n.ins, x.n.sv, x.n.lv, x.n.ov, x.pv, x.qv, x.kv, x.av, x.bv, .int .i64 x.oi, .int .i64 x.ni] 45, bigE ps]) rfl 5 [0, 1, 2, 3, 4] (List.take 5 _) (List.drop 5 _) [[], [], [1], [2], [0]] [some 10, some 11, some 12, some 13, none] (fun i_ vs_ v_ p_ => match i_ with | 0 => v_ = .agg #[.int .i64 x.n.ins, x.n.sv, x.n.lv, x.n.ov, x.pv, x.qv, x.kv, x.av, x.bv, .int .i64 x.oi, .int .i64 x.ni] ∧ p_ = [] | 1 => v_ = .pointer (some ⟨ghR4, 0, none⟩) ∧ p_ = [] | 2 => (∃ pm_, p_ = [pm_] ∧ (fun u_ p_ => (∃ x_ : Int, u_ = .int .i64 x_ ∧ 0 ≤ x_ ∧ x_ < 40) ∧ p_ = curE ghR4 a len cap) v_ pm_) | 3 => v_ = .int .i64 (1 + (intOf_o (List.getD vs_ 0 undef))) ∧ p_ = [] | 4 => p_ = [boxE b1 #[.int .i64 x.n.ins, x.n.sv, x.n.lv, x.n.ov, x.pv, x.qv, x.kv, x.av, x.bv, .int .i64 x.oi, .int .i64 x.ni] 45] | _ => True) [[], [], [1], [2], [0]] [none, none, some 6, none, some 7] [[curE ghR4 a len cap], [boxE b1 #[.int .i64 0, .slice none 0 0, .slice none 0 0, .slice none 0 0, .slice none 0 0, .slice none 0 0, .slice none 0 0, .slice none 0 0, .slice none 0 0, .int .i64 0, .int .i64 0] 45]] [0, 1, 2, 3, 4] 6 (List.take_append_drop 5 _).symm (by kernel_rfl) (by kernel_rfl) (by kernel_rfl) rfl rfl ?_ ?_
 ·
  refine ⟨?_, ?_, ?_, ?_, ?_, trivial⟩
  ·
   intro vf pf hmu hR
   refine zea [] [] rfl (zbq (zal [5] rfl) (List.sublist_append_right _ _) ?_)
   exact zbd (zas (cs := [.int .i64 x.n.ins, x.n.sv, x.n.lv, x.n.ov, x.pv, x.qv, x.kv, x.av, x.bv, .int .i64 x.oi, .int .i64 x.ni]) rfl rfl rfl rfl rfl (zao 0 rfl 0 rfl))
  ·
   intro vf pf hmu hR
   refine zea [] [] rfl (zbr (zal [4] rfl) ?_)
   exact zbd (zah rfl)
  ·
   intro vf pf hmu hR
   have e1 := hR 1 (by decide)
   refine Or.inl ⟨rfl, ?_⟩
   show RunM _ _ _ (pf 6) (([1] : List Nat).flatMap pf ++ _) (envOf3 _ vf [1] ++ _) _ _
   have hmu0 : pf 6 = [curE ghR4 a len cap] := hmu 0 (show 0 < 2 by omega)
   rw [hmu0]
   exact zda (sk 11 (congrArg some e1.1) (zad _)) (by simp only [e1.2, fS] <;> rfl) (zdt (R := (fun u_ p_ => (∃ x_ : Int, u_ = .int .i64 x_ ∧ 0 ≤ x_ ∧ x_ < 40) ∧ p_ = curE ghR4 a len cap)) rfl rfl (fun L w hX hm => zch ghR4 a len cap z 40 _ _ _ hm hb (by constructor <;> omega)))
  ·
   intro vf pf hmu hR
   have e2 : (∃ pm_, (pf 2) = [pm_] ∧ (fun u_ p_ => (∃ x_ : Int, u_ = .int .i64 x_ ∧ 0 ≤ x_ ∧ x_ < 40) ∧ p_ = curE ghR4 a len cap) (vf 2) pm_) := hR 2 (by decide)
   obtain ⟨p10, pE2, hR11⟩ := e2
   obtain ⟨v9, vE2⟩ : ∃ x, vf 2 = x := ⟨_, rfl⟩
   rw [vE2] at hR11
   obtain ⟨⟨xhR11, rfl, xhR110, xhR111⟩, rfl⟩ := hR11
   refine zea [2] [2] rfl (zby (sk 12 (congrArg some vE2) (zad _)) (by simp only [pE2, vE2, fS] <;> rfl) ?_)
   exact zck (zbd (vaQ rfl rfl rfl)) (fun _ _ h => ⟨h.1.trans (by show _ = (.int .i64 (1 + (intOf_o (vf 2))) : Value); first | (rw [vE2]; done) | (rw [vE2]; rfl)), h.2⟩)
  intro vf pf hmu hR
  have e0 := hR 0 (by decide)
  refine Or.inl ⟨rfl, ?_⟩
  show RunM _ _ _ (pf 7) (([0] : List Nat).flatMap pf ++ _) (envOf3 _ vf [0] ++ _) _ _
  have hmu1 : pf 7 = [boxE b1 #[.int .i64 0, .slice none 0 0, .slice none 0 0, .slice none 0 0, .slice none 0 0, .slice none 0 0, .slice none 0 0, .slice none 0 0, .slice none 0 0, .int .i64 0, .int .i64 0] 45] := hmu 1 (show 1 < 2 by omega)
  rw [hmu1]
  exact zda (sk 2 rfl (sk 10 (congrArg some e0.1) (zad _))) (by simp only [e0.2, fS] <;> rfl) (rm_mono (zga (us := [.int .i64 x.n.ins, x.n.sv, x.n.lv, x.n.ov, x.pv, x.qv, x.kv, x.av, x.bv, .int .i64 x.oi, .int .i64 x.ni]) (off := 0) 0 rfl rfl rfl rfl rfl rfl (zaf rfl (zaf h1s.sv (zaf h1s.lv (zaf h1s.ov (zaf h1s.pv (zaf h1s.qv (zaf h1s.kv (zaf h1s.av (zaf h1s.bv (zaf rfl (zaf rfl zbo))))))))))) rfl rfl) (fun v_ p_ h => h.trans (congrArg (fun c => [boxE b1 c 45]) (put11 _ _ _ _ _ _ _ _ _ _ _ _ _ _ _ _ _ _ _ _ _ _ ))))
 intro vf pf hmu hR
 have e2 : (∃ pm_, (pf 2) = [pm_] ∧ (fun u_ p_ => (∃ x_ : Int, u_ = .int .i64 x_ ∧ 0 ≤ x_ ∧ x_ < 40) ∧ p_ = curE ghR4 a len cap) (vf 2) pm_) := hR 2 (by decide)
 obtain ⟨p10, pE2, hR11⟩ := e2
 obtain ⟨v9, vE2⟩ : ∃ x, vf 2 = x := ⟨_, rfl⟩
 rw [vE2] at hR11
 obtain ⟨⟨xhR11, rfl, xhR110, xhR111⟩, rfl⟩ := hR11
 have e3 : (vf 3) = .int .i64 (1 + (intOf_o (vf 2))) ∧ (pf 3) = [] := hR 3 (by decide)
 rw [vE2] at e3
 have e4 : (pf 4) = [boxE b1 #[.int .i64 x.n.ins, x.n.sv, x.n.lv, x.n.ov, x.pv, x.qv, x.kv, x.av, x.bv, .int .i64 x.oi, .int .i64 x.ni] 45] := hR 4 (by decide)
 have pE4 := e4
 have q0 := hR 0 (by decide)
 have q1 := hR 1 (by decide)
 have q3 := hR 3 (by decide)
 refine zcj (zbe [5, 4, 3, 2, 0] _ (sk 13 (congrArg some e3.1) (zad _)) rfl) (by simp only [pE2, vE2, pE4, q0.2, q1.2, q3.2, fS] <;> rfl) ?_
 simp only [List.drop_succ_cons, List.drop_zero]
 refine zbc 1 rfl ?_
 exact zaw (zdm (rs := [.cell 2 45, .tmp 3]) (vs := [.agg #[.int .i64 x.n.ins, x.n.sv, x.n.lv, x.n.ov, x.pv, x.qv, x.kv, x.av, x.bv, .int .i64 x.oi, .int .i64 x.ni], .int .i64 (1 + xhR11)]) (post := [bigE ps]) rfl ⟨⟨b1, 0, [.int .i64 x.n.ins, x.n.sv, x.n.lv, x.n.ov, x.pv, x.qv, x.kv, x.av, x.bv, .int .i64 x.oi, .int .i64 x.ni], rfl, rfl, by kernel_rfl, by kernel_rfl, zao 1 rfl 0 rfl⟩, rfl, trivial⟩ rfl (.cons _ (.cons _ (.cons _ (pfQ rfl)))) ⟨ps, x, _, rfl, rfl, hps, h1s, hok, by omega, by omega⟩)
set_option maxHeartbeats 4000000 in
set_option maxRecDepth 100000 in
theorem walk_FnSettles (a0 : Option Addr) (len0 cap0 : Nat) (z0 : List Int) (w : World) (hbr : BRow .u8 w a0 len0 cap0 z0) :
   Calls Try.prog 4 #[.slice a0 len0 cap0] w (Ans w (.bool true)) := by
 refine zbh (N := 75) (args := [.slice a0 len0 cap0]) Try.func4 rfl rfl (zba 1 rfl (zac (zac (reQ 1 rfl ?_))))
 refine zdn rfl (zap rfl rfl (fun w hm => zau (ans_of (big_any a0 len0 cap0 w (hbr.len_le))))) (zbl (fun h1 => ?_) (fun h1 => ?_))
 ·
  have h1p := of_decide_eq_true h1
  refine ntQ (zan rfl (zba 1 rfl ?_))
  refine zaw (zam ?_)
  exact zbf rfl rfl rfl
 have h1p := of_decide_eq_false h1
 refine ntQ (zaq rfl (zcq (zac (reQ 1 rfl ?_))))
 refine hl_q rfl rfl rfl (zap rfl rfl (fun w hm => DrawTimed_ret _ _ _ z0 w (hbr.below hm.bel) (by omega))) ?_
 intro v2 p3 hR4
 obtain ⟨ps, x, pd, rfl, rfl, hps, h1s, hok, hpd1, hpd2⟩ := hR4
 obtain ⟨hcnt, ⟨hi0, hi1⟩, hs2, hl2⟩ := td_cnt hok
 refine zar 3 rfl (zef rfl (zbw (z := .agg #[.int .i64 0, .slice none 0 0, .slice none 0 0, .slice none 0 0, .slice none 0 0, .slice none 0 0, .slice none 0 0, .slice none 0 0, .slice none 0 0, .int .i64 0, .int .i64 0]) rfl rfl) ?_)
 intro b5
 refine zcb (cs' := #[.int .i64 x.n.ins, x.n.sv, x.n.lv, x.n.ov, x.pv, x.qv, x.kv, x.av, x.bv, .int .i64 x.oi, .int .i64 x.ni]) (i := 0) (off := 0) (us := [.int .i64 x.n.ins, x.n.sv, x.n.lv, x.n.ov, x.pv, x.qv, x.kv, x.av, x.bv, .int .i64 x.oi, .int .i64 x.ni]) rfl rfl rfl rfl rfl rfl rfl (zaf rfl (zaf h1s.sv (zaf h1s.lv (zaf h1s.ov (zaf h1s.pv (zaf h1s.qv (zaf h1s.kv (zaf h1s.av (zaf h1s.bv (zaf rfl (zaf rfl zbo))))))))))) rfl (by kernel_rfl) rfl (zbc 1 rfl (srQ (hvQ rfl (zaa (k0 := 0) rfl rfl rfl) (hvQ rfl (zas (cs := [.int .i64 x.n.ins, x.n.sv, x.n.lv, x.n.ov]) rfl rfl rfl rfl rfl (zao 0 rfl 0 rfl)) (hvQ rfl (zaa (k0 := 8) rfl rfl rfl) (hvQ rfl (zaj rfl rfl rfl (zae 0 rfl rfl)) (hvQ rfl (zaa (k0 := 10) rfl rfl rfl) (hvQ rfl (zaj rfl rfl rfl (zae 0 rfl rfl)) ?_))))))))
 refine hl_q rfl rfl rfl (zap rfl rfl (fun w hm => specLutValues_ret x.n x.bs _ x.ni w (hps w (hm.holds _ (zcg (i := 1) rfl))).n (hps w (hm.holds _ (zcg (i := 1) rfl))).bs hok.n hok.b)) ?_
 intro v6 p7 hR8
 subst hR8
 refine zbc 1 rfl (srQ (hvQ rfl (zas (cs := [.int .i64 x.n.ins, x.n.sv, x.n.lv, x.n.ov, x.pv, x.qv, x.kv, x.av, x.bv, .int .i64 x.oi, .int .i64 x.ni]) rfl rfl rfl rfl rfl (zao 1 rfl 0 rfl)) ?_))
 refine hl_q rfl rfl rfl (zap rfl rfl (fun w hm => implSettleTimes_ret x w (hps w (hm.holds _ (zcg (i := 2) rfl))))) ?_
 intro v9 p10 hR11
 subst hR11
 refine zbc 1 rfl (srQ (hvQ rfl (zas (cs := [.int .i64 x.n.ins, x.n.sv, x.n.lv, x.n.ov, x.pv, x.qv, x.kv, x.av, x.bv, .int .i64 x.oi, .int .i64 x.ni]) rfl rfl rfl rfl rfl (zao 2 rfl 0 rfl)) ?_))
 refine hl_q rfl rfl rfl (zap rfl rfl (fun w hm => implWaveforms_ret x 60 w (hps w (hm.holds _ (zcg (i := 3) rfl))))) ?_
 intro v12 p13 hR14
 obtain ⟨es, rfl, hes⟩ := hR14
 have hesl := es_len hes
 rw [wav_len hok] at hesl
 refine zbc 1 rfl (zgg ?_)
 have hvl := vt_len hok.n hok.b x.ni
 have hvl2 : ((nvX x).length : Int) = x.n.cnt := hvl
 have hsl := set_len hok
 refine zar 1 rfl (hvQ rfl (lnQ rfl rfl rfl (zag 1 rfl)) (zar 1 rfl (hvQ rfl (lnQ rfl rfl rfl (zag 2 rfl)) ?_)))
 refine zgc rfl rfl rfl rfl rfl rfl (fun h15 => ?_) (fun h15 => ?_)
 ·
  refine zbc 7 rfl (zan rfl (zac (reQ 1 rfl (?_))))
  refine ntQ ?_
  refine zaw (zam ?_)
  exfalso
  omega
 refine zar 2 rfl (hvQ rfl (lnQ rfl rfl rfl (fun w hm => (zfp (f := irC) (s := 1) (iv := IR.v) (xs := IR.xs) (rs := es) (v := v12) 0 rfl w hm).row)) ?_)
 refine zar 1 rfl (hvQ rfl (lnQ rfl rfl rfl (zag 2 rfl)) ?_)
 refine zgc rfl rfl rfl rfl rfl rfl (fun h16 => ?_) (fun h16 => ?_)
 ·
  refine zbc 1 rfl (zan rfl (zba 1 rfl ?_))
  refine zaw (zam ?_)
  exfalso
  omega
 refine zbc 1 rfl (zaq rfl (zcq (zac (zba 1 rfl ?_))))
 refine zax ?_
 refine hc_loop1 (α := Nat) (fun k => [irsE v12 es, rowE 3 1 v9 ((setR x).length) ((setR x).map (Value.int .i64)), rowE 3 1 v6 ((nvX x).length) ((nvX x).map (Value.int .i64)), boxE b5 #[.int .i64 x.n.ins, x.n.sv, x.n.lv, x.n.ov, x.pv, x.qv, x.kv, x.av, x.bv, .int .i64 x.oi, .int .i64 x.ni] 45, bigE ps]) (fun k => [(0, .slice a0 len0 cap0), (2, .bool false), (3, .pointer (some ⟨b5, 0, none⟩)), (5, v6), (6, v9), (7, v12), (8, .int .i64 (k : Int)), (11, .bool false), (39, .bool false)]) (fun k => k ≤ x.n.cnt.toNat) (fun k => x.n.cnt.toNat - k) 0 (Nat.zero_le _) (saQ rfl) (.cons_cons _ (.cons_cons _ (.cons_cons _ (.cons_cons _ (pfQ rfl))))) ?_
 intro k hi17
 have hk := hi17
 refine zac (zac (reQ 2 rfl (hvQ rfl (lnQ rfl rfl rfl (zag 2 rfl)) ?_)))
 refine zbn rfl rfl rfl rfl rfl rfl (fun h18 => ?_) (fun h18 => ?_)
 ·
  refine ntQ (zan rfl (zcq (sbQ (zgg ?_))))
  have hwr : (es.getD k ir0).xs.length = 61 := by rw [es_at hes (by omega)]; exact wav_row hok (by omega)
  refine zar 2 rfl (hvQ rfl (riQ 1 rfl rfl rfl rfl (fun w hm => (zfp (f := irC) (s := 1) (iv := IR.v) (xs := IR.xs) (rs := es) (v := v12) 0 rfl w hm).row)) ?_)
  refine hvQ rfl (zat (u := (es.getD k ir0).v) rfl rfl rfl (fun w hm => (zfp (f := irC) (s := 1) (iv := IR.v) (xs := IR.xs) (rs := es) (v := v12) 0 rfl w hm).row) (zbk irC (fun r => r.v) (fun _ => rfl) es ir0 (show k < _ by omega))) (hvQ rfl (lnQ rfl rfl rfl (fun w hm => (zfp (f := irC) (s := 1) (iv := IR.v) (xs := IR.xs) (rs := es) (v := v12) 0 rfl w hm).at (d := ir0) (k := k) (by omega))) ?_)
  refine zgc rfl rfl rfl rfl rfl rfl (fun h19 => ?_) (fun h19 => ?_)
  ·
   refine ntQ (zan rfl (zba 1 rfl ?_))
   refine zaw (zam ?_)
   refine zak (zfn ?_)
   refine zak (zam ?_)
   exfalso
   omega
  refine ntQ (zaq rfl (zcq (srQ ?_)))
  have hsb := set_bnd hok (k := k) (by omega)
  refine zar 2 rfl (hvQ rfl (riQ 1 rfl rfl rfl rfl (zag 1 rfl)) (hvQ rfl (zat (u := .int .i64 ((setR x).getD k 0)) rfl rfl rfl (zag 1 rfl) (zdk (show _ < (setR x).length by omega))) (hvQ rfl (rv_max rfl rfl rfl) (zbc 1 rfl (zax ?_)))))
  refine hc_loop1 (α := Nat) (fun t => [irsE v12 es, rowE 3 1 v9 ((setR x).length) ((setR x).map (Value.int .i64)), rowE 3 1 v6 ((nvX x).length) ((nvX x).map (Value.int .i64)), boxE b5 #[.int .i64 x.n.ins, x.n.sv, x.n.lv, x.n.ov, x.pv, x.qv, x.kv, x.av, x.bv, .int .i64 x.oi, .int .i64 x.ni] 45, bigE ps]) (fun t => [(0, .slice a0 len0 cap0), (2, .bool false), (3, .pointer (some ⟨b5, 0, none⟩)), (5, v6), (6, v9), (7, v12), (8, .int .i64 (k : Int)), (9, .int .i64 (t : Int)), (11, .bool false), (39, .bool false), (43, .bool true), (51, .bool false)]) (fun t => (setR x).getD k 0 ≤ (t : Int) ∧ t ≤ 100000) (fun t => 61 - t) ((setR x).getD k 0).toNat ⟨by omega, by omega⟩ (zbe [8, 7, 6, 5, 3, 2, 0] _ (sk 9 (congrArg (fun q => some (Value.int .i64 q)) (by split <;> omega)) (zal [51, 43, 39, 11] rfl)) rfl) (.cons_cons _ (.cons_cons _ (.cons_cons _ (.cons_cons _ (pfQ rfl))))) ?_
  intro t hi20
  obtain ⟨ht, ht9⟩ := hi20
  refine zac (zac (reQ 1 rfl ?_))
  refine hl_leq rfl rfl rfl rfl rfl rfl (fun h21 => ?_) (fun h21 => ?_)
  ·
   refine ntQ (zan rfl (zcq (sbQ (zac ?_))))
   have hset : (es.getD k ir0).xs.getD t 0 = (nvX x).getD k 0 := by have h9 := (settles hok (hz := 60) (k := k) (t := t) (by omega) (by omega) ht).resolve_right (fun h9 => h9 (by omega)); rw [show ((60 : Nat) : Int) = 60 from rfl] at h9; rw [es_at hes (by omega)]; exact h9
   rcases Bool.eq_false_or_eq_true ((((es.getD k ir0).xs).getD t 0) != ((nvX x).getD k 0)) with hb22 | hb22
   ·
    have hb22p : ((es.getD k ir0).xs).getD t 0 ≠ (nvX x).getD k 0 := bne_iff_ne.1 hb22
    have hset : (es.getD k ir0).xs.getD t 0 = (nvX x).getD k 0 := by have h9 := (settles hok (hz := 60) (k := k) (t := t) (by omega) (by omega) ht).resolve_right (fun h9 => h9 (by omega)); rw [show ((60 : Nat) : Int) = 60 from rfl] at h9; rw [es_at hes (by omega)]; exact h9
    refine zbi 12 [[], [], [0, 1], [2], [], [3, 4], [5], [], [], [7, 8], [9], [6, 10]] [61, 62, 63, 64, 65, 66, 67, 68, 69, 70, 71, 72] [v12, .int .i64 (k : Int), elP v12 (((k : Int)).toNat * 1), (es.getD k ir0).v, .int .i64 (t : Int), elP ((es.getD k ir0).v) (((t : Int)).toNat * 1), .int .i64 (((es.getD k ir0).xs).getD t 0), v6, .int .i64 (k : Int), elP v6 (((k : Int)).toNat * 1), .int .i64 ((nvX x).getD k 0), .bool true] (by kernel_rfl) rfl ?_ ?_
    ·
     exact ⟨iaQ rfl (zah rfl) rfl, iaQ rfl (zah rfl) rfl, iaQ rfl (riQ 1 rfl rfl rfl rfl (fun w hm => (zfp (f := irC) (s := 1) (iv := IR.v) (xs := IR.xs) (rs := es) (v := v12) 0 rfl w hm).row)) rfl, iaQ rfl (zat (u := (es.getD k ir0).v) rfl rfl rfl (fun w hm => (zfp (f := irC) (s := 1) (iv := IR.v) (xs := IR.xs) (rs := es) (v := v12) 0 rfl w hm).row) (zbk irC (fun r => r.v) (fun _ => rfl) es ir0 (show k < _ by omega))) rfl, iaQ rfl (zah rfl) rfl, iaQ rfl (riQ 1 rfl rfl rfl rfl (fun w hm => (zfp (f := irC) (s := 1) (iv := IR.v) (xs := IR.xs) (rs := es) (v := v12) 0 rfl w hm).at (d := ir0) (k := k) (by omega))) rfl, iaQ rfl (zat (u := .int .i64 (((es.getD k ir0).xs).getD t 0)) rfl rfl rfl (fun w hm => (zfp (f := irC) (s := 1) (iv := IR.v) (xs := IR.xs) (rs := es) (v := v12) 0 rfl w hm).at (d := ir0) (k := k) (by omega)) (zdk (show _ < ((es.getD k ir0).xs).length by omega))) rfl, iaQ rfl (zah rfl) rfl, iaQ rfl (zah rfl) rfl, iaQ rfl (riQ 1 rfl rfl rfl rfl (zag 2 rfl)) rfl, iaQ rfl (zat (u := .int .i64 ((nvX x).getD k 0)) rfl rfl rfl (zag 2 rfl) (zdk (show _ < (nvX x).length by omega))) rfl, .inl ⟨rfl, zcw (zcc rfl rfl rfl rfl) hb22⟩, trivial⟩
    simp only [List.drop_succ_cons, List.drop_zero]
    refine ntQ (zan rfl (zba 1 rfl ?_))
    refine zaw (zak ?_)
    refine zfn ?_
    refine zak (zak ?_)
    refine zfn ?_
    refine zak (zam ?_)
    exfalso
    omega
   have hb22p : ((es.getD k ir0).xs).getD t 0 = (nvX x).getD k 0 := (bne_eq_false_iff_eq.1 hb22)
   have hset : (es.getD k ir0).xs.getD t 0 = (nvX x).getD k 0 := by have h9 := (settles hok (hz := 60) (k := k) (t := t) (by omega) (by omega) ht).resolve_right (fun h9 => h9 (by omega)); rw [show ((60 : Nat) : Int) = 60 from rfl] at h9; rw [es_at hes (by omega)]; exact h9
   refine zbi 12 [[], [], [0, 1], [2], [], [3, 4], [5], [], [], [7, 8], [9], [6, 10]] [61, 62, 63, 64, 65, 66, 67, 68, 69, 70, 71, 72] [v12, .int .i64 (k : Int), elP v12 (((k : Int)).toNat * 1), (es.getD k ir0).v, .int .i64 (t : Int), elP ((es.getD k ir0).v) (((t : Int)).toNat * 1), .int .i64 (((es.getD k ir0).xs).getD t 0), v6, .int .i64 (k : Int), elP v6 (((k : Int)).toNat * 1), .int .i64 ((nvX x).getD k 0), .bool false] (by kernel_rfl) rfl ?_ ?_
   ·
    exact ⟨iaQ rfl (zah rfl) rfl, iaQ rfl (zah rfl) rfl, iaQ rfl (riQ 1 rfl rfl rfl rfl (fun w hm => (zfp (f := irC) (s := 1) (iv := IR.v) (xs := IR.xs) (rs := es) (v := v12) 0 rfl w hm).row)) rfl, iaQ rfl (zat (u := (es.getD k ir0).v) rfl rfl rfl (fun w hm => (zfp (f := irC) (s := 1) (iv := IR.v) (xs := IR.xs) (rs := es) (v := v12) 0 rfl w hm).row) (zbk irC (fun r => r.v) (fun _ => rfl) es ir0 (show k < _ by omega))) rfl, iaQ rfl (zah rfl) rfl, iaQ rfl (riQ 1 rfl rfl rfl rfl (fun w hm => (zfp (f := irC) (s := 1) (iv := IR.v) (xs := IR.xs) (rs := es) (v := v12) 0 rfl w hm).at (d := ir0) (k := k) (by omega))) rfl, iaQ rfl (zat (u := .int .i64 (((es.getD k ir0).xs).getD t 0)) rfl rfl rfl (fun w hm => (zfp (f := irC) (s := 1) (iv := IR.v) (xs := IR.xs) (rs := es) (v := v12) 0 rfl w hm).at (d := ir0) (k := k) (by omega)) (zdk (show _ < ((es.getD k ir0).xs).length by omega))) rfl, iaQ rfl (zah rfl) rfl, iaQ rfl (zah rfl) rfl, iaQ rfl (riQ 1 rfl rfl rfl rfl (zag 2 rfl)) rfl, iaQ rfl (zat (u := .int .i64 ((nvX x).getD k 0)) rfl rfl rfl (zag 2 rfl) (zdk (show _ < (nvX x).length by omega))) rfl, .inl ⟨rfl, zcw (zcc rfl rfl rfl rfl) hb22⟩, trivial⟩
   simp only [List.drop_succ_cons, List.drop_zero]
   refine ntQ (fsQ rfl (zcv (reQ 1 rfl (hvQ rfl (vaQ rfl rfl rfl) (enQ 1 rfl ?_)))))
   exact zcm (t + 1) ⟨by omega, by omega⟩ (by omega) (saQ rfl) (.cons_cons _ (.cons_cons _ (.cons_cons _ (.cons_cons _ (pfQ rfl)))))
  refine ntQ (zaq rfl ?_)
  refine zbb (zds ?_)
  refine zai (zcv (reQ 1 rfl (hvQ rfl (vaQ rfl rfl rfl) (enQ 1 rfl ?_))))
  exact zcm (k + 1) (by omega) (by omega) (saQ rfl) (.cons_cons _ (.cons_cons _ (.cons_cons _ (.cons_cons _ (pfQ rfl)))))
 refine ntQ (zaq rfl ?_)
 refine zbb (zds ?_)
 refine zai (zay (srQ (hvQ rfl (zas (cs := [.int .i64 x.n.ins, x.n.sv, x.n.lv, x.n.ov, x.pv, x.qv, x.kv, x.av, x.bv, .int .i64 x.oi, .int .i64 x.ni]) rfl rfl rfl rfl rfl (zao 3 rfl 0 rfl)) ?_)))
 refine zdn rfl (zap rfl rfl (fun w hm => zau (by have h9 := zfx x w (hps w (hm.holds _ (zcg (i := 4) rfl))); rw [zet hok] at h9; exact h9))) (zbc 1 rfl ?_)
 exact zaw (zbf rfl rfl rfl)
end Go.Proofs.Ytakjndmlanpadaa
