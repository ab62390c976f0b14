/- Texts of the law FnSetup, part 6: what it uses. -/
import Derived.Test.YtakjndmlanpadaaStp5
set_option linter.unusedVariables false
set_option linter.unusedSimpArgs false
set_option maxHeartbeats 4000000
set_option maxRecDepth 100000
namespace Go.Proofs.Ytakjndmlanpadaa
open Go.RowKit Go.ChangeShapes
open Go.RowKit
theorem l20Net_mut (g : Nat) (a : Option Addr) (len cap : Nat) (z : List Int) (w0 : World) (l : List HP) (w : World) (hm0 : Mem w0 (curE g a len cap :: l) w) (hb : BRow .u8 w0 a len cap z) :
   Calls Try.prog 29 #[.pointer (some ⟨g, 0, none⟩)] w (fun e_ w_ => ∃ v_ p_, e_ = .returned v_ ∧ (fun u_ p_ => ∃ (ps : List HP) (m : Ln), u_ = m.agg ∧ p_ = bigE [curE g a len cap, bigE ps] ∧ (∀ w, (bigE ps).holds w → RdsLn w m) ∧ (m.sv.oneCell' = true ∧ m.lv.oneCell' = true ∧ m.ov.oneCell' = true) ∧ LnOk m) v_ p_ ∧ Mem w0 (p_ :: l) w_) := by
 refine zgn (N := 154) (args := [.pointer (some ⟨g, 0, none⟩)]) Try.func29 rfl rfl hm0 (srQ ?_)
 refine zdt rfl (zbm (z := .agg #[.int .i64 0, .slice none 0 0, .slice none 0 0, .slice none 0 0]) rfl rfl) ?_
 intro b1
 refine ntQ (zac (zac (reQ 1 rfl ?_)))
 refine zdj (R := (fun u_ p_ => (∃ b : Bool, u_ = .bool b) ∧ p_ = curE g a len cap)) 1 rfl rfl rfl rfl rfl (fun l' w hm => once_mut hm hb (2) (by omega) (by omega)) ?_
 intro v2 p3 hR4
 obtain ⟨⟨xhR4, rfl⟩, rfl⟩ := hR4
 refine zeb (l' := (boxE b1 #[.int .i64 0, .slice none 0 0, .slice none 0 0, .slice none 0 0] 28 :: curE g a len cap :: l)) rfl ?_
 refine zbl (fun h5 => ?_) (fun h5 => ?_)
 ·
  refine ntQ (zao rfl (zac (reQ 1 rfl ?_)))
  refine zdj (R := (fun u_ p_ => ∃ n : Nt, u_ = n.agg ∧ p_ = bigE [curE g a len cap, ntE n] ∧ (n.sv.oneCell' = true ∧ n.av.oneCell' = true ∧ n.ov.oneCell' = true) ∧ NtOk n ∧ n.ins ≤ 4 ∧ (n.ss.length : Int) ≤ 3 ∧ (n.gs.length : Int) ≤ 16)) 1 rfl rfl rfl rfl rfl (fun l' w hm => l08Sized_mut g a len cap z 4 3 16 _ _ _ hm hb (by decide) (by decide) (by decide)) ?_
  intro v6 p7 hR8
  obtain ⟨n, rfl, rfl, ⟨o1n, o2n, o3n⟩, hn, hnq1, hnq2, hnq3⟩ := hR8
  have hi0 := hn.i0
  have hi1 := hn.i1
  have hs1 := hn.s1
  have ha1 := hn.a1
  have ho1 := hn.o1
  have hcnt : n.cnt = 1 + n.ins + n.ss.length + n.gs.length := rfl
  have hfst : n.fst = 1 + n.ins + n.ss.length := rfl
  refine zeb (l' := (boxE b1 #[.int .i64 0, .slice none 0 0, .slice none 0 0, .slice none 0 0] 28 :: bigE [curE g a len cap, ntE n] :: l)) rfl ?_
  refine zgg 2 [0, 1] rfl rfl (by decide) ?_
  refine zfr (curE g a len cap :: ntE n :: boxE b1 #[.int .i64 0, .slice none 0 0, .slice none 0 0, .slice none 0 0] 28 :: l) zfy ?_
  refine hl_q rfl rfl rfl (zal rfl rfl (fun w hm => Hash_ret n w (zgj 1 rfl w hm) hn)) ?_
  intro v9 p10 hR11
  obtain ⟨qs, m, rfl, rfl, hqs, ⟨o1m, o2m, o3m⟩, hmok, hsk, hml⟩ := hR11
  refine zdt rfl (zbm (z := .agg #[.int .i64 0, .slice none 0 0, .slice none 0 0, .slice none 0 0]) rfl rfl) ?_
  intro b12
  refine zbr (cs' := #[.int .i64 m.ins, m.sv, m.av, m.ov]) (i := 0) (off := 0) (us := [.int .i64 m.ins, m.sv, m.av, m.ov]) rfl rfl rfl rfl rfl rfl rfl (zae rfl (zae o1m (zae o2m (zae o3m zbj)))) rfl rfl rfl (ntQ (zac ?_))
  have hkl := hsk.len
  have hml9 := hml
  refine zfc 5 [4, 3, 1, 0, 2] rfl rfl (by decide) ?_
  refine hc_draw4 (l := (boxE b12 #[.int .i64 m.ins, m.sv, m.av, m.ov] 101 :: bigE qs :: ntE n :: boxE b1 #[.int .i64 0, .slice none 0 0, .slice none 0 0, .slice none 0 0] 28 :: l)) rfl 10 [0, 1, 2, 3, 4, 5, 6, 7, 8, 9] (List.take 10 _) (List.drop 10 _) [[], [], [], [1, 2], [0, 3], [4], [4, 5], [4, 5], [], [4, 6, 8]] [some 23, some 24, some 25, some 26, some 27, some 22, some 28, some 29, some 4, none] (fun i_ vs_ v_ p_ => match i_ with | 0 => v_ = .agg #[.int .i64 m.ins, m.sv, m.av, m.ov] ∧ p_ = [] | 1 => v_ = .pointer (some ⟨g, 0, none⟩) ∧ p_ = [] | 2 => v_ = .agg #[.int .i64 m.ins, m.sv, m.av, m.ov] ∧ p_ = [] | 3 => (∃ pm_, p_ = [pm_] ∧ (fun u_ p_ => ∃ (ps : List HP) (rs : List CRow), p_ = bigE [curE g a len cap, rowE 26 1 u_ rs.length (rs.flatMap crowC), bigE ps] ∧ (∀ w, (bigE ps).holds w → RdsAll w rs) ∧ rs.length = m.gs.length ∧ ∀ r ∈ rs, r.xs.length ≤ 400) v_ pm_) | 4 => (fun u_ p_ => ∃ (ps : List HP) (m : Ln) (b : Bool), u_ = .tuple #[m.agg, .bool b] ∧ p_ = [bigE ps] ∧ (∀ w, (bigE ps).holds w → RdsLn w m) ∧ (m.sv.oneCell' = true ∧ m.lv.oneCell' = true ∧ m.ov.oneCell' = true) ∧ LnOk m) v_ p_ | 5 => v_ = .tuple #[.agg #[.int .i64 (tIn9 (List.getD vs_ 0 undef)), (tF9 1 (List.getD vs_ 0 undef)), (tF9 2 (List.getD vs_ 0 undef)), (tF9 3 (List.getD vs_ 0 undef))], .bool (tSndB (List.getD vs_ 0 undef))] ∧ p_ = [] | 6 => v_ = .agg #[.int .i64 (tIn9 (List.getD vs_ 0 undef)), (tF9 1 (List.getD vs_ 0 undef)), (tF9 2 (List.getD vs_ 0 undef)), (tF9 3 (List.getD vs_ 0 undef))] ∧ p_ = [] | 7 => v_ = .bool (tSndB (List.getD vs_ 0 undef)) ∧ p_ = [] | 8 => IsBox #[.int .i64 0, .slice none 0 0, .slice none 0 0, .slice none 0 0] 28 v_ p_ | 9 => p_ = [boxE (blkOf (List.getD vs_ 2 undef)) #[.int .i64 (tIn9 (List.getD vs_ 0 undef)), (tF9 1 (List.getD vs_ 0 undef)), (tF9 2 (List.getD vs_ 0 undef)), (tF9 3 (List.getD vs_ 0 undef))] 28] | _ => True) [[], [], [], [1, 2], [0, 3], [4], [4, 5], [4, 5], [], [4, 6]] [none, none, none, some 11, none, none, none, none, none, some 8] [[curE g a len cap]] [0, 1, 2, 3, 4, 5, 6, 7, 9] 11 (List.take_append_drop 10 _).symm (by kernel_rfl) (by kernel_rfl) (by kernel_rfl) rfl rfl ?_ ?_
  ·
   refine ⟨?_, ?_, ?_, ?_, ?_, ?_, ?_, ?_, ?_, ?_, trivial⟩
   ·
    intro vf pf hmu hR
    refine zdz [] [] rfl (zbq (zai [3] rfl) (List.sublist_append_right _ _) ?_)
    exact zbd (zar (cs := [.int .i64 m.ins, m.sv, m.av, m.ov]) rfl rfl rfl rfl rfl (zam 0 rfl 0 rfl))
   ·
    intro vf pf hmu hR
    refine zdz [] [] rfl (zbu (zai [0] rfl) ?_)
    exact zbd (zaj rfl)
   ·
    intro vf pf hmu hR
    refine zdz [] [] rfl (zbq (zai [3] rfl) (List.sublist_append_right _ _) ?_)
    exact zbd (zar (cs := [.int .i64 m.ins, m.sv, m.av, m.ov]) rfl rfl rfl rfl rfl (zam 0 rfl 0 rfl))
   ·
    intro vf pf hmu hR
    have e1 := hR 1 (by decide)
    have e2 := hR 2 (by decide)
    refine Or.inl ⟨rfl, ?_⟩
    show RunM _ _ _ (pf 11) (([1, 2] : List Nat).flatMap pf ++ _) (envOf3 _ vf [1, 2] ++ _) _ _
    have hmu0 : pf 11 = [curE g a len cap] := hmu 0 (show 0 < 1 by omega)
    rw [hmu0]
    exact zdd (sk 24 (congrArg some e1.1) (sk 25 (congrArg some e2.1) (zab _))) (by simp only [e1.2, e2.2, fS] <;> rfl) (zdw (R := (fun u_ p_ => ∃ (ps : List HP) (rs : List CRow), p_ = bigE [curE g a len cap, rowE 26 1 u_ rs.length (rs.flatMap crowC), bigE ps] ∧ (∀ w, (bigE ps).holds w → RdsAll w rs) ∧ rs.length = m.gs.length ∧ ∀ r ∈ rs, r.xs.length ≤ 400)) rfl rfl (fun L w hX hm => l18Cuts_mut g a len cap z m _ _ _ hm hb (fun w hm9 => hqs w ((hX _ hm9).holds _ (zby (i := 1) rfl))) hmok))
   ·
    intro vf pf hmu hR
    have e0 := hR 0 (by decide)
    have e3 : (∃ pm_, (pf 3) = [pm_] ∧ (fun u_ p_ => ∃ (ps : List HP) (rs : List CRow), p_ = bigE [curE g a len cap, rowE 26 1 u_ rs.length (rs.flatMap crowC), bigE ps] ∧ (∀ w, (bigE ps).holds w → RdsAll w rs) ∧ rs.length = m.gs.length ∧ ∀ r ∈ rs, r.xs.length ≤ 400) (vf 3) pm_) := hR 3 (by decide)
    obtain ⟨p14, pE3, hR15⟩ := e3
    obtain ⟨v13, vE3⟩ : ∃ x, vf 3 = x := ⟨_, rfl⟩
    rw [vE3] at hR15
    obtain ⟨ps, rs, rfl, hps, hrl, h400⟩ := hR15
    refine zdz [0, 3] [0, 3] rfl (zcc (sk 23 (congrArg some e0.1) (sk 26 (congrArg some vE3) (zab _))) (by simp only [pE3, vE3, e0.2, fS] <;> rfl) ?_)
    exact zal rfl rfl (fun w hm => ToLuts_ret m rs _ w (hqs w (hm.holds _ (zby (i := 2) rfl))) hmok ⟨zbp (hold_at (hm.holds _ (zby (i := 0) rfl)) (j := 1) rfl), hps w (hold_at (hm.holds _ (zby (i := 0) rfl)) (j := 2) rfl)⟩ h400 (by omega))
   ·
    intro vf pf hmu hR
    have e4 : (fun u_ p_ => ∃ (ps : List HP) (m : Ln) (b : Bool), u_ = .tuple #[m.agg, .bool b] ∧ p_ = [bigE ps] ∧ (∀ w, (bigE ps).holds w → RdsLn w m) ∧ (m.sv.oneCell' = true ∧ m.lv.oneCell' = true ∧ m.ov.oneCell' = true) ∧ LnOk m) (vf 4) (pf 4) := hR 4 (by decide)
    obtain ⟨v16, vE4⟩ : ∃ x, vf 4 = x := ⟨_, rfl⟩
    obtain ⟨p17, pE4⟩ : ∃ x, pf 4 = x := ⟨_, rfl⟩
    have hR18 := e4
    rw [vE4, pE4] at hR18
    obtain ⟨ls_, tl, tb, rfl, rfl, hls, ⟨o1t, o2t, o3t⟩, htl⟩ := hR18
    refine zdz [4] [4] rfl (zcc (sk 27 (congrArg some vE4) (zab _)) (by simp only [pE4, vE4, fS] <;> rfl) ?_)
    exact zco (zbd (zaj rfl)) (fun _ _ h => ⟨h.1.trans (by show _ = (.tuple #[.agg #[.int .i64 (tIn9 (vf 4)), (tF9 1 (vf 4)), (tF9 2 (vf 4)), (tF9 3 (vf 4))], .bool (tSndB (vf 4))] : Value); first | (rw [vE4]; done) | (rw [vE4]; rfl)), h.2⟩)
   ·
    intro vf pf hmu hR
    have e4 : (fun u_ p_ => ∃ (ps : List HP) (m : Ln) (b : Bool), u_ = .tuple #[m.agg, .bool b] ∧ p_ = [bigE ps] ∧ (∀ w, (bigE ps).holds w → RdsLn w m) ∧ (m.sv.oneCell' = true ∧ m.lv.oneCell' = true ∧ m.ov.oneCell' = true) ∧ LnOk m) (vf 4) (pf 4) := hR 4 (by decide)
    obtain ⟨v16, vE4⟩ : ∃ x, vf 4 = x := ⟨_, rfl⟩
    obtain ⟨p17, pE4⟩ : ∃ x, pf 4 = x := ⟨_, rfl⟩
    have hR18 := e4
    rw [vE4, pE4] at hR18
    obtain ⟨ls_, tl, tb, rfl, rfl, hls, ⟨o1t, o2t, o3t⟩, htl⟩ := hR18
    have e5 : (vf 5) = .tuple #[.agg #[.int .i64 (tIn9 (vf 4)), (tF9 1 (vf 4)), (tF9 2 (vf 4)), (tF9 3 (vf 4))], .bool (tSndB (vf 4))] ∧ (pf 5) = [] := hR 5 (by decide)
    rw [vE4] at e5
    refine zdz [4, 5] [4, 5] rfl (zcc (sk 22 (congrArg some e5.1) (zab _)) (by simp only [pE4, vE4, e5.2, fS] <;> rfl) ?_)
    exact zco (zbd (zaj rfl)) (fun _ _ h => ⟨h.1.trans (by show _ = (.agg #[.int .i64 (tIn9 (vf 4)), (tF9 1 (vf 4)), (tF9 2 (vf 4)), (tF9 3 (vf 4))] : Value); first | (rw [vE4]; done) | (rw [vE4]; rfl)), h.2⟩)
   ·
    intro vf pf hmu hR
    have e4 : (fun u_ p_ => ∃ (ps : List HP) (m : Ln) (b : Bool), u_ = .tuple #[m.agg, .bool b] ∧ p_ = [bigE ps] ∧ (∀ w, (bigE ps).holds w → RdsLn w m) ∧ (m.sv.oneCell' = true ∧ m.lv.oneCell' = true ∧ m.ov.oneCell' = true) ∧ LnOk m) (vf 4) (pf 4) := hR 4 (by decide)
    obtain ⟨v16, vE4⟩ : ∃ x, vf 4 = x := ⟨_, rfl⟩
    obtain ⟨p17, pE4⟩ : ∃ x, pf 4 = x := ⟨_, rfl⟩
    have hR18 := e4
    rw [vE4, pE4] at hR18
    obtain ⟨ls_, tl, tb, rfl, rfl, hls, ⟨o1t, o2t, o3t⟩, htl⟩ := hR18
    have e5 : (vf 5) = .tuple #[.agg #[.int .i64 (tIn9 (vf 4)), (tF9 1 (vf 4)), (tF9 2 (vf 4)), (tF9 3 (vf 4))], .bool (tSndB (vf 4))] ∧ (pf 5) = [] := hR 5 (by decide)
    rw [vE4] at e5
    refine zdz [4, 5] [4, 5] rfl (zcc (sk 22 (congrArg some e5.1) (zab _)) (by simp only [pE4, vE4, e5.2, fS] <;> rfl) ?_)
    exact zco (zbd (zaj rfl)) (fun _ _ h => ⟨h.1.trans (by show _ = (.bool (tSndB (vf 4)) : Value); first | (rw [vE4]; done) | (rw [vE4]; rfl)), h.2⟩)
   ·
    intro vf pf hmu hR
    refine zdz [] [] rfl (zbq (zab _) (List.sublist_append_right _ _) ?_)
    exact zbm (z := .agg #[.int .i64 0, .slice none 0 0, .slice none 0 0, .slice none 0 0]) rfl rfl
   intro vf pf hmu hR
   have e4 : (fun u_ p_ => ∃ (ps : List HP) (m : Ln) (b : Bool), u_ = .tuple #[m.agg, .bool b] ∧ p_ = [bigE ps] ∧ (∀ w, (bigE ps).holds w → RdsLn w m) ∧ (m.sv.oneCell' = true ∧ m.lv.oneCell' = true ∧ m.ov.oneCell' = true) ∧ LnOk m) (vf 4) (pf 4) := hR 4 (by decide)
   obtain ⟨v16, vE4⟩ : ∃ x, vf 4 = x := ⟨_, rfl⟩
   obtain ⟨p17, pE4⟩ : ∃ x, pf 4 = x := ⟨_, rfl⟩
   have hR18 := e4
   rw [vE4, pE4] at hR18
   obtain ⟨ls_, tl, tb, rfl, rfl, hls, ⟨o1t, o2t, o3t⟩, htl⟩ := hR18
   have e6 : (vf 6) = .agg #[.int .i64 (tIn9 (vf 4)), (tF9 1 (vf 4)), (tF9 2 (vf 4)), (tF9 3 (vf 4))] ∧ (pf 6) = [] := hR 6 (by decide)
   rw [vE4] at e6
   have e8 : IsBox #[.int .i64 0, .slice none 0 0, .slice none 0 0, .slice none 0 0] 28 (vf 8) (pf 8) := hR 8 (by decide)
   obtain ⟨b19, vE8, pE8⟩ := e8
   refine Or.inl ⟨rfl, ?_⟩
   show RunM _ _ _ (pf 8) (([4, 6] : List Nat).flatMap pf ++ _) (envOf3 _ vf [4, 6, 8] ++ _) _ _
   rw [pE8]
   exact zdd (sk 4 (congrArg some vE8) (sk 28 (congrArg some e6.1) (zab _))) (by simp only [pE4, vE4, e6.2, fS] <;> rfl) (rm_mono (zgc (us := [.int .i64 tl.ins, tl.sv, tl.lv, tl.ov]) (off := 0) 0 rfl rfl rfl rfl rfl rfl (zae rfl (zae o1t (zae o2t (zae o3t zbj)))) rfl rfl) (fun v_ p_ h => by show p_ = [boxE (blkOf (vf 8)) #[.int .i64 (tIn9 (vf 4)), (tF9 1 (vf 4)), (tF9 2 (vf 4)), (tF9 3 (vf 4))] 28]; rw [vE4, vE8]; exact h))
  intro vf pf hmu hR
  have e3 : (∃ pm_, (pf 3) = [pm_] ∧ (fun u_ p_ => ∃ (ps : List HP) (rs : List CRow), p_ = bigE [curE g a len cap, rowE 26 1 u_ rs.length (rs.flatMap crowC), bigE ps] ∧ (∀ w, (bigE ps).holds w → RdsAll w rs) ∧ rs.length = m.gs.length ∧ ∀ r ∈ rs, r.xs.length ≤ 400) (vf 3) pm_) := hR 3 (by decide)
  obtain ⟨p14, pE3, hR15⟩ := e3
  obtain ⟨v13, vE3⟩ : ∃ x, vf 3 = x := ⟨_, rfl⟩
  rw [vE3] at hR15
  obtain ⟨ps, rs, rfl, hps, hrl, h400⟩ := hR15
  have e4 : (fun u_ p_ => ∃ (ps : List HP) (m : Ln) (b : Bool), u_ = .tuple #[m.agg, .bool b] ∧ p_ = [bigE ps] ∧ (∀ w, (bigE ps).holds w → RdsLn w m) ∧ (m.sv.oneCell' = true ∧ m.lv.oneCell' = true ∧ m.ov.oneCell' = true) ∧ LnOk m) (vf 4) (pf 4) := hR 4 (by decide)
  obtain ⟨v16, vE4⟩ : ∃ x, vf 4 = x := ⟨_, rfl⟩
  obtain ⟨p17, pE4⟩ : ∃ x, pf 4 = x := ⟨_, rfl⟩
  have hR18 := e4
  rw [vE4, pE4] at hR18
  obtain ⟨ls_, tl, tb, rfl, rfl, hls, ⟨o1t, o2t, o3t⟩, htl⟩ := hR18
  have e7 : (vf 7) = .bool (tSndB (vf 4)) ∧ (pf 7) = [] := hR 7 (by decide)
  rw [vE4] at e7
  have e8 : IsBox #[.int .i64 0, .slice none 0 0, .slice none 0 0, .slice none 0 0] 28 (vf 8) (pf 8) := hR 8 (by decide)
  obtain ⟨b19, vE8, pE8⟩ := e8
  have e9 : (pf 9) = [boxE (blkOf (vf 8)) #[.int .i64 (tIn9 (vf 4)), (tF9 1 (vf 4)), (tF9 2 (vf 4)), (tF9 3 (vf 4))] 28] := hR 9 (by decide)
  rw [vE4, vE8] at e9
  have pE9 := e9
  have q0 := hR 0 (by decide)
  have q1 := hR 1 (by decide)
  have q2 := hR 2 (by decide)
  have q5 := hR 5 (by decide)
  have q6 := hR 6 (by decide)
  have q7 := hR 7 (by decide)
  refine zce (zbe [3, 2, 0] _ (sk 4 (congrArg some vE8) (sk 18 rfl (sk 29 (congrArg some e7.1) (zab _)))) rfl) (by simp only [pE3, vE3, pE4, vE4, pE9, q0.2, q1.2, q2.2, q5.2, q6.2, q7.2, fS] <;> rfl) ?_
  simp only [List.drop_succ_cons, List.drop_zero]
  refine zbb 1 rfl (srQ (hvQ rfl (zar (cs := [.int .i64 tl.ins, tl.sv, tl.lv, tl.ov]) rfl rfl rfl rfl rfl (zam 2 rfl 0 rfl)) ?_))
  refine zbr (cs' := #[.int .i64 tl.ins, tl.sv, tl.lv, tl.ov]) (i := 6) (off := 0) (us := [.int .i64 tl.ins, tl.sv, tl.lv, tl.ov]) rfl rfl rfl rfl rfl rfl rfl (zae rfl (zae o1t (zae o2t (zae o3t zbj)))) rfl rfl rfl (ntQ ?_)
  refine zav (zap ?_)
  refine zbo 7 [6, 5, 4, 3, 2, 1, 0] rfl rfl (by decide) ?_
  refine zet (curE g a len cap :: rowE 26 1 v13 rs.length (rs.flatMap crowC) :: bigE ps :: bigE ls_ :: boxE b19 #[.int .i64 tl.ins, tl.sv, tl.lv, tl.ov] 28 :: boxE b12 #[.int .i64 m.ins, m.sv, m.av, m.ov] 101 :: bigE qs :: ntE n :: boxE b1 #[.int .i64 tl.ins, tl.sv, tl.lv, tl.ov] 28 :: l) zfy ?_
  refine zbo 9 [8, 3, 0] rfl rfl (by decide) ?_
  refine zcx 2 rfl ?_
  exact hq_ret (rs := [.cell 2 28]) (vs := [.agg #[.int .i64 tl.ins, tl.sv, tl.lv, tl.ov]]) rfl ⟨⟨b1, 0, [.int .i64 tl.ins, tl.sv, tl.lv, tl.ov], rfl, rfl, by kernel_rfl, by kernel_rfl, zam 1 rfl 0 rfl⟩, trivial⟩ rfl (fun w hm => ⟨_, bigE [curE g a len cap, bigE ls_], rfl, ⟨_, tl, rfl, rfl, hls, ⟨o1t, o2t, o3t⟩, htl⟩, hm.sub (.cons_cons _ (.cons _ (.refl _)))⟩)
 refine ntQ (zaq rfl (zcp (zac (reQ 1 rfl ?_))))
 refine zdj (R := (fun u_ p_ => ∃ n : Nt, u_ = n.agg ∧ p_ = bigE [curE g a len cap, ntE n] ∧ (n.sv.oneCell' = true ∧ n.av.oneCell' = true ∧ n.ov.oneCell' = true) ∧ NtOk n ∧ n.ins ≤ 4 ∧ (n.ss.length : Int) ≤ 3 ∧ (n.gs.length : Int) ≤ 0)) 1 rfl rfl rfl rfl rfl (fun l' w hm => l08Sized_mut g a len cap z 4 3 0 _ _ _ hm hb (by decide) (by decide) (by decide)) ?_
 intro v20 p21 hR22
 obtain ⟨n, rfl, rfl, ⟨o1n, o2n, o3n⟩, hn, hnq1, hnq2, hnq3⟩ := hR22
 have hi0 := hn.i0
 have hi1 := hn.i1
 have hs1 := hn.s1
 have ha1 := hn.a1
 have ho1 := hn.o1
 have hcnt : n.cnt = 1 + n.ins + n.ss.length + n.gs.length := rfl
 have hfst : n.fst = 1 + n.ins + n.ss.length := rfl
 refine zeb (l' := (boxE b1 #[.int .i64 0, .slice none 0 0, .slice none 0 0, .slice none 0 0] 28 :: bigE [curE g a len cap, ntE n] :: l)) rfl ?_
 refine zdt rfl (zbm (z := .agg #[.int .i64 0, .slice none 0 0, .slice none 0 0, .slice none 0 0]) rfl rfl) ?_
 intro b23
 refine zbr (cs' := #[.int .i64 n.ins, n.sv, n.av, n.ov]) (i := 0) (off := 0) (us := [.int .i64 n.ins, n.sv, n.av, n.ov]) rfl rfl rfl rfl rfl rfl rfl (zae rfl (zae o1n (zae o2n (zae o3n zbj)))) rfl rfl rfl (ntQ (srQ ?_))
 refine zgg 3 [1, 0, 2] rfl rfl (by decide) ?_
 refine zfr (curE g a len cap :: ntE n :: boxE b23 #[.int .i64 n.ins, n.sv, n.av, n.ov] 101 :: boxE b1 #[.int .i64 0, .slice none 0 0, .slice none 0 0, .slice none 0 0] 28 :: l) zfy ?_
 refine hvQ rfl (fdQ 0 rfl rfl rfl) (hvQ rfl (zag rfl rfl rfl (zad 2 rfl rfl)) (hvQ rfl (zda (cs := #[.int .i64 n.ins, .slice none 0 0, .slice none 0 0, .slice none 0 0]) rfl rfl rfl) ?_))
 refine zdt rfl (zbm (z := .agg #[.int .i64 0, .slice none 0 0, .slice none 0 0, .slice none 0 0]) rfl rfl) ?_
 intro b24
 refine zbr (cs' := #[.int .i64 n.ins, .slice none 0 0, .slice none 0 0, .slice none 0 0]) (i := 0) (off := 0) (us := [.int .i64 n.ins, .slice none 0 0, .slice none 0 0, .slice none 0 0]) rfl rfl rfl rfl rfl rfl rfl (zae rfl (zae rfl (zae rfl (zae rfl zbj)))) rfl rfl rfl (ntQ (zac (reQ 1 rfl ?_)))
 refine zdj (R := (fun u_ p_ => (∃ x_ : Int, u_ = .int .i64 x_ ∧ 0 ≤ x_ ∧ x_ < 7) ∧ p_ = curE g a len cap)) 1 rfl rfl rfl rfl rfl (fun l' w hm => zci g a len cap z 7 _ _ _ hm hb (by constructor <;> omega)) ?_
 intro v25 p26 hR27
 obtain ⟨⟨xhR27, rfl, xhR270, xhR271⟩, rfl⟩ := hR27
 refine zeb (l' := (boxE b24 #[.int .i64 n.ins, .slice none 0 0, .slice none 0 0, .slice none 0 0] 28 :: curE g a len cap :: ntE n :: boxE b23 #[.int .i64 n.ins, n.sv, n.av, n.ov] 101 :: boxE b1 #[.int .i64 0, .slice none 0 0, .slice none 0 0, .slice none 0 0] 28 :: l)) rfl ?_
 refine zbb 1 rfl (srQ (hvQ rfl (zar (cs := [.int .i64 n.ins, n.sv, n.av, n.ov]) rfl rfl rfl rfl rfl (zam 3 rfl 0 rfl)) ?_))
 refine zdn rfl (zal rfl rfl (fun w hm => zas (zbz n w (zgj 2 rfl w hm) hn))) (zan 1 rfl (hvQ rfl (vaQ rfl rfl rfl) (zbb 1 rfl (zac (zbc 1 rfl (zaw ?_))))))
 refine zdo (rowE 3 1 (.slice none 0 0) 0 ([]) :: boxE b24 #[.int .i64 n.ins, .slice none 0 0, .slice none 0 0, .slice none 0 0] 28 :: curE g a len cap :: ntE n :: boxE b23 #[.int .i64 n.ins, n.sv, n.av, n.ov] 101 :: boxE b1 #[.int .i64 0, .slice none 0 0, .slice none 0 0, .slice none 0 0] 28 :: l) (fun w hm => hm.nilRow 3 1) ?_
 refine zdo (rowE 72 2 (.slice none 0 0) (([] : List Lt).length) (([] : List Lt).flatMap ltC) :: rowE 3 1 (.slice none 0 0) 0 ([]) :: boxE b24 #[.int .i64 n.ins, .slice none 0 0, .slice none 0 0, .slice none 0 0] 28 :: curE g a len cap :: ntE n :: boxE b23 #[.int .i64 n.ins, n.sv, n.av, n.ov] 101 :: boxE b1 #[.int .i64 0, .slice none 0 0, .slice none 0 0, .slice none 0 0] 28 :: l) (fun w hm => hm.nilRow 72 2) ?_
 refine zdo (rowE 35 3 (.slice none 0 0) (([] : List Sq).length) (([] : List Sq).flatMap sqC) :: rowE 72 2 (.slice none 0 0) (([] : List Lt).length) (([] : List Lt).flatMap ltC) :: rowE 3 1 (.slice none 0 0) 0 ([]) :: boxE b24 #[.int .i64 n.ins, .slice none 0 0, .slice none 0 0, .slice none 0 0] 28 :: curE g a len cap :: ntE n :: boxE b23 #[.int .i64 n.ins, n.sv, n.av, n.ov] 101 :: boxE b1 #[.int .i64 0, .slice none 0 0, .slice none 0 0, .slice none 0 0] 28 :: l) (fun w hm => hm.nilRow 35 3) ?_
 refine zdo _ zfx ?_
 refine lkQ4 (α := Nat) (β := Value) (γ := List Sq) (δ := List HP) [0, 2, 6, 7, 8, 9, 18] rfl (fun i uq ss bs => (bigE bs :: rowE 35 3 uq ss.length (ss.flatMap sqC) :: rowE 72 2 (.slice none 0 0) (([] : List Lt).length) (([] : List Lt).flatMap ltC) :: rowE 3 1 (.slice none 0 0) 0 ([]) :: boxE b24 #[.int .i64 n.ins, uq, .slice none 0 0, .slice none 0 0] 28 :: curE g a len cap :: ntE n :: boxE b23 #[.int .i64 n.ins, n.sv, n.av, n.ov] 101 :: boxE b1 #[.int .i64 0, .slice none 0 0, .slice none 0 0, .slice none 0 0] 28 :: l)) (fun i uq ss bs => [(10, .int .i64 (i : Int))]) (fun i uq ss bs => i ≤ n.ss.length ∧ ss.length = i ∧ SqsN (n.fst + xhR27) ss ∧ ∀ w, (bigE bs).holds w → RdsSqs w ss) (fun i uq ss bs => n.ss.length - i) 0 _ [] [] ⟨Nat.zero_le _, rfl, SqsN.nil _, fun w _ => RdsSqs.nil w⟩ (saQ rfl) (.refl _) ?_
 intro i uq ss bs hi28
 obtain ⟨hi, hsl, hsn, hbs⟩ := hi28
 refine zac (zac (reQ 1 rfl (hvQ rfl (fdQ 1 rfl rfl rfl) (hvQ rfl (zag rfl rfl rfl (zad 7 rfl rfl)) ?_))))
 refine hvQ rfl (lnQ rfl rfl rfl (fun w hm => (zgj 6 rfl w hm).sq)) (zbh rfl rfl rfl rfl rfl rfl (fun h29 => ?_) (fun h29 => ?_))
 ·
  refine ntQ (zao rfl (zcp (sbQ (zac ?_))))
  refine zdq rfl 14 [0, 1, 2, 3, 4, 5, 6, 7, 8, 9, 10, 11, 12, 13] (List.take 14 _) (List.drop 14 _) [[], [0], [], [1, 2], [3], [4], [], [6], [], [7, 8], [9], [10], [5, 11], []] [49, 50, 51, 52, 53, 54, 55, 56, 57, 58, 59, 60, 61, 11] (fun i_ vs_ v_ p_ => match i_ with | 0 => v_ = .pointer (some ⟨b23, 0 + 1, none⟩) ∧ p_ = [] | 1 => v_ = n.sv ∧ p_ = [] | 2 => v_ = .int .i64 (i : Int) ∧ p_ = [] | 3 => v_ = elP n.sv (((i : Int)).toNat * 3) ∧ p_ = [] | 4 => v_ = elP n.sv (((i : Int)).toNat * 3 + 0) ∧ p_ = [] | 5 => v_ = .int .i64 ((n.ss.getD i sq0).kd) ∧ p_ = [] | 6 => v_ = .pointer (some ⟨b23, 0 + 1, none⟩) ∧ p_ = [] | 7 => v_ = n.sv ∧ p_ = [] | 8 => v_ = .int .i64 (i : Int) ∧ p_ = [] | 9 => v_ = elP n.sv (((i : Int)).toNat * 3) ∧ p_ = [] | 10 => v_ = elP n.sv (((i : Int)).toNat * 3 + 1) ∧ p_ = [] | 11 => v_ = .int .i64 ((n.ss.getD i sq0).it) ∧ p_ = [] | 12 => v_ = .agg #[.int .i64 ((n.ss.getD i sq0).kd), .int .i64 ((n.ss.getD i sq0).it), .slice none 0 0] ∧ p_ = [] | 13 => IsBox #[.int .i64 0, .int .i64 0, .slice none 0 0] 35 v_ p_ | _ => True) (List.take_append_drop 14 _).symm (by kernel_rfl) (by kernel_rfl) rfl rfl ?_ ?_
  ·
   refine ⟨?_, ?_, ?_, ?_, ?_, ?_, ?_, ?_, ?_, ?_, ?_, ?_, ?_, ?_, trivial⟩
   ·
    intro vf pf hR
    exact ovQ rfl (zai [6] rfl) (zbd (fdQ 1 rfl rfl rfl))
   ·
    intro vf pf hR
    have e0 := hR 0 (by decide)
    exact olQ rfl (sk 49 (congrArg some e0.1) (zab _)) (zbd (zag rfl rfl rfl (zad 7 rfl rfl)))
   ·
    intro vf pf hR
    exact ovQ rfl (zai [10] rfl) (zbd (zaj rfl))
   ·
    intro vf pf hR
    have e1 := hR 1 (by decide)
    have e2 := hR 2 (by decide)
    exact olQ rfl (sk 50 (congrArg some e1.1) (sk 51 (congrArg some e2.1) (zab _))) (zbd (riQ 3 rfl rfl rfl rfl (fun w hm => (zgj 6 rfl w hm).sq)))
   ·
    intro vf pf hR
    have e3 := hR 3 (by decide)
    exact olQ rfl (sk 52 (congrArg some e3.1) (zab _)) (zbd (zbx (k0 := 0) rfl rfl rfl (fun w hm => (zgj 6 rfl w hm).sq) (by omega)))
   ·
    intro vf pf hR
    have e4 := hR 4 (by decide)
    exact olQ rfl (sk 53 (congrArg some e4.1) (zab _)) (zbd (zat (u := .int .i64 ((n.ss.getD i sq0).kd)) rfl rfl rfl (fun w hm => (zgj 6 rfl w hm).sq) ((zcy sqC 3 (fun _ => rfl) n.ss sq0 (show i < _ by omega) (by decide)).trans rfl)))
   ·
    intro vf pf hR
    exact ovQ rfl (zai [6] rfl) (zbd (fdQ 1 rfl rfl rfl))
   ·
    intro vf pf hR
    have e6 := hR 6 (by decide)
    exact olQ rfl (sk 55 (congrArg some e6.1) (zab _)) (zbd (zag rfl rfl rfl (zad 7 rfl rfl)))
   ·
    intro vf pf hR
    exact ovQ rfl (zai [10] rfl) (zbd (zaj rfl))
   ·
    intro vf pf hR
    have e7 := hR 7 (by decide)
    have e8 := hR 8 (by decide)
    exact olQ rfl (sk 56 (congrArg some e7.1) (sk 57 (congrArg some e8.1) (zab _))) (zbd (riQ 3 rfl rfl rfl rfl (fun w hm => (zgj 6 rfl w hm).sq)))
   ·
    intro vf pf hR
    have e9 := hR 9 (by decide)
    exact olQ rfl (sk 58 (congrArg some e9.1) (zab _)) (zbd (zbx (k0 := 1) rfl rfl rfl (fun w hm => (zgj 6 rfl w hm).sq) (by omega)))
   ·
    intro vf pf hR
    have e10 := hR 10 (by decide)
    exact olQ rfl (sk 59 (congrArg some e10.1) (zab _)) (zbd (zat (u := .int .i64 ((n.ss.getD i sq0).it)) rfl rfl rfl (fun w hm => (zgj 6 rfl w hm).sq) ((zcy sqC 3 (fun _ => rfl) n.ss sq0 (show i < _ by omega) (by decide)).trans rfl)))
   ·
    intro vf pf hR
    have e5 := hR 5 (by decide)
    have e11 := hR 11 (by decide)
    exact ovQ rfl (sk 54 (congrArg some e5.1) (sk 60 (congrArg some e11.1) (zab _))) (zbd (zda (cs := #[.int .i64 ((n.ss.getD i sq0).kd), .int .i64 ((n.ss.getD i sq0).it), .slice none 0 0]) rfl rfl rfl))
   intro vf pf hR
   exact olQ rfl (zab _) (zbm (z := .agg #[.int .i64 0, .int .i64 0, .slice none 0 0]) rfl rfl)
  intro vf pf hR
  have e12 := hR 12 (by decide)
  have e13 : IsBox #[.int .i64 0, .int .i64 0, .slice none 0 0] 35 (vf 13) (pf 13) := hR 13 (by decide)
  obtain ⟨b30, vE13, pE13⟩ := e13
  have q0 := hR 0 (by decide)
  have q1 := hR 1 (by decide)
  have q2 := hR 2 (by decide)
  have q3 := hR 3 (by decide)
  have q4 := hR 4 (by decide)
  have q5 := hR 5 (by decide)
  have q6 := hR 6 (by decide)
  have q7 := hR 7 (by decide)
  have q8 := hR 8 (by decide)
  have q9 := hR 9 (by decide)
  have q10 := hR 10 (by decide)
  have q11 := hR 11 (by decide)
  have q12 := hR 12 (by decide)
  refine zce (zbe [10, 9, 8, 7, 6, 2, 0] _ (sk 11 (congrArg some vE13) (sk 18 rfl (sk 46 rfl (sk 61 (congrArg some e12.1) (zab _))))) rfl) (by simp only [pE13, vE13, q0.2, q1.2, q2.2, q3.2, q4.2, q5.2, q6.2, q7.2, q8.2, q9.2, q10.2, q11.2, q12.2, fS] <;> rfl) ?_
  simp only [List.drop_succ_cons, List.drop_zero]
  refine zbr (cs' := #[.int .i64 ((n.ss.getD i sq0).kd), .int .i64 ((n.ss.getD i sq0).it), .slice none 0 0]) (i := 0) (off := 0) (us := [.int .i64 ((n.ss.getD i sq0).kd), .int .i64 ((n.ss.getD i sq0).it), .slice none 0 0]) rfl rfl rfl rfl rfl rfl rfl (zae rfl (zae rfl (zae rfl zbj))) rfl rfl rfl (ntQ (zac (zbc 1 rfl (zaw ?_))))
  refine zdo (rowE 3 1 (.slice none 0 0) 0 ([]) :: boxE b30 #[.int .i64 ((n.ss.getD i sq0).kd), .int .i64 ((n.ss.getD i sq0).it), .slice none 0 0] 35 :: bigE bs :: rowE 35 3 uq ss.length (ss.flatMap sqC) :: rowE 72 2 (.slice none 0 0) (([] : List Lt).length) (([] : List Lt).flatMap ltC) :: rowE 3 1 (.slice none 0 0) 0 ([]) :: boxE b24 #[.int .i64 n.ins, uq, .slice none 0 0, .slice none 0 0] 28 :: curE g a len cap :: ntE n :: boxE b23 #[.int .i64 n.ins, n.sv, n.av, n.ov] 101 :: boxE b1 #[.int .i64 0, .slice none 0 0, .slice none 0 0, .slice none 0 0] 28 :: l) (fun w hm => hm.nilRow 3 1) ?_
  refine lkQ3 (α := Nat) (β := Value) (γ := List Int) [0, 2, 6, 7, 8, 9, 10, 11, 18, 46] rfl (fun k ui xs => (rowE 3 1 ui xs.length (xs.map (Value.int .i64)) :: boxE b30 #[.int .i64 ((n.ss.getD i sq0).kd), .int .i64 ((n.ss.getD i sq0).it), ui] 35 :: bigE bs :: rowE 35 3 uq ss.length (ss.flatMap sqC) :: rowE 72 2 (.slice none 0 0) (([] : List Lt).length) (([] : List Lt).flatMap ltC) :: rowE 3 1 (.slice none 0 0) 0 ([]) :: boxE b24 #[.int .i64 n.ins, uq, .slice none 0 0, .slice none 0 0] 28 :: curE g a len cap :: ntE n :: boxE b23 #[.int .i64 n.ins, n.sv, n.av, n.ov] 101 :: boxE b1 #[.int .i64 0, .slice none 0 0, .slice none 0 0, .slice none 0 0] 28 :: l)) (fun k ui xs => [(12, .int .i64 (k : Int))]) (fun k ui xs => k ≤ (n.ss.getD i sq0).xs.length ∧ xs.length = k ∧ BelowP xs (n.fst + xhR27)) (fun k ui xs => (n.ss.getD i sq0).xs.length - k) 0 _ [] ⟨Nat.zero_le _, rfl, BelowP.nil _⟩ (saQ rfl) (.refl _) ?_
  intro k ui xs hi31
  obtain ⟨hk, hxl, hxb⟩ := hi31
  have hx4 := (hn.sq _ (zch (d := sq0) (show i < n.ss.length by omega))).len
  refine zac (zac (reQ 1 rfl (hvQ rfl (fdQ 1 rfl rfl rfl) (hvQ rfl (zag rfl rfl rfl (zad 9 rfl rfl)) (zan 1 rfl ?_)))))
  refine hvQ rfl (riQ 3 rfl rfl rfl rfl (fun w hm => (zgj 8 rfl w hm).sq)) (hvQ rfl (zbx (k0 := 2) rfl rfl rfl (fun w hm => (zgj 8 rfl w hm).sq) (by omega)) ?_)
  refine hvQ rfl (zat (u := (n.ss.getD i sq0).iv) rfl rfl rfl (fun w hm => (zgj 8 rfl w hm).sq) ((zcy sqC 3 (fun _ => rfl) n.ss sq0 (show i < _ by omega) (by decide)).trans rfl)) (hvQ rfl (lnQ rfl rfl rfl (fun w hm => (zgj 8 rfl w hm).at (k := i) (by omega))) ?_)
  refine zbh rfl rfl rfl rfl rfl rfl (fun h32 => ?_) (fun h32 => ?_)
  ·
   refine ntQ (zao rfl (zcp (sbQ ?_)))
   refine zfc 11 [10, 9, 8, 6, 5, 4, 3, 2, 1, 0, 7] rfl rfl (by decide) ?_
   refine zfi (l := (rowE 3 1 ui xs.length (xs.map (Value.int .i64)) :: boxE b30 #[.int .i64 ((n.ss.getD i sq0).kd), .int .i64 ((n.ss.getD i sq0).it), ui] 35 :: bigE bs :: rowE 35 3 uq ss.length (ss.flatMap sqC) :: rowE 72 2 (.slice none 0 0) (([] : List Lt).length) (([] : List Lt).flatMap ltC) :: rowE 3 1 (.slice none 0 0) 0 ([]) :: boxE b24 #[.int .i64 n.ins, uq, .slice none 0 0, .slice none 0 0] 28 :: ntE n :: boxE b23 #[.int .i64 n.ins, n.sv, n.av, n.ov] 101 :: boxE b1 #[.int .i64 0, .slice none 0 0, .slice none 0 0, .slice none 0 0] 28 :: l)) rfl 10 [0, 1, 2, 3, 4, 5, 6, 7, 8, 9] (List.take 10 _) (List.drop 10 _) [[], [0], [], [2], [], [], [5], [4, 6], [3, 7], [7, 8]] [73, 74, 75, 76, 77, 78, 79, 80, 81, 82] (fun i_ vs_ v_ p_ => match i_ with | 0 => v_ = .pointer (some ⟨b30, 0 + 2, none⟩) ∧ p_ = [] | 1 => v_ = ui ∧ p_ = [] | 2 => v_ = .int .i64 (n.fst + xhR27) ∧ p_ = [] | 3 => v_ = .int .i64 ((n.fst + xhR27) - 1) ∧ p_ = [] | 4 => v_ = .pointer (some ⟨g, 0, none⟩) ∧ p_ = [] | 5 => v_ = .int .i64 (n.fst + xhR27) ∧ p_ = [] | 6 => v_ = .int .i64 (min (n.fst + xhR27) 7) ∧ p_ = [] | 7 => (∃ pm_, p_ = [pm_] ∧ (fun u_ p_ => (∃ x_ : Int, u_ = .int .i64 x_ ∧ 0 ≤ x_ ∧ x_ < min (n.fst + xhR27) 7) ∧ p_ = curE g a len cap) v_ pm_) | 8 => v_ = .int .i64 (((n.fst + xhR27) - 1) - (intOf_o (List.getD vs_ 1 undef))) ∧ p_ = [] | 9 => IsRow 3 1 1 ([((n.fst + xhR27) - 1) - (intOf_o (List.getD vs_ 0 undef))].map (Value.int .i64)) v_ p_ | _ => True) [[], [0], [], [2], [], [], [5], [4, 6], [3, 7], [7, 8]] [none, none, none, none, none, none, none, some 13, none, none] [curE g a len cap] [0, 1, 2, 3, 4, 5, 6, 7, 8, 9] 13 (List.take_append_drop 10 _).symm (by kernel_rfl) (by kernel_rfl) (by kernel_rfl) rfl rfl ?_ ?_
   ·
    refine ⟨?_, ?_, ?_, ?_, ?_, ?_, ?_, ?_, ?_, ?_, trivial⟩
    ·
     intro vf pf hmu hR
     refine dqQ [] [] rfl (zbu (zai [11] rfl) ?_)
     exact zbd (fdQ 2 rfl rfl rfl)
    ·
     intro vf pf hmu hR
     have e0 := hR 0 (by decide)
     refine dqQ [0] [0] rfl (zbq (sk 73 (congrArg some e0.1) (zab _)) (List.sublist_append_right _ _) ?_)
     exact zbd (zag rfl rfl rfl (zad 1 rfl rfl))
    ·
     intro vf pf hmu hR
     refine dqQ [] [] rfl (zbu (zai [9] rfl) ?_)
     exact zbd (zaj rfl)
    ·
     intro vf pf hmu hR
     have e2 := hR 2 (by decide)
     refine dqQ [2] [2] rfl (zbu (sk 75 (congrArg some e2.1) (zab _)) ?_)
     exact zbd (vsQ rfl rfl rfl)
    ·
     intro vf pf hmu hR
     refine dqQ [] [] rfl (zbu (zai [0] rfl) ?_)
     exact zbd (zaj rfl)
    ·
     intro vf pf hmu hR
     refine dqQ [] [] rfl (zbu (zai [9] rfl) ?_)
     exact zbd (zaj rfl)
    ·
     intro vf pf hmu hR
     have e5 := hR 5 (by decide)
     refine dqQ [5] [5] rfl (zbu (sk 78 (congrArg some e5.1) (zab _)) ?_)
     exact zbd (rv_min rfl rfl rfl)
    ·
     intro vf pf hmu hR
     have e4 := hR 4 (by decide)
     have e6 := hR 6 (by decide)
     refine Or.inl ⟨rfl, ?_⟩
     show RunM _ _ _ (pf 13) (([4, 6] : List Nat).flatMap pf ++ _) (envOf _ vf [4, 6] ++ _) _ _
     rw [hmu]
     exact zdd (sk 77 (congrArg some e4.1) (sk 79 (congrArg some e6.1) (zab _))) (by simp only [e4.2, e6.2, fS] <;> rfl) (zdw (R := (fun u_ p_ => (∃ x_ : Int, u_ = .int .i64 x_ ∧ 0 ≤ x_ ∧ x_ < min (n.fst + xhR27) 7) ∧ p_ = curE g a len cap)) rfl rfl (fun L w hX hm => zci g a len cap z (min (n.fst + xhR27) 7) _ _ _ hm hb (by constructor <;> omega)))
    ·
     intro vf pf hmu hR
     have e3 := hR 3 (by decide)
     have e7 : (∃ pm_, (pf 7) = [pm_] ∧ (fun u_ p_ => (∃ x_ : Int, u_ = .int .i64 x_ ∧ 0 ≤ x_ ∧ x_ < min (n.fst + xhR27) 7) ∧ p_ = curE g a len cap) (vf 7) pm_) := hR 7 (by decide)
     obtain ⟨p34, pE7, hR35⟩ := e7
     obtain ⟨v33, vE7⟩ : ∃ x, vf 7 = x := ⟨_, rfl⟩
     rw [vE7] at hR35
     obtain ⟨⟨xhR35, rfl, xhR350, xhR351⟩, rfl⟩ := hR35
     refine dqQ [3, 7] [3, 7] rfl (zcc (sk 76 (congrArg some e3.1) (sk 80 (congrArg some vE7) (zab _))) (by simp only [pE7, vE7, e3.2, fS] <;> rfl) ?_)
     exact zco (zbd (vsQ rfl rfl rfl)) (fun _ _ h => ⟨h.1.trans (by show _ = (.int .i64 (((n.fst + xhR27) - 1) - (intOf_o (vf 7))) : Value); first | (rw [vE7]; done) | (rw [vE7]; rfl)), h.2⟩)
    intro vf pf hmu hR
    have e7 : (∃ pm_, (pf 7) = [pm_] ∧ (fun u_ p_ => (∃ x_ : Int, u_ = .int .i64 x_ ∧ 0 ≤ x_ ∧ x_ < min (n.fst + xhR27) 7) ∧ p_ = curE g a len cap) (vf 7) pm_) := hR 7 (by decide)
    obtain ⟨p34, pE7, hR35⟩ := e7
    obtain ⟨v33, vE7⟩ : ∃ x, vf 7 = x := ⟨_, rfl⟩
    rw [vE7] at hR35
    obtain ⟨⟨xhR35, rfl, xhR350, xhR351⟩, rfl⟩ := hR35
    have e8 : (vf 8) = .int .i64 (((n.fst + xhR27) - 1) - (intOf_o (vf 7))) ∧ (pf 8) = [] := hR 8 (by decide)
    rw [vE7] at e8
    refine dqQ [7, 8] [7, 8] rfl (zcc (sk 81 (congrArg some e8.1) (zab _)) (by simp only [pE7, vE7, e8.2, fS] <;> rfl) ?_)
    exact zco (zau (z := .int .i64 0) (s := 1) (cs := ([((n.fst + xhR27) - 1) - xhR35].map (Value.int .i64))) rfl Try.underlying26 rfl (by decide) rfl (by kernel_rfl) rfl) (fun v_ p_ h => by show IsRow 3 1 1 ([((n.fst + xhR27) - 1) - (intOf_o (vf 7))].map (Value.int .i64)) v_ p_; rw [vE7]; exact h)
   intro vf pf hmu hR
   have e1 := hR 1 (by decide)
   have e7 : (∃ pm_, (pf 7) = [pm_] ∧ (fun u_ p_ => (∃ x_ : Int, u_ = .int .i64 x_ ∧ 0 ≤ x_ ∧ x_ < min (n.fst + xhR27) 7) ∧ p_ = curE g a len cap) (vf 7) pm_) := hR 7 (by decide)
   obtain ⟨p34, pE7, hR35⟩ := e7
   obtain ⟨v33, vE7⟩ : ∃ x, vf 7 = x := ⟨_, rfl⟩
   rw [vE7] at hR35
   obtain ⟨⟨xhR35, rfl, xhR350, xhR351⟩, rfl⟩ := hR35
   have e9 : IsRow 3 1 1 ([((n.fst + xhR27) - 1) - (intOf_o (vf 7))].map (Value.int .i64)) (vf 9) (pf 9) := hR 9 (by decide)
   rw [vE7] at e9
   obtain ⟨g36, vE9, pE9⟩ := e9
   have q0 := hR 0 (by decide)
   have q1 := hR 1 (by decide)
   have q2 := hR 2 (by decide)
   have q3 := hR 3 (by decide)
   have q4 := hR 4 (by decide)
   have q5 := hR 5 (by decide)
   have q6 := hR 6 (by decide)
   have q8 := hR 8 (by decide)
   refine zce (zbe [70, 46, 18, 12, 11, 10, 9, 8, 7, 6, 2, 0] _ (sk 74 (congrArg some e1.1) (sk 82 (congrArg some vE9) (zab _))) rfl) (by simp only [pE7, vE7, pE9, vE9, q0.2, q1.2, q2.2, q3.2, q4.2, q5.2, q6.2, q8.2, fS] <;> rfl) ?_
   simp only [List.drop_succ_cons, List.drop_zero]
   refine zcf (i := 2) (z := .int .i64 0) (bytes := 8) rfl rfl rfl rfl Try.underlying26 (by kernel_rfl) rfl rfl rfl rfl (zah 1 rfl) (zbw _) (by first | omega | (simp; done) | (simp; omega)) (zbt xs ([((n.fst + xhR27) - 1) - xhR35])) (zcn xs ([((n.fst + xhR27) - 1) - xhR35])) (fun _ => rfl) ?_
   intro v37
   refine hvQ rfl (fdQ 2 rfl rfl rfl) (zcr (i := 2) rfl (fun ho38 => ?_))
   refine zed (i := 3) (cs' := #[.int .i64 ((n.ss.getD i sq0).kd), .int .i64 ((n.ss.getD i sq0).it), v37]) rfl rfl rfl rfl rfl rfl ho38 rfl rfl rfl rfl (zcb (zcv (reQ 1 rfl (hvQ rfl (vaQ rfl rfl rfl) (enQ 1 rfl ?_)))))
   refine zbo 12 [11, 10, 9, 0, 8, 7, 6, 5, 4, 3, 2] rfl rfl (by decide) ?_
   exact zbi (k + 1) v37 (xs ++ ([((n.fst + xhR27) - 1) - xhR35])) ⟨by omega, by rw [List.length_append, List.length_singleton]; omega, hxb.app (by omega)⟩ (by omega) (saQ rfl) (.refl _)
  refine ntQ (zaq rfl ?_)
  refine zaz (zdr ?_)
  refine zaf (zax (zay (hvQ rfl (fdQ 1 rfl rfl rfl) (hvQ rfl (zag rfl rfl rfl (zad 6 rfl rfl)) (hvQ rfl (zar (cs := [.int .i64 ((n.ss.getD i sq0).kd), .int .i64 ((n.ss.getD i sq0).it), ui]) rfl rfl rfl rfl rfl (zam 1 rfl 0 rfl)) ?_)))))
  refine zdu rfl (zau (z := .agg #[.int .i64 0, .int .i64 0, .slice none 0 0]) (s := 3) (cs := [.int .i64 ((n.ss.getD i sq0).kd), .int .i64 ((n.ss.getD i sq0).it), ui]) rfl Try.underlying24 rfl (by decide) rfl (by kernel_rfl) rfl) ?_
  intro g39
  refine zcr (i := 1) rfl (fun ho40 => ?_)
  refine zcf (i := 4) (z := .agg #[.int .i64 0, .int .i64 0, .slice none 0 0]) (bytes := 40) rfl rfl rfl rfl Try.underlying24 (by kernel_rfl) rfl rfl rfl rfl (zah 0 rfl) (zae rfl (zae rfl (zae ho40 zbj))) (by first | omega | (simp only [List.length_append, List.length_cons, List.length_nil]; omega)) (zbt ss [(Sq.mk ((n.ss.getD i sq0).kd) ((n.ss.getD i sq0).it) ui xs)]) (zcs sqC ss (Sq.mk ((n.ss.getD i sq0).kd) ((n.ss.getD i sq0).it) ui xs) _ rfl) (fun _ => rfl) ?_
  intro v41
  refine hvQ rfl (fdQ 1 rfl rfl rfl) (zcr (i := 4) rfl (fun ho42 => ?_))
  refine zed (i := 7) (cs' := #[.int .i64 n.ins, v41, .slice none 0 0, .slice none 0 0]) rfl rfl rfl rfl rfl rfl ho42 rfl rfl rfl rfl (zcb (zcv (reQ 1 rfl (hvQ rfl (vaQ rfl rfl rfl) (enQ 1 rfl ?_)))))
  refine zbo 12 [11, 10, 9, 8, 7, 6, 5, 4, 1, 3] rfl rfl (by decide) ?_
  refine zcx 2 rfl ?_
  exact zca (i + 1) v41 (ss ++ [(Sq.mk ((n.ss.getD i sq0).kd) ((n.ss.getD i sq0).it) ui xs)]) [bigE bs, rowE 3 1 ui xs.length (xs.map (Value.int .i64))] ⟨by omega, by rw [List.length_append, List.length_singleton]; omega, hsn.app (sqOk_len (hn.sq _ (zch (d := sq0) (by omega))) (by omega) _) hxb, fun w hw => (hbs w (zba hw List.mem_cons_self)).app (zbp (zba hw (List.mem_cons_of_mem _ List.mem_cons_self)))⟩ (by omega) (saQ rfl) (.refl _)
 refine ntQ (zaq rfl ?_)
 refine zaz (zdr ?_)
 refine zaf (zax (zac (zbc 1 rfl (zaw ?_))))
 refine lkQ4 (α := Nat) (β := Value) (γ := List Lt) (δ := List HP) [0, 2, 6, 7, 8, 9, 18, 46] rfl (fun j u3 ls bs2 => (bigE bs2 :: rowE 35 3 uq ss.length (ss.flatMap sqC) :: rowE 72 2 u3 ls.length (ls.flatMap ltC) :: rowE 3 1 (.slice none 0 0) 0 ([]) :: boxE b24 #[.int .i64 n.ins, uq, u3, .slice none 0 0] 28 :: curE g a len cap :: ntE n :: boxE b23 #[.int .i64 n.ins, n.sv, n.av, n.ov] 101 :: boxE b1 #[.int .i64 0, .slice none 0 0, .slice none 0 0, .slice none 0 0] 28 :: l)) (fun j u3 ls bs2 => [(13, .int .i64 (j : Int))]) (fun j u3 ls bs2 => (j : Int) ≤ xhR27 ∧ ls.length = j ∧ LutsOk n.fst ls ∧ ∀ w, (bigE bs2).holds w → RdsSqs w ss ∧ RdsLuts w ls) (fun j u3 ls bs2 => xhR27.toNat - j) 0 _ [] _ ⟨by omega, rfl, LutsOk.nil _, fun w hw => ⟨hbs w hw, RdsLuts.nil w⟩⟩ (saQ rfl) (.refl _) ?_
 intro j u3 ls bs2 hi43
 obtain ⟨hj, hll, hlo, hbs2⟩ := hi43
 refine zac (zac (reQ 2 rfl ?_))
 refine zbh rfl rfl rfl rfl rfl rfl (fun h44 => ?_) (fun h44 => ?_)
 ·
  refine ntQ (zao rfl (zcp (sbQ (srQ (hvQ rfl (zda (cs := #[.slice none 0 0, .int .i64 0]) rfl rfl rfl) ?_)))))
  refine zdt rfl (zbm (z := .agg #[.slice none 0 0, .int .i64 0]) rfl rfl) ?_
  intro b45
  refine zbr (cs' := #[.slice none 0 0, .int .i64 0]) (i := 0) (off := 0) (us := [.slice none 0 0, .int .i64 0]) rfl rfl rfl rfl rfl rfl rfl (zae rfl (zae rfl zbj)) rfl rfl rfl (ntQ (zac (zac (reQ 1 rfl ?_))))
  refine zdj (R := (fun u_ p_ => (∃ x_ : Int, u_ = .int .i64 x_ ∧ 0 ≤ x_ ∧ x_ < 5) ∧ p_ = curE g a len cap)) 6 rfl rfl rfl rfl rfl (fun l' w hm => zci g a len cap z 5 _ _ _ hm hb (by constructor <;> omega)) ?_
  intro v46 p47 hR48
  obtain ⟨⟨xhR48, rfl, xhR480, xhR481⟩, rfl⟩ := hR48
  refine zeb (l' := (boxE b45 #[.slice none 0 0, .int .i64 0] 72 :: bigE bs2 :: rowE 35 3 uq ss.length (ss.flatMap sqC) :: rowE 72 2 u3 ls.length (ls.flatMap ltC) :: rowE 3 1 (.slice none 0 0) 0 ([]) :: boxE b24 #[.int .i64 n.ins, uq, u3, .slice none 0 0] 28 :: curE g a len cap :: ntE n :: boxE b23 #[.int .i64 n.ins, n.sv, n.av, n.ov] 101 :: boxE b1 #[.int .i64 0, .slice none 0 0, .slice none 0 0, .slice none 0 0] 28 :: l)) rfl ?_
  refine zbb 1 rfl (zaw ?_)
  refine zdo (rowE 3 1 (.slice none 0 0) 0 ([]) :: boxE b45 #[.slice none 0 0, .int .i64 0] 72 :: bigE bs2 :: rowE 35 3 uq ss.length (ss.flatMap sqC) :: rowE 72 2 u3 ls.length (ls.flatMap ltC) :: rowE 3 1 (.slice none 0 0) 0 ([]) :: boxE b24 #[.int .i64 n.ins, uq, u3, .slice none 0 0] 28 :: curE g a len cap :: ntE n :: boxE b23 #[.int .i64 n.ins, n.sv, n.av, n.ov] 101 :: boxE b1 #[.int .i64 0, .slice none 0 0, .slice none 0 0, .slice none 0 0] 28 :: l) (fun w hm => hm.nilRow 3 1) ?_
  refine lkQ3 (α := Int) (β := Value) (γ := List Int) [0, 2, 6, 7, 8, 9, 13, 14, 18, 46, 93] rfl (fun k ui xs => (rowE 3 1 ui xs.length (xs.map (Value.int .i64)) :: boxE b45 #[ui, .int .i64 0] 72 :: bigE bs2 :: rowE 35 3 uq ss.length (ss.flatMap sqC) :: rowE 72 2 u3 ls.length (ls.flatMap ltC) :: rowE 3 1 (.slice none 0 0) 0 ([]) :: boxE b24 #[.int .i64 n.ins, uq, u3, .slice none 0 0] 28 :: curE g a len cap :: ntE n :: boxE b23 #[.int .i64 n.ins, n.sv, n.av, n.ov] 101 :: boxE b1 #[.int .i64 0, .slice none 0 0, .slice none 0 0, .slice none 0 0] 28 :: l)) (fun k ui xs => [(15, .int .i64 k)]) (fun k ui xs => (0 ≤ k ∧ k ≤ 4) ∧ (xs.length : Int) + k ≤ 4 ∧ BelowP xs (n.fst + (j : Int))) (fun k ui xs => k.toNat) _ _ [] ⟨by omega, by simp; omega, BelowP.nil _⟩ (saQ rfl) (.refl _) ?_
  intro k ui xs hi49
  obtain ⟨hk, hxl, hxb⟩ := hi49
  refine zac (zac (reQ 1 rfl ?_))
  refine zfa rfl rfl rfl rfl rfl rfl (fun h50 => ?_) (fun h50 => ?_)
  ·
   refine ntQ (zao rfl (zcp (sbQ ?_)))
   refine zfc 11 [10, 9, 8, 6, 5, 4, 3, 2, 1, 0, 7] rfl rfl (by decide) ?_
   refine zfi (l := (rowE 3 1 ui xs.length (xs.map (Value.int .i64)) :: boxE b45 #[ui, .int .i64 0] 72 :: bigE bs2 :: rowE 35 3 uq ss.length (ss.flatMap sqC) :: rowE 72 2 u3 ls.length (ls.flatMap ltC) :: rowE 3 1 (.slice none 0 0) 0 ([]) :: boxE b24 #[.int .i64 n.ins, uq, u3, .slice none 0 0] 28 :: ntE n :: boxE b23 #[.int .i64 n.ins, n.sv, n.av, n.ov] 101 :: boxE b1 #[.int .i64 0, .slice none 0 0, .slice none 0 0, .slice none 0 0] 28 :: l)) rfl 16 [0, 1, 2, 3, 4, 5, 6, 7, 8, 9, 10, 11, 12, 13, 14, 15] (List.take 16 _) (List.drop 16 _) [[], [0], [], [2], [], [3, 4], [5], [], [], [8], [], [9, 10], [11], [7, 12], [6, 13], [13, 14]] [103, 104, 105, 106, 107, 108, 109, 110, 111, 112, 113, 114, 115, 116, 117, 118] (fun i_ vs_ v_ p_ => match i_ with | 0 => v_ = .pointer (some ⟨b45, 0 + 0, none⟩) ∧ p_ = [] | 1 => v_ = ui ∧ p_ = [] | 2 => v_ = .agg #[.int .i64 n.ins, uq, u3, .slice none 0 0] ∧ p_ = [] | 3 => v_ = .int .i64 n.fst ∧ p_ = [] | 4 => v_ = .int .i64 (j : Int) ∧ p_ = [] | 5 => v_ = .int .i64 (n.fst + (j : Int)) ∧ p_ = [] | 6 => v_ = .int .i64 ((n.fst + (j : Int)) - 1) ∧ p_ = [] | 7 => v_ = .pointer (some ⟨g, 0, none⟩) ∧ p_ = [] | 8 => v_ = .agg #[.int .i64 n.ins, uq, u3, .slice none 0 0] ∧ p_ = [] | 9 => v_ = .int .i64 n.fst ∧ p_ = [] | 10 => v_ = .int .i64 (j : Int) ∧ p_ = [] | 11 => v_ = .int .i64 (n.fst + (j : Int)) ∧ p_ = [] | 12 => v_ = .int .i64 (min (n.fst + (j : Int)) 8) ∧ p_ = [] | 13 => (∃ pm_, p_ = [pm_] ∧ (fun u_ p_ => (∃ x_ : Int, u_ = .int .i64 x_ ∧ 0 ≤ x_ ∧ x_ < min (n.fst + (j : Int)) 8) ∧ p_ = curE g a len cap) v_ pm_) | 14 => v_ = .int .i64 (((n.fst + (j : Int)) - 1) - (intOf_o (List.getD vs_ 1 undef))) ∧ p_ = [] | 15 => IsRow 3 1 1 ([((n.fst + (j : Int)) - 1) - (intOf_o (List.getD vs_ 0 undef))].map (Value.int .i64)) v_ p_ | _ => True) [[], [0], [], [2], [], [3, 4], [5], [], [], [8], [], [9, 10], [11], [7, 12], [6, 13], [13, 14]] [none, none, none, none, none, none, none, none, none, none, none, none, none, some 19, none, none] [curE g a len cap] [0, 1, 2, 3, 4, 5, 6, 7, 8, 9, 10, 11, 12, 13, 14, 15] 19 (List.take_append_drop 16 _).symm (by kernel_rfl) (by kernel_rfl) (by kernel_rfl) rfl rfl ?_ ?_
   ·
    refine ⟨?_, ?_, ?_, ?_, ?_, ?_, ?_, ?_, ?_, ?_, ?_, ?_, ?_, ?_, ?_, ?_, trivial⟩
    ·
     intro vf pf hmu hR
     refine dqQ [] [] rfl (zbu (zai [14] rfl) ?_)
     exact zbd (fdQ 0 rfl rfl rfl)
    ·
     intro vf pf hmu hR
     have e0 := hR 0 (by decide)
     refine dqQ [0] [0] rfl (zbq (sk 103 (congrArg some e0.1) (zab _)) (List.sublist_append_right _ _) ?_)
     exact zbd (zag rfl rfl rfl (zad 1 rfl rfl))
    ·
     intro vf pf hmu hR
     refine dqQ [] [] rfl (zbq (zai [7] rfl) (List.sublist_append_right _ _) ?_)
     exact zbd (zar (cs := [.int .i64 n.ins, uq, u3, .slice none 0 0]) rfl rfl rfl rfl rfl (zam 6 rfl 0 rfl))
    ·
     intro vf pf hmu hR
     have e2 := hR 2 (by decide)
     refine dqQ [2] [2] rfl (zbq (sk 105 (congrArg some e2.1) (zab _)) (List.sublist_append_right _ _) ?_)
     exact (zal (by kernel_rfl) rfl (fun w hm => zas (by have h9 := zfn (Ln.mk n.ins uq u3 (.slice none 0 0) ss ls []) w ⟨⟨zah 3 rfl w hm, (hbs2 w (hm.holds _ (zby (i := 2) rfl))).1⟩, ⟨zah 4 rfl w hm, (hbs2 w (hm.holds _ (zby (i := 2) rfl))).2⟩, rd_nil (w0 := w) (l := []) w (Mem.refl w)⟩ ⟨by show 0 ≤ n.ins ∧ n.ins ≤ 20; omega, by show ss.length ≤ 12; omega, by show ls.length ≤ 400; omega, by show 0 ≤ 16; omega⟩; rw [show (Ln.mk n.ins uq u3 (.slice none 0 0) ss ls []).fst = n.fst by show 1 + n.ins + (ss.length : Int) = n.fst; omega] at h9; exact h9)))
    ·
     intro vf pf hmu hR
     refine dqQ [] [] rfl (zbu (zai [13] rfl) ?_)
     exact zbd (zaj rfl)
    ·
     intro vf pf hmu hR
     have e3 := hR 3 (by decide)
     have e4 := hR 4 (by decide)
     refine dqQ [3, 4] [3, 4] rfl (zbu (sk 106 (congrArg some e3.1) (sk 107 (congrArg some e4.1) (zab _))) ?_)
     exact zbd (vaQ rfl rfl rfl)
    ·
     intro vf pf hmu hR
     have e5 := hR 5 (by decide)
     refine dqQ [5] [5] rfl (zbu (sk 108 (congrArg some e5.1) (zab _)) ?_)
     exact zbd (vsQ rfl rfl rfl)
    ·
     intro vf pf hmu hR
     refine dqQ [] [] rfl (zbu (zai [0] rfl) ?_)
     exact zbd (zaj rfl)
    ·
     intro vf pf hmu hR
     refine dqQ [] [] rfl (zbq (zai [7] rfl) (List.sublist_append_right _ _) ?_)
     exact zbd (zar (cs := [.int .i64 n.ins, uq, u3, .slice none 0 0]) rfl rfl rfl rfl rfl (zam 6 rfl 0 rfl))
    ·
     intro vf pf hmu hR
     have e8 := hR 8 (by decide)
     refine dqQ [8] [8] rfl (zbq (sk 111 (congrArg some e8.1) (zab _)) (List.sublist_append_right _ _) ?_)
     exact (zal (by kernel_rfl) rfl (fun w hm => zas (by have h9 := zfn (Ln.mk n.ins uq u3 (.slice none 0 0) ss ls []) w ⟨⟨zah 3 rfl w hm, (hbs2 w (hm.holds _ (zby (i := 2) rfl))).1⟩, ⟨zah 4 rfl w hm, (hbs2 w (hm.holds _ (zby (i := 2) rfl))).2⟩, rd_nil (w0 := w) (l := []) w (Mem.refl w)⟩ ⟨by show 0 ≤ n.ins ∧ n.ins ≤ 20; omega, by show ss.length ≤ 12; omega, by show ls.length ≤ 400; omega, by show 0 ≤ 16; omega⟩; rw [show (Ln.mk n.ins uq u3 (.slice none 0 0) ss ls []).fst = n.fst by show 1 + n.ins + (ss.length : Int) = n.fst; omega] at h9; exact h9)))
    ·
     intro vf pf hmu hR
     refine dqQ [] [] rfl (zbu (zai [13] rfl) ?_)
     exact zbd (zaj rfl)
    ·
     intro vf pf hmu hR
     have e9 := hR 9 (by decide)
     have e10 := hR 10 (by decide)
     refine dqQ [9, 10] [9, 10] rfl (zbu (sk 112 (congrArg some e9.1) (sk 113 (congrArg some e10.1) (zab _))) ?_)
     exact zbd (vaQ rfl rfl rfl)
    ·
     intro vf pf hmu hR
     have e11 := hR 11 (by decide)
     refine dqQ [11] [11] rfl (zbu (sk 114 (congrArg some e11.1) (zab _)) ?_)
     exact zbd (rv_min rfl rfl rfl)
    ·
     intro vf pf hmu hR
     have e7 := hR 7 (by decide)
     have e12 := hR 12 (by decide)
     refine Or.inl ⟨rfl, ?_⟩
     show RunM _ _ _ (pf 19) (([7, 12] : List Nat).flatMap pf ++ _) (envOf _ vf [7, 12] ++ _) _ _
     rw [hmu]
     exact zdd (sk 110 (congrArg some e7.1) (sk 115 (congrArg some e12.1) (zab _))) (by simp only [e7.2, e12.2, fS] <;> rfl) (zdw (R := (fun u_ p_ => (∃ x_ : Int, u_ = .int .i64 x_ ∧ 0 ≤ x_ ∧ x_ < min (n.fst + (j : Int)) 8) ∧ p_ = curE g a len cap)) rfl rfl (fun L w hX hm => zci g a len cap z (min (n.fst + (j : Int)) 8) _ _ _ hm hb (by constructor <;> omega)))
    ·
     intro vf pf hmu hR
     have e6 := hR 6 (by decide)
     have e13 : (∃ pm_, (pf 13) = [pm_] ∧ (fun u_ p_ => (∃ x_ : Int, u_ = .int .i64 x_ ∧ 0 ≤ x_ ∧ x_ < min (n.fst + (j : Int)) 8) ∧ p_ = curE g a len cap) (vf 13) pm_) := hR 13 (by decide)
     obtain ⟨p52, pE13, hR53⟩ := e13
     obtain ⟨v51, vE13⟩ : ∃ x, vf 13 = x := ⟨_, rfl⟩
     rw [vE13] at hR53
     obtain ⟨⟨xhR53, rfl, xhR530, xhR531⟩, rfl⟩ := hR53
     refine dqQ [6, 13] [6, 13] rfl (zcc (sk 109 (congrArg some e6.1) (sk 116 (congrArg some vE13) (zab _))) (by simp only [pE13, vE13, e6.2, fS] <;> rfl) ?_)
     exact zco (zbd (vsQ rfl rfl rfl)) (fun _ _ h => ⟨h.1.trans (by show _ = (.int .i64 (((n.fst + (j : Int)) - 1) - (intOf_o (vf 13))) : Value); first | (rw [vE13]; done) | (rw [vE13]; rfl)), h.2⟩)
    intro vf pf hmu hR
    have e13 : (∃ pm_, (pf 13) = [pm_] ∧ (fun u_ p_ => (∃ x_ : Int, u_ = .int .i64 x_ ∧ 0 ≤ x_ ∧ x_ < min (n.fst + (j : Int)) 8) ∧ p_ = curE g a len cap) (vf 13) pm_) := hR 13 (by decide)
    obtain ⟨p52, pE13, hR53⟩ := e13
    obtain ⟨v51, vE13⟩ : ∃ x, vf 13 = x := ⟨_, rfl⟩
    rw [vE13] at hR53
    obtain ⟨⟨xhR53, rfl, xhR530, xhR531⟩, rfl⟩ := hR53
    have e14 : (vf 14) = .int .i64 (((n.fst + (j : Int)) - 1) - (intOf_o (vf 13))) ∧ (pf 14) = [] := hR 14 (by decide)
    rw [vE13] at e14
    refine dqQ [13, 14] [13, 14] rfl (zcc (sk 117 (congrArg some e14.1) (zab _)) (by simp only [pE13, vE13, e14.2, fS] <;> rfl) ?_)
    exact zco (zau (z := .int .i64 0) (s := 1) (cs := ([((n.fst + (j : Int)) - 1) - xhR53].map (Value.int .i64))) rfl Try.underlying26 rfl (by decide) rfl (by kernel_rfl) rfl) (fun v_ p_ h => by show IsRow 3 1 1 ([((n.fst + (j : Int)) - 1) - (intOf_o (vf 13))].map (Value.int .i64)) v_ p_; rw [vE13]; exact h)
   intro vf pf hmu hR
   have e1 := hR 1 (by decide)
   have e13 : (∃ pm_, (pf 13) = [pm_] ∧ (fun u_ p_ => (∃ x_ : Int, u_ = .int .i64 x_ ∧ 0 ≤ x_ ∧ x_ < min (n.fst + (j : Int)) 8) ∧ p_ = curE g a len cap) (vf 13) pm_) := hR 13 (by decide)
   obtain ⟨p52, pE13, hR53⟩ := e13
   obtain ⟨v51, vE13⟩ : ∃ x, vf 13 = x := ⟨_, rfl⟩
   rw [vE13] at hR53
   obtain ⟨⟨xhR53, rfl, xhR530, xhR531⟩, rfl⟩ := hR53
   have e15 : IsRow 3 1 1 ([((n.fst + (j : Int)) - 1) - (intOf_o (vf 13))].map (Value.int .i64)) (vf 15) (pf 15) := hR 15 (by decide)
   rw [vE13] at e15
   obtain ⟨g54, vE15, pE15⟩ := e15
   have q0 := hR 0 (by decide)
   have q1 := hR 1 (by decide)
   have q2 := hR 2 (by decide)
   have q3 := hR 3 (by decide)
   have q4 := hR 4 (by decide)
   have q5 := hR 5 (by decide)
   have q6 := hR 6 (by decide)
   have q7 := hR 7 (by decide)
   have q8 := hR 8 (by decide)
   have q9 := hR 9 (by decide)
   have q10 := hR 10 (by decide)
   have q11 := hR 11 (by decide)
   have q12 := hR 12 (by decide)
   have q14 := hR 14 (by decide)
   refine zce (zbe [100, 93, 46, 18, 15, 14, 13, 9, 8, 7, 6, 2, 0] _ (sk 104 (congrArg some e1.1) (sk 118 (congrArg some vE15) (zab _))) rfl) (by simp only [pE13, vE13, pE15, vE15, q0.2, q1.2, q2.2, q3.2, q4.2, q5.2, q6.2, q7.2, q8.2, q9.2, q10.2, q11.2, q12.2, q14.2, fS] <;> rfl) ?_
   simp only [List.drop_succ_cons, List.drop_zero]
   refine zcf (i := 2) (z := .int .i64 0) (bytes := 8) rfl rfl rfl rfl Try.underlying26 (by kernel_rfl) rfl rfl rfl rfl (zah 1 rfl) (zbw _) (by first | omega | (simp; done) | (simp; omega)) (zbt xs ([((n.fst + (j : Int)) - 1) - xhR53])) (zcn xs ([((n.fst + (j : Int)) - 1) - xhR53])) (fun _ => rfl) ?_
   intro v55
   refine hvQ rfl (fdQ 0 rfl rfl rfl) (zcr (i := 2) rfl (fun ho56 => ?_))
   refine zed (i := 3) (cs' := #[v55, .int .i64 0]) rfl rfl rfl rfl rfl rfl ho56 rfl rfl rfl rfl (zcb (zcv (reQ 1 rfl (hvQ rfl (vsQ rfl rfl rfl) (enQ 1 rfl ?_)))))
   refine zbo 12 [11, 10, 9, 0, 8, 7, 6, 5, 4, 3, 2] rfl rfl (by decide) ?_
   exact zbi (k - 1) v55 (xs ++ ([((n.fst + (j : Int)) - 1) - xhR53])) ⟨by omega, by rw [List.length_append, List.length_singleton]; omega, hxb.app (by omega)⟩ (by omega) (saQ rfl) (.refl _)
  refine ntQ (zaq rfl ?_)
  refine zaz (zdr ?_)
  refine zaf (zax (zac (reQ 1 rfl (hvQ rfl (fdQ 0 rfl rfl rfl) (hvQ rfl (zag rfl rfl rfl (zad 1 rfl rfl)) (hvQ rfl (lnQ rfl rfl rfl (zah 0 rfl)) ?_))))))
  have hq9 := qT_rng (n := (xs.length : Int)) (by omega)
  refine zdn rfl (zal rfl rfl (fun w hm => zas (l02FullT_ans (xs.length : Int) w (by omega)))) (hvQ rfl (vaQ rfl rfl rfl) ?_)
  refine zdj (R := (fun u_ p_ => (∃ x_ : Int, u_ = .int .i64 x_ ∧ 0 ≤ x_ ∧ x_ < (qT (xs.length : Int) - 1) + 1) ∧ p_ = curE g a len cap)) 7 rfl rfl rfl rfl rfl (fun l' w hm => zci g a len cap z ((qT (xs.length : Int) - 1) + 1) _ _ _ hm hb (by constructor <;> omega)) ?_
  intro v57 p58 hR59
  obtain ⟨⟨xhR59, rfl, xhR590, xhR591⟩, rfl⟩ := hR59
  refine zeb (l' := (rowE 3 1 ui xs.length (xs.map (Value.int .i64)) :: boxE b45 #[ui, .int .i64 0] 72 :: bigE bs2 :: rowE 35 3 uq ss.length (ss.flatMap sqC) :: rowE 72 2 u3 ls.length (ls.flatMap ltC) :: rowE 3 1 (.slice none 0 0) 0 ([]) :: boxE b24 #[.int .i64 n.ins, uq, u3, .slice none 0 0] 28 :: curE g a len cap :: ntE n :: boxE b23 #[.int .i64 n.ins, n.sv, n.av, n.ov] 101 :: boxE b1 #[.int .i64 0, .slice none 0 0, .slice none 0 0, .slice none 0 0] 28 :: l)) rfl ?_
  refine hvQ rfl (fdQ 1 rfl rfl rfl) (zed (i := 1) (cs' := #[ui, .int .i64 xhR59]) rfl rfl rfl rfl rfl rfl rfl rfl rfl rfl rfl ?_)
  refine ntQ (zay (hvQ rfl (fdQ 2 rfl rfl rfl) (hvQ rfl (zag rfl rfl rfl (zad 6 rfl rfl)) (hvQ rfl (zar (cs := [ui, .int .i64 xhR59]) rfl rfl rfl rfl rfl (zam 1 rfl 0 rfl)) ?_))))
  refine zdu rfl (zau (z := .agg #[.slice none 0 0, .int .i64 0]) (s := 2) (cs := [ui, .int .i64 xhR59]) rfl Try.underlying25 rfl (by decide) rfl (by kernel_rfl) rfl) ?_
  intro g60
  refine zcr (i := 1) rfl (fun ho61 => ?_)
  refine zcf (i := 5) (z := .agg #[.slice none 0 0, .int .i64 0]) (bytes := 32) rfl rfl rfl rfl Try.underlying25 (by kernel_rfl) rfl rfl rfl rfl (zah 0 rfl) (zae ho61 (zae rfl zbj)) (by first | omega | (simp only [List.length_append, List.length_cons, List.length_nil]; omega)) (zbt ls [(Lt.mk ui xs xhR59)]) (zcs ltC ls (Lt.mk ui xs xhR59) _ rfl) (fun _ => rfl) ?_
  intro v62
  refine hvQ rfl (fdQ 2 rfl rfl rfl) (zcr (i := 5) rfl (fun ho63 => ?_))
  refine zed (i := 7) (cs' := #[.int .i64 n.ins, uq, v62, .slice none 0 0]) rfl rfl rfl rfl rfl rfl ho63 rfl rfl rfl rfl (zcb (zcv (reQ 1 rfl (hvQ rfl (vaQ rfl rfl rfl) (enQ 1 rfl ?_)))))
  refine zbo 12 [11, 10, 9, 8, 7, 6, 5, 4, 1, 3] rfl rfl (by decide) ?_
  refine zcx 2 rfl ?_
  exact zca (j + 1) v62 (ls ++ [(Lt.mk ui xs xhR59)]) [bigE bs2, rowE 3 1 ui xs.length (xs.map (Value.int .i64))] ⟨by omega, by rw [List.length_append, List.length_singleton]; omega, hlo.app ⟨⟨by show xs.length ≤ 4; omega, by rw [show n.fst + (ls.length : Int) = n.fst + (j : Int) by omega]; exact hxb⟩, ⟨by show 0 ≤ (xs.length : Int) ∧ (xs.length : Int) ≤ 4; omega, by dsimp only; omega⟩⟩, fun w hw => ⟨(hbs2 w (zba hw List.mem_cons_self)).1, (hbs2 w (zba hw List.mem_cons_self)).2.app (zbp (zba hw (List.mem_cons_of_mem _ List.mem_cons_self)))⟩⟩ (by omega) (saQ rfl) (.refl _)
 refine ntQ (zaq rfl ?_)
 refine zaz (zdr ?_)
 refine zaf (zax (zac (zac (reQ 1 rfl ?_))))
 refine zdj (R := (fun u_ p_ => (∃ x_ : Int, u_ = .int .i64 x_ ∧ 0 ≤ x_ ∧ x_ < 3) ∧ p_ = curE g a len cap)) 5 rfl rfl rfl rfl rfl (fun l' w hm => zci g a len cap z 3 _ _ _ hm hb (by constructor <;> omega)) ?_
 intro v64 p65 hR66
 obtain ⟨⟨xhR66, rfl, xhR660, xhR661⟩, rfl⟩ := hR66
 refine zeb (l' := (bigE bs2 :: rowE 35 3 uq ss.length (ss.flatMap sqC) :: rowE 72 2 u3 ls.length (ls.flatMap ltC) :: rowE 3 1 (.slice none 0 0) 0 ([]) :: boxE b24 #[.int .i64 n.ins, uq, u3, .slice none 0 0] 28 :: curE g a len cap :: ntE n :: boxE b23 #[.int .i64 n.ins, n.sv, n.av, n.ov] 101 :: boxE b1 #[.int .i64 0, .slice none 0 0, .slice none 0 0, .slice none 0 0] 28 :: l)) rfl ?_
 refine zbb 1 rfl (zaw ?_)
 refine lkQ3 (α := Int) (β := Value) (γ := List Int) [0, 2, 6, 7, 8, 9, 18, 46, 93] rfl (fun k uo os => (bigE bs2 :: rowE 35 3 uq ss.length (ss.flatMap sqC) :: rowE 72 2 u3 ls.length (ls.flatMap ltC) :: rowE 3 1 uo os.length (os.map (Value.int .i64)) :: boxE b24 #[.int .i64 n.ins, uq, u3, uo] 28 :: curE g a len cap :: ntE n :: boxE b23 #[.int .i64 n.ins, n.sv, n.av, n.ov] 101 :: boxE b1 #[.int .i64 0, .slice none 0 0, .slice none 0 0, .slice none 0 0] 28 :: l)) (fun k uo os => [(16, .int .i64 k)]) (fun k uo os => (-1 ≤ k ∧ k ≤ 3) ∧ (os.length : Int) + k ≤ 3 ∧ BelowP os (n.fst + xhR27)) (fun k uo os => (k + 1).toNat) _ _ [] ⟨by omega, by simp; omega, BelowP.nil _⟩ (saQ rfl) (.refl _) ?_
 intro k uo os hi67
 obtain ⟨hk0, hol, hoo⟩ := hi67
 refine zac (zac (reQ 1 rfl ?_))
 refine zfh rfl rfl rfl rfl rfl rfl (fun h68 => ?_) (fun h68 => ?_)
 ·
  refine ntQ (zao rfl (zcp (sbQ ?_)))
  refine zfc 9 [8, 7, 6, 4, 3, 2, 1, 0, 5] rfl rfl (by decide) ?_
  refine zfi (l := (bigE bs2 :: rowE 35 3 uq ss.length (ss.flatMap sqC) :: rowE 72 2 u3 ls.length (ls.flatMap ltC) :: rowE 3 1 uo os.length (os.map (Value.int .i64)) :: boxE b24 #[.int .i64 n.ins, uq, u3, uo] 28 :: ntE n :: boxE b23 #[.int .i64 n.ins, n.sv, n.av, n.ov] 101 :: boxE b1 #[.int .i64 0, .slice none 0 0, .slice none 0 0, .slice none 0 0] 28 :: l)) rfl 10 [0, 1, 2, 3, 4, 5, 6, 7, 8, 9] (List.take 10 _) (List.drop 10 _) [[], [0], [], [2], [], [], [5], [4, 6], [3, 7], [7, 8]] [141, 142, 143, 144, 145, 146, 147, 148, 149, 150] (fun i_ vs_ v_ p_ => match i_ with | 0 => v_ = .pointer (some ⟨b24, 0 + 3, none⟩) ∧ p_ = [] | 1 => v_ = uo ∧ p_ = [] | 2 => v_ = .int .i64 (n.fst + xhR27) ∧ p_ = [] | 3 => v_ = .int .i64 ((n.fst + xhR27) - 1) ∧ p_ = [] | 4 => v_ = .pointer (some ⟨g, 0, none⟩) ∧ p_ = [] | 5 => v_ = .int .i64 (n.fst + xhR27) ∧ p_ = [] | 6 => v_ = .int .i64 (min (n.fst + xhR27) 6) ∧ p_ = [] | 7 => (∃ pm_, p_ = [pm_] ∧ (fun u_ p_ => (∃ x_ : Int, u_ = .int .i64 x_ ∧ 0 ≤ x_ ∧ x_ < min (n.fst + xhR27) 6) ∧ p_ = curE g a len cap) v_ pm_) | 8 => v_ = .int .i64 (((n.fst + xhR27) - 1) - (intOf_o (List.getD vs_ 1 undef))) ∧ p_ = [] | 9 => IsRow 3 1 1 ([((n.fst + xhR27) - 1) - (intOf_o (List.getD vs_ 0 undef))].map (Value.int .i64)) v_ p_ | _ => True) [[], [0], [], [2], [], [], [5], [4, 6], [3, 7], [7, 8]] [none, none, none, none, none, none, none, some 13, none, none] [curE g a len cap] [0, 1, 2, 3, 4, 5, 6, 7, 8, 9] 13 (List.take_append_drop 10 _).symm (by kernel_rfl) (by kernel_rfl) (by kernel_rfl) rfl rfl ?_ ?_
  ·
   refine ⟨?_, ?_, ?_, ?_, ?_, ?_, ?_, ?_, ?_, ?_, trivial⟩
   ·
    intro vf pf hmu hR
    refine dqQ [] [] rfl (zbu (zai [7] rfl) ?_)
    exact zbd (fdQ 3 rfl rfl rfl)
   ·
    intro vf pf hmu hR
    have e0 := hR 0 (by decide)
    refine dqQ [0] [0] rfl (zbq (sk 141 (congrArg some e0.1) (zab _)) (List.sublist_append_right _ _) ?_)
    exact zbd (zag rfl rfl rfl (zad 4 rfl rfl))
   ·
    intro vf pf hmu hR
    refine dqQ [] [] rfl (zbu (zai [9] rfl) ?_)
    exact zbd (zaj rfl)
   ·
    intro vf pf hmu hR
    have e2 := hR 2 (by decide)
    refine dqQ [2] [2] rfl (zbu (sk 143 (congrArg some e2.1) (zab _)) ?_)
    exact zbd (vsQ rfl rfl rfl)
   ·
    intro vf pf hmu hR
    refine dqQ [] [] rfl (zbu (zai [0] rfl) ?_)
    exact zbd (zaj rfl)
   ·
    intro vf pf hmu hR
    refine dqQ [] [] rfl (zbu (zai [9] rfl) ?_)
    exact zbd (zaj rfl)
   ·
    intro vf pf hmu hR
    have e5 := hR 5 (by decide)
    refine dqQ [5] [5] rfl (zbu (sk 146 (congrArg some e5.1) (zab _)) ?_)
    exact zbd (rv_min rfl rfl rfl)
   ·
    intro vf pf hmu hR
    have e4 := hR 4 (by decide)
    have e6 := hR 6 (by decide)
    refine Or.inl ⟨rfl, ?_⟩
    show RunM _ _ _ (pf 13) (([4, 6] : List Nat).flatMap pf ++ _) (envOf _ vf [4, 6] ++ _) _ _
    rw [hmu]
    exact zdd (sk 145 (congrArg some e4.1) (sk 147 (congrArg some e6.1) (zab _))) (by simp only [e4.2, e6.2, fS] <;> rfl) (zdw (R := (fun u_ p_ => (∃ x_ : Int, u_ = .int .i64 x_ ∧ 0 ≤ x_ ∧ x_ < min (n.fst + xhR27) 6) ∧ p_ = curE g a len cap)) rfl rfl (fun L w hX hm => zci g a len cap z (min (n.fst + xhR27) 6) _ _ _ hm hb (by constructor <;> omega)))
   ·
    intro vf pf hmu hR
    have e3 := hR 3 (by decide)
    have e7 : (∃ pm_, (pf 7) = [pm_] ∧ (fun u_ p_ => (∃ x_ : Int, u_ = .int .i64 x_ ∧ 0 ≤ x_ ∧ x_ < min (n.fst + xhR27) 6) ∧ p_ = curE g a len cap) (vf 7) pm_) := hR 7 (by decide)
    obtain ⟨p70, pE7, hR71⟩ := e7
    obtain ⟨v69, vE7⟩ : ∃ x, vf 7 = x := ⟨_, rfl⟩
    rw [vE7] at hR71
    obtain ⟨⟨xhR71, rfl, xhR710, xhR711⟩, rfl⟩ := hR71
    refine dqQ [3, 7] [3, 7] rfl (zcc (sk 144 (congrArg some e3.1) (sk 148 (congrArg some vE7) (zab _))) (by simp only [pE7, vE7, e3.2, fS] <;> rfl) ?_)
    exact zco (zbd (vsQ rfl rfl rfl)) (fun _ _ h => ⟨h.1.trans (by show _ = (.int .i64 (((n.fst + xhR27) - 1) - (intOf_o (vf 7))) : Value); first | (rw [vE7]; done) | (rw [vE7]; rfl)), h.2⟩)
   intro vf pf hmu hR
   have e7 : (∃ pm_, (pf 7) = [pm_] ∧ (fun u_ p_ => (∃ x_ : Int, u_ = .int .i64 x_ ∧ 0 ≤ x_ ∧ x_ < min (n.fst + xhR27) 6) ∧ p_ = curE g a len cap) (vf 7) pm_) := hR 7 (by decide)
   obtain ⟨p70, pE7, hR71⟩ := e7
   obtain ⟨v69, vE7⟩ : ∃ x, vf 7 = x := ⟨_, rfl⟩
   rw [vE7] at hR71
   obtain ⟨⟨xhR71, rfl, xhR710, xhR711⟩, rfl⟩ := hR71
   have e8 : (vf 8) = .int .i64 (((n.fst + xhR27) - 1) - (intOf_o (vf 7))) ∧ (pf 8) = [] := hR 8 (by decide)
   rw [vE7] at e8
   refine dqQ [7, 8] [7, 8] rfl (zcc (sk 149 (congrArg some e8.1) (zab _)) (by simp only [pE7, vE7, e8.2, fS] <;> rfl) ?_)
   exact zco (zau (z := .int .i64 0) (s := 1) (cs := ([((n.fst + xhR27) - 1) - xhR71].map (Value.int .i64))) rfl Try.underlying26 rfl (by decide) rfl (by kernel_rfl) rfl) (fun v_ p_ h => by show IsRow 3 1 1 ([((n.fst + xhR27) - 1) - (intOf_o (vf 7))].map (Value.int .i64)) v_ p_; rw [vE7]; exact h)
  intro vf pf hmu hR
  have e1 := hR 1 (by decide)
  have e7 : (∃ pm_, (pf 7) = [pm_] ∧ (fun u_ p_ => (∃ x_ : Int, u_ = .int .i64 x_ ∧ 0 ≤ x_ ∧ x_ < min (n.fst + xhR27) 6) ∧ p_ = curE g a len cap) (vf 7) pm_) := hR 7 (by decide)
  obtain ⟨p70, pE7, hR71⟩ := e7
  obtain ⟨v69, vE7⟩ : ∃ x, vf 7 = x := ⟨_, rfl⟩
  rw [vE7] at hR71
  obtain ⟨⟨xhR71, rfl, xhR710, xhR711⟩, rfl⟩ := hR71
  have e9 : IsRow 3 1 1 ([((n.fst + xhR27) - 1) - (intOf_o (vf 7))].map (Value.int .i64)) (vf 9) (pf 9) := hR 9 (by decide)
  rw [vE7] at e9
  obtain ⟨g72, vE9, pE9⟩ := e9
  have q0 := hR 0 (by decide)
  have q1 := hR 1 (by decide)
  have q2 := hR 2 (by decide)
  have q3 := hR 3 (by decide)
  have q4 := hR 4 (by decide)
  have q5 := hR 5 (by decide)
  have q6 := hR 6 (by decide)
  have q8 := hR 8 (by decide)
  refine zce (zbe [138, 93, 46, 18, 16, 9, 8, 7, 6, 2, 0] _ (sk 142 (congrArg some e1.1) (sk 150 (congrArg some vE9) (zab _))) rfl) (by simp only [pE7, vE7, pE9, vE9, q0.2, q1.2, q2.2, q3.2, q4.2, q5.2, q6.2, q8.2, fS] <;> rfl) ?_
  simp only [List.drop_succ_cons, List.drop_zero]
  refine zcf (i := 5) (z := .int .i64 0) (bytes := 8) rfl rfl rfl rfl Try.underlying26 (by kernel_rfl) rfl rfl rfl rfl (zah 1 rfl) (zbw _) (by first | omega | (simp; done) | (simp; omega)) (zbt os ([((n.fst + xhR27) - 1) - xhR71])) (zcn os ([((n.fst + xhR27) - 1) - xhR71])) (fun _ => rfl) ?_
  intro v73
  refine hvQ rfl (fdQ 3 rfl rfl rfl) (zcr (i := 5) rfl (fun ho74 => ?_))
  refine zed (i := 6) (cs' := #[.int .i64 n.ins, uq, u3, v73]) rfl rfl rfl rfl rfl rfl ho74 rfl rfl rfl rfl (zcb (zcv (reQ 1 rfl (hvQ rfl (vsQ rfl rfl rfl) (enQ 1 rfl ?_)))))
  refine zbo 10 [9, 8, 7, 0, 6, 5, 4, 3, 2] rfl rfl (by decide) ?_
  exact zbi (k - 1) v73 (os ++ ([((n.fst + xhR27) - 1) - xhR71])) ⟨by omega, by rw [List.length_append, List.length_singleton]; omega, hoo.app (by omega)⟩ (by omega) (saQ rfl) (.refl _)
 refine ntQ (zaq rfl ?_)
 refine zaz (zdr ?_)
 refine zaf (zax (srQ (hvQ rfl (zar (cs := [.int .i64 n.ins, uq, u3, uo]) rfl rfl rfl rfl rfl (zam 4 rfl 0 rfl)) ?_)))
 refine zcr (i := 3) rfl (fun ho75 => ?_)
 refine zcr (i := 2) rfl (fun ho76 => ?_)
 refine zcr (i := 1) rfl (fun ho77 => ?_)
 refine zbr (cs' := #[.int .i64 n.ins, uq, u3, uo]) (i := 8) (off := 0) (us := [.int .i64 n.ins, uq, u3, uo]) rfl rfl rfl rfl rfl rfl rfl (zae rfl (zae ho77 (zae ho76 (zae ho75 zbj)))) rfl rfl rfl (ntQ ?_)
 refine zav (zdv (fun w hm => (zah 1 rfl w hm).one) (fun ho1 => ?_))
 refine zdv (fun w hm => (zah 2 rfl w hm).one) (fun ho2 => ?_)
 refine zdv (fun w hm => (zah 3 rfl w hm).one) (fun ho3 => ?_)
 refine zbo 9 [8, 5, 0, 3, 2, 1] rfl rfl (by decide) ?_
 refine zcx 4 rfl ?_
 refine zbo 3 [2, 0, 1] rfl rfl (by decide) ?_
 refine zcx 2 rfl ?_
 exact hq_ret (rs := [.cell 2 28]) (vs := [.agg #[.int .i64 n.ins, uq, u3, uo]]) rfl ⟨⟨b1, 0, [.int .i64 n.ins, uq, u3, uo], rfl, rfl, by kernel_rfl, by kernel_rfl, zam 1 rfl 0 rfl⟩, trivial⟩ rfl (fun w hm => ⟨_, bigE [curE g a len cap, bigE [rowE 35 3 uq ss.length (ss.flatMap sqC), rowE 72 2 u3 ls.length (ls.flatMap ltC), rowE 3 1 uo os.length (os.map (Value.int .i64)), bigE bs2]], rfl, ⟨_, (Ln.mk n.ins uq u3 uo ss ls os), rfl, rfl, fun w hw => ⟨⟨zbp (zba hw List.mem_cons_self), (hbs2 w (zba hw (List.mem_cons_of_mem _ (List.mem_cons_of_mem _ (List.mem_cons_of_mem _ List.mem_cons_self))))).1⟩, ⟨zbp (zba hw (List.mem_cons_of_mem _ List.mem_cons_self)), (hbs2 w (zba hw (List.mem_cons_of_mem _ (List.mem_cons_of_mem _ (List.mem_cons_of_mem _ List.mem_cons_self))))).2⟩, zbp (zba hw (List.mem_cons_of_mem _ (List.mem_cons_of_mem _ List.mem_cons_self)))⟩, ⟨ho1, ho2, ho3⟩, ln_mk hn (by omega) (by omega) (by omega) (by rw [show n.fst + (ls.length : Int) = n.fst + xhR27 by omega]; exact hoo) (by rw [show n.fst + (ls.length : Int) = n.fst + xhR27 by omega]; exact hsn) hlo⟩, hm.sub (.cons_cons _ (.cons _ (.refl _)))⟩)
theorem vt_len {n : Ln} (hn : LnOk n) {st : List Int} (hs : StP n st) (inp : Int) : ((valT n st inp).length : Int) = n.cnt := by
  have := hn.sz.i
  rw [zev, hs.len]; unfold Ln.cnt; omega
theorem sq_len {s : Sq} (h : SqOk s) : s.xs.length ≤ 4 ∧ (s.kd = 0 ∨ s.kd = 1) := by rcases h.kind with ⟨a, b, c⟩ | ⟨a, b, c⟩ <;> omega
open Go.RowKit
def LiR (xs : List Int) (m : Int) : Prop := ∀ j, j < xs.length → 0 ≤ xs.getD j 0 ∧ xs.getD j 0 ≤ m
theorem LiR.nil (m : Int) : LiR [] m := fun j hj => absurd hj (by simp)
theorem LiR.app {xs : List Int} {m x : Int} (h : LiR xs m) (hx : 0 ≤ x ∧ x ≤ m) : LiR (xs ++ [x]) m := fun j hj => by
  rw [List.length_append, List.length_singleton] at hj
  by_cases e : j < xs.length
  · rw [zdl e]; exact h j e
  · have e2 : j = xs.length := by omega
    subst e2
    rw [zdk (Nat.le_refl _), Nat.sub_self]; exact hx
def IrsOk (sz : Nat → Nat) (rs : List IR) : Prop := ∀ i, i < rs.length → LiP (rs.getD i ir0).xs (sz i) 100
theorem IrsOk.nil (sz : Nat → Nat) : IrsOk sz [] := fun j hj => absurd hj (by simp)
theorem IrsOk.app {sz : Nat → Nat} {rs : List IR} {r : IR} (h : IrsOk sz rs) (h1 : r.xs.length = sz rs.length) (h2 : LiR r.xs 100) : IrsOk sz (rs ++ [r]) := fun j hj => by
  rw [List.length_append, List.length_singleton] at hj
  by_cases e : j < rs.length
  · rw [zdl e]; exact h j e
  · have e2 : j = rs.length := by omega
    subst e2
    rw [zdk (Nat.le_refl _), Nat.sub_self]; exact ⟨by show (r.xs.length : Int) = _; rw [h1], h2⟩
def RdsIRs (w : World) (rs : List IR) : Prop := ∀ r ∈ rs, RdsW w r.v 1 r.xs.length (r.xs.map (Value.int .i64))
theorem RdsIRs.nil (w : World) : RdsIRs w [] := fun r hr => by cases hr
theorem RdsIRs.app {w : World} {rs : List IR} {r : IR} (h : RdsIRs w rs) (hr : RdsW w r.v 1 r.xs.length (r.xs.map (Value.int .i64))) : RdsIRs w (rs ++ [r]) := fun q hq => by
  rcases List.mem_append.1 hq with hq | hq
  · exact h q hq
  · rw [List.mem_singleton] at hq; subst hq; exact hr
structure TdOnes (x : Td) : Prop where
  sv : x.n.sv.oneCell' = true
  lv : x.n.lv.oneCell' = true
  ov : x.n.ov.oneCell' = true
  pv : x.pv.oneCell' = true
  qv : x.qv.oneCell' = true
  kv : x.kv.oneCell' = true
  av : x.av.oneCell' = true
  bv : x.bv.oneCell' = true
theorem st_small {n : Ln} {st : List Int} (hl : st.length = n.ss.length) (hr : LiR st 1) : StP n st := ⟨hl, fun k hk => by have := hr k (by omega); unfold StR; omega⟩
theorem built_tdD (i a b : Int) (sv lv ov : Value) (h1 : sv.oneCell' = true) (h2 : lv.oneCell' = true) (h3 : ov.oneCell' = true) : Try.prog.built 45 [(0, .agg #[.int .i64 i, sv, lv, ov]), (5, .int .i64 a), (6, .int .i64 b)] = some #[.int .i64 i, sv, lv, ov, .slice none 0 0, .slice none 0 0, .slice none 0 0, .slice none 0 0, .slice none 0 0, .int .i64 a, .int .i64 b] := by
  (cases sv <;> first | (exact absurd h1 Bool.false_ne_true) | (cases lv <;> first | (exact absurd h2 Bool.false_ne_true) | (cases ov <;> first | (exact absurd h3 Bool.false_ne_true) | kernel_rfl)))
theorem l37Timed_mut (g : Nat) (a : Option Addr) (len cap : Nat) (z : List Int) (w0 : World) (l : List HP) (w : World) (hm0 : Mem w0 (curE g a len cap :: l) w) (hb : BRow .u8 w0 a len cap z) :
   Calls Try.prog 42 #[.pointer (some ⟨g, 0, none⟩)] w (fun e_ w_ => ∃ v_ p_, e_ = .returned v_ ∧ (fun u_ p_ => ∃ (ps : List HP) (x : Td), u_ = x.agg ∧ p_ = bigE [curE g a len cap, bigE ps] ∧ (∀ w, (bigE ps).holds w → RdsTd w x) ∧ TdOnes x ∧ TdOk x) v_ p_ ∧ Mem w0 (p_ :: l) w_) := by
 refine zgn (N := 105) (args := [.pointer (some ⟨g, 0, none⟩)]) Try.func42 rfl rfl hm0 (srQ ?_)
 refine zdt rfl (zbm (z := .agg #[.int .i64 0, .slice none 0 0, .slice none 0 0, .slice none 0 0, .slice none 0 0, .slice none 0 0, .slice none 0 0, .slice none 0 0, .slice none 0 0, .int .i64 0, .int .i64 0]) rfl rfl) ?_
 intro b1
 refine ntQ (zac (reQ 1 rfl ?_))
 refine zdj (R := (fun u_ p_ => ∃ (ps : List HP) (m : Ln), u_ = m.agg ∧ p_ = bigE [curE g a len cap, bigE ps] ∧ (∀ w, (bigE ps).holds w → RdsLn w m) ∧ (m.sv.oneCell' = true ∧ m.lv.oneCell' = true ∧ m.ov.oneCell' = true) ∧ LnOk m)) 1 rfl rfl rfl rfl rfl (fun l' w hm => l20Net_mut g a len cap z _ _ _ hm hb) ?_
 intro v2 p3 hR4
 obtain ⟨ps, m, rfl, rfl, hps, ⟨o1m, o2m, o3m⟩, hok⟩ := hR4
 refine zeb (l' := (boxE b1 #[.int .i64 0, .slice none 0 0, .slice none 0 0, .slice none 0 0, .slice none 0 0, .slice none 0 0, .slice none 0 0, .slice none 0 0, .slice none 0 0, .int .i64 0, .int .i64 0] 45 :: bigE [curE g a len cap, bigE ps] :: l)) rfl ?_
 refine zgg 2 [0, 1] rfl rfl (by decide) ?_
 refine zfr (curE g a len cap :: bigE ps :: boxE b1 #[.int .i64 0, .slice none 0 0, .slice none 0 0, .slice none 0 0, .slice none 0 0, .slice none 0 0, .slice none 0 0, .slice none 0 0, .slice none 0 0, .int .i64 0, .int .i64 0] 45 :: l) zfy ?_
 have hcnt : m.cnt = 1 + m.ins + m.ss.length + m.ls.length := rfl
 have hfst : m.fst = 1 + m.ins + m.ss.length := rfl
 obtain ⟨⟨si0, si1⟩, s2, s3, s4⟩ := hok.sz
 refine zdt rfl (zbm (z := .agg #[.int .i64 0, .slice none 0 0, .slice none 0 0, .slice none 0 0]) rfl rfl) ?_
 intro b5
 refine zbr (cs' := #[.int .i64 m.ins, m.sv, m.lv, m.ov]) (i := 0) (off := 0) (us := [.int .i64 m.ins, m.sv, m.lv, m.ov]) rfl rfl rfl rfl rfl rfl rfl (zae rfl (zae o1m (zae o2m (zae o3m zbj)))) rfl rfl rfl (ntQ (zac ?_))
 refine zfc 4 [3, 2, 0, 1] rfl rfl (by decide) ?_
 refine zfi (l := (boxE b5 #[.int .i64 m.ins, m.sv, m.lv, m.ov] 28 :: bigE ps :: boxE b1 #[.int .i64 0, .slice none 0 0, .slice none 0 0, .slice none 0 0, .slice none 0 0, .slice none 0 0, .slice none 0 0, .slice none 0 0, .slice none 0 0, .int .i64 0, .int .i64 0] 45 :: l)) rfl 7 [0, 1, 2, 3, 4, 5, 6] (List.take 7 _) (List.drop 7 _) [[], [], [1], [], [2, 3], [0, 2, 4], []] [13, 14, 15, 16, 17, 18, 4] (fun i_ vs_ v_ p_ => match i_ with | 0 => v_ = .agg #[.int .i64 m.ins, m.sv, m.lv, m.ov] ∧ p_ = [] | 1 => v_ = .pointer (some ⟨g, 0, none⟩) ∧ p_ = [] | 2 => (∃ pm_, p_ = [pm_] ∧ (fun u_ p_ => (∃ x_ : Int, u_ = .int .i64 x_ ∧ 0 ≤ x_ ∧ x_ < 256) ∧ p_ = curE g a len cap) v_ pm_) | 3 => v_ = .pointer (some ⟨g, 0, none⟩) ∧ p_ = [] | 4 => (∃ pm_, p_ = [pm_] ∧ (fun u_ p_ => (∃ x_ : Int, u_ = .int .i64 x_ ∧ 0 ≤ x_ ∧ x_ < 256) ∧ p_ = curE g a len cap) v_ pm_) | 5 => v_ = .agg #[.int .i64 m.ins, m.sv, m.lv, m.ov, .slice none 0 0, .slice none 0 0, .slice none 0 0, .slice none 0 0, .slice none 0 0, .int .i64 (intOf_o (List.getD vs_ 1 undef)), .int .i64 (intOf_o (List.getD vs_ 2 undef))] ∧ p_ = [] | 6 => IsBox #[.int .i64 0, .slice none 0 0, .slice none 0 0, .slice none 0 0, .slice none 0 0, .slice none 0 0, .slice none 0 0, .slice none 0 0, .slice none 0 0, .int .i64 0, .int .i64 0] 45 v_ p_ | _ => True) [[], [], [1], [], [3], [0, 4], []] [none, none, some 8, none, some 2, none, none] [curE g a len cap] [0, 1, 3, 4, 5, 6] 8 (List.take_append_drop 7 _).symm (by kernel_rfl) (by kernel_rfl) (by kernel_rfl) rfl rfl ?_ ?_
 ·
  refine ⟨?_, ?_, ?_, ?_, ?_, ?_, ?_, trivial⟩
  ·
   intro vf pf hmu hR
   refine dqQ [] [] rfl (zbq (zai [3] rfl) (List.sublist_append_right _ _) ?_)
   exact zbd (zar (cs := [.int .i64 m.ins, m.sv, m.lv, m.ov]) rfl rfl rfl rfl rfl (zam 0 rfl 0 rfl))
  ·
   intro vf pf hmu hR
   refine dqQ [] [] rfl (zbu (zai [0] rfl) ?_)
   exact zbd (zaj rfl)
  ·
   intro vf pf hmu hR
   have e1 := hR 1 (by decide)
   refine Or.inl ⟨rfl, ?_⟩
   show RunM _ _ _ (pf 8) (([1] : List Nat).flatMap pf ++ _) (envOf _ vf [1] ++ _) _ _
   rw [hmu]
   exact zdd (sk 14 (congrArg some e1.1) (zab _)) (by simp only [e1.2, fS] <;> rfl) (zdw (R := (fun u_ p_ => (∃ x_ : Int, u_ = .int .i64 x_ ∧ 0 ≤ x_ ∧ x_ < 256) ∧ p_ = curE g a len cap)) rfl rfl (fun L w hX hm => zci g a len cap z 256 _ _ _ hm hb (by constructor <;> omega)))
  ·
   intro vf pf hmu hR
   refine dqQ [] [] rfl (zbu (zai [0] rfl) ?_)
   exact zbd (zaj rfl)
  ·
   intro vf pf hmu hR
   have e2 : (∃ pm_, (pf 2) = [pm_] ∧ (fun u_ p_ => (∃ x_ : Int, u_ = .int .i64 x_ ∧ 0 ≤ x_ ∧ x_ < 256) ∧ p_ = curE g a len cap) (vf 2) pm_) := hR 2 (by decide)
   obtain ⟨p7, pE2, hR8⟩ := e2
   obtain ⟨v6, vE2⟩ : ∃ x, vf 2 = x := ⟨_, rfl⟩
   rw [vE2] at hR8
   obtain ⟨⟨xhR8, rfl, xhR80, xhR81⟩, rfl⟩ := hR8
   have e3 := hR 3 (by decide)
   refine Or.inl ⟨rfl, ?_⟩
   show RunM _ _ _ (pf 2) (([3] : List Nat).flatMap pf ++ _) (envOf _ vf [2, 3] ++ _) _ _
   rw [pE2]
   exact zdd (sk 16 (congrArg some e3.1) (zab _)) (by simp only [e3.2, fS] <;> rfl) (zdw (R := (fun u_ p_ => (∃ x_ : Int, u_ = .int .i64 x_ ∧ 0 ≤ x_ ∧ x_ < 256) ∧ p_ = curE g a len cap)) rfl rfl (fun L w hX hm => zci g a len cap z 256 _ _ _ hm hb (by constructor <;> omega)))
  ·
   intro vf pf hmu hR
   have e0 := hR 0 (by decide)
   have e2 : (∃ pm_, (pf 2) = [pm_] ∧ (fun u_ p_ => (∃ x_ : Int, u_ = .int .i64 x_ ∧ 0 ≤ x_ ∧ x_ < 256) ∧ p_ = curE g a len cap) (vf 2) pm_) := hR 2 (by decide)
   obtain ⟨p7, pE2, hR8⟩ := e2
   obtain ⟨v6, vE2⟩ : ∃ x, vf 2 = x := ⟨_, rfl⟩
   rw [vE2] at hR8
   obtain ⟨⟨xhR8, rfl, xhR80, xhR81⟩, rfl⟩ := hR8
   have e4 : (∃ pm_, (pf 4) = [pm_] ∧ (fun u_ p_ => (∃ x_ : Int, u_ = .int .i64 x_ ∧ 0 ≤ x_ ∧ x_ < 256) ∧ p_ = curE g a len cap) (vf 4) pm_) := hR 4 (by decide)
   obtain ⟨p10, pE4, hR11⟩ := e4
   obtain ⟨v9, vE4⟩ : ∃ x, vf 4 = x := ⟨_, rfl⟩
   rw [vE4] at hR11
   obtain ⟨⟨xhR11, rfl, xhR110, xhR111⟩, rfl⟩ := hR11
   refine dqQ [0, 4] [0, 2, 4] rfl (zcc (sk 13 (congrArg some e0.1) (sk 15 (congrArg some vE2) (sk 17 (congrArg some vE4) (zab _)))) (by simp only [pE4, vE4, e0.2, fS] <;> rfl) ?_)
   exact zco (zbd (zfj (cs := #[.int .i64 m.ins, m.sv, m.lv, m.ov, .slice none 0 0, .slice none 0 0, .slice none 0 0, .slice none 0 0, .slice none 0 0, .int .i64 xhR8, .int .i64 xhR11]) rfl rfl (fun w hm => built_tdD m.ins xhR8 xhR11 m.sv m.lv m.ov o1m o2m o3m))) (fun _ _ h => ⟨h.1.trans (by show _ = (.agg #[.int .i64 m.ins, m.sv, m.lv, m.ov, .slice none 0 0, .slice none 0 0, .slice none 0 0, .slice none 0 0, .slice none 0 0, .int .i64 (intOf_o (vf 2)), .int .i64 (intOf_o (vf 4))] : Value); first | (rw [vE2, vE4]; done) | (rw [vE2, vE4]; rfl)), h.2⟩)
  intro vf pf hmu hR
  refine dqQ [] [] rfl (zbq (zab _) (List.sublist_append_right _ _) ?_)
  exact zbm (z := .agg #[.int .i64 0, .slice none 0 0, .slice none 0 0, .slice none 0 0, .slice none 0 0, .slice none 0 0, .slice none 0 0, .slice none 0 0, .slice none 0 0, .int .i64 0, .int .i64 0]) rfl rfl
 intro vf pf hmu hR
 have e2 : (∃ pm_, (pf 2) = [pm_] ∧ (fun u_ p_ => (∃ x_ : Int, u_ = .int .i64 x_ ∧ 0 ≤ x_ ∧ x_ < 256) ∧ p_ = curE g a len cap) (vf 2) pm_) := hR 2 (by decide)
 obtain ⟨p7, pE2, hR8⟩ := e2
 obtain ⟨v6, vE2⟩ : ∃ x, vf 2 = x := ⟨_, rfl⟩
 rw [vE2] at hR8
 obtain ⟨⟨xhR8, rfl, xhR80, xhR81⟩, rfl⟩ := hR8
 have e4 : (∃ pm_, (pf 4) = [pm_] ∧ (fun u_ p_ => (∃ x_ : Int, u_ = .int .i64 x_ ∧ 0 ≤ x_ ∧ x_ < 256) ∧ p_ = curE g a len cap) (vf 4) pm_) := hR 4 (by decide)
 obtain ⟨p10, pE4, hR11⟩ := e4
 obtain ⟨v9, vE4⟩ : ∃ x, vf 4 = x := ⟨_, rfl⟩
 rw [vE4] at hR11
 obtain ⟨⟨xhR11, rfl, xhR110, xhR111⟩, rfl⟩ := hR11
 have e5 : (vf 5) = .agg #[.int .i64 m.ins, m.sv, m.lv, m.ov, .slice none 0 0, .slice none 0 0, .slice none 0 0, .slice none 0 0, .slice none 0 0, .int .i64 (intOf_o (vf 2)), .int .i64 (intOf_o (vf 4))] ∧ (pf 5) = [] := hR 5 (by decide)
 rw [vE2, vE4] at e5
 have e6 : IsBox #[.int .i64 0, .slice none 0 0, .slice none 0 0, .slice none 0 0, .slice none 0 0, .slice none 0 0, .slice none 0 0, .slice none 0 0, .slice none 0 0, .int .i64 0, .int .i64 0] 45 (vf 6) (pf 6) := hR 6 (by decide)
 obtain ⟨b12, vE6, pE6⟩ := e6
 have q0 := hR 0 (by decide)
 have q1 := hR 1 (by decide)
 have q3 := hR 3 (by decide)
 have q5 := hR 5 (by decide)
 refine zce (zbe [3, 2, 0] _ (sk 4 (congrArg some vE6) (sk 18 (congrArg some e5.1) (zab _))) rfl) (by simp only [pE4, vE4, pE6, vE6, q0.2, q1.2, q3.2, q5.2, fS] <;> rfl) ?_
 simp only [List.drop_succ_cons, List.drop_zero]
 refine zbr (cs' := #[.int .i64 m.ins, m.sv, m.lv, m.ov, .slice none 0 0, .slice none 0 0, .slice none 0 0, .slice none 0 0, .slice none 0 0, .int .i64 xhR8, .int .i64 xhR11]) (i := 1) (off := 0) (us := [.int .i64 m.ins, m.sv, m.lv, m.ov, .slice none 0 0, .slice none 0 0, .slice none 0 0, .slice none 0 0, .slice none 0 0, .int .i64 xhR8, .int .i64 xhR11]) rfl rfl rfl rfl rfl rfl rfl (zae rfl (zae o1m (zae o2m (zae o3m (zae rfl (zae rfl (zae rfl (zae rfl (zae rfl (zae rfl (zae rfl zbj))))))))))) rfl (by kernel_rfl) rfl (ntQ (zac (zbc 1 rfl (zaw ?_))))
 refine zdo (rowE 3 1 (.slice none 0 0) 0 ([]) :: curE g a len cap :: boxE b12 #[.int .i64 m.ins, m.sv, m.lv, m.ov, .slice none 0 0, .slice none 0 0, .slice none 0 0, .slice none 0 0, .slice none 0 0, .int .i64 xhR8, .int .i64 xhR11] 45 :: boxE b5 #[.int .i64 m.ins, m.sv, m.lv, m.ov] 28 :: bigE ps :: boxE b1 #[.int .i64 0, .slice none 0 0, .slice none 0 0, .slice none 0 0, .slice none 0 0, .slice none 0 0, .slice none 0 0, .slice none 0 0, .slice none 0 0, .int .i64 0, .int .i64 0] 45 :: l) (fun w hm => hm.nilRow 3 1) ?_
 refine zdo (rowE 3 1 (.slice none 0 0) 0 ([]) :: rowE 3 1 (.slice none 0 0) 0 ([]) :: curE g a len cap :: boxE b12 #[.int .i64 m.ins, m.sv, m.lv, m.ov, .slice none 0 0, .slice none 0 0, .slice none 0 0, .slice none 0 0, .slice none 0 0, .int .i64 xhR8, .int .i64 xhR11] 45 :: boxE b5 #[.int .i64 m.ins, m.sv, m.lv, m.ov] 28 :: bigE ps :: boxE b1 #[.int .i64 0, .slice none 0 0, .slice none 0 0, .slice none 0 0, .slice none 0 0, .slice none 0 0, .slice none 0 0, .slice none 0 0, .slice none 0 0, .int .i64 0, .int .i64 0] 45 :: l) (fun w hm => hm.nilRow 3 1) ?_
 refine zdo (rowE 3 1 (.slice none 0 0) 0 ([]) :: rowE 3 1 (.slice none 0 0) 0 ([]) :: rowE 3 1 (.slice none 0 0) 0 ([]) :: curE g a len cap :: boxE b12 #[.int .i64 m.ins, m.sv, m.lv, m.ov, .slice none 0 0, .slice none 0 0, .slice none 0 0, .slice none 0 0, .slice none 0 0, .int .i64 xhR8, .int .i64 xhR11] 45 :: boxE b5 #[.int .i64 m.ins, m.sv, m.lv, m.ov] 28 :: bigE ps :: boxE b1 #[.int .i64 0, .slice none 0 0, .slice none 0 0, .slice none 0 0, .slice none 0 0, .slice none 0 0, .slice none 0 0, .slice none 0 0, .slice none 0 0, .int .i64 0, .int .i64 0] 45 :: l) (fun w hm => hm.nilRow 3 1) ?_
 refine zdo (rowE 26 1 (.slice none 0 0) (([] : List IR).length) (([] : List IR).flatMap irC) :: rowE 3 1 (.slice none 0 0) 0 ([]) :: rowE 3 1 (.slice none 0 0) 0 ([]) :: rowE 3 1 (.slice none 0 0) 0 ([]) :: curE g a len cap :: boxE b12 #[.int .i64 m.ins, m.sv, m.lv, m.ov, .slice none 0 0, .slice none 0 0, .slice none 0 0, .slice none 0 0, .slice none 0 0, .int .i64 xhR8, .int .i64 xhR11] 45 :: boxE b5 #[.int .i64 m.ins, m.sv, m.lv, m.ov] 28 :: bigE ps :: boxE b1 #[.int .i64 0, .slice none 0 0, .slice none 0 0, .slice none 0 0, .slice none 0 0, .slice none 0 0, .slice none 0 0, .slice none 0 0, .slice none 0 0, .int .i64 0, .int .i64 0] 45 :: l) (fun w hm => hm.nilRow 26 1) ?_
 refine zdo (rowE 26 1 (.slice none 0 0) (([] : List IR).length) (([] : List IR).flatMap irC) :: rowE 26 1 (.slice none 0 0) (([] : List IR).length) (([] : List IR).flatMap irC) :: rowE 3 1 (.slice none 0 0) 0 ([]) :: rowE 3 1 (.slice none 0 0) 0 ([]) :: rowE 3 1 (.slice none 0 0) 0 ([]) :: curE g a len cap :: boxE b12 #[.int .i64 m.ins, m.sv, m.lv, m.ov, .slice none 0 0, .slice none 0 0, .slice none 0 0, .slice none 0 0, .slice none 0 0, .int .i64 xhR8, .int .i64 xhR11] 45 :: boxE b5 #[.int .i64 m.ins, m.sv, m.lv, m.ov] 28 :: bigE ps :: boxE b1 #[.int .i64 0, .slice none 0 0, .slice none 0 0, .slice none 0 0, .slice none 0 0, .slice none 0 0, .slice none 0 0, .slice none 0 0, .slice none 0 0, .int .i64 0, .int .i64 0] 45 :: l) (fun w hm => hm.nilRow 26 1) ?_
 refine zdo _ zfx ?_
 refine lkQ4 (α := Nat) (β := Value) (γ := List IR) (δ := List HP) [0, 2, 3, 4] rfl (fun i ud dl bs => (bigE bs :: rowE 26 1 ud dl.length (dl.flatMap irC) :: rowE 26 1 (.slice none 0 0) (([] : List IR).length) (([] : List IR).flatMap irC) :: rowE 3 1 (.slice none 0 0) 0 ([]) :: rowE 3 1 (.slice none 0 0) 0 ([]) :: rowE 3 1 (.slice none 0 0) 0 ([]) :: curE g a len cap :: boxE b12 #[.int .i64 m.ins, m.sv, m.lv, m.ov, ud, .slice none 0 0, .slice none 0 0, .slice none 0 0, .slice none 0 0, .int .i64 xhR8, .int .i64 xhR11] 45 :: boxE b5 #[.int .i64 m.ins, m.sv, m.lv, m.ov] 28 :: bigE ps :: boxE b1 #[.int .i64 0, .slice none 0 0, .slice none 0 0, .slice none 0 0, .slice none 0 0, .slice none 0 0, .slice none 0 0, .slice none 0 0, .slice none 0 0, .int .i64 0, .int .i64 0] 45 :: l)) (fun i ud dl bs => [(5, .int .i64 (i : Int))]) (fun i ud dl bs => i ≤ m.ls.length ∧ dl.length = i ∧ IrsOk (fun q => (m.ls.getD q lt0).xs.length) dl ∧ ∀ w, (bigE bs).holds w → RdsIRs w dl) (fun i ud dl bs => m.ls.length - i) 0 _ [] [] ⟨Nat.zero_le _, rfl, IrsOk.nil _, fun w _ => RdsIRs.nil w⟩ (saQ rfl) (.refl _) ?_
 intro i ud dl bs hi13
 obtain ⟨hi, hdl, hdo, hbs⟩ := hi13
 refine zac (zac (reQ 1 rfl (hvQ rfl (fdQ 2 rfl rfl rfl) (hvQ rfl (zag rfl rfl rfl (zad 8 rfl rfl)) ?_))))
 refine hvQ rfl (lnQ rfl rfl rfl (fun w hm => (hps w (hm.holds _ (zby (i := 9) rfl))).lt.row)) (zbh rfl rfl rfl rfl rfl rfl (fun h14 => ?_) (fun h14 => ?_))
 ·
  refine ntQ (zao rfl (zcp (sbQ (srQ ?_))))
  refine zdu rfl (zcq (s := 1) rfl Try.underlying26 rfl) ?_
  intro g15
  refine zbb 1 rfl (zac (zbc 1 rfl (zaw ?_)))
  refine lkQ3 (α := Nat) (β := Value) (γ := List Int) [0, 2, 3, 4, 5, 23] rfl (fun j ur xs => (rowE 3 1 ur xs.length (xs.map (Value.int .i64)) :: bigE bs :: rowE 26 1 ud dl.length (dl.flatMap irC) :: rowE 26 1 (.slice none 0 0) (([] : List IR).length) (([] : List IR).flatMap irC) :: rowE 3 1 (.slice none 0 0) 0 ([]) :: rowE 3 1 (.slice none 0 0) 0 ([]) :: rowE 3 1 (.slice none 0 0) 0 ([]) :: curE g a len cap :: boxE b12 #[.int .i64 m.ins, m.sv, m.lv, m.ov, ud, .slice none 0 0, .slice none 0 0, .slice none 0 0, .slice none 0 0, .int .i64 xhR8, .int .i64 xhR11] 45 :: boxE b5 #[.int .i64 m.ins, m.sv, m.lv, m.ov] 28 :: bigE ps :: boxE b1 #[.int .i64 0, .slice none 0 0, .slice none 0 0, .slice none 0 0, .slice none 0 0, .slice none 0 0, .slice none 0 0, .slice none 0 0, .slice none 0 0, .int .i64 0, .int .i64 0] 45 :: l)) (fun j ur xs => [(6, ur), (7, .int .i64 (j : Int))]) (fun j ur xs => j ≤ (m.ls.getD i lt0).xs.length ∧ xs.length = j ∧ LiR xs 100) (fun j ur xs => (m.ls.getD i lt0).xs.length - j) 0 _ [] ⟨Nat.zero_le _, rfl, LiR.nil _⟩ (saQ rfl) (.refl _) ?_
  intro j ur xs hi16
  obtain ⟨hj, hxl, hxr⟩ := hi16
  have hx4 := (hok.lt i (by omega)).1.1
  refine zac (zac (reQ 1 rfl (hvQ rfl (fdQ 2 rfl rfl rfl) (hvQ rfl (zag rfl rfl rfl (zad 9 rfl rfl)) (zan 1 rfl ?_)))))
  refine hvQ rfl (riQ 2 rfl rfl rfl rfl (fun w hm => (hps w (hm.holds _ (zby (i := 10) rfl))).lt.row)) (hvQ rfl (zbx (k0 := 0) rfl rfl rfl (fun w hm => (hps w (hm.holds _ (zby (i := 10) rfl))).lt.row) (by omega)) ?_)
  refine hvQ rfl (zat (u := (m.ls.getD i lt0).iv) rfl rfl rfl (fun w hm => (hps w (hm.holds _ (zby (i := 10) rfl))).lt.row) ((zcy ltC 2 (fun _ => rfl) m.ls lt0 (show i < _ by omega) (by decide)).trans rfl)) (hvQ rfl (lnQ rfl rfl rfl (fun w hm => (hps w (hm.holds _ (zby (i := 10) rfl))).lt.at (d := lt0) (k := i) (by omega))) ?_)
  refine zbh rfl rfl rfl rfl rfl rfl (fun h17 => ?_) (fun h17 => ?_)
  ·
   refine ntQ (zao rfl (zcp (sbQ (reQ 2 rfl ?_))))
   refine zdj (R := (fun u_ p_ => (∃ x_ : Int, u_ = .int .i64 x_ ∧ 0 ≤ x_ ∧ x_ < 6) ∧ p_ = curE g a len cap)) 7 rfl rfl rfl rfl rfl (fun l' w hm => zci g a len cap z 6 _ _ _ hm hb (by constructor <;> omega)) ?_
   intro v18 p19 hR20
   obtain ⟨⟨xhR20, rfl, xhR200, xhR201⟩, rfl⟩ := hR20
   refine zeb (l' := (rowE 3 1 ur xs.length (xs.map (Value.int .i64)) :: bigE bs :: rowE 26 1 ud dl.length (dl.flatMap irC) :: rowE 26 1 (.slice none 0 0) (([] : List IR).length) (([] : List IR).flatMap irC) :: rowE 3 1 (.slice none 0 0) 0 ([]) :: rowE 3 1 (.slice none 0 0) 0 ([]) :: rowE 3 1 (.slice none 0 0) 0 ([]) :: curE g a len cap :: boxE b12 #[.int .i64 m.ins, m.sv, m.lv, m.ov, ud, .slice none 0 0, .slice none 0 0, .slice none 0 0, .slice none 0 0, .int .i64 xhR8, .int .i64 xhR11] 45 :: boxE b5 #[.int .i64 m.ins, m.sv, m.lv, m.ov] 28 :: bigE ps :: boxE b1 #[.int .i64 0, .slice none 0 0, .slice none 0 0, .slice none 0 0, .slice none 0 0, .slice none 0 0, .slice none 0 0, .slice none 0 0, .slice none 0 0, .int .i64 0, .int .i64 0] 45 :: l)) rfl ?_
   refine zdu rfl (zau (z := .int .i64 0) (s := 1) (cs := ([xhR20].map (Value.int .i64))) rfl Try.underlying26 rfl (by decide) rfl (by kernel_rfl) rfl) ?_
   intro g21
   refine zcf (i := 1) (z := .int .i64 0) (bytes := 8) rfl rfl rfl rfl Try.underlying26 (by kernel_rfl) rfl rfl rfl rfl (zah 0 rfl) (zbw _) (by first | omega | (simp; done) | (simp; omega)) (zbt xs ([xhR20])) (zcn xs ([xhR20])) (fun _ => rfl) ?_
   intro v22
   refine enQ 1 rfl (zcv (reQ 1 rfl (hvQ rfl (vaQ rfl rfl rfl) (enQ 1 rfl ?_))))
   exact zbi (j + 1) v22 (xs ++ ([xhR20])) ⟨by omega, by rw [List.length_append, List.length_singleton]; omega, hxr.app (by omega)⟩ (by omega) (saQ rfl) (.cons _ (.refl _))
  refine ntQ (zaq rfl ?_)
  refine zaz (zdr ?_)
  refine zaf (zax (zay (hvQ rfl (fdQ 4 rfl rfl rfl) (hvQ rfl (fdQ 0 rfl rfl rfl) (hvQ rfl (zag rfl rfl rfl (zad 8 rfl rfl)) (zan 1 rfl ?_))))))
  refine zdu rfl (zej rfl Try.underlying41 (by kernel_rfl) rfl (fun w hm => (zah 0 rfl w hm).one)) ?_
  intro g23
  refine zcr (i := 1) rfl (fun ho24 => ?_)
  refine zcf (i := 3) (z := .slice none 0 0) (bytes := 24) rfl rfl rfl rfl Try.underlying41 (by kernel_rfl) rfl rfl rfl rfl (zah 0 rfl) (zae ho24 zbj) (by first | omega | (simp only [List.length_append, List.length_cons, List.length_nil]; omega)) (zbt dl [(IR.mk ur xs)]) (zcs irC dl (IR.mk ur xs) _ rfl) (fun _ => rfl) ?_
  intro v25
  refine hvQ rfl (fdQ 4 rfl rfl rfl) (hvQ rfl (fdQ 0 rfl rfl rfl) ?_)
  refine zcr (i := 3) rfl (fun ho26 => ?_)
  refine zed (i := 9) (cs' := #[.int .i64 m.ins, m.sv, m.lv, m.ov, v25, .slice none 0 0, .slice none 0 0, .slice none 0 0, .slice none 0 0, .int .i64 xhR8, .int .i64 xhR11]) rfl rfl rfl rfl rfl rfl ho26 rfl rfl rfl rfl (zcb (zcv (reQ 1 rfl (hvQ rfl (vaQ rfl rfl rfl) (enQ 1 rfl ?_)))))
  refine zbo 13 [12, 11, 10, 9, 8, 7, 6, 5, 4, 3, 1, 2] rfl rfl (by decide) ?_
  refine zcx 2 rfl ?_
  exact zca (i + 1) v25 (dl ++ [(IR.mk ur xs)]) [bigE bs, rowE 3 1 ur xs.length (xs.map (Value.int .i64))] ⟨by omega, by rw [List.length_append, List.length_singleton]; omega, hdo.app (by show xs.length = (m.ls.getD dl.length lt0).xs.length; rw [hdl]; omega) hxr, fun w hw => (hbs w (zba hw List.mem_cons_self)).app (zbp (zba hw (List.mem_cons_of_mem _ List.mem_cons_self)))⟩ (by omega) (saQ rfl) (.refl _)
 refine ntQ (zaq rfl ?_)
 refine zaz (zdr ?_)
 refine zaf (zax (zac (zbc 1 rfl (zaw ?_))))
 refine lkQ4 (α := Nat) (β := List IR) (γ := List Int × List Int × List Int) (δ := (Value × Value × Value × Value) × List HP) [0, 2, 3, 4, 23] rfl (fun k ds zz yy => (bigE yy.2 :: rowE 26 1 ud dl.length (dl.flatMap irC) :: rowE 26 1 yy.1.1 ds.length (ds.flatMap irC) :: rowE 3 1 yy.1.2.1 zz.1.length (zz.1.map (Value.int .i64)) :: rowE 3 1 yy.1.2.2.1 zz.2.1.length (zz.2.1.map (Value.int .i64)) :: rowE 3 1 yy.1.2.2.2 zz.2.2.length (zz.2.2.map (Value.int .i64)) :: curE g a len cap :: boxE b12 #[.int .i64 m.ins, m.sv, m.lv, m.ov, ud, yy.1.1, yy.1.2.1, yy.1.2.2.1, yy.1.2.2.2, .int .i64 xhR8, .int .i64 xhR11] 45 :: boxE b5 #[.int .i64 m.ins, m.sv, m.lv, m.ov] 28 :: bigE ps :: boxE b1 #[.int .i64 0, .slice none 0 0, .slice none 0 0, .slice none 0 0, .slice none 0 0, .slice none 0 0, .slice none 0 0, .slice none 0 0, .slice none 0 0, .int .i64 0, .int .i64 0] 45 :: l)) (fun k ds zz yy => [(8, .int .i64 (k : Int))]) (fun k ds zz yy => k ≤ m.ss.length ∧ ds.length = k ∧ IrsOk (fun q => (m.ss.getD q sq0).xs.length) ds ∧ zz.1.length = k ∧ LiR zz.1 50 ∧ zz.2.1.length = k ∧ LiR zz.2.1 1 ∧ zz.2.2.length = k ∧ LiR zz.2.2 1 ∧ ∀ w, (bigE yy.2).holds w → RdsIRs w dl ∧ RdsIRs w ds) (fun k ds zz yy => m.ss.length - k) 0 [] ([], [], []) ((_, _, _, _), _) ⟨Nat.zero_le _, rfl, IrsOk.nil _, rfl, LiR.nil _, rfl, LiR.nil _, rfl, LiR.nil _, fun w hw => ⟨hbs w hw, RdsIRs.nil w⟩⟩ (saQ rfl) (.refl _) ?_
 intro k ds zz yy hi27
 obtain ⟨hk, hel, heo, hl1, hz1, hl2, hz2, hl3, hz3, hys⟩ := hi27
 refine zac (zac (reQ 1 rfl (hvQ rfl (fdQ 1 rfl rfl rfl) (hvQ rfl (zag rfl rfl rfl (zad 8 rfl rfl)) ?_))))
 refine hvQ rfl (lnQ rfl rfl rfl (fun w hm => (hps w (hm.holds _ (zby (i := 9) rfl))).sq.row)) (zbh rfl rfl rfl rfl rfl rfl (fun h28 => ?_) (fun h28 => ?_))
 ·
  refine ntQ (zao rfl (zcp (sbQ (srQ ?_))))
  refine zdu rfl (zcq (s := 1) rfl Try.underlying26 rfl) ?_
  intro g29
  refine zbb 1 rfl (zac (zbc 1 rfl (zaw ?_)))
  refine lkQ3 (α := Nat) (β := Value) (γ := List Int) [0, 2, 3, 4, 8, 23, 55] rfl (fun j ur xs => (rowE 3 1 ur xs.length (xs.map (Value.int .i64)) :: bigE yy.2 :: rowE 26 1 ud dl.length (dl.flatMap irC) :: rowE 26 1 yy.1.1 ds.length (ds.flatMap irC) :: rowE 3 1 yy.1.2.1 zz.1.length (zz.1.map (Value.int .i64)) :: rowE 3 1 yy.1.2.2.1 zz.2.1.length (zz.2.1.map (Value.int .i64)) :: rowE 3 1 yy.1.2.2.2 zz.2.2.length (zz.2.2.map (Value.int .i64)) :: curE g a len cap :: boxE b12 #[.int .i64 m.ins, m.sv, m.lv, m.ov, ud, yy.1.1, yy.1.2.1, yy.1.2.2.1, yy.1.2.2.2, .int .i64 xhR8, .int .i64 xhR11] 45 :: boxE b5 #[.int .i64 m.ins, m.sv, m.lv, m.ov] 28 :: bigE ps :: boxE b1 #[.int .i64 0, .slice none 0 0, .slice none 0 0, .slice none 0 0, .slice none 0 0, .slice none 0 0, .slice none 0 0, .slice none 0 0, .slice none 0 0, .int .i64 0, .int .i64 0] 45 :: l)) (fun j ur xs => [(9, ur), (10, .int .i64 (j : Int))]) (fun j ur xs => j ≤ (m.ss.getD k sq0).xs.length ∧ xs.length = j ∧ LiR xs 100) (fun j ur xs => (m.ss.getD k sq0).xs.length - j) 0 _ [] ⟨Nat.zero_le _, rfl, LiR.nil _⟩ (saQ rfl) (.refl _) ?_
  intro j ur xs hi30
  obtain ⟨hj, hxl, hxr⟩ := hi30
  have hx4 := (sq_len (hok.sq k (by omega)).1).1
  refine zac (zac (reQ 1 rfl (hvQ rfl (fdQ 1 rfl rfl rfl) (hvQ rfl (zag rfl rfl rfl (zad 9 rfl rfl)) (zan 1 rfl ?_)))))
  refine hvQ rfl (riQ 3 rfl rfl rfl rfl (fun w hm => (hps w (hm.holds _ (zby (i := 10) rfl))).sq.row)) (hvQ rfl (zbx (k0 := 2) rfl rfl rfl (fun w hm => (hps w (hm.holds _ (zby (i := 10) rfl))).sq.row) (by omega)) ?_)
  refine hvQ rfl (zat (u := (m.ss.getD k sq0).iv) rfl rfl rfl (fun w hm => (hps w (hm.holds _ (zby (i := 10) rfl))).sq.row) ((zcy sqC 3 (fun _ => rfl) m.ss sq0 (show k < _ by omega) (by decide)).trans rfl)) (hvQ rfl (lnQ rfl rfl rfl (fun w hm => (hps w (hm.holds _ (zby (i := 10) rfl))).sq.at (d := sq0) (k := k) (by omega))) ?_)
  refine zbh rfl rfl rfl rfl rfl rfl (fun h31 => ?_) (fun h31 => ?_)
  ·
   refine ntQ (zao rfl (zcp (sbQ (reQ 2 rfl ?_))))
   refine zdj (R := (fun u_ p_ => (∃ x_ : Int, u_ = .int .i64 x_ ∧ 0 ≤ x_ ∧ x_ < 6) ∧ p_ = curE g a len cap)) 7 rfl rfl rfl rfl rfl (fun l' w hm => zci g a len cap z 6 _ _ _ hm hb (by constructor <;> omega)) ?_
   intro v32 p33 hR34
   obtain ⟨⟨xhR34, rfl, xhR340, xhR341⟩, rfl⟩ := hR34
   refine zeb (l' := (rowE 3 1 ur xs.length (xs.map (Value.int .i64)) :: bigE yy.2 :: rowE 26 1 ud dl.length (dl.flatMap irC) :: rowE 26 1 yy.1.1 ds.length (ds.flatMap irC) :: rowE 3 1 yy.1.2.1 zz.1.length (zz.1.map (Value.int .i64)) :: rowE 3 1 yy.1.2.2.1 zz.2.1.length (zz.2.1.map (Value.int .i64)) :: rowE 3 1 yy.1.2.2.2 zz.2.2.length (zz.2.2.map (Value.int .i64)) :: curE g a len cap :: boxE b12 #[.int .i64 m.ins, m.sv, m.lv, m.ov, ud, yy.1.1, yy.1.2.1, yy.1.2.2.1, yy.1.2.2.2, .int .i64 xhR8, .int .i64 xhR11] 45 :: boxE b5 #[.int .i64 m.ins, m.sv, m.lv, m.ov] 28 :: bigE ps :: boxE b1 #[.int .i64 0, .slice none 0 0, .slice none 0 0, .slice none 0 0, .slice none 0 0, .slice none 0 0, .slice none 0 0, .slice none 0 0, .slice none 0 0, .int .i64 0, .int .i64 0] 45 :: l)) rfl ?_
   refine zdu rfl (zau (z := .int .i64 0) (s := 1) (cs := ([xhR34].map (Value.int .i64))) rfl Try.underlying26 rfl (by decide) rfl (by kernel_rfl) rfl) ?_
   intro g35
   refine zcf (i := 1) (z := .int .i64 0) (bytes := 8) rfl rfl rfl rfl Try.underlying26 (by kernel_rfl) rfl rfl rfl rfl (zah 0 rfl) (zbw _) (by first | omega | (simp; done) | (simp; omega)) (zbt xs ([xhR34])) (zcn xs ([xhR34])) (fun _ => rfl) ?_
   intro v36
   refine enQ 1 rfl (zcv (reQ 1 rfl (hvQ rfl (vaQ rfl rfl rfl) (enQ 1 rfl ?_))))
   exact zbi (j + 1) v36 (xs ++ ([xhR34])) ⟨by omega, by rw [List.length_append, List.length_singleton]; omega, hxr.app (by omega)⟩ (by omega) (saQ rfl) (.cons _ (.refl _))
  refine ntQ (zaq rfl ?_)
  refine zaz (zdr ?_)
  refine zaf (zax (srQ (hvQ rfl (fdQ 4 rfl rfl rfl) (hvQ rfl (fdQ 1 rfl rfl rfl) (hvQ rfl (zag rfl rfl rfl (zad 8 rfl rfl)) (zan 1 rfl ?_))))))
  refine zdu rfl (zej rfl Try.underlying41 (by kernel_rfl) rfl (fun w hm => (zah 0 rfl w hm).one)) ?_
  intro g37
  refine zcr (i := 1) rfl (fun ho38 => ?_)
  refine zcf (i := 4) (z := .slice none 0 0) (bytes := 24) rfl rfl rfl rfl Try.underlying41 (by kernel_rfl) rfl rfl rfl rfl (zah 0 rfl) (zae ho38 zbj) (by first | omega | (simp only [List.length_append, List.length_cons, List.length_nil]; omega)) (zbt ds [(IR.mk ur xs)]) (zcs irC ds (IR.mk ur xs) _ rfl) (fun _ => rfl) ?_
  intro v39
  refine hvQ rfl (fdQ 4 rfl rfl rfl) (hvQ rfl (fdQ 1 rfl rfl rfl) ?_)
  refine zcr (i := 4) rfl (fun ho40 => ?_)
  refine zed (i := 9) (cs' := #[.int .i64 m.ins, m.sv, m.lv, m.ov, ud, v39, yy.1.2.1, yy.1.2.2.1, yy.1.2.2.2, .int .i64 xhR8, .int .i64 xhR11]) rfl rfl rfl rfl rfl rfl ho40 rfl rfl rfl rfl (ntQ (zac ?_))
  refine zfc 13 [12, 11, 10, 9, 7, 6, 5, 4, 3, 2, 1, 0, 8] rfl rfl (by decide) ?_
  refine zfi (l := (rowE 26 1 (.slice (some ⟨g37, 0, none⟩) 1 1) 1 ([ur]) :: rowE 3 1 ur xs.length (xs.map (Value.int .i64)) :: bigE yy.2 :: rowE 26 1 ud dl.length (dl.flatMap irC) :: rowE 26 1 v39 ((ds ++ [(IR.mk ur xs)]).length) ((ds ++ [(IR.mk ur xs)]).flatMap irC) :: rowE 3 1 yy.1.2.1 zz.1.length (zz.1.map (Value.int .i64)) :: rowE 3 1 yy.1.2.2.1 zz.2.1.length (zz.2.1.map (Value.int .i64)) :: rowE 3 1 yy.1.2.2.2 zz.2.2.length (zz.2.2.map (Value.int .i64)) :: boxE b12 #[.int .i64 m.ins, m.sv, m.lv, m.ov, ud, v39, yy.1.2.1, yy.1.2.2.1, yy.1.2.2.2, .int .i64 xhR8, .int .i64 xhR11] 45 :: boxE b5 #[.int .i64 m.ins, m.sv, m.lv, m.ov] 28 :: bigE ps :: boxE b1 #[.int .i64 0, .slice none 0 0, .slice none 0 0, .slice none 0 0, .slice none 0 0, .slice none 0 0, .slice none 0 0, .slice none 0 0, .slice none 0 0, .int .i64 0, .int .i64 0] 45 :: l)) rfl 5 [0, 1, 2, 3, 4] (List.take 5 _) (List.drop 5 _) [[], [0], [], [2], [3]] [83, 84, 85, 86, 87] (fun i_ vs_ v_ p_ => match i_ with | 0 => v_ = .pointer (some ⟨b12, 0 + 6, none⟩) ∧ p_ = [] | 1 => v_ = yy.1.2.1 ∧ p_ = [] | 2 => v_ = .pointer (some ⟨g, 0, none⟩) ∧ p_ = [] | 3 => (∃ pm_, p_ = [pm_] ∧ (fun u_ p_ => (∃ x_ : Int, u_ = .int .i64 x_ ∧ 0 ≤ x_ ∧ x_ < 5) ∧ p_ = curE g a len cap) v_ pm_) | 4 => IsRow 3 1 1 ([(intOf_o (List.getD vs_ 0 undef))].map (Value.int .i64)) v_ p_ | _ => True) [[], [0], [], [2], [3]] [none, none, none, some 8, none] [curE g a len cap] [0, 1, 2, 3, 4] 8 (List.take_append_drop 5 _).symm (by kernel_rfl) (by kernel_rfl) (by kernel_rfl) rfl rfl ?_ ?_
  ·
   refine ⟨?_, ?_, ?_, ?_, ?_, trivial⟩
   ·
    intro vf pf hmu hR
    refine dqQ [] [] rfl (zbu (zai [4] rfl) ?_)
    exact zbd (fdQ 6 rfl rfl rfl)
   ·
    intro vf pf hmu hR
    have e0 := hR 0 (by decide)
    refine dqQ [0] [0] rfl (zbq (sk 83 (congrArg some e0.1) (zab _)) (List.sublist_append_right _ _) ?_)
    exact zbd (zag rfl rfl rfl (zad 8 rfl rfl))
   ·
    intro vf pf hmu hR
    refine dqQ [] [] rfl (zbu (zai [0] rfl) ?_)
    exact zbd (zaj rfl)
   ·
    intro vf pf hmu hR
    have e2 := hR 2 (by decide)
    refine Or.inl ⟨rfl, ?_⟩
    show RunM _ _ _ (pf 8) (([2] : List Nat).flatMap pf ++ _) (envOf _ vf [2] ++ _) _ _
    rw [hmu]
    exact zdd (sk 85 (congrArg some e2.1) (zab _)) (by simp only [e2.2, fS] <;> rfl) (zdw (R := (fun u_ p_ => (∃ x_ : Int, u_ = .int .i64 x_ ∧ 0 ≤ x_ ∧ x_ < 5) ∧ p_ = curE g a len cap)) rfl rfl (fun L w hX hm => zci g a len cap z 5 _ _ _ hm hb (by constructor <;> omega)))
   intro vf pf hmu hR
   have e3 : (∃ pm_, (pf 3) = [pm_] ∧ (fun u_ p_ => (∃ x_ : Int, u_ = .int .i64 x_ ∧ 0 ≤ x_ ∧ x_ < 5) ∧ p_ = curE g a len cap) (vf 3) pm_) := hR 3 (by decide)
   obtain ⟨p42, pE3, hR43⟩ := e3
   obtain ⟨v41, vE3⟩ : ∃ x, vf 3 = x := ⟨_, rfl⟩
   rw [vE3] at hR43
   obtain ⟨⟨xhR43, rfl, xhR430, xhR431⟩, rfl⟩ := hR43
   refine dqQ [3] [3] rfl (zcc (sk 86 (congrArg some vE3) (zab _)) (by simp only [pE3, vE3, fS] <;> rfl) ?_)
   exact zco (zau (z := .int .i64 0) (s := 1) (cs := ([xhR43].map (Value.int .i64))) rfl Try.underlying26 rfl (by decide) rfl (by kernel_rfl) rfl) (fun v_ p_ h => by show IsRow 3 1 1 ([(intOf_o (vf 3))].map (Value.int .i64)) v_ p_; rw [vE3]; exact h)
  intro vf pf hmu hR
  have e1 := hR 1 (by decide)
  have e3 : (∃ pm_, (pf 3) = [pm_] ∧ (fun u_ p_ => (∃ x_ : Int, u_ = .int .i64 x_ ∧ 0 ≤ x_ ∧ x_ < 5) ∧ p_ = curE g a len cap) (vf 3) pm_) := hR 3 (by decide)
  obtain ⟨p42, pE3, hR43⟩ := e3
  obtain ⟨v41, vE3⟩ : ∃ x, vf 3 = x := ⟨_, rfl⟩
  rw [vE3] at hR43
  obtain ⟨⟨xhR43, rfl, xhR430, xhR431⟩, rfl⟩ := hR43
  have e4 : IsRow 3 1 1 ([(intOf_o (vf 3))].map (Value.int .i64)) (vf 4) (pf 4) := hR 4 (by decide)
  rw [vE3] at e4
  obtain ⟨g44, vE4, pE4⟩ := e4
  have q0 := hR 0 (by decide)
  have q1 := hR 1 (by decide)
  have q2 := hR 2 (by decide)
  refine zce (zbe [67, 55, 23, 10, 9, 8, 4, 3, 2, 0] _ (sk 84 (congrArg some e1.1) (sk 87 (congrArg some vE4) (zab _))) rfl) (by simp only [pE3, vE3, pE4, vE4, q0.2, q1.2, q2.2, fS] <;> rfl) ?_
  simp only [List.drop_succ_cons, List.drop_zero]
  refine zcf (i := 7) (z := .int .i64 0) (bytes := 8) rfl rfl rfl rfl Try.underlying26 (by kernel_rfl) rfl rfl rfl rfl (zah 1 rfl) (zbw _) (by first | omega | (simp; done) | (simp; omega)) (zbt zz.1 ([xhR43])) (zcn zz.1 ([xhR43])) (fun _ => rfl) ?_
  intro v45
  refine hvQ rfl (fdQ 6 rfl rfl rfl) (zcr (i := 7) rfl (fun ho46 => ?_))
  refine zed (i := 10) (cs' := #[.int .i64 m.ins, m.sv, m.lv, m.ov, ud, v39, v45, yy.1.2.2.1, yy.1.2.2.2, .int .i64 xhR8, .int .i64 xhR11]) rfl rfl rfl rfl rfl rfl ho46 rfl rfl rfl rfl (ntQ (zac ?_))
  refine zfi (l := (rowE 3 1 (.slice (some ⟨g44, 0, none⟩) 1 1) 1 ([xhR43].map (Value.int .i64)) :: rowE 26 1 (.slice (some ⟨g37, 0, none⟩) 1 1) 1 ([ur]) :: rowE 3 1 ur xs.length (xs.map (Value.int .i64)) :: bigE yy.2 :: rowE 26 1 ud dl.length (dl.flatMap irC) :: rowE 26 1 v39 ((ds ++ [(IR.mk ur xs)]).length) ((ds ++ [(IR.mk ur xs)]).flatMap irC) :: rowE 3 1 v45 ((zz.1 ++ ([xhR43])).length) ((zz.1 ++ ([xhR43])).map (Value.int .i64)) :: rowE 3 1 yy.1.2.2.1 zz.2.1.length (zz.2.1.map (Value.int .i64)) :: rowE 3 1 yy.1.2.2.2 zz.2.2.length (zz.2.2.map (Value.int .i64)) :: boxE b12 #[.int .i64 m.ins, m.sv, m.lv, m.ov, ud, v39, v45, yy.1.2.2.1, yy.1.2.2.2, .int .i64 xhR8, .int .i64 xhR11] 45 :: boxE b5 #[.int .i64 m.ins, m.sv, m.lv, m.ov] 28 :: bigE ps :: boxE b1 #[.int .i64 0, .slice none 0 0, .slice none 0 0, .slice none 0 0, .slice none 0 0, .slice none 0 0, .slice none 0 0, .slice none 0 0, .slice none 0 0, .int .i64 0, .int .i64 0] 45 :: l)) rfl 5 [0, 1, 2, 3, 4] (List.take 5 _) (List.drop 5 _) [[], [0], [], [2], [3]] [90, 91, 92, 93, 94] (fun i_ vs_ v_ p_ => match i_ with | 0 => v_ = .pointer (some ⟨b12, 0 + 7, none⟩) ∧ p_ = [] | 1 => v_ = yy.1.2.2.1 ∧ p_ = [] | 2 => v_ = .pointer (some ⟨g, 0, none⟩) ∧ p_ = [] | 3 => (∃ pm_, p_ = [pm_] ∧ (fun u_ p_ => (∃ x_ : Int, u_ = .int .i64 x_ ∧ 0 ≤ x_ ∧ x_ < 2) ∧ p_ = curE g a len cap) v_ pm_) | 4 => IsRow 3 1 1 ([(intOf_o (List.getD vs_ 0 undef))].map (Value.int .i64)) v_ p_ | _ => True) [[], [0], [], [2], [3]] [none, none, none, some 8, none] [curE g a len cap] [0, 1, 2, 3, 4] 8 (List.take_append_drop 5 _).symm (by kernel_rfl) (by kernel_rfl) (by kernel_rfl) rfl rfl ?_ ?_
  ·
   refine ⟨?_, ?_, ?_, ?_, ?_, trivial⟩
   ·
    intro vf pf hmu hR
    refine dqQ [] [] rfl (zbu (zai [4] rfl) ?_)
    exact zbd (fdQ 7 rfl rfl rfl)
   ·
    intro vf pf hmu hR
    have e0 := hR 0 (by decide)
    refine dqQ [0] [0] rfl (zbq (sk 90 (congrArg some e0.1) (zab _)) (List.sublist_append_right _ _) ?_)
    exact zbd (zag rfl rfl rfl (zad 9 rfl rfl))
   ·
    intro vf pf hmu hR
    refine dqQ [] [] rfl (zbu (zai [0] rfl) ?_)
    exact zbd (zaj rfl)
   ·
    intro vf pf hmu hR
    have e2 := hR 2 (by decide)
    refine Or.inl ⟨rfl, ?_⟩
    show RunM _ _ _ (pf 8) (([2] : List Nat).flatMap pf ++ _) (envOf _ vf [2] ++ _) _ _
    rw [hmu]
    exact zdd (sk 92 (congrArg some e2.1) (zab _)) (by simp only [e2.2, fS] <;> rfl) (zdw (R := (fun u_ p_ => (∃ x_ : Int, u_ = .int .i64 x_ ∧ 0 ≤ x_ ∧ x_ < 2) ∧ p_ = curE g a len cap)) rfl rfl (fun L w hX hm => zci g a len cap z 2 _ _ _ hm hb (by constructor <;> omega)))
   intro vf pf hmu hR
   have e3 : (∃ pm_, (pf 3) = [pm_] ∧ (fun u_ p_ => (∃ x_ : Int, u_ = .int .i64 x_ ∧ 0 ≤ x_ ∧ x_ < 2) ∧ p_ = curE g a len cap) (vf 3) pm_) := hR 3 (by decide)
   obtain ⟨p48, pE3, hR49⟩ := e3
   obtain ⟨v47, vE3⟩ : ∃ x, vf 3 = x := ⟨_, rfl⟩
   rw [vE3] at hR49
   obtain ⟨⟨xhR49, rfl, xhR490, xhR491⟩, rfl⟩ := hR49
   refine dqQ [3] [3] rfl (zcc (sk 93 (congrArg some vE3) (zab _)) (by simp only [pE3, vE3, fS] <;> rfl) ?_)
   exact zco (zau (z := .int .i64 0) (s := 1) (cs := ([xhR49].map (Value.int .i64))) rfl Try.underlying26 rfl (by decide) rfl (by kernel_rfl) rfl) (fun v_ p_ h => by show IsRow 3 1 1 ([(intOf_o (vf 3))].map (Value.int .i64)) v_ p_; rw [vE3]; exact h)
  intro vf pf hmu hR
  have e1 := hR 1 (by decide)
  have e3 : (∃ pm_, (pf 3) = [pm_] ∧ (fun u_ p_ => (∃ x_ : Int, u_ = .int .i64 x_ ∧ 0 ≤ x_ ∧ x_ < 2) ∧ p_ = curE g a len cap) (vf 3) pm_) := hR 3 (by decide)
  obtain ⟨p48, pE3, hR49⟩ := e3
  obtain ⟨v47, vE3⟩ : ∃ x, vf 3 = x := ⟨_, rfl⟩
  rw [vE3] at hR49
  obtain ⟨⟨xhR49, rfl, xhR490, xhR491⟩, rfl⟩ := hR49
  have e4 : IsRow 3 1 1 ([(intOf_o (vf 3))].map (Value.int .i64)) (vf 4) (pf 4) := hR 4 (by decide)
  rw [vE3] at e4
  obtain ⟨g50, vE4, pE4⟩ := e4
  have q0 := hR 0 (by decide)
  have q1 := hR 1 (by decide)
  have q2 := hR 2 (by decide)
  refine zce (zbe [67, 55, 23, 10, 9, 8, 4, 3, 2, 0] _ (sk 91 (congrArg some e1.1) (sk 94 (congrArg some vE4) (zab _))) rfl) (by simp only [pE3, vE3, pE4, vE4, q0.2, q1.2, q2.2, fS] <;> rfl) ?_
  simp only [List.drop_succ_cons, List.drop_zero]
  refine zcf (i := 9) (z := .int .i64 0) (bytes := 8) rfl rfl rfl rfl Try.underlying26 (by kernel_rfl) rfl rfl rfl rfl (zah 1 rfl) (zbw _) (by first | omega | (simp; done) | (simp; omega)) (zbt zz.2.1 ([xhR49])) (zcn zz.2.1 ([xhR49])) (fun _ => rfl) ?_
  intro v51
  refine hvQ rfl (fdQ 7 rfl rfl rfl) (zcr (i := 9) rfl (fun ho52 => ?_))
  refine zed (i := 11) (cs' := #[.int .i64 m.ins, m.sv, m.lv, m.ov, ud, v39, v45, v51, yy.1.2.2.2, .int .i64 xhR8, .int .i64 xhR11]) rfl rfl rfl rfl rfl rfl ho52 rfl rfl rfl rfl (ntQ ?_)
  refine zfi (l := (rowE 3 1 (.slice (some ⟨g50, 0, none⟩) 1 1) 1 ([xhR49].map (Value.int .i64)) :: rowE 3 1 (.slice (some ⟨g44, 0, none⟩) 1 1) 1 ([xhR43].map (Value.int .i64)) :: rowE 26 1 (.slice (some ⟨g37, 0, none⟩) 1 1) 1 ([ur]) :: rowE 3 1 ur xs.length (xs.map (Value.int .i64)) :: bigE yy.2 :: rowE 26 1 ud dl.length (dl.flatMap irC) :: rowE 26 1 v39 ((ds ++ [(IR.mk ur xs)]).length) ((ds ++ [(IR.mk ur xs)]).flatMap irC) :: rowE 3 1 v45 ((zz.1 ++ ([xhR43])).length) ((zz.1 ++ ([xhR43])).map (Value.int .i64)) :: rowE 3 1 v51 ((zz.2.1 ++ ([xhR49])).length) ((zz.2.1 ++ ([xhR49])).map (Value.int .i64)) :: rowE 3 1 yy.1.2.2.2 zz.2.2.length (zz.2.2.map (Value.int .i64)) :: boxE b12 #[.int .i64 m.ins, m.sv, m.lv, m.ov, ud, v39, v45, v51, yy.1.2.2.2, .int .i64 xhR8, .int .i64 xhR11] 45 :: boxE b5 #[.int .i64 m.ins, m.sv, m.lv, m.ov] 28 :: bigE ps :: boxE b1 #[.int .i64 0, .slice none 0 0, .slice none 0 0, .slice none 0 0, .slice none 0 0, .slice none 0 0, .slice none 0 0, .slice none 0 0, .slice none 0 0, .int .i64 0, .int .i64 0] 45 :: l)) rfl 5 [0, 1, 2, 3, 4] (List.take 5 _) (List.drop 5 _) [[], [0], [], [2], [3]] [97, 98, 99, 100, 101] (fun i_ vs_ v_ p_ => match i_ with | 0 => v_ = .pointer (some ⟨b12, 0 + 8, none⟩) ∧ p_ = [] | 1 => v_ = yy.1.2.2.2 ∧ p_ = [] | 2 => v_ = .pointer (some ⟨g, 0, none⟩) ∧ p_ = [] | 3 => (∃ pm_, p_ = [pm_] ∧ (fun u_ p_ => (∃ x_ : Int, u_ = .int .i64 x_ ∧ 0 ≤ x_ ∧ x_ < 2) ∧ p_ = curE g a len cap) v_ pm_) | 4 => IsRow 3 1 1 ([(intOf_o (List.getD vs_ 0 undef))].map (Value.int .i64)) v_ p_ | _ => True) [[], [0], [], [2], [3]] [none, none, none, some 8, none] [curE g a len cap] [0, 1, 2, 3, 4] 8 (List.take_append_drop 5 _).symm (by kernel_rfl) (by kernel_rfl) (by kernel_rfl) rfl rfl ?_ ?_
  ·
   refine ⟨?_, ?_, ?_, ?_, ?_, trivial⟩
   ·
    intro vf pf hmu hR
    refine dqQ [] [] rfl (zbu (zai [4] rfl) ?_)
    exact zbd (fdQ 8 rfl rfl rfl)
   ·
    intro vf pf hmu hR
    have e0 := hR 0 (by decide)
    refine dqQ [0] [0] rfl (zbq (sk 97 (congrArg some e0.1) (zab _)) (List.sublist_append_right _ _) ?_)
    exact zbd (zag rfl rfl rfl (zad 10 rfl rfl))
   ·
    intro vf pf hmu hR
    refine dqQ [] [] rfl (zbu (zai [0] rfl) ?_)
    exact zbd (zaj rfl)
   ·
    intro vf pf hmu hR
    have e2 := hR 2 (by decide)
    refine Or.inl ⟨rfl, ?_⟩
    show RunM _ _ _ (pf 8) (([2] : List Nat).flatMap pf ++ _) (envOf _ vf [2] ++ _) _ _
    rw [hmu]
    exact zdd (sk 99 (congrArg some e2.1) (zab _)) (by simp only [e2.2, fS] <;> rfl) (zdw (R := (fun u_ p_ => (∃ x_ : Int, u_ = .int .i64 x_ ∧ 0 ≤ x_ ∧ x_ < 2) ∧ p_ = curE g a len cap)) rfl rfl (fun L w hX hm => zci g a len cap z 2 _ _ _ hm hb (by constructor <;> omega)))
   intro vf pf hmu hR
   have e3 : (∃ pm_, (pf 3) = [pm_] ∧ (fun u_ p_ => (∃ x_ : Int, u_ = .int .i64 x_ ∧ 0 ≤ x_ ∧ x_ < 2) ∧ p_ = curE g a len cap) (vf 3) pm_) := hR 3 (by decide)
   obtain ⟨p54, pE3, hR55⟩ := e3
   obtain ⟨v53, vE3⟩ : ∃ x, vf 3 = x := ⟨_, rfl⟩
   rw [vE3] at hR55
   obtain ⟨⟨xhR55, rfl, xhR550, xhR551⟩, rfl⟩ := hR55
   refine dqQ [3] [3] rfl (zcc (sk 100 (congrArg some vE3) (zab _)) (by simp only [pE3, vE3, fS] <;> rfl) ?_)
   exact zco (zau (z := .int .i64 0) (s := 1) (cs := ([xhR55].map (Value.int .i64))) rfl Try.underlying26 rfl (by decide) rfl (by kernel_rfl) rfl) (fun v_ p_ h => by show IsRow 3 1 1 ([(intOf_o (vf 3))].map (Value.int .i64)) v_ p_; rw [vE3]; exact h)
  intro vf pf hmu hR
  have e1 := hR 1 (by decide)
  have e3 : (∃ pm_, (pf 3) = [pm_] ∧ (fun u_ p_ => (∃ x_ : Int, u_ = .int .i64 x_ ∧ 0 ≤ x_ ∧ x_ < 2) ∧ p_ = curE g a len cap) (vf 3) pm_) := hR 3 (by decide)
  obtain ⟨p54, pE3, hR55⟩ := e3
  obtain ⟨v53, vE3⟩ : ∃ x, vf 3 = x := ⟨_, rfl⟩
  rw [vE3] at hR55
  obtain ⟨⟨xhR55, rfl, xhR550, xhR551⟩, rfl⟩ := hR55
  have e4 : IsRow 3 1 1 ([(intOf_o (vf 3))].map (Value.int .i64)) (vf 4) (pf 4) := hR 4 (by decide)
  rw [vE3] at e4
  obtain ⟨g56, vE4, pE4⟩ := e4
  have q0 := hR 0 (by decide)
  have q1 := hR 1 (by decide)
  have q2 := hR 2 (by decide)
  refine zce (zbe [67, 55, 23, 10, 9, 8, 4, 3, 2, 0] _ (sk 98 (congrArg some e1.1) (sk 101 (congrArg some vE4) (zab _))) rfl) (by simp only [pE3, vE3, pE4, vE4, q0.2, q1.2, q2.2, fS] <;> rfl) ?_
  simp only [List.drop_succ_cons, List.drop_zero]
  refine zcf (i := 11) (z := .int .i64 0) (bytes := 8) rfl rfl rfl rfl Try.underlying26 (by kernel_rfl) rfl rfl rfl rfl (zah 1 rfl) (zbw _) (by first | omega | (simp; done) | (simp; omega)) (zbt zz.2.2 ([xhR55])) (zcn zz.2.2 ([xhR55])) (fun _ => rfl) ?_
  intro v57
  refine hvQ rfl (fdQ 8 rfl rfl rfl) (zcr (i := 11) rfl (fun ho58 => ?_))
  refine zed (i := 12) (cs' := #[.int .i64 m.ins, m.sv, m.lv, m.ov, ud, v39, v45, v51, v57, .int .i64 xhR8, .int .i64 xhR11]) rfl rfl rfl rfl rfl rfl ho58 rfl rfl rfl rfl (zcb (zcv (reQ 1 rfl (hvQ rfl (vaQ rfl rfl rfl) (enQ 1 rfl ?_)))))
  refine zbo 16 [15, 14, 13, 12, 11, 10, 9, 8, 7, 0, 5, 6] rfl rfl (by decide) ?_
  refine zcx 2 rfl ?_
  refine zbo 11 [10, 9, 8, 7, 1, 6, 5, 4, 3, 2, 0] rfl rfl (by decide) ?_
  exact zca (k + 1) (ds ++ [(IR.mk ur xs)]) (zz.1 ++ ([xhR43]), zz.2.1 ++ ([xhR49]), zz.2.2 ++ ([xhR55])) ((v39, v45, v51, v57), [bigE yy.2, rowE 3 1 ur xs.length (xs.map (Value.int .i64))]) ⟨by omega, by rw [List.length_append, List.length_singleton]; omega, heo.app (by show xs.length = (m.ss.getD ds.length sq0).xs.length; rw [hel]; omega) hxr, by rw [List.length_append, List.length_singleton]; omega, hz1.app (by omega), by rw [List.length_append, List.length_singleton]; omega, hz2.app (by omega), by rw [List.length_append, List.length_singleton]; omega, hz3.app (by omega), fun w hw => ⟨(hys w (zba hw List.mem_cons_self)).1, (hys w (zba hw List.mem_cons_self)).2.app (zbp (zba hw (List.mem_cons_of_mem _ List.mem_cons_self)))⟩⟩ (by omega) (saQ rfl) (.refl _)
 refine ntQ (zaq rfl ?_)
 refine zaz (zdr ?_)
 refine zaf (zax (srQ (hvQ rfl (zar (cs := [.int .i64 m.ins, m.sv, m.lv, m.ov, ud, yy.1.1, yy.1.2.1, yy.1.2.2.1, yy.1.2.2.2, .int .i64 xhR8, .int .i64 xhR11]) rfl rfl rfl rfl rfl (zam 7 rfl 0 rfl)) ?_)))
 refine zcr (i := 5) rfl (fun ho59 => ?_)
 refine zcr (i := 4) rfl (fun ho60 => ?_)
 refine zcr (i := 3) rfl (fun ho61 => ?_)
 refine zcr (i := 2) rfl (fun ho62 => ?_)
 refine zcr (i := 1) rfl (fun ho63 => ?_)
 refine zbr (cs' := #[.int .i64 m.ins, m.sv, m.lv, m.ov, ud, yy.1.1, yy.1.2.1, yy.1.2.2.1, yy.1.2.2.2, .int .i64 xhR8, .int .i64 xhR11]) (i := 10) (off := 0) (us := [.int .i64 m.ins, m.sv, m.lv, m.ov, ud, yy.1.1, yy.1.2.1, yy.1.2.2.1, yy.1.2.2.2, .int .i64 xhR8, .int .i64 xhR11]) rfl rfl rfl rfl rfl rfl rfl (zae rfl (zae o1m (zae o2m (zae o3m (zae ho63 (zae ho62 (zae ho61 (zae ho60 (zae ho59 (zae rfl (zae rfl zbj))))))))))) rfl (by kernel_rfl) rfl (ntQ ?_)
 refine zav (zdv (fun w hm => (zah 1 rfl w hm).one) (fun hoD => ?_))
 refine zdv (fun w hm => (zah 2 rfl w hm).one) (fun hoE => ?_)
 refine zdv (fun w hm => (zah 3 rfl w hm).one) (fun hoK => ?_)
 refine zdv (fun w hm => (zah 4 rfl w hm).one) (fun hoA => ?_)
 refine zdv (fun w hm => (zah 5 rfl w hm).one) (fun hoZ => ?_)
 refine zbo 11 [10, 6, 0, 9, 5, 4, 3, 2, 1] rfl rfl (by decide) ?_
 refine zcx 7 rfl ?_
 refine zbo 3 [2, 0, 1] rfl rfl (by decide) ?_
 refine zcx 2 rfl ?_
 exact hq_ret (rs := [.cell 2 45]) (vs := [.agg #[.int .i64 m.ins, m.sv, m.lv, m.ov, ud, yy.1.1, yy.1.2.1, yy.1.2.2.1, yy.1.2.2.2, .int .i64 xhR8, .int .i64 xhR11]]) rfl ⟨⟨b1, 0, [.int .i64 m.ins, m.sv, m.lv, m.ov, ud, yy.1.1, yy.1.2.1, yy.1.2.2.1, yy.1.2.2.2, .int .i64 xhR8, .int .i64 xhR11], rfl, rfl, by kernel_rfl, by kernel_rfl, zam 1 rfl 0 rfl⟩, trivial⟩ rfl (fun w hm => ⟨_, bigE [curE g a len cap, bigE [rowE 26 1 ud dl.length (dl.flatMap irC), rowE 26 1 yy.1.1 ds.length (ds.flatMap irC), rowE 3 1 yy.1.2.1 zz.1.length (zz.1.map (Value.int .i64)), rowE 3 1 yy.1.2.2.1 zz.2.1.length (zz.2.1.map (Value.int .i64)), rowE 3 1 yy.1.2.2.2 zz.2.2.length (zz.2.2.map (Value.int .i64)), bigE ps, bigE yy.2]], rfl, ⟨_, (Td.mk m ud dl yy.1.1 ds yy.1.2.1 zz.1 yy.1.2.2.1 zz.2.1 yy.1.2.2.2 zz.2.2 xhR8 xhR11), rfl, rfl, fun w hw => ⟨hps w (zba hw (List.mem_cons_of_mem _ (List.mem_cons_of_mem _ (List.mem_cons_of_mem _ (List.mem_cons_of_mem _ (List.mem_cons_of_mem _ List.mem_cons_self)))))), ⟨zbp (zba hw List.mem_cons_self), (hys w (zba hw (List.mem_cons_of_mem _ (List.mem_cons_of_mem _ (List.mem_cons_of_mem _ (List.mem_cons_of_mem _ (List.mem_cons_of_mem _ (List.mem_cons_of_mem _ List.mem_cons_self)))))))).1⟩, ⟨zbp (zba hw (List.mem_cons_of_mem _ List.mem_cons_self)), (hys w (zba hw (List.mem_cons_of_mem _ (List.mem_cons_of_mem _ (List.mem_cons_of_mem _ (List.mem_cons_of_mem _ (List.mem_cons_of_mem _ (List.mem_cons_of_mem _ List.mem_cons_self)))))))).2⟩, zbp (zba hw (List.mem_cons_of_mem _ (List.mem_cons_of_mem _ List.mem_cons_self))), zbp (zba hw (List.mem_cons_of_mem _ (List.mem_cons_of_mem _ (List.mem_cons_of_mem _ List.mem_cons_self)))), zbp (zba hw (List.mem_cons_of_mem _ (List.mem_cons_of_mem _ (List.mem_cons_of_mem _ (List.mem_cons_of_mem _ List.mem_cons_self)))))⟩, ⟨o1m, o2m, o3m, hoD, hoE, hoK, hoA, hoZ⟩, ⟨hok, st_small (n := m) (st := zz.2.1) (by omega) hz2, st_small (n := m) (st := zz.2.2) (by omega) hz3, ⟨by show (zz.1.length : Int) = m.ss.length; omega, hz1⟩, by show dl.length = m.ls.length; omega, fun i2 hi2 => hdo i2 (by have : i2 < m.ls.length := hi2; omega), by show ds.length = m.ss.length; omega, fun i2 hi2 => heo i2 (by have : i2 < m.ss.length := hi2; omega)⟩⟩, hm.sub (.cons_cons _ (.cons _ (.refl _)))⟩)
open Go.RowKit
theorem td_cnt {x : Td} (h : TdOk x) : x.n.cnt = 1 + x.n.ins + x.n.ss.length + x.n.ls.length ∧ (0 ≤ x.n.ins ∧ x.n.ins ≤ 20) ∧ x.n.ss.length ≤ 12 ∧ x.n.ls.length ≤ 400 := ⟨rfl, h.n.sz.i, h.n.sz.s, h.n.sz.l⟩
theorem put11 (a0 a1 a2 a3 a4 a5 a6 a7 a8 a9 a10 u0 u1 u2 u3 u4 u5 u6 u7 u8 u9 u10 : Value) : putN #[a0, a1, a2, a3, a4, a5, a6, a7, a8, a9, a10] 0 [u0, u1, u2, u3, u4, u5, u6, u7, u8, u9, u10] = #[u0, u1, u2, u3, u4, u5, u6, u7, u8, u9, u10] := by kernel_rfl
theorem DrawTimed_ret (a : Option Addr) (len cap : Nat) (z : List Int) (w : World) (hb : BRow .u8 w a len cap z) (hlen : len ≤ 1048576) :
   Calls Try.prog 16 #[.slice a len cap] w (Ret w (fun u_ p_ => ∃ (ps : List HP) (x : Td) (pd : Int), u_ = .tuple #[x.agg, .int .i64 pd] ∧ p_ = [bigE ps] ∧ (∀ w, (bigE ps).holds w → RdsTd w x) ∧ TdOnes x ∧ TdOk x ∧ 1 ≤ pd ∧ pd ≤ 40)) := by
 refine zbf (N := 14) (args := [.slice a len cap]) Try.func16 rfl rfl (srQ ?_)
 refine zdt rfl (zbm (z := .agg #[.int .i64 0, .slice none 0 0, .slice none 0 0, .slice none 0 0, .slice none 0 0, .slice none 0 0, .slice none 0 0, .slice none 0 0, .slice none 0 0, .int .i64 0, .int .i64 0]) rfl rfl) ?_
 intro b1
 refine zbb 1 rfl (zac (reQ 1 rfl ?_))
 refine hl_q rfl rfl rfl (zal rfl rfl (fun w hm => new_ret (hb.below hm.bel) hlen)) ?_
 intro v2 p3 hR4
 obtain ⟨ghR4, rfl, rfl⟩ := hR4
 refine zbb 1 rfl (zac (reQ 1 rfl ?_))
 refine zdj (R := (fun u_ p_ => ∃ (ps : List HP) (x : Td), u_ = x.agg ∧ p_ = bigE [curE ghR4 a len cap, bigE ps] ∧ (∀ w, (bigE ps).holds w → RdsTd w x) ∧ TdOnes x ∧ TdOk x)) 0 rfl rfl rfl rfl rfl (fun l' w hm => l37Timed_mut ghR4 a len cap z _ _ _ hm hb) ?_
 intro v5 p6 hR7
 obtain ⟨ps, x, rfl, rfl, hps, h1s, hok⟩ := hR7
 refine zeb (l' := [bigE [curE ghR4 a len cap, bigE ps], boxE b1 #[.int .i64 0, .slice none 0 0, .slice none 0 0, .slice none 0 0, .slice none 0 0, .slice none 0 0, .slice none 0 0, .slice none 0 0, .slice none 0 0, .int .i64 0, .int .i64 0] 45]) rfl ?_
 refine zgg 2 [1, 0] rfl rfl (by decide) ?_
 refine zfr [curE ghR4 a len cap, bigE ps, boxE b1 #[.int .i64 0, .slice none 0 0, .slice none 0 0, .slice none 0 0, .slice none 0 0, .slice none 0 0, .slice none 0 0, .slice none 0 0, .slice none 0 0, .int .i64 0, .int .i64 0] 45] zfy ?_
 refine zdt rfl (zbm (z := .agg #[.int .i64 0, .slice none 0 0, .slice none 0 0, .slice none 0 0, .slice none 0 0, .slice none 0 0, .slice none 0 0, .slice none 0 0, .slice none 0 0, .int .i64 0, .int .i64 0]) rfl rfl) ?_
 intro b8
 refine zbr (cs' := #[.int .i64 x.n.ins, x.n.sv, x.n.lv, x.n.ov, x.pv, x.qv, x.kv, x.av, x.bv, .int .i64 x.oi, .int .i64 x.ni]) (i := 0) (off := 0) (us := [.int .i64 x.n.ins, x.n.sv, x.n.lv, x.n.ov, x.pv, x.qv, x.kv, x.av, x.bv, .int .i64 x.oi, .int .i64 x.ni]) rfl rfl rfl rfl rfl rfl rfl (zae rfl (zae h1s.sv (zae h1s.lv (zae h1s.ov (zae h1s.pv (zae h1s.qv (zae h1s.kv (zae h1s.av (zae h1s.bv (zae rfl (zae rfl zbj))))))))))) rfl (by kernel_rfl) rfl (ntQ (zac ?_))
 refine zfc 4 [2, 0, 3, 1] rfl rfl (by decide) ?_
 refine hc_draw4 (l := [boxE b8 #[.int .i64 x.n.ins, x.n.sv, x.n.lv, x.n.ov, x.pv, x.qv, x.kv, x.av, x.bv, .int .i64 x.oi, .int .i64 x.ni] 45, bigE ps]) rfl 5 [0, 1, 2, 3, 4] (List.take 5 _) (List.drop 5 _) [[], [], [1], [2], [0]] [some 10, some 11, some 12, some 13, none] (fun i_ vs_ v_ p_ => match i_ with | 0 => v_ = .agg #[.int .i64 x.n.ins, x.n.sv, x.n.lv, x.n.ov, x.pv, x.qv, x.kv, x.av, x.bv, .int .i64 x.oi, .int .i64 x.ni] ∧ p_ = [] | 1 => v_ = .pointer (some ⟨ghR4, 0, none⟩) ∧ p_ = [] | 2 => (∃ pm_, p_ = [pm_] ∧ (fun u_ p_ => (∃ x_ : Int, u_ = .int .i64 x_ ∧ 0 ≤ x_ ∧ x_ < 40) ∧ p_ = curE ghR4 a len cap) v_ pm_) | 3 => v_ = .int .i64 (1 + (intOf_o (List.getD vs_ 0 undef))) ∧ p_ = [] | 4 => p_ = [boxE b1 #[.int .i64 x.n.ins, x.n.sv, x.n.lv, x.n.ov, x.pv, x.qv, x.kv, x.av, x.bv, .int .i64 x.oi, .int .i64 x.ni] 45] | _ => True) [[], [], [1], [2], [0]] [none, none, some 6, none, some 7] [[curE ghR4 a len cap], [boxE b1 #[.int .i64 0, .slice none 0 0, .slice none 0 0, .slice none 0 0, .slice none 0 0, .slice none 0 0, .slice none 0 0, .slice none 0 0, .slice none 0 0, .int .i64 0, .int .i64 0] 45]] [0, 1, 2, 3, 4] 6 (List.take_append_drop 5 _).symm (by kernel_rfl) (by kernel_rfl) (by kernel_rfl) rfl rfl ?_ ?_
 ·
  refine ⟨?_, ?_, ?_, ?_, ?_, trivial⟩
  ·
   intro vf pf hmu hR
   refine zdz [] [] rfl (zbq (zai [5] rfl) (List.sublist_append_right _ _) ?_)
   exact zbd (zar (cs := [.int .i64 x.n.ins, x.n.sv, x.n.lv, x.n.ov, x.pv, x.qv, x.kv, x.av, x.bv, .int .i64 x.oi, .int .i64 x.ni]) rfl rfl rfl rfl rfl (zam 0 rfl 0 rfl))
  ·
   intro vf pf hmu hR
   refine zdz [] [] rfl (zbu (zai [4] rfl) ?_)
   exact zbd (zaj rfl)
  ·
   intro vf pf hmu hR
   have e1 := hR 1 (by decide)
   refine Or.inl ⟨rfl, ?_⟩
   show RunM _ _ _ (pf 6) (([1] : List Nat).flatMap pf ++ _) (envOf3 _ vf [1] ++ _) _ _
   have hmu0 : pf 6 = [curE ghR4 a len cap] := hmu 0 (show 0 < 2 by omega)
   rw [hmu0]
   exact zdd (sk 11 (congrArg some e1.1) (zab _)) (by simp only [e1.2, fS] <;> rfl) (zdw (R := (fun u_ p_ => (∃ x_ : Int, u_ = .int .i64 x_ ∧ 0 ≤ x_ ∧ x_ < 40) ∧ p_ = curE ghR4 a len cap)) rfl rfl (fun L w hX hm => zci ghR4 a len cap z 40 _ _ _ hm hb (by constructor <;> omega)))
  ·
   intro vf pf hmu hR
   have e2 : (∃ pm_, (pf 2) = [pm_] ∧ (fun u_ p_ => (∃ x_ : Int, u_ = .int .i64 x_ ∧ 0 ≤ x_ ∧ x_ < 40) ∧ p_ = curE ghR4 a len cap) (vf 2) pm_) := hR 2 (by decide)
   obtain ⟨p10, pE2, hR11⟩ := e2
   obtain ⟨v9, vE2⟩ : ∃ x, vf 2 = x := ⟨_, rfl⟩
   rw [vE2] at hR11
   obtain ⟨⟨xhR11, rfl, xhR110, xhR111⟩, rfl⟩ := hR11
   refine zdz [2] [2] rfl (zcc (sk 12 (congrArg some vE2) (zab _)) (by simp only [pE2, vE2, fS] <;> rfl) ?_)
   exact zco (zbd (vaQ rfl rfl rfl)) (fun _ _ h => ⟨h.1.trans (by show _ = (.int .i64 (1 + (intOf_o (vf 2))) : Value); first | (rw [vE2]; done) | (rw [vE2]; rfl)), h.2⟩)
  intro vf pf hmu hR
  have e0 := hR 0 (by decide)
  refine Or.inl ⟨rfl, ?_⟩
  show RunM _ _ _ (pf 7) (([0] : List Nat).flatMap pf ++ _) (envOf3 _ vf [0] ++ _) _ _
  have hmu1 : pf 7 = [boxE b1 #[.int .i64 0, .slice none 0 0, .slice none 0 0, .slice none 0 0, .slice none 0 0, .slice none 0 0, .slice none 0 0, .slice none 0 0, .slice none 0 0, .int .i64 0, .int .i64 0] 45] := hmu 1 (show 1 < 2 by omega)
  rw [hmu1]
  exact zdd (sk 2 rfl (sk 10 (congrArg some e0.1) (zab _))) (by simp only [e0.2, fS] <;> rfl) (rm_mono (zgc (us := [.int .i64 x.n.ins, x.n.sv, x.n.lv, x.n.ov, x.pv, x.qv, x.kv, x.av, x.bv, .int .i64 x.oi, .int .i64 x.ni]) (off := 0) 0 rfl rfl rfl rfl rfl rfl (zae rfl (zae h1s.sv (zae h1s.lv (zae h1s.ov (zae h1s.pv (zae h1s.qv (zae h1s.kv (zae h1s.av (zae h1s.bv (zae rfl (zae rfl zbj))))))))))) rfl rfl) (fun v_ p_ h => h.trans (congrArg (fun c => [boxE b1 c 45]) (put11 _ _ _ _ _ _ _ _ _ _ _ _ _ _ _ _ _ _ _ _ _ _ ))))
 intro vf pf hmu hR
 have e2 : (∃ pm_, (pf 2) = [pm_] ∧ (fun u_ p_ => (∃ x_ : Int, u_ = .int .i64 x_ ∧ 0 ≤ x_ ∧ x_ < 40) ∧ p_ = curE ghR4 a len cap) (vf 2) pm_) := hR 2 (by decide)
 obtain ⟨p10, pE2, hR11⟩ := e2
 obtain ⟨v9, vE2⟩ : ∃ x, vf 2 = x := ⟨_, rfl⟩
 rw [vE2] at hR11
 obtain ⟨⟨xhR11, rfl, xhR110, xhR111⟩, rfl⟩ := hR11
 have e3 : (vf 3) = .int .i64 (1 + (intOf_o (vf 2))) ∧ (pf 3) = [] := hR 3 (by decide)
 rw [vE2] at e3
 have e4 : (pf 4) = [boxE b1 #[.int .i64 x.n.ins, x.n.sv, x.n.lv, x.n.ov, x.pv, x.qv, x.kv, x.av, x.bv, .int .i64 x.oi, .int .i64 x.ni] 45] := hR 4 (by decide)
 have pE4 := e4
 have q0 := hR 0 (by decide)
 have q1 := hR 1 (by decide)
 have q3 := hR 3 (by decide)
 refine zce (zbe [5, 4, 3, 2, 0] _ (sk 13 (congrArg some e3.1) (zab _)) rfl) (by simp only [pE2, vE2, pE4, q0.2, q1.2, q3.2, fS] <;> rfl) ?_
 simp only [List.drop_succ_cons, List.drop_zero]
 refine zbb 1 rfl ?_
 exact zav (zdp (rs := [.cell 2 45, .tmp 3]) (vs := [.agg #[.int .i64 x.n.ins, x.n.sv, x.n.lv, x.n.ov, x.pv, x.qv, x.kv, x.av, x.bv, .int .i64 x.oi, .int .i64 x.ni], .int .i64 (1 + xhR11)]) (post := [bigE ps]) rfl ⟨⟨b1, 0, [.int .i64 x.n.ins, x.n.sv, x.n.lv, x.n.ov, x.pv, x.qv, x.kv, x.av, x.bv, .int .i64 x.oi, .int .i64 x.ni], rfl, rfl, by kernel_rfl, by kernel_rfl, zam 1 rfl 0 rfl⟩, rfl, trivial⟩ rfl (slQ [3] rfl) ⟨ps, x, _, rfl, rfl, hps, h1s, hok, by omega, by omega⟩)
def lpX (x : Td) : List Pnt := (psX x).map pnO
def cpX (x : Td) : List Pnt := (capL x x.n.ss.length).map pnO
def ndX (x : Td) : Int := x.n.cnt + nS x x.n.ss.length
theorem cpX_len (x : Td) : (cpX x).length = nS x x.n.ss.length := by unfold cpX; rw [List.length_map, cap_len]
theorem lpX_len {x : Td} (h : TdOk x) : (lpX x).length ≤ 32 := by
  have h1 := h.n.sz.i; have h2 := h.n.sz.s; have h3 := h.k.1
  unfold lpX; rw [List.length_map]; show (lauB x x.ks.length).length ≤ _; rw [lauB_len]; omega
theorem nS_48 {x : Td} (h : TdOk x) : nS x x.n.ss.length ≤ 48 := by
  have h1 := nS_le h.n x.n.ss.length (Nat.le_refl _); have h2 := h.n.sz.s; omega
theorem tofX {x : Td} (h : TdOk x) (w : World) (hr : RdsTd w x) : Calls Try.prog 21 #[x.agg] w (Ret w (fun v' post => ∃ u : Value, v' = .tuple #[.agg #[.int .i64 (ndX x), u], .bool true] ∧ post = [rowE 87 3 u (gsX x).length ((gsX x).flatMap arcC)] ∧ u.oneCell' = true)) := by
  have h9 := implTimingOf_ret x w hr
  rw [(td_reads h).2.2.1, (td_reads h).2.2.2, zef h] at h9
  exact h9
theorem capX {x : Td} (h : TdOk x) (w : World) (hr : RdsTd w x) : Calls Try.prog 22 #[x.agg] w (Ret w (fun v' post => post = [rowE 89 2 v' (cpX x).length ((cpX x).flatMap pntC)])) := by
  have h9 := implCapturePoints_ret x w hr
  rw [(td_reads h).1, pn_flat] at h9
  unfold cpX; rw [List.length_map]; exact h9
theorem lauX {x : Td} (h : TdOk x) (w : World) (hr : RdsTd w x) : Calls Try.prog 24 #[x.agg] w (Ret w (fun v' post => post = [rowE 89 2 v' (lpX x).length ((lpX x).flatMap pntC)])) := by
  have h9 := implLaunchPoints_ret x w hr
  rw [(td_reads h).2.1, pn_flat] at h9
  unfold lpX; rw [List.length_map]; exact h9
def SlkR (x : Td) (lg : Bool) (F : Pnt → Pnt → Int → Int → Int) (ys : List Int) : Prop := ys.length = nS x x.n.ss.length ∧ ∀ r, r < nS x x.n.ss.length → ∃ s, Held (ys.getD r 0) s (best (gsX x) (lpX x) (cpX x) [] lg F r (lpX x).length)
theorem setX {x : Td} (h : TdOk x) {per : Int} (hp : 1 ≤ per ∧ per ≤ 40) (u lv cv : Value) (w : World) (hu : RdsW w u 3 (gsX x).length ((gsX x).flatMap arcC)) (hl : RdsW w lv 2 (lpX x).length ((lpX x).flatMap pntC)) (hc : RdsW w cv 2 (cpX x).length ((cpX x).flatMap pntC)) :
    Calls Try.prog 23 #[.agg #[.int .i64 (ndX x), u], lv, cv, .slice none 0 0, .int .i64 per] w (Ret w (fun v' post => ∃ ys : List Int, post = [rowE 3 1 v' ys.length (ys.map (Value.int .i64))] ∧ SlkR x true (Fset per) ys)) := by
  have h9 := SetupSlacks_ret (ndX x) (gsX x) u (lpX x) (cpX x) [] lv cv (.slice none 0 0) per w (gok_x h) hu (pts_ps h) (by have := lpX_len h; omega) hl (pts_cs h) (by rw [cpX_len]; have := nS_48 h; omega) hc exs_nil (by decide) ⟨_, _, rfl, rfl, ⟨by decide, by decide⟩, fun h => absurd h (by decide)⟩ (by omega)
  rw [cpX_len] at h9
  exact h9
theorem set_atX {x : Td} (h : TdOk x) {per : Int} (hp : 1 ≤ per ∧ per ≤ 40) {ys : List Int} (hy : SlkR x true (Fset per) ys) {s k : Nat} {j : Int} (hj : j = (nS x s : Int) + k) (hs : s < x.n.ss.length) (hk : k < (x.n.ss.getD s sq0).xs.length) : 0 ≤ ys.getD j.toNat 0 → (smpR x per).getD j.toNat 0 = (nvX x).getD ((x.n.ss.getD s sq0).xs.getD k 0).toNat 0 := fun h9 => by
  have hl := nS_lt x x.n.ss.length hs
  rw [show j.toNat = nS x s + k by omega] at h9 ⊢
  obtain ⟨b, hb⟩ := hy.2 (nS x s + k) (by omega)
  exact setup_ok h (by omega) hs hk hb h9
theorem getI_atH {xs : List Int} {i : Int} (h0 : 0 ≤ i) (h1 : i < xs.length) : getI xs i = xs.getD i.toNat 0 := by unfold getI; rw [if_pos ⟨h0, h1⟩]
open Go.RowKit
theorem lawsGetH_ans (xs : List Int) (x : Int) (v : Value) (w : World) (hv : RdsW w v 1 xs.length (xs.map (Value.int .i64))) (hlen : xs.length ≤ 1000000000) :
   Calls Try.prog 14 #[v, .int .i64 x] w (Ans w (.int .i64 (getI xs x))) := by
 refine zbf (N := 17) (args := [v, .int .i64 x]) Try.func14 rfl rfl (zbc 1 rfl (zac (zac (reQ 1 rfl ?_))))
 refine zbh rfl rfl rfl rfl rfl rfl (fun h1 => ?_) (fun h1 => ?_)
 ·
  refine zbb 6 rfl (zao rfl (zbc 1 rfl ?_))
  refine zav (zap ?_)
  exact zbg rfl rfl (by unfold getI; rw [if_neg (by omega)])
 refine zan 3 rfl (hvQ rfl (lnQ rfl rfl rfl (zaa hv)) ?_)
 refine zfh rfl rfl rfl rfl rfl rfl (fun h2 => ?_) (fun h2 => ?_)
 ·
  refine zbb 1 rfl (zao rfl (zbc 1 rfl ?_))
  refine zav (zap ?_)
  exact zbg rfl rfl (by unfold getI; rw [if_neg (by omega)])
 refine zbb 1 rfl (zaq rfl (zcp (zac (reQ 2 rfl (hvQ rfl (riQ 1 rfl rfl rfl rfl (zaa hv)) (hvQ rfl (lzQ rfl rfl rfl (zaa hv)) (zan 1 rfl (?_))))))))
 refine ntQ ?_
 exact zav (zbg rfl rfl (by unfold getI; rw [if_pos (by omega)]))
theorem walk_FnSetup (a0 : Option Addr) (len0 cap0 : Nat) (z0 : List Int) (w : World) (hbr : BRow .u8 w a0 len0 cap0 z0) :
   Calls Try.prog 5 #[.slice a0 len0 cap0] w (Ans w (.bool true)) := by
 refine zbf (N := 113) (args := [.slice a0 len0 cap0]) Try.func5 rfl rfl (zbc 1 rfl (zac (zac (reQ 1 rfl ?_))))
 refine zdn rfl (zal rfl rfl (fun w hm => zas (zgo (big_any a0 len0 cap0 w (hbr.len_le))))) (zbl (fun h1 => ?_) (fun h1 => ?_))
 ·
  have h1p := of_decide_eq_true h1
  refine ntQ (zao rfl (zbc 1 rfl ?_))
  refine zav (zap ?_)
  exact zbg rfl rfl rfl
 have h1p := of_decide_eq_false h1
 refine ntQ (zaq rfl (zcp (zac (reQ 1 rfl ?_))))
 refine hl_q rfl rfl rfl (zal rfl rfl (fun w hm => DrawTimed_ret _ _ _ z0 w (hbr.below hm.bel) (by omega))) ?_
 intro v2 p3 hR4
 obtain ⟨ps, x, pd, rfl, rfl, hps, h1s, hok, hpd1, hpd2⟩ := hR4
 obtain ⟨hcnt, ⟨hi0, hi1⟩, hs2, hl2⟩ := td_cnt hok
 refine zan 3 rfl (zdt rfl (zbm (z := .agg #[.int .i64 0, .slice none 0 0, .slice none 0 0, .slice none 0 0, .slice none 0 0, .slice none 0 0, .slice none 0 0, .slice none 0 0, .slice none 0 0, .int .i64 0, .int .i64 0]) rfl rfl) ?_)
 intro b5
 refine zbr (cs' := #[.int .i64 x.n.ins, x.n.sv, x.n.lv, x.n.ov, x.pv, x.qv, x.kv, x.av, x.bv, .int .i64 x.oi, .int .i64 x.ni]) (i := 0) (off := 0) (us := [.int .i64 x.n.ins, x.n.sv, x.n.lv, x.n.ov, x.pv, x.qv, x.kv, x.av, x.bv, .int .i64 x.oi, .int .i64 x.ni]) rfl rfl rfl rfl rfl rfl rfl (zae rfl (zae h1s.sv (zae h1s.lv (zae h1s.ov (zae h1s.pv (zae h1s.qv (zae h1s.kv (zae h1s.av (zae h1s.bv (zae rfl (zae rfl zbj))))))))))) rfl (by kernel_rfl) rfl (zbb 1 rfl (srQ (hvQ rfl (zar (cs := [.int .i64 x.n.ins, x.n.sv, x.n.lv, x.n.ov, x.pv, x.qv, x.kv, x.av, x.bv, .int .i64 x.oi, .int .i64 x.ni]) rfl rfl rfl rfl rfl (zam 0 rfl 0 rfl)) ?_)))
 refine hl_q rfl rfl rfl (zal rfl rfl (fun w hm => tofX hok w (hps w (hm.holds _ (zby (i := 1) rfl))))) ?_
 intro v6 p7 hR8
 obtain ⟨gu, rfl, rfl, hgu1⟩ := hR8
 refine zan 3 rfl (zdt rfl (zbm (z := .agg #[.int .i64 0, .slice none 0 0]) rfl rfl) ?_)
 intro b9
 refine zbr (cs' := #[.int .i64 (ndX x), gu]) (i := 0) (off := 0) (us := [.int .i64 (ndX x), gu]) rfl rfl rfl rfl rfl rfl rfl (zae rfl (zae hgu1 zbj)) rfl rfl rfl (zbb 1 rfl (srQ (hvQ rfl (zar (cs := [.int .i64 x.n.ins, x.n.sv, x.n.lv, x.n.ov, x.pv, x.qv, x.kv, x.av, x.bv, .int .i64 x.oi, .int .i64 x.ni]) rfl rfl rfl rfl rfl (zam 2 rfl 0 rfl)) ?_)))
 refine hl_q rfl rfl rfl (zal rfl rfl (fun w hm => capX hok w (hps w (hm.holds _ (zby (i := 3) rfl))))) ?_
 intro v10 p11 hR12
 subst hR12
 refine zbb 1 rfl (zac ?_)
 refine zdq rfl 6 [0, 1, 2, 3, 4, 5] (List.take 6 _) (List.drop 6 _) [[], [], [1], [], [], [0, 2, 3, 4]] [28, 29, 30, 31, 32, 33] (fun i_ vs_ v_ p_ => match i_ with | 0 => v_ = .agg #[.int .i64 (ndX x), gu] ∧ p_ = [] | 1 => v_ = .agg #[.int .i64 x.n.ins, x.n.sv, x.n.lv, x.n.ov, x.pv, x.qv, x.kv, x.av, x.bv, .int .i64 x.oi, .int .i64 x.ni] ∧ p_ = [] | 2 => (fun v' post => post = [rowE 89 2 v' (lpX x).length ((lpX x).flatMap pntC)]) v_ p_ | 3 => v_ = v10 ∧ p_ = [] | 4 => v_ = .int .i64 pd ∧ p_ = [] | 5 => (fun v' post => ∃ ys : List Int, post = [rowE 3 1 v' ys.length (ys.map (Value.int .i64))] ∧ SlkR x true (Fset pd) ys) v_ p_ | _ => True) (List.take_append_drop 6 _).symm (by kernel_rfl) (by kernel_rfl) rfl rfl ?_ ?_
 ·
  refine ⟨?_, ?_, ?_, ?_, ?_, ?_, trivial⟩
  ·
   intro vf pf hR
   exact olQ rfl (zai [5] rfl) (zbd (zar (cs := [.int .i64 (ndX x), gu]) rfl rfl rfl rfl rfl (zam 1 rfl 0 rfl)))
  ·
   intro vf pf hR
   exact olQ rfl (zai [3] rfl) (zbd (zar (cs := [.int .i64 x.n.ins, x.n.sv, x.n.lv, x.n.ov, x.pv, x.qv, x.kv, x.av, x.bv, .int .i64 x.oi, .int .i64 x.ni]) rfl rfl rfl rfl rfl (zam 3 rfl 0 rfl)))
  ·
   intro vf pf hR
   have e1 := hR 1 (by decide)
   exact olQ rfl (sk 29 (congrArg some e1.1) (zab _)) (zal rfl rfl (fun w hm => lauX hok w (hps w (hm.holds _ (zby (i := 4) rfl)))))
  ·
   intro vf pf hR
   exact ovQ rfl (zai [7] rfl) (zbd (zaj rfl))
  ·
   intro vf pf hR
   exact ovQ rfl (zai [4] rfl) (zbd (zaj rfl))
  intro vf pf hR
  have e0 := hR 0 (by decide)
  have e2 : (fun v' post => post = [rowE 89 2 v' (lpX x).length ((lpX x).flatMap pntC)]) (vf 2) (pf 2) := hR 2 (by decide)
  obtain ⟨v13, vE2⟩ : ∃ x, vf 2 = x := ⟨_, rfl⟩
  obtain ⟨p14, pE2⟩ : ∃ x, pf 2 = x := ⟨_, rfl⟩
  have hR15 := e2
  rw [vE2, pE2] at hR15
  subst hR15
  have e3 := hR 3 (by decide)
  have e4 := hR 4 (by decide)
  refine Or.inl ⟨rfl, ?_⟩
  exact zcc (sk 28 (congrArg some e0.1) (sk 30 (congrArg some vE2) (sk 31 (congrArg some e3.1) (sk 32 (congrArg some e4.1) (zab _))))) (by simp only [pE2, vE2, e0.2, e3.2, e4.2, fS] <;> rfl) (zal rfl rfl (fun w hm => setX hok (by omega) _ _ _ w (zah 3 rfl w hm) (zah 0 rfl w hm) (zah 1 rfl w hm)))
 intro vf pf hR
 have e2 : (fun v' post => post = [rowE 89 2 v' (lpX x).length ((lpX x).flatMap pntC)]) (vf 2) (pf 2) := hR 2 (by decide)
 obtain ⟨v13, vE2⟩ : ∃ x, vf 2 = x := ⟨_, rfl⟩
 obtain ⟨p14, pE2⟩ : ∃ x, pf 2 = x := ⟨_, rfl⟩
 have hR15 := e2
 rw [vE2, pE2] at hR15
 subst hR15
 have e5 : (fun v' post => ∃ ys : List Int, post = [rowE 3 1 v' ys.length (ys.map (Value.int .i64))] ∧ SlkR x true (Fset pd) ys) (vf 5) (pf 5) := hR 5 (by decide)
 obtain ⟨v16, vE5⟩ : ∃ x, vf 5 = x := ⟨_, rfl⟩
 obtain ⟨p17, pE5⟩ : ∃ x, pf 5 = x := ⟨_, rfl⟩
 have hR18 := e5
 rw [vE5, pE5] at hR18
 obtain ⟨ys, rfl, hys⟩ := hR18
 have hyl := hys.1
 have q0 := hR 0 (by decide)
 have q1 := hR 1 (by decide)
 have q3 := hR 3 (by decide)
 have q4 := hR 4 (by decide)
 refine zce (zbe [15, 7, 6, 5, 4, 3, 2, 0] _ (sk 33 (congrArg some vE5) (zab _)) rfl) (by simp only [pE2, vE2, pE5, vE5, q0.2, q1.2, q3.2, q4.2, fS] <;> rfl) ?_
 simp only [List.drop_succ_cons, List.drop_zero]
 refine zbb 1 rfl (srQ (hvQ rfl (zar (cs := [.int .i64 x.n.ins, x.n.sv, x.n.lv, x.n.ov, x.pv, x.qv, x.kv, x.av, x.bv, .int .i64 x.oi, .int .i64 x.ni]) rfl rfl rfl rfl rfl (zam 5 rfl 0 rfl)) (zan 1 rfl ?_)))
 refine hl_q rfl rfl rfl (zal rfl rfl (fun w hm => implSampledAt_ret x pd w (hps w (hm.holds _ (zby (i := 6) rfl))))) ?_
 intro v19 p20 hR21
 subst hR21
 refine zbb 1 rfl (srQ (hvQ rfl (fdQ 0 rfl rfl rfl) (hvQ rfl (zar (cs := [.int .i64 x.n.ins, x.n.sv, x.n.lv, x.n.ov]) rfl rfl rfl rfl rfl (zam 6 rfl 0 rfl)) (hvQ rfl (fdQ 8 rfl rfl rfl) (hvQ rfl (zag rfl rfl rfl (zad 6 rfl rfl)) (hvQ rfl (fdQ 10 rfl rfl rfl) (hvQ rfl (zag rfl rfl rfl (zad 6 rfl rfl)) ?_)))))))
 refine hl_q rfl rfl rfl (zal rfl rfl (fun w hm => specLutValues_ret x.n x.bs _ x.ni w (hps w (hm.holds _ (zby (i := 7) rfl))).n (hps w (hm.holds _ (zby (i := 7) rfl))).bs hok.n hok.b)) ?_
 intro v22 p23 hR24
 subst hR24
 refine zbb 1 rfl (srQ ?_)
 have hcl := cpX_len x
 have hsml : (smpR x pd).length = nS x x.n.ss.length := smpR_len hok (by omega)
 have hvl : (((nvX x).length : Nat) : Int) = x.n.cnt := vt_len hok.n hok.b x.ni
 refine zbb 1 rfl (zac (zbc 1 rfl (zaw ?_)))
 refine lkQ2 (α := Nat) (β := Int) [0, 2, 3, 4, 5, 6, 7, 8, 9, 10, 15] rfl (fun s j => [rowE 3 1 v22 ((nvX x).length) ((nvX x).map (Value.int .i64)), rowE 3 1 v19 ((smpR x pd).length) ((smpR x pd).map (Value.int .i64)), rowE 89 2 v13 ((lpX x).length) ((lpX x).flatMap pntC), rowE 3 1 v16 ys.length (ys.map (Value.int .i64)), rowE 89 2 v10 ((cpX x).length) ((cpX x).flatMap pntC), boxE b9 #[.int .i64 (ndX x), gu] 53, rowE 87 3 gu ((gsX x).length) ((gsX x).flatMap arcC), boxE b5 #[.int .i64 x.n.ins, x.n.sv, x.n.lv, x.n.ov, x.pv, x.qv, x.kv, x.av, x.bv, .int .i64 x.oi, .int .i64 x.ni] 45, bigE ps]) (fun s j => [(11, .int .i64 j), (12, .int .i64 (s : Int))]) (fun s j => s ≤ x.n.ss.length ∧ j = (nS x s : Int)) (fun s j => x.n.ss.length - s) 0 0 ⟨Nat.zero_le _, rfl⟩ (saQ rfl) (pfQ rfl) ?_
 intro s j hi25
 obtain ⟨hs, hj⟩ := hi25
 have hnl := nS_48 hok
 refine zac (zac (reQ 1 rfl (hvQ rfl (fdQ 0 rfl rfl rfl) (hvQ rfl (fdQ 1 rfl rfl rfl) (hvQ rfl (zag rfl rfl rfl (zad 7 rfl rfl)) ?_)))))
 refine hvQ rfl (lnQ rfl rfl rfl (fun w hm => (hps w (hm.holds _ (zby (i := 8) rfl))).n.sq.row)) (zbh rfl rfl rfl rfl rfl rfl (fun h26 => ?_) (fun h26 => ?_))
 ·
  refine ntQ (zao rfl (zcp (sbQ (zbc 1 rfl ?_))))
  refine zaw ?_
  refine lkQ2 (α := Nat) (β := Int) [0, 2, 3, 4, 5, 6, 7, 8, 9, 10, 12, 15, 49] rfl (fun k i => [rowE 3 1 v22 ((nvX x).length) ((nvX x).map (Value.int .i64)), rowE 3 1 v19 ((smpR x pd).length) ((smpR x pd).map (Value.int .i64)), rowE 89 2 v13 ((lpX x).length) ((lpX x).flatMap pntC), rowE 3 1 v16 ys.length (ys.map (Value.int .i64)), rowE 89 2 v10 ((cpX x).length) ((cpX x).flatMap pntC), boxE b9 #[.int .i64 (ndX x), gu] 53, rowE 87 3 gu ((gsX x).length) ((gsX x).flatMap arcC), boxE b5 #[.int .i64 x.n.ins, x.n.sv, x.n.lv, x.n.ov, x.pv, x.qv, x.kv, x.av, x.bv, .int .i64 x.oi, .int .i64 x.ni] 45, bigE ps]) (fun k i => [(11, .int .i64 i), (13, .int .i64 (k : Int))]) (fun k i => k ≤ (x.n.ss.getD s sq0).xs.length ∧ i = (nS x s : Int) + k) (fun k i => (x.n.ss.getD s sq0).xs.length - k) 0 _ ⟨Nat.zero_le _, by omega⟩ (saQ rfl) (pfQ rfl) ?_
  intro k i hi27
  obtain ⟨hk, hi⟩ := hi27
  refine zac (zac (reQ 1 rfl (hvQ rfl (fdQ 0 rfl rfl rfl) (hvQ rfl (fdQ 1 rfl rfl rfl) (hvQ rfl (zag rfl rfl rfl (zad 7 rfl rfl)) (zan 1 rfl ?_))))))
  refine hvQ rfl (riQ 3 rfl rfl rfl rfl (fun w hm => (hps w (hm.holds _ (zby (i := 8) rfl))).n.sq.row)) (hvQ rfl (zbx (k0 := 2) rfl rfl rfl (fun w hm => (hps w (hm.holds _ (zby (i := 8) rfl))).n.sq.row) (by omega)) ?_)
  refine hvQ rfl (zat (u := (x.n.ss.getD s sq0).iv) rfl rfl rfl (fun w hm => (hps w (hm.holds _ (zby (i := 8) rfl))).n.sq.row) ((zcy sqC 3 (fun _ => rfl) x.n.ss sq0 (show s < _ by omega) (by decide)).trans rfl)) (hvQ rfl (lnQ rfl rfl rfl (fun w hm => (hps w (hm.holds _ (zby (i := 8) rfl))).n.sq.at (d := sq0) (k := s) (by omega))) ?_)
  refine zbh rfl rfl rfl rfl rfl rfl (fun h28 => ?_) (fun h28 => ?_)
  ·
   refine ntQ (zao rfl (zcp (sbQ (zac (zac ?_)))))
   have hsl : s < x.n.ss.length := by omega
   have hkl : k < (x.n.ss.getD s sq0).xs.length := by omega
   have hnl2 := nS_lt x x.n.ss.length hsl
   have hin := (seq_in hok hsl hkl).1
   have hset := set_atX hok (by omega) hys hi hsl hkl
   have hb29 : (decide ((ys.length : Int) ≤ i)) = false := decide_eq_false (by omega)
   rcases Bool.eq_false_or_eq_true (decide (0 ≤ ys.getD ((i).toNat) 0)) with hb30 | hb30
   ·
    have hb30p : 0 ≤ ys.getD ((i).toNat) 0 := of_decide_eq_true hb30
    have hsl : s < x.n.ss.length := by omega
    have hkl : k < (x.n.ss.getD s sq0).xs.length := by omega
    have hnl2 := nS_lt x x.n.ss.length hsl
    have hin := (seq_in hok hsl hkl).1
    have hset := set_atX hok (by omega) hys hi hsl hkl
    have hb31 : (((smpR x pd).getD i.toNat 0) != ((nvX x).getD ((((x.n.ss.getD s sq0).xs).getD k 0).toNat) 0)) = false := Bool.eq_false_iff.2 (fun h => bne_iff_ne.1 h (by omega))
    refine zbk 30 [[], [], [1], [0, 2], [3], [4], [4], [4, 5, 6], [4, 7], [4, 8], [4, 9], [10], [10], [10, 11, 12], [10], [10], [10, 15], [10, 16], [10], [10, 17, 18], [10, 19], [10, 20], [10], [10, 21, 22], [10, 23], [10, 14, 24], [10, 25], [10, 13, 26], [4, 10, 27], [4, 28]] [64, 65, 66, 67, 68, 69, 70, 71, 72, 73, 74, 75, 76, 77, 78, 79, 80, 81, 82, 83, 84, 85, 86, 87, 88, 89, 90, 91, 92, 93] [.int .i64 i, v16, .int .i64 (ys.length : Int), .bool false, .bool false, v16, .int .i64 i, elP v16 ((i).toNat * 1), .int .i64 (ys.getD ((i).toNat) 0), .bool true, .bool true, v19, .int .i64 i, .int .i64 ((smpR x pd).getD i.toNat 0), v22, .pointer (some ⟨b5, 0 + 0, none⟩), .pointer (some ⟨b5, 0 + 0 + 1, none⟩), x.n.sv, .int .i64 (s : Int), elP x.n.sv (((s : Int)).toNat * 3), elP x.n.sv (((s : Int)).toNat * 3 + 2), (x.n.ss.getD s sq0).iv, .int .i64 (k : Int), elP ((x.n.ss.getD s sq0).iv) (((k : Int)).toNat * 1), .int .i64 (((x.n.ss.getD s sq0).xs).getD k 0), elP v22 ((((x.n.ss.getD s sq0).xs).getD k 0).toNat * 1), .int .i64 ((nvX x).getD ((((x.n.ss.getD s sq0).xs).getD k 0).toNat) 0), .bool false, .bool false, .bool false] (by kernel_rfl) rfl ?_ ?_
    ·
     exact ⟨iaQ rfl (zaj rfl) rfl, iaQ rfl (zaj rfl) rfl, iaQ rfl (lnQ rfl rfl rfl (zah 3 rfl)) rfl, .inl ⟨rfl, zcz (zcd rfl rfl rfl rfl) hb29⟩, iaQ rfl (zaj rfl) rfl, iaQ rfl (zaj rfl) rfl, iaQ rfl (zaj rfl) rfl, iaQ rfl (riQ 1 rfl rfl rfl rfl (zah 3 rfl)) rfl, iaQ rfl (lzQ rfl rfl rfl (zah 3 rfl)) rfl, .inl ⟨rfl, zcz (zcd rfl rfl rfl rfl) hb30⟩, iaQ rfl (zaj rfl) rfl, iaQ rfl (zaj rfl) rfl, iaQ rfl (zaj rfl) rfl, .inl ⟨rfl, zal rfl rfl (fun w hm => zas (by have h9 := lawsGetH_ans (smpR x pd) i _ w ((zah 1 rfl) w hm) (by omega); rw [getI_atH (by omega) (by omega)] at h9; exact h9))⟩, iaQ rfl (zaj rfl) rfl, iaQ rfl (fdQ 0 rfl rfl rfl) rfl, iaQ rfl (fdQ 1 rfl rfl rfl) rfl, iaQ rfl (zag rfl rfl rfl (zad 7 rfl rfl)) rfl, iaQ rfl (zaj rfl) rfl, iaQ rfl (riQ 3 rfl rfl rfl rfl (fun w hm => (hps w (hm.holds _ (zby (i := 8) rfl))).n.sq.row)) rfl, iaQ rfl (zbx (k0 := 2) rfl rfl rfl (fun w hm => (hps w (hm.holds _ (zby (i := 8) rfl))).n.sq.row) (by omega)) rfl, iaQ rfl (zat (u := (x.n.ss.getD s sq0).iv) rfl rfl rfl (fun w hm => (hps w (hm.holds _ (zby (i := 8) rfl))).n.sq.row) ((zcy sqC 3 (fun _ => rfl) x.n.ss sq0 (show s < _ by omega) (by decide)).trans rfl)) rfl, iaQ rfl (zaj rfl) rfl, iaQ rfl (riQ 1 rfl rfl rfl rfl (fun w hm => (hps w (hm.holds _ (zby (i := 8) rfl))).n.sq.at (d := sq0) (k := s) (by omega))) rfl, iaQ rfl (zat (u := .int .i64 (((x.n.ss.getD s sq0).xs).getD k 0)) rfl rfl rfl (fun w hm => (hps w (hm.holds _ (zby (i := 8) rfl))).n.sq.at (d := sq0) (k := s) (by omega)) (zdi (show _ < ((x.n.ss.getD s sq0).xs).length by omega))) rfl, iaQ rfl (riQ 1 rfl rfl rfl rfl (zah 0 rfl)) rfl, iaQ rfl (zat (u := .int .i64 ((nvX x).getD ((((x.n.ss.getD s sq0).xs).getD k 0).toNat) 0)) rfl rfl rfl (zah 0 rfl) (zdi (show _ < (nvX x).length by omega))) rfl, .inl ⟨rfl, zcz (zcd rfl rfl rfl rfl) hb31⟩, iaQ rfl (zaj rfl) rfl, iaQ rfl (zaj rfl) rfl, trivial⟩
    simp only [List.drop_succ_cons, List.drop_zero]
    refine ntQ (zaq rfl (zcp (reQ 1 rfl (hvQ rfl (vaQ rfl rfl rfl) (enQ 1 rfl (zcv ?_))))))
    refine reQ 1 rfl (hvQ rfl (vaQ rfl rfl rfl) (enQ 1 rfl ?_))
    exact zbv (k + 1) _ ⟨by omega, by omega⟩ (by omega) (saQ rfl) (pfQ rfl)
   have hb30p : ¬ (0 ≤ ys.getD ((i).toNat) 0) := of_decide_eq_false hb30
   have hsl : s < x.n.ss.length := by omega
   have hkl : k < (x.n.ss.getD s sq0).xs.length := by omega
   have hnl2 := nS_lt x x.n.ss.length hsl
   have hin := (seq_in hok hsl hkl).1
   have hset := set_atX hok (by omega) hys hi hsl hkl
   refine zbk 30 [[], [], [1], [0, 2], [3], [4], [4], [4, 5, 6], [4, 7], [4, 8], [4, 9], [10], [10], [10], [10], [10], [10], [10], [10], [10], [10], [10], [10], [10], [10], [10], [10], [10], [4, 10, 27], [4, 28]] [64, 65, 66, 67, 68, 69, 70, 71, 72, 73, 74, 75, 76, 77, 78, 79, 80, 81, 82, 83, 84, 85, 86, 87, 88, 89, 90, 91, 92, 93] [.int .i64 i, v16, .int .i64 (ys.length : Int), .bool false, .bool false, v16, .int .i64 i, elP v16 ((i).toNat * 1), .int .i64 (ys.getD ((i).toNat) 0), .bool false, .bool false, undef, undef, undef, undef, undef, undef, undef, undef, undef, undef, undef, undef, undef, undef, undef, undef, undef, .bool false, .bool false] (by kernel_rfl) rfl ?_ ?_
   ·
    exact ⟨iaQ rfl (zaj rfl) rfl, iaQ rfl (zaj rfl) rfl, iaQ rfl (lnQ rfl rfl rfl (zah 3 rfl)) rfl, .inl ⟨rfl, zcz (zcd rfl rfl rfl rfl) hb29⟩, iaQ rfl (zaj rfl) rfl, iaQ rfl (zaj rfl) rfl, iaQ rfl (zaj rfl) rfl, iaQ rfl (riQ 1 rfl rfl rfl rfl (zah 3 rfl)) rfl, iaQ rfl (lzQ rfl rfl rfl (zah 3 rfl)) rfl, .inl ⟨rfl, zcz (zcd rfl rfl rfl rfl) hb30⟩, iaQ rfl (zaj rfl) rfl, .inr ⟨rfl, rfl⟩, .inr ⟨rfl, rfl⟩, .inr ⟨rfl, rfl⟩, .inr ⟨rfl, rfl⟩, .inr ⟨rfl, rfl⟩, .inr ⟨rfl, rfl⟩, .inr ⟨rfl, rfl⟩, .inr ⟨rfl, rfl⟩, .inr ⟨rfl, rfl⟩, .inr ⟨rfl, rfl⟩, .inr ⟨rfl, rfl⟩, .inr ⟨rfl, rfl⟩, .inr ⟨rfl, rfl⟩, .inr ⟨rfl, rfl⟩, .inr ⟨rfl, rfl⟩, .inr ⟨rfl, rfl⟩, .inr ⟨rfl, rfl⟩, iaQ rfl (zaj rfl) rfl, iaQ rfl (zaj rfl) rfl, trivial⟩
   simp only [List.drop_succ_cons, List.drop_zero]
   refine ntQ (zaq rfl (zcp (reQ 1 rfl (hvQ rfl (vaQ rfl rfl rfl) (enQ 1 rfl (zcv ?_))))))
   refine reQ 1 rfl (hvQ rfl (vaQ rfl rfl rfl) (enQ 1 rfl ?_))
   exact zbv (k + 1) _ ⟨by omega, by omega⟩ (by omega) (saQ rfl) (pfQ rfl)
  refine ntQ (zaq rfl ?_)
  refine zaz (zdr ?_)
  refine zaf (zcv (reQ 1 rfl (hvQ rfl (vaQ rfl rfl rfl) (enQ 1 rfl ?_))))
  exact zbv (s + 1) _ ⟨by omega, by show _ = ((nS x s + (x.n.ss.getD s sq0).xs.length : Nat) : Int); omega⟩ (by omega) (saQ rfl) (pfQ rfl)
 refine ntQ (zaq rfl ?_)
 refine zaz (zdr ?_)
 refine zaf (zax (srQ ?_))
 have hje : j = (nS x x.n.ss.length : Int) := by rw [hj, show s = x.n.ss.length by omega]
 refine zan 4 rfl (hvQ rfl (lnQ rfl rfl rfl (zah 4 rfl)) ?_)
 refine zcu rfl rfl rfl rfl rfl rfl (fun h32 => ?_) (fun h32 => absurd h32 (by omega))
 refine zan 4 rfl (hvQ rfl (lnQ rfl rfl rfl (zah 1 rfl)) ?_)
 refine zcu rfl rfl rfl rfl rfl rfl (fun h33 => ?_) (fun h33 => absurd h33 (by omega))
 refine zan 2 rfl (hvQ rfl (zar (cs := [.int .i64 (ndX x), gu]) rfl rfl rfl rfl rfl (zam 5 rfl 0 rfl)) ?_)
 refine zdn rfl (zal rfl rfl (fun w hm => zas (implTimingOk_yes (ndX x) (gsX x) gu w (gok_x hok) (zah 6 rfl w hm)))) (zbb 2 rfl ?_)
 exact zav (zbg rfl rfl rfl)
end Go.Proofs.Ytakjndmlanpadaa
