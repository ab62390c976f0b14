/- Texts of the law FnConnsComplete, part 3: what it uses. -/
import Derived.Test.YteikplehipifkaaCnc2
set_option linter.unusedVariables false
set_option linter.unusedSimpArgs false
set_option maxHeartbeats 4000000
set_option maxRecDepth 100000
namespace Go.Proofs.Yteikplehipifkaa
open Go.RowKit Go.ChangeShapes
open Go.RowKit
theorem ziw (n : Nt) (w : World) (hr : RdsNt w n) (hn : NtOk n) :
   Calls Try.prog 93 #[.agg #[.int .i64 n.ins, n.sv, n.av, n.ov]] w (Ret w (fun u_ p_ => ∃ (ps : List HP) (m : Nt) (tv : Value), u_ = .tuple #[m.agg, tv] ∧ p_ = [rowE 66 3 m.sv m.ss.length (m.ss.flatMap sqC), rowE 3 1 tv (evs2 n.fst.toNat).length ((evs2 n.fst.toNat).map (Value.int .i64)), bigE ps] ∧ (∀ w, (bigE ps).holds w → RdsSqs w m.ss) ∧ m.sv.oneCell' = true ∧ (m.av = .slice none 0 0 ∧ m.ov = .slice none 0 0 ∧ m.gs = [] ∧ m.os = []) ∧ Skel n m ∧ NtOk m)) := by
 have hi0 := hn.i0
 have hi1 := hn.i1
 have hs1 := hn.s1
 have ha1 := hn.a1
 have ho1 := hn.o1
 have hcnt : n.cnt = 1 + n.ins + n.ss.length + n.gs.length := rfl
 have hfst : n.fst = 1 + n.ins + n.ss.length := rfl
 refine zbf (N := 48) (args := [.agg #[.int .i64 n.ins, n.sv, n.av, n.ov]]) Try.func93 rfl rfl (srQ ?_)
 refine zdj rfl (zch rfl rfl) ?_
 intro b1
 refine zdj rfl (zbx (z := .agg #[.int .i64 0, .slice none 0 0, .slice none 0 0, .slice none 0 0]) rfl rfl) ?_
 intro b2
 refine zaz 1 rfl (zac ?_)
 refine zdf rfl 7 [0, 1, 2, 3, 4, 5, 6] (List.take 7 _) (List.drop 7 _) [[], [0], [], [2], [3], [1, 4], []] [8, 9, 10, 11, 12, 13, 4] (fun i_ vs_ v_ p_ => match i_ with | 0 => v_ = .pointer (some ⟨b1, 0 + 0, none⟩) ∧ p_ = [] | 1 => v_ = .int .i64 n.ins ∧ p_ = [] | 2 => v_ = .pointer (some ⟨b1, 0 + 1, none⟩) ∧ p_ = [] | 3 => v_ = n.sv ∧ p_ = [] | 4 => (fun u_ p_ => ∃ (ps : List HP) (zs : List Sq), p_ = [rowE 66 3 u_ zs.length (zs.flatMap sqC), bigE ps] ∧ (∀ w, (bigE ps).holds w → RdsSqs w zs) ∧ zs.map sqv = n.ss.map sqv) v_ p_ | 5 => v_ = .agg #[.int .i64 n.ins, (List.getD vs_ 1 undef), .slice none 0 0, .slice none 0 0] ∧ p_ = [] | 6 => IsBox #[.int .i64 0, .slice none 0 0, .slice none 0 0, .slice none 0 0] 86 v_ p_ | _ => True) (List.take_append_drop 7 _).symm (by kernel_rfl) (by kernel_rfl) rfl rfl ?_ ?_
 ·
  refine ⟨?_, ?_, ?_, ?_, ?_, ?_, ?_, trivial⟩
  ·
   intro vf pf hR
   exact ovQ rfl (zam [1] rfl) (zbg (fdQ 0 rfl rfl rfl))
  ·
   intro vf pf hR
   have e0 := hR 0 (by decide)
   exact olQ rfl (sk 8 (congrArg some e0.1) (zaf _)) (zbg (zad rfl rfl rfl (zaa 1 rfl rfl)))
  ·
   intro vf pf hR
   exact ovQ rfl (zam [1] rfl) (zbg (fdQ 1 rfl rfl rfl))
  ·
   intro vf pf hR
   have e2 := hR 2 (by decide)
   exact olQ rfl (sk 10 (congrArg some e2.1) (zaf _)) (zbg (zad rfl rfl rfl (zaa 1 rfl rfl)))
  ·
   intro vf pf hR
   have e3 := hR 3 (by decide)
   exact olQ rfl (sk 11 (congrArg some e3.1) (zaf _)) (zaq rfl rfl (fun w hm => zgy n.ss _ w (hr.sq.below hm.bel) (fun s hs => (hr.xs s hs).below hm.bel) hn.s1 (fun s hs => (hn.sq s hs).len)))
  ·
   intro vf pf hR
   have e1 := hR 1 (by decide)
   have e4 : (fun u_ p_ => ∃ (ps : List HP) (zs : List Sq), p_ = [rowE 66 3 u_ zs.length (zs.flatMap sqC), bigE ps] ∧ (∀ w, (bigE ps).holds w → RdsSqs w zs) ∧ zs.map sqv = n.ss.map sqv) (vf 4) (pf 4) := hR 4 (by decide)
   obtain ⟨v3, vE4⟩ : ∃ x, vf 4 = x := ⟨_, rfl⟩
   obtain ⟨p4, pE4⟩ : ∃ x, pf 4 = x := ⟨_, rfl⟩
   have hR5 := e4
   rw [vE4, pE4] at hR5
   obtain ⟨ps, z0, rfl, hps, hz0⟩ := hR5
   have hz0l := zod hz0
   refine Or.inl ⟨rfl, ?_⟩
   exact zci (sk 9 (congrArg some e1.1) (sk 12 (congrArg some vE4) (zaf _))) (by simp only [pE4, vE4, e1.2, fS] <;> rfl) (zcy (zbg (zft (cs := #[.int .i64 n.ins, v3, .slice none 0 0, .slice none 0 0]) rfl rfl (fun w hm => zpj n.ins v3 ((zae 0 rfl w hm).one)))) (fun _ _ h => ⟨h.1.trans (by show _ = (.agg #[.int .i64 n.ins, (vf 4), .slice none 0 0, .slice none 0 0] : Value); first | (rw [vE4]; done) | (rw [vE4]; rfl)), h.2⟩))
  intro vf pf hR
  exact olQ rfl (zaf _) (zbx (z := .agg #[.int .i64 0, .slice none 0 0, .slice none 0 0, .slice none 0 0]) rfl rfl)
 intro vf pf hR
 have e4 : (fun u_ p_ => ∃ (ps : List HP) (zs : List Sq), p_ = [rowE 66 3 u_ zs.length (zs.flatMap sqC), bigE ps] ∧ (∀ w, (bigE ps).holds w → RdsSqs w zs) ∧ zs.map sqv = n.ss.map sqv) (vf 4) (pf 4) := hR 4 (by decide)
 obtain ⟨v3, vE4⟩ : ∃ x, vf 4 = x := ⟨_, rfl⟩
 obtain ⟨p4, pE4⟩ : ∃ x, pf 4 = x := ⟨_, rfl⟩
 have hR5 := e4
 rw [vE4, pE4] at hR5
 obtain ⟨ps, z0, rfl, hps, hz0⟩ := hR5
 have hz0l := zod hz0
 have e5 : (vf 5) = .agg #[.int .i64 n.ins, (vf 4), .slice none 0 0, .slice none 0 0] ∧ (pf 5) = [] := hR 5 (by decide)
 rw [vE4] at e5
 have e6 : IsBox #[.int .i64 0, .slice none 0 0, .slice none 0 0, .slice none 0 0] 86 (vf 6) (pf 6) := hR 6 (by decide)
 obtain ⟨b6, vE6, pE6⟩ := e6
 have q0 := hR 0 (by decide)
 have q1 := hR 1 (by decide)
 have q2 := hR 2 (by decide)
 have q3 := hR 3 (by decide)
 have q5 := hR 5 (by decide)
 refine zco (zbk [3, 2, 1, 0] _ (sk 4 (congrArg some vE6) (sk 13 (congrArg some e5.1) (zaf _))) rfl) (by simp only [pE4, vE4, pE6, vE6, q0.2, q1.2, q2.2, q3.2, q5.2, fS] <;> rfl) ?_
 simp only [List.drop_succ_cons, List.drop_zero]
 refine zdn (i := 0) rfl (fun ho7 => ?_)
 refine zcc (cs' := #[.int .i64 n.ins, v3, .slice none 0 0, .slice none 0 0]) (i := 2) (off := 0) (us := [.int .i64 n.ins, v3, .slice none 0 0, .slice none 0 0]) rfl rfl rfl rfl rfl rfl rfl (zah rfl (zah ho7 (zah rfl (zah rfl zbr)))) rfl rfl rfl (ntQ (srQ ?_))
 refine zdk rfl (zbz (s := 1) rfl Try.underlying28 rfl) ?_
 intro g8
 refine zaz 1 rfl (zac (zbd 1 rfl (zax ?_)))
 refine zhy (α := Nat) (β := Value) [0, 1, 2, 3, 4] rfl (fun k tv => [rowE 3 1 tv ((evs2 k).length) ((evs2 k).map (Value.int .i64)), rowE 66 3 v3 z0.length (z0.flatMap sqC), bigE ps, boxE b6 #[.int .i64 n.ins, v3, .slice none 0 0, .slice none 0 0] 86, boxE b2 #[.int .i64 0, .slice none 0 0, .slice none 0 0, .slice none 0 0] 86, boxE b1 #[.int .i64 n.ins, n.sv, n.av, n.ov] 86]) (fun k tv => [(5, tv), (6, .int .i64 (k : Int))]) (fun k tv => (k : Int) ≤ n.fst) (fun k tv => n.fst.toNat - k) 0 _ (by omega) (saQ rfl) (pfQ rfl) ?_
 intro k tv hi9
 have hk := hi9
 have hek := zmh k
 refine zac (zac (reQ 1 rfl (hvQ rfl (zao (cs := [.int .i64 n.ins, n.sv, n.av, n.ov]) rfl rfl rfl rfl rfl (zaj 5 rfl 0 rfl)) ?_)))
 refine zds rfl (zaq rfl rfl (fun w hm => zav (zcl n w (hr.below hm.bel) hn))) (zbj rfl rfl rfl rfl rfl rfl (fun h10 => ?_) (fun h10 => ?_))
 ·
  refine ntQ (zak rfl (zcq (sbQ (reQ 2 rfl (hvQ rfl (zew rfl rfl rfl (by constructor <;> omega)) ?_)))))
  refine zdk rfl (zat (z := .int .i64 0) (s := 1) (cs := ([2 * (k : Int)].map (Value.int .i64))) rfl Try.underlying28 rfl (by decide) rfl (by kernel_rfl) rfl) ?_
  intro g11
  refine zcd (i := 1) (z := .int .i64 0) (bytes := 8) rfl rfl rfl rfl Try.underlying28 (by kernel_rfl) rfl rfl rfl rfl (zae 0 rfl) (zbm _) (by first | omega | (simp; done) | (simp; omega)) (zbv (evs2 k) ([2 * (k : Int)])) (zcm (evs2 k) ([2 * (k : Int)])) (fun _ => rfl) ?_
  intro v12
  refine enQ 1 rfl (zcv (reQ 1 rfl (hvQ rfl (vaQ rfl rfl rfl) (enQ 1 rfl ?_))))
  exact zwq (l' := [rowE 3 1 (.slice (some ⟨g11, 0, none⟩) 1 1) 1 ([2 * (k : Int)].map (Value.int .i64)), rowE 3 1 v12 ((evs2 (k + 1)).length) ((evs2 (k + 1)).map (Value.int .i64)), rowE 66 3 v3 z0.length (z0.flatMap sqC), bigE ps, boxE b6 #[.int .i64 n.ins, v3, .slice none 0 0, .slice none 0 0] 86, boxE b2 #[.int .i64 0, .slice none 0 0, .slice none 0 0, .slice none 0 0] 86, boxE b1 #[.int .i64 n.ins, n.sv, n.av, n.ov] 86]) (by rw [ztu]) (zbq (k + 1) v12 (by omega) (by omega) (saQ rfl) (slQ [1, 0, 0, 0, 0, 0] rfl))
 refine ntQ (zal rfl ?_)
 refine zba (zdq ?_)
 refine zag (zaw (zac (zbd 1 rfl (zax ?_))))
 refine zgn (α := Nat) (β := List Sq) (γ := List HP) [0, 1, 2, 3, 4, 5, 6, 18] rfl (fun i9 zs ps2 => [rowE 3 1 tv ((evs2 k).length) ((evs2 k).map (Value.int .i64)), rowE 66 3 v3 zs.length (zs.flatMap sqC), bigE ps2, boxE b6 #[.int .i64 n.ins, v3, .slice none 0 0, .slice none 0 0] 86, boxE b2 #[.int .i64 0, .slice none 0 0, .slice none 0 0, .slice none 0 0] 86, boxE b1 #[.int .i64 n.ins, n.sv, n.av, n.ov] 86]) (fun i9 zs ps2 => [(7, .int .i64 (i9 : Int))]) (fun i9 zs ps2 => i9 ≤ z0.length ∧ SInv z0 i9 n.fst zs ∧ ∀ w, (bigE ps2).holds w → RdsSqs w zs) (fun i9 zs ps2 => z0.length - i9) 0 z0 _ ⟨Nat.zero_le _, SInv.start _ _, hps⟩ (saQ rfl) (pfQ rfl) ?_
 intro i9 zs ps2 hi13
 obtain ⟨hi9, hsi, hps2⟩ := hi13
 have hzl := hsi.len
 refine zac (zac (reQ 1 rfl (hvQ rfl (fdQ 1 rfl rfl rfl) (hvQ rfl (zad rfl rfl rfl (zaa 3 rfl rfl)) (hvQ rfl (lnQ rfl rfl rfl (zae 1 rfl)) ?_)))))
 refine zbj rfl rfl rfl rfl rfl rfl (fun h14 => ?_) (fun h14 => ?_)
 ·
  refine ntQ (zak rfl (zcq (sbQ ?_)))
  have h4z := hsi.x4 (sqv_x4 hz0 (fun s hs => (hn.sq s hs).len)) (k := i9) (by omega)
  refine zdf rfl 13 [0, 1, 2, 3, 4, 5, 6, 7, 8, 9, 10, 11, 12] (List.take 13 _) (List.drop 13 _) [[], [0], [], [], [3], [], [4, 5], [6], [7], [8], [9], [1, 2], [11]] [33, 34, 35, 36, 37, 38, 39, 40, 41, 42, 43, 44, 45] (fun i_ vs_ v_ p_ => match i_ with | 0 => v_ = .pointer (some ⟨b6, 0 + 1, none⟩) ∧ p_ = [] | 1 => v_ = v3 ∧ p_ = [] | 2 => v_ = .int .i64 (i9 : Int) ∧ p_ = [] | 3 => v_ = .pointer (some ⟨b6, 0 + 1, none⟩) ∧ p_ = [] | 4 => v_ = v3 ∧ p_ = [] | 5 => v_ = .int .i64 (i9 : Int) ∧ p_ = [] | 6 => v_ = elP v3 (((i9 : Int)).toNat * 3) ∧ p_ = [] | 7 => v_ = elP v3 (((i9 : Int)).toNat * 3 + 2) ∧ p_ = [] | 8 => v_ = (zs.getD i9 sq0).iv ∧ p_ = [] | 9 => v_ = .int .i64 (((zs.getD i9 sq0).xs).length : Int) ∧ p_ = [] | 10 => IsRow 3 1 ((List.replicate (((zs.getD i9 sq0).xs).length) (0 : Int)).length) ((List.replicate (((zs.getD i9 sq0).xs).length) (0 : Int)).map (Value.int .i64)) v_ p_ | 11 => v_ = elP v3 (((i9 : Int)).toNat * 3) ∧ p_ = [] | 12 => v_ = elP v3 (((i9 : Int)).toNat * 3 + 2) ∧ p_ = [] | _ => True) (List.take_append_drop 13 _).symm (by kernel_rfl) (by kernel_rfl) rfl rfl ?_ ?_
  ·
   refine ⟨?_, ?_, ?_, ?_, ?_, ?_, ?_, ?_, ?_, ?_, ?_, ?_, ?_, trivial⟩
   ·
    intro vf pf hR
    exact ovQ rfl (zam [4] rfl) (zbg (fdQ 1 rfl rfl rfl))
   ·
    intro vf pf hR
    have e0 := hR 0 (by decide)
    exact olQ rfl (sk 33 (congrArg some e0.1) (zaf _)) (zbg (zad rfl rfl rfl (zaa 3 rfl rfl)))
   ·
    intro vf pf hR
    exact ovQ rfl (zam [7] rfl) (zbg (zas rfl))
   ·
    intro vf pf hR
    exact ovQ rfl (zam [4] rfl) (zbg (fdQ 1 rfl rfl rfl))
   ·
    intro vf pf hR
    have e3 := hR 3 (by decide)
    exact olQ rfl (sk 36 (congrArg some e3.1) (zaf _)) (zbg (zad rfl rfl rfl (zaa 3 rfl rfl)))
   ·
    intro vf pf hR
    exact ovQ rfl (zam [7] rfl) (zbg (zas rfl))
   ·
    intro vf pf hR
    have e4 := hR 4 (by decide)
    have e5 := hR 5 (by decide)
    exact olQ rfl (sk 37 (congrArg some e4.1) (sk 38 (congrArg some e5.1) (zaf _))) (zbg (riQ 3 rfl rfl rfl rfl (zae 1 rfl)))
   ·
    intro vf pf hR
    have e6 := hR 6 (by decide)
    exact olQ rfl (sk 39 (congrArg some e6.1) (zaf _)) (zbg (zbe (k0 := 2) rfl rfl rfl (zae 1 rfl) (by omega)))
   ·
    intro vf pf hR
    have e7 := hR 7 (by decide)
    exact olQ rfl (sk 40 (congrArg some e7.1) (zaf _)) (zbg (zar (u := (zs.getD i9 sq0).iv) rfl rfl rfl (zae 1 rfl) ((zce sqC 3 (fun _ => rfl) zs sq0 (show i9 < _ by omega) (by decide)).trans rfl)))
   ·
    intro vf pf hR
    have e8 := hR 8 (by decide)
    exact olQ rfl (sk 41 (congrArg some e8.1) (zaf _)) (zbg (lnQ rfl rfl rfl (fun w hm => ((hps2 w (hm.holds _ (zcn (i := 2) rfl)))).at (k := i9) (by omega))))
   ·
    intro vf pf hR
    have e9 := hR 9 (by decide)
    exact olQ rfl (sk 42 (congrArg some e9.1) (zaf _)) (zdw (z := .int .i64 0) (s := 1) (bytes := 8) (n := (List.replicate (((zs.getD i9 sq0).xs).length) (0 : Int)).length) (cs := ((List.replicate (((zs.getD i9 sq0).xs).length) (0 : Int)).map (Value.int .i64))) rfl Try.underlying28 rfl (by decide) rfl rfl (by first | (rw [List.length_replicate]; done) | (rw [List.length_replicate]; omega)) (by first | (rw [List.length_replicate]; done) | (rw [List.length_replicate]; omega)) (by rw [List.length_replicate]; omega) (zec _))
   ·
    intro vf pf hR
    have e1 := hR 1 (by decide)
    have e2 := hR 2 (by decide)
    exact olQ rfl (sk 34 (congrArg some e1.1) (sk 35 (congrArg some e2.1) (zaf _))) (zbg (riQ 3 rfl rfl rfl rfl (zae 1 rfl)))
   intro vf pf hR
   have e11 := hR 11 (by decide)
   exact olQ rfl (sk 44 (congrArg some e11.1) (zaf _)) (zbg (zbe (k0 := 2) rfl rfl rfl (zae 1 rfl) (by omega)))
  intro vf pf hR
  have e10 : IsRow 3 1 ((List.replicate (((zs.getD i9 sq0).xs).length) (0 : Int)).length) ((List.replicate (((zs.getD i9 sq0).xs).length) (0 : Int)).map (Value.int .i64)) (vf 10) (pf 10) := hR 10 (by decide)
  obtain ⟨g15, vE10, pE10⟩ := e10
  have e12 := hR 12 (by decide)
  have q0 := hR 0 (by decide)
  have q1 := hR 1 (by decide)
  have q2 := hR 2 (by decide)
  have q3 := hR 3 (by decide)
  have q4 := hR 4 (by decide)
  have q5 := hR 5 (by decide)
  have q6 := hR 6 (by decide)
  have q7 := hR 7 (by decide)
  have q8 := hR 8 (by decide)
  have q9 := hR 9 (by decide)
  have q11 := hR 11 (by decide)
  have q12 := hR 12 (by decide)
  refine zco (zbk [30, 18, 7, 6, 5, 4, 3, 2, 1, 0] _ (sk 43 (congrArg some vE10) (sk 45 (congrArg some e12.1) (zaf _))) rfl) (by simp only [pE10, vE10, q0.2, q1.2, q2.2, q3.2, q4.2, q5.2, q6.2, q7.2, q8.2, q9.2, q11.2, q12.2, fS] <;> rfl) ?_
  simp only [List.drop_succ_cons, List.drop_zero]
  refine zda (i := 2) (n' := (zs.set i9 (Sq.mk (zs.getD i9 sq0).kd (zs.getD i9 sq0).it (.slice (some ⟨g15, 0, none⟩) ((List.replicate (((zs.getD i9 sq0).xs).length) (0 : Int)).length) ((List.replicate (((zs.getD i9 sq0).xs).length) (0 : Int)).length)) (List.replicate (((zs.getD i9 sq0).xs).length) (0 : Int)))).length) (xs' := ((zs.set i9 (Sq.mk (zs.getD i9 sq0).kd (zs.getD i9 sq0).it (.slice (some ⟨g15, 0, none⟩) ((List.replicate (((zs.getD i9 sq0).xs).length) (0 : Int)).length) ((List.replicate (((zs.getD i9 sq0).xs).length) (0 : Int)).length)) (List.replicate (((zs.getD i9 sq0).xs).length) (0 : Int)))).flatMap sqC)) rfl rfl rfl rfl rfl rfl rfl rfl (by first | omega | (simp only [List.length_set]; omega)) List.length_set.symm (zjh sqC 3 (fun _ => rfl) _ sq0 _ (by first | omega | (simp only [List.length_set]; omega)) (by decide) rfl) rfl (zbu (zcv (reQ 1 rfl (hvQ rfl (vaQ rfl rfl rfl) (enQ 1 rfl ?_)))))
  refine zbw 7 [6, 5, 4, 2, 1, 0, 3] rfl rfl (by decide) ?_
  refine zcz 2 rfl ?_
  refine zbw 6 [5, 4, 3, 0, 2, 1] rfl rfl (by decide) ?_
  exact zbi (i9 + 1) (zs.set i9 (Sq.mk (zs.getD i9 sq0).kd (zs.getD i9 sq0).it (.slice (some ⟨g15, 0, none⟩) ((List.replicate (((zs.getD i9 sq0).xs).length) (0 : Int)).length) ((List.replicate (((zs.getD i9 sq0).xs).length) (0 : Int)).length)) (List.replicate (((zs.getD i9 sq0).xs).length) (0 : Int)))) [bigE ps2, rowE 3 1 (.slice (some ⟨g15, 0, none⟩) ((List.replicate (((zs.getD i9 sq0).xs).length) (0 : Int)).length) ((List.replicate (((zs.getD i9 sq0).xs).length) (0 : Int)).length)) ((List.replicate (((zs.getD i9 sq0).xs).length) (0 : Int)).length) ((List.replicate (((zs.getD i9 sq0).xs).length) (0 : Int)).map (Value.int .i64))] ⟨by omega, hsi.step (by omega) (by show (_, _, (List.replicate _ (0 : Int)).length) = _; rw [List.length_replicate]; rfl) (zsd (by omega)), fun w hw => (hps2 w (zbh hw List.mem_cons_self)).set (zcf (zbh hw (List.mem_cons_of_mem _ List.mem_cons_self)))⟩ (by omega) (saQ rfl) (pfQ rfl)
 refine ntQ (zal rfl ?_)
 refine zba (zdq ?_)
 refine zag (zaw (srQ (hvQ rfl (zao (cs := [.int .i64 n.ins, v3, .slice none 0 0, .slice none 0 0]) rfl rfl rfl rfl rfl (zaj 3 rfl 0 rfl)) (zap 1 rfl ?_))))
 refine zcc (cs' := #[.int .i64 n.ins, v3, .slice none 0 0, .slice none 0 0]) (i := 4) (off := 0) (us := [.int .i64 n.ins, v3, .slice none 0 0, .slice none 0 0]) rfl rfl rfl rfl rfl rfl rfl (zah rfl (zah ho7 (zah rfl (zah rfl zbr)))) rfl rfl rfl (zaz 1 rfl ?_)
 refine zau ?_
 have hkf : k = n.fst.toNat := by omega
 subst hkf
 refine zed (fun w hm => (zae 1 rfl w hm).one) (fun ho1 => ?_)
 have hfin := zlk (n := n) (m := n) (sv := v3) (av := .slice none 0 0) (ov := .slice none 0 0) (zs := zs) (gs := []) (os := []) ⟨rfl, rfl⟩ hn (hsi.sk.trans (zil hz0)) (fun k hk => absurd hk (Nat.not_lt_zero _)) (by simp) (by have h9 := hsi.all (by omega); simpa using h9) (by simp) (by simp)
 refine zbw 6 [5, 4, 3, 2, 0, 1] rfl rfl (by decide) ?_
 exact zdm (rs := [.cell 2 86, .tmp 3]) (vs := [.agg #[.int .i64 n.ins, v3, .slice none 0 0, .slice none 0 0], tv]) (post := [rowE 66 3 v3 zs.length (zs.flatMap sqC), rowE 3 1 tv ((evs2 n.fst.toNat).length) ((evs2 n.fst.toNat).map (Value.int .i64)), bigE ps2]) rfl ⟨⟨b2, 0, [.int .i64 n.ins, v3, .slice none 0 0, .slice none 0 0], rfl, rfl, by kernel_rfl, by kernel_rfl, zaj 4 rfl 0 rfl⟩, rfl, trivial⟩ rfl (slQ [0, 0, 0] rfl) ⟨_, (Nt.mk n.ins v3 (.slice none 0 0) (.slice none 0 0) zs [] []), _, rfl, rfl, hps2, ho1, ⟨rfl, rfl, rfl, rfl⟩, hfin.2, hfin.1⟩
open Go.RowKit
theorem MapOk.two {tos : List Int} {c m : Int} (h : MapOk tos c m) {a b : Int} (ha : LtOk a c) (hb : LtOk b c) : LtOk ((mpS tos [a, b]).getD 0 0) m ∧ LtOk ((mpS tos [a, b]).getD 1 0) m := ⟨(h.lit ha).2, (h.lit hb).2⟩
theorem zuk {c a b : Int} (ha : LtOk a c) (hb : LtOk b c) : ∀ x ∈ [a, b], LtOk x c := fun x hx => by
  rcases List.mem_cons.1 hx with rfl | hx
  · exact ha
  · rw [List.mem_singleton] at hx; subst hx; exact hb
theorem zvz {n m : Nt} (h : Skel n m) {k : Nat} (hk : k < m.ss.length) : (m.ss.getD k sq0).xs.length = (n.ss.getD k sq0).xs.length := by
  have e := zoq (d := sq0) h.ss (k := k) (by rw [← h.len]; exact hk)
  simp only [sqk, Prod.mk.injEq] at e
  exact e.2.2
theorem zuh (n : Nt) (w : World) (hr : RdsNt w n) (hn : NtOk n) :
   Calls Try.prog 121 #[.agg #[.int .i64 n.ins, n.sv, n.av, n.ov]] w (Ret w (fun u_ p_ => ∃ (ps : List HP) (m : Nt), u_ = m.agg ∧ p_ = [bigE ps] ∧ (∀ w, (bigE ps).holds w → RdsNt w m) ∧ (m.sv.oneCell' = true ∧ m.av.oneCell' = true ∧ m.ov.oneCell' = true) ∧ NtOk m ∧ Skel n m ∧ m.gs.length ≤ n.gs.length)) := by
 have hi0 := hn.i0
 have hi1 := hn.i1
 have hs1 := hn.s1
 have ha1 := hn.a1
 have ho1 := hn.o1
 have hcnt : n.cnt = 1 + n.ins + n.ss.length + n.gs.length := rfl
 have hfst : n.fst = 1 + n.ins + n.ss.length := rfl
 refine zbf (N := 101) (args := [.agg #[.int .i64 n.ins, n.sv, n.av, n.ov]]) Try.func121 rfl rfl (srQ ?_)
 refine zdj rfl (zch rfl rfl) ?_
 intro b1
 refine zdj rfl (zbx (z := .agg #[.int .i64 0, .slice none 0 0, .slice none 0 0, .slice none 0 0]) rfl rfl) ?_
 intro b2
 refine ntQ (zeh (hvQ rfl (zao (cs := [.int .i64 n.ins, n.sv, n.av, n.ov]) rfl rfl rfl rfl rfl (zaj 1 rfl 0 rfl)) ?_))
 refine zds rfl (zaq rfl rfl (fun w hm => zav (zdz n w (hr.below hm.bel) hn))) (zaz 1 rfl (zal rfl (zcq (srQ (hvQ rfl (zao (cs := [.int .i64 n.ins, n.sv, n.av, n.ov]) rfl rfl rfl rfl rfl (zaj 1 rfl 0 rfl)) ?_)))))
 refine zfg rfl rfl rfl (zaq rfl rfl (fun w hm => zpm n w (hr.below hm.bel) hn)) ?_
 intro v3 p4 hR5
 obtain ⟨bs, rfl, hbl⟩ := hR5
 refine zaz 1 rfl (srQ (hvQ rfl (zao (cs := [.int .i64 n.ins, n.sv, n.av, n.ov]) rfl rfl rfl rfl rfl (zaj 2 rfl 0 rfl)) ?_))
 refine zfg rfl rfl rfl (zaq rfl rfl (fun w hm => ziw n w (hr.below hm.bel) hn)) ?_
 intro v6 p7 hR8
 obtain ⟨ps, m, tv, rfl, rfl, hps, o1m, ⟨hav, hov, hgs0, hos0⟩, hsk, hmok⟩ := hR8
 simp only [Nt.agg, hav, hov]
 have hskl : m.ss.length = n.ss.length := hsk.len
 refine zap 3 rfl (zdj rfl (zbx (z := .agg #[.int .i64 0, .slice none 0 0, .slice none 0 0, .slice none 0 0]) rfl rfl) ?_)
 intro b9
 refine zcc (cs' := #[.int .i64 m.ins, m.sv, .slice none 0 0, .slice none 0 0]) (i := 0) (off := 0) (us := [.int .i64 m.ins, m.sv, .slice none 0 0, .slice none 0 0]) rfl rfl rfl rfl rfl rfl rfl (zah rfl (zah o1m (zah rfl (zah rfl zbr)))) rfl rfl rfl (zaz 1 rfl (srQ (hvQ rfl (zao (cs := [.int .i64 n.ins, n.sv, n.av, n.ov]) rfl rfl rfl rfl rfl (zaj 6 rfl 0 rfl)) ?_)))
 refine zds rfl (zaq rfl rfl (fun w hm => zav (zcl n w (hr.below hm.bel) hn))) (zaz 1 rfl (zac (zbd 1 rfl (zax ?_))))
 refine zep [rowE 126 2 (.slice none 0 0) (([] : List An).length) (([] : List An).flatMap anC), boxE b9 #[.int .i64 m.ins, m.sv, .slice none 0 0, .slice none 0 0] 86, rowE 66 3 m.sv m.ss.length (m.ss.flatMap sqC), rowE 3 1 tv ((evs2 n.fst.toNat).length) ((evs2 n.fst.toNat).map (Value.int .i64)), bigE ps, rowE 4 1 v3 bs.length (bs.flatMap blC), boxE b2 #[.int .i64 0, .slice none 0 0, .slice none 0 0, .slice none 0 0] 86, boxE b1 #[.int .i64 n.ins, n.sv, n.av, n.ov] 86] (fun w hm => hm.nilRow 126 2) ?_
 refine zmc (α := Nat) (β := List Int) (γ := List An) (δ := Value × Value) (fun i tos gs q => [rowE 126 2 q.2 gs.length (gs.flatMap anC), boxE b9 #[.int .i64 m.ins, m.sv, q.2, .slice none 0 0] 86, rowE 66 3 m.sv m.ss.length (m.ss.flatMap sqC), rowE 3 1 q.1 tos.length (tos.map (Value.int .i64)), bigE ps, rowE 4 1 v3 bs.length (bs.flatMap blC), boxE b2 #[.int .i64 0, .slice none 0 0, .slice none 0 0, .slice none 0 0] 86, boxE b1 #[.int .i64 n.ins, n.sv, n.av, n.ov] 86]) (fun i tos gs q => [(0, .agg #[.int .i64 n.ins, n.sv, n.av, n.ov]), (1, .pointer (some ⟨b1, 0, none⟩)), (2, .pointer (some ⟨b2, 0, none⟩)), (3, v3), (4, .pointer (some ⟨b9, 0, none⟩)), (5, q.1), (6, .int .i64 (n.fst + (gs.length : Int))), (7, .int .i64 (i : Int)), (12, .bool false)]) (fun i tos gs q => i ≤ n.gs.length ∧ gs.length ≤ i ∧ AnsOk n.fst gs ∧ MapOk tos (n.fst + (i : Int)) (n.fst + (gs.length : Int))) (fun i tos gs q => n.gs.length - i) 0 _ [] (_, _) ⟨by omega, by simp, fun k hk => absurd hk (Nat.not_lt_zero _), by have h9 := ztv (k := n.fst.toNat) (m := n.fst) (by omega); rw [Int.toNat_of_nonneg (by omega)] at h9; simpa using h9⟩ (zbk [5, 4, 3, 2, 1, 0] _ (sk 6 (congrArg (fun x => some (Value.int .i64 x)) (by simp)) (zam [12, 7] rfl)) rfl) (pfQ rfl) ?_
 intro i tos gs q hi10
 obtain ⟨hi, hgi, hga, hmk⟩ := hi10
 have hmk1 := hmk.1
 refine zac (zac (reQ 1 rfl (hvQ rfl (fdQ 2 rfl rfl rfl) (hvQ rfl (zad rfl rfl rfl (zaa 7 rfl rfl)) (hvQ rfl (lnQ rfl rfl rfl (zab hr.an)) ?_)))))
 refine zbj rfl rfl rfl rfl rfl rfl (fun h11 => ?_) (fun h11 => ?_)
 ·
  refine ntQ (zak rfl (zcq (sbQ (zeh ?_))))
  have hani := hn.an i (by omega)
  have hia : LtOk (n.gs.getD i an0).a (n.fst + (i : Int)) := hani.1
  have hib : LtOk (n.gs.getD i an0).b (n.fst + (i : Int)) := hani.2
  have hx2 := hmk.two hia hib
  refine zap 1 rfl (hvQ rfl (zao (cs := [.int .i64 n.ins, n.sv, n.av, n.ov]) rfl rfl rfl rfl rfl (zaj 7 rfl 0 rfl)) ?_)
  refine zds rfl (zaq rfl rfl (fun w hm => zav (zcl n w (hr.below hm.bel) hn))) (zap 1 rfl (hvQ rfl (vaQ rfl rfl rfl) (hvQ rfl (riQ 1 rfl rfl rfl rfl (zae 5 rfl)) ?_)))
  refine hvQ rfl (zar (u := .bool ((bs.getD ((n.fst + (i : Int)).toNat) bl0).b)) rfl rfl rfl (zae 5 rfl) (zcu blC (fun r => .bool r.b) (fun _ => rfl) bs bl0 (show (n.fst + (i : Int)).toNat < _ by omega))) (zca (fun h12 => ?_) (fun h12 => ?_))
  ·
   refine zaz 1 rfl (zal rfl (zcq (zac ?_)))
   refine zdf rfl 15 [0, 1, 2, 3, 4, 5, 6, 7, 8, 9, 10, 11, 12, 13, 14] (List.take 15 _) (List.drop 15 _) [[], [], [1], [], [2, 3], [4], [5], [], [7], [], [8, 9], [10], [11], [6, 12], [0, 13]] [41, 42, 43, 44, 45, 46, 47, 48, 49, 50, 51, 52, 53, 54, 55] (fun i_ vs_ v_ p_ => match i_ with | 0 => v_ = q.1 ∧ p_ = [] | 1 => v_ = .pointer (some ⟨b1, 0 + 2, none⟩) ∧ p_ = [] | 2 => v_ = n.av ∧ p_ = [] | 3 => v_ = .int .i64 (i : Int) ∧ p_ = [] | 4 => v_ = elP n.av (((i : Int)).toNat * 2) ∧ p_ = [] | 5 => v_ = elP n.av (((i : Int)).toNat * 2 + 0) ∧ p_ = [] | 6 => v_ = .int .i64 ((n.gs.getD i an0).a) ∧ p_ = [] | 7 => v_ = .pointer (some ⟨b1, 0 + 2, none⟩) ∧ p_ = [] | 8 => v_ = n.av ∧ p_ = [] | 9 => v_ = .int .i64 (i : Int) ∧ p_ = [] | 10 => v_ = elP n.av (((i : Int)).toNat * 2) ∧ p_ = [] | 11 => v_ = elP n.av (((i : Int)).toNat * 2 + 1) ∧ p_ = [] | 12 => v_ = .int .i64 ((n.gs.getD i an0).b) ∧ p_ = [] | 13 => IsRow 3 1 2 ([(n.gs.getD i an0).a, (n.gs.getD i an0).b].map (Value.int .i64)) v_ p_ | 14 => (fun v' post => post = [rowE 3 1 v' ((mpS tos ([(n.gs.getD i an0).a, (n.gs.getD i an0).b]))).length (((mpS tos ([(n.gs.getD i an0).a, (n.gs.getD i an0).b]))).map (Value.int .i64))]) v_ p_ | _ => True) (List.take_append_drop 15 _).symm (by kernel_rfl) (by kernel_rfl) rfl rfl ?_ ?_
   ·
    refine ⟨?_, ?_, ?_, ?_, ?_, ?_, ?_, ?_, ?_, ?_, ?_, ?_, ?_, ?_, ?_, trivial⟩
    ·
     intro vf pf hR
     exact ovQ rfl (zam [5] rfl) (zbg (zas rfl))
    ·
     intro vf pf hR
     exact ovQ rfl (zam [1] rfl) (zbg (fdQ 2 rfl rfl rfl))
    ·
     intro vf pf hR
     have e1 := hR 1 (by decide)
     exact olQ rfl (sk 42 (congrArg some e1.1) (zaf _)) (zbg (zad rfl rfl rfl (zaa 7 rfl rfl)))
    ·
     intro vf pf hR
     exact ovQ rfl (zam [7] rfl) (zbg (zas rfl))
    ·
     intro vf pf hR
     have e2 := hR 2 (by decide)
     have e3 := hR 3 (by decide)
     exact olQ rfl (sk 43 (congrArg some e2.1) (sk 44 (congrArg some e3.1) (zaf _))) (zbg (riQ 2 rfl rfl rfl rfl (zab hr.an)))
    ·
     intro vf pf hR
     have e4 := hR 4 (by decide)
     exact olQ rfl (sk 45 (congrArg some e4.1) (zaf _)) (zbg (zbe (k0 := 0) rfl rfl rfl (zab hr.an) (by omega)))
    ·
     intro vf pf hR
     have e5 := hR 5 (by decide)
     exact olQ rfl (sk 46 (congrArg some e5.1) (zaf _)) (zbg (zar (u := .int .i64 ((n.gs.getD i an0).a)) rfl rfl rfl (zab hr.an) ((zce anC 2 (fun _ => rfl) n.gs an0 (show i < _ by omega) (by decide)).trans rfl)))
    ·
     intro vf pf hR
     exact ovQ rfl (zam [1] rfl) (zbg (fdQ 2 rfl rfl rfl))
    ·
     intro vf pf hR
     have e7 := hR 7 (by decide)
     exact olQ rfl (sk 48 (congrArg some e7.1) (zaf _)) (zbg (zad rfl rfl rfl (zaa 7 rfl rfl)))
    ·
     intro vf pf hR
     exact ovQ rfl (zam [7] rfl) (zbg (zas rfl))
    ·
     intro vf pf hR
     have e8 := hR 8 (by decide)
     have e9 := hR 9 (by decide)
     exact olQ rfl (sk 49 (congrArg some e8.1) (sk 50 (congrArg some e9.1) (zaf _))) (zbg (riQ 2 rfl rfl rfl rfl (zab hr.an)))
    ·
     intro vf pf hR
     have e10 := hR 10 (by decide)
     exact olQ rfl (sk 51 (congrArg some e10.1) (zaf _)) (zbg (zbe (k0 := 1) rfl rfl rfl (zab hr.an) (by omega)))
    ·
     intro vf pf hR
     have e11 := hR 11 (by decide)
     exact olQ rfl (sk 52 (congrArg some e11.1) (zaf _)) (zbg (zar (u := .int .i64 ((n.gs.getD i an0).b)) rfl rfl rfl (zab hr.an) ((zce anC 2 (fun _ => rfl) n.gs an0 (show i < _ by omega) (by decide)).trans rfl)))
    ·
     intro vf pf hR
     have e6 := hR 6 (by decide)
     have e12 := hR 12 (by decide)
     exact olQ rfl (sk 47 (congrArg some e6.1) (sk 53 (congrArg some e12.1) (zaf _))) (zat (z := .int .i64 0) (s := 1) (cs := ([(n.gs.getD i an0).a, (n.gs.getD i an0).b].map (Value.int .i64))) rfl Try.underlying28 rfl (by decide) rfl (by kernel_rfl) rfl)
    intro vf pf hR
    have e0 := hR 0 (by decide)
    have e13 : IsRow 3 1 2 ([(n.gs.getD i an0).a, (n.gs.getD i an0).b].map (Value.int .i64)) (vf 13) (pf 13) := hR 13 (by decide)
    obtain ⟨g13, vE13, pE13⟩ := e13
    refine Or.inl ⟨rfl, ?_⟩
    exact zci (sk 41 (congrArg some e0.1) (sk 54 (congrArg some vE13) (zaf _))) (by simp only [pE13, vE13, e0.2, fS] <;> rfl) (zaq rfl rfl (fun w hm => zgg tos ([(n.gs.getD i an0).a, (n.gs.getD i an0).b]) _ _ _ _ w ((zae 4 rfl) w hm) ((zae 0 rfl) w hm) hmk (by omega) (by omega) (zuk hia hib) (by simp)))
   intro vf pf hR
   have e13 : IsRow 3 1 2 ([(n.gs.getD i an0).a, (n.gs.getD i an0).b].map (Value.int .i64)) (vf 13) (pf 13) := hR 13 (by decide)
   obtain ⟨g13, vE13, pE13⟩ := e13
   have e14 : (fun v' post => post = [rowE 3 1 v' ((mpS tos ([(n.gs.getD i an0).a, (n.gs.getD i an0).b]))).length (((mpS tos ([(n.gs.getD i an0).a, (n.gs.getD i an0).b]))).map (Value.int .i64))]) (vf 14) (pf 14) := hR 14 (by decide)
   obtain ⟨v14, vE14⟩ : ∃ x, vf 14 = x := ⟨_, rfl⟩
   obtain ⟨p15, pE14⟩ : ∃ x, pf 14 = x := ⟨_, rfl⟩
   have hR16 := e14
   rw [vE14, pE14] at hR16
   subst hR16
   have q0 := hR 0 (by decide)
   have q1 := hR 1 (by decide)
   have q2 := hR 2 (by decide)
   have q3 := hR 3 (by decide)
   have q4 := hR 4 (by decide)
   have q5 := hR 5 (by decide)
   have q6 := hR 6 (by decide)
   have q7 := hR 7 (by decide)
   have q8 := hR 8 (by decide)
   have q9 := hR 9 (by decide)
   have q10 := hR 10 (by decide)
   have q11 := hR 11 (by decide)
   have q12 := hR 12 (by decide)
   refine zco (zbk [37, 27, 12, 7, 6, 5, 4, 3, 2, 1, 0] _ (sk 55 (congrArg some vE14) (zaf _)) rfl) (by simp only [pE13, vE13, pE14, vE14, q0.2, q1.2, q2.2, q3.2, q4.2, q5.2, q6.2, q7.2, q8.2, q9.2, q10.2, q11.2, q12.2, fS] <;> rfl) ?_
   simp only [List.drop_succ_cons, List.drop_zero]
   refine zaz 1 rfl (zac ?_)
   have hmpl := zjz tos [(n.gs.getD i an0).a, (n.gs.getD i an0).b]
   simp only [List.length_cons, List.length_nil] at hmpl
   refine zdf rfl 10 [0, 1, 2, 3, 4, 5, 6, 7, 8, 9] (List.take 10 _) (List.drop 10 _) [[], [0], [], [2], [3], [], [5], [6], [4, 7], [8]] [56, 57, 58, 59, 60, 61, 62, 63, 64, 65] (fun i_ vs_ v_ p_ => match i_ with | 0 => v_ = .pointer (some ⟨b9, 0 + 2, none⟩) ∧ p_ = [] | 1 => v_ = q.2 ∧ p_ = [] | 2 => v_ = v14 ∧ p_ = [] | 3 => v_ = elP v14 ((0 : Int).toNat * 1) ∧ p_ = [] | 4 => v_ = .int .i64 ((mpS tos ([(n.gs.getD i an0).a, (n.gs.getD i an0).b])).getD 0 0) ∧ p_ = [] | 5 => v_ = v14 ∧ p_ = [] | 6 => v_ = elP v14 ((1 : Int).toNat * 1) ∧ p_ = [] | 7 => v_ = .int .i64 ((mpS tos ([(n.gs.getD i an0).a, (n.gs.getD i an0).b])).getD 1 0) ∧ p_ = [] | 8 => v_ = .agg #[.int .i64 ((mpS tos ([(n.gs.getD i an0).a, (n.gs.getD i an0).b])).getD 0 0), .int .i64 ((mpS tos ([(n.gs.getD i an0).a, (n.gs.getD i an0).b])).getD 1 0)] ∧ p_ = [] | 9 => IsRow 126 2 1 ([(mpS tos ([(n.gs.getD i an0).a, (n.gs.getD i an0).b])).getD 0 0, (mpS tos ([(n.gs.getD i an0).a, (n.gs.getD i an0).b])).getD 1 0].map (Value.int .i64)) v_ p_ | _ => True) (List.take_append_drop 10 _).symm (by kernel_rfl) (by kernel_rfl) rfl rfl ?_ ?_
   ·
    refine ⟨?_, ?_, ?_, ?_, ?_, ?_, ?_, ?_, ?_, ?_, trivial⟩
    ·
     intro vf pf hR
     exact ovQ rfl (zam [4] rfl) (zbg (fdQ 2 rfl rfl rfl))
    ·
     intro vf pf hR
     have e0 := hR 0 (by decide)
     exact olQ rfl (sk 56 (congrArg some e0.1) (zaf _)) (zbg (zad rfl rfl rfl (zaa 3 rfl rfl)))
    ·
     intro vf pf hR
     exact ovQ rfl (zam [8] rfl) (zbg (zas rfl))
    ·
     intro vf pf hR
     have e2 := hR 2 (by decide)
     exact olQ rfl (sk 58 (congrArg some e2.1) (zaf _)) (zbg (riQ 1 rfl rfl rfl rfl (zae 1 rfl)))
    ·
     intro vf pf hR
     have e3 := hR 3 (by decide)
     exact olQ rfl (sk 59 (congrArg some e3.1) (zaf _)) (zbg (zar (u := .int .i64 ((mpS tos ([(n.gs.getD i an0).a, (n.gs.getD i an0).b])).getD 0 0)) rfl rfl rfl (zae 1 rfl) (zbn (show _ < (mpS tos ([(n.gs.getD i an0).a, (n.gs.getD i an0).b])).length by omega))))
    ·
     intro vf pf hR
     exact ovQ rfl (zam [8] rfl) (zbg (zas rfl))
    ·
     intro vf pf hR
     have e5 := hR 5 (by decide)
     exact olQ rfl (sk 61 (congrArg some e5.1) (zaf _)) (zbg (riQ 1 rfl rfl rfl rfl (zae 1 rfl)))
    ·
     intro vf pf hR
     have e6 := hR 6 (by decide)
     exact olQ rfl (sk 62 (congrArg some e6.1) (zaf _)) (zbg (zar (u := .int .i64 ((mpS tos ([(n.gs.getD i an0).a, (n.gs.getD i an0).b])).getD 1 0)) rfl rfl rfl (zae 1 rfl) (zbn (show _ < (mpS tos ([(n.gs.getD i an0).a, (n.gs.getD i an0).b])).length by omega))))
    ·
     intro vf pf hR
     have e4 := hR 4 (by decide)
     have e7 := hR 7 (by decide)
     exact ovQ rfl (sk 60 (congrArg some e4.1) (sk 63 (congrArg some e7.1) (zaf _))) (zbg (zcw (cs := #[.int .i64 ((mpS tos ([(n.gs.getD i an0).a, (n.gs.getD i an0).b])).getD 0 0), .int .i64 ((mpS tos ([(n.gs.getD i an0).a, (n.gs.getD i an0).b])).getD 1 0)]) rfl rfl rfl))
    intro vf pf hR
    have e8 := hR 8 (by decide)
    exact olQ rfl (sk 64 (congrArg some e8.1) (zaf _)) (zat (z := .agg #[.int .i64 0, .int .i64 0]) (s := 2) (cs := ([(mpS tos ([(n.gs.getD i an0).a, (n.gs.getD i an0).b])).getD 0 0, (mpS tos ([(n.gs.getD i an0).a, (n.gs.getD i an0).b])).getD 1 0].map (Value.int .i64))) rfl Try.underlying84 rfl (by decide) rfl (by kernel_rfl) rfl)
   intro vf pf hR
   have e1 := hR 1 (by decide)
   have e9 : IsRow 126 2 1 ([(mpS tos ([(n.gs.getD i an0).a, (n.gs.getD i an0).b])).getD 0 0, (mpS tos ([(n.gs.getD i an0).a, (n.gs.getD i an0).b])).getD 1 0].map (Value.int .i64)) (vf 9) (pf 9) := hR 9 (by decide)
   obtain ⟨g17, vE9, pE9⟩ := e9
   have q0 := hR 0 (by decide)
   have q1 := hR 1 (by decide)
   have q2 := hR 2 (by decide)
   have q3 := hR 3 (by decide)
   have q4 := hR 4 (by decide)
   have q5 := hR 5 (by decide)
   have q6 := hR 6 (by decide)
   have q7 := hR 7 (by decide)
   have q8 := hR 8 (by decide)
   refine zco (zbk [37, 27, 12, 8, 7, 6, 5, 4, 3, 2, 1, 0] _ (sk 57 (congrArg some e1.1) (sk 65 (congrArg some vE9) (zaf _))) rfl) (by simp only [pE9, vE9, q0.2, q1.2, q2.2, q3.2, q4.2, q5.2, q6.2, q7.2, q8.2, fS] <;> rfl) ?_
   simp only [List.drop_succ_cons, List.drop_zero]
   refine zcd (i := 3) (z := .agg #[.int .i64 0, .int .i64 0]) (bytes := 16) rfl rfl rfl rfl Try.underlying84 (by kernel_rfl) rfl rfl rfl rfl (zae 0 rfl) (zbm _) (by first | omega | (simp only [List.length_append, List.length_cons, List.length_nil]; omega)) (zbv gs [(An.mk ((mpS tos [(n.gs.getD i an0).a, (n.gs.getD i an0).b]).getD 0 0) ((mpS tos [(n.gs.getD i an0).a, (n.gs.getD i an0).b]).getD 1 0))]) (zcx anC gs (An.mk ((mpS tos [(n.gs.getD i an0).a, (n.gs.getD i an0).b]).getD 0 0) ((mpS tos [(n.gs.getD i an0).a, (n.gs.getD i an0).b]).getD 1 0)) _ rfl) (fun _ => rfl) ?_
   intro v18
   refine hvQ rfl (fdQ 2 rfl rfl rfl) (zdn (i := 3) rfl (fun ho19 => ?_))
   refine zez (i := 4) (cs' := #[.int .i64 m.ins, m.sv, v18, .slice none 0 0]) rfl rfl rfl rfl rfl rfl ho19 rfl rfl rfl rfl (ntQ (zac (reQ 2 rfl (hvQ rfl (zew rfl rfl rfl (by constructor <;> omega)) ?_))))
   refine zdk rfl (zat (z := .int .i64 0) (s := 1) (cs := ([2 * (n.fst + (gs.length : Int))].map (Value.int .i64))) rfl Try.underlying28 rfl (by decide) rfl (by kernel_rfl) rfl) ?_
   intro g20
   refine zcd (i := 7) (z := .int .i64 0) (bytes := 8) rfl rfl rfl rfl Try.underlying28 (by kernel_rfl) rfl rfl rfl rfl (zae 0 rfl) (zbm _) (by first | omega | (simp; done) | (simp; omega)) (zbv tos ([2 * (n.fst + (gs.length : Int))])) (zcm tos ([2 * (n.fst + (gs.length : Int))])) (fun _ => rfl) ?_
   intro v21
   refine zaz 1 rfl (reQ 1 rfl (hvQ rfl (vaQ rfl rfl rfl) (enQ 1 rfl (zcv (reQ 1 rfl ?_)))))
   refine hvQ rfl (vaQ rfl rfl rfl) (enQ 1 rfl ?_)
   have hgl9 : (gs ++ [(An.mk ((mpS tos [(n.gs.getD i an0).a, (n.gs.getD i an0).b]).getD 0 0) ((mpS tos [(n.gs.getD i an0).a, (n.gs.getD i an0).b]).getD 1 0))]).length = gs.length + 1 := by rw [List.length_append, List.length_singleton]
   have hga2 : AnsOk n.fst (gs ++ [(An.mk ((mpS tos [(n.gs.getD i an0).a, (n.gs.getD i an0).b]).getD 0 0) ((mpS tos [(n.gs.getD i an0).a, (n.gs.getD i an0).b]).getD 1 0))]) := zug hga hx2.1 hx2.2
   have hmk2 : MapOk (tos ++ ([2 * (n.fst + (gs.length : Int))])) (n.fst + ((i + 1 : Nat) : Int)) (n.fst + ((gs ++ [(An.mk ((mpS tos [(n.gs.getD i an0).a, (n.gs.getD i an0).b]).getD 0 0) ((mpS tos [(n.gs.getD i an0).a, (n.gs.getD i an0).b]).getD 1 0))]).length : Int)) := by have h9 := (hmk.up (m' := n.fst + ((gs ++ [(An.mk ((mpS tos [(n.gs.getD i an0).a, (n.gs.getD i an0).b]).getD 0 0) ((mpS tos [(n.gs.getD i an0).a, (n.gs.getD i an0).b]).getD 1 0))]).length : Int)) (by omega)).app (x := 2 * (n.fst + (gs.length : Int))) (by unfold LtOk; omega); rwa [show n.fst + (i : Int) + 1 = n.fst + ((i + 1 : Nat) : Int) by omega] at h9
   exact zct (i + 1) (tos ++ ([2 * (n.fst + (gs.length : Int))])) (gs ++ [(An.mk ((mpS tos [(n.gs.getD i an0).a, (n.gs.getD i an0).b]).getD 0 0) ((mpS tos [(n.gs.getD i an0).a, (n.gs.getD i an0).b]).getD 1 0))]) (v21, v18) ⟨by omega, by omega, hga2, hmk2⟩ (by omega) (zbk [5, 4, 3, 2, 1, 0] _ (sk 6 (congrArg (fun x => some (Value.int .i64 x)) (by first | rfl | (rw [List.length_append, List.length_singleton]; omega))) (zam [12, 7] rfl)) rfl) (slQ [4, 0, 0, 0, 0, 0, 0, 0] rfl)
  refine zaz 1 rfl (zak rfl (zac (reQ 1 rfl ?_)))
  refine zdk rfl (zat (z := .int .i64 0) (s := 1) (cs := ([0].map (Value.int .i64))) rfl Try.underlying28 rfl (by decide) rfl (by kernel_rfl) rfl) ?_
  intro g22
  refine zcd (i := 4) (z := .int .i64 0) (bytes := 8) rfl rfl rfl rfl Try.underlying28 (by kernel_rfl) rfl rfl rfl rfl (zae 0 rfl) (zbm _) (by first | omega | (simp; done) | (simp; omega)) (zbv tos ([0])) (zcm tos ([0])) (fun _ => rfl) ?_
  intro v23
  refine zaz 1 rfl ?_
  refine zba (zdg ?_)
  refine zag (zaw (reQ 1 rfl (hvQ rfl (vaQ rfl rfl rfl) (enQ 1 rfl ?_))))
  have hmk2 : MapOk (tos ++ [0]) (n.fst + ((i + 1 : Nat) : Int)) (n.fst + (gs.length : Int)) := by have h9 := hmk.app (x := 0) (by unfold LtOk; omega); rwa [show n.fst + (i : Int) + 1 = n.fst + ((i + 1 : Nat) : Int) by omega] at h9
  exact zct (i + 1) (tos ++ ([0])) gs (v23, q.2) ⟨by omega, by omega, hga, hmk2⟩ (by omega) (zbk [5, 4, 3, 2, 1, 0] _ (sk 6 (congrArg (fun x => some (Value.int .i64 x)) (by first | rfl | (rw [List.length_append, List.length_singleton]; omega))) (zam [12, 7] rfl)) rfl) (slQ [1, 0, 0, 0, 0, 0, 0, 0] rfl)
 refine ntQ (zal rfl ?_)
 refine zba (zdq ?_)
 refine zag (zaw (zeh ?_))
 have hmkF : MapOk tos n.cnt (n.fst + (gs.length : Int)) := by have h9 := hmk; rwa [show n.fst + (i : Int) = n.cnt by omega] at h9
 refine zaz 1 rfl (zax ?_)
 refine zmd (α := Nat) (β := List Sq) (γ := List HP) (fun i9 zs ps2 => [rowE 126 2 q.2 gs.length (gs.flatMap anC), boxE b9 #[.int .i64 m.ins, m.sv, q.2, .slice none 0 0] 86, rowE 66 3 m.sv zs.length (zs.flatMap sqC), rowE 3 1 q.1 tos.length (tos.map (Value.int .i64)), bigE ps2, rowE 4 1 v3 bs.length (bs.flatMap blC), boxE b2 #[.int .i64 0, .slice none 0 0, .slice none 0 0, .slice none 0 0] 86, boxE b1 #[.int .i64 n.ins, n.sv, n.av, n.ov] 86]) (fun i9 zs ps2 => [(0, .agg #[.int .i64 n.ins, n.sv, n.av, n.ov]), (1, .pointer (some ⟨b1, 0, none⟩)), (2, .pointer (some ⟨b2, 0, none⟩)), (3, v3), (4, .pointer (some ⟨b9, 0, none⟩)), (5, q.1), (6, .int .i64 (n.fst + (gs.length : Int))), (7, .int .i64 (i : Int)), (9, .int .i64 (i9 : Int)), (12, .bool false), (27, .bool false)]) (fun i9 zs ps2 => i9 ≤ m.ss.length ∧ SInv m.ss i9 (n.fst + (gs.length : Int)) zs ∧ ∀ w, (bigE ps2).holds w → RdsSqs w zs) (fun i9 zs ps2 => m.ss.length - i9) 0 m.ss _ ⟨Nat.zero_le _, SInv.start _ _, hps⟩ (saQ rfl) (pfQ rfl) ?_
 intro i9 zs ps2 hi24
 obtain ⟨hi9, hsi, hps2⟩ := hi24
 have hzl := hsi.len
 refine zac (zac (reQ 1 rfl (hvQ rfl (fdQ 1 rfl rfl rfl) (hvQ rfl (zad rfl rfl rfl (zaa 1 rfl rfl)) (hvQ rfl (lnQ rfl rfl rfl (zae 2 rfl)) ?_)))))
 refine zbj rfl rfl rfl rfl rfl rfl (fun h25 => ?_) (fun h25 => ?_)
 ·
  refine ntQ (zak rfl (zcq (sbQ ?_)))
  have hx49 := (hn.sq _ (zbl (d := sq0) (show i9 < n.ss.length by have := hsk.len; omega))).len
  have hsx := (hsi.same (k := i9) (by omega)).trans (zvz hsk (k := i9) (by omega))
  refine zdf rfl 13 [0, 1, 2, 3, 4, 5, 6, 7, 8, 9, 10, 11, 12] (List.take 13 _) (List.drop 13 _) [[], [0], [], [], [], [4], [], [5, 6], [7], [8], [3, 9], [1, 2], [11]] [82, 83, 84, 85, 86, 87, 88, 89, 90, 91, 92, 93, 94] (fun i_ vs_ v_ p_ => match i_ with | 0 => v_ = .pointer (some ⟨b9, 0 + 1, none⟩) ∧ p_ = [] | 1 => v_ = m.sv ∧ p_ = [] | 2 => v_ = .int .i64 (i9 : Int) ∧ p_ = [] | 3 => v_ = q.1 ∧ p_ = [] | 4 => v_ = .pointer (some ⟨b1, 0 + 1, none⟩) ∧ p_ = [] | 5 => v_ = n.sv ∧ p_ = [] | 6 => v_ = .int .i64 (i9 : Int) ∧ p_ = [] | 7 => v_ = elP n.sv (((i9 : Int)).toNat * 3) ∧ p_ = [] | 8 => v_ = elP n.sv (((i9 : Int)).toNat * 3 + 2) ∧ p_ = [] | 9 => v_ = (n.ss.getD i9 sq0).iv ∧ p_ = [] | 10 => (fun v' post => post = [rowE 3 1 v' ((mpS tos ((n.ss.getD i9 sq0).xs))).length (((mpS tos ((n.ss.getD i9 sq0).xs))).map (Value.int .i64))]) v_ p_ | 11 => v_ = elP m.sv (((i9 : Int)).toNat * 3) ∧ p_ = [] | 12 => v_ = elP m.sv (((i9 : Int)).toNat * 3 + 2) ∧ p_ = [] | _ => True) (List.take_append_drop 13 _).symm (by kernel_rfl) (by kernel_rfl) rfl rfl ?_ ?_
  ·
   refine ⟨?_, ?_, ?_, ?_, ?_, ?_, ?_, ?_, ?_, ?_, ?_, ?_, ?_, trivial⟩
   ·
    intro vf pf hR
    exact ovQ rfl (zam [4] rfl) (zbg (fdQ 1 rfl rfl rfl))
   ·
    intro vf pf hR
    have e0 := hR 0 (by decide)
    exact olQ rfl (sk 82 (congrArg some e0.1) (zaf _)) (zbg (zad rfl rfl rfl (zaa 1 rfl rfl)))
   ·
    intro vf pf hR
    exact ovQ rfl (zam [9] rfl) (zbg (zas rfl))
   ·
    intro vf pf hR
    exact ovQ rfl (zam [5] rfl) (zbg (zas rfl))
   ·
    intro vf pf hR
    exact ovQ rfl (zam [1] rfl) (zbg (fdQ 1 rfl rfl rfl))
   ·
    intro vf pf hR
    have e4 := hR 4 (by decide)
    exact olQ rfl (sk 86 (congrArg some e4.1) (zaf _)) (zbg (zad rfl rfl rfl (zaa 7 rfl rfl)))
   ·
    intro vf pf hR
    exact ovQ rfl (zam [9] rfl) (zbg (zas rfl))
   ·
    intro vf pf hR
    have e5 := hR 5 (by decide)
    have e6 := hR 6 (by decide)
    exact olQ rfl (sk 87 (congrArg some e5.1) (sk 88 (congrArg some e6.1) (zaf _))) (zbg (riQ 3 rfl rfl rfl rfl (zab hr.sq)))
   ·
    intro vf pf hR
    have e7 := hR 7 (by decide)
    exact olQ rfl (sk 89 (congrArg some e7.1) (zaf _)) (zbg (zbe (k0 := 2) rfl rfl rfl (zab hr.sq) (by omega)))
   ·
    intro vf pf hR
    have e8 := hR 8 (by decide)
    exact olQ rfl (sk 90 (congrArg some e8.1) (zaf _)) (zbg (zar (u := (n.ss.getD i9 sq0).iv) rfl rfl rfl (zab hr.sq) ((zce sqC 3 (fun _ => rfl) n.ss sq0 (show i9 < _ by omega) (by decide)).trans rfl)))
   ·
    intro vf pf hR
    have e3 := hR 3 (by decide)
    have e9 := hR 9 (by decide)
    exact olQ rfl (sk 85 (congrArg some e3.1) (sk 91 (congrArg some e9.1) (zaf _))) (zaq rfl rfl (fun w hm => zgg tos ((n.ss.getD i9 sq0).xs) _ _ _ _ w ((zae 3 rfl) w hm) ((zab (hr.at (k := i9) (by omega))) w hm) hmkF (by omega) (by omega) (hn.xs _ (zbl (d := sq0) (by omega))) (by omega)))
   ·
    intro vf pf hR
    have e1 := hR 1 (by decide)
    have e2 := hR 2 (by decide)
    exact olQ rfl (sk 83 (congrArg some e1.1) (sk 84 (congrArg some e2.1) (zaf _))) (zbg (riQ 3 rfl rfl rfl rfl (zae 2 rfl)))
   intro vf pf hR
   have e11 := hR 11 (by decide)
   exact olQ rfl (sk 93 (congrArg some e11.1) (zaf _)) (zbg (zbe (k0 := 2) rfl rfl rfl (zae 2 rfl) (by omega)))
  intro vf pf hR
  have e10 : (fun v' post => post = [rowE 3 1 v' ((mpS tos ((n.ss.getD i9 sq0).xs))).length (((mpS tos ((n.ss.getD i9 sq0).xs))).map (Value.int .i64))]) (vf 10) (pf 10) := hR 10 (by decide)
  obtain ⟨v26, vE10⟩ : ∃ x, vf 10 = x := ⟨_, rfl⟩
  obtain ⟨p27, pE10⟩ : ∃ x, pf 10 = x := ⟨_, rfl⟩
  have hR28 := e10
  rw [vE10, pE10] at hR28
  subst hR28
  have e12 := hR 12 (by decide)
  have q0 := hR 0 (by decide)
  have q1 := hR 1 (by decide)
  have q2 := hR 2 (by decide)
  have q3 := hR 3 (by decide)
  have q4 := hR 4 (by decide)
  have q5 := hR 5 (by decide)
  have q6 := hR 6 (by decide)
  have q7 := hR 7 (by decide)
  have q8 := hR 8 (by decide)
  have q9 := hR 9 (by decide)
  have q11 := hR 11 (by decide)
  have q12 := hR 12 (by decide)
  refine zco (zbk [79, 27, 12, 9, 7, 6, 5, 4, 3, 2, 1, 0] _ (sk 92 (congrArg some vE10) (sk 94 (congrArg some e12.1) (zaf _))) rfl) (by simp only [pE10, vE10, q0.2, q1.2, q2.2, q3.2, q4.2, q5.2, q6.2, q7.2, q8.2, q9.2, q11.2, q12.2, fS] <;> rfl) ?_
  simp only [List.drop_succ_cons, List.drop_zero]
  refine zdn (i := 0) rfl (fun ho29 => ?_)
  refine zda (i := 3) (n' := (zs.set i9 (Sq.mk (zs.getD i9 sq0).kd (zs.getD i9 sq0).it v26 (mpS tos ((n.ss.getD i9 sq0).xs)))).length) (xs' := ((zs.set i9 (Sq.mk (zs.getD i9 sq0).kd (zs.getD i9 sq0).it v26 (mpS tos ((n.ss.getD i9 sq0).xs)))).flatMap sqC)) rfl rfl rfl rfl rfl rfl ho29 rfl (by first | omega | (simp only [List.length_set]; omega)) List.length_set.symm (zjh sqC 3 (fun _ => rfl) _ sq0 _ (by first | omega | (simp only [List.length_set]; omega)) (by decide) rfl) rfl (zbu (zcv (reQ 1 rfl (hvQ rfl (vaQ rfl rfl rfl) ?_))))
  have hmkF : MapOk tos n.cnt (n.fst + (gs.length : Int)) := by have h9 := hmk; rwa [show n.fst + (i : Int) = n.cnt by omega] at h9
  refine enQ 1 rfl ?_
  refine zbw 9 [8, 7, 6, 4, 3, 2, 1, 0, 5] rfl rfl (by decide) ?_
  refine zcz 2 rfl ?_
  refine zbw 8 [7, 6, 5, 0, 4, 3, 2, 1] rfl rfl (by decide) ?_
  exact zbi (i9 + 1) (zs.set i9 (Sq.mk (zs.getD i9 sq0).kd (zs.getD i9 sq0).it v26 (mpS tos ((n.ss.getD i9 sq0).xs)))) [bigE ps2, rowE 3 1 v26 ((mpS tos ((n.ss.getD i9 sq0).xs)).length) ((mpS tos ((n.ss.getD i9 sq0).xs)).map (Value.int .i64))] ⟨by omega, hsi.step (by omega) (by show (_, _, (mpS _ _).length) = _; rw [zjz, ← hsx]; rfl) (zqe hmkF (hn.xs _ (zbl (d := sq0) (by omega)))), fun w hw => (hps2 w (zbh hw List.mem_cons_self)).set (zcf (zbh hw (List.mem_cons_of_mem _ List.mem_cons_self)))⟩ (by omega) (saQ rfl) (pfQ rfl)
 refine ntQ (zal rfl ?_)
 refine zba (zdq ?_)
 refine zag (zaw (zac (reQ 1 rfl (hvQ rfl (fdQ 3 rfl rfl rfl) (hvQ rfl (zad rfl rfl rfl (zaa 7 rfl rfl)) ?_)))))
 refine zfg rfl rfl rfl (zaq rfl rfl (fun w hm => zgg tos n.os _ _ _ _ w ((zae 3 rfl) w hm) ((zab hr.ou) w hm) hmkF (by omega) (by omega) hn.ou (by omega))) ?_
 intro v30 p31 hR32
 subst hR32
 refine hvQ rfl (fdQ 3 rfl rfl rfl) (zdn (i := 0) rfl (fun ho33 => ?_))
 refine zez (i := 2) (cs' := #[.int .i64 m.ins, m.sv, q.2, v30]) rfl rfl rfl rfl rfl rfl ho33 rfl rfl rfl rfl (ntQ (srQ (hvQ rfl (zao (cs := [.int .i64 m.ins, m.sv, q.2, v30]) rfl rfl rfl rfl rfl (zaj 2 rfl 0 rfl)) ?_)))
 refine zdn (i := 1) rfl (fun ho34 => ?_)
 refine zcc (cs' := #[.int .i64 m.ins, m.sv, q.2, v30]) (i := 7) (off := 0) (us := [.int .i64 m.ins, m.sv, q.2, v30]) rfl rfl rfl rfl rfl rfl rfl (zah rfl (zah o1m (zah ho34 (zah ho33 zbr)))) rfl rfl rfl (ntQ ?_)
 refine zau (zed (fun w hm => (zae 3 rfl w hm).one) (fun ho1 => ?_))
 refine zed (fun w hm => (zae 1 rfl w hm).one) (fun ho2 => ?_)
 refine zed (fun w hm => (zae 0 rfl w hm).one) (fun ho3 => ?_)
 have hfin := zlk (n := n) (sv := m.sv) (av := q.2) (ov := v30) (zs := zs) (gs := gs) (os := (mpS tos n.os)) hsk hmok hsi.sk hga (by omega) (hsi.all (by omega)) (zqe hmkF hn.ou) (by rw [zjz]; omega)
 refine zbw 9 [7, 0, 1, 5, 3] rfl rfl (by decide) ?_
 refine zcz 4 rfl ?_
 exact zdm (rs := [.cell 2 86]) (vs := [.agg #[.int .i64 m.ins, m.sv, q.2, v30]]) (post := [bigE [rowE 66 3 m.sv zs.length (zs.flatMap sqC), bigE ps2, rowE 126 2 q.2 gs.length (gs.flatMap anC), rowE 3 1 v30 ((mpS tos n.os).length) ((mpS tos n.os).map (Value.int .i64))]]) rfl ⟨⟨b2, 0, [.int .i64 m.ins, m.sv, q.2, v30], rfl, rfl, by kernel_rfl, by kernel_rfl, zaj 1 rfl 0 rfl⟩, trivial⟩ rfl (slQ [0] rfl) ⟨_, (Nt.mk m.ins m.sv q.2 v30 zs gs (mpS tos n.os)), rfl, rfl, fun w hw => ⟨zcf (zbh hw List.mem_cons_self), hps2 w (zbh hw (List.mem_cons_of_mem _ List.mem_cons_self)), zcf (zbh hw (List.mem_cons_of_mem _ (List.mem_cons_of_mem _ List.mem_cons_self))), zcf (zbh hw (List.mem_cons_of_mem _ (List.mem_cons_of_mem _ (List.mem_cons_of_mem _ List.mem_cons_self))))⟩, ⟨ho1, ho2, ho3⟩, hfin.1, hfin.2, (by show gs.length ≤ _; omega)⟩
theorem zkp (n o : Nt) (tos : List Int) (tv : Value) (ps : List HP) (w0 : World) (l : List HP) (w : World) (hm0 : Mem w0 (rowE 66 3 o.sv o.ss.length (o.ss.flatMap sqC) :: rowE 3 1 tv tos.length (tos.map (Value.int .i64)) :: bigE ps :: l) w) (hr : RdsNt w0 n) (hn : NtOk n) (ho : NtOk o) (hsk : Skel n o) (hmk : MapOk tos n.cnt o.cnt) (hps : ∀ w, (bigE ps).holds w → NtRest w o) (hone : o.sv.oneCell' = true ∧ o.av.oneCell' = true ∧ o.ov.oneCell' = true) :
   Calls Try.prog 95 #[.agg #[.int .i64 o.ins, o.sv, o.av, o.ov], .agg #[.int .i64 n.ins, n.sv, n.av, n.ov], tv] w (fun e_ w_ => ∃ v_ p_, e_ = .returned v_ ∧ (fun u_ p_ => ∃ (ps : List HP) (m : Nt), u_ = m.agg ∧ p_ = bigE ps ∧ (∀ w, (bigE ps).holds w → RdsNt w m) ∧ (m.sv.oneCell' = true ∧ m.av.oneCell' = true ∧ m.ov.oneCell' = true) ∧ NtOk m ∧ Skel n m ∧ m.gs.length ≤ o.gs.length) v_ p_ ∧ Mem w0 (p_ :: l) w_) := by
 have hi0 := hn.i0
 have hi1 := hn.i1
 have hs1 := hn.s1
 have ha1 := hn.a1
 have ho1 := hn.o1
 have hcnt : n.cnt = 1 + n.ins + n.ss.length + n.gs.length := rfl
 have hfst : n.fst = 1 + n.ins + n.ss.length := rfl
 obtain ⟨hoc1, hoc2, hoc3, hoc4, hoc5, hoc6⟩ := zuc ho
 have hosl := hsk.len
 have hmk1 := hmk.1
 refine zgj (N := 35) (args := [.agg #[.int .i64 o.ins, o.sv, o.av, o.ov], .agg #[.int .i64 n.ins, n.sv, n.av, n.ov], tv]) Try.func95 rfl rfl hm0 (srQ ?_)
 refine zdj rfl (zch rfl rfl) ?_
 intro b1
 refine zdj rfl (zch rfl rfl) ?_
 intro b2
 refine zdj rfl (zbx (z := .agg #[.int .i64 0, .slice none 0 0, .slice none 0 0, .slice none 0 0]) rfl rfl) ?_
 intro b3
 refine ntQ (zac (zbd 1 rfl (zax ?_)))
 refine zgn (α := Nat) (β := List Sq) (γ := List HP) [0, 1, 2, 3, 4, 6] rfl (fun i9 zs ps2 => (boxE b3 #[.int .i64 0, .slice none 0 0, .slice none 0 0, .slice none 0 0] 86 :: boxE b2 #[.int .i64 n.ins, n.sv, n.av, n.ov] 86 :: boxE b1 #[.int .i64 o.ins, o.sv, o.av, o.ov] 86 :: rowE 66 3 o.sv zs.length (zs.flatMap sqC) :: rowE 3 1 tv tos.length (tos.map (Value.int .i64)) :: bigE ps2 :: l)) (fun i9 zs ps2 => [(7, .int .i64 (i9 : Int))]) (fun i9 zs ps2 => i9 ≤ o.ss.length ∧ SInv o.ss i9 o.cnt zs ∧ ∀ w, (bigE ps2).holds w → RdsSqs w zs ∧ RdsW w o.av 2 o.gs.length (o.gs.flatMap anC)) (fun i9 zs ps2 => o.ss.length - i9) 0 o.ss _ ⟨Nat.zero_le _, SInv.start _ _, (fun w hw => ⟨(hps w hw).xs, (hps w hw).an⟩)⟩ (saQ rfl) (.refl _) ?_
 intro i9 zs ps2 hi4
 obtain ⟨hi9, hsi, hps2⟩ := hi4
 have hzl := hsi.len
 refine zac (zac (reQ 1 rfl (hvQ rfl (fdQ 1 rfl rfl rfl) (hvQ rfl (zad rfl rfl rfl (zaa 2 rfl rfl)) (hvQ rfl (lnQ rfl rfl rfl (zae 3 rfl)) ?_)))))
 refine zbj rfl rfl rfl rfl rfl rfl (fun h5 => ?_) (fun h5 => ?_)
 ·
  refine ntQ (zak rfl (zcq (sbQ ?_)))
  have hx49 := (hn.sq _ (zbl (d := sq0) (show i9 < n.ss.length by omega))).len
  have hsx := (hsi.same (k := i9) (by omega)).trans (zvz hsk (k := i9) (by omega))
  refine zdf rfl 13 [0, 1, 2, 3, 4, 5, 6, 7, 8, 9, 10, 11, 12] (List.take 13 _) (List.drop 13 _) [[], [0], [], [], [], [4], [], [5, 6], [7], [8], [3, 9], [1, 2], [11]] [15, 16, 17, 18, 19, 20, 21, 22, 23, 24, 25, 26, 27] (fun i_ vs_ v_ p_ => match i_ with | 0 => v_ = .pointer (some ⟨b1, 0 + 1, none⟩) ∧ p_ = [] | 1 => v_ = o.sv ∧ p_ = [] | 2 => v_ = .int .i64 (i9 : Int) ∧ p_ = [] | 3 => v_ = tv ∧ p_ = [] | 4 => v_ = .pointer (some ⟨b2, 0 + 1, none⟩) ∧ p_ = [] | 5 => v_ = n.sv ∧ p_ = [] | 6 => v_ = .int .i64 (i9 : Int) ∧ p_ = [] | 7 => v_ = elP n.sv (((i9 : Int)).toNat * 3) ∧ p_ = [] | 8 => v_ = elP n.sv (((i9 : Int)).toNat * 3 + 2) ∧ p_ = [] | 9 => v_ = (n.ss.getD i9 sq0).iv ∧ p_ = [] | 10 => (fun v' post => post = [rowE 3 1 v' ((mpS tos ((n.ss.getD i9 sq0).xs))).length (((mpS tos ((n.ss.getD i9 sq0).xs))).map (Value.int .i64))]) v_ p_ | 11 => v_ = elP o.sv (((i9 : Int)).toNat * 3) ∧ p_ = [] | 12 => v_ = elP o.sv (((i9 : Int)).toNat * 3 + 2) ∧ p_ = [] | _ => True) (List.take_append_drop 13 _).symm (by kernel_rfl) (by kernel_rfl) rfl rfl ?_ ?_
  ·
   refine ⟨?_, ?_, ?_, ?_, ?_, ?_, ?_, ?_, ?_, ?_, ?_, ?_, ?_, trivial⟩
   ·
    intro vf pf hR
    exact ovQ rfl (zam [3] rfl) (zbg (fdQ 1 rfl rfl rfl))
   ·
    intro vf pf hR
    have e0 := hR 0 (by decide)
    exact olQ rfl (sk 15 (congrArg some e0.1) (zaf _)) (zbg (zad rfl rfl rfl (zaa 2 rfl rfl)))
   ·
    intro vf pf hR
    exact ovQ rfl (zam [7] rfl) (zbg (zas rfl))
   ·
    intro vf pf hR
    exact ovQ rfl (zam [2] rfl) (zbg (zas rfl))
   ·
    intro vf pf hR
    exact ovQ rfl (zam [4] rfl) (zbg (fdQ 1 rfl rfl rfl))
   ·
    intro vf pf hR
    have e4 := hR 4 (by decide)
    exact olQ rfl (sk 19 (congrArg some e4.1) (zaf _)) (zbg (zad rfl rfl rfl (zaa 1 rfl rfl)))
   ·
    intro vf pf hR
    exact ovQ rfl (zam [7] rfl) (zbg (zas rfl))
   ·
    intro vf pf hR
    have e5 := hR 5 (by decide)
    have e6 := hR 6 (by decide)
    exact olQ rfl (sk 20 (congrArg some e5.1) (sk 21 (congrArg some e6.1) (zaf _))) (zbg (riQ 3 rfl rfl rfl rfl (zab hr.sq)))
   ·
    intro vf pf hR
    have e7 := hR 7 (by decide)
    exact olQ rfl (sk 22 (congrArg some e7.1) (zaf _)) (zbg (zbe (k0 := 2) rfl rfl rfl (zab hr.sq) (by omega)))
   ·
    intro vf pf hR
    have e8 := hR 8 (by decide)
    exact olQ rfl (sk 23 (congrArg some e8.1) (zaf _)) (zbg (zar (u := (n.ss.getD i9 sq0).iv) rfl rfl rfl (zab hr.sq) ((zce sqC 3 (fun _ => rfl) n.ss sq0 (show i9 < _ by omega) (by decide)).trans rfl)))
   ·
    intro vf pf hR
    have e3 := hR 3 (by decide)
    have e9 := hR 9 (by decide)
    exact olQ rfl (sk 18 (congrArg some e3.1) (sk 24 (congrArg some e9.1) (zaf _))) (zaq rfl rfl (fun w hm => zgg tos ((n.ss.getD i9 sq0).xs) _ _ _ _ w ((zae 4 rfl) w hm) ((zab (hr.at (k := i9) (by omega))) w hm) hmk (by omega) (by omega) (hn.xs _ (zbl (d := sq0) (by omega))) (by omega)))
   ·
    intro vf pf hR
    have e1 := hR 1 (by decide)
    have e2 := hR 2 (by decide)
    exact olQ rfl (sk 16 (congrArg some e1.1) (sk 17 (congrArg some e2.1) (zaf _))) (zbg (riQ 3 rfl rfl rfl rfl (zae 3 rfl)))
   intro vf pf hR
   have e11 := hR 11 (by decide)
   exact olQ rfl (sk 26 (congrArg some e11.1) (zaf _)) (zbg (zbe (k0 := 2) rfl rfl rfl (zae 3 rfl) (by omega)))
  intro vf pf hR
  have e10 : (fun v' post => post = [rowE 3 1 v' ((mpS tos ((n.ss.getD i9 sq0).xs))).length (((mpS tos ((n.ss.getD i9 sq0).xs))).map (Value.int .i64))]) (vf 10) (pf 10) := hR 10 (by decide)
  obtain ⟨v6, vE10⟩ : ∃ x, vf 10 = x := ⟨_, rfl⟩
  obtain ⟨p7, pE10⟩ : ∃ x, pf 10 = x := ⟨_, rfl⟩
  have hR8 := e10
  rw [vE10, pE10] at hR8
  subst hR8
  have e12 := hR 12 (by decide)
  have q0 := hR 0 (by decide)
  have q1 := hR 1 (by decide)
  have q2 := hR 2 (by decide)
  have q3 := hR 3 (by decide)
  have q4 := hR 4 (by decide)
  have q5 := hR 5 (by decide)
  have q6 := hR 6 (by decide)
  have q7 := hR 7 (by decide)
  have q8 := hR 8 (by decide)
  have q9 := hR 9 (by decide)
  have q11 := hR 11 (by decide)
  have q12 := hR 12 (by decide)
  refine zco (zbk [12, 7, 6, 4, 3, 2, 1, 0] _ (sk 25 (congrArg some vE10) (sk 27 (congrArg some e12.1) (zaf _))) rfl) (by simp only [pE10, vE10, q0.2, q1.2, q2.2, q3.2, q4.2, q5.2, q6.2, q7.2, q8.2, q9.2, q11.2, q12.2, fS] <;> rfl) ?_
  simp only [List.drop_succ_cons, List.drop_zero]
  refine zdn (i := 0) rfl (fun ho9 => ?_)
  refine zda (i := 4) (n' := (zs.set i9 (Sq.mk (zs.getD i9 sq0).kd (zs.getD i9 sq0).it v6 (mpS tos ((n.ss.getD i9 sq0).xs)))).length) (xs' := ((zs.set i9 (Sq.mk (zs.getD i9 sq0).kd (zs.getD i9 sq0).it v6 (mpS tos ((n.ss.getD i9 sq0).xs)))).flatMap sqC)) rfl rfl rfl rfl rfl rfl ho9 rfl (by first | omega | (simp only [List.length_set]; omega)) List.length_set.symm (zjh sqC 3 (fun _ => rfl) _ sq0 _ (by first | omega | (simp only [List.length_set]; omega)) (by decide) rfl) rfl (zbu (zcv (reQ 1 rfl (hvQ rfl (vaQ rfl rfl rfl) (enQ 1 rfl ?_)))))
  refine zbw 7 [5, 4, 3, 2, 1, 0, 6] rfl rfl (by decide) ?_
  refine zcz 2 rfl ?_
  refine zbw 6 [0, 5, 4, 3, 2, 1] rfl rfl (by decide) ?_
  exact zbi (i9 + 1) (zs.set i9 (Sq.mk (zs.getD i9 sq0).kd (zs.getD i9 sq0).it v6 (mpS tos ((n.ss.getD i9 sq0).xs)))) [bigE ps2, rowE 3 1 v6 ((mpS tos ((n.ss.getD i9 sq0).xs)).length) ((mpS tos ((n.ss.getD i9 sq0).xs)).map (Value.int .i64))] ⟨by omega, hsi.step (by omega) (by show (_, _, (mpS _ _).length) = _; rw [zjz, ← hsx]; rfl) (zqe hmk (hn.xs _ (zbl (d := sq0) (by omega)))), fun w hw => ⟨(hps2 w (zbh hw List.mem_cons_self)).1.set (zcf (zbh hw (List.mem_cons_of_mem _ List.mem_cons_self))), (hps2 w (zbh hw List.mem_cons_self)).2⟩⟩ (by omega) (saQ rfl) (.refl _)
 refine ntQ (zal rfl ?_)
 refine zba (zdq ?_)
 refine zag (zaw (zac (reQ 1 rfl (hvQ rfl (fdQ 3 rfl rfl rfl) (hvQ rfl (zad rfl rfl rfl (zaa 1 rfl rfl)) ?_)))))
 refine zfg rfl rfl rfl (zaq rfl rfl (fun w hm => zgg tos n.os _ _ _ _ w ((zae 4 rfl) w hm) ((zab hr.ou) w hm) hmk (by omega) (by omega) hn.ou (by omega))) ?_
 intro v10 p11 hR12
 subst hR12
 refine hvQ rfl (fdQ 3 rfl rfl rfl) (zdn (i := 0) rfl (fun ho13 => ?_))
 refine zez (i := 3) (cs' := #[.int .i64 o.ins, o.sv, o.av, v10]) rfl rfl rfl rfl rfl rfl ho13 rfl rfl rfl rfl (ntQ (srQ (hvQ rfl (zao (cs := [.int .i64 o.ins, o.sv, o.av, v10]) rfl rfl rfl rfl rfl (zaj 3 rfl 0 rfl)) ?_)))
 have hfin := zlk (n := n) (m := o) (sv := o.sv) (av := o.av) (ov := v10) (zs := zs) (gs := o.gs) (os := (mpS tos n.os)) hsk ho hsi.sk (by have h9 := ho.an; rw [hsk.fst] at h9; exact h9) ho.a1 (by have h9 := hsi.all (by omega); rwa [show o.cnt = n.fst + (o.gs.length : Int) by rw [← hsk.fst]; rfl] at h9) (by have h9 := zqe hmk hn.ou; rwa [show o.cnt = n.fst + (o.gs.length : Int) by rw [← hsk.fst]; rfl] at h9) (by rw [zjz]; omega)
 refine zfg rfl rfl rfl (zaq rfl rfl (fun w hm => zuh (Nt.mk o.ins o.sv o.av (v10) zs o.gs (mpS tos n.os)) w ⟨zae 4 rfl w hm, (hps2 w (hm.holds _ (zcn (i := 6) rfl))).1, (hps2 w (hm.holds _ (zcn (i := 6) rfl))).2, zae 0 rfl w hm⟩ hfin.1)) ?_
 intro v14 p15 hR16
 obtain ⟨qs, m, rfl, rfl, hqs, ⟨o1m, o2m, o3m⟩, hmok, hsm, hml⟩ := hR16
 refine zcc (cs' := #[.int .i64 m.ins, m.sv, m.av, m.ov]) (i := 2) (off := 0) (us := [.int .i64 m.ins, m.sv, m.av, m.ov]) rfl rfl rfl rfl rfl rfl rfl (zah rfl (zah o1m (zah o2m (zah o3m zbr)))) rfl rfl rfl (ntQ ?_)
 exact zau (zgz (rs := [.cell 6 86]) (vs := [.agg #[.int .i64 m.ins, m.sv, m.av, m.ov]]) rfl ⟨⟨b3, 0, [.int .i64 m.ins, m.sv, m.av, m.ov], rfl, rfl, by kernel_rfl, by kernel_rfl, zaj 2 rfl 0 rfl⟩, trivial⟩ rfl (fun w hm => ⟨_, bigE qs, rfl, ⟨_, m, rfl, rfl, hqs, ⟨o1m, o2m, o3m⟩, hmok, hfin.2.trans hsm, hml⟩, hm.sub (.cons_cons _ (.cons _ (.cons _ (.cons _ (.cons _ (.cons _ (.cons _ (.cons _ (.refl _)))))))))⟩))
theorem zlx (n o : Nt) (tos : List Int) (tv : Value) (ps : List HP) (w0 : World) (l : List HP) (w : World) (hm : Mem w0 (bigE [rowE 66 3 o.sv o.ss.length (o.ss.flatMap sqC), rowE 3 1 tv tos.length (tos.map (Value.int .i64)), bigE ps] :: l) w) (hr : RdsNt w0 n) (hn : NtOk n) (ho : NtOk o) (hsk : Skel n o) (hmk : MapOk tos n.cnt o.cnt) (hps : ∀ w, (bigE ps).holds w → NtRest w o) (hone : o.sv.oneCell' = true ∧ o.av.oneCell' = true ∧ o.ov.oneCell' = true) :
    Calls Try.prog 95 #[o.agg, n.agg, tv] w (fun e_ w_ => ∃ v_ p_, e_ = .returned v_ ∧ (fun u_ p_ => ∃ (ps : List HP) (m : Nt), u_ = m.agg ∧ p_ = bigE ps ∧ (∀ w, (bigE ps).holds w → RdsNt w m) ∧ (m.sv.oneCell' = true ∧ m.av.oneCell' = true ∧ m.ov.oneCell' = true) ∧ NtOk m ∧ Skel n m ∧ m.gs.length ≤ o.gs.length) v_ p_ ∧ Mem w0 (p_ :: l) w_) :=
  zkp n o tos tv ps w0 l w hm.unbig hr hn ho hsk hmk hps hone
theorem zvw (n : Nt) (w : World) (hr : RdsNt w n) (hn : NtOk n) :
   Calls Try.prog 58 #[.agg #[.int .i64 n.ins, n.sv, n.av, n.ov]] w (Ret w (fun u_ p_ => ∃ (ps : List HP) (m : Nt), u_ = m.agg ∧ p_ = [bigE ps] ∧ (∀ w, (bigE ps).holds w → RdsNt w m) ∧ (m.sv.oneCell' = true ∧ m.av.oneCell' = true ∧ m.ov.oneCell' = true) ∧ NtOk m ∧ Skel n m ∧ m.gs.length ≤ n.gs.length)) := by
 have hi0 := hn.i0
 have hi1 := hn.i1
 have hs1 := hn.s1
 have ha1 := hn.a1
 have ho1 := hn.o1
 have hcnt : n.cnt = 1 + n.ins + n.ss.length + n.gs.length := rfl
 have hfst : n.fst = 1 + n.ins + n.ss.length := rfl
 refine zbf (N := 74) (args := [.agg #[.int .i64 n.ins, n.sv, n.av, n.ov]]) Try.func58 rfl rfl (srQ ?_)
 refine zdj rfl (zch rfl rfl) ?_
 intro b1
 refine zdj rfl (zbx (z := .agg #[.int .i64 0, .slice none 0 0, .slice none 0 0, .slice none 0 0]) rfl rfl) ?_
 intro b2
 refine ntQ (zeh (hvQ rfl (zao (cs := [.int .i64 n.ins, n.sv, n.av, n.ov]) rfl rfl rfl rfl rfl (zaj 1 rfl 0 rfl)) ?_))
 refine zds rfl (zaq rfl rfl (fun w hm => zav (zdz n w (hr.below hm.bel) hn))) (zaz 1 rfl (zal rfl (zcq (srQ (hvQ rfl (zao (cs := [.int .i64 n.ins, n.sv, n.av, n.ov]) rfl rfl rfl rfl rfl (zaj 1 rfl 0 rfl)) ?_)))))
 refine zfg rfl rfl rfl (zaq rfl rfl (fun w hm => ziw n w (hr.below hm.bel) hn)) ?_
 intro v3 p4 hR5
 obtain ⟨ps, m, tv, rfl, rfl, hps, o1m, ⟨hav, hov, hgs0, hos0⟩, hsk, hmok⟩ := hR5
 simp only [Nt.agg, hav, hov]
 have hskl : m.ss.length = n.ss.length := hsk.len
 have hm0 : NtOk (Nt.mk m.ins m.sv (.slice none 0 0) (.slice none 0 0) m.ss [] []) := by have h9 := hmok; cases m; simp only at hav hov hgs0 hos0; subst hav hov hgs0 hos0; exact h9
 have hsk0 : Skel n (Nt.mk m.ins m.sv (.slice none 0 0) (.slice none 0 0) m.ss [] []) := ⟨hsk.ins, hsk.ss⟩
 refine zap 3 rfl (zdj rfl (zbx (z := .agg #[.int .i64 0, .slice none 0 0, .slice none 0 0, .slice none 0 0]) rfl rfl) ?_)
 intro b6
 refine zcc (cs' := #[.int .i64 m.ins, m.sv, .slice none 0 0, .slice none 0 0]) (i := 0) (off := 0) (us := [.int .i64 m.ins, m.sv, .slice none 0 0, .slice none 0 0]) rfl rfl rfl rfl rfl rfl rfl (zah rfl (zah o1m (zah rfl (zah rfl zbr)))) rfl rfl rfl (zaz 1 rfl (zac (zbd 1 rfl (zax ?_))))
 refine zrs (α := Nat) (β := Nt) (γ := CRow) (δ := List HP) [0, 1, 2, 3, 10] rfl (fun i o tr ps => [boxE b6 #[.int .i64 o.ins, o.sv, o.av, o.ov] 86, rowE 66 3 o.sv o.ss.length (o.ss.flatMap sqC), rowE 3 1 tr.v tr.xs.length (tr.xs.map (Value.int .i64)), bigE ps, boxE b2 #[.int .i64 0, .slice none 0 0, .slice none 0 0, .slice none 0 0] 86, boxE b1 #[.int .i64 n.ins, n.sv, n.av, n.ov] 86]) (fun i o tr ps => [(4, tr.v), (5, .int .i64 (i : Int))]) (fun i o tr ps => i ≤ n.gs.length ∧ NtOk o ∧ Skel n o ∧ o.gs.length ≤ i ∧ MapOk tr.xs (n.fst + (i : Int)) o.cnt ∧ (∀ w, (bigE ps).holds w → NtRest w o) ∧ (o.sv.oneCell' = true ∧ o.av.oneCell' = true ∧ o.ov.oneCell' = true)) (fun i o tr ps => n.gs.length - i) 0 (Nt.mk m.ins m.sv (.slice none 0 0) (.slice none 0 0) m.ss [] []) (CRow.mk _ (evs2 n.fst.toNat)) _ ⟨by omega, hm0, hsk0, by simp, by have h9 := ztv (k := n.fst.toNat) (m := n.fst) (by omega); rw [Int.toNat_of_nonneg (by omega)] at h9; rw [show (Nt.mk m.ins m.sv (.slice none 0 0) (.slice none 0 0) m.ss [] []).cnt = n.fst by rw [← hsk0.fst]; exact Int.add_zero _]; simpa using h9, fun w hw => ⟨hps w hw, (zku (w0 := w) (l := []) w (Mem.refl w)), (zku (w0 := w) (l := []) w (Mem.refl w))⟩, ⟨o1m, rfl, rfl⟩⟩ (saQ rfl) (pfQ rfl) ?_
 intro i o tr ps hi7
 obtain ⟨hi, ho, hsk, hol, hmk, hps, ⟨o1o, o2o, o3o⟩⟩ := hi7
 have hmk1 := hmk.1
 obtain ⟨hoc1, hoc2, hoc3, hoc4, hoc5, hoc6⟩ := zuc ho
 refine zac (zac (reQ 1 rfl (hvQ rfl (fdQ 2 rfl rfl rfl) (hvQ rfl (zad rfl rfl rfl (zaa 5 rfl rfl)) (hvQ rfl (lnQ rfl rfl rfl (zab hr.an)) ?_)))))
 refine zbj rfl rfl rfl rfl rfl rfl (fun h8 => ?_) (fun h8 => ?_)
 ·
  refine ntQ (zak rfl (zcq (sbQ (zac ?_))))
  have hani := hn.an i (by omega)
  have hia : LtOk (n.gs.getD i an0).a (n.fst + (i : Int)) := hani.1
  have hib : LtOk (n.gs.getD i an0).b (n.fst + (i : Int)) := hani.2
  have hta := (hmk.lit hia).1
  have htb := (hmk.lit hib).1
  have hia2 := hia
  have hib2 := hib
  unfold LtOk at hta htb hia2 hib2
  refine zie (l := [boxE b6 #[.int .i64 o.ins, o.sv, o.av, o.ov] 86, rowE 66 3 o.sv o.ss.length (o.ss.flatMap sqC), rowE 3 1 tr.v tr.xs.length (tr.xs.map (Value.int .i64)), bigE ps, boxE b2 #[.int .i64 0, .slice none 0 0, .slice none 0 0, .slice none 0 0] 86, boxE b1 #[.int .i64 n.ins, n.sv, n.av, n.ov] 86]) rfl 43 [0, 1, 2, 3, 4, 5, 6, 7, 8, 9, 10, 11, 12, 13, 14, 15, 16, 17, 18, 19, 20, 21, 22, 23, 24, 25, 26, 27, 28, 29, 30, 31, 32, 33, 34, 35, 36, 37, 38, 39, 40, 41, 42] (List.take 43 _) (List.drop 43 _) [[], [], [], [2], [], [3, 4], [5], [6], [7], [1, 8], [9], [], [11], [], [12, 13], [14], [15], [16], [10, 17], [], [], [20], [], [21, 22], [23], [24], [25], [19, 26], [27], [], [29], [], [30, 31], [32], [33], [34], [28, 35], [0, 18, 36], [37], [37, 38], [37, 38], [], [37, 39, 41]] [some 25, some 26, some 27, some 28, some 29, some 30, some 31, some 32, some 33, some 34, some 35, some 36, some 37, some 38, some 39, some 40, some 41, some 42, some 43, some 44, some 45, some 46, some 47, some 48, some 49, some 50, some 51, some 52, some 53, some 54, some 55, some 56, some 57, some 58, some 59, some 60, some 61, some 62, some 24, some 63, some 64, some 6, none] (fun i_ vs_ v_ p_ => match i_ with | 0 => v_ = .agg #[.int .i64 o.ins, o.sv, o.av, o.ov] ∧ p_ = [] | 1 => v_ = tr.v ∧ p_ = [] | 2 => v_ = .pointer (some ⟨b1, 0 + 2, none⟩) ∧ p_ = [] | 3 => v_ = n.av ∧ p_ = [] | 4 => v_ = .int .i64 (i : Int) ∧ p_ = [] | 5 => v_ = elP n.av (((i : Int)).toNat * 2) ∧ p_ = [] | 6 => v_ = elP n.av (((i : Int)).toNat * 2 + 0) ∧ p_ = [] | 7 => v_ = .int .i64 ((n.gs.getD i an0).a) ∧ p_ = [] | 8 => v_ = .int .i64 (((n.gs.getD i an0).a) / 2) ∧ p_ = [] | 9 => v_ = elP tr.v ((((n.gs.getD i an0).a) / 2).toNat * 1) ∧ p_ = [] | 10 => v_ = .int .i64 (tr.xs.getD ((((n.gs.getD i an0).a) / 2).toNat) 0) ∧ p_ = [] | 11 => v_ = .pointer (some ⟨b1, 0 + 2, none⟩) ∧ p_ = [] | 12 => v_ = n.av ∧ p_ = [] | 13 => v_ = .int .i64 (i : Int) ∧ p_ = [] | 14 => v_ = elP n.av (((i : Int)).toNat * 2) ∧ p_ = [] | 15 => v_ = elP n.av (((i : Int)).toNat * 2 + 0) ∧ p_ = [] | 16 => v_ = .int .i64 ((n.gs.getD i an0).a) ∧ p_ = [] | 17 => v_ = .int .i64 (((n.gs.getD i an0).a) % 2) ∧ p_ = [] | 18 => v_ = .int .i64 (mpL tr.xs ((n.gs.getD i an0).a)) ∧ p_ = [] | 19 => v_ = tr.v ∧ p_ = [] | 20 => v_ = .pointer (some ⟨b1, 0 + 2, none⟩) ∧ p_ = [] | 21 => v_ = n.av ∧ p_ = [] | 22 => v_ = .int .i64 (i : Int) ∧ p_ = [] | 23 => v_ = elP n.av (((i : Int)).toNat * 2) ∧ p_ = [] | 24 => v_ = elP n.av (((i : Int)).toNat * 2 + 1) ∧ p_ = [] | 25 => v_ = .int .i64 ((n.gs.getD i an0).b) ∧ p_ = [] | 26 => v_ = .int .i64 (((n.gs.getD i an0).b) / 2) ∧ p_ = [] | 27 => v_ = elP tr.v ((((n.gs.getD i an0).b) / 2).toNat * 1) ∧ p_ = [] | 28 => v_ = .int .i64 (tr.xs.getD ((((n.gs.getD i an0).b) / 2).toNat) 0) ∧ p_ = [] | 29 => v_ = .pointer (some ⟨b1, 0 + 2, none⟩) ∧ p_ = [] | 30 => v_ = n.av ∧ p_ = [] | 31 => v_ = .int .i64 (i : Int) ∧ p_ = [] | 32 => v_ = elP n.av (((i : Int)).toNat * 2) ∧ p_ = [] | 33 => v_ = elP n.av (((i : Int)).toNat * 2 + 1) ∧ p_ = [] | 34 => v_ = .int .i64 ((n.gs.getD i an0).b) ∧ p_ = [] | 35 => v_ = .int .i64 (((n.gs.getD i an0).b) % 2) ∧ p_ = [] | 36 => v_ = .int .i64 (mpL tr.xs ((n.gs.getD i an0).b)) ∧ p_ = [] | 37 => (fun u_ p_ => ∃ (ps : List HP) (m : Nt) (x : Int), u_ = .tuple #[m.agg, .int .i64 x] ∧ p_ = [rowE 66 3 m.sv m.ss.length (m.ss.flatMap sqC), bigE ps] ∧ (∀ w, (bigE ps).holds w → NtRest w m) ∧ (m.sv.oneCell' = true ∧ m.av.oneCell' = true ∧ m.ov.oneCell' = true) ∧ Grew o m x) v_ p_ | 38 => v_ = .tuple #[.agg #[.int .i64 (tInH (List.getD vs_ 0 undef)), (tSvH (List.getD vs_ 0 undef)), (tAvH (List.getD vs_ 0 undef)), (tOvH (List.getD vs_ 0 undef))], .int .i64 (tXH (List.getD vs_ 0 undef))] ∧ p_ = [] | 39 => v_ = .agg #[.int .i64 (tInH (List.getD vs_ 0 undef)), (tSvH (List.getD vs_ 0 undef)), (tAvH (List.getD vs_ 0 undef)), (tOvH (List.getD vs_ 0 undef))] ∧ p_ = [] | 40 => v_ = .int .i64 (tXH (List.getD vs_ 0 undef)) ∧ p_ = [] | 41 => IsBox #[.int .i64 0, .slice none 0 0, .slice none 0 0, .slice none 0 0] 86 v_ p_ | 42 => p_ = [boxE (blkOf (List.getD vs_ 2 undef)) #[.int .i64 (tInH (List.getD vs_ 0 undef)), (tSvH (List.getD vs_ 0 undef)), (tAvH (List.getD vs_ 0 undef)), (tOvH (List.getD vs_ 0 undef))] 86] | _ => True) [[], [], [], [2], [], [3, 4], [5], [6], [7], [1, 8], [9], [], [11], [], [12, 13], [14], [15], [16], [10, 17], [], [], [20], [], [21, 22], [23], [24], [25], [19, 26], [27], [], [29], [], [30, 31], [32], [33], [34], [28, 35], [0, 18, 36], [37], [37, 38], [37, 38], [], [37, 39]] [none, none, none, none, none, none, none, none, none, none, none, none, none, none, none, none, none, none, none, none, none, none, none, none, none, none, none, none, none, none, none, none, none, none, none, none, none, none, none, none, none, none, some 41] [] [0, 1, 2, 3, 4, 5, 6, 7, 8, 9, 10, 11, 12, 13, 14, 15, 16, 17, 18, 19, 20, 21, 22, 23, 24, 25, 26, 27, 28, 29, 30, 31, 32, 33, 34, 35, 36, 37, 38, 39, 40, 42] 44 (List.take_append_drop 43 _).symm (by kernel_rfl) (by kernel_rfl) (by kernel_rfl) rfl rfl ?_ ?_
  ·
   refine ⟨?_, ?_, ?_, ?_, ?_, ?_, ?_, ?_, ?_, ?_, ?_, ?_, ?_, ?_, ?_, ?_, ?_, ?_, ?_, ?_, ?_, ?_, ?_, ?_, ?_, ?_, ?_, ?_, ?_, ?_, ?_, ?_, ?_, ?_, ?_, ?_, ?_, ?_, ?_, ?_, ?_, ?_, ?_, trivial⟩
   ·
    intro vf pf hmu hR
    refine zeg [] [] rfl (zbo (zam [3] rfl) (List.sublist_append_right _ _) ?_)
    exact zbg (zao (cs := [.int .i64 o.ins, o.sv, o.av, o.ov]) rfl rfl rfl rfl rfl (zaj 0 rfl 0 rfl))
   ·
    intro vf pf hmu hR
    refine zeg [] [] rfl (zcg (zam [4] rfl) ?_)
    exact zbg (zas rfl)
   ·
    intro vf pf hmu hR
    refine zeg [] [] rfl (zcg (zam [1] rfl) ?_)
    exact zbg (fdQ 2 rfl rfl rfl)
   ·
    intro vf pf hmu hR
    have e2 := hR 2 (by decide)
    refine zeg [2] [2] rfl (zbo (sk 27 (congrArg some e2.1) (zaf _)) (List.sublist_append_right _ _) ?_)
    exact zbg (zad rfl rfl rfl (zaa 5 rfl rfl))
   ·
    intro vf pf hmu hR
    refine zeg [] [] rfl (zcg (zam [5] rfl) ?_)
    exact zbg (zas rfl)
   ·
    intro vf pf hmu hR
    have e3 := hR 3 (by decide)
    have e4 := hR 4 (by decide)
    refine zeg [3, 4] [3, 4] rfl (zbo (sk 28 (congrArg some e3.1) (sk 29 (congrArg some e4.1) (zaf _))) (List.sublist_append_right _ _) ?_)
    exact zbg (riQ 2 rfl rfl rfl rfl (zab hr.an))
   ·
    intro vf pf hmu hR
    have e5 := hR 5 (by decide)
    refine zeg [5] [5] rfl (zbo (sk 30 (congrArg some e5.1) (zaf _)) (List.sublist_append_right _ _) ?_)
    exact zbg (zbe (k0 := 0) rfl rfl rfl (zab hr.an) (by omega))
   ·
    intro vf pf hmu hR
    have e6 := hR 6 (by decide)
    refine zeg [6] [6] rfl (zbo (sk 31 (congrArg some e6.1) (zaf _)) (List.sublist_append_right _ _) ?_)
    exact zbg (zar (u := .int .i64 ((n.gs.getD i an0).a)) rfl rfl rfl (zab hr.an) ((zce anC 2 (fun _ => rfl) n.gs an0 (show i < _ by omega) (by decide)).trans rfl))
   ·
    intro vf pf hmu hR
    have e7 := hR 7 (by decide)
    refine zeg [7] [7] rfl (zcg (sk 32 (congrArg some e7.1) (zaf _)) ?_)
    exact zbg (zeu rfl rfl rfl (by refine ⟨?_, ?_, ?_⟩ <;> omega))
   ·
    intro vf pf hmu hR
    have e1 := hR 1 (by decide)
    have e8 := hR 8 (by decide)
    refine zeg [1, 8] [1, 8] rfl (zbo (sk 26 (congrArg some e1.1) (sk 33 (congrArg some e8.1) (zaf _))) (List.sublist_append_right _ _) ?_)
    exact zbg (riQ 1 rfl rfl rfl rfl (zae 2 rfl))
   ·
    intro vf pf hmu hR
    have e9 := hR 9 (by decide)
    refine zeg [9] [9] rfl (zbo (sk 34 (congrArg some e9.1) (zaf _)) (List.sublist_append_right _ _) ?_)
    exact zbg (lzQ rfl rfl rfl (zae 2 rfl))
   ·
    intro vf pf hmu hR
    refine zeg [] [] rfl (zcg (zam [1] rfl) ?_)
    exact zbg (fdQ 2 rfl rfl rfl)
   ·
    intro vf pf hmu hR
    have e11 := hR 11 (by decide)
    refine zeg [11] [11] rfl (zbo (sk 36 (congrArg some e11.1) (zaf _)) (List.sublist_append_right _ _) ?_)
    exact zbg (zad rfl rfl rfl (zaa 5 rfl rfl))
   ·
    intro vf pf hmu hR
    refine zeg [] [] rfl (zcg (zam [5] rfl) ?_)
    exact zbg (zas rfl)
   ·
    intro vf pf hmu hR
    have e12 := hR 12 (by decide)
    have e13 := hR 13 (by decide)
    refine zeg [12, 13] [12, 13] rfl (zbo (sk 37 (congrArg some e12.1) (sk 38 (congrArg some e13.1) (zaf _))) (List.sublist_append_right _ _) ?_)
    exact zbg (riQ 2 rfl rfl rfl rfl (zab hr.an))
   ·
    intro vf pf hmu hR
    have e14 := hR 14 (by decide)
    refine zeg [14] [14] rfl (zbo (sk 39 (congrArg some e14.1) (zaf _)) (List.sublist_append_right _ _) ?_)
    exact zbg (zbe (k0 := 0) rfl rfl rfl (zab hr.an) (by omega))
   ·
    intro vf pf hmu hR
    have e15 := hR 15 (by decide)
    refine zeg [15] [15] rfl (zbo (sk 40 (congrArg some e15.1) (zaf _)) (List.sublist_append_right _ _) ?_)
    exact zbg (zar (u := .int .i64 ((n.gs.getD i an0).a)) rfl rfl rfl (zab hr.an) ((zce anC 2 (fun _ => rfl) n.gs an0 (show i < _ by omega) (by decide)).trans rfl))
   ·
    intro vf pf hmu hR
    have e16 := hR 16 (by decide)
    refine zeg [16] [16] rfl (zcg (sk 41 (congrArg some e16.1) (zaf _)) ?_)
    exact zbg (zfu rfl (by decide) rfl rfl (r := ((n.gs.getD i an0).a) % 2) (Bit.and_one _ (by omega) (by omega)))
   ·
    intro vf pf hmu hR
    have e10 := hR 10 (by decide)
    have e17 := hR 17 (by decide)
    refine zeg [10, 17] [10, 17] rfl (zcg (sk 35 (congrArg some e10.1) (sk 42 (congrArg some e17.1) (zaf _))) ?_)
    exact zbg (zfu rfl (by decide) rfl rfl (r := mpL tr.xs ((n.gs.getD i an0).a)) (zse (by omega) (by omega)))
   ·
    intro vf pf hmu hR
    refine zeg [] [] rfl (zcg (zam [4] rfl) ?_)
    exact zbg (zas rfl)
   ·
    intro vf pf hmu hR
    refine zeg [] [] rfl (zcg (zam [1] rfl) ?_)
    exact zbg (fdQ 2 rfl rfl rfl)
   ·
    intro vf pf hmu hR
    have e20 := hR 20 (by decide)
    refine zeg [20] [20] rfl (zbo (sk 45 (congrArg some e20.1) (zaf _)) (List.sublist_append_right _ _) ?_)
    exact zbg (zad rfl rfl rfl (zaa 5 rfl rfl))
   ·
    intro vf pf hmu hR
    refine zeg [] [] rfl (zcg (zam [5] rfl) ?_)
    exact zbg (zas rfl)
   ·
    intro vf pf hmu hR
    have e21 := hR 21 (by decide)
    have e22 := hR 22 (by decide)
    refine zeg [21, 22] [21, 22] rfl (zbo (sk 46 (congrArg some e21.1) (sk 47 (congrArg some e22.1) (zaf _))) (List.sublist_append_right _ _) ?_)
    exact zbg (riQ 2 rfl rfl rfl rfl (zab hr.an))
   ·
    intro vf pf hmu hR
    have e23 := hR 23 (by decide)
    refine zeg [23] [23] rfl (zbo (sk 48 (congrArg some e23.1) (zaf _)) (List.sublist_append_right _ _) ?_)
    exact zbg (zbe (k0 := 1) rfl rfl rfl (zab hr.an) (by omega))
   ·
    intro vf pf hmu hR
    have e24 := hR 24 (by decide)
    refine zeg [24] [24] rfl (zbo (sk 49 (congrArg some e24.1) (zaf _)) (List.sublist_append_right _ _) ?_)
    exact zbg (zar (u := .int .i64 ((n.gs.getD i an0).b)) rfl rfl rfl (zab hr.an) ((zce anC 2 (fun _ => rfl) n.gs an0 (show i < _ by omega) (by decide)).trans rfl))
   ·
    intro vf pf hmu hR
    have e25 := hR 25 (by decide)
    refine zeg [25] [25] rfl (zcg (sk 50 (congrArg some e25.1) (zaf _)) ?_)
    exact zbg (zeu rfl rfl rfl (by refine ⟨?_, ?_, ?_⟩ <;> omega))
   ·
    intro vf pf hmu hR
    have e19 := hR 19 (by decide)
    have e26 := hR 26 (by decide)
    refine zeg [19, 26] [19, 26] rfl (zbo (sk 44 (congrArg some e19.1) (sk 51 (congrArg some e26.1) (zaf _))) (List.sublist_append_right _ _) ?_)
    exact zbg (riQ 1 rfl rfl rfl rfl (zae 2 rfl))
   ·
    intro vf pf hmu hR
    have e27 := hR 27 (by decide)
    refine zeg [27] [27] rfl (zbo (sk 52 (congrArg some e27.1) (zaf _)) (List.sublist_append_right _ _) ?_)
    exact zbg (lzQ rfl rfl rfl (zae 2 rfl))
   ·
    intro vf pf hmu hR
    refine zeg [] [] rfl (zcg (zam [1] rfl) ?_)
    exact zbg (fdQ 2 rfl rfl rfl)
   ·
    intro vf pf hmu hR
    have e29 := hR 29 (by decide)
    refine zeg [29] [29] rfl (zbo (sk 54 (congrArg some e29.1) (zaf _)) (List.sublist_append_right _ _) ?_)
    exact zbg (zad rfl rfl rfl (zaa 5 rfl rfl))
   ·
    intro vf pf hmu hR
    refine zeg [] [] rfl (zcg (zam [5] rfl) ?_)
    exact zbg (zas rfl)
   ·
    intro vf pf hmu hR
    have e30 := hR 30 (by decide)
    have e31 := hR 31 (by decide)
    refine zeg [30, 31] [30, 31] rfl (zbo (sk 55 (congrArg some e30.1) (sk 56 (congrArg some e31.1) (zaf _))) (List.sublist_append_right _ _) ?_)
    exact zbg (riQ 2 rfl rfl rfl rfl (zab hr.an))
   ·
    intro vf pf hmu hR
    have e32 := hR 32 (by decide)
    refine zeg [32] [32] rfl (zbo (sk 57 (congrArg some e32.1) (zaf _)) (List.sublist_append_right _ _) ?_)
    exact zbg (zbe (k0 := 1) rfl rfl rfl (zab hr.an) (by omega))
   ·
    intro vf pf hmu hR
    have e33 := hR 33 (by decide)
    refine zeg [33] [33] rfl (zbo (sk 58 (congrArg some e33.1) (zaf _)) (List.sublist_append_right _ _) ?_)
    exact zbg (zar (u := .int .i64 ((n.gs.getD i an0).b)) rfl rfl rfl (zab hr.an) ((zce anC 2 (fun _ => rfl) n.gs an0 (show i < _ by omega) (by decide)).trans rfl))
   ·
    intro vf pf hmu hR
    have e34 := hR 34 (by decide)
    refine zeg [34] [34] rfl (zcg (sk 59 (congrArg some e34.1) (zaf _)) ?_)
    exact zbg (zfu rfl (by decide) rfl rfl (r := ((n.gs.getD i an0).b) % 2) (Bit.and_one _ (by omega) (by omega)))
   ·
    intro vf pf hmu hR
    have e28 := hR 28 (by decide)
    have e35 := hR 35 (by decide)
    refine zeg [28, 35] [28, 35] rfl (zcg (sk 53 (congrArg some e28.1) (sk 60 (congrArg some e35.1) (zaf _))) ?_)
    exact zbg (zfu rfl (by decide) rfl rfl (r := mpL tr.xs ((n.gs.getD i an0).b)) (zse (by omega) (by omega)))
   ·
    intro vf pf hmu hR
    have e0 := hR 0 (by decide)
    have e18 := hR 18 (by decide)
    have e36 := hR 36 (by decide)
    refine zeg [0, 18, 36] [0, 18, 36] rfl (zbo (sk 25 (congrArg some e0.1) (sk 43 (congrArg some e18.1) (sk 61 (congrArg some e36.1) (zaf _)))) (List.sublist_append_right _ _) ?_)
    exact zaq rfl rfl (fun w hm => zpo o (mpL tr.xs ((n.gs.getD i an0).a)) (mpL tr.xs ((n.gs.getD i an0).b)) w ((hps w (hm.holds _ (zcn (i := 3) rfl))).rds (zae 1 rfl w hm)) ho (hmk.lit hia).2 (hmk.lit hib).2 (by omega))
   ·
    intro vf pf hmu hR
    have e37 : (fun u_ p_ => ∃ (ps : List HP) (m : Nt) (x : Int), u_ = .tuple #[m.agg, .int .i64 x] ∧ p_ = [rowE 66 3 m.sv m.ss.length (m.ss.flatMap sqC), bigE ps] ∧ (∀ w, (bigE ps).holds w → NtRest w m) ∧ (m.sv.oneCell' = true ∧ m.av.oneCell' = true ∧ m.ov.oneCell' = true) ∧ Grew o m x) (vf 37) (pf 37) := hR 37 (by decide)
    obtain ⟨v9, vE37⟩ : ∃ x, vf 37 = x := ⟨_, rfl⟩
    obtain ⟨p10, pE37⟩ : ∃ x, pf 37 = x := ⟨_, rfl⟩
    have hR11 := e37
    rw [vE37, pE37] at hR11
    obtain ⟨qs, m2, x, rfl, rfl, hqs, ⟨o1q, o2q, o3q⟩, hgr⟩ := hR11
    refine zeg [37] [37] rfl (zci (sk 62 (congrArg some vE37) (zaf _)) (by simp only [pE37, vE37, fS] <;> rfl) ?_)
    exact zcy (zbg (zas rfl)) (fun _ _ h => ⟨h.1.trans (by show _ = (.tuple #[.agg #[.int .i64 (tInH (vf 37)), (tSvH (vf 37)), (tAvH (vf 37)), (tOvH (vf 37))], .int .i64 (tXH (vf 37))] : Value); first | (rw [vE37]; done) | (rw [vE37]; rfl)), h.2⟩)
   ·
    intro vf pf hmu hR
    have e37 : (fun u_ p_ => ∃ (ps : List HP) (m : Nt) (x : Int), u_ = .tuple #[m.agg, .int .i64 x] ∧ p_ = [rowE 66 3 m.sv m.ss.length (m.ss.flatMap sqC), bigE ps] ∧ (∀ w, (bigE ps).holds w → NtRest w m) ∧ (m.sv.oneCell' = true ∧ m.av.oneCell' = true ∧ m.ov.oneCell' = true) ∧ Grew o m x) (vf 37) (pf 37) := hR 37 (by decide)
    obtain ⟨v9, vE37⟩ : ∃ x, vf 37 = x := ⟨_, rfl⟩
    obtain ⟨p10, pE37⟩ : ∃ x, pf 37 = x := ⟨_, rfl⟩
    have hR11 := e37
    rw [vE37, pE37] at hR11
    obtain ⟨qs, m2, x, rfl, rfl, hqs, ⟨o1q, o2q, o3q⟩, hgr⟩ := hR11
    have e38 : (vf 38) = .tuple #[.agg #[.int .i64 (tInH (vf 37)), (tSvH (vf 37)), (tAvH (vf 37)), (tOvH (vf 37))], .int .i64 (tXH (vf 37))] ∧ (pf 38) = [] := hR 38 (by decide)
    rw [vE37] at e38
    refine zeg [37, 38] [37, 38] rfl (zci (sk 24 (congrArg some e38.1) (zaf _)) (by simp only [pE37, vE37, e38.2, fS] <;> rfl) ?_)
    exact zcy (zbg (zas rfl)) (fun _ _ h => ⟨h.1.trans (by show _ = (.agg #[.int .i64 (tInH (vf 37)), (tSvH (vf 37)), (tAvH (vf 37)), (tOvH (vf 37))] : Value); first | (rw [vE37]; done) | (rw [vE37]; rfl)), h.2⟩)
   ·
    intro vf pf hmu hR
    have e37 : (fun u_ p_ => ∃ (ps : List HP) (m : Nt) (x : Int), u_ = .tuple #[m.agg, .int .i64 x] ∧ p_ = [rowE 66 3 m.sv m.ss.length (m.ss.flatMap sqC), bigE ps] ∧ (∀ w, (bigE ps).holds w → NtRest w m) ∧ (m.sv.oneCell' = true ∧ m.av.oneCell' = true ∧ m.ov.oneCell' = true) ∧ Grew o m x) (vf 37) (pf 37) := hR 37 (by decide)
    obtain ⟨v9, vE37⟩ : ∃ x, vf 37 = x := ⟨_, rfl⟩
    obtain ⟨p10, pE37⟩ : ∃ x, pf 37 = x := ⟨_, rfl⟩
    have hR11 := e37
    rw [vE37, pE37] at hR11
    obtain ⟨qs, m2, x, rfl, rfl, hqs, ⟨o1q, o2q, o3q⟩, hgr⟩ := hR11
    have e38 : (vf 38) = .tuple #[.agg #[.int .i64 (tInH (vf 37)), (tSvH (vf 37)), (tAvH (vf 37)), (tOvH (vf 37))], .int .i64 (tXH (vf 37))] ∧ (pf 38) = [] := hR 38 (by decide)
    rw [vE37] at e38
    refine zeg [37, 38] [37, 38] rfl (zci (sk 24 (congrArg some e38.1) (zaf _)) (by simp only [pE37, vE37, e38.2, fS] <;> rfl) ?_)
    exact zcy (zbg (zas rfl)) (fun _ _ h => ⟨h.1.trans (by show _ = (.int .i64 (tXH (vf 37)) : Value); first | (rw [vE37]; done) | (rw [vE37]; rfl)), h.2⟩)
   ·
    intro vf pf hmu hR
    refine zeg [] [] rfl (zbo (zaf _) (List.sublist_append_right _ _) ?_)
    exact zbx (z := .agg #[.int .i64 0, .slice none 0 0, .slice none 0 0, .slice none 0 0]) rfl rfl
   intro vf pf hmu hR
   have e37 : (fun u_ p_ => ∃ (ps : List HP) (m : Nt) (x : Int), u_ = .tuple #[m.agg, .int .i64 x] ∧ p_ = [rowE 66 3 m.sv m.ss.length (m.ss.flatMap sqC), bigE ps] ∧ (∀ w, (bigE ps).holds w → NtRest w m) ∧ (m.sv.oneCell' = true ∧ m.av.oneCell' = true ∧ m.ov.oneCell' = true) ∧ Grew o m x) (vf 37) (pf 37) := hR 37 (by decide)
   obtain ⟨v9, vE37⟩ : ∃ x, vf 37 = x := ⟨_, rfl⟩
   obtain ⟨p10, pE37⟩ : ∃ x, pf 37 = x := ⟨_, rfl⟩
   have hR11 := e37
   rw [vE37, pE37] at hR11
   obtain ⟨qs, m2, x, rfl, rfl, hqs, ⟨o1q, o2q, o3q⟩, hgr⟩ := hR11
   have e39 : (vf 39) = .agg #[.int .i64 (tInH (vf 37)), (tSvH (vf 37)), (tAvH (vf 37)), (tOvH (vf 37))] ∧ (pf 39) = [] := hR 39 (by decide)
   rw [vE37] at e39
   have e41 : IsBox #[.int .i64 0, .slice none 0 0, .slice none 0 0, .slice none 0 0] 86 (vf 41) (pf 41) := hR 41 (by decide)
   obtain ⟨b12, vE41, pE41⟩ := e41
   refine Or.inl ⟨rfl, ?_⟩
   show RunM _ _ _ (pf 41) (([37, 39] : List Nat).flatMap pf ++ _) (envOf3 _ vf [37, 39, 41] ++ _) _ _
   rw [pE41]
   exact zee (sk 6 (congrArg some vE41) (sk 63 (congrArg some e39.1) (zaf _))) (by simp only [pE37, vE37, e39.2, fS] <;> rfl) (zjr (zfi (us := [.int .i64 m2.ins, m2.sv, m2.av, m2.ov]) (off := 0) 0 rfl rfl rfl rfl rfl rfl (zah rfl (zah o1q (zah o2q (zah o3q zbr)))) rfl rfl) (fun v_ p_ h => by show p_ = [boxE (blkOf (vf 41)) #[.int .i64 (tInH (vf 37)), (tSvH (vf 37)), (tAvH (vf 37)), (tOvH (vf 37))] 86]; rw [vE37, vE41]; exact h))
  intro vf pf hmu hR
  have e37 : (fun u_ p_ => ∃ (ps : List HP) (m : Nt) (x : Int), u_ = .tuple #[m.agg, .int .i64 x] ∧ p_ = [rowE 66 3 m.sv m.ss.length (m.ss.flatMap sqC), bigE ps] ∧ (∀ w, (bigE ps).holds w → NtRest w m) ∧ (m.sv.oneCell' = true ∧ m.av.oneCell' = true ∧ m.ov.oneCell' = true) ∧ Grew o m x) (vf 37) (pf 37) := hR 37 (by decide)
  obtain ⟨v9, vE37⟩ : ∃ x, vf 37 = x := ⟨_, rfl⟩
  obtain ⟨p10, pE37⟩ : ∃ x, pf 37 = x := ⟨_, rfl⟩
  have hR11 := e37
  rw [vE37, pE37] at hR11
  obtain ⟨qs, m2, x, rfl, rfl, hqs, ⟨o1q, o2q, o3q⟩, hgr⟩ := hR11
  have e40 : (vf 40) = .int .i64 (tXH (vf 37)) ∧ (pf 40) = [] := hR 40 (by decide)
  rw [vE37] at e40
  have e41 : IsBox #[.int .i64 0, .slice none 0 0, .slice none 0 0, .slice none 0 0] 86 (vf 41) (pf 41) := hR 41 (by decide)
  obtain ⟨b12, vE41, pE41⟩ := e41
  have e42 : (pf 42) = [boxE (blkOf (vf 41)) #[.int .i64 (tInH (vf 37)), (tSvH (vf 37)), (tAvH (vf 37)), (tOvH (vf 37))] 86] := hR 42 (by decide)
  rw [vE37, vE41] at e42
  have pE42 := e42
  have q0 := hR 0 (by decide)
  have q1 := hR 1 (by decide)
  have q2 := hR 2 (by decide)
  have q3 := hR 3 (by decide)
  have q4 := hR 4 (by decide)
  have q5 := hR 5 (by decide)
  have q6 := hR 6 (by decide)
  have q7 := hR 7 (by decide)
  have q8 := hR 8 (by decide)
  have q9 := hR 9 (by decide)
  have q10 := hR 10 (by decide)
  have q11 := hR 11 (by decide)
  have q12 := hR 12 (by decide)
  have q13 := hR 13 (by decide)
  have q14 := hR 14 (by decide)
  have q15 := hR 15 (by decide)
  have q16 := hR 16 (by decide)
  have q17 := hR 17 (by decide)
  have q18 := hR 18 (by decide)
  have q19 := hR 19 (by decide)
  have q20 := hR 20 (by decide)
  have q21 := hR 21 (by decide)
  have q22 := hR 22 (by decide)
  have q23 := hR 23 (by decide)
  have q24 := hR 24 (by decide)
  have q25 := hR 25 (by decide)
  have q26 := hR 26 (by decide)
  have q27 := hR 27 (by decide)
  have q28 := hR 28 (by decide)
  have q29 := hR 29 (by decide)
  have q30 := hR 30 (by decide)
  have q31 := hR 31 (by decide)
  have q32 := hR 32 (by decide)
  have q33 := hR 33 (by decide)
  have q34 := hR 34 (by decide)
  have q35 := hR 35 (by decide)
  have q36 := hR 36 (by decide)
  have q38 := hR 38 (by decide)
  have q39 := hR 39 (by decide)
  have q40 := hR 40 (by decide)
  refine zco (zbk [5, 4, 3, 2, 1, 0] _ (sk 6 (congrArg some vE41) (sk 10 rfl (sk 21 rfl (sk 64 (congrArg some e40.1) (zaf _))))) rfl) (by simp only [pE37, vE37, pE42, q0.2, q1.2, q2.2, q3.2, q4.2, q5.2, q6.2, q7.2, q8.2, q9.2, q10.2, q11.2, q12.2, q13.2, q14.2, q15.2, q16.2, q17.2, q18.2, q19.2, q20.2, q21.2, q22.2, q23.2, q24.2, q25.2, q26.2, q27.2, q28.2, q29.2, q30.2, q31.2, q32.2, q33.2, q34.2, q35.2, q36.2, q38.2, q39.2, q40.2, fS] <;> rfl) ?_
  simp only [List.drop_succ_cons, List.drop_zero]
  refine zaz 1 rfl (srQ (hvQ rfl (zao (cs := [.int .i64 m2.ins, m2.sv, m2.av, m2.ov]) rfl rfl rfl rfl rfl (zaj 2 rfl 0 rfl)) ?_))
  refine zcc (cs' := #[.int .i64 m2.ins, m2.sv, m2.av, m2.ov]) (i := 3) (off := 0) (us := [.int .i64 m2.ins, m2.sv, m2.av, m2.ov]) rfl rfl rfl rfl rfl rfl rfl (zah rfl (zah o1q (zah o2q (zah o3q zbr)))) rfl rfl rfl (ntQ (reQ 2 rfl ?_))
  refine zdk rfl (zat (z := .int .i64 0) (s := 1) (cs := ([x].map (Value.int .i64))) rfl Try.underlying28 rfl (by decide) rfl (by kernel_rfl) rfl) ?_
  intro g13
  refine zcd (i := 6) (z := .int .i64 0) (bytes := 8) rfl rfl rfl rfl Try.underlying28 (by kernel_rfl) rfl rfl rfl rfl (zae 0 rfl) (zbm _) (by first | omega | (simp; done) | (simp; omega)) (zbv tr.xs ([x])) (zcm tr.xs ([x])) (fun _ => rfl) ?_
  intro v14
  refine enQ 1 rfl (zcv (reQ 1 rfl (hvQ rfl (vaQ rfl rfl rfl) (enQ 1 rfl ?_))))
  have hmk2 : MapOk (tr.xs ++ [x]) (n.fst + ((i + 1 : Nat) : Int)) m2.cnt := by have h9 := (hmk.up hgr.cnt).app (x := x) hgr.lit; rwa [show n.fst + (i : Int) + 1 = n.fst + ((i + 1 : Nat) : Int) by omega] at h9
  have hl1 := hgr.l1
  refine zbw 10 [9, 8, 2, 6, 1, 4] rfl rfl (by decide) ?_
  exact zct (i + 1) m2 (CRow.mk v14 (tr.xs ++ ([x]))) qs ⟨by omega, hgr.ok, hsk.trans hgr.sk, by omega, hmk2, hqs, ⟨o1q, o2q, o3q⟩⟩ (by omega) (saQ rfl) (pfQ rfl)
 refine ntQ (zal rfl ?_)
 refine zba (zdq ?_)
 refine zag (zaw (srQ (hvQ rfl (zao (cs := [.int .i64 o.ins, o.sv, o.av, o.ov]) rfl rfl rfl rfl rfl (zaj 0 rfl 0 rfl)) (hvQ rfl (zao (cs := [.int .i64 n.ins, n.sv, n.av, n.ov]) rfl rfl rfl rfl rfl (zaj 5 rfl 0 rfl)) (zap 1 rfl ?_)))))
 refine ztm 6 [5, 4, 0, 3, 2, 1] rfl rfl (by decide) ?_
 refine hl_pool 3 rfl ?_
 refine zdt (R := (fun u_ p_ => ∃ (ps : List HP) (m : Nt), u_ = m.agg ∧ p_ = bigE ps ∧ (∀ w, (bigE ps).holds w → RdsNt w m) ∧ (m.sv.oneCell' = true ∧ m.av.oneCell' = true ∧ m.ov.oneCell' = true) ∧ NtOk m ∧ Skel n m ∧ m.gs.length ≤ o.gs.length)) 0 rfl rfl rfl rfl rfl (fun l' w hm => zlx n o tr.xs tr.v ps _ _ w hm hr hn ho hsk (by rwa [show n.fst + (i : Int) = n.cnt by omega] at hmk) hps ⟨o1o, o2o, o3o⟩) ?_
 intro v15 p16 hR17
 obtain ⟨rs, m3, rfl, rfl, hrs, ⟨o1r, o2r, o3r⟩, hm3, hs3, hl3⟩ := hR17
 refine zev (l' := [bigE rs, boxE b6 #[.int .i64 o.ins, o.sv, o.av, o.ov] 86, boxE b2 #[.int .i64 0, .slice none 0 0, .slice none 0 0, .slice none 0 0] 86, boxE b1 #[.int .i64 n.ins, n.sv, n.av, n.ov] 86]) rfl ?_
 refine zcc (cs' := #[.int .i64 m3.ins, m3.sv, m3.av, m3.ov]) (i := 2) (off := 0) (us := [.int .i64 m3.ins, m3.sv, m3.av, m3.ov]) rfl rfl rfl rfl rfl rfl rfl (zah rfl (zah o1r (zah o2r (zah o3r zbr)))) rfl rfl rfl (ntQ ?_)
 exact zau (zdm (rs := [.cell 2 86]) (vs := [.agg #[.int .i64 m3.ins, m3.sv, m3.av, m3.ov]]) (post := [bigE rs]) rfl ⟨⟨b2, 0, [.int .i64 m3.ins, m3.sv, m3.av, m3.ov], rfl, rfl, by kernel_rfl, by kernel_rfl, zaj 2 rfl 0 rfl⟩, trivial⟩ rfl (slQ [0] rfl) ⟨_, m3, rfl, rfl, hrs, ⟨o1r, o2r, o3r⟩, hm3, hs3, by omega⟩)
theorem znb : ∀ (N : Nat) (ns : List Int), ns.Nodup → (∀ x ∈ ns, 0 ≤ x ∧ x < N) → ns.length ≤ N
  | 0, [], _, _ => Nat.le_refl _
  | 0, x :: t, _, hr => by have := hr x List.mem_cons_self; omega
  | N + 1, ns, hn, hr => by
    have h1 : (ns.erase (N : Int)).Nodup := hn.erase _
    have h2 := znb N (ns.erase (N : Int)) h1 (fun x hx => by
      have hm := (hn.mem_erase_iff).1 hx
      have := hr x hm.2
      have hne := hm.1
      omega)
    by_cases c : (N : Int) ∈ ns
    · rw [List.length_erase_of_mem c] at h2
      omega
    · rw [List.erase_of_not_mem c] at h2; omega
structure Srch (c : Nat) (back queue : List Int) : Prop where
  len : back.length = c
  rng : ∀ x ∈ queue, 0 ≤ x ∧ x < c
  nodup : queue.Nodup
  set : ∀ x ∈ queue, back.getD x.toNat 0 ≠ -2
  prec : ∀ j, j < c → back.getD j 0 = -2 ∨ ((j : Int) ∈ queue ∧ (back.getD j 0 = -1 ∨ (back.getD j 0 ∈ queue ∧ queue.idxOf (back.getD j 0) < queue.idxOf (j : Int))))
theorem zig {α : Type} {d x : α} {n i : Nat} (h : i < n) : (List.replicate n x).getD i d = x := by
  rw [List.getD_eq_getElem?_getD, List.getElem?_replicate, if_pos h]; rfl
theorem Srch.start (c : Nat) : Srch c (List.replicate c (-2)) [] := ⟨by simp, fun x hx => (by cases hx), by simp, fun x hx => (by cases hx), fun j hj => .inl (zig hj)⟩
theorem Srch.qlen {c : Nat} {back queue : List Int} (h : Srch c back queue) : queue.length ≤ c := znb c queue h.nodup h.rng
theorem Srch.at {c : Nat} {back queue : List Int} (h : Srch c back queue) {q : Nat} (hq : q < queue.length) : 0 ≤ queue.getD q 0 ∧ queue.getD q 0 < c := h.rng _ (zbl hq)
theorem Srch.put {c : Nat} {back queue : List Int} (h : Srch c back queue) {y x : Int} (hy : 0 ≤ y ∧ y < c) (hb : back.getD y.toNat 0 = -2) (hx : x = -1 ∨ x ∈ queue) : Srch c (back.set y.toNat x) (queue ++ [y]) := by
  have hl := h.len
  have hn : ¬ y ∈ queue := fun hm => h.set y hm hb
  have hx2 : x ≠ -2 := by
    rcases hx with e | e
    · omega
    · have := h.rng x e; omega
  have hget : ∀ j, j < c → (back.set y.toNat x).getD j 0 = if y.toNat = j then x else back.getD j 0 := fun j hj => by
    by_cases e : y.toNat = j
    · subst e; rw [if_pos rfl, zeb (by omega)]
    · rw [if_neg e, List.getD_eq_getElem?_getD, List.getElem?_set_ne e, ← List.getD_eq_getElem?_getD]
  refine ⟨by rw [List.length_set]; exact hl, fun z hz => ?_, ?_, fun z hz => ?_, fun j hj => ?_⟩
  · rcases List.mem_append.1 hz with hz | hz
    · exact h.rng z hz
    · rw [List.mem_singleton] at hz; subst hz; exact hy
  · rw [List.nodup_append]
    refine ⟨h.nodup, by simp, fun a ha b hb2 e => ?_⟩
    rw [List.mem_singleton] at hb2
    subst hb2; subst e; exact hn ha
  · have hz' : 0 ≤ z ∧ z < c := by
      rcases List.mem_append.1 hz with hz | hz
      · exact h.rng z hz
      · rw [List.mem_singleton] at hz; subst hz; exact hy
    rw [hget _ (by omega)]
    split
    · exact hx2
    · rename_i hne
      rcases List.mem_append.1 hz with hz | hz
      · exact h.set z hz
      · rw [List.mem_singleton] at hz; subst hz; exact absurd rfl hne
  · rw [hget j hj]
    by_cases e : y.toNat = j
    · rw [if_pos e]
      have ej : (j : Int) = y := by omega
      refine .inr ⟨by rw [ej]; exact List.mem_append_right _ (List.mem_singleton.2 rfl), ?_⟩
      rcases hx with e1 | e1
      · exact .inl e1
      · refine .inr ⟨List.mem_append_left _ e1, ?_⟩
        rw [ej, List.idxOf_append, if_pos e1, List.idxOf_append, if_neg hn]
        have := List.idxOf_lt_length_of_mem e1
        omega
    · rw [if_neg e]
      rcases h.prec j hj with e1 | ⟨hm, e1⟩
      · exact .inl e1
      · refine .inr ⟨List.mem_append_left _ hm, ?_⟩
        rcases e1 with e1 | ⟨hm2, e1⟩
        · exact .inl e1
        · refine .inr ⟨List.mem_append_left _ hm2, ?_⟩
          rw [List.idxOf_append, if_pos hm2, List.idxOf_append, if_pos hm]; exact e1
structure BackOk (c : Nat) (back : List Int) : Prop where
  len : back.length = c
  rng : ∀ j, j < c → -2 ≤ back.getD j 0 ∧ back.getD j 0 < c
  rank : ∃ r : Nat → Nat, ∀ j, j < c → 0 ≤ back.getD j 0 → r (back.getD j 0).toNat < r j
theorem Srch.back {c : Nat} {back queue : List Int} (h : Srch c back queue) : BackOk c back := by
  refine ⟨h.len, fun j hj => ?_, fun j => queue.idxOf (j : Int), fun j hj h0 => ?_⟩
  · rcases h.prec j hj with e | ⟨-, e | ⟨e, -⟩⟩
    · omega
    · omega
    · have := h.rng _ e; omega
  · rcases h.prec j hj with e | ⟨-, e | ⟨-, e⟩⟩
    · omega
    · omega
    · show queue.idxOf (((back.getD j 0).toNat : Nat) : Int) < _
      rw [Int.toNat_of_nonneg h0]; exact e
def NxOk (c : Nat) (xs : List Int) : Prop := ∀ x ∈ xs, 0 ≤ x ∧ x < c
theorem NxOk.nil (c : Nat) : NxOk c [] := fun x hx => by cases hx
theorem NxOk.app {c : Nat} {xs : List Int} (h : NxOk c xs) {x : Int} (hx : 0 ≤ x ∧ x < c) : NxOk c (xs ++ [x]) := fun y hy => by
  rcases List.mem_append.1 hy with hy | hy
  · exact h y hy
  · rw [List.mem_singleton] at hy; subst hy; exact hx
theorem NxOk.at {c : Nat} {xs : List Int} (h : NxOk c xs) {k : Nat} (hk : k < xs.length) : 0 ≤ xs.getD k 0 ∧ xs.getD k 0 < c := h _ (zbl hk)
def AbOk (c : Int) (ab : List Int) : Prop := (ab.length : Int) = c ∧ ∀ k, k < ab.length → -1 ≤ ab.getD k 0 ∧ ab.getD k 0 < c
theorem AbOk.start {c : Int} (hc : 1 ≤ c) : AbOk c (List.replicate c.toNat 0) := ⟨by rw [List.length_replicate]; omega, fun k hk => by rw [List.length_replicate] at hk; rw [zig hk]; omega⟩
theorem AbOk.set {c : Int} {ab : List Int} (h : AbOk c ab) {k : Nat} {x : Int} (hx : -1 ≤ x ∧ x < c) : AbOk c (ab.set k x) := by
  refine ⟨by rw [List.length_set]; exact h.1, fun j hj => ?_⟩
  rw [List.length_set] at hj
  by_cases e : k = j
  · subst e; rw [zeb hj]; exact hx
  · rw [List.getD_eq_getElem?_getD, List.getElem?_set_ne e, ← List.getD_eq_getElem?_getD]; exact h.2 j hj
structure LbOk (n : Nt) (i : Nat) (ls : List Int) : Prop where
  len : (ls.length : Int) = n.cnt
  at_ : ∀ k, k < ls.length → 0 ≤ ls.getD k 0 ∧ ls.getD k 0 ≤ k
theorem LbOk.start {n : Nt} (hc : 0 ≤ n.cnt) : LbOk n 0 (List.replicate n.cnt.toNat 0) := ⟨by rw [List.length_replicate]; omega, fun k hk => by rw [List.length_replicate] at hk; rw [zig hk]; omega⟩
theorem LbOk.set {n : Nt} {i j : Nat} {ls : List Int} (h : LbOk n i ls) {k : Nat} {x : Int} (hx : 0 ≤ x ∧ x ≤ k) : LbOk n j (ls.set k x) := by
  refine ⟨by rw [List.length_set]; exact h.len, fun m hm => ?_⟩
  rw [List.length_set] at hm
  by_cases e : k = m
  · subst e; rw [zeb hm]; exact hx
  · rw [List.getD_eq_getElem?_getD, List.getElem?_set_ne e, ← List.getD_eq_getElem?_getD]; exact h.at_ m hm
open Go.RowKit
theorem zjk {xs : List Int} {k x : Int} (h : ∀ y ∈ xs, 0 ≤ y ∧ y < k) (hx : 0 ≤ x ∧ x < k) : ∀ y ∈ xs ++ [x], 0 ≤ y ∧ y < k := fun y hy => by
  rcases List.mem_append.1 hy with hy | hy
  · exact h y hy
  · rw [List.mem_singleton] at hy; subst hy; exact hx
theorem znc {k : Int} : ∀ y ∈ ([] : List Int), 0 ≤ y ∧ y < k := fun y hy => by cases hy
theorem zuj (n : Nt) (k : Int) (w : World) (hr : RdsNt w n) (hn : NtOk n) (hk : 0 ≤ k ∧ k < n.cnt) :
   Calls Try.prog 130 #[.agg #[.int .i64 n.ins, n.sv, n.av, n.ov], .int .i64 k] w (Ret w (fun u_ p_ => ∃ xs : List Int, p_ = [rowE 3 1 u_ xs.length (xs.map (Value.int .i64))] ∧ xs.length ≤ 2 ∧ ∀ x ∈ xs, 0 ≤ x ∧ x < k)) := by
 have hi0 := hn.i0
 have hi1 := hn.i1
 have hs1 := hn.s1
 have ha1 := hn.a1
 have ho1 := hn.o1
 have hcnt : n.cnt = 1 + n.ins + n.ss.length + n.gs.length := rfl
 have hfst : n.fst = 1 + n.ins + n.ss.length := rfl
 refine zbf (N := 40) (args := [.agg #[.int .i64 n.ins, n.sv, n.av, n.ov], .int .i64 k]) Try.func130 rfl rfl (srQ ?_)
 refine zdj rfl (zch rfl rfl) ?_
 intro b1
 refine zaz 1 rfl (srQ ?_)
 refine zdk rfl (zbz (s := 1) rfl Try.underlying28 rfl) ?_
 intro g2
 refine zaz 1 rfl (zac (zac (reQ 1 rfl (hvQ rfl (zao (cs := [.int .i64 n.ins, n.sv, n.av, n.ov]) rfl rfl rfl rfl rfl (zaj 1 rfl 0 rfl)) ?_))))
 refine zds rfl (zaq rfl rfl (fun w hm => zav (zcl n w (hr.below hm.bel) hn))) (zbj rfl rfl rfl rfl rfl rfl (fun h3 => ?_) (fun h3 => ?_))
 ·
  refine ntQ (zak rfl (zbd 2 rfl ?_))
  refine zau (zai ?_)
  exact zck (post := [rowE 3 1 (.slice (some ⟨g2, 0, none⟩) 0 0) 0 ([])]) rfl rfl (slQ [0] rfl) ⟨[], rfl, by simp, znc⟩
 refine ntQ (zal rfl (zcq (zac ?_)))
 have hgn := hn.an (k - n.fst).toNat (by omega)
 unfold LtOk at hgn
 refine zdf rfl 9 [0, 1, 2, 3, 4, 5, 6, 7, 8] (List.take 9 _) (List.drop 9 _) [[], [0], [], [], [3], [2, 4], [1, 5], [6], []] [13, 14, 15, 16, 17, 18, 19, 20, 6] (fun i_ vs_ v_ p_ => match i_ with | 0 => v_ = .pointer (some ⟨b1, 0 + 2, none⟩) ∧ p_ = [] | 1 => v_ = n.av ∧ p_ = [] | 2 => v_ = .int .i64 k ∧ p_ = [] | 3 => v_ = .agg #[.int .i64 n.ins, n.sv, n.av, n.ov] ∧ p_ = [] | 4 => v_ = .int .i64 n.fst ∧ p_ = [] | 5 => v_ = .int .i64 (k - n.fst) ∧ p_ = [] | 6 => v_ = elP n.av ((k - n.fst).toNat * 2) ∧ p_ = [] | 7 => v_ = .agg #[.int .i64 ((n.gs.getD ((k - n.fst).toNat) an0).a), .int .i64 ((n.gs.getD ((k - n.fst).toNat) an0).b)] ∧ p_ = [] | 8 => IsBox #[.int .i64 0, .int .i64 0] 126 v_ p_ | _ => True) (List.take_append_drop 9 _).symm (by kernel_rfl) (by kernel_rfl) rfl rfl ?_ ?_
 ·
  refine ⟨?_, ?_, ?_, ?_, ?_, ?_, ?_, ?_, ?_, trivial⟩
  ·
   intro vf pf hR
   exact ovQ rfl (zam [2] rfl) (zbg (fdQ 2 rfl rfl rfl))
  ·
   intro vf pf hR
   have e0 := hR 0 (by decide)
   exact olQ rfl (sk 13 (congrArg some e0.1) (zaf _)) (zbg (zad rfl rfl rfl (zaa 1 rfl rfl)))
  ·
   intro vf pf hR
   exact ovQ rfl (zam [1] rfl) (zbg (zas rfl))
  ·
   intro vf pf hR
   exact olQ rfl (zam [2] rfl) (zbg (zao (cs := [.int .i64 n.ins, n.sv, n.av, n.ov]) rfl rfl rfl rfl rfl (zaj 1 rfl 0 rfl)))
  ·
   intro vf pf hR
   have e3 := hR 3 (by decide)
   exact olQ rfl (sk 16 (congrArg some e3.1) (zaf _)) (zaq rfl rfl (fun w hm => zav (zcl n w (hr.below hm.bel) hn)))
  ·
   intro vf pf hR
   have e2 := hR 2 (by decide)
   have e4 := hR 4 (by decide)
   exact ovQ rfl (sk 15 (congrArg some e2.1) (sk 17 (congrArg some e4.1) (zaf _))) (zbg (vsQ rfl rfl rfl))
  ·
   intro vf pf hR
   have e1 := hR 1 (by decide)
   have e5 := hR 5 (by decide)
   exact olQ rfl (sk 14 (congrArg some e1.1) (sk 18 (congrArg some e5.1) (zaf _))) (zbg (riQ 2 rfl rfl rfl rfl (zab hr.an)))
  ·
   intro vf pf hR
   have e6 := hR 6 (by decide)
   exact olQ rfl (sk 19 (congrArg some e6.1) (zaf _)) (zbg (zbt (us := [.int .i64 ((n.gs.getD ((k - n.fst).toNat) an0).a), .int .i64 ((n.gs.getD ((k - n.fst).toNat) an0).b)]) rfl rfl rfl rfl (zab hr.an) (by omega) rfl (zcp anC 2 (fun _ => rfl) n.gs an0 (show (k - n.fst).toNat < _ by omega) rfl)))
  intro vf pf hR
  exact olQ rfl (zaf _) (zbx (z := .agg #[.int .i64 0, .int .i64 0]) rfl rfl)
 intro vf pf hR
 have e7 := hR 7 (by decide)
 have e8 : IsBox #[.int .i64 0, .int .i64 0] 126 (vf 8) (pf 8) := hR 8 (by decide)
 obtain ⟨b4, vE8, pE8⟩ := e8
 have q0 := hR 0 (by decide)
 have q1 := hR 1 (by decide)
 have q2 := hR 2 (by decide)
 have q3 := hR 3 (by decide)
 have q4 := hR 4 (by decide)
 have q5 := hR 5 (by decide)
 have q6 := hR 6 (by decide)
 have q7 := hR 7 (by decide)
 refine zco (zbk [5, 4, 2, 1, 0] _ (sk 6 (congrArg some vE8) (sk 11 rfl (sk 20 (congrArg some e7.1) (zaf _)))) rfl) (by simp only [pE8, vE8, q0.2, q1.2, q2.2, q3.2, q4.2, q5.2, q6.2, q7.2, fS] <;> rfl) ?_
 simp only [List.drop_succ_cons, List.drop_zero]
 refine zcc (cs' := #[.int .i64 ((n.gs.getD ((k - n.fst).toNat) an0).a), .int .i64 ((n.gs.getD ((k - n.fst).toNat) an0).b)]) (i := 0) (off := 0) (us := [.int .i64 ((n.gs.getD ((k - n.fst).toNat) an0).a), .int .i64 ((n.gs.getD ((k - n.fst).toNat) an0).b)]) rfl rfl rfl rfl rfl rfl rfl (zah rfl (zah rfl zbr)) rfl rfl rfl (ntQ (zeh (hvQ rfl (fdQ 0 rfl rfl rfl) (hvQ rfl (zad rfl rfl rfl (zaa 0 rfl rfl)) ?_))))
 refine zet rfl rfl rfl rfl rfl rfl (fun h5 => ?_) (fun h5 => ?_)
 ·
  refine ntQ (zak rfl (reQ 1 rfl (hvQ rfl (fdQ 0 rfl rfl rfl) (hvQ rfl (zad rfl rfl rfl (zaa 0 rfl rfl)) ?_))))
  refine hvQ rfl (zeu rfl rfl rfl (by refine ⟨?_, ?_, ?_⟩ <;> omega)) ?_
  refine zdk rfl (zat (z := .int .i64 0) (s := 1) (cs := ([((n.gs.getD ((k - n.fst).toNat) an0).a) / 2].map (Value.int .i64))) rfl Try.underlying28 rfl (by decide) rfl (by kernel_rfl) rfl) ?_
  intro g6
  refine zcd (i := 2) (z := .int .i64 0) (bytes := 8) (n' := ([((n.gs.getD ((k - n.fst).toNat) an0).a) / 2]).length) (xs' := (([((n.gs.getD ((k - n.fst).toNat) an0).a) / 2]).map (Value.int .i64))) rfl rfl rfl rfl Try.underlying28 (by kernel_rfl) rfl rfl rfl rfl (zae 0 rfl) (zbm _) (by first | omega | (simp; done) | (simp; omega)) (Nat.zero_add _) (List.nil_append _) (fun _ => rfl) ?_
  intro v7
  refine zaz 1 rfl (zeh (hvQ rfl (fdQ 1 rfl rfl rfl) (hvQ rfl (zad rfl rfl rfl (zaa 1 rfl rfl)) ?_)))
  refine zet rfl rfl rfl rfl rfl rfl (fun h8 => ?_) (fun h8 => ?_)
  ·
   refine ntQ (zak rfl (reQ 1 rfl (hvQ rfl (fdQ 1 rfl rfl rfl) (hvQ rfl (zad rfl rfl rfl (zaa 1 rfl rfl)) ?_))))
   refine hvQ rfl (zeu rfl rfl rfl (by refine ⟨?_, ?_, ?_⟩ <;> omega)) ?_
   refine zdk rfl (zat (z := .int .i64 0) (s := 1) (cs := ([((n.gs.getD ((k - n.fst).toNat) an0).b) / 2].map (Value.int .i64))) rfl Try.underlying28 rfl (by decide) rfl (by kernel_rfl) rfl) ?_
   intro g9
   refine zcd (i := 3) (z := .int .i64 0) (bytes := 8) rfl rfl rfl rfl Try.underlying28 (by kernel_rfl) rfl rfl rfl rfl (zae 0 rfl) (zbm _) (by first | omega | (simp; done) | (simp; omega)) (zbv ([((n.gs.getD ((k - n.fst).toNat) an0).a) / 2]) ([((n.gs.getD ((k - n.fst).toNat) an0).b) / 2])) (zcm ([((n.gs.getD ((k - n.fst).toNat) an0).a) / 2]) ([((n.gs.getD ((k - n.fst).toNat) an0).b) / 2])) (fun _ => rfl) ?_
   intro v10
   refine zaz 1 rfl (zbd 2 rfl ?_)
   exact zau (zck (post := [rowE 3 1 v10 ((([((n.gs.getD ((k - n.fst).toNat) an0).a) / 2]) ++ ([((n.gs.getD ((k - n.fst).toNat) an0).b) / 2])).length) ((([((n.gs.getD ((k - n.fst).toNat) an0).a) / 2]) ++ ([((n.gs.getD ((k - n.fst).toNat) an0).b) / 2])).map (Value.int .i64))]) rfl rfl (slQ [3] rfl) ⟨([((n.gs.getD ((k - n.fst).toNat) an0).a) / 2]) ++ ([((n.gs.getD ((k - n.fst).toNat) an0).b) / 2]), rfl, by simp, (by have h9 := zjk (zjk (k := k) znc (x := ((n.gs.getD ((k - n.fst).toNat) an0).a) / 2) (by omega)) (x := ((n.gs.getD ((k - n.fst).toNat) an0).b) / 2) (by omega); simpa using h9)⟩)
  refine ntQ (zal rfl (zcq (zbd 2 rfl ?_)))
  exact zau (zck (post := [rowE 3 1 v7 (([((n.gs.getD ((k - n.fst).toNat) an0).a) / 2]).length) (([((n.gs.getD ((k - n.fst).toNat) an0).a) / 2]).map (Value.int .i64))]) rfl rfl (slQ [2] rfl) ⟨[((n.gs.getD ((k - n.fst).toNat) an0).a) / 2], rfl, by simp, (by have h9 := zjk (k := k) znc (x := ((n.gs.getD ((k - n.fst).toNat) an0).a) / 2) (by omega); simpa using h9)⟩)
 refine ntQ (zal rfl (zcq (zeh (hvQ rfl (fdQ 1 rfl rfl rfl) (hvQ rfl (zad rfl rfl rfl (zaa 0 rfl rfl)) ?_)))))
 refine zet rfl rfl rfl rfl rfl rfl (fun h11 => ?_) (fun h11 => ?_)
 ·
  refine ntQ (zak rfl (reQ 1 rfl (hvQ rfl (fdQ 1 rfl rfl rfl) (hvQ rfl (zad rfl rfl rfl (zaa 0 rfl rfl)) ?_))))
  refine hvQ rfl (zeu rfl rfl rfl (by refine ⟨?_, ?_, ?_⟩ <;> omega)) ?_
  refine zdk rfl (zat (z := .int .i64 0) (s := 1) (cs := ([((n.gs.getD ((k - n.fst).toNat) an0).b) / 2].map (Value.int .i64))) rfl Try.underlying28 rfl (by decide) rfl (by kernel_rfl) rfl) ?_
  intro g12
  refine zcd (i := 2) (z := .int .i64 0) (bytes := 8) (n' := ([((n.gs.getD ((k - n.fst).toNat) an0).b) / 2]).length) (xs' := (([((n.gs.getD ((k - n.fst).toNat) an0).b) / 2]).map (Value.int .i64))) rfl rfl rfl rfl Try.underlying28 (by kernel_rfl) rfl rfl rfl rfl (zae 0 rfl) (zbm _) (by first | omega | (simp; done) | (simp; omega)) (Nat.zero_add _) (List.nil_append _) (fun _ => rfl) ?_
  intro v13
  refine zaz 1 rfl (zbd 2 rfl ?_)
  exact zau (zck (post := [rowE 3 1 v13 (([((n.gs.getD ((k - n.fst).toNat) an0).b) / 2]).length) (([((n.gs.getD ((k - n.fst).toNat) an0).b) / 2]).map (Value.int .i64))]) rfl rfl (slQ [2] rfl) ⟨[((n.gs.getD ((k - n.fst).toNat) an0).b) / 2], rfl, by simp, (by have h9 := zjk (k := k) znc (x := ((n.gs.getD ((k - n.fst).toNat) an0).b) / 2) (by omega); simpa using h9)⟩)
 refine ntQ (zal rfl (zcq (zbd 2 rfl ?_)))
 exact zau (zck (post := [rowE 3 1 (.slice (some ⟨g2, 0, none⟩) 0 0) 0 ([])]) rfl rfl (slQ [1] rfl) ⟨[], rfl, by simp, znc⟩)
theorem zsa (n : Nt) (us ds : List Bl) (ab : List Int) (uv dv av : Value) (w : World) (hr : RdsNt w n) (hn : NtOk n) (hu : RdsW w uv 1 us.length (us.flatMap blC)) (hul : (us.length : Int) = n.cnt) (hd : RdsW w dv 1 ds.length (ds.flatMap blC)) (hdl : (ds.length : Int) = n.cnt) (ha : RdsW w av 1 ab.length (ab.map (Value.int .i64))) (hab : AbOk n.cnt ab) :
   Calls Try.prog 126 #[.agg #[.int .i64 n.ins, n.sv, n.av, n.ov], uv, dv, av] w (Ret w (fun u_ p_ => ∃ (bs : List Int) (v1 : Value) (at_ : Int), u_ = .tuple #[v1, .int .i64 at_] ∧ p_ = [rowE 3 1 v1 bs.length (bs.map (Value.int .i64))] ∧ BackOk (2 * n.cnt.toNat) bs ∧ -1 ≤ at_ ∧ at_ < 2 * n.cnt)) := by
 have hi0 := hn.i0
 have hi1 := hn.i1
 have hs1 := hn.s1
 have ha1 := hn.a1
 have ho1 := hn.o1
 have hcnt : n.cnt = 1 + n.ins + n.ss.length + n.gs.length := rfl
 have hfst : n.fst = 1 + n.ins + n.ss.length := rfl
 have hab1 := hab.1
 refine zbf (N := 199) (args := [.agg #[.int .i64 n.ins, n.sv, n.av, n.ov], uv, dv, av]) Try.func126 rfl rfl (srQ ?_)
 refine zdj rfl (zch rfl rfl) ?_
 intro b1
 refine zaz 2 rfl (srQ ?_)
 refine zdk rfl (zbz (s := 1) rfl Try.underlying28 rfl) ?_
 intro g2
 refine zaz 1 rfl (srQ ?_)
 refine zdk rfl (zbz (s := 1) rfl Try.underlying28 rfl) ?_
 intro g3
 refine zaz 1 rfl (zac (zbd 1 rfl (zax ?_)))
 refine zhy (α := Nat) (β := Value) [0, 1, 2, 3, 4, 8, 9, 11] rfl (fun k bv => [rowE 3 1 (.slice (some ⟨g3, 0, none⟩) 0 0) 0 ([]), rowE 3 1 bv ((List.replicate k (-2 : Int)).length) ((List.replicate k (-2 : Int)).map (Value.int .i64)), boxE b1 #[.int .i64 n.ins, n.sv, n.av, n.ov] 86]) (fun k bv => [(10, bv), (12, .int .i64 (k : Int))]) (fun k bv => k ≤ (2 * n.cnt.toNat)) (fun k bv => (2 * n.cnt.toNat) - k) 0 _ (Nat.zero_le _) (saQ rfl) (pfQ rfl) ?_
 intro k bv hi4
 have hk := hi4
 have hrk : (List.replicate k (-2 : Int)).length = k := List.length_replicate
 refine zac (zac (reQ 1 rfl (hvQ rfl (zao (cs := [.int .i64 n.ins, n.sv, n.av, n.ov]) rfl rfl rfl rfl rfl (zaj 2 rfl 0 rfl)) ?_)))
 refine zds rfl (zaq rfl rfl (fun w hm => zav (zcb n w (hr.below hm.bel) hn))) (hvQ rfl (zew rfl rfl rfl (by constructor <;> omega)) ?_)
 refine zbj rfl rfl rfl rfl rfl rfl (fun h5 => ?_) (fun h5 => ?_)
 ·
  refine ntQ (zak rfl (zcq (sbQ (reQ 1 rfl ?_))))
  refine zdk rfl (zat (z := .int .i64 0) (s := 1) (cs := ([-2].map (Value.int .i64))) rfl Try.underlying28 rfl (by decide) rfl (by kernel_rfl) rfl) ?_
  intro g6
  refine zcd (i := 2) (z := .int .i64 0) (bytes := 8) rfl rfl rfl rfl Try.underlying28 (by kernel_rfl) rfl rfl rfl rfl (zae 0 rfl) (zbm _) (by first | omega | (simp; done) | (simp; omega)) (zbv (List.replicate k (-2 : Int)) ([-2])) (zcm (List.replicate k (-2 : Int)) ([-2])) (fun _ => rfl) ?_
  intro v7
  refine enQ 1 rfl (zcv (reQ 1 rfl (hvQ rfl (vaQ rfl rfl rfl) (enQ 1 rfl ?_))))
  exact zwq (l' := [rowE 3 1 (.slice (some ⟨g6, 0, none⟩) 1 1) 1 ([-2].map (Value.int .i64)), rowE 3 1 (.slice (some ⟨g3, 0, none⟩) 0 0) 0 ([]), rowE 3 1 v7 ((List.replicate (k + 1) (-2 : Int)).length) ((List.replicate (k + 1) (-2 : Int)).map (Value.int .i64)), boxE b1 #[.int .i64 n.ins, n.sv, n.av, n.ov] 86]) (by rw [List.replicate_succ']) (zbq (k + 1) v7 (by omega) (by omega) (saQ rfl) (slQ [1, 0, 0] rfl))
 refine ntQ (zal rfl ?_)
 refine zba (zdq ?_)
 refine zag (zaw (zac (zbd 1 rfl (zax ?_))))
 have hkf : k = (2 * n.cnt.toNat) := by omega
 subst hkf
 refine zrs (α := Nat) (β := List Int) (γ := List Int) (δ := Value) [0, 1, 2, 3, 4, 8, 9, 10, 28] rfl (fun k2 bs qs qv => [rowE 3 1 qv qs.length (qs.map (Value.int .i64)), rowE 3 1 bv bs.length (bs.map (Value.int .i64)), boxE b1 #[.int .i64 n.ins, n.sv, n.av, n.ov] 86]) (fun k2 bs qs qv => [(11, qv), (13, .int .i64 (k2 : Int))]) (fun k2 bs qs qv => (k2 : Int) ≤ n.cnt ∧ Srch (2 * n.cnt.toNat) bs qs) (fun k2 bs qs qv => n.cnt.toNat - k2) 0 _ [] _ ⟨by omega, Srch.start _⟩ (saQ rfl) (pfQ rfl) ?_
 intro k2 bs qs qv hi8
 obtain ⟨hk2, hsr⟩ := hi8
 have hbl := hsr.len
 have hql := hsr.qlen
 refine zac (zac (reQ 1 rfl (hvQ rfl (zao (cs := [.int .i64 n.ins, n.sv, n.av, n.ov]) rfl rfl rfl rfl rfl (zaj 2 rfl 0 rfl)) ?_)))
 refine zds rfl (zaq rfl rfl (fun w hm => zav (zcb n w (hr.below hm.bel) hn))) (zbj rfl rfl rfl rfl rfl rfl (fun h9 => ?_) (fun h9 => ?_))
 ·
  refine ntQ (zak rfl (zcq (sbQ (srQ (hvQ rfl (zao (cs := [.int .i64 n.ins, n.sv, n.av, n.ov]) rfl rfl rfl rfl rfl (zaj 2 rfl 0 rfl)) (zap 1 rfl ?_))))))
  refine zfg rfl rfl rfl (zaq rfl rfl (fun w hm => zuj n (k2 : Int) w (hr.below hm.bel) hn (by omega))) ?_
  intro v10 p11 hR12
  obtain ⟨fs, rfl, hfl, hfr⟩ := hR12
  refine zaz 1 rfl (zbd 1 rfl (zax ?_))
  refine zrs (α := Nat) (β := List Int) (γ := List Int) (δ := Value) [0, 1, 2, 3, 4, 8, 9, 10, 13, 14, 28, 37] rfl (fun i bs2 qs2 qv2 => [rowE 3 1 v10 fs.length (fs.map (Value.int .i64)), rowE 3 1 qv2 qs2.length (qs2.map (Value.int .i64)), rowE 3 1 bv bs2.length (bs2.map (Value.int .i64)), boxE b1 #[.int .i64 n.ins, n.sv, n.av, n.ov] 86]) (fun i bs2 qs2 qv2 => [(11, qv2), (15, .int .i64 (i : Int))]) (fun i bs2 qs2 qv2 => i ≤ fs.length ∧ Srch (2 * n.cnt.toNat) bs2 qs2) (fun i bs2 qs2 qv2 => fs.length - i) 0 bs qs _ ⟨Nat.zero_le _, hsr⟩ (saQ rfl) (pfQ rfl) ?_
  intro i bs2 qs2 qv2 hi13
  obtain ⟨hi, hsr2⟩ := hi13
  have hbl2 := hsr2.len
  have hql2 := hsr2.qlen
  refine zac (zac (reQ 2 rfl (hvQ rfl (lnQ rfl rfl rfl (zae 0 rfl)) ?_)))
  refine zbj rfl rfl rfl rfl rfl rfl (fun h14 => ?_) (fun h14 => ?_)
  ·
   refine zap 3 rfl (hvQ rfl (riQ 1 rfl rfl rfl rfl (zab hu)) ?_)
   refine hvQ rfl (zar (u := .bool ((us.getD k2 bl0).b)) rfl rfl rfl (zab hu) (zcu blC (fun r => .bool r.b) (fun _ => rfl) us bl0 (show k2 < _ by omega))) (zca (fun h15 => ?_) (fun h15 => ?_))
   ·
    refine zaz 1 rfl (zak rfl (zcq (sbQ (srQ ?_))))
    have hfi := hfr _ (zbl (d := (0 : Int)) (show i < fs.length by omega))
    refine zap 3 rfl (hvQ rfl (riQ 1 rfl rfl rfl rfl (zae 0 rfl)) (hvQ rfl (liQ rfl rfl rfl (zae 0 rfl)) (hvQ rfl (riQ 1 rfl rfl rfl rfl (zab hu)) ?_)))
    refine hvQ rfl (zar (u := .bool ((us.getD ((fs.getD i 0).toNat) bl0).b)) rfl rfl rfl (zab hu) (zcu blC (fun r => .bool r.b) (fun _ => rfl) us bl0 (show (fs.getD i 0).toNat < _ by omega))) (zca (fun h16 => ?_) (fun h16 => ?_))
    ·
     refine zaz 12 rfl (fsQ rfl (zcs ?_))
     refine zaw (reQ 1 rfl (hvQ rfl (vaQ rfl rfl rfl) (enQ 1 rfl ?_)))
     exact zct (i + 1) bs2 qs2 qv2 ⟨by omega, hsr2⟩ (by omega) (saQ rfl) (pfQ rfl)
    refine zap 5 rfl (hvQ rfl (riQ 1 rfl rfl rfl rfl (zae 0 rfl)) (hvQ rfl (liQ rfl rfl rfl (zae 0 rfl)) (hvQ rfl (zew rfl rfl rfl (by constructor <;> omega)) (hvQ rfl (riQ 1 rfl rfl rfl rfl (zae 2 rfl)) (hvQ rfl (lzQ rfl rfl rfl (zae 2 rfl)) ?_)))))
    refine zbp rfl rfl rfl rfl rfl rfl (fun h17 => ?_) (fun h17 => ?_)
    ·
     refine zaz 1 rfl (zak rfl (zac (reQ 3 rfl (hvQ rfl (riQ 1 rfl rfl rfl rfl (zae 0 rfl)) (hvQ rfl (liQ rfl rfl rfl (zae 0 rfl)) (hvQ rfl (zew rfl rfl rfl (by constructor <;> omega)) (hvQ rfl (riQ 1 rfl rfl rfl rfl (zae 2 rfl)) ?_)))))))
     refine zda (i := 2) (n' := (bs2.set ((2 * (fs.getD i 0)).toNat) (-1)).length) (xs' := ((bs2.set ((2 * (fs.getD i 0)).toNat) (-1)).map (Value.int .i64))) rfl rfl rfl rfl rfl rfl rfl rfl (by first | omega | (simp only [List.length_set]; omega)) List.length_set.symm (zdd _ _ _) rfl (ntQ (reQ 3 rfl (hvQ rfl (riQ 1 rfl rfl rfl rfl (zae 0 rfl)) (hvQ rfl (liQ rfl rfl rfl (zae 0 rfl)) (hvQ rfl (zew rfl rfl rfl (by constructor <;> omega)) ?_)))))
     refine zdk rfl (zat (z := .int .i64 0) (s := 1) (cs := ([2 * (fs.getD i 0)].map (Value.int .i64))) rfl Try.underlying28 rfl (by decide) rfl (by kernel_rfl) rfl) ?_
     intro g18
     refine zcd (i := 2) (z := .int .i64 0) (bytes := 8) rfl rfl rfl rfl Try.underlying28 (by kernel_rfl) rfl rfl rfl rfl (zae 0 rfl) (zbm _) (by first | omega | (simp; done) | (simp; omega)) (zbv qs2 ([2 * (fs.getD i 0)])) (zcm qs2 ([2 * (fs.getD i 0)])) (fun _ => rfl) ?_
     intro v19
     refine enQ 1 rfl (zcv (reQ 1 rfl (hvQ rfl (vaQ rfl rfl rfl) (enQ 1 rfl ?_))))
     exact zct (i + 1) (bs2.set ((2 * (fs.getD i 0)).toNat) (-1)) (qs2 ++ ([2 * (fs.getD i 0)])) v19 ⟨by omega, (hsr2.put (by omega) (by assumption) (.inl rfl))⟩ (by omega) (saQ rfl) (slQ [1, 0, 0, 0] rfl)
    refine zaz 1 rfl (fsQ rfl (zcv (reQ 1 rfl (hvQ rfl (vaQ rfl rfl rfl) (enQ 1 rfl ?_)))))
    exact zct (i + 1) bs2 qs2 qv2 ⟨by omega, hsr2⟩ (by omega) (saQ rfl) (pfQ rfl)
   refine zaz 1 rfl (zal rfl ?_)
   refine zba (zdq ?_)
   refine zag (zcv (reQ 1 rfl (hvQ rfl (vaQ rfl rfl rfl) (enQ 1 rfl ?_))))
   exact zct (k2 + 1) bs2 qs2 qv2 ⟨by omega, hsr2⟩ (by omega) (saQ rfl) (slQ [1, 0, 0] rfl)
  refine zaz 6 rfl (zal rfl ?_)
  refine zba (zdq ?_)
  refine zag (zcv (reQ 1 rfl (hvQ rfl (vaQ rfl rfl rfl) (enQ 1 rfl ?_))))
  exact zct (k2 + 1) bs2 qs2 qv2 ⟨by omega, hsr2⟩ (by omega) (saQ rfl) (slQ [1, 0, 0] rfl)
 refine ntQ (zal rfl ?_)
 refine zba (zdq ?_)
 refine zag (zaw (zac (zbd 1 rfl (zax ?_))))
 refine zrs (α := Nat) (β := List Int) (γ := List Int) (δ := Value) [0, 1, 2, 3, 4, 8, 9, 10, 28, 37] rfl (fun q bs3 qs3 qv3 => [rowE 3 1 qv3 qs3.length (qs3.map (Value.int .i64)), rowE 3 1 bv bs3.length (bs3.map (Value.int .i64)), boxE b1 #[.int .i64 n.ins, n.sv, n.av, n.ov] 86]) (fun q bs3 qs3 qv3 => [(11, qv3), (16, .int .i64 (q : Int))]) (fun q bs3 qs3 qv3 => q ≤ qs3.length ∧ Srch (2 * n.cnt.toNat) bs3 qs3) (fun q bs3 qs3 qv3 => (2 * n.cnt.toNat) - q) 0 bs qs _ ⟨Nat.zero_le _, hsr⟩ (saQ rfl) (pfQ rfl) ?_
 intro q bs3 qs3 qv3 hi20
 obtain ⟨hq, hsr3⟩ := hi20
 have hbl3 := hsr3.len
 have hql3 := hsr3.qlen
 refine zac (zac (reQ 2 rfl (hvQ rfl (lnQ rfl rfl rfl (zae 0 rfl)) ?_)))
 refine zbj rfl rfl rfl rfl rfl rfl (fun h21 => ?_) (fun h21 => ?_)
 ·
  refine ntQ (zak rfl (zcq (sbQ (zac (reQ 2 rfl (hvQ rfl (riQ 1 rfl rfl rfl rfl (zae 0 rfl)) ?_))))))
  have hq3 := hsr3.at (q := q) (by omega)
  refine hvQ rfl (liQ rfl rfl rfl (zae 0 rfl)) (hvQ rfl (zeu rfl rfl rfl (by refine ⟨?_, ?_, ?_⟩ <;> omega)) ?_)
  refine zaz 1 rfl (srQ ?_)
  refine zdk rfl (zbz (s := 1) rfl Try.underlying28 rfl) ?_
  intro g22
  refine zaz 1 rfl ?_
  refine zhh (α := Value) (β := List Int) (fun nv ns => [rowE 3 1 nv ns.length (ns.map (Value.int .i64)), rowE 3 1 qv3 qs3.length (qs3.map (Value.int .i64)), rowE 3 1 bv bs3.length (bs3.map (Value.int .i64)), boxE b1 #[.int .i64 n.ins, n.sv, n.av, n.ov] 86]) (fun nv ns => [(0, .agg #[.int .i64 n.ins, n.sv, n.av, n.ov]), (1, uv), (2, dv), (3, av), (4, .pointer (some ⟨b1, 0, none⟩)), (8, .slice none 0 0), (9, .int .i64 0), (10, bv), (11, qv3), (16, .int .i64 (q : Int)), (17, .int .i64 ((qs3.getD q 0) / 2)), (18, nv), (28, .bool false), (37, .bool false), (92, .bool true)]) (fun nv ns => NxOk (2 * n.cnt.toNat) ns ∧ ns.length ≤ 3) ?_ ?_
  ·
   refine zac (reQ 2 rfl (hvQ rfl (riQ 1 rfl rfl rfl rfl (zae 1 rfl)) (hvQ rfl (liQ rfl rfl rfl (zae 1 rfl)) (hvQ rfl (zhl rfl rfl rfl (by constructor <;> omega)) ?_))))
   refine zbp rfl rfl rfl rfl rfl rfl (fun h23 => ?_) (fun h23 => ?_)
   ·
    refine ntQ (zak rfl (zac (reQ 2 rfl (hvQ rfl (riQ 1 rfl rfl rfl rfl (zab hd)) ?_))))
    refine hvQ rfl (zar (u := .bool ((ds.getD (((qs3.getD q 0) / 2).toNat) bl0).b)) rfl rfl rfl (zab hd) (zcu blC (fun r => .bool r.b) (fun _ => rfl) ds bl0 (show ((qs3.getD q 0) / 2).toNat < _ by omega))) (zca (fun h24 => ?_) (fun h24 => ?_))
    ·
     refine zaz 1 rfl (zal rfl (srQ ?_))
     have habk := hab.2 ((qs3.getD q 0) / 2).toNat (by omega)
     refine zap 2 rfl (hvQ rfl (riQ 1 rfl rfl rfl rfl (zab ha)) (hvQ rfl (lzQ rfl rfl rfl (zab ha)) ?_))
     refine zdi rfl rfl rfl rfl rfl rfl (fun h25 => ?_) (fun h25 => ?_)
     ·
      refine ntQ (zak rfl (reQ 3 rfl (hvQ rfl (riQ 1 rfl rfl rfl rfl (zab ha)) (hvQ rfl (lzQ rfl rfl rfl (zab ha)) (hvQ rfl (zew rfl rfl rfl (by constructor <;> omega)) (hvQ rfl (vaQ rfl rfl rfl) ?_))))))
      refine zdk rfl (zat (z := .int .i64 0) (s := 1) (cs := ([(2 * (ab.getD (((qs3.getD q 0) / 2).toNat) 0)) + 1].map (Value.int .i64))) rfl Try.underlying28 rfl (by decide) rfl (by kernel_rfl) rfl) ?_
      intro g26
      refine zcd (i := 1) (z := .int .i64 0) (bytes := 8) (n' := ([(2 * (ab.getD (((qs3.getD q 0) / 2).toNat) 0)) + 1]).length) (xs' := (([(2 * (ab.getD (((qs3.getD q 0) / 2).toNat) 0)) + 1]).map (Value.int .i64))) rfl rfl rfl rfl Try.underlying28 (by kernel_rfl) rfl rfl rfl rfl (zae 0 rfl) (zbm _) (by first | omega | (simp; done) | (simp; omega)) (Nat.zero_add _) (List.nil_append _) (fun _ => rfl) ?_
      intro v27
      refine enQ 1 rfl ?_
      exact zdv v27 ([(2 * (ab.getD (((qs3.getD q 0) / 2).toNat) 0)) + 1]) ⟨(by have h9 := (NxOk.nil (2 * n.cnt.toNat)).app (x := (2 * (ab.getD (((qs3.getD q 0) / 2).toNat) 0)) + 1) (by omega); simpa using h9), (by simp)⟩ (saQ rfl) (slQ [1, 0, 0, 0] rfl)
     refine ntQ (fsQ rfl ?_)
     exact zdv (.slice (some ⟨g22, 0, none⟩) 0 0) ([]) ⟨NxOk.nil _, (by simp)⟩ (saQ rfl) (pfQ rfl)
    refine zaz 1 rfl (zak rfl (reQ 2 rfl (hvQ rfl (zew rfl rfl rfl (by constructor <;> omega)) (hvQ rfl (vaQ rfl rfl rfl) ?_))))
    refine zdk rfl (zat (z := .int .i64 0) (s := 1) (cs := ([(2 * ((qs3.getD q 0) / 2)) + 1].map (Value.int .i64))) rfl Try.underlying28 rfl (by decide) rfl (by kernel_rfl) rfl) ?_
    intro g28
    refine zcd (i := 1) (z := .int .i64 0) (bytes := 8) (n' := ([(2 * ((qs3.getD q 0) / 2)) + 1]).length) (xs' := (([(2 * ((qs3.getD q 0) / 2)) + 1]).map (Value.int .i64))) rfl rfl rfl rfl Try.underlying28 (by kernel_rfl) rfl rfl rfl rfl (zae 0 rfl) (zbm _) (by first | omega | (simp; done) | (simp; omega)) (Nat.zero_add _) (List.nil_append _) (fun _ => rfl) ?_
    intro v29
    refine enQ 1 rfl ?_
    exact zdv v29 ([(2 * ((qs3.getD q 0) / 2)) + 1]) ⟨(by have h9 := (NxOk.nil (2 * n.cnt.toNat)).app (x := (2 * ((qs3.getD q 0) / 2)) + 1) (by omega); simpa using h9), (by simp)⟩ (saQ rfl) (slQ [1, 0, 0, 0] rfl)
   refine ntQ (zal rfl (zac (zac (reQ 1 rfl (hvQ rfl (zao (cs := [.int .i64 n.ins, n.sv, n.av, n.ov]) rfl rfl rfl rfl rfl (zaj 3 rfl 0 rfl)) ?_)))))
   refine zds rfl (zaq rfl rfl (fun w hm => zav (zcl n w (hr.below hm.bel) hn))) (zbj rfl rfl rfl rfl rfl rfl (fun h30 => ?_) (fun h30 => ?_))
   ·
    refine ntQ (zak rfl (zac (zmf _ [135, 106, 92, 37, 28, 18, 17, 16, 11, 10, 9, 4, 3, 2, 1, 0] rfl ?_)))
    refine zby 6 [[], [], [], [1, 2], [3], [0]] [136, 137, 138, 139, 140, 8] [bv, qv3, .int .i64 (q : Int), elP qv3 (((q : Int)).toNat * 1), .int .i64 (qs3.getD q 0), bv] (by kernel_rfl) rfl ?_ ?_
    ·
     exact ⟨iaQ rfl (zas rfl) rfl, iaQ rfl (zas rfl) rfl, iaQ rfl (zas rfl) rfl, iaQ rfl (riQ 1 rfl rfl rfl rfl (zae 1 rfl)) rfl, iaQ rfl (liQ rfl rfl rfl (zae 1 rfl)) rfl, iaQ rfl (zas rfl) rfl, trivial⟩
    simp only [List.drop_succ_cons, List.drop_zero]
    refine zaz 1 rfl ?_
    refine zau (zge ?_)
    refine zan (zge ?_)
    refine zan (zai ?_)
    exact zdm (rs := [.tmp 8, .tmp 9]) (vs := [bv, .int .i64 (qs3.getD q 0)]) (post := [rowE 3 1 bv bs3.length (bs3.map (Value.int .i64))]) rfl ⟨rfl, rfl, trivial⟩ rfl (slQ [2] rfl) ⟨bs3, _, _, rfl, rfl, hsr3.back, by omega, by omega⟩
   refine ntQ (zal rfl (zcq (srQ (hvQ rfl (zao (cs := [.int .i64 n.ins, n.sv, n.av, n.ov]) rfl rfl rfl rfl rfl (zaj 3 rfl 0 rfl)) (zap 1 rfl ?_)))))
   refine zfg rfl rfl rfl (zaq rfl rfl (fun w hm => zuj n ((qs3.getD q 0) / 2) w (hr.below hm.bel) hn (by omega))) ?_
   intro v31 p32 hR33
   obtain ⟨fs, rfl, hfl, hfr⟩ := hR33
   refine zaz 1 rfl (zac (zbd 1 rfl (zax ?_)))
   refine zgn (α := Nat) (β := Value) (γ := List Int) [0, 1, 2, 3, 4, 8, 9, 10, 11, 16, 17, 19, 28, 37, 92, 106, 135] rfl (fun i5 nv ns => [rowE 3 1 v31 fs.length (fs.map (Value.int .i64)), rowE 3 1 nv ns.length (ns.map (Value.int .i64)), rowE 3 1 qv3 qs3.length (qs3.map (Value.int .i64)), rowE 3 1 bv bs3.length (bs3.map (Value.int .i64)), boxE b1 #[.int .i64 n.ins, n.sv, n.av, n.ov] 86]) (fun i5 nv ns => [(18, nv), (20, .int .i64 (i5 : Int))]) (fun i5 nv ns => i5 ≤ fs.length ∧ NxOk (2 * n.cnt.toNat) ns ∧ ns.length ≤ i5) (fun i5 nv ns => fs.length - i5) 0 _ [] ⟨Nat.zero_le _, NxOk.nil _, by simp⟩ (saQ rfl) (pfQ rfl) ?_
   intro i5 nv ns hi34
   obtain ⟨hi5, hnx, hnl⟩ := hi34
   refine zac (zac (reQ 2 rfl (hvQ rfl (lnQ rfl rfl rfl (zae 0 rfl)) ?_)))
   refine zbj rfl rfl rfl rfl rfl rfl (fun h35 => ?_) (fun h35 => ?_)
   ·
    refine ntQ (zak rfl (zcq (sbQ (zay ?_))))
    have hfi := hfr _ (zbl (d := (0 : Int)) (show i5 < fs.length by omega))
    refine zap 3 rfl (hvQ rfl (riQ 1 rfl rfl rfl rfl (zae 0 rfl)) (hvQ rfl (liQ rfl rfl rfl (zae 0 rfl)) (hvQ rfl (zew rfl rfl rfl (by constructor <;> omega)) ?_)))
    refine zdk rfl (zat (z := .int .i64 0) (s := 1) (cs := ([2 * (fs.getD i5 0)].map (Value.int .i64))) rfl Try.underlying28 rfl (by decide) rfl (by kernel_rfl) rfl) ?_
    intro g36
    refine zcd (i := 2) (z := .int .i64 0) (bytes := 8) rfl rfl rfl rfl Try.underlying28 (by kernel_rfl) rfl rfl rfl rfl (zae 0 rfl) (zbm _) (by first | omega | (simp; done) | (simp; omega)) (zbv ns ([2 * (fs.getD i5 0)])) (zcm ns ([2 * (fs.getD i5 0)])) (fun _ => rfl) ?_
    intro v37
    refine enQ 1 rfl (zcv (reQ 1 rfl (hvQ rfl (vaQ rfl rfl rfl) (enQ 1 rfl ?_))))
    exact zbi (i5 + 1) v37 (ns ++ ([2 * (fs.getD i5 0)])) ⟨by omega, hnx.app (by omega), by rw [List.length_append, List.length_singleton]; omega⟩ (by omega) (saQ rfl) (slQ [1, 0, 0, 0, 0] rfl)
   refine ntQ (zal rfl ?_)
   refine zba (zdq ?_)
   refine zag (zaw (zac (reQ 2 rfl (hvQ rfl (riQ 1 rfl rfl rfl rfl (zab hd)) ?_))))
   refine hvQ rfl (zar (u := .bool ((ds.getD (((qs3.getD q 0) / 2).toNat) bl0).b)) rfl rfl rfl (zab hd) (zcu blC (fun r => .bool r.b) (fun _ => rfl) ds bl0 (show ((qs3.getD q 0) / 2).toNat < _ by omega))) (zca (fun h38 => ?_) (fun h38 => ?_))
   ·
    refine ntQ (zak rfl (reQ 2 rfl (hvQ rfl (zew rfl rfl rfl (by constructor <;> omega)) ?_)))
    refine zdk rfl (zat (z := .int .i64 0) (s := 1) (cs := ([2 * ((qs3.getD q 0) / 2)].map (Value.int .i64))) rfl Try.underlying28 rfl (by decide) rfl (by kernel_rfl) rfl) ?_
    intro g39
    refine zcd (i := 2) (z := .int .i64 0) (bytes := 8) rfl rfl rfl rfl Try.underlying28 (by kernel_rfl) rfl rfl rfl rfl (zae 0 rfl) (zbm _) (by first | omega | (simp; done) | (simp; omega)) (zbv ns ([2 * ((qs3.getD q 0) / 2)])) (zcm ns ([2 * ((qs3.getD q 0) / 2)])) (fun _ => rfl) ?_
    intro v40
    refine enQ 1 rfl ?_
    exact zdv v40 (ns ++ ([2 * ((qs3.getD q 0) / 2)])) ⟨hnx.app (by omega), (by rw [List.length_append, List.length_singleton]; omega)⟩ (saQ rfl) (slQ [2, 0, 0, 0] rfl)
   refine ntQ (fsQ rfl ?_)
   exact zdv nv ns ⟨hnx, (by omega)⟩ (saQ rfl) (slQ [1, 0, 0, 0] rfl)
  intro nv ns hm41
  obtain ⟨hnx, hnl⟩ := hm41
  refine zbd 1 rfl (zax ?_)
  refine zrs (α := Nat) (β := List Int) (γ := List Int) (δ := Value) [0, 1, 2, 3, 4, 8, 9, 10, 16, 17, 18, 28, 37, 92] rfl (fun i6 bs4 qs4 qv4 => [rowE 3 1 nv ns.length (ns.map (Value.int .i64)), rowE 3 1 qv4 qs4.length (qs4.map (Value.int .i64)), rowE 3 1 bv bs4.length (bs4.map (Value.int .i64)), boxE b1 #[.int .i64 n.ins, n.sv, n.av, n.ov] 86]) (fun i6 bs4 qs4 qv4 => [(11, qv4), (21, .int .i64 (i6 : Int))]) (fun i6 bs4 qs4 qv4 => i6 ≤ ns.length ∧ Srch (2 * n.cnt.toNat) bs4 qs4 ∧ q < qs4.length ∧ qs4.getD q 0 = (qs3.getD q 0)) (fun i6 bs4 qs4 qv4 => ns.length - i6) 0 bs3 qs3 _ ⟨Nat.zero_le _, hsr3, by omega, rfl⟩ (saQ rfl) (pfQ rfl) ?_
  intro i6 bs4 qs4 qv4 hi42
  obtain ⟨hi6, hsr4, hq4, hqe⟩ := hi42
  have hbl4 := hsr4.len
  have hql4 := hsr4.qlen
  have hqm : qs4.getD q 0 ∈ qs4 := zbl hq4
  refine zac (zac (reQ 2 rfl (hvQ rfl (lnQ rfl rfl rfl (zae 0 rfl)) ?_)))
  refine zbj rfl rfl rfl rfl rfl rfl (fun h43 => ?_) (fun h43 => ?_)
  ·
   refine ntQ (zak rfl (zcq (sbQ (srQ ?_))))
   have hni := hnx.at (k := i6) (by omega)
   refine zap 3 rfl (hvQ rfl (riQ 1 rfl rfl rfl rfl (zae 0 rfl)) (hvQ rfl (liQ rfl rfl rfl (zae 0 rfl)) (hvQ rfl (riQ 1 rfl rfl rfl rfl (zae 2 rfl)) (hvQ rfl (lzQ rfl rfl rfl (zae 2 rfl)) ?_))))
   refine zbp rfl rfl rfl rfl rfl rfl (fun h44 => ?_) (fun h44 => ?_)
   ·
    refine ntQ (zak rfl (zac ?_))
    refine zby 10 [[], [], [], [1, 2], [3], [], [], [5, 6], [7], [0, 4]] [181, 182, 183, 184, 185, 186, 187, 188, 189, 190] [bv, nv, .int .i64 (i6 : Int), elP nv (((i6 : Int)).toNat * 1), .int .i64 (ns.getD i6 0), qv4, .int .i64 (q : Int), elP qv4 (((q : Int)).toNat * 1), .int .i64 (qs4.getD q 0), elP bv ((ns.getD i6 0).toNat * 1)] (by kernel_rfl) rfl ?_ ?_
    ·
     exact ⟨iaQ rfl (zas rfl) rfl, iaQ rfl (zas rfl) rfl, iaQ rfl (zas rfl) rfl, iaQ rfl (riQ 1 rfl rfl rfl rfl (zae 0 rfl)) rfl, iaQ rfl (liQ rfl rfl rfl (zae 0 rfl)) rfl, iaQ rfl (zas rfl) rfl, iaQ rfl (zas rfl) rfl, iaQ rfl (riQ 1 rfl rfl rfl rfl (zae 1 rfl)) rfl, iaQ rfl (liQ rfl rfl rfl (zae 1 rfl)) rfl, iaQ rfl (riQ 1 rfl rfl rfl rfl (zae 2 rfl)) rfl, trivial⟩
    simp only [List.drop_succ_cons, List.drop_zero]
    refine zda (i := 2) (n' := (bs4.set ((ns.getD i6 0).toNat) (qs4.getD q 0)).length) (xs' := ((bs4.set ((ns.getD i6 0).toNat) (qs4.getD q 0)).map (Value.int .i64))) rfl rfl rfl rfl rfl rfl rfl rfl (by first | omega | (simp only [List.length_set]; omega)) List.length_set.symm (zdd _ _ _) rfl (ntQ (reQ 3 rfl (hvQ rfl (riQ 1 rfl rfl rfl rfl (zae 0 rfl)) (hvQ rfl (liQ rfl rfl rfl (zae 0 rfl)) ?_))))
    refine zdk rfl (zat (z := .int .i64 0) (s := 1) (cs := ([ns.getD i6 0].map (Value.int .i64))) rfl Try.underlying28 rfl (by decide) rfl (by kernel_rfl) rfl) ?_
    intro g45
    refine zcd (i := 2) (z := .int .i64 0) (bytes := 8) rfl rfl rfl rfl Try.underlying28 (by kernel_rfl) rfl rfl rfl rfl (zae 0 rfl) (zbm _) (by first | omega | (simp; done) | (simp; omega)) (zbv qs4 ([ns.getD i6 0])) (zcm qs4 ([ns.getD i6 0])) (fun _ => rfl) ?_
    intro v46
    refine enQ 1 rfl (zcv (reQ 1 rfl (hvQ rfl (vaQ rfl rfl rfl) (enQ 1 rfl ?_))))
    exact zct (i6 + 1) (bs4.set ((ns.getD i6 0).toNat) (qs4.getD q 0)) (qs4 ++ ([ns.getD i6 0])) v46 ⟨by omega, hsr4.put (by omega) (by assumption) (.inr hqm), by rw [List.length_append, List.length_singleton]; omega, (by rw [zen (by omega)]; exact hqe)⟩ (by omega) (saQ rfl) (slQ [1, 0, 0, 0] rfl)
   refine ntQ (fsQ rfl (zcv (reQ 1 rfl (hvQ rfl (vaQ rfl rfl rfl) (enQ 1 rfl ?_)))))
   exact zct (i6 + 1) bs4 qs4 qv4 ⟨by omega, hsr4, by omega, hqe⟩ (by omega) (saQ rfl) (pfQ rfl)
  refine ntQ (zal rfl ?_)
  refine zba (zdq ?_)
  refine zag (zcv (reQ 1 rfl (hvQ rfl (vaQ rfl rfl rfl) (enQ 1 rfl ?_))))
  exact zct (q + 1) bs4 qs4 qv4 ⟨by omega, hsr4⟩ (by omega) (saQ rfl) (slQ [1, 0, 0] rfl)
 refine ntQ (zal rfl ?_)
 refine zba (zdq ?_)
 refine zag (zaw (zbd 3 rfl ?_))
 exact zau (zdm (rs := [.tmp 8, .tmp 9]) (vs := [bv, .int .i64 (-1)]) (post := [rowE 3 1 bv bs3.length (bs3.map (Value.int .i64))]) rfl ⟨rfl, rfl, trivial⟩ rfl (slQ [1] rfl) ⟨bs3, _, _, rfl, rfl, hsr3.back, by omega, by omega⟩)
open Go.RowKit
theorem zup {r : Nat → Nat} {a a' : Int} (h0 : 0 ≤ a) (h : 0 ≤ a' → r a'.toNat < r a.toNat) : (if 0 ≤ a' then r a'.toNat + 1 else 0) < (if 0 ≤ a then r a.toNat + 1 else 0) := by
  rw [if_pos h0]; split
  · have := h (by assumption); omega
  · omega
def tFstH (v : Value) : Value := match v with | .tuple #[x, _] => x | _ => undef
def tSndB (v : Value) : Bool := match v with | .tuple #[_, .bool b] => b | _ => false
theorem zkw (n : Nt) (ls : List Int) (lv : Value) (node h : Int) (w : World) (hr : RdsNt w n) (hn : NtOk n) (hl : RdsW w lv 1 ls.length (ls.map (Value.int .i64))) (hll : (ls.length : Int) = n.cnt) (hnd : 0 ≤ node ∧ node < n.cnt) :
   Calls Try.prog 105 #[.agg #[.int .i64 n.ins, n.sv, n.av, n.ov], lv, .int .i64 node, .int .i64 h] w (Ret w (fun u_ p_ => ∃ (xs : List Int) (cv : Value) (okb : Bool), u_ = .tuple #[cv, .bool okb] ∧ p_ = [rowE 3 1 cv xs.length (xs.map (Value.int .i64))] ∧ (xs.length : Int) ≤ n.cnt ∧ ∀ x ∈ xs, 0 ≤ x ∧ x < n.cnt)) := by
 have hi0 := hn.i0
 have hi1 := hn.i1
 have hs1 := hn.s1
 have ha1 := hn.a1
 have ho1 := hn.o1
 have hcnt : n.cnt = 1 + n.ins + n.ss.length + n.gs.length := rfl
 have hfst : n.fst = 1 + n.ins + n.ss.length := rfl
 refine zbf (N := 178) (args := [.agg #[.int .i64 n.ins, n.sv, n.av, n.ov], lv, .int .i64 node, .int .i64 h]) Try.func105 rfl rfl (srQ ?_)
 refine zdj rfl (zch rfl rfl) ?_
 intro b1
 refine zaz 2 rfl (srQ (hvQ rfl (zao (cs := [.int .i64 n.ins, n.sv, n.av, n.ov]) rfl rfl rfl rfl rfl (zaj 0 rfl 0 rfl)) (zap 1 rfl ?_)))
 refine zfg rfl rfl rfl (zaq rfl rfl (fun w hm => zrk n node w (hr.below hm.bel) hn hnd)) ?_
 intro v2 p3 hR4
 obtain ⟨cs, rfl, hcl, hcr⟩ : ∃ cs : List Int, p3 = [rowE 3 1 v2 cs.length (cs.map (Value.int .i64))] ∧ (cs.length : Int) ≤ n.cnt ∧ ∀ x ∈ cs, 0 ≤ x ∧ x ≤ node := ⟨_, hR4, zns n node (by omega), znr hn hnd.1⟩
 refine zaz 1 rfl (srQ (hvQ rfl (zao (cs := [.int .i64 n.ins, n.sv, n.av, n.ov]) rfl rfl rfl rfl rfl (zaj 1 rfl 0 rfl)) ?_))
 refine zds rfl (zaq rfl rfl (fun w hm => zav (zcb n w (hr.below hm.bel) hn))) (zdk rfl (zdw (z := .bool false) (s := 1) (bytes := 1) (n := (List.replicate (n.cnt).toNat bl0).length) (cs := ((List.replicate (n.cnt).toNat bl0).flatMap blC)) rfl Try.underlying130 rfl (by decide) rfl rfl (by first | (rw [List.length_replicate]; done) | (rw [List.length_replicate]; omega)) (by first | (rw [List.length_replicate]; done) | (rw [List.length_replicate]; omega)) (by rw [List.length_replicate]; omega) (zex blC 1 (fun _ => rfl) bl0 _ rfl (n.cnt).toNat)) ?_)
 intro g5
 refine zaz 1 rfl (zac (zbd 1 rfl (zax ?_)))
 refine zhy (α := Nat) (β := List Bl) [0, 1, 2, 3, 4, 8, 9, 10, 11] rfl (fun i us => [rowE 4 1 (.slice (some ⟨g5, 0, none⟩) ((List.replicate (n.cnt).toNat bl0).length) ((List.replicate (n.cnt).toNat bl0).length)) us.length (us.flatMap blC), rowE 3 1 v2 cs.length (cs.map (Value.int .i64)), boxE b1 #[.int .i64 n.ins, n.sv, n.av, n.ov] 86]) (fun i us => [(12, .int .i64 (i : Int))]) (fun i us => i ≤ cs.length ∧ us.length = n.cnt.toNat) (fun i us => cs.length - i) 0 _ ⟨Nat.zero_le _, by rw [List.length_replicate]⟩ (saQ rfl) (pfQ rfl) ?_
 intro i us hi6
 obtain ⟨hi, hul⟩ := hi6
 refine zac (zac (reQ 2 rfl (hvQ rfl (lnQ rfl rfl rfl (zae 1 rfl)) ?_)))
 refine zbj rfl rfl rfl rfl rfl rfl (fun h7 => ?_) (fun h7 => ?_)
 ·
  refine ntQ (zak rfl (zcq (sbQ ?_)))
  have hci := hcr _ (zbl (d := (0 : Int)) (show i < cs.length by omega))
  rcases Bool.eq_false_or_eq_true ((cs.getD i 0) == node) with hb8 | hb8
  ·
   have hb8p : cs.getD i 0 = node := beq_iff_eq.1 hb8
   have hci := hcr _ (zbl (d := (0 : Int)) (show i < cs.length by omega))
   refine zby 23 [[], [], [], [1, 2], [3], [], [], [5, 6], [7], [], [8, 9], [10], [11], [11], [11], [11], [11], [11], [11], [11], [11], [11, 20], [0, 4]] [35, 36, 37, 38, 39, 40, 41, 42, 43, 44, 45, 46, 47, 48, 49, 50, 51, 52, 53, 54, 55, 56, 57] [.slice (some ⟨g5, 0, none⟩) ((List.replicate (n.cnt).toNat bl0).length) ((List.replicate (n.cnt).toNat bl0).length), v2, .int .i64 (i : Int), elP v2 (((i : Int)).toNat * 1), .int .i64 (cs.getD i 0), v2, .int .i64 (i : Int), elP v2 (((i : Int)).toNat * 1), .int .i64 (cs.getD i 0), .int .i64 node, .bool true, .bool true, undef, undef, undef, undef, undef, undef, undef, undef, undef, .bool true, elP (.slice (some ⟨g5, 0, none⟩) ((List.replicate (n.cnt).toNat bl0).length) ((List.replicate (n.cnt).toNat bl0).length)) ((cs.getD i 0).toNat * 1)] (by kernel_rfl) rfl ?_ ?_
   ·
    exact ⟨iaQ rfl (zas rfl) rfl, iaQ rfl (zas rfl) rfl, iaQ rfl (zas rfl) rfl, iaQ rfl (riQ 1 rfl rfl rfl rfl (zae 1 rfl)) rfl, iaQ rfl (liQ rfl rfl rfl (zae 1 rfl)) rfl, iaQ rfl (zas rfl) rfl, iaQ rfl (zas rfl) rfl, iaQ rfl (riQ 1 rfl rfl rfl rfl (zae 1 rfl)) rfl, iaQ rfl (liQ rfl rfl rfl (zae 1 rfl)) rfl, iaQ rfl (zas rfl) rfl, .inl ⟨rfl, zek (zde rfl rfl rfl rfl) hb8⟩, iaQ rfl (zas rfl) rfl, .inr ⟨rfl, rfl⟩, .inr ⟨rfl, rfl⟩, .inr ⟨rfl, rfl⟩, .inr ⟨rfl, rfl⟩, .inr ⟨rfl, rfl⟩, .inr ⟨rfl, rfl⟩, .inr ⟨rfl, rfl⟩, .inr ⟨rfl, rfl⟩, .inr ⟨rfl, rfl⟩, iaQ rfl (zas rfl) rfl, iaQ rfl (riQ 1 rfl rfl rfl rfl (zae 0 rfl)) rfl, trivial⟩
   simp only [List.drop_succ_cons, List.drop_zero]
   refine zda (i := 0) (n' := (us.set ((cs.getD i 0).toNat) { us.getD ((cs.getD i 0).toNat) bl0 with b := true }).length) rfl rfl rfl rfl rfl rfl rfl rfl (by first | omega | (simp only [List.length_set]; omega)) List.length_set.symm (zdl blC (fun r => .bool r.b) (fun _ => rfl) _ ({ us.getD ((cs.getD i 0).toNat) bl0 with b := true }) rfl) rfl (zbu (zcv (reQ 1 rfl (hvQ rfl (vaQ rfl rfl rfl) (enQ 1 rfl ?_)))))
   exact zbq (i + 1) (us.set ((cs.getD i 0).toNat) { us.getD ((cs.getD i 0).toNat) bl0 with b := true }) ⟨by omega, by rw [List.length_set]; exact hul⟩ (by omega) (saQ rfl) (pfQ rfl)
  have hb8p : cs.getD i 0 ≠ node := beq_eq_false_iff_ne.1 hb8
  have hci := hcr _ (zbl (d := (0 : Int)) (show i < cs.length by omega))
  rcases Bool.eq_false_or_eq_true (decide (h ≤ ls.getD ((cs.getD i 0).toNat) 0)) with hb9 | hb9
  ·
   have hb9p : h ≤ ls.getD ((cs.getD i 0).toNat) 0 := of_decide_eq_true hb9
   have hci := hcr _ (zbl (d := (0 : Int)) (show i < cs.length by omega))
   refine zby 23 [[], [], [], [1, 2], [3], [], [], [5, 6], [7], [], [8, 9], [10], [11], [11], [11], [11, 13, 14], [11, 15], [11, 12, 16], [11, 17], [11], [11, 18, 19], [11, 20], [0, 4]] [35, 36, 37, 38, 39, 40, 41, 42, 43, 44, 45, 46, 47, 48, 49, 50, 51, 52, 53, 54, 55, 56, 57] [.slice (some ⟨g5, 0, none⟩) ((List.replicate (n.cnt).toNat bl0).length) ((List.replicate (n.cnt).toNat bl0).length), v2, .int .i64 (i : Int), elP v2 (((i : Int)).toNat * 1), .int .i64 (cs.getD i 0), v2, .int .i64 (i : Int), elP v2 (((i : Int)).toNat * 1), .int .i64 (cs.getD i 0), .int .i64 node, .bool false, .bool false, lv, v2, .int .i64 (i : Int), elP v2 (((i : Int)).toNat * 1), .int .i64 (cs.getD i 0), elP lv ((cs.getD i 0).toNat * 1), .int .i64 (ls.getD ((cs.getD i 0).toNat) 0), .int .i64 h, .bool true, .bool true, elP (.slice (some ⟨g5, 0, none⟩) ((List.replicate (n.cnt).toNat bl0).length) ((List.replicate (n.cnt).toNat bl0).length)) ((cs.getD i 0).toNat * 1)] (by kernel_rfl) rfl ?_ ?_
   ·
    exact ⟨iaQ rfl (zas rfl) rfl, iaQ rfl (zas rfl) rfl, iaQ rfl (zas rfl) rfl, iaQ rfl (riQ 1 rfl rfl rfl rfl (zae 1 rfl)) rfl, iaQ rfl (liQ rfl rfl rfl (zae 1 rfl)) rfl, iaQ rfl (zas rfl) rfl, iaQ rfl (zas rfl) rfl, iaQ rfl (riQ 1 rfl rfl rfl rfl (zae 1 rfl)) rfl, iaQ rfl (liQ rfl rfl rfl (zae 1 rfl)) rfl, iaQ rfl (zas rfl) rfl, .inl ⟨rfl, zek (zde rfl rfl rfl rfl) hb8⟩, iaQ rfl (zas rfl) rfl, iaQ rfl (zas rfl) rfl, iaQ rfl (zas rfl) rfl, iaQ rfl (zas rfl) rfl, iaQ rfl (riQ 1 rfl rfl rfl rfl (zae 1 rfl)) rfl, iaQ rfl (liQ rfl rfl rfl (zae 1 rfl)) rfl, iaQ rfl (riQ 1 rfl rfl rfl rfl (zab hl)) rfl, iaQ rfl (lzQ rfl rfl rfl (zab hl)) rfl, iaQ rfl (zas rfl) rfl, .inl ⟨rfl, zek (zde rfl rfl rfl rfl) hb9⟩, iaQ rfl (zas rfl) rfl, iaQ rfl (riQ 1 rfl rfl rfl rfl (zae 0 rfl)) rfl, trivial⟩
   simp only [List.drop_succ_cons, List.drop_zero]
   refine zda (i := 0) (n' := (us.set ((cs.getD i 0).toNat) { us.getD ((cs.getD i 0).toNat) bl0 with b := true }).length) rfl rfl rfl rfl rfl rfl rfl rfl (by first | omega | (simp only [List.length_set]; omega)) List.length_set.symm (zdl blC (fun r => .bool r.b) (fun _ => rfl) _ ({ us.getD ((cs.getD i 0).toNat) bl0 with b := true }) rfl) rfl (zbu (zcv (reQ 1 rfl (hvQ rfl (vaQ rfl rfl rfl) (enQ 1 rfl ?_)))))
   exact zbq (i + 1) (us.set ((cs.getD i 0).toNat) { us.getD ((cs.getD i 0).toNat) bl0 with b := true }) ⟨by omega, by rw [List.length_set]; exact hul⟩ (by omega) (saQ rfl) (pfQ rfl)
  have hb9p : ¬ (h ≤ ls.getD ((cs.getD i 0).toNat) 0) := of_decide_eq_false hb9
  have hci := hcr _ (zbl (d := (0 : Int)) (show i < cs.length by omega))
  refine zby 23 [[], [], [], [1, 2], [3], [], [], [5, 6], [7], [], [8, 9], [10], [11], [11], [11], [11, 13, 14], [11, 15], [11, 12, 16], [11, 17], [11], [11, 18, 19], [11, 20], [0, 4]] [35, 36, 37, 38, 39, 40, 41, 42, 43, 44, 45, 46, 47, 48, 49, 50, 51, 52, 53, 54, 55, 56, 57] [.slice (some ⟨g5, 0, none⟩) ((List.replicate (n.cnt).toNat bl0).length) ((List.replicate (n.cnt).toNat bl0).length), v2, .int .i64 (i : Int), elP v2 (((i : Int)).toNat * 1), .int .i64 (cs.getD i 0), v2, .int .i64 (i : Int), elP v2 (((i : Int)).toNat * 1), .int .i64 (cs.getD i 0), .int .i64 node, .bool false, .bool false, lv, v2, .int .i64 (i : Int), elP v2 (((i : Int)).toNat * 1), .int .i64 (cs.getD i 0), elP lv ((cs.getD i 0).toNat * 1), .int .i64 (ls.getD ((cs.getD i 0).toNat) 0), .int .i64 h, .bool false, .bool false, elP (.slice (some ⟨g5, 0, none⟩) ((List.replicate (n.cnt).toNat bl0).length) ((List.replicate (n.cnt).toNat bl0).length)) ((cs.getD i 0).toNat * 1)] (by kernel_rfl) rfl ?_ ?_
  ·
   exact ⟨iaQ rfl (zas rfl) rfl, iaQ rfl (zas rfl) rfl, iaQ rfl (zas rfl) rfl, iaQ rfl (riQ 1 rfl rfl rfl rfl (zae 1 rfl)) rfl, iaQ rfl (liQ rfl rfl rfl (zae 1 rfl)) rfl, iaQ rfl (zas rfl) rfl, iaQ rfl (zas rfl) rfl, iaQ rfl (riQ 1 rfl rfl rfl rfl (zae 1 rfl)) rfl, iaQ rfl (liQ rfl rfl rfl (zae 1 rfl)) rfl, iaQ rfl (zas rfl) rfl, .inl ⟨rfl, zek (zde rfl rfl rfl rfl) hb8⟩, iaQ rfl (zas rfl) rfl, iaQ rfl (zas rfl) rfl, iaQ rfl (zas rfl) rfl, iaQ rfl (zas rfl) rfl, iaQ rfl (riQ 1 rfl rfl rfl rfl (zae 1 rfl)) rfl, iaQ rfl (liQ rfl rfl rfl (zae 1 rfl)) rfl, iaQ rfl (riQ 1 rfl rfl rfl rfl (zab hl)) rfl, iaQ rfl (lzQ rfl rfl rfl (zab hl)) rfl, iaQ rfl (zas rfl) rfl, .inl ⟨rfl, zek (zde rfl rfl rfl rfl) hb9⟩, iaQ rfl (zas rfl) rfl, iaQ rfl (riQ 1 rfl rfl rfl rfl (zae 0 rfl)) rfl, trivial⟩
  simp only [List.drop_succ_cons, List.drop_zero]
  refine zda (i := 0) (n' := (us.set ((cs.getD i 0).toNat) { us.getD ((cs.getD i 0).toNat) bl0 with b := false }).length) rfl rfl rfl rfl rfl rfl rfl rfl (by first | omega | (simp only [List.length_set]; omega)) List.length_set.symm (zdl blC (fun r => .bool r.b) (fun _ => rfl) _ ({ us.getD ((cs.getD i 0).toNat) bl0 with b := false }) rfl) rfl (zbu (zcv (reQ 1 rfl (hvQ rfl (vaQ rfl rfl rfl) (enQ 1 rfl ?_)))))
  exact zbq (i + 1) (us.set ((cs.getD i 0).toNat) { us.getD ((cs.getD i 0).toNat) bl0 with b := false }) ⟨by omega, by rw [List.length_set]; exact hul⟩ (by omega) (saQ rfl) (pfQ rfl)
 refine ntQ (zal rfl ?_)
 refine zba (zdq ?_)
 refine zag (zaw (srQ (hvQ rfl (zao (cs := [.int .i64 n.ins, n.sv, n.av, n.ov]) rfl rfl rfl rfl rfl (zaj 2 rfl 0 rfl)) ?_)))
 refine zds rfl (zaq rfl rfl (fun w hm => zav (zcb n w (hr.below hm.bel) hn))) (zdk rfl (zdw (z := .bool false) (s := 1) (bytes := 1) (n := (List.replicate (n.cnt).toNat bl0).length) (cs := ((List.replicate (n.cnt).toNat bl0).flatMap blC)) rfl Try.underlying130 rfl (by decide) rfl rfl (by first | (rw [List.length_replicate]; done) | (rw [List.length_replicate]; omega)) (by first | (rw [List.length_replicate]; done) | (rw [List.length_replicate]; omega)) (by rw [List.length_replicate]; omega) (zex blC 1 (fun _ => rfl) bl0 _ rfl (n.cnt).toNat)) ?_)
 intro g10
 refine zaz 1 rfl (srQ (hvQ rfl (zao (cs := [.int .i64 n.ins, n.sv, n.av, n.ov]) rfl rfl rfl rfl rfl (zaj 3 rfl 0 rfl)) ?_))
 refine zds rfl (zaq rfl rfl (fun w hm => zav (zcb n w (hr.below hm.bel) hn))) (zdk rfl (zdw (z := .int .i64 0) (s := 1) (bytes := 8) (n := (List.replicate (n.cnt).toNat (0 : Int)).length) (cs := ((List.replicate (n.cnt).toNat (0 : Int)).map (Value.int .i64))) rfl Try.underlying28 rfl (by decide) rfl rfl (by first | (rw [List.length_replicate]; done) | (rw [List.length_replicate]; omega)) (by first | (rw [List.length_replicate]; done) | (rw [List.length_replicate]; omega)) (by rw [List.length_replicate]; omega) (zec _)) ?_)
 intro g11
 refine zaz 1 rfl (srQ ?_)
 refine zdk rfl (zbz (s := 1) rfl Try.underlying28 rfl) ?_
 intro g12
 refine zaz 1 rfl (zac (zbd 1 rfl (zax ?_)))
 refine zka (α := Nat) [0, 1, 2, 3, 4, 8, 9, 10, 11, 13, 14, 15, 32] rfl (fun k => [rowE 3 1 (.slice (some ⟨g12, 0, none⟩) 0 0) 0 ([]), rowE 3 1 (.slice (some ⟨g11, 0, none⟩) ((List.replicate (n.cnt).toNat (0 : Int)).length) ((List.replicate (n.cnt).toNat (0 : Int)).length)) ((List.replicate (n.cnt).toNat (0 : Int)).length) ((List.replicate (n.cnt).toNat (0 : Int)).map (Value.int .i64)), rowE 4 1 (.slice (some ⟨g10, 0, none⟩) ((List.replicate (n.cnt).toNat bl0).length) ((List.replicate (n.cnt).toNat bl0).length)) ((List.replicate (n.cnt).toNat bl0).length) ((List.replicate (n.cnt).toNat bl0).flatMap blC), rowE 4 1 (.slice (some ⟨g5, 0, none⟩) ((List.replicate (n.cnt).toNat bl0).length) ((List.replicate (n.cnt).toNat bl0).length)) us.length (us.flatMap blC), rowE 3 1 v2 cs.length (cs.map (Value.int .i64)), boxE b1 #[.int .i64 n.ins, n.sv, n.av, n.ov] 86]) (fun k => [(16, .int .i64 (k : Int))]) (fun k => (k : Int) ≤ n.fst) (fun k => n.fst.toNat - k) 0 (by omega) (saQ rfl) (pfQ rfl) ?_
 intro k hi13
 have hk := hi13
 refine zac (zac (reQ 1 rfl (hvQ rfl (zao (cs := [.int .i64 n.ins, n.sv, n.av, n.ov]) rfl rfl rfl rfl rfl (zaj 5 rfl 0 rfl)) ?_)))
 refine zds rfl (zaq rfl rfl (fun w hm => zav (zcl n w (hr.below hm.bel) hn))) (zbj rfl rfl rfl rfl rfl rfl (fun h14 => ?_) (fun h14 => ?_))
 ·
  refine ntQ (zak rfl (zcq (sbQ (zac (reQ 2 rfl (hvQ rfl (riQ 1 rfl rfl rfl rfl (zae 3 rfl)) ?_))))))
  refine hvQ rfl (zar (u := .bool ((us.getD k bl0).b)) rfl rfl rfl (zae 3 rfl) (zcu blC (fun r => .bool r.b) (fun _ => rfl) us bl0 (show k < _ by omega))) (zca (fun h15 => ?_) (fun h15 => ?_))
  ·
   refine ntQ (zak rfl (zbd 3 rfl ?_))
   refine zau (zan ?_)
   refine zge ?_
   refine zan (zai ?_)
   exact zdm (rs := [.tmp 8, .tmp 9]) (vs := [.slice (some ⟨g12, 0, none⟩) 0 0, .bool false]) (post := [rowE 3 1 (.slice (some ⟨g12, 0, none⟩) 0 0) 0 ([])]) rfl ⟨rfl, rfl, trivial⟩ rfl (slQ [0] rfl) ⟨[], _, _, rfl, rfl, by simp; omega, fun x hx => by cases hx⟩
  refine ntQ (fsQ rfl (zcv (reQ 1 rfl (hvQ rfl (vaQ rfl rfl rfl) (enQ 1 rfl ?_)))))
  exact zcr (k + 1) (by omega) (by omega) (saQ rfl) (pfQ rfl)
 refine ntQ (zal rfl ?_)
 refine zba (zdq ?_)
 refine zag (zaw (zac (zbd 1 rfl (zax ?_))))
 refine zgn (α := Nat) (β := List Bl) (γ := List Int) [0, 1, 2, 3, 4, 8, 9, 10, 11, 13, 14, 15, 32, 68] rfl (fun f ds ab => [rowE 3 1 (.slice (some ⟨g12, 0, none⟩) 0 0) 0 ([]), rowE 3 1 (.slice (some ⟨g11, 0, none⟩) ((List.replicate (n.cnt).toNat (0 : Int)).length) ((List.replicate (n.cnt).toNat (0 : Int)).length)) ab.length (ab.map (Value.int .i64)), rowE 4 1 (.slice (some ⟨g10, 0, none⟩) ((List.replicate (n.cnt).toNat bl0).length) ((List.replicate (n.cnt).toNat bl0).length)) ds.length (ds.flatMap blC), rowE 4 1 (.slice (some ⟨g5, 0, none⟩) ((List.replicate (n.cnt).toNat bl0).length) ((List.replicate (n.cnt).toNat bl0).length)) us.length (us.flatMap blC), rowE 3 1 v2 cs.length (cs.map (Value.int .i64)), boxE b1 #[.int .i64 n.ins, n.sv, n.av, n.ov] 86]) (fun f ds ab => [(17, .int .i64 (f : Int))]) (fun f ds ab => f ≤ 5 ∧ ds.length = n.cnt.toNat ∧ AbOk n.cnt ab) (fun f ds ab => 5 - f) 0 _ _ ⟨by omega, by rw [List.length_replicate], AbOk.start (by omega)⟩ (saQ rfl) (pfQ rfl) ?_
 intro f ds ab hi16
 obtain ⟨hf, hdl, hab⟩ := hi16
 have hab1 := hab.1
 refine zac (zac (reQ 1 rfl ?_))
 refine zhn rfl rfl rfl rfl rfl rfl (fun h17 => ?_) (fun h17 => ?_)
 ·
  refine ntQ (zak rfl (zcq (sbQ (srQ (hvQ rfl (zao (cs := [.int .i64 n.ins, n.sv, n.av, n.ov]) rfl rfl rfl rfl rfl (zaj 5 rfl 0 rfl)) (zap 3 rfl ?_))))))
  refine zfg rfl rfl rfl (zaq rfl rfl (fun w hm => zsa n us ds ab _ _ _ w (hr.below hm.bel) hn ((zae 3 rfl) w hm) (by omega) ((zae 2 rfl) w hm) (by omega) ((zae 1 rfl) w hm) hab)) ?_
  intro v18 p19 hR20
  obtain ⟨bs, bv, at1, rfl, rfl, hbk, hat0, hat1⟩ := hR20
  obtain ⟨r, hrk⟩ := hbk.rank
  have hbl := hbk.len
  refine zaz 5 rfl (zac (zac (reQ 1 rfl ?_)))
  refine zbj rfl rfl rfl rfl rfl rfl (fun h21 => ?_) (fun h21 => ?_)
  ·
   refine ntQ (zak rfl (zac (zbd 1 rfl (zax ?_))))
   refine zgn (α := Nat) (β := Value) (γ := List Int) [0, 1, 2, 3, 4, 8, 9, 10, 11, 13, 14, 17, 18, 19, 32, 68, 77, 89] rfl (fun k8 ov os => [rowE 3 1 bv bs.length (bs.map (Value.int .i64)), rowE 3 1 ov os.length (os.map (Value.int .i64)), rowE 3 1 (.slice (some ⟨g11, 0, none⟩) ((List.replicate (n.cnt).toNat (0 : Int)).length) ((List.replicate (n.cnt).toNat (0 : Int)).length)) ab.length (ab.map (Value.int .i64)), rowE 4 1 (.slice (some ⟨g10, 0, none⟩) ((List.replicate (n.cnt).toNat bl0).length) ((List.replicate (n.cnt).toNat bl0).length)) ds.length (ds.flatMap blC), rowE 4 1 (.slice (some ⟨g5, 0, none⟩) ((List.replicate (n.cnt).toNat bl0).length) ((List.replicate (n.cnt).toNat bl0).length)) us.length (us.flatMap blC), rowE 3 1 v2 cs.length (cs.map (Value.int .i64)), boxE b1 #[.int .i64 n.ins, n.sv, n.av, n.ov] 86]) (fun k8 ov os => [(15, ov), (20, .int .i64 (k8 : Int))]) (fun k8 ov os => (k8 : Int) ≤ n.cnt ∧ os.length ≤ k8 ∧ ∀ x ∈ os, 0 ≤ x ∧ x < n.cnt) (fun k8 ov os => n.cnt.toNat - k8) 0 _ [] ⟨by omega, by simp, fun x hx => by cases hx⟩ (saQ rfl) (pfQ rfl) ?_
   intro k8 ov os hi22
   obtain ⟨hk8, hol, hor⟩ := hi22
   refine zac (zac (reQ 1 rfl (hvQ rfl (zao (cs := [.int .i64 n.ins, n.sv, n.av, n.ov]) rfl rfl rfl rfl rfl (zaj 6 rfl 0 rfl)) ?_)))
   refine zds rfl (zaq rfl rfl (fun w hm => zav (zcb n w (hr.below hm.bel) hn))) (zbj rfl rfl rfl rfl rfl rfl (fun h23 => ?_) (fun h23 => ?_))
   ·
    refine ntQ (zak rfl (zcq (sbQ (zac (reQ 2 rfl (hvQ rfl (zew rfl rfl rfl (by constructor <;> omega)) (hvQ rfl (riQ 1 rfl rfl rfl rfl (zae 0 rfl)) (hvQ rfl (lzQ rfl rfl rfl (zae 0 rfl)) ?_))))))))
    refine zfj rfl rfl rfl rfl rfl rfl (fun h24 => ?_) (fun h24 => ?_)
    ·
     refine zap 3 rfl (hvQ rfl (zew rfl rfl rfl (by constructor <;> omega)) (hvQ rfl (vaQ rfl rfl rfl) (hvQ rfl (riQ 1 rfl rfl rfl rfl (zae 0 rfl)) (hvQ rfl (lzQ rfl rfl rfl (zae 0 rfl)) ?_))))
     refine zbp rfl rfl rfl rfl rfl rfl (fun h25 => ?_) (fun h25 => ?_)
     ·
      refine zaz 1 rfl (zak rfl (reQ 2 rfl ?_))
      refine zdk rfl (zat (z := .int .i64 0) (s := 1) (cs := ([(k8 : Int)].map (Value.int .i64))) rfl Try.underlying28 rfl (by decide) rfl (by kernel_rfl) rfl) ?_
      intro g26
      refine zcd (i := 2) (z := .int .i64 0) (bytes := 8) rfl rfl rfl rfl Try.underlying28 (by kernel_rfl) rfl rfl rfl rfl (zae 0 rfl) (zbm _) (by first | omega | (simp; done) | (simp; omega)) (zbv os ([(k8 : Int)])) (zcm os ([(k8 : Int)])) (fun _ => rfl) ?_
      intro v27
      refine enQ 1 rfl (zcv (reQ 1 rfl (hvQ rfl (vaQ rfl rfl rfl) (enQ 1 rfl ?_))))
      exact zbi (k8 + 1) v27 (os ++ ([(k8 : Int)])) ⟨by omega, by rw [List.length_append, List.length_singleton]; omega, zjk hor (by omega)⟩ (by omega) (saQ rfl) (slQ [1, 0, 0, 0, 0, 0, 0] rfl)
     refine zaz 1 rfl (fsQ rfl (zcv (reQ 1 rfl (hvQ rfl (vaQ rfl rfl rfl) (enQ 1 rfl ?_)))))
     exact zbi (k8 + 1) ov os ⟨by omega, by omega, hor⟩ (by omega) (saQ rfl) (pfQ rfl)
    refine zaz 9 rfl (fsQ rfl (zcv ?_))
    refine reQ 1 rfl (hvQ rfl (vaQ rfl rfl rfl) (enQ 1 rfl ?_))
    exact zbi (k8 + 1) ov os ⟨by omega, by omega, hor⟩ (by omega) (saQ rfl) (pfQ rfl)
   refine ntQ (zal rfl ?_)
   refine zba (zdq ?_)
   refine zag (zaw (zbd 3 rfl ?_))
   refine zau (zai ?_)
   refine zan (zge ?_)
   refine zan (zai ?_)
   exact zdm (rs := [.tmp 8, .tmp 9]) (vs := [ov, .bool true]) (post := [rowE 3 1 ov os.length (os.map (Value.int .i64))]) rfl ⟨rfl, rfl, trivial⟩ rfl (slQ [1] rfl) ⟨os, _, _, rfl, rfl, by omega, hor⟩
  refine ntQ (zal rfl (zcq (zax ?_)))
  refine zgn (α := Int) (β := List Bl) (γ := List Int) [0, 1, 2, 3, 4, 8, 9, 10, 11, 13, 14, 15, 17, 18, 32, 68, 77, 89] rfl (fun a ds2 ab2 => [rowE 3 1 bv bs.length (bs.map (Value.int .i64)), rowE 3 1 (.slice (some ⟨g12, 0, none⟩) 0 0) 0 ([]), rowE 3 1 (.slice (some ⟨g11, 0, none⟩) ((List.replicate (n.cnt).toNat (0 : Int)).length) ((List.replicate (n.cnt).toNat (0 : Int)).length)) ab2.length (ab2.map (Value.int .i64)), rowE 4 1 (.slice (some ⟨g10, 0, none⟩) ((List.replicate (n.cnt).toNat bl0).length) ((List.replicate (n.cnt).toNat bl0).length)) ds2.length (ds2.flatMap blC), rowE 4 1 (.slice (some ⟨g5, 0, none⟩) ((List.replicate (n.cnt).toNat bl0).length) ((List.replicate (n.cnt).toNat bl0).length)) us.length (us.flatMap blC), rowE 3 1 v2 cs.length (cs.map (Value.int .i64)), boxE b1 #[.int .i64 n.ins, n.sv, n.av, n.ov] 86]) (fun a ds2 ab2 => [(19, .int .i64 a)]) (fun a ds2 ab2 => -2 ≤ a ∧ a < 2 * n.cnt ∧ ds2.length = n.cnt.toNat ∧ AbOk n.cnt ab2) (fun a ds2 ab2 => (if 0 ≤ a then r a.toNat + 1 else 0)) at1 ds ab ⟨by omega, by omega, hdl, hab⟩ (saQ rfl) (pfQ rfl) ?_
  intro a ds2 ab2 hi28
  obtain ⟨ha0, ha1, hdl2, hab2⟩ := hi28
  have hab21 := hab2.1
  refine zac (zac (reQ 1 rfl ?_))
  refine zdi rfl rfl rfl rfl rfl rfl (fun h29 => ?_) (fun h29 => ?_)
  ·
   refine ntQ (zak rfl (zcq (zax (srQ ?_))))
   have hbr := hbk.rng a.toNat (by omega)
   refine zap 2 rfl (hvQ rfl (riQ 1 rfl rfl rfl rfl (zae 0 rfl)) (hvQ rfl (lzQ rfl rfl rfl (zae 0 rfl)) (zaz 1 rfl (zac (reQ 1 rfl ?_)))))
   refine hvQ rfl (zeu rfl rfl rfl (by refine ⟨?_, ?_, ?_⟩ <;> omega)) ?_
   refine zaz 1 rfl ?_
   refine zhh (α := List Bl) (β := List Int) (fun ds3 ab3 => [rowE 3 1 bv bs.length (bs.map (Value.int .i64)), rowE 3 1 (.slice (some ⟨g12, 0, none⟩) 0 0) 0 ([]), rowE 3 1 (.slice (some ⟨g11, 0, none⟩) ((List.replicate (n.cnt).toNat (0 : Int)).length) ((List.replicate (n.cnt).toNat (0 : Int)).length)) ab3.length (ab3.map (Value.int .i64)), rowE 4 1 (.slice (some ⟨g10, 0, none⟩) ((List.replicate (n.cnt).toNat bl0).length) ((List.replicate (n.cnt).toNat bl0).length)) ds3.length (ds3.flatMap blC), rowE 4 1 (.slice (some ⟨g5, 0, none⟩) ((List.replicate (n.cnt).toNat bl0).length) ((List.replicate (n.cnt).toNat bl0).length)) us.length (us.flatMap blC), rowE 3 1 v2 cs.length (cs.map (Value.int .i64)), boxE b1 #[.int .i64 n.ins, n.sv, n.av, n.ov] 86]) (fun ds3 ab3 => [(0, .agg #[.int .i64 n.ins, n.sv, n.av, n.ov]), (1, lv), (2, .int .i64 node), (3, .int .i64 h), (4, .pointer (some ⟨b1, 0, none⟩)), (8, .slice none 0 0), (9, .bool false), (10, v2), (11, .slice (some ⟨g5, 0, none⟩) ((List.replicate (n.cnt).toNat bl0).length) ((List.replicate (n.cnt).toNat bl0).length)), (13, .slice (some ⟨g10, 0, none⟩) ((List.replicate (n.cnt).toNat bl0).length) ((List.replicate (n.cnt).toNat bl0).length)), (14, .slice (some ⟨g11, 0, none⟩) ((List.replicate (n.cnt).toNat (0 : Int)).length) ((List.replicate (n.cnt).toNat (0 : Int)).length)), (15, .slice (some ⟨g12, 0, none⟩) 0 0), (17, .int .i64 (f : Int)), (18, bv), (19, .int .i64 a), (21, .int .i64 (bs.getD ((a).toNat) 0)), (22, .int .i64 (a / 2)), (32, .bool false), (68, .bool false), (77, .bool true), (89, .bool false), (117, .bool true)]) (fun ds3 ab3 => ds3.length = n.cnt.toNat ∧ AbOk n.cnt ab3) ?_ ?_
   ·
    refine zac (reQ 1 rfl (hvQ rfl (zhl rfl rfl rfl (by constructor <;> omega)) ?_))
    refine zbp rfl rfl rfl rfl rfl rfl (fun h30 => ?_) (fun h30 => ?_)
    ·
     refine zap 3 rfl (hvQ rfl (vsQ rfl rfl rfl) ?_)
     refine zbp rfl rfl rfl rfl rfl rfl (fun h31 => ?_) (fun h31 => ?_)
     ·
      refine zaz 1 rfl (zak rfl (reQ 2 rfl (hvQ rfl (riQ 1 rfl rfl rfl rfl (zae 3 rfl)) ?_)))
      refine zda (i := 3) (n' := (ds2.set ((a / 2).toNat) { ds2.getD ((a / 2).toNat) bl0 with b := true }).length) rfl rfl rfl rfl rfl rfl rfl rfl (by first | omega | (simp only [List.length_set]; omega)) List.length_set.symm (zdl blC (fun r => .bool r.b) (fun _ => rfl) _ ({ ds2.getD ((a / 2).toNat) bl0 with b := true }) rfl) rfl (zbu ?_)
      exact zdv (ds2.set ((a / 2).toNat) { ds2.getD ((a / 2).toNat) bl0 with b := true }) ab2 ⟨by first | omega | (simp only [List.length_set]; omega), hab2⟩ (saQ rfl) (pfQ rfl)
     refine zaz 1 rfl (fsQ rfl ?_)
     exact zdv ds2 ab2 ⟨by first | omega | (simp only [List.length_set]; omega), hab2⟩ (saQ rfl) (pfQ rfl)
    refine zaz 6 rfl (fsQ rfl ?_)
    exact zdv ds2 ab2 ⟨by first | omega | (simp only [List.length_set]; omega), hab2⟩ (saQ rfl) (pfQ rfl)
   intro ds3 ab3 hm32
   obtain ⟨hdl3, hab3⟩ := hm32
   have hab31 := hab3.1
   refine zhh (α := List Bl) (β := List Int) (fun ds4 ab4 => [rowE 3 1 bv bs.length (bs.map (Value.int .i64)), rowE 3 1 (.slice (some ⟨g12, 0, none⟩) 0 0) 0 ([]), rowE 3 1 (.slice (some ⟨g11, 0, none⟩) ((List.replicate (n.cnt).toNat (0 : Int)).length) ((List.replicate (n.cnt).toNat (0 : Int)).length)) ab4.length (ab4.map (Value.int .i64)), rowE 4 1 (.slice (some ⟨g10, 0, none⟩) ((List.replicate (n.cnt).toNat bl0).length) ((List.replicate (n.cnt).toNat bl0).length)) ds4.length (ds4.flatMap blC), rowE 4 1 (.slice (some ⟨g5, 0, none⟩) ((List.replicate (n.cnt).toNat bl0).length) ((List.replicate (n.cnt).toNat bl0).length)) us.length (us.flatMap blC), rowE 3 1 v2 cs.length (cs.map (Value.int .i64)), boxE b1 #[.int .i64 n.ins, n.sv, n.av, n.ov] 86]) (fun ds4 ab4 => [(0, .agg #[.int .i64 n.ins, n.sv, n.av, n.ov]), (1, lv), (2, .int .i64 node), (3, .int .i64 h), (4, .pointer (some ⟨b1, 0, none⟩)), (8, .slice none 0 0), (9, .bool false), (10, v2), (11, .slice (some ⟨g5, 0, none⟩) ((List.replicate (n.cnt).toNat bl0).length) ((List.replicate (n.cnt).toNat bl0).length)), (13, .slice (some ⟨g10, 0, none⟩) ((List.replicate (n.cnt).toNat bl0).length) ((List.replicate (n.cnt).toNat bl0).length)), (14, .slice (some ⟨g11, 0, none⟩) ((List.replicate (n.cnt).toNat (0 : Int)).length) ((List.replicate (n.cnt).toNat (0 : Int)).length)), (15, .slice (some ⟨g12, 0, none⟩) 0 0), (17, .int .i64 (f : Int)), (18, bv), (19, .int .i64 a), (21, .int .i64 (bs.getD ((a).toNat) 0)), (22, .int .i64 (a / 2)), (32, .bool false), (68, .bool false), (77, .bool true), (89, .bool false), (117, .bool true)]) (fun ds4 ab4 => ds4.length = n.cnt.toNat ∧ AbOk n.cnt ab4) ?_ ?_
   ·
    refine zac (reQ 1 rfl (hvQ rfl (zhl rfl rfl rfl (by constructor <;> omega)) ?_))
    refine zbp rfl rfl rfl rfl rfl rfl (fun h33 => ?_) (fun h33 => ?_)
    ·
     refine zap 3 rfl (hvQ rfl (vaQ rfl rfl rfl) ?_)
     refine zbp rfl rfl rfl rfl rfl rfl (fun h34 => ?_) (fun h34 => ?_)
     ·
      refine zaz 1 rfl (zak rfl (reQ 2 rfl (hvQ rfl (riQ 1 rfl rfl rfl rfl (zae 3 rfl)) ?_)))
      refine zda (i := 3) (n' := (ds3.set ((a / 2).toNat) { ds3.getD ((a / 2).toNat) bl0 with b := false }).length) rfl rfl rfl rfl rfl rfl rfl rfl (by first | omega | (simp only [List.length_set]; omega)) List.length_set.symm (zdl blC (fun r => .bool r.b) (fun _ => rfl) _ ({ ds3.getD ((a / 2).toNat) bl0 with b := false }) rfl) rfl (zbu ?_)
      exact zdv (ds3.set ((a / 2).toNat) { ds3.getD ((a / 2).toNat) bl0 with b := false }) ab3 ⟨by first | omega | (simp only [List.length_set]; omega), hab3⟩ (saQ rfl) (pfQ rfl)
     refine zaz 1 rfl (fsQ rfl ?_)
     exact zdv ds3 ab3 ⟨by first | omega | (simp only [List.length_set]; omega), hab3⟩ (saQ rfl) (pfQ rfl)
    refine zaz 6 rfl (fsQ rfl ?_)
    exact zdv ds3 ab3 ⟨by first | omega | (simp only [List.length_set]; omega), hab3⟩ (saQ rfl) (pfQ rfl)
   intro ds4 ab4 hm35
   obtain ⟨hdl4, hab4⟩ := hm35
   have hab41 := hab4.1
   refine zhh (α := List Bl) (β := List Int) (fun ds5 ab5 => [rowE 3 1 bv bs.length (bs.map (Value.int .i64)), rowE 3 1 (.slice (some ⟨g12, 0, none⟩) 0 0) 0 ([]), rowE 3 1 (.slice (some ⟨g11, 0, none⟩) ((List.replicate (n.cnt).toNat (0 : Int)).length) ((List.replicate (n.cnt).toNat (0 : Int)).length)) ab5.length (ab5.map (Value.int .i64)), rowE 4 1 (.slice (some ⟨g10, 0, none⟩) ((List.replicate (n.cnt).toNat bl0).length) ((List.replicate (n.cnt).toNat bl0).length)) ds5.length (ds5.flatMap blC), rowE 4 1 (.slice (some ⟨g5, 0, none⟩) ((List.replicate (n.cnt).toNat bl0).length) ((List.replicate (n.cnt).toNat bl0).length)) us.length (us.flatMap blC), rowE 3 1 v2 cs.length (cs.map (Value.int .i64)), boxE b1 #[.int .i64 n.ins, n.sv, n.av, n.ov] 86]) (fun ds5 ab5 => [(0, .agg #[.int .i64 n.ins, n.sv, n.av, n.ov]), (1, lv), (2, .int .i64 node), (3, .int .i64 h), (4, .pointer (some ⟨b1, 0, none⟩)), (8, .slice none 0 0), (9, .bool false), (10, v2), (11, .slice (some ⟨g5, 0, none⟩) ((List.replicate (n.cnt).toNat bl0).length) ((List.replicate (n.cnt).toNat bl0).length)), (13, .slice (some ⟨g10, 0, none⟩) ((List.replicate (n.cnt).toNat bl0).length) ((List.replicate (n.cnt).toNat bl0).length)), (14, .slice (some ⟨g11, 0, none⟩) ((List.replicate (n.cnt).toNat (0 : Int)).length) ((List.replicate (n.cnt).toNat (0 : Int)).length)), (15, .slice (some ⟨g12, 0, none⟩) 0 0), (17, .int .i64 (f : Int)), (18, bv), (19, .int .i64 a), (21, .int .i64 (bs.getD ((a).toNat) 0)), (22, .int .i64 (a / 2)), (32, .bool false), (68, .bool false), (77, .bool true), (89, .bool false), (117, .bool true)]) (fun ds5 ab5 => ds5.length = n.cnt.toNat ∧ AbOk n.cnt ab5) ?_ ?_
   ·
    refine zac (reQ 1 rfl (hvQ rfl (zhl rfl rfl rfl (by constructor <;> omega)) ?_))
    refine zbp rfl rfl rfl rfl rfl rfl (fun h36 => ?_) (fun h36 => ?_)
    ·
     refine zap 2 rfl (zbp rfl rfl rfl rfl rfl rfl (fun h37 => ?_) (fun h37 => ?_))
     ·
      refine zaz 1 rfl (zak rfl (reQ 2 rfl (hvQ rfl (riQ 1 rfl rfl rfl rfl (zae 2 rfl)) ?_)))
      refine zda (i := 2) (n' := (ab4.set ((a / 2).toNat) (-1)).length) (xs' := ((ab4.set ((a / 2).toNat) (-1)).map (Value.int .i64))) rfl rfl rfl rfl rfl rfl rfl rfl (by first | omega | (simp only [List.length_set]; omega)) List.length_set.symm (zdd _ _ _) rfl (zbu ?_)
      exact zdv ds4 (ab4.set ((a / 2).toNat) (-1)) ⟨by first | omega | (simp only [List.length_set]; omega), (hab4.set (by omega))⟩ (saQ rfl) (pfQ rfl)
     refine zaz 1 rfl (fsQ rfl ?_)
     exact zdv ds4 ab4 ⟨by first | omega | (simp only [List.length_set]; omega), hab4⟩ (saQ rfl) (pfQ rfl)
    refine zaz 4 rfl (fsQ rfl ?_)
    exact zdv ds4 ab4 ⟨by first | omega | (simp only [List.length_set]; omega), hab4⟩ (saQ rfl) (pfQ rfl)
   intro ds5 ab5 hm38
   obtain ⟨hdl5, hab5⟩ := hm38
   have hab51 := hab5.1
   refine zhh (α := List Bl) (β := List Int) (fun ds7 ab7 => [rowE 3 1 bv bs.length (bs.map (Value.int .i64)), rowE 3 1 (.slice (some ⟨g12, 0, none⟩) 0 0) 0 ([]), rowE 3 1 (.slice (some ⟨g11, 0, none⟩) ((List.replicate (n.cnt).toNat (0 : Int)).length) ((List.replicate (n.cnt).toNat (0 : Int)).length)) ab7.length (ab7.map (Value.int .i64)), rowE 4 1 (.slice (some ⟨g10, 0, none⟩) ((List.replicate (n.cnt).toNat bl0).length) ((List.replicate (n.cnt).toNat bl0).length)) ds7.length (ds7.flatMap blC), rowE 4 1 (.slice (some ⟨g5, 0, none⟩) ((List.replicate (n.cnt).toNat bl0).length) ((List.replicate (n.cnt).toNat bl0).length)) us.length (us.flatMap blC), rowE 3 1 v2 cs.length (cs.map (Value.int .i64)), boxE b1 #[.int .i64 n.ins, n.sv, n.av, n.ov] 86]) (fun ds7 ab7 => [(0, .agg #[.int .i64 n.ins, n.sv, n.av, n.ov]), (1, lv), (2, .int .i64 node), (3, .int .i64 h), (4, .pointer (some ⟨b1, 0, none⟩)), (8, .slice none 0 0), (9, .bool false), (10, v2), (11, .slice (some ⟨g5, 0, none⟩) ((List.replicate (n.cnt).toNat bl0).length) ((List.replicate (n.cnt).toNat bl0).length)), (13, .slice (some ⟨g10, 0, none⟩) ((List.replicate (n.cnt).toNat bl0).length) ((List.replicate (n.cnt).toNat bl0).length)), (14, .slice (some ⟨g11, 0, none⟩) ((List.replicate (n.cnt).toNat (0 : Int)).length) ((List.replicate (n.cnt).toNat (0 : Int)).length)), (15, .slice (some ⟨g12, 0, none⟩) 0 0), (17, .int .i64 (f : Int)), (18, bv), (19, .int .i64 a), (21, .int .i64 (bs.getD ((a).toNat) 0)), (22, .int .i64 (a / 2)), (32, .bool false), (68, .bool false), (77, .bool true), (89, .bool false), (117, .bool true)]) (fun ds7 ab7 => ds7.length = n.cnt.toNat ∧ AbOk n.cnt ab7) ?_ ?_
   ·
    refine zac (reQ 1 rfl (hvQ rfl (zhl rfl rfl rfl (by constructor <;> omega)) ?_))
    refine zbp rfl rfl rfl rfl rfl rfl (fun h39 => ?_) (fun h39 => ?_)
    ·
     refine zap 2 rfl (zdi rfl rfl rfl rfl rfl rfl (fun h40 => ?_) (fun h40 => ?_))
     ·
      refine zap 4 rfl (hvQ rfl (vaQ rfl rfl rfl) ?_)
      refine zfj rfl rfl rfl rfl rfl rfl (fun h41 => ?_) (fun h41 => ?_)
      ·
       refine zaz 1 rfl (zak rfl (reQ 3 rfl ?_))
       refine hvQ rfl (zeu rfl rfl rfl (by refine ⟨?_, ?_, ?_⟩ <;> omega)) ?_
       refine hvQ rfl (riQ 1 rfl rfl rfl rfl (zae 2 rfl)) (zda (i := 2) (n' := (ab5.set ((a / 2).toNat) ((bs.getD ((a).toNat) 0) / 2)).length) (xs' := ((ab5.set ((a / 2).toNat) ((bs.getD ((a).toNat) 0) / 2)).map (Value.int .i64))) rfl rfl rfl rfl rfl rfl rfl rfl (by first | omega | (simp only [List.length_set]; omega)) List.length_set.symm (zdd _ _ _) rfl ?_)
       exact zbu (zdv ds5 (ab5.set ((a / 2).toNat) ((bs.getD ((a).toNat) 0) / 2)) ⟨by first | omega | (simp only [List.length_set]; omega), (hab5.set (by omega))⟩ (saQ rfl) (pfQ rfl))
      refine zaz 1 rfl (fsQ rfl ?_)
      exact zdv ds5 ab5 ⟨by first | omega | (simp only [List.length_set]; omega), hab5⟩ (saQ rfl) (pfQ rfl)
     refine zaz 7 rfl (fsQ rfl ?_)
     exact zdv ds5 ab5 ⟨by first | omega | (simp only [List.length_set]; omega), hab5⟩ (saQ rfl) (pfQ rfl)
    refine zaz 10 rfl (fsQ rfl ?_)
    exact zdv ds5 ab5 ⟨by first | omega | (simp only [List.length_set]; omega), hab5⟩ (saQ rfl) (pfQ rfl)
   intro ds7 ab7 hm42
   obtain ⟨hdl7, hab7⟩ := hm42
   have hab71 := hab7.1
   refine zay (enQ 2 rfl (zcs ?_))
   exact zbi (bs.getD a.toNat 0) ds7 ab7 ⟨by omega, by omega, by omega, hab7⟩ (zup (by omega) (fun h => hrk a.toNat (by omega) h)) (saQ rfl) (pfQ rfl)
  refine ntQ (zal rfl ?_)
  refine zba (zdq ?_)
  refine zag (zcv (reQ 1 rfl (hvQ rfl (vaQ rfl rfl rfl) (enQ 1 rfl ?_))))
  exact zbi (f + 1) ds2 ab2 ⟨by omega, by omega, hab2⟩ (by omega) (saQ rfl) (slQ [1, 0, 0, 0, 0, 0] rfl)
 refine ntQ (zal rfl ?_)
 refine zba (zdq ?_)
 refine zag (zaw (zbd 3 rfl ?_))
 exact zau (zdm (rs := [.tmp 8, .tmp 9]) (vs := [.slice (some ⟨g12, 0, none⟩) 0 0, .bool false]) (post := [rowE 3 1 (.slice (some ⟨g12, 0, none⟩) 0 0) 0 ([])]) rfl ⟨rfl, rfl, trivial⟩ rfl (slQ [0] rfl) ⟨[], _, _, rfl, rfl, by simp; omega, fun x hx => by cases hx⟩)
theorem zsc (n : Nt) (w : World) (hr : RdsNt w n) (hn : NtOk n) :
   Calls Try.prog 104 #[.agg #[.int .i64 n.ins, n.sv, n.av, n.ov]] w (Ret w (fun u_ p_ => ∃ ls : List Int, p_ = [rowE 3 1 u_ ls.length (ls.map (Value.int .i64))] ∧ LbOk n 0 ls)) := by
 have hi0 := hn.i0
 have hi1 := hn.i1
 have hs1 := hn.s1
 have ha1 := hn.a1
 have ho1 := hn.o1
 have hcnt : n.cnt = 1 + n.ins + n.ss.length + n.gs.length := rfl
 have hfst : n.fst = 1 + n.ins + n.ss.length := rfl
 refine zbf (N := 66) (args := [.agg #[.int .i64 n.ins, n.sv, n.av, n.ov]]) Try.func104 rfl rfl (srQ ?_)
 refine zdj rfl (zch rfl rfl) ?_
 intro b1
 refine zaz 1 rfl (zeh (hvQ rfl (zao (cs := [.int .i64 n.ins, n.sv, n.av, n.ov]) rfl rfl rfl rfl rfl (zaj 0 rfl 0 rfl)) ?_))
 refine zds rfl (zaq rfl rfl (fun w hm => zav (zdz n w (hr.below hm.bel) hn))) (zaz 1 rfl (zal rfl (zcq (srQ (hvQ rfl (zao (cs := [.int .i64 n.ins, n.sv, n.av, n.ov]) rfl rfl rfl rfl rfl (zaj 0 rfl 0 rfl)) ?_)))))
 refine zds rfl (zaq rfl rfl (fun w hm => zav (zcb n w (hr.below hm.bel) hn))) (zdk rfl (zdw (z := .int .i64 0) (s := 1) (bytes := 8) (n := (List.replicate (n.cnt).toNat (0 : Int)).length) (cs := ((List.replicate (n.cnt).toNat (0 : Int)).map (Value.int .i64))) rfl Try.underlying28 rfl (by decide) rfl rfl (by first | (rw [List.length_replicate]; done) | (rw [List.length_replicate]; omega)) (by first | (rw [List.length_replicate]; done) | (rw [List.length_replicate]; omega)) (by rw [List.length_replicate]; omega) (zec _)) ?_)
 intro g2
 refine zaz 1 rfl (zeh (hvQ rfl (zao (cs := [.int .i64 n.ins, n.sv, n.av, n.ov]) rfl rfl rfl rfl rfl (zaj 1 rfl 0 rfl)) ?_))
 refine zds rfl (zaq rfl rfl (fun w hm => zav (zcl n w (hr.below hm.bel) hn))) (zaz 1 rfl (zax ?_))
 refine zid (α := Nat) (β := List Int) (fun i ls => [rowE 3 1 (.slice (some ⟨g2, 0, none⟩) ((List.replicate (n.cnt).toNat (0 : Int)).length) ((List.replicate (n.cnt).toNat (0 : Int)).length)) ls.length (ls.map (Value.int .i64)), boxE b1 #[.int .i64 n.ins, n.sv, n.av, n.ov] 86]) (fun i ls => [(0, .agg #[.int .i64 n.ins, n.sv, n.av, n.ov]), (1, .pointer (some ⟨b1, 0, none⟩)), (2, .slice none 0 0), (3, .slice (some ⟨g2, 0, none⟩) ((List.replicate (n.cnt).toNat (0 : Int)).length) ((List.replicate (n.cnt).toNat (0 : Int)).length)), (4, .int .i64 (n.fst + (i : Int))), (11, .bool false)]) (fun i ls => i ≤ n.gs.length ∧ LbOk n 0 ls) (fun i ls => n.gs.length - i) 0 _ ⟨Nat.zero_le _, LbOk.start (by omega)⟩ (zbk [3, 2, 1, 0] _ (sk 4 (congrArg (fun x => some (Value.int .i64 x)) (by simp)) (zam [11] rfl)) rfl) (pfQ rfl) ?_
 intro i ls hi3
 obtain ⟨hi, hlb⟩ := hi3
 have hll := hlb.len
 refine zac (zac (reQ 1 rfl (hvQ rfl (zao (cs := [.int .i64 n.ins, n.sv, n.av, n.ov]) rfl rfl rfl rfl rfl (zaj 1 rfl 0 rfl)) ?_)))
 refine zds rfl (zaq rfl rfl (fun w hm => zav (zcb n w (hr.below hm.bel) hn))) (zbj rfl rfl rfl rfl rfl rfl (fun h4 => ?_) (fun h4 => ?_))
 ·
  refine ntQ (zak rfl (zcq (sbQ (zac ?_))))
  have hani := hn.an ((n.fst + (i : Int)) - n.fst).toNat (by omega)
  unfold LtOk at hani
  have hl1 := hlb.at_ ((n.gs.getD (((n.fst + (i : Int)) - n.fst).toNat) an0).a / 2).toNat (by omega)
  have hl2 := hlb.at_ ((n.gs.getD (((n.fst + (i : Int)) - n.fst).toNat) an0).b / 2).toNat (by omega)
  refine zdf rfl 9 [0, 1, 2, 3, 4, 5, 6, 7, 8] (List.take 9 _) (List.drop 9 _) [[], [0], [], [], [3], [2, 4], [1, 5], [6], []] [24, 25, 26, 27, 28, 29, 30, 31, 5] (fun i_ vs_ v_ p_ => match i_ with | 0 => v_ = .pointer (some ⟨b1, 0 + 2, none⟩) ∧ p_ = [] | 1 => v_ = n.av ∧ p_ = [] | 2 => v_ = .int .i64 (n.fst + (i : Int)) ∧ p_ = [] | 3 => v_ = .agg #[.int .i64 n.ins, n.sv, n.av, n.ov] ∧ p_ = [] | 4 => v_ = .int .i64 n.fst ∧ p_ = [] | 5 => v_ = .int .i64 ((n.fst + (i : Int)) - n.fst) ∧ p_ = [] | 6 => v_ = elP n.av (((n.fst + (i : Int)) - n.fst).toNat * 2) ∧ p_ = [] | 7 => v_ = .agg #[.int .i64 ((n.gs.getD (((n.fst + (i : Int)) - n.fst).toNat) an0).a), .int .i64 ((n.gs.getD (((n.fst + (i : Int)) - n.fst).toNat) an0).b)] ∧ p_ = [] | 8 => IsBox #[.int .i64 0, .int .i64 0] 126 v_ p_ | _ => True) (List.take_append_drop 9 _).symm (by kernel_rfl) (by kernel_rfl) rfl rfl ?_ ?_
  ·
   refine ⟨?_, ?_, ?_, ?_, ?_, ?_, ?_, ?_, ?_, trivial⟩
   ·
    intro vf pf hR
    exact ovQ rfl (zam [1] rfl) (zbg (fdQ 2 rfl rfl rfl))
   ·
    intro vf pf hR
    have e0 := hR 0 (by decide)
    exact olQ rfl (sk 24 (congrArg some e0.1) (zaf _)) (zbg (zad rfl rfl rfl (zaa 1 rfl rfl)))
   ·
    intro vf pf hR
    exact ovQ rfl (zam [4] rfl) (zbg (zas rfl))
   ·
    intro vf pf hR
    exact olQ rfl (zam [1] rfl) (zbg (zao (cs := [.int .i64 n.ins, n.sv, n.av, n.ov]) rfl rfl rfl rfl rfl (zaj 1 rfl 0 rfl)))
   ·
    intro vf pf hR
    have e3 := hR 3 (by decide)
    exact olQ rfl (sk 27 (congrArg some e3.1) (zaf _)) (zaq rfl rfl (fun w hm => zav (zcl n w (hr.below hm.bel) hn)))
   ·
    intro vf pf hR
    have e2 := hR 2 (by decide)
    have e4 := hR 4 (by decide)
    exact ovQ rfl (sk 26 (congrArg some e2.1) (sk 28 (congrArg some e4.1) (zaf _))) (zbg (vsQ rfl rfl rfl))
   ·
    intro vf pf hR
    have e1 := hR 1 (by decide)
    have e5 := hR 5 (by decide)
    exact olQ rfl (sk 25 (congrArg some e1.1) (sk 29 (congrArg some e5.1) (zaf _))) (zbg (riQ 2 rfl rfl rfl rfl (zab hr.an)))
   ·
    intro vf pf hR
    have e6 := hR 6 (by decide)
    exact olQ rfl (sk 30 (congrArg some e6.1) (zaf _)) (zbg (zbt (us := [.int .i64 ((n.gs.getD (((n.fst + (i : Int)) - n.fst).toNat) an0).a), .int .i64 ((n.gs.getD (((n.fst + (i : Int)) - n.fst).toNat) an0).b)]) rfl rfl rfl rfl (zab hr.an) (by omega) rfl (zcp anC 2 (fun _ => rfl) n.gs an0 (show ((n.fst + (i : Int)) - n.fst).toNat < _ by omega) rfl)))
   intro vf pf hR
   exact olQ rfl (zaf _) (zbx (z := .agg #[.int .i64 0, .int .i64 0]) rfl rfl)
  intro vf pf hR
  have e7 := hR 7 (by decide)
  have e8 : IsBox #[.int .i64 0, .int .i64 0] 126 (vf 8) (pf 8) := hR 8 (by decide)
  obtain ⟨b5, vE8, pE8⟩ := e8
  have q0 := hR 0 (by decide)
  have q1 := hR 1 (by decide)
  have q2 := hR 2 (by decide)
  have q3 := hR 3 (by decide)
  have q4 := hR 4 (by decide)
  have q5 := hR 5 (by decide)
  have q6 := hR 6 (by decide)
  have q7 := hR 7 (by decide)
  refine zco (zbk [4, 3, 2, 1, 0] _ (sk 5 (congrArg some vE8) (sk 11 rfl (sk 21 rfl (sk 31 (congrArg some e7.1) (zaf _))))) rfl) (by simp only [pE8, vE8, q0.2, q1.2, q2.2, q3.2, q4.2, q5.2, q6.2, q7.2, fS] <;> rfl) ?_
  simp only [List.drop_succ_cons, List.drop_zero]
  refine zcc (cs' := #[.int .i64 ((n.gs.getD (((n.fst + (i : Int)) - n.fst).toNat) an0).a), .int .i64 ((n.gs.getD (((n.fst + (i : Int)) - n.fst).toNat) an0).b)]) (i := 0) (off := 0) (us := [.int .i64 ((n.gs.getD (((n.fst + (i : Int)) - n.fst).toNat) an0).a), .int .i64 ((n.gs.getD (((n.fst + (i : Int)) - n.fst).toNat) an0).b)]) rfl rfl rfl rfl rfl rfl rfl (zah rfl (zah rfl zbr)) rfl rfl rfl (ntQ (zac ?_))
  refine zby 13 [[], [], [1], [2], [0, 3], [4], [], [], [7], [8], [6, 9], [10], [5, 11]] [32, 33, 34, 35, 36, 37, 38, 39, 40, 41, 42, 43, 44] [.slice (some ⟨g2, 0, none⟩) ((List.replicate (n.cnt).toNat (0 : Int)).length) ((List.replicate (n.cnt).toNat (0 : Int)).length), .pointer (some ⟨b5, 0 + 0, none⟩), .int .i64 ((n.gs.getD (((n.fst + (i : Int)) - n.fst).toNat) an0).a), .int .i64 (((n.gs.getD (((n.fst + (i : Int)) - n.fst).toNat) an0).a) / 2), elP (.slice (some ⟨g2, 0, none⟩) ((List.replicate (n.cnt).toNat (0 : Int)).length) ((List.replicate (n.cnt).toNat (0 : Int)).length)) ((((n.gs.getD (((n.fst + (i : Int)) - n.fst).toNat) an0).a) / 2).toNat * 1), .int .i64 (ls.getD ((((n.gs.getD (((n.fst + (i : Int)) - n.fst).toNat) an0).a) / 2).toNat) 0), .slice (some ⟨g2, 0, none⟩) ((List.replicate (n.cnt).toNat (0 : Int)).length) ((List.replicate (n.cnt).toNat (0 : Int)).length), .pointer (some ⟨b5, 0 + 1, none⟩), .int .i64 ((n.gs.getD (((n.fst + (i : Int)) - n.fst).toNat) an0).b), .int .i64 (((n.gs.getD (((n.fst + (i : Int)) - n.fst).toNat) an0).b) / 2), elP (.slice (some ⟨g2, 0, none⟩) ((List.replicate (n.cnt).toNat (0 : Int)).length) ((List.replicate (n.cnt).toNat (0 : Int)).length)) ((((n.gs.getD (((n.fst + (i : Int)) - n.fst).toNat) an0).b) / 2).toNat * 1), .int .i64 (ls.getD ((((n.gs.getD (((n.fst + (i : Int)) - n.fst).toNat) an0).b) / 2).toNat) 0), .int .i64 (if ls.getD ((((n.gs.getD (((n.fst + (i : Int)) - n.fst).toNat) an0).a) / 2).toNat) 0 < ls.getD ((((n.gs.getD (((n.fst + (i : Int)) - n.fst).toNat) an0).b) / 2).toNat) 0 then ls.getD ((((n.gs.getD (((n.fst + (i : Int)) - n.fst).toNat) an0).b) / 2).toNat) 0 else ls.getD ((((n.gs.getD (((n.fst + (i : Int)) - n.fst).toNat) an0).a) / 2).toNat) 0)] (by kernel_rfl) rfl ?_ ?_
  ·
   exact ⟨iaQ rfl (zas rfl) rfl, iaQ rfl (fdQ 0 rfl rfl rfl) rfl, iaQ rfl (zad rfl rfl rfl (zaa 0 rfl rfl)) rfl, iaQ rfl (zeu rfl rfl rfl (by refine ⟨?_, ?_, ?_⟩ <;> omega)) rfl, iaQ rfl (riQ 1 rfl rfl rfl rfl (zae 1 rfl)) rfl, iaQ rfl (lzQ rfl rfl rfl (zae 1 rfl)) rfl, iaQ rfl (zas rfl) rfl, iaQ rfl (fdQ 1 rfl rfl rfl) rfl, iaQ rfl (zad rfl rfl rfl (zaa 0 rfl rfl)) rfl, iaQ rfl (zeu rfl rfl rfl (by refine ⟨?_, ?_, ?_⟩ <;> omega)) rfl, iaQ rfl (riQ 1 rfl rfl rfl rfl (zae 1 rfl)) rfl, iaQ rfl (lzQ rfl rfl rfl (zae 1 rfl)) rfl, iaQ rfl (zwb rfl rfl rfl) rfl, trivial⟩
  simp only [List.drop_succ_cons, List.drop_zero]
  refine zaz 1 rfl (srQ ?_)
  obtain ⟨p, hp⟩ : ∃ x, (if ls.getD ((((n.gs.getD (((n.fst + (i : Int)) - n.fst).toNat) an0).a) / 2).toNat) 0 < ls.getD ((((n.gs.getD (((n.fst + (i : Int)) - n.fst).toNat) an0).b) / 2).toNat) 0 then ls.getD ((((n.gs.getD (((n.fst + (i : Int)) - n.fst).toNat) an0).b) / 2).toNat) 0 else ls.getD ((((n.gs.getD (((n.fst + (i : Int)) - n.fst).toNat) an0).a) / 2).toNat) 0) = x := ⟨_, rfl⟩
  rw [hp]
  have hp2 : 0 ≤ p ∧ p < n.fst + (i : Int) := by rw [← hp]; split <;> omega
  refine zap 3 rfl (hvQ rfl (vaQ rfl rfl rfl) (hvQ rfl (riQ 1 rfl rfl rfl rfl (zae 1 rfl)) ?_))
  refine zda (i := 1) (n' := (ls.set ((n.fst + (i : Int)).toNat) (p + 1)).length) (xs' := ((ls.set ((n.fst + (i : Int)).toNat) (p + 1)).map (Value.int .i64))) rfl rfl rfl rfl rfl rfl rfl rfl (by first | omega | (simp only [List.length_set]; omega)) List.length_set.symm (zdd _ _ _) rfl (ntQ (zac (reQ 1 rfl ?_)))
  refine zet rfl rfl rfl rfl rfl rfl (fun h6 => ?_) (fun h6 => ?_)
  ·
   refine ntQ (zak rfl (srQ (hvQ rfl (zao (cs := [.int .i64 n.ins, n.sv, n.av, n.ov]) rfl rfl rfl rfl rfl (zaj 2 rfl 0 rfl)) (zap 3 rfl ?_))))
   refine zfg rfl rfl rfl (zaq rfl rfl (fun w hm => zkw n (ls.set ((n.fst + (i : Int)).toNat) (p + 1)) _ (n.fst + (i : Int)) p w (hr.below hm.bel) hn ((zae 1 rfl) w hm) (by first | omega | (simp only [List.length_set]; omega)) (by omega))) ?_
   intro v7 p8 hR9
   obtain ⟨xs, cv, okb, rfl, rfl, hxl, hxr⟩ := hR9
   refine zap 3 rfl (zca (fun h10 => ?_) (fun h10 => ?_))
   ·
    refine zaz 2 rfl (zbd 1 rfl (zak rfl (reQ 3 rfl (hvQ rfl (riQ 1 rfl rfl rfl rfl (zae 2 rfl) (by omega) (by first | omega | (simp only [List.length_set]; omega))) ?_))))
    refine zda (i := 2) (n' := ((ls.set ((n.fst + (i : Int)).toNat) (p + 1)).set ((n.fst + (i : Int)).toNat) p).length) (xs' := (((ls.set ((n.fst + (i : Int)).toNat) (p + 1)).set ((n.fst + (i : Int)).toNat) p).map (Value.int .i64))) rfl rfl rfl rfl rfl rfl rfl rfl (by first | omega | (simp only [List.length_set]; omega)) List.length_set.symm (zdd _ _ _) rfl (zbu (zcv (reQ 1 rfl (hvQ rfl (vaQ rfl rfl rfl) (enQ 1 rfl ?_)))))
    exact zbq (i + 1) ((ls.set ((n.fst + (i : Int)).toNat) (p + 1)).set ((n.fst + (i : Int)).toNat) p) ⟨by omega, (hlb.set (j := 0) (by omega)).set (j := 0) (by omega)⟩ (by omega) (zbk [3, 2, 1, 0] _ (sk 4 (congrArg (fun x => some (Value.int .i64 x)) (by omega)) (zam [11] rfl)) rfl) (slQ [2, 0] rfl)
   refine zaz 2 rfl (zbd 1 rfl (fsQ rfl (zcv ?_)))
   refine reQ 1 rfl (hvQ rfl (vaQ rfl rfl rfl) (enQ 1 rfl ?_))
   exact zbq (i + 1) (ls.set ((n.fst + (i : Int)).toNat) (p + 1)) ⟨by omega, hlb.set (j := 0) (by omega)⟩ (by omega) (zbk [3, 2, 1, 0] _ (sk 4 (congrArg (fun x => some (Value.int .i64 x)) (by omega)) (zam [11] rfl)) rfl) (slQ [2, 0] rfl)
  refine ntQ (fsQ rfl (zcv (reQ 1 rfl (hvQ rfl (vaQ rfl rfl rfl) (enQ 1 rfl ?_)))))
  exact zbq (i + 1) (ls.set ((n.fst + (i : Int)).toNat) (p + 1)) ⟨by omega, hlb.set (j := 0) (by omega)⟩ (by omega) (zbk [3, 2, 1, 0] _ (sk 4 (congrArg (fun x => some (Value.int .i64 x)) (by omega)) (zam [11] rfl)) rfl) (slQ [1, 0] rfl)
 refine ntQ (zal rfl ?_)
 refine zba (zdq ?_)
 refine zag (zaw (zbd 2 rfl ?_))
 exact zau (zck (post := [rowE 3 1 (.slice (some ⟨g2, 0, none⟩) ((List.replicate (n.cnt).toNat (0 : Int)).length) ((List.replicate (n.cnt).toNat (0 : Int)).length)) ls.length (ls.map (Value.int .i64))]) rfl rfl (slQ [0] rfl) ⟨_, rfl, hlb⟩)
theorem zjc (n : Nt) (w : World) (hr : RdsNt w n) (hn : NtOk n) :
   Calls Try.prog 62 #[.agg #[.int .i64 n.ins, n.sv, n.av, n.ov]] w (Ret w (fun u_ p_ => ∃ (ps : List HP) (rs : List CRow), p_ = [rowE 28 1 u_ rs.length (rs.flatMap crowC), bigE ps] ∧ (∀ w, (bigE ps).holds w → RdsAll w rs) ∧ rs.length = n.gs.length ∧ ∀ r ∈ rs, r.xs.length ≤ 400)) := by
 have hi0 := hn.i0
 have hi1 := hn.i1
 have hs1 := hn.s1
 have ha1 := hn.a1
 have ho1 := hn.o1
 have hcnt : n.cnt = 1 + n.ins + n.ss.length + n.gs.length := rfl
 have hfst : n.fst = 1 + n.ins + n.ss.length := rfl
 refine zbf (N := 39) (args := [.agg #[.int .i64 n.ins, n.sv, n.av, n.ov]]) Try.func62 rfl rfl (srQ ?_)
 refine zdj rfl (zch rfl rfl) ?_
 intro b1
 refine zaz 1 rfl (srQ ?_)
 refine zdk rfl (zbz (s := 1) rfl Try.underlying63 rfl) ?_
 intro g2
 refine zaz 1 rfl (zeh (hvQ rfl (zao (cs := [.int .i64 n.ins, n.sv, n.av, n.ov]) rfl rfl rfl rfl rfl (zaj 1 rfl 0 rfl)) ?_))
 refine zds rfl (zaq rfl rfl (fun w hm => zav (zdz n w (hr.below hm.bel) hn))) (zaz 1 rfl (zal rfl (zcq (srQ (hvQ rfl (zao (cs := [.int .i64 n.ins, n.sv, n.av, n.ov]) rfl rfl rfl rfl rfl (zaj 1 rfl 0 rfl)) ?_)))))
 refine zfg rfl rfl rfl (zaq rfl rfl (fun w hm => zsc n w (hr.below hm.bel) hn)) ?_
 intro v3 p4 hR5
 obtain ⟨ls, rfl, hlb⟩ := hR5
 have hll := hlb.len
 refine zaz 1 rfl (zeh (hvQ rfl (zao (cs := [.int .i64 n.ins, n.sv, n.av, n.ov]) rfl rfl rfl rfl rfl (zaj 2 rfl 0 rfl)) ?_))
 refine zds rfl (zaq rfl rfl (fun w hm => zav (zcl n w (hr.below hm.bel) hn))) (zaz 1 rfl (zax ?_))
 refine zep _ zfh ?_
 refine zmc (α := Nat) (β := List CRow) (γ := Value) (δ := List HP) (fun i rs ov ps => [bigE ps, rowE 3 1 v3 ls.length (ls.map (Value.int .i64)), rowE 28 1 ov rs.length (rs.flatMap crowC), boxE b1 #[.int .i64 n.ins, n.sv, n.av, n.ov] 86]) (fun i rs ov ps => [(0, .agg #[.int .i64 n.ins, n.sv, n.av, n.ov]), (1, .pointer (some ⟨b1, 0, none⟩)), (2, .slice none 0 0), (3, ov), (4, v3), (5, .int .i64 (n.fst + (i : Int))), (11, .bool false)]) (fun i rs ov ps => i ≤ n.gs.length ∧ rs.length = i ∧ (∀ r ∈ rs, r.xs.length ≤ 400) ∧ ∀ w, (bigE ps).holds w → RdsAll w rs) (fun i rs ov ps => n.gs.length - i) 0 [] _ _ ⟨Nat.zero_le _, rfl, (fun r hr => by cases hr), fun w _ => RdsAll.nil w⟩ (zbk [4, 3, 2, 1, 0] _ (sk 5 (congrArg (fun x => some (Value.int .i64 x)) (by simp)) (zam [11] rfl)) rfl) (pfQ rfl) ?_
 intro i rs ov ps hi6
 obtain ⟨hi, hrl, hrs, hps⟩ := hi6
 refine zac (zac (reQ 1 rfl (hvQ rfl (zao (cs := [.int .i64 n.ins, n.sv, n.av, n.ov]) rfl rfl rfl rfl rfl (zaj 3 rfl 0 rfl)) ?_)))
 refine zds rfl (zaq rfl rfl (fun w hm => zav (zcb n w (hr.below hm.bel) hn))) (zbj rfl rfl rfl rfl rfl rfl (fun h7 => ?_) (fun h7 => ?_))
 ·
  refine ntQ (zak rfl (zcq (sbQ (zac ?_))))
  refine zdf rfl 12 [0, 1, 2, 3, 4, 5, 6, 7, 8, 9, 10, 11] (List.take 12 _) (List.drop 12 _) [[], [], [], [], [], [3, 4], [5], [0, 1, 2, 6], [7], [7, 8], [7, 8], [7, 9]] [24, 25, 26, 27, 28, 29, 30, 31, 23, 32, 33, 6] (fun i_ vs_ v_ p_ => match i_ with | 0 => v_ = .agg #[.int .i64 n.ins, n.sv, n.av, n.ov] ∧ p_ = [] | 1 => v_ = v3 ∧ p_ = [] | 2 => v_ = .int .i64 (n.fst + (i : Int)) ∧ p_ = [] | 3 => v_ = v3 ∧ p_ = [] | 4 => v_ = .int .i64 (n.fst + (i : Int)) ∧ p_ = [] | 5 => v_ = elP v3 ((n.fst + (i : Int)).toNat * 1) ∧ p_ = [] | 6 => v_ = .int .i64 (ls.getD ((n.fst + (i : Int)).toNat) 0) ∧ p_ = [] | 7 => (fun u_ p_ => ∃ (xs : List Int) (cv : Value) (okb : Bool), u_ = .tuple #[cv, .bool okb] ∧ p_ = [rowE 3 1 cv xs.length (xs.map (Value.int .i64))] ∧ (xs.length : Int) ≤ n.cnt ∧ ∀ x ∈ xs, 0 ≤ x ∧ x < n.cnt) v_ p_ | 8 => v_ = .tuple #[(tFstH (List.getD vs_ 0 undef)), .bool (tSndB (List.getD vs_ 0 undef))] ∧ p_ = [] | 9 => v_ = (tFstH (List.getD vs_ 0 undef)) ∧ p_ = [] | 10 => v_ = .bool (tSndB (List.getD vs_ 0 undef)) ∧ p_ = [] | 11 => v_ = (tFstH (List.getD vs_ 0 undef)) ∧ p_ = [] | _ => True) (List.take_append_drop 12 _).symm (by kernel_rfl) (by kernel_rfl) rfl rfl ?_ ?_
  ·
   refine ⟨?_, ?_, ?_, ?_, ?_, ?_, ?_, ?_, ?_, ?_, ?_, ?_, trivial⟩
   ·
    intro vf pf hR
    exact olQ rfl (zam [1] rfl) (zbg (zao (cs := [.int .i64 n.ins, n.sv, n.av, n.ov]) rfl rfl rfl rfl rfl (zaj 3 rfl 0 rfl)))
   ·
    intro vf pf hR
    exact ovQ rfl (zam [4] rfl) (zbg (zas rfl))
   ·
    intro vf pf hR
    exact ovQ rfl (zam [5] rfl) (zbg (zas rfl))
   ·
    intro vf pf hR
    exact ovQ rfl (zam [4] rfl) (zbg (zas rfl))
   ·
    intro vf pf hR
    exact ovQ rfl (zam [5] rfl) (zbg (zas rfl))
   ·
    intro vf pf hR
    have e3 := hR 3 (by decide)
    have e4 := hR 4 (by decide)
    exact olQ rfl (sk 27 (congrArg some e3.1) (sk 28 (congrArg some e4.1) (zaf _))) (zbg (riQ 1 rfl rfl rfl rfl (zae 1 rfl)))
   ·
    intro vf pf hR
    have e5 := hR 5 (by decide)
    exact olQ rfl (sk 29 (congrArg some e5.1) (zaf _)) (zbg (lzQ rfl rfl rfl (zae 1 rfl)))
   ·
    intro vf pf hR
    have e0 := hR 0 (by decide)
    have e1 := hR 1 (by decide)
    have e2 := hR 2 (by decide)
    have e6 := hR 6 (by decide)
    exact olQ rfl (sk 24 (congrArg some e0.1) (sk 25 (congrArg some e1.1) (sk 26 (congrArg some e2.1) (sk 30 (congrArg some e6.1) (zaf _))))) (zaq rfl rfl (fun w hm => zkw n ls _ (n.fst + (i : Int)) (ls.getD ((n.fst + (i : Int)).toNat) 0) w (hr.below hm.bel) hn ((zae 1 rfl) w hm) (by first | omega | (simp only [List.length_set]; omega)) (by omega)))
   ·
    intro vf pf hR
    have e7 : (fun u_ p_ => ∃ (xs : List Int) (cv : Value) (okb : Bool), u_ = .tuple #[cv, .bool okb] ∧ p_ = [rowE 3 1 cv xs.length (xs.map (Value.int .i64))] ∧ (xs.length : Int) ≤ n.cnt ∧ ∀ x ∈ xs, 0 ≤ x ∧ x < n.cnt) (vf 7) (pf 7) := hR 7 (by decide)
    obtain ⟨v8, vE7⟩ : ∃ x, vf 7 = x := ⟨_, rfl⟩
    obtain ⟨p9, pE7⟩ : ∃ x, pf 7 = x := ⟨_, rfl⟩
    have hR10 := e7
    rw [vE7, pE7] at hR10
    obtain ⟨xs, cv, okb, rfl, rfl, hxl, hxr⟩ := hR10
    refine Or.inl ⟨rfl, ?_⟩
    exact zci (sk 31 (congrArg some vE7) (zaf _)) (by simp only [pE7, vE7, fS] <;> rfl) (zcy (zbg (zas rfl)) (fun _ _ h => ⟨h.1.trans (by show _ = (.tuple #[(tFstH (vf 7)), .bool (tSndB (vf 7))] : Value); first | (rw [vE7]; done) | (rw [vE7]; rfl)), h.2⟩))
   ·
    intro vf pf hR
    have e7 : (fun u_ p_ => ∃ (xs : List Int) (cv : Value) (okb : Bool), u_ = .tuple #[cv, .bool okb] ∧ p_ = [rowE 3 1 cv xs.length (xs.map (Value.int .i64))] ∧ (xs.length : Int) ≤ n.cnt ∧ ∀ x ∈ xs, 0 ≤ x ∧ x < n.cnt) (vf 7) (pf 7) := hR 7 (by decide)
    obtain ⟨v8, vE7⟩ : ∃ x, vf 7 = x := ⟨_, rfl⟩
    obtain ⟨p9, pE7⟩ : ∃ x, pf 7 = x := ⟨_, rfl⟩
    have hR10 := e7
    rw [vE7, pE7] at hR10
    obtain ⟨xs, cv, okb, rfl, rfl, hxl, hxr⟩ := hR10
    have e8 : (vf 8) = .tuple #[(tFstH (vf 7)), .bool (tSndB (vf 7))] ∧ (pf 8) = [] := hR 8 (by decide)
    rw [vE7] at e8
    refine Or.inl ⟨rfl, ?_⟩
    exact zci (sk 23 (congrArg some e8.1) (zaf _)) (by simp only [pE7, vE7, e8.2, fS] <;> rfl) (zcy (zbg (zas rfl)) (fun _ _ h => ⟨h.1.trans (by show _ = ((tFstH (vf 7)) : Value); first | (rw [vE7]; done) | (rw [vE7]; rfl)), h.2⟩))
   ·
    intro vf pf hR
    have e7 : (fun u_ p_ => ∃ (xs : List Int) (cv : Value) (okb : Bool), u_ = .tuple #[cv, .bool okb] ∧ p_ = [rowE 3 1 cv xs.length (xs.map (Value.int .i64))] ∧ (xs.length : Int) ≤ n.cnt ∧ ∀ x ∈ xs, 0 ≤ x ∧ x < n.cnt) (vf 7) (pf 7) := hR 7 (by decide)
    obtain ⟨v8, vE7⟩ : ∃ x, vf 7 = x := ⟨_, rfl⟩
    obtain ⟨p9, pE7⟩ : ∃ x, pf 7 = x := ⟨_, rfl⟩
    have hR10 := e7
    rw [vE7, pE7] at hR10
    obtain ⟨xs, cv, okb, rfl, rfl, hxl, hxr⟩ := hR10
    have e8 : (vf 8) = .tuple #[(tFstH (vf 7)), .bool (tSndB (vf 7))] ∧ (pf 8) = [] := hR 8 (by decide)
    rw [vE7] at e8
    refine Or.inl ⟨rfl, ?_⟩
    exact zci (sk 23 (congrArg some e8.1) (zaf _)) (by simp only [pE7, vE7, e8.2, fS] <;> rfl) (zcy (zbg (zas rfl)) (fun _ _ h => ⟨h.1.trans (by show _ = (.bool (tSndB (vf 7)) : Value); first | (rw [vE7]; done) | (rw [vE7]; rfl)), h.2⟩))
   intro vf pf hR
   have e7 : (fun u_ p_ => ∃ (xs : List Int) (cv : Value) (okb : Bool), u_ = .tuple #[cv, .bool okb] ∧ p_ = [rowE 3 1 cv xs.length (xs.map (Value.int .i64))] ∧ (xs.length : Int) ≤ n.cnt ∧ ∀ x ∈ xs, 0 ≤ x ∧ x < n.cnt) (vf 7) (pf 7) := hR 7 (by decide)
   obtain ⟨v8, vE7⟩ : ∃ x, vf 7 = x := ⟨_, rfl⟩
   obtain ⟨p9, pE7⟩ : ∃ x, pf 7 = x := ⟨_, rfl⟩
   have hR10 := e7
   rw [vE7, pE7] at hR10
   obtain ⟨xs, cv, okb, rfl, rfl, hxl, hxr⟩ := hR10
   have e9 : (vf 9) = (tFstH (vf 7)) ∧ (pf 9) = [] := hR 9 (by decide)
   rw [vE7] at e9
   refine Or.inl ⟨rfl, ?_⟩
   exact zci (sk 32 (congrArg some e9.1) (zaf _)) (by simp only [pE7, vE7, e9.2, fS] <;> rfl) (zcy (zbg (zas rfl)) (fun _ _ h => ⟨h.1.trans (by show _ = ((tFstH (vf 7)) : Value); first | (rw [vE7]; done) | (rw [vE7]; rfl)), h.2⟩))
  intro vf pf hR
  have e7 : (fun u_ p_ => ∃ (xs : List Int) (cv : Value) (okb : Bool), u_ = .tuple #[cv, .bool okb] ∧ p_ = [rowE 3 1 cv xs.length (xs.map (Value.int .i64))] ∧ (xs.length : Int) ≤ n.cnt ∧ ∀ x ∈ xs, 0 ≤ x ∧ x < n.cnt) (vf 7) (pf 7) := hR 7 (by decide)
  obtain ⟨v8, vE7⟩ : ∃ x, vf 7 = x := ⟨_, rfl⟩
  obtain ⟨p9, pE7⟩ : ∃ x, pf 7 = x := ⟨_, rfl⟩
  have hR10 := e7
  rw [vE7, pE7] at hR10
  obtain ⟨xs, cv, okb, rfl, rfl, hxl, hxr⟩ := hR10
  have e10 : (vf 10) = .bool (tSndB (vf 7)) ∧ (pf 10) = [] := hR 10 (by decide)
  rw [vE7] at e10
  have e11 : (vf 11) = (tFstH (vf 7)) ∧ (pf 11) = [] := hR 11 (by decide)
  rw [vE7] at e11
  have q0 := hR 0 (by decide)
  have q1 := hR 1 (by decide)
  have q2 := hR 2 (by decide)
  have q3 := hR 3 (by decide)
  have q4 := hR 4 (by decide)
  have q5 := hR 5 (by decide)
  have q6 := hR 6 (by decide)
  have q8 := hR 8 (by decide)
  have q9 := hR 9 (by decide)
  have q10 := hR 10 (by decide)
  have q11 := hR 11 (by decide)
  refine zco (zbk [5, 4, 3, 2, 1, 0] _ (sk 6 (congrArg some e11.1) (sk 11 rfl (sk 20 rfl (sk 33 (congrArg some e10.1) (zaf _))))) rfl) (by simp only [pE7, vE7, q0.2, q1.2, q2.2, q3.2, q4.2, q5.2, q6.2, q8.2, q9.2, q10.2, q11.2, fS] <;> rfl) ?_
  simp only [List.drop_succ_cons, List.drop_zero]
  refine zaz 1 rfl (reQ 2 rfl ?_)
  refine zdk rfl (zfv rfl Try.underlying63 (by kernel_rfl) rfl (fun w hm => (zae 0 rfl w hm).one)) ?_
  intro g11
  refine zdn (i := 1) rfl (fun ho12 => ?_)
  refine zcd (i := 4) (z := .slice none 0 0) (bytes := 24) rfl rfl rfl rfl Try.underlying63 (by kernel_rfl) rfl rfl rfl rfl (zae 0 rfl) (zah ho12 zbr) (by first | omega | (simp only [List.length_append, List.length_cons, List.length_nil]; omega)) (zbv rs [(CRow.mk cv xs)]) (zcx crowC rs (CRow.mk cv xs) _ rfl) (fun _ => rfl) ?_
  intro v13
  refine enQ 1 rfl (zcv (reQ 1 rfl (hvQ rfl (vaQ rfl rfl rfl) (enQ 1 rfl ?_))))
  refine zbw 6 [5, 4, 3, 1, 2] rfl rfl (by decide) ?_
  refine zcz 2 rfl ?_
  exact zct (i + 1) (rs ++ [(CRow.mk cv xs)]) v13 [bigE ps, rowE 3 1 cv xs.length (xs.map (Value.int .i64))] ⟨by omega, by rw [List.length_append, List.length_singleton]; omega, fun r hr => (List.mem_append.1 hr).elim (hrs r) (fun h => by rw [List.mem_singleton] at h; subst h; show xs.length ≤ 400; omega), fun w hw => RdsAll.cons (u := CRow.mk cv xs) (hps w (zbh hw List.mem_cons_self)) (zcf (zbh hw (List.mem_cons_of_mem _ List.mem_cons_self))) (fun q hq => (List.mem_append.1 hq).elim .inr (fun h => .inl (List.mem_singleton.1 h)))⟩ (by omega) (zbk [4, 3, 2, 1, 0] _ (sk 5 (congrArg (fun x => some (Value.int .i64 x)) (by omega)) (zam [11] rfl)) rfl) (pfQ rfl)
 refine ntQ (zal rfl ?_)
 refine zba (zdq ?_)
 refine zag (zaw (zbd 2 rfl ?_))
 refine zau (zbw 4 [0, 2] rfl rfl (by decide) ?_)
 exact zck (post := [rowE 28 1 ov rs.length (rs.flatMap crowC), bigE ps]) rfl rfl (.refl _) ⟨_, rs, rfl, hps, by omega, hrs⟩
noncomputable def pBe (p : Prop) : Bool := @decide p (Classical.propDecidable p)
theorem zjt {p : Prop} (h : p) : pBe p = true := @decide_eq_true p (Classical.propDecidable p) h
theorem zju {p : Prop} (h : ¬ p) : pBe p = false := @decide_eq_false p (Classical.propDecidable p) h
theorem zwh {p : Prop} (h : pBe p = true) : p := @of_decide_eq_true p (Classical.propDecidable p) h
structure CGrp where
  v : Value
  rs : List CRow
abbrev cgrp0 : CGrp := ⟨.slice none 0 0, []⟩
def RdsGrps (w : World) (cs : List CGrp) : Prop := ∀ c ∈ cs, RdsCl w c.v c.rs
structure GrpOk (rs : List CRow) : Prop where
  pos : 1 ≤ rs.length
  len : rs.length ≤ 8
  four : ∀ r ∈ rs, r.xs.length ≤ 4
def GrpsOk (cs : List CGrp) : Prop := ∀ c ∈ cs, GrpOk c.rs
theorem zki {xs : List Int} {x : Int} : hasB xs x = true ↔ x ∈ xs := by unfold hasB; exact List.contains_iff_mem
theorem zqq {xs : List Int} {x : Int} {j : Nat} (hj : j < xs.length) (h : xs.getD j 0 = x) : hasB xs x = true := zki.2 (by rw [← h]; exact zbl hj)
theorem zve {xs : List Int} {x : Int} (h : ∀ i, i < xs.length → xs.getD i 0 ≠ x) : hasB xs x = false := by
  cases hb : hasB xs x with
  | false => rfl
  | true =>
    obtain ⟨i, hi, e⟩ := List.mem_iff_getElem.1 (zki.1 hb)
    have := h i hi
    rw [List.getD_eq_getElem?_getD, List.getElem?_eq_getElem hi] at this
    exact absurd e this
theorem zdx (xs : List Int) (x : Int) (v : Value) (w : World) (hv : RdsW w v 1 xs.length (xs.map (Value.int .i64))) (hlen : xs.length ≤ 1000000000) :
   Calls Try.prog 114 #[v, .int .i64 x] w (Ans w (.bool (hasB xs x))) := by
 refine zbf (N := 18) (args := [v, .int .i64 x]) Try.func114 rfl rfl (zbd 1 rfl (zac (zbd 1 rfl ?_)))
 refine zax ?_
 refine zka (α := Nat) [0, 1, 4] rfl (fun j => []) (fun j => [(5, .int .i64 (j : Int))]) (fun j => j ≤ xs.length ∧ ∀ i, i < j → xs.getD i 0 ≠ x) (fun j => xs.length - j) 0 ⟨by omega, fun i hi => absurd hi (by omega)⟩ (saQ rfl) (.slnil) ?_
 intro j hi1
 obtain ⟨hk1, hk2⟩ := hi1
 refine zac (zac (reQ 2 rfl (hvQ rfl (lnQ rfl rfl rfl (zab hv)) ?_)))
 refine zbj rfl rfl rfl rfl rfl rfl (fun h2 => ?_) (fun h2 => ?_)
 ·
  refine ntQ (zak rfl (zcq (sbQ (zac (reQ 2 rfl (hvQ rfl (riQ 1 rfl rfl rfl rfl (zab hv)) (hvQ rfl (liQ rfl rfl rfl (zab hv)) (zap 1 rfl ?_))))))))
  refine zbp rfl rfl rfl rfl rfl rfl (fun h3 => ?_) (fun h3 => ?_)
  ·
   refine ntQ (zak rfl (zbd 1 rfl ?_))
   refine zau (zan ?_)
   refine zge ?_
   refine zan (zai ?_)
   exact zbb rfl rfl (congrArg _ (zqq (j := j) (by omega) (by assumption)).symm)
  refine ntQ (fsQ rfl (zcv (reQ 1 rfl (hvQ rfl (vaQ rfl rfl rfl) (enQ 1 rfl ?_)))))
  exact zcr (j + 1) ⟨by omega, fun i hi => by by_cases hij : i = j; (subst hij; assumption); exact hk2 i (by omega)⟩ (by omega) (saQ rfl) (.slnil)
 refine ntQ (zal rfl ?_)
 refine zba (zdq ?_)
 refine zag (zaw (zbd 1 rfl ?_))
 exact zau (zbb rfl rfl (congrArg _ (zve (fun i hi => hk2 i (by omega))).symm))
def CntB (zs : List Int) (T : Nat) : Prop := ∀ q, 0 ≤ zs.getD q 0 ∧ zs.getD q 0 ≤ (T : Int)
theorem zfd (n T : Nat) : CntB (List.replicate n (0 : Int)) T := fun q => by
  have : (List.replicate n (0 : Int)).getD q 0 = 0 := by
    rw [List.getD_eq_getElem?_getD]
    by_cases h : q < n
    · rw [List.getElem?_eq_getElem (by rw [List.length_replicate]; exact h), Option.getD_some, List.getElem_replicate]
    · rw [List.getElem?_eq_none (by rw [List.length_replicate]; omega)]; rfl
  rw [this]; omega
theorem zbc {zs : List Int} {T U : Nat} (h : CntB zs T) (hu : T ≤ U) : CntB zs U := fun q => by have := h q; omega
theorem zkj (zs : List Int) (j q : Nat) (v : Int) : (zs.set j v).getD q 0 = if j = q ∧ j < zs.length then v else zs.getD q 0 := by
  rw [List.getD_eq_getElem?_getD, List.getD_eq_getElem?_getD, List.getElem?_set]
  by_cases h : j = q
  · subst h
    by_cases h2 : j < zs.length
    · simp [h2]
    · simp [h2]
  · simp [h]
theorem zbs {zs : List Int} {T j : Nat} (h : CntB zs T) : CntB (zs.set j (zs.getD j 0 + 1)) (T + 1) := fun q => by
  rw [zkj]
  split
  · have := h j; omega
  · have := h q; omega
def incT (zs xs : List Int) : Nat → List Int
  | 0 => zs
  | k + 1 => (incT zs xs k).set (xs.getD k 0).toNat ((incT zs xs k).getD (xs.getD k 0).toNat 0 + 1)
def usA (n : Ln) : Nat → List Int
  | 0 => List.replicate n.cnt.toNat 0
  | i + 1 => incT (usA n i) (n.ls.getD i lt0).xs (n.ls.getD i lt0).xs.length
def usB (n : Ln) : Nat → List Int
  | 0 => usA n n.ls.length
  | j + 1 => incT (usB n j) (n.ss.getD j sq0).xs (n.ss.getD j sq0).xs.length
def usK (n : Ln) : List Int := incT (usB n n.ss.length) n.os n.os.length
theorem zib (zs xs : List Int) : ∀ k, (incT zs xs k).length = zs.length
  | 0 => rfl
  | k + 1 => by show (List.set _ _ _).length = _; rw [List.length_set]; exact zib zs xs k
theorem zob (n : Ln) : ∀ i, (usA n i).length = n.cnt.toNat
  | 0 => List.length_replicate
  | i + 1 => by show (incT _ _ _).length = _; rw [zib]; exact zob n i
theorem zle (n : Ln) : ∀ i, (usB n i).length = n.cnt.toNat
  | 0 => zob n _
  | i + 1 => by show (incT _ _ _).length = _; rw [zib]; exact zle n i
theorem zoa (n : Ln) : (usK n).length = n.cnt.toNat := by unfold usK; rw [zib, zle]
structure Le where
  u : Int
  f : Int
abbrev le0 : Le := ⟨0, 0⟩
def leC (e : Le) : List Value := [.int .i64 e.u, .int .i64 e.f]
def LeIn (n : Ln) (e : Le) : Prop := (-1 ≤ e.u ∧ e.u < n.ls.length) ∧ (-1 ≤ e.f ∧ e.f < n.ss.length) ∧ (0 ≤ e.u ∨ 0 ≤ e.f)
def LeP (n : Ln) (e : Le) : Prop := LeIn n e ∧ (0 ≤ e.f → (n.ss.getD e.f.toNat sq0).kd = 0) ∧ (0 ≤ e.u → 0 ≤ e.f → (n.ss.getD e.f.toNat sq0).xs.getD 0 0 = n.fst + e.u ∧ (usK n).getD (n.fst + e.u).toNat 0 = 1)
def outK (n : Ln) (e : Le) : Int := if 0 ≤ e.f then 1 + n.ins + e.f else n.fst + e.u
structure Bk where
  kd : Int
  it : Int
  bv : Value
  es : List Le
abbrev bk0 : Bk := ⟨0, 0, .slice none 0 0, []⟩
def bkC (b : Bk) : List Value := [.int .i64 b.kd, .int .i64 b.it, b.bv]
structure RdsBk (w : World) (v : Value) (bs : List Bk) : Prop where
  row : RdsW w v 3 bs.length (bs.flatMap bkC)
  es : ∀ b ∈ bs, RdsW w b.bv 2 b.es.length (b.es.flatMap leC)
theorem RdsBk.below {w w' : World} {v : Value} {bs : List Bk} (h : RdsBk w v bs) (hb : Below w.heap.size w w') : RdsBk w' v bs := ⟨h.row.below hb, fun b hbb => (h.es b hbb).below hb⟩
theorem RdsBk.at {w : World} {v : Value} {bs : List Bk} (h : RdsBk w v bs) {k : Nat} (hk : k < bs.length) : RdsW w (bs.getD k bk0).bv 2 (bs.getD k bk0).es.length ((bs.getD k bk0).es.flatMap leC) := h.es _ (zbl hk)
def setA (ys acc : List Int) (x : Int) : List Int := if (0 < x ∧ hasB ys x = false) ∧ (acc.length = 0 ∨ acc.getD ((acc.length : Int) - 1).toNat 0 ≠ x) then acc ++ [x] else acc
def setL (xs ys : List Int) : Nat → List Int
  | 0 => []
  | i + 1 => setA ys (setL xs ys i) ((sortR xs).getD i 0)
def setK (xs ys : List Int) : List Int := setL xs ys xs.length
theorem zsl {xs ys zs : List Int} {i : Nat} (hz : zs = setL xs ys i) (h1 : 0 < (sortR xs).getD i 0) (h2 : hasB ys ((sortR xs).getD i 0) = false) (h3 : zs.length = 0 ∨ zs.getD ((zs.length : Int) - 1).toNat 0 ≠ (sortR xs).getD i 0) : zs ++ [(sortR xs).getD i 0] = setL xs ys (i + 1) := by
  subst hz
  show _ = setA ys _ _
  unfold setA; rw [if_pos ⟨⟨h1, h2⟩, h3⟩]
theorem zsm {xs ys zs : List Int} {i : Nat} (hz : zs = setL xs ys i) (h : (sortR xs).getD i 0 ≤ 0 ∨ hasB ys ((sortR xs).getD i 0) = true ∨ (zs.length ≠ 0 ∧ zs.getD ((zs.length : Int) - 1).toNat 0 = (sortR xs).getD i 0)) : zs = setL xs ys (i + 1) := by
  subst hz
  show _ = setA ys _ _
  unfold setA; rw [if_neg ?_]
  rintro ⟨⟨a, b⟩, c⟩
  rcases h with h | h | ⟨h, h'⟩
  · omega
  · rw [h] at b; cases b
  · rcases c with c | c
    · exact h c
    · exact c h'
theorem zoi (xs ys : List Int) : ∀ i, (setL xs ys i).length ≤ i
  | 0 => Nat.le_refl _
  | i + 1 => by
    have := zoi xs ys i
    show (setA ys _ _).length ≤ _
    unfold setA; split
    · rw [List.length_append, List.length_singleton]; omega
    · omega
theorem zll (xs ys : List Int) : (setK xs ys).length ≤ xs.length := zoi xs ys _
def insK (n : Ln) (e : Le) : List Int := if 0 ≤ e.u then setK (n.ls.getD e.u.toNat lt0).xs [] else setK (n.ss.getD e.f.toNat sq0).xs []
theorem zir {n : Ln} (hok : LnOk n) {e : Le} (he : LeIn n e) : (insK n e).length ≤ 4 := by
  obtain ⟨⟨a, b⟩, ⟨c, d⟩, g⟩ := he
  unfold insK; split
  · have h1 := (hok.lt e.u.toNat (by omega)).1.1
    have h2 := zll (n.ls.getD e.u.toNat lt0).xs []
    omega
  · have h1 := (hok.sq e.f.toNat (by omega)).1.len
    have h2 := zll (n.ss.getD e.f.toNat sq0).xs []
    omega
def insL (n : Ln) (es : List Le) : Nat → List Int
  | 0 => []
  | k + 1 => insL n es k ++ insK n (es.getD k le0)
def outL (n : Ln) (es : List Le) : Nat → List Int
  | 0 => []
  | k + 1 => outL n es k ++ [outK n (es.getD k le0)]
theorem zhd (n : Ln) (es : List Le) : ∀ k, (outL n es k).length = k
  | 0 => rfl
  | k + 1 => by unfold outL; rw [List.length_append, zhd n es k]; rfl
def pinsK (n : Ln) (es : List Le) : List Int := setK (insL n es es.length) (outL n es es.length)
theorem zoz {n : Ln} (hok : LnOk n) {es : List Le} (he : ∀ k, k < es.length → LeIn n (es.getD k le0)) : ∀ k, k ≤ es.length → (insL n es k).length ≤ 4 * k
  | 0, _ => Nat.le_refl _
  | k + 1, hk => by
    have h1 := zoz hok he k (by omega)
    have h2 := zir hok (he k (by omega))
    unfold insL; rw [List.length_append]; omega
def BkIn (n : Ln) (b : Bk) : Prop := (b.kd = 0 ∧ 0 ≤ b.it ∧ b.it < n.ins) ∨ (b.kd = 1 ∧ 0 ≤ b.it ∧ b.it < n.os.length) ∨ (b.kd = 2 ∧ 0 ≤ b.it ∧ b.it < n.ss.length) ∨ (b.kd = 3 ∧ ∀ k, k < b.es.length → LeP n (b.es.getD k le0))
def BlP (n : Ln) (b : Bk) : Prop := BkIn n b ∧ (b.kd = 3 → b.it = 0 ∧ (1 ≤ b.es.length ∧ b.es.length ≤ 2) ∧ (pinsK n b.es).length ≤ 5) ∧ (b.kd ≠ 3 → b.es.length = 0 ∧ (b.kd = 2 → (n.ss.getD b.it.toNat sq0).kd = 1))
open Classical in
noncomputable def pinN (n : Ln) (b : Bk) : List Int := if ¬ BkIn n b then [] else if b.kd = 0 then [] else if b.kd = 1 then [n.os.getD b.it.toNat 0] else if b.kd = 2 then (n.ss.getD b.it.toNat sq0).xs else pinsK n b.es
open Classical in
noncomputable def outNd (n : Ln) (b : Bk) : List Int := if ¬ BkIn n b then [] else if b.kd = 0 then [1 + b.it] else if b.kd = 1 then [] else if b.kd = 2 then [1 + n.ins + b.it] else outL n b.es b.es.length
theorem BlP.rng {n : Ln} {b : Bk} (h : BlP n b) : (b.kd = 0 → 0 ≤ b.it ∧ b.it < n.ins) ∧ (b.kd = 1 → 0 ≤ b.it ∧ b.it < n.os.length) ∧ (b.kd = 2 → 0 ≤ b.it ∧ b.it < n.ss.length) ∧ b.es.length ≤ 2 ∧ ∀ k, k < b.es.length → LeIn n (b.es.getD k le0) := by
  obtain ⟨h1, h2, h3⟩ := h
  have hl : b.es.length ≤ 2 := by
    by_cases e : b.kd = 3
    · exact (h2 e).2.1.2
    · have := (h3 e).1; omega
  have hz : b.kd ≠ 3 → b.es.length = 0 := fun e => (h3 e).1
  rcases h1 with ⟨p1, p2, p3⟩ | ⟨p1, p2, p3⟩ | ⟨p1, p2, p3⟩ | ⟨p1, p2⟩
  · exact ⟨fun _ => ⟨p2, p3⟩, by omega, by omega, hl, fun k hk => by have := hz (by omega); omega⟩
  · exact ⟨by omega, fun _ => ⟨p2, p3⟩, by omega, hl, fun k hk => by have := hz (by omega); omega⟩
  · exact ⟨by omega, by omega, fun _ => ⟨p2, p3⟩, hl, fun k hk => by have := hz (by omega); omega⟩
  · exact ⟨by omega, by omega, by omega, hl, fun k hk => (p2 k hk).1⟩
def comL (x y : List Int) : Nat → Int
  | 0 => 0
  | i + 1 => comL x y i + if hasB y (x.getD i 0) then 1 else 0
theorem zrc (x y : List Int) : ∀ i, 0 ≤ comL x y i ∧ comL x y i ≤ i
  | 0 => ⟨Int.le_refl _, Int.le_refl _⟩
  | i + 1 => by have := zrc x y i; unfold comL; split <;> omega
def comK (n : Ln) (a b : Le) : Int := comL (setK (insK n a ++ [outK n a]) []) (insK n b ++ [outK n b]) (setK (insK n a ++ [outK n a]) []).length
def LesIn (n : Ln) (es : List Le) : Prop := ∀ k, k < es.length → LeIn n (es.getD k le0)
def BsOk (bs : List Bk) : Prop := ∀ b ∈ bs, (0 ≤ b.kd ∧ b.kd ≤ 3) ∧ b.es.length ≤ 2
def BsNil (bs : List Bk) : Prop := ∀ b ∈ bs, (0 ≤ b.kd ∧ b.kd ≤ 3) ∧ b.es = [] ∧ b.bv = .slice none 0 0
def EsR (w : World) (bs : List Bk) : Prop := ∀ b ∈ bs, RdsW w b.bv 2 b.es.length (b.es.flatMap leC)
theorem BsNil.nil : BsNil [] := fun b hb => by cases hb
theorem BsNil.app {bs : List Bk} (h : BsNil bs) {k i : Int} (hk : 0 ≤ k ∧ k ≤ 3) : BsNil (bs ++ [Bk.mk k i (.slice none 0 0) []]) := fun b hb => by
  rcases List.mem_append.1 hb with hb | hb
  · exact h b hb
  · rw [List.mem_singleton] at hb; subst hb; exact ⟨hk, rfl, rfl⟩
theorem BsNil.ok {bs : List Bk} (h : BsNil bs) : BsOk bs := fun b hb => by obtain ⟨h1, h2, -⟩ := h b hb; exact ⟨h1, by rw [h2]; decide⟩
theorem BsNil.es {bs : List Bk} (h : BsNil bs) (w : World) : EsR w bs := fun b hb => by
  obtain ⟨-, h2, h3⟩ := h b hb
  rw [h2, h3]; exact ⟨_, _, rfl, rfl, ⟨by decide, by decide⟩, fun h => absurd h (by decide)⟩
theorem BsOk.app {bs : List Bk} (h : BsOk bs) {b : Bk} (hb : (0 ≤ b.kd ∧ b.kd ≤ 3) ∧ b.es.length ≤ 2) : BsOk (bs ++ [b]) := fun x hx => by
  rcases List.mem_append.1 hx with hx | hx
  · exact h x hx
  · rw [List.mem_singleton] at hx; subst hx; exact hb
theorem EsR.app {w : World} {bs : List Bk} (h : EsR w bs) {b : Bk} (hb : RdsW w b.bv 2 b.es.length (b.es.flatMap leC)) : EsR w (bs ++ [b]) := fun x hx => by
  rcases List.mem_append.1 hx with hx | hx
  · exact h x hx
  · rw [List.mem_singleton] at hx; subst hx; exact hb
theorem LesIn.two {n : Ln} {es : List Le} (h : LesIn n es) {i k : Nat} (hi : i < es.length) (hk : k < es.length) : ∀ q, q < [es.getD i le0, es.getD k le0].length → LeIn n ([es.getD i le0, es.getD k le0].getD q le0)
  | 0, _ => h i hi
  | 1, _ => h k hk
  | q + 2, hq => absurd hq (by simp only [List.length_cons, List.length_nil]; omega)
theorem zfw (n : Ln) (w : World) (hr : RdsLn w n) (hok : LnOk n) :
   Calls Try.prog 112 #[.agg #[.int .i64 n.ins, n.sv, n.lv, n.ov]] w (Ret w (fun v' post => post = [rowE 3 1 v' ((usK n)).length (((usK n)).map (Value.int .i64))])) := by
 have hso := sml hr.ou
 have hss := hr.sq.small
 have hsl := hr.lt.small
 have hcnt : n.cnt = 1 + n.ins + n.ss.length + n.ls.length := rfl
 have hfst : n.fst = 1 + n.ins + n.ss.length := rfl
 obtain ⟨⟨si0, si1⟩, s2, s3, s4⟩ := hok.sz
 refine zbf (N := 94) (args := [.agg #[.int .i64 n.ins, n.sv, n.lv, n.ov]]) Try.func112 rfl rfl (srQ ?_)
 refine zdj rfl (zch rfl rfl) ?_
 intro b1
 refine zaz 1 rfl (srQ (hvQ rfl (zao (cs := [.int .i64 n.ins, n.sv, n.lv, n.ov]) rfl rfl rfl rfl rfl (zaj 0 rfl 0 rfl)) ?_))
 refine zds rfl (zaq rfl rfl (fun w hm => zav (by have h9 := zgs n w (hr.below hm.bel); rw [zip hok.sz] at h9; exact h9))) (zdk rfl (zdw (z := .int .i64 0) (s := 1) (bytes := 8) (n := (List.replicate (n.cnt).toNat (0 : Int)).length) (cs := ((List.replicate (n.cnt).toNat (0 : Int)).map (Value.int .i64))) rfl Try.underlying28 rfl (by decide) rfl rfl (by first | (rw [List.length_replicate]; done) | (rw [List.length_replicate]; omega)) (by first | (rw [List.length_replicate]; done) | (rw [List.length_replicate]; omega)) (by rw [List.length_replicate]; omega) (zec _)) ?_)
 intro g2
 refine zaz 1 rfl (zac (zbd 1 rfl (zax ?_)))
 refine zhy (α := Nat) (β := List Int) [0, 1, 2, 3] rfl (fun i zs => [rowE 3 1 (.slice (some ⟨g2, 0, none⟩) ((List.replicate (n.cnt).toNat (0 : Int)).length) ((List.replicate (n.cnt).toNat (0 : Int)).length)) zs.length (zs.map (Value.int .i64)), boxE b1 #[.int .i64 n.ins, n.sv, n.lv, n.ov] 30]) (fun i zs => [(4, .int .i64 (i : Int))]) (fun i zs => i ≤ n.ls.length ∧ zs.length = n.cnt.toNat ∧ CntB zs (4 * i) ∧ zs = usA n i) (fun i zs => n.ls.length - i) 0 (List.replicate n.cnt.toNat (0 : Int)) ⟨Nat.zero_le _, List.length_replicate, zfd _ _, rfl⟩ (saQ rfl) (pfQ rfl) ?_
 intro i zs hi3
 obtain ⟨hi, hlzs, hczs, hezs⟩ := hi3
 refine zac (zac (reQ 1 rfl (hvQ rfl (fdQ 2 rfl rfl rfl) (hvQ rfl (zad rfl rfl rfl (zaa 1 rfl rfl)) (hvQ rfl (lnQ rfl rfl rfl (zab ((hr).lt.row))) ?_)))))
 refine zbj rfl rfl rfl rfl rfl rfl (fun h4 => ?_) (fun h4 => ?_)
 ·
  refine ntQ (zak rfl (zcq (sbQ (zbd 1 rfl ?_))))
  refine zax ?_
  refine zhy (α := Nat) (β := List Int) [0, 1, 2, 3, 4, 16] rfl (fun k us => [rowE 3 1 (.slice (some ⟨g2, 0, none⟩) ((List.replicate (n.cnt).toNat (0 : Int)).length) ((List.replicate (n.cnt).toNat (0 : Int)).length)) us.length (us.map (Value.int .i64)), boxE b1 #[.int .i64 n.ins, n.sv, n.lv, n.ov] 30]) (fun k us => [(5, .int .i64 (k : Int))]) (fun k us => k ≤ (n.ls.getD i lt0).xs.length ∧ us.length = n.cnt.toNat ∧ CntB us (4 * i + k) ∧ us = incT (usA n i) (n.ls.getD i lt0).xs k) (fun k us => (n.ls.getD i lt0).xs.length - k) 0 zs ⟨Nat.zero_le _, hlzs, zbc hczs (by omega), hezs⟩ (saQ rfl) (pfQ rfl) ?_
  intro k us hi5
  obtain ⟨hk, hlus, hcus, heus⟩ := hi5
  refine zac (zac (reQ 1 rfl (hvQ rfl (fdQ 2 rfl rfl rfl) (hvQ rfl (zad rfl rfl rfl (zaa 1 rfl rfl)) (zap 1 rfl (hvQ rfl (riQ 2 rfl rfl rfl rfl (zab ((hr).lt.row))) (hvQ rfl (zbe (k0 := 0) rfl rfl rfl (zab ((hr).lt.row)) (by omega)) ?_)))))))
  refine hvQ rfl (zar (u := (n.ls.getD i lt0).iv) rfl rfl rfl (zab ((hr).lt.row)) ((zce ltC 2 (fun _ => rfl) n.ls lt0 (show i < _ by omega) (by decide)).trans rfl)) (hvQ rfl (lnQ rfl rfl rfl (zab ((hr).lt.at (d := lt0) (k := i) (by omega)))) ?_)
  refine zbj rfl rfl rfl rfl rfl rfl (fun h6 => ?_) (fun h6 => ?_)
  ·
   refine ntQ (zak rfl (zcq (sbQ (zay ?_))))
   have hb9 := (hok.lt i (by omega)).1.2 k (by omega)
   have hl9 := (hok.lt i (by omega)).1.1
   have hc9 := hcus ((n.ls.getD i lt0).xs.getD k 0).toNat
   refine zap 1 rfl (hvQ rfl (fdQ 2 rfl rfl rfl) (hvQ rfl (zad rfl rfl rfl (zaa 1 rfl rfl)) (zap 1 rfl (hvQ rfl (riQ 2 rfl rfl rfl rfl (zab ((hr).lt.row))) (hvQ rfl (zbe (k0 := 0) rfl rfl rfl (zab ((hr).lt.row)) (by omega)) ?_)))))
   refine hvQ rfl (zar (u := (n.ls.getD i lt0).iv) rfl rfl rfl (zab ((hr).lt.row)) ((zce ltC 2 (fun _ => rfl) n.ls lt0 (show i < _ by omega) (by decide)).trans rfl)) (zap 1 rfl (hvQ rfl (riQ 1 rfl rfl rfl rfl (zab ((hr).lt.at (d := lt0) (k := i) (by omega)))) (hvQ rfl (zar (u := .int .i64 (((n.ls.getD i lt0).xs).getD k 0)) rfl rfl rfl (zab ((hr).lt.at (d := lt0) (k := i) (by omega))) (zbn (show _ < ((n.ls.getD i lt0).xs).length by omega))) (hvQ rfl (riQ 1 rfl rfl rfl rfl (zae 0 rfl)) (hvQ rfl (lzQ rfl rfl rfl (zae 0 rfl)) (hvQ rfl (vaQ rfl rfl rfl) (hvQ rfl (riQ 1 rfl rfl rfl rfl (zae 0 rfl)) ?_)))))))
   refine zda (i := 0) (n' := (us.set ((((n.ls.getD i lt0).xs).getD k 0).toNat) ((us.getD ((((n.ls.getD i lt0).xs).getD k 0).toNat) 0) + 1)).length) (xs' := ((us.set ((((n.ls.getD i lt0).xs).getD k 0).toNat) ((us.getD ((((n.ls.getD i lt0).xs).getD k 0).toNat) 0) + 1)).map (Value.int .i64))) rfl rfl rfl rfl rfl rfl rfl rfl (by first | omega | (simp only [List.length_set]; omega)) List.length_set.symm (zdd _ _ _) rfl (zbu (zcv (reQ 1 rfl (hvQ rfl (vaQ rfl rfl rfl) (enQ 1 rfl ?_)))))
   exact zbq (k + 1) (us.set ((((n.ls.getD i lt0).xs).getD k 0).toNat) ((us.getD ((((n.ls.getD i lt0).xs).getD k 0).toNat) 0) + 1)) ⟨by omega, by first | assumption | (rw [List.length_set]; assumption), by first | exact zbs (by assumption) | exact zbc (by assumption) (by omega), by rw [heus]; rfl⟩ (by omega) (saQ rfl) (pfQ rfl)
  refine ntQ (zal rfl ?_)
  refine zba (zdq ?_)
  refine zag (zcv (zay ?_))
  have hl9 := (hok.lt i (by omega)).1.1
  refine zap 1 rfl (hvQ rfl (vaQ rfl rfl rfl) (enQ 1 rfl ?_))
  exact zbq (i + 1) us ⟨by omega, by first | assumption | (rw [List.length_set]; assumption), by first | exact zbs (by assumption) | exact zbc (by assumption) (by omega), by rw [heus, show k = (n.ls.getD i lt0).xs.length by omega]; rfl⟩ (by omega) (saQ rfl) (pfQ rfl)
 refine ntQ (zal rfl ?_)
 refine zba (zdq ?_)
 refine zag (zaw (zac (zbd 1 rfl (zax ?_))))
 refine zhy (α := Nat) (β := List Int) [0, 1, 2, 3, 16] rfl (fun j vs => [rowE 3 1 (.slice (some ⟨g2, 0, none⟩) ((List.replicate (n.cnt).toNat (0 : Int)).length) ((List.replicate (n.cnt).toNat (0 : Int)).length)) vs.length (vs.map (Value.int .i64)), boxE b1 #[.int .i64 n.ins, n.sv, n.lv, n.ov] 30]) (fun j vs => [(6, .int .i64 (j : Int))]) (fun j vs => j ≤ n.ss.length ∧ vs.length = n.cnt.toNat ∧ CntB vs (1600 + 4 * j) ∧ vs = usB n j) (fun j vs => n.ss.length - j) 0 zs ⟨Nat.zero_le _, hlzs, zbc hczs (by omega), by rw [hezs, show i = n.ls.length by omega]; rfl⟩ (saQ rfl) (pfQ rfl) ?_
 intro j vs hi7
 obtain ⟨hj, hlvs, hcvs, hevs⟩ := hi7
 refine zac (zac (reQ 1 rfl (hvQ rfl (fdQ 1 rfl rfl rfl) (hvQ rfl (zad rfl rfl rfl (zaa 1 rfl rfl)) (hvQ rfl (lnQ rfl rfl rfl (zab ((hr).sq.row))) ?_)))))
 refine zbj rfl rfl rfl rfl rfl rfl (fun h8 => ?_) (fun h8 => ?_)
 ·
  refine ntQ (zak rfl (zcq (sbQ (zbd 1 rfl ?_))))
  refine zax ?_
  refine zhy (α := Nat) (β := List Int) [0, 1, 2, 3, 6, 16, 48] rfl (fun q ws => [rowE 3 1 (.slice (some ⟨g2, 0, none⟩) ((List.replicate (n.cnt).toNat (0 : Int)).length) ((List.replicate (n.cnt).toNat (0 : Int)).length)) ws.length (ws.map (Value.int .i64)), boxE b1 #[.int .i64 n.ins, n.sv, n.lv, n.ov] 30]) (fun q ws => [(7, .int .i64 (q : Int))]) (fun q ws => q ≤ (n.ss.getD j sq0).xs.length ∧ ws.length = n.cnt.toNat ∧ CntB ws (1600 + 4 * j + q) ∧ ws = incT (usB n j) (n.ss.getD j sq0).xs q) (fun q ws => (n.ss.getD j sq0).xs.length - q) 0 vs ⟨Nat.zero_le _, hlvs, zbc hcvs (by omega), hevs⟩ (saQ rfl) (pfQ rfl) ?_
  intro q ws hi9
  obtain ⟨hq, hlws, hcws, hews⟩ := hi9
  refine zac (zac (reQ 1 rfl (hvQ rfl (fdQ 1 rfl rfl rfl) (hvQ rfl (zad rfl rfl rfl (zaa 1 rfl rfl)) (zap 1 rfl (hvQ rfl (riQ 3 rfl rfl rfl rfl (zab ((hr).sq.row))) (hvQ rfl (zbe (k0 := 2) rfl rfl rfl (zab ((hr).sq.row)) (by omega)) ?_)))))))
  refine hvQ rfl (zar (u := (n.ss.getD j sq0).iv) rfl rfl rfl (zab ((hr).sq.row)) ((zce sqC 3 (fun _ => rfl) n.ss sq0 (show j < _ by omega) (by decide)).trans rfl)) (hvQ rfl (lnQ rfl rfl rfl (zab ((hr).sq.at (d := sq0) (k := j) (by omega)))) ?_)
  refine zbj rfl rfl rfl rfl rfl rfl (fun h10 => ?_) (fun h10 => ?_)
  ·
   refine ntQ (zak rfl (zcq (sbQ (zay ?_))))
   have hb9 := (hok.sq j (by omega)).2 q (by omega)
   have hl9 := (hok.sq j (by omega)).1.kind
   have hc9 := hcws ((n.ss.getD j sq0).xs.getD q 0).toNat
   refine zap 1 rfl (hvQ rfl (fdQ 1 rfl rfl rfl) (hvQ rfl (zad rfl rfl rfl (zaa 1 rfl rfl)) (zap 1 rfl (hvQ rfl (riQ 3 rfl rfl rfl rfl (zab ((hr).sq.row))) (hvQ rfl (zbe (k0 := 2) rfl rfl rfl (zab ((hr).sq.row)) (by omega)) ?_)))))
   refine hvQ rfl (zar (u := (n.ss.getD j sq0).iv) rfl rfl rfl (zab ((hr).sq.row)) ((zce sqC 3 (fun _ => rfl) n.ss sq0 (show j < _ by omega) (by decide)).trans rfl)) (zap 1 rfl (hvQ rfl (riQ 1 rfl rfl rfl rfl (zab ((hr).sq.at (d := sq0) (k := j) (by omega)))) (hvQ rfl (zar (u := .int .i64 (((n.ss.getD j sq0).xs).getD q 0)) rfl rfl rfl (zab ((hr).sq.at (d := sq0) (k := j) (by omega))) (zbn (show _ < ((n.ss.getD j sq0).xs).length by omega))) (hvQ rfl (riQ 1 rfl rfl rfl rfl (zae 0 rfl)) (hvQ rfl (lzQ rfl rfl rfl (zae 0 rfl)) (hvQ rfl (vaQ rfl rfl rfl) (hvQ rfl (riQ 1 rfl rfl rfl rfl (zae 0 rfl)) ?_)))))))
   refine zda (i := 0) (n' := (ws.set ((((n.ss.getD j sq0).xs).getD q 0).toNat) ((ws.getD ((((n.ss.getD j sq0).xs).getD q 0).toNat) 0) + 1)).length) (xs' := ((ws.set ((((n.ss.getD j sq0).xs).getD q 0).toNat) ((ws.getD ((((n.ss.getD j sq0).xs).getD q 0).toNat) 0) + 1)).map (Value.int .i64))) rfl rfl rfl rfl rfl rfl rfl rfl (by first | omega | (simp only [List.length_set]; omega)) List.length_set.symm (zdd _ _ _) rfl (zbu (zcv (reQ 1 rfl (hvQ rfl (vaQ rfl rfl rfl) (enQ 1 rfl ?_)))))
   exact zbq (q + 1) (ws.set ((((n.ss.getD j sq0).xs).getD q 0).toNat) ((ws.getD ((((n.ss.getD j sq0).xs).getD q 0).toNat) 0) + 1)) ⟨by omega, by first | assumption | (rw [List.length_set]; assumption), by first | exact zbs (by assumption) | exact zbc (by assumption) (by omega), by rw [hews]; rfl⟩ (by omega) (saQ rfl) (pfQ rfl)
  refine ntQ (zal rfl ?_)
  refine zba (zdq ?_)
  refine zag (zcv (zay ?_))
  have hl9 := (hok.sq j (by omega)).1.kind
  refine zap 1 rfl (hvQ rfl (vaQ rfl rfl rfl) (enQ 1 rfl ?_))
  exact zbq (j + 1) ws ⟨by omega, by first | assumption | (rw [List.length_set]; assumption), by first | exact zbs (by assumption) | exact zbc (by assumption) (by omega), by rw [hews, show q = (n.ss.getD j sq0).xs.length by omega]; rfl⟩ (by omega) (saQ rfl) (pfQ rfl)
 refine ntQ (zal rfl ?_)
 refine zba (zdq ?_)
 refine zag (zaw (zac (zbd 1 rfl (zax ?_))))
 refine zhy (α := Nat) (β := List Int) [0, 1, 2, 3, 16, 48] rfl (fun k us => [rowE 3 1 (.slice (some ⟨g2, 0, none⟩) ((List.replicate (n.cnt).toNat (0 : Int)).length) ((List.replicate (n.cnt).toNat (0 : Int)).length)) us.length (us.map (Value.int .i64)), boxE b1 #[.int .i64 n.ins, n.sv, n.lv, n.ov] 30]) (fun k us => [(8, .int .i64 (k : Int))]) (fun k us => k ≤ n.os.length ∧ us.length = n.cnt.toNat ∧ CntB us (1650 + k) ∧ us = incT (usB n n.ss.length) n.os k) (fun k us => n.os.length - k) 0 vs ⟨Nat.zero_le _, hlvs, zbc hcvs (by omega), by rw [hevs, show j = n.ss.length by omega]; rfl⟩ (saQ rfl) (pfQ rfl) ?_
 intro k us hi11
 obtain ⟨hk, hlus, hcus, heus⟩ := hi11
 refine zac (zac (reQ 1 rfl (hvQ rfl (fdQ 3 rfl rfl rfl) (hvQ rfl (zad rfl rfl rfl (zaa 1 rfl rfl)) (hvQ rfl (lnQ rfl rfl rfl (zab ((hr).ou))) ?_)))))
 refine zbj rfl rfl rfl rfl rfl rfl (fun h12 => ?_) (fun h12 => ?_)
 ·
  refine ntQ (zak rfl (zcq (sbQ (zay ?_))))
  have hb9 := hok.ou k (by omega)
  have hc9 := hcus (n.os.getD k 0).toNat
  refine zap 1 rfl (hvQ rfl (fdQ 3 rfl rfl rfl) (hvQ rfl (zad rfl rfl rfl (zaa 1 rfl rfl)) (zap 1 rfl (hvQ rfl (riQ 1 rfl rfl rfl rfl (zab ((hr).ou))) (hvQ rfl (liQ rfl rfl rfl (zab ((hr).ou))) (hvQ rfl (riQ 1 rfl rfl rfl rfl (zae 0 rfl)) (hvQ rfl (lzQ rfl rfl rfl (zae 0 rfl)) (hvQ rfl (vaQ rfl rfl rfl) (hvQ rfl (riQ 1 rfl rfl rfl rfl (zae 0 rfl)) ?_)))))))))
  refine zda (i := 0) (n' := (us.set ((n.os.getD k 0).toNat) ((us.getD ((n.os.getD k 0).toNat) 0) + 1)).length) (xs' := ((us.set ((n.os.getD k 0).toNat) ((us.getD ((n.os.getD k 0).toNat) 0) + 1)).map (Value.int .i64))) rfl rfl rfl rfl rfl rfl rfl rfl (by first | omega | (simp only [List.length_set]; omega)) List.length_set.symm (zdd _ _ _) rfl (zbu (zcv (reQ 1 rfl (hvQ rfl (vaQ rfl rfl rfl) (enQ 1 rfl ?_)))))
  exact zbq (k + 1) (us.set ((n.os.getD k 0).toNat) ((us.getD ((n.os.getD k 0).toNat) 0) + 1)) ⟨by omega, by first | assumption | (rw [List.length_set]; assumption), by first | exact zbs (by assumption) | exact zbc (by assumption) (by omega), by rw [heus]; rfl⟩ (by omega) (saQ rfl) (pfQ rfl)
 refine ntQ (zal rfl ?_)
 refine zba (zdq ?_)
 refine zag (zaw (zbd 2 rfl ?_))
 exact zau (zck (post := [rowE 3 1 (.slice (some ⟨g2, 0, none⟩) ((List.replicate (n.cnt).toNat (0 : Int)).length) ((List.replicate (n.cnt).toNat (0 : Int)).length)) us.length (us.map (Value.int .i64))]) rfl rfl (slQ [0] rfl) (by rw [heus, show k = n.os.length by omega]; rfl))
theorem zhe (xs ys : List Int) (v u : Value) (w : World) (hv : RdsW w v 1 xs.length (xs.map (Value.int .i64))) (hu : RdsW w u 1 ys.length (ys.map (Value.int .i64))) (hxl : xs.length ≤ 1000000) (hyl : ys.length ≤ 1000000) :
   Calls Try.prog 73 #[v, u] w (Ret w (fun v' post => post = [rowE 3 1 v' ((setK xs ys)).length (((setK xs ys)).map (Value.int .i64))])) := by
 refine zbf (N := 57) (args := [v, u]) Try.func73 rfl rfl (zbd 1 rfl (zac (reQ 1 rfl ?_)))
 refine zfg rfl rfl rfl (zaq rfl rfl (fun w hm => zow v xs w (hv.below hm.bel) (by omega))) ?_
 intro v1 p2 hR3
 subst hR3
 refine zaz 1 rfl (srQ ?_)
 refine zdk rfl (zbz (s := 1) rfl Try.underlying28 rfl) ?_
 intro g4
 refine zaz 1 rfl (zac (zbd 1 rfl (zax ?_)))
 refine zgn (α := Nat) (β := Value) (γ := List Int) [0, 1, 4, 5] rfl (fun i gu zs => [rowE 3 1 gu zs.length (zs.map (Value.int .i64)), rowE 3 1 v1 ((sortR xs).length) ((sortR xs).map (Value.int .i64))]) (fun i gu zs => [(6, gu), (7, .int .i64 (i : Int))]) (fun i gu zs => i ≤ xs.length ∧ zs = setL xs ys i) (fun i gu zs => xs.length - i) 0 _ [] ⟨Nat.zero_le _, rfl⟩ (saQ rfl) (pfQ rfl) ?_
 intro i gu zs hi5
 obtain ⟨hi, hz⟩ := hi5
 have hsl := zgf xs
 have hzl : zs.length ≤ i := by rw [hz]; exact zoi _ _ _
 refine zac (zac (reQ 2 rfl (hvQ rfl (lnQ rfl rfl rfl (zae 1 rfl)) ?_)))
 refine zbj rfl rfl rfl rfl rfl rfl (fun h6 => ?_) (fun h6 => ?_)
 ·
  refine ntQ (zak rfl (zcq (sbQ (zac ?_))))
  rcases Bool.eq_false_or_eq_true (decide (0 < (sortR xs).getD i 0)) with hb7 | hb7
  ·
   have hb7p : 0 < (sortR xs).getD i 0 := of_decide_eq_true hb7
   rcases Bool.eq_false_or_eq_true (hasB ys ((sortR xs).getD i 0)) with hb8 | hb8
   ·
    refine zby 32 [[], [], [0, 1], [2], [3], [4], [5], [5], [5], [5, 7, 8], [5, 9], [5, 6, 10], [5, 11], [5, 12], [13], [14], [14], [14], [14], [18], [18], [18], [18], [18], [18], [18], [18], [18], [18], [18], [14], [14, 30]] [17, 18, 19, 20, 21, 22, 23, 24, 25, 26, 27, 28, 29, 30, 31, 32, 33, 34, 35, 36, 37, 38, 39, 40, 41, 42, 43, 44, 45, 46, 47, 48] [v1, .int .i64 (i : Int), elP v1 (((i : Int)).toNat * 1), .int .i64 ((sortR xs).getD i 0), .bool true, .bool true, u, v1, .int .i64 (i : Int), elP v1 (((i : Int)).toNat * 1), .int .i64 ((sortR xs).getD i 0), .bool true, .bool false, .bool false, .bool false, undef, undef, undef, undef, undef, undef, undef, undef, undef, undef, undef, undef, undef, undef, undef, undef, .bool false] (by kernel_rfl) rfl ?_ ?_
    ·
     exact ⟨iaQ rfl (zas rfl) rfl, iaQ rfl (zas rfl) rfl, iaQ rfl (riQ 1 rfl rfl rfl rfl (zae 1 rfl)) rfl, iaQ rfl (zar (u := .int .i64 ((sortR xs).getD i 0)) rfl rfl rfl (zae 1 rfl) (zbn (show _ < (sortR xs).length by omega))) rfl, .inl ⟨rfl, zek (zde rfl rfl rfl rfl) hb7⟩, iaQ rfl (zas rfl) rfl, iaQ rfl (zas rfl) rfl, iaQ rfl (zas rfl) rfl, iaQ rfl (zas rfl) rfl, iaQ rfl (riQ 1 rfl rfl rfl rfl (zae 1 rfl)) rfl, iaQ rfl (zar (u := .int .i64 ((sortR xs).getD i 0)) rfl rfl rfl (zae 1 rfl) (zbn (show _ < (sortR xs).length by omega))) rfl, .inl ⟨rfl, zfr (zaq rfl rfl (fun w hm => zav (zdx ys ((sortR xs).getD i 0) _ w (hu.below hm.bel) (by omega)))) hb8⟩, iaQ rfl (zas rfl) rfl, iaQ rfl (zas rfl) rfl, iaQ rfl (zas rfl) rfl, .inr ⟨rfl, rfl⟩, .inr ⟨rfl, rfl⟩, .inr ⟨rfl, rfl⟩, .inr ⟨rfl, rfl⟩, .inr ⟨rfl, rfl⟩, .inr ⟨rfl, rfl⟩, .inr ⟨rfl, rfl⟩, .inr ⟨rfl, rfl⟩, .inr ⟨rfl, rfl⟩, .inr ⟨rfl, rfl⟩, .inr ⟨rfl, rfl⟩, .inr ⟨rfl, rfl⟩, .inr ⟨rfl, rfl⟩, .inr ⟨rfl, rfl⟩, .inr ⟨rfl, rfl⟩, .inr ⟨rfl, rfl⟩, iaQ rfl (zas rfl) rfl, trivial⟩
    simp only [List.drop_succ_cons, List.drop_zero]
    refine ntQ (fsQ rfl (zcv (reQ 1 rfl (hvQ rfl (vaQ rfl rfl rfl) (enQ 1 rfl ?_)))))
    exact zbi (i + 1) gu zs ⟨by omega, zsm hz (by first | exact .inl (by omega) | exact .inr (.inl (by assumption)) | exact .inr (.inr ⟨by omega, by omega⟩))⟩ (by omega) (saQ rfl) (pfQ rfl)
   rcases Bool.eq_false_or_eq_true ((zs.length : Int) == 0) with hb9 | hb9
   ·
    have hb9p : (zs.length : Int) = 0 := beq_iff_eq.1 hb9
    refine zby 32 [[], [], [0, 1], [2], [3], [4], [5], [5], [5], [5, 7, 8], [5, 9], [5, 6, 10], [5, 11], [5, 12], [13], [14], [14, 15], [14, 16], [14, 17], [18], [18], [18], [18], [18], [18], [18], [18], [18], [18], [18], [14, 18, 29], [14, 30]] [17, 18, 19, 20, 21, 22, 23, 24, 25, 26, 27, 28, 29, 30, 31, 32, 33, 34, 35, 36, 37, 38, 39, 40, 41, 42, 43, 44, 45, 46, 47, 48] [v1, .int .i64 (i : Int), elP v1 (((i : Int)).toNat * 1), .int .i64 ((sortR xs).getD i 0), .bool true, .bool true, u, v1, .int .i64 (i : Int), elP v1 (((i : Int)).toNat * 1), .int .i64 ((sortR xs).getD i 0), .bool false, .bool true, .bool true, .bool true, gu, .int .i64 (zs.length : Int), .bool true, .bool true, undef, undef, undef, undef, undef, undef, undef, undef, undef, undef, undef, .bool true, .bool true] (by kernel_rfl) rfl ?_ ?_
    ·
     exact ⟨iaQ rfl (zas rfl) rfl, iaQ rfl (zas rfl) rfl, iaQ rfl (riQ 1 rfl rfl rfl rfl (zae 1 rfl)) rfl, iaQ rfl (zar (u := .int .i64 ((sortR xs).getD i 0)) rfl rfl rfl (zae 1 rfl) (zbn (show _ < (sortR xs).length by omega))) rfl, .inl ⟨rfl, zek (zde rfl rfl rfl rfl) hb7⟩, iaQ rfl (zas rfl) rfl, iaQ rfl (zas rfl) rfl, iaQ rfl (zas rfl) rfl, iaQ rfl (zas rfl) rfl, iaQ rfl (riQ 1 rfl rfl rfl rfl (zae 1 rfl)) rfl, iaQ rfl (zar (u := .int .i64 ((sortR xs).getD i 0)) rfl rfl rfl (zae 1 rfl) (zbn (show _ < (sortR xs).length by omega))) rfl, .inl ⟨rfl, zfr (zaq rfl rfl (fun w hm => zav (zdx ys ((sortR xs).getD i 0) _ w (hu.below hm.bel) (by omega)))) hb8⟩, iaQ rfl (zas rfl) rfl, iaQ rfl (zas rfl) rfl, iaQ rfl (zas rfl) rfl, iaQ rfl (zas rfl) rfl, iaQ rfl (lnQ rfl rfl rfl (zae 0 rfl)) rfl, .inl ⟨rfl, zek (zde rfl rfl rfl rfl) hb9⟩, iaQ rfl (zas rfl) rfl, .inr ⟨rfl, rfl⟩, .inr ⟨rfl, rfl⟩, .inr ⟨rfl, rfl⟩, .inr ⟨rfl, rfl⟩, .inr ⟨rfl, rfl⟩, .inr ⟨rfl, rfl⟩, .inr ⟨rfl, rfl⟩, .inr ⟨rfl, rfl⟩, .inr ⟨rfl, rfl⟩, .inr ⟨rfl, rfl⟩, .inr ⟨rfl, rfl⟩, iaQ rfl (zas rfl) rfl, iaQ rfl (zas rfl) rfl, trivial⟩
    simp only [List.drop_succ_cons, List.drop_zero]
    refine ntQ (zak rfl (reQ 3 rfl (hvQ rfl (riQ 1 rfl rfl rfl rfl (zae 1 rfl)) (hvQ rfl (zar (u := .int .i64 ((sortR xs).getD i 0)) rfl rfl rfl (zae 1 rfl) (zbn (show _ < (sortR xs).length by omega))) ?_))))
    refine zdk rfl (zat (z := .int .i64 0) (s := 1) (cs := ([(sortR xs).getD i 0].map (Value.int .i64))) rfl Try.underlying28 rfl (by decide) rfl (by kernel_rfl) rfl) ?_
    intro g10
    refine zcd (i := 1) (z := .int .i64 0) (bytes := 8) rfl rfl rfl rfl Try.underlying28 (by kernel_rfl) rfl rfl rfl rfl (zae 0 rfl) (zbm _) (by first | omega | (simp; done) | (simp; omega)) (zbv zs ([(sortR xs).getD i 0])) (zcm zs ([(sortR xs).getD i 0])) (fun _ => rfl) ?_
    intro v11
    refine enQ 1 rfl (zcv (reQ 1 rfl (hvQ rfl (vaQ rfl rfl rfl) (enQ 1 rfl ?_))))
    exact zbi (i + 1) v11 (zs ++ ([(sortR xs).getD i 0])) ⟨by omega, zsl hz (by omega) (by assumption) (by first | exact .inl (by omega) | exact .inr (by assumption) | exact .inr (by omega))⟩ (by omega) (saQ rfl) (slQ [1, 0] rfl)
   have hb9p : (zs.length : Int) ≠ 0 := beq_eq_false_iff_ne.1 hb9
   rcases Bool.eq_false_or_eq_true ((zs.getD (((zs.length : Int) - 1).toNat) 0) != ((sortR xs).getD i 0)) with hb12 | hb12
   ·
    have hb12p : zs.getD (((zs.length : Int) - 1).toNat) 0 ≠ (sortR xs).getD i 0 := bne_iff_ne.1 hb12
    refine zby 32 [[], [], [0, 1], [2], [3], [4], [5], [5], [5], [5, 7, 8], [5, 9], [5, 6, 10], [5, 11], [5, 12], [13], [14], [14, 15], [14, 16], [14, 17], [18], [18], [18, 20], [18, 21], [18, 19, 22], [18, 23], [18], [18], [18, 25, 26], [18, 27], [18, 24, 28], [14, 18, 29], [14, 30]] [17, 18, 19, 20, 21, 22, 23, 24, 25, 26, 27, 28, 29, 30, 31, 32, 33, 34, 35, 36, 37, 38, 39, 40, 41, 42, 43, 44, 45, 46, 47, 48] [v1, .int .i64 (i : Int), elP v1 (((i : Int)).toNat * 1), .int .i64 ((sortR xs).getD i 0), .bool true, .bool true, u, v1, .int .i64 (i : Int), elP v1 (((i : Int)).toNat * 1), .int .i64 ((sortR xs).getD i 0), .bool false, .bool true, .bool true, .bool true, gu, .int .i64 (zs.length : Int), .bool false, .bool false, gu, gu, .int .i64 (zs.length : Int), .int .i64 ((zs.length : Int) - 1), elP gu (((zs.length : Int) - 1).toNat * 1), .int .i64 (zs.getD (((zs.length : Int) - 1).toNat) 0), v1, .int .i64 (i : Int), elP v1 (((i : Int)).toNat * 1), .int .i64 ((sortR xs).getD i 0), .bool true, .bool true, .bool true] (by kernel_rfl) rfl ?_ ?_
    ·
     exact ⟨iaQ rfl (zas rfl) rfl, iaQ rfl (zas rfl) rfl, iaQ rfl (riQ 1 rfl rfl rfl rfl (zae 1 rfl)) rfl, iaQ rfl (zar (u := .int .i64 ((sortR xs).getD i 0)) rfl rfl rfl (zae 1 rfl) (zbn (show _ < (sortR xs).length by omega))) rfl, .inl ⟨rfl, zek (zde rfl rfl rfl rfl) hb7⟩, iaQ rfl (zas rfl) rfl, iaQ rfl (zas rfl) rfl, iaQ rfl (zas rfl) rfl, iaQ rfl (zas rfl) rfl, iaQ rfl (riQ 1 rfl rfl rfl rfl (zae 1 rfl)) rfl, iaQ rfl (zar (u := .int .i64 ((sortR xs).getD i 0)) rfl rfl rfl (zae 1 rfl) (zbn (show _ < (sortR xs).length by omega))) rfl, .inl ⟨rfl, zfr (zaq rfl rfl (fun w hm => zav (zdx ys ((sortR xs).getD i 0) _ w (hu.below hm.bel) (by omega)))) hb8⟩, iaQ rfl (zas rfl) rfl, iaQ rfl (zas rfl) rfl, iaQ rfl (zas rfl) rfl, iaQ rfl (zas rfl) rfl, iaQ rfl (lnQ rfl rfl rfl (zae 0 rfl)) rfl, .inl ⟨rfl, zek (zde rfl rfl rfl rfl) hb9⟩, iaQ rfl (zas rfl) rfl, iaQ rfl (zas rfl) rfl, iaQ rfl (zas rfl) rfl, iaQ rfl (lnQ rfl rfl rfl (zae 0 rfl)) rfl, iaQ rfl (vsQ rfl rfl rfl) rfl, iaQ rfl (riQ 1 rfl rfl rfl rfl (zae 0 rfl)) rfl, iaQ rfl (lzQ rfl rfl rfl (zae 0 rfl)) rfl, iaQ rfl (zas rfl) rfl, iaQ rfl (zas rfl) rfl, iaQ rfl (riQ 1 rfl rfl rfl rfl (zae 1 rfl)) rfl, iaQ rfl (zar (u := .int .i64 ((sortR xs).getD i 0)) rfl rfl rfl (zae 1 rfl) (zbn (show _ < (sortR xs).length by omega))) rfl, .inl ⟨rfl, zek (zde rfl rfl rfl rfl) hb12⟩, iaQ rfl (zas rfl) rfl, iaQ rfl (zas rfl) rfl, trivial⟩
    simp only [List.drop_succ_cons, List.drop_zero]
    refine ntQ (zak rfl (reQ 3 rfl (hvQ rfl (riQ 1 rfl rfl rfl rfl (zae 1 rfl)) (hvQ rfl (zar (u := .int .i64 ((sortR xs).getD i 0)) rfl rfl rfl (zae 1 rfl) (zbn (show _ < (sortR xs).length by omega))) ?_))))
    refine zdk rfl (zat (z := .int .i64 0) (s := 1) (cs := ([(sortR xs).getD i 0].map (Value.int .i64))) rfl Try.underlying28 rfl (by decide) rfl (by kernel_rfl) rfl) ?_
    intro g13
    refine zcd (i := 1) (z := .int .i64 0) (bytes := 8) rfl rfl rfl rfl Try.underlying28 (by kernel_rfl) rfl rfl rfl rfl (zae 0 rfl) (zbm _) (by first | omega | (simp; done) | (simp; omega)) (zbv zs ([(sortR xs).getD i 0])) (zcm zs ([(sortR xs).getD i 0])) (fun _ => rfl) ?_
    intro v14
    refine enQ 1 rfl (zcv (reQ 1 rfl (hvQ rfl (vaQ rfl rfl rfl) (enQ 1 rfl ?_))))
    exact zbi (i + 1) v14 (zs ++ ([(sortR xs).getD i 0])) ⟨by omega, zsl hz (by omega) (by assumption) (by first | exact .inl (by omega) | exact .inr (by assumption) | exact .inr (by omega))⟩ (by omega) (saQ rfl) (slQ [1, 0] rfl)
   have hb12p : zs.getD (((zs.length : Int) - 1).toNat) 0 = (sortR xs).getD i 0 := (bne_eq_false_iff_eq.1 hb12)
   refine zby 32 [[], [], [0, 1], [2], [3], [4], [5], [5], [5], [5, 7, 8], [5, 9], [5, 6, 10], [5, 11], [5, 12], [13], [14], [14, 15], [14, 16], [14, 17], [18], [18], [18, 20], [18, 21], [18, 19, 22], [18, 23], [18], [18], [18, 25, 26], [18, 27], [18, 24, 28], [14, 18, 29], [14, 30]] [17, 18, 19, 20, 21, 22, 23, 24, 25, 26, 27, 28, 29, 30, 31, 32, 33, 34, 35, 36, 37, 38, 39, 40, 41, 42, 43, 44, 45, 46, 47, 48] [v1, .int .i64 (i : Int), elP v1 (((i : Int)).toNat * 1), .int .i64 ((sortR xs).getD i 0), .bool true, .bool true, u, v1, .int .i64 (i : Int), elP v1 (((i : Int)).toNat * 1), .int .i64 ((sortR xs).getD i 0), .bool false, .bool true, .bool true, .bool true, gu, .int .i64 (zs.length : Int), .bool false, .bool false, gu, gu, .int .i64 (zs.length : Int), .int .i64 ((zs.length : Int) - 1), elP gu (((zs.length : Int) - 1).toNat * 1), .int .i64 (zs.getD (((zs.length : Int) - 1).toNat) 0), v1, .int .i64 (i : Int), elP v1 (((i : Int)).toNat * 1), .int .i64 ((sortR xs).getD i 0), .bool false, .bool false, .bool false] (by kernel_rfl) rfl ?_ ?_
   ·
    exact ⟨iaQ rfl (zas rfl) rfl, iaQ rfl (zas rfl) rfl, iaQ rfl (riQ 1 rfl rfl rfl rfl (zae 1 rfl)) rfl, iaQ rfl (zar (u := .int .i64 ((sortR xs).getD i 0)) rfl rfl rfl (zae 1 rfl) (zbn (show _ < (sortR xs).length by omega))) rfl, .inl ⟨rfl, zek (zde rfl rfl rfl rfl) hb7⟩, iaQ rfl (zas rfl) rfl, iaQ rfl (zas rfl) rfl, iaQ rfl (zas rfl) rfl, iaQ rfl (zas rfl) rfl, iaQ rfl (riQ 1 rfl rfl rfl rfl (zae 1 rfl)) rfl, iaQ rfl (zar (u := .int .i64 ((sortR xs).getD i 0)) rfl rfl rfl (zae 1 rfl) (zbn (show _ < (sortR xs).length by omega))) rfl, .inl ⟨rfl, zfr (zaq rfl rfl (fun w hm => zav (zdx ys ((sortR xs).getD i 0) _ w (hu.below hm.bel) (by omega)))) hb8⟩, iaQ rfl (zas rfl) rfl, iaQ rfl (zas rfl) rfl, iaQ rfl (zas rfl) rfl, iaQ rfl (zas rfl) rfl, iaQ rfl (lnQ rfl rfl rfl (zae 0 rfl)) rfl, .inl ⟨rfl, zek (zde rfl rfl rfl rfl) hb9⟩, iaQ rfl (zas rfl) rfl, iaQ rfl (zas rfl) rfl, iaQ rfl (zas rfl) rfl, iaQ rfl (lnQ rfl rfl rfl (zae 0 rfl)) rfl, iaQ rfl (vsQ rfl rfl rfl) rfl, iaQ rfl (riQ 1 rfl rfl rfl rfl (zae 0 rfl)) rfl, iaQ rfl (lzQ rfl rfl rfl (zae 0 rfl)) rfl, iaQ rfl (zas rfl) rfl, iaQ rfl (zas rfl) rfl, iaQ rfl (riQ 1 rfl rfl rfl rfl (zae 1 rfl)) rfl, iaQ rfl (zar (u := .int .i64 ((sortR xs).getD i 0)) rfl rfl rfl (zae 1 rfl) (zbn (show _ < (sortR xs).length by omega))) rfl, .inl ⟨rfl, zek (zde rfl rfl rfl rfl) hb12⟩, iaQ rfl (zas rfl) rfl, iaQ rfl (zas rfl) rfl, trivial⟩
   simp only [List.drop_succ_cons, List.drop_zero]
   refine ntQ (fsQ rfl (zcv (reQ 1 rfl (hvQ rfl (vaQ rfl rfl rfl) (enQ 1 rfl ?_)))))
   exact zbi (i + 1) gu zs ⟨by omega, zsm hz (by first | exact .inl (by omega) | exact .inr (.inl (by assumption)) | exact .inr (.inr ⟨by omega, by omega⟩))⟩ (by omega) (saQ rfl) (pfQ rfl)
  have hb7p : ¬ (0 < (sortR xs).getD i 0) := of_decide_eq_false hb7
  refine zby 32 [[], [], [0, 1], [2], [3], [4], [5], [5], [5], [5], [5], [5], [5], [5, 12], [13], [14], [14], [14], [14], [18], [18], [18], [18], [18], [18], [18], [18], [18], [18], [18], [14], [14, 30]] [17, 18, 19, 20, 21, 22, 23, 24, 25, 26, 27, 28, 29, 30, 31, 32, 33, 34, 35, 36, 37, 38, 39, 40, 41, 42, 43, 44, 45, 46, 47, 48] [v1, .int .i64 (i : Int), elP v1 (((i : Int)).toNat * 1), .int .i64 ((sortR xs).getD i 0), .bool false, .bool false, undef, undef, undef, undef, undef, undef, undef, .bool false, .bool false, undef, undef, undef, undef, undef, undef, undef, undef, undef, undef, undef, undef, undef, undef, undef, undef, .bool false] (by kernel_rfl) rfl ?_ ?_
  ·
   exact ⟨iaQ rfl (zas rfl) rfl, iaQ rfl (zas rfl) rfl, iaQ rfl (riQ 1 rfl rfl rfl rfl (zae 1 rfl)) rfl, iaQ rfl (zar (u := .int .i64 ((sortR xs).getD i 0)) rfl rfl rfl (zae 1 rfl) (zbn (show _ < (sortR xs).length by omega))) rfl, .inl ⟨rfl, zek (zde rfl rfl rfl rfl) hb7⟩, iaQ rfl (zas rfl) rfl, .inr ⟨rfl, rfl⟩, .inr ⟨rfl, rfl⟩, .inr ⟨rfl, rfl⟩, .inr ⟨rfl, rfl⟩, .inr ⟨rfl, rfl⟩, .inr ⟨rfl, rfl⟩, .inr ⟨rfl, rfl⟩, iaQ rfl (zas rfl) rfl, iaQ rfl (zas rfl) rfl, .inr ⟨rfl, rfl⟩, .inr ⟨rfl, rfl⟩, .inr ⟨rfl, rfl⟩, .inr ⟨rfl, rfl⟩, .inr ⟨rfl, rfl⟩, .inr ⟨rfl, rfl⟩, .inr ⟨rfl, rfl⟩, .inr ⟨rfl, rfl⟩, .inr ⟨rfl, rfl⟩, .inr ⟨rfl, rfl⟩, .inr ⟨rfl, rfl⟩, .inr ⟨rfl, rfl⟩, .inr ⟨rfl, rfl⟩, .inr ⟨rfl, rfl⟩, .inr ⟨rfl, rfl⟩, .inr ⟨rfl, rfl⟩, iaQ rfl (zas rfl) rfl, trivial⟩
  simp only [List.drop_succ_cons, List.drop_zero]
  refine ntQ (fsQ rfl (zcv (reQ 1 rfl (hvQ rfl (vaQ rfl rfl rfl) (enQ 1 rfl ?_)))))
  exact zbi (i + 1) gu zs ⟨by omega, zsm hz (by first | exact .inl (by omega) | exact .inr (.inl (by assumption)) | exact .inr (.inr ⟨by omega, by omega⟩))⟩ (by omega) (saQ rfl) (pfQ rfl)
 refine ntQ (zal rfl ?_)
 refine zba (zdq ?_)
 refine zag (zaw (zbd 2 rfl ?_))
 exact zau (zck (post := [rowE 3 1 gu zs.length (zs.map (Value.int .i64))]) rfl rfl (slQ [0] rfl) (by rw [hz, show i = xs.length by omega]; rfl))
theorem zhf (n : Ln) (e : Le) (w : World) (hr : RdsLn w n) (hok : LnOk n) (he : LeIn n e) :
   Calls Try.prog 72 #[.agg #[.int .i64 n.ins, n.sv, n.lv, n.ov], .agg #[.int .i64 e.u, .int .i64 e.f]] w (Ans w (.int .i64 (outK n e))) := by
 have hso := sml hr.ou
 have hss := hr.sq.small
 have hsl := hr.lt.small
 have hcnt : n.cnt = 1 + n.ins + n.ss.length + n.ls.length := rfl
 have hfst : n.fst = 1 + n.ins + n.ss.length := rfl
 obtain ⟨⟨si0, si1⟩, s2, s3, s4⟩ := hok.sz
 obtain ⟨⟨eu0, eu1⟩, ⟨ef0, ef1⟩, eo⟩ := he
 refine zbf (N := 19) (args := [.agg #[.int .i64 n.ins, n.sv, n.lv, n.ov], .agg #[.int .i64 e.u, .int .i64 e.f]]) Try.func72 rfl rfl (srQ ?_)
 refine zdj rfl (zch rfl rfl) ?_
 intro b1
 refine zdj rfl (zch rfl rfl) ?_
 intro b2
 refine zaz 1 rfl (zeh (hvQ rfl (fdQ 1 rfl rfl rfl) (hvQ rfl (zad rfl rfl rfl (zaa 0 rfl rfl)) ?_)))
 refine zdi rfl rfl rfl rfl rfl rfl (fun h3 => ?_) (fun h3 => ?_)
 ·
  refine ntQ (zak rfl (srQ (hvQ rfl (fdQ 0 rfl rfl rfl) (hvQ rfl (zad rfl rfl rfl (zaa 1 rfl rfl)) (hvQ rfl (vaQ rfl rfl rfl) (hvQ rfl (fdQ 1 rfl rfl rfl) (hvQ rfl (zad rfl rfl rfl (zaa 0 rfl rfl)) (hvQ rfl (vaQ rfl rfl rfl) (zap 1 rfl (?_))))))))))
  refine ntQ ?_
  refine zau (zai ?_)
  exact zbb rfl rfl (by unfold outK; rw [if_pos (by omega)])
 refine ntQ (zal rfl (zcq (zac ?_)))
 refine zby 5 [[], [0], [], [2], [1, 3]] [14, 15, 16, 17, 18] [.agg #[.int .i64 n.ins, n.sv, n.lv, n.ov], .int .i64 n.fst, .pointer (some ⟨b2, 0 + 0, none⟩), .int .i64 e.u, .int .i64 (n.fst + e.u)] (by kernel_rfl) rfl ?_ ?_
 ·
  exact ⟨iaQ rfl (zao (cs := [.int .i64 n.ins, n.sv, n.lv, n.ov]) rfl rfl rfl rfl rfl (zaj 1 rfl 0 rfl)) rfl, .inl ⟨rfl, zaq rfl rfl (fun w hm => zav (zej n w (hr.below hm.bel) hok.sz))⟩, iaQ rfl (fdQ 0 rfl rfl rfl) rfl, iaQ rfl (zad rfl rfl rfl (zaa 0 rfl rfl)) rfl, iaQ rfl (vaQ rfl rfl rfl) rfl, trivial⟩
 simp only [List.drop_succ_cons, List.drop_zero]
 refine zaz 1 rfl ?_
 exact zau (zbb rfl rfl (by unfold outK; rw [if_neg (by omega)]; rfl))
theorem ziq (n : Ln) (e : Le) (w : World) (hr : RdsLn w n) (hok : LnOk n) (he : LeIn n e) :
   Calls Try.prog 71 #[.agg #[.int .i64 n.ins, n.sv, n.lv, n.ov], .agg #[.int .i64 e.u, .int .i64 e.f]] w (Ret w (fun v' post => post = [rowE 3 1 v' ((insK n e)).length (((insK n e)).map (Value.int .i64))])) := by
 have hso := sml hr.ou
 have hss := hr.sq.small
 have hsl := hr.lt.small
 have hcnt : n.cnt = 1 + n.ins + n.ss.length + n.ls.length := rfl
 have hfst : n.fst = 1 + n.ins + n.ss.length := rfl
 obtain ⟨⟨si0, si1⟩, s2, s3, s4⟩ := hok.sz
 obtain ⟨⟨eu0, eu1⟩, ⟨ef0, ef1⟩, eo⟩ := he
 refine zbf (N := 26) (args := [.agg #[.int .i64 n.ins, n.sv, n.lv, n.ov], .agg #[.int .i64 e.u, .int .i64 e.f]]) Try.func71 rfl rfl (srQ ?_)
 refine zdj rfl (zch rfl rfl) ?_
 intro b1
 refine zdj rfl (zch rfl rfl) ?_
 intro b2
 refine zaz 1 rfl (zeh (hvQ rfl (fdQ 0 rfl rfl rfl) (hvQ rfl (zad rfl rfl rfl (zaa 0 rfl rfl)) ?_)))
 refine zdi rfl rfl rfl rfl rfl rfl (fun h3 => ?_) (fun h3 => ?_)
 ·
  refine ntQ (zak rfl (srQ ?_))
  have hb9 := (hok.lt e.u.toNat (by omega)).1.1
  refine hvQ rfl (fdQ 2 rfl rfl rfl) (hvQ rfl (zad rfl rfl rfl (zaa 1 rfl rfl)) (hvQ rfl (fdQ 0 rfl rfl rfl) (hvQ rfl (zad rfl rfl rfl (zaa 0 rfl rfl)) (hvQ rfl (riQ 2 rfl rfl rfl rfl (zab ((hr).lt.row))) (hvQ rfl (zbe (k0 := 0) rfl rfl rfl (zab ((hr).lt.row)) (by omega)) ?_)))))
  refine hvQ rfl (zar (u := (n.ls.getD ((e.u).toNat) lt0).iv) rfl rfl rfl (zab ((hr).lt.row)) ((zce ltC 2 (fun _ => rfl) n.ls lt0 (show (e.u).toNat < _ by omega) (by decide)).trans rfl)) (zdk rfl (zbz (s := 1) rfl Try.underlying28 rfl) ?_)
  intro g4
  refine zfg rfl rfl rfl (zaq rfl rfl (fun w hm => zhe ((n.ls.getD ((e.u).toNat) lt0).xs) [] _ _ w ((zab ((hr.lt.at (d := lt0) (k := ((e.u).toNat)) (by omega)))) w hm) ⟨_, _, rfl, rfl, ⟨by decide, by decide⟩, fun h => absurd h (by decide)⟩ (by omega) (by decide))) ?_
  intro v5 p6 hR7
  subst hR7
  refine zaz 1 rfl ?_
  refine zau (zai ?_)
  exact zck (post := [rowE 3 1 v5 ((setK ((n.ls.getD ((e.u).toNat) lt0).xs) []).length) ((setK ((n.ls.getD ((e.u).toNat) lt0).xs) []).map (Value.int .i64))]) rfl rfl (slQ [0] rfl) (by unfold insK; rw [if_pos (by omega)])
 refine ntQ (zal rfl (zcq (srQ ?_)))
 have hb9 := (hok.sq e.f.toNat (by omega)).1.kind
 refine hvQ rfl (fdQ 1 rfl rfl rfl) (hvQ rfl (zad rfl rfl rfl (zaa 1 rfl rfl)) (hvQ rfl (fdQ 1 rfl rfl rfl) (hvQ rfl (zad rfl rfl rfl (zaa 0 rfl rfl)) (hvQ rfl (riQ 3 rfl rfl rfl rfl (zab ((hr).sq.row))) (hvQ rfl (zbe (k0 := 2) rfl rfl rfl (zab ((hr).sq.row)) (by omega)) ?_)))))
 refine hvQ rfl (zar (u := (n.ss.getD ((e.f).toNat) sq0).iv) rfl rfl rfl (zab ((hr).sq.row)) ((zce sqC 3 (fun _ => rfl) n.ss sq0 (show (e.f).toNat < _ by omega) (by decide)).trans rfl)) (zdk rfl (zbz (s := 1) rfl Try.underlying28 rfl) ?_)
 intro g8
 refine zfg rfl rfl rfl (zaq rfl rfl (fun w hm => zhe ((n.ss.getD ((e.f).toNat) sq0).xs) [] _ _ w ((zab ((hr.sq.at (d := sq0) (k := ((e.f).toNat)) (by omega)))) w hm) ⟨_, _, rfl, rfl, ⟨by decide, by decide⟩, fun h => absurd h (by decide)⟩ (by omega) (by decide))) ?_
 intro v9 p10 hR11
 subst hR11
 refine zaz 1 rfl ?_
 exact zau (zck (post := [rowE 3 1 v9 ((setK ((n.ss.getD ((e.f).toNat) sq0).xs) []).length) ((setK ((n.ss.getD ((e.f).toNat) sq0).xs) []).map (Value.int .i64))]) rfl rfl (slQ [0] rfl) (by unfold insK; rw [if_neg (by omega)]))
theorem zng (n : Ln) (e : Le) (w : World) (hr : RdsLn w n) (hok : LnOk n) :
   Calls Try.prog 70 #[.agg #[.int .i64 n.ins, n.sv, n.lv, n.ov], .agg #[.int .i64 e.u, .int .i64 e.f]] w (Ans w (.bool (pB (LeP n e)))) := by
 have hso := sml hr.ou
 have hss := hr.sq.small
 have hsl := hr.lt.small
 have hcnt : n.cnt = 1 + n.ins + n.ss.length + n.ls.length := rfl
 have hfst : n.fst = 1 + n.ins + n.ss.length := rfl
 obtain ⟨⟨si0, si1⟩, s2, s3, s4⟩ := hok.sz
 have hul := zoa n
 refine zbf (N := 79) (args := [.agg #[.int .i64 n.ins, n.sv, n.lv, n.ov], .agg #[.int .i64 e.u, .int .i64 e.f]]) Try.func70 rfl rfl (srQ ?_)
 refine zdj rfl (zch rfl rfl) ?_
 intro b1
 refine zdj rfl (zch rfl rfl) ?_
 intro b2
 refine zaz 1 rfl (zeh (hvQ rfl (fdQ 0 rfl rfl rfl) (hvQ rfl (zad rfl rfl rfl (zaa 0 rfl rfl)) (hvQ rfl (fdQ 2 rfl rfl rfl) (hvQ rfl (zad rfl rfl rfl (zaa 1 rfl rfl)) (hvQ rfl (lnQ rfl rfl rfl (zab ((hr).lt.row))) (hvQ rfl (vsQ rfl rfl rfl) ?_)))))))
 refine zds rfl (zaq rfl rfl (fun w hm => zav (zem e.u (-1) ((n.ls.length : Int) - 1) w))) (zca (fun h3 => ?_) (fun h3 => ?_))
 ·
  obtain ⟨h3a, h3b⟩ := (zdc _ _ _).1 h3
  refine zap 2 rfl (hvQ rfl (fdQ 1 rfl rfl rfl) (hvQ rfl (zad rfl rfl rfl (zaa 0 rfl rfl)) (hvQ rfl (fdQ 1 rfl rfl rfl) (hvQ rfl (zad rfl rfl rfl (zaa 1 rfl rfl)) (hvQ rfl (lnQ rfl rfl rfl (zab ((hr).sq.row))) (hvQ rfl (vsQ rfl rfl rfl) ?_))))))
  refine zds rfl (zaq rfl rfl (fun w hm => zav (zem e.f (-1) ((n.ss.length : Int) - 1) w))) (zca (fun h4 => ?_) (fun h4 => ?_))
  ·
   obtain ⟨h4a, h4b⟩ := (zdc _ _ _).1 h4
   refine zap 3 rfl (hvQ rfl (fdQ 0 rfl rfl rfl) (hvQ rfl (zad rfl rfl rfl (zaa 0 rfl rfl)) ?_))
   refine zbj rfl rfl rfl rfl rfl rfl (fun h5 => ?_) (fun h5 => ?_)
   ·
    refine zap 1 rfl (hvQ rfl (fdQ 1 rfl rfl rfl) (hvQ rfl (zad rfl rfl rfl (zaa 0 rfl rfl)) ?_))
    refine zbj rfl rfl rfl rfl rfl rfl (fun h6 => ?_) (fun h6 => ?_)
    ·
     refine zaz 2 rfl (zak rfl (zbd 1 rfl ?_))
     refine zau (zai ?_)
     exact zbb rfl rfl (congrArg _ (zdp (fun hp => by obtain ⟨⟨⟨p1, p2⟩, ⟨p3, p4⟩, p5⟩, p6, p7⟩ := hp; first | omega | (have := p6 (by omega); omega) | (have := p7 (by omega) (by omega); omega))).symm)
    refine zaz 2 rfl (zal rfl (zcq (zeh (hvQ rfl (fdQ 1 rfl rfl rfl) (hvQ rfl (zad rfl rfl rfl (zaa 0 rfl rfl)) ?_)))))
    refine zdi rfl rfl rfl rfl rfl rfl (fun h7 => ?_) (fun h7 => ?_)
    ·
     refine zap 1 rfl (hvQ rfl (fdQ 1 rfl rfl rfl) (hvQ rfl (zad rfl rfl rfl (zaa 1 rfl rfl)) (hvQ rfl (fdQ 1 rfl rfl rfl) (hvQ rfl (zad rfl rfl rfl (zaa 0 rfl rfl)) (hvQ rfl (riQ 3 rfl rfl rfl rfl (zab ((hr).sq.row))) (hvQ rfl (zbe (k0 := 0) rfl rfl rfl (zab ((hr).sq.row)) (by omega)) ?_))))))
     refine hvQ rfl (zar (u := .int .i64 ((n.ss.getD ((e.f).toNat) sq0).kd)) rfl rfl rfl (zab ((hr).sq.row)) ((zce sqC 3 (fun _ => rfl) n.ss sq0 (show (e.f).toNat < _ by omega) (by decide)).trans rfl)) (zfj rfl rfl rfl rfl rfl rfl (fun h8 => ?_) (fun h8 => ?_))
     ·
      refine zaz 1 rfl (zak rfl (zbd 1 rfl ?_))
      refine zau (zai ?_)
      exact zbb rfl rfl (congrArg _ (zdp (fun hp => by obtain ⟨⟨⟨p1, p2⟩, ⟨p3, p4⟩, p5⟩, p6, p7⟩ := hp; first | omega | (have := p6 (by omega); omega) | (have := p7 (by omega) (by omega); omega))).symm)
     refine zaz 1 rfl (zal rfl (zcq (zeh (hvQ rfl (fdQ 0 rfl rfl rfl) (hvQ rfl (zad rfl rfl rfl (zaa 0 rfl rfl)) ?_)))))
     refine zbj rfl rfl rfl rfl rfl rfl (fun h9 => ?_) (fun h9 => ?_)
     ·
      refine zaz 5 rfl (zak rfl (srQ (enQ 1 rfl ?_)))
      refine zaw (zau ?_)
      exact zai (zbb rfl rfl (congrArg _ (zdu ⟨⟨⟨by omega, by omega⟩, ⟨by omega, by omega⟩, by omega⟩, fun _ => by omega, fun _ _ => by first | omega | exact ⟨by omega, by omega⟩⟩).symm))
     refine zap 1 rfl (hvQ rfl (fdQ 1 rfl rfl rfl) (hvQ rfl (zad rfl rfl rfl (zaa 0 rfl rfl)) ?_))
     refine zbj rfl rfl rfl rfl rfl rfl (fun h10 => ?_) (fun h10 => ?_)
     ·
      refine zaz 1 rfl (zak rfl (zbd 1 rfl ?_))
      refine zau (zai ?_)
      exact zbb rfl rfl (congrArg _ (zdu ⟨⟨⟨by omega, by omega⟩, ⟨by omega, by omega⟩, by omega⟩, fun _ => by omega, fun _ _ => by first | omega | exact ⟨by omega, by omega⟩⟩).symm)
     refine zaz 1 rfl (zal rfl (zcq (zac ?_)))
     refine zby 5 [[], [0], [], [2], [1, 3]] [55, 56, 57, 58, 59] [.agg #[.int .i64 n.ins, n.sv, n.lv, n.ov], .int .i64 n.fst, .pointer (some ⟨b2, 0 + 0, none⟩), .int .i64 e.u, .int .i64 (n.fst + e.u)] (by kernel_rfl) rfl ?_ ?_
     ·
      exact ⟨iaQ rfl (zao (cs := [.int .i64 n.ins, n.sv, n.lv, n.ov]) rfl rfl rfl rfl rfl (zaj 1 rfl 0 rfl)) rfl, .inl ⟨rfl, zaq rfl rfl (fun w hm => zav (zej n w (hr.below hm.bel) hok.sz))⟩, iaQ rfl (fdQ 0 rfl rfl rfl) rfl, iaQ rfl (zad rfl rfl rfl (zaa 0 rfl rfl)) rfl, iaQ rfl (vaQ rfl rfl rfl) rfl, trivial⟩
     simp only [List.drop_succ_cons, List.drop_zero]
     refine zaz 1 rfl (srQ ?_)
     have hb9 := (hok.sq e.f.toNat (by omega)).1.kind
     refine hvQ rfl (fdQ 1 rfl rfl rfl) (hvQ rfl (zad rfl rfl rfl (zaa 1 rfl rfl)) (hvQ rfl (fdQ 1 rfl rfl rfl) (hvQ rfl (zad rfl rfl rfl (zaa 0 rfl rfl)) (hvQ rfl (riQ 3 rfl rfl rfl rfl (zab ((hr).sq.row))) (hvQ rfl (zbe (k0 := 2) rfl rfl rfl (zab ((hr).sq.row)) (by omega)) ?_)))))
     refine hvQ rfl (zar (u := (n.ss.getD ((e.f).toNat) sq0).iv) rfl rfl rfl (zab ((hr).sq.row)) ((zce sqC 3 (fun _ => rfl) n.ss sq0 (show (e.f).toNat < _ by omega) (by decide)).trans rfl)) (hvQ rfl (riQ 1 rfl rfl rfl rfl (zab (hr.sq.at (d := sq0) (k := ((e.f).toNat)) (by omega)))) (hvQ rfl (zar (u := .int .i64 (((n.ss.getD ((e.f).toNat) sq0).xs).getD 0 0)) rfl rfl rfl (zab (hr.sq.at (d := sq0) (k := ((e.f).toNat)) (by omega))) (zbn (show _ < ((n.ss.getD ((e.f).toNat) sq0).xs).length by omega))) (zap 1 rfl ?_)))
     refine zbp rfl rfl rfl rfl rfl rfl (fun h11 => ?_) (fun h11 => ?_)
     ·
      refine zap 1 rfl (hvQ rfl (zao (cs := [.int .i64 n.ins, n.sv, n.lv, n.ov]) rfl rfl rfl rfl rfl (zaj 1 rfl 0 rfl)) ?_)
      refine zfg rfl rfl rfl (zaq rfl rfl (fun w hm => zfw n w (hr.below hm.bel) hok)) ?_
      intro v12 p13 hR14
      subst hR14
      refine zap 1 rfl (hvQ rfl (riQ 1 rfl rfl rfl rfl (zae 0 rfl)) (hvQ rfl (zar (u := .int .i64 ((usK n).getD ((n.fst + e.u).toNat) 0)) rfl rfl rfl (zae 0 rfl) (zbn (show _ < (usK n).length by omega))) ?_))
      refine zbp rfl rfl rfl rfl rfl rfl (fun h15 => ?_) (fun h15 => ?_)
      ·
       refine zaz 2 rfl ?_
       exact zau (zbb rfl rfl (congrArg _ (zdu ⟨⟨⟨by omega, by omega⟩, ⟨by omega, by omega⟩, by omega⟩, fun _ => by omega, fun _ _ => by first | omega | exact ⟨by omega, by omega⟩⟩).symm))
      refine zaz 2 rfl ?_
      exact zau (zbb rfl rfl (congrArg _ (zdp (fun hp => by obtain ⟨⟨⟨p1, p2⟩, ⟨p3, p4⟩, p5⟩, p6, p7⟩ := hp; first | omega | (have := p6 (by omega); omega) | (have := p7 (by omega) (by omega); omega))).symm))
     refine zaz 9 rfl ?_
     exact zau (zbb rfl rfl (congrArg _ (zdp (fun hp => by obtain ⟨⟨⟨p1, p2⟩, ⟨p3, p4⟩, p5⟩, p6, p7⟩ := hp; first | omega | (have := p6 (by omega); omega) | (have := p7 (by omega) (by omega); omega))).symm))
    refine zaz 10 rfl (zal rfl ?_)
    refine zcq (zeh (hvQ rfl (fdQ 0 rfl rfl rfl) (hvQ rfl (zad rfl rfl rfl (zaa 0 rfl rfl)) ?_)))
    refine zbj rfl rfl rfl rfl rfl rfl (fun h16 => ?_) (fun h16 => ?_)
    ·
     refine zaz 5 rfl (zak rfl (srQ (enQ 1 rfl ?_)))
     refine zaw (zau ?_)
     exact zai (zbb rfl rfl (congrArg _ (zdu ⟨⟨⟨by omega, by omega⟩, ⟨by omega, by omega⟩, by omega⟩, fun _ => by omega, fun _ _ => by first | omega | exact ⟨by omega, by omega⟩⟩).symm))
    refine zap 1 rfl (hvQ rfl (fdQ 1 rfl rfl rfl) (hvQ rfl (zad rfl rfl rfl (zaa 0 rfl rfl)) ?_))
    refine zbj rfl rfl rfl rfl rfl rfl (fun h17 => ?_) (fun h17 => ?_)
    ·
     refine zaz 1 rfl (zak rfl (zbd 1 rfl ?_))
     refine zau (zai ?_)
     exact zbb rfl rfl (congrArg _ (zdu ⟨⟨⟨by omega, by omega⟩, ⟨by omega, by omega⟩, by omega⟩, fun _ => by omega, fun _ _ => by first | omega | exact ⟨by omega, by omega⟩⟩).symm)
    refine zaz 1 rfl (zal rfl (zcq (zac ?_)))
    refine zby 5 [[], [0], [], [2], [1, 3]] [55, 56, 57, 58, 59] [.agg #[.int .i64 n.ins, n.sv, n.lv, n.ov], .int .i64 n.fst, .pointer (some ⟨b2, 0 + 0, none⟩), .int .i64 e.u, .int .i64 (n.fst + e.u)] (by kernel_rfl) rfl ?_ ?_
    ·
     exact ⟨iaQ rfl (zao (cs := [.int .i64 n.ins, n.sv, n.lv, n.ov]) rfl rfl rfl rfl rfl (zaj 1 rfl 0 rfl)) rfl, .inl ⟨rfl, zaq rfl rfl (fun w hm => zav (zej n w (hr.below hm.bel) hok.sz))⟩, iaQ rfl (fdQ 0 rfl rfl rfl) rfl, iaQ rfl (zad rfl rfl rfl (zaa 0 rfl rfl)) rfl, iaQ rfl (vaQ rfl rfl rfl) rfl, trivial⟩
    simp only [List.drop_succ_cons, List.drop_zero]
    refine zaz 1 rfl (srQ ?_)
    have hb9 := (hok.sq e.f.toNat (by omega)).1.kind
    refine hvQ rfl (fdQ 1 rfl rfl rfl) (hvQ rfl (zad rfl rfl rfl (zaa 1 rfl rfl)) (hvQ rfl (fdQ 1 rfl rfl rfl) (hvQ rfl (zad rfl rfl rfl (zaa 0 rfl rfl)) (hvQ rfl (riQ 3 rfl rfl rfl rfl (zab ((hr).sq.row))) (hvQ rfl (zbe (k0 := 2) rfl rfl rfl (zab ((hr).sq.row)) (by omega)) ?_)))))
    refine hvQ rfl (zar (u := (n.ss.getD ((e.f).toNat) sq0).iv) rfl rfl rfl (zab ((hr).sq.row)) ((zce sqC 3 (fun _ => rfl) n.ss sq0 (show (e.f).toNat < _ by omega) (by decide)).trans rfl)) (hvQ rfl (riQ 1 rfl rfl rfl rfl (zab (hr.sq.at (d := sq0) (k := ((e.f).toNat)) (by omega)))) (hvQ rfl (zar (u := .int .i64 (((n.ss.getD ((e.f).toNat) sq0).xs).getD 0 0)) rfl rfl rfl (zab (hr.sq.at (d := sq0) (k := ((e.f).toNat)) (by omega))) (zbn (show _ < ((n.ss.getD ((e.f).toNat) sq0).xs).length by omega))) (zap 1 rfl ?_)))
    refine zbp rfl rfl rfl rfl rfl rfl (fun h18 => ?_) (fun h18 => ?_)
    ·
     refine zap 1 rfl (hvQ rfl (zao (cs := [.int .i64 n.ins, n.sv, n.lv, n.ov]) rfl rfl rfl rfl rfl (zaj 1 rfl 0 rfl)) ?_)
     refine zfg rfl rfl rfl (zaq rfl rfl (fun w hm => zfw n w (hr.below hm.bel) hok)) ?_
     intro v19 p20 hR21
     subst hR21
     refine zap 1 rfl (hvQ rfl (riQ 1 rfl rfl rfl rfl (zae 0 rfl)) (hvQ rfl (zar (u := .int .i64 ((usK n).getD ((n.fst + e.u).toNat) 0)) rfl rfl rfl (zae 0 rfl) (zbn (show _ < (usK n).length by omega))) ?_))
     refine zbp rfl rfl rfl rfl rfl rfl (fun h22 => ?_) (fun h22 => ?_)
     ·
      refine zaz 2 rfl ?_
      exact zau (zbb rfl rfl (congrArg _ (zdu ⟨⟨⟨by omega, by omega⟩, ⟨by omega, by omega⟩, by omega⟩, fun _ => by omega, fun _ _ => by first | omega | exact ⟨by omega, by omega⟩⟩).symm))
     refine zaz 2 rfl ?_
     exact zau (zbb rfl rfl (congrArg _ (zdp (fun hp => by obtain ⟨⟨⟨p1, p2⟩, ⟨p3, p4⟩, p5⟩, p6, p7⟩ := hp; first | omega | (have := p6 (by omega); omega) | (have := p7 (by omega) (by omega); omega))).symm))
    refine zaz 9 rfl ?_
    exact zau (zbb rfl rfl (congrArg _ (zdp (fun hp => by obtain ⟨⟨⟨p1, p2⟩, ⟨p3, p4⟩, p5⟩, p6, p7⟩ := hp; first | omega | (have := p6 (by omega); omega) | (have := p7 (by omega) (by omega); omega))).symm))
   refine zaz 6 rfl (zal rfl (zcq (zeh ?_)))
   refine hvQ rfl (fdQ 1 rfl rfl rfl) (hvQ rfl (zad rfl rfl rfl (zaa 0 rfl rfl)) ?_)
   refine zdi rfl rfl rfl rfl rfl rfl (fun h23 => ?_) (fun h23 => ?_)
   ·
    refine zap 1 rfl (hvQ rfl (fdQ 1 rfl rfl rfl) (hvQ rfl (zad rfl rfl rfl (zaa 1 rfl rfl)) (hvQ rfl (fdQ 1 rfl rfl rfl) (hvQ rfl (zad rfl rfl rfl (zaa 0 rfl rfl)) (hvQ rfl (riQ 3 rfl rfl rfl rfl (zab ((hr).sq.row))) (hvQ rfl (zbe (k0 := 0) rfl rfl rfl (zab ((hr).sq.row)) (by omega)) ?_))))))
    refine hvQ rfl (zar (u := .int .i64 ((n.ss.getD ((e.f).toNat) sq0).kd)) rfl rfl rfl (zab ((hr).sq.row)) ((zce sqC 3 (fun _ => rfl) n.ss sq0 (show (e.f).toNat < _ by omega) (by decide)).trans rfl)) (zfj rfl rfl rfl rfl rfl rfl (fun h24 => ?_) (fun h24 => ?_))
    ·
     refine zaz 1 rfl (zak rfl (zbd 1 rfl ?_))
     refine zau (zai ?_)
     exact zbb rfl rfl (congrArg _ (zdp (fun hp => by obtain ⟨⟨⟨p1, p2⟩, ⟨p3, p4⟩, p5⟩, p6, p7⟩ := hp; first | omega | (have := p6 (by omega); omega) | (have := p7 (by omega) (by omega); omega))).symm)
    refine zaz 1 rfl (zal rfl (zcq (zeh (hvQ rfl (fdQ 0 rfl rfl rfl) (hvQ rfl (zad rfl rfl rfl (zaa 0 rfl rfl)) ?_)))))
    refine zbj rfl rfl rfl rfl rfl rfl (fun h25 => ?_) (fun h25 => ?_)
    ·
     refine zaz 5 rfl (zak rfl (srQ (enQ 1 rfl ?_)))
     refine zaw (zau ?_)
     exact zai (zbb rfl rfl (congrArg _ (zdu ⟨⟨⟨by omega, by omega⟩, ⟨by omega, by omega⟩, by omega⟩, fun _ => by omega, fun _ _ => by first | omega | exact ⟨by omega, by omega⟩⟩).symm))
    refine zap 1 rfl (hvQ rfl (fdQ 1 rfl rfl rfl) (hvQ rfl (zad rfl rfl rfl (zaa 0 rfl rfl)) ?_))
    refine zbj rfl rfl rfl rfl rfl rfl (fun h26 => ?_) (fun h26 => ?_)
    ·
     refine zaz 1 rfl (zak rfl (zbd 1 rfl ?_))
     refine zau (zai ?_)
     exact zbb rfl rfl (congrArg _ (zdu ⟨⟨⟨by omega, by omega⟩, ⟨by omega, by omega⟩, by omega⟩, fun _ => by omega, fun _ _ => by first | omega | exact ⟨by omega, by omega⟩⟩).symm)
    refine zaz 1 rfl (zal rfl (zcq (zac ?_)))
    refine zby 5 [[], [0], [], [2], [1, 3]] [55, 56, 57, 58, 59] [.agg #[.int .i64 n.ins, n.sv, n.lv, n.ov], .int .i64 n.fst, .pointer (some ⟨b2, 0 + 0, none⟩), .int .i64 e.u, .int .i64 (n.fst + e.u)] (by kernel_rfl) rfl ?_ ?_
    ·
     exact ⟨iaQ rfl (zao (cs := [.int .i64 n.ins, n.sv, n.lv, n.ov]) rfl rfl rfl rfl rfl (zaj 1 rfl 0 rfl)) rfl, .inl ⟨rfl, zaq rfl rfl (fun w hm => zav (zej n w (hr.below hm.bel) hok.sz))⟩, iaQ rfl (fdQ 0 rfl rfl rfl) rfl, iaQ rfl (zad rfl rfl rfl (zaa 0 rfl rfl)) rfl, iaQ rfl (vaQ rfl rfl rfl) rfl, trivial⟩
    simp only [List.drop_succ_cons, List.drop_zero]
    refine zaz 1 rfl (srQ ?_)
    have hb9 := (hok.sq e.f.toNat (by omega)).1.kind
    refine hvQ rfl (fdQ 1 rfl rfl rfl) (hvQ rfl (zad rfl rfl rfl (zaa 1 rfl rfl)) (hvQ rfl (fdQ 1 rfl rfl rfl) (hvQ rfl (zad rfl rfl rfl (zaa 0 rfl rfl)) (hvQ rfl (riQ 3 rfl rfl rfl rfl (zab ((hr).sq.row))) (hvQ rfl (zbe (k0 := 2) rfl rfl rfl (zab ((hr).sq.row)) (by omega)) ?_)))))
    refine hvQ rfl (zar (u := (n.ss.getD ((e.f).toNat) sq0).iv) rfl rfl rfl (zab ((hr).sq.row)) ((zce sqC 3 (fun _ => rfl) n.ss sq0 (show (e.f).toNat < _ by omega) (by decide)).trans rfl)) (hvQ rfl (riQ 1 rfl rfl rfl rfl (zab (hr.sq.at (d := sq0) (k := ((e.f).toNat)) (by omega)))) (hvQ rfl (zar (u := .int .i64 (((n.ss.getD ((e.f).toNat) sq0).xs).getD 0 0)) rfl rfl rfl (zab (hr.sq.at (d := sq0) (k := ((e.f).toNat)) (by omega))) (zbn (show _ < ((n.ss.getD ((e.f).toNat) sq0).xs).length by omega))) (zap 1 rfl ?_)))
    refine zbp rfl rfl rfl rfl rfl rfl (fun h27 => ?_) (fun h27 => ?_)
    ·
     refine zap 1 rfl (hvQ rfl (zao (cs := [.int .i64 n.ins, n.sv, n.lv, n.ov]) rfl rfl rfl rfl rfl (zaj 1 rfl 0 rfl)) ?_)
     refine zfg rfl rfl rfl (zaq rfl rfl (fun w hm => zfw n w (hr.below hm.bel) hok)) ?_
     intro v28 p29 hR30
     subst hR30
     refine zap 1 rfl (hvQ rfl (riQ 1 rfl rfl rfl rfl (zae 0 rfl)) (hvQ rfl (zar (u := .int .i64 ((usK n).getD ((n.fst + e.u).toNat) 0)) rfl rfl rfl (zae 0 rfl) (zbn (show _ < (usK n).length by omega))) ?_))
     refine zbp rfl rfl rfl rfl rfl rfl (fun h31 => ?_) (fun h31 => ?_)
     ·
      refine zaz 2 rfl ?_
      exact zau (zbb rfl rfl (congrArg _ (zdu ⟨⟨⟨by omega, by omega⟩, ⟨by omega, by omega⟩, by omega⟩, fun _ => by omega, fun _ _ => by first | omega | exact ⟨by omega, by omega⟩⟩).symm))
     refine zaz 2 rfl ?_
     exact zau (zbb rfl rfl (congrArg _ (zdp (fun hp => by obtain ⟨⟨⟨p1, p2⟩, ⟨p3, p4⟩, p5⟩, p6, p7⟩ := hp; first | omega | (have := p6 (by omega); omega) | (have := p7 (by omega) (by omega); omega))).symm))
    refine zaz 9 rfl ?_
    exact zau (zbb rfl rfl (congrArg _ (zdp (fun hp => by obtain ⟨⟨⟨p1, p2⟩, ⟨p3, p4⟩, p5⟩, p6, p7⟩ := hp; first | omega | (have := p6 (by omega); omega) | (have := p7 (by omega) (by omega); omega))).symm))
   refine zaz 10 rfl (zal rfl ?_)
   refine zcq (zeh (hvQ rfl (fdQ 0 rfl rfl rfl) (hvQ rfl (zad rfl rfl rfl (zaa 0 rfl rfl)) ?_)))
   refine zbj rfl rfl rfl rfl rfl rfl (fun h32 => ?_) (fun h32 => ?_)
   ·
    refine zaz 5 rfl (zak rfl (srQ (enQ 1 rfl ?_)))
    refine zaw (zau ?_)
    exact zai (zbb rfl rfl (congrArg _ (zdu ⟨⟨⟨by omega, by omega⟩, ⟨by omega, by omega⟩, by omega⟩, fun _ => by omega, fun _ _ => by first | omega | exact ⟨by omega, by omega⟩⟩).symm))
   refine zap 1 rfl (hvQ rfl (fdQ 1 rfl rfl rfl) (hvQ rfl (zad rfl rfl rfl (zaa 0 rfl rfl)) ?_))
   refine zbj rfl rfl rfl rfl rfl rfl (fun h33 => ?_) (fun h33 => ?_)
   ·
    refine zaz 1 rfl (zak rfl (zbd 1 rfl ?_))
    refine zau (zai ?_)
    exact zbb rfl rfl (congrArg _ (zdu ⟨⟨⟨by omega, by omega⟩, ⟨by omega, by omega⟩, by omega⟩, fun _ => by omega, fun _ _ => by first | omega | exact ⟨by omega, by omega⟩⟩).symm)
   refine zaz 1 rfl (zal rfl (zcq (zac ?_)))
   refine zby 5 [[], [0], [], [2], [1, 3]] [55, 56, 57, 58, 59] [.agg #[.int .i64 n.ins, n.sv, n.lv, n.ov], .int .i64 n.fst, .pointer (some ⟨b2, 0 + 0, none⟩), .int .i64 e.u, .int .i64 (n.fst + e.u)] (by kernel_rfl) rfl ?_ ?_
   ·
    exact ⟨iaQ rfl (zao (cs := [.int .i64 n.ins, n.sv, n.lv, n.ov]) rfl rfl rfl rfl rfl (zaj 1 rfl 0 rfl)) rfl, .inl ⟨rfl, zaq rfl rfl (fun w hm => zav (zej n w (hr.below hm.bel) hok.sz))⟩, iaQ rfl (fdQ 0 rfl rfl rfl) rfl, iaQ rfl (zad rfl rfl rfl (zaa 0 rfl rfl)) rfl, iaQ rfl (vaQ rfl rfl rfl) rfl, trivial⟩
   simp only [List.drop_succ_cons, List.drop_zero]
   refine zaz 1 rfl (srQ ?_)
   have hb9 := (hok.sq e.f.toNat (by omega)).1.kind
   refine hvQ rfl (fdQ 1 rfl rfl rfl) (hvQ rfl (zad rfl rfl rfl (zaa 1 rfl rfl)) (hvQ rfl (fdQ 1 rfl rfl rfl) (hvQ rfl (zad rfl rfl rfl (zaa 0 rfl rfl)) (hvQ rfl (riQ 3 rfl rfl rfl rfl (zab ((hr).sq.row))) (hvQ rfl (zbe (k0 := 2) rfl rfl rfl (zab ((hr).sq.row)) (by omega)) ?_)))))
   refine hvQ rfl (zar (u := (n.ss.getD ((e.f).toNat) sq0).iv) rfl rfl rfl (zab ((hr).sq.row)) ((zce sqC 3 (fun _ => rfl) n.ss sq0 (show (e.f).toNat < _ by omega) (by decide)).trans rfl)) (hvQ rfl (riQ 1 rfl rfl rfl rfl (zab (hr.sq.at (d := sq0) (k := ((e.f).toNat)) (by omega)))) (hvQ rfl (zar (u := .int .i64 (((n.ss.getD ((e.f).toNat) sq0).xs).getD 0 0)) rfl rfl rfl (zab (hr.sq.at (d := sq0) (k := ((e.f).toNat)) (by omega))) (zbn (show _ < ((n.ss.getD ((e.f).toNat) sq0).xs).length by omega))) (zap 1 rfl ?_)))
   refine zbp rfl rfl rfl rfl rfl rfl (fun h34 => ?_) (fun h34 => ?_)
   ·
    refine zap 1 rfl (hvQ rfl (zao (cs := [.int .i64 n.ins, n.sv, n.lv, n.ov]) rfl rfl rfl rfl rfl (zaj 1 rfl 0 rfl)) ?_)
    refine zfg rfl rfl rfl (zaq rfl rfl (fun w hm => zfw n w (hr.below hm.bel) hok)) ?_
    intro v35 p36 hR37
    subst hR37
    refine zap 1 rfl (hvQ rfl (riQ 1 rfl rfl rfl rfl (zae 0 rfl)) (hvQ rfl (zar (u := .int .i64 ((usK n).getD ((n.fst + e.u).toNat) 0)) rfl rfl rfl (zae 0 rfl) (zbn (show _ < (usK n).length by omega))) ?_))
    refine zbp rfl rfl rfl rfl rfl rfl (fun h38 => ?_) (fun h38 => ?_)
    ·
     refine zaz 2 rfl ?_
     exact zau (zbb rfl rfl (congrArg _ (zdu ⟨⟨⟨by omega, by omega⟩, ⟨by omega, by omega⟩, by omega⟩, fun _ => by omega, fun _ _ => by first | omega | exact ⟨by omega, by omega⟩⟩).symm))
    refine zaz 2 rfl ?_
    exact zau (zbb rfl rfl (congrArg _ (zdp (fun hp => by obtain ⟨⟨⟨p1, p2⟩, ⟨p3, p4⟩, p5⟩, p6, p7⟩ := hp; first | omega | (have := p6 (by omega); omega) | (have := p7 (by omega) (by omega); omega))).symm))
   refine zaz 9 rfl ?_
   exact zau (zbb rfl rfl (congrArg _ (zdp (fun hp => by obtain ⟨⟨⟨p1, p2⟩, ⟨p3, p4⟩, p5⟩, p6, p7⟩ := hp; first | omega | (have := p6 (by omega); omega) | (have := p7 (by omega) (by omega); omega))).symm))
  have h4a := zea h4
  refine zaz 12 rfl (zak rfl (zac ?_))
  refine zay (zaz 1 rfl ?_)
  refine zau (zai ?_)
  exact zbb rfl rfl (congrArg _ (zdp (fun hp => by obtain ⟨⟨⟨p1, p2⟩, ⟨p3, p4⟩, p5⟩, p6, p7⟩ := hp; first | omega | (have := p6 (by omega); omega) | (have := p7 (by omega) (by omega); omega))).symm)
 have h3a := zea h3
 refine zaz 21 rfl (zak rfl (zbd 1 rfl ?_))
 refine zau (zai ?_)
 exact zbb rfl rfl (congrArg _ (zdp (fun hp => by obtain ⟨⟨⟨p1, p2⟩, ⟨p3, p4⟩, p5⟩, p6, p7⟩ := hp; first | omega | (have := p6 (by omega); omega) | (have := p7 (by omega) (by omega); omega))).symm)
theorem zgo (n : Ln) (es : List Le) (v : Value) (w : World) (hr : RdsLn w n) (hok : LnOk n) (hes : RdsW w v 2 es.length (es.flatMap leC)) (hel : es.length ≤ 100) (hin : ∀ k, k < es.length → LeIn n (es.getD k le0)) :
   Calls Try.prog 32 #[.agg #[.int .i64 n.ins, n.sv, n.lv, n.ov], v] w (Ret w (fun v' post => post = [rowE 3 1 v' ((pinsK n es)).length (((pinsK n es)).map (Value.int .i64))])) := by
 have hso := sml hr.ou
 have hss := hr.sq.small
 have hsl := hr.lt.small
 have hcnt : n.cnt = 1 + n.ins + n.ss.length + n.ls.length := rfl
 have hfst : n.fst = 1 + n.ins + n.ss.length := rfl
 obtain ⟨⟨si0, si1⟩, s2, s3, s4⟩ := hok.sz
 refine zbf (N := 36) (args := [.agg #[.int .i64 n.ins, n.sv, n.lv, n.ov], v]) Try.func32 rfl rfl (srQ ?_)
 refine zdj rfl (zch rfl rfl) ?_
 intro b1
 refine zaz 1 rfl (srQ ?_)
 refine zdk rfl (zbz (s := 1) rfl Try.underlying28 rfl) ?_
 intro g2
 refine zaz 1 rfl (srQ ?_)
 refine zdk rfl (zbz (s := 1) rfl Try.underlying28 rfl) ?_
 intro g3
 refine zaz 1 rfl (zac (zbd 1 rfl (zax ?_)))
 refine zgn (α := Nat) (β := Value) (γ := Value) [0, 1, 2, 4] rfl (fun k gu gv => [rowE 3 1 gv ((outL n es k).length) ((outL n es k).map (Value.int .i64)), rowE 3 1 gu ((insL n es k).length) ((insL n es k).map (Value.int .i64)), boxE b1 #[.int .i64 n.ins, n.sv, n.lv, n.ov] 30]) (fun k gu gv => [(5, gu), (6, gv), (7, .int .i64 (k : Int))]) (fun k gu gv => k ≤ es.length) (fun k gu gv => es.length - k) 0 _ _ (Nat.zero_le _) (saQ rfl) (pfQ rfl) ?_
 intro k gu gv hi4
 have hk := hi4
 have hil := zoz hok hin k (by omega)
 have hol := zhd n es k
 refine zac (zac (reQ 2 rfl (hvQ rfl (lnQ rfl rfl rfl (zab hes)) ?_)))
 refine zbj rfl rfl rfl rfl rfl rfl (fun h5 => ?_) (fun h5 => ?_)
 ·
  refine ntQ (zak rfl (zcq (sbQ (zac ?_))))
  have hle9 := hin k (by omega)
  have hil9 := zir hok hle9
  refine zdf rfl 7 [0, 1, 2, 3, 4, 5, 6] (List.take 7 _) (List.drop 7 _) [[], [], [], [], [2, 3], [4], [1, 5]] [16, 17, 18, 19, 20, 21, 22] (fun i_ vs_ v_ p_ => match i_ with | 0 => v_ = gu ∧ p_ = [] | 1 => v_ = .agg #[.int .i64 n.ins, n.sv, n.lv, n.ov] ∧ p_ = [] | 2 => v_ = v ∧ p_ = [] | 3 => v_ = .int .i64 (k : Int) ∧ p_ = [] | 4 => v_ = elP v (((k : Int)).toNat * 2) ∧ p_ = [] | 5 => v_ = .agg #[.int .i64 ((es.getD k le0).u), .int .i64 ((es.getD k le0).f)] ∧ p_ = [] | 6 => (fun v' post => post = [rowE 3 1 v' ((insK n (es.getD k le0))).length (((insK n (es.getD k le0))).map (Value.int .i64))]) v_ p_ | _ => True) (List.take_append_drop 7 _).symm (by kernel_rfl) (by kernel_rfl) rfl rfl ?_ ?_
  ·
   refine ⟨?_, ?_, ?_, ?_, ?_, ?_, ?_, trivial⟩
   ·
    intro vf pf hR
    exact ovQ rfl (zam [5] rfl) (zbg (zas rfl))
   ·
    intro vf pf hR
    exact olQ rfl (zam [2] rfl) (zbg (zao (cs := [.int .i64 n.ins, n.sv, n.lv, n.ov]) rfl rfl rfl rfl rfl (zaj 2 rfl 0 rfl)))
   ·
    intro vf pf hR
    exact ovQ rfl (zam [1] rfl) (zbg (zas rfl))
   ·
    intro vf pf hR
    exact ovQ rfl (zam [7] rfl) (zbg (zas rfl))
   ·
    intro vf pf hR
    have e2 := hR 2 (by decide)
    have e3 := hR 3 (by decide)
    exact olQ rfl (sk 18 (congrArg some e2.1) (sk 19 (congrArg some e3.1) (zaf _))) (zbg (riQ 2 rfl rfl rfl rfl (zab hes)))
   ·
    intro vf pf hR
    have e4 := hR 4 (by decide)
    exact olQ rfl (sk 20 (congrArg some e4.1) (zaf _)) (zbg (zbt (us := [.int .i64 ((es.getD k le0).u), .int .i64 ((es.getD k le0).f)]) rfl rfl rfl rfl (zab hes) (by omega) rfl (zcp leC 2 (fun _ => rfl) es le0 (show k < _ by omega) rfl)))
   intro vf pf hR
   have e1 := hR 1 (by decide)
   have e5 := hR 5 (by decide)
   exact olQ rfl (sk 17 (congrArg some e1.1) (sk 21 (congrArg some e5.1) (zaf _))) (zaq rfl rfl (fun w hm => ziq n (es.getD k le0) w (hr.below hm.bel) hok hle9))
  intro vf pf hR
  have e0 := hR 0 (by decide)
  have e6 : (fun v' post => post = [rowE 3 1 v' ((insK n (es.getD k le0))).length (((insK n (es.getD k le0))).map (Value.int .i64))]) (vf 6) (pf 6) := hR 6 (by decide)
  obtain ⟨v6, vE6⟩ : ∃ x, vf 6 = x := ⟨_, rfl⟩
  obtain ⟨p7, pE6⟩ : ∃ x, pf 6 = x := ⟨_, rfl⟩
  have hR8 := e6
  rw [vE6, pE6] at hR8
  subst hR8
  have q0 := hR 0 (by decide)
  have q1 := hR 1 (by decide)
  have q2 := hR 2 (by decide)
  have q3 := hR 3 (by decide)
  have q4 := hR 4 (by decide)
  have q5 := hR 5 (by decide)
  refine zco (zbk [13, 7, 6, 5, 4, 2, 1, 0] _ (sk 16 (congrArg some e0.1) (sk 22 (congrArg some vE6) (zaf _))) rfl) (by simp only [pE6, vE6, q0.2, q1.2, q2.2, q3.2, q4.2, q5.2, fS] <;> rfl) ?_
  simp only [List.drop_succ_cons, List.drop_zero]
  refine zcd (i := 2) (z := .int .i64 0) (bytes := 8) rfl rfl rfl rfl Try.underlying28 (by kernel_rfl) rfl rfl rfl rfl (zae 0 rfl) (zbm _) (by first | omega | (simp; done) | (simp; omega)) (zbv (insL n es k) (insK n (es.getD k le0))) (zcm (insL n es k) (insK n (es.getD k le0))) (fun _ => rfl) ?_
  intro v9
  refine zaz 1 rfl ?_
  refine zdf rfl 8 [0, 1, 2, 3, 4, 5, 6, 7] (List.take 8 _) (List.drop 8 _) [[], [], [], [], [2, 3], [4], [1, 5], [6]] [24, 25, 26, 27, 28, 29, 30, 31] (fun i_ vs_ v_ p_ => match i_ with | 0 => v_ = gv ∧ p_ = [] | 1 => v_ = .agg #[.int .i64 n.ins, n.sv, n.lv, n.ov] ∧ p_ = [] | 2 => v_ = v ∧ p_ = [] | 3 => v_ = .int .i64 (k : Int) ∧ p_ = [] | 4 => v_ = elP v (((k : Int)).toNat * 2) ∧ p_ = [] | 5 => v_ = .agg #[.int .i64 ((es.getD k le0).u), .int .i64 ((es.getD k le0).f)] ∧ p_ = [] | 6 => v_ = .int .i64 (outK n (es.getD k le0)) ∧ p_ = [] | 7 => IsRow 3 1 1 ([outK n (es.getD k le0)].map (Value.int .i64)) v_ p_ | _ => True) (List.take_append_drop 8 _).symm (by kernel_rfl) (by kernel_rfl) rfl rfl ?_ ?_
  ·
   refine ⟨?_, ?_, ?_, ?_, ?_, ?_, ?_, ?_, trivial⟩
   ·
    intro vf pf hR
    exact ovQ rfl (zam [6] rfl) (zbg (zas rfl))
   ·
    intro vf pf hR
    exact olQ rfl (zam [2] rfl) (zbg (zao (cs := [.int .i64 n.ins, n.sv, n.lv, n.ov]) rfl rfl rfl rfl rfl (zaj 3 rfl 0 rfl)))
   ·
    intro vf pf hR
    exact ovQ rfl (zam [1] rfl) (zbg (zas rfl))
   ·
    intro vf pf hR
    exact ovQ rfl (zam [7] rfl) (zbg (zas rfl))
   ·
    intro vf pf hR
    have e2 := hR 2 (by decide)
    have e3 := hR 3 (by decide)
    exact olQ rfl (sk 26 (congrArg some e2.1) (sk 27 (congrArg some e3.1) (zaf _))) (zbg (riQ 2 rfl rfl rfl rfl (zab hes)))
   ·
    intro vf pf hR
    have e4 := hR 4 (by decide)
    exact olQ rfl (sk 28 (congrArg some e4.1) (zaf _)) (zbg (zbt (us := [.int .i64 ((es.getD k le0).u), .int .i64 ((es.getD k le0).f)]) rfl rfl rfl rfl (zab hes) (by omega) rfl (zcp leC 2 (fun _ => rfl) es le0 (show k < _ by omega) rfl)))
   ·
    intro vf pf hR
    have e1 := hR 1 (by decide)
    have e5 := hR 5 (by decide)
    exact olQ rfl (sk 25 (congrArg some e1.1) (sk 29 (congrArg some e5.1) (zaf _))) (zaq rfl rfl (fun w hm => zav (zhf n (es.getD k le0) w (hr.below hm.bel) hok hle9)))
   intro vf pf hR
   have e6 := hR 6 (by decide)
   exact olQ rfl (sk 30 (congrArg some e6.1) (zaf _)) (zat (z := .int .i64 0) (s := 1) (cs := ([outK n (es.getD k le0)].map (Value.int .i64))) rfl Try.underlying28 rfl (by decide) rfl (by kernel_rfl) rfl)
  intro vf pf hR
  have e0 := hR 0 (by decide)
  have e7 : IsRow 3 1 1 ([outK n (es.getD k le0)].map (Value.int .i64)) (vf 7) (pf 7) := hR 7 (by decide)
  obtain ⟨g10, vE7, pE7⟩ := e7
  have q0 := hR 0 (by decide)
  have q1 := hR 1 (by decide)
  have q2 := hR 2 (by decide)
  have q3 := hR 3 (by decide)
  have q4 := hR 4 (by decide)
  have q5 := hR 5 (by decide)
  have q6 := hR 6 (by decide)
  refine zco (zbk [13, 7, 6, 5, 4, 2, 1, 0] _ (sk 24 (congrArg some e0.1) (sk 31 (congrArg some vE7) (zaf _))) rfl) (by simp only [pE7, vE7, q0.2, q1.2, q2.2, q3.2, q4.2, q5.2, q6.2, fS] <;> rfl) ?_
  simp only [List.drop_succ_cons, List.drop_zero]
  refine zcd (i := 2) (z := .int .i64 0) (bytes := 8) rfl rfl rfl rfl Try.underlying28 (by kernel_rfl) rfl rfl rfl rfl (zae 0 rfl) (zbm _) (by first | omega | (simp; done) | (simp; omega)) (zbv (outL n es k) ([outK n (es.getD k le0)])) (zcm (outL n es k) ([outK n (es.getD k le0)])) (fun _ => rfl) ?_
  intro v11
  refine enQ 1 rfl (zcv (reQ 1 rfl (hvQ rfl (vaQ rfl rfl rfl) (enQ 1 rfl ?_))))
  exact zbi (k + 1) v9 v11 (by omega) (by omega) (saQ rfl) (slQ [2, 0, 0] rfl)
 refine ntQ (zal rfl ?_)
 refine zba (zdq ?_)
 refine zag (zaw (zac (reQ 2 rfl ?_)))
 refine zfg rfl rfl rfl (zaq rfl rfl (fun w hm => zhe (insL n es k) (outL n es k) _ _ w ((zae 1 rfl) w hm) ((zae 0 rfl) w hm) (by omega) (by omega))) ?_
 intro v12 p13 hR14
 subst hR14
 refine zaz 1 rfl ?_
 refine zau ?_
 have hke : k = es.length := by omega
 exact zck (post := [rowE 3 1 v12 ((setK (insL n es k) (outL n es k)).length) ((setK (insL n es k) (outL n es k)).map (Value.int .i64))]) rfl rfl (slQ [0] rfl) (by rw [hke]; rfl)
theorem zgw (n : Ln) (b : Bk) (w : World) (hr : RdsLn w n) (hok : LnOk n) (hbe : RdsW w b.bv 2 b.es.length (b.es.flatMap leC)) (hbl : b.es.length ≤ 100) :
   Calls Try.prog 31 #[.agg #[.int .i64 n.ins, n.sv, n.lv, n.ov], .agg #[.int .i64 b.kd, .int .i64 b.it, b.bv]] w (Ans w (.bool (pB (BkIn n b)))) := by
 have hso := sml hr.ou
 have hss := hr.sq.small
 have hsl := hr.lt.small
 have hcnt : n.cnt = 1 + n.ins + n.ss.length + n.ls.length := rfl
 have hfst : n.fst = 1 + n.ins + n.ss.length := rfl
 obtain ⟨⟨si0, si1⟩, s2, s3, s4⟩ := hok.sz
 have hb1 := hbe.one
 refine zbf (N := 67) (args := [.agg #[.int .i64 n.ins, n.sv, n.lv, n.ov], .agg #[.int .i64 b.kd, .int .i64 b.it, b.bv]]) Try.func31 rfl rfl (srQ ?_)
 refine zdj rfl (zch rfl rfl) ?_
 intro b1
 refine zdj rfl (zch rfl rfl) ?_
 intro b2
 refine zaz 1 rfl (zeh (hvQ rfl (zao (cs := [.int .i64 n.ins, n.sv, n.lv, n.ov]) rfl rfl rfl rfl rfl (zaj 1 rfl 0 rfl)) ?_))
 refine zds rfl (zaq rfl rfl (fun w hm => zav (by have h9 := zfl n w (hr.below hm.bel); rw [zdu hok] at h9; exact h9))) (zaz 1 rfl (zal rfl (zcq (zeh (hvQ rfl (fdQ 0 rfl rfl rfl) (hvQ rfl (zad rfl rfl rfl (zaa 0 rfl rfl)) (zbu ?_)))))))
 refine zaw (zax (srQ ?_))
 refine zbp rfl rfl rfl rfl rfl rfl (fun h3 => ?_) (fun h3 => ?_)
 ·
  refine zaz 1 rfl (zak rfl (srQ (hvQ rfl (fdQ 1 rfl rfl rfl) (hvQ rfl (zad rfl rfl rfl (zaa 0 rfl rfl)) ?_))))
  refine zdi rfl rfl rfl rfl rfl rfl (fun h4 => ?_) (fun h4 => ?_)
  ·
   refine zap 1 rfl (hvQ rfl (fdQ 1 rfl rfl rfl) (hvQ rfl (zad rfl rfl rfl (zaa 0 rfl rfl)) (hvQ rfl (fdQ 0 rfl rfl rfl) (hvQ rfl (zad rfl rfl rfl (zaa 1 rfl rfl)) ?_))))
   refine zbj rfl rfl rfl rfl rfl rfl (fun h5 => ?_) (fun h5 => ?_)
   ·
    refine zaz 2 rfl ?_
    refine zau (zan ?_)
    exact zai (zbb rfl rfl (congrArg _ (zdu (by first | exact .inl ⟨by omega, by omega, by omega⟩ | exact .inr (.inl ⟨by omega, by omega, by omega⟩) | exact .inr (.inr (.inl ⟨by omega, by omega, by omega⟩)) | exact .inr (.inr (.inr ⟨by omega, fun q hq => hall q (by omega)⟩)))).symm))
   refine zaz 2 rfl ?_
   refine zau (zan ?_)
   exact zai (zbb rfl rfl (congrArg _ (zdp (fun hp => by rcases hp with ⟨p1, p2, p3⟩ | ⟨p1, p2, p3⟩ | ⟨p1, p2, p3⟩ | ⟨p1, p2⟩ <;> first | omega | exact absurd (p2 k (by omega)) (by assumption))).symm))
  refine zaz 8 rfl ?_
  refine zau (zan ?_)
  exact zai (zbb rfl rfl (congrArg _ (zdp (fun hp => by rcases hp with ⟨p1, p2, p3⟩ | ⟨p1, p2, p3⟩ | ⟨p1, p2, p3⟩ | ⟨p1, p2⟩ <;> first | omega | exact absurd (p2 k (by omega)) (by assumption))).symm))
 refine zaz 1 rfl (zal rfl (srQ ?_))
 refine zbp rfl rfl rfl rfl rfl rfl (fun h6 => ?_) (fun h6 => ?_)
 ·
  refine zaz 1 rfl (zak rfl (srQ (hvQ rfl (fdQ 1 rfl rfl rfl) (hvQ rfl (zad rfl rfl rfl (zaa 0 rfl rfl)) ?_))))
  refine zdi rfl rfl rfl rfl rfl rfl (fun h7 => ?_) (fun h7 => ?_)
  ·
   refine zap 1 rfl (hvQ rfl (fdQ 1 rfl rfl rfl) (hvQ rfl (zad rfl rfl rfl (zaa 0 rfl rfl)) (hvQ rfl (fdQ 3 rfl rfl rfl) (hvQ rfl (zad rfl rfl rfl (zaa 1 rfl rfl)) (hvQ rfl (lnQ rfl rfl rfl (zab ((hr).ou))) ?_)))))
   refine zbj rfl rfl rfl rfl rfl rfl (fun h8 => ?_) (fun h8 => ?_)
   ·
    refine zaz 2 rfl ?_
    refine zau (zan ?_)
    exact zai (zbb rfl rfl (congrArg _ (zdu (by first | exact .inl ⟨by omega, by omega, by omega⟩ | exact .inr (.inl ⟨by omega, by omega, by omega⟩) | exact .inr (.inr (.inl ⟨by omega, by omega, by omega⟩)) | exact .inr (.inr (.inr ⟨by omega, fun q hq => hall q (by omega)⟩)))).symm))
   refine zaz 2 rfl ?_
   refine zau (zan ?_)
   exact zai (zbb rfl rfl (congrArg _ (zdp (fun hp => by rcases hp with ⟨p1, p2, p3⟩ | ⟨p1, p2, p3⟩ | ⟨p1, p2, p3⟩ | ⟨p1, p2⟩ <;> first | omega | exact absurd (p2 k (by omega)) (by assumption))).symm))
  refine zaz 9 rfl ?_
  refine zau (zan ?_)
  exact zai (zbb rfl rfl (congrArg _ (zdp (fun hp => by rcases hp with ⟨p1, p2, p3⟩ | ⟨p1, p2, p3⟩ | ⟨p1, p2, p3⟩ | ⟨p1, p2⟩ <;> first | omega | exact absurd (p2 k (by omega)) (by assumption))).symm))
 refine zaz 1 rfl (zal rfl (srQ ?_))
 refine zbp rfl rfl rfl rfl rfl rfl (fun h9 => ?_) (fun h9 => ?_)
 ·
  refine zaz 1 rfl (zak rfl (srQ (hvQ rfl (fdQ 1 rfl rfl rfl) (hvQ rfl (zad rfl rfl rfl (zaa 0 rfl rfl)) ?_))))
  refine zdi rfl rfl rfl rfl rfl rfl (fun h10 => ?_) (fun h10 => ?_)
  ·
   refine zap 1 rfl (hvQ rfl (fdQ 1 rfl rfl rfl) (hvQ rfl (zad rfl rfl rfl (zaa 0 rfl rfl)) (hvQ rfl (fdQ 1 rfl rfl rfl) (hvQ rfl (zad rfl rfl rfl (zaa 1 rfl rfl)) (hvQ rfl (lnQ rfl rfl rfl (zab ((hr).sq.row))) ?_)))))
   refine zbj rfl rfl rfl rfl rfl rfl (fun h11 => ?_) (fun h11 => ?_)
   ·
    refine zaz 2 rfl ?_
    refine zau (zan ?_)
    exact zai (zbb rfl rfl (congrArg _ (zdu (by first | exact .inl ⟨by omega, by omega, by omega⟩ | exact .inr (.inl ⟨by omega, by omega, by omega⟩) | exact .inr (.inr (.inl ⟨by omega, by omega, by omega⟩)) | exact .inr (.inr (.inr ⟨by omega, fun q hq => hall q (by omega)⟩)))).symm))
   refine zaz 2 rfl ?_
   refine zau (zan ?_)
   exact zai (zbb rfl rfl (congrArg _ (zdp (fun hp => by rcases hp with ⟨p1, p2, p3⟩ | ⟨p1, p2, p3⟩ | ⟨p1, p2, p3⟩ | ⟨p1, p2⟩ <;> first | omega | exact absurd (p2 k (by omega)) (by assumption))).symm))
  refine zaz 9 rfl ?_
  refine zau (zan ?_)
  exact zai (zbb rfl rfl (congrArg _ (zdp (fun hp => by rcases hp with ⟨p1, p2, p3⟩ | ⟨p1, p2, p3⟩ | ⟨p1, p2, p3⟩ | ⟨p1, p2⟩ <;> first | omega | exact absurd (p2 k (by omega)) (by assumption))).symm))
 refine zaz 1 rfl (fsQ rfl (zcv (zeh (enQ 1 rfl ?_))))
 refine zaw (zax ?_)
 refine zka (α := Nat) [0, 1, 2, 3, 4, 8, 10, 11, 23, 36] rfl (fun k => [boxE b2 #[.int .i64 b.kd, .int .i64 b.it, b.bv] 39, boxE b1 #[.int .i64 n.ins, n.sv, n.lv, n.ov] 30]) (fun k => [(5, .int .i64 (k : Int))]) (fun k => k ≤ b.es.length ∧ ∀ q, q < k → LeP n (b.es.getD q le0)) (fun k => b.es.length - k) 0 ⟨Nat.zero_le _, fun q hq => absurd hq (by omega)⟩ (saQ rfl) (pfQ rfl) ?_
 intro k hi12
 obtain ⟨hk, hall⟩ := hi12
 refine zac (zac (reQ 1 rfl (hvQ rfl (fdQ 2 rfl rfl rfl) (hvQ rfl (zad rfl rfl rfl (zaa 0 rfl rfl)) (hvQ rfl (lnQ rfl rfl rfl (zab hbe)) ?_)))))
 refine zbj rfl rfl rfl rfl rfl rfl (fun h13 => ?_) (fun h13 => ?_)
 ·
  refine ntQ (zak rfl (zcq (sbQ (zac ?_))))
  rcases Bool.eq_false_or_eq_true (pB (LeP n (b.es.getD k le0))) with hb14 | hb14
  ·
   have hb14p := zja hb14
   refine zby 8 [[], [], [1], [], [2, 3], [4], [0, 5], [6]] [56, 57, 58, 59, 60, 61, 62, 63] [.agg #[.int .i64 n.ins, n.sv, n.lv, n.ov], .pointer (some ⟨b2, 0 + 2, none⟩), b.bv, .int .i64 (k : Int), elP b.bv (((k : Int)).toNat * 2), .agg #[.int .i64 ((b.es.getD k le0).u), .int .i64 ((b.es.getD k le0).f)], .bool true, .bool false] (by kernel_rfl) rfl ?_ ?_
   ·
    exact ⟨iaQ rfl (zao (cs := [.int .i64 n.ins, n.sv, n.lv, n.ov]) rfl rfl rfl rfl rfl (zaj 1 rfl 0 rfl)) rfl, iaQ rfl (fdQ 2 rfl rfl rfl) rfl, iaQ rfl (zad rfl rfl rfl (zaa 0 rfl rfl)) rfl, iaQ rfl (zas rfl) rfl, iaQ rfl (riQ 2 rfl rfl rfl rfl (zab hbe)) rfl, iaQ rfl (zbt (us := [.int .i64 ((b.es.getD k le0).u), .int .i64 ((b.es.getD k le0).f)]) rfl rfl rfl rfl (zab hbe) (by omega) rfl (zcp leC 2 (fun _ => rfl) b.es le0 (show k < _ by omega) rfl)) rfl, .inl ⟨rfl, zfr (zaq rfl rfl (fun w hm => zav (zng n (b.es.getD k le0) w (hr.below hm.bel) hok))) hb14⟩, iaQ rfl (zas rfl) rfl, trivial⟩
   simp only [List.drop_succ_cons, List.drop_zero]
   refine ntQ (fsQ rfl (zcv (reQ 1 rfl (hvQ rfl (vaQ rfl rfl rfl) (enQ 1 rfl ?_)))))
   exact zcr (k + 1) ⟨by omega, fun q hq => by by_cases e : q = k; (subst e; assumption); exact hall q (by omega)⟩ (by omega) (saQ rfl) (pfQ rfl)
  have hb14p := zgt hb14
  refine zby 8 [[], [], [1], [], [2, 3], [4], [0, 5], [6]] [56, 57, 58, 59, 60, 61, 62, 63] [.agg #[.int .i64 n.ins, n.sv, n.lv, n.ov], .pointer (some ⟨b2, 0 + 2, none⟩), b.bv, .int .i64 (k : Int), elP b.bv (((k : Int)).toNat * 2), .agg #[.int .i64 ((b.es.getD k le0).u), .int .i64 ((b.es.getD k le0).f)], .bool false, .bool true] (by kernel_rfl) rfl ?_ ?_
  ·
   exact ⟨iaQ rfl (zao (cs := [.int .i64 n.ins, n.sv, n.lv, n.ov]) rfl rfl rfl rfl rfl (zaj 1 rfl 0 rfl)) rfl, iaQ rfl (fdQ 2 rfl rfl rfl) rfl, iaQ rfl (zad rfl rfl rfl (zaa 0 rfl rfl)) rfl, iaQ rfl (zas rfl) rfl, iaQ rfl (riQ 2 rfl rfl rfl rfl (zab hbe)) rfl, iaQ rfl (zbt (us := [.int .i64 ((b.es.getD k le0).u), .int .i64 ((b.es.getD k le0).f)]) rfl rfl rfl rfl (zab hbe) (by omega) rfl (zcp leC 2 (fun _ => rfl) b.es le0 (show k < _ by omega) rfl)) rfl, .inl ⟨rfl, zfr (zaq rfl rfl (fun w hm => zav (zng n (b.es.getD k le0) w (hr.below hm.bel) hok))) hb14⟩, iaQ rfl (zas rfl) rfl, trivial⟩
  simp only [List.drop_succ_cons, List.drop_zero]
  refine ntQ (zak rfl (zbd 1 rfl ?_))
  refine zau (zan ?_)
  refine zge ?_
  refine zan (zai ?_)
  exact zbb rfl rfl (congrArg _ (zdp (fun hp => by rcases hp with ⟨p1, p2, p3⟩ | ⟨p1, p2, p3⟩ | ⟨p1, p2, p3⟩ | ⟨p1, p2⟩ <;> first | omega | exact absurd (p2 k (by omega)) (by assumption))).symm)
 refine ntQ (zal rfl ?_)
 refine zba (zdq ?_)
 refine zag (zaw (srQ (hvQ rfl (fdQ 0 rfl rfl rfl) (hvQ rfl (zad rfl rfl rfl (zaa 0 rfl rfl)) ?_))))
 refine zbp rfl rfl rfl rfl rfl rfl (fun h15 => ?_) (fun h15 => ?_)
 ·
  refine zaz 1 rfl ?_
  exact zau (zbb rfl rfl (congrArg _ (zdu (by first | exact .inl ⟨by omega, by omega, by omega⟩ | exact .inr (.inl ⟨by omega, by omega, by omega⟩) | exact .inr (.inr (.inl ⟨by omega, by omega, by omega⟩)) | exact .inr (.inr (.inr ⟨by omega, fun q hq => hall q (by omega)⟩)))).symm))
 refine zaz 1 rfl ?_
 exact zau (zbb rfl rfl (congrArg _ (zdp (fun hp => by rcases hp with ⟨p1, p2, p3⟩ | ⟨p1, p2, p3⟩ | ⟨p1, p2, p3⟩ | ⟨p1, p2⟩ <;> first | omega | exact absurd (p2 k (by omega)) (by assumption))).symm))
end Go.Proofs.Yteikplehipifkaa
