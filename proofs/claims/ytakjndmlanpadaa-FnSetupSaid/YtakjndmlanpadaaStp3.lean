/- Texts of the law FnSetup, part 3: what it uses. -/
import Derived.Test.YtakjndmlanpadaaStp2
set_option linter.unusedVariables false
set_option linter.unusedSimpArgs false
set_option maxHeartbeats 4000000
set_option maxRecDepth 100000
namespace Go.Proofs.Ytakjndmlanpadaa
open Go.RowKit Go.ChangeShapes
open Go.RowKit
theorem wavesOf_ret (x : Td) (a : Int) (w : World) (hr : RdsTd w x) (hok : TdOk x) (ha : 0 ≤ a ∧ a ≤ 1100) :
   Calls Try.prog 48 #[.agg #[.int .i64 x.n.ins, x.n.sv, x.n.lv, x.n.ov, x.pv, x.qv, x.kv, x.av, x.bv, .int .i64 x.oi, .int .i64 x.ni], .int .i64 a] w (Ret w (fun v' post => ∃ (b : Nat) (bv av : Value) (es : List IR), v' = .pointer (some ⟨b, 0, none⟩) ∧ post = [irsE av es, boxE b #[bv, av] 82, rowE 3 1 bv (ovX x).length ((ovX x).map (Value.int .i64))] ∧ WOk x a.toNat x.n.cnt.toNat x.n.cnt.toNat es ∧ av.oneCell' = true)) := by
 have t1 := sml hr.ks
 have t2 := sml hr.ao
 have t3 := sml hr.bs
 have t4 := hr.dl.small
 have t5 := hr.ds.small
 have t6 := hr.n.sq.small
 have t7 := hr.n.lt.small
 have t8 := sml hr.n.ou
 have hcnt : x.n.cnt = 1 + x.n.ins + x.n.ss.length + x.n.ls.length := rfl
 have hfst : x.n.fst = 1 + x.n.ins + x.n.ss.length := rfl
 obtain ⟨ci, cs_, cl, ck, ca, cb, cd, ce⟩ := hok.bnd
 have hi0 := ci.1
 have hi1 := ci.2
 have hvl := zev x.n x.ao x.oi x.n.ls.length
 have hov : (ovX x).length = x.n.cnt.toNat := by show (vlL _ _ _ _).length = _; omega
 have hrl : (List.replicate x.n.cnt.toNat ir0).length = x.n.cnt.toNat := List.length_replicate
 refine zbf (N := 152) (args := [.agg #[.int .i64 x.n.ins, x.n.sv, x.n.lv, x.n.ov, x.pv, x.qv, x.kv, x.av, x.bv, .int .i64 x.oi, .int .i64 x.ni], .int .i64 a]) Try.func48 rfl rfl (srQ ?_)
 refine zdt rfl (zct rfl rfl) ?_
 intro b1
 refine zbb 1 rfl (srQ (hvQ rfl (fdQ 0 rfl rfl rfl) (hvQ rfl (zar (cs := [.int .i64 x.n.ins, x.n.sv, x.n.lv, x.n.ov]) rfl rfl rfl rfl rfl (zam 0 rfl 0 rfl)) ?_)))
 refine zdt rfl (zbm (z := .agg #[.int .i64 0, .slice none 0 0, .slice none 0 0, .slice none 0 0]) rfl rfl) ?_
 intro b2
 refine zbr (cs' := #[.int .i64 x.n.ins, x.n.sv, x.n.lv, x.n.ov]) (i := 0) (off := 0) (us := [.int .i64 x.n.ins, x.n.sv, x.n.lv, x.n.ov]) rfl rfl rfl rfl rfl rfl rfl (zae rfl (zae hr.n.sq.row.one (zae hr.n.lt.row.one (zae hr.n.ou.one zbj)))) rfl rfl rfl (ntQ (zac ?_))
 refine zdq rfl 11 [0, 1, 2, 3, 4, 5, 6, 7, 8, 9, 10] (List.take 11 _) (List.drop 11 _) [[], [], [1], [], [3], [0, 2, 4], [], [6], [7], [5, 8], [5, 8, 9]] [17, 18, 19, 20, 21, 22, 23, 24, 25, 26, 27] (fun i_ vs_ v_ p_ => match i_ with | 0 => v_ = .agg #[.int .i64 x.n.ins, x.n.sv, x.n.lv, x.n.ov] ∧ p_ = [] | 1 => v_ = .pointer (some ⟨b1, 0 + 7, none⟩) ∧ p_ = [] | 2 => v_ = x.av ∧ p_ = [] | 3 => v_ = .pointer (some ⟨b1, 0 + 9, none⟩) ∧ p_ = [] | 4 => v_ = .int .i64 x.oi ∧ p_ = [] | 5 => (fun v' post => post = [rowE 3 1 v' (ovX x).length ((ovX x).map (Value.int .i64))]) v_ p_ | 6 => v_ = .agg #[.int .i64 x.n.ins, x.n.sv, x.n.lv, x.n.ov] ∧ p_ = [] | 7 => v_ = .int .i64 x.n.cnt ∧ p_ = [] | 8 => IsRow 26 1 ((List.replicate (x.n.cnt).toNat ir0).length) ((List.replicate (x.n.cnt).toNat ir0).flatMap irC) v_ p_ | 9 => v_ = .agg #[(List.getD vs_ 0 undef), (List.getD vs_ 1 undef)] ∧ p_ = [] | 10 => IsBox #[(List.getD vs_ 0 undef), (List.getD vs_ 1 undef)] 82 v_ p_ | _ => True) (List.take_append_drop 11 _).symm (by kernel_rfl) (by kernel_rfl) rfl rfl ?_ ?_
 ·
  refine ⟨?_, ?_, ?_, ?_, ?_, ?_, ?_, ?_, ?_, ?_, ?_, trivial⟩
  ·
   intro vf pf hR
   exact olQ rfl (zai [5] rfl) (zbd (zar (cs := [.int .i64 x.n.ins, x.n.sv, x.n.lv, x.n.ov]) rfl rfl rfl rfl rfl (zam 0 rfl 0 rfl)))
  ·
   intro vf pf hR
   exact ovQ rfl (zai [2] rfl) (zbd (fdQ 7 rfl rfl rfl))
  ·
   intro vf pf hR
   have e1 := hR 1 (by decide)
   exact olQ rfl (sk 18 (congrArg some e1.1) (zab _)) (zbd (zag rfl rfl rfl (zad 1 rfl rfl)))
  ·
   intro vf pf hR
   exact ovQ rfl (zai [2] rfl) (zbd (fdQ 9 rfl rfl rfl))
  ·
   intro vf pf hR
   have e3 := hR 3 (by decide)
   exact olQ rfl (sk 20 (congrArg some e3.1) (zab _)) (zbd (zag rfl rfl rfl (zad 1 rfl rfl)))
  ·
   intro vf pf hR
   have e0 := hR 0 (by decide)
   have e2 := hR 2 (by decide)
   have e4 := hR 4 (by decide)
   exact olQ rfl (sk 17 (congrArg some e0.1) (sk 19 (congrArg some e2.1) (sk 21 (congrArg some e4.1) (zab _)))) (zal rfl rfl (fun w hm => lutValues_ret x.n x.ao _ x.oi w (hr.n.below hm.bel) (hr.ao.below hm.bel) hok.n hok.a))
  ·
   intro vf pf hR
   exact olQ rfl (zai [5] rfl) (zbd (zar (cs := [.int .i64 x.n.ins, x.n.sv, x.n.lv, x.n.ov]) rfl rfl rfl rfl rfl (zam 0 rfl 0 rfl)))
  ·
   intro vf pf hR
   have e6 := hR 6 (by decide)
   exact olQ rfl (sk 23 (congrArg some e6.1) (zab _)) (zal rfl rfl (fun w hm => zas (zfm x.n w (hr.n.below hm.bel) hok.n.sz)))
  ·
   intro vf pf hR
   have e7 := hR 7 (by decide)
   exact olQ rfl (sk 24 (congrArg some e7.1) (zab _)) (zei (z := .slice none 0 0) (s := 1) (bytes := 24) (n := (List.replicate (x.n.cnt).toNat ir0).length) (cs := ((List.replicate (x.n.cnt).toNat ir0).flatMap irC)) rfl Try.underlying41 rfl (by decide) rfl rfl (by first | (rw [List.length_replicate]; done) | (rw [List.length_replicate]; omega)) (by first | (rw [List.length_replicate]; done) | (rw [List.length_replicate]; omega)) (by rw [List.length_replicate]; omega) (zey irC 1 (fun _ => rfl) ir0 _ rfl (x.n.cnt).toNat))
  ·
   intro vf pf hR
   have e5 : (fun v' post => post = [rowE 3 1 v' (ovX x).length ((ovX x).map (Value.int .i64))]) (vf 5) (pf 5) := hR 5 (by decide)
   obtain ⟨v3, vE5⟩ : ∃ x, vf 5 = x := ⟨_, rfl⟩
   obtain ⟨p4, pE5⟩ : ∃ x, pf 5 = x := ⟨_, rfl⟩
   have hR5 := e5
   rw [vE5, pE5] at hR5
   subst hR5
   have e8 : IsRow 26 1 ((List.replicate (x.n.cnt).toNat ir0).length) ((List.replicate (x.n.cnt).toNat ir0).flatMap irC) (vf 8) (pf 8) := hR 8 (by decide)
   obtain ⟨g6, vE8, pE8⟩ := e8
   refine Or.inl ⟨rfl, ?_⟩
   exact zcc (sk 22 (congrArg some vE5) (sk 25 (congrArg some vE8) (zab _))) (by simp only [pE5, vE5, pE8, vE8, fS] <;> rfl) (zco (zbd (rv_buildM (cs := #[v3, .slice (some ⟨g6, 0, none⟩) ((List.replicate (x.n.cnt).toNat ir0).length) ((List.replicate (x.n.cnt).toNat ir0).length)]) rfl rfl (fun w hm => built_waves v3 (.slice (some ⟨g6, 0, none⟩) ((List.replicate (x.n.cnt).toNat ir0).length) ((List.replicate (x.n.cnt).toNat ir0).length)) ((zah 0 rfl w hm).one) rfl))) (fun _ _ h => ⟨h.1.trans (by show _ = (.agg #[(vf 5), (vf 8)] : Value); first | (rw [vE5, vE8]; done) | (rw [vE5, vE8]; rfl)), h.2⟩))
  intro vf pf hR
  have e5 : (fun v' post => post = [rowE 3 1 v' (ovX x).length ((ovX x).map (Value.int .i64))]) (vf 5) (pf 5) := hR 5 (by decide)
  obtain ⟨v3, vE5⟩ : ∃ x, vf 5 = x := ⟨_, rfl⟩
  obtain ⟨p4, pE5⟩ : ∃ x, pf 5 = x := ⟨_, rfl⟩
  have hR5 := e5
  rw [vE5, pE5] at hR5
  subst hR5
  have e8 : IsRow 26 1 ((List.replicate (x.n.cnt).toNat ir0).length) ((List.replicate (x.n.cnt).toNat ir0).flatMap irC) (vf 8) (pf 8) := hR 8 (by decide)
  obtain ⟨g6, vE8, pE8⟩ := e8
  have e9 : (vf 9) = .agg #[(vf 5), (vf 8)] ∧ (pf 9) = [] := hR 9 (by decide)
  rw [vE5, vE8] at e9
  refine Or.inl ⟨rfl, ?_⟩
  exact zcc (sk 26 (congrArg some e9.1) (zab _)) (by simp only [pE5, vE5, pE8, vE8, e9.2, fS] <;> rfl) (zco (zct rfl rfl) (fun v_ p_ h => by show IsBox #[(vf 5), (vf 8)] 82 v_ p_; rw [vE5, vE8]; exact h))
 intro vf pf hR
 have e5 : (fun v' post => post = [rowE 3 1 v' (ovX x).length ((ovX x).map (Value.int .i64))]) (vf 5) (pf 5) := hR 5 (by decide)
 obtain ⟨v3, vE5⟩ : ∃ x, vf 5 = x := ⟨_, rfl⟩
 obtain ⟨p4, pE5⟩ : ∃ x, pf 5 = x := ⟨_, rfl⟩
 have hR5 := e5
 rw [vE5, pE5] at hR5
 subst hR5
 have e8 : IsRow 26 1 ((List.replicate (x.n.cnt).toNat ir0).length) ((List.replicate (x.n.cnt).toNat ir0).flatMap irC) (vf 8) (pf 8) := hR 8 (by decide)
 obtain ⟨g6, vE8, pE8⟩ := e8
 have e10 : IsBox #[(vf 5), (vf 8)] 82 (vf 10) (pf 10) := hR 10 (by decide)
 rw [vE5, vE8] at e10
 obtain ⟨b7, vE10, pE10⟩ := e10
 have q0 := hR 0 (by decide)
 have q1 := hR 1 (by decide)
 have q2 := hR 2 (by decide)
 have q3 := hR 3 (by decide)
 have q4 := hR 4 (by decide)
 have q6 := hR 6 (by decide)
 have q7 := hR 7 (by decide)
 have q9 := hR 9 (by decide)
 refine zce (zbe [5, 4, 2, 1, 0] _ (sk 27 (congrArg some vE10) (zab _)) rfl) (by simp only [pE5, vE5, pE8, vE8, pE10, vE10, q0.2, q1.2, q2.2, q3.2, q4.2, q6.2, q7.2, q9.2, fS] <;> rfl) ?_
 simp only [List.drop_succ_cons, List.drop_zero]
 refine zbb 1 rfl (zac (zac (reQ 1 rfl (hvQ rfl (zem rfl rfl) (hvQ rfl (fdQ 1 rfl rfl rfl) (hvQ rfl (zag rfl rfl rfl (zad 2 rfl rfl)) (hvQ rfl (lnQ rfl rfl rfl (zah 1 rfl)) (zan 1 rfl (?_)))))))))
 refine ntQ (zaw ?_)
 refine zdo [bigE ((List.replicate x.n.cnt.toNat ir0).map irPart), rowE 3 1 v3 ((ovX x).length) ((ovX x).map (Value.int .i64)), rowE 26 1 (.slice (some ⟨g6, 0, none⟩) ((List.replicate (x.n.cnt).toNat ir0).length) ((List.replicate (x.n.cnt).toNat ir0).length)) ((List.replicate (x.n.cnt).toNat ir0).length) ((List.replicate (x.n.cnt).toNat ir0).flatMap irC), boxE b7 #[v3, .slice (some ⟨g6, 0, none⟩) ((List.replicate (x.n.cnt).toNat ir0).length) ((List.replicate (x.n.cnt).toNat ir0).length)] 82, boxE b2 #[.int .i64 x.n.ins, x.n.sv, x.n.lv, x.n.ov] 28, boxE b1 #[.int .i64 x.n.ins, x.n.sv, x.n.lv, x.n.ov, x.pv, x.qv, x.kv, x.av, x.bv, .int .i64 x.oi, .int .i64 x.ni] 45] (fun w hm => hm.irNil x.n.cnt.toNat) ?_
 refine lkQ2 (α := Nat) (β := List IR) [0, 1, 2, 4, 5, 6, 32] rfl (fun m es => [bigE (es.map irPart), rowE 3 1 v3 ((ovX x).length) ((ovX x).map (Value.int .i64)), rowE 26 1 (.slice (some ⟨g6, 0, none⟩) ((List.replicate (x.n.cnt).toNat ir0).length) ((List.replicate (x.n.cnt).toNat ir0).length)) es.length (es.flatMap irC), boxE b7 #[v3, .slice (some ⟨g6, 0, none⟩) ((List.replicate (x.n.cnt).toNat ir0).length) ((List.replicate (x.n.cnt).toNat ir0).length)] 82, boxE b2 #[.int .i64 x.n.ins, x.n.sv, x.n.lv, x.n.ov] 28, boxE b1 #[.int .i64 x.n.ins, x.n.sv, x.n.lv, x.n.ov, x.pv, x.qv, x.kv, x.av, x.bv, .int .i64 x.oi, .int .i64 x.ni] 45]) (fun m es => [(33, .int .i64 (m : Int))]) (fun m es => m ≤ x.n.cnt.toNat ∧ WOk x a.toNat m x.n.cnt.toNat es) (fun m es => x.n.cnt.toNat - m) 0 (List.replicate x.n.cnt.toNat ir0) ⟨by omega, w_start _ _ _⟩ (saQ rfl) (pfQ rfl) ?_
 intro m es hi8
 obtain ⟨hm9, hw⟩ := hi8
 have hel := hw.len
 refine srQ ?_
 refine zbh rfl rfl rfl rfl rfl rfl (fun h9 => ?_) (fun h9 => ?_)
 ·
  refine ntQ (tcQ rfl (zcp (sbQ (srQ (enQ 2 rfl ?_)))))
  refine zax (zac ?_)
  refine zdq rfl 9 [0, 1, 2, 3, 4, 5, 6, 7, 8] (List.take 9 _) (List.drop 9 _) [[], [0], [1], [2], [], [], [5], [6], [3, 4]] [36, 37, 38, 39, 40, 41, 42, 43, 44] (fun i_ vs_ v_ p_ => match i_ with | 0 => v_ = .pointer (some ⟨b7, 0, none⟩) ∧ p_ = [] | 1 => v_ = .pointer (some ⟨b7, 0, none⟩) ∧ p_ = [] | 2 => v_ = .pointer (some ⟨b7, 0 + 1, none⟩) ∧ p_ = [] | 3 => v_ = .slice (some ⟨g6, 0, none⟩) ((List.replicate (x.n.cnt).toNat ir0).length) ((List.replicate (x.n.cnt).toNat ir0).length) ∧ p_ = [] | 4 => v_ = .int .i64 (m : Int) ∧ p_ = [] | 5 => v_ = .int .i64 a ∧ p_ = [] | 6 => v_ = .int .i64 (a + 1) ∧ p_ = [] | 7 => IsRow 3 1 ((List.replicate (a + 1).toNat (0 : Int)).length) ((List.replicate (a + 1).toNat (0 : Int)).map (Value.int .i64)) v_ p_ | 8 => v_ = elP (.slice (some ⟨g6, 0, none⟩) ((List.replicate (x.n.cnt).toNat ir0).length) ((List.replicate (x.n.cnt).toNat ir0).length)) (((m : Int)).toNat * 1) ∧ p_ = [] | _ => True) (List.take_append_drop 9 _).symm (by kernel_rfl) (by kernel_rfl) rfl rfl ?_ ?_
  ·
   refine ⟨?_, ?_, ?_, ?_, ?_, ?_, ?_, ?_, ?_, trivial⟩
   ·
    intro vf pf hR
    exact ovQ rfl (zai [6] rfl) (zbd (zaj rfl))
   ·
    intro vf pf hR
    have e0 := hR 0 (by decide)
    exact ovQ rfl (sk 36 (congrArg some e0.1) (zab _)) (zbd (zem rfl rfl))
   ·
    intro vf pf hR
    have e1 := hR 1 (by decide)
    exact ovQ rfl (sk 37 (congrArg some e1.1) (zab _)) (zbd (fdQ 1 rfl rfl rfl))
   ·
    intro vf pf hR
    have e2 := hR 2 (by decide)
    exact olQ rfl (sk 38 (congrArg some e2.1) (zab _)) (zbd (zag rfl rfl rfl (zad 3 rfl rfl)))
   ·
    intro vf pf hR
    exact ovQ rfl (zai [7] rfl) (zbd (zaj rfl))
   ·
    intro vf pf hR
    exact ovQ rfl (zai [1] rfl) (zbd (zaj rfl))
   ·
    intro vf pf hR
    have e5 := hR 5 (by decide)
    exact ovQ rfl (sk 41 (congrArg some e5.1) (zab _)) (zbd (vaQ rfl rfl rfl))
   ·
    intro vf pf hR
    have e6 := hR 6 (by decide)
    exact olQ rfl (sk 42 (congrArg some e6.1) (zab _)) (zei (z := .int .i64 0) (s := 1) (bytes := 8) (n := (List.replicate (a + 1).toNat (0 : Int)).length) (cs := ((List.replicate (a + 1).toNat (0 : Int)).map (Value.int .i64))) rfl Try.underlying26 rfl (by decide) rfl rfl (by first | (rw [List.length_replicate]; done) | (rw [List.length_replicate]; omega)) (by first | (rw [List.length_replicate]; done) | (rw [List.length_replicate]; omega)) (by rw [List.length_replicate]; omega) (zez _))
   intro vf pf hR
   have e3 := hR 3 (by decide)
   have e4 := hR 4 (by decide)
   exact olQ rfl (sk 39 (congrArg some e3.1) (sk 40 (congrArg some e4.1) (zab _))) (zbd (riQ 1 rfl rfl rfl rfl (zah 2 rfl)))
  intro vf pf hR
  have e7 : IsRow 3 1 ((List.replicate (a + 1).toNat (0 : Int)).length) ((List.replicate (a + 1).toNat (0 : Int)).map (Value.int .i64)) (vf 7) (pf 7) := hR 7 (by decide)
  obtain ⟨g10, vE7, pE7⟩ := e7
  have e8 := hR 8 (by decide)
  have q0 := hR 0 (by decide)
  have q1 := hR 1 (by decide)
  have q2 := hR 2 (by decide)
  have q3 := hR 3 (by decide)
  have q4 := hR 4 (by decide)
  have q5 := hR 5 (by decide)
  have q6 := hR 6 (by decide)
  have q8 := hR 8 (by decide)
  refine zce (zbe [34, 33, 32, 7, 6, 5, 4, 2, 1, 0] _ (sk 43 (congrArg some vE7) (sk 44 (congrArg some e8.1) (zab _))) rfl) (by simp only [pE7, vE7, q0.2, q1.2, q2.2, q3.2, q4.2, q5.2, q6.2, q8.2, fS] <;> rfl) ?_
  simp only [List.drop_succ_cons, List.drop_zero]
  refine zcw (i := 3) (n' := (es.set m (IR.mk (.slice (some ⟨g10, 0, none⟩) ((List.replicate (a + 1).toNat (0 : Int)).length) ((List.replicate (a + 1).toNat (0 : Int)).length)) (List.replicate ((a + 1).toNat) (0 : Int)))).length) rfl rfl rfl rfl rfl rfl rfl rfl (by first | omega | (simp only [List.length_set]; omega)) List.length_set.symm (zdf irC (fun r => r.v) (fun _ => rfl) _ (IR.mk (.slice (some ⟨g10, 0, none⟩) ((List.replicate (a + 1).toNat (0 : Int)).length) ((List.replicate (a + 1).toNat (0 : Int)).length)) (List.replicate ((a + 1).toNat) (0 : Int))) rfl) rfl (ntQ (zbc 1 rfl (zaw ?_)))
  refine zfc 7 [6, 5, 4, 3, 2, 1, 0] rfl rfl (by decide) ?_
  refine zdo [bigE ((es.set m (IR.mk (.slice (some ⟨g10, 0, none⟩) ((List.replicate (a + 1).toNat (0 : Int)).length) ((List.replicate (a + 1).toNat (0 : Int)).length)) (List.replicate ((a + 1).toNat) (0 : Int)))).map irPart), rowE 3 1 v3 ((ovX x).length) ((ovX x).map (Value.int .i64)), rowE 26 1 (.slice (some ⟨g6, 0, none⟩) ((List.replicate (x.n.cnt).toNat ir0).length) ((List.replicate (x.n.cnt).toNat ir0).length)) ((es.set m (IR.mk (.slice (some ⟨g10, 0, none⟩) ((List.replicate (a + 1).toNat (0 : Int)).length) ((List.replicate (a + 1).toNat (0 : Int)).length)) (List.replicate ((a + 1).toNat) (0 : Int)))).length) ((es.set m (IR.mk (.slice (some ⟨g10, 0, none⟩) ((List.replicate (a + 1).toNat (0 : Int)).length) ((List.replicate (a + 1).toNat (0 : Int)).length)) (List.replicate ((a + 1).toNat) (0 : Int)))).flatMap irC), boxE b7 #[v3, .slice (some ⟨g6, 0, none⟩) ((List.replicate (x.n.cnt).toNat ir0).length) ((List.replicate (x.n.cnt).toNat ir0).length)] 82, boxE b2 #[.int .i64 x.n.ins, x.n.sv, x.n.lv, x.n.ov] 28, boxE b1 #[.int .i64 x.n.ins, x.n.sv, x.n.lv, x.n.ov, x.pv, x.qv, x.kv, x.av, x.bv, .int .i64 x.oi, .int .i64 x.ni] 45] (conv_irSet (es := es) (j := m) (e' := (IR.mk (.slice (some ⟨g10, 0, none⟩) ((List.replicate (a + 1).toNat (0 : Int)).length) ((List.replicate (a + 1).toNat (0 : Int)).length)) (List.replicate ((a + 1).toNat) (0 : Int)))) (by omega)) ?_
  refine lkQ2 (α := Nat) (β := List IR) [0, 1, 2, 4, 5, 6, 7, 32, 33, 34] rfl (fun t e2 => [bigE (e2.map irPart), rowE 3 1 v3 ((ovX x).length) ((ovX x).map (Value.int .i64)), rowE 26 1 (.slice (some ⟨g6, 0, none⟩) ((List.replicate (x.n.cnt).toNat ir0).length) ((List.replicate (x.n.cnt).toNat ir0).length)) e2.length (e2.flatMap irC), boxE b7 #[v3, .slice (some ⟨g6, 0, none⟩) ((List.replicate (x.n.cnt).toNat ir0).length) ((List.replicate (x.n.cnt).toNat ir0).length)] 82, boxE b2 #[.int .i64 x.n.ins, x.n.sv, x.n.lv, x.n.ov] 28, boxE b1 #[.int .i64 x.n.ins, x.n.sv, x.n.lv, x.n.ov, x.pv, x.qv, x.kv, x.av, x.bv, .int .i64 x.oi, .int .i64 x.ni] 45]) (fun t e2 => [(8, .int .i64 (t : Int))]) (fun t e2 => t ≤ a.toNat + 1 ∧ WOk x a.toNat m x.n.cnt.toNat e2 ∧ (e2.getD m ir0).xs = fzT (a.toNat + 1) (rowW x (wvsL x a.toNat m) m t)) (fun t e2 => a.toNat + 1 - t) 0 (es.set m (IR.mk (.slice (some ⟨g10, 0, none⟩) ((List.replicate (a + 1).toNat (0 : Int)).length) ((List.replicate (a + 1).toNat (0 : Int)).length)) (List.replicate ((a + 1).toNat) (0 : Int)))) ⟨by omega, hw.set _, by rw [zgi (by omega)]; show List.replicate _ _ = _; rw [show (a + 1).toNat = a.toNat + 1 by omega]; exact rowW_zero x _ m _⟩ (saQ rfl) (pfQ rfl) ?_
  intro t e2 hi11
  obtain ⟨ht, hw2, hx2⟩ := hi11
  have hel2 := hw2.len
  have hxl2 : (e2.getD m ir0).xs.length = a.toNat + 1 := by rw [hx2]; exact fzT_lenW _ _ ht
  refine zac (zac (reQ 2 rfl ?_))
  refine hl_leq rfl rfl rfl rfl rfl rfl (fun h12 => ?_) (fun h12 => ?_)
  ·
   refine ntQ (zao rfl (zcp (sbQ (zbc 1 rfl ?_))))
   refine sbQ (zac (reQ 1 rfl ?_))
   refine zcu rfl rfl rfl rfl rfl rfl (fun h13 => ?_) (fun h13 => ?_)
   ·
    refine zbb 1 rfl (zao rfl (zgs (zcv (zay ?_))))
    refine zgg 6 [5, 4, 3, 2, 1, 0] rfl rfl (by decide) ?_
    refine zfr [rowE 3 1 ((e2.getD m ir0).v) (((e2.getD m ir0).xs).length) (((e2.getD m ir0).xs).map (Value.int .i64)), bigE ((e2.map irPart).eraseIdx m), rowE 3 1 v3 ((ovX x).length) ((ovX x).map (Value.int .i64)), rowE 26 1 (.slice (some ⟨g6, 0, none⟩) ((List.replicate (x.n.cnt).toNat ir0).length) ((List.replicate (x.n.cnt).toNat ir0).length)) e2.length (e2.flatMap irC), boxE b7 #[v3, .slice (some ⟨g6, 0, none⟩) ((List.replicate (x.n.cnt).toNat ir0).length) ((List.replicate (x.n.cnt).toNat ir0).length)] 82, boxE b2 #[.int .i64 x.n.ins, x.n.sv, x.n.lv, x.n.ov] 28, boxE b1 #[.int .i64 x.n.ins, x.n.sv, x.n.lv, x.n.ov, x.pv, x.qv, x.kv, x.av, x.bv, .int .i64 x.oi, .int .i64 x.ni] 45] (zfp (es := e2) (j := m) (by omega)) ?_
    refine zan 1 rfl (hvQ rfl (zem rfl rfl) (hvQ rfl (fdQ 1 rfl rfl rfl) (hvQ rfl (zag rfl rfl rfl (zad 4 rfl rfl)) (zan 1 rfl (hvQ rfl (riQ 1 rfl rfl rfl rfl (zah 3 rfl)) ?_)))))
    refine hvQ rfl (zat (u := (e2.getD m ir0).v) rfl rfl rfl (zah 3 rfl) (zbn irC (fun r => r.v) (fun _ => rfl) e2 ir0 (show m < _ by omega))) (zan 2 rfl (hvQ rfl (riQ 1 rfl rfl rfl rfl (zah 0 rfl)) ?_))
    refine zcw (i := 0) (n' := (((e2.getD m ir0).xs).set t 0).length) (xs' := ((((e2.getD m ir0).xs).set t 0).map (Value.int .i64))) rfl rfl rfl rfl rfl rfl rfl rfl (by first | omega | (simp only [List.length_set]; omega)) List.length_set.symm (zdb _ _ _) rfl (zcb (zcv (reQ 1 rfl (hvQ rfl (vaQ rfl rfl rfl) (enQ 1 rfl ?_)))))
    have hv9 : 0 = wvV x (wvsL x a.toNat m) m (t : Int) := by rw [show m = 0 by omega]; exact (wv_zero x _ _ hi0).symm
    refine zbo 7 [6, 5, 4, 3, 2, 1, 0] rfl rfl (by decide) ?_
    refine zet [bigE ((e2.set m (IR.mk (e2.getD m ir0).v (((e2.getD m ir0).xs).set t 0))).map irPart), rowE 3 1 v3 ((ovX x).length) ((ovX x).map (Value.int .i64)), rowE 26 1 (.slice (some ⟨g6, 0, none⟩) ((List.replicate (x.n.cnt).toNat ir0).length) ((List.replicate (x.n.cnt).toNat ir0).length)) ((e2.set m (IR.mk (e2.getD m ir0).v (((e2.getD m ir0).xs).set t 0))).length) ((e2.set m (IR.mk (e2.getD m ir0).v (((e2.getD m ir0).xs).set t 0))).flatMap irC), boxE b7 #[v3, .slice (some ⟨g6, 0, none⟩) ((List.replicate (x.n.cnt).toNat ir0).length) ((List.replicate (x.n.cnt).toNat ir0).length)] 82, boxE b2 #[.int .i64 x.n.ins, x.n.sv, x.n.lv, x.n.ov] 28, boxE b1 #[.int .i64 x.n.ins, x.n.sv, x.n.lv, x.n.ov, x.pv, x.qv, x.kv, x.av, x.bv, .int .i64 x.oi, .int .i64 x.ni] 45] (fun w hm => by
        have h8 := zfb (es := e2) (j := m) (e' := IR.mk (e2.getD m ir0).v (((e2.getD m ir0).xs).set t 0)) (by omega) w hm
        have h7 : (e2.set m (IR.mk (e2.getD m ir0).v (((e2.getD m ir0).xs).set t 0))).flatMap irC = e2.flatMap irC := flat_same
        rw [h7, List.length_set]; exact h8) ?_
    exact zbv (t + 1) (e2.set m (IR.mk (e2.getD m ir0).v (((e2.getD m ir0).xs).set t 0))) ⟨by omega, hw2.set _, by rw [zgi (by omega)]; show ((e2.getD m ir0).xs).set t 0 = _; rw [hx2]; exact rowW_set (by omega) hv9⟩ (by omega) (saQ rfl) (pfQ rfl)
   refine zbb 1 rfl (zaq rfl (zac (reQ 1 rfl (hvQ rfl (fdQ 0 rfl rfl rfl) (hvQ rfl (zag rfl rfl rfl (zad 4 rfl rfl)) ?_)))))
   refine hl_leq rfl rfl rfl rfl rfl rfl (fun h14 => ?_) (fun h14 => ?_)
   ·
    refine zan 1 rfl (zcb (zax (zao rfl (zay (hvQ rfl (fdQ 10 rfl rfl rfl) (hvQ rfl (zag rfl rfl rfl (zad 5 rfl rfl)) (zan 1 rfl (hvQ rfl (vsQ rfl rfl rfl) (hvQ rfl (rv_conv rfl Try.underlying3 Try.underlying111 rfl (IntWalk.u64_in _ (by omega))) (hvQ rfl (rv_shr rfl rfl rfl (by omega)) (hvQ rfl (zdg rfl (by decide) rfl rfl (r := (x.ni / 2 ^ ((m : Int) - 1 : Int).toNat) % 2) (andOne _)) (zan 1 rfl ?_))))))))))))
    refine zcb (zcv (zay ?_))
    refine zgg 6 [5, 4, 3, 2, 1, 0] rfl rfl (by decide) ?_
    refine zfr [rowE 3 1 ((e2.getD m ir0).v) (((e2.getD m ir0).xs).length) (((e2.getD m ir0).xs).map (Value.int .i64)), bigE ((e2.map irPart).eraseIdx m), rowE 3 1 v3 ((ovX x).length) ((ovX x).map (Value.int .i64)), rowE 26 1 (.slice (some ⟨g6, 0, none⟩) ((List.replicate (x.n.cnt).toNat ir0).length) ((List.replicate (x.n.cnt).toNat ir0).length)) e2.length (e2.flatMap irC), boxE b7 #[v3, .slice (some ⟨g6, 0, none⟩) ((List.replicate (x.n.cnt).toNat ir0).length) ((List.replicate (x.n.cnt).toNat ir0).length)] 82, boxE b2 #[.int .i64 x.n.ins, x.n.sv, x.n.lv, x.n.ov] 28, boxE b1 #[.int .i64 x.n.ins, x.n.sv, x.n.lv, x.n.ov, x.pv, x.qv, x.kv, x.av, x.bv, .int .i64 x.oi, .int .i64 x.ni] 45] (zfp (es := e2) (j := m) (by omega)) ?_
    refine zan 1 rfl (hvQ rfl (zem rfl rfl) (hvQ rfl (fdQ 1 rfl rfl rfl) (hvQ rfl (zag rfl rfl rfl (zad 4 rfl rfl)) (zan 1 rfl (hvQ rfl (riQ 1 rfl rfl rfl rfl (zah 3 rfl)) ?_)))))
    refine hvQ rfl (zat (u := (e2.getD m ir0).v) rfl rfl rfl (zah 3 rfl) (zbn irC (fun r => r.v) (fun _ => rfl) e2 ir0 (show m < _ by omega))) (zan 2 rfl (hvQ rfl (riQ 1 rfl rfl rfl rfl (zah 0 rfl)) ?_))
    refine zcw (i := 0) (n' := (((e2.getD m ir0).xs).set t ((x.ni / 2 ^ ((m : Int) - 1 : Int).toNat) % 2)).length) (xs' := ((((e2.getD m ir0).xs).set t ((x.ni / 2 ^ ((m : Int) - 1 : Int).toNat) % 2)).map (Value.int .i64))) rfl rfl rfl rfl rfl rfl rfl rfl (by first | omega | (simp only [List.length_set]; omega)) List.length_set.symm (zdb _ _ _) rfl (zcb (zcv (reQ 1 rfl (hvQ rfl (vaQ rfl rfl rfl) (enQ 1 rfl ?_)))))
    have hv9 : (x.ni / 2 ^ ((m : Int) - 1 : Int).toNat) % 2 = wvV x (wvsL x a.toNat m) m (t : Int) := (wv_in x _ _ (by omega) (by omega)).symm
    refine zbo 7 [6, 5, 4, 3, 2, 1, 0] rfl rfl (by decide) ?_
    refine zet [bigE ((e2.set m (IR.mk (e2.getD m ir0).v (((e2.getD m ir0).xs).set t ((x.ni / 2 ^ ((m : Int) - 1 : Int).toNat) % 2)))).map irPart), rowE 3 1 v3 ((ovX x).length) ((ovX x).map (Value.int .i64)), rowE 26 1 (.slice (some ⟨g6, 0, none⟩) ((List.replicate (x.n.cnt).toNat ir0).length) ((List.replicate (x.n.cnt).toNat ir0).length)) ((e2.set m (IR.mk (e2.getD m ir0).v (((e2.getD m ir0).xs).set t ((x.ni / 2 ^ ((m : Int) - 1 : Int).toNat) % 2)))).length) ((e2.set m (IR.mk (e2.getD m ir0).v (((e2.getD m ir0).xs).set t ((x.ni / 2 ^ ((m : Int) - 1 : Int).toNat) % 2)))).flatMap irC), boxE b7 #[v3, .slice (some ⟨g6, 0, none⟩) ((List.replicate (x.n.cnt).toNat ir0).length) ((List.replicate (x.n.cnt).toNat ir0).length)] 82, boxE b2 #[.int .i64 x.n.ins, x.n.sv, x.n.lv, x.n.ov] 28, boxE b1 #[.int .i64 x.n.ins, x.n.sv, x.n.lv, x.n.ov, x.pv, x.qv, x.kv, x.av, x.bv, .int .i64 x.oi, .int .i64 x.ni] 45] (fun w hm => by
        have h8 := zfb (es := e2) (j := m) (e' := IR.mk (e2.getD m ir0).v (((e2.getD m ir0).xs).set t ((x.ni / 2 ^ ((m : Int) - 1 : Int).toNat) % 2))) (by omega) w hm
        have h7 : (e2.set m (IR.mk (e2.getD m ir0).v (((e2.getD m ir0).xs).set t ((x.ni / 2 ^ ((m : Int) - 1 : Int).toNat) % 2)))).flatMap irC = e2.flatMap irC := flat_same
        rw [h7, List.length_set]; exact h8) ?_
    exact zbv (t + 1) (e2.set m (IR.mk (e2.getD m ir0).v (((e2.getD m ir0).xs).set t ((x.ni / 2 ^ ((m : Int) - 1 : Int).toNat) % 2)))) ⟨by omega, hw2.set _, by rw [zgi (by omega)]; show ((e2.getD m ir0).xs).set t ((x.ni / 2 ^ ((m : Int) - 1 : Int).toNat) % 2) = _; rw [hx2]; exact rowW_set (by omega) hv9⟩ (by omega) (saQ rfl) (pfQ rfl)
   refine zbb 1 rfl (zaq rfl (zac (reQ 1 rfl (hvQ rfl (zar (cs := [.int .i64 x.n.ins, x.n.sv, x.n.lv, x.n.ov]) rfl rfl rfl rfl rfl (zam 4 rfl 0 rfl)) ?_))))
   refine zdn rfl (zal rfl rfl (fun w hm => zas (zeu x.n w (hr.n.below hm.bel) hok.n.sz))) (zbh rfl rfl rfl rfl rfl rfl (fun h15 => ?_) (fun h15 => ?_))
   ·
    refine zbb 1 rfl (zao rfl (zac (reQ 1 rfl (hvQ rfl (vsQ rfl rfl rfl) (hvQ rfl (fdQ 0 rfl rfl rfl) (hvQ rfl (zag rfl rfl rfl (zad 4 rfl rfl)) (hvQ rfl (vsQ rfl rfl rfl) (zan 1 rfl (?_)))))))))
    refine zcb (zax (zac (zay (hvQ rfl (fdQ 7 rfl rfl rfl) (hvQ rfl (zag rfl rfl rfl (zad 5 rfl rfl)) (zan 1 rfl (hvQ rfl (riQ 1 rfl rfl rfl rfl (zaa ((hr).ao))) (hvQ rfl (lzQ rfl rfl rfl (zaa ((hr).ao))) (hvQ rfl (zdg rfl (by decide) rfl rfl (r := (x.ao.getD ((((m : Int) - 1) - x.n.ins).toNat) 0) % 2) (andOne _)) (zbb 1 rfl ?_))))))))))
    refine zac (reQ 1 rfl (hvQ rfl (fdQ 6 rfl rfl rfl) (hvQ rfl (zag rfl rfl rfl (zad 5 rfl rfl)) (zan 1 rfl (hvQ rfl (riQ 1 rfl rfl rfl rfl (zaa ((hr).ks))) (hvQ rfl (lzQ rfl rfl rfl (zaa ((hr).ks))) ?_))))))
    refine zfh rfl rfl rfl rfl rfl rfl (fun h16 => ?_) (fun h16 => ?_)
    ·
     refine (zcb (zax (zao rfl (zay (hvQ rfl (fdQ 8 rfl rfl rfl) (hvQ rfl (zag rfl rfl rfl (zad 5 rfl rfl)) (zan 1 rfl (hvQ rfl (riQ 1 rfl rfl rfl rfl (zaa ((hr).bs))) (hvQ rfl (lzQ rfl rfl rfl (zaa ((hr).bs))) (hvQ rfl (zdg rfl (by decide) rfl rfl (r := (x.bs.getD ((((m : Int) - 1) - x.n.ins).toNat) 0) % 2) (andOne _)) (zan 1 rfl (zcb ?_))))))))))))
     refine zcv (zay ?_)
     refine zgg 6 [5, 4, 3, 2, 1, 0] rfl rfl (by decide) ?_
     refine zfr [rowE 3 1 ((e2.getD m ir0).v) (((e2.getD m ir0).xs).length) (((e2.getD m ir0).xs).map (Value.int .i64)), bigE ((e2.map irPart).eraseIdx m), rowE 3 1 v3 ((ovX x).length) ((ovX x).map (Value.int .i64)), rowE 26 1 (.slice (some ⟨g6, 0, none⟩) ((List.replicate (x.n.cnt).toNat ir0).length) ((List.replicate (x.n.cnt).toNat ir0).length)) e2.length (e2.flatMap irC), boxE b7 #[v3, .slice (some ⟨g6, 0, none⟩) ((List.replicate (x.n.cnt).toNat ir0).length) ((List.replicate (x.n.cnt).toNat ir0).length)] 82, boxE b2 #[.int .i64 x.n.ins, x.n.sv, x.n.lv, x.n.ov] 28, boxE b1 #[.int .i64 x.n.ins, x.n.sv, x.n.lv, x.n.ov, x.pv, x.qv, x.kv, x.av, x.bv, .int .i64 x.oi, .int .i64 x.ni] 45] (zfp (es := e2) (j := m) (by omega)) ?_
     refine zan 1 rfl (hvQ rfl (zem rfl rfl) (hvQ rfl (fdQ 1 rfl rfl rfl) (hvQ rfl (zag rfl rfl rfl (zad 4 rfl rfl)) (zan 1 rfl (hvQ rfl (riQ 1 rfl rfl rfl rfl (zah 3 rfl)) ?_)))))
     refine hvQ rfl (zat (u := (e2.getD m ir0).v) rfl rfl rfl (zah 3 rfl) (zbn irC (fun r => r.v) (fun _ => rfl) e2 ir0 (show m < _ by omega))) (zan 2 rfl (hvQ rfl (riQ 1 rfl rfl rfl rfl (zah 0 rfl)) ?_))
     refine zcw (i := 0) (n' := (((e2.getD m ir0).xs).set t ((x.bs.getD ((((m : Int) - 1) - x.n.ins).toNat) 0) % 2)).length) (xs' := ((((e2.getD m ir0).xs).set t ((x.bs.getD ((((m : Int) - 1) - x.n.ins).toNat) 0) % 2)).map (Value.int .i64))) rfl rfl rfl rfl rfl rfl rfl rfl (by first | omega | (simp only [List.length_set]; omega)) List.length_set.symm (zdb _ _ _) rfl (zcb (zcv (reQ 1 rfl (hvQ rfl (vaQ rfl rfl rfl) (enQ 1 rfl ?_)))))
     have hv9 : (x.bs.getD ((((m : Int) - 1) - x.n.ins).toNat) 0) % 2 = wvV x (wvsL x a.toNat m) m (t : Int) := (wv_new x _ _ hi0 cb (by omega) (by omega) (by omega)).symm
     refine zbo 7 [6, 5, 4, 3, 2, 1, 0] rfl rfl (by decide) ?_
     refine zet [bigE ((e2.set m (IR.mk (e2.getD m ir0).v (((e2.getD m ir0).xs).set t ((x.bs.getD ((((m : Int) - 1) - x.n.ins).toNat) 0) % 2)))).map irPart), rowE 3 1 v3 ((ovX x).length) ((ovX x).map (Value.int .i64)), rowE 26 1 (.slice (some ⟨g6, 0, none⟩) ((List.replicate (x.n.cnt).toNat ir0).length) ((List.replicate (x.n.cnt).toNat ir0).length)) ((e2.set m (IR.mk (e2.getD m ir0).v (((e2.getD m ir0).xs).set t ((x.bs.getD ((((m : Int) - 1) - x.n.ins).toNat) 0) % 2)))).length) ((e2.set m (IR.mk (e2.getD m ir0).v (((e2.getD m ir0).xs).set t ((x.bs.getD ((((m : Int) - 1) - x.n.ins).toNat) 0) % 2)))).flatMap irC), boxE b7 #[v3, .slice (some ⟨g6, 0, none⟩) ((List.replicate (x.n.cnt).toNat ir0).length) ((List.replicate (x.n.cnt).toNat ir0).length)] 82, boxE b2 #[.int .i64 x.n.ins, x.n.sv, x.n.lv, x.n.ov] 28, boxE b1 #[.int .i64 x.n.ins, x.n.sv, x.n.lv, x.n.ov, x.pv, x.qv, x.kv, x.av, x.bv, .int .i64 x.oi, .int .i64 x.ni] 45] (fun w hm => by
         have h8 := zfb (es := e2) (j := m) (e' := IR.mk (e2.getD m ir0).v (((e2.getD m ir0).xs).set t ((x.bs.getD ((((m : Int) - 1) - x.n.ins).toNat) 0) % 2))) (by omega) w hm
         have h7 : (e2.set m (IR.mk (e2.getD m ir0).v (((e2.getD m ir0).xs).set t ((x.bs.getD ((((m : Int) - 1) - x.n.ins).toNat) 0) % 2)))).flatMap irC = e2.flatMap irC := flat_same
         rw [h7, List.length_set]; exact h8) ?_
     exact zbv (t + 1) (e2.set m (IR.mk (e2.getD m ir0).v (((e2.getD m ir0).xs).set t ((x.bs.getD ((((m : Int) - 1) - x.n.ins).toNat) 0) % 2)))) ⟨by omega, hw2.set _, by rw [zgi (by omega)]; show ((e2.getD m ir0).xs).set t ((x.bs.getD ((((m : Int) - 1) - x.n.ins).toNat) 0) % 2) = _; rw [hx2]; exact rowW_set (by omega) hv9⟩ (by omega) (saQ rfl) (pfQ rfl)
    refine ntQ (fsQ rfl (zcv (zay ?_)))
    refine zgg 6 [5, 4, 3, 2, 1, 0] rfl rfl (by decide) ?_
    refine zfr [rowE 3 1 ((e2.getD m ir0).v) (((e2.getD m ir0).xs).length) (((e2.getD m ir0).xs).map (Value.int .i64)), bigE ((e2.map irPart).eraseIdx m), rowE 3 1 v3 ((ovX x).length) ((ovX x).map (Value.int .i64)), rowE 26 1 (.slice (some ⟨g6, 0, none⟩) ((List.replicate (x.n.cnt).toNat ir0).length) ((List.replicate (x.n.cnt).toNat ir0).length)) e2.length (e2.flatMap irC), boxE b7 #[v3, .slice (some ⟨g6, 0, none⟩) ((List.replicate (x.n.cnt).toNat ir0).length) ((List.replicate (x.n.cnt).toNat ir0).length)] 82, boxE b2 #[.int .i64 x.n.ins, x.n.sv, x.n.lv, x.n.ov] 28, boxE b1 #[.int .i64 x.n.ins, x.n.sv, x.n.lv, x.n.ov, x.pv, x.qv, x.kv, x.av, x.bv, .int .i64 x.oi, .int .i64 x.ni] 45] (zfp (es := e2) (j := m) (by omega)) ?_
    refine zan 1 rfl (hvQ rfl (zem rfl rfl) (hvQ rfl (fdQ 1 rfl rfl rfl) (hvQ rfl (zag rfl rfl rfl (zad 4 rfl rfl)) (zan 1 rfl (hvQ rfl (riQ 1 rfl rfl rfl rfl (zah 3 rfl)) ?_)))))
    refine hvQ rfl (zat (u := (e2.getD m ir0).v) rfl rfl rfl (zah 3 rfl) (zbn irC (fun r => r.v) (fun _ => rfl) e2 ir0 (show m < _ by omega))) (zan 2 rfl (hvQ rfl (riQ 1 rfl rfl rfl rfl (zah 0 rfl)) ?_))
    refine zcw (i := 0) (n' := (((e2.getD m ir0).xs).set t ((x.ao.getD ((((m : Int) - 1) - x.n.ins).toNat) 0) % 2)).length) (xs' := ((((e2.getD m ir0).xs).set t ((x.ao.getD ((((m : Int) - 1) - x.n.ins).toNat) 0) % 2)).map (Value.int .i64))) rfl rfl rfl rfl rfl rfl rfl rfl (by first | omega | (simp only [List.length_set]; omega)) List.length_set.symm (zdb _ _ _) rfl (zcb (zcv (reQ 1 rfl (hvQ rfl (vaQ rfl rfl rfl) (enQ 1 rfl ?_)))))
    have hv9 : (x.ao.getD ((((m : Int) - 1) - x.n.ins).toNat) 0) % 2 = wvV x (wvsL x a.toNat m) m (t : Int) := (wv_old x _ _ hi0 ca (by omega) (by omega) (by omega)).symm
    refine zbo 7 [6, 5, 4, 3, 2, 1, 0] rfl rfl (by decide) ?_
    refine zet [bigE ((e2.set m (IR.mk (e2.getD m ir0).v (((e2.getD m ir0).xs).set t ((x.ao.getD ((((m : Int) - 1) - x.n.ins).toNat) 0) % 2)))).map irPart), rowE 3 1 v3 ((ovX x).length) ((ovX x).map (Value.int .i64)), rowE 26 1 (.slice (some ⟨g6, 0, none⟩) ((List.replicate (x.n.cnt).toNat ir0).length) ((List.replicate (x.n.cnt).toNat ir0).length)) ((e2.set m (IR.mk (e2.getD m ir0).v (((e2.getD m ir0).xs).set t ((x.ao.getD ((((m : Int) - 1) - x.n.ins).toNat) 0) % 2)))).length) ((e2.set m (IR.mk (e2.getD m ir0).v (((e2.getD m ir0).xs).set t ((x.ao.getD ((((m : Int) - 1) - x.n.ins).toNat) 0) % 2)))).flatMap irC), boxE b7 #[v3, .slice (some ⟨g6, 0, none⟩) ((List.replicate (x.n.cnt).toNat ir0).length) ((List.replicate (x.n.cnt).toNat ir0).length)] 82, boxE b2 #[.int .i64 x.n.ins, x.n.sv, x.n.lv, x.n.ov] 28, boxE b1 #[.int .i64 x.n.ins, x.n.sv, x.n.lv, x.n.ov, x.pv, x.qv, x.kv, x.av, x.bv, .int .i64 x.oi, .int .i64 x.ni] 45] (fun w hm => by
        have h8 := zfb (es := e2) (j := m) (e' := IR.mk (e2.getD m ir0).v (((e2.getD m ir0).xs).set t ((x.ao.getD ((((m : Int) - 1) - x.n.ins).toNat) 0) % 2))) (by omega) w hm
        have h7 : (e2.set m (IR.mk (e2.getD m ir0).v (((e2.getD m ir0).xs).set t ((x.ao.getD ((((m : Int) - 1) - x.n.ins).toNat) 0) % 2)))).flatMap irC = e2.flatMap irC := flat_same
        rw [h7, List.length_set]; exact h8) ?_
    exact zbv (t + 1) (e2.set m (IR.mk (e2.getD m ir0).v (((e2.getD m ir0).xs).set t ((x.ao.getD ((((m : Int) - 1) - x.n.ins).toNat) 0) % 2)))) ⟨by omega, hw2.set _, by rw [zgi (by omega)]; show ((e2.getD m ir0).xs).set t ((x.ao.getD ((((m : Int) - 1) - x.n.ins).toNat) 0) % 2) = _; rw [hx2]; exact rowW_set (by omega) hv9⟩ (by omega) (saQ rfl) (pfQ rfl)
   refine zbb 1 rfl (zaq rfl (zac (reQ 1 rfl (hvQ rfl (zar (cs := [.int .i64 x.n.ins, x.n.sv, x.n.lv, x.n.ov]) rfl rfl rfl rfl rfl (zam 4 rfl 0 rfl)) ?_))))
   refine zdn rfl (zal rfl rfl (fun w hm => zas (zeu x.n w (hr.n.below hm.bel) hok.n.sz))) (hvQ rfl (vsQ rfl rfl rfl) ?_)
   obtain ⟨i, hmi⟩ : ∃ i : Nat, (m : Int) - x.n.fst = (i : Int) := ⟨((m : Int) - x.n.fst).toNat, by omega⟩
   rw [hmi]
   have hil : i < x.n.ls.length := by omega
   have hlt9 := hok.n.lt i hil
   have hx4 := hlt9.1.1
   have hdi : (x.dl.getD i ir0).xs.length = (x.n.ls.getD i lt0).xs.length := by have := (hok.dl i hil).1; omega
   refine zbb 1 rfl (zbc 1 rfl (zfl (hvQ rfl (fdQ 2 rfl rfl rfl) ?_)))
   refine hvQ rfl (zag rfl rfl rfl (zad 4 rfl rfl)) (zan 1 rfl (hvQ rfl (riQ 2 rfl rfl rfl rfl (zaa ((hr).n.lt.row))) (hvQ rfl (zbx (k0 := 0) rfl rfl rfl (zaa ((hr).n.lt.row)) (by omega)) ?_)))
   refine hvQ rfl (zat (u := (x.n.ls.getD i lt0).iv) rfl rfl rfl (zaa ((hr).n.lt.row)) ((zcy ltC 2 (fun _ => rfl) x.n.ls lt0 (show i < _ by omega) (by decide)).trans rfl)) (hvQ rfl (lnQ rfl rfl rfl (zaa ((hr).n.lt.at (d := lt0) (k := i) (by omega)))) (zbb 1 rfl (zaw ?_)))
   refine lkQ2 (α := Nat) (β := Int) [0, 1, 2, 4, 5, 6, 7, 8, 9, 11, 32, 33, 34, 47, 59, 60, 96, 99, 111] rfl (fun j q => [bigE (e2.map irPart), rowE 3 1 v3 ((ovX x).length) ((ovX x).map (Value.int .i64)), rowE 26 1 (.slice (some ⟨g6, 0, none⟩) ((List.replicate (x.n.cnt).toNat ir0).length) ((List.replicate (x.n.cnt).toNat ir0).length)) e2.length (e2.flatMap irC), boxE b7 #[v3, .slice (some ⟨g6, 0, none⟩) ((List.replicate (x.n.cnt).toNat ir0).length) ((List.replicate (x.n.cnt).toNat ir0).length)] 82, boxE b2 #[.int .i64 x.n.ins, x.n.sv, x.n.lv, x.n.ov] 28, boxE b1 #[.int .i64 x.n.ins, x.n.sv, x.n.lv, x.n.ov, x.pv, x.qv, x.kv, x.av, x.bv, .int .i64 x.oi, .int .i64 x.ni] 45]) (fun j q => [(12, .int .i64 q), (61, .int .i64 (j : Int))]) (fun j q => j ≤ (x.n.ls.getD i lt0).xs.length ∧ q = pk (lin x (wvsL x a.toNat m) i (t : Int)) j) (fun j q => (x.n.ls.getD i lt0).xs.length - j) 0 0 ⟨Nat.zero_le _, rfl⟩ (saQ rfl) (pfQ rfl) ?_
   intro j q hi17
   obtain ⟨hj, hq⟩ := hi17
   refine srQ ?_
   refine zbh rfl rfl rfl rfl rfl rfl (fun h18 => ?_) (fun h18 => ?_)
   ·
    refine ntQ (tcQ rfl (zcp (sbQ (zac (reQ 1 rfl (hvQ rfl (riQ 1 rfl rfl rfl rfl (zaa ((hr).n.lt.at (d := lt0) (k := i) (by omega)))) (hvQ rfl (zat (u := .int .i64 (((x.n.ls.getD i lt0).xs).getD j 0)) rfl rfl rfl (zaa ((hr).n.lt.at (d := lt0) (k := i) (by omega))) (zdi (show _ < ((x.n.ls.getD i lt0).xs).length by omega))) ?_)))))))
    refine zbb 2 rfl (zay ?_)
    have hns := hlt9.1.2 j (by omega)
    have hdj := (hok.dl i hil).2 j (by omega)
    have hbk : (lin x (wvsL x a.toNat m) i (t : Int)) j = 0 ∨ (lin x (wvsL x a.toNat m) i (t : Int)) j = 1 := lin01 hok (by omega) hmi (by omega) j (by omega)
    have hal : ∀ z, z < j → (lin x (wvsL x a.toNat m) i (t : Int)) z = 0 ∨ (lin x (wvsL x a.toNat m) i (t : Int)) z = 1 := fun z hz => lin01 hok (by omega) hmi (by omega) z (by omega)
    have hpr := pk16 (b := (lin x (wvsL x a.toNat m) i (t : Int))) (k := j) hal (by omega)
    refine zan 4 rfl (hvQ rfl (fdQ 4 rfl rfl rfl) (hvQ rfl (fdQ 0 rfl rfl rfl) (hvQ rfl (zag rfl rfl rfl (zad 5 rfl rfl)) (zan 1 rfl (hvQ rfl (riQ 1 rfl rfl rfl rfl (zaa ((hr).dl.row))) ?_)))))
    refine hvQ rfl (zat (u := (x.dl.getD i ir0).v) rfl rfl rfl (zaa ((hr).dl.row)) (zbn irC (fun r => r.v) (fun _ => rfl) x.dl ir0 (show i < _ by omega))) (zan 1 rfl (hvQ rfl (riQ 1 rfl rfl rfl rfl (zaa ((hr).dl.at (d := ir0) (k := i) (by omega)))) (hvQ rfl (zat (u := .int .i64 (((x.dl.getD i ir0).xs).getD j 0)) rfl rfl rfl (zaa ((hr).dl.at (d := ir0) (k := i) (by omega))) (zdi (show _ < ((x.dl.getD i ir0).xs).length by omega))) (hvQ rfl (vsQ rfl rfl rfl) ?_))))
    refine zdn rfl (zal rfl rfl (fun w hm => zas (wavesAt_lin w (zad 3 rfl rfl w hm) (zad 3 rfl rfl w hm) (zah 1 rfl w hm) (rdsIr_sep hm 0 2 rfl rfl) hw2 rfl rfl (by omega) hov.symm (by omega) (by omega)))) (zan 1 rfl (hvQ rfl (rv_conv rfl Try.underlying3 Try.underlying111 rfl (IntWalk.u64_in _ (by omega))) (hvQ rfl (zga (k := .i64) (kk := .u64) (r := (lin x (wvsL x a.toNat m) i (t : Int)) j * 2 ^ j) rfl rfl rfl rfl (by omega) (shl_pk hbk (by omega))) (hvQ rfl (zdg rfl (by decide) rfl rfl (r := pk (lin x (wvsL x a.toNat m) i (t : Int)) (j + 1)) (by rw [hq]; exact or_pk hal hbk (by omega))) (enQ 1 rfl (zcv (zay (hvQ rfl (vaQ rfl rfl rfl) (enQ 1 rfl ?_)))))))))
    exact zbv (j + 1) _ ⟨by omega, by first | rfl | (rw [hq]; rfl)⟩ (by omega) (saQ rfl) (pfQ rfl)
   refine ntQ (fcQ rfl ?_)
   refine zaz (zdr ?_)
   refine zaf (zax (zay ?_))
   have hal : ∀ z, z < j → (lin x (wvsL x a.toNat m) i (t : Int)) z = 0 ∨ (lin x (wvsL x a.toNat m) i (t : Int)) z = 1 := fun z hz => lin01 hok (by omega) hmi (by omega) z (by omega)
   have hpr := pk16 (b := (lin x (wvsL x a.toNat m) i (t : Int))) (k := j) hal (by omega)
   refine hvQ rfl (fdQ 2 rfl rfl rfl) (hvQ rfl (zag rfl rfl rfl (zad 4 rfl rfl)) (zan 1 rfl (hvQ rfl (riQ 2 rfl rfl rfl rfl (zaa ((hr).n.lt.row))) (hvQ rfl (zbx (k0 := 1) rfl rfl rfl (zaa ((hr).n.lt.row)) (by omega)) ?_))))
   refine hvQ rfl (zat (u := .int .i64 ((x.n.ls.getD i lt0).ma)) rfl rfl rfl (zaa ((hr).n.lt.row)) ((zcy ltC 2 (fun _ => rfl) x.n.ls lt0 (show i < _ by omega) (by decide)).trans rfl)) (zan 1 rfl (hvQ rfl (rv_conv rfl Try.underlying3 Try.underlying111 rfl (IntWalk.u64_in _ (by omega))) (hvQ rfl (rv_shr rfl rfl rfl (by omega)) (hvQ rfl (zdg rfl (by decide) rfl rfl (r := (((x.n.ls.getD i lt0).ma) / 2 ^ (q : Int).toNat) % 2) (andOne _)) (enQ 1 rfl (zcv (zay ?_)))))))
   refine zgg 6 [5, 4, 3, 2, 1, 0] rfl rfl (by decide) ?_
   refine zfr [rowE 3 1 ((e2.getD m ir0).v) (((e2.getD m ir0).xs).length) (((e2.getD m ir0).xs).map (Value.int .i64)), bigE ((e2.map irPart).eraseIdx m), rowE 3 1 v3 ((ovX x).length) ((ovX x).map (Value.int .i64)), rowE 26 1 (.slice (some ⟨g6, 0, none⟩) ((List.replicate (x.n.cnt).toNat ir0).length) ((List.replicate (x.n.cnt).toNat ir0).length)) e2.length (e2.flatMap irC), boxE b7 #[v3, .slice (some ⟨g6, 0, none⟩) ((List.replicate (x.n.cnt).toNat ir0).length) ((List.replicate (x.n.cnt).toNat ir0).length)] 82, boxE b2 #[.int .i64 x.n.ins, x.n.sv, x.n.lv, x.n.ov] 28, boxE b1 #[.int .i64 x.n.ins, x.n.sv, x.n.lv, x.n.ov, x.pv, x.qv, x.kv, x.av, x.bv, .int .i64 x.oi, .int .i64 x.ni] 45] (zfp (es := e2) (j := m) (by omega)) ?_
   refine zan 1 rfl (hvQ rfl (zem rfl rfl) (hvQ rfl (fdQ 1 rfl rfl rfl) (hvQ rfl (zag rfl rfl rfl (zad 4 rfl rfl)) (zan 1 rfl (hvQ rfl (riQ 1 rfl rfl rfl rfl (zah 3 rfl)) ?_)))))
   refine hvQ rfl (zat (u := (e2.getD m ir0).v) rfl rfl rfl (zah 3 rfl) (zbn irC (fun r => r.v) (fun _ => rfl) e2 ir0 (show m < _ by omega))) (zan 2 rfl (hvQ rfl (riQ 1 rfl rfl rfl rfl (zah 0 rfl)) ?_))
   refine zcw (i := 0) (n' := (((e2.getD m ir0).xs).set t ((((x.n.ls.getD i lt0).ma) / 2 ^ (q : Int).toNat) % 2)).length) (xs' := ((((e2.getD m ir0).xs).set t ((((x.n.ls.getD i lt0).ma) / 2 ^ (q : Int).toNat) % 2)).map (Value.int .i64))) rfl rfl rfl rfl rfl rfl rfl rfl (by first | omega | (simp only [List.length_set]; omega)) List.length_set.symm (zdb _ _ _) rfl (zcb (zcv (reQ 1 rfl (hvQ rfl (vaQ rfl rfl rfl) (enQ 1 rfl ?_)))))
   have hv9 : (((x.n.ls.getD i lt0).ma) / 2 ^ (q : Int).toNat) % 2 = wvV x (wvsL x a.toNat m) m (t : Int) := by rw [wv_lut x _ _ hmi]; unfold lutV; rw [hq, show j = (x.n.ls.getD i lt0).xs.length by omega]
   refine zbo 7 [6, 5, 4, 3, 2, 1, 0] rfl rfl (by decide) ?_
   refine zet [bigE ((e2.set m (IR.mk (e2.getD m ir0).v (((e2.getD m ir0).xs).set t ((((x.n.ls.getD i lt0).ma) / 2 ^ (q : Int).toNat) % 2)))).map irPart), rowE 3 1 v3 ((ovX x).length) ((ovX x).map (Value.int .i64)), rowE 26 1 (.slice (some ⟨g6, 0, none⟩) ((List.replicate (x.n.cnt).toNat ir0).length) ((List.replicate (x.n.cnt).toNat ir0).length)) ((e2.set m (IR.mk (e2.getD m ir0).v (((e2.getD m ir0).xs).set t ((((x.n.ls.getD i lt0).ma) / 2 ^ (q : Int).toNat) % 2)))).length) ((e2.set m (IR.mk (e2.getD m ir0).v (((e2.getD m ir0).xs).set t ((((x.n.ls.getD i lt0).ma) / 2 ^ (q : Int).toNat) % 2)))).flatMap irC), boxE b7 #[v3, .slice (some ⟨g6, 0, none⟩) ((List.replicate (x.n.cnt).toNat ir0).length) ((List.replicate (x.n.cnt).toNat ir0).length)] 82, boxE b2 #[.int .i64 x.n.ins, x.n.sv, x.n.lv, x.n.ov] 28, boxE b1 #[.int .i64 x.n.ins, x.n.sv, x.n.lv, x.n.ov, x.pv, x.qv, x.kv, x.av, x.bv, .int .i64 x.oi, .int .i64 x.ni] 45] (fun w hm => by
       have h8 := zfb (es := e2) (j := m) (e' := IR.mk (e2.getD m ir0).v (((e2.getD m ir0).xs).set t ((((x.n.ls.getD i lt0).ma) / 2 ^ (q : Int).toNat) % 2))) (by omega) w hm
       have h7 : (e2.set m (IR.mk (e2.getD m ir0).v (((e2.getD m ir0).xs).set t ((((x.n.ls.getD i lt0).ma) / 2 ^ (q : Int).toNat) % 2)))).flatMap irC = e2.flatMap irC := flat_same
       rw [h7, List.length_set]; exact h8) ?_
   exact zbv (t + 1) (e2.set m (IR.mk (e2.getD m ir0).v (((e2.getD m ir0).xs).set t ((((x.n.ls.getD i lt0).ma) / 2 ^ (q : Int).toNat) % 2)))) ⟨by omega, hw2.set _, by rw [zgi (by omega)]; show ((e2.getD m ir0).xs).set t ((((x.n.ls.getD i lt0).ma) / 2 ^ (q : Int).toNat) % 2) = _; rw [hx2]; exact rowW_set (by omega) hv9⟩ (by omega) (saQ rfl) (pfQ rfl)
  refine ntQ (zaq rfl ?_)
  refine zaz (zdr ?_)
  refine zaf (zcv (zay (hvQ rfl (vaQ rfl rfl rfl) (enQ 1 rfl ?_))))
  exact zbv (m + 1) e2 ⟨by omega, hw2.next (by rw [hx2, show t = a.toNat + 1 by omega]; exact fzT_allW _ _ _ _)⟩ (by omega) (saQ rfl) (pfQ rfl)
 refine ntQ (fcQ rfl ?_)
 refine zaz (zdr ?_)
 refine zaf (zax (zbc 2 rfl ?_))
 refine zav (hq_oneW (i := 2) rfl (fun hoR => ?_))
 refine zbo 6 [1, 3, 2, 0] rfl rfl (by decide) ?_
 refine zet [irsE (.slice (some ⟨g6, 0, none⟩) ((List.replicate (x.n.cnt).toNat ir0).length) ((List.replicate (x.n.cnt).toNat ir0).length)) es, boxE b7 #[v3, .slice (some ⟨g6, 0, none⟩) ((List.replicate (x.n.cnt).toNat ir0).length) ((List.replicate (x.n.cnt).toNat ir0).length)] 82, rowE 3 1 v3 ((ovX x).length) ((ovX x).map (Value.int .i64))] (conv_big (ps := [bigE (es.map irPart), rowE 26 1 (.slice (some ⟨g6, 0, none⟩) ((List.replicate (x.n.cnt).toNat ir0).length) ((List.replicate (x.n.cnt).toNat ir0).length)) es.length (es.flatMap irC)])) ?_
 exact zdc (post := [irsE (.slice (some ⟨g6, 0, none⟩) ((List.replicate (x.n.cnt).toNat ir0).length) ((List.replicate (x.n.cnt).toNat ir0).length)) es, boxE b7 #[v3, .slice (some ⟨g6, 0, none⟩) ((List.replicate (x.n.cnt).toNat ir0).length) ((List.replicate (x.n.cnt).toNat ir0).length)] 82, rowE 3 1 v3 ((ovX x).length) ((ovX x).map (Value.int .i64))]) rfl rfl (.refl _) ⟨b7, v3, .slice (some ⟨g6, 0, none⟩) ((List.replicate (x.n.cnt).toNat ir0).length) ((List.replicate (x.n.cnt).toNat ir0).length), es, rfl, rfl, by rw [show m = x.n.cnt.toNat by omega] at hw; exact hw, hoR⟩
open Go.RowKit
open Go.RowKit
theorem wavesAt_smp {x : Td} {h C i j b : Nat} {u v : Value} {es : List IR} {e K d s : Int} (w : World) (c0 : w.cell? ⟨b, 0, none⟩ = some u) (c1 : w.cell? ⟨b, 1, none⟩ = some v) (hu : RdsW w u 1 (ovX x).length ((ovX x).map (Value.int .i64))) (hv : RdsIr w v es) (hw : WOk x h C C es)
    (hk : (x.n.ss.getD i sq0).xs.getD j 0 = K) (hs : x.ks.getD i 0 = s) (hd : (x.ds.getD i ir0).xs.getD j 0 = d) (hr : 0 ≤ K ∧ K < C) (hC : C = (ovX x).length) (ht : e + s - d ≤ h) :
    Calls Try.prog 54 #[.pointer (some ⟨b, 0, none⟩), .int .i64 K, .int .i64 (e + s - d)] w (Ans w (.int .i64 (smpV x (wvsL x h C) e i j))) := by
  have hq := hw.row K.toNat (by omega)
  have hl : (es.getD K.toNat ir0).xs.length = h + 1 := by rw [hq]; exact wvs_rl x h (by omega)
  have h9 := wavesAt_ans b ⟨u, v, ovX x, es⟩ K (e + s - d) w ⟨c0, c1, hu, hv⟩ (show 0 ≤ K ∧ K < ((ovX x).length : Int) from by omega) (show es.length = (ovX x).length from by rw [hw.len]; exact hC) (show e + s - d < ((es.getD K.toNat ir0).xs.length : Int) from by omega)
  have e9 : atW ((ovX x).getD K.toNat 0) (es.getD K.toNat ir0).xs (e + s - d) = smpV x (wvsL x h C) e i j := by unfold smpV; rw [hq, hk, hs, hd]
  rw [← e9]; exact h9
theorem implSampledAt_ret (x : Td) (e : Int) (w : World) (hr : RdsTd w x) :
   Calls Try.prog 25 #[.agg #[.int .i64 x.n.ins, x.n.sv, x.n.lv, x.n.ov, x.pv, x.qv, x.kv, x.av, x.bv, .int .i64 x.oi, .int .i64 x.ni], .int .i64 e] w (Ret w (fun v' post => post = [rowE 3 1 v' (smpR x e).length ((smpR x e).map (Value.int .i64))])) := by
 have t1 := sml hr.ks
 have t2 := sml hr.ao
 have t3 := sml hr.bs
 have t4 := hr.dl.small
 have t5 := hr.ds.small
 have t6 := hr.n.sq.small
 have t7 := hr.n.lt.small
 have t8 := sml hr.n.ou
 have hcnt : x.n.cnt = 1 + x.n.ins + x.n.ss.length + x.n.ls.length := rfl
 have hfst : x.n.fst = 1 + x.n.ins + x.n.ss.length := rfl
 refine zbf (N := 64) (args := [.agg #[.int .i64 x.n.ins, x.n.sv, x.n.lv, x.n.ov, x.pv, x.qv, x.kv, x.av, x.bv, .int .i64 x.oi, .int .i64 x.ni], .int .i64 e]) Try.func25 rfl rfl (srQ ?_)
 refine zdt rfl (zct rfl rfl) ?_
 intro b1
 refine zeo 3 1 (zbb 1 rfl (zfl (hvQ rfl (zar (cs := [.int .i64 x.n.ins, x.n.sv, x.n.lv, x.n.ov, x.pv, x.qv, x.kv, x.av, x.bv, .int .i64 x.oi, .int .i64 x.ni]) rfl rfl rfl rfl rfl (zam 1 rfl 0 rfl)) ?_)))
 refine zdn rfl (zal rfl rfl (fun w hm => zas (zfg x w (hr.below hm.bel)))) (zbl (fun h3 => ?_) (fun h3 => ?_))
 ·
  have hok := zgb h3
  obtain ⟨ci, cs_, cl, ck, ca, cb, cd, ce⟩ := hok.bnd
  have hi0 := ci.1
  have hi1 := ci.2
  refine zan 3 rfl (zdn rfl (zal rfl rfl (fun w hm => zas (zgo (zea _ _ _ w)))) ?_)
  refine zbl (fun h4 => ?_) (fun h4 => ?_)
  ·
   obtain ⟨h4a, h4b⟩ := (zdm _ _ _).1 h4
   refine zbb 2 rfl (zaq rfl (zcp (srQ (hvQ rfl (zar (cs := [.int .i64 x.n.ins, x.n.sv, x.n.lv, x.n.ov, x.pv, x.qv, x.kv, x.av, x.bv, .int .i64 x.oi, .int .i64 x.ni]) rfl rfl rfl rfl rfl (zam 1 rfl 0 rfl)) ?_))))
   refine hl_q rfl rfl rfl (zal rfl rfl (fun w hm => wavesOf_ret x 1100 w (hr.below hm.bel) hok (by omega))) ?_
   intro v5 p6 hR7
   obtain ⟨b, bv, av, es, rfl, rfl, hw, hoav⟩ := hR7
   have hwl := hw.len
   refine zbb 1 rfl (srQ ?_)
   refine zeo 3 1 (zbb 1 rfl (zfl (hvQ rfl (fdQ 0 rfl rfl rfl) (hvQ rfl (fdQ 1 rfl rfl rfl) (hvQ rfl (zag rfl rfl rfl (zad 5 rfl rfl)) (hvQ rfl (lnQ rfl rfl rfl (zaa ((hr).n.sq.row))) (enQ 1 rfl ?_)))))))
   refine zax (zaw ?_)
   refine lkQ3 (α := Nat) (β := Value) (γ := List Int) [0, 1, 2, 4, 5, 18, 23, 24] rfl (fun i u zs => [rowE 3 1 u zs.length (zs.map (Value.int .i64)), irsE av es, boxE b #[bv, av] 82, rowE 3 1 bv ((ovX x).length) ((ovX x).map (Value.int .i64)), rowE 3 1 (.slice none 0 0) 0 ([]), boxE b1 #[.int .i64 x.n.ins, x.n.sv, x.n.lv, x.n.ov, x.pv, x.qv, x.kv, x.av, x.bv, .int .i64 x.oi, .int .i64 x.ni] 45]) (fun i u zs => [(6, u), (25, .int .i64 (i : Int))]) (fun i u zs => i ≤ x.n.ss.length ∧ zs = smpL x (wvsL x (1100 : Int).toNat x.n.cnt.toNat) e i ∧ zs.length ≤ 4 * i) (fun i u zs => x.n.ss.length - i) 0 _ [] ⟨Nat.zero_le _, rfl, by simp⟩ (saQ rfl) (pfQ rfl) ?_
   intro i u zs hi9
   obtain ⟨hi, hz, hzl⟩ := hi9
   refine srQ ?_
   refine zbh rfl rfl rfl rfl rfl rfl (fun h10 => ?_) (fun h10 => ?_)
   ·
    refine ntQ (tcQ rfl (zcp (sbQ (zac (reQ 1 rfl (hvQ rfl (riQ 3 rfl rfl rfl rfl (zaa ((hr).n.sq.row))) ?_))))))
    refine hvQ rfl (zcl (us := [.int .i64 ((x.n.ss.getD i sq0).kd), .int .i64 ((x.n.ss.getD i sq0).it), (x.n.ss.getD i sq0).iv]) rfl rfl rfl rfl (zaa ((hr).n.sq.row)) (by omega) rfl (zde sqC 3 (fun _ => rfl) x.n.ss sq0 (show i < _ by omega) rfl)) (zdt rfl (zbm (z := .agg #[.int .i64 0, .int .i64 0, .slice none 0 0]) rfl rfl) ?_)
    intro b11
    refine zan 1 rfl (zbr (cs' := #[.int .i64 ((x.n.ss.getD i sq0).kd), .int .i64 ((x.n.ss.getD i sq0).it), (x.n.ss.getD i sq0).iv]) (i := 0) (off := 0) (us := [.int .i64 ((x.n.ss.getD i sq0).kd), .int .i64 ((x.n.ss.getD i sq0).it), (x.n.ss.getD i sq0).iv]) rfl rfl rfl rfl rfl rfl rfl (zae rfl (zae rfl (zae (hr.n.sq.at (d := sq0) (k := i) (by omega)).one zbj))) rfl rfl rfl ?_)
    refine ntQ (srQ ?_)
    have hx4 := (hok.n.sq i (by omega)).1.len
    have hdl : (x.ds.getD i ir0).xs.length = (x.n.ss.getD i sq0).xs.length := by have := (hok.ds i (by omega)).1; omega
    refine hvQ rfl (fdQ 2 rfl rfl rfl) (hvQ rfl (zag rfl rfl rfl (zad 0 rfl rfl)) (hvQ rfl (lnQ rfl rfl rfl (zaa ((hr).n.sq.at (d := sq0) (k := i) (by omega)))) (zbb 1 rfl (zaw ?_))))
    refine lkQ3 (α := Nat) (β := Value) (γ := List Int) [0, 1, 2, 4, 5, 7, 8, 18, 23, 24, 25, 26, 31, 32] rfl (fun j u2 ys => [boxE b11 #[.int .i64 ((x.n.ss.getD i sq0).kd), .int .i64 ((x.n.ss.getD i sq0).it), (x.n.ss.getD i sq0).iv] 35, rowE 3 1 u2 ys.length (ys.map (Value.int .i64)), irsE av es, boxE b #[bv, av] 82, rowE 3 1 bv ((ovX x).length) ((ovX x).map (Value.int .i64)), rowE 3 1 (.slice none 0 0) 0 ([]), boxE b1 #[.int .i64 x.n.ins, x.n.sv, x.n.lv, x.n.ov, x.pv, x.qv, x.kv, x.av, x.bv, .int .i64 x.oi, .int .i64 x.ni] 45]) (fun j u2 ys => [(6, u2), (33, .int .i64 (j : Int))]) (fun j u2 ys => j ≤ (x.n.ss.getD i sq0).xs.length ∧ ys = smpL x (wvsL x (1100 : Int).toNat x.n.cnt.toNat) e i ++ smpI x (wvsL x (1100 : Int).toNat x.n.cnt.toNat) e i j ∧ ys.length ≤ 4 * i + j) (fun j u2 ys => (x.n.ss.getD i sq0).xs.length - j) 0 _ zs ⟨Nat.zero_le _, by rw [hz]; exact (List.append_nil _).symm, by omega⟩ (saQ rfl) (pfQ rfl) ?_
    intro j u2 ys hi12
    obtain ⟨hj, hy, hyl⟩ := hi12
    refine srQ ?_
    refine zbh rfl rfl rfl rfl rfl rfl (fun h13 => ?_) (fun h13 => ?_)
    ·
     refine ntQ (tcQ rfl (zcp (sbQ (zac (reQ 1 rfl (hvQ rfl (riQ 1 rfl rfl rfl rfl (zaa ((hr).n.sq.at (d := sq0) (k := i) (by omega)))) (hvQ rfl (zat (u := .int .i64 (((x.n.ss.getD i sq0).xs).getD j 0)) rfl rfl rfl (zaa ((hr).n.sq.at (d := sq0) (k := i) (by omega))) (zdi (show _ < ((x.n.ss.getD i sq0).xs).length by omega))) ?_)))))))
     refine zbb 2 rfl ?_
     have hns := (hok.n.sq i (by omega)).2 j (by omega)
     have hds := (hok.ds i (by omega)).2 j (by omega)
     have hks := hok.k.2 i (by omega)
     have hov : (ovX x).length = x.n.cnt.toNat := by have := zev x.n x.ao x.oi x.n.ls.length; show (vlL _ _ _ _).length = _; omega
     have hov2 : (valT x.n x.ao x.oi).length = x.n.cnt.toNat := hov
     refine zdq rfl 22 [0, 1, 2, 3, 4, 5, 6, 7, 8, 9, 10, 11, 12, 13, 14, 15, 16, 17, 18, 19, 20, 21] (List.take 22 _) (List.drop 22 _) [[], [], [], [], [], [4], [], [5, 6], [7], [3, 8], [], [10], [11], [], [12, 13], [14], [], [15, 16], [17], [9, 18], [1, 2, 19], [20]] [38, 39, 40, 41, 42, 43, 44, 45, 46, 47, 48, 49, 50, 51, 52, 53, 54, 55, 56, 57, 58, 59] (fun i_ vs_ v_ p_ => match i_ with | 0 => v_ = u2 ∧ p_ = [] | 1 => v_ = .pointer (some ⟨b, 0, none⟩) ∧ p_ = [] | 2 => v_ = .int .i64 (((x.n.ss.getD i sq0).xs).getD j 0) ∧ p_ = [] | 3 => v_ = .int .i64 e ∧ p_ = [] | 4 => v_ = .pointer (some ⟨b1, 0 + 6, none⟩) ∧ p_ = [] | 5 => v_ = x.kv ∧ p_ = [] | 6 => v_ = .int .i64 (i : Int) ∧ p_ = [] | 7 => v_ = elP x.kv (((i : Int)).toNat * 1) ∧ p_ = [] | 8 => v_ = .int .i64 (x.ks.getD i 0) ∧ p_ = [] | 9 => v_ = .int .i64 (e + (x.ks.getD i 0)) ∧ p_ = [] | 10 => v_ = .pointer (some ⟨b1, 0 + 4, none⟩) ∧ p_ = [] | 11 => v_ = .pointer (some ⟨b1, 0 + 4 + 1, none⟩) ∧ p_ = [] | 12 => v_ = x.qv ∧ p_ = [] | 13 => v_ = .int .i64 (i : Int) ∧ p_ = [] | 14 => v_ = elP x.qv (((i : Int)).toNat * 1) ∧ p_ = [] | 15 => v_ = (x.ds.getD i ir0).v ∧ p_ = [] | 16 => v_ = .int .i64 (j : Int) ∧ p_ = [] | 17 => v_ = elP ((x.ds.getD i ir0).v) (((j : Int)).toNat * 1) ∧ p_ = [] | 18 => v_ = .int .i64 (((x.ds.getD i ir0).xs).getD j 0) ∧ p_ = [] | 19 => v_ = .int .i64 ((e + (x.ks.getD i 0)) - (((x.ds.getD i ir0).xs).getD j 0)) ∧ p_ = [] | 20 => v_ = .int .i64 (smpV x (wvsL x (1100 : Int).toNat x.n.cnt.toNat) e i j) ∧ p_ = [] | 21 => IsRow 3 1 1 ([smpV x (wvsL x (1100 : Int).toNat x.n.cnt.toNat) e i j].map (Value.int .i64)) v_ p_ | _ => True) (List.take_append_drop 22 _).symm (by kernel_rfl) (by kernel_rfl) rfl rfl ?_ ?_
     ·
      refine ⟨?_, ?_, ?_, ?_, ?_, ?_, ?_, ?_, ?_, ?_, ?_, ?_, ?_, ?_, ?_, ?_, ?_, ?_, ?_, ?_, ?_, ?_, trivial⟩
      ·
       intro vf pf hR
       exact ovQ rfl (zai [6] rfl) (zbd (zaj rfl))
      ·
       intro vf pf hR
       exact ovQ rfl (zai [5] rfl) (zbd (zaj rfl))
      ·
       intro vf pf hR
       exact ovQ rfl (zai [10] rfl) (zbd (zaj rfl))
      ·
       intro vf pf hR
       exact ovQ rfl (zai [1] rfl) (zbd (zaj rfl))
      ·
       intro vf pf hR
       exact ovQ rfl (zai [2] rfl) (zbd (fdQ 6 rfl rfl rfl))
      ·
       intro vf pf hR
       have e4 := hR 4 (by decide)
       exact olQ rfl (sk 42 (congrArg some e4.1) (zab _)) (zbd (zag rfl rfl rfl (zad 6 rfl rfl)))
      ·
       intro vf pf hR
       exact ovQ rfl (zai [7] rfl) (zbd (zaj rfl))
      ·
       intro vf pf hR
       have e5 := hR 5 (by decide)
       have e6 := hR 6 (by decide)
       exact olQ rfl (sk 43 (congrArg some e5.1) (sk 44 (congrArg some e6.1) (zab _))) (zbd (riQ 1 rfl rfl rfl rfl (zaa ((hr).ks))))
      ·
       intro vf pf hR
       have e7 := hR 7 (by decide)
       exact olQ rfl (sk 45 (congrArg some e7.1) (zab _)) (zbd (liQ rfl rfl rfl (zaa ((hr).ks))))
      ·
       intro vf pf hR
       have e3 := hR 3 (by decide)
       have e8 := hR 8 (by decide)
       exact ovQ rfl (sk 41 (congrArg some e3.1) (sk 46 (congrArg some e8.1) (zab _))) (zbd (vaQ rfl rfl rfl))
      ·
       intro vf pf hR
       exact ovQ rfl (zai [2] rfl) (zbd (fdQ 4 rfl rfl rfl))
      ·
       intro vf pf hR
       have e10 := hR 10 (by decide)
       exact ovQ rfl (sk 48 (congrArg some e10.1) (zab _)) (zbd (fdQ 1 rfl rfl rfl))
      ·
       intro vf pf hR
       have e11 := hR 11 (by decide)
       exact olQ rfl (sk 49 (congrArg some e11.1) (zab _)) (zbd (zag rfl rfl rfl (zad 6 rfl rfl)))
      ·
       intro vf pf hR
       exact ovQ rfl (zai [7] rfl) (zbd (zaj rfl))
      ·
       intro vf pf hR
       have e12 := hR 12 (by decide)
       have e13 := hR 13 (by decide)
       exact olQ rfl (sk 50 (congrArg some e12.1) (sk 51 (congrArg some e13.1) (zab _))) (zbd (riQ 1 rfl rfl rfl rfl (zaa ((hr).ds.row))))
      ·
       intro vf pf hR
       have e14 := hR 14 (by decide)
       exact olQ rfl (sk 52 (congrArg some e14.1) (zab _)) (zbd (zat (u := (x.ds.getD i ir0).v) rfl rfl rfl (zaa ((hr).ds.row)) (zbn irC (fun r => r.v) (fun _ => rfl) x.ds ir0 (show i < _ by omega))))
      ·
       intro vf pf hR
       exact ovQ rfl (zai [9] rfl) (zbd (zaj rfl))
      ·
       intro vf pf hR
       have e15 := hR 15 (by decide)
       have e16 := hR 16 (by decide)
       exact olQ rfl (sk 53 (congrArg some e15.1) (sk 54 (congrArg some e16.1) (zab _))) (zbd (riQ 1 rfl rfl rfl rfl (zaa ((hr).ds.at (d := ir0) (k := i) (by omega)))))
      ·
       intro vf pf hR
       have e17 := hR 17 (by decide)
       exact olQ rfl (sk 55 (congrArg some e17.1) (zab _)) (zbd (zat (u := .int .i64 (((x.ds.getD i ir0).xs).getD j 0)) rfl rfl rfl (zaa ((hr).ds.at (d := ir0) (k := i) (by omega))) (zdi (show _ < ((x.ds.getD i ir0).xs).length by omega))))
      ·
       intro vf pf hR
       have e9 := hR 9 (by decide)
       have e18 := hR 18 (by decide)
       exact ovQ rfl (sk 47 (congrArg some e9.1) (sk 56 (congrArg some e18.1) (zab _))) (zbd (vsQ rfl rfl rfl))
      ·
       intro vf pf hR
       have e1 := hR 1 (by decide)
       have e2 := hR 2 (by decide)
       have e19 := hR 19 (by decide)
       exact olQ rfl (sk 39 (congrArg some e1.1) (sk 40 (congrArg some e2.1) (sk 57 (congrArg some e19.1) (zab _)))) (zal rfl rfl (fun w hm => zas (wavesAt_smp w (zad 3 rfl rfl w hm) (zad 3 rfl rfl w hm) (zah 4 rfl w hm) (rdsX_of 2 rfl w hm) hw rfl rfl rfl (by omega) hov.symm (by omega))))
      intro vf pf hR
      have e20 := hR 20 (by decide)
      exact olQ rfl (sk 58 (congrArg some e20.1) (zab _)) (zau (z := .int .i64 0) (s := 1) (cs := ([smpV x (wvsL x (1100 : Int).toNat x.n.cnt.toNat) e i j].map (Value.int .i64))) rfl Try.underlying26 rfl (by decide) rfl (by kernel_rfl) rfl)
     intro vf pf hR
     have e0 := hR 0 (by decide)
     have e21 : IsRow 3 1 1 ([smpV x (wvsL x (1100 : Int).toNat x.n.cnt.toNat) e i j].map (Value.int .i64)) (vf 21) (pf 21) := hR 21 (by decide)
     obtain ⟨g14, vE21, pE21⟩ := e21
     have q0 := hR 0 (by decide)
     have q1 := hR 1 (by decide)
     have q2 := hR 2 (by decide)
     have q3 := hR 3 (by decide)
     have q4 := hR 4 (by decide)
     have q5 := hR 5 (by decide)
     have q6 := hR 6 (by decide)
     have q7 := hR 7 (by decide)
     have q8 := hR 8 (by decide)
     have q9 := hR 9 (by decide)
     have q10 := hR 10 (by decide)
     have q11 := hR 11 (by decide)
     have q12 := hR 12 (by decide)
     have q13 := hR 13 (by decide)
     have q14 := hR 14 (by decide)
     have q15 := hR 15 (by decide)
     have q16 := hR 16 (by decide)
     have q17 := hR 17 (by decide)
     have q18 := hR 18 (by decide)
     have q19 := hR 19 (by decide)
     have q20 := hR 20 (by decide)
     refine zce (zbe [34, 33, 32, 31, 26, 25, 24, 23, 18, 10, 9, 8, 7, 6, 5, 4, 2, 1, 0] _ (sk 38 (congrArg some e0.1) (sk 59 (congrArg some vE21) (zab _))) rfl) (by simp only [pE21, vE21, q0.2, q1.2, q2.2, q3.2, q4.2, q5.2, q6.2, q7.2, q8.2, q9.2, q10.2, q11.2, q12.2, q13.2, q14.2, q15.2, q16.2, q17.2, q18.2, q19.2, q20.2, fS] <;> rfl) ?_
     simp only [List.drop_succ_cons, List.drop_zero]
     refine zcf (i := 2) (z := .int .i64 0) (bytes := 8) rfl rfl rfl rfl Try.underlying26 (by kernel_rfl) rfl rfl rfl rfl (zah 0 rfl) (zbw _) (by first | omega | (simp; done) | (simp; omega)) (zbt ys ([smpV x (wvsL x (1100 : Int).toNat x.n.cnt.toNat) e i j])) (zcn ys ([smpV x (wvsL x (1100 : Int).toNat x.n.cnt.toNat) e i j])) (fun _ => rfl) ?_
     intro v15
     refine enQ 1 rfl (zcv (zay (hvQ rfl (vaQ rfl rfl rfl) (enQ 1 rfl ?_))))
     exact zbi (j + 1) v15 (ys ++ ([smpV x (wvsL x (1100 : Int).toNat x.n.cnt.toNat) e i j])) ⟨by omega, by rw [hy, smpI_succ, List.append_assoc], by rw [List.length_append, List.length_singleton]; omega⟩ (by omega) (saQ rfl) (slQ [1, 0, 0, 0, 0, 0, 0] rfl)
    refine ntQ (fcQ rfl ?_)
    refine zaz (zdr ?_)
    refine zaf (zcv (zay (hvQ rfl (vaQ rfl rfl rfl) (enQ 1 rfl ?_))))
    exact zbi (i + 1) u2 ys ⟨by omega, by rw [hy, show j = (x.n.ss.getD i sq0).xs.length by omega]; rfl, by omega⟩ (by omega) (saQ rfl) (slQ [1, 0, 0, 0, 0, 0] rfl)
   refine ntQ (fcQ rfl ?_)
   refine zaz (zdr ?_)
   refine zaf (zax (zbc 2 rfl ?_))
   refine zav ?_
   have hsR : zs = smpR x e := by rw [smpR_ok hok (by omega) (a := (1100 : Int).toNat) (by omega), hz, show i = x.n.ss.length by omega]
   exact zdc (post := [rowE 3 1 u zs.length (zs.map (Value.int .i64))]) rfl rfl (slQ [0] rfl) (by first | (rw [hsR]; done) | (rw [hsR]; rfl))
  have h4a := zdy h4
  refine zbb 2 rfl (zao rfl (srQ ?_))
  refine zeo 3 1 (zbb 1 rfl ?_)
  refine zav (zap ?_)
  have hsR : smpR x e = [] := by first | exact smpR_no (.inl hno) | exact smpR_no (.inr (by omega))
  exact zdc (post := [rowE 3 1 (.slice none 0 0) 0 ([])]) rfl rfl (slQ [0] rfl) (by first | (rw [hsR]; done) | (rw [hsR]; rfl))
 have hno := zew h3
 refine zbb 6 rfl (zao rfl (srQ ?_))
 refine zeo 3 1 (zbb 1 rfl ?_)
 refine zav (zap ?_)
 have hsR : smpR x e = [] := by first | exact smpR_no (.inl hno) | exact smpR_no (.inr (by omega))
 exact zdc (post := [rowE 3 1 (.slice none 0 0) 0 ([])]) rfl rfl (slQ [0] rfl) (by first | (rw [hsR]; done) | (rw [hsR]; rfl))
theorem vl_mono (n : Ln) (st : List Int) (inp : Int) {i q : Nat} (hq : q < (vlL n st inp i).length) : ∀ m, i ≤ m → (vlL n st inp m).getD q 0 = (vlL n st inp i).getD q 0
  | 0, h => by obtain rfl : i = 0 := by omega
               rfl
  | m + 1, h => by
    by_cases e : i = m + 1
    · subst e; rfl
    · have ih := vl_mono n st inp hq m (by omega)
      have hl := zev n st inp m
      have hl2 := zev n st inp i
      rw [← ih]
      show (vlL n st inp m ++ [_]).getD q 0 = _
      exact zdl (by omega)
theorem lutV_ext {l : Lt} {b c : Nat → Int} (h : ∀ q, q < l.xs.length → b q = c q) : lutV l b = lutV l c := by unfold lutV; rw [pk_ext _ h]
theorem val_lut {n : Ln} (hok : LnOk n) {st : List Int} (hs : StP n st) (inp : Int) {i : Nat} (hi : i < n.ls.length) : (valT n st inp).getD (n.fst + i).toNat 0 = lutV (n.ls.getD i lt0) (atV (valT n st inp) (n.ls.getD i lt0).xs) := by
  have h0 := hok.sz.i
  have hf : n.fst = 1 + n.ins + n.ss.length := rfl
  have hl := zev n st inp i
  have hl1 := zev n st inp (i + 1)
  have hsl := hs.len
  show (vlL n st inp n.ls.length).getD _ 0 = _
  rw [vl_mono n st inp (i := i + 1) (by omega) n.ls.length (by omega)]
  show (vlL n st inp i ++ [_]).getD _ 0 = _
  rw [zdk (by omega), show (n.fst + (i : Int)).toNat - (vlL n st inp i).length = 0 by omega]
  show lutV _ _ = _
  refine lutV_ext fun q hq => ?_
  have hx := (hok.lt i hi).1.2 q hq
  show (vlL n st inp i).getD _ 0 = (vlL n st inp n.ls.length).getD _ 0
  exact (vl_mono n st inp (by omega) n.ls.length (by omega)).symm
theorem settle_core {x : Td} (h : TdOk x) (hz : Nat) : ∀ (N k : Nat), k < N → (k : Int) < x.n.cnt →
    ((stp x (sL x k).1 (sL x k).2 k).2 = true → ∀ t : Nat, t ≤ hz → (stp x (sL x k).1 (sL x k).2 k).1 ≤ t → wvV x (wvsL x hz k) k (t : Int) = (nvX x).getD k 0) ∧
    ((stp x (sL x k).1 (sL x k).2 k).2 = false → (ovX x).getD k 0 = (nvX x).getD k 0 ∧ ∀ t : Nat, t ≤ hz → wvV x (wvsL x hz k) k (t : Int) = (nvX x).getD k 0)
  | 0, k, hk, _ => absurd hk (by omega)
  | N + 1, k, hk, hc => by
    have h0 := h.n.sz.i
    have hf : x.n.fst = 1 + x.n.ins + x.n.ss.length := rfl
    have hcn : x.n.cnt = 1 + x.n.ins + x.n.ss.length + x.n.ls.length := rfl
    by_cases k0 : k = 0
    · subst k0
      refine ⟨fun hr => absurd (show (false : Bool) = true from hr) (by decide), fun _ => ⟨by rw [val_zero, val_zero], fun t ht => by rw [wv_zero _ _ _ h0.1, val_zero]⟩⟩
    by_cases k1 : (k : Int) ≤ x.n.ins
    · have e : stp x (sL x k).1 (sL x k).2 k = (0, true) := by unfold stp; rw [if_neg k0, if_pos k1]
      rw [e]
      refine ⟨fun _ t ht _ => ?_, fun hr => absurd hr (by decide)⟩
      unfold wvV; rw [if_pos (by omega), if_neg (by omega)]
    by_cases k2 : (k : Int) < x.n.fst
    · have e : stp x (sL x k).1 (sL x k).2 k = (x.ks.getD ((k : Int) - 1 - x.n.ins).toNat 0, true) := by unfold stp; rw [if_neg k0, if_neg k1, if_pos k2]
      rw [e]
      refine ⟨fun _ t ht hs => ?_, fun hr => absurd (show (true : Bool) = false from hr) (by decide)⟩
      have hs' : x.ks.getD ((k : Int) - 1 - x.n.ins).toNat 0 ≤ (t : Int) := hs
      unfold wvV; rw [if_pos k2, if_neg (by omega)]
    obtain ⟨i, hi⟩ : ∃ i : Nat, (k : Int) - x.n.fst = i := ⟨((k : Int) - x.n.fst).toNat, by omega⟩
    have hil : i < x.n.ls.length := by omega
    have e : stp x (sL x k).1 (sL x k).2 k = lutS x (sL x k).1 (sL x k).2 i (x.n.ls.getD i lt0).xs.length := by
      unfold stp; rw [if_neg k0, if_neg k1, if_neg k2, show ((k : Int) - x.n.fst).toNat = i by omega]
    have hd : ∀ j, j < (x.n.ls.getD i lt0).xs.length → 0 ≤ (x.dl.getD i ir0).xs.getD j 0 := fun j hj => by
      have := h.dl i hil
      exact (this.2 j (by have := this.1; omega)).1
    have ho : ∀ q, 0 ≤ (sL x k).1.getD q 0 := fun q => by
      by_cases hq : q < k
      · exact (o_bnd h (by omega) hq).1
      · rw [List.getD_eq_getElem?_getD, List.getElem?_eq_none (by rw [(sL_len x k).1]; omega)]; exact Int.le_refl _
    obtain ⟨m1, m2, m3, m4⟩ := lutS_max x (sL x k).1 (sL x k).2 i hd ho _ (Nat.le_refl _)
    rw [e]
    have hbl := (h.n.lt i hil).1.2
    have hq : ∀ j, j < (x.n.ls.getD i lt0).xs.length → ((x.n.ls.getD i lt0).xs.getD j 0).toNat < k := fun j hj => by have := hbl j hj; omega
    have ih := fun j (hj : j < (x.n.ls.getD i lt0).xs.length) => settle_core h hz N _ (show ((x.n.ls.getD i lt0).xs.getD j 0).toNat < N by have := hq j hj; omega) (by have := hq j hj; omega)
    have hpre := fun j (hj : j < (x.n.ls.getD i lt0).xs.length) => sL_pre x k _ (hq j hj)
    have hkv : k = (x.n.fst + i).toNat := by omega
    have hnv : (nvX x).getD k 0 = lutV (x.n.ls.getD i lt0) (atV (nvX x) (x.n.ls.getD i lt0).xs) := by rw [hkv]; exact val_lut h.n h.b x.ni hil
    have hov : (ovX x).getD k 0 = lutV (x.n.ls.getD i lt0) (atV (ovX x) (x.n.ls.getD i lt0).xs) := by rw [hkv]; exact val_lut h.n h.a x.oi hil
    -- an input that nothing reaches
    have still : ∀ j, j < (x.n.ls.getD i lt0).xs.length → ((sL x k).2.getD ((x.n.ls.getD i lt0).xs.getD j 0).toNat bl0).b = false → ∀ t : Nat, t ≤ hz → lin x (wvsL x hz k) i (t : Int) j = atV (nvX x) (x.n.ls.getD i lt0).xs j := fun j hj hr t ht => by
      rw [(hpre j hj).2] at hr
      obtain ⟨a, b⟩ := (ih j hj).2 hr
      have hdj := hd j hj
      unfold lin atW
      split
      · exact a
      · rename_i hn
        rw [zgp x hz (hq j hj) (by omega)]
        exact b _ (by omega)
    constructor
    · intro hr t ht hs
      rw [wv_lut x _ _ hi, hnv]
      refine lutV_ext fun j hj => ?_
      cases hrj : ((sL x k).2.getD ((x.n.ls.getD i lt0).xs.getD j 0).toNat bl0).b with
      | false => exact still j hj hrj t ht
      | true =>
        have hm := m1 j hj hrj
        have hoj := ho ((x.n.ls.getD i lt0).xs.getD j 0).toNat
        have hdj := hd j hj
        rw [(hpre j hj).2] at hrj
        unfold lin atW
        rw [if_neg (by omega), zgp x hz (hq j hj) (by omega)]
        refine (ih j hj).1 hrj _ (by omega) ?_
        rw [← (hpre j hj).1]; omega
    · intro hr
      have hno : ∀ j, j < (x.n.ls.getD i lt0).xs.length → ((sL x k).2.getD ((x.n.ls.getD i lt0).xs.getD j 0).toNat bl0).b = false := fun j hj => by
        cases hb : ((sL x k).2.getD ((x.n.ls.getD i lt0).xs.getD j 0).toNat bl0).b with
        | false => rfl
        | true => rw [m4.2 ⟨j, hj, hb⟩] at hr; cases hr
      refine ⟨?_, fun t ht => ?_⟩
      · rw [hov, hnv]
        refine lutV_ext fun j hj => ?_
        have hr2 := hno j hj
        rw [(hpre j hj).2] at hr2
        exact ((ih j hj).2 hr2).1
      · rw [wv_lut x _ _ hi, hnv]
        exact lutV_ext fun j hj => still j hj (hno j hj) t ht
open Go.RowKit
def cyc (es : List Exc) (i j : Int) : Int := match es.find? (fun e => e.f == i && e.t == j) with | some e => e.c | none => 1
theorem cyc_take {es : List Exc} {i j : Int} {m : Nat} (h : ∀ q, q < m → ¬ ((es.getD q exc0).f = i ∧ (es.getD q exc0).t = j)) : es.length ≤ m → cyc es i j = 1 := fun hm => by
  have : es.find? (fun e => e.f == i && e.t == j) = none := by
    rw [List.find?_eq_none]
    intro e he hx
    obtain ⟨q, hq, rfl⟩ := List.mem_iff_getElem.1 he
    refine h q (by omega) ?_
    rw [List.getD_eq_getElem?_getD, List.getElem?_eq_getElem hq]
    simpa using hx
  unfold cyc; rw [this]
theorem cyc_at {es : List Exc} {i j : Int} {m : Nat} (hm : m < es.length) (h : ∀ q, q < m → ¬ ((es.getD q exc0).f = i ∧ (es.getD q exc0).t = j)) (h1 : (es.getD m exc0).f = i) (h2 : (es.getD m exc0).t = j) : cyc es i j = (es.getD m exc0).c := by
  have : es.find? (fun e => e.f == i && e.t == j) = some (es.getD m exc0) := by
    rw [List.find?_eq_some_iff_getElem]
    refine ⟨by rw [Bool.and_eq_true, beq_iff_eq, beq_iff_eq]; exact ⟨h1, h2⟩, m, hm, by rw [List.getD_eq_getElem?_getD, List.getElem?_eq_getElem hm]; rfl, fun q hq => ?_⟩
    have := h q hq
    rw [List.getD_eq_getElem?_getD, List.getElem?_eq_getElem (by omega)] at this
    rw [Bool.not_eq_true', Bool.eq_false_iff]
    intro hx
    rw [Bool.and_eq_true, beq_iff_eq, beq_iff_eq] at hx
    exact this hx
  unfold cyc; rw [this]
theorem cyc_rng {es : List Exc} (h : ExsOk es) (i j : Int) : 0 ≤ cyc es i j ∧ cyc es i j ≤ 8 := by
  unfold cyc
  cases hf : es.find? (fun e => e.f == i && e.t == j) with
  | none => decide
  | some e =>
    obtain ⟨q, hq, he⟩ := List.mem_iff_getElem.1 (List.mem_of_find?_eq_some hf)
    have := h q hq
    rw [List.getD_eq_getElem?_getD, List.getElem?_eq_getElem hq] at this
    simp only [Option.getD_some, he] at this
    exact ⟨this.2.2.1, this.2.2.2⟩
def best (gs : List Arc) (ls cs : List Pnt) (es : List Exc) (lg : Bool) (F : Pnt → Pnt → Int → Int → Int) (j : Nat) : Nat → Option Int
  | 0 => none
  | i + 1 =>
    let b := best gs ls cs es lg F j i
    let x := Dl lg gs (ls.getD i pnt0).n ((cs.getD j pnt0).n).toNat
    if x < 0 ∨ cyc es i j = 0 then b else
      let v := F (ls.getD i pnt0) (cs.getD j pnt0) x (cyc es i j)
      match b with | none => some v | some y => if v < y then some v else some y
theorem best_skip {gs : List Arc} {ls cs : List Pnt} {es : List Exc} {lg : Bool} {F : Pnt → Pnt → Int → Int → Int} {j i : Nat} (h : Dl lg gs (ls.getD i pnt0).n ((cs.getD j pnt0).n).toNat < 0 ∨ cyc es i j = 0) : best gs ls cs es lg F j (i + 1) = best gs ls cs es lg F j i := by
  show (if _ then _ else _) = _; rw [if_pos h]
theorem best_new {gs : List Arc} {ls cs : List Pnt} {es : List Exc} {lg : Bool} {F : Pnt → Pnt → Int → Int → Int} {j i : Nat} (h : ¬ Dl lg gs (ls.getD i pnt0).n ((cs.getD j pnt0).n).toNat < 0) (h2 : cyc es i j ≠ 0) : best gs ls cs es lg F j (i + 1) =
    match best gs ls cs es lg F j i with | none => some (F (ls.getD i pnt0) (cs.getD j pnt0) (Dl lg gs (ls.getD i pnt0).n ((cs.getD j pnt0).n).toNat) (cyc es i j)) | some y => if F (ls.getD i pnt0) (cs.getD j pnt0) (Dl lg gs (ls.getD i pnt0).n ((cs.getD j pnt0).n).toNat) (cyc es i j) < y then some (F (ls.getD i pnt0) (cs.getD j pnt0) (Dl lg gs (ls.getD i pnt0).n ((cs.getD j pnt0).n).toNat) (cyc es i j)) else some y := by
  show (if _ then _ else _) = _; rw [if_neg (by rintro (h3 | h3); exact h h3; exact h2 h3)]
def Held (o : Int) (s : Bool) (b : Option Int) : Prop := s = b.isSome ∧ o = b.getD 1000000
theorem PointsOk_yes (n : Int) (gs : List Arc) (v : Value) (ps : List Pnt) (pv : Value) (w : World) (hg : GOk n gs) (hv : RdsW w v 3 gs.length (gs.flatMap arcC)) (hp : PtsOk n ps) (hpl : ps.length ≤ 100) (hpv : RdsW w pv 2 ps.length (ps.flatMap pntC)) :
   Calls Try.prog 50 #[.agg #[.int .i64 n, v], pv] w (Ans w (.bool true)) := by
 obtain ⟨hn0, hn1, hgl, -⟩ := id hg
 refine zbf (N := 35) (args := [.agg #[.int .i64 n, v], pv]) Try.func50 rfl rfl (srQ ?_)
 refine zdt rfl (zct rfl rfl) ?_
 intro b1
 refine zbb 1 rfl (zfl (hvQ rfl (zar (cs := [.int .i64 n, v]) rfl rfl rfl rfl rfl (zam 0 rfl 0 rfl)) ?_))
 refine zdn rfl (zal rfl rfl (fun w hm => zas (implTimingOk_yes n gs v w hg (hv.below hm.bel)))) (zan 3 rfl (hvQ rfl (lnQ rfl rfl rfl (zaa hpv)) ?_))
 refine zfa rfl rfl rfl rfl rfl rfl (fun h2 => absurd h2 (by omega)) (fun h2 => ?_)
 refine zbb 1 rfl (zaq rfl (zcp (zac (zac (reQ 1 rfl (hvQ rfl (lnQ rfl rfl rfl (zaa hpv)) (zan 1 rfl (?_))))))))
 refine ntQ (zaw ?_)
 refine lkQ1 (α := Nat) [0, 1, 2, 4, 14, 15, 16] rfl (fun j => [boxE b1 #[.int .i64 n, v] 53]) (fun j => [(17, .int .i64 (j : Int))]) (fun j => j ≤ ps.length) (fun j => ps.length - j) 0 (Nat.zero_le _) (saQ rfl) (pfQ rfl) ?_
 intro j hi3
 have hj := hi3
 refine srQ ?_
 refine zbh rfl rfl rfl rfl rfl rfl (fun h4 => ?_) (fun h4 => ?_)
 ·
  refine ntQ (tcQ rfl (zcp (sbQ (srQ (hvQ rfl (riQ 2 rfl rfl rfl rfl (zaa hpv)) ?_)))))
  refine hvQ rfl (zcl (us := [.int .i64 ((ps.getD j pnt0).n), .int .i64 ((ps.getD j pnt0).s)]) rfl rfl rfl rfl (zaa hpv) (by omega) rfl (zde pntC 2 (fun _ => rfl) ps pnt0 (show j < _ by omega) rfl)) (zdt rfl (zbm (z := .agg #[.int .i64 0, .int .i64 0]) rfl rfl) ?_)
  intro b5
  refine zbr (cs' := #[.int .i64 ((ps.getD j pnt0).n), .int .i64 ((ps.getD j pnt0).s)]) (i := 0) (off := 0) (us := [.int .i64 ((ps.getD j pnt0).n), .int .i64 ((ps.getD j pnt0).s)]) rfl rfl rfl rfl rfl rfl rfl (zae rfl (zae rfl zbj)) rfl rfl rfl (ntQ (srQ ?_))
  have hpj := hp j (by omega)
  refine hvQ rfl (fdQ 0 rfl rfl rfl) (hvQ rfl (zag rfl rfl rfl (zad 0 rfl rfl)) (hvQ rfl (fdQ 0 rfl rfl rfl) (hvQ rfl (zag rfl rfl rfl (zad 1 rfl rfl)) (hvQ rfl (vsQ rfl rfl rfl) ?_))))
  refine zdn rfl (zal rfl rfl (fun w hm => zas (zgd (by omega) (by omega) w))) (zan 2 rfl (hvQ rfl (fdQ 1 rfl rfl rfl) (hvQ rfl (zag rfl rfl rfl (zad 0 rfl rfl)) ?_)))
  refine zdn rfl (zal rfl rfl (fun w hm => zas (zgd (by omega) (by omega) w))) (zbb 2 rfl (fsQ rfl (zcv (zay (hvQ rfl (vaQ rfl rfl rfl) (enQ 1 rfl ?_))))))
  exact zck (j + 1) (by omega) (by omega) (saQ rfl) (slQ [1] rfl)
 refine ntQ (fcQ rfl ?_)
 refine zaz (zdr ?_)
 refine zaf (zax (zbc 1 rfl ?_))
 exact zav (zbg rfl rfl rfl)
theorem exceptionsOk_yes (es : List Exc) (v : Value) (w : World) (he : ExsOk es) (hel : es.length ≤ 50) (hv : RdsW w v 3 es.length (es.flatMap excC)) :
   Calls Try.prog 51 #[v] w (Ans w (.bool true)) := by
 refine zbf (N := 29) (args := [v]) Try.func51 rfl rfl (zbc 1 rfl (zac (zac (reQ 1 rfl (hvQ rfl (lnQ rfl rfl rfl (zaa hv)) ?_)))))
 refine zfa rfl rfl rfl rfl rfl rfl (fun h1 => absurd h1 (by omega)) (fun h1 => ?_)
 refine ntQ (zaq rfl (zcp (zac (zac (reQ 1 rfl (hvQ rfl (lnQ rfl rfl rfl (zaa hv)) (enQ 1 rfl ?_)))))))
 refine zax (zaw ?_)
 refine lkQ1 (α := Nat) [0, 2, 7, 8, 9] rfl (fun j => []) (fun j => [(10, .int .i64 (j : Int))]) (fun j => j ≤ es.length) (fun j => es.length - j) 0 (Nat.zero_le _) (saQ rfl) (.slnil) ?_
 intro j hi2
 have hj := hi2
 refine srQ ?_
 refine zbh rfl rfl rfl rfl rfl rfl (fun h3 => ?_) (fun h3 => ?_)
 ·
  refine ntQ (tcQ rfl (zcp (sbQ (srQ (hvQ rfl (riQ 3 rfl rfl rfl rfl (zaa hv)) ?_)))))
  refine hvQ rfl (zcl (us := [.int .i64 ((es.getD j exc0).f), .int .i64 ((es.getD j exc0).t), .int .i64 ((es.getD j exc0).c)]) rfl rfl rfl rfl (zaa hv) (by omega) rfl (zde excC 3 (fun _ => rfl) es exc0 (show j < _ by omega) rfl)) (zdt rfl (zbm (z := .agg #[.int .i64 0, .int .i64 0, .int .i64 0]) rfl rfl) ?_)
  intro b4
  refine zbr (cs' := #[.int .i64 ((es.getD j exc0).f), .int .i64 ((es.getD j exc0).t), .int .i64 ((es.getD j exc0).c)]) (i := 0) (off := 0) (us := [.int .i64 ((es.getD j exc0).f), .int .i64 ((es.getD j exc0).t), .int .i64 ((es.getD j exc0).c)]) rfl rfl rfl rfl rfl rfl rfl (zae rfl (zae rfl (zae rfl zbj))) rfl rfl rfl (ntQ (srQ ?_))
  have hej := he j (by omega)
  refine hvQ rfl (fdQ 0 rfl rfl rfl) (hvQ rfl (zag rfl rfl rfl (zad 0 rfl rfl)) ?_)
  refine zbh rfl rfl rfl rfl rfl rfl (fun h5 => absurd h5 (by omega)) (fun h5 => ?_)
  refine zan 1 rfl (hvQ rfl (fdQ 1 rfl rfl rfl) (hvQ rfl (zag rfl rfl rfl (zad 0 rfl rfl)) ?_))
  refine zbh rfl rfl rfl rfl rfl rfl (fun h6 => absurd h6 (by omega)) (fun h6 => ?_)
  refine zan 2 rfl (hvQ rfl (fdQ 2 rfl rfl rfl) (hvQ rfl (zag rfl rfl rfl (zad 0 rfl rfl)) ?_))
  refine zdn rfl (zal rfl rfl (fun w hm => zas (zgd (by omega) (by omega) w))) (zbb 2 rfl (fsQ rfl (zcv (zay (hvQ rfl (vaQ rfl rfl rfl) (enQ 1 rfl ?_))))))
  exact zck (j + 1) (by omega) (by omega) (saQ rfl) (slQ [] rfl)
 refine ntQ (fcQ rfl ?_)
 refine zaz (zdr ?_)
 refine zaf (zax (zbc 1 rfl ?_))
 exact zav (zbg rfl rfl rfl)
theorem cyclesOf_ans (es : List Exc) (v : Value) (i j : Int) (w : World) (hel : es.length ≤ 50) (hv : RdsW w v 3 es.length (es.flatMap excC)) :
   Calls Try.prog 72 #[v, .int .i64 i, .int .i64 j] w (Ans w (.int .i64 (cyc es i j))) := by
 refine zbf (N := 28) (args := [v, .int .i64 i, .int .i64 j]) Try.func72 rfl rfl (zbc 1 rfl (zac (zac (reQ 1 rfl (hvQ rfl (lnQ rfl rfl rfl (zaa hv)) (zan 1 rfl (?_)))))))
 refine ntQ (zaw ?_)
 refine lkQ1 (α := Nat) [0, 1, 2, 6, 9, 10] rfl (fun m => []) (fun m => [(11, .int .i64 (m : Int))]) (fun m => m ≤ es.length ∧ (∀ q, q < m → ¬ ((es.getD q exc0).f = i ∧ (es.getD q exc0).t = j))) (fun m => es.length - m) 0 ⟨by omega, fun q hq => absurd hq (by omega)⟩ (saQ rfl) (.slnil) ?_
 intro m hi1
 obtain ⟨hm, hno⟩ := hi1
 refine srQ ?_
 refine zbh rfl rfl rfl rfl rfl rfl (fun h2 => ?_) (fun h2 => ?_)
 ·
  refine ntQ (tcQ rfl (zcp (sbQ (srQ (hvQ rfl (riQ 3 rfl rfl rfl rfl (zaa hv)) ?_)))))
  refine hvQ rfl (zcl (us := [.int .i64 ((es.getD m exc0).f), .int .i64 ((es.getD m exc0).t), .int .i64 ((es.getD m exc0).c)]) rfl rfl rfl rfl (zaa hv) (by omega) rfl (zde excC 3 (fun _ => rfl) es exc0 (show m < _ by omega) rfl)) (zdt rfl (zbm (z := .agg #[.int .i64 0, .int .i64 0, .int .i64 0]) rfl rfl) ?_)
  intro b3
  refine zbr (cs' := #[.int .i64 ((es.getD m exc0).f), .int .i64 ((es.getD m exc0).t), .int .i64 ((es.getD m exc0).c)]) (i := 0) (off := 0) (us := [.int .i64 ((es.getD m exc0).f), .int .i64 ((es.getD m exc0).t), .int .i64 ((es.getD m exc0).c)]) rfl rfl rfl rfl rfl rfl rfl (zae rfl (zae rfl (zae rfl zbj))) rfl rfl rfl (ntQ (srQ (hvQ rfl (fdQ 0 rfl rfl rfl) (hvQ rfl (zag rfl rfl rfl (zad 0 rfl rfl)) (zan 1 rfl ?_)))))
  refine zcu rfl rfl rfl rfl rfl rfl (fun h4 => ?_) (fun h4 => ?_)
  ·
   refine zan 1 rfl (hvQ rfl (fdQ 1 rfl rfl rfl) (hvQ rfl (zag rfl rfl rfl (zad 0 rfl rfl)) (zan 1 rfl ?_)))
   refine zcu rfl rfl rfl rfl rfl rfl (fun h5 => ?_) (fun h5 => ?_)
   ·
    refine zbb 1 rfl (zao rfl (srQ (hvQ rfl (fdQ 2 rfl rfl rfl) (hvQ rfl (zag rfl rfl rfl (zad 0 rfl rfl)) (zbb 1 rfl ?_)))))
    refine zav (zak ?_)
    refine zfs ?_
    refine zak (zap ?_)
    exact zbg rfl rfl (by rw [cyc_at (by omega) hno (by assumption) (by assumption)] <;> rfl)
   refine zbb 1 rfl (fsQ rfl (zcv (zay (hvQ rfl (vaQ rfl rfl rfl) (enQ 1 rfl ?_)))))
   exact zck (m + 1) ⟨by omega, fun q hq hx => by by_cases hqm : q = m; (subst hqm; first | exact absurd hx.1 (by assumption) | exact absurd hx.2 (by assumption)); exact hno q (by omega) hx⟩ (by omega) (saQ rfl) (slQ [] rfl)
  refine zbb 6 rfl (fsQ rfl (zcv (zay ?_)))
  refine hvQ rfl (vaQ rfl rfl rfl) (enQ 1 rfl ?_)
  exact zck (m + 1) ⟨by omega, fun q hq hx => by by_cases hqm : q = m; (subst hqm; first | exact absurd hx.1 (by assumption) | exact absurd hx.2 (by assumption)); exact hno q (by omega) hx⟩ (by omega) (saQ rfl) (slQ [] rfl)
 refine ntQ (fcQ rfl ?_)
 refine zaz (zdr ?_)
 refine zaf (zax (zbc 1 rfl ?_))
 exact zav (zbg rfl rfl (by rw [cyc_take hno (by omega)] <;> rfl))
theorem held_set {gs : List Arc} {ls cs : List Pnt} {es : List Exc} {lg : Bool} {F : Pnt → Pnt → Int → Int → Int} {j i : Nat} {o o' : Int} {s s' : Bool} {v v' : Int} (ho : o' = v') (hs : s' = true)
    (hb : best gs ls cs es lg F j (i + 1) = match best gs ls cs es lg F j i with | none => some v | some y => if v < y then some v else some y) (hh : Held o s (best gs ls cs es lg F j i)) (hv : v' = v) (hc : s = false ∨ v' < o) : Held o' s' (best gs ls cs es lg F j (i + 1)) := by
  obtain ⟨h1, h2⟩ := hh
  rw [hb]
  cases hx : best gs ls cs es lg F j i with
  | none => exact ⟨hs, by rw [ho, hv]; rfl⟩
  | some y =>
    rw [hx] at h1 h2
    have : v < y := by
      rcases hc with hc | hc
      · rw [hc] at h1; cases h1
      · simp only [Option.getD_some] at h2; omega
    simp only [this, if_true]
    exact ⟨hs, by rw [ho, hv]; rfl⟩
theorem held_keep {gs : List Arc} {ls cs : List Pnt} {es : List Exc} {lg : Bool} {F : Pnt → Pnt → Int → Int → Int} {j i : Nat} {o o' : Int} {s s' : Bool} {v v' : Int} (hh : Held o s (best gs ls cs es lg F j i)) (hs : s' = true) (ho : o' = o) (hv : v' = v)
    (hb : best gs ls cs es lg F j (i + 1) = match best gs ls cs es lg F j i with | none => some v | some y => if v < y then some v else some y) (hc : s = true) (hc2 : ¬ v' < o) : Held o' s' (best gs ls cs es lg F j (i + 1)) := by
  obtain ⟨h1, h2⟩ := hh
  rw [hb]
  cases hx : best gs ls cs es lg F j i with
  | none => rw [hx, hc] at h1; cases h1
  | some y =>
    rw [hx] at h1 h2
    simp only [Option.getD_some] at h2
    have : ¬ v < y := by omega
    simp only [this, if_false]
    exact ⟨hs, by rw [ho, h2]; rfl⟩
theorem slacks_ret (n : Int) (gs : List Arc) (v : Value) (pl pc : List Pnt) (pe : List Exc) (lv cv ev_ : Value) (lg : Bool) (f : FuncId) (cs : List Value) (F : Pnt → Pnt → Int → Int → Int) (w : World) (hg : GOk n gs) (hv : RdsW w v 3 gs.length (gs.flatMap arcC)) (hpl : PtsOk n pl) (hll : pl.length ≤ 100) (hlv : RdsW w lv 2 pl.length (pl.flatMap pntC)) (hpc : PtsOk n pc) (hcl : pc.length ≤ 100) (hcv : RdsW w cv 2 pc.length (pc.flatMap pntC)) (hpe : ExsOk pe) (hel : pe.length ≤ 50) (hev : RdsW w ev_ 3 pe.length (pe.flatMap excC)) (hgo : goesB Try.prog f = true) (hF : ∀ w', Below w.heap.size w w' → ∀ (L C : Pnt) (x y : Int), (0 ≤ L.s ∧ L.s ≤ 50) → (0 ≤ C.s ∧ C.s ≤ 50) → (0 ≤ x ∧ x ≤ 50000) → (1 ≤ y ∧ y ≤ 8) → Calls Try.prog f (([.agg #[.int .i64 L.n, .int .i64 L.s], .agg #[.int .i64 C.n, .int .i64 C.s], .int .i64 x, .int .i64 y] : List Value) ++ cs).toArray w' (Ans w' (.int .i64 (F L C x y)))) :
   Calls Try.prog 52 #[.agg #[.int .i64 n, v], lv, cv, ev_, .bool lg, .func (.func f) #[] cs.toArray] w (Ret w (fun v' post => ∃ ys : List Int, post = [rowE 3 1 v' ys.length (ys.map (Value.int .i64))] ∧ ys.length = pc.length ∧ ∀ r, r < pc.length → ∃ s, Held (ys.getD r 0) s (best gs pl pc pe lg F r pl.length))) := by
 obtain ⟨hn0, hn1, hgl, -⟩ := id hg
 have hrep : (List.replicate pc.length (0 : Int)).length = pc.length := List.length_replicate
 have hrepb : (List.replicate pc.length bl0).length = pc.length := List.length_replicate
 refine zbf (N := 107) (args := [.agg #[.int .i64 n, v], lv, cv, ev_, .bool lg, .func (.func f) #[] cs.toArray]) Try.func52 rfl rfl (srQ ?_)
 refine zdt rfl (zct rfl rfl) ?_
 intro b1
 refine zbb 1 rfl (srQ (hvQ rfl (zar (cs := [.int .i64 n, v]) rfl rfl rfl rfl rfl (zam 0 rfl 0 rfl)) ?_))
 refine hl_q rfl rfl rfl (zal rfl rfl (fun w hm => arcsInto_ret n gs v w hg (hv.below hm.bel))) ?_
 intro v2 p3 hR4
 obtain ⟨rs, rfl, hri⟩ := hR4
 have hrl := hri.1
 refine zbb 1 rfl (zac (reQ 1 rfl (hvQ rfl (lnQ rfl rfl rfl (zaa hcv)) ?_)))
 refine zdu rfl (zei (z := .int .i64 0) (s := 1) (bytes := 8) (n := (List.replicate pc.length (0 : Int)).length) (cs := ((List.replicate pc.length (0 : Int)).map (Value.int .i64))) rfl Try.underlying26 rfl (by decide) rfl rfl (by first | (rw [List.length_replicate]; done) | (rw [List.length_replicate]; omega)) (by first | (rw [List.length_replicate]; done) | (rw [List.length_replicate]; omega)) (by rw [List.length_replicate]; omega) (zez _)) ?_
 intro g5
 refine zbb 1 rfl (zac (zac (reQ 1 rfl (hvQ rfl (lnQ rfl rfl rfl (zah 0 rfl)) (zbb 1 rfl (zaw ?_))))))
 refine lkQ2 (α := Nat) (β := List Int) [0, 1, 2, 3, 4, 5, 6, 12, 13, 14, 30] rfl (fun q zs => [rowE 3 1 (.slice (some ⟨g5, 0, none⟩) ((List.replicate pc.length (0 : Int)).length) ((List.replicate pc.length (0 : Int)).length)) zs.length (zs.map (Value.int .i64)), intoE v2 rs, boxE b1 #[.int .i64 n, v] 53]) (fun q zs => [(31, .int .i64 (q : Int))]) (fun q zs => q ≤ pc.length ∧ zs.length = pc.length ∧ ∀ r, r < q → zs.getD r 0 = 1000000) (fun q zs => pc.length - q) 0 _ ⟨by omega, List.length_replicate, fun r hr => absurd hr (by omega)⟩ (saQ rfl) (pfQ rfl) ?_
 intro q zs hi6
 obtain ⟨hq, hzl, hz⟩ := hi6
 refine srQ ?_
 refine zbh rfl rfl rfl rfl rfl rfl (fun h7 => ?_) (fun h7 => ?_)
 ·
  refine ntQ (tcQ rfl (zcp (sbQ (srQ (enQ 2 rfl ?_)))))
  refine zax (reQ 2 rfl (hvQ rfl (riQ 1 rfl rfl rfl rfl (zah 0 rfl)) ?_))
  refine zcw (i := 0) (n' := (zs.set q 1000000).length) (xs' := ((zs.set q 1000000).map (Value.int .i64))) rfl rfl rfl rfl rfl rfl rfl rfl (by first | omega | (simp only [List.length_set]; omega)) List.length_set.symm (zdb _ _ _) rfl (zcb (zcv (zay (hvQ rfl (vaQ rfl rfl rfl) (enQ 1 rfl ?_)))))
  exact zbv (q + 1) (zs.set q 1000000) ⟨by omega, by rw [List.length_set]; exact hzl, fun r hr => by by_cases hrq : r = q; (subst hrq; exact zcg (by omega)); rw [zel (fun e => hrq e.symm)]; exact hz r (by omega)⟩ (by omega) (saQ rfl) (pfQ rfl)
 refine ntQ (fcQ rfl ?_)
 refine zaz (zdr ?_)
 refine zaf (zax (zac (reQ 1 rfl (hvQ rfl (lnQ rfl rfl rfl (zaa hcv)) ?_))))
 refine zdu rfl (zei (z := .bool false) (s := 1) (bytes := 1) (n := (List.replicate pc.length bl0).length) (cs := ((List.replicate pc.length bl0).flatMap blC)) rfl Try.underlying80 rfl (by decide) rfl rfl (by first | (rw [List.length_replicate]; done) | (rw [List.length_replicate]; omega)) (by first | (rw [List.length_replicate]; done) | (rw [List.length_replicate]; omega)) (by rw [List.length_replicate]; omega) (zey blC 1 (fun _ => rfl) bl0 _ rfl pc.length)) ?_
 intro g8
 refine zbb 1 rfl (zac (zac (reQ 1 rfl (hvQ rfl (lnQ rfl rfl rfl (zaa hlv)) (zbb 1 rfl (zaw ?_))))))
 refine lkQ3 (α := Nat) (β := List Int) (γ := List Bl) [0, 1, 2, 3, 4, 5, 6, 12, 13, 14, 16, 30, 31, 32, 41, 42] rfl (fun i ys bs => [rowE 4 1 (.slice (some ⟨g8, 0, none⟩) ((List.replicate pc.length bl0).length) ((List.replicate pc.length bl0).length)) bs.length (bs.flatMap blC), rowE 3 1 (.slice (some ⟨g5, 0, none⟩) ((List.replicate pc.length (0 : Int)).length) ((List.replicate pc.length (0 : Int)).length)) ys.length (ys.map (Value.int .i64)), intoE v2 rs, boxE b1 #[.int .i64 n, v] 53]) (fun i ys bs => [(43, .int .i64 (i : Int))]) (fun i ys bs => i ≤ pl.length ∧ (ys.length = pc.length ∧ bs.length = pc.length) ∧ ∀ r, r < pc.length → Held (ys.getD r 0) (bs.getD r bl0).b (best gs pl pc pe lg F r i)) (fun i ys bs => pl.length - i) 0 zs _ ⟨by omega, ⟨hzl, List.length_replicate⟩, fun r hr => ⟨by rw [List.getD_eq_getElem?_getD, List.getElem?_replicate]; rw [if_pos hr]; rfl, by rw [hz r (by omega)]; rfl⟩⟩ (saQ rfl) (pfQ rfl) ?_
 intro i ys bs hi9
 obtain ⟨hi, ⟨hyl, hbl⟩, hh⟩ := hi9
 refine srQ ?_
 refine zbh rfl rfl rfl rfl rfl rfl (fun h10 => ?_) (fun h10 => ?_)
 ·
  refine ntQ (tcQ rfl (zcp (sbQ (zac (reQ 1 rfl ?_)))))
  have hli := hpl i (by omega)
  refine hvQ rfl (riQ 2 rfl rfl rfl rfl (zaa hlv)) (hvQ rfl (zcl (us := [.int .i64 ((pl.getD i pnt0).n), .int .i64 ((pl.getD i pnt0).s)]) rfl rfl rfl rfl (zaa hlv) (by omega) rfl (zde pntC 2 (fun _ => rfl) pl pnt0 (show i < _ by omega) rfl)) ?_)
  refine zdt rfl (zbm (z := .agg #[.int .i64 0, .int .i64 0]) rfl rfl) ?_
  intro b11
  refine zan 1 rfl (zbr (cs' := #[.int .i64 ((pl.getD i pnt0).n), .int .i64 ((pl.getD i pnt0).s)]) (i := 0) (off := 0) (us := [.int .i64 ((pl.getD i pnt0).n), .int .i64 ((pl.getD i pnt0).s)]) rfl rfl rfl rfl rfl rfl rfl (zae rfl (zae rfl zbj)) rfl rfl rfl ?_)
  refine ntQ (zac (reQ 1 rfl (hvQ rfl (fdQ 0 rfl rfl rfl) (hvQ rfl (zag rfl rfl rfl (zad 0 rfl rfl)) (zan 1 rfl ?_)))))
  refine hl_q rfl rfl rfl (zal rfl rfl (fun w hm => delaysFrom_ret n gs rs v2 ((pl.getD i pnt0).n) lg w hg (into_rds (v := v2) (rs := rs) 3 rfl w hm) hri)) ?_
  intro v12 p13 hR14
  subst hR14
  refine zbb 1 rfl (zac (reQ 1 rfl (hvQ rfl (lnQ rfl rfl rfl (zaa hcv)) (zbb 1 rfl (zaw ?_)))))
  refine lkQ3 (α := Nat) (β := List Int) (γ := List Bl) [0, 1, 2, 3, 4, 5, 6, 12, 13, 14, 16, 17, 18, 19, 30, 31, 32, 41, 42, 43, 44, 53, 54] rfl (fun m us ss => [rowE 3 1 v12 ((delL lg gs ((pl.getD i pnt0).n) rs.length).length) ((delL lg gs ((pl.getD i pnt0).n) rs.length).map (Value.int .i64)), boxE b11 #[.int .i64 ((pl.getD i pnt0).n), .int .i64 ((pl.getD i pnt0).s)] 89, rowE 4 1 (.slice (some ⟨g8, 0, none⟩) ((List.replicate pc.length bl0).length) ((List.replicate pc.length bl0).length)) ss.length (ss.flatMap blC), rowE 3 1 (.slice (some ⟨g5, 0, none⟩) ((List.replicate pc.length (0 : Int)).length) ((List.replicate pc.length (0 : Int)).length)) us.length (us.map (Value.int .i64)), intoE v2 rs, boxE b1 #[.int .i64 n, v] 53]) (fun m us ss => [(55, .int .i64 (m : Int))]) (fun m us ss => m ≤ pc.length ∧ us.length = pc.length ∧ ss.length = pc.length ∧ ∀ r, r < pc.length → Held (us.getD r 0) (ss.getD r bl0).b (best gs pl pc pe lg F r (if r < m then i + 1 else i))) (fun m us ss => pc.length - m) 0 ys bs ⟨by omega, hyl, hbl, fun r hr => by rw [if_neg (by omega)]; exact hh r hr⟩ (saQ rfl) (pfQ rfl) ?_
  intro m us ss hi15
  obtain ⟨hm, hul, hsl, hk⟩ := hi15
  refine srQ ?_
  refine zbh rfl rfl rfl rfl rfl rfl (fun h16 => ?_) (fun h16 => ?_)
  ·
   refine ntQ (tcQ rfl (zcp (sbQ (zac (reQ 1 rfl (hvQ rfl (riQ 2 rfl rfl rfl rfl (zaa hcv)) ?_))))))
   refine hvQ rfl (zcl (us := [.int .i64 ((pc.getD m pnt0).n), .int .i64 ((pc.getD m pnt0).s)]) rfl rfl rfl rfl (zaa hcv) (by omega) rfl (zde pntC 2 (fun _ => rfl) pc pnt0 (show m < _ by omega) rfl)) (zdt rfl (zbm (z := .agg #[.int .i64 0, .int .i64 0]) rfl rfl) ?_)
   intro b17
   refine zan 1 rfl (zbr (cs' := #[.int .i64 ((pc.getD m pnt0).n), .int .i64 ((pc.getD m pnt0).s)]) (i := 0) (off := 0) (us := [.int .i64 ((pc.getD m pnt0).n), .int .i64 ((pc.getD m pnt0).s)]) rfl rfl rfl rfl rfl rfl rfl (zae rfl (zae rfl zbj)) rfl rfl rfl ?_)
   refine ntQ (zac (reQ 3 rfl ?_))
   refine zdn rfl (zal rfl rfl (fun w hm => zas (cyclesOf_ans pe ev_ _ _ w hel (hev.below hm.bel)))) (zbb 1 rfl (zfl ?_))
   have hcj := hpc m (by omega)
   have hdl : (delL lg gs (pl.getD i pnt0).n rs.length).length = rs.length := del_len _ _ _ _
   have hdat : (delL lg gs (pl.getD i pnt0).n rs.length).getD ((pc.getD m pnt0).n).toNat 0 = Dl lg gs (pl.getD i pnt0).n ((pc.getD m pnt0).n).toNat := del_at _ _ _ _ _ (by omega)
   have hdb := Dl_bnd hg lg (pl.getD i pnt0).n ((pc.getD m pnt0).n).toNat
   have hcy := cyc_rng hpe (i : Int) (m : Int)
   have hm0 := hk m (by omega)
   rw [if_neg (by omega)] at hm0
   have hval : F (pl.getD i pnt0) (pc.getD m pnt0) ((delL lg gs (pl.getD i pnt0).n rs.length).getD ((pc.getD m pnt0).n).toNat 0) (cyc pe i m) = F (pl.getD i pnt0) (pc.getD m pnt0) (Dl lg gs (pl.getD i pnt0).n ((pc.getD m pnt0).n).toNat) (cyc pe i m) := by rw [hdat]
   refine zan 1 rfl (hvQ rfl (fdQ 0 rfl rfl rfl) (hvQ rfl (zag rfl rfl rfl (zad 0 rfl rfl)) (hvQ rfl (riQ 1 rfl rfl rfl rfl (zah 1 rfl)) (hvQ rfl (zat (u := .int .i64 ((delL lg gs ((pl.getD i pnt0).n) rs.length).getD (((pc.getD m pnt0).n).toNat) 0)) rfl rfl rfl (zah 1 rfl) (zdi (show _ < (delL lg gs ((pl.getD i pnt0).n) rs.length).length by omega))) ?_))))
   refine zbh rfl rfl rfl rfl rfl rfl (fun h18 => ?_) (fun h18 => ?_)
   ·
    refine zbb 4 rfl (zao rfl ?_)
    refine zaz (zeg ?_)
    refine zaf (zax (zay (hvQ rfl (vaQ rfl rfl rfl) (enQ 1 rfl ?_))))
    exact zbi (m + 1) us ss ⟨by omega, by (try simp only [List.length_set]); exact hul, by (try simp only [List.length_set]); exact hsl, fun r hr => by
          by_cases hrm : r = m
          · subst hrm
            rw [if_pos (by omega)]
            rw [best_skip (by first | exact .inl (by omega) | exact .inr (by omega))]; exact hm0
          · have h7 := hk r hr
            skip
            by_cases hlt : r < m
            · rw [if_pos (by omega)]; rwa [if_pos hlt] at h7
            · rw [if_neg (by omega)]; rwa [if_neg hlt] at h7⟩ (by omega) (saQ rfl) ((.cons _ (.cons_cons _ (.cons_cons _ (.cons_cons _ (.cons_cons _ (.cons_cons _ (.cons_cons _ .slnil))))))))
   refine zan 2 rfl (zcu rfl rfl rfl rfl rfl rfl (fun h19 => ?_) (fun h19 => ?_))
   ·
    refine zbb 1 rfl (zao rfl ?_)
    refine zaz (zeg ?_)
    refine zaf (zax (zay (hvQ rfl (vaQ rfl rfl rfl) (enQ 1 rfl ?_))))
    exact zbi (m + 1) us ss ⟨by omega, by (try simp only [List.length_set]); exact hul, by (try simp only [List.length_set]); exact hsl, fun r hr => by
          by_cases hrm : r = m
          · subst hrm
            rw [if_pos (by omega)]
            rw [best_skip (by first | exact .inl (by omega) | exact .inr (by omega))]; exact hm0
          · have h7 := hk r hr
            skip
            by_cases hlt : r < m
            · rw [if_pos (by omega)]; rwa [if_pos hlt] at h7
            · rw [if_neg (by omega)]; rwa [if_neg hlt] at h7⟩ (by omega) (saQ rfl) ((.cons _ (.cons_cons _ (.cons_cons _ (.cons_cons _ (.cons_cons _ (.cons_cons _ (.cons_cons _ .slnil))))))))
   refine zbb 1 rfl (zaq rfl (zcp (zac ?_)))
   refine zbk 10 [[], [], [], [], [], [4], [3, 5], [6], [], [0, 1, 2, 7, 8]] [74, 75, 76, 77, 78, 79, 80, 81, 82, 83] [.func (.func f) #[] cs.toArray, .agg #[.int .i64 ((pl.getD i pnt0).n), .int .i64 ((pl.getD i pnt0).s)], .agg #[.int .i64 ((pc.getD m pnt0).n), .int .i64 ((pc.getD m pnt0).s)], v12, .pointer (some ⟨b17, 0 + 0, none⟩), .int .i64 ((pc.getD m pnt0).n), elP v12 (((pc.getD m pnt0).n).toNat * 1), .int .i64 ((delL lg gs ((pl.getD i pnt0).n) rs.length).getD (((pc.getD m pnt0).n).toNat) 0), .int .i64 (cyc pe (i : Int) (m : Int)), .int .i64 (F (pl.getD i pnt0) (pc.getD m pnt0) ((delL lg gs ((pl.getD i pnt0).n) rs.length).getD (((pc.getD m pnt0).n).toNat) 0) (cyc pe (i : Int) (m : Int)))] (by kernel_rfl) rfl ?_ ?_
   ·
    exact ⟨iaQ rfl (zaj rfl) rfl, iaQ rfl (zar (cs := [.int .i64 ((pl.getD i pnt0).n), .int .i64 ((pl.getD i pnt0).s)]) rfl rfl rfl rfl rfl (zam 2 rfl 0 rfl)) rfl, iaQ rfl (zar (cs := [.int .i64 ((pc.getD m pnt0).n), .int .i64 ((pc.getD m pnt0).s)]) rfl rfl rfl rfl rfl (zam 0 rfl 0 rfl)) rfl, iaQ rfl (zaj rfl) rfl, iaQ rfl (fdQ 0 rfl rfl rfl) rfl, iaQ rfl (zag rfl rfl rfl (zad 0 rfl rfl)) rfl, iaQ rfl (riQ 1 rfl rfl rfl rfl (zah 1 rfl)) rfl, iaQ rfl (zat (u := .int .i64 ((delL lg gs ((pl.getD i pnt0).n) rs.length).getD (((pc.getD m pnt0).n).toNat) 0)) rfl rfl rfl (zah 1 rfl) (zdi (show _ < (delL lg gs ((pl.getD i pnt0).n) rs.length).length by omega))) rfl, iaQ rfl (zaj rfl) rfl, .inl ⟨rfl, rq_callF hgo rfl rfl (fun w hm => zas (hF w hm.bel (pl.getD i pnt0) (pc.getD m pnt0) _ _ (by omega) (by omega) (by omega) (by omega)))⟩, trivial⟩
   simp only [List.drop_succ_cons, List.drop_zero]
   refine zbb 1 rfl (zac (zac (reQ 2 rfl (hvQ rfl (riQ 1 rfl rfl rfl rfl (zah 3 rfl)) ?_))))
   refine hvQ rfl (zat (u := .bool ((ss.getD m bl0).b)) rfl rfl rfl (zah 3 rfl) (zbn blC (fun r => .bool r.b) (fun _ => rfl) ss bl0 (show m < _ by omega))) (zbl (fun h20 => ?_) (fun h20 => ?_))
   ·
    refine zan 5 rfl (hvQ rfl (riQ 1 rfl rfl rfl rfl (zah 4 rfl)) (hvQ rfl (liQ rfl rfl rfl (zah 4 rfl)) ?_))
    refine zbh rfl rfl rfl rfl rfl rfl (fun h21 => ?_) (fun h21 => ?_)
    ·
     refine zbb 1 rfl (zao rfl (reQ 3 rfl (hvQ rfl (riQ 1 rfl rfl rfl rfl (zah 4 rfl)) ?_)))
     refine zcw (i := 4) (n' := (us.set m (F (pl.getD i pnt0) (pc.getD m pnt0) ((delL lg gs ((pl.getD i pnt0).n) rs.length).getD (((pc.getD m pnt0).n).toNat) 0) (cyc pe (i : Int) (m : Int)))).length) (xs' := ((us.set m (F (pl.getD i pnt0) (pc.getD m pnt0) ((delL lg gs ((pl.getD i pnt0).n) rs.length).getD (((pc.getD m pnt0).n).toNat) 0) (cyc pe (i : Int) (m : Int)))).map (Value.int .i64))) rfl rfl rfl rfl rfl rfl rfl rfl (by first | omega | (simp only [List.length_set]; omega)) List.length_set.symm (zdb _ _ _) rfl (ntQ (reQ 2 rfl (hvQ rfl (riQ 1 rfl rfl rfl rfl (zah 3 rfl)) ?_)))
     refine zcw (i := 3) (n' := (ss.set m { ss.getD m bl0 with b := true }).length) rfl rfl rfl rfl rfl rfl rfl rfl (by first | omega | (simp only [List.length_set]; omega)) List.length_set.symm (zdf blC (fun r => .bool r.b) (fun _ => rfl) _ ({ ss.getD m bl0 with b := true }) rfl) rfl (zcb (zcv (zay (hvQ rfl (vaQ rfl rfl rfl) (enQ 1 rfl ?_)))))
     exact zbi (m + 1) (us.set m (F (pl.getD i pnt0) (pc.getD m pnt0) ((delL lg gs ((pl.getD i pnt0).n) rs.length).getD (((pc.getD m pnt0).n).toNat) 0) (cyc pe (i : Int) (m : Int)))) (ss.set m { ss.getD m bl0 with b := true }) ⟨by omega, by (try simp only [List.length_set]); exact hul, by (try simp only [List.length_set]); exact hsl, fun r hr => by
           by_cases hrm : r = m
           · subst hrm
             rw [if_pos (by omega)]
             first | exact held_set (by rw [zcg (by omega)]) (by rw [zcg (by omega)]) (best_new (by omega) (by omega)) hm0 hval (.inl (by assumption)) | exact held_set (by rw [zcg (by omega)]) (by rw [zcg (by omega)]) (best_new (by omega) (by omega)) hm0 hval (.inr (by omega))
           · have h7 := hk r hr
             rw [zel (fun e => hrm e.symm), zel (fun e => hrm e.symm)]
             by_cases hlt : r < m
             · rw [if_pos (by omega)]; rwa [if_pos hlt] at h7
             · rw [if_neg (by omega)]; rwa [if_neg hlt] at h7⟩ (by omega) (saQ rfl) ((.cons _ (.cons_cons _ (.cons_cons _ (.cons_cons _ (.cons_cons _ (.cons_cons _ (.cons_cons _ .slnil))))))))
    refine zbb 1 rfl (zaq rfl (zcp (reQ 2 rfl (hvQ rfl (riQ 1 rfl rfl rfl rfl (zah 3 rfl)) ?_))))
    refine zcw (i := 3) (n' := (ss.set m { ss.getD m bl0 with b := true }).length) rfl rfl rfl rfl rfl rfl rfl rfl (by first | omega | (simp only [List.length_set]; omega)) List.length_set.symm (zdf blC (fun r => .bool r.b) (fun _ => rfl) _ ({ ss.getD m bl0 with b := true }) rfl) rfl (zcb (zcv (zay (hvQ rfl (vaQ rfl rfl rfl) (enQ 1 rfl ?_)))))
    exact zbi (m + 1) us (ss.set m { ss.getD m bl0 with b := true }) ⟨by omega, by (try simp only [List.length_set]); exact hul, by (try simp only [List.length_set]); exact hsl, fun r hr => by
          by_cases hrm : r = m
          · subst hrm
            rw [if_pos (by omega)]
            exact held_keep hm0 (by rw [zcg (by omega)]) (by omega) hval (best_new (by omega) (by omega)) (by assumption) (by omega)
          · have h7 := hk r hr
            rw [zel (fun e => hrm e.symm)]
            by_cases hlt : r < m
            · rw [if_pos (by omega)]; rwa [if_pos hlt] at h7
            · rw [if_neg (by omega)]; rwa [if_neg hlt] at h7⟩ (by omega) (saQ rfl) ((.cons _ (.cons_cons _ (.cons_cons _ (.cons_cons _ (.cons_cons _ (.cons_cons _ (.cons_cons _ .slnil))))))))
   refine zbb 9 rfl (zao rfl (reQ 3 rfl (hvQ rfl (riQ 1 rfl rfl rfl rfl (zah 4 rfl)) ?_)))
   refine zcw (i := 4) (n' := (us.set m (F (pl.getD i pnt0) (pc.getD m pnt0) ((delL lg gs ((pl.getD i pnt0).n) rs.length).getD (((pc.getD m pnt0).n).toNat) 0) (cyc pe (i : Int) (m : Int)))).length) (xs' := ((us.set m (F (pl.getD i pnt0) (pc.getD m pnt0) ((delL lg gs ((pl.getD i pnt0).n) rs.length).getD (((pc.getD m pnt0).n).toNat) 0) (cyc pe (i : Int) (m : Int)))).map (Value.int .i64))) rfl rfl rfl rfl rfl rfl rfl rfl (by first | omega | (simp only [List.length_set]; omega)) List.length_set.symm (zdb _ _ _) rfl (ntQ (reQ 2 rfl (hvQ rfl (riQ 1 rfl rfl rfl rfl (zah 3 rfl)) ?_)))
   refine zcw (i := 3) (n' := (ss.set m { ss.getD m bl0 with b := true }).length) rfl rfl rfl rfl rfl rfl rfl rfl (by first | omega | (simp only [List.length_set]; omega)) List.length_set.symm (zdf blC (fun r => .bool r.b) (fun _ => rfl) _ ({ ss.getD m bl0 with b := true }) rfl) rfl (zcb (zcv (zay (hvQ rfl (vaQ rfl rfl rfl) (enQ 1 rfl ?_)))))
   exact zbi (m + 1) (us.set m (F (pl.getD i pnt0) (pc.getD m pnt0) ((delL lg gs ((pl.getD i pnt0).n) rs.length).getD (((pc.getD m pnt0).n).toNat) 0) (cyc pe (i : Int) (m : Int)))) (ss.set m { ss.getD m bl0 with b := true }) ⟨by omega, by (try simp only [List.length_set]); exact hul, by (try simp only [List.length_set]); exact hsl, fun r hr => by
         by_cases hrm : r = m
         · subst hrm
           rw [if_pos (by omega)]
           first | exact held_set (by rw [zcg (by omega)]) (by rw [zcg (by omega)]) (best_new (by omega) (by omega)) hm0 hval (.inl (by assumption)) | exact held_set (by rw [zcg (by omega)]) (by rw [zcg (by omega)]) (best_new (by omega) (by omega)) hm0 hval (.inr (by omega))
         · have h7 := hk r hr
           rw [zel (fun e => hrm e.symm), zel (fun e => hrm e.symm)]
           by_cases hlt : r < m
           · rw [if_pos (by omega)]; rwa [if_pos hlt] at h7
           · rw [if_neg (by omega)]; rwa [if_neg hlt] at h7⟩ (by omega) (saQ rfl) ((.cons _ (.cons_cons _ (.cons_cons _ (.cons_cons _ (.cons_cons _ (.cons_cons _ (.cons_cons _ .slnil))))))))
  refine ntQ (fcQ rfl ?_)
  refine zaz (zdr ?_)
  refine zaf (zcv (zay (hvQ rfl (vaQ rfl rfl rfl) (enQ 1 rfl ?_))))
  exact zbi (i + 1) us ss ⟨by omega, ⟨hul, hsl⟩, fun r hr => by have := hk r hr; rwa [if_pos (by omega)] at this⟩ (by omega) (saQ rfl) (slQ [2, 0, 0, 0] rfl)
 refine ntQ (fcQ rfl ?_)
 refine zaz (zdr ?_)
 refine zaf (zax (zbc 2 rfl ?_))
 refine zav ?_
 have hin : i = pl.length := by omega
 exact zdc (post := [rowE 3 1 (.slice (some ⟨g5, 0, none⟩) ((List.replicate pc.length (0 : Int)).length) ((List.replicate pc.length (0 : Int)).length)) ys.length (ys.map (Value.int .i64))]) rfl rfl (slQ [1] rfl) ⟨ys, rfl, hyl, fun r hr => by have := hh r hr; rw [hin] at this; exact ⟨_, this⟩⟩
open Go.RowKit
def Fset (p : Int) (L C : Pnt) (x y : Int) : Int := y * p + C.s - L.s - x
theorem mul_rng {y p : Int} (hy : 1 ≤ y ∧ y ≤ 8) (hp : 1 ≤ p ∧ p ≤ 1000) : 0 ≤ y * p ∧ y * p ≤ 8000 := ⟨Int.mul_nonneg (by omega) (by omega), Int.mul_le_mul hy.2 hp.2 (by omega) (by omega)⟩
theorem setup1_ans (b : Nat) (per : Int) (L C : Pnt) (x y : Int) (w : World) (hlt : b < w.heap.size) (hcell : w.cell? ⟨b, 0, none⟩ = some (.int .i64 per)) (hper : 1 ≤ per ∧ per ≤ 1000) (hL : 0 ≤ L.s ∧ L.s ≤ 50) (hC : 0 ≤ C.s ∧ C.s ≤ 50) (hx : 0 ≤ x ∧ x ≤ 50000) (hy : 1 ≤ y ∧ y ≤ 8) :
   Calls Try.prog 53 #[.agg #[.int .i64 L.n, .int .i64 L.s], .agg #[.int .i64 C.n, .int .i64 C.s], .int .i64 x, .int .i64 y, .pointer (some ⟨b, 0, none⟩)] w (Ans w (.int .i64 (Fset per L C x y))) := by
 have hmr := mul_rng hy hper
 refine zbf (N := 21) (args := [.agg #[.int .i64 L.n, .int .i64 L.s], .agg #[.int .i64 C.n, .int .i64 C.s], .int .i64 x, .int .i64 y, .pointer (some ⟨b, 0, none⟩)]) Try.func53 rfl rfl (srQ ?_)
 refine zdt rfl (zct rfl rfl) ?_
 intro b1
 refine zdt rfl (zct rfl rfl) ?_
 intro b2
 refine zbb 1 rfl (zac (reQ 1 rfl ?_))
 refine hvQ rfl (zag rfl rfl rfl (fun w hm => (hm.bel.cell (p := ⟨b, 0, none⟩) hlt).trans hcell)) (hvQ rfl (zfe rfl rfl rfl (by constructor <;> omega)) (hvQ rfl (fdQ 1 rfl rfl rfl) (hvQ rfl (zag rfl rfl rfl (zad 0 rfl rfl)) (hvQ rfl (vaQ rfl rfl rfl) (hvQ rfl (fdQ 1 rfl rfl rfl) (hvQ rfl (zag rfl rfl rfl (zad 1 rfl rfl)) (hvQ rfl (vsQ rfl rfl rfl) (zan 1 rfl (hvQ rfl (vsQ rfl rfl rfl) (zbb 1 rfl ?_))))))))))
 exact zav (zbg rfl rfl rfl)
theorem SetupSlacks_ret (n : Int) (gs : List Arc) (v : Value) (pl pc : List Pnt) (pe : List Exc) (lv cv ev_ : Value) (per : Int) (w : World) (hg : GOk n gs) (hv : RdsW w v 3 gs.length (gs.flatMap arcC)) (hpl : PtsOk n pl) (hll : pl.length ≤ 100) (hlv : RdsW w lv 2 pl.length (pl.flatMap pntC)) (hpc : PtsOk n pc) (hcl : pc.length ≤ 100) (hcv : RdsW w cv 2 pc.length (pc.flatMap pntC)) (hpe : ExsOk pe) (hel : pe.length ≤ 50) (hev : RdsW w ev_ 3 pe.length (pe.flatMap excC)) (hper : 1 ≤ per ∧ per ≤ 1000) :
   Calls Try.prog 23 #[.agg #[.int .i64 n, v], lv, cv, ev_, .int .i64 per] w (Ret w (fun v' post => ∃ ys : List Int, post = [rowE 3 1 v' ys.length (ys.map (Value.int .i64))] ∧ ys.length = pc.length ∧ ∀ r, r < pc.length → ∃ s, Held (ys.getD r 0) s (best gs pl pc pe true (Fset per) r pl.length))) := by
 obtain ⟨hn0, hn1, hgl, -⟩ := id hg
 refine zbf (N := 37) (args := [.agg #[.int .i64 n, v], lv, cv, ev_, .int .i64 per]) Try.func23 rfl rfl (srQ ?_)
 refine zdt rfl (zct rfl rfl) ?_
 intro b1
 refine zdt rfl (zct rfl rfl) ?_
 intro b2
 refine zbb 1 rfl (zfl (hvQ rfl (zar (cs := [.int .i64 n, v]) rfl rfl rfl rfl rfl (zam 1 rfl 0 rfl)) (zan 1 rfl ?_)))
 refine zdn rfl (zal rfl rfl (fun w hm => zas (PointsOk_yes n gs v pl lv w hg (hv.below hm.bel) hpl hll (hlv.below hm.bel)))) (zan 2 rfl (hvQ rfl (zar (cs := [.int .i64 n, v]) rfl rfl rfl rfl rfl (zam 1 rfl 0 rfl)) (zan 1 rfl ?_)))
 refine zdn rfl (zal rfl rfl (fun w hm => zas (PointsOk_yes n gs v pc cv w hg (hv.below hm.bel) hpc hcl (hcv.below hm.bel)))) (zan 4 rfl ?_)
 refine zdn rfl (zal rfl rfl (fun w hm => zas (exceptionsOk_yes pe ev_ w hpe hel (hev.below hm.bel)))) (zan 3 rfl (hvQ rfl (zag rfl rfl rfl (zad 0 rfl rfl)) ?_))
 refine zdn rfl (zal rfl rfl (fun w hm => zas (zgd (by omega) (by omega) w))) (zbb 2 rfl (zaq rfl (zcp (srQ (hvQ rfl (zar (cs := [.int .i64 n, v]) rfl rfl rfl rfl rfl (zam 1 rfl 0 rfl)) (zan 3 rfl (hvQ rfl (rv_makeFunc (us := []) (vs := [.pointer (some ⟨b2, 0, none⟩)]) rfl rfl rfl) ?_)))))))
 refine hl_q rfl rfl rfl (zal (by kernel_rfl) rfl (fun w hm => by
         have hc : w.cell? ⟨b2, 0, none⟩ = some (.int .i64 per) := zad (l := [boxE b2 #[.int .i64 per] 3, boxE b1 #[.int .i64 n, v] 53]) (o := 0) 0 rfl rfl w hm
         exact slacks_ret n gs v pl pc pe lv cv ev_ true 53 [.pointer (some ⟨b2, 0, none⟩)] (Fset per) w hg (hv.below hm.bel) hpl hll (hlv.below hm.bel) hpc hcl (hcv.below hm.bel) hpe hel (hev.below hm.bel) (by kernel_rfl) (fun w' hb L C x y h1 h2 h3 h4 => setup1_ans b2 per L C x y w' (Nat.lt_of_lt_of_le (World.block_lt_of_cell? _ _ hc) hb.size) ((hb.cell (p := ⟨b2, 0, none⟩) (World.block_lt_of_cell? _ _ hc)).trans hc) hper h1 h2 h3 h4))) ?_
 intro v3 p4 hR5
 obtain ⟨ys, rfl, hyl, hys⟩ := hR5
 refine zbb 1 rfl ?_
 exact zav (zdc (post := [rowE 3 1 v3 ys.length (ys.map (Value.int .i64))]) rfl rfl (slQ [0] rfl) ⟨ys, rfl, hyl, hys⟩)
def pnO (p : Pt) : Pnt := ⟨p.n, p.s⟩
theorem pn_flat (ps : List Pt) : ps.flatMap ptC = (ps.map pnO).flatMap pntC := by rw [List.flatMap_map]; rfl
theorem pn_getD (ps : List Pt) (i : Nat) : (ps.map pnO).getD i pnt0 = pnO (ps.getD i pt0) := by
  simp only [List.getD_eq_getElem?_getD, List.getElem?_map]
  cases ps[i]? <;> rfl
theorem arcS_in (x : Td) {i j : Nat} (hj : j < (x.n.ss.getD i sq0).xs.length) : ∀ m, i < m → (⟨(x.n.ss.getD i sq0).xs.getD j 0, x.n.cnt + nS x i + j, (x.ds.getD i ir0).xs.getD j 0⟩ : Arc) ∈ arcS x m
  | 0, h => absurd h (by omega)
  | m + 1, h => by
    unfold arcS
    refine List.mem_append.2 ?_
    by_cases e : i = m
    · subst e; exact .inr (List.mem_map.2 ⟨j, List.mem_range.2 hj, rfl⟩)
    · exact .inl (arcS_in x hj m (by omega))
theorem nS_lt (x : Td) {i : Nat} : ∀ m, i < m → nS x i + (x.n.ss.getD i sq0).xs.length ≤ nS x m
  | 0, h => absurd h (by omega)
  | m + 1, h => by
    show _ ≤ nS x m + (x.n.ss.getD m sq0).xs.length
    by_cases e : i = m
    · subst e; exact Nat.le_refl _
    · have := nS_lt x m (show i < m by omega); omega
theorem cat_at {α : Type} (x : Td) (C : Nat → List α) (g : Nat → Nat → α) (d : α) (hs : ∀ m, C (m + 1) = C m ++ (List.range (x.n.ss.getD m sq0).xs.length).map (g m)) (hl : ∀ m, (C m).length = nS x m) {i j : Nat} (hj : j < (x.n.ss.getD i sq0).xs.length) : ∀ m, i < m → (C m).getD (nS x i + j) d = g i j
  | 0, h => absurd h (by omega)
  | m + 1, h => by
    rw [hs]
    by_cases e : i = m
    · subst e
      rw [zdk (by rw [hl]; omega), hl, show nS x i + j - nS x i = j by omega]
      rw [List.getD_eq_getElem?_getD, List.getElem?_map, List.getElem?_range hj]; rfl
    · have := nS_lt x m (show i < m by omega)
      rw [zdl (by rw [hl]; omega)]; exact cat_at x C g d hs hl hj m (by omega)
theorem smp_len (x : Td) (ws : List (List Int)) (e : Int) : ∀ m, (smpL x ws e m).length = nS x m
  | 0 => rfl
  | m + 1 => by unfold smpL nS; rw [List.length_append, smp_len x ws e m]; simp [smpI]
theorem smp_at (x : Td) (ws : List (List Int)) (e : Int) {i j m : Nat} (hj : j < (x.n.ss.getD i sq0).xs.length) (h : i < m) : (smpL x ws e m).getD (nS x i + j) 0 = smpV x ws e i j :=
  cat_at x (smpL x ws e) (smpV x ws e) 0 (fun m => rfl) (smp_len x ws e) hj m h
theorem cap_at (x : Td) {i j m : Nat} (hj : j < (x.n.ss.getD i sq0).xs.length) (h : i < m) : (capL x m).getD (nS x i + j) pt0 = ⟨x.n.cnt + nS x i + j, x.ks.getD i 0⟩ :=
  cat_at x (capL x) (fun m j => ⟨x.n.cnt + nS x m + j, x.ks.getD m 0⟩) pt0 (fun m => rfl) (cap_len x) hj m h
theorem best_low {gs : List Arc} {ls cs : List Pnt} {lg : Bool} {F : Pnt → Pnt → Int → Int → Int} {j : Nat} : ∀ i q, q < i → 0 ≤ Dl lg gs (ls.getD q pnt0).n ((cs.getD j pnt0).n).toNat →
    ∃ v, best gs ls cs [] lg F j i = some v ∧ v ≤ F (ls.getD q pnt0) (cs.getD j pnt0) (Dl lg gs (ls.getD q pnt0).n ((cs.getD j pnt0).n).toNat) 1
  | 0, q, h, _ => absurd h (by omega)
  | i + 1, q, h, h0 => by
    by_cases hi : Dl lg gs (ls.getD i pnt0).n ((cs.getD j pnt0).n).toNat < 0
    · rw [best_skip (.inl hi)]
      refine best_low i q ?_ h0
      by_cases e : q = i
      · subst e; omega
      · omega
    · rw [best_new hi (by show (1 : Int) ≠ 0; decide), show cyc [] (i : Int) (j : Int) = 1 from rfl]
      by_cases e : q = i
      · subst e
        cases best gs ls cs [] lg F j q with
        | none => exact ⟨_, rfl, Int.le_refl _⟩
        | some y =>
          dsimp only
          split
          · exact ⟨_, rfl, Int.le_refl _⟩
          · exact ⟨_, rfl, by omega⟩
      · obtain ⟨v, hv, hle⟩ := best_low i q (by omega) h0
        rw [hv]
        dsimp only
        split
        · exact ⟨_, rfl, by omega⟩
        · exact ⟨_, rfl, hle⟩
theorem slack_low {x : Td} {gs : List Arc} {lg : Bool} {F : Pnt → Pnt → Int → Int → Int} {s k : Nat} (hs : s < x.n.ss.length) (hk : k < (x.n.ss.getD s sq0).xs.length) {v : Int} {b : Bool} (hh : Held v b (best gs ((psX x).map pnO) ((capL x x.n.ss.length).map pnO) [] lg F (nS x s + k) ((psX x).map pnO).length)) {p : Pt} (hp : p ∈ psX x)
    (h0 : 0 ≤ Dl lg gs p.n (x.n.cnt + nS x s + k).toNat) : v ≤ F (pnO p) ⟨x.n.cnt + nS x s + k, x.ks.getD s 0⟩ (Dl lg gs p.n (x.n.cnt + nS x s + k).toNat) 1 := by
  obtain ⟨q, hq, hpq⟩ := List.mem_iff_getElem.1 hp
  have e1 : ((psX x).map pnO).getD q pnt0 = pnO p := by rw [pn_getD, List.getD_eq_getElem?_getD, List.getElem?_eq_getElem hq, hpq]; rfl
  have e2 : ((capL x x.n.ss.length).map pnO).getD (nS x s + k) pnt0 = ⟨x.n.cnt + nS x s + k, x.ks.getD s 0⟩ := by rw [pn_getD, cap_at x hk hs]; rfl
  obtain ⟨-, hv⟩ := hh
  obtain ⟨u, hu, hle⟩ := best_low (gs := gs) (ls := (psX x).map pnO) (cs := (capL x x.n.ss.length).map pnO) (lg := lg) (F := F) (j := nS x s + k) ((psX x).map pnO).length q (by rw [List.length_map]; exact hq) (by rw [e1, e2]; exact h0)
  rw [hu] at hv
  rw [e1, e2] at hle
  rw [hv]; exact hle
theorem seq_in {x : Td} (h : TdOk x) {s k : Nat} (hs : s < x.n.ss.length) (hk : k < (x.n.ss.getD s sq0).xs.length) :
    (0 ≤ (x.n.ss.getD s sq0).xs.getD k 0 ∧ (x.n.ss.getD s sq0).xs.getD k 0 < x.n.cnt) ∧ (0 ≤ (x.ds.getD s ir0).xs.getD k 0 ∧ (x.ds.getD s ir0).xs.getD k 0 ≤ 100) ∧ 0 ≤ x.ks.getD s 0 ∧ x.ks.getD s 0 ≤ 50 ∧
    (⟨(x.n.ss.getD s sq0).xs.getD k 0, x.n.cnt + nS x s + k, (x.ds.getD s ir0).xs.getD k 0⟩ : Arc) ∈ intoL (gsX x) (x.n.cnt + nS x s + k).toNat := by
  have h0 := h.n.sz.i
  have hcn : x.n.cnt = 1 + x.n.ins + x.n.ss.length + x.n.ls.length := rfl
  have h1 := (h.n.sq s hs).2 k hk
  have h2 := (h.ds s hs).2 k (by have := (h.ds s hs).1; omega)
  have h3 := h.k.2 s (by have := h.k.1; omega)
  exact ⟨⟨by omega, by omega⟩, ⟨by omega, by omega⟩, by omega, by omega, into_mem.2 ⟨arcS_in x hk _ hs, by show x.n.cnt + (nS x s : Int) + k = _; omega⟩⟩
theorem smp_ok {x : Td} (h : TdOk x) {e : Int} (he : 0 ≤ e ∧ e ≤ 1000) {s k : Nat} (hs : s < x.n.ss.length) (hk : k < (x.n.ss.getD s sq0).xs.length) : (smpR x e).getD (nS x s + k) 0 = smpV x (wvsL x 1050 x.n.cnt.toNat) e s k := by
  rw [smpR_ok h he (a := 1050) (by omega)]; exact smp_at x _ e hk hs
theorem setup_ok {x : Td} (h : TdOk x) {P : Int} (hP : 1 ≤ P ∧ P ≤ 1000) {s k : Nat} (hs : s < x.n.ss.length) (hk : k < (x.n.ss.getD s sq0).xs.length) {v : Int} {b : Bool}
    (hh : Held v b (best (gsX x) ((psX x).map pnO) ((capL x x.n.ss.length).map pnO) [] true (Fset P) (nS x s + k) ((psX x).map pnO).length)) (hv : 0 ≤ v) : (smpR x P).getD (nS x s + k) 0 = (nvX x).getD ((x.n.ss.getD s sq0).xs.getD k 0).toNat 0 := by
  obtain ⟨⟨b0, b1⟩, ⟨d0, d1⟩, s0, s1, hm⟩ := seq_in h hs hk
  have hcn : x.n.cnt = 1 + x.n.ins + x.n.ss.length + x.n.ls.length := rfl
  have hf : x.n.fst = 1 + x.n.ins + x.n.ss.length := rfl
  rw [smp_ok h (by omega) hs hk]
  have hmax : ∀ p ∈ psX x, 0 ≤ DX x p.n ((x.n.ss.getD s sq0).xs.getD k 0).toNat → p.s + DX x p.n ((x.n.ss.getD s sq0).xs.getD k 0).toNat ≤ P + x.ks.getD s 0 - (x.ds.getD s ir0).xs.getD k 0 := fun p hp hd => by
    have hr := ps_rng h hp
    have h1 : Dl true (gsX x) p.n ((x.n.ss.getD s sq0).xs.getD k 0).toNat + (x.ds.getD s ir0).xs.getD k 0 ≤ Dl true (gsX x) p.n (x.n.cnt + nS x s + k).toNat := (Dl_max (gok_x h) (s := p.n) (k := (x.n.cnt + nS x s + k).toNat) (by omega)).1 _ hm hd
    have hd' : 0 ≤ Dl true (gsX x) p.n ((x.n.ss.getD s sq0).xs.getD k 0).toNat := hd
    have h2 := slack_low hs hk hh hp (by omega)
    have h3 : v ≤ 1 * P + x.ks.getD s 0 - p.s - Dl true (gsX x) p.n (x.n.cnt + nS x s + k).toNat := h2
    show p.s + Dl true (gsX x) p.n ((x.n.ss.getD s sq0).xs.getD k 0).toNat ≤ _
    omega
  generalize hq : ((x.n.ss.getD s sq0).xs.getD k 0).toNat = q at hmax
  have hqc : (q : Int) < x.n.cnt := by omega
  obtain ⟨⟨-, m0, mv⟩, mr⟩ := settle_max h (q + 1) q (by omega) hqc
  obtain ⟨c1, c2⟩ := settle_core h 1050 (q + 1) q (by omega) hqc
  unfold smpV atW
  rw [hq]
  cases hb : (stp x (sL x q).1 (sL x q).2 q).2 with
  | true =>
    obtain ⟨p, hp, hd⟩ := mr.1 hb
    have hr := ps_rng h hp
    have h1 := hmax p hp hd
    rw [if_neg (by omega), zgp x 1050 (by omega) (by omega)]
    refine c1 hb _ (by omega) ?_
    rcases mv with mv | ⟨p', hp', hd', mv⟩
    · omega
    · have := hmax p' hp' hd'; omega
  | false =>
    obtain ⟨e1, e2⟩ := c2 hb
    split
    · exact e1
    · rw [zgp x 1050 (by omega) (by omega)]; exact e2 _ (by omega)
theorem pts_ps {x : Td} (h : TdOk x) : PtsOk (x.n.cnt + nS x x.n.ss.length) ((psX x).map pnO) := fun i hi => by
  rw [List.length_map] at hi
  rw [pn_getD]
  have hm : (psX x).getD i pt0 ∈ psX x := zcj hi
  have hr := ps_rng h hm
  have hcn : x.n.cnt = x.n.fst + x.n.ls.length := rfl
  refine ⟨⟨by show 0 ≤ ((psX x).getD i pt0).n; omega, by show ((psX x).getD i pt0).n < _; omega⟩, hr.2.2, ?_⟩
  show ((psX x).getD i pt0).s ≤ 50
  rcases lau_mem.1 hm with ⟨q, hq, e⟩ | ⟨q, hq, e⟩ <;> rw [e]
  · show (0 : Int) ≤ 50; decide
  · exact (h.k.2 q hq).2
theorem pts_cap {x : Td} (h : TdOk x) : ∀ m, m ≤ x.n.ss.length → ∀ p ∈ capL x m, (0 ≤ p.n ∧ p.n < x.n.cnt + nS x m) ∧ 0 ≤ p.s ∧ p.s ≤ 50
  | 0, _ => fun p hp => by cases hp
  | m + 1, hm => fun p hp => by
    have h0 := h.n.sz.i
    have hcn : x.n.cnt = 1 + x.n.ins + x.n.ss.length + x.n.ls.length := rfl
    unfold capL at hp
    unfold nS
    rcases List.mem_append.1 hp with hp | hp
    · have := pts_cap h m (by omega) p hp; omega
    · obtain ⟨j, hj, rfl⟩ := List.mem_map.1 hp
      have hj' := List.mem_range.1 hj
      have h3 := h.k.2 m (by have := h.k.1; omega)
      exact ⟨⟨by show 0 ≤ x.n.cnt + (nS x m : Int) + j; omega, by show x.n.cnt + (nS x m : Int) + j < _; omega⟩, h3.1, h3.2⟩
theorem pts_cs {x : Td} (h : TdOk x) : PtsOk (x.n.cnt + nS x x.n.ss.length) ((capL x x.n.ss.length).map pnO) := fun i hi => by
  rw [List.length_map] at hi
  rw [pn_getD]
  exact pts_cap h _ (Nat.le_refl _) _ (zcj hi)
theorem exs_nil : ExsOk [] := fun i hi => absurd hi (by simp)
theorem td_reads {x : Td} (h : TdOk x) : capR x = capL x x.n.ss.length ∧ lauR x = psX x ∧ arcR x = gsX x ∧ nodR x = x.n.cnt + nS x x.n.ss.length := by
  unfold capR lauR arcR nodR; rw [if_pos (zef h), if_pos (zef h), if_pos (zef h), if_pos (zef h)]; exact ⟨rfl, rfl, rfl, rfl⟩
theorem smpR_len {x : Td} (h : TdOk x) {e : Int} (he : 0 ≤ e ∧ e ≤ 1000) : (smpR x e).length = nS x x.n.ss.length := by rw [smpR_ok h he (a := 1050) (by omega)]; exact smp_len _ _ _ _
def blkOf (v : Value) : Nat := match v with | .pointer (some ⟨b, _, _⟩) => b | _ => 0
def xr (a : Int) : Int := if a % 2 = 0 then a + 1 else a - 1
theorem xr_ok {a m : Int} (h : LtOk a m) : LtOk (xr a) m := by unfold LtOk xr at *; split <;> omega
def withG (n : Nt) (gs : List An) : Nt := { n with gs := gs }
structure AddOk (n : Nt) (gs gs' : List An) (x : Int) (k : Nat) (f : (Int → Int) → Int) : Prop where
  ext : ∃ t, gs' = gs ++ t ∧ t.length ≤ k
  ok : NtOk (withG n gs')
  lit : LtOk x (n.fst + gs'.length)
  val : ∀ (st : List Int) (inp : Int), st.length = n.ss.length → bitL (valsL (withG n gs') st inp) x = f (bitL (valsL (withG n gs) st inp))
abbrev fAnd (a b : Int) : (Int → Int) → Int := fun ev => ev a * ev b
open Go.RowKit
theorem hq_oneX {N : Nat} {w0 : World} {l : List HP} {env : List (Nat × Value)} {Q : Post} {ex : Exit} {i e s n : Nat} {v : Value} {xs : List Value} (hi : l[i]? = some (rowE e s v n xs)) (k : v.oneCell' = true → HQ N w0 l env ex Q) : HQ N w0 l env ex Q := fun a w st => k (zbp (st.mem.holds _ (zby hi))).one a w st
def AnsOk (f : Int) (gs : List An) : Prop := ∀ k, k < gs.length → LtOk (gs.getD k an0).a (f + k) ∧ LtOk (gs.getD k an0).b (f + k)
theorem ans_app {f : Int} {gs : List An} {a b : Int} (h : AnsOk f gs) (ha : LtOk a (f + gs.length)) (hb : LtOk b (f + gs.length)) : AnsOk f (gs ++ [An.mk a b]) := fun k hk => by
  rw [List.length_append, List.length_singleton] at hk
  by_cases hc : k < gs.length
  · rw [zdl hc]; exact h k hc
  · rw [zdk (by omega), show k - gs.length = 0 by omega, show k = gs.length by omega]; exact ⟨ha, hb⟩
def SqsOk (m : Int) (ss : List Sq) : Prop := ∀ s ∈ ss, SqOk s ∧ ∀ x ∈ s.xs, LtOk x m
theorem sqs_app {m : Int} {ss : List Sq} {s : Sq} (h : SqsOk m ss) (h1 : SqOk s) (h2 : ∀ x ∈ s.xs, LtOk x m) : SqsOk m (ss ++ [s]) := fun r hr => by
  rcases List.mem_append.1 hr with hr | hr
  · exact h r hr
  · rw [List.mem_singleton] at hr; subst hr; exact ⟨h1, h2⟩
def OsOk (m : Int) (os : List Int) : Prop := ∀ x ∈ os, LtOk x m
theorem os_app {m : Int} {os : List Int} {x : Int} (h : OsOk m os) (hx : LtOk x m) : OsOk m (os ++ [x]) := fun r hr => by
  rcases List.mem_append.1 hr with hr | hr
  · exact h r hr
  · rw [List.mem_singleton] at hr; subst hr; exact hx
theorem conv_snocX {w0 : World} {ps l : List HP} {p : HP} : Conv w0 (bigE ps :: p :: l) (bigE (ps ++ [p]) :: l) := fun w hm => by
  have h1 : Mem w0 (ps ++ (p :: l)) w := hm.unbig
  have h2 : Mem w0 ((ps ++ [p]) ++ l) w := by simpa using h1
  exact h2.big
theorem nt_mk {ins m f : Int} {sv av ov : Value} {ss : List Sq} {gs : List An} {os : List Int} (h0 : 0 ≤ ins) (h1 : ins ≤ 20) (h2 : ss.length ≤ 12) (h3 : gs.length ≤ 300) (h4 : os.length ≤ 16) (h5 : SqsOk m ss) (h6 : AnsOk f gs) (h7 : OsOk m os)
    (hf : f = 1 + ins + ss.length) (hm : m = 1 + ins + ss.length + gs.length) : NtOk (Nt.mk ins sv av ov ss gs os) := by
  subst hf hm
  exact ⟨h0, h1, h2, h3, h4, fun s hs => (h5 s hs).1, fun s hs => (h5 s hs).2, h6, h7⟩
theorem l08Sized_mut (g : Nat) (a : Option Addr) (len cap : Nat) (z : List Int) (q1 q2 q3 : Int) (w0 : World) (l : List HP) (w : World) (hm0 : Mem w0 (curE g a len cap :: l) w) (hb : BRow .u8 w0 a len cap z) (hq1 : 1 ≤ q1 ∧ q1 ≤ 6) (hq2 : 0 ≤ q2 ∧ q2 ≤ 4) (hq3 : 0 ≤ q3 ∧ q3 ≤ 30) :
   Calls Try.prog 58 #[.pointer (some ⟨g, 0, none⟩), .int .i64 q1, .int .i64 q2, .int .i64 q3] w (fun e_ w_ => ∃ v_ p_, e_ = .returned v_ ∧ (fun u_ p_ => ∃ n : Nt, u_ = n.agg ∧ p_ = bigE [curE g a len cap, ntE n] ∧ (n.sv.oneCell' = true ∧ n.av.oneCell' = true ∧ n.ov.oneCell' = true) ∧ NtOk n ∧ n.ins ≤ q1 ∧ (n.ss.length : Int) ≤ q2 ∧ (n.gs.length : Int) ≤ q3) v_ p_ ∧ Mem w0 (p_ :: l) w_) := by
 refine zgn (N := 131) (args := [.pointer (some ⟨g, 0, none⟩), .int .i64 q1, .int .i64 q2, .int .i64 q3]) Try.func58 rfl rfl hm0 (srQ ?_)
 refine zdt rfl (zbm (z := .agg #[.int .i64 0, .slice none 0 0, .slice none 0 0, .slice none 0 0]) rfl rfl) ?_
 intro b1
 refine ntQ (zac (reQ 2 rfl ?_))
 refine zdj (R := (fun u_ p_ => (∃ x_ : Int, u_ = .int .i64 x_ ∧ 0 ≤ x_ ∧ x_ < q1) ∧ p_ = curE g a len cap)) 1 rfl rfl rfl rfl rfl (fun l' w hm => zci g a len cap z q1 _ _ _ hm hb (by constructor <;> omega)) ?_
 intro v2 p3 hR4
 obtain ⟨⟨xhR4, rfl, xhR40, xhR41⟩, rfl⟩ := hR4
 refine zeb (l' := (boxE b1 #[.int .i64 0, .slice none 0 0, .slice none 0 0, .slice none 0 0] 101 :: curE g a len cap :: l)) rfl ?_
 refine hvQ rfl (vaQ rfl rfl rfl) (hvQ rfl (zda (cs := #[.int .i64 (1 + xhR4), .slice none 0 0, .slice none 0 0, .slice none 0 0]) rfl rfl rfl) ?_)
 refine zdt rfl (zbm (z := .agg #[.int .i64 0, .slice none 0 0, .slice none 0 0, .slice none 0 0]) rfl rfl) ?_
 intro b5
 refine zbr (cs' := #[.int .i64 (1 + xhR4), .slice none 0 0, .slice none 0 0, .slice none 0 0]) (i := 0) (off := 0) (us := [.int .i64 (1 + xhR4), .slice none 0 0, .slice none 0 0, .slice none 0 0]) rfl rfl rfl rfl rfl rfl rfl (zae rfl (zae rfl (zae rfl (zae rfl zbj)))) rfl rfl rfl (ntQ (zac (reQ 2 rfl (hvQ rfl (vaQ rfl rfl rfl) ?_))))
 refine zdj (R := (fun u_ p_ => (∃ x_ : Int, u_ = .int .i64 x_ ∧ 0 ≤ x_ ∧ x_ < q2 + 1) ∧ p_ = curE g a len cap)) 2 rfl rfl rfl rfl rfl (fun l' w hm => zci g a len cap z (q2 + 1) _ _ _ hm hb (by constructor <;> omega)) ?_
 intro v6 p7 hR8
 obtain ⟨⟨xhR8, rfl, xhR80, xhR81⟩, rfl⟩ := hR8
 refine zeb (l' := (boxE b5 #[.int .i64 (1 + xhR4), .slice none 0 0, .slice none 0 0, .slice none 0 0] 101 :: boxE b1 #[.int .i64 0, .slice none 0 0, .slice none 0 0, .slice none 0 0] 101 :: curE g a len cap :: l)) rfl ?_
 refine zbb 1 rfl (zac (reQ 2 rfl (hvQ rfl (vaQ rfl rfl rfl) ?_)))
 refine zdj (R := (fun u_ p_ => (∃ x_ : Int, u_ = .int .i64 x_ ∧ 0 ≤ x_ ∧ x_ < q3 + 1) ∧ p_ = curE g a len cap)) 2 rfl rfl rfl rfl rfl (fun l' w hm => zci g a len cap z (q3 + 1) _ _ _ hm hb (by constructor <;> omega)) ?_
 intro v9 p10 hR11
 obtain ⟨⟨xhR11, rfl, xhR110, xhR111⟩, rfl⟩ := hR11
 refine zeb (l' := (boxE b5 #[.int .i64 (1 + xhR4), .slice none 0 0, .slice none 0 0, .slice none 0 0] 101 :: boxE b1 #[.int .i64 0, .slice none 0 0, .slice none 0 0, .slice none 0 0] 101 :: curE g a len cap :: l)) rfl ?_
 refine zbb 1 rfl (srQ (hvQ rfl (fdQ 0 rfl rfl rfl) (hvQ rfl (zag rfl rfl rfl (zad 0 rfl rfl)) (hvQ rfl (vaQ rfl rfl rfl) (zan 1 rfl (hvQ rfl (vaQ rfl rfl rfl) (enQ 1 rfl ?_)))))))
 refine zax (zac (zbc 1 rfl (zaw ?_)))
 refine zdo (rowE 3 1 (.slice none 0 0) 0 ([]) :: boxE b5 #[.int .i64 (1 + xhR4), .slice none 0 0, .slice none 0 0, .slice none 0 0] 101 :: boxE b1 #[.int .i64 0, .slice none 0 0, .slice none 0 0, .slice none 0 0] 101 :: curE g a len cap :: l) (fun w hm => hm.nilRow 3 1) ?_
 refine zdo (rowE 124 2 (.slice none 0 0) 0 ([]) :: rowE 3 1 (.slice none 0 0) 0 ([]) :: boxE b5 #[.int .i64 (1 + xhR4), .slice none 0 0, .slice none 0 0, .slice none 0 0] 101 :: boxE b1 #[.int .i64 0, .slice none 0 0, .slice none 0 0, .slice none 0 0] 101 :: curE g a len cap :: l) (fun w hm => hm.nilRow 124 2) ?_
 refine zdo (rowE 35 3 (.slice none 0 0) 0 ([]) :: rowE 124 2 (.slice none 0 0) 0 ([]) :: rowE 3 1 (.slice none 0 0) 0 ([]) :: boxE b5 #[.int .i64 (1 + xhR4), .slice none 0 0, .slice none 0 0, .slice none 0 0] 101 :: boxE b1 #[.int .i64 0, .slice none 0 0, .slice none 0 0, .slice none 0 0] 101 :: curE g a len cap :: l) (fun w hm => hm.nilRow 35 3) ?_
 refine zdo _ zfx ?_
 refine lkQ3 (α := Nat) (β := Value) (γ := List An) [0, 1, 2, 3, 8, 9, 10, 11, 12] rfl (fun i u gs => (bigE ([] : List HP) :: rowE 35 3 (.slice none 0 0) 0 ([]) :: rowE 124 2 u gs.length (gs.flatMap anC) :: rowE 3 1 (.slice none 0 0) 0 ([]) :: boxE b5 #[.int .i64 (1 + xhR4), .slice none 0 0, u, .slice none 0 0] 101 :: boxE b1 #[.int .i64 0, .slice none 0 0, .slice none 0 0, .slice none 0 0] 101 :: curE g a len cap :: l)) (fun i u gs => [(13, .int .i64 (i : Int))]) (fun i u gs => (i : Int) ≤ xhR11 ∧ gs.length = i ∧ AnsOk ((1 + (1 + xhR4)) + xhR8) gs) (fun i u gs => (xhR11).toNat - i) 0 _ [] ⟨by omega, rfl, fun k hk => absurd hk (by simp)⟩ (saQ rfl) (.refl _) ?_
 intro i u gs hi12
 obtain ⟨hi, hgl, hgo⟩ := hi12
 refine zac (zac (reQ 2 rfl ?_))
 refine zbh rfl rfl rfl rfl rfl rfl (fun h13 => ?_) (fun h13 => ?_)
 ·
  refine ntQ (zao rfl (zcp (sbQ (zac (reQ 2 rfl (hvQ rfl (vaQ rfl rfl rfl) (hvQ rfl (zfe rfl rfl rfl (by constructor <;> omega)) (zan 1 rfl ?_))))))))
  refine ntQ (zac (reQ 1 rfl (hvQ rfl (vsQ rfl rfl rfl) (zan 2 rfl (hvQ rfl (vsQ rfl rfl rfl) (hvQ rfl (rv_min rfl rfl rfl) ?_))))))
  refine zdj (R := (fun u_ p_ => (∃ x_ : Int, u_ = .int .i64 x_ ∧ 0 ≤ x_ ∧ x_ < min ((2 * (((1 + (1 + xhR4)) + xhR8) + (i : Int))) - 1) 14) ∧ p_ = curE g a len cap)) 6 rfl rfl rfl rfl rfl (fun l' w hm => zci g a len cap z (min ((2 * (((1 + (1 + xhR4)) + xhR8) + (i : Int))) - 1) 14) _ _ _ hm hb (by constructor <;> omega)) ?_
  intro v14 p15 hR16
  obtain ⟨⟨xhR16, rfl, xhR160, xhR161⟩, rfl⟩ := hR16
  refine zeb (l' := (bigE ([] : List HP) :: rowE 35 3 (.slice none 0 0) 0 ([]) :: rowE 124 2 u gs.length (gs.flatMap anC) :: rowE 3 1 (.slice none 0 0) 0 ([]) :: boxE b5 #[.int .i64 (1 + xhR4), .slice none 0 0, u, .slice none 0 0] 101 :: boxE b1 #[.int .i64 0, .slice none 0 0, .slice none 0 0, .slice none 0 0] 101 :: curE g a len cap :: l)) rfl ?_
  refine hvQ rfl (vsQ rfl rfl rfl) (zbb 1 rfl ?_)
  refine zfc 7 [5, 4, 3, 2, 1, 0, 6] rfl rfl (by decide) ?_
  refine zfi (l := (bigE ([] : List HP) :: rowE 35 3 (.slice none 0 0) 0 ([]) :: rowE 124 2 u gs.length (gs.flatMap anC) :: rowE 3 1 (.slice none 0 0) 0 ([]) :: boxE b5 #[.int .i64 (1 + xhR4), .slice none 0 0, u, .slice none 0 0] 101 :: boxE b1 #[.int .i64 0, .slice none 0 0, .slice none 0 0, .slice none 0 0] 101 :: l)) rfl 8 [0, 1, 2, 3, 4, 5, 6, 7] (List.take 8 _) (List.drop 8 _) [[], [0], [], [], [], [3, 4], [2, 5], [5, 6]] [54, 55, 56, 57, 58, 59, 60, 61] (fun i_ vs_ v_ p_ => match i_ with | 0 => v_ = .pointer (some ⟨b5, 0 + 2, none⟩) ∧ p_ = [] | 1 => v_ = u ∧ p_ = [] | 2 => v_ = .int .i64 (((2 * (((1 + (1 + xhR4)) + xhR8) + (i : Int))) - 1) - xhR16) ∧ p_ = [] | 3 => v_ = .pointer (some ⟨g, 0, none⟩) ∧ p_ = [] | 4 => v_ = .int .i64 (2 * (((1 + (1 + xhR4)) + xhR8) + (i : Int))) ∧ p_ = [] | 5 => (∃ pm_, p_ = [pm_] ∧ (fun u_ p_ => (∃ x_ : Int, u_ = .int .i64 x_ ∧ 0 ≤ x_ ∧ x_ < 2 * (((1 + (1 + xhR4)) + xhR8) + (i : Int))) ∧ p_ = curE g a len cap) v_ pm_) | 6 => v_ = .agg #[.int .i64 (((2 * (((1 + (1 + xhR4)) + xhR8) + (i : Int))) - 1) - xhR16), .int .i64 (intOf_o (List.getD vs_ 1 undef))] ∧ p_ = [] | 7 => IsRow 124 2 1 ([((2 * (((1 + (1 + xhR4)) + xhR8) + (i : Int))) - 1) - xhR16, (intOf_o (List.getD vs_ 0 undef))].map (Value.int .i64)) v_ p_ | _ => True) [[], [0], [], [], [], [3, 4], [2, 5], [5, 6]] [none, none, none, none, none, some 11, none, none] [curE g a len cap] [0, 1, 2, 3, 4, 5, 6, 7] 11 (List.take_append_drop 8 _).symm (by kernel_rfl) (by kernel_rfl) (by kernel_rfl) rfl rfl ?_ ?_
  ·
   refine ⟨?_, ?_, ?_, ?_, ?_, ?_, ?_, ?_, trivial⟩
   ·
    intro vf pf hmu hR
    refine dqQ [] [] rfl (zbu (zai [9] rfl) ?_)
    exact zbd (fdQ 2 rfl rfl rfl)
   ·
    intro vf pf hmu hR
    have e0 := hR 0 (by decide)
    refine dqQ [0] [0] rfl (zbq (sk 54 (congrArg some e0.1) (zab _)) (List.sublist_append_right _ _) ?_)
    exact zbd (zag rfl rfl rfl (zad 4 rfl rfl))
   ·
    intro vf pf hmu hR
    refine dqQ [] [] rfl (zbu (zai [15] rfl) ?_)
    exact zbd (zaj rfl)
   ·
    intro vf pf hmu hR
    refine dqQ [] [] rfl (zbu (zai [0] rfl) ?_)
    exact zbd (zaj rfl)
   ·
    intro vf pf hmu hR
    refine dqQ [] [] rfl (zbu (zai [14] rfl) ?_)
    exact zbd (zaj rfl)
   ·
    intro vf pf hmu hR
    have e3 := hR 3 (by decide)
    have e4 := hR 4 (by decide)
    refine Or.inl ⟨rfl, ?_⟩
    show RunM _ _ _ (pf 11) (([3, 4] : List Nat).flatMap pf ++ _) (envOf _ vf [3, 4] ++ _) _ _
    rw [hmu]
    exact zdd (sk 57 (congrArg some e3.1) (sk 58 (congrArg some e4.1) (zab _))) (by simp only [e3.2, e4.2, fS] <;> rfl) (zdw (R := (fun u_ p_ => (∃ x_ : Int, u_ = .int .i64 x_ ∧ 0 ≤ x_ ∧ x_ < 2 * (((1 + (1 + xhR4)) + xhR8) + (i : Int))) ∧ p_ = curE g a len cap)) rfl rfl (fun L w hX hm => zci g a len cap z (2 * (((1 + (1 + xhR4)) + xhR8) + (i : Int))) _ _ _ hm hb (by constructor <;> omega)))
   ·
    intro vf pf hmu hR
    have e2 := hR 2 (by decide)
    have e5 : (∃ pm_, (pf 5) = [pm_] ∧ (fun u_ p_ => (∃ x_ : Int, u_ = .int .i64 x_ ∧ 0 ≤ x_ ∧ x_ < 2 * (((1 + (1 + xhR4)) + xhR8) + (i : Int))) ∧ p_ = curE g a len cap) (vf 5) pm_) := hR 5 (by decide)
    obtain ⟨p18, pE5, hR19⟩ := e5
    obtain ⟨v17, vE5⟩ : ∃ x, vf 5 = x := ⟨_, rfl⟩
    rw [vE5] at hR19
    obtain ⟨⟨xhR19, rfl, xhR190, xhR191⟩, rfl⟩ := hR19
    refine dqQ [2, 5] [2, 5] rfl (zcc (sk 56 (congrArg some e2.1) (sk 59 (congrArg some vE5) (zab _))) (by simp only [pE5, vE5, e2.2, fS] <;> rfl) ?_)
    exact zco (zbd (zda (cs := #[.int .i64 (((2 * (((1 + (1 + xhR4)) + xhR8) + (i : Int))) - 1) - xhR16), .int .i64 xhR19]) rfl rfl rfl)) (fun _ _ h => ⟨h.1.trans (by show _ = (.agg #[.int .i64 (((2 * (((1 + (1 + xhR4)) + xhR8) + (i : Int))) - 1) - xhR16), .int .i64 (intOf_o (vf 5))] : Value); first | (rw [vE5]; done) | (rw [vE5]; rfl)), h.2⟩)
   intro vf pf hmu hR
   have e5 : (∃ pm_, (pf 5) = [pm_] ∧ (fun u_ p_ => (∃ x_ : Int, u_ = .int .i64 x_ ∧ 0 ≤ x_ ∧ x_ < 2 * (((1 + (1 + xhR4)) + xhR8) + (i : Int))) ∧ p_ = curE g a len cap) (vf 5) pm_) := hR 5 (by decide)
   obtain ⟨p18, pE5, hR19⟩ := e5
   obtain ⟨v17, vE5⟩ : ∃ x, vf 5 = x := ⟨_, rfl⟩
   rw [vE5] at hR19
   obtain ⟨⟨xhR19, rfl, xhR190, xhR191⟩, rfl⟩ := hR19
   have e6 : (vf 6) = .agg #[.int .i64 (((2 * (((1 + (1 + xhR4)) + xhR8) + (i : Int))) - 1) - xhR16), .int .i64 (intOf_o (vf 5))] ∧ (pf 6) = [] := hR 6 (by decide)
   rw [vE5] at e6
   refine dqQ [5, 6] [5, 6] rfl (zcc (sk 60 (congrArg some e6.1) (zab _)) (by simp only [pE5, vE5, e6.2, fS] <;> rfl) ?_)
   exact zco (zau (z := .agg #[.int .i64 0, .int .i64 0]) (s := 2) (cs := ([((2 * (((1 + (1 + xhR4)) + xhR8) + (i : Int))) - 1) - xhR16, xhR19].map (Value.int .i64))) rfl Try.underlying99 rfl (by decide) rfl (by kernel_rfl) rfl) (fun v_ p_ h => by show IsRow 124 2 1 ([((2 * (((1 + (1 + xhR4)) + xhR8) + (i : Int))) - 1) - xhR16, (intOf_o (vf 5))].map (Value.int .i64)) v_ p_; rw [vE5]; exact h)
  intro vf pf hmu hR
  have e1 := hR 1 (by decide)
  have e5 : (∃ pm_, (pf 5) = [pm_] ∧ (fun u_ p_ => (∃ x_ : Int, u_ = .int .i64 x_ ∧ 0 ≤ x_ ∧ x_ < 2 * (((1 + (1 + xhR4)) + xhR8) + (i : Int))) ∧ p_ = curE g a len cap) (vf 5) pm_) := hR 5 (by decide)
  obtain ⟨p18, pE5, hR19⟩ := e5
  obtain ⟨v17, vE5⟩ : ∃ x, vf 5 = x := ⟨_, rfl⟩
  rw [vE5] at hR19
  obtain ⟨⟨xhR19, rfl, xhR190, xhR191⟩, rfl⟩ := hR19
  have e7 : IsRow 124 2 1 ([((2 * (((1 + (1 + xhR4)) + xhR8) + (i : Int))) - 1) - xhR16, (intOf_o (vf 5))].map (Value.int .i64)) (vf 7) (pf 7) := hR 7 (by decide)
  rw [vE5] at e7
  obtain ⟨g20, vE7, pE7⟩ := e7
  have q0 := hR 0 (by decide)
  have q1 := hR 1 (by decide)
  have q2 := hR 2 (by decide)
  have q3 := hR 3 (by decide)
  have q4 := hR 4 (by decide)
  have q6 := hR 6 (by decide)
  refine zce (zbe [39, 15, 14, 13, 12, 11, 10, 9, 8, 3, 2, 1, 0] _ (sk 55 (congrArg some e1.1) (sk 61 (congrArg some vE7) (zab _))) rfl) (by simp only [pE5, vE5, pE7, vE7, q0.2, q1.2, q2.2, q3.2, q4.2, q6.2, fS] <;> rfl) ?_
  simp only [List.drop_succ_cons, List.drop_zero]
  refine zcf (i := 4) (z := .agg #[.int .i64 0, .int .i64 0]) (bytes := 16) rfl rfl rfl rfl Try.underlying99 (by kernel_rfl) rfl rfl rfl rfl (zah 1 rfl) (zbw _) (by first | omega | (simp only [List.length_append, List.length_cons, List.length_nil]; omega)) (zbt gs [(An.mk (((2 * (((1 + (1 + xhR4)) + xhR8) + (i : Int))) - 1) - xhR16) xhR19)]) (zcs anC gs (An.mk (((2 * (((1 + (1 + xhR4)) + xhR8) + (i : Int))) - 1) - xhR16) xhR19) _ rfl) (fun _ => rfl) ?_
  intro v21
  refine hvQ rfl (fdQ 2 rfl rfl rfl) (zcr (i := 4) rfl (fun ho22 => ?_))
  refine zed (i := 6) (cs' := #[.int .i64 (1 + xhR4), .slice none 0 0, v21, .slice none 0 0]) rfl rfl rfl rfl rfl rfl ho22 rfl rfl rfl rfl (zcb (zcv (reQ 1 rfl (hvQ rfl (vaQ rfl rfl rfl) (enQ 1 rfl ?_)))))
  refine zbo 8 [0, 7, 6, 5, 4, 3, 2] rfl rfl (by decide) ?_
  exact zbi (i + 1) v21 (gs ++ [(An.mk (((2 * (((1 + (1 + xhR4)) + xhR8) + (i : Int))) - 1) - xhR16) xhR19)]) ⟨by omega, by simp; omega, ans_app hgo (by unfold LtOk; omega) (by unfold LtOk; omega)⟩ (by omega) (saQ rfl) (.refl _)
 refine ntQ (zaq rfl ?_)
 refine zaz (zdr ?_)
 refine zaf (zax (zac (reQ 2 rfl (hvQ rfl (vaQ rfl rfl rfl) (hvQ rfl (zfe rfl rfl rfl (by constructor <;> omega)) (zbb 1 rfl (zac (zac (reQ 1 rfl ?_)))))))))
 refine ntQ (zaw ?_)
 refine lkQ3 (α := Nat) (β := Value) (γ := List Sq) [0, 1, 2, 3, 8, 9, 10, 11, 12, 16, 39] rfl (fun i uq ss => (bigE (ss.map sqPart) :: rowE 35 3 uq ss.length (ss.flatMap sqC) :: rowE 124 2 u gs.length (gs.flatMap anC) :: rowE 3 1 (.slice none 0 0) 0 ([]) :: boxE b5 #[.int .i64 (1 + xhR4), uq, u, .slice none 0 0] 101 :: boxE b1 #[.int .i64 0, .slice none 0 0, .slice none 0 0, .slice none 0 0] 101 :: curE g a len cap :: l)) (fun i uq ss => [(17, .int .i64 (i : Int))]) (fun i uq ss => (i : Int) ≤ xhR8 ∧ ss.length = i ∧ SqsOk (((1 + (1 + xhR4)) + xhR8) + xhR11) ss) (fun i uq ss => (xhR8).toNat - i) 0 _ [] ⟨by omega, rfl, fun k hk => absurd hk (by simp)⟩ (saQ rfl) (.refl _) ?_
 intro i uq ss hi23
 obtain ⟨hi2, hsl, hso⟩ := hi23
 refine zac (zac (reQ 2 rfl ?_))
 refine zbh rfl rfl rfl rfl rfl rfl (fun h24 => ?_) (fun h24 => ?_)
 ·
  refine ntQ (zao rfl (zcp (sbQ (zac (reQ 1 rfl ?_)))))
  refine zdj (R := (fun u_ p_ => (∃ b : Bool, u_ = .bool b) ∧ p_ = curE g a len cap)) 6 rfl rfl rfl rfl rfl (fun l' w hm => once_mut hm hb (6) (by omega) (by omega)) ?_
  intro v25 p26 hR27
  obtain ⟨⟨xhR27, rfl⟩, rfl⟩ := hR27
  refine zeb (l' := (bigE (ss.map sqPart) :: rowE 35 3 uq ss.length (ss.flatMap sqC) :: rowE 124 2 u gs.length (gs.flatMap anC) :: rowE 3 1 (.slice none 0 0) 0 ([]) :: boxE b5 #[.int .i64 (1 + xhR4), uq, u, .slice none 0 0] 101 :: boxE b1 #[.int .i64 0, .slice none 0 0, .slice none 0 0, .slice none 0 0] 101 :: curE g a len cap :: l)) rfl ?_
  refine zbl (fun h28 => ?_) (fun h28 => ?_)
  ·
   refine ntQ (zao rfl ?_)
   refine zfc 7 [5, 4, 3, 2, 1, 0, 6] rfl rfl (by decide) ?_
   refine zfi (l := (bigE (ss.map sqPart) :: rowE 35 3 uq ss.length (ss.flatMap sqC) :: rowE 124 2 u gs.length (gs.flatMap anC) :: rowE 3 1 (.slice none 0 0) 0 ([]) :: boxE b5 #[.int .i64 (1 + xhR4), uq, u, .slice none 0 0] 101 :: boxE b1 #[.int .i64 0, .slice none 0 0, .slice none 0 0, .slice none 0 0] 101 :: l)) rfl 19 [0, 1, 2, 3, 4, 5, 6, 7, 8, 9, 10, 11, 12, 13, 14, 15, 16, 17, 18] (List.take 19 _) (List.drop 19 _) [[], [0], [], [2], [], [], [3, 4, 5], [], [], [6, 7, 8], [], [], [9, 10, 11], [], [], [12, 13, 14], [6, 9, 12, 15], [3, 6, 9, 12, 15, 16], [3, 6, 9, 12, 15, 16, 17]] [75, 76, 77, 78, 79, 80, 81, 82, 83, 84, 85, 86, 87, 88, 89, 90, 91, 92, 93] (fun i_ vs_ v_ p_ => match i_ with | 0 => v_ = .pointer (some ⟨b5, 0 + 1, none⟩) ∧ p_ = [] | 1 => v_ = uq ∧ p_ = [] | 2 => v_ = .pointer (some ⟨g, 0, none⟩) ∧ p_ = [] | 3 => (∃ pm_, p_ = [pm_] ∧ (fun u_ p_ => (∃ x_ : Int, u_ = .int .i64 x_ ∧ 0 ≤ x_ ∧ x_ < 32) ∧ p_ = curE g a len cap) v_ pm_) | 4 => v_ = .pointer (some ⟨g, 0, none⟩) ∧ p_ = [] | 5 => v_ = .int .i64 (2 * (((1 + (1 + xhR4)) + xhR8) + xhR11)) ∧ p_ = [] | 6 => (∃ pm_, p_ = [pm_] ∧ (fun u_ p_ => (∃ x_ : Int, u_ = .int .i64 x_ ∧ 0 ≤ x_ ∧ x_ < 2 * (((1 + (1 + xhR4)) + xhR8) + xhR11)) ∧ p_ = curE g a len cap) v_ pm_) | 7 => v_ = .pointer (some ⟨g, 0, none⟩) ∧ p_ = [] | 8 => v_ = .int .i64 (2 * (((1 + (1 + xhR4)) + xhR8) + xhR11)) ∧ p_ = [] | 9 => (∃ pm_, p_ = [pm_] ∧ (fun u_ p_ => (∃ x_ : Int, u_ = .int .i64 x_ ∧ 0 ≤ x_ ∧ x_ < 2 * (((1 + (1 + xhR4)) + xhR8) + xhR11)) ∧ p_ = curE g a len cap) v_ pm_) | 10 => v_ = .pointer (some ⟨g, 0, none⟩) ∧ p_ = [] | 11 => v_ = .int .i64 (2 * (((1 + (1 + xhR4)) + xhR8) + xhR11)) ∧ p_ = [] | 12 => (∃ pm_, p_ = [pm_] ∧ (fun u_ p_ => (∃ x_ : Int, u_ = .int .i64 x_ ∧ 0 ≤ x_ ∧ x_ < 2 * (((1 + (1 + xhR4)) + xhR8) + xhR11)) ∧ p_ = curE g a len cap) v_ pm_) | 13 => v_ = .pointer (some ⟨g, 0, none⟩) ∧ p_ = [] | 14 => v_ = .int .i64 (2 * (((1 + (1 + xhR4)) + xhR8) + xhR11)) ∧ p_ = [] | 15 => (∃ pm_, p_ = [pm_] ∧ (fun u_ p_ => (∃ x_ : Int, u_ = .int .i64 x_ ∧ 0 ≤ x_ ∧ x_ < 2 * (((1 + (1 + xhR4)) + xhR8) + xhR11)) ∧ p_ = curE g a len cap) v_ pm_) | 16 => IsRow 3 1 4 ([(intOf_o (List.getD vs_ 0 undef)), (intOf_o (List.getD vs_ 1 undef)), (intOf_o (List.getD vs_ 2 undef)), (intOf_o (List.getD vs_ 3 undef))].map (Value.int .i64)) v_ p_ | 17 => v_ = .agg #[.int .i64 1, .int .i64 (intOf_o (List.getD vs_ 0 undef)), (List.getD vs_ 5 undef)] ∧ p_ = [] | 18 => IsRow 35 3 1 ([.int .i64 1, .int .i64 (intOf_o (List.getD vs_ 0 undef)), (List.getD vs_ 5 undef)]) v_ p_ | _ => True) [[], [0], [], [2], [], [], [4, 5], [], [], [7, 8], [], [], [10, 11], [], [], [13, 14], [15], [15, 16], [15, 16, 17]] [none, none, none, some 22, none, none, some 3, none, none, some 6, none, none, some 9, none, none, some 12, none, none, none] [curE g a len cap] [0, 1, 2, 4, 5, 7, 8, 10, 11, 13, 14, 15, 16, 17, 18] 22 (List.take_append_drop 19 _).symm (by kernel_rfl) (by kernel_rfl) (by kernel_rfl) rfl rfl ?_ ?_
   ·
    refine ⟨?_, ?_, ?_, ?_, ?_, ?_, ?_, ?_, ?_, ?_, ?_, ?_, ?_, ?_, ?_, ?_, ?_, ?_, ?_, trivial⟩
    ·
     intro vf pf hmu hR
     refine dqQ [] [] rfl (zbu (zai [9] rfl) ?_)
     exact zbd (fdQ 1 rfl rfl rfl)
    ·
     intro vf pf hmu hR
     have e0 := hR 0 (by decide)
     refine dqQ [0] [0] rfl (zbq (sk 75 (congrArg some e0.1) (zab _)) (List.sublist_append_right _ _) ?_)
     exact zbd (zag rfl rfl rfl (zad 4 rfl rfl))
    ·
     intro vf pf hmu hR
     refine dqQ [] [] rfl (zbu (zai [0] rfl) ?_)
     exact zbd (zaj rfl)
    ·
     intro vf pf hmu hR
     have e2 := hR 2 (by decide)
     refine Or.inl ⟨rfl, ?_⟩
     show RunM _ _ _ (pf 22) (([2] : List Nat).flatMap pf ++ _) (envOf _ vf [2] ++ _) _ _
     rw [hmu]
     exact zdd (sk 77 (congrArg some e2.1) (zab _)) (by simp only [e2.2, fS] <;> rfl) (zdw (R := (fun u_ p_ => (∃ x_ : Int, u_ = .int .i64 x_ ∧ 0 ≤ x_ ∧ x_ < 32) ∧ p_ = curE g a len cap)) rfl rfl (fun L w hX hm => zci g a len cap z 32 _ _ _ hm hb (by constructor <;> omega)))
    ·
     intro vf pf hmu hR
     refine dqQ [] [] rfl (zbu (zai [0] rfl) ?_)
     exact zbd (zaj rfl)
    ·
     intro vf pf hmu hR
     refine dqQ [] [] rfl (zbu (zai [16] rfl) ?_)
     exact zbd (zaj rfl)
    ·
     intro vf pf hmu hR
     have e3 : (∃ pm_, (pf 3) = [pm_] ∧ (fun u_ p_ => (∃ x_ : Int, u_ = .int .i64 x_ ∧ 0 ≤ x_ ∧ x_ < 32) ∧ p_ = curE g a len cap) (vf 3) pm_) := hR 3 (by decide)
     obtain ⟨p30, pE3, hR31⟩ := e3
     obtain ⟨v29, vE3⟩ : ∃ x, vf 3 = x := ⟨_, rfl⟩
     rw [vE3] at hR31
     obtain ⟨⟨xhR31, rfl, xhR310, xhR311⟩, rfl⟩ := hR31
     have e4 := hR 4 (by decide)
     have e5 := hR 5 (by decide)
     refine Or.inl ⟨rfl, ?_⟩
     show RunM _ _ _ (pf 3) (([4, 5] : List Nat).flatMap pf ++ _) (envOf _ vf [3, 4, 5] ++ _) _ _
     rw [pE3]
     exact zdd (sk 79 (congrArg some e4.1) (sk 80 (congrArg some e5.1) (zab _))) (by simp only [e4.2, e5.2, fS] <;> rfl) (zdw (R := (fun u_ p_ => (∃ x_ : Int, u_ = .int .i64 x_ ∧ 0 ≤ x_ ∧ x_ < 2 * (((1 + (1 + xhR4)) + xhR8) + xhR11)) ∧ p_ = curE g a len cap)) rfl rfl (fun L w hX hm => zci g a len cap z (2 * (((1 + (1 + xhR4)) + xhR8) + xhR11)) _ _ _ hm hb (by constructor <;> omega)))
    ·
     intro vf pf hmu hR
     refine dqQ [] [] rfl (zbu (zai [0] rfl) ?_)
     exact zbd (zaj rfl)
    ·
     intro vf pf hmu hR
     refine dqQ [] [] rfl (zbu (zai [16] rfl) ?_)
     exact zbd (zaj rfl)
    ·
     intro vf pf hmu hR
     have e6 : (∃ pm_, (pf 6) = [pm_] ∧ (fun u_ p_ => (∃ x_ : Int, u_ = .int .i64 x_ ∧ 0 ≤ x_ ∧ x_ < 2 * (((1 + (1 + xhR4)) + xhR8) + xhR11)) ∧ p_ = curE g a len cap) (vf 6) pm_) := hR 6 (by decide)
     obtain ⟨p33, pE6, hR34⟩ := e6
     obtain ⟨v32, vE6⟩ : ∃ x, vf 6 = x := ⟨_, rfl⟩
     rw [vE6] at hR34
     obtain ⟨⟨xhR34, rfl, xhR340, xhR341⟩, rfl⟩ := hR34
     have e7 := hR 7 (by decide)
     have e8 := hR 8 (by decide)
     refine Or.inl ⟨rfl, ?_⟩
     show RunM _ _ _ (pf 6) (([7, 8] : List Nat).flatMap pf ++ _) (envOf _ vf [6, 7, 8] ++ _) _ _
     rw [pE6]
     exact zdd (sk 82 (congrArg some e7.1) (sk 83 (congrArg some e8.1) (zab _))) (by simp only [e7.2, e8.2, fS] <;> rfl) (zdw (R := (fun u_ p_ => (∃ x_ : Int, u_ = .int .i64 x_ ∧ 0 ≤ x_ ∧ x_ < 2 * (((1 + (1 + xhR4)) + xhR8) + xhR11)) ∧ p_ = curE g a len cap)) rfl rfl (fun L w hX hm => zci g a len cap z (2 * (((1 + (1 + xhR4)) + xhR8) + xhR11)) _ _ _ hm hb (by constructor <;> omega)))
    ·
     intro vf pf hmu hR
     refine dqQ [] [] rfl (zbu (zai [0] rfl) ?_)
     exact zbd (zaj rfl)
    ·
     intro vf pf hmu hR
     refine dqQ [] [] rfl (zbu (zai [16] rfl) ?_)
     exact zbd (zaj rfl)
    ·
     intro vf pf hmu hR
     have e9 : (∃ pm_, (pf 9) = [pm_] ∧ (fun u_ p_ => (∃ x_ : Int, u_ = .int .i64 x_ ∧ 0 ≤ x_ ∧ x_ < 2 * (((1 + (1 + xhR4)) + xhR8) + xhR11)) ∧ p_ = curE g a len cap) (vf 9) pm_) := hR 9 (by decide)
     obtain ⟨p36, pE9, hR37⟩ := e9
     obtain ⟨v35, vE9⟩ : ∃ x, vf 9 = x := ⟨_, rfl⟩
     rw [vE9] at hR37
     obtain ⟨⟨xhR37, rfl, xhR370, xhR371⟩, rfl⟩ := hR37
     have e10 := hR 10 (by decide)
     have e11 := hR 11 (by decide)
     refine Or.inl ⟨rfl, ?_⟩
     show RunM _ _ _ (pf 9) (([10, 11] : List Nat).flatMap pf ++ _) (envOf _ vf [9, 10, 11] ++ _) _ _
     rw [pE9]
     exact zdd (sk 85 (congrArg some e10.1) (sk 86 (congrArg some e11.1) (zab _))) (by simp only [e10.2, e11.2, fS] <;> rfl) (zdw (R := (fun u_ p_ => (∃ x_ : Int, u_ = .int .i64 x_ ∧ 0 ≤ x_ ∧ x_ < 2 * (((1 + (1 + xhR4)) + xhR8) + xhR11)) ∧ p_ = curE g a len cap)) rfl rfl (fun L w hX hm => zci g a len cap z (2 * (((1 + (1 + xhR4)) + xhR8) + xhR11)) _ _ _ hm hb (by constructor <;> omega)))
    ·
     intro vf pf hmu hR
     refine dqQ [] [] rfl (zbu (zai [0] rfl) ?_)
     exact zbd (zaj rfl)
    ·
     intro vf pf hmu hR
     refine dqQ [] [] rfl (zbu (zai [16] rfl) ?_)
     exact zbd (zaj rfl)
    ·
     intro vf pf hmu hR
     have e12 : (∃ pm_, (pf 12) = [pm_] ∧ (fun u_ p_ => (∃ x_ : Int, u_ = .int .i64 x_ ∧ 0 ≤ x_ ∧ x_ < 2 * (((1 + (1 + xhR4)) + xhR8) + xhR11)) ∧ p_ = curE g a len cap) (vf 12) pm_) := hR 12 (by decide)
     obtain ⟨p39, pE12, hR40⟩ := e12
     obtain ⟨v38, vE12⟩ : ∃ x, vf 12 = x := ⟨_, rfl⟩
     rw [vE12] at hR40
     obtain ⟨⟨xhR40, rfl, xhR400, xhR401⟩, rfl⟩ := hR40
     have e13 := hR 13 (by decide)
     have e14 := hR 14 (by decide)
     refine Or.inl ⟨rfl, ?_⟩
     show RunM _ _ _ (pf 12) (([13, 14] : List Nat).flatMap pf ++ _) (envOf _ vf [12, 13, 14] ++ _) _ _
     rw [pE12]
     exact zdd (sk 88 (congrArg some e13.1) (sk 89 (congrArg some e14.1) (zab _))) (by simp only [e13.2, e14.2, fS] <;> rfl) (zdw (R := (fun u_ p_ => (∃ x_ : Int, u_ = .int .i64 x_ ∧ 0 ≤ x_ ∧ x_ < 2 * (((1 + (1 + xhR4)) + xhR8) + xhR11)) ∧ p_ = curE g a len cap)) rfl rfl (fun L w hX hm => zci g a len cap z (2 * (((1 + (1 + xhR4)) + xhR8) + xhR11)) _ _ _ hm hb (by constructor <;> omega)))
    ·
     intro vf pf hmu hR
     have e6 : (∃ pm_, (pf 6) = [pm_] ∧ (fun u_ p_ => (∃ x_ : Int, u_ = .int .i64 x_ ∧ 0 ≤ x_ ∧ x_ < 2 * (((1 + (1 + xhR4)) + xhR8) + xhR11)) ∧ p_ = curE g a len cap) (vf 6) pm_) := hR 6 (by decide)
     obtain ⟨p33, pE6, hR34⟩ := e6
     obtain ⟨v32, vE6⟩ : ∃ x, vf 6 = x := ⟨_, rfl⟩
     rw [vE6] at hR34
     obtain ⟨⟨xhR34, rfl, xhR340, xhR341⟩, rfl⟩ := hR34
     have e9 : (∃ pm_, (pf 9) = [pm_] ∧ (fun u_ p_ => (∃ x_ : Int, u_ = .int .i64 x_ ∧ 0 ≤ x_ ∧ x_ < 2 * (((1 + (1 + xhR4)) + xhR8) + xhR11)) ∧ p_ = curE g a len cap) (vf 9) pm_) := hR 9 (by decide)
     obtain ⟨p36, pE9, hR37⟩ := e9
     obtain ⟨v35, vE9⟩ : ∃ x, vf 9 = x := ⟨_, rfl⟩
     rw [vE9] at hR37
     obtain ⟨⟨xhR37, rfl, xhR370, xhR371⟩, rfl⟩ := hR37
     have e12 : (∃ pm_, (pf 12) = [pm_] ∧ (fun u_ p_ => (∃ x_ : Int, u_ = .int .i64 x_ ∧ 0 ≤ x_ ∧ x_ < 2 * (((1 + (1 + xhR4)) + xhR8) + xhR11)) ∧ p_ = curE g a len cap) (vf 12) pm_) := hR 12 (by decide)
     obtain ⟨p39, pE12, hR40⟩ := e12
     obtain ⟨v38, vE12⟩ : ∃ x, vf 12 = x := ⟨_, rfl⟩
     rw [vE12] at hR40
     obtain ⟨⟨xhR40, rfl, xhR400, xhR401⟩, rfl⟩ := hR40
     have e15 : (∃ pm_, (pf 15) = [pm_] ∧ (fun u_ p_ => (∃ x_ : Int, u_ = .int .i64 x_ ∧ 0 ≤ x_ ∧ x_ < 2 * (((1 + (1 + xhR4)) + xhR8) + xhR11)) ∧ p_ = curE g a len cap) (vf 15) pm_) := hR 15 (by decide)
     obtain ⟨p42, pE15, hR43⟩ := e15
     obtain ⟨v41, vE15⟩ : ∃ x, vf 15 = x := ⟨_, rfl⟩
     rw [vE15] at hR43
     obtain ⟨⟨xhR43, rfl, xhR430, xhR431⟩, rfl⟩ := hR43
     refine dqQ [15] [6, 9, 12, 15] rfl (zcc (sk 81 (congrArg some vE6) (sk 84 (congrArg some vE9) (sk 87 (congrArg some vE12) (sk 90 (congrArg some vE15) (zab _))))) (by simp only [pE15, vE15, fS] <;> rfl) ?_)
     exact zco (zau (z := .int .i64 0) (s := 1) (cs := ([xhR34, xhR37, xhR40, xhR43].map (Value.int .i64))) rfl Try.underlying26 rfl (by decide) rfl (by kernel_rfl) rfl) (fun v_ p_ h => by show IsRow 3 1 4 ([(intOf_o (vf 6)), (intOf_o (vf 9)), (intOf_o (vf 12)), (intOf_o (vf 15))].map (Value.int .i64)) v_ p_; rw [vE6, vE9, vE12, vE15]; exact h)
    ·
     intro vf pf hmu hR
     have e3 : (∃ pm_, (pf 3) = [pm_] ∧ (fun u_ p_ => (∃ x_ : Int, u_ = .int .i64 x_ ∧ 0 ≤ x_ ∧ x_ < 32) ∧ p_ = curE g a len cap) (vf 3) pm_) := hR 3 (by decide)
     obtain ⟨p30, pE3, hR31⟩ := e3
     obtain ⟨v29, vE3⟩ : ∃ x, vf 3 = x := ⟨_, rfl⟩
     rw [vE3] at hR31
     obtain ⟨⟨xhR31, rfl, xhR310, xhR311⟩, rfl⟩ := hR31
     have e6 : (∃ pm_, (pf 6) = [pm_] ∧ (fun u_ p_ => (∃ x_ : Int, u_ = .int .i64 x_ ∧ 0 ≤ x_ ∧ x_ < 2 * (((1 + (1 + xhR4)) + xhR8) + xhR11)) ∧ p_ = curE g a len cap) (vf 6) pm_) := hR 6 (by decide)
     obtain ⟨p33, pE6, hR34⟩ := e6
     obtain ⟨v32, vE6⟩ : ∃ x, vf 6 = x := ⟨_, rfl⟩
     rw [vE6] at hR34
     obtain ⟨⟨xhR34, rfl, xhR340, xhR341⟩, rfl⟩ := hR34
     have e9 : (∃ pm_, (pf 9) = [pm_] ∧ (fun u_ p_ => (∃ x_ : Int, u_ = .int .i64 x_ ∧ 0 ≤ x_ ∧ x_ < 2 * (((1 + (1 + xhR4)) + xhR8) + xhR11)) ∧ p_ = curE g a len cap) (vf 9) pm_) := hR 9 (by decide)
     obtain ⟨p36, pE9, hR37⟩ := e9
     obtain ⟨v35, vE9⟩ : ∃ x, vf 9 = x := ⟨_, rfl⟩
     rw [vE9] at hR37
     obtain ⟨⟨xhR37, rfl, xhR370, xhR371⟩, rfl⟩ := hR37
     have e12 : (∃ pm_, (pf 12) = [pm_] ∧ (fun u_ p_ => (∃ x_ : Int, u_ = .int .i64 x_ ∧ 0 ≤ x_ ∧ x_ < 2 * (((1 + (1 + xhR4)) + xhR8) + xhR11)) ∧ p_ = curE g a len cap) (vf 12) pm_) := hR 12 (by decide)
     obtain ⟨p39, pE12, hR40⟩ := e12
     obtain ⟨v38, vE12⟩ : ∃ x, vf 12 = x := ⟨_, rfl⟩
     rw [vE12] at hR40
     obtain ⟨⟨xhR40, rfl, xhR400, xhR401⟩, rfl⟩ := hR40
     have e15 : (∃ pm_, (pf 15) = [pm_] ∧ (fun u_ p_ => (∃ x_ : Int, u_ = .int .i64 x_ ∧ 0 ≤ x_ ∧ x_ < 2 * (((1 + (1 + xhR4)) + xhR8) + xhR11)) ∧ p_ = curE g a len cap) (vf 15) pm_) := hR 15 (by decide)
     obtain ⟨p42, pE15, hR43⟩ := e15
     obtain ⟨v41, vE15⟩ : ∃ x, vf 15 = x := ⟨_, rfl⟩
     rw [vE15] at hR43
     obtain ⟨⟨xhR43, rfl, xhR430, xhR431⟩, rfl⟩ := hR43
     have e16 : IsRow 3 1 4 ([(intOf_o (vf 6)), (intOf_o (vf 9)), (intOf_o (vf 12)), (intOf_o (vf 15))].map (Value.int .i64)) (vf 16) (pf 16) := hR 16 (by decide)
     rw [vE6, vE9, vE12, vE15] at e16
     obtain ⟨g44, vE16, pE16⟩ := e16
     refine dqQ [15, 16] [3, 6, 9, 12, 15, 16] rfl (zcc (sk 78 (congrArg some vE3) (sk 91 (congrArg some vE16) (zab _))) (by simp only [pE15, vE15, pE16, vE16, fS] <;> rfl) ?_)
     exact zco (zbd (zda (cs := #[.int .i64 1, .int .i64 xhR31, .slice (some ⟨g44, 0, none⟩) 4 4]) rfl rfl rfl)) (fun _ _ h => ⟨h.1.trans (by show _ = (.agg #[.int .i64 1, .int .i64 (intOf_o (vf 3)), (vf 16)] : Value); first | (rw [vE3, vE16]; done) | (rw [vE3, vE16]; rfl)), h.2⟩)
    intro vf pf hmu hR
    have e3 : (∃ pm_, (pf 3) = [pm_] ∧ (fun u_ p_ => (∃ x_ : Int, u_ = .int .i64 x_ ∧ 0 ≤ x_ ∧ x_ < 32) ∧ p_ = curE g a len cap) (vf 3) pm_) := hR 3 (by decide)
    obtain ⟨p30, pE3, hR31⟩ := e3
    obtain ⟨v29, vE3⟩ : ∃ x, vf 3 = x := ⟨_, rfl⟩
    rw [vE3] at hR31
    obtain ⟨⟨xhR31, rfl, xhR310, xhR311⟩, rfl⟩ := hR31
    have e6 : (∃ pm_, (pf 6) = [pm_] ∧ (fun u_ p_ => (∃ x_ : Int, u_ = .int .i64 x_ ∧ 0 ≤ x_ ∧ x_ < 2 * (((1 + (1 + xhR4)) + xhR8) + xhR11)) ∧ p_ = curE g a len cap) (vf 6) pm_) := hR 6 (by decide)
    obtain ⟨p33, pE6, hR34⟩ := e6
    obtain ⟨v32, vE6⟩ : ∃ x, vf 6 = x := ⟨_, rfl⟩
    rw [vE6] at hR34
    obtain ⟨⟨xhR34, rfl, xhR340, xhR341⟩, rfl⟩ := hR34
    have e9 : (∃ pm_, (pf 9) = [pm_] ∧ (fun u_ p_ => (∃ x_ : Int, u_ = .int .i64 x_ ∧ 0 ≤ x_ ∧ x_ < 2 * (((1 + (1 + xhR4)) + xhR8) + xhR11)) ∧ p_ = curE g a len cap) (vf 9) pm_) := hR 9 (by decide)
    obtain ⟨p36, pE9, hR37⟩ := e9
    obtain ⟨v35, vE9⟩ : ∃ x, vf 9 = x := ⟨_, rfl⟩
    rw [vE9] at hR37
    obtain ⟨⟨xhR37, rfl, xhR370, xhR371⟩, rfl⟩ := hR37
    have e12 : (∃ pm_, (pf 12) = [pm_] ∧ (fun u_ p_ => (∃ x_ : Int, u_ = .int .i64 x_ ∧ 0 ≤ x_ ∧ x_ < 2 * (((1 + (1 + xhR4)) + xhR8) + xhR11)) ∧ p_ = curE g a len cap) (vf 12) pm_) := hR 12 (by decide)
    obtain ⟨p39, pE12, hR40⟩ := e12
    obtain ⟨v38, vE12⟩ : ∃ x, vf 12 = x := ⟨_, rfl⟩
    rw [vE12] at hR40
    obtain ⟨⟨xhR40, rfl, xhR400, xhR401⟩, rfl⟩ := hR40
    have e15 : (∃ pm_, (pf 15) = [pm_] ∧ (fun u_ p_ => (∃ x_ : Int, u_ = .int .i64 x_ ∧ 0 ≤ x_ ∧ x_ < 2 * (((1 + (1 + xhR4)) + xhR8) + xhR11)) ∧ p_ = curE g a len cap) (vf 15) pm_) := hR 15 (by decide)
    obtain ⟨p42, pE15, hR43⟩ := e15
    obtain ⟨v41, vE15⟩ : ∃ x, vf 15 = x := ⟨_, rfl⟩
    rw [vE15] at hR43
    obtain ⟨⟨xhR43, rfl, xhR430, xhR431⟩, rfl⟩ := hR43
    have e16 : IsRow 3 1 4 ([(intOf_o (vf 6)), (intOf_o (vf 9)), (intOf_o (vf 12)), (intOf_o (vf 15))].map (Value.int .i64)) (vf 16) (pf 16) := hR 16 (by decide)
    rw [vE6, vE9, vE12, vE15] at e16
    obtain ⟨g44, vE16, pE16⟩ := e16
    have e17 : (vf 17) = .agg #[.int .i64 1, .int .i64 (intOf_o (vf 3)), (vf 16)] ∧ (pf 17) = [] := hR 17 (by decide)
    rw [vE3, vE16] at e17
    refine dqQ [15, 16, 17] [3, 6, 9, 12, 15, 16, 17] rfl (zcc (sk 92 (congrArg some e17.1) (zab _)) (by simp only [pE15, vE15, pE16, vE16, e17.2, fS] <;> rfl) ?_)
    exact zco (zau (z := .agg #[.int .i64 0, .int .i64 0, .slice none 0 0]) (s := 3) (cs := [.int .i64 1, .int .i64 xhR31, .slice (some ⟨g44, 0, none⟩) 4 4]) rfl Try.underlying24 rfl (by decide) rfl (by kernel_rfl) rfl) (fun v_ p_ h => by show IsRow 35 3 1 ([.int .i64 1, .int .i64 (intOf_o (vf 3)), (vf 16)]) v_ p_; rw [vE3, vE16]; exact h)
   intro vf pf hmu hR
   have e1 := hR 1 (by decide)
   have e3 : (∃ pm_, (pf 3) = [pm_] ∧ (fun u_ p_ => (∃ x_ : Int, u_ = .int .i64 x_ ∧ 0 ≤ x_ ∧ x_ < 32) ∧ p_ = curE g a len cap) (vf 3) pm_) := hR 3 (by decide)
   obtain ⟨p30, pE3, hR31⟩ := e3
   obtain ⟨v29, vE3⟩ : ∃ x, vf 3 = x := ⟨_, rfl⟩
   rw [vE3] at hR31
   obtain ⟨⟨xhR31, rfl, xhR310, xhR311⟩, rfl⟩ := hR31
   have e6 : (∃ pm_, (pf 6) = [pm_] ∧ (fun u_ p_ => (∃ x_ : Int, u_ = .int .i64 x_ ∧ 0 ≤ x_ ∧ x_ < 2 * (((1 + (1 + xhR4)) + xhR8) + xhR11)) ∧ p_ = curE g a len cap) (vf 6) pm_) := hR 6 (by decide)
   obtain ⟨p33, pE6, hR34⟩ := e6
   obtain ⟨v32, vE6⟩ : ∃ x, vf 6 = x := ⟨_, rfl⟩
   rw [vE6] at hR34
   obtain ⟨⟨xhR34, rfl, xhR340, xhR341⟩, rfl⟩ := hR34
   have e9 : (∃ pm_, (pf 9) = [pm_] ∧ (fun u_ p_ => (∃ x_ : Int, u_ = .int .i64 x_ ∧ 0 ≤ x_ ∧ x_ < 2 * (((1 + (1 + xhR4)) + xhR8) + xhR11)) ∧ p_ = curE g a len cap) (vf 9) pm_) := hR 9 (by decide)
   obtain ⟨p36, pE9, hR37⟩ := e9
   obtain ⟨v35, vE9⟩ : ∃ x, vf 9 = x := ⟨_, rfl⟩
   rw [vE9] at hR37
   obtain ⟨⟨xhR37, rfl, xhR370, xhR371⟩, rfl⟩ := hR37
   have e12 : (∃ pm_, (pf 12) = [pm_] ∧ (fun u_ p_ => (∃ x_ : Int, u_ = .int .i64 x_ ∧ 0 ≤ x_ ∧ x_ < 2 * (((1 + (1 + xhR4)) + xhR8) + xhR11)) ∧ p_ = curE g a len cap) (vf 12) pm_) := hR 12 (by decide)
   obtain ⟨p39, pE12, hR40⟩ := e12
   obtain ⟨v38, vE12⟩ : ∃ x, vf 12 = x := ⟨_, rfl⟩
   rw [vE12] at hR40
   obtain ⟨⟨xhR40, rfl, xhR400, xhR401⟩, rfl⟩ := hR40
   have e15 : (∃ pm_, (pf 15) = [pm_] ∧ (fun u_ p_ => (∃ x_ : Int, u_ = .int .i64 x_ ∧ 0 ≤ x_ ∧ x_ < 2 * (((1 + (1 + xhR4)) + xhR8) + xhR11)) ∧ p_ = curE g a len cap) (vf 15) pm_) := hR 15 (by decide)
   obtain ⟨p42, pE15, hR43⟩ := e15
   obtain ⟨v41, vE15⟩ : ∃ x, vf 15 = x := ⟨_, rfl⟩
   rw [vE15] at hR43
   obtain ⟨⟨xhR43, rfl, xhR430, xhR431⟩, rfl⟩ := hR43
   have e16 : IsRow 3 1 4 ([(intOf_o (vf 6)), (intOf_o (vf 9)), (intOf_o (vf 12)), (intOf_o (vf 15))].map (Value.int .i64)) (vf 16) (pf 16) := hR 16 (by decide)
   rw [vE6, vE9, vE12, vE15] at e16
   obtain ⟨g44, vE16, pE16⟩ := e16
   have e18 : IsRow 35 3 1 ([.int .i64 1, .int .i64 (intOf_o (vf 3)), (vf 16)]) (vf 18) (pf 18) := hR 18 (by decide)
   rw [vE3, vE16] at e18
   obtain ⟨g45, vE18, pE18⟩ := e18
   have q0 := hR 0 (by decide)
   have q1 := hR 1 (by decide)
   have q2 := hR 2 (by decide)
   have q4 := hR 4 (by decide)
   have q5 := hR 5 (by decide)
   have q7 := hR 7 (by decide)
   have q8 := hR 8 (by decide)
   have q10 := hR 10 (by decide)
   have q11 := hR 11 (by decide)
   have q13 := hR 13 (by decide)
   have q14 := hR 14 (by decide)
   have q17 := hR 17 (by decide)
   refine zce (zbe [74, 70, 39, 17, 16, 12, 11, 10, 9, 8, 3, 2, 1, 0] _ (sk 76 (congrArg some e1.1) (sk 93 (congrArg some vE18) (zab _))) rfl) (by simp only [pE15, vE15, pE16, vE16, pE18, vE18, q0.2, q1.2, q2.2, q4.2, q5.2, q7.2, q8.2, q10.2, q11.2, q13.2, q14.2, q17.2, fS] <;> rfl) ?_
   simp only [List.drop_succ_cons, List.drop_zero]
   refine zcf (i := 4) (z := .agg #[.int .i64 0, .int .i64 0, .slice none 0 0]) (bytes := 40) rfl rfl rfl rfl Try.underlying24 (by kernel_rfl) rfl rfl rfl rfl (zah 2 rfl) (by simp [Value.oneCell']) (by first | omega | (simp only [List.length_append, List.length_cons, List.length_nil]; omega)) (zbt ss [(Sq.mk 1 xhR31 (.slice (some ⟨g44, 0, none⟩) 4 4) ([xhR34, xhR37, xhR40, xhR43]))]) (zcs sqC ss (Sq.mk 1 xhR31 (.slice (some ⟨g44, 0, none⟩) 4 4) ([xhR34, xhR37, xhR40, xhR43])) _ rfl) (fun _ => rfl) ?_
   intro v46
   refine hvQ rfl (fdQ 1 rfl rfl rfl) (zcr (i := 4) rfl (fun ho47 => ?_))
   refine zed (i := 7) (cs' := #[.int .i64 (1 + xhR4), v46, u, .slice none 0 0]) rfl rfl rfl rfl rfl rfl ho47 rfl rfl rfl rfl (zcb (zcv (reQ 1 rfl (hvQ rfl (vaQ rfl rfl rfl) (enQ 1 rfl ?_)))))
   refine zbo 9 [8, 7, 6, 5, 4, 2, 0, 1, 3] rfl rfl (by decide) ?_
   refine zet (bigE ((ss ++ [(Sq.mk 1 xhR31 (.slice (some ⟨g44, 0, none⟩) 4 4) ([xhR34, xhR37, xhR40, xhR43]))]).map sqPart) :: curE g a len cap :: rowE 35 3 (.slice (some ⟨g45, 0, none⟩) 1 1) 1 ([.int .i64 1, .int .i64 xhR31, .slice (some ⟨g44, 0, none⟩) 4 4]) :: rowE 35 3 v46 ((ss ++ [(Sq.mk 1 xhR31 (.slice (some ⟨g44, 0, none⟩) 4 4) ([xhR34, xhR37, xhR40, xhR43]))]).length) ((ss ++ [(Sq.mk 1 xhR31 (.slice (some ⟨g44, 0, none⟩) 4 4) ([xhR34, xhR37, xhR40, xhR43]))]).flatMap sqC) :: rowE 124 2 u gs.length (gs.flatMap anC) :: rowE 3 1 (.slice none 0 0) 0 ([]) :: boxE b5 #[.int .i64 (1 + xhR4), v46, u, .slice none 0 0] 101 :: boxE b1 #[.int .i64 0, .slice none 0 0, .slice none 0 0, .slice none 0 0] 101 :: l) (fun w hm => by rw [List.map_append]; exact conv_snocX w hm) ?_
   refine zbo 8 [1, 7, 6, 5, 4, 3, 0] rfl rfl (by decide) ?_
   exact zbi (i + 1) v46 (ss ++ [(Sq.mk 1 xhR31 (.slice (some ⟨g44, 0, none⟩) 4 4) ([xhR34, xhR37, xhR40, xhR43]))]) ⟨by omega, by simp; omega, sqs_app hso ⟨.inr ⟨rfl, by dsimp only; omega, rfl⟩⟩ (fun x hx => by simp only [List.mem_cons, List.not_mem_nil, or_false] at hx; unfold LtOk; omega)⟩ (by omega) (saQ rfl) (.refl _)
  refine ntQ (zaq rfl ?_)
  refine zfc 7 [5, 4, 3, 2, 1, 0, 6] rfl rfl (by decide) ?_
  refine zfi (l := (bigE (ss.map sqPart) :: rowE 35 3 uq ss.length (ss.flatMap sqC) :: rowE 124 2 u gs.length (gs.flatMap anC) :: rowE 3 1 (.slice none 0 0) 0 ([]) :: boxE b5 #[.int .i64 (1 + xhR4), uq, u, .slice none 0 0] 101 :: boxE b1 #[.int .i64 0, .slice none 0 0, .slice none 0 0, .slice none 0 0] 101 :: l)) rfl 14 [0, 1, 2, 3, 4, 5, 6, 7, 8, 9, 10, 11, 12, 13] (List.take 14 _) (List.drop 14 _) [[], [0], [], [2], [], [4], [], [], [7], [3, 6, 8], [5, 9], [9, 10], [3, 9, 11], [3, 9, 11, 12]] [96, 97, 98, 99, 100, 101, 102, 103, 104, 105, 106, 107, 108, 109] (fun i_ vs_ v_ p_ => match i_ with | 0 => v_ = .pointer (some ⟨b5, 0 + 1, none⟩) ∧ p_ = [] | 1 => v_ = uq ∧ p_ = [] | 2 => v_ = .pointer (some ⟨g, 0, none⟩) ∧ p_ = [] | 3 => (∃ pm_, p_ = [pm_] ∧ (fun u_ p_ => (∃ x_ : Int, u_ = .int .i64 x_ ∧ 0 ≤ x_ ∧ x_ < 2) ∧ p_ = curE g a len cap) v_ pm_) | 4 => v_ = .int .i64 (2 * (((1 + (1 + xhR4)) + xhR8) + xhR11)) ∧ p_ = [] | 5 => v_ = .int .i64 ((2 * (((1 + (1 + xhR4)) + xhR8) + xhR11)) - 1) ∧ p_ = [] | 6 => v_ = .pointer (some ⟨g, 0, none⟩) ∧ p_ = [] | 7 => v_ = .int .i64 (2 * (((1 + (1 + xhR4)) + xhR8) + xhR11)) ∧ p_ = [] | 8 => v_ = .int .i64 (min (2 * (((1 + (1 + xhR4)) + xhR8) + xhR11)) 12) ∧ p_ = [] | 9 => (∃ pm_, p_ = [pm_] ∧ (fun u_ p_ => (∃ x_ : Int, u_ = .int .i64 x_ ∧ 0 ≤ x_ ∧ x_ < min (2 * (((1 + (1 + xhR4)) + xhR8) + xhR11)) 12) ∧ p_ = curE g a len cap) v_ pm_) | 10 => v_ = .int .i64 (((2 * (((1 + (1 + xhR4)) + xhR8) + xhR11)) - 1) - (intOf_o (List.getD vs_ 1 undef))) ∧ p_ = [] | 11 => IsRow 3 1 1 ([((2 * (((1 + (1 + xhR4)) + xhR8) + xhR11)) - 1) - (intOf_o (List.getD vs_ 0 undef))].map (Value.int .i64)) v_ p_ | 12 => v_ = .agg #[.int .i64 0, .int .i64 (intOf_o (List.getD vs_ 0 undef)), (List.getD vs_ 2 undef)] ∧ p_ = [] | 13 => IsRow 35 3 1 ([.int .i64 0, .int .i64 (intOf_o (List.getD vs_ 0 undef)), (List.getD vs_ 2 undef)]) v_ p_ | _ => True) [[], [0], [], [2], [], [4], [], [], [7], [6, 8], [5, 9], [9, 10], [9, 11], [9, 11, 12]] [none, none, none, some 17, none, none, none, none, none, some 3, none, none, none, none] [curE g a len cap] [0, 1, 2, 4, 5, 6, 7, 8, 9, 10, 11, 12, 13] 17 (List.take_append_drop 14 _).symm (by kernel_rfl) (by kernel_rfl) (by kernel_rfl) rfl rfl ?_ ?_
  ·
   refine ⟨?_, ?_, ?_, ?_, ?_, ?_, ?_, ?_, ?_, ?_, ?_, ?_, ?_, ?_, trivial⟩
   ·
    intro vf pf hmu hR
    refine dqQ [] [] rfl (zbu (zai [9] rfl) ?_)
    exact zbd (fdQ 1 rfl rfl rfl)
   ·
    intro vf pf hmu hR
    have e0 := hR 0 (by decide)
    refine dqQ [0] [0] rfl (zbq (sk 96 (congrArg some e0.1) (zab _)) (List.sublist_append_right _ _) ?_)
    exact zbd (zag rfl rfl rfl (zad 4 rfl rfl))
   ·
    intro vf pf hmu hR
    refine dqQ [] [] rfl (zbu (zai [0] rfl) ?_)
    exact zbd (zaj rfl)
   ·
    intro vf pf hmu hR
    have e2 := hR 2 (by decide)
    refine Or.inl ⟨rfl, ?_⟩
    show RunM _ _ _ (pf 17) (([2] : List Nat).flatMap pf ++ _) (envOf _ vf [2] ++ _) _ _
    rw [hmu]
    exact zdd (sk 98 (congrArg some e2.1) (zab _)) (by simp only [e2.2, fS] <;> rfl) (zdw (R := (fun u_ p_ => (∃ x_ : Int, u_ = .int .i64 x_ ∧ 0 ≤ x_ ∧ x_ < 2) ∧ p_ = curE g a len cap)) rfl rfl (fun L w hX hm => zci g a len cap z 2 _ _ _ hm hb (by constructor <;> omega)))
   ·
    intro vf pf hmu hR
    refine dqQ [] [] rfl (zbu (zai [16] rfl) ?_)
    exact zbd (zaj rfl)
   ·
    intro vf pf hmu hR
    have e4 := hR 4 (by decide)
    refine dqQ [4] [4] rfl (zbu (sk 100 (congrArg some e4.1) (zab _)) ?_)
    exact zbd (vsQ rfl rfl rfl)
   ·
    intro vf pf hmu hR
    refine dqQ [] [] rfl (zbu (zai [0] rfl) ?_)
    exact zbd (zaj rfl)
   ·
    intro vf pf hmu hR
    refine dqQ [] [] rfl (zbu (zai [16] rfl) ?_)
    exact zbd (zaj rfl)
   ·
    intro vf pf hmu hR
    have e7 := hR 7 (by decide)
    refine dqQ [7] [7] rfl (zbu (sk 103 (congrArg some e7.1) (zab _)) ?_)
    exact zbd (rv_min rfl rfl rfl)
   ·
    intro vf pf hmu hR
    have e3 : (∃ pm_, (pf 3) = [pm_] ∧ (fun u_ p_ => (∃ x_ : Int, u_ = .int .i64 x_ ∧ 0 ≤ x_ ∧ x_ < 2) ∧ p_ = curE g a len cap) (vf 3) pm_) := hR 3 (by decide)
    obtain ⟨p49, pE3, hR50⟩ := e3
    obtain ⟨v48, vE3⟩ : ∃ x, vf 3 = x := ⟨_, rfl⟩
    rw [vE3] at hR50
    obtain ⟨⟨xhR50, rfl, xhR500, xhR501⟩, rfl⟩ := hR50
    have e6 := hR 6 (by decide)
    have e8 := hR 8 (by decide)
    refine Or.inl ⟨rfl, ?_⟩
    show RunM _ _ _ (pf 3) (([6, 8] : List Nat).flatMap pf ++ _) (envOf _ vf [3, 6, 8] ++ _) _ _
    rw [pE3]
    exact zdd (sk 102 (congrArg some e6.1) (sk 104 (congrArg some e8.1) (zab _))) (by simp only [e6.2, e8.2, fS] <;> rfl) (zdw (R := (fun u_ p_ => (∃ x_ : Int, u_ = .int .i64 x_ ∧ 0 ≤ x_ ∧ x_ < min (2 * (((1 + (1 + xhR4)) + xhR8) + xhR11)) 12) ∧ p_ = curE g a len cap)) rfl rfl (fun L w hX hm => zci g a len cap z (min (2 * (((1 + (1 + xhR4)) + xhR8) + xhR11)) 12) _ _ _ hm hb (by constructor <;> omega)))
   ·
    intro vf pf hmu hR
    have e5 := hR 5 (by decide)
    have e9 : (∃ pm_, (pf 9) = [pm_] ∧ (fun u_ p_ => (∃ x_ : Int, u_ = .int .i64 x_ ∧ 0 ≤ x_ ∧ x_ < min (2 * (((1 + (1 + xhR4)) + xhR8) + xhR11)) 12) ∧ p_ = curE g a len cap) (vf 9) pm_) := hR 9 (by decide)
    obtain ⟨p52, pE9, hR53⟩ := e9
    obtain ⟨v51, vE9⟩ : ∃ x, vf 9 = x := ⟨_, rfl⟩
    rw [vE9] at hR53
    obtain ⟨⟨xhR53, rfl, xhR530, xhR531⟩, rfl⟩ := hR53
    refine dqQ [5, 9] [5, 9] rfl (zcc (sk 101 (congrArg some e5.1) (sk 105 (congrArg some vE9) (zab _))) (by simp only [pE9, vE9, e5.2, fS] <;> rfl) ?_)
    exact zco (zbd (vsQ rfl rfl rfl)) (fun _ _ h => ⟨h.1.trans (by show _ = (.int .i64 (((2 * (((1 + (1 + xhR4)) + xhR8) + xhR11)) - 1) - (intOf_o (vf 9))) : Value); first | (rw [vE9]; done) | (rw [vE9]; rfl)), h.2⟩)
   ·
    intro vf pf hmu hR
    have e9 : (∃ pm_, (pf 9) = [pm_] ∧ (fun u_ p_ => (∃ x_ : Int, u_ = .int .i64 x_ ∧ 0 ≤ x_ ∧ x_ < min (2 * (((1 + (1 + xhR4)) + xhR8) + xhR11)) 12) ∧ p_ = curE g a len cap) (vf 9) pm_) := hR 9 (by decide)
    obtain ⟨p52, pE9, hR53⟩ := e9
    obtain ⟨v51, vE9⟩ : ∃ x, vf 9 = x := ⟨_, rfl⟩
    rw [vE9] at hR53
    obtain ⟨⟨xhR53, rfl, xhR530, xhR531⟩, rfl⟩ := hR53
    have e10 : (vf 10) = .int .i64 (((2 * (((1 + (1 + xhR4)) + xhR8) + xhR11)) - 1) - (intOf_o (vf 9))) ∧ (pf 10) = [] := hR 10 (by decide)
    rw [vE9] at e10
    refine dqQ [9, 10] [9, 10] rfl (zcc (sk 106 (congrArg some e10.1) (zab _)) (by simp only [pE9, vE9, e10.2, fS] <;> rfl) ?_)
    exact zco (zau (z := .int .i64 0) (s := 1) (cs := ([((2 * (((1 + (1 + xhR4)) + xhR8) + xhR11)) - 1) - xhR53].map (Value.int .i64))) rfl Try.underlying26 rfl (by decide) rfl (by kernel_rfl) rfl) (fun v_ p_ h => by show IsRow 3 1 1 ([((2 * (((1 + (1 + xhR4)) + xhR8) + xhR11)) - 1) - (intOf_o (vf 9))].map (Value.int .i64)) v_ p_; rw [vE9]; exact h)
   ·
    intro vf pf hmu hR
    have e3 : (∃ pm_, (pf 3) = [pm_] ∧ (fun u_ p_ => (∃ x_ : Int, u_ = .int .i64 x_ ∧ 0 ≤ x_ ∧ x_ < 2) ∧ p_ = curE g a len cap) (vf 3) pm_) := hR 3 (by decide)
    obtain ⟨p49, pE3, hR50⟩ := e3
    obtain ⟨v48, vE3⟩ : ∃ x, vf 3 = x := ⟨_, rfl⟩
    rw [vE3] at hR50
    obtain ⟨⟨xhR50, rfl, xhR500, xhR501⟩, rfl⟩ := hR50
    have e9 : (∃ pm_, (pf 9) = [pm_] ∧ (fun u_ p_ => (∃ x_ : Int, u_ = .int .i64 x_ ∧ 0 ≤ x_ ∧ x_ < min (2 * (((1 + (1 + xhR4)) + xhR8) + xhR11)) 12) ∧ p_ = curE g a len cap) (vf 9) pm_) := hR 9 (by decide)
    obtain ⟨p52, pE9, hR53⟩ := e9
    obtain ⟨v51, vE9⟩ : ∃ x, vf 9 = x := ⟨_, rfl⟩
    rw [vE9] at hR53
    obtain ⟨⟨xhR53, rfl, xhR530, xhR531⟩, rfl⟩ := hR53
    have e11 : IsRow 3 1 1 ([((2 * (((1 + (1 + xhR4)) + xhR8) + xhR11)) - 1) - (intOf_o (vf 9))].map (Value.int .i64)) (vf 11) (pf 11) := hR 11 (by decide)
    rw [vE9] at e11
    obtain ⟨g54, vE11, pE11⟩ := e11
    refine dqQ [9, 11] [3, 9, 11] rfl (zcc (sk 99 (congrArg some vE3) (sk 107 (congrArg some vE11) (zab _))) (by simp only [pE9, vE9, pE11, vE11, fS] <;> rfl) ?_)
    exact zco (zbd (zda (cs := #[.int .i64 0, .int .i64 xhR50, .slice (some ⟨g54, 0, none⟩) 1 1]) rfl rfl rfl)) (fun _ _ h => ⟨h.1.trans (by show _ = (.agg #[.int .i64 0, .int .i64 (intOf_o (vf 3)), (vf 11)] : Value); first | (rw [vE3, vE11]; done) | (rw [vE3, vE11]; rfl)), h.2⟩)
   intro vf pf hmu hR
   have e3 : (∃ pm_, (pf 3) = [pm_] ∧ (fun u_ p_ => (∃ x_ : Int, u_ = .int .i64 x_ ∧ 0 ≤ x_ ∧ x_ < 2) ∧ p_ = curE g a len cap) (vf 3) pm_) := hR 3 (by decide)
   obtain ⟨p49, pE3, hR50⟩ := e3
   obtain ⟨v48, vE3⟩ : ∃ x, vf 3 = x := ⟨_, rfl⟩
   rw [vE3] at hR50
   obtain ⟨⟨xhR50, rfl, xhR500, xhR501⟩, rfl⟩ := hR50
   have e9 : (∃ pm_, (pf 9) = [pm_] ∧ (fun u_ p_ => (∃ x_ : Int, u_ = .int .i64 x_ ∧ 0 ≤ x_ ∧ x_ < min (2 * (((1 + (1 + xhR4)) + xhR8) + xhR11)) 12) ∧ p_ = curE g a len cap) (vf 9) pm_) := hR 9 (by decide)
   obtain ⟨p52, pE9, hR53⟩ := e9
   obtain ⟨v51, vE9⟩ : ∃ x, vf 9 = x := ⟨_, rfl⟩
   rw [vE9] at hR53
   obtain ⟨⟨xhR53, rfl, xhR530, xhR531⟩, rfl⟩ := hR53
   have e11 : IsRow 3 1 1 ([((2 * (((1 + (1 + xhR4)) + xhR8) + xhR11)) - 1) - (intOf_o (vf 9))].map (Value.int .i64)) (vf 11) (pf 11) := hR 11 (by decide)
   rw [vE9] at e11
   obtain ⟨g54, vE11, pE11⟩ := e11
   have e12 : (vf 12) = .agg #[.int .i64 0, .int .i64 (intOf_o (vf 3)), (vf 11)] ∧ (pf 12) = [] := hR 12 (by decide)
   rw [vE3, vE11] at e12
   refine dqQ [9, 11, 12] [3, 9, 11, 12] rfl (zcc (sk 108 (congrArg some e12.1) (zab _)) (by simp only [pE9, vE9, pE11, vE11, e12.2, fS] <;> rfl) ?_)
   exact zco (zau (z := .agg #[.int .i64 0, .int .i64 0, .slice none 0 0]) (s := 3) (cs := [.int .i64 0, .int .i64 xhR50, .slice (some ⟨g54, 0, none⟩) 1 1]) rfl Try.underlying24 rfl (by decide) rfl (by kernel_rfl) rfl) (fun v_ p_ h => by show IsRow 35 3 1 ([.int .i64 0, .int .i64 (intOf_o (vf 3)), (vf 11)]) v_ p_; rw [vE3, vE11]; exact h)
  intro vf pf hmu hR
  have e1 := hR 1 (by decide)
  have e3 : (∃ pm_, (pf 3) = [pm_] ∧ (fun u_ p_ => (∃ x_ : Int, u_ = .int .i64 x_ ∧ 0 ≤ x_ ∧ x_ < 2) ∧ p_ = curE g a len cap) (vf 3) pm_) := hR 3 (by decide)
  obtain ⟨p49, pE3, hR50⟩ := e3
  obtain ⟨v48, vE3⟩ : ∃ x, vf 3 = x := ⟨_, rfl⟩
  rw [vE3] at hR50
  obtain ⟨⟨xhR50, rfl, xhR500, xhR501⟩, rfl⟩ := hR50
  have e9 : (∃ pm_, (pf 9) = [pm_] ∧ (fun u_ p_ => (∃ x_ : Int, u_ = .int .i64 x_ ∧ 0 ≤ x_ ∧ x_ < min (2 * (((1 + (1 + xhR4)) + xhR8) + xhR11)) 12) ∧ p_ = curE g a len cap) (vf 9) pm_) := hR 9 (by decide)
  obtain ⟨p52, pE9, hR53⟩ := e9
  obtain ⟨v51, vE9⟩ : ∃ x, vf 9 = x := ⟨_, rfl⟩
  rw [vE9] at hR53
  obtain ⟨⟨xhR53, rfl, xhR530, xhR531⟩, rfl⟩ := hR53
  have e11 : IsRow 3 1 1 ([((2 * (((1 + (1 + xhR4)) + xhR8) + xhR11)) - 1) - (intOf_o (vf 9))].map (Value.int .i64)) (vf 11) (pf 11) := hR 11 (by decide)
  rw [vE9] at e11
  obtain ⟨g54, vE11, pE11⟩ := e11
  have e13 : IsRow 35 3 1 ([.int .i64 0, .int .i64 (intOf_o (vf 3)), (vf 11)]) (vf 13) (pf 13) := hR 13 (by decide)
  rw [vE3, vE11] at e13
  obtain ⟨g55, vE13, pE13⟩ := e13
  have q0 := hR 0 (by decide)
  have q1 := hR 1 (by decide)
  have q2 := hR 2 (by decide)
  have q4 := hR 4 (by decide)
  have q5 := hR 5 (by decide)
  have q6 := hR 6 (by decide)
  have q7 := hR 7 (by decide)
  have q8 := hR 8 (by decide)
  have q10 := hR 10 (by decide)
  have q12 := hR 12 (by decide)
  refine zce (zbe [74, 70, 39, 17, 16, 12, 11, 10, 9, 8, 3, 2, 1, 0] _ (sk 97 (congrArg some e1.1) (sk 109 (congrArg some vE13) (zab _))) rfl) (by simp only [pE9, vE9, pE11, vE11, pE13, vE13, q0.2, q1.2, q2.2, q4.2, q5.2, q6.2, q7.2, q8.2, q10.2, q12.2, fS] <;> rfl) ?_
  simp only [List.drop_succ_cons, List.drop_zero]
  refine zcf (i := 4) (z := .agg #[.int .i64 0, .int .i64 0, .slice none 0 0]) (bytes := 40) rfl rfl rfl rfl Try.underlying24 (by kernel_rfl) rfl rfl rfl rfl (zah 2 rfl) (by simp [Value.oneCell']) (by first | omega | (simp only [List.length_append, List.length_cons, List.length_nil]; omega)) (zbt ss [(Sq.mk 0 xhR50 (.slice (some ⟨g54, 0, none⟩) 1 1) ([((2 * (((1 + (1 + xhR4)) + xhR8) + xhR11)) - 1) - xhR53]))]) (zcs sqC ss (Sq.mk 0 xhR50 (.slice (some ⟨g54, 0, none⟩) 1 1) ([((2 * (((1 + (1 + xhR4)) + xhR8) + xhR11)) - 1) - xhR53])) _ rfl) (fun _ => rfl) ?_
  intro v56
  refine hvQ rfl (fdQ 1 rfl rfl rfl) (zcr (i := 4) rfl (fun ho57 => ?_))
  refine zed (i := 7) (cs' := #[.int .i64 (1 + xhR4), v56, u, .slice none 0 0]) rfl rfl rfl rfl rfl rfl ho57 rfl rfl rfl rfl (zcb (zcv (reQ 1 rfl (hvQ rfl (vaQ rfl rfl rfl) (enQ 1 rfl ?_)))))
  refine zbo 9 [8, 7, 6, 5, 4, 2, 0, 1, 3] rfl rfl (by decide) ?_
  refine zet (bigE ((ss ++ [(Sq.mk 0 xhR50 (.slice (some ⟨g54, 0, none⟩) 1 1) ([((2 * (((1 + (1 + xhR4)) + xhR8) + xhR11)) - 1) - xhR53]))]).map sqPart) :: curE g a len cap :: rowE 35 3 (.slice (some ⟨g55, 0, none⟩) 1 1) 1 ([.int .i64 0, .int .i64 xhR50, .slice (some ⟨g54, 0, none⟩) 1 1]) :: rowE 35 3 v56 ((ss ++ [(Sq.mk 0 xhR50 (.slice (some ⟨g54, 0, none⟩) 1 1) ([((2 * (((1 + (1 + xhR4)) + xhR8) + xhR11)) - 1) - xhR53]))]).length) ((ss ++ [(Sq.mk 0 xhR50 (.slice (some ⟨g54, 0, none⟩) 1 1) ([((2 * (((1 + (1 + xhR4)) + xhR8) + xhR11)) - 1) - xhR53]))]).flatMap sqC) :: rowE 124 2 u gs.length (gs.flatMap anC) :: rowE 3 1 (.slice none 0 0) 0 ([]) :: boxE b5 #[.int .i64 (1 + xhR4), v56, u, .slice none 0 0] 101 :: boxE b1 #[.int .i64 0, .slice none 0 0, .slice none 0 0, .slice none 0 0] 101 :: l) (fun w hm => by rw [List.map_append]; exact conv_snocX w hm) ?_
  refine zbo 8 [1, 7, 6, 5, 4, 3, 0] rfl rfl (by decide) ?_
  exact zbi (i + 1) v56 (ss ++ [(Sq.mk 0 xhR50 (.slice (some ⟨g54, 0, none⟩) 1 1) ([((2 * (((1 + (1 + xhR4)) + xhR8) + xhR11)) - 1) - xhR53]))]) ⟨by omega, by simp; omega, sqs_app hso ⟨.inl ⟨rfl, by dsimp only; omega, rfl⟩⟩ (fun x hx => by simp only [List.mem_cons, List.not_mem_nil, or_false] at hx; unfold LtOk; omega)⟩ (by omega) (saQ rfl) (.refl _)
 refine ntQ (zaq rfl ?_)
 refine zaz (zdr ?_)
 refine zaf (zax (zac (zac (reQ 1 rfl ?_))))
 refine zdj (R := (fun u_ p_ => (∃ x_ : Int, u_ = .int .i64 x_ ∧ 0 ≤ x_ ∧ x_ < 4) ∧ p_ = curE g a len cap)) 6 rfl rfl rfl rfl rfl (fun l' w hm => zci g a len cap z 4 _ _ _ hm hb (by constructor <;> omega)) ?_
 intro v58 p59 hR60
 obtain ⟨⟨xhR60, rfl, xhR600, xhR601⟩, rfl⟩ := hR60
 refine zeb (l' := (bigE (ss.map sqPart) :: rowE 35 3 uq ss.length (ss.flatMap sqC) :: rowE 124 2 u gs.length (gs.flatMap anC) :: rowE 3 1 (.slice none 0 0) 0 ([]) :: boxE b5 #[.int .i64 (1 + xhR4), uq, u, .slice none 0 0] 101 :: boxE b1 #[.int .i64 0, .slice none 0 0, .slice none 0 0, .slice none 0 0] 101 :: curE g a len cap :: l)) rfl ?_
 refine zbb 1 rfl (zaw ?_)
 refine lkQ3 (α := Int) (β := Value) (γ := List Int) [0, 1, 2, 3, 8, 9, 10, 11, 12, 16, 39, 70] rfl (fun k uo os => (bigE (ss.map sqPart) :: rowE 35 3 uq ss.length (ss.flatMap sqC) :: rowE 124 2 u gs.length (gs.flatMap anC) :: rowE 3 1 uo os.length (os.map (Value.int .i64)) :: boxE b5 #[.int .i64 (1 + xhR4), uq, u, uo] 101 :: boxE b1 #[.int .i64 0, .slice none 0 0, .slice none 0 0, .slice none 0 0] 101 :: curE g a len cap :: l)) (fun k uo os => [(18, .int .i64 k)]) (fun k uo os => (-1 ≤ k ∧ k ≤ 3) ∧ (os.length : Int) + k ≤ 3 ∧ OsOk (((1 + (1 + xhR4)) + xhR8) + xhR11) os) (fun k uo os => (k + 1).toNat) _ _ [] ⟨by omega, by simp; omega, fun x hx => absurd hx (by simp)⟩ (saQ rfl) (.refl _) ?_
 intro k uo os hi61
 obtain ⟨hk0, hol, hoo⟩ := hi61
 refine zac (zac (reQ 1 rfl ?_))
 refine zfh rfl rfl rfl rfl rfl rfl (fun h62 => ?_) (fun h62 => ?_)
 ·
  refine ntQ (zao rfl (zcp (sbQ ?_)))
  refine zfc 7 [5, 4, 3, 2, 1, 0, 6] rfl rfl (by decide) ?_
  refine zfi (l := (bigE (ss.map sqPart) :: rowE 35 3 uq ss.length (ss.flatMap sqC) :: rowE 124 2 u gs.length (gs.flatMap anC) :: rowE 3 1 uo os.length (os.map (Value.int .i64)) :: boxE b5 #[.int .i64 (1 + xhR4), uq, u, uo] 101 :: boxE b1 #[.int .i64 0, .slice none 0 0, .slice none 0 0, .slice none 0 0] 101 :: l)) rfl 10 [0, 1, 2, 3, 4, 5, 6, 7, 8, 9] (List.take 10 _) (List.drop 10 _) [[], [0], [], [2], [], [], [5], [4, 6], [3, 7], [7, 8]] [118, 119, 120, 121, 122, 123, 124, 125, 126, 127] (fun i_ vs_ v_ p_ => match i_ with | 0 => v_ = .pointer (some ⟨b5, 0 + 3, none⟩) ∧ p_ = [] | 1 => v_ = uo ∧ p_ = [] | 2 => v_ = .int .i64 (2 * (((1 + (1 + xhR4)) + xhR8) + xhR11)) ∧ p_ = [] | 3 => v_ = .int .i64 ((2 * (((1 + (1 + xhR4)) + xhR8) + xhR11)) - 1) ∧ p_ = [] | 4 => v_ = .pointer (some ⟨g, 0, none⟩) ∧ p_ = [] | 5 => v_ = .int .i64 (2 * (((1 + (1 + xhR4)) + xhR8) + xhR11)) ∧ p_ = [] | 6 => v_ = .int .i64 (min (2 * (((1 + (1 + xhR4)) + xhR8) + xhR11)) 12) ∧ p_ = [] | 7 => (∃ pm_, p_ = [pm_] ∧ (fun u_ p_ => (∃ x_ : Int, u_ = .int .i64 x_ ∧ 0 ≤ x_ ∧ x_ < min (2 * (((1 + (1 + xhR4)) + xhR8) + xhR11)) 12) ∧ p_ = curE g a len cap) v_ pm_) | 8 => v_ = .int .i64 (((2 * (((1 + (1 + xhR4)) + xhR8) + xhR11)) - 1) - (intOf_o (List.getD vs_ 1 undef))) ∧ p_ = [] | 9 => IsRow 3 1 1 ([((2 * (((1 + (1 + xhR4)) + xhR8) + xhR11)) - 1) - (intOf_o (List.getD vs_ 0 undef))].map (Value.int .i64)) v_ p_ | _ => True) [[], [0], [], [2], [], [], [5], [4, 6], [3, 7], [7, 8]] [none, none, none, none, none, none, none, some 13, none, none] [curE g a len cap] [0, 1, 2, 3, 4, 5, 6, 7, 8, 9] 13 (List.take_append_drop 10 _).symm (by kernel_rfl) (by kernel_rfl) (by kernel_rfl) rfl rfl ?_ ?_
  ·
   refine ⟨?_, ?_, ?_, ?_, ?_, ?_, ?_, ?_, ?_, ?_, trivial⟩
   ·
    intro vf pf hmu hR
    refine dqQ [] [] rfl (zbu (zai [9] rfl) ?_)
    exact zbd (fdQ 3 rfl rfl rfl)
   ·
    intro vf pf hmu hR
    have e0 := hR 0 (by decide)
    refine dqQ [0] [0] rfl (zbq (sk 118 (congrArg some e0.1) (zab _)) (List.sublist_append_right _ _) ?_)
    exact zbd (zag rfl rfl rfl (zad 4 rfl rfl))
   ·
    intro vf pf hmu hR
    refine dqQ [] [] rfl (zbu (zai [16] rfl) ?_)
    exact zbd (zaj rfl)
   ·
    intro vf pf hmu hR
    have e2 := hR 2 (by decide)
    refine dqQ [2] [2] rfl (zbu (sk 120 (congrArg some e2.1) (zab _)) ?_)
    exact zbd (vsQ rfl rfl rfl)
   ·
    intro vf pf hmu hR
    refine dqQ [] [] rfl (zbu (zai [0] rfl) ?_)
    exact zbd (zaj rfl)
   ·
    intro vf pf hmu hR
    refine dqQ [] [] rfl (zbu (zai [16] rfl) ?_)
    exact zbd (zaj rfl)
   ·
    intro vf pf hmu hR
    have e5 := hR 5 (by decide)
    refine dqQ [5] [5] rfl (zbu (sk 123 (congrArg some e5.1) (zab _)) ?_)
    exact zbd (rv_min rfl rfl rfl)
   ·
    intro vf pf hmu hR
    have e4 := hR 4 (by decide)
    have e6 := hR 6 (by decide)
    refine Or.inl ⟨rfl, ?_⟩
    show RunM _ _ _ (pf 13) (([4, 6] : List Nat).flatMap pf ++ _) (envOf _ vf [4, 6] ++ _) _ _
    rw [hmu]
    exact zdd (sk 122 (congrArg some e4.1) (sk 124 (congrArg some e6.1) (zab _))) (by simp only [e4.2, e6.2, fS] <;> rfl) (zdw (R := (fun u_ p_ => (∃ x_ : Int, u_ = .int .i64 x_ ∧ 0 ≤ x_ ∧ x_ < min (2 * (((1 + (1 + xhR4)) + xhR8) + xhR11)) 12) ∧ p_ = curE g a len cap)) rfl rfl (fun L w hX hm => zci g a len cap z (min (2 * (((1 + (1 + xhR4)) + xhR8) + xhR11)) 12) _ _ _ hm hb (by constructor <;> omega)))
   ·
    intro vf pf hmu hR
    have e3 := hR 3 (by decide)
    have e7 : (∃ pm_, (pf 7) = [pm_] ∧ (fun u_ p_ => (∃ x_ : Int, u_ = .int .i64 x_ ∧ 0 ≤ x_ ∧ x_ < min (2 * (((1 + (1 + xhR4)) + xhR8) + xhR11)) 12) ∧ p_ = curE g a len cap) (vf 7) pm_) := hR 7 (by decide)
    obtain ⟨p64, pE7, hR65⟩ := e7
    obtain ⟨v63, vE7⟩ : ∃ x, vf 7 = x := ⟨_, rfl⟩
    rw [vE7] at hR65
    obtain ⟨⟨xhR65, rfl, xhR650, xhR651⟩, rfl⟩ := hR65
    refine dqQ [3, 7] [3, 7] rfl (zcc (sk 121 (congrArg some e3.1) (sk 125 (congrArg some vE7) (zab _))) (by simp only [pE7, vE7, e3.2, fS] <;> rfl) ?_)
    exact zco (zbd (vsQ rfl rfl rfl)) (fun _ _ h => ⟨h.1.trans (by show _ = (.int .i64 (((2 * (((1 + (1 + xhR4)) + xhR8) + xhR11)) - 1) - (intOf_o (vf 7))) : Value); first | (rw [vE7]; done) | (rw [vE7]; rfl)), h.2⟩)
   intro vf pf hmu hR
   have e7 : (∃ pm_, (pf 7) = [pm_] ∧ (fun u_ p_ => (∃ x_ : Int, u_ = .int .i64 x_ ∧ 0 ≤ x_ ∧ x_ < min (2 * (((1 + (1 + xhR4)) + xhR8) + xhR11)) 12) ∧ p_ = curE g a len cap) (vf 7) pm_) := hR 7 (by decide)
   obtain ⟨p64, pE7, hR65⟩ := e7
   obtain ⟨v63, vE7⟩ : ∃ x, vf 7 = x := ⟨_, rfl⟩
   rw [vE7] at hR65
   obtain ⟨⟨xhR65, rfl, xhR650, xhR651⟩, rfl⟩ := hR65
   have e8 : (vf 8) = .int .i64 (((2 * (((1 + (1 + xhR4)) + xhR8) + xhR11)) - 1) - (intOf_o (vf 7))) ∧ (pf 8) = [] := hR 8 (by decide)
   rw [vE7] at e8
   refine dqQ [7, 8] [7, 8] rfl (zcc (sk 126 (congrArg some e8.1) (zab _)) (by simp only [pE7, vE7, e8.2, fS] <;> rfl) ?_)
   exact zco (zau (z := .int .i64 0) (s := 1) (cs := ([((2 * (((1 + (1 + xhR4)) + xhR8) + xhR11)) - 1) - xhR65].map (Value.int .i64))) rfl Try.underlying26 rfl (by decide) rfl (by kernel_rfl) rfl) (fun v_ p_ h => by show IsRow 3 1 1 ([((2 * (((1 + (1 + xhR4)) + xhR8) + xhR11)) - 1) - (intOf_o (vf 7))].map (Value.int .i64)) v_ p_; rw [vE7]; exact h)
  intro vf pf hmu hR
  have e1 := hR 1 (by decide)
  have e7 : (∃ pm_, (pf 7) = [pm_] ∧ (fun u_ p_ => (∃ x_ : Int, u_ = .int .i64 x_ ∧ 0 ≤ x_ ∧ x_ < min (2 * (((1 + (1 + xhR4)) + xhR8) + xhR11)) 12) ∧ p_ = curE g a len cap) (vf 7) pm_) := hR 7 (by decide)
  obtain ⟨p64, pE7, hR65⟩ := e7
  obtain ⟨v63, vE7⟩ : ∃ x, vf 7 = x := ⟨_, rfl⟩
  rw [vE7] at hR65
  obtain ⟨⟨xhR65, rfl, xhR650, xhR651⟩, rfl⟩ := hR65
  have e9 : IsRow 3 1 1 ([((2 * (((1 + (1 + xhR4)) + xhR8) + xhR11)) - 1) - (intOf_o (vf 7))].map (Value.int .i64)) (vf 9) (pf 9) := hR 9 (by decide)
  rw [vE7] at e9
  obtain ⟨g66, vE9, pE9⟩ := e9
  have q0 := hR 0 (by decide)
  have q1 := hR 1 (by decide)
  have q2 := hR 2 (by decide)
  have q3 := hR 3 (by decide)
  have q4 := hR 4 (by decide)
  have q5 := hR 5 (by decide)
  have q6 := hR 6 (by decide)
  have q8 := hR 8 (by decide)
  refine zce (zbe [115, 70, 39, 18, 16, 12, 11, 10, 9, 8, 3, 2, 1, 0] _ (sk 119 (congrArg some e1.1) (sk 127 (congrArg some vE9) (zab _))) rfl) (by simp only [pE7, vE7, pE9, vE9, q0.2, q1.2, q2.2, q3.2, q4.2, q5.2, q6.2, q8.2, fS] <;> rfl) ?_
  simp only [List.drop_succ_cons, List.drop_zero]
  refine zcf (i := 5) (z := .int .i64 0) (bytes := 8) rfl rfl rfl rfl Try.underlying26 (by kernel_rfl) rfl rfl rfl rfl (zah 1 rfl) (zbw _) (by first | omega | (simp; done) | (simp; omega)) (zbt os ([((2 * (((1 + (1 + xhR4)) + xhR8) + xhR11)) - 1) - xhR65])) (zcn os ([((2 * (((1 + (1 + xhR4)) + xhR8) + xhR11)) - 1) - xhR65])) (fun _ => rfl) ?_
  intro v67
  refine hvQ rfl (fdQ 3 rfl rfl rfl) (zcr (i := 5) rfl (fun ho68 => ?_))
  refine zed (i := 6) (cs' := #[.int .i64 (1 + xhR4), uq, u, v67]) rfl rfl rfl rfl rfl rfl ho68 rfl rfl rfl rfl (zcb (zcv (reQ 1 rfl (hvQ rfl (vsQ rfl rfl rfl) (enQ 1 rfl ?_)))))
  refine zbo 8 [0, 7, 6, 5, 4, 3, 2] rfl rfl (by decide) ?_
  exact zbi (k - 1) v67 (os ++ ([((2 * (((1 + (1 + xhR4)) + xhR8) + xhR11)) - 1) - xhR65])) ⟨by omega, by simp; omega, os_app hoo (by unfold LtOk; omega)⟩ (by omega) (saQ rfl) (.refl _)
 refine ntQ (zaq rfl ?_)
 refine zaz (zdr ?_)
 refine zaf (zax (srQ (hvQ rfl (zar (cs := [.int .i64 (1 + xhR4), uq, u, uo]) rfl rfl rfl rfl rfl (zam 4 rfl 0 rfl)) ?_)))
 refine zcr (i := 3) rfl (fun ho69 => ?_)
 refine zcr (i := 2) rfl (fun ho70 => ?_)
 refine zcr (i := 1) rfl (fun ho71 => ?_)
 refine zbr (cs' := #[.int .i64 (1 + xhR4), uq, u, uo]) (i := 5) (off := 0) (us := [.int .i64 (1 + xhR4), uq, u, uo]) rfl rfl rfl rfl rfl rfl rfl (zae rfl (zae ho71 (zae ho70 (zae ho69 zbj)))) rfl rfl rfl (ntQ ?_)
 refine zav (hq_oneX (i := 1) rfl (fun oQ => ?_))
 refine hq_oneX (i := 2) rfl (fun oA => ?_)
 refine hq_oneX (i := 3) rfl (fun oO => ?_)
 refine zbo 7 [5, 6, 3, 2, 1, 0] rfl rfl (by decide) ?_
 refine zet (bigE [curE g a len cap, ntE (Nt.mk (1 + xhR4) uq u uo ss gs os)] :: boxE b1 #[.int .i64 (1 + xhR4), uq, u, uo] 101 :: l) (fun w hm => by
     have h1 : Mem _ ([bigE (ss.map sqPart), rowE 35 3 uq ss.length (ss.flatMap sqC)] ++ (rowE 124 2 u gs.length (gs.flatMap anC) :: rowE 3 1 uo os.length (os.map (Value.int .i64)) :: curE g a len cap :: boxE b1 #[.int .i64 (1 + xhR4), uq, u, uo] 101 :: l)) w := hm
     have h2 : Mem _ ([sqsE uq ss, rowE 124 2 u gs.length (gs.flatMap anC), rowE 3 1 uo os.length (os.map (Value.int .i64))] ++ (curE g a len cap :: boxE b1 #[.int .i64 (1 + xhR4), uq, u, uo] 101 :: l)) w := h1.big
     have h3 : Mem _ (ntE (Nt.mk (1 + xhR4) uq u uo ss gs os) :: curE g a len cap :: boxE b1 #[.int .i64 (1 + xhR4), uq, u, uo] 101 :: l) w := Mem.big h2
     exact Mem.big (ps := [curE g a len cap, ntE (Nt.mk (1 + xhR4) uq u uo ss gs os)]) (h3.perm (.swap _ _ _))) ?_
 exact hq_ret (rs := [.cell 8 101]) (vs := [.agg #[.int .i64 (1 + xhR4), uq, u, uo]]) rfl ⟨⟨b1, 0, [.int .i64 (1 + xhR4), uq, u, uo], rfl, rfl, by kernel_rfl, by kernel_rfl, zam 1 rfl 0 rfl⟩, trivial⟩ rfl (fun w hm => ⟨_, bigE [curE g a len cap, ntE (Nt.mk (1 + xhR4) uq u uo ss gs os)], rfl, ⟨Nt.mk (1 + xhR4) uq u uo ss gs os, rfl, rfl, ⟨oQ, oA, oO⟩, nt_mk (by omega) (by omega) (by omega) (by omega) (by omega) hso hgo hoo (by omega) (by omega), by dsimp only; omega, by dsimp only; omega, by dsimp only; omega⟩, hm.sub (.cons_cons _ (.cons _ (.refl _)))⟩)
open Go.RowKit
theorem and01 {a b : Int} (ha : a = 0 ∨ a = 1) (hb : b = 0 ∨ b = 1) : bits .and .i64 a b = a * b := by
  rcases ha with e | e <;> rcases hb with e' | e' <;> rw [e, e'] <;> decide
theorem xor01 {a l : Int} (ha : a = 0 ∨ a = 1) : bits .xor .i64 a (l % 2) = if l % 2 = 0 then a else 1 - a := by
  rcases (show l % 2 = 0 ∨ l % 2 = 1 by omega) with e | e <;> rcases ha with e' | e' <;> rw [e, e'] <;> decide
theorem mul_01 {a b : Int} (ha : a = 0 ∨ a = 1) (hb : b = 0 ∨ b = 1) : a * b = 0 ∨ a * b = 1 := by
  rcases ha with e | e <;> rcases hb with e' | e' <;> rw [e, e'] <;> decide
theorem l01In_any0 (x lo hi : Int) (w : World)  :
   Calls Try.prog 69 #[.int .i64 x, .int .i64 lo, .int .i64 hi] w (Ans w (.bool (inR x lo hi))) := by
 refine zbf (N := 15) (args := [.int .i64 x, .int .i64 lo, .int .i64 hi]) Try.func69 rfl rfl (zbc 1 rfl (zac (reQ 2 rfl ?_)))
 refine zfh rfl rfl rfl rfl rfl rfl (fun h1 => ?_) (fun h1 => ?_)
 ·
  refine zan 3 rfl (hl_leq rfl rfl rfl rfl rfl rfl (fun h2 => ?_) (fun h2 => ?_))
  ·
   refine zbb 2 rfl ?_
   exact zav (zbg rfl rfl (congrArg _ (((zdm _ _ _).2 (by omega)).symm)))
  refine zbb 2 rfl ?_
  exact zav (zbg rfl rfl (congrArg _ ((Bool.eq_false_iff.2 (fun h => by have := (zdm _ _ _).1 h; omega)).symm)))
 refine zbb 6 rfl ?_
 exact zav (zbg rfl rfl (congrArg _ ((Bool.eq_false_iff.2 (fun h => by have := (zdm _ _ _).1 h; omega)).symm)))
theorem zbs (n : Nt) (w : World) (hr : RdsNt w n) (hn : NtOk n) :
   Calls Try.prog 78 #[.agg #[.int .i64 n.ins, n.sv, n.av, n.ov]] w (Ans w (.int .i64 n.cnt)) := by
 have hi0 := hn.i0
 have hi1 := hn.i1
 have hs1 := hn.s1
 have ha1 := hn.a1
 have ho1 := hn.o1
 have hcnt : n.cnt = 1 + n.ins + n.ss.length + n.gs.length := rfl
 have hfst : n.fst = 1 + n.ins + n.ss.length := rfl
 refine zbf (N := 36) (args := [.agg #[.int .i64 n.ins, n.sv, n.av, n.ov]]) Try.func78 rfl rfl (srQ ?_)
 refine zdt rfl (zct rfl rfl) ?_
 intro b1
 refine zbb 1 rfl (zfl (hvQ rfl (fdQ 0 rfl rfl rfl) (hvQ rfl (zag rfl rfl rfl (zad 0 rfl rfl)) ?_)))
 refine zdn rfl (zal rfl rfl (fun w hm => zas (l01In_any0 n.ins 0 20 w))) (zbl (fun h2 => ?_) (fun h2 => absurd ((((zdm _ _ _).2 (by omega))).symm.trans h2) (by decide)))
 refine zan 2 rfl (hvQ rfl (fdQ 1 rfl rfl rfl) (hvQ rfl (zag rfl rfl rfl (zad 0 rfl rfl)) (hvQ rfl (lnQ rfl rfl rfl (zaa hr.sq)) ?_)))
 refine zfa rfl rfl rfl rfl rfl rfl (fun h3 => absurd h3 (by omega)) (fun h3 => ?_)
 refine zan 2 rfl (hvQ rfl (fdQ 2 rfl rfl rfl) (hvQ rfl (zag rfl rfl rfl (zad 0 rfl rfl)) (hvQ rfl (lnQ rfl rfl rfl (zaa hr.an)) ?_)))
 refine zfa rfl rfl rfl rfl rfl rfl (fun h4 => absurd h4 (by omega)) (fun h4 => ?_)
 refine zan 2 rfl (hvQ rfl (fdQ 3 rfl rfl rfl) (hvQ rfl (zag rfl rfl rfl (zad 0 rfl rfl)) (hvQ rfl (lnQ rfl rfl rfl (zaa hr.ou)) ?_)))
 refine zfa rfl rfl rfl rfl rfl rfl (fun h5 => absurd h5 (by omega)) (fun h5 => ?_)
 refine zbb 1 rfl (zaq rfl (zcp (srQ (hvQ rfl (fdQ 0 rfl rfl rfl) (hvQ rfl (zag rfl rfl rfl (zad 0 rfl rfl)) (hvQ rfl (vaQ rfl rfl rfl) (hvQ rfl (fdQ 1 rfl rfl rfl) (hvQ rfl (zag rfl rfl rfl (zad 0 rfl rfl)) ?_))))))))
 refine hvQ rfl (lnQ rfl rfl rfl (zaa hr.sq)) (hvQ rfl (vaQ rfl rfl rfl) (hvQ rfl (fdQ 2 rfl rfl rfl) (hvQ rfl (zag rfl rfl rfl (zad 0 rfl rfl)) (hvQ rfl (lnQ rfl rfl rfl (zaa hr.an)) (hvQ rfl (vaQ rfl rfl rfl) (zbb 1 rfl ?_))))))
 exact zav (zbg rfl rfl rfl)
theorem zbz (n : Nt) (w : World) (hr : RdsNt w n) (hn : NtOk n) :
   Calls Try.prog 61 #[.agg #[.int .i64 n.ins, n.sv, n.av, n.ov]] w (Ans w (.int .i64 n.fst)) := by
 have hi0 := hn.i0
 have hi1 := hn.i1
 have hs1 := hn.s1
 have ha1 := hn.a1
 have ho1 := hn.o1
 have hcnt : n.cnt = 1 + n.ins + n.ss.length + n.gs.length := rfl
 have hfst : n.fst = 1 + n.ins + n.ss.length := rfl
 refine zbf (N := 10) (args := [.agg #[.int .i64 n.ins, n.sv, n.av, n.ov]]) Try.func61 rfl rfl (srQ ?_)
 refine zdt rfl (zct rfl rfl) ?_
 intro b1
 refine zbb 1 rfl (srQ (hvQ rfl (fdQ 0 rfl rfl rfl) (hvQ rfl (zag rfl rfl rfl (zad 0 rfl rfl)) (hvQ rfl (vaQ rfl rfl rfl) (hvQ rfl (fdQ 1 rfl rfl rfl) (hvQ rfl (zag rfl rfl rfl (zad 0 rfl rfl)) (hvQ rfl (lnQ rfl rfl rfl (zaa hr.sq)) (hvQ rfl (vaQ rfl rfl rfl) (zan 1 rfl ?_)))))))))
 refine ntQ ?_
 exact zav (zbg rfl rfl rfl)
theorem zgl (x m : Int) (w : World) (hx : LtOk x m) (hm : m ≤ 100000) :
   Calls Try.prog 88 #[.int .i64 x, .int .i64 m] w (Ans w (.bool true)) := by
 unfold LtOk at hx
 refine zbf (N := 13) (args := [.int .i64 x, .int .i64 m]) Try.func88 rfl rfl (zbc 1 rfl (zac (reQ 1 rfl ?_)))
 refine zfh rfl rfl rfl rfl rfl rfl (fun h1 => ?_) (fun h1 => absurd h1 (by omega))
 refine zan 2 rfl (hvQ rfl (zep rfl rfl rfl (by refine ⟨?_, ?_, ?_⟩ <;> omega)) ?_)
 refine zan 1 rfl (zbh rfl rfl rfl rfl rfl rfl (fun h2 => ?_) (fun h2 => absurd h2 (by omega)))
 refine zbb 2 rfl ?_
 exact zav (zbg rfl rfl rfl)
theorem l08Roots_ret (n : Nt) (w : World) (hr : RdsNt w n) (hn : NtOk n) :
   Calls Try.prog 79 #[.agg #[.int .i64 n.ins, n.sv, n.av, n.ov]] w (Ret w (fun v' post => post = [rowE 3 1 v' (rtsL n n.ss.length).length ((rtsL n n.ss.length).map (Value.int .i64))])) := by
 have hi0 := hn.i0
 have hi1 := hn.i1
 have hs1 := hn.s1
 have ha1 := hn.a1
 have ho1 := hn.o1
 have hcnt : n.cnt = 1 + n.ins + n.ss.length + n.gs.length := rfl
 have hfst : n.fst = 1 + n.ins + n.ss.length := rfl
 refine zbf (N := 25) (args := [.agg #[.int .i64 n.ins, n.sv, n.av, n.ov]]) Try.func79 rfl rfl (srQ ?_)
 refine zdt rfl (zct rfl rfl) ?_
 intro b1
 refine zbb 1 rfl (srQ ?_)
 refine zdu rfl (zcq (s := 1) rfl Try.underlying26 rfl) ?_
 intro g2
 refine hvQ rfl (fdQ 3 rfl rfl rfl) (hvQ rfl (zag rfl rfl rfl (zad 1 rfl rfl)) ?_)
 refine zcf (i := 0) (z := .int .i64 0) (bytes := 8) (n' := n.os.length) (xs' := (n.os.map (Value.int .i64))) rfl rfl rfl rfl Try.underlying26 (by kernel_rfl) rfl rfl rfl rfl (zaa hr.ou) (zbw _) (by first | omega | (simp; done) | (simp; omega)) (Nat.zero_add _) (List.nil_append _) (fun _ => rfl) ?_
 intro v3
 refine zbb 1 rfl (zac (zbc 1 rfl (zaw ?_)))
 refine lkQ3 (α := Nat) (β := Value) (γ := List Int) [0, 1, 2] rfl (fun k u zs => [rowE 3 1 u zs.length (zs.map (Value.int .i64)), boxE b1 #[.int .i64 n.ins, n.sv, n.av, n.ov] 101]) (fun k u zs => [(3, u), (4, .int .i64 (k : Int))]) (fun k u zs => k ≤ n.ss.length ∧ zs = rtsL n k) (fun k u zs => n.ss.length - k) 0 _ n.os ⟨by omega, by simp [rtsL]⟩ (saQ rfl) (pfQ rfl) ?_
 intro k u zs hi4
 obtain ⟨hk, hz⟩ := hi4
 have hzl : zs.length ≤ 16 + 4 * k := by rw [hz]; exact rts_len hn k hk
 refine zac (zac (reQ 1 rfl (hvQ rfl (fdQ 1 rfl rfl rfl) (hvQ rfl (zag rfl rfl rfl (zad 1 rfl rfl)) (hvQ rfl (lnQ rfl rfl rfl (zaa hr.sq)) ?_)))))
 refine zbh rfl rfl rfl rfl rfl rfl (fun h5 => ?_) (fun h5 => ?_)
 ·
  refine ntQ (zao rfl (zcp (sbQ (reQ 1 rfl (hvQ rfl (fdQ 1 rfl rfl rfl) ?_)))))
  have hx4 := (hn.sq _ (zch (d := sq0) (show k < n.ss.length by omega))).len
  refine hvQ rfl (zag rfl rfl rfl (zad 1 rfl rfl)) (zan 1 rfl (hvQ rfl (riQ 3 rfl rfl rfl rfl (zaa hr.sq)) (hvQ rfl (zbx (k0 := 2) rfl rfl rfl (zaa hr.sq) (by omega)) ?_)))
  refine hvQ rfl (zat (u := (n.ss.getD k sq0).iv) rfl rfl rfl (zaa hr.sq) ((zcy sqC 3 (fun _ => rfl) n.ss sq0 (show k < _ by omega) (by decide)).trans rfl)) (zcf (i := 0) (z := .int .i64 0) (bytes := 8) rfl rfl rfl rfl Try.underlying26 (by kernel_rfl) rfl rfl rfl rfl (fun w hm => (hr.at (k := k) (by omega)).below hm.bel) (zbw _) (by first | omega | (simp; done) | (simp; omega)) (zbt zs ((n.ss.getD k sq0).xs)) (zcn zs ((n.ss.getD k sq0).xs)) (fun _ => rfl) ?_)
  intro v6
  refine enQ 1 rfl (zcv (reQ 1 rfl (hvQ rfl (vaQ rfl rfl rfl) (enQ 1 rfl ?_))))
  exact zbi (k + 1) v6 (zs ++ ((n.ss.getD k sq0).xs)) ⟨by omega, by rw [hz, rts_step n (by omega)]⟩ (by omega) (saQ rfl) (pfQ rfl)
 refine ntQ (zaq rfl ?_)
 refine zaz (zdr ?_)
 refine zaf (zax (zbc 2 rfl ?_))
 exact zav (zdc (post := [rowE 3 1 u zs.length (zs.map (Value.int .i64))]) rfl rfl (slQ [0] rfl) (by rw [hz, show k = n.ss.length by omega]))
theorem zds (n : Nt) (w : World) (hr : RdsNt w n) (hn : NtOk n) :
   Calls Try.prog 73 #[.agg #[.int .i64 n.ins, n.sv, n.av, n.ov]] w (Ans w (.bool true)) := by
 have hi0 := hn.i0
 have hi1 := hn.i1
 have hs1 := hn.s1
 have ha1 := hn.a1
 have ho1 := hn.o1
 have hcnt : n.cnt = 1 + n.ins + n.ss.length + n.gs.length := rfl
 have hfst : n.fst = 1 + n.ins + n.ss.length := rfl
 refine zbf (N := 104) (args := [.agg #[.int .i64 n.ins, n.sv, n.av, n.ov]]) Try.func73 rfl rfl (srQ ?_)
 refine zdt rfl (zct rfl rfl) ?_
 intro b1
 refine zbb 1 rfl (srQ (hvQ rfl (zar (cs := [.int .i64 n.ins, n.sv, n.av, n.ov]) rfl rfl rfl rfl rfl (zam 0 rfl 0 rfl)) ?_))
 refine zdn rfl (zal rfl rfl (fun w hm => zas (zbs n w (hr.below hm.bel) hn))) (zbb 1 rfl (zac (zac (reQ 1 rfl ?_))))
 refine zcu rfl rfl rfl rfl rfl rfl (fun h2 => absurd h2 (by omega)) (fun h2 => ?_)
 refine ntQ (zaq rfl (zcp (zac (zbc 1 rfl (zaw ?_)))))
 refine lkQ1 (α := Nat) [0, 1, 2, 3, 12] rfl (fun k => [boxE b1 #[.int .i64 n.ins, n.sv, n.av, n.ov] 101]) (fun k => [(4, .int .i64 (k : Int))]) (fun k => k ≤ n.ss.length) (fun k => n.ss.length - k) 0 (Nat.zero_le _) (saQ rfl) (pfQ rfl) ?_
 intro k hi3
 have hk := hi3
 refine zac (zac (reQ 1 rfl (hvQ rfl (fdQ 1 rfl rfl rfl) (hvQ rfl (zag rfl rfl rfl (zad 0 rfl rfl)) (hvQ rfl (lnQ rfl rfl rfl (zaa hr.sq)) ?_)))))
 refine zbh rfl rfl rfl rfl rfl rfl (fun h4 => ?_) (fun h4 => ?_)
 ·
  refine ntQ (zao rfl (zcp (sbQ (srQ ?_))))
  have hqk := (hn.sq _ (zch (d := sq0) (show k < n.ss.length by omega))).kind
  refine hvQ rfl (fdQ 1 rfl rfl rfl) (hvQ rfl (zag rfl rfl rfl (zad 0 rfl rfl)) (zan 1 rfl (hvQ rfl (riQ 3 rfl rfl rfl rfl (zaa hr.sq)) ?_)))
  refine hvQ rfl (zcl (us := [.int .i64 ((n.ss.getD k sq0).kd), .int .i64 ((n.ss.getD k sq0).it), (n.ss.getD k sq0).iv]) rfl rfl rfl rfl (zaa hr.sq) (by omega) rfl (zde sqC 3 (fun _ => rfl) n.ss sq0 (show k < _ by omega) rfl)) (zdt rfl (zbm (z := .agg #[.int .i64 0, .int .i64 0, .slice none 0 0]) rfl rfl) ?_)
  intro b5
  refine zbr (cs' := #[.int .i64 ((n.ss.getD k sq0).kd), .int .i64 ((n.ss.getD k sq0).it), (n.ss.getD k sq0).iv]) (i := 0) (off := 0) (us := [.int .i64 ((n.ss.getD k sq0).kd), .int .i64 ((n.ss.getD k sq0).it), (n.ss.getD k sq0).iv]) rfl rfl rfl rfl rfl rfl rfl (zae rfl (zae rfl (zae (hr.at (k := k) (by omega)).one zbj))) rfl rfl rfl (ntQ (srQ (hvQ rfl (fdQ 0 rfl rfl rfl) (hvQ rfl (zag rfl rfl rfl (zad 0 rfl rfl)) ?_))))
  refine zcu rfl rfl rfl rfl rfl rfl (fun h6 => ?_) (fun h6 => ?_)
  ·
   refine zan 1 rfl (hvQ rfl (fdQ 1 rfl rfl rfl) (hvQ rfl (zag rfl rfl rfl (zad 0 rfl rfl)) ?_))
   refine zdn rfl (zal rfl rfl (fun w hm => zas (l01In_any0 ((n.ss.getD k sq0).it) 0 1 w))) (zbl (fun h7 => ?_) (fun h7 => absurd ((((zdm _ _ _).2 (by omega))).symm.trans h7) (by decide)))
   refine zan 2 rfl (hvQ rfl (fdQ 2 rfl rfl rfl) (hvQ rfl (zag rfl rfl rfl (zad 0 rfl rfl)) ?_))
   refine hvQ rfl (lnQ rfl rfl rfl (fun w hm => (hr.at (k := k) (by omega)).below hm.bel)) (zcu rfl rfl rfl rfl rfl rfl (fun h8 => ?_) (fun h8 => ?_))
   ·
    refine zbb 18 rfl (fsQ rfl (zcv (reQ 1 rfl (hvQ rfl (vaQ rfl rfl rfl) (enQ 1 rfl ?_)))))
    exact zck (k + 1) (by omega) (by omega) (saQ rfl) (slQ [1] rfl)
   refine zan 2 rfl (hvQ rfl (fdQ 0 rfl rfl rfl) (hvQ rfl (zag rfl rfl rfl (zad 0 rfl rfl)) ?_))
   refine zcu rfl rfl rfl rfl rfl rfl (fun h9 => ?_) (fun h9 => ?_)
   ·
    refine zan 1 rfl (hvQ rfl (fdQ 1 rfl rfl rfl) (hvQ rfl (zag rfl rfl rfl (zad 0 rfl rfl)) ?_))
    refine zdn rfl (zal rfl rfl (fun w hm => zas (l01In_any0 ((n.ss.getD k sq0).it) 0 31 w))) (zbl (fun h10 => ?_) (fun h10 => absurd ((((zdm _ _ _).2 (by omega))).symm.trans h10) (by decide)))
    refine zan 2 rfl (hvQ rfl (fdQ 2 rfl rfl rfl) (hvQ rfl (zag rfl rfl rfl (zad 0 rfl rfl)) ?_))
    refine hvQ rfl (lnQ rfl rfl rfl (fun w hm => (hr.at (k := k) (by omega)).below hm.bel)) (zcu rfl rfl rfl rfl rfl rfl (fun h11 => ?_) (fun h11 => ?_))
    ·
     refine zbb 3 rfl (fsQ rfl (zcv (reQ 1 rfl (hvQ rfl (vaQ rfl rfl rfl) (enQ 1 rfl ?_)))))
     exact zck (k + 1) (by omega) (by omega) (saQ rfl) (slQ [1] rfl)
    refine zbb 3 rfl (zao rfl (zbc 1 rfl ?_))
    refine zav (zak ?_)
    refine zfs ?_
    refine zak (zap ?_)
    exfalso
    omega
   refine zbb 13 rfl (zao rfl ?_)
   refine zbc 1 rfl ?_
   refine zav (zak ?_)
   refine zfs ?_
   refine zak (zap ?_)
   exfalso
   omega
  refine zan 12 rfl (hvQ rfl (fdQ 0 rfl rfl rfl) (hvQ rfl (zag rfl rfl rfl (zad 0 rfl rfl)) ?_))
  refine zcu rfl rfl rfl rfl rfl rfl (fun h12 => ?_) (fun h12 => ?_)
  ·
   refine zan 1 rfl (hvQ rfl (fdQ 1 rfl rfl rfl) (hvQ rfl (zag rfl rfl rfl (zad 0 rfl rfl)) ?_))
   refine zdn rfl (zal rfl rfl (fun w hm => zas (l01In_any0 ((n.ss.getD k sq0).it) 0 31 w))) (zbl (fun h13 => ?_) (fun h13 => absurd ((((zdm _ _ _).2 (by omega))).symm.trans h13) (by decide)))
   refine zan 2 rfl (hvQ rfl (fdQ 2 rfl rfl rfl) (hvQ rfl (zag rfl rfl rfl (zad 0 rfl rfl)) ?_))
   refine hvQ rfl (lnQ rfl rfl rfl (fun w hm => (hr.at (k := k) (by omega)).below hm.bel)) (zcu rfl rfl rfl rfl rfl rfl (fun h14 => ?_) (fun h14 => ?_))
   ·
    refine zbb 3 rfl (fsQ rfl (zcv (reQ 1 rfl (hvQ rfl (vaQ rfl rfl rfl) (enQ 1 rfl ?_)))))
    exact zck (k + 1) (by omega) (by omega) (saQ rfl) (slQ [1] rfl)
   refine zbb 3 rfl (zao rfl (zbc 1 rfl ?_))
   refine zav (zak ?_)
   refine zfs ?_
   refine zak (zap ?_)
   exfalso
   omega
  refine zbb 13 rfl (zao rfl ?_)
  refine zbc 1 rfl ?_
  refine zav (zak ?_)
  refine zfs ?_
  refine zak (zap ?_)
  exfalso
  omega
 refine ntQ (zaq rfl ?_)
 refine zaz (zdr ?_)
 refine zaf (zax (srQ (hvQ rfl (zar (cs := [.int .i64 n.ins, n.sv, n.av, n.ov]) rfl rfl rfl rfl rfl (zam 0 rfl 0 rfl)) ?_)))
 refine hl_q rfl rfl rfl (zal rfl rfl (fun w hm => l08Roots_ret n w (hr.below hm.bel) hn)) ?_
 intro v15 p16 hR17
 subst hR17
 refine zbb 1 rfl (zac (zbc 1 rfl (zaw ?_)))
 refine lkQ1 (α := Nat) [0, 1, 2, 3, 6, 12, 17] rfl (fun q => [rowE 3 1 v15 ((rtsL n n.ss.length).length) ((rtsL n n.ss.length).map (Value.int .i64)), boxE b1 #[.int .i64 n.ins, n.sv, n.av, n.ov] 101]) (fun q => [(7, .int .i64 (q : Int))]) (fun q => q ≤ (rtsL n n.ss.length).length) (fun q => (rtsL n n.ss.length).length - q) 0 (Nat.zero_le _) (saQ rfl) (pfQ rfl) ?_
 intro q hi18
 have hq := hi18
 refine zfl ?_
 have hzl := rts_len hn n.ss.length (Nat.le_refl _)
 refine zan 2 rfl (hvQ rfl (lnQ rfl rfl rfl (zah 0 rfl)) ?_)
 refine zbh rfl rfl rfl rfl rfl rfl (fun h19 => ?_) (fun h19 => ?_)
 ·
  refine ntQ (zao rfl (zcp (sbQ (srQ ?_))))
  have hlk := rts_ok hn (i := q) (by omega)
  have hzl := rts_len hn n.ss.length (Nat.le_refl _)
  refine zan 2 rfl (hvQ rfl (riQ 1 rfl rfl rfl rfl (zah 0 rfl)) (hvQ rfl (zat (u := .int .i64 ((rtsL n n.ss.length).getD q 0)) rfl rfl rfl (zah 0 rfl) (zdi (show _ < (rtsL n n.ss.length).length by omega))) (zan 1 rfl ?_)))
  refine zdn rfl (zal rfl rfl (fun w hm => zas (zgl ((rtsL n n.ss.length).getD q 0) n.cnt w (by first | assumption | (unfold LtOk; omega)) (by omega)))) (zbb 1 rfl (fsQ rfl (zcv (reQ 1 rfl (hvQ rfl (vaQ rfl rfl rfl) (enQ 1 rfl ?_))))))
  exact zck (q + 1) (by omega) (by omega) (saQ rfl) (pfQ rfl)
 refine ntQ (zaq rfl ?_)
 refine zaz (zdr ?_)
 refine zaf (zax (zac (zbc 1 rfl (zaw ?_))))
 refine lkQ1 (α := Nat) [0, 1, 2, 3, 6, 12, 17, 61] rfl (fun j => [rowE 3 1 v15 ((rtsL n n.ss.length).length) ((rtsL n n.ss.length).map (Value.int .i64)), boxE b1 #[.int .i64 n.ins, n.sv, n.av, n.ov] 101]) (fun j => [(8, .int .i64 (j : Int))]) (fun j => j ≤ n.gs.length) (fun j => n.gs.length - j) 0 (Nat.zero_le _) (saQ rfl) (pfQ rfl) ?_
 intro j hi20
 have hj := hi20
 refine zac (zac (reQ 1 rfl (hvQ rfl (fdQ 2 rfl rfl rfl) (hvQ rfl (zag rfl rfl rfl (zad 1 rfl rfl)) (hvQ rfl (lnQ rfl rfl rfl (zaa hr.an)) ?_)))))
 refine zbh rfl rfl rfl rfl rfl rfl (fun h21 => ?_) (fun h21 => ?_)
 ·
  refine ntQ (zao rfl (zcp (sbQ (zac ?_))))
  have hlj := hn.an j (by omega)
  obtain ⟨hlj1, hlj2⟩ := hlj
  refine zbk 26 [[], [0], [], [1, 2], [3], [4], [], [6], [], [7, 8], [5, 9], [10], [11], [12], [12, 13], [12], [12, 14, 15], [12, 16], [12, 17], [12], [12, 19], [12], [12, 20, 21], [12, 18, 22], [12, 23], [12, 24]] [78, 79, 80, 81, 82, 83, 84, 85, 86, 87, 88, 89, 90, 91, 92, 93, 94, 95, 96, 97, 98, 99, 100, 101, 102, 103] [.pointer (some ⟨b1, 0 + 2, none⟩), n.av, .int .i64 (j : Int), elP n.av (((j : Int)).toNat * 2), elP n.av (((j : Int)).toNat * 2 + 0), .int .i64 ((n.gs.getD j an0).a), .agg #[.int .i64 n.ins, n.sv, n.av, n.ov], .int .i64 n.fst, .int .i64 (j : Int), .int .i64 (n.fst + (j : Int)), .bool true, .bool false, .bool false, .pointer (some ⟨b1, 0 + 2, none⟩), n.av, .int .i64 (j : Int), elP n.av (((j : Int)).toNat * 2), elP n.av (((j : Int)).toNat * 2 + 1), .int .i64 ((n.gs.getD j an0).b), .agg #[.int .i64 n.ins, n.sv, n.av, n.ov], .int .i64 n.fst, .int .i64 (j : Int), .int .i64 (n.fst + (j : Int)), .bool true, .bool false, .bool false] (by kernel_rfl) rfl ?_ ?_
  ·
   exact ⟨iaQ rfl (fdQ 2 rfl rfl rfl) rfl, iaQ rfl (zag rfl rfl rfl (zad 1 rfl rfl)) rfl, iaQ rfl (zaj rfl) rfl, iaQ rfl (riQ 2 rfl rfl rfl rfl (zaa hr.an)) rfl, iaQ rfl (zbx (k0 := 0) rfl rfl rfl (zaa hr.an) (by omega)) rfl, iaQ rfl (zat (u := .int .i64 ((n.gs.getD j an0).a)) rfl rfl rfl (zaa hr.an) ((zcy anC 2 (fun _ => rfl) n.gs an0 (show j < _ by omega) (by decide)).trans rfl)) rfl, iaQ rfl (zar (cs := [.int .i64 n.ins, n.sv, n.av, n.ov]) rfl rfl rfl rfl rfl (zam 1 rfl 0 rfl)) rfl, .inl ⟨rfl, zal rfl rfl (fun w hm => zas (zbz n w (hr.below hm.bel) hn))⟩, iaQ rfl (zaj rfl) rfl, iaQ rfl (vaQ rfl rfl rfl) rfl, .inl ⟨rfl, zal (by kernel_rfl) rfl (fun w hm => zas (zgl ((n.gs.getD j an0).a) (n.fst + (j : Int)) w (by first | assumption | (unfold LtOk; omega)) (by omega)))⟩, iaQ rfl (zaj rfl) rfl, iaQ rfl (zaj rfl) rfl, iaQ rfl (fdQ 2 rfl rfl rfl) rfl, iaQ rfl (zag rfl rfl rfl (zad 1 rfl rfl)) rfl, iaQ rfl (zaj rfl) rfl, iaQ rfl (riQ 2 rfl rfl rfl rfl (zaa hr.an)) rfl, iaQ rfl (zbx (k0 := 1) rfl rfl rfl (zaa hr.an) (by omega)) rfl, iaQ rfl (zat (u := .int .i64 ((n.gs.getD j an0).b)) rfl rfl rfl (zaa hr.an) ((zcy anC 2 (fun _ => rfl) n.gs an0 (show j < _ by omega) (by decide)).trans rfl)) rfl, iaQ rfl (zar (cs := [.int .i64 n.ins, n.sv, n.av, n.ov]) rfl rfl rfl rfl rfl (zam 1 rfl 0 rfl)) rfl, .inl ⟨rfl, zal rfl rfl (fun w hm => zas (zbz n w (hr.below hm.bel) hn))⟩, iaQ rfl (zaj rfl) rfl, iaQ rfl (vaQ rfl rfl rfl) rfl, .inl ⟨rfl, zal (by kernel_rfl) rfl (fun w hm => zas (zgl ((n.gs.getD j an0).b) (n.fst + (j : Int)) w (by first | assumption | (unfold LtOk; omega)) (by omega)))⟩, iaQ rfl (zaj rfl) rfl, iaQ rfl (zaj rfl) rfl, trivial⟩
  simp only [List.drop_succ_cons, List.drop_zero]
  refine ntQ (fsQ rfl (zcv (reQ 1 rfl (hvQ rfl (vaQ rfl rfl rfl) (enQ 1 rfl ?_)))))
  exact zck (j + 1) (by omega) (by omega) (saQ rfl) (pfQ rfl)
 refine ntQ (zaq rfl ?_)
 refine zaz (zdr ?_)
 refine zaf (zax (zbc 1 rfl ?_))
 exact zav (zbg rfl rfl rfl)
theorem l09Bit_ans (xs : List Int) (l : Int) (v : Value) (w : World) (hv : RdsW w v 1 xs.length (xs.map (Value.int .i64))) (hl : 0 ≤ l ∧ l < 2 * xs.length) (h01 : xs.getD (l / 2).toNat 0 = 0 ∨ xs.getD (l / 2).toNat 0 = 1) (hlen : xs.length ≤ 100000) :
   Calls Try.prog 95 #[v, .int .i64 l] w (Ans w (.int .i64 (bitL xs l))) := by
 refine zbf (N := 13) (args := [v, .int .i64 l]) Try.func95 rfl rfl (zbc 1 rfl (zac (reQ 2 rfl ?_)))
 refine hvQ rfl (zep rfl rfl rfl (by refine ⟨?_, ?_, ?_⟩ <;> omega)) ?_
 refine hvQ rfl (riQ 1 rfl rfl rfl rfl (zaa hv)) (hvQ rfl (lzQ rfl rfl rfl (zaa hv)) (zan 1 rfl (hvQ rfl (zdg rfl (by decide) rfl rfl (r := l % 2) (Bit.and_one _ (by omega) (by omega))) (hvQ rfl (zdg rfl (by decide) rfl rfl (r := bitL xs l) (xor01 h01)) (zbb 1 rfl ?_)))))
 exact zav (zbg rfl rfl rfl)
def tauOk4 (os : List Oper) (m K : Nat) (dps qd : List (List Nat)) (tau : List (Option Nat)) (fl : List Nat) : Bool :=
  (List.range m).all (fun i => (qd.getD i []).all (fun j => ((dps.getD i []).contains j || (Nat.ble os.length j && Nat.blt j (os.length + K))) && (List.range m).all (fun k => tau.getD k none != some j || (k != i && ((msk ((List.range os.length).map (depsOf os)) []).getD k 0).testBit i))) && decide ((qd.getD i []).Nodup)) &&
  (List.range m).all (fun i => match tau.getD i none with | none => true | some h => ((Nat.ble os.length h && Nat.blt h (os.length + K)) || (dps.getD i []).contains h) && (List.range m).all (fun k => k == i || tau.getD k none != some h)) &&
  fl.all (fun j => (Nat.blt j m || (Nat.ble os.length j && Nat.blt j (os.length + K))) && (List.range m).all (fun k => tau.getD k none != some j)) && decide fl.Nodup
section
variable {P : Program} {N : Nat} {w0 : World} {l : List HP} {env : List (Nat × Value)} {Q : Post} {os : List Oper} {m : Nat} {dps : List (List Nat)} {dsts : List (Option Nat)} {R : Nat → List Value → Value → List HP → Prop}
structure Mid4 (N : Nat) (w0 : World) (l : List HP) (env : List (Nat × Value)) (os : List Oper) (m : Nat) (dps : List (List Nat)) (dsts : List (Option Nat)) (R : Nat → List Value → Value → List HP → Prop) (tau : List (Option Nat)) (P0 : List (List HP)) (listed : Array Bool) (ord held : List Nat) (vf : Nat → Value) (pf : Nat → List HP) (a : Act) (w : World) : Prop where
  size : listed.size = os.length
  iff : ∀ i, i < os.length → (listed.getD i true = true ↔ i ∈ ord)
  low : ∀ i ∈ ord, i < m
  closed : ∀ i ∈ ord, ∀ j ∈ depsOf os i, j ∈ ord
  nodup : ord.Nodup
  dcl : ∀ i ∈ ord, ∀ j ∈ dps.getD i [], j ∈ ord
  rel : ∀ i ∈ ord, R i ((dps.getD i []).map vf) (vf i) (pf i)
  hn : held.Nodup
  hin : ∀ i ∈ held, i ∈ ord ∨ (os.length ≤ i ∧ i < os.length + P0.length)
  hall : ∀ i, (i ∈ ord ∨ (os.length ≤ i ∧ i < os.length + P0.length)) → (∀ j ∈ ord, tau.getD j none ≠ some i) → i ∈ held
  hP : ∀ k, k < P0.length → pf (os.length + k) = P0.getD k []
  mem : Mem w0 (held.flatMap pf ++ l) w
  asize : a.tmps.size = N
  defers : a.defers = []
  env : ∀ d v, lk env d = some v → a.tmps[d]? = some v
  slots : ∀ i ∈ ord, ∀ d, dsts[i]? = some (some d) → a.tmps[d]? = some (vf i)
theorem Mid4.st {tau P0 listed ord held vf pf a w} (h : Mid4 N w0 l env os m dps dsts R tau P0 listed ord held vf pf a w) (hm : m ≤ dsts.length) {is : List Nat} (hs : ∀ j ∈ is, j ∈ ord) {L : List HP} (hM : Mem w0 L w) : St N w0 L (envOf3 dsts vf is ++ env) a w := by
  refine ⟨hM, h.asize, h.defers, fun d v hd => ?_⟩
  rcases lk_append _ _ _ _ hd with h1 | h1
  · unfold envOf3 at h1
    rw [List.mem_filterMap] at h1
    obtain ⟨i, hi, he⟩ := h1
    rw [Option.map_eq_some_iff] at he
    obtain ⟨d', hd', he⟩ := he
    simp only [Prod.mk.injEq] at he
    obtain ⟨rfl, rfl⟩ := he
    have : dsts[i]? = some (some d') := by
      rw [List.getD_eq_getElem?_getD] at hd'
      cases hx : dsts[i]? with
      | none => rw [hx] at hd'; cases hd'
      | some y => rw [hx] at hd'; exact congrArg some hd'
    exact h.slots i (hs i hi) _ this
  · exact h.env d v h1
theorem hc_drawn4 {id : Nat} (hmix : P.follows .mixedOrders = true) (m : Nat) (dps : List (List Nat)) (dsts : List (Option Nat)) (R : Nat → List Value → Value → List HP → Prop) (qd : List (List Nat)) (tau : List (Option Nat)) (P0 : List (List HP)) (fl : List Nat) (hok : drawOk3 os m dps dsts = true) (htau : tauOk4 os m P0.length dps qd tau fl = true) (hfresh : dsts.all (fun d => match d with | some d => (lk env d).isNone | none => true) = true) (hN : dsts.all (fun d => match d with | some d => Nat.blt d N | none => true) = true)
    (due : ∀ i o, os[i]? = some o → i < m → ∀ vf pf, (∀ k, k < P0.length → pf (os.length + k) = P0.getD k []) → (∀ j ∈ dps.getD i [], R j ((dps.getD j []).map vf) (vf j) (pf j)) → Obl2 P os.toArray N w0 (tau.getD i none) pf ((qd.getD i []).flatMap pf ++ l) (envOf3 dsts vf (dps.getD i []) ++ env) o (R i ((dps.getD i []).map vf)))
    (fin : ∀ vf pf, (∀ k, k < P0.length → pf (os.length + k) = P0.getD k []) → (∀ i, i < m → R i ((dps.getD i []).map vf) (vf i) (pf i)) → HL P N os.toArray w0 (fl.flatMap pf ++ l) (envOf3 dsts vf (List.range m) ++ env) (os.drop m) Q) : HC P N w0 (P0.flatten ++ l) env (.region id os.toArray true) Q := by
  intro a w st
  refine wp_region_any hmix ?_
  simp only [drawOk3, Bool.and_eq_true, Nat.ble_eq, List.all_eq_true, List.mem_range, Bool.or_eq_true, Nat.blt_eq, beq_iff_eq, decide_eq_true_eq, Array.all_eq_true', bne_iff_ne] at hok
  obtain ⟨⟨⟨⟨⟨⟨hml, hback⟩, hcov⟩, hready⟩, hdst⟩, hdn⟩, hdp⟩ := hok
  simp only [tauOk4, Bool.and_eq_true, List.all_eq_true, List.mem_range, Bool.or_eq_true, Nat.blt_eq, Nat.ble_eq, beq_iff_eq, bne_iff_ne, decide_eq_true_eq, List.contains_iff_mem] at htau
  obtain ⟨⟨⟨hqd, hth⟩, hfl⟩, hfn⟩ := htau
  have hml' : m ≤ dsts.length := by have := congrArg List.length hdst; simp at this; omega
  have hlen : dsts.length = m := by have := congrArg List.length hdst; simp at this; omega
  have hrdy : ∀ k, m ≤ k → k < os.length → Region.ready .any os.toArray (preT os.length k) = [k] := fun k h1 h2 => by
    have := hready (k - m) (by omega)
    rw [show m + (k - m) = k by omega] at this
    exact this
  have hmsk : ∀ i j, ((msk ((List.range os.length).map (depsOf os)) []).getD i 0).testBit j = true → Dep os i j := msk_dep os _ _ (fun t ds ht d hd => by
    rw [List.getElem?_map] at ht
    by_cases h : t < os.length
    · rw [List.getElem?_range h] at ht; simp at ht; subst ht; simpa using hd
    · rw [List.getElem?_eq_none (by simp; omega)] at ht; cases ht) (fun i j h => by simp at h)
  have dstAt : ∀ i, i < m → ∀ o, os[i]? = some o → o.dst = dsts.getD i none := fun i hi o ho => by
    have h1 : ((os.take m).map (·.dst))[i]? = some o.dst := by rw [List.getElem?_map, List.getElem?_take, if_pos hi, ho]; rfl
    rw [hdst] at h1
    rw [List.getD_eq_getElem?_getD, h1]; rfl
  -- what may come up
  have key : ∀ (f : Nat) (listed : Array Bool) (ord held : List Nat) (vf : Nat → Value) (pf : Nat → List HP) (a : Act) (w : World), f + ord.length = os.length → Mid4 N w0 l env os m dps dsts R tau P0 listed ord held vf pf a w → wpAny P .any os.toArray Q f listed a w := by
    intro f
    induction f with
    | zero =>
      intro listed ord held vf pf a w hf h
      -- all are listed: m = the length
      have hall : ∀ i, i < os.length → i ∈ ord := by
        intro i hi
        have hsub : ord.Perm (List.range os.length) ∨ True := .inr trivial
        obtain ⟨r, hr⟩ := zee ord (List.range os.length) h.nodup (fun j hj => by have := h.low j hj; simp; omega)
        have hl := hr.length_eq
        simp at hl
        have : r = [] := List.length_eq_zero_iff.1 (by omega)
        subst this
        have := hr.mem_iff.1 (List.mem_range.2 hi)
        simpa using this
      have hm2 : m = os.length := by
        by_cases hc : m < os.length
        · have := h.low m (hall m hc); omega
        · omega
      have hp : listed = preT os.length m := by
        apply Array.ext
        · rw [h.size, zek _ _ hml]
        · intro i h1 h2
          have hi : i < os.length := by rw [h.size] at h1; exact h1
          have e1 := (h.iff i hi).2 (hall i hi)
          have e2 := zff os.length m i hml hi
          rw [Array.getD_eq_getD_getElem?, Array.getElem?_eq_getElem h1] at e1
          rw [Array.getD_eq_getD_getElem?, Array.getElem?_eq_getElem h2] at e2
          simp only [Option.getD_some] at e1 e2
          rw [e1, e2]; simp; omega
      rw [hp]
      refine zft hrdy 0 m (Nat.le_refl _) (by omega) a w ?_
      exact fin vf pf h.hP (fun i hi => h.rel i (hall i (by omega))) a w (h.st hml' (fun j hj => hall j (by rw [List.mem_range] at hj; omega)) (h.mem.pick hfn (fun j hj => h.hall j ((hfl j hj).1.imp (fun hlt => hall j (by omega)) (fun x => x)) (fun k hk => (hfl j hj).2 k (h.low k hk)))))
    | succ f ih =>
      intro listed ord held vf pf a w hf h
      by_cases hall : ∀ i, i < m → i ∈ ord
      · -- the tail's turn
        have hp : listed = preT os.length m := by
          apply Array.ext
          · rw [h.size, zek _ _ hml]
          · intro i h1 h2
            have hi : i < os.length := by rw [h.size] at h1; exact h1
            have e1 := h.iff i hi
            have e2 := zff os.length m i hml hi
            rw [Array.getD_eq_getD_getElem?, Array.getElem?_eq_getElem h1] at e1
            rw [Array.getD_eq_getD_getElem?, Array.getElem?_eq_getElem h2] at e2
            simp only [Option.getD_some] at e1 e2
            rw [e2, Bool.eq_iff_iff, e1, decide_eq_true_eq]
            exact ⟨fun hx => h.low i hx, fun hx => hall i hx⟩
        have hord : ord.length = m := by
          obtain ⟨r, hr⟩ := zee ord (List.range m) h.nodup (fun j hj => by have := h.low j hj; simpa using this)
          obtain ⟨r', hr'⟩ := zee (List.range m) ord List.nodup_range (fun j hj => hall j (by simpa using hj))
          have h1 := hr.length_eq
          have h2 := hr'.length_eq
          simp at h1 h2
          omega
        rw [hp]
        refine zft hrdy (f + 1) m (Nat.le_refl _) (by omega) a w ?_
        exact fin vf pf h.hP (fun i hi => h.rel i (hall i hi)) a w (h.st hml' (fun j hj => hall j (by simpa using hj)) (h.mem.pick hfn (fun j hj => h.hall j ((hfl j hj).1.imp (fun hlt => hall j hlt) (fun x => x)) (fun k hk => (hfl j hj).2 k (h.low k hk)))))
      · -- some quiet one is not done yet
        have hsome : ∃ i, i < m ∧ i ∉ ord := by
          by_cases hx : ∃ i, i < m ∧ i ∉ ord
          · exact hx
          · exact absurd (fun i hi => Decidable.byContradiction fun hn => hx ⟨i, hi, hn⟩) hall
        have mem_rdy : ∀ i, i ∈ Region.ready .any os.toArray listed ↔ i < os.length ∧ i ∉ ord ∧ ∀ j ∈ depsOf os i, j ∈ ord := by
          intro i
          unfold Region.ready
          rw [List.mem_filter, List.mem_range]
          simp only [List.size_toArray]
          constructor
          · rintro ⟨hi, hb⟩
            rw [Bool.and_eq_true] at hb
            have hno : i ∉ ord := fun hx => by rw [(h.iff i hi).2 hx] at hb; simp at hb
            refine ⟨hi, hno, fun j hj => ?_⟩
            have ho : os.toArray[i]? = some os[i] := by simp [hi]
            rw [ho] at hb
            simp only [Option.map_some, Option.getD_some, Array.all_eq_true'] at hb
            unfold depsOf at hj
            rw [List.getElem?_eq_getElem hi] at hj
            simp only [List.mem_map, List.mem_filter] at hj
            obtain ⟨e, ⟨he, hbd⟩, rfl⟩ := hj
            have hb2 := hb.2 e (by simpa using he)
            rw [hbd] at hb2
            simp at hb2
            have hlt := hback i hi e.on (by unfold depsOf; rw [List.getElem?_eq_getElem hi]; exact List.mem_map.2 ⟨e, List.mem_filter.2 ⟨he, hbd⟩, rfl⟩)
            refine (h.iff e.on (by omega)).1 ?_
            have hs : e.on < listed.size := by rw [h.size]; omega
            rw [Array.getD_eq_getD_getElem?, Array.getElem?_eq_getElem hs] 
            simp only [Option.getD_some]
            rw [Array.getElem?_eq_getElem hs] at hb2
            simpa using hb2
          · rintro ⟨hi, hno, hd⟩
            refine ⟨hi, ?_⟩
            have ho : os.toArray[i]? = some os[i] := by simp [hi]
            rw [ho]
            simp only [Option.map_some, Option.getD_some, Bool.and_eq_true, Array.all_eq_true']
            refine ⟨?_, fun e he => ?_⟩
            · cases hb : listed.getD i true with
              | true => exact absurd ((h.iff i hi).1 hb) hno
              | false => rfl
            · rw [Bool.or_eq_true]
              by_cases hbd : Region.binds .any e = true
              rotate_left
              · left; simpa using hbd
              right
              have hon : e.on ∈ depsOf os i := by unfold depsOf; rw [List.getElem?_eq_getElem hi]; exact List.mem_map.2 ⟨e, List.mem_filter.2 ⟨by simpa using he, hbd⟩, rfl⟩
              have hlt := hback i hi e.on hon
              have := (h.iff e.on (by omega)).2 (hd e.on hon)
              have hs : e.on < listed.size := by rw [h.size]; omega
              rw [Array.getD_eq_getD_getElem?, Array.getElem?_eq_getElem hs] at this
              simp only [Option.getD_some] at this
              rw [Array.getD_eq_getD_getElem?, Array.getElem?_eq_getElem hs]
              simpa using this
        have hdep : ∀ k j, Dep os k j → (∀ d ∈ depsOf os k, d ∈ ord) → j ∈ ord := by
          intro k j hd
          induction hd with
          | one hj => intro hx; exact hx _ hj
          | more hk _ ih2 => intro hx; exact ih2 (fun d hd => h.closed _ (hx _ hk) d hd)
        have hlow : ∀ i ∈ Region.ready .any os.toArray listed, i < m := by
          intro i hi
          obtain ⟨h1, h2, h3⟩ := (mem_rdy i).1 hi
          by_cases hc : i < m
          · exact hc
          · exfalso
            obtain ⟨q, hq, hqn⟩ := hsome
            rcases hcov i h1 with h4 | h4
            · exact hc h4
            · exact hqn (hdep i q (hmsk i q (h4 q hq)) h3)
        refine ⟨fun h0 => ?_, fun i hi => ?_⟩
        · -- the least one that is not done may come up
          exfalso
          obtain ⟨q, hq, hqn⟩ := hsome
          obtain ⟨p, hp, hmin⟩ := exists_least (p := fun i => i < m ∧ i ∉ ord) ⟨q, hq, hqn⟩
          have : p ∈ Region.ready .any os.toArray listed := by
            rw [mem_rdy]
            refine ⟨by omega, hp.2, fun j hj => ?_⟩
            have hlt := hback p (by omega) j hj
            apply Decidable.byContradiction
            intro hn
            have := hmin j ⟨by omega, hn⟩
            omega
          rw [h0] at this
          cases this
        · have him := hlow i hi
          obtain ⟨h1, h2, h3⟩ := (mem_rdy i).1 hi
          have ho : os[i]? = some os[i] := List.getElem?_eq_getElem h1
          have hdps := hdp i him
          have hsub : ∀ j ∈ dps.getD i [], j ∈ ord := fun j hj => hdep i j (hmsk i j (hdps.1 j hj)) h3
          have hqi := hqd i him
          have hqheld : ∀ j ∈ qd.getD i [], j ∈ held := fun j hj => h.hall j ((hqi.1 j hj).1.imp (hsub j) (fun x => x)) (fun k hk => by
            rcases (hqi.1 j hj).2 k (h.low k hk) with h5 | ⟨-, h6⟩
            · exact h5
            · exact absurd (hdep k i (hmsk k i h6) (h.closed k hk)) h2)
          have hobl := due i os[i] ho him vf pf h.hP (fun j hj => h.rel j (hsub j hj))
          have hdd := dstAt i him _ ho
          have hdlt : ∀ d, dsts.getD i none = some d → d < N := fun d hd => by
            have := List.all_eq_true.1 hN (some d) (by rw [← hd, List.getD_eq_getElem?_getD, List.getElem?_eq_getElem (by omega)]; exact List.getElem_mem _)
            simpa [Nat.blt_eq] using this
          have hdnone : ∀ d, dsts.getD i none = some d → lk env d = none := fun d hd => by
            have := List.all_eq_true.1 hfresh (some d) (by rw [← hd, List.getD_eq_getElem?_getD, List.getElem?_eq_getElem (by omega)]; exact List.getElem_mem _)
            simpa using this
          have hne : ∀ j ∈ ord, j ≠ i := fun j hj e => h2 (e ▸ hj)
          have hneh : ∀ j ∈ held, j ≠ i := fun j hj e => by
            rcases h.hin j hj with h5 | h5
            · exact hne j h5 e
            · omega
          have next : ∀ (held' : List Nat) v post w', held'.Nodup → (∀ k ∈ held', k ∈ i :: ord ∨ (os.length ≤ k ∧ k < os.length + P0.length)) → (∀ k, (k ∈ i :: ord ∨ (os.length ≤ k ∧ k < os.length + P0.length)) → (∀ j ∈ i :: ord, tau.getD j none ≠ some k) → k ∈ held') → R i ((dps.getD i []).map vf) v post →
              Mem w0 (held'.flatMap (fun k => if k = i then post else pf k) ++ l) w' → wpAny P .any os.toArray Q f (listed.setIfInBounds i true) (a.put (dsts.getD i none) v) w' := by
            intro held' v post w' hh1 hh2 hh3 hv hm
            refine ih (listed.setIfInBounds i true) (i :: ord) held' (fun k => if k = i then v else vf k) (fun k => if k = i then post else pf k) _ w' (by simp; omega) ⟨?_, ?_, ?_, ?_, ?_, ?_, ?_, hh1, hh2, hh3, ?_, hm, ?_, ?_, ?_, ?_⟩
            · simp [h.size]
            · intro k hk
              by_cases hki : k = i
              · subst hki
                have hs : k < listed.size := by rw [h.size]; exact hk
                simp [Array.getD_eq_getD_getElem?, hs]
              · rw [getD_set_ne true (fun e => hki e.symm), h.iff k hk]
                simp [hki]
            · intro k hk; rcases List.mem_cons.1 hk with rfl | hk; exact him; exact h.low k hk
            · intro k hk j hj
              rcases List.mem_cons.1 hk with rfl | hk
              · exact List.mem_cons_of_mem _ (h3 j hj)
              · exact List.mem_cons_of_mem _ (h.closed k hk j hj)
            · exact List.nodup_cons.2 ⟨h2, h.nodup⟩
            · intro k hk j hj
              rcases List.mem_cons.1 hk with rfl | hk
              · exact List.mem_cons_of_mem _ (hsub j hj)
              · exact List.mem_cons_of_mem _ (h.dcl k hk j hj)
            · intro k hk
              rcases List.mem_cons.1 hk with rfl | hk
              · have e : (dps.getD k []).map (fun j => if j = k then v else vf j) = (dps.getD k []).map vf := List.map_congr_left fun j hj => if_neg (hne j (hsub j hj))
                rw [e, if_pos rfl, if_pos rfl]; exact hv
              · have e : (dps.getD k []).map (fun j => if j = i then v else vf j) = (dps.getD k []).map vf := List.map_congr_left fun j hj => if_neg (hne j (h.dcl k hk j hj))
                rw [e, if_neg (hne k hk), if_neg (hne k hk)]; exact h.rel k hk
            · intro k hk; rw [if_neg (by omega)]; exact h.hP k hk
            · cases hdi : dsts.getD i none <;> simp [Act.put, h.asize]
            · cases hdi : dsts.getD i none <;> exact h.defers
            · intro d u hd
              cases hdi : dsts.getD i none with
              | none => exact h.env d u hd
              | some d0 =>
                have hdne : d0 ≠ d := fun e => by rw [← e, hdnone _ hdi] at hd; cases hd
                simp only [Act.put]
                rw [Array.getElem?_setIfInBounds_ne hdne]
                exact h.env d u hd
            · intro k hk d hd
              cases hdi : dsts.getD i none with
              | none =>
                rcases List.mem_cons.1 hk with rfl | hk
                · rw [List.getD_eq_getElem?_getD, hd] at hdi; cases hdi
                · show a.tmps[d]? = _
                  rw [if_neg (hne k hk)]; exact h.slots k hk d hd
              | some d0 =>
                have hlt : d0 < a.tmps.size := by rw [h.asize]; exact hdlt _ hdi
                rcases List.mem_cons.1 hk with rfl | hk
                · have : d = d0 := by rw [List.getD_eq_getElem?_getD, hd] at hdi; exact Option.some.inj hdi
                  subst this
                  simp only [Act.put, if_true]
                  simp only [Array.getElem?_setIfInBounds_self_of_lt hlt]
                · have hdne : d0 ≠ d := by
                    intro e
                    have hk2 : k < dsts.length := (List.getElem?_eq_some_iff.1 hd).1
                    have hdk : dsts.getD k none = some d := by rw [List.getD_eq_getElem?_getD, hd]; rfl
                    rcases hdn i him k (by omega) with (hx | hx) | hx
                    · exact hne k hk hx.symm
                    · rw [hdi] at hx; cases hx
                    · exact hx (by rw [hdi, hdk, e])
                  simp only [Act.put]
                  rw [Array.getElem?_setIfInBounds_ne hdne, if_neg (hne k hk)]
                  exact h.slots k hk d hd
          unfold wpOp
          have hoa : os.toArray[i]? = some os[i] := by simp [h1]
          rw [hoa]
          simp only
          have hpost : ∀ (hs : List Nat) (post : List HP), (∀ k ∈ hs, k ≠ i) → (i :: hs).flatMap (fun k => if k = i then post else pf k) = post ++ hs.flatMap pf := fun hs post hx => by
            rw [List.flatMap_cons, if_pos rfl]
            congr 1
            rw [List.flatMap_def, List.flatMap_def]
            congr 1
            exact List.map_congr_left fun k hk => if_neg (hx k hk)
          cases ht : tau.getD i none with
          | none =>
            rw [ht] at hobl
            have hst := h.st hml' hsub (h.mem.pick hqi.2 hqheld)
            have next1 : ∀ v post w', R i ((dps.getD i []).map vf) v post → Mem w post w' → wpAny P .any os.toArray Q f (listed.setIfInBounds i true) (a.put (dsts.getD i none) v) w' := fun v post w' hv hm => by
              refine next (i :: held) v post w' (List.nodup_cons.2 ⟨fun hx => hneh i hx rfl, h.hn⟩) (fun k hk => ?_) (fun k hk hk2 => ?_) hv ?_
              · rcases List.mem_cons.1 hk with rfl | hk
                · exact .inl List.mem_cons_self
                · exact (h.hin k hk).imp (List.mem_cons_of_mem _) (fun x => x)
              · by_cases hki : k = i
                · rw [hki]; exact List.mem_cons_self
                · refine List.mem_cons_of_mem _ (h.hall k (hk.imp (fun hx => by rcases List.mem_cons.1 hx with hx | hx; exact absurd hx hki; exact hx) (fun x => x)) (fun j hj => hk2 j (List.mem_cons_of_mem _ hj)))
              · rw [hpost held post hneh, List.append_assoc]; exact h.mem.app hm
            rcases hobl with ⟨hw, hq⟩ | ⟨hw, hq⟩
            · rw [if_pos (hst.wanted hw)]
              refine .inl (hq a w hst Q _ fun v post w' hv hm => ?_)
              rw [hdd]
              exact next1 v post w' hv hm
            · rw [if_neg (by rw [hst.wanted hw]; decide), hdd]
              exact next1 undef [] w hq (Mem.refl w)
          | some hh =>
            rw [ht] at hobl
            have hth2 := hth i him
            rw [ht] at hth2
            simp only [Bool.and_eq_true, Bool.or_eq_true, Nat.ble_eq, Nat.blt_eq, beq_iff_eq, List.all_eq_true, List.mem_range, bne_iff_ne, List.contains_iff_mem] at hth2
            have hheld : hh ∈ held := h.hall hh (hth2.1.symm.imp (fun hx => hsub hh hx) (fun x => x)) (fun k hk => (hth2.2 k (h.low k hk)).resolve_left (hne k hk))
            have hperm := List.perm_cons_erase hheld
            have hmem : Mem w0 (pf hh ++ ((held.erase hh).flatMap pf ++ l)) w := by
              have := h.mem.perm ((hperm.flatMap_right pf).append_right l)
              rwa [List.flatMap_cons, List.append_assoc] at this
            have hnin : hh ∉ qd.getD i [] := fun hx => by
              rcases (hqi.1 hh hx).2 i him with h5 | ⟨h5, -⟩
              · exact h5 ht
              · exact h5 rfl
            have hconv : ∀ w, Mem w0 ((held.erase hh).flatMap pf ++ l) w → Mem w0 ((qd.getD i []).flatMap pf ++ l) w := fun w hm => hm.pick hqi.2 (fun j hj => (List.mem_erase_of_ne (fun (e : j = hh) => hnin (by rw [← e]; exact hj))).2 (hqheld j hj))
            have hst := h.st hml' hsub hmem
            have hneh2 : ∀ k ∈ held.erase hh, k ≠ i := fun k hk => hneh k (List.mem_of_mem_erase hk)
            have next2 : ∀ v post w', R i ((dps.getD i []).map vf) v post → Mem w0 (post ++ ((held.erase hh).flatMap pf ++ l)) w' → wpAny P .any os.toArray Q f (listed.setIfInBounds i true) (a.put (dsts.getD i none) v) w' := fun v post w' hv hm => by
              refine next (i :: held.erase hh) v post w' (List.nodup_cons.2 ⟨fun hx => hneh2 i hx rfl, h.hn.erase hh⟩) (fun k hk => ?_) (fun k hk hk2 => ?_) hv ?_
              · rcases List.mem_cons.1 hk with rfl | hk
                · exact .inl List.mem_cons_self
                · exact (h.hin k (List.mem_of_mem_erase hk)).imp (List.mem_cons_of_mem _) (fun x => x)
              · by_cases hki : k = i
                · rw [hki]; exact List.mem_cons_self
                · have hkh : k ≠ hh := fun e => hk2 i List.mem_cons_self (by rw [ht, e])
                  exact List.mem_cons_of_mem _ ((List.mem_erase_of_ne hkh).2 (h.hall k (hk.imp (fun hx => by rcases List.mem_cons.1 hx with hx | hx; exact absurd hx hki; exact hx) (fun x => x)) (fun j hj => hk2 j (List.mem_cons_of_mem _ hj))))
              · rw [hpost _ post hneh2, List.append_assoc]; exact hm
            rcases hobl with ⟨hw, hq⟩ | ⟨hw, hq⟩
            · rw [if_pos (hst.wanted hw)]
              refine .inl (hq _ hconv a w hst Q _ fun v post w' hv hm => ?_)
              rw [hdd]
              exact next2 v post w' hv hm
            · rw [if_neg (by rw [hst.wanted hw]; decide), hdd]
              exact next2 undef (pf hh) w hq hmem
  refine key os.length (Array.replicate os.length false) [] ((List.range P0.length).map (os.length + ·)) (fun _ => undef) (fun k => if os.length ≤ k then P0.getD (k - os.length) [] else []) a _ (by simp) ⟨by simp, ?_, by simp, by simp, by simp, by simp, by simp, ?_, ?_, ?_, ?_, ?_, st.size, st.defers, st.env, by simp⟩
  · intro i hi; simp [hi]
  · exact nodup_shift _ _
  · intro i hi
    simp only [List.mem_map, List.mem_range] at hi
    obtain ⟨k, hk, rfl⟩ := hi
    exact .inr ⟨by omega, by omega⟩
  · rintro i (hi | ⟨h1, h2⟩) _
    · cases hi
    · simp only [List.mem_map, List.mem_range]; exact ⟨i - os.length, by omega, by omega⟩
  · intro k hk; rw [if_pos (by omega), Nat.add_sub_cancel_left]
  · have e : ((List.range P0.length).map (os.length + ·)).flatMap (fun k => if os.length ≤ k then P0.getD (k - os.length) [] else []) = P0.flatten := by
      rw [List.flatMap_map]
      have : (fun a : Nat => (if os.length ≤ os.length + a then P0.getD (os.length + a - os.length) [] else [])) = fun a => P0.getD a [] := by
        funext a; rw [if_pos (by omega), Nat.add_sub_cancel_left]
      rw [List.flatMap_def]
      rw [show (List.map (fun a : Nat => (if os.length ≤ os.length + a then P0.getD (os.length + a - os.length) [] else [])) (List.range P0.length)) = P0 from by rw [this]; exact range_getD P0]
    rw [e]; exact st.mem.drawn _
def Dues4 (P : Program) (ops : Array Oper) (N : Nat) (w0 : World) (l : List HP) (env : List (Nat × Value)) (P0 : List (List HP)) (mu : Nat) (dsts : List (Option Nat)) (all qall : List (List Nat)) (tau : List (Option Nat)) (R : Nat → List Value → Value → List HP → Prop) : Nat → List (List Nat) → List Oper → Prop
  | _, _, [] => True
  | k, dss, o :: os => (∀ (vf : Nat → Value) (pf : Nat → List HP), (∀ k, k < P0.length → pf (mu + k) = P0.getD k []) → (∀ j ∈ all.getD k [], R j ((all.getD j []).map vf) (vf j) (pf j)) → Obl2 P ops N w0 (tau.getD k none) pf ((qall.getD k []).flatMap pf ++ l) (envOf3 dsts vf (all.getD k []) ++ env) o (R k ((all.getD k []).map vf))) ∧ Dues4 P ops N w0 l env P0 mu dsts all qall tau R (k + 1) dss os
theorem dues4_at {P : Program} {ops : Array Oper} {N : Nat} {w0 : World} {l : List HP} {env : List (Nat × Value)} {P0 : List (List HP)} {mu : Nat} {dsts : List (Option Nat)} {all qall : List (List Nat)} {tau : List (Option Nat)} {R : Nat → List Value → Value → List HP → Prop} : ∀ (os : List Oper) (dss : List (List Nat)) (k : Nat), Dues4 P ops N w0 l env P0 mu dsts all qall tau R k dss os → ∀ i o, os[i]? = some o → ∀ vf pf, (∀ k, k < P0.length → pf (mu + k) = P0.getD k []) → (∀ j ∈ all.getD (k + i) [], R j ((all.getD j []).map vf) (vf j) (pf j)) → Obl2 P ops N w0 (tau.getD (k + i) none) pf ((qall.getD (k + i) []).flatMap pf ++ l) (envOf3 dsts vf (all.getD (k + i) []) ++ env) o (R (k + i) ((all.getD (k + i) []).map vf))
  | [], _, _, _, i, o, ho, _, _, _, _ => by simp at ho
  | o' :: os, dss, k, h, 0, o, ho, vf, pf, hP, hR => by simp at ho; subst ho; exact h.1 vf pf hP hR
  | o' :: os, dss, k, h, i + 1, o, ho, vf, pf, hP, hR => by
    have e : k + 1 + i = k + (i + 1) := by omega
    have := dues4_at os dss (k + 1) h.2 i o (by simpa using ho) vf pf hP (by rw [e]; exact hR)
    rwa [e] at this
theorem hc_draw4 {id : Nat} (hmix : P.follows .mixedOrders = true) (m : Nat) (qs : List Nat) (quiet tail : List Oper) (dps : List (List Nat)) (dsts : List (Option Nat)) (R : Nat → List Value → Value → List HP → Prop) (qd : List (List Nat)) (tau : List (Option Nat)) (P0 : List (List HP)) (fl : List Nat) (mu : Nat)
    (hos : os = quiet ++ tail) (hq : (Nat.beq quiet.length m && (List.range m == qs) && Nat.beq os.length mu) = true) (hok : drawOk3 os m dps dsts = true) (htau : tauOk4 os m P0.length dps qd tau fl = true) (hfresh : dsts.all (fun d => match d with | some d => (lk env d).isNone | none => true) = true) (hN : dsts.all (fun d => match d with | some d => Nat.blt d N | none => true) = true)
    (due : Dues4 P os.toArray N w0 l env P0 mu dsts dps qd tau R 0 [] quiet)
    (fin : ∀ vf pf, (∀ k, k < P0.length → pf (mu + k) = P0.getD k []) → (∀ i, i < m → R i ((dps.getD i []).map vf) (vf i) (pf i)) → HL P N os.toArray w0 (fl.flatMap pf ++ l) (envOf3 dsts vf qs ++ env) tail Q) : HC P N w0 (P0.flatten ++ l) env (.region id os.toArray true) Q := by
  simp only [Bool.and_eq_true, Nat.beq_eq, beq_iff_eq] at hq
  obtain ⟨⟨hq1, hq2⟩, hq3⟩ := hq
  refine hc_drawn4 hmix m dps dsts R qd tau P0 fl hok htau hfresh hN (fun i o ho hi vf pf hP hR => ?_) (fun vf pf hP hR => ?_)
  · have ho' : quiet[i]? = some o := by rw [hos, List.getElem?_append_left (by omega)] at ho; exact ho
    have := dues4_at quiet [] 0 due i o ho' vf pf (by rw [← hq3]; exact hP) (by rw [Nat.zero_add]; exact hR)
    rwa [Nat.zero_add] at this
  rw [hq2, hos, List.drop_left' hq1, ← hos]; exact fin vf pf (by rw [← hq3]; exact hP) hR
end
open Go.RowKit
def eqA (a b c d : Int) : Bool := a == c && b == d
theorem Bit.xor_par (m : Nat) : (m ^^^ 1) % 2 = (m + 1) % 2 := by
  have h : (m ^^^ 1) / 2 ^ 0 % 2 = (m / 2 ^ 0 % 2) ^^^ (1 / 2 ^ 0 % 2) := Bit.bit_xor m 1 0
  simp only [Nat.pow_zero, Nat.div_one] at h
  rw [h]
  rcases Nat.mod_two_eq_zero_or_one m with e | e <;> rw [e] <;> simp <;> omega
theorem xor_xr {a : Int} (h0 : 0 ≤ a) (h1 : a < 4294967296) : bits .xor .i64 a 1 = xr a := by
  rw [Bit.xor_int a 1 h0 h1 (by decide) (by decide)]
  unfold xr
  have h2 : (a.toNat ^^^ (1 : Int).toNat) / 2 = a.toNat / 2 := by
    show (a.toNat ^^^ 1) / 2 = a.toNat / 2
    have := Nat.xor_div_two (a := a.toNat) (b := 1)
    rw [this]; simp
  have h3 : (a.toNat ^^^ (1 : Int).toNat) % 2 = (a.toNat + 1) % 2 := by
    show (a.toNat ^^^ 1) % 2 = (a.toNat + 1) % 2
    have e := Bit.xor_par a.toNat
    exact e
  split <;> omega
section
variable {N : Nat} {w0 : World} {l : List HP} {env : List (Nat × Value)} {o : Oper}
theorem rv_eqAn {x y : Operand} {a b c d : Int} (ho : o.op = .binOp .eql 124 x y 124) (hx : ev env x = some (.agg #[.int .i64 a, .int .i64 b])) (hy : ev env y = some (.agg #[.int .i64 c, .int .i64 d])) :
    RunV Try.prog N w0 l env o (.bool (eqA a b c d)) := fun a1 w st => by
  have hg : (eqGuard .eql 124 x y (.agg #[.int .i64 a, .int .i64 b]) (.agg #[.int .i64 c, .int .i64 d])).run Try.prog w = .ok () w := run_eqGuard_agg _ _ _ _ _ _ _ (by kernel_rfl)
  have h2 : (binOp .eql 124 (.agg #[.int .i64 a, .int .i64 b]) (.agg #[.int .i64 c, .int .i64 d])).run Try.prog w = .ok (.bool (eqA a b c d)) w := by
    rw [run_eql_struct, run_equalIn_struct _ _ _ _ _ (by kernel_rfl) (by kernel_rfl)]
    have e0 : (Try.prog.fieldsOf 124).toList = [(Try.prog.fieldsOf 124)[0]!, (Try.prog.fieldsOf 124)[1]!] := by kernel_rfl
    have n0 : ((Try.prog.fieldsOf 124)[0]!).name = "A" := by kernel_rfl
    have n1 : ((Try.prog.fieldsOf 124)[1]!).name = "B" := by kernel_rfl
    have t0 : ((Try.prog.fieldsOf 124)[0]!).type = 3 := by kernel_rfl
    have t1 : ((Try.prog.fieldsOf 124)[1]!).type = 3 := by kernel_rfl
    have o0 : ((Try.prog.fieldsOf 124)[0]!).offset = 0 := by kernel_rfl
    have o1 : ((Try.prog.fieldsOf 124)[1]!).offset = 1 := by kernel_rfl
    rw [e0]
    generalize (Try.prog.fieldsOf 124)[0]! = f0 at *
    generalize (Try.prog.fieldsOf 124)[1]! = f1 at *
    have m0 : f0.name ≠ "_" := by rw [n0]; decide
    have m1 : f1.name ≠ "_" := by rw [n1]; decide
    have hk : Try.prog.plainKey 3 = true := by kernel_rfl
    have q : ∀ (u v : Int) (w : World), (Op.equalIn 9999 3 (.int .i64 u) (.int .i64 v)).run Try.prog w = .ok (u == v) w := fun u v w => run_equalIn_int w 9998 3 .i64 .i64 u v Try.underlying3
    have pa : ∀ w : World, (part f0.type #[Value.int .i64 a, .int .i64 b] f0.offset).run Try.prog w = .ok (.int .i64 a) w := fun w => by rw [t0, o0]; exact run_part_plain w hk rfl
    have pb : ∀ w : World, (part f1.type #[Value.int .i64 a, .int .i64 b] f1.offset).run Try.prog w = .ok (.int .i64 b) w := fun w => by rw [t1, o1]; exact run_part_plain w hk rfl
    have pc : ∀ w : World, (part f0.type #[Value.int .i64 c, .int .i64 d] f0.offset).run Try.prog w = .ok (.int .i64 c) w := fun w => by rw [t0, o0]; exact run_part_plain w hk rfl
    have pd : ∀ w : World, (part f1.type #[Value.int .i64 c, .int .i64 d] f1.offset).run Try.prog w = .ok (.int .i64 d) w := fun w => by rw [t1, o1]; exact run_part_plain w hk rfl
    have q0 : ∀ (u v : Int) (w : World), (Op.equalIn 9999 f0.type (.int .i64 u) (.int .i64 v)).run Try.prog w = .ok (u == v) w := by rw [t0]; exact q
    have q1 : ∀ (u v : Int) (w : World), (Op.equalIn 9999 f1.type (.int .i64 u) (.int .i64 v)).run Try.prog w = .ok (u == v) w := by rw [t1]; exact q
    simp only [Op.eqFields, m0, m1, ne_eq, not_false_eq_true, if_true, Sem.run_bind, pa, pb, pc, pd, q0, q1, Result.andThen_ok, Sem.run_ite, Sem.run_pure]
    unfold eqA
    cases (a == c) <;> cases (b == d) <;> simp
  simp [execOp, ho, st.eval hx, st.eval hy, hg, h2]
end
def sqv (s : Sq) : Int × Int × List Int := (s.kd, s.it, s.xs)
def sqk (s : Sq) : Int × Int × Nat := (s.kd, s.it, s.xs.length)
structure NtRest (w : World) (n : Nt) : Prop where
  xs : ∀ s ∈ n.ss, RdsW w s.iv 1 s.xs.length (s.xs.map (Value.int .i64))
  an : RdsW w n.av 2 n.gs.length (n.gs.flatMap anC)
  ou : RdsW w n.ov 1 n.os.length (n.os.map (Value.int .i64))
theorem NtRest.rds {w : World} {n : Nt} (h : NtRest w n) (hs : RdsW w n.sv 3 n.ss.length (n.ss.flatMap sqC)) : RdsNt w n := ⟨hs, h.xs, h.an, h.ou⟩
def RdsSqs (w : World) (ss : List Sq) : Prop := ∀ s ∈ ss, RdsW w s.iv 1 s.xs.length (s.xs.map (Value.int .i64))
theorem RdsSqs.nil (w : World) : RdsSqs w [] := fun s hs => by cases hs
theorem RdsSqs.at {w : World} {ss : List Sq} (h : RdsSqs w ss) {k : Nat} (hk : k < ss.length) : RdsW w (ss.getD k sq0).iv 1 (ss.getD k sq0).xs.length ((ss.getD k sq0).xs.map (Value.int .i64)) := h _ (zch hk)
theorem RdsSqs.app {w : World} {ss : List Sq} {s : Sq} (h : RdsSqs w ss) (hs : RdsW w s.iv 1 s.xs.length (s.xs.map (Value.int .i64))) : RdsSqs w (ss ++ [s]) := fun r hr => by
  rcases List.mem_append.1 hr with hr | hr
  · exact h r hr
  · rw [List.mem_singleton] at hr; subst hr; exact hs
theorem RdsSqs.set {w : World} {ss : List Sq} {k : Nat} {s : Sq} (h : RdsSqs w ss) (hs : RdsW w s.iv 1 s.xs.length (s.xs.map (Value.int .i64))) : RdsSqs w (ss.set k s) := fun r hr => by
  rcases List.mem_or_eq_of_mem_set hr with hr | rfl
  · exact h r hr
  · exact hs
theorem sqv_len {ss zs : List Sq} (h : zs.map sqv = ss.map sqv) : zs.length = ss.length := by simpa using congrArg List.length h
theorem sqk_len {ss zs : List Sq} (h : zs.map sqk = ss.map sqk) : zs.length = ss.length := by simpa using congrArg List.length h
theorem map_at' {α β : Type} {f : α → β} {xs ys : List α} {d : α} (h : xs.map f = ys.map f) {k : Nat} (hk : k < ys.length) : f (xs.getD k d) = f (ys.getD k d) := by
  have hl : xs.length = ys.length := by simpa using congrArg List.length h
  have h1 : (xs.map f)[k]? = (ys.map f)[k]? := by rw [h]
  rw [List.getElem?_map, List.getElem?_map, List.getElem?_eq_getElem (by omega), List.getElem?_eq_getElem hk] at h1
  rw [List.getD_eq_getElem?_getD, List.getD_eq_getElem?_getD, List.getElem?_eq_getElem (by omega), List.getElem?_eq_getElem hk]
  simpa using h1
theorem map_mem' {α β : Type} {f : α → β} {xs ys : List α} (h : xs.map f = ys.map f) {s : α} (hs : s ∈ xs) : ∃ r ∈ ys, f r = f s := by
  have h1 : f s ∈ ys.map f := h ▸ List.mem_map.2 ⟨s, hs, rfl⟩
  exact List.mem_map.1 h1
def mpL (tos : List Int) (l : Int) : Int := if l % 2 = 0 then tos.getD (l / 2).toNat 0 else xr (tos.getD (l / 2).toNat 0)
theorem xor_mp {tos : List Int} {l : Int} (h0 : 0 ≤ tos.getD (l / 2).toNat 0) (h1 : tos.getD (l / 2).toNat 0 < 4294967296) : bits .xor .i64 (tos.getD (l / 2).toNat 0) (l % 2) = mpL tos l := by
  unfold mpL
  rcases (show l % 2 = 0 ∨ l % 2 = 1 by omega) with e | e
  · rw [e, if_pos rfl]
    have hz : ∀ a : Int, 0 ≤ a → a < 4294967296 → bits .xor .i64 a 0 = a := fun a h0 h1 => by
      have := Bit.xor_int a 0 h0 (by omega) (by omega) (by omega)
      rw [this]; simp; omega
    exact hz _ h0 h1
  · rw [e, if_neg (by decide)]; exact xor_xr h0 h1
def MapOk (tos : List Int) (c m : Int) : Prop := (tos.length : Int) = c ∧ ∀ k, k < tos.length → LtOk (tos.getD k 0) m
theorem MapOk.lit {tos : List Int} {c m : Int} (h : MapOk tos c m) {l : Int} (hl : LtOk l c) : LtOk (tos.getD (l / 2).toNat 0) m ∧ LtOk (mpL tos l) m := by
  have h1 := h.1
  unfold LtOk at hl
  have h2 := h.2 (l / 2).toNat (by omega)
  refine ⟨h2, ?_⟩
  unfold mpL; split
  · exact h2
  · exact xr_ok h2
theorem MapOk.up {tos : List Int} {c m m' : Int} (h : MapOk tos c m) (hm : m ≤ m') : MapOk tos c m' := ⟨h.1, fun k hk => ⟨(h.2 k hk).1, by have := (h.2 k hk).2; omega⟩⟩
theorem MapOk.app {tos : List Int} {c m x : Int} (h : MapOk tos c m) (hx : LtOk x m) : MapOk (tos ++ [x]) (c + 1) m := ⟨by rw [List.length_append, List.length_singleton]; have := h.1; omega, fun k hk => by
  rw [List.length_append, List.length_singleton] at hk
  by_cases c : k < tos.length
  · rw [zdl c]; exact h.2 k c
  · rw [zdk (by omega), show k - tos.length = 0 by omega]; exact hx⟩
def mpS (tos lits : List Int) : List Int := lits.map (mpL tos)
theorem mpS_ok {tos : List Int} {c m : Int} (h : MapOk tos c m) {lits : List Int} (hl : ∀ x ∈ lits, LtOk x c) : ∀ x ∈ mpS tos lits, LtOk x m := fun x hx => by
  obtain ⟨l, h1, rfl⟩ := List.mem_map.1 hx
  exact (h.lit (hl l h1)).2
def evs2 (k : Nat) : List Int := (List.range k).map fun i : Nat => 2 * (i : Int)
theorem evs2_step (k : Nat) : evs2 k ++ [2 * (k : Int)] = evs2 (k + 1) := by unfold evs2; rw [List.range_succ, List.map_append]; rfl
theorem evs2_len (k : Nat) : (evs2 k).length = k := by simp [evs2]
theorem evs2_ok {k : Nat} {m : Int} (h : (k : Int) ≤ m) : MapOk (evs2 k) k m := ⟨by rw [evs2_len], fun j hj => by
  rw [evs2_len] at hj
  have e : (evs2 k).getD j 0 = 2 * (j : Int) := by
    unfold evs2
    rw [List.getD_eq_getElem?_getD, List.getElem?_map, List.getElem?_range hj]; rfl
  rw [e]; unfold LtOk; omega⟩
structure Skel (n n2 : Nt) : Prop where
  ins : n2.ins = n.ins
  ss : n2.ss.map sqk = n.ss.map sqk
theorem Skel.fst {n n2 : Nt} (h : Skel n n2) : n2.fst = n.fst := by show 1 + n2.ins + (n2.ss.length : Int) = 1 + n.ins + n.ss.length; rw [h.ins, sqk_len h.ss]
theorem Skel.len {n n2 : Nt} (h : Skel n n2) : n2.ss.length = n.ss.length := sqk_len h.ss
theorem Skel.sq {n n2 : Nt} (h : Skel n n2) (hn : ∀ s ∈ n.ss, SqOk s) : ∀ s ∈ n2.ss, SqOk s := fun s hs => by
  obtain ⟨r, hr, he⟩ := map_mem' h.ss hs
  simp only [sqk, Prod.mk.injEq] at he
  exact ⟨by rw [← he.1, ← he.2.1, ← he.2.2]; exact (hn r hr).kind⟩
theorem Skel.trans {a b c : Nt} (h : Skel a b) (h' : Skel b c) : Skel a c := ⟨h'.ins.trans h.ins, h'.ss.trans h.ss⟩
theorem sqk_of_sqv {zs ss : List Sq} (h : zs.map sqv = ss.map sqv) : zs.map sqk = ss.map sqk := by
  have e : sqk = (fun p : Int × Int × List Int => (p.1, p.2.1, p.2.2.length)) ∘ sqv := rfl
  rw [e, ← List.map_map, ← List.map_map, h]
structure Grew (n n2 : Nt) (x : Int) : Prop where
  sk : Skel n n2
  ok : NtOk n2
  l0 : n.gs.length ≤ n2.gs.length
  l1 : n2.gs.length ≤ n.gs.length + 1
  lit : LtOk x n2.cnt
theorem Grew.cnt {n n2 : Nt} {x : Int} (h : Grew n n2 x) : n.cnt ≤ n2.cnt := by show n.fst + (n.gs.length : Int) ≤ n2.fst + n2.gs.length; have := h.l0; rw [h.sk.fst]; omega
theorem flat_onesH {α : Type} (f : α → List Value) (xs : List α) (h : ∀ r u, u ∈ f r → u.oneCell' = true) : ∀ q ∈ xs.flatMap f, q.oneCell' = true := fun q hq => by
  obtain ⟨r, -, h2⟩ := List.mem_flatMap.1 hq
  exact h r q h2
structure CopyOf (n n2 : Nt) : Prop where
  ins : n2.ins = n.ins
  gs : n2.gs = n.gs
  os : n2.os = n.os
  ss : n2.ss.map sqv = n.ss.map sqv
theorem CopyOf.sk {n n2 : Nt} (h : CopyOf n n2) : Skel n n2 := ⟨h.ins, sqk_of_sqv h.ss⟩
theorem CopyOf.cnt {n n2 : Nt} (h : CopyOf n n2) : n2.cnt = n.cnt := by show n2.fst + (n2.gs.length : Int) = n.fst + n.gs.length; rw [h.sk.fst, h.gs]
theorem CopyOf.ok {n n2 : Nt} (h : CopyOf n n2) (hn : NtOk n) : NtOk n2 :=
  ⟨by rw [h.ins]; exact hn.i0, by rw [h.ins]; exact hn.i1, by rw [h.sk.len]; exact hn.s1, by rw [h.gs]; exact hn.a1, by rw [h.os]; exact hn.o1, h.sk.sq hn.sq, fun s hs => by
    obtain ⟨r, hr, he⟩ := map_mem' h.ss hs
    simp only [sqv, Prod.mk.injEq] at he
    rw [← he.2.2, h.cnt]; exact hn.xs r hr, by rw [h.gs, h.sk.fst]; exact hn.an, by rw [h.os, h.cnt]; exact hn.ou⟩
theorem CopyOf.same {n n2 : Nt} (h : CopyOf n n2) (hn : NtOk n) {x : Int} (hx : LtOk x n.cnt) : Grew n n2 x := ⟨h.sk, h.ok hn, by rw [h.gs]; exact Nat.le_refl _, by rw [h.gs]; omega, by rw [h.cnt]; exact hx⟩
theorem NtOk.add {n : Nt} (hn : NtOk n) {a b : Int} (ha : LtOk a n.cnt) (hb : LtOk b n.cnt) (hl : n.gs.length < 300) (v : Value) : NtOk { n with av := v, gs := n.gs ++ [An.mk a b] } := by
  have hc : ({ n with av := v, gs := n.gs ++ [An.mk a b] } : Nt).cnt = n.cnt + 1 := by show 1 + n.ins + (n.ss.length : Int) + ((n.gs ++ [An.mk a b]).length : Int) = 1 + n.ins + n.ss.length + n.gs.length + 1; rw [List.length_append, List.length_singleton]; omega
  have up : ∀ x, LtOk x n.cnt → LtOk x (n.cnt + 1) := fun x h => ⟨h.1, by have := h.2; omega⟩
  refine ⟨hn.i0, hn.i1, hn.s1, by show (n.gs ++ [An.mk a b]).length ≤ 300; rw [List.length_append, List.length_singleton]; omega, hn.o1, hn.sq, fun s hs x hx => by rw [hc]; exact up _ (hn.xs s hs x hx), fun k hk => ?_, fun x hx => by rw [hc]; exact up _ (hn.ou x hx)⟩
  show LtOk ((n.gs ++ [An.mk a b]).getD k an0).a (n.fst + k) ∧ LtOk ((n.gs ++ [An.mk a b]).getD k an0).b (n.fst + k)
  have hk' : k < n.gs.length + 1 := by have : k < (n.gs ++ [An.mk a b]).length := hk; rwa [List.length_append, List.length_singleton] at this
  by_cases c : k < n.gs.length
  · rw [zdl c]; exact hn.an k c
  · rw [zdk (by omega), show k - n.gs.length = 0 by omega, show k = n.gs.length by omega]; exact ⟨ha, hb⟩
theorem CopyOf.put {n n2 : Nt} (h : CopyOf n n2) (hn : NtOk n) {a b : Int} (ha : LtOk a n.cnt) (hb : LtOk b n.cnt) (hl : n.gs.length < 300) (v : Value) : Grew n { n2 with av := v, gs := n2.gs ++ [An.mk (min a b) (if a < b then b else a)] } (2 * n.cnt) := by
  have h2 := h.ok hn
  have hm : LtOk (min a b) n.cnt ∧ LtOk (if a < b then b else a) n.cnt := by unfold LtOk at *; omega
  refine ⟨⟨h.ins, sqk_of_sqv h.ss⟩, h2.add (by rw [h.cnt]; exact hm.1) (by rw [h.cnt]; exact hm.2) (by rw [h.gs]; exact hl) v, ?_, ?_, ?_⟩
  · show n.gs.length ≤ (n2.gs ++ _).length; rw [List.length_append, h.gs]; omega
  · show (n2.gs ++ _).length ≤ n.gs.length + 1; rw [List.length_append, List.length_singleton, h.gs]; exact Nat.le_refl _
  · have hc : ({ n2 with av := v, gs := n2.gs ++ [An.mk (min a b) (if a < b then b else a)] } : Nt).cnt = n.cnt + 1 := by
      show n2.fst + ((n2.gs ++ _).length : Int) = n.fst + n.gs.length + 1; rw [List.length_append, List.length_singleton, h.gs, h.sk.fst]; omega
    rw [hc]
    have hc0 : 0 ≤ n.cnt := by have := hn.i0; show 0 ≤ 1 + n.ins + (n.ss.length : Int) + n.gs.length; omega
    unfold LtOk; omega
theorem cnt_rng {n : Nt} (hn : NtOk n) : 1 ≤ n.fst ∧ n.fst ≤ 33 ∧ n.fst ≤ n.cnt ∧ n.cnt ≤ 333 ∧ n.cnt = n.fst + n.gs.length ∧ n.fst = 1 + n.ins + n.ss.length := by
  have := hn.i0; have := hn.i1; have := hn.s1; have := hn.a1
  have e : n.cnt = n.fst + n.gs.length := by unfold Nt.cnt Nt.fst; omega
  have e2 : n.fst = 1 + n.ins + n.ss.length := rfl
  omega
theorem sqk_set {ss : List Sq} {k : Nat} {s : Sq} (h : sqk s = sqk (ss.getD k sq0)) (hk : k < ss.length) : (ss.set k s).map sqk = ss.map sqk := by
  rw [List.map_set, h]
  have : (ss.map sqk)[k]? = some (sqk (ss.getD k sq0)) := by rw [List.getElem?_map, List.getD_eq_getElem?_getD, List.getElem?_eq_getElem hk]; rfl
  exact list_set_self this
theorem built_seqH (x0 : Int) (x1 : Int) (x2 : Value) (h2 : x2.oneCell' = true) : Try.prog.built 35 [(0, .int .i64 x0), (1, .int .i64 x1), (2, x2)] = some #[.int .i64 x0, .int .i64 x1, x2] := by
  (cases x2 <;> first | (exact absurd h2 Bool.false_ne_true) | kernel_rfl)
theorem built_netH (x0 : Int) (x1 : Value) (x2 : Value) (x3 : Value) (h1 : x1.oneCell' = true) (h2 : x2.oneCell' = true) (h3 : x3.oneCell' = true) : Try.prog.built 101 [(0, .int .i64 x0), (1, x1), (2, x2), (3, x3)] = some #[.int .i64 x0, x1, x2, x3] := by
  (cases x1 <;> first | (exact absurd h1 Bool.false_ne_true) | (cases x2 <;> first | (exact absurd h2 Bool.false_ne_true) | (cases x3 <;> first | (exact absurd h3 Bool.false_ne_true) | kernel_rfl)))
theorem zfj {P : Program} {N : Nat} {w0 : World} {l : List HP} {env : List (Nat × Value)} {o : Oper} {t : TypeId} {ps : Array (Nat × Operand)} {vs : List (Nat × Value)} {cs : Array Value} (ho : o.op = .build t ps)
    (hp : ps.toList.mapM (fun p => (ev env p.2).map fun v => (p.1, v)) = some vs) (hb : ∀ w, Mem w0 l w → P.built t vs = some cs) : RunV P N w0 l env o (.agg cs) := fun a w st => zda ho hp (hb w st.mem) a w st
theorem l08CopySeqs_ret (ss : List Sq) (v : Value) (w : World) (hv : RdsW w v 3 ss.length (ss.flatMap sqC)) (hx : RdsSqs w ss) (hl : ss.length ≤ 12) (h4 : ∀ s ∈ ss, s.xs.length ≤ 4) :
   Calls Try.prog 89 #[v] w (Ret w (fun u_ p_ => ∃ (ps : List HP) (zs : List Sq), p_ = [rowE 35 3 u_ zs.length (zs.flatMap sqC), bigE ps] ∧ (∀ w, (bigE ps).holds w → RdsSqs w zs) ∧ zs.map sqv = ss.map sqv)) := by
 refine zbf (N := 34) (args := [v]) Try.func89 rfl rfl (zbc 1 rfl (srQ ?_))
 refine zdu rfl (zcq (s := 3) rfl Try.underlying24 rfl) ?_
 intro g1
 refine zbb 1 rfl (zac (zbc 1 rfl (zaw ?_)))
 refine zdo _ zfx ?_
 refine lkQ4 (α := Nat) (β := List Sq) (γ := Value) (δ := List HP) [0, 2] rfl (fun i zs gu ps => [bigE ps, rowE 35 3 gu zs.length (zs.flatMap sqC)]) (fun i zs gu ps => [(3, gu), (4, .int .i64 (i : Int))]) (fun i zs gu ps => i ≤ ss.length ∧ zs.map sqv = (ss.take i).map sqv ∧ ∀ w, (bigE ps).holds w → RdsSqs w zs) (fun i zs gu ps => ss.length - i) 0 [] _ _ ⟨by omega, by simp, fun w _ => RdsSqs.nil w⟩ (saQ rfl) (pfQ rfl) ?_
 intro i zs gu ps hi2
 obtain ⟨hi, hz, hps⟩ := hi2
 have hzl : zs.length = i := by have h9 := sqv_len hz; rw [List.length_take] at h9; omega
 refine zac (zac (reQ 2 rfl (hvQ rfl (lnQ rfl rfl rfl (zaa hv)) ?_)))
 refine zbh rfl rfl rfl rfl rfl rfl (fun h3 => ?_) (fun h3 => ?_)
 ·
  refine ntQ (zao rfl (zcp (sbQ ?_)))
  have h44 := h4 _ (zch (d := sq0) (show i < ss.length by omega))
  refine hc_draw4 (l := [bigE ps, rowE 35 3 gu zs.length (zs.flatMap sqC)]) rfl 20 [0, 1, 2, 3, 4, 5, 6, 7, 8, 9, 10, 11, 12, 13, 14, 15, 16, 17, 18, 19] (List.take 20 _) (List.drop 20 _) [[], [], [], [1, 2], [3], [4], [], [], [6, 7], [8], [9], [], [], [], [12, 13], [14], [15], [11, 16], [5, 10, 17], [17, 18]] [some 12, some 13, some 14, some 15, some 16, some 17, some 18, some 19, some 20, some 21, some 22, some 23, some 24, some 25, some 26, some 27, some 28, some 29, some 30, some 31] (fun i_ vs_ v_ p_ => match i_ with | 0 => v_ = gu ∧ p_ = [] | 1 => v_ = v ∧ p_ = [] | 2 => v_ = .int .i64 (i : Int) ∧ p_ = [] | 3 => v_ = elP v (((i : Int)).toNat * 3) ∧ p_ = [] | 4 => v_ = elP v (((i : Int)).toNat * 3 + 0) ∧ p_ = [] | 5 => v_ = .int .i64 ((ss.getD i sq0).kd) ∧ p_ = [] | 6 => v_ = v ∧ p_ = [] | 7 => v_ = .int .i64 (i : Int) ∧ p_ = [] | 8 => v_ = elP v (((i : Int)).toNat * 3) ∧ p_ = [] | 9 => v_ = elP v (((i : Int)).toNat * 3 + 1) ∧ p_ = [] | 10 => v_ = .int .i64 ((ss.getD i sq0).it) ∧ p_ = [] | 11 => IsRow 3 1 0 ([]) v_ p_ | 12 => v_ = v ∧ p_ = [] | 13 => v_ = .int .i64 (i : Int) ∧ p_ = [] | 14 => v_ = elP v (((i : Int)).toNat * 3) ∧ p_ = [] | 15 => v_ = elP v (((i : Int)).toNat * 3 + 2) ∧ p_ = [] | 16 => v_ = (ss.getD i sq0).iv ∧ p_ = [] | 17 => (∃ pm_, p_ = [pm_] ∧ (fun u_ p_ => p_ = rowE 3 1 u_ (((ss.getD i sq0).xs).length) (((ss.getD i sq0).xs).map (Value.int .i64))) v_ pm_) | 18 => v_ = .agg #[.int .i64 ((ss.getD i sq0).kd), .int .i64 ((ss.getD i sq0).it), (List.getD vs_ 2 undef)] ∧ p_ = [] | 19 => IsRow 35 3 1 ([.int .i64 ((ss.getD i sq0).kd), .int .i64 ((ss.getD i sq0).it), (List.getD vs_ 0 undef)]) v_ p_ | _ => True) [[], [], [], [1, 2], [3], [4], [], [], [6, 7], [8], [9], [], [], [], [12, 13], [14], [15], [16], [5, 10, 17], [17, 18]] [none, none, none, none, none, none, none, none, none, none, none, none, none, none, none, none, none, some 11, none, none] [] [0, 1, 2, 3, 4, 5, 6, 7, 8, 9, 10, 12, 13, 14, 15, 16, 17, 18, 19] 22 (List.take_append_drop 20 _).symm (by kernel_rfl) (by kernel_rfl) (by kernel_rfl) rfl rfl ?_ ?_
  ·
   refine ⟨?_, ?_, ?_, ?_, ?_, ?_, ?_, ?_, ?_, ?_, ?_, ?_, ?_, ?_, ?_, ?_, ?_, ?_, ?_, ?_, trivial⟩
   ·
    intro vf pf hmu hR
    refine zdz [] [] rfl (zbu (zai [3] rfl) ?_)
    exact zbd (zaj rfl)
   ·
    intro vf pf hmu hR
    refine zdz [] [] rfl (zbu (zai [0] rfl) ?_)
    exact zbd (zaj rfl)
   ·
    intro vf pf hmu hR
    refine zdz [] [] rfl (zbu (zai [4] rfl) ?_)
    exact zbd (zaj rfl)
   ·
    intro vf pf hmu hR
    have e1 := hR 1 (by decide)
    have e2 := hR 2 (by decide)
    refine zdz [1, 2] [1, 2] rfl (zbq (sk 13 (congrArg some e1.1) (sk 14 (congrArg some e2.1) (zab _))) (List.sublist_append_right _ _) ?_)
    exact zbd (riQ 3 rfl rfl rfl rfl (zaa hv))
   ·
    intro vf pf hmu hR
    have e3 := hR 3 (by decide)
    refine zdz [3] [3] rfl (zbq (sk 15 (congrArg some e3.1) (zab _)) (List.sublist_append_right _ _) ?_)
    exact zbd (zbx (k0 := 0) rfl rfl rfl (zaa hv) (by omega))
   ·
    intro vf pf hmu hR
    have e4 := hR 4 (by decide)
    refine zdz [4] [4] rfl (zbq (sk 16 (congrArg some e4.1) (zab _)) (List.sublist_append_right _ _) ?_)
    exact zbd (zat (u := .int .i64 ((ss.getD i sq0).kd)) rfl rfl rfl (zaa hv) ((zcy sqC 3 (fun _ => rfl) ss sq0 (show i < _ by omega) (by decide)).trans rfl))
   ·
    intro vf pf hmu hR
    refine zdz [] [] rfl (zbu (zai [0] rfl) ?_)
    exact zbd (zaj rfl)
   ·
    intro vf pf hmu hR
    refine zdz [] [] rfl (zbu (zai [4] rfl) ?_)
    exact zbd (zaj rfl)
   ·
    intro vf pf hmu hR
    have e6 := hR 6 (by decide)
    have e7 := hR 7 (by decide)
    refine zdz [6, 7] [6, 7] rfl (zbq (sk 18 (congrArg some e6.1) (sk 19 (congrArg some e7.1) (zab _))) (List.sublist_append_right _ _) ?_)
    exact zbd (riQ 3 rfl rfl rfl rfl (zaa hv))
   ·
    intro vf pf hmu hR
    have e8 := hR 8 (by decide)
    refine zdz [8] [8] rfl (zbq (sk 20 (congrArg some e8.1) (zab _)) (List.sublist_append_right _ _) ?_)
    exact zbd (zbx (k0 := 1) rfl rfl rfl (zaa hv) (by omega))
   ·
    intro vf pf hmu hR
    have e9 := hR 9 (by decide)
    refine zdz [9] [9] rfl (zbq (sk 21 (congrArg some e9.1) (zab _)) (List.sublist_append_right _ _) ?_)
    exact zbd (zat (u := .int .i64 ((ss.getD i sq0).it)) rfl rfl rfl (zaa hv) ((zcy sqC 3 (fun _ => rfl) ss sq0 (show i < _ by omega) (by decide)).trans rfl))
   ·
    intro vf pf hmu hR
    refine zdz [] [] rfl (zbq (zab _) (List.sublist_append_right _ _) ?_)
    exact zcq (s := 1) rfl Try.underlying26 rfl
   ·
    intro vf pf hmu hR
    refine zdz [] [] rfl (zbu (zai [0] rfl) ?_)
    exact zbd (zaj rfl)
   ·
    intro vf pf hmu hR
    refine zdz [] [] rfl (zbu (zai [4] rfl) ?_)
    exact zbd (zaj rfl)
   ·
    intro vf pf hmu hR
    have e12 := hR 12 (by decide)
    have e13 := hR 13 (by decide)
    refine zdz [12, 13] [12, 13] rfl (zbq (sk 24 (congrArg some e12.1) (sk 25 (congrArg some e13.1) (zab _))) (List.sublist_append_right _ _) ?_)
    exact zbd (riQ 3 rfl rfl rfl rfl (zaa hv))
   ·
    intro vf pf hmu hR
    have e14 := hR 14 (by decide)
    refine zdz [14] [14] rfl (zbq (sk 26 (congrArg some e14.1) (zab _)) (List.sublist_append_right _ _) ?_)
    exact zbd (zbx (k0 := 2) rfl rfl rfl (zaa hv) (by omega))
   ·
    intro vf pf hmu hR
    have e15 := hR 15 (by decide)
    refine zdz [15] [15] rfl (zbq (sk 27 (congrArg some e15.1) (zab _)) (List.sublist_append_right _ _) ?_)
    exact zbd (zat (u := (ss.getD i sq0).iv) rfl rfl rfl (zaa hv) ((zcy sqC 3 (fun _ => rfl) ss sq0 (show i < _ by omega) (by decide)).trans rfl))
   ·
    intro vf pf hmu hR
    have e11 : IsRow 3 1 0 ([]) (vf 11) (pf 11) := hR 11 (by decide)
    obtain ⟨g4, vE11, pE11⟩ := e11
    have e16 := hR 16 (by decide)
    refine Or.inl ⟨rfl, ?_⟩
    show RunM _ _ _ (pf 11) (([16] : List Nat).flatMap pf ++ _) (envOf3 _ vf [11, 16] ++ _) _ _
    rw [pE11]; rw [vE11]
    exact zdd (sk 23 (congrArg some vE11) (sk 28 (congrArg some e16.1) (zab _))) (by simp only [e16.2, fS] <;> rfl) (rm_append (d := 0) (z := .int .i64 0) (bytes := 8) (n' := ((ss.getD i sq0).xs).length) (xs' := (((ss.getD i sq0).xs).map (Value.int .i64))) rfl Try.underlying26 rfl rfl rfl rfl (zaa (hx.at (k := i) (by omega))) (zbw _) (by first | omega | (simp; done) | (simp; omega)) (Nat.zero_add _) (List.nil_append _))
   ·
    intro vf pf hmu hR
    have e5 := hR 5 (by decide)
    have e10 := hR 10 (by decide)
    have e17 : (∃ pm_, (pf 17) = [pm_] ∧ (fun u_ p_ => p_ = rowE 3 1 u_ (((ss.getD i sq0).xs).length) (((ss.getD i sq0).xs).map (Value.int .i64))) (vf 17) pm_) := hR 17 (by decide)
    obtain ⟨p6, pE17, hR7⟩ := e17
    obtain ⟨v5, vE17⟩ : ∃ x, vf 17 = x := ⟨_, rfl⟩
    rw [vE17] at hR7
    subst hR7
    refine zdz [5, 10, 17] [5, 10, 17] rfl (zcc (sk 17 (congrArg some e5.1) (sk 22 (congrArg some e10.1) (sk 29 (congrArg some vE17) (zab _)))) (by simp only [pE17, vE17, e5.2, e10.2, fS] <;> rfl) ?_)
    exact zco (zbd (zfj (cs := #[.int .i64 ((ss.getD i sq0).kd), .int .i64 ((ss.getD i sq0).it), v5]) rfl rfl (fun w hm => built_seqH ((ss.getD i sq0).kd) ((ss.getD i sq0).it) v5 ((zah 0 rfl w hm).one)))) (fun _ _ h => ⟨h.1.trans (by show _ = (.agg #[.int .i64 ((ss.getD i sq0).kd), .int .i64 ((ss.getD i sq0).it), (vf 17)] : Value); first | (rw [vE17]; done) | (rw [vE17]; rfl)), h.2⟩)
   intro vf pf hmu hR
   have e17 : (∃ pm_, (pf 17) = [pm_] ∧ (fun u_ p_ => p_ = rowE 3 1 u_ (((ss.getD i sq0).xs).length) (((ss.getD i sq0).xs).map (Value.int .i64))) (vf 17) pm_) := hR 17 (by decide)
   obtain ⟨p6, pE17, hR7⟩ := e17
   obtain ⟨v5, vE17⟩ : ∃ x, vf 17 = x := ⟨_, rfl⟩
   rw [vE17] at hR7
   subst hR7
   have e18 : (vf 18) = .agg #[.int .i64 ((ss.getD i sq0).kd), .int .i64 ((ss.getD i sq0).it), (vf 17)] ∧ (pf 18) = [] := hR 18 (by decide)
   rw [vE17] at e18
   refine zdz [17, 18] [17, 18] rfl (zcc (sk 30 (congrArg some e18.1) (zab _)) (by simp only [pE17, vE17, e18.2, fS] <;> rfl) ?_)
   exact zco (zau (z := .agg #[.int .i64 0, .int .i64 0, .slice none 0 0]) (s := 3) (cs := [.int .i64 ((ss.getD i sq0).kd), .int .i64 ((ss.getD i sq0).it), v5]) rfl Try.underlying24 rfl (by decide) rfl (by kernel_rfl) rfl) (fun v_ p_ h => by show IsRow 35 3 1 ([.int .i64 ((ss.getD i sq0).kd), .int .i64 ((ss.getD i sq0).it), (vf 17)]) v_ p_; rw [vE17]; exact h)
  intro vf pf hmu hR
  have e0 := hR 0 (by decide)
  have e11 : IsRow 3 1 0 ([]) (vf 11) (pf 11) := hR 11 (by decide)
  obtain ⟨g4, vE11, pE11⟩ := e11
  have e17 : (∃ pm_, (pf 17) = [pm_] ∧ (fun u_ p_ => p_ = rowE 3 1 u_ (((ss.getD i sq0).xs).length) (((ss.getD i sq0).xs).map (Value.int .i64))) (vf 17) pm_) := hR 17 (by decide)
  obtain ⟨p6, pE17, hR7⟩ := e17
  obtain ⟨v5, vE17⟩ : ∃ x, vf 17 = x := ⟨_, rfl⟩
  rw [vE17] at hR7
  subst hR7
  have e19 : IsRow 35 3 1 ([.int .i64 ((ss.getD i sq0).kd), .int .i64 ((ss.getD i sq0).it), (vf 17)]) (vf 19) (pf 19) := hR 19 (by decide)
  rw [vE17] at e19
  obtain ⟨g8, vE19, pE19⟩ := e19
  have q0 := hR 0 (by decide)
  have q1 := hR 1 (by decide)
  have q2 := hR 2 (by decide)
  have q3 := hR 3 (by decide)
  have q4 := hR 4 (by decide)
  have q5 := hR 5 (by decide)
  have q6 := hR 6 (by decide)
  have q7 := hR 7 (by decide)
  have q8 := hR 8 (by decide)
  have q9 := hR 9 (by decide)
  have q10 := hR 10 (by decide)
  have q12 := hR 12 (by decide)
  have q13 := hR 13 (by decide)
  have q14 := hR 14 (by decide)
  have q15 := hR 15 (by decide)
  have q16 := hR 16 (by decide)
  have q18 := hR 18 (by decide)
  refine zce (zbe [9, 4, 3, 2, 0] _ (sk 12 (congrArg some e0.1) (sk 31 (congrArg some vE19) (zab _))) rfl) (by simp only [pE17, vE17, pE19, vE19, q0.2, q1.2, q2.2, q3.2, q4.2, q5.2, q6.2, q7.2, q8.2, q9.2, q10.2, q12.2, q13.2, q14.2, q15.2, q16.2, q18.2, fS] <;> rfl) ?_
  simp only [List.drop_succ_cons, List.drop_zero]
  refine zcr (i := 0) rfl (fun ho9 => ?_)
  refine zcf (i := 3) (z := .agg #[.int .i64 0, .int .i64 0, .slice none 0 0]) (bytes := 40) rfl rfl rfl rfl Try.underlying24 (by kernel_rfl) rfl rfl rfl rfl (zah 1 rfl) (zae rfl (zae rfl (zae ho9 zbj))) (by first | omega | (simp only [List.length_append, List.length_cons, List.length_nil]; omega)) (zbt zs [(Sq.mk ((ss.getD i sq0).kd) ((ss.getD i sq0).it) v5 (ss.getD i sq0).xs)]) (zcs sqC zs (Sq.mk ((ss.getD i sq0).kd) ((ss.getD i sq0).it) v5 (ss.getD i sq0).xs) _ rfl) (fun _ => rfl) ?_
  intro v10
  refine enQ 1 rfl (zcv (reQ 1 rfl (hvQ rfl (vaQ rfl rfl rfl) (enQ 1 rfl ?_))))
  refine zbo 4 [3, 0, 2] rfl rfl (by decide) ?_
  refine zcx 2 rfl ?_
  exact zca (i + 1) (zs ++ [(Sq.mk ((ss.getD i sq0).kd) ((ss.getD i sq0).it) v5 (ss.getD i sq0).xs)]) v10 [bigE ps, rowE 3 1 v5 (((ss.getD i sq0).xs).length) (((ss.getD i sq0).xs).map (Value.int .i64))] ⟨by omega, by rw [List.map_append, hz, zfd sq0 (show i < ss.length by omega), List.map_append]; rfl, fun w hw => (hps w (zba hw List.mem_cons_self)).app (zbp (zba hw (List.mem_cons_of_mem _ List.mem_cons_self)))⟩ (by omega) (saQ rfl) (pfQ rfl)
 refine ntQ (zaq rfl ?_)
 refine zaz (zdr ?_)
 refine zaf (zax (zbc 2 rfl ?_))
 refine zav (zbo 2 [0, 1] rfl rfl (by decide) ?_)
 exact zdc (post := [rowE 35 3 gu zs.length (zs.flatMap sqC), bigE ps]) rfl rfl (.refl _) ⟨_, zs, rfl, hps, by rw [hz, List.take_of_length_le (by omega)]⟩
theorem l08Copy_ret (n : Nt) (w : World) (hr : RdsNt w n) (hn : NtOk n) :
   Calls Try.prog 90 #[.agg #[.int .i64 n.ins, n.sv, n.av, n.ov]] w (Ret w (fun u_ p_ => ∃ (ps : List HP) (m : Nt), u_ = m.agg ∧ p_ = [rowE 35 3 m.sv m.ss.length (m.ss.flatMap sqC), rowE 124 2 m.av m.gs.length (m.gs.flatMap anC), bigE ps] ∧ (∀ w, (bigE ps).holds w → RdsSqs w m.ss ∧ RdsW w m.ov 1 m.os.length (m.os.map (Value.int .i64))) ∧ (m.sv.oneCell' = true ∧ m.ov.oneCell' = true) ∧ CopyOf n m)) := by
 have hi0 := hn.i0
 have hi1 := hn.i1
 have hs1 := hn.s1
 have ha1 := hn.a1
 have ho1 := hn.o1
 have hcnt : n.cnt = 1 + n.ins + n.ss.length + n.gs.length := rfl
 have hfst : n.fst = 1 + n.ins + n.ss.length := rfl
 refine zbf (N := 17) (args := [.agg #[.int .i64 n.ins, n.sv, n.av, n.ov]]) Try.func90 rfl rfl (srQ ?_)
 refine zdt rfl (zct rfl rfl) ?_
 intro b1
 refine zdt rfl (zbm (z := .agg #[.int .i64 0, .slice none 0 0, .slice none 0 0, .slice none 0 0]) rfl rfl) ?_
 intro b2
 refine ntQ (zac ?_)
 refine hc_draw4 (l := [boxE b2 #[.int .i64 0, .slice none 0 0, .slice none 0 0, .slice none 0 0] 101, boxE b1 #[.int .i64 n.ins, n.sv, n.av, n.ov] 101]) rfl 13 [0, 1, 2, 3, 4, 5, 6, 7, 8, 9, 10, 11, 12] (List.take 13 _) (List.drop 13 _) [[], [0], [], [2], [3], [], [], [6], [5, 7], [], [], [10], [9, 11]] [some 3, some 4, some 5, some 6, some 7, some 8, some 9, some 10, some 11, some 12, some 13, some 14, some 15] (fun i_ vs_ v_ p_ => match i_ with | 0 => v_ = .pointer (some ⟨b1, 0 + 0, none⟩) ∧ p_ = [] | 1 => v_ = .int .i64 n.ins ∧ p_ = [] | 2 => v_ = .pointer (some ⟨b1, 0 + 1, none⟩) ∧ p_ = [] | 3 => v_ = n.sv ∧ p_ = [] | 4 => (fun u_ p_ => ∃ (ps : List HP) (zs : List Sq), p_ = [rowE 35 3 u_ zs.length (zs.flatMap sqC), bigE ps] ∧ (∀ w, (bigE ps).holds w → RdsSqs w zs) ∧ zs.map sqv = n.ss.map sqv) v_ p_ | 5 => IsRow 124 2 0 ([]) v_ p_ | 6 => v_ = .pointer (some ⟨b1, 0 + 2, none⟩) ∧ p_ = [] | 7 => v_ = n.av ∧ p_ = [] | 8 => (∃ pm_, p_ = [pm_] ∧ (fun u_ p_ => p_ = rowE 124 2 u_ n.gs.length (n.gs.flatMap anC)) v_ pm_) | 9 => IsRow 3 1 0 ([]) v_ p_ | 10 => v_ = .pointer (some ⟨b1, 0 + 3, none⟩) ∧ p_ = [] | 11 => v_ = n.ov ∧ p_ = [] | 12 => (∃ pm_, p_ = [pm_] ∧ (fun u_ p_ => p_ = rowE 3 1 u_ n.os.length (n.os.map (Value.int .i64))) v_ pm_) | _ => True) [[], [0], [], [2], [3], [], [], [6], [7], [], [], [10], [11]] [none, none, none, none, none, none, none, none, some 5, none, none, none, some 9] [] [0, 1, 2, 3, 4, 6, 7, 8, 10, 11, 12] 15 (List.take_append_drop 13 _).symm (by kernel_rfl) (by kernel_rfl) (by kernel_rfl) rfl rfl ?_ ?_
 ·
  refine ⟨?_, ?_, ?_, ?_, ?_, ?_, ?_, ?_, ?_, ?_, ?_, ?_, ?_, trivial⟩
  ·
   intro vf pf hmu hR
   refine zdz [] [] rfl (zbu (zai [1] rfl) ?_)
   exact zbd (fdQ 0 rfl rfl rfl)
  ·
   intro vf pf hmu hR
   have e0 := hR 0 (by decide)
   refine zdz [0] [0] rfl (zbq (sk 3 (congrArg some e0.1) (zab _)) (List.sublist_append_right _ _) ?_)
   exact zbd (zag rfl rfl rfl (zad 1 rfl rfl))
  ·
   intro vf pf hmu hR
   refine zdz [] [] rfl (zbu (zai [1] rfl) ?_)
   exact zbd (fdQ 1 rfl rfl rfl)
  ·
   intro vf pf hmu hR
   have e2 := hR 2 (by decide)
   refine zdz [2] [2] rfl (zbq (sk 5 (congrArg some e2.1) (zab _)) (List.sublist_append_right _ _) ?_)
   exact zbd (zag rfl rfl rfl (zad 1 rfl rfl))
  ·
   intro vf pf hmu hR
   have e3 := hR 3 (by decide)
   refine zdz [3] [3] rfl (zbq (sk 6 (congrArg some e3.1) (zab _)) (List.sublist_append_right _ _) ?_)
   exact zal rfl rfl (fun w hm => l08CopySeqs_ret n.ss _ w (hr.sq.below hm.bel) (fun s hs => (hr.xs s hs).below hm.bel) hn.s1 (fun s hs => (hn.sq s hs).len))
  ·
   intro vf pf hmu hR
   refine zdz [] [] rfl (zbq (zab _) (List.sublist_append_right _ _) ?_)
   exact zcq (s := 2) rfl Try.underlying99 rfl
  ·
   intro vf pf hmu hR
   refine zdz [] [] rfl (zbu (zai [1] rfl) ?_)
   exact zbd (fdQ 2 rfl rfl rfl)
  ·
   intro vf pf hmu hR
   have e6 := hR 6 (by decide)
   refine zdz [6] [6] rfl (zbq (sk 9 (congrArg some e6.1) (zab _)) (List.sublist_append_right _ _) ?_)
   exact zbd (zag rfl rfl rfl (zad 1 rfl rfl))
  ·
   intro vf pf hmu hR
   have e5 : IsRow 124 2 0 ([]) (vf 5) (pf 5) := hR 5 (by decide)
   obtain ⟨g6, vE5, pE5⟩ := e5
   have e7 := hR 7 (by decide)
   refine Or.inl ⟨rfl, ?_⟩
   show RunM _ _ _ (pf 5) (([7] : List Nat).flatMap pf ++ _) (envOf3 _ vf [5, 7] ++ _) _ _
   rw [pE5]; rw [vE5]
   exact zdd (sk 8 (congrArg some vE5) (sk 10 (congrArg some e7.1) (zab _))) (by simp only [e7.2, fS] <;> rfl) (rm_append (d := 0) (z := .agg #[.int .i64 0, .int .i64 0]) (bytes := 16) (n' := n.gs.length) (xs' := (n.gs.flatMap anC)) rfl Try.underlying99 rfl rfl rfl rfl (zaa hr.an) (flat_onesH anC n.gs (fun r u hu => by simp [anC] at hu; first | (subst hu; rfl) | (rcases hu with rfl | rfl <;> rfl))) (by first | omega | (simp only [List.length_take, List.length_drop]; omega)) (Nat.zero_add _) (List.nil_append _))
  ·
   intro vf pf hmu hR
   refine zdz [] [] rfl (zbq (zab _) (List.sublist_append_right _ _) ?_)
   exact zcq (s := 1) rfl Try.underlying26 rfl
  ·
   intro vf pf hmu hR
   refine zdz [] [] rfl (zbu (zai [1] rfl) ?_)
   exact zbd (fdQ 3 rfl rfl rfl)
  ·
   intro vf pf hmu hR
   have e10 := hR 10 (by decide)
   refine zdz [10] [10] rfl (zbq (sk 13 (congrArg some e10.1) (zab _)) (List.sublist_append_right _ _) ?_)
   exact zbd (zag rfl rfl rfl (zad 1 rfl rfl))
  intro vf pf hmu hR
  have e9 : IsRow 3 1 0 ([]) (vf 9) (pf 9) := hR 9 (by decide)
  obtain ⟨g10, vE9, pE9⟩ := e9
  have e11 := hR 11 (by decide)
  refine Or.inl ⟨rfl, ?_⟩
  show RunM _ _ _ (pf 9) (([11] : List Nat).flatMap pf ++ _) (envOf3 _ vf [9, 11] ++ _) _ _
  rw [pE9]; rw [vE9]
  exact zdd (sk 12 (congrArg some vE9) (sk 14 (congrArg some e11.1) (zab _))) (by simp only [e11.2, fS] <;> rfl) (rm_append (d := 0) (z := .int .i64 0) (bytes := 8) (n' := n.os.length) (xs' := (n.os.map (Value.int .i64))) rfl Try.underlying26 rfl rfl rfl rfl (zaa hr.ou) (zbw _) (by first | omega | (simp; done) | (simp; omega)) (Nat.zero_add _) (List.nil_append _))
 intro vf pf hmu hR
 have e1 := hR 1 (by decide)
 have e4 : (fun u_ p_ => ∃ (ps : List HP) (zs : List Sq), p_ = [rowE 35 3 u_ zs.length (zs.flatMap sqC), bigE ps] ∧ (∀ w, (bigE ps).holds w → RdsSqs w zs) ∧ zs.map sqv = n.ss.map sqv) (vf 4) (pf 4) := hR 4 (by decide)
 obtain ⟨v3, vE4⟩ : ∃ x, vf 4 = x := ⟨_, rfl⟩
 obtain ⟨p4, pE4⟩ : ∃ x, pf 4 = x := ⟨_, rfl⟩
 have hR5 := e4
 rw [vE4, pE4] at hR5
 obtain ⟨ps, zs, rfl, hps, hzs⟩ := hR5
 have e5 : IsRow 124 2 0 ([]) (vf 5) (pf 5) := hR 5 (by decide)
 obtain ⟨g6, vE5, pE5⟩ := e5
 have e8 : (∃ pm_, (pf 8) = [pm_] ∧ (fun u_ p_ => p_ = rowE 124 2 u_ n.gs.length (n.gs.flatMap anC)) (vf 8) pm_) := hR 8 (by decide)
 obtain ⟨p8, pE8, hR9⟩ := e8
 obtain ⟨v7, vE8⟩ : ∃ x, vf 8 = x := ⟨_, rfl⟩
 rw [vE8] at hR9
 subst hR9
 have e9 : IsRow 3 1 0 ([]) (vf 9) (pf 9) := hR 9 (by decide)
 obtain ⟨g10, vE9, pE9⟩ := e9
 have e12 : (∃ pm_, (pf 12) = [pm_] ∧ (fun u_ p_ => p_ = rowE 3 1 u_ n.os.length (n.os.map (Value.int .i64))) (vf 12) pm_) := hR 12 (by decide)
 obtain ⟨p12, pE12, hR13⟩ := e12
 obtain ⟨v11, vE12⟩ : ∃ x, vf 12 = x := ⟨_, rfl⟩
 rw [vE12] at hR13
 subst hR13
 have q0 := hR 0 (by decide)
 have q1 := hR 1 (by decide)
 have q2 := hR 2 (by decide)
 have q3 := hR 3 (by decide)
 have q6 := hR 6 (by decide)
 have q7 := hR 7 (by decide)
 have q10 := hR 10 (by decide)
 have q11 := hR 11 (by decide)
 refine zce (zbe [2, 1, 0] _ (sk 4 (congrArg some e1.1) (sk 7 (congrArg some vE4) (sk 11 (congrArg some vE8) (sk 15 (congrArg some vE12) (zab _))))) rfl) (by simp only [pE4, vE4, pE8, vE8, pE12, vE12, q0.2, q1.2, q2.2, q3.2, q6.2, q7.2, q10.2, q11.2, fS] <;> rfl) ?_
 simp only [List.drop_succ_cons, List.drop_zero]
 refine hvQ rfl (zfj (cs := #[.int .i64 n.ins, v3, v7, v11]) rfl rfl (fun w hm => built_netH n.ins v3 v7 v11 ((zah 0 rfl w hm).one) ((zah 2 rfl w hm).one) ((zah 3 rfl w hm).one))) (zcr (i := 3) rfl (fun ho14 => ?_))
 refine zcr (i := 2) rfl (fun ho15 => ?_)
 refine zcr (i := 0) rfl (fun ho16 => ?_)
 refine zbr (cs' := #[.int .i64 n.ins, v3, v7, v11]) (i := 4) (off := 0) (us := [.int .i64 n.ins, v3, v7, v11]) rfl rfl rfl rfl rfl rfl rfl (zae rfl (zae ho16 (zae ho15 (zae ho14 zbj)))) rfl rfl rfl (ntQ ?_)
 refine zav (zdv (fun w hm => (zah 0 rfl w hm).one) (fun ho1 => ?_))
 refine zdv (fun w hm => (zah 3 rfl w hm).one) (fun ho2 => ?_)
 refine zbo 6 [4, 2, 0, 3, 1] rfl rfl (by decide) ?_
 refine zcx 2 rfl ?_
 refine zbo 4 [3, 0, 2, 1] rfl rfl (by decide) ?_
 exact zdp (rs := [.cell 2 101]) (vs := [.agg #[.int .i64 n.ins, v3, v7, v11]]) (post := [rowE 35 3 v3 zs.length (zs.flatMap sqC), rowE 124 2 v7 n.gs.length (n.gs.flatMap anC), bigE [bigE ps, rowE 3 1 v11 n.os.length (n.os.map (Value.int .i64))]]) rfl ⟨⟨b2, 0, [.int .i64 n.ins, v3, v7, v11], rfl, rfl, by kernel_rfl, by kernel_rfl, zam 3 rfl 0 rfl⟩, trivial⟩ rfl (slQ [0, 0, 0] rfl) ⟨_, (Nt.mk n.ins v3 v7 v11 zs n.gs n.os), rfl, rfl, fun w hw => ⟨hps w (zba hw List.mem_cons_self), zbp (zba hw (List.mem_cons_of_mem _ List.mem_cons_self))⟩, ⟨ho1, ho2⟩, ⟨rfl, rfl, rfl, hzs⟩⟩
end Go.Proofs.Ytakjndmlanpadaa
