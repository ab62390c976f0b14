/- Texts of the law FnRunSteps, part 3: what it uses. -/
import Derived.Test.YtodiifjigjnalaaRst2
set_option linter.unusedVariables false
set_option linter.unusedSimpArgs false
set_option maxHeartbeats 4000000
set_option maxRecDepth 100000
namespace Go.Proofs.Ytodiifjigjnalaa
open Go.RowKit Go.ChangeShapes
open Go.RowKit
theorem zfi (m : Md) (w : World) (hr : RdsMd w m) :
   Calls Try.prog 66 #[.agg #[m.sv, m.av, m.iv, m.mv]] w (Ret w (fun u_ p_ => ∃ v, u_ = .tuple #[v, .bool (pB (EoP m))] ∧ p_ = [rowE 3 1 v (eoK m).length ((eoK m).map (Value.int .i64))])) := by
 have hs9 := sml hr.s
 have hg9 := sml hr.g
 have hx9 := sml hr.x
 refine zbw (N := 101) (args := [.agg #[m.sv, m.av, m.iv, m.mv]]) Try.func66 rfl rfl (srQ ?_)
 refine zdk rfl (zda rfl rfl) ?_
 intro b1
 refine zdo 3 1 (zaz 2 rfl (zfh (hvQ rfl (fdQ 2 rfl rfl rfl) (hvQ rfl (zac rfl rfl rfl (zaa 1 rfl rfl)) (hvQ rfl (lnQ rfl rfl rfl (zae ((hr).x))) ?_)))))
 refine zec rfl rfl rfl rfl rfl rfl (fun h3 => ?_) (fun h3 => ?_)
 ·
  refine zaz 7 rfl (zaj rfl (srQ ?_))
  refine zdo 3 1 (zaz 2 rfl ?_)
  refine zap (zaf ?_)
  have hE : ¬ EoP m := fun hp => by first | (have := hp.1; omega) | exact absurd hp.2.1 (by assumption) | exact Can.stop (m := m) (T := zs) (fun e => by have h9 : zs.length = 0 := (by rw [e]; rfl); omega) (fun q hq => hnf q (by omega)) (hp.2.2.sub hzs)
  exact zcw (rs := [.tmp 2, .tmp 3]) (vs := [.slice none 0 0, .bool false]) (post := [rowE 3 1 (.slice none 0 0) 0 ([])]) rfl ⟨rfl, rfl, trivial⟩ rfl (slQ [0] rfl) ⟨_, by rw [zcb hE]; rfl, by rw [eoK_no hE]; rfl⟩
 refine zah 1 rfl (hvQ rfl (zau (cs := [m.sv, m.av, m.iv, m.mv]) rfl rfl rfl rfl rfl (zaq 1 rfl 0 rfl)) ?_)
 refine zdu rfl (zan (z := .agg #[.slice none 0 0, .slice none 0 0, .slice none 0 0, .slice none 0 0]) (s := 4) (cs := [m.sv, m.av, m.iv, m.mv]) rfl Try.underlying24 rfl (by decide) rfl (by kernel_rfl) rfl) ?_
 intro g5
 refine hvQ rfl (zbl (cs := #[.slice (some ⟨g5, 0, none⟩) 1 1]) rfl rfl rfl) (zej rfl (zaw rfl rfl (fun w hm => zbe (implDesignOk_ans [m] (.slice (some ⟨g5, 0, none⟩) 1 1) w ⟨zai 0 rfl w hm, fun m9 h9 => by obtain rfl := List.mem_singleton.1 h9; exact hr.below hm.bel⟩))) ?_)
 refine zbq (fun h6 => ?_) (fun h6 => ?_)
 ·
  have h6p := zfc h6
  refine zaz 2 rfl (zas rfl (zcy (srQ ?_)))
  have hdes : DesP [m] := by assumption
  have hgs : ∀ i, i < m.gs.length → AsP m (m.gs.getD i as0) := fun i hi => hdes.gs1 hi
  obtain ⟨hl1, hl2, hl3, hl4⟩ := hdes.len1
  refine zdo 3 1 (zah 1 rfl ?_)
  refine zdo 3 1 (zaz 1 rfl (zfh (hvQ rfl (fdQ 1 rfl rfl rfl) (hvQ rfl (zac rfl rfl rfl (zaa 4 rfl rfl)) (hvQ rfl (lnQ rfl rfl rfl (zae ((hr).g))) (zaz 1 rfl ?_))))))
  refine zba ?_
  refine lkQ3 (α := Nat) (β := Value) (γ := List Int) [0, 1, 2, 3, 5, 24, 26, 27] rfl (fun i gt zs => [rowE 3 1 (.slice none 0 0) 0 ([]), rowE 3 1 gt zs.length (zs.map (Value.int .i64)), rowE 35 4 (.slice (some ⟨g5, 0, none⟩) 1 1) 1 ([m.sv, m.av, m.iv, m.mv]), rowE 3 1 (.slice none 0 0) 0 ([]), boxE b1 #[m.sv, m.av, m.iv, m.mv] 35]) (fun i gt zs => [(4, gt), (28, .int .i64 (i : Int))]) (fun i gt zs => i ≤ m.gs.length ∧ zs = todoA m i) (fun i gt zs => m.gs.length - i) 0 _ [] ⟨Nat.zero_le _, rfl⟩ (saQ rfl) (pfQ rfl) ?_
  intro i gt zs hi9
  obtain ⟨hi, hz⟩ := hi9
  have hzl : zs.length ≤ i := by rw [hz]; exact todoA_le _ _
  refine srQ ?_
  refine zbp rfl rfl rfl rfl rfl rfl (fun h10 => ?_) (fun h10 => ?_)
  ·
   refine ntQ (tcQ rfl (zcy (sbQ (zag (reQ 1 rfl (hvQ rfl (riQ 2 rfl rfl rfl rfl (zae ((hr).g))) ?_))))))
   refine hvQ rfl (zbj (us := [.int .i64 ((m.gs.getD i as0).t), (m.gs.getD i as0).ov]) rfl rfl rfl rfl (zae ((hr).g)) (by omega) rfl (zby asC 2 (fun _ => rfl) m.gs as0 (show i < _ by omega) rfl)) (zdk rfl (zbf (z := .agg #[.int .i64 0, .slice none 0 0]) rfl rfl) ?_)
   intro b11
   refine zah 1 rfl (zbd (cs' := #[.int .i64 ((m.gs.getD i as0).t), (m.gs.getD i as0).ov]) (i := 0) (off := 0) (us := [.int .i64 ((m.gs.getD i as0).t), (m.gs.getD i as0).ov]) rfl rfl rfl rfl rfl rfl rfl (zab rfl (zab (hr.o.at (k := i) (by omega)).one zbb)) rfl rfl rfl ?_)
   refine ntQ (srQ ?_)
   have htg := (hgs i (by omega)).tgt
   refine hvQ rfl (fdQ 0 rfl rfl rfl) (hvQ rfl (zac rfl rfl rfl (zaa 5 rfl rfl)) (hvQ rfl (fdQ 0 rfl rfl rfl) (hvQ rfl (zac rfl rfl rfl (zaa 0 rfl rfl)) (hvQ rfl (riQ 3 rfl rfl rfl rfl (zae ((hr).s))) (hvQ rfl (zat (k0 := 0) rfl rfl rfl (zae ((hr).s)) (by omega)) ?_)))))
   refine hvQ rfl (zak (u := .int .i64 ((m.ss.getD (((m.gs.getD i as0).t).toNat) sg0).k)) rfl rfl rfl (zae ((hr).s)) ((zbg sgC 3 (fun _ => rfl) m.ss sg0 (show ((m.gs.getD i as0).t).toNat < _ by omega) (by decide)).trans rfl)) (zff rfl rfl rfl rfl rfl rfl (fun h12 => ?_) (fun h12 => ?_))
   ·
    refine ntQ (zaj rfl (reQ 2 rfl ?_))
    refine zdu rfl (zan (z := .int .i64 0) (s := 1) (cs := ([(i : Int)].map (Value.int .i64))) rfl Try.underlying48 rfl (by decide) rfl (by kernel_rfl) rfl) ?_
    intro g13
    refine zcq (i := 3) (z := .int .i64 0) (bytes := 8) rfl rfl rfl rfl Try.underlying48 (by kernel_rfl) rfl rfl rfl rfl (zai 0 rfl) (zcg _) (by first | omega | (simp; done) | (simp; omega)) (zci zs ([(i : Int)])) (zcv zs ([(i : Int)])) (fun _ => rfl) ?_
    intro v14
    refine enQ 1 rfl (zde (zao (hvQ rfl (vaQ rfl rfl rfl) (enQ 1 rfl ?_))))
    exact zcl (i + 1) v14 (zs ++ ([(i : Int)])) ⟨by omega, by rw [hz]; exact todoA_yes (by omega)⟩ (by omega) (saQ rfl) (slQ [2, 0, 0, 0, 0] rfl)
   refine ntQ (fsQ rfl (zde (zao (hvQ rfl (vaQ rfl rfl rfl) (enQ 1 rfl ?_)))))
   exact zcl (i + 1) gt zs ⟨by omega, hz.trans (todoA_no (by omega))⟩ (by omega) (saQ rfl) (slQ [1, 0, 0, 0, 0] rfl)
  refine ntQ (fcQ rfl ?_)
  refine zbi (zdv ?_)
  refine zal (zar (sbQ ?_))
  refine lkQ4 (α := Value) (β := List Int) (γ := Value) (δ := List Int) [0, 1, 2, 3, 24, 26, 27, 28, 29] rfl (fun gu zs go ys => [rowE 3 1 go ys.length (ys.map (Value.int .i64)), rowE 3 1 gu zs.length (zs.map (Value.int .i64)), rowE 35 4 (.slice (some ⟨g5, 0, none⟩) 1 1) 1 ([m.sv, m.av, m.iv, m.mv]), rowE 3 1 (.slice none 0 0) 0 ([]), boxE b1 #[m.sv, m.av, m.iv, m.mv] 35]) (fun gu zs go ys => [(4, gu), (5, go)]) (fun gu zs go ys => (∀ x ∈ zs, x ∈ (todoA m m.gs.length)) ∧ (Can m zs → Can m (todoA m m.gs.length)) ∧ ys ++ ordK m zs = ordK m (todoA m m.gs.length) ∧ ys.length + zs.length ≤ 30) (fun gu zs go ys => zs.length) _ zs _ [] (by have e9 : i = m.gs.length := (by omega); rw [e9] at hz; rw [hz] at hzl ⊢; exact ⟨fun x hx => hx, fun h => h, rfl, by simp only [List.length_nil]; omega⟩) (saQ rfl) (pfQ rfl) ?_
  intro gu zs go ys hi15
  obtain ⟨hzs, hbk, hod, hln⟩ := hi15
  have hin : ∀ x ∈ zs, 0 ≤ x ∧ x < m.gs.length := fun x hx => by obtain ⟨j, h1, -, rfl⟩ := todoA_mem.1 (hzs x hx); omega
  refine zag (zag (reQ 1 rfl (hvQ rfl (lnQ rfl rfl rfl (zai 1 rfl)) ?_)))
  refine zec rfl rfl rfl rfl rfl rfl (fun h16 => ?_) (fun h16 => ?_)
  ·
   refine ntQ (zaj rfl (zcy (zba (zbh 1 rfl (zag ?_)))))
   refine zag (reQ 1 rfl (hvQ rfl (lnQ rfl rfl rfl (zai 1 rfl)) (zaz 1 rfl (zba ?_))))
   refine lkQ1 (α := Nat) [0, 1, 2, 3, 4, 5, 8, 24, 26, 27, 28, 29, 48, 49, 50] rfl (fun k => [rowE 3 1 go ys.length (ys.map (Value.int .i64)), rowE 3 1 gu zs.length (zs.map (Value.int .i64)), rowE 35 4 (.slice (some ⟨g5, 0, none⟩) 1 1) 1 ([m.sv, m.av, m.iv, m.mv]), rowE 3 1 (.slice none 0 0) 0 ([]), boxE b1 #[m.sv, m.av, m.iv, m.mv] 35]) (fun k => [(51, .int .i64 (k : Int))]) (fun k => k ≤ zs.length ∧ ∀ q, q < k → ¬ FreeP m zs (zs.getD q 0)) (fun k => zs.length - k) 0 ⟨Nat.zero_le _, fun q hq => absurd hq (by omega)⟩ (saQ rfl) (pfQ rfl) ?_
   intro k hi17
   obtain ⟨hk, hnf⟩ := hi17
   refine srQ ?_
   refine zbp rfl rfl rfl rfl rfl rfl (fun h18 => ?_) (fun h18 => ?_)
   ·
    refine ntQ (tcQ rfl (zcy (sbQ (srQ ?_))))
    have hkz := hin _ (zch (d := (0 : Int)) (show k < zs.length by omega))
    refine zah 1 rfl (hvQ rfl (riQ 1 rfl rfl rfl rfl (zai 1 rfl)) (hvQ rfl (liQ rfl rfl rfl (zai 1 rfl)) (zaz 2 rfl (zbh 1 rfl (zag ?_)))))
    refine zag (reQ 1 rfl (hvQ rfl (lnQ rfl rfl rfl (zai 1 rfl)) (zaz 1 rfl (zba ?_))))
    refine lkQ2 (α := Nat) (β := Bool) [0, 1, 2, 3, 4, 5, 8, 9, 10, 24, 26, 27, 28, 29, 48, 49, 50, 51, 52, 56, 57] rfl (fun j c => [rowE 3 1 go ys.length (ys.map (Value.int .i64)), rowE 3 1 gu zs.length (zs.map (Value.int .i64)), rowE 35 4 (.slice (some ⟨g5, 0, none⟩) 1 1) 1 ([m.sv, m.av, m.iv, m.mv]), rowE 3 1 (.slice none 0 0) 0 ([]), boxE b1 #[m.sv, m.av, m.iv, m.mv] 35]) (fun j c => [(11, .bool c), (58, .int .i64 (j : Int))]) (fun j c => j ≤ zs.length ∧ c = frB m zs (zs.getD k 0) j) (fun j c => zs.length - j) 0 true ⟨Nat.zero_le _, frB_0.symm⟩ (saQ rfl) (pfQ rfl) ?_
    intro j c hi19
    obtain ⟨hj, hcf⟩ := hi19
    refine srQ ?_
    refine zbp rfl rfl rfl rfl rfl rfl (fun h20 => ?_) (fun h20 => ?_)
    ·
     refine ntQ (tcQ rfl (zcy (sbQ (srQ ?_))))
     have hjz := hin _ (zch (d := (0 : Int)) (show j < zs.length by omega))
     refine hvQ rfl (riQ 1 rfl rfl rfl rfl (zai 1 rfl)) (hvQ rfl (liQ rfl rfl rfl (zai 1 rfl)) (zaz 1 rfl ?_))
     rcases Bool.eq_false_or_eq_true (c) with hb21 | hb21
     ·
      have hfr : j = zs.length → frB m zs (zs.getD k 0) zs.length = true := fun e9 => by rw [← e9, ← hcf]; exact hb21
      rcases Bool.eq_false_or_eq_true (pB (RdS (m.gs.getD (zs.getD k 0).toNat as0).os ((m.gs.getD ((zs.getD j 0).toNat) as0).t))) with hb22 | hb22
      ·
       have hb22p := zfc hb22
       refine zbv 17 [[], [0], [1], [1, 2], [1], [1, 3, 4], [1, 5], [1, 6], [1], [1, 8], [1], [1, 9, 10], [1, 11], [1, 12], [1, 7, 13], [1, 14], [1, 15]] [62, 63, 64, 65, 66, 67, 68, 69, 70, 71, 72, 73, 74, 75, 76, 77, 78] [.bool true, .bool true, .pointer (some ⟨b1, 0 + 1, none⟩), m.av, .int .i64 (zs.getD k 0), elP m.av ((zs.getD k 0).toNat * 2), elP m.av ((zs.getD k 0).toNat * 2 + 1), (m.gs.getD ((zs.getD k 0).toNat) as0).ov, .pointer (some ⟨b1, 0 + 1, none⟩), m.av, .int .i64 (zs.getD j 0), elP m.av ((zs.getD j 0).toNat * 2), elP m.av ((zs.getD j 0).toNat * 2 + 0), .int .i64 ((m.gs.getD ((zs.getD j 0).toNat) as0).t), .bool true, .bool false, .bool false] (by kernel_rfl) rfl ?_ ?_
       ·
        exact ⟨.inl ⟨rfl, zdp (zax rfl) hb21⟩, iaQ rfl (zax rfl) rfl, iaQ rfl (fdQ 1 rfl rfl rfl) rfl, iaQ rfl (zac rfl rfl rfl (zaa 4 rfl rfl)) rfl, iaQ rfl (zax rfl) rfl, iaQ rfl (riQ 2 rfl rfl rfl rfl (zae ((hr).g))) rfl, iaQ rfl (zat (k0 := 1) rfl rfl rfl (zae ((hr).g)) (by omega)) rfl, iaQ rfl (zak (u := (m.gs.getD ((zs.getD k 0).toNat) as0).ov) rfl rfl rfl (zae ((hr).g)) ((zbg asC 2 (fun _ => rfl) m.gs as0 (show (zs.getD k 0).toNat < _ by omega) (by decide)).trans rfl)) rfl, iaQ rfl (fdQ 1 rfl rfl rfl) rfl, iaQ rfl (zac rfl rfl rfl (zaa 4 rfl rfl)) rfl, iaQ rfl (zax rfl) rfl, iaQ rfl (riQ 2 rfl rfl rfl rfl (zae ((hr).g))) rfl, iaQ rfl (zat (k0 := 0) rfl rfl rfl (zae ((hr).g)) (by omega)) rfl, iaQ rfl (zak (u := .int .i64 ((m.gs.getD ((zs.getD j 0).toNat) as0).t)) rfl rfl rfl (zae ((hr).g)) ((zbg asC 2 (fun _ => rfl) m.gs as0 (show (zs.getD j 0).toNat < _ by omega) (by decide)).trans rfl)) rfl, .inl ⟨rfl, rq_cb (zaw rfl rfl (fun w hm => zbe (readsSignal_ans (m.gs.getD (zs.getD k 0).toNat as0).os ((m.gs.getD ((zs.getD j 0).toNat) as0).t) _ w ((hr.o.at (by omega)).below hm.bel)))) hb22⟩, iaQ rfl (zax rfl) rfl, iaQ rfl (zax rfl) rfl, trivial⟩
       simp only [List.drop_succ_cons, List.drop_zero]
       refine enQ 1 rfl (zde (zao (hvQ rfl (vaQ rfl rfl rfl) (enQ 1 rfl ?_))))
       exact zcp (j + 1) false ⟨by omega, (by first | exact (frB_no (hcf.symm.trans (by assumption))).symm | exact (frB_f (by assumption)).symm)⟩ (by omega) (saQ rfl) (pfQ rfl)
      have hb22p := zea hb22
      refine zbv 17 [[], [0], [1], [1, 2], [1], [1, 3, 4], [1, 5], [1, 6], [1], [1, 8], [1], [1, 9, 10], [1, 11], [1, 12], [1, 7, 13], [1, 14], [1, 15]] [62, 63, 64, 65, 66, 67, 68, 69, 70, 71, 72, 73, 74, 75, 76, 77, 78] [.bool true, .bool true, .pointer (some ⟨b1, 0 + 1, none⟩), m.av, .int .i64 (zs.getD k 0), elP m.av ((zs.getD k 0).toNat * 2), elP m.av ((zs.getD k 0).toNat * 2 + 1), (m.gs.getD ((zs.getD k 0).toNat) as0).ov, .pointer (some ⟨b1, 0 + 1, none⟩), m.av, .int .i64 (zs.getD j 0), elP m.av ((zs.getD j 0).toNat * 2), elP m.av ((zs.getD j 0).toNat * 2 + 0), .int .i64 ((m.gs.getD ((zs.getD j 0).toNat) as0).t), .bool false, .bool true, .bool true] (by kernel_rfl) rfl ?_ ?_
      ·
       exact ⟨.inl ⟨rfl, zdp (zax rfl) hb21⟩, iaQ rfl (zax rfl) rfl, iaQ rfl (fdQ 1 rfl rfl rfl) rfl, iaQ rfl (zac rfl rfl rfl (zaa 4 rfl rfl)) rfl, iaQ rfl (zax rfl) rfl, iaQ rfl (riQ 2 rfl rfl rfl rfl (zae ((hr).g))) rfl, iaQ rfl (zat (k0 := 1) rfl rfl rfl (zae ((hr).g)) (by omega)) rfl, iaQ rfl (zak (u := (m.gs.getD ((zs.getD k 0).toNat) as0).ov) rfl rfl rfl (zae ((hr).g)) ((zbg asC 2 (fun _ => rfl) m.gs as0 (show (zs.getD k 0).toNat < _ by omega) (by decide)).trans rfl)) rfl, iaQ rfl (fdQ 1 rfl rfl rfl) rfl, iaQ rfl (zac rfl rfl rfl (zaa 4 rfl rfl)) rfl, iaQ rfl (zax rfl) rfl, iaQ rfl (riQ 2 rfl rfl rfl rfl (zae ((hr).g))) rfl, iaQ rfl (zat (k0 := 0) rfl rfl rfl (zae ((hr).g)) (by omega)) rfl, iaQ rfl (zak (u := .int .i64 ((m.gs.getD ((zs.getD j 0).toNat) as0).t)) rfl rfl rfl (zae ((hr).g)) ((zbg asC 2 (fun _ => rfl) m.gs as0 (show (zs.getD j 0).toNat < _ by omega) (by decide)).trans rfl)) rfl, .inl ⟨rfl, rq_cb (zaw rfl rfl (fun w hm => zbe (readsSignal_ans (m.gs.getD (zs.getD k 0).toNat as0).os ((m.gs.getD ((zs.getD j 0).toNat) as0).t) _ w ((hr.o.at (by omega)).below hm.bel)))) hb22⟩, iaQ rfl (zax rfl) rfl, iaQ rfl (zax rfl) rfl, trivial⟩
      simp only [List.drop_succ_cons, List.drop_zero]
      refine enQ 1 rfl (zde (zao (hvQ rfl (vaQ rfl rfl rfl) (enQ 1 rfl ?_))))
      exact zcp (j + 1) true ⟨by omega, (frB_t (hcf.symm.trans (by assumption)) (by assumption)).symm⟩ (by omega) (saQ rfl) (pfQ rfl)
     have hfr : j = zs.length → frB m zs (zs.getD k 0) zs.length = false := fun e9 => by rw [← e9, ← hcf]; exact hb21
     refine zbv 17 [[], [0], [1], [1], [1], [1], [1], [1], [1], [1], [1], [1], [1], [1], [1], [1], [1, 15]] [62, 63, 64, 65, 66, 67, 68, 69, 70, 71, 72, 73, 74, 75, 76, 77, 78] [.bool false, .bool false, undef, undef, undef, undef, undef, undef, undef, undef, undef, undef, undef, undef, undef, undef, .bool false] (by kernel_rfl) rfl ?_ ?_
     ·
      exact ⟨.inl ⟨rfl, zdp (zax rfl) hb21⟩, iaQ rfl (zax rfl) rfl, .inr ⟨rfl, rfl⟩, .inr ⟨rfl, rfl⟩, .inr ⟨rfl, rfl⟩, .inr ⟨rfl, rfl⟩, .inr ⟨rfl, rfl⟩, .inr ⟨rfl, rfl⟩, .inr ⟨rfl, rfl⟩, .inr ⟨rfl, rfl⟩, .inr ⟨rfl, rfl⟩, .inr ⟨rfl, rfl⟩, .inr ⟨rfl, rfl⟩, .inr ⟨rfl, rfl⟩, .inr ⟨rfl, rfl⟩, .inr ⟨rfl, rfl⟩, iaQ rfl (zax rfl) rfl, trivial⟩
     simp only [List.drop_succ_cons, List.drop_zero]
     refine enQ 1 rfl (zde (zao (hvQ rfl (vaQ rfl rfl rfl) (enQ 1 rfl ?_))))
     exact zcp (j + 1) false ⟨by omega, (by first | exact (frB_no (hcf.symm.trans (by assumption))).symm | exact (frB_f (by assumption)).symm)⟩ (by omega) (saQ rfl) (pfQ rfl)
    refine ntQ (fcQ rfl ?_)
    refine zbi (zdv ?_)
    refine zal (zar (zag (reQ 1 rfl ?_)))
    refine zbq (fun h23 => ?_) (fun h23 => ?_)
    ·
     have hfr : j = zs.length → frB m zs (zs.getD k 0) zs.length = true := fun e9 => by rw [← e9, ← hcf]; exact h23
     refine ntQ (zaj rfl (zbh 2 rfl ?_))
     refine zbi (hq_block_past rfl ?_)
     refine zdv ?_
     refine zal (zar (zag (zag (reQ 1 rfl ?_))))
     refine zbp rfl rfl rfl rfl rfl rfl (fun h24 => absurd h24 (by omega)) (fun h24 => ?_)
     refine ntQ (zas rfl (zcy (zag (reQ 3 rfl (hvQ rfl (riQ 1 rfl rfl rfl rfl (zai 1 rfl)) (hvQ rfl (liQ rfl rfl rfl (zai 1 rfl)) ?_))))))
     refine zdu rfl (zan (z := .int .i64 0) (s := 1) (cs := ([zs.getD k 0].map (Value.int .i64))) rfl Try.underlying48 rfl (by decide) rfl (by kernel_rfl) rfl) ?_
     intro g25
     refine zcq (i := 1) (z := .int .i64 0) (bytes := 8) rfl rfl rfl rfl Try.underlying48 (by kernel_rfl) rfl rfl rfl rfl (zai 0 rfl) (zcg _) (by first | omega | (simp; done) | (simp; omega)) (zci ys ([zs.getD k 0])) (zcv ys ([zs.getD k 0])) (fun _ => rfl) ?_
     intro v26
     refine zaz 1 rfl ?_
     refine zbv 7 [[], [], [0, 1], [], [], [4], [3, 5]] [92, 93, 94, 95, 96, 97, 98] [gu, .int .i64 (k : Int), slV gu 0 ((k : Int)).toNat 1, gu, .int .i64 (k : Int), .int .i64 ((k : Int) + 1), slV gu ((k : Int) + 1).toNat zs.length 1] (by kernel_rfl) rfl ?_ ?_
     ·
      exact ⟨iaQ rfl (zax rfl) rfl, iaQ rfl (zax rfl) rfl, iaQ rfl (rv_slH rfl Try.underlying48 rfl rfl rfl (zai 2 rfl) (by omega) (by omega)) rfl, iaQ rfl (zax rfl) rfl, iaQ rfl (zax rfl) rfl, iaQ rfl (vaQ rfl rfl rfl) rfl, iaQ rfl (rv_slL rfl Try.underlying48 rfl rfl rfl (zai 2 rfl) (by omega) (by omega)) rfl, trivial⟩
     simp only [List.drop_succ_cons, List.drop_zero]
     refine hl_delete (i := 2) (k := ((k : Int)).toNat) (z := .int .i64 0) (bytes := 8) (n' := (zs.eraseIdx (((k : Int)).toNat)).length) (xs' := ((zs.eraseIdx (((k : Int)).toNat)).map (Value.int .i64))) (L := fun v27 => [rowE 3 1 (.slice (some ⟨g25, 0, none⟩) 1 1) 1 ([zs.getD k 0].map (Value.int .i64)), rowE 3 1 v26 ((ys ++ ([zs.getD k 0])).length) ((ys ++ ([zs.getD k 0])).map (Value.int .i64)), rowE 3 1 v27 ((zs.eraseIdx (((k : Int)).toNat)).length) ((zs.eraseIdx (((k : Int)).toNat)).map (Value.int .i64)), rowE 35 4 (.slice (some ⟨g5, 0, none⟩) 1 1) 1 ([m.sv, m.av, m.iv, m.mv]), rowE 3 1 (.slice none 0 0) 0 ([]), boxE b1 #[m.sv, m.av, m.iv, m.mv] 35]) rfl rfl rfl rfl Try.underlying48 rfl rfl rfl rfl rfl (by omega) (zcg _) (by omega) (List.length_eraseIdx_of_lt (by omega)).symm (del_map zs (by omega)) (fun _ => rfl) (fun v27 => ?_)
     refine enQ 1 rfl (zbr ?_)
     exact zdt _ (zs.eraseIdx (((k : Int)).toNat)) _ (ys ++ ([zs.getD k 0])) ⟨fun x hx => hzs x (zft hx), fun h => hbk (Can.back (by omega) (frB_yes (hfr (by omega))) h), by rw [← hod, ord_step (by omega) (frB_yes (hfr (by omega))) hnf]; simp, by rw [List.length_append, List.length_eraseIdx_of_lt (by omega)]; simp only [List.length_singleton]; omega⟩ (by rw [List.length_eraseIdx_of_lt (by omega)]; omega) (saQ rfl) (slQ [1, 0, 0, 0, 0] rfl)
    have hfr : j = zs.length → frB m zs (zs.getD k 0) zs.length = false := fun e9 => by rw [← e9, ← hcf]; exact h23
    refine ntQ (fsQ rfl (zde (zao (hvQ rfl (vaQ rfl rfl rfl) (enQ 1 rfl ?_)))))
    exact zbt (k + 1) ⟨by omega, fun q hq => by by_cases e : q = k; (subst e; exact frB_nn (hfr (by omega))); exact hnf q (by omega)⟩ (by omega) (saQ rfl) (pfQ rfl)
   refine ntQ (fcQ rfl ?_)
   refine zbi (zdv ?_)
   refine zal (zar (zag (zag (reQ 1 rfl ?_))))
   refine zbp rfl rfl rfl rfl rfl rfl (fun h28 => ?_) (fun h28 => absurd h28 (by omega))
   refine ntQ (zaj rfl (srQ ?_))
   refine zdo 3 1 (zaz 2 rfl ?_)
   refine zap (zaf ?_)
   refine zad (zaf ?_)
   refine zad (zaf ?_)
   have hE : ¬ EoP m := fun hp => by first | (have := hp.1; omega) | exact absurd hp.2.1 (by assumption) | exact Can.stop (m := m) (T := zs) (fun e => by have h9 : zs.length = 0 := (by rw [e]; rfl); omega) (fun q hq => hnf q (by omega)) (hp.2.2.sub hzs)
   exact zcw (rs := [.tmp 2, .tmp 3]) (vs := [.slice none 0 0, .bool false]) (post := [rowE 3 1 (.slice none 0 0) 0 ([])]) rfl ⟨rfl, rfl, trivial⟩ rfl (slQ [0] rfl) ⟨_, by rw [zcb hE]; rfl, by rw [eoK_no hE]; rfl⟩
  refine ntQ (zas rfl ?_)
  refine zbi (zdv ?_)
  refine zal (zar (zbh 3 rfl ?_))
  refine zap ?_
  have hz0 : zs = [] := List.eq_nil_of_length_eq_zero (by omega)
  have hE : EoP m := ⟨by omega, hdes, hbk (by rw [hz0]; exact Can.nil m)⟩
  have hys : ys = eoK m := by rw [eoK_yes hE, ← hod, hz0, ord_nil, List.append_nil]
  exact zcw (rs := [.tmp 2, .tmp 3]) (vs := [go, .bool true]) (post := [rowE 3 1 go ys.length (ys.map (Value.int .i64))]) rfl ⟨rfl, rfl, trivial⟩ rfl (slQ [0] rfl) ⟨_, by rw [zdf hE]; rfl, by rw [hys]⟩
 have h6p := zea h6
 refine zaz 2 rfl (zaj rfl (srQ ?_))
 refine zdo 3 1 (zaz 2 rfl ?_)
 refine zap (zaf ?_)
 have hE : ¬ EoP m := fun hp => by first | (have := hp.1; omega) | exact absurd hp.2.1 (by assumption) | exact Can.stop (m := m) (T := zs) (fun e => by have h9 : zs.length = 0 := (by rw [e]; rfl); omega) (fun q hq => hnf q (by omega)) (hp.2.2.sub hzs)
 exact zcw (rs := [.tmp 2, .tmp 3]) (vs := [.slice none 0 0, .bool false]) (post := [rowE 3 1 (.slice none 0 0) 0 ([])]) rfl ⟨rfl, rfl, trivial⟩ rfl (slQ [0] rfl) ⟨_, by rw [zcb hE]; rfl, by rw [eoK_no hE]; rfl⟩
theorem DesP.sg1 {m : Md} (h : DesP [m]) {i : Nat} (hi : i < m.ss.length) : SgP (m.ss.getD i sg0) := (h.2 0 (by simp)).sg i hi
theorem DesP.ms1 {m : Md} (h : DesP [m]) {i : Nat} (hi : i < m.ms.length) : MmP m (m.ms.getD i mm0) := (h.2 0 (by simp)).ms i hi
theorem pwK_rng {m : Md} (h : DesP [m]) (c : Int) : ∀ x ∈ pwK m c, 0 ≤ x ∧ x ≤ 4 := fun x hx => by
  unfold pwK at hx; split at hx
  · exact pwA_rng (fun q hq => (h.sg1 hq).2.1) _ (Nat.le_refl _) x hx
  · cases hx
theorem sumZ_rng {m : Md} (h : DesP [m]) (c : Int) : 0 ≤ sumZ (pwK m c) ∧ sumZ (pwK m c) ≤ 120 := by
  have h1 := sumA_rng (pwK_rng h c) _ (Nat.le_refl _)
  have h2 := pwK_le m c
  unfold sumZ; omega
theorem moA_rng {m : Md} (h : DesP [m]) : ∀ j, j ≤ m.ms.length → 0 ≤ moA m j ∧ moA m j ≤ 4 * j
  | 0, _ => ⟨Int.le_refl _, Int.le_refl _⟩
  | j + 1, hj => by
    have h1 := moA_rng h j (by omega)
    have h2 := (h.ms1 (show j < m.ms.length by omega)).2.inn
    have h3 := (h.sg1 (i := (m.ms.getD j mm0).o.toNat) (by have := h2.1; have := h2.2; omega)).2.1
    show 0 ≤ moA m j + _ ∧ moA m j + _ ≤ _
    omega
theorem memI {m : Md} (h : DesP [m]) {i : Nat} (hi : i < m.ms.length) : ((0 ≤ (m.ms.getD i mm0).a ∧ (m.ms.getD i mm0).a < m.ss.length) ∧ (0 ≤ (m.ms.getD i mm0).d ∧ (m.ms.getD i mm0).d < m.ss.length) ∧ 0 ≤ (m.ms.getD i mm0).w ∧ (m.ms.getD i mm0).w < m.ss.length) ∧ (0 ≤ (m.ms.getD i mm0).o ∧ (m.ms.getD i mm0).o < m.ss.length) ∧ 0 ≤ (m.ss.getD (m.ms.getD i mm0).o.toNat sg0).w ∧ (m.ss.getD (m.ms.getD i mm0).o.toNat sg0).w ≤ 4 := by
  have h1 := h.ms1 hi
  have h2 := h1.2.inn
  have h3 := (h.sg1 (i := (m.ms.getD i mm0).o.toNat) (by have := h2.1; have := h2.2; omega)).2.1
  exact ⟨h1.1, h2, h3⟩
theorem zfy (m : Md) (w : World) (hr : RdsMd w m) :
   Calls Try.prog 29 #[.agg #[m.sv, m.av, m.iv, m.mv]] w (Ans w (.bool (pB (FlP m)))) := by
 have hs9 := sml hr.s
 have hg9 := sml hr.g
 have hx9 := sml hr.x
 have hm9 := sml hr.m
 refine zbw (N := 110) (args := [.agg #[m.sv, m.av, m.iv, m.mv]]) Try.func29 rfl rfl (srQ ?_)
 refine zdk rfl (zda rfl rfl) ?_
 intro b1
 refine zaz 1 rfl (srQ (hvQ rfl (zau (cs := [m.sv, m.av, m.iv, m.mv]) rfl rfl rfl rfl rfl (zaq 0 rfl 0 rfl)) ?_))
 refine zfq rfl rfl rfl (zaw rfl rfl (fun w hm => zfi m w (hr.below hm.bel))) ?_
 intro v2 p3 hR4
 obtain ⟨ov, rfl, rfl⟩ := hR4
 refine zah 3 rfl (zbq (fun h5 => ?_) (fun h5 => ?_))
 ·
  have h5p := zfc h5
  refine zaz 2 rfl (zag (zbh 2 rfl (zas rfl (zcy ?_))))
  refine zfh ?_
  have hE : EoP m := by assumption
  have hdes := hE.2.1
  obtain ⟨hl1, hl2, hl3, hl4⟩ := hdes.len1
  have hz3 := sumZ_rng hdes 3
  refine hvQ rfl (fdQ 0 rfl rfl rfl) (hvQ rfl (zac rfl rfl rfl (zaa 1 rfl rfl)) (hvQ rfl (lnQ rfl rfl rfl (zae ((hr).s))) (zaz 1 rfl (zba ?_))))
  refine lkQ1 (α := Nat) [0, 1, 2, 4, 18, 20, 21] rfl (fun i => [rowE 3 1 ov ((eoK m).length) ((eoK m).map (Value.int .i64)), boxE b1 #[m.sv, m.av, m.iv, m.mv] 35]) (fun i => [(22, .int .i64 (i : Int))]) (fun i => i ≤ m.ss.length ∧ ∀ q, q < i → (m.ss.getD q sg0).w ≠ 0) (fun i => m.ss.length - i) 0 ⟨Nat.zero_le _, fun q hq => absurd hq (by omega)⟩ (saQ rfl) (pfQ rfl) ?_
  intro i hi6
  obtain ⟨hi, hwd⟩ := hi6
  refine srQ ?_
  refine zbp rfl rfl rfl rfl rfl rfl (fun h7 => ?_) (fun h7 => ?_)
  ·
   refine ntQ (tcQ rfl (zcy (sbQ (srQ (hvQ rfl (riQ 3 rfl rfl rfl rfl (zae ((hr).s))) ?_)))))
   refine hvQ rfl (zbj (us := [.int .i64 ((m.ss.getD i sg0).k), .int .i64 ((m.ss.getD i sg0).w), .int .i64 ((m.ss.getD i sg0).i)]) rfl rfl rfl rfl (zae ((hr).s)) (by omega) rfl (zby sgC 3 (fun _ => rfl) m.ss sg0 (show i < _ by omega) rfl)) (zdk rfl (zbf (z := .agg #[.int .i64 0, .int .i64 0, .int .i64 0]) rfl rfl) ?_)
   intro b8
   refine zbd (cs' := #[.int .i64 ((m.ss.getD i sg0).k), .int .i64 ((m.ss.getD i sg0).w), .int .i64 ((m.ss.getD i sg0).i)]) (i := 0) (off := 0) (us := [.int .i64 ((m.ss.getD i sg0).k), .int .i64 ((m.ss.getD i sg0).w), .int .i64 ((m.ss.getD i sg0).i)]) rfl rfl rfl rfl rfl rfl rfl (zab rfl (zab rfl (zab rfl zbb))) rfl rfl rfl (ntQ (srQ (hvQ rfl (fdQ 1 rfl rfl rfl) (hvQ rfl (zac rfl rfl rfl (zaa 0 rfl rfl)) ?_))))
   refine zbu rfl rfl rfl rfl rfl rfl (fun h9 => ?_) (fun h9 => ?_)
   ·
    refine ntQ (zaj rfl (zbh 1 rfl ?_))
    refine zap (zad ?_)
    refine zdw ?_
    refine zad (zaf ?_)
    exact zay rfl rfl (congrArg _ (zcb (fun hp => by first | (exact absurd hp.eo (by assumption)) | (exact absurd (by omega) (hp.wid i (by omega))) | (exact absurd (by assumption) (hp.par k (by omega))) | (have h9 := hp.mem j (by omega); unfold MwP at h9; omega) | (have h9 := hp.ins; omega) | (have h9 := hp.outs; omega) | (have h9 := hp.bits; rw [show m.ms.length = j by omega] at h9; omega))).symm)
   refine ntQ (fsQ rfl (zde (zao (hvQ rfl (vaQ rfl rfl rfl) (enQ 1 rfl ?_)))))
   exact zbt (i + 1) ⟨by omega, fun q hq => by by_cases e : q = i; (subst e; omega); exact hwd q (by omega)⟩ (by omega) (saQ rfl) (slQ [1, 0] rfl)
  refine ntQ (fcQ rfl ?_)
  refine zbi (zdv ?_)
  refine zal (zar (zfh (hvQ rfl (fdQ 1 rfl rfl rfl) (hvQ rfl (zac rfl rfl rfl (zaa 1 rfl rfl)) (hvQ rfl (lnQ rfl rfl rfl (zae ((hr).g))) (zaz 1 rfl (zba ?_)))))))
  refine lkQ1 (α := Nat) [0, 1, 2, 4, 18, 20, 21, 22, 23, 31, 32] rfl (fun k => [rowE 3 1 ov ((eoK m).length) ((eoK m).map (Value.int .i64)), boxE b1 #[m.sv, m.av, m.iv, m.mv] 35]) (fun k => [(33, .int .i64 (k : Int))]) (fun k => k ≤ m.gs.length ∧ ∀ q, q < k → ¬ HpP (m.gs.getD q as0).os) (fun k => m.gs.length - k) 0 ⟨Nat.zero_le _, fun q hq => absurd hq (by omega)⟩ (saQ rfl) (pfQ rfl) ?_
  intro k hi10
  obtain ⟨hk, hpr⟩ := hi10
  refine srQ ?_
  refine zbp rfl rfl rfl rfl rfl rfl (fun h11 => ?_) (fun h11 => ?_)
  ·
   refine ntQ (tcQ rfl (zcy (sbQ (srQ (hvQ rfl (riQ 2 rfl rfl rfl rfl (zae ((hr).g))) ?_)))))
   refine hvQ rfl (zbj (us := [.int .i64 ((m.gs.getD k as0).t), (m.gs.getD k as0).ov]) rfl rfl rfl rfl (zae ((hr).g)) (by omega) rfl (zby asC 2 (fun _ => rfl) m.gs as0 (show k < _ by omega) rfl)) (zdk rfl (zbf (z := .agg #[.int .i64 0, .slice none 0 0]) rfl rfl) ?_)
   intro b12
   refine zbd (cs' := #[.int .i64 ((m.gs.getD k as0).t), (m.gs.getD k as0).ov]) (i := 0) (off := 0) (us := [.int .i64 ((m.gs.getD k as0).t), (m.gs.getD k as0).ov]) rfl rfl rfl rfl rfl rfl rfl (zab rfl (zab (hr.o.at (k := k) (by omega)).one zbb)) rfl rfl rfl (ntQ (srQ (hvQ rfl (fdQ 1 rfl rfl rfl) (hvQ rfl (zac rfl rfl rfl (zaa 0 rfl rfl)) ?_))))
   refine zej rfl (zaw rfl rfl (fun w hm => zbe (hasParam_ans (m.gs.getD k as0).os _ w ((hr.o.at (by omega)).below hm.bel)))) (zbq (fun h13 => ?_) (fun h13 => ?_))
   ·
    have h13p := zfc h13
    refine ntQ (zaj rfl (zbh 1 rfl ?_))
    refine zap (zad ?_)
    refine zdw ?_
    refine zad (zaf ?_)
    exact zay rfl rfl (congrArg _ (zcb (fun hp => by first | (exact absurd hp.eo (by assumption)) | (exact absurd (by omega) (hp.wid i (by omega))) | (exact absurd (by assumption) (hp.par k (by omega))) | (have h9 := hp.mem j (by omega); unfold MwP at h9; omega) | (have h9 := hp.ins; omega) | (have h9 := hp.outs; omega) | (have h9 := hp.bits; rw [show m.ms.length = j by omega] at h9; omega))).symm)
   have h13p := zea h13
   refine ntQ (fsQ rfl (zde (zao (hvQ rfl (vaQ rfl rfl rfl) (enQ 1 rfl ?_)))))
   exact zbt (k + 1) ⟨by omega, fun q hq => by by_cases e : q = k; (subst e; assumption); exact hpr q (by omega)⟩ (by omega) (saQ rfl) (slQ [1, 0] rfl)
  refine ntQ (fcQ rfl ?_)
  refine zbi (zdv ?_)
  refine zal (zar (srQ (hvQ rfl (zau (cs := [m.sv, m.av, m.iv, m.mv]) rfl rfl rfl rfl rfl (zaq 1 rfl 0 rfl)) ?_)))
  refine zfq rfl rfl rfl (zaw rfl rfl (fun w hm => zds m 3 w (hr.below hm.bel))) ?_
  intro v14 p15 hR16
  subst hR16
  refine zej rfl (zaw rfl rfl (fun w hm => zbe (sumInts_ans (pwK m 3) v14 w (zai 0 rfl w hm) (pwK_rng hdes _) (pwK_le _ _)))) (zaz 1 rfl (zfh (hvQ rfl (fdQ 3 rfl rfl rfl) (hvQ rfl (zac rfl rfl rfl (zaa 2 rfl rfl)) (hvQ rfl (lnQ rfl rfl rfl (zae ((hr).m))) (zaz 1 rfl ?_))))))
  refine zba ?_
  refine lkQ2 (α := Nat) (β := Int) [0, 1, 2, 4, 18, 20, 21, 22, 23, 31, 32, 33, 34, 45, 46] rfl (fun j c => [rowE 3 1 v14 ((pwK m 3).length) ((pwK m 3).map (Value.int .i64)), rowE 3 1 ov ((eoK m).length) ((eoK m).map (Value.int .i64)), boxE b1 #[m.sv, m.av, m.iv, m.mv] 35]) (fun j c => [(9, .int .i64 c), (47, .int .i64 (j : Int))]) (fun j c => j ≤ m.ms.length ∧ c = sumZ (pwK m 3) + moA m j ∧ ∀ q, q < j → MwP m (m.ms.getD q mm0)) (fun j c => m.ms.length - j) 0 _ ⟨Nat.zero_le _, (by show _ = _ + (0 : Int); omega), fun q hq => absurd hq (by omega)⟩ (saQ rfl) (pfQ rfl) ?_
  intro j c hi17
  obtain ⟨hj, hcs, hmw⟩ := hi17
  have hmo := moA_rng hdes j hj
  refine srQ ?_
  refine zbp rfl rfl rfl rfl rfl rfl (fun h18 => ?_) (fun h18 => ?_)
  ·
   refine ntQ (tcQ rfl (zcy (sbQ (srQ ?_))))
   have hmm := memI hdes (show j < m.ms.length by omega)
   refine hvQ rfl (riQ 4 rfl rfl rfl rfl (zae ((hr).m))) (hvQ rfl (zbj (us := [.int .i64 ((m.ms.getD j mm0).a), .int .i64 ((m.ms.getD j mm0).d), .int .i64 ((m.ms.getD j mm0).w), .int .i64 ((m.ms.getD j mm0).o)]) rfl rfl rfl rfl (zae ((hr).m)) (by omega) rfl (zby mmC 4 (fun _ => rfl) m.ms mm0 (show j < _ by omega) rfl)) ?_)
   refine zdk rfl (zbf (z := .agg #[.int .i64 0, .int .i64 0, .int .i64 0, .int .i64 0]) rfl rfl) ?_
   intro b19
   refine zbd (cs' := #[.int .i64 ((m.ms.getD j mm0).a), .int .i64 ((m.ms.getD j mm0).d), .int .i64 ((m.ms.getD j mm0).w), .int .i64 ((m.ms.getD j mm0).o)]) (i := 0) (off := 0) (us := [.int .i64 ((m.ms.getD j mm0).a), .int .i64 ((m.ms.getD j mm0).d), .int .i64 ((m.ms.getD j mm0).w), .int .i64 ((m.ms.getD j mm0).o)]) rfl rfl rfl rfl rfl rfl rfl (zab rfl (zab rfl (zab rfl (zab rfl zbb)))) rfl rfl rfl (ntQ (zag (zag ?_)))
   rcases Bool.eq_false_or_eq_true (((m.ss.getD (((m.ms.getD j mm0).a).toNat) sg0).w) != 2) with hb20 | hb20
   ·
    have hb20p : (m.ss.getD (((m.ms.getD j mm0).a).toNat) sg0).w ≠ 2 := bne_iff_ne.1 hb20
    refine zbv 35 [[], [0], [], [2], [1, 3], [4], [5], [6], [7], [8], [8], [8], [8], [8], [8], [8], [8], [8, 16], [17], [18], [18], [18], [18], [18], [18], [18], [18], [18], [18], [18], [18], [18], [18], [18], [18, 33]] [51, 52, 53, 54, 55, 56, 57, 58, 59, 60, 61, 62, 63, 64, 65, 66, 67, 68, 69, 70, 71, 72, 73, 74, 75, 76, 77, 78, 79, 80, 81, 82, 83, 84, 85] [.pointer (some ⟨b1, 0 + 0, none⟩), m.sv, .pointer (some ⟨b19, 0 + 0, none⟩), .int .i64 ((m.ms.getD j mm0).a), elP m.sv (((m.ms.getD j mm0).a).toNat * 3), elP m.sv (((m.ms.getD j mm0).a).toNat * 3 + 1), .int .i64 ((m.ss.getD (((m.ms.getD j mm0).a).toNat) sg0).w), .bool true, .bool true, undef, undef, undef, undef, undef, undef, undef, undef, .bool true, .bool true, undef, undef, undef, undef, undef, undef, undef, undef, undef, undef, undef, undef, undef, undef, undef, .bool true] (by kernel_rfl) rfl ?_ ?_
    ·
     exact ⟨iaQ rfl (fdQ 0 rfl rfl rfl) rfl, iaQ rfl (zac rfl rfl rfl (zaa 3 rfl rfl)) rfl, iaQ rfl (fdQ 0 rfl rfl rfl) rfl, iaQ rfl (zac rfl rfl rfl (zaa 0 rfl rfl)) rfl, iaQ rfl (riQ 3 rfl rfl rfl rfl (zae ((hr).s))) rfl, iaQ rfl (zat (k0 := 1) rfl rfl rfl (zae ((hr).s)) (by omega)) rfl, iaQ rfl (zak (u := .int .i64 ((m.ss.getD (((m.ms.getD j mm0).a).toNat) sg0).w)) rfl rfl rfl (zae ((hr).s)) ((zbg sgC 3 (fun _ => rfl) m.ss sg0 (show ((m.ms.getD j mm0).a).toNat < _ by omega) (by decide)).trans rfl)) rfl, .inl ⟨rfl, zdp (zck rfl rfl rfl rfl) hb20⟩, iaQ rfl (zax rfl) rfl, .inr ⟨rfl, rfl⟩, .inr ⟨rfl, rfl⟩, .inr ⟨rfl, rfl⟩, .inr ⟨rfl, rfl⟩, .inr ⟨rfl, rfl⟩, .inr ⟨rfl, rfl⟩, .inr ⟨rfl, rfl⟩, .inr ⟨rfl, rfl⟩, iaQ rfl (zax rfl) rfl, iaQ rfl (zax rfl) rfl, .inr ⟨rfl, rfl⟩, .inr ⟨rfl, rfl⟩, .inr ⟨rfl, rfl⟩, .inr ⟨rfl, rfl⟩, .inr ⟨rfl, rfl⟩, .inr ⟨rfl, rfl⟩, .inr ⟨rfl, rfl⟩, .inr ⟨rfl, rfl⟩, .inr ⟨rfl, rfl⟩, .inr ⟨rfl, rfl⟩, .inr ⟨rfl, rfl⟩, .inr ⟨rfl, rfl⟩, .inr ⟨rfl, rfl⟩, .inr ⟨rfl, rfl⟩, .inr ⟨rfl, rfl⟩, iaQ rfl (zax rfl) rfl, trivial⟩
    simp only [List.drop_succ_cons, List.drop_zero]
    refine ntQ (zaj rfl (zbh 1 rfl ?_))
    refine zap (zaf ?_)
    refine zad (zdw ?_)
    refine zad (zaf ?_)
    exact zay rfl rfl (congrArg _ (zcb (fun hp => by first | (exact absurd hp.eo (by assumption)) | (exact absurd (by omega) (hp.wid i (by omega))) | (exact absurd (by assumption) (hp.par k (by omega))) | (have h9 := hp.mem j (by omega); unfold MwP at h9; omega) | (have h9 := hp.ins; omega) | (have h9 := hp.outs; omega) | (have h9 := hp.bits; rw [show m.ms.length = j by omega] at h9; omega))).symm)
   have hb20p : (m.ss.getD (((m.ms.getD j mm0).a).toNat) sg0).w = 2 := (bne_eq_false_iff_eq.1 hb20)
   rcases Bool.eq_false_or_eq_true (((m.ss.getD (((m.ms.getD j mm0).w).toNat) sg0).w) != 1) with hb21 | hb21
   ·
    have hb21p : (m.ss.getD (((m.ms.getD j mm0).w).toNat) sg0).w ≠ 1 := bne_iff_ne.1 hb21
    refine zbv 35 [[], [0], [], [2], [1, 3], [4], [5], [6], [7], [8], [8, 9], [8], [8, 11], [8, 10, 12], [8, 13], [8, 14], [8, 15], [8, 16], [17], [18], [18], [18], [18], [18], [18], [18], [18], [18], [18], [18], [18], [18], [18], [18], [18, 33]] [51, 52, 53, 54, 55, 56, 57, 58, 59, 60, 61, 62, 63, 64, 65, 66, 67, 68, 69, 70, 71, 72, 73, 74, 75, 76, 77, 78, 79, 80, 81, 82, 83, 84, 85] [.pointer (some ⟨b1, 0 + 0, none⟩), m.sv, .pointer (some ⟨b19, 0 + 0, none⟩), .int .i64 ((m.ms.getD j mm0).a), elP m.sv (((m.ms.getD j mm0).a).toNat * 3), elP m.sv (((m.ms.getD j mm0).a).toNat * 3 + 1), .int .i64 ((m.ss.getD (((m.ms.getD j mm0).a).toNat) sg0).w), .bool false, .bool false, .pointer (some ⟨b1, 0 + 0, none⟩), m.sv, .pointer (some ⟨b19, 0 + 2, none⟩), .int .i64 ((m.ms.getD j mm0).w), elP m.sv (((m.ms.getD j mm0).w).toNat * 3), elP m.sv (((m.ms.getD j mm0).w).toNat * 3 + 1), .int .i64 ((m.ss.getD (((m.ms.getD j mm0).w).toNat) sg0).w), .bool true, .bool true, .bool true, undef, undef, undef, undef, undef, undef, undef, undef, undef, undef, undef, undef, undef, undef, undef, .bool true] (by kernel_rfl) rfl ?_ ?_
    ·
     exact ⟨iaQ rfl (fdQ 0 rfl rfl rfl) rfl, iaQ rfl (zac rfl rfl rfl (zaa 3 rfl rfl)) rfl, iaQ rfl (fdQ 0 rfl rfl rfl) rfl, iaQ rfl (zac rfl rfl rfl (zaa 0 rfl rfl)) rfl, iaQ rfl (riQ 3 rfl rfl rfl rfl (zae ((hr).s))) rfl, iaQ rfl (zat (k0 := 1) rfl rfl rfl (zae ((hr).s)) (by omega)) rfl, iaQ rfl (zak (u := .int .i64 ((m.ss.getD (((m.ms.getD j mm0).a).toNat) sg0).w)) rfl rfl rfl (zae ((hr).s)) ((zbg sgC 3 (fun _ => rfl) m.ss sg0 (show ((m.ms.getD j mm0).a).toNat < _ by omega) (by decide)).trans rfl)) rfl, .inl ⟨rfl, zdp (zck rfl rfl rfl rfl) hb20⟩, iaQ rfl (zax rfl) rfl, iaQ rfl (fdQ 0 rfl rfl rfl) rfl, iaQ rfl (zac rfl rfl rfl (zaa 3 rfl rfl)) rfl, iaQ rfl (fdQ 2 rfl rfl rfl) rfl, iaQ rfl (zac rfl rfl rfl (zaa 0 rfl rfl)) rfl, iaQ rfl (riQ 3 rfl rfl rfl rfl (zae ((hr).s))) rfl, iaQ rfl (zat (k0 := 1) rfl rfl rfl (zae ((hr).s)) (by omega)) rfl, iaQ rfl (zak (u := .int .i64 ((m.ss.getD (((m.ms.getD j mm0).w).toNat) sg0).w)) rfl rfl rfl (zae ((hr).s)) ((zbg sgC 3 (fun _ => rfl) m.ss sg0 (show ((m.ms.getD j mm0).w).toNat < _ by omega) (by decide)).trans rfl)) rfl, .inl ⟨rfl, zdp (zck rfl rfl rfl rfl) hb21⟩, iaQ rfl (zax rfl) rfl, iaQ rfl (zax rfl) rfl, .inr ⟨rfl, rfl⟩, .inr ⟨rfl, rfl⟩, .inr ⟨rfl, rfl⟩, .inr ⟨rfl, rfl⟩, .inr ⟨rfl, rfl⟩, .inr ⟨rfl, rfl⟩, .inr ⟨rfl, rfl⟩, .inr ⟨rfl, rfl⟩, .inr ⟨rfl, rfl⟩, .inr ⟨rfl, rfl⟩, .inr ⟨rfl, rfl⟩, .inr ⟨rfl, rfl⟩, .inr ⟨rfl, rfl⟩, .inr ⟨rfl, rfl⟩, .inr ⟨rfl, rfl⟩, iaQ rfl (zax rfl) rfl, trivial⟩
    simp only [List.drop_succ_cons, List.drop_zero]
    refine ntQ (zaj rfl (zbh 1 rfl ?_))
    refine zap (zaf ?_)
    refine zad (zdw ?_)
    refine zad (zaf ?_)
    exact zay rfl rfl (congrArg _ (zcb (fun hp => by first | (exact absurd hp.eo (by assumption)) | (exact absurd (by omega) (hp.wid i (by omega))) | (exact absurd (by assumption) (hp.par k (by omega))) | (have h9 := hp.mem j (by omega); unfold MwP at h9; omega) | (have h9 := hp.ins; omega) | (have h9 := hp.outs; omega) | (have h9 := hp.bits; rw [show m.ms.length = j by omega] at h9; omega))).symm)
   have hb21p : (m.ss.getD (((m.ms.getD j mm0).w).toNat) sg0).w = 1 := (bne_eq_false_iff_eq.1 hb21)
   rcases Bool.eq_false_or_eq_true (((m.ss.getD (((m.ms.getD j mm0).d).toNat) sg0).w) != ((m.ss.getD (((m.ms.getD j mm0).o).toNat) sg0).w)) with hb22 | hb22
   ·
    have hb22p : (m.ss.getD (((m.ms.getD j mm0).d).toNat) sg0).w ≠ (m.ss.getD (((m.ms.getD j mm0).o).toNat) sg0).w := bne_iff_ne.1 hb22
    refine zbv 35 [[], [0], [], [2], [1, 3], [4], [5], [6], [7], [8], [8, 9], [8], [8, 11], [8, 10, 12], [8, 13], [8, 14], [8, 15], [8, 16], [17], [18], [18, 19], [18], [18, 21], [18, 20, 22], [18, 23], [18, 24], [18], [18, 26], [18], [18, 28], [18, 27, 29], [18, 30], [18, 31], [18, 25, 32], [18, 33]] [51, 52, 53, 54, 55, 56, 57, 58, 59, 60, 61, 62, 63, 64, 65, 66, 67, 68, 69, 70, 71, 72, 73, 74, 75, 76, 77, 78, 79, 80, 81, 82, 83, 84, 85] [.pointer (some ⟨b1, 0 + 0, none⟩), m.sv, .pointer (some ⟨b19, 0 + 0, none⟩), .int .i64 ((m.ms.getD j mm0).a), elP m.sv (((m.ms.getD j mm0).a).toNat * 3), elP m.sv (((m.ms.getD j mm0).a).toNat * 3 + 1), .int .i64 ((m.ss.getD (((m.ms.getD j mm0).a).toNat) sg0).w), .bool false, .bool false, .pointer (some ⟨b1, 0 + 0, none⟩), m.sv, .pointer (some ⟨b19, 0 + 2, none⟩), .int .i64 ((m.ms.getD j mm0).w), elP m.sv (((m.ms.getD j mm0).w).toNat * 3), elP m.sv (((m.ms.getD j mm0).w).toNat * 3 + 1), .int .i64 ((m.ss.getD (((m.ms.getD j mm0).w).toNat) sg0).w), .bool false, .bool false, .bool false, .pointer (some ⟨b1, 0 + 0, none⟩), m.sv, .pointer (some ⟨b19, 0 + 1, none⟩), .int .i64 ((m.ms.getD j mm0).d), elP m.sv (((m.ms.getD j mm0).d).toNat * 3), elP m.sv (((m.ms.getD j mm0).d).toNat * 3 + 1), .int .i64 ((m.ss.getD (((m.ms.getD j mm0).d).toNat) sg0).w), .pointer (some ⟨b1, 0 + 0, none⟩), m.sv, .pointer (some ⟨b19, 0 + 3, none⟩), .int .i64 ((m.ms.getD j mm0).o), elP m.sv (((m.ms.getD j mm0).o).toNat * 3), elP m.sv (((m.ms.getD j mm0).o).toNat * 3 + 1), .int .i64 ((m.ss.getD (((m.ms.getD j mm0).o).toNat) sg0).w), .bool true, .bool true] (by kernel_rfl) rfl ?_ ?_
    ·
     exact ⟨iaQ rfl (fdQ 0 rfl rfl rfl) rfl, iaQ rfl (zac rfl rfl rfl (zaa 3 rfl rfl)) rfl, iaQ rfl (fdQ 0 rfl rfl rfl) rfl, iaQ rfl (zac rfl rfl rfl (zaa 0 rfl rfl)) rfl, iaQ rfl (riQ 3 rfl rfl rfl rfl (zae ((hr).s))) rfl, iaQ rfl (zat (k0 := 1) rfl rfl rfl (zae ((hr).s)) (by omega)) rfl, iaQ rfl (zak (u := .int .i64 ((m.ss.getD (((m.ms.getD j mm0).a).toNat) sg0).w)) rfl rfl rfl (zae ((hr).s)) ((zbg sgC 3 (fun _ => rfl) m.ss sg0 (show ((m.ms.getD j mm0).a).toNat < _ by omega) (by decide)).trans rfl)) rfl, .inl ⟨rfl, zdp (zck rfl rfl rfl rfl) hb20⟩, iaQ rfl (zax rfl) rfl, iaQ rfl (fdQ 0 rfl rfl rfl) rfl, iaQ rfl (zac rfl rfl rfl (zaa 3 rfl rfl)) rfl, iaQ rfl (fdQ 2 rfl rfl rfl) rfl, iaQ rfl (zac rfl rfl rfl (zaa 0 rfl rfl)) rfl, iaQ rfl (riQ 3 rfl rfl rfl rfl (zae ((hr).s))) rfl, iaQ rfl (zat (k0 := 1) rfl rfl rfl (zae ((hr).s)) (by omega)) rfl, iaQ rfl (zak (u := .int .i64 ((m.ss.getD (((m.ms.getD j mm0).w).toNat) sg0).w)) rfl rfl rfl (zae ((hr).s)) ((zbg sgC 3 (fun _ => rfl) m.ss sg0 (show ((m.ms.getD j mm0).w).toNat < _ by omega) (by decide)).trans rfl)) rfl, .inl ⟨rfl, zdp (zck rfl rfl rfl rfl) hb21⟩, iaQ rfl (zax rfl) rfl, iaQ rfl (zax rfl) rfl, iaQ rfl (fdQ 0 rfl rfl rfl) rfl, iaQ rfl (zac rfl rfl rfl (zaa 3 rfl rfl)) rfl, iaQ rfl (fdQ 1 rfl rfl rfl) rfl, iaQ rfl (zac rfl rfl rfl (zaa 0 rfl rfl)) rfl, iaQ rfl (riQ 3 rfl rfl rfl rfl (zae ((hr).s))) rfl, iaQ rfl (zat (k0 := 1) rfl rfl rfl (zae ((hr).s)) (by omega)) rfl, iaQ rfl (zak (u := .int .i64 ((m.ss.getD (((m.ms.getD j mm0).d).toNat) sg0).w)) rfl rfl rfl (zae ((hr).s)) ((zbg sgC 3 (fun _ => rfl) m.ss sg0 (show ((m.ms.getD j mm0).d).toNat < _ by omega) (by decide)).trans rfl)) rfl, iaQ rfl (fdQ 0 rfl rfl rfl) rfl, iaQ rfl (zac rfl rfl rfl (zaa 3 rfl rfl)) rfl, iaQ rfl (fdQ 3 rfl rfl rfl) rfl, iaQ rfl (zac rfl rfl rfl (zaa 0 rfl rfl)) rfl, iaQ rfl (riQ 3 rfl rfl rfl rfl (zae ((hr).s))) rfl, iaQ rfl (zat (k0 := 1) rfl rfl rfl (zae ((hr).s)) (by omega)) rfl, iaQ rfl (zak (u := .int .i64 ((m.ss.getD (((m.ms.getD j mm0).o).toNat) sg0).w)) rfl rfl rfl (zae ((hr).s)) ((zbg sgC 3 (fun _ => rfl) m.ss sg0 (show ((m.ms.getD j mm0).o).toNat < _ by omega) (by decide)).trans rfl)) rfl, .inl ⟨rfl, zdp (zck rfl rfl rfl rfl) hb22⟩, iaQ rfl (zax rfl) rfl, trivial⟩
    simp only [List.drop_succ_cons, List.drop_zero]
    refine ntQ (zaj rfl (zbh 1 rfl ?_))
    refine zap (zaf ?_)
    refine zad (zdw ?_)
    refine zad (zaf ?_)
    exact zay rfl rfl (congrArg _ (zcb (fun hp => by first | (exact absurd hp.eo (by assumption)) | (exact absurd (by omega) (hp.wid i (by omega))) | (exact absurd (by assumption) (hp.par k (by omega))) | (have h9 := hp.mem j (by omega); unfold MwP at h9; omega) | (have h9 := hp.ins; omega) | (have h9 := hp.outs; omega) | (have h9 := hp.bits; rw [show m.ms.length = j by omega] at h9; omega))).symm)
   have hb22p : (m.ss.getD (((m.ms.getD j mm0).d).toNat) sg0).w = (m.ss.getD (((m.ms.getD j mm0).o).toNat) sg0).w := (bne_eq_false_iff_eq.1 hb22)
   refine zbv 35 [[], [0], [], [2], [1, 3], [4], [5], [6], [7], [8], [8, 9], [8], [8, 11], [8, 10, 12], [8, 13], [8, 14], [8, 15], [8, 16], [17], [18], [18, 19], [18], [18, 21], [18, 20, 22], [18, 23], [18, 24], [18], [18, 26], [18], [18, 28], [18, 27, 29], [18, 30], [18, 31], [18, 25, 32], [18, 33]] [51, 52, 53, 54, 55, 56, 57, 58, 59, 60, 61, 62, 63, 64, 65, 66, 67, 68, 69, 70, 71, 72, 73, 74, 75, 76, 77, 78, 79, 80, 81, 82, 83, 84, 85] [.pointer (some ⟨b1, 0 + 0, none⟩), m.sv, .pointer (some ⟨b19, 0 + 0, none⟩), .int .i64 ((m.ms.getD j mm0).a), elP m.sv (((m.ms.getD j mm0).a).toNat * 3), elP m.sv (((m.ms.getD j mm0).a).toNat * 3 + 1), .int .i64 ((m.ss.getD (((m.ms.getD j mm0).a).toNat) sg0).w), .bool false, .bool false, .pointer (some ⟨b1, 0 + 0, none⟩), m.sv, .pointer (some ⟨b19, 0 + 2, none⟩), .int .i64 ((m.ms.getD j mm0).w), elP m.sv (((m.ms.getD j mm0).w).toNat * 3), elP m.sv (((m.ms.getD j mm0).w).toNat * 3 + 1), .int .i64 ((m.ss.getD (((m.ms.getD j mm0).w).toNat) sg0).w), .bool false, .bool false, .bool false, .pointer (some ⟨b1, 0 + 0, none⟩), m.sv, .pointer (some ⟨b19, 0 + 1, none⟩), .int .i64 ((m.ms.getD j mm0).d), elP m.sv (((m.ms.getD j mm0).d).toNat * 3), elP m.sv (((m.ms.getD j mm0).d).toNat * 3 + 1), .int .i64 ((m.ss.getD (((m.ms.getD j mm0).d).toNat) sg0).w), .pointer (some ⟨b1, 0 + 0, none⟩), m.sv, .pointer (some ⟨b19, 0 + 3, none⟩), .int .i64 ((m.ms.getD j mm0).o), elP m.sv (((m.ms.getD j mm0).o).toNat * 3), elP m.sv (((m.ms.getD j mm0).o).toNat * 3 + 1), .int .i64 ((m.ss.getD (((m.ms.getD j mm0).o).toNat) sg0).w), .bool false, .bool false] (by kernel_rfl) rfl ?_ ?_
   ·
    exact ⟨iaQ rfl (fdQ 0 rfl rfl rfl) rfl, iaQ rfl (zac rfl rfl rfl (zaa 3 rfl rfl)) rfl, iaQ rfl (fdQ 0 rfl rfl rfl) rfl, iaQ rfl (zac rfl rfl rfl (zaa 0 rfl rfl)) rfl, iaQ rfl (riQ 3 rfl rfl rfl rfl (zae ((hr).s))) rfl, iaQ rfl (zat (k0 := 1) rfl rfl rfl (zae ((hr).s)) (by omega)) rfl, iaQ rfl (zak (u := .int .i64 ((m.ss.getD (((m.ms.getD j mm0).a).toNat) sg0).w)) rfl rfl rfl (zae ((hr).s)) ((zbg sgC 3 (fun _ => rfl) m.ss sg0 (show ((m.ms.getD j mm0).a).toNat < _ by omega) (by decide)).trans rfl)) rfl, .inl ⟨rfl, zdp (zck rfl rfl rfl rfl) hb20⟩, iaQ rfl (zax rfl) rfl, iaQ rfl (fdQ 0 rfl rfl rfl) rfl, iaQ rfl (zac rfl rfl rfl (zaa 3 rfl rfl)) rfl, iaQ rfl (fdQ 2 rfl rfl rfl) rfl, iaQ rfl (zac rfl rfl rfl (zaa 0 rfl rfl)) rfl, iaQ rfl (riQ 3 rfl rfl rfl rfl (zae ((hr).s))) rfl, iaQ rfl (zat (k0 := 1) rfl rfl rfl (zae ((hr).s)) (by omega)) rfl, iaQ rfl (zak (u := .int .i64 ((m.ss.getD (((m.ms.getD j mm0).w).toNat) sg0).w)) rfl rfl rfl (zae ((hr).s)) ((zbg sgC 3 (fun _ => rfl) m.ss sg0 (show ((m.ms.getD j mm0).w).toNat < _ by omega) (by decide)).trans rfl)) rfl, .inl ⟨rfl, zdp (zck rfl rfl rfl rfl) hb21⟩, iaQ rfl (zax rfl) rfl, iaQ rfl (zax rfl) rfl, iaQ rfl (fdQ 0 rfl rfl rfl) rfl, iaQ rfl (zac rfl rfl rfl (zaa 3 rfl rfl)) rfl, iaQ rfl (fdQ 1 rfl rfl rfl) rfl, iaQ rfl (zac rfl rfl rfl (zaa 0 rfl rfl)) rfl, iaQ rfl (riQ 3 rfl rfl rfl rfl (zae ((hr).s))) rfl, iaQ rfl (zat (k0 := 1) rfl rfl rfl (zae ((hr).s)) (by omega)) rfl, iaQ rfl (zak (u := .int .i64 ((m.ss.getD (((m.ms.getD j mm0).d).toNat) sg0).w)) rfl rfl rfl (zae ((hr).s)) ((zbg sgC 3 (fun _ => rfl) m.ss sg0 (show ((m.ms.getD j mm0).d).toNat < _ by omega) (by decide)).trans rfl)) rfl, iaQ rfl (fdQ 0 rfl rfl rfl) rfl, iaQ rfl (zac rfl rfl rfl (zaa 3 rfl rfl)) rfl, iaQ rfl (fdQ 3 rfl rfl rfl) rfl, iaQ rfl (zac rfl rfl rfl (zaa 0 rfl rfl)) rfl, iaQ rfl (riQ 3 rfl rfl rfl rfl (zae ((hr).s))) rfl, iaQ rfl (zat (k0 := 1) rfl rfl rfl (zae ((hr).s)) (by omega)) rfl, iaQ rfl (zak (u := .int .i64 ((m.ss.getD (((m.ms.getD j mm0).o).toNat) sg0).w)) rfl rfl rfl (zae ((hr).s)) ((zbg sgC 3 (fun _ => rfl) m.ss sg0 (show ((m.ms.getD j mm0).o).toNat < _ by omega) (by decide)).trans rfl)) rfl, .inl ⟨rfl, zdp (zck rfl rfl rfl rfl) hb22⟩, iaQ rfl (zax rfl) rfl, trivial⟩
   simp only [List.drop_succ_cons, List.drop_zero]
   refine ntQ (zas rfl (zcy (reQ 1 rfl (hvQ rfl (fdQ 0 rfl rfl rfl) (hvQ rfl (zac rfl rfl rfl (zaa 3 rfl rfl)) (hvQ rfl (fdQ 3 rfl rfl rfl) (hvQ rfl (zac rfl rfl rfl (zaa 0 rfl rfl)) (hvQ rfl (riQ 3 rfl rfl rfl rfl (zae ((hr).s))) (hvQ rfl (zat (k0 := 1) rfl rfl rfl (zae ((hr).s)) (by omega)) ?_)))))))))
   refine hvQ rfl (zak (u := .int .i64 ((m.ss.getD (((m.ms.getD j mm0).o).toNat) sg0).w)) rfl rfl rfl (zae ((hr).s)) ((zbg sgC 3 (fun _ => rfl) m.ss sg0 (show ((m.ms.getD j mm0).o).toNat < _ by omega) (by decide)).trans rfl)) (hvQ rfl (vaQ rfl rfl rfl) (enQ 1 rfl (zde (zao (hvQ rfl (vaQ rfl rfl rfl) (enQ 1 rfl ?_))))))
   exact zcp (j + 1) (c + ((m.ss.getD (((m.ms.getD j mm0).o).toNat) sg0).w)) ⟨by omega, (by show _ = _ + (moA m j + _); omega), fun q hq => by by_cases e : q = j; (subst e; exact ⟨by omega, by omega, by omega⟩); exact hmw q (by omega)⟩ (by omega) (saQ rfl) (slQ [1, 0, 0] rfl)
  refine ntQ (fcQ rfl ?_)
  refine zbi (zdv ?_)
  refine zal (zar (srQ (hvQ rfl (zau (cs := [m.sv, m.av, m.iv, m.mv]) rfl rfl rfl rfl rfl (zaq 2 rfl 0 rfl)) ?_)))
  refine zfq rfl rfl rfl (zaw rfl rfl (fun w hm => zds m 0 w (hr.below hm.bel))) ?_
  intro v23 p24 hR25
  subst hR25
  refine zej rfl (zaw rfl rfl (fun w hm => zbe (sumInts_ans (pwK m 0) v23 w (zai 0 rfl w hm) (pwK_rng hdes _) (pwK_le _ _)))) (hl_leq rfl rfl rfl rfl rfl rfl (fun h26 => ?_) (fun h26 => ?_))
  ·
   refine zah 1 rfl (hvQ rfl (zau (cs := [m.sv, m.av, m.iv, m.mv]) rfl rfl rfl rfl rfl (zaq 3 rfl 0 rfl)) ?_)
   refine zfq rfl rfl rfl (zaw rfl rfl (fun w hm => zds m 1 w (hr.below hm.bel))) ?_
   intro v27 p28 hR29
   subst hR29
   refine zej rfl (zaw rfl rfl (fun w hm => zbe (sumInts_ans (pwK m 1) v27 w (zai 0 rfl w hm) (pwK_rng hdes _) (pwK_le _ _)))) (hl_leq rfl rfl rfl rfl rfl rfl (fun h30 => ?_) (fun h30 => ?_))
   ·
    refine zah 3 rfl (hl_leq rfl rfl rfl rfl rfl rfl (fun h31 => ?_) (fun h31 => ?_))
    ·
     refine zaz 2 rfl ?_
     exact zap (zay rfl rfl (congrArg _ (zdf ⟨hE, fun s hs => hwd s (by omega), fun i hi => hpr i (by omega), fun i hi => hmw i (by omega), by omega, by omega, by rw [show m.ms.length = j by omega]; omega⟩).symm))
    refine zaz 2 rfl ?_
    exact zap (zay rfl rfl (congrArg _ (zcb (fun hp => by first | (exact absurd hp.eo (by assumption)) | (exact absurd (by omega) (hp.wid i (by omega))) | (exact absurd (by assumption) (hp.par k (by omega))) | (have h9 := hp.mem j (by omega); unfold MwP at h9; omega) | (have h9 := hp.ins; omega) | (have h9 := hp.outs; omega) | (have h9 := hp.bits; rw [show m.ms.length = j by omega] at h9; omega))).symm))
   refine zaz 6 rfl ?_
   exact zap (zay rfl rfl (congrArg _ (zcb (fun hp => by first | (exact absurd hp.eo (by assumption)) | (exact absurd (by omega) (hp.wid i (by omega))) | (exact absurd (by assumption) (hp.par k (by omega))) | (have h9 := hp.mem j (by omega); unfold MwP at h9; omega) | (have h9 := hp.ins; omega) | (have h9 := hp.outs; omega) | (have h9 := hp.bits; rw [show m.ms.length = j by omega] at h9; omega))).symm))
  refine zaz 11 rfl ?_
  exact zap (zay rfl rfl (congrArg _ (zcb (fun hp => by first | (exact absurd hp.eo (by assumption)) | (exact absurd (by omega) (hp.wid i (by omega))) | (exact absurd (by assumption) (hp.par k (by omega))) | (have h9 := hp.mem j (by omega); unfold MwP at h9; omega) | (have h9 := hp.ins; omega) | (have h9 := hp.outs; omega) | (have h9 := hp.bits; rw [show m.ms.length = j by omega] at h9; omega))).symm))
 have h5p := zea h5
 refine zaz 2 rfl (zag (zbh 2 rfl (zaj rfl (srQ ?_))))
 refine zaz 1 rfl ?_
 refine zap (zaf ?_)
 exact zay rfl rfl (congrArg _ (zcb (fun hp => by first | (exact absurd hp.eo (by assumption)) | (exact absurd (by omega) (hp.wid i (by omega))) | (exact absurd (by assumption) (hp.par k (by omega))) | (have h9 := hp.mem j (by omega); unfold MwP at h9; omega) | (have h9 := hp.ins; omega) | (have h9 := hp.outs; omega) | (have h9 := hp.bits; rw [show m.ms.length = j by omega] at h9; omega))).symm)
theorem copyIntsF_ret (xs : List Int) (v : Value) (w : World) (hv : RdsW w v 1 xs.length (xs.map (Value.int .i64))) (hl : xs.length ≤ 1000000) :
   Calls Try.prog 116 #[v] w (Ret w (fun v' post => post = [rowE 3 1 v' (xs).length ((xs).map (Value.int .i64))])) := by
 refine zbw (N := 6) (args := [v]) Try.func116 rfl rfl (zbh 1 rfl (srQ ?_))
 refine zdu rfl (zdq (s := 1) rfl Try.underlying48 rfl) ?_
 intro g1
 refine zah 1 rfl (zcq (i := 0) (z := .int .i64 0) (bytes := 8) (n' := xs.length) (xs' := (xs.map (Value.int .i64))) rfl rfl rfl rfl Try.underlying48 (by kernel_rfl) rfl rfl rfl rfl (zae hv) (zcg _) (by first | omega | (simp; done) | (simp; omega)) (Nat.zero_add _) (List.nil_append _) (fun _ => rfl) ?_)
 intro v2
 refine zaz 1 rfl ?_
 exact zap (zew (post := [rowE 3 1 v2 xs.length (xs.map (Value.int .i64))]) rfl rfl (pfQ rfl) rfl)
theorem zev (m : Md) (vs ws : List Int) (uv uw : Value) (w : World) (hr : RdsMd w m) (hv : RdsW w uv 1 vs.length (vs.map (Value.int .i64))) (hw : RdsW w uw 1 ws.length (ws.map (Value.int .i64))) :
   Calls Try.prog 21 #[.agg #[m.sv, m.av, m.iv, m.mv], .agg #[uv, uw]] w (Ans w (.bool (pB (WsP m vs ws)))) := by
 have hv9 := sml hv
 have hw9 := sml hw
 have hs9 := sml hr.s
 have hm9 := sml hr.m
 refine zbw (N := 89) (args := [.agg #[m.sv, m.av, m.iv, m.mv], .agg #[uv, uw]]) Try.func21 rfl rfl (srQ ?_)
 refine zdk rfl (zda rfl rfl) ?_
 intro b1
 refine zdk rfl (zda rfl rfl) ?_
 intro b2
 refine zaz 1 rfl (zfh (hvQ rfl (zau (cs := [m.sv, m.av, m.iv, m.mv]) rfl rfl rfl rfl rfl (zaq 1 rfl 0 rfl)) ?_))
 refine zej rfl (zaw rfl rfl (fun w hm => zbe (zfy m w (hr.below hm.bel)))) (zbq (fun h3 => ?_) (fun h3 => ?_))
 ·
  have h3p := zfc h3
  refine zah 2 rfl ?_
  have hfl : FlP m := by assumption
  have hln := hfl.lens
  have hsl := stM_len m m.ms.length
  refine hvQ rfl (fdQ 0 rfl rfl rfl) (hvQ rfl (zac rfl rfl rfl (zaa 0 rfl rfl)) (hvQ rfl (lnQ rfl rfl rfl (zae hv)) (hvQ rfl (fdQ 0 rfl rfl rfl) (hvQ rfl (zac rfl rfl rfl (zaa 1 rfl rfl)) (hvQ rfl (lnQ rfl rfl rfl (zae ((hr).s))) ?_)))))
  refine zff rfl rfl rfl rfl rfl rfl (fun h4 => ?_) (fun h4 => ?_)
  ·
   refine zaz 11 rfl (zaj rfl ?_)
   refine zbh 1 rfl ?_
   refine zap (zaf ?_)
   exact zay rfl rfl (congrArg _ (zcb (fun hp => by first | (exact absurd hp.fl (by assumption)) | (have h9 := hp.v.len; omega) | (have h9 := hp.w.len; omega) | (have h9 := hp.z i (by omega) (by assumption); omega) | (have h9 := hp.v.rng i (by omega); omega) | (have h9 := hp.w.rng j (by omega); omega))).symm)
  refine zah 2 rfl (hvQ rfl (fdQ 1 rfl rfl rfl) (hvQ rfl (zac rfl rfl rfl (zaa 0 rfl rfl)) (hvQ rfl (lnQ rfl rfl rfl (zae hw)) (hvQ rfl (fdQ 3 rfl rfl rfl) (hvQ rfl (zac rfl rfl rfl (zaa 1 rfl rfl)) (hvQ rfl (lnQ rfl rfl rfl (zae ((hr).m))) (hvQ rfl (rv_mul rfl rfl rfl (by constructor <;> omega)) ?_)))))))
  refine zff rfl rfl rfl rfl rfl rfl (fun h5 => ?_) (fun h5 => ?_)
  ·
   refine zaz 1 rfl (zaj rfl (zbh 1 rfl ?_))
   refine zap (zaf ?_)
   exact zay rfl rfl (congrArg _ (zcb (fun hp => by first | (exact absurd hp.fl (by assumption)) | (have h9 := hp.v.len; omega) | (have h9 := hp.w.len; omega) | (have h9 := hp.z i (by omega) (by assumption); omega) | (have h9 := hp.v.rng i (by omega); omega) | (have h9 := hp.w.rng j (by omega); omega))).symm)
  refine zaz 1 rfl (zas rfl (zcy (srQ (hvQ rfl (zau (cs := [m.sv, m.av, m.iv, m.mv]) rfl rfl rfl rfl rfl (zaq 1 rfl 0 rfl)) ?_))))
  refine zfq rfl rfl rfl (zaw rfl rfl (fun w hm => isStored_ret m w (hr.below hm.bel) hln.1 (fun i hi => (hfl.mm hi).2.2.2))) ?_
  intro v6 p7 hR8
  subst hR8
  refine zaz 1 rfl (zfh (hvQ rfl (fdQ 0 rfl rfl rfl) (hvQ rfl (zac rfl rfl rfl (zaa 1 rfl rfl)) (hvQ rfl (lnQ rfl rfl rfl (zae hv)) (zaz 1 rfl ?_)))))
  refine zba ?_
  refine lkQ1 (α := Nat) [0, 1, 2, 3, 4, 5, 31, 35, 36] rfl (fun i => [rowE 4 1 v6 ((stM m m.ms.length).length) ((stM m m.ms.length).flatMap blC), boxE b2 #[uv, uw] 50, boxE b1 #[m.sv, m.av, m.iv, m.mv] 35]) (fun i => [(37, .int .i64 (i : Int))]) (fun i => i ≤ vs.length ∧ ∀ q, q < i → (stB m q = false → vs.getD q 0 = 0) ∧ 0 ≤ vs.getD q 0 ∧ vs.getD q 0 ≤ wmK (m.ss.getD q sg0).w) (fun i => vs.length - i) 0 ⟨Nat.zero_le _, fun q hq => absurd hq (by omega)⟩ (saQ rfl) (pfQ rfl) ?_
  intro i hi9
  obtain ⟨hi, hvl⟩ := hi9
  refine srQ ?_
  refine zbp rfl rfl rfl rfl rfl rfl (fun h10 => ?_) (fun h10 => ?_)
  ·
   refine ntQ (tcQ rfl (zcy (sbQ (zag (reQ 1 rfl (hvQ rfl (riQ 1 rfl rfl rfl rfl (zae hv)) (hvQ rfl (liQ rfl rfl rfl (zae hv)) ?_)))))))
   refine zaz 2 rfl (zag (reQ 2 rfl (hvQ rfl (riQ 1 rfl rfl rfl rfl (zai 0 rfl)) ?_)))
   refine hvQ rfl (zak (u := .bool (((stM m m.ms.length).getD i bl0).b)) rfl rfl rfl (zai 0 rfl) (zer blC (fun r => .bool r.b) (fun _ => rfl) (stM m m.ms.length) bl0 (show i < _ by omega))) (zbq (fun h11 => ?_) (fun h11 => ?_))
   ·
    refine zah 7 rfl (hvQ rfl (fdQ 0 rfl rfl rfl) (hvQ rfl (zac rfl rfl rfl (zaa 2 rfl rfl)) (zah 1 rfl (hvQ rfl (riQ 3 rfl rfl rfl rfl (zae ((hr).s))) (hvQ rfl (zat (k0 := 1) rfl rfl rfl (zae ((hr).s)) (by omega)) ?_)))))
    refine hvQ rfl (zak (u := .int .i64 ((m.ss.getD i sg0).w)) rfl rfl rfl (zae ((hr).s)) ((zbg sgC 3 (fun _ => rfl) m.ss sg0 (show i < _ by omega) (by decide)).trans rfl)) (zej rfl (zaw rfl rfl (fun w hm => zbe (zek ((m.ss.getD i sg0).w) w (hfl.sw (by omega))))) ?_)
    refine zej rfl (zaw rfl rfl (fun w hm => zbe (zee (zcj _ _ _ w)))) (zbq (fun h12 => ?_) (fun h12 => ?_))
    ·
     obtain ⟨h12a, h12b⟩ := (zdd _ _ _).1 h12
     refine zaz 2 rfl (fsQ rfl (zde (zao (hvQ rfl (vaQ rfl rfl rfl) (enQ 1 rfl ?_)))))
     exact zbt (i + 1) ⟨by omega, fun q hq => by by_cases e : q = i; (subst e; exact ⟨fun hb => by first | omega | exact absurd ((show ((stM m m.ms.length).getD q bl0).b = true by assumption).symm.trans hb) (by decide), by omega, by omega⟩); exact hvl q (by omega)⟩ (by omega) (saQ rfl) (pfQ rfl)
    have h12a := zcz h12
    refine zaz 2 rfl (zaj rfl (zbh 1 rfl ?_))
    refine zap (zad ?_)
    refine zdw ?_
    refine zad (zaf ?_)
    exact zay rfl rfl (congrArg _ (zcb (fun hp => by first | (exact absurd hp.fl (by assumption)) | (have h9 := hp.v.len; omega) | (have h9 := hp.w.len; omega) | (have h9 := hp.z i (by omega) (by assumption); omega) | (have h9 := hp.v.rng i (by omega); omega) | (have h9 := hp.w.rng j (by omega); omega))).symm)
   refine zah 3 rfl (zff rfl rfl rfl rfl rfl rfl (fun h13 => ?_) (fun h13 => ?_))
   ·
    refine zaz 13 rfl (zaj rfl ?_)
    refine zbh 1 rfl ?_
    refine zap (zad ?_)
    refine zdw ?_
    refine zad (zaf ?_)
    exact zay rfl rfl (congrArg _ (zcb (fun hp => by first | (exact absurd hp.fl (by assumption)) | (have h9 := hp.v.len; omega) | (have h9 := hp.w.len; omega) | (have h9 := hp.z i (by omega) (by assumption); omega) | (have h9 := hp.v.rng i (by omega); omega) | (have h9 := hp.w.rng j (by omega); omega))).symm)
   refine zah 3 rfl (hvQ rfl (fdQ 0 rfl rfl rfl) (hvQ rfl (zac rfl rfl rfl (zaa 2 rfl rfl)) (zah 1 rfl (hvQ rfl (riQ 3 rfl rfl rfl rfl (zae ((hr).s))) (hvQ rfl (zat (k0 := 1) rfl rfl rfl (zae ((hr).s)) (by omega)) ?_)))))
   refine hvQ rfl (zak (u := .int .i64 ((m.ss.getD i sg0).w)) rfl rfl rfl (zae ((hr).s)) ((zbg sgC 3 (fun _ => rfl) m.ss sg0 (show i < _ by omega) (by decide)).trans rfl)) (zej rfl (zaw rfl rfl (fun w hm => zbe (zek ((m.ss.getD i sg0).w) w (hfl.sw (by omega))))) ?_)
   refine zej rfl (zaw rfl rfl (fun w hm => zbe (zee (zcj _ _ _ w)))) (zbq (fun h14 => ?_) (fun h14 => ?_))
   ·
    obtain ⟨h14a, h14b⟩ := (zdd _ _ _).1 h14
    refine zaz 2 rfl (fsQ rfl (zde (zao (hvQ rfl (vaQ rfl rfl rfl) (enQ 1 rfl ?_)))))
    exact zbt (i + 1) ⟨by omega, fun q hq => by by_cases e : q = i; (subst e; exact ⟨fun hb => by first | omega | exact absurd ((show ((stM m m.ms.length).getD q bl0).b = true by assumption).symm.trans hb) (by decide), by omega, by omega⟩); exact hvl q (by omega)⟩ (by omega) (saQ rfl) (pfQ rfl)
   have h14a := zcz h14
   refine zaz 2 rfl (zaj rfl (zbh 1 rfl ?_))
   refine zap (zad ?_)
   refine zdw ?_
   refine zad (zaf ?_)
   exact zay rfl rfl (congrArg _ (zcb (fun hp => by first | (exact absurd hp.fl (by assumption)) | (have h9 := hp.v.len; omega) | (have h9 := hp.w.len; omega) | (have h9 := hp.z i (by omega) (by assumption); omega) | (have h9 := hp.v.rng i (by omega); omega) | (have h9 := hp.w.rng j (by omega); omega))).symm)
  refine ntQ (fcQ rfl ?_)
  refine zbi (zdv ?_)
  refine zal (zar (zfh (hvQ rfl (fdQ 1 rfl rfl rfl) (hvQ rfl (zac rfl rfl rfl (zaa 1 rfl rfl)) (hvQ rfl (lnQ rfl rfl rfl (zae hw)) (zaz 1 rfl (zba ?_)))))))
  refine lkQ1 (α := Nat) [0, 1, 2, 3, 4, 5, 31, 35, 36, 37, 38, 65, 66] rfl (fun j => [rowE 4 1 v6 ((stM m m.ms.length).length) ((stM m m.ms.length).flatMap blC), boxE b2 #[uv, uw] 50, boxE b1 #[m.sv, m.av, m.iv, m.mv] 35]) (fun j => [(67, .int .i64 (j : Int))]) (fun j => j ≤ ws.length ∧ ∀ q, q < j → 0 ≤ ws.getD q 0 ∧ ws.getD q 0 ≤ wmK (m.ss.getD (m.ms.getD ((q : Int) / 4).toNat mm0).d.toNat sg0).w) (fun j => ws.length - j) 0 ⟨Nat.zero_le _, fun q hq => absurd hq (by omega)⟩ (saQ rfl) (pfQ rfl) ?_
  intro j hi15
  obtain ⟨hj, hwl⟩ := hi15
  refine srQ ?_
  refine zbp rfl rfl rfl rfl rfl rfl (fun h16 => ?_) (fun h16 => ?_)
  ·
   refine ntQ (tcQ rfl (zcy (sbQ (zag (reQ 1 rfl (hvQ rfl (riQ 1 rfl rfl rfl rfl (zae hw)) (hvQ rfl (liQ rfl rfl rfl (zae hw)) ?_)))))))
   refine zaz 2 rfl (zag ?_)
   have hmj := hfl.mm (i := ((j : Int) / 4).toNat) (by omega)
   rcases Bool.eq_false_or_eq_true (inR (ws.getD j 0) 0 (wmK ((m.ss.getD (((m.ms.getD (((j : Int) / 4).toNat) mm0).d).toNat) sg0).w))) with hb17 | hb17
   ·
    obtain ⟨hb17a, hb17b⟩ := (zdd _ _ _).1 hb17
    refine zbv 16 [[], [], [1], [], [3], [], [5], [4, 6], [7], [8], [2, 9], [10], [11], [12], [0, 13], [14]] [72, 73, 74, 75, 76, 77, 78, 79, 80, 81, 82, 83, 84, 85, 86, 87] [.int .i64 (ws.getD j 0), .pointer (some ⟨b1, 0 + 0, none⟩), m.sv, .pointer (some ⟨b1, 0 + 3, none⟩), m.mv, .int .i64 (j : Int), .int .i64 ((j : Int) / 4), elP m.mv (((j : Int) / 4).toNat * 4), elP m.mv (((j : Int) / 4).toNat * 4 + 1), .int .i64 ((m.ms.getD (((j : Int) / 4).toNat) mm0).d), elP m.sv (((m.ms.getD (((j : Int) / 4).toNat) mm0).d).toNat * 3), elP m.sv (((m.ms.getD (((j : Int) / 4).toNat) mm0).d).toNat * 3 + 1), .int .i64 ((m.ss.getD (((m.ms.getD (((j : Int) / 4).toNat) mm0).d).toNat) sg0).w), .int .i64 (wmK ((m.ss.getD (((m.ms.getD (((j : Int) / 4).toNat) mm0).d).toNat) sg0).w)), .bool true, .bool false] (by kernel_rfl) rfl ?_ ?_
    ·
     exact ⟨iaQ rfl (zax rfl) rfl, iaQ rfl (fdQ 0 rfl rfl rfl) rfl, iaQ rfl (zac rfl rfl rfl (zaa 2 rfl rfl)) rfl, iaQ rfl (fdQ 3 rfl rfl rfl) rfl, iaQ rfl (zac rfl rfl rfl (zaa 2 rfl rfl)) rfl, iaQ rfl (zax rfl) rfl, iaQ rfl (rv_quo rfl rfl rfl (by refine ⟨?_, ?_, ?_⟩ <;> omega)) rfl, iaQ rfl (riQ 4 rfl rfl rfl rfl (zae ((hr).m))) rfl, iaQ rfl (zat (k0 := 1) rfl rfl rfl (zae ((hr).m)) (by omega)) rfl, iaQ rfl (zak (u := .int .i64 ((m.ms.getD (((j : Int) / 4).toNat) mm0).d)) rfl rfl rfl (zae ((hr).m)) ((zbg mmC 4 (fun _ => rfl) m.ms mm0 (show ((j : Int) / 4).toNat < _ by omega) (by decide)).trans rfl)) rfl, iaQ rfl (riQ 3 rfl rfl rfl rfl (zae ((hr).s))) rfl, iaQ rfl (zat (k0 := 1) rfl rfl rfl (zae ((hr).s)) (by omega)) rfl, iaQ rfl (zak (u := .int .i64 ((m.ss.getD (((m.ms.getD (((j : Int) / 4).toNat) mm0).d).toNat) sg0).w)) rfl rfl rfl (zae ((hr).s)) ((zbg sgC 3 (fun _ => rfl) m.ss sg0 (show ((m.ms.getD (((j : Int) / 4).toNat) mm0).d).toNat < _ by omega) (by decide)).trans rfl)) rfl, .inl ⟨rfl, zaw (by kernel_rfl) rfl (fun w hm => zbe (zek ((m.ss.getD (((m.ms.getD (((j : Int) / 4).toNat) mm0).d).toNat) sg0).w) w (hfl.sw (by omega))))⟩, .inl ⟨rfl, rq_cb (zaw rfl rfl (fun w hm => zbe (zee (zcj _ _ _ w)))) hb17⟩, iaQ rfl (zax rfl) rfl, trivial⟩
    simp only [List.drop_succ_cons, List.drop_zero]
    refine ntQ (fsQ rfl (zde (zao (hvQ rfl (vaQ rfl rfl rfl) (enQ 1 rfl ?_)))))
    exact zbt (j + 1) ⟨by omega, fun q hq => by by_cases e : q = j; (subst e; exact ⟨by omega, by omega⟩); exact hwl q (by omega)⟩ (by omega) (saQ rfl) (pfQ rfl)
   have hb17a := zcz hb17
   refine zbv 16 [[], [], [1], [], [3], [], [5], [4, 6], [7], [8], [2, 9], [10], [11], [12], [0, 13], [14]] [72, 73, 74, 75, 76, 77, 78, 79, 80, 81, 82, 83, 84, 85, 86, 87] [.int .i64 (ws.getD j 0), .pointer (some ⟨b1, 0 + 0, none⟩), m.sv, .pointer (some ⟨b1, 0 + 3, none⟩), m.mv, .int .i64 (j : Int), .int .i64 ((j : Int) / 4), elP m.mv (((j : Int) / 4).toNat * 4), elP m.mv (((j : Int) / 4).toNat * 4 + 1), .int .i64 ((m.ms.getD (((j : Int) / 4).toNat) mm0).d), elP m.sv (((m.ms.getD (((j : Int) / 4).toNat) mm0).d).toNat * 3), elP m.sv (((m.ms.getD (((j : Int) / 4).toNat) mm0).d).toNat * 3 + 1), .int .i64 ((m.ss.getD (((m.ms.getD (((j : Int) / 4).toNat) mm0).d).toNat) sg0).w), .int .i64 (wmK ((m.ss.getD (((m.ms.getD (((j : Int) / 4).toNat) mm0).d).toNat) sg0).w)), .bool false, .bool true] (by kernel_rfl) rfl ?_ ?_
   ·
    exact ⟨iaQ rfl (zax rfl) rfl, iaQ rfl (fdQ 0 rfl rfl rfl) rfl, iaQ rfl (zac rfl rfl rfl (zaa 2 rfl rfl)) rfl, iaQ rfl (fdQ 3 rfl rfl rfl) rfl, iaQ rfl (zac rfl rfl rfl (zaa 2 rfl rfl)) rfl, iaQ rfl (zax rfl) rfl, iaQ rfl (rv_quo rfl rfl rfl (by refine ⟨?_, ?_, ?_⟩ <;> omega)) rfl, iaQ rfl (riQ 4 rfl rfl rfl rfl (zae ((hr).m))) rfl, iaQ rfl (zat (k0 := 1) rfl rfl rfl (zae ((hr).m)) (by omega)) rfl, iaQ rfl (zak (u := .int .i64 ((m.ms.getD (((j : Int) / 4).toNat) mm0).d)) rfl rfl rfl (zae ((hr).m)) ((zbg mmC 4 (fun _ => rfl) m.ms mm0 (show ((j : Int) / 4).toNat < _ by omega) (by decide)).trans rfl)) rfl, iaQ rfl (riQ 3 rfl rfl rfl rfl (zae ((hr).s))) rfl, iaQ rfl (zat (k0 := 1) rfl rfl rfl (zae ((hr).s)) (by omega)) rfl, iaQ rfl (zak (u := .int .i64 ((m.ss.getD (((m.ms.getD (((j : Int) / 4).toNat) mm0).d).toNat) sg0).w)) rfl rfl rfl (zae ((hr).s)) ((zbg sgC 3 (fun _ => rfl) m.ss sg0 (show ((m.ms.getD (((j : Int) / 4).toNat) mm0).d).toNat < _ by omega) (by decide)).trans rfl)) rfl, .inl ⟨rfl, zaw (by kernel_rfl) rfl (fun w hm => zbe (zek ((m.ss.getD (((m.ms.getD (((j : Int) / 4).toNat) mm0).d).toNat) sg0).w) w (hfl.sw (by omega))))⟩, .inl ⟨rfl, rq_cb (zaw rfl rfl (fun w hm => zbe (zee (zcj _ _ _ w)))) hb17⟩, iaQ rfl (zax rfl) rfl, trivial⟩
   simp only [List.drop_succ_cons, List.drop_zero]
   refine ntQ (zaj rfl (zbh 1 rfl ?_))
   refine zap (zad ?_)
   refine zdw ?_
   refine zad (zaf ?_)
   exact zay rfl rfl (congrArg _ (zcb (fun hp => by first | (exact absurd hp.fl (by assumption)) | (have h9 := hp.v.len; omega) | (have h9 := hp.w.len; omega) | (have h9 := hp.z i (by omega) (by assumption); omega) | (have h9 := hp.v.rng i (by omega); omega) | (have h9 := hp.w.rng j (by omega); omega))).symm)
  refine ntQ (fcQ rfl ?_)
  refine zbi (zdv ?_)
  refine zal (zar (zbh 1 rfl ?_))
  exact zap (zay rfl rfl (congrArg _ (zdf ⟨hfl, ⟨by omega, fun s hs => (hvl s (by omega)).2⟩, ⟨by omega, fun q hq => hwl q (by omega)⟩, fun s hs => (hvl s (by omega)).1⟩).symm))
 have h3p := zea h3
 refine zaz 20 rfl (zaj rfl (zbh 1 rfl ?_))
 refine zap (zaf ?_)
 exact zay rfl rfl (congrArg _ (zcb (fun hp => by first | (exact absurd hp.fl (by assumption)) | (have h9 := hp.v.len; omega) | (have h9 := hp.w.len; omega) | (have h9 := hp.z i (by omega) (by assumption); omega) | (have h9 := hp.v.rng i (by omega); omega) | (have h9 := hp.w.rng j (by omega); omega))).symm)
theorem zgq (m : Md) (w : World) (hr : RdsMd w m) (hfl : FlP m) :
   Calls Try.prog 62 #[.agg #[m.sv, m.av, m.iv, m.mv]] w (Ret w (fun u_ p_ => ∃ a9 b9, u_ = .agg #[a9, b9] ∧ p_ = [rowE 3 1 a9 (staV m).length ((staV m).map (Value.int .i64)), rowE 3 1 b9 (staW m).length ((staW m).map (Value.int .i64))])) := by
 have hs9 := sml hr.s
 have hln := hfl.lens
 refine zbw (N := 39) (args := [.agg #[m.sv, m.av, m.iv, m.mv]]) Try.func62 rfl rfl (srQ ?_)
 refine zdk rfl (zda rfl rfl) ?_
 intro b1
 refine zdk rfl (zbf (z := .agg #[.slice none 0 0, .slice none 0 0]) rfl rfl) ?_
 intro b2
 refine ntQ (zag ?_)
 refine zfw rfl 11 [0, 1, 2, 3, 4, 5, 6, 7, 8, 9, 10] (List.take 11 _) (List.drop 11 _) [[], [0], [1], [2], [], [4], [5], [6], [7], [3, 8], []] [6, 7, 8, 9, 10, 11, 12, 13, 14, 15, 3] (fun i_ vs_ v_ p_ => match i_ with | 0 => v_ = .pointer (some ⟨b1, 0 + 0, none⟩) ∧ p_ = [] | 1 => v_ = m.sv ∧ p_ = [] | 2 => v_ = .int .i64 (m.ss.length : Int) ∧ p_ = [] | 3 => IsRow 3 1 ((List.replicate m.ss.length (0 : Int)).length) ((List.replicate m.ss.length (0 : Int)).map (Value.int .i64)) v_ p_ | 4 => v_ = .pointer (some ⟨b1, 0 + 3, none⟩) ∧ p_ = [] | 5 => v_ = m.mv ∧ p_ = [] | 6 => v_ = .int .i64 (m.ms.length : Int) ∧ p_ = [] | 7 => v_ = .int .i64 (4 * (m.ms.length : Int)) ∧ p_ = [] | 8 => IsRow 3 1 ((List.replicate (4 * m.ms.length : Nat) (0 : Int)).length) ((List.replicate (4 * m.ms.length : Nat) (0 : Int)).map (Value.int .i64)) v_ p_ | 9 => v_ = .agg #[(List.getD vs_ 0 undef), (List.getD vs_ 1 undef)] ∧ p_ = [] | 10 => IsBox #[.slice none 0 0, .slice none 0 0] 50 v_ p_ | _ => True) (List.take_append_drop 11 _).symm (by kernel_rfl) (by kernel_rfl) rfl rfl ?_ ?_
 ·
  refine ⟨?_, ?_, ?_, ?_, ?_, ?_, ?_, ?_, ?_, ?_, ?_, trivial⟩
  ·
   intro vf pf hR
   exact ovQ rfl (zav [1] rfl) (zbz (fdQ 0 rfl rfl rfl))
  ·
   intro vf pf hR
   have e0 := hR 0 (by decide)
   exact olQ rfl (sk 6 (congrArg some e0.1) (zam _)) (zbz (zac rfl rfl rfl (zaa 1 rfl rfl)))
  ·
   intro vf pf hR
   have e1 := hR 1 (by decide)
   exact olQ rfl (sk 7 (congrArg some e1.1) (zam _)) (zbz (lnQ rfl rfl rfl (zae ((hr).s))))
  ·
   intro vf pf hR
   have e2 := hR 2 (by decide)
   exact olQ rfl (sk 8 (congrArg some e2.1) (zam _)) (rq_make (z := .int .i64 0) (s := 1) (bytes := 8) (n := (List.replicate m.ss.length (0 : Int)).length) (cs := ((List.replicate m.ss.length (0 : Int)).map (Value.int .i64))) rfl Try.underlying48 rfl (by decide) rfl rfl (by first | (rw [List.length_replicate]; done) | (rw [List.length_replicate]; omega)) (by first | (rw [List.length_replicate]; done) | (rw [List.length_replicate]; omega)) (by rw [List.length_replicate]; omega) (ints_make _))
  ·
   intro vf pf hR
   exact ovQ rfl (zav [1] rfl) (zbz (fdQ 3 rfl rfl rfl))
  ·
   intro vf pf hR
   have e4 := hR 4 (by decide)
   exact olQ rfl (sk 10 (congrArg some e4.1) (zam _)) (zbz (zac rfl rfl rfl (zaa 1 rfl rfl)))
  ·
   intro vf pf hR
   have e5 := hR 5 (by decide)
   exact olQ rfl (sk 11 (congrArg some e5.1) (zam _)) (zbz (lnQ rfl rfl rfl (zae ((hr).m))))
  ·
   intro vf pf hR
   have e6 := hR 6 (by decide)
   exact ovQ rfl (sk 12 (congrArg some e6.1) (zam _)) (zbz (rv_mul rfl rfl rfl (by constructor <;> omega)))
  ·
   intro vf pf hR
   have e7 := hR 7 (by decide)
   exact olQ rfl (sk 13 (congrArg some e7.1) (zam _)) (rq_make (z := .int .i64 0) (s := 1) (bytes := 8) (n := (List.replicate (4 * m.ms.length : Nat) (0 : Int)).length) (cs := ((List.replicate (4 * m.ms.length : Nat) (0 : Int)).map (Value.int .i64))) rfl Try.underlying48 rfl (by decide) rfl rfl (by first | (rw [List.length_replicate]; done) | (rw [List.length_replicate]; omega)) (by first | (rw [List.length_replicate]; done) | (rw [List.length_replicate]; omega)) (by rw [List.length_replicate]; omega) (ints_make _))
  ·
   intro vf pf hR
   have e3 : IsRow 3 1 ((List.replicate m.ss.length (0 : Int)).length) ((List.replicate m.ss.length (0 : Int)).map (Value.int .i64)) (vf 3) (pf 3) := hR 3 (by decide)
   obtain ⟨g3, vE3, pE3⟩ := e3
   have e8 : IsRow 3 1 ((List.replicate (4 * m.ms.length : Nat) (0 : Int)).length) ((List.replicate (4 * m.ms.length : Nat) (0 : Int)).map (Value.int .i64)) (vf 8) (pf 8) := hR 8 (by decide)
   obtain ⟨g4, vE8, pE8⟩ := e8
   refine Or.inl ⟨rfl, ?_⟩
   exact zco (sk 9 (congrArg some vE3) (sk 14 (congrArg some vE8) (zam _))) (by simp only [pE3, vE3, pE8, vE8, fS] <;> rfl) (zct (zbz (zbl (cs := #[.slice (some ⟨g3, 0, none⟩) ((List.replicate m.ss.length (0 : Int)).length) ((List.replicate m.ss.length (0 : Int)).length), .slice (some ⟨g4, 0, none⟩) ((List.replicate (4 * m.ms.length : Nat) (0 : Int)).length) ((List.replicate (4 * m.ms.length : Nat) (0 : Int)).length)]) rfl rfl rfl)) (fun _ _ h => ⟨h.1.trans (by show _ = (.agg #[(vf 3), (vf 8)] : Value); first | (rw [vE3, vE8]; done) | (rw [vE3, vE8]; rfl)), h.2⟩))
  intro vf pf hR
  exact olQ rfl (zam _) (zbf (z := .agg #[.slice none 0 0, .slice none 0 0]) rfl rfl)
 intro vf pf hR
 have e3 : IsRow 3 1 ((List.replicate m.ss.length (0 : Int)).length) ((List.replicate m.ss.length (0 : Int)).map (Value.int .i64)) (vf 3) (pf 3) := hR 3 (by decide)
 obtain ⟨g3, vE3, pE3⟩ := e3
 have e8 : IsRow 3 1 ((List.replicate (4 * m.ms.length : Nat) (0 : Int)).length) ((List.replicate (4 * m.ms.length : Nat) (0 : Int)).map (Value.int .i64)) (vf 8) (pf 8) := hR 8 (by decide)
 obtain ⟨g4, vE8, pE8⟩ := e8
 have e9 : (vf 9) = .agg #[(vf 3), (vf 8)] ∧ (pf 9) = [] := hR 9 (by decide)
 rw [vE3, vE8] at e9
 have e10 : IsBox #[.slice none 0 0, .slice none 0 0] 50 (vf 10) (pf 10) := hR 10 (by decide)
 obtain ⟨b5, vE10, pE10⟩ := e10
 have q0 := hR 0 (by decide)
 have q1 := hR 1 (by decide)
 have q2 := hR 2 (by decide)
 have q4 := hR 4 (by decide)
 have q5 := hR 5 (by decide)
 have q6 := hR 6 (by decide)
 have q7 := hR 7 (by decide)
 have q9 := hR 9 (by decide)
 refine zdj (zcu [2, 1, 0] _ (sk 3 (congrArg some vE10) (sk 15 (congrArg some e9.1) (zam _))) rfl) (by simp only [pE3, vE3, pE8, vE8, pE10, vE10, q0.2, q1.2, q2.2, q4.2, q5.2, q6.2, q7.2, q9.2, fS] <;> rfl) ?_
 simp only [List.drop_succ_cons, List.drop_zero]
 refine zbd (cs' := #[.slice (some ⟨g3, 0, none⟩) ((List.replicate m.ss.length (0 : Int)).length) ((List.replicate m.ss.length (0 : Int)).length), .slice (some ⟨g4, 0, none⟩) ((List.replicate (4 * m.ms.length : Nat) (0 : Int)).length) ((List.replicate (4 * m.ms.length : Nat) (0 : Int)).length)]) (i := 2) (off := 0) (us := [.slice (some ⟨g3, 0, none⟩) ((List.replicate m.ss.length (0 : Int)).length) ((List.replicate m.ss.length (0 : Int)).length), .slice (some ⟨g4, 0, none⟩) ((List.replicate (4 * m.ms.length : Nat) (0 : Int)).length) ((List.replicate (4 * m.ms.length : Nat) (0 : Int)).length)]) rfl rfl rfl rfl rfl rfl rfl (zab rfl (zab rfl zbb)) rfl rfl rfl (ntQ (zfh (hvQ rfl (fdQ 0 rfl rfl rfl) (hvQ rfl (zac rfl rfl rfl (zaa 4 rfl rfl)) (hvQ rfl (lnQ rfl rfl rfl (zae ((hr).s))) (zaz 1 rfl (zba ?_)))))))
 refine lkQ2 (α := Nat) (β := List Int) [0, 1, 2, 3, 17, 18] rfl (fun i zs => [rowE 3 1 (.slice (some ⟨g3, 0, none⟩) ((List.replicate m.ss.length (0 : Int)).length) ((List.replicate m.ss.length (0 : Int)).length)) zs.length (zs.map (Value.int .i64)), rowE 3 1 (.slice (some ⟨g4, 0, none⟩) ((List.replicate (4 * m.ms.length : Nat) (0 : Int)).length) ((List.replicate (4 * m.ms.length : Nat) (0 : Int)).length)) ((List.replicate (4 * m.ms.length : Nat) (0 : Int)).length) ((List.replicate (4 * m.ms.length : Nat) (0 : Int)).map (Value.int .i64)), boxE b5 #[.slice (some ⟨g3, 0, none⟩) ((List.replicate m.ss.length (0 : Int)).length) ((List.replicate m.ss.length (0 : Int)).length), .slice (some ⟨g4, 0, none⟩) ((List.replicate (4 * m.ms.length : Nat) (0 : Int)).length) ((List.replicate (4 * m.ms.length : Nat) (0 : Int)).length)] 50, boxE b2 #[.slice none 0 0, .slice none 0 0] 50, boxE b1 #[m.sv, m.av, m.iv, m.mv] 35]) (fun i zs => [(19, .int .i64 (i : Int))]) (fun i zs => i ≤ m.ss.length ∧ zs = staA m i) (fun i zs => m.ss.length - i) 0 (List.replicate m.ss.length 0) ⟨Nat.zero_le _, rfl⟩ (saQ rfl) (pfQ rfl) ?_
 intro i zs hi6
 obtain ⟨hi, hz⟩ := hi6
 have hzl : zs.length = m.ss.length := by rw [hz]; exact staA_len m i
 refine srQ ?_
 refine zbp rfl rfl rfl rfl rfl rfl (fun h7 => ?_) (fun h7 => ?_)
 ·
  refine ntQ (tcQ rfl (zcy (sbQ (zag (reQ 1 rfl (hvQ rfl (riQ 3 rfl rfl rfl rfl (zae ((hr).s))) ?_))))))
  refine hvQ rfl (zbj (us := [.int .i64 ((m.ss.getD i sg0).k), .int .i64 ((m.ss.getD i sg0).w), .int .i64 ((m.ss.getD i sg0).i)]) rfl rfl rfl rfl (zae ((hr).s)) (by omega) rfl (zby sgC 3 (fun _ => rfl) m.ss sg0 (show i < _ by omega) rfl)) (zdk rfl (zbf (z := .agg #[.int .i64 0, .int .i64 0, .int .i64 0]) rfl rfl) ?_)
  intro b8
  refine zah 1 rfl (zbd (cs' := #[.int .i64 ((m.ss.getD i sg0).k), .int .i64 ((m.ss.getD i sg0).w), .int .i64 ((m.ss.getD i sg0).i)]) (i := 0) (off := 0) (us := [.int .i64 ((m.ss.getD i sg0).k), .int .i64 ((m.ss.getD i sg0).w), .int .i64 ((m.ss.getD i sg0).i)]) rfl rfl rfl rfl rfl rfl rfl (zab rfl (zab rfl (zab rfl zbb))) rfl rfl rfl ?_)
  refine ntQ (srQ (hvQ rfl (fdQ 0 rfl rfl rfl) (hvQ rfl (zac rfl rfl rfl (zaa 0 rfl rfl)) ?_)))
  refine zbu rfl rfl rfl rfl rfl rfl (fun h9 => ?_) (fun h9 => ?_)
  ·
   refine ntQ (zaj rfl ?_)
   refine zbv 10 [[], [0], [], [], [3], [], [5], [6], [4, 7], [1, 2]] [27, 28, 29, 30, 31, 32, 33, 34, 35, 36] [.pointer (some ⟨b5, 0 + 0, none⟩), .slice (some ⟨g3, 0, none⟩) ((List.replicate m.ss.length (0 : Int)).length) ((List.replicate m.ss.length (0 : Int)).length), .int .i64 (i : Int), .pointer (some ⟨b8, 0 + 2, none⟩), .int .i64 ((m.ss.getD i sg0).i), .pointer (some ⟨b8, 0 + 1, none⟩), .int .i64 ((m.ss.getD i sg0).w), .int .i64 (wmK ((m.ss.getD i sg0).w)), .int .i64 (bits .and .i64 ((m.ss.getD i sg0).i) (wmK ((m.ss.getD i sg0).w))), elP (.slice (some ⟨g3, 0, none⟩) ((List.replicate m.ss.length (0 : Int)).length) ((List.replicate m.ss.length (0 : Int)).length)) (((i : Int)).toNat * 1)] (by kernel_rfl) rfl ?_ ?_
   ·
    exact ⟨iaQ rfl (fdQ 0 rfl rfl rfl) rfl, iaQ rfl (zac rfl rfl rfl (zaa 3 rfl rfl)) rfl, iaQ rfl (zax rfl) rfl, iaQ rfl (fdQ 2 rfl rfl rfl) rfl, iaQ rfl (zac rfl rfl rfl (zaa 0 rfl rfl)) rfl, iaQ rfl (fdQ 1 rfl rfl rfl) rfl, iaQ rfl (zac rfl rfl rfl (zaa 0 rfl rfl)) rfl, .inl ⟨rfl, zaw rfl rfl (fun w hm => zbe (zek ((m.ss.getD i sg0).w) w (hfl.sw (by omega))))⟩, iaQ rfl (zdx rfl (by decide) rfl rfl (r := bits .and .i64 ((m.ss.getD i sg0).i) (wmK ((m.ss.getD i sg0).w))) rfl) rfl, iaQ rfl (riQ 1 rfl rfl rfl rfl (zai 1 rfl)) rfl, trivial⟩
   simp only [List.drop_succ_cons, List.drop_zero]
   refine zgc (i := 1) (n' := (zs.set i (bits .and .i64 ((m.ss.getD i sg0).i) (wmK ((m.ss.getD i sg0).w)))).length) (xs' := ((zs.set i (bits .and .i64 ((m.ss.getD i sg0).i) (wmK ((m.ss.getD i sg0).w)))).map (Value.int .i64))) rfl rfl rfl rfl rfl rfl rfl rfl (by first | omega | (simp only [List.length_set]; omega)) List.length_set.symm (zgk _ _ _) rfl (zbn (zde (zao (hvQ rfl (vaQ rfl rfl rfl) (enQ 1 rfl ?_)))))
   exact zcp (i + 1) (zs.set i (bits .and .i64 ((m.ss.getD i sg0).i) (wmK ((m.ss.getD i sg0).w)))) ⟨by omega, by rw [hz]; exact staA_yes (by omega)⟩ (by omega) (saQ rfl) (slQ [1, 0, 0, 0, 0] rfl)
  refine ntQ (fsQ rfl (zde (zao (hvQ rfl (vaQ rfl rfl rfl) (enQ 1 rfl ?_)))))
  exact zcp (i + 1) zs ⟨by omega, hz.trans (staA_no (by omega))⟩ (by omega) (saQ rfl) (slQ [1, 0, 0, 0, 0] rfl)
 refine ntQ (fcQ rfl ?_)
 refine zbi (zdv ?_)
 refine zal (zar (zag (zao (hvQ rfl (zau (cs := [.slice (some ⟨g3, 0, none⟩) ((List.replicate m.ss.length (0 : Int)).length) ((List.replicate m.ss.length (0 : Int)).length), .slice (some ⟨g4, 0, none⟩) ((List.replicate (4 * m.ms.length : Nat) (0 : Int)).length) ((List.replicate (4 * m.ms.length : Nat) (0 : Int)).length)]) rfl rfl rfl rfl rfl (zaq 2 rfl 0 rfl)) ?_))))
 refine zbd (cs' := #[.slice (some ⟨g3, 0, none⟩) ((List.replicate m.ss.length (0 : Int)).length) ((List.replicate m.ss.length (0 : Int)).length), .slice (some ⟨g4, 0, none⟩) ((List.replicate (4 * m.ms.length : Nat) (0 : Int)).length) ((List.replicate (4 * m.ms.length : Nat) (0 : Int)).length)]) (i := 3) (off := 0) (us := [.slice (some ⟨g3, 0, none⟩) ((List.replicate m.ss.length (0 : Int)).length) ((List.replicate m.ss.length (0 : Int)).length), .slice (some ⟨g4, 0, none⟩) ((List.replicate (4 * m.ms.length : Nat) (0 : Int)).length) ((List.replicate (4 * m.ms.length : Nat) (0 : Int)).length)]) rfl rfl rfl rfl rfl rfl rfl (zab rfl (zab rfl zbb)) rfl rfl rfl (ntQ ?_)
 refine zap (zbk 5 [4, 3, 2, 1, 0] rfl rfl (by decide) ?_)
 exact zcw (rs := [.cell 2 50]) (vs := [.agg #[.slice (some ⟨g3, 0, none⟩) ((List.replicate m.ss.length (0 : Int)).length) ((List.replicate m.ss.length (0 : Int)).length), .slice (some ⟨g4, 0, none⟩) ((List.replicate (4 * m.ms.length : Nat) (0 : Int)).length) ((List.replicate (4 * m.ms.length : Nat) (0 : Int)).length)]]) (post := [rowE 3 1 (.slice (some ⟨g3, 0, none⟩) ((List.replicate m.ss.length (0 : Int)).length) ((List.replicate m.ss.length (0 : Int)).length)) zs.length (zs.map (Value.int .i64)), rowE 3 1 (.slice (some ⟨g4, 0, none⟩) ((List.replicate (4 * m.ms.length : Nat) (0 : Int)).length) ((List.replicate (4 * m.ms.length : Nat) (0 : Int)).length)) ((List.replicate (4 * m.ms.length : Nat) (0 : Int)).length) ((List.replicate (4 * m.ms.length : Nat) (0 : Int)).map (Value.int .i64))]) rfl ⟨⟨b2, 0, [.slice (some ⟨g3, 0, none⟩) ((List.replicate m.ss.length (0 : Int)).length) ((List.replicate m.ss.length (0 : Int)).length), .slice (some ⟨g4, 0, none⟩) ((List.replicate (4 * m.ms.length : Nat) (0 : Int)).length) ((List.replicate (4 * m.ms.length : Nat) (0 : Int)).length)], rfl, rfl, by kernel_rfl, by kernel_rfl, zaq 3 rfl 0 rfl⟩, trivial⟩ rfl (slQ [0, 0] rfl) ⟨_, _, rfl, by rw [hz, show i = m.ss.length by omega]; rfl⟩
theorem FlatStart_ret (m : Md) (w : World) (hr : RdsMd w m) (hfl : FlP m) :
   Calls Try.prog 20 #[.agg #[m.sv, m.av, m.iv, m.mv]] w (Ret w (fun u_ p_ => ∃ a9 b9, u_ = .agg #[a9, b9] ∧ p_ = [rowE 3 1 a9 (staV m).length ((staV m).map (Value.int .i64)), rowE 3 1 b9 (staW m).length ((staW m).map (Value.int .i64))])) := by
 have hs9 := sml hr.s
 refine zbw (N := 9) (args := [.agg #[m.sv, m.av, m.iv, m.mv]]) Try.func20 rfl rfl (srQ ?_)
 refine zdk rfl (zda rfl rfl) ?_
 intro b1
 refine zdk rfl (zbf (z := .agg #[.slice none 0 0, .slice none 0 0]) rfl rfl) ?_
 intro b2
 refine ntQ (zfh (hvQ rfl (zau (cs := [m.sv, m.av, m.iv, m.mv]) rfl rfl rfl rfl rfl (zaq 1 rfl 0 rfl)) ?_))
 refine zej rfl (zaw rfl rfl (fun w hm => zbe (by have h9 := zfy m w (hr.below hm.bel); rw [zdf hfl] at h9; exact h9))) (zaz 1 rfl (zas rfl (zcy (srQ (hvQ rfl (zau (cs := [m.sv, m.av, m.iv, m.mv]) rfl rfl rfl rfl rfl (zaq 1 rfl 0 rfl)) ?_)))))
 refine zfq rfl rfl rfl (zaw rfl rfl (fun w hm => zgq m w (hr.below hm.bel) hfl)) ?_
 intro v3 p4 hR5
 obtain ⟨sahR5, sbhR5, rfl, rfl⟩ := hR5
 refine zcn (i := 1) rfl (fun ho6 => ?_)
 refine zcn (i := 0) rfl (fun ho7 => ?_)
 refine zbd (cs' := #[sahR5, sbhR5]) (i := 2) (off := 0) (us := [sahR5, sbhR5]) rfl rfl rfl rfl rfl rfl rfl (zab ho7 (zab ho6 zbb)) rfl rfl rfl (ntQ ?_)
 refine zap (zbk 4 [3, 2, 1, 0] rfl rfl (by decide) ?_)
 exact zcw (rs := [.cell 2 50]) (vs := [.agg #[sahR5, sbhR5]]) (post := [rowE 3 1 sahR5 ((staV m).length) ((staV m).map (Value.int .i64)), rowE 3 1 sbhR5 ((staW m).length) ((staW m).map (Value.int .i64))]) rfl ⟨⟨b2, 0, [sahR5, sbhR5], rfl, rfl, by kernel_rfl, by kernel_rfl, zaq 2 rfl 0 rfl⟩, trivial⟩ rfl (slQ [0, 0] rfl) ⟨_, _, rfl, rfl⟩
theorem zet (m : Md) (vs ws ins : List Int) (uo uv uw ui : Value) (w : World) (hr : RdsMd w m) (hfl : FlP m) (hv : RdsW w uv 1 vs.length (vs.map (Value.int .i64))) (hw : RdsW w uw 1 ws.length (ws.map (Value.int .i64))) (ho : RdsW w uo 1 (eoK m).length ((eoK m).map (Value.int .i64))) (hn : RdsW w ui 1 ins.length (ins.map (Value.int .i64))) (hil : ins.length = (pwK m 0).length) (hV : VlP m vs) :
   Calls Try.prog 67 #[.agg #[m.sv, m.av, m.iv, m.mv], uo, .agg #[uv, uw], ui] w (Ret w (fun v' post => post = [rowE 3 1 v' ((sgK m vs ins)).length (((sgK m vs ins)).map (Value.int .i64))])) := by
 have hs9 := sml hr.s
 have ho9 := sml ho
 have hg9 := sml hr.g
 have hln := hfl.lens
 have hvl := hV.len
 refine zbw (N := 75) (args := [.agg #[m.sv, m.av, m.iv, m.mv], uo, .agg #[uv, uw], ui]) Try.func67 rfl rfl (srQ ?_)
 refine zdk rfl (zda rfl rfl) ?_
 intro b1
 refine zdk rfl (zda rfl rfl) ?_
 intro b2
 refine zaz 1 rfl (srQ (hvQ rfl (fdQ 0 rfl rfl rfl) (hvQ rfl (zac rfl rfl rfl (zaa 0 rfl rfl)) ?_)))
 refine zfq rfl rfl rfl (zaw rfl rfl (fun w hm => copyIntsF_ret vs uv w ((zae hv) w hm) (by omega))) ?_
 intro v3 p4 hR5
 subst hR5
 refine zaz 1 rfl (zbh 1 rfl (zfh (hvQ rfl (fdQ 0 rfl rfl rfl) ?_)))
 refine hvQ rfl (zac rfl rfl rfl (zaa 2 rfl rfl)) (hvQ rfl (lnQ rfl rfl rfl (zae ((hr).s))) (zaz 1 rfl (zba ?_)))
 refine lkQ3 (α := Nat) (β := Nat) (γ := List Int) [0, 1, 2, 3, 4, 6, 8, 9, 20, 21] rfl (fun i k zs => [rowE 3 1 v3 zs.length (zs.map (Value.int .i64)), boxE b2 #[uv, uw] 50, boxE b1 #[m.sv, m.av, m.iv, m.mv] 35]) (fun i k zs => [(10, .int .i64 (k : Int)), (22, .int .i64 (i : Int))]) (fun i k zs => i ≤ m.ss.length ∧ k = (inA m ins vs i).2 ∧ zs = (inA m ins vs i).1) (fun i k zs => m.ss.length - i) 0 0 vs ⟨Nat.zero_le _, rfl, rfl⟩ (saQ rfl) (pfQ rfl) ?_
 intro i k zs hi6
 obtain ⟨hi, hk, hz⟩ := hi6
 have hzo : VlP m zs := by rw [hz]; exact inA_ok hfl hV i hi
 have hzl := hzo.len
 have hk30 : k ≤ i := by rw [hk, inA_cnt]; exact pwA_le _ _ _
 refine srQ ?_
 refine zbp rfl rfl rfl rfl rfl rfl (fun h7 => ?_) (fun h7 => ?_)
 ·
  refine ntQ (tcQ rfl (zcy (sbQ (zag (reQ 1 rfl (hvQ rfl (riQ 3 rfl rfl rfl rfl (zae ((hr).s))) ?_))))))
  refine hvQ rfl (zbj (us := [.int .i64 ((m.ss.getD i sg0).k), .int .i64 ((m.ss.getD i sg0).w), .int .i64 ((m.ss.getD i sg0).i)]) rfl rfl rfl rfl (zae ((hr).s)) (by omega) rfl (zby sgC 3 (fun _ => rfl) m.ss sg0 (show i < _ by omega) rfl)) (zdk rfl (zbf (z := .agg #[.int .i64 0, .int .i64 0, .int .i64 0]) rfl rfl) ?_)
  intro b8
  refine zah 1 rfl (zbd (cs' := #[.int .i64 ((m.ss.getD i sg0).k), .int .i64 ((m.ss.getD i sg0).w), .int .i64 ((m.ss.getD i sg0).i)]) (i := 0) (off := 0) (us := [.int .i64 ((m.ss.getD i sg0).k), .int .i64 ((m.ss.getD i sg0).w), .int .i64 ((m.ss.getD i sg0).i)]) rfl rfl rfl rfl rfl rfl rfl (zab rfl (zab rfl (zab rfl zbb))) rfl rfl rfl ?_)
  refine ntQ (srQ (hvQ rfl (fdQ 0 rfl rfl rfl) (hvQ rfl (zac rfl rfl rfl (zaa 0 rfl rfl)) ?_)))
  refine zbu rfl rfl rfl rfl rfl rfl (fun h9 => ?_) (fun h9 => ?_)
  ·
   refine ntQ (zaj rfl (zag ?_))
   have hki : k < ins.length := by rw [hk, inA_cnt, hil]; unfold pwK; rw [if_pos hln.1]; exact pwA_lt (by omega) (by omega)
   refine zbv 11 [[], [], [], [], [2, 3], [4], [], [6], [7], [5, 8], [0, 1]] [30, 31, 32, 33, 34, 35, 36, 37, 38, 39, 40] [v3, .int .i64 (i : Int), ui, .int .i64 (k : Int), elP ui (((k : Int)).toNat * 1), .int .i64 (ins.getD k 0), .pointer (some ⟨b8, 0 + 1, none⟩), .int .i64 ((m.ss.getD i sg0).w), .int .i64 (wmK ((m.ss.getD i sg0).w)), .int .i64 (bits .and .i64 (ins.getD k 0) (wmK ((m.ss.getD i sg0).w))), elP v3 (((i : Int)).toNat * 1)] (by kernel_rfl) rfl ?_ ?_
   ·
    exact ⟨iaQ rfl (zax rfl) rfl, iaQ rfl (zax rfl) rfl, iaQ rfl (zax rfl) rfl, iaQ rfl (zax rfl) rfl, iaQ rfl (riQ 1 rfl rfl rfl rfl (zae hn)) rfl, iaQ rfl (liQ rfl rfl rfl (zae hn)) rfl, iaQ rfl (fdQ 1 rfl rfl rfl) rfl, iaQ rfl (zac rfl rfl rfl (zaa 0 rfl rfl)) rfl, .inl ⟨rfl, zaw rfl rfl (fun w hm => zbe (zek ((m.ss.getD i sg0).w) w (hfl.sw (by omega))))⟩, iaQ rfl (zdx rfl (by decide) rfl rfl (r := bits .and .i64 (ins.getD k 0) (wmK ((m.ss.getD i sg0).w))) rfl) rfl, iaQ rfl (riQ 1 rfl rfl rfl rfl (zai 1 rfl)) rfl, trivial⟩
   simp only [List.drop_succ_cons, List.drop_zero]
   refine zgc (i := 1) (n' := (zs.set i (bits .and .i64 (ins.getD k 0) (wmK ((m.ss.getD i sg0).w)))).length) (xs' := ((zs.set i (bits .and .i64 (ins.getD k 0) (wmK ((m.ss.getD i sg0).w)))).map (Value.int .i64))) rfl rfl rfl rfl rfl rfl rfl rfl (by first | omega | (simp only [List.length_set]; omega)) List.length_set.symm (zgk _ _ _) rfl (ntQ (reQ 1 rfl (hvQ rfl (vaQ rfl rfl rfl) (enQ 1 rfl (zde (zao (hvQ rfl (vaQ rfl rfl rfl) (zah 1 rfl ?_))))))))
   refine zbn ?_
   obtain ⟨hz8, hk8⟩ := inA_yes hz hk (show (m.ss.getD i sg0).k = 0 by omega)
   exact zcl (i + 1) (k + 1) (zs.set i (bits .and .i64 (ins.getD k 0) (wmK ((m.ss.getD i sg0).w)))) ⟨by omega, hk8, hz8⟩ (by omega) (saQ rfl) (slQ [1, 0, 0] rfl)
  refine ntQ (fsQ rfl (zde (zao (hvQ rfl (vaQ rfl rfl rfl) (enQ 1 rfl ?_)))))
  obtain ⟨hz8, hk8⟩ := inA_no hz hk (show ¬ (m.ss.getD i sg0).k = 0 by omega)
  exact zcl (i + 1) k zs ⟨by omega, hk8, hz8⟩ (by omega) (saQ rfl) (slQ [1, 0, 0] rfl)
 refine ntQ (fcQ rfl ?_)
 refine zbi (zdv ?_)
 refine zal (zar (zag (zag (reQ 1 rfl (hvQ rfl (lnQ rfl rfl rfl (zae ho)) (zaz 1 rfl (zba ?_)))))))
 refine lkQ2 (α := Nat) (β := List Int) [0, 1, 2, 3, 4, 6, 8, 9, 10, 20, 21, 22, 23, 44, 45] rfl (fun j ys => [rowE 3 1 v3 ys.length (ys.map (Value.int .i64)), boxE b2 #[uv, uw] 50, boxE b1 #[m.sv, m.av, m.iv, m.mv] 35]) (fun j ys => [(46, .int .i64 (j : Int))]) (fun j ys => j ≤ (eoK m).length ∧ ys = ordV m (eoK m) (inA m ins vs m.ss.length).1 j) (fun j ys => (eoK m).length - j) 0 zs ⟨Nat.zero_le _, by rw [hz, show i = m.ss.length by omega]; rfl⟩ (saQ rfl) (pfQ rfl) ?_
 intro j ys hi10
 obtain ⟨hj, hy⟩ := hi10
 have hyo : VlP m ys := by rw [hy]; exact ordV_ok hfl (inA_ok hfl hV _ (Nat.le_refl _)) j hj
 have hyl := hyo.len
 refine srQ ?_
 refine zbp rfl rfl rfl rfl rfl rfl (fun h11 => ?_) (fun h11 => ?_)
 ·
  refine ntQ (tcQ rfl (zcy (sbQ (srQ (hvQ rfl (riQ 1 rfl rfl rfl rfl (zae ho)) (hvQ rfl (zak (u := .int .i64 ((eoK m).getD j 0)) rfl rfl rfl (zae ho) (zca (show _ < (eoK m).length by omega))) ?_))))))
  have hxr := eo_rng hfl (zch (d := (0 : Int)) (show j < (eoK m).length by omega))
  obtain ⟨x, hx9⟩ : ∃ x : Nat, (eoK m).getD j 0 = (x : Int) := ⟨((eoK m).getD j 0).toNat, by omega⟩
  rw [hx9]
  have hxl : x < m.gs.length := by omega
  obtain ⟨⟨htr, -⟩, hxo⟩ := hfl.as hxl
  rw [← hyl] at hxo
  have hxw := hfl.sw (s := (m.gs.getD x as0).t.toNat) (by omega)
  refine zaz 1 rfl (srQ (hvQ rfl (fdQ 1 rfl rfl rfl) (hvQ rfl (zac rfl rfl rfl (zaa 2 rfl rfl)) (zah 1 rfl (hvQ rfl (riQ 2 rfl rfl rfl rfl (zae ((hr).g))) ?_)))))
  refine hvQ rfl (zbj (us := [.int .i64 ((m.gs.getD x as0).t), (m.gs.getD x as0).ov]) rfl rfl rfl rfl (zae ((hr).g)) (by omega) rfl (zby asC 2 (fun _ => rfl) m.gs as0 (show x < _ by omega) rfl)) (zdk rfl (zbf (z := .agg #[.int .i64 0, .slice none 0 0]) rfl rfl) ?_)
  intro b12
  refine zbd (cs' := #[.int .i64 ((m.gs.getD x as0).t), (m.gs.getD x as0).ov]) (i := 0) (off := 0) (us := [.int .i64 ((m.gs.getD x as0).t), (m.gs.getD x as0).ov]) rfl rfl rfl rfl rfl rfl rfl (zab rfl (zab (hr.o.at (k := x) (by omega)).one zbb)) rfl rfl rfl (ntQ ?_)
  refine zga 4 [3, 2, 0, 1] rfl rfl (by decide) ?_
  refine hc_draw4 (l := [boxE b12 #[.int .i64 ((m.gs.getD x as0).t), (m.gs.getD x as0).ov] 89, boxE b2 #[uv, uw] 50, boxE b1 #[m.sv, m.av, m.iv, m.mv] 35]) rfl 19 [0, 1, 2, 3, 4, 5, 6, 7, 8, 9, 10, 11, 12, 13, 14, 15, 16, 17, 18] (List.take 19 _) (List.drop 19 _) [[], [], [1], [], [3], [], [], [6], [], [8], [7, 9], [10], [11], [4, 5, 12], [13], [14], [14], [0, 2], [15, 17]] [some 56, some 57, some 58, some 59, some 60, some 61, some 62, some 63, some 64, some 65, some 66, some 67, some 68, some 69, some 55, some 70, some 71, some 72, none] (fun i_ vs_ v_ p_ => match i_ with | 0 => v_ = v3 ∧ p_ = [] | 1 => v_ = .pointer (some ⟨b12, 0 + 0, none⟩) ∧ p_ = [] | 2 => v_ = .int .i64 ((m.gs.getD x as0).t) ∧ p_ = [] | 3 => v_ = .pointer (some ⟨b12, 0 + 1, none⟩) ∧ p_ = [] | 4 => v_ = (m.gs.getD x as0).ov ∧ p_ = [] | 5 => v_ = v3 ∧ p_ = [] | 6 => v_ = .pointer (some ⟨b1, 0 + 0, none⟩) ∧ p_ = [] | 7 => v_ = m.sv ∧ p_ = [] | 8 => v_ = .pointer (some ⟨b12, 0 + 0, none⟩) ∧ p_ = [] | 9 => v_ = .int .i64 ((m.gs.getD x as0).t) ∧ p_ = [] | 10 => v_ = elP m.sv (((m.gs.getD x as0).t).toNat * 3) ∧ p_ = [] | 11 => v_ = elP m.sv (((m.gs.getD x as0).t).toNat * 3 + 1) ∧ p_ = [] | 12 => v_ = .int .i64 ((m.ss.getD (((m.gs.getD x as0).t).toNat) sg0).w) ∧ p_ = [] | 13 => v_ = .tuple #[.int .i64 (evK (m.gs.getD x as0).os ys ((m.ss.getD (((m.gs.getD x as0).t).toNat) sg0).w)), .int .i64 ((evE (m.gs.getD x as0).os ys ((m.ss.getD (((m.gs.getD x as0).t).toNat) sg0).w) (m.gs.getD x as0).os.length 0).2 : Int)] ∧ p_ = [] | 14 => v_ = .tuple #[.int .i64 (evK (m.gs.getD x as0).os ys ((m.ss.getD (((m.gs.getD x as0).t).toNat) sg0).w)), .int .i64 ((evE (m.gs.getD x as0).os ys ((m.ss.getD (((m.gs.getD x as0).t).toNat) sg0).w) (m.gs.getD x as0).os.length 0).2 : Int)] ∧ p_ = [] | 15 => v_ = .int .i64 (evK (m.gs.getD x as0).os ys ((m.ss.getD (((m.gs.getD x as0).t).toNat) sg0).w)) ∧ p_ = [] | 16 => v_ = .int .i64 ((evE (m.gs.getD x as0).os ys ((m.ss.getD (((m.gs.getD x as0).t).toNat) sg0).w) (m.gs.getD x as0).os.length 0).2 : Int) ∧ p_ = [] | 17 => v_ = elP v3 (((m.gs.getD x as0).t).toNat * 1) ∧ p_ = [] | 18 => p_ = [rowE 3 1 v3 ((ys.set (((m.gs.getD x as0).t).toNat) (evK (m.gs.getD x as0).os ys ((m.ss.getD (((m.gs.getD x as0).t).toNat) sg0).w))).length) ((ys.set (((m.gs.getD x as0).t).toNat) (evK (m.gs.getD x as0).os ys ((m.ss.getD (((m.gs.getD x as0).t).toNat) sg0).w))).map (Value.int .i64))] | _ => True) [[], [], [1], [], [3], [], [], [6], [], [8], [7, 9], [10], [11], [4, 5, 12, 19], [13], [14], [14], [0, 2, 19], [15, 17]] [none, none, none, none, none, none, none, none, none, none, none, none, none, none, none, none, none, none, some 19] [[rowE 3 1 v3 ys.length (ys.map (Value.int .i64))]] [0, 1, 2, 3, 4, 5, 6, 7, 8, 9, 10, 11, 12, 13, 14, 15, 16, 17, 18] 19 (List.take_append_drop 19 _).symm (by kernel_rfl) (by kernel_rfl) (by kernel_rfl) rfl rfl ?_ ?_
  ·
   refine ⟨?_, ?_, ?_, ?_, ?_, ?_, ?_, ?_, ?_, ?_, ?_, ?_, ?_, ?_, ?_, ?_, ?_, ?_, ?_, trivial⟩
   ·
    intro vf pf hmu hR
    refine zfr [] [] rfl (zcd (zav [9] rfl) ?_)
    exact zbz (zax rfl)
   ·
    intro vf pf hmu hR
    refine zfr [] [] rfl (zcd (zav [15] rfl) ?_)
    exact zbz (fdQ 0 rfl rfl rfl)
   ·
    intro vf pf hmu hR
    have e1 := hR 1 (by decide)
    refine zfr [1] [1] rfl (zbm (sk 57 (congrArg some e1.1) (zam _)) (List.sublist_append_right _ _) ?_)
    exact zbz (zac rfl rfl rfl (zaa 0 rfl rfl))
   ·
    intro vf pf hmu hR
    refine zfr [] [] rfl (zcd (zav [15] rfl) ?_)
    exact zbz (fdQ 1 rfl rfl rfl)
   ·
    intro vf pf hmu hR
    have e3 := hR 3 (by decide)
    refine zfr [3] [3] rfl (zbm (sk 59 (congrArg some e3.1) (zam _)) (List.sublist_append_right _ _) ?_)
    exact zbz (zac rfl rfl rfl (zaa 0 rfl rfl))
   ·
    intro vf pf hmu hR
    refine zfr [] [] rfl (zcd (zav [9] rfl) ?_)
    exact zbz (zax rfl)
   ·
    intro vf pf hmu hR
    refine zfr [] [] rfl (zcd (zav [4] rfl) ?_)
    exact zbz (fdQ 0 rfl rfl rfl)
   ·
    intro vf pf hmu hR
    have e6 := hR 6 (by decide)
    refine zfr [6] [6] rfl (zbm (sk 62 (congrArg some e6.1) (zam _)) (List.sublist_append_right _ _) ?_)
    exact zbz (zac rfl rfl rfl (zaa 2 rfl rfl))
   ·
    intro vf pf hmu hR
    refine zfr [] [] rfl (zcd (zav [15] rfl) ?_)
    exact zbz (fdQ 0 rfl rfl rfl)
   ·
    intro vf pf hmu hR
    have e8 := hR 8 (by decide)
    refine zfr [8] [8] rfl (zbm (sk 64 (congrArg some e8.1) (zam _)) (List.sublist_append_right _ _) ?_)
    exact zbz (zac rfl rfl rfl (zaa 0 rfl rfl))
   ·
    intro vf pf hmu hR
    have e7 := hR 7 (by decide)
    have e9 := hR 9 (by decide)
    refine zfr [7, 9] [7, 9] rfl (zbm (sk 63 (congrArg some e7.1) (sk 65 (congrArg some e9.1) (zam _))) (List.sublist_append_right _ _) ?_)
    exact zbz (riQ 3 rfl rfl rfl rfl (zae ((hr).s)))
   ·
    intro vf pf hmu hR
    have e10 := hR 10 (by decide)
    refine zfr [10] [10] rfl (zbm (sk 66 (congrArg some e10.1) (zam _)) (List.sublist_append_right _ _) ?_)
    exact zbz (zat (k0 := 1) rfl rfl rfl (zae ((hr).s)) (by omega))
   ·
    intro vf pf hmu hR
    have e11 := hR 11 (by decide)
    refine zfr [11] [11] rfl (zbm (sk 67 (congrArg some e11.1) (zam _)) (List.sublist_append_right _ _) ?_)
    exact zbz (zak (u := .int .i64 ((m.ss.getD (((m.gs.getD x as0).t).toNat) sg0).w)) rfl rfl rfl (zae ((hr).s)) ((zbg sgC 3 (fun _ => rfl) m.ss sg0 (show ((m.gs.getD x as0).t).toNat < _ by omega) (by decide)).trans rfl))
   ·
    intro vf pf hmu hR
    have e4 := hR 4 (by decide)
    have e5 := hR 5 (by decide)
    have e12 := hR 12 (by decide)
    refine zfr [4, 5, 12, 19] [4, 5, 12] rfl ?_
    have hmu0 : pf 19 = [rowE 3 1 v3 ys.length (ys.map (Value.int .i64))] := hmu 0 (show 0 < 1 by omega)
    exact zco (sk 60 (congrArg some e4.1) (sk 61 (congrArg some e5.1) (sk 68 (congrArg some e12.1) (zam _)))) (by simp only [hmu0, e4.2, e5.2, e12.2, fS] <;> rfl) (zaw rfl rfl (fun w hm => exprAt_ret (m.gs.getD x as0).os ys _ _ _ hxo hxw (m.gs.getD x as0).os.length 0 (Nat.sub_le _ _) hxo.pos w ((hr.o.at (k := x) (by omega)).below hm.bel) (zai 0 rfl w hm)))
   ·
    intro vf pf hmu hR
    have e13 := hR 13 (by decide)
    refine zfr [13] [13] rfl (zcd (sk 69 (congrArg some e13.1) (zam _)) ?_)
    exact zbz (zax rfl)
   ·
    intro vf pf hmu hR
    have e14 := hR 14 (by decide)
    refine zfr [14] [14] rfl (zcd (sk 55 (congrArg some e14.1) (zam _)) ?_)
    exact zbz (zax rfl)
   ·
    intro vf pf hmu hR
    have e14 := hR 14 (by decide)
    refine zfr [14] [14] rfl (zcd (sk 55 (congrArg some e14.1) (zam _)) ?_)
    exact zbz (zax rfl)
   ·
    intro vf pf hmu hR
    have e0 := hR 0 (by decide)
    have e2 := hR 2 (by decide)
    refine zfr [0, 2, 19] [0, 2] rfl ?_
    have hmu0 : pf 19 = [rowE 3 1 v3 ys.length (ys.map (Value.int .i64))] := hmu 0 (show 0 < 1 by omega)
    exact zco (sk 56 (congrArg some e0.1) (sk 58 (congrArg some e2.1) (zam _))) (by simp only [hmu0, e0.2, e2.2, fS] <;> rfl) (zbz (riQ 1 rfl rfl rfl rfl (zai 0 rfl)))
   intro vf pf hmu hR
   have e15 := hR 15 (by decide)
   have e17 := hR 17 (by decide)
   refine Or.inl ⟨rfl, ?_⟩
   show RunM _ _ _ (pf 19) (([15, 17] : List Nat).flatMap pf ++ _) (envOf3 _ vf [15, 17] ++ _) _ _
   have hmu0 : pf 19 = [rowE 3 1 v3 ys.length (ys.map (Value.int .i64))] := hmu 0 (show 0 < 1 by omega)
   rw [hmu0]
   exact zdn (sk 70 (congrArg some e15.1) (sk 72 (congrArg some e17.1) (zam _))) (by simp only [e15.2, e17.2, fS] <;> rfl) (rm_mono (rm_storeEl (n' := (ys.set (((m.gs.getD x as0).t).toNat) (evK (m.gs.getD x as0).os ys ((m.ss.getD (((m.gs.getD x as0).t).toNat) sg0).w))).length) (xs' := ((ys.set (((m.gs.getD x as0).t).toNat) (evK (m.gs.getD x as0).os ys ((m.ss.getD (((m.gs.getD x as0).t).toNat) sg0).w))).map (Value.int .i64))) 0 rfl rfl rfl rfl rfl rfl rfl (by first | omega | (simp only [List.length_set]; omega)) List.length_set.symm (zgk _ _ _)) (fun v_ p_ h => by show p_ = [rowE 3 1 v3 ((ys.set (((m.gs.getD x as0).t).toNat) (evK (m.gs.getD x as0).os ys ((m.ss.getD (((m.gs.getD x as0).t).toNat) sg0).w))).length) ((ys.set (((m.gs.getD x as0).t).toNat) (evK (m.gs.getD x as0).os ys ((m.ss.getD (((m.gs.getD x as0).t).toNat) sg0).w))).map (Value.int .i64))]; exact h))
  intro vf pf hmu hR
  have e18 : (pf 18) = [rowE 3 1 v3 ((ys.set (((m.gs.getD x as0).t).toNat) (evK (m.gs.getD x as0).os ys ((m.ss.getD (((m.gs.getD x as0).t).toNat) sg0).w))).length) ((ys.set (((m.gs.getD x as0).t).toNat) (evK (m.gs.getD x as0).os ys ((m.ss.getD (((m.gs.getD x as0).t).toNat) sg0).w))).map (Value.int .i64))] := hR 18 (by decide)
  have pE18 := e18
  have q0 := hR 0 (by decide)
  have q1 := hR 1 (by decide)
  have q2 := hR 2 (by decide)
  have q3 := hR 3 (by decide)
  have q4 := hR 4 (by decide)
  have q5 := hR 5 (by decide)
  have q6 := hR 6 (by decide)
  have q7 := hR 7 (by decide)
  have q8 := hR 8 (by decide)
  have q9 := hR 9 (by decide)
  have q10 := hR 10 (by decide)
  have q11 := hR 11 (by decide)
  have q12 := hR 12 (by decide)
  have q13 := hR 13 (by decide)
  have q14 := hR 14 (by decide)
  have q15 := hR 15 (by decide)
  have q16 := hR 16 (by decide)
  have q17 := hR 17 (by decide)
  refine zdj (zav [47, 46, 45, 44, 23, 22, 21, 20, 15, 14, 10, 9, 8, 6, 4, 3, 2, 1, 0] rfl) (by simp only [pE18, q0.2, q1.2, q2.2, q3.2, q4.2, q5.2, q6.2, q7.2, q8.2, q9.2, q10.2, q11.2, q12.2, q13.2, q14.2, q15.2, q16.2, q17.2, fS] <;> rfl) ?_
  simp only [List.drop_succ_cons, List.drop_zero]
  refine zbn (zde (zao (hvQ rfl (vaQ rfl rfl rfl) (enQ 1 rfl ?_))))
  exact zcp (j + 1) (ys.set (((m.gs.getD x as0).t).toNat) (evK (m.gs.getD x as0).os ys ((m.ss.getD (((m.gs.getD x as0).t).toNat) sg0).w))) ⟨by omega, by show _ = asgK m (ordV m (eoK m) _ j) ((eoK m).getD j 0); rw [← hy, hx9]; unfold asgK; rw [Int.toNat_natCast]⟩ (by omega) (saQ rfl) (slQ [0, 1, 0] rfl)
 refine ntQ (fcQ rfl ?_)
 refine zbi (zdv ?_)
 refine zal (zar (zbh 2 rfl ?_))
 exact zap (zew (post := [rowE 3 1 v3 ys.length (ys.map (Value.int .i64))]) rfl rfl (slQ [0] rfl) (by rw [hy, show j = (eoK m).length by omega]; rfl))
theorem zgp {α : Type} {a b : List α} {d : α} {i : Nat} (h : i < a.length) : (a ++ b).getD i d = a.getD i d := by
  rw [List.getD_eq_getElem?_getD, List.getElem?_append_left h, ← List.getD_eq_getElem?_getD]
theorem gD_right {α : Type} {a b : List α} {d : α} {i : Nat} : (a ++ b).getD (a.length + i) d = b.getD i d := by
  rw [List.getD_eq_getElem?_getD, List.getElem?_append_right (by omega), Nat.add_sub_cancel_left, ← List.getD_eq_getElem?_getD]
theorem gD_last {α : Type} {a : List α} {x d : α} : (a ++ [x]).getD a.length d = x := by
  rw [show a.length = a.length + 0 from rfl, gD_right]; rfl
theorem needK_left (P E : List Oq) : ∀ i, i ≤ P.length → needK (P ++ E) i = needK P i
  | 0, _ => rfl
  | i + 1, h => by
    show needK (P ++ E) i + (arI ((P ++ E).getD i oq0).k - 1) = _
    rw [needK_left P E i (by omega), zgp (by omega)]; rfl
theorem needK_right (P E : List Oq) : ∀ i, i ≤ E.length → needK (P ++ E) (P.length + i) = needK P P.length + needK E i - 1
  | 0, _ => by rw [Nat.add_zero, needK_left P E _ (Nat.le_refl _)]; show _ = _ + 1 - 1; omega
  | i + 1, h => by
    show needK (P ++ E) (P.length + i) + (arI ((P ++ E).getD (P.length + i) oq0).k - 1) = _
    rw [needK_right P E i (by omega), gD_right]
    show _ = needK P P.length + (needK E i + (arI (E.getD i oq0).k - 1)) - 1
    omega
def PartP (n : Int) (P : List Oq) (c : Int) : Prop := (∀ i, i < P.length → 1 ≤ needK P i ∧ OqP n (P.getD i oq0)) ∧ needK P P.length = c
theorem PartP.one {n : Int} {o : Oq} (h : OqP n o) : PartP n [o] (arI o.k) := ⟨fun i hi => by
  have : i = 0 := by have : i < 1 := hi; omega
  subst this; exact ⟨by show (1 : Int) ≤ 1; omega, h⟩, by show 1 + (arI o.k - 1) = _; omega⟩
theorem PartP.app {n : Int} {P E : List Oq} {c : Int} (h : PartP n P c) (hc : 1 ≤ c) (hE : PartP n E 0) : PartP n (P ++ E) (c - 1) := ⟨fun i hi => by
  rw [List.length_append] at hi
  by_cases e : i < P.length
  · rw [needK_left _ _ _ (by omega), zgp e]; exact h.1 i e
  · obtain ⟨j, rfl⟩ : ∃ j, i = P.length + j := ⟨i - P.length, by omega⟩
    rw [needK_right _ _ _ (by omega), gD_right, h.2]
    have := hE.1 j (by omega)
    exact ⟨by omega, this.2⟩, by
  rw [List.length_append, needK_right _ _ _ (Nat.le_refl _), h.2, hE.2]; omega⟩
theorem PartP.ops {n : Int} {E : List Oq} (h : PartP n E 0) (hl : E.length ≤ 15) : OpsP n E := ⟨hl, fun i hi => ⟨by have := (h.1 i hi).1; omega, (h.1 i hi).2⟩, h.2⟩
theorem OqP.mono {n n' : Int} (h : n ≤ n') {o : Oq} (ho : OqP n o) : OqP n' o := by
  rcases ho with p | ⟨p1, ⟨p2, p3⟩, p4⟩ | ⟨p1, ⟨p2, p3⟩, p4⟩ | p
  · exact .inl p
  · exact .inr (.inl ⟨p1, ⟨p2, by omega⟩, p4⟩)
  · exact .inr (.inr (.inl ⟨p1, ⟨p2, by omega⟩, p4⟩))
  · exact .inr (.inr (.inr p))
theorem OpsP.mono {n n' : Int} (h : n ≤ n') {os : List Oq} (ho : OpsP n os) : OpsP n' os := ⟨ho.len, fun i hi => ⟨(ho.op i hi).1, (ho.op i hi).2.mono h⟩, ho.fin⟩
theorem stepQ (a q : Int) (k : Nat) : (a - ((k + 1 : Nat) : Int)) * q = (a - (k : Int)) * q - q := by
  rw [show a - ((k + 1 : Nat) : Int) = (a - (k : Int)) - 1 by omega, Int.sub_mul, Int.one_mul]
theorem arKind {x : Int} (h : x ∈ ([4, 5, 6, 7, 8, 9, 10, 11, 12, 7, 12] : List Int)) : 4 ≤ x ∧ x ≤ 12 := by
  simp only [List.mem_cons, List.not_mem_nil, or_false] at h; omega
theorem arI_op {x : Int} (h : 4 ≤ x ∧ x ≤ 12) : 1 ≤ arI x ∧ arI x ≤ 3 := by unfold arI; (repeat' split) <;> omega
def ExP (n M : Int) (os : List Oq) : Prop := PartP n os 0 ∧ 1 ≤ os.length ∧ (os.length : Int) ≤ M
theorem zdm {n M : Int} {o : Oq} (h : OqP n o) (ha : arI o.k = 0) (hM : 1 ≤ M) : ExP n M [o] := ⟨by have := PartP.one h; rwa [ha] at this, by simp, by simpa using hM⟩
theorem flat_onesD {α : Type} (f : α → List Value) (xs : List α) (h : ∀ r u, u ∈ f r → u.oneCell' = true) : ∀ q ∈ xs.flatMap f, q.oneCell' = true := fun q hq => by
  obtain ⟨r, -, h2⟩ := List.mem_flatMap.1 hq
  exact h r q h2
theorem flat_app {α : Type} (f : α → List Value) (xs ys : List α) : xs.flatMap f ++ ys.flatMap f = (xs ++ ys).flatMap f := List.flatMap_append.symm
theorem rv_buildMD {P : Program} {N : Nat} {w0 : World} {l : List HP} {env : List (Nat × Value)} {o : Oper} {t : TypeId} {ps : Array (Nat × Operand)} {vs : List (Nat × Value)} {cs : Array Value} (ho : o.op = .build t ps)
    (hp : ps.toList.mapM (fun p => (ev env p.2).map fun v => (p.1, v)) = some vs) (hb : ∀ w, Mem w0 l w → P.built t vs = some cs) : RunV P N w0 l env o (.agg cs) := fun a w st => zbl ho hp (hb w st.mem) a w st
theorem exStart (n : Int) {M x : Int} (hx : 4 ≤ x ∧ x ≤ 12) : PartP n [Oq.mk x 0 0] (arI x - ((0 : Nat) : Int)) ∧ 1 ≤ ([Oq.mk x 0 0] : List Oq).length ∧ (([Oq.mk x 0 0] : List Oq).length : Int) + (arI x - ((0 : Nat) : Int)) * ((M - 1) / arI x) ≤ M := by
  have ha := arI_op hx
  have h0 : arI x - ((0 : Nat) : Int) = arI x := by omega
  have h1 : OqP n (Oq.mk x 0 0) := .inr (.inr (.inr ⟨by show x ≠ 0; omega, by show x ≠ 2; omega, by show x ≠ 3; omega, by show 0 ≤ arI x; omega, rfl, rfl⟩))
  rw [h0]
  refine ⟨PartP.one h1, by simp, ?_⟩
  have h2 := Int.mul_ediv_self_le (x := M - 1) (k := arI x) (by omega)
  show (1 : Int) + arI x * ((M - 1) / arI x) ≤ M
  omega
theorem exStep {n M x : Int} {k : Nat} {os es : List Oq} (hx : 4 ≤ x ∧ x ≤ 12) (hk : (k : Int) < arI x) (hP : PartP n os (arI x - (k : Int))) (h1 : 1 ≤ os.length) (hl : (os.length : Int) + (arI x - (k : Int)) * ((M - 1) / arI x) ≤ M) (hE : ExP n ((M - 1) / arI x) es) :
    PartP n (os ++ es) (arI x - ((k + 1 : Nat) : Int)) ∧ 1 ≤ (os ++ es).length ∧ ((os ++ es).length : Int) + (arI x - ((k + 1 : Nat) : Int)) * ((M - 1) / arI x) ≤ M := by
  obtain ⟨e1, e2, e3⟩ := hE
  refine ⟨?_, by rw [List.length_append]; omega, ?_⟩
  · have := hP.app (by omega) e1
    rwa [show arI x - (k : Int) - 1 = arI x - ((k + 1 : Nat) : Int) by omega] at this
  · rw [stepQ, List.length_append]; omega
theorem exEnd {n M x : Int} {k : Nat} {os : List Oq} (hk : (k : Int) = arI x) (hP : PartP n os (arI x - (k : Int))) (h1 : 1 ≤ os.length) (hl : (os.length : Int) + (arI x - (k : Int)) * ((M - 1) / arI x) ≤ M) : ExP n M os := by
  rw [show arI x - (k : Int) = 0 by omega] at hP hl
  rw [Int.zero_mul] at hl
  exact ⟨hP, h1, by omega⟩
theorem exLen {M x : Int} {k : Nat} {os : List Oq} (hx : 4 ≤ x ∧ x ≤ 12) (hM : 1 ≤ M) (hk : (k : Int) ≤ arI x) (hl : (os.length : Int) + (arI x - (k : Int)) * ((M - 1) / arI x) ≤ M) : (os.length : Int) ≤ M := by
  have ha := arI_op hx
  have h1 : 0 ≤ (M - 1) / arI x := Int.ediv_nonneg (by omega) (by omega)
  have h2 := Int.mul_nonneg (show 0 ≤ arI x - (k : Int) by omega) h1
  omega
theorem exQuo {M x : Int} (hx : 4 ≤ x ∧ x ≤ 12) (hM : 4 ≤ M) : 1 ≤ (M - 1) / arI x ∧ (M - 1) / arI x < M := by
  have ha := arI_op hx
  have h1 : (M - 1) / 3 ≤ (M - 1) / arI x := by
    rcases (by omega : arI x = 1 ∨ arI x = 2 ∨ arI x = 3) with e | e | e <;> rw [e] <;> omega
  have h2 : (M - 1) / arI x ≤ M - 1 := by
    rcases (by omega : arI x = 1 ∨ arI x = 2 ∨ arI x = 3) with e | e | e <;> rw [e] <;> omega
  omega
structure BldP (D : List Md) (m : Md) (P : List Int) : Prop where
  sg : ∀ s ∈ m.ss, SgP s
  gs : ∀ g ∈ m.gs, AsP m g
  xs : ∀ x ∈ m.xs, ((0 ≤ x.m ∧ x.m < D.length) ∧ x.ps.length = (ptsK (D.getD x.m.toNat md0)).length) ∧ IxP D m x
  ms : ∀ x ∈ m.ms, MmP m x
  dr : ∀ s, s < m.ss.length → (drvL D m).count (s : Int) = if (m.ss.getD s sg0).k = 0 then 0 else if (s : Int) ∈ P then 0 else 1
  pn : ∀ x ∈ P, 1 ≤ knd m x ∧ knd m x ≤ 3
theorem Inn_of {m : Md} {x : Int} (h : 1 ≤ knd m x ∧ knd m x ≤ 3) : Inn m x := Classical.byContradiction fun h9 => by rw [zeh h9] at h; omega
structure Ext (m m' : Md) : Prop where
  len : m.ss.length ≤ m'.ss.length
  kk : ∀ i, i < m.ss.length → (m'.ss.getD i sg0).k = (m.ss.getD i sg0).k
theorem Ext.knd {m m' : Md} (h : Ext m m') {x : Int} (hx : Inn m x) : knd m' x = knd m x := by
  obtain ⟨h0, h1⟩ := hx; have := h.len
  rw [zcx ⟨h0, by omega⟩, zcx ⟨h0, h1⟩, h.kk _ (by omega)]
theorem Ext.inn {m m' : Md} (h : Ext m m') {x : Int} (hx : Inn m x) : Inn m' x := ⟨hx.1, by have := hx.2; have := h.len; omega⟩
theorem Ext.drv {m m' : Md} (h : Ext m m') {x : Int} (hx : Drv m x) : Drv m' x := by unfold Drv; rw [h.knd hx.inn]; exact hx
theorem Ext.as {m m' : Md} (h : Ext m m') {g : As} (hg : AsP m g) : AsP m' g := ⟨by rw [h.knd (Inn_of hg.1)]; exact hg.1, hg.2.mono (by have := h.len; omega)⟩
theorem Ext.ix {D : List Md} {m m' : Md} (h : Ext m m') {x : Ix} (hx : IxP D m x) : IxP D m' x := ⟨hx.1, fun j hj => ⟨h.inn (hx.2 j hj).1, fun hk => h.drv ((hx.2 j hj).2 hk)⟩⟩
theorem Ext.mm {m m' : Md} (h : Ext m m') {x : Mm} (hx : MmP m x) : MmP m' x := ⟨⟨h.inn hx.1.1, h.inn hx.1.2.1, h.inn hx.1.2.2⟩, h.drv hx.2⟩
theorem ext_app {m : Md} (v : Value) (l : List Sg) : Ext m { m with sv := v, ss := m.ss ++ l } := ⟨by show m.ss.length ≤ (m.ss ++ l).length; rw [List.length_append]; omega, fun i hi => by show ((m.ss ++ l).getD i sg0).k = _; rw [zgp hi]⟩
theorem BldP.inn {D : List Md} {m : Md} {P : List Int} (h : BldP D m P) {x : Int} (hx : x ∈ drvL D m) : Inn m x := by
  unfold drvL at hx
  rcases List.mem_append.1 hx with hx | hx
  · rcases List.mem_append.1 hx with hx | hx
    · obtain ⟨g, hg, rfl⟩ := List.mem_map.1 hx; exact Inn_of (h.gs g hg).1
    · obtain ⟨g, hg, rfl⟩ := List.mem_map.1 hx; exact (h.ms g hg).2.inn
  · obtain ⟨g, hg, hx⟩ := List.mem_flatMap.1 hx
    have : ∀ j, j ≤ (ptsK (D.getD g.m.toNat md0)).length → x ∈ xoA D g j → Inn m x := by
      intro j
      induction j with
      | zero => intro _ h9; cases h9
      | succ j ih =>
        intro hj h9
        rcases List.mem_append.1 h9 with h9 | h9
        · exact ih (by omega) h9
        · split at h9
          · rw [List.mem_singleton] at h9; subst h9; exact ((h.xs g hg).2.2 j (by omega)).1
          · cases h9
    exact this _ (Nat.le_refl _) hx
theorem BldP.app {D : List Md} {m : Md} {P : List Int} (h : BldP D m P) (v : Value) {l : List Sg} (hl : ∀ s ∈ l, SgP s) {P' : List Int} (hP : ∀ x, x ∈ P' ↔ x ∈ P ∨ ∃ j, j < l.length ∧ (l.getD j sg0).k ≠ 0 ∧ x = ((m.ss.length + j : Nat) : Int)) : BldP D { m with sv := v, ss := m.ss ++ l } P' := by
  have e := ext_app (m := m) v l
  refine ⟨fun s hs => ?_, fun g hg => e.as (h.gs g hg), fun x hx => ⟨(h.xs x hx).1, e.ix (h.xs x hx).2⟩, fun x hx => e.mm (h.ms x hx), fun s hs => ?_, fun x hx => ?_⟩
  · rcases List.mem_append.1 hs with hs | hs
    · exact h.sg s hs
    · exact hl s hs
  · show (drvL D m).count (s : Int) = if ((m.ss ++ l).getD s sg0).k = 0 then 0 else if (s : Int) ∈ P' then 0 else 1
    have hs' : s < (m.ss ++ l).length := hs
    rw [List.length_append] at hs'
    by_cases e9 : s < m.ss.length
    · rw [zgp e9, h.dr s e9]
      split
      · rfl
      · by_cases hp : (s : Int) ∈ P
        · rw [if_pos hp, if_pos ((hP _).2 (.inl hp))]
        · rw [if_neg hp, if_neg (fun h8 => (hP _).1 h8 |>.elim hp (fun ⟨j, _, _, h7⟩ => by omega))]
    · obtain ⟨j, rfl⟩ : ∃ j, s = m.ss.length + j := ⟨s - m.ss.length, by omega⟩
      rw [gD_right, List.count_eq_zero.2 (fun h9 => by have := (h.inn h9).2; omega)]
      split
      · rfl
      · rename_i hk; rw [if_pos ((hP _).2 (.inr ⟨j, by omega, hk, rfl⟩))]
  · rcases (hP x).1 hx with hx | ⟨j, hj, hk, rfl⟩
    · rw [e.knd (Inn_of (h.pn x hx))]; exact h.pn x hx
    · rw [zcx ⟨by omega, by show _ < (((m.ss ++ l).length : Nat) : Int); rw [List.length_append]; omega⟩]
      show 1 ≤ ((m.ss ++ l).getD (((m.ss.length + j : Nat) : Int)).toNat sg0).k ∧ _ ≤ _
      rw [Int.toNat_natCast, gD_right]
      have := (hl _ (zch (d := sg0) hj)).1; omega
theorem BldP.assign {D : List Md} {m : Md} {P : List Int} (h : BldP D m P) (v : Value) {s : Int} (hs : s ∈ P) (ov : Value) {os : List Oq} (ho : OpsP m.ss.length os) {P' : List Int} (hP : ∀ x, x ∈ P' ↔ x ∈ P ∧ x ≠ s) : BldP D { m with av := v, gs := m.gs ++ [As.mk s ov os] } P' := by
  refine ⟨h.sg, fun g hg => ?_, h.xs, h.ms, fun q hq => ?_, fun x hx => h.pn x ((hP x).1 hx).1⟩
  · rcases List.mem_append.1 hg with hg | hg
    · exact h.gs g hg
    · rw [List.mem_singleton] at hg; subst hg; exact ⟨h.pn s hs, ho⟩
  · have h1 := h.dr q hq
    have e : (drvL D { m with av := v, gs := m.gs ++ [As.mk s ov os] }).count (q : Int) = (drvL D m).count (q : Int) + if s = (q : Int) then 1 else 0 := by
      unfold drvL
      show List.count _ ((m.gs ++ [As.mk s ov os]).map As.t ++ m.ms.map Mm.o ++ m.xs.flatMap (xoK D)) = _
      rw [List.map_append]
      simp only [List.count_append]
      have : ([As.mk s ov os].map As.t).count (q : Int) = if s = (q : Int) then 1 else 0 := by
        show [s].count (q : Int) = _
        rw [List.count_singleton]; by_cases e : s = (q : Int) <;> simp [e]
      omega
    rw [e, h1]
    show _ = if (m.ss.getD q sg0).k = 0 then 0 else _
    have hk := h.pn s hs
    by_cases e2 : s = (q : Int)
    · subst e2
      have hq' : q < m.ss.length := hq
      rw [zcx ⟨by omega, by omega⟩, Int.toNat_natCast] at hk
      rw [if_neg (by omega), if_pos hs, if_pos rfl, if_neg (by omega), if_neg (fun h9 => ((hP _).1 h9).2 rfl)]
    · rw [if_neg e2, Nat.add_zero]
      split
      · rfl
      · by_cases hp : (q : Int) ∈ P
        · rw [if_pos hp, if_pos ((hP _).2 ⟨hp, fun h9 => e2 h9.symm⟩)]
        · rw [if_neg hp, if_neg (fun h9 => hp ((hP _).1 h9).1)]
theorem BldP.mem {D : List Md} {m : Md} {P : List Int} (h : BldP D m P) (v : Value) {x : Mm} (hx : MmP m x) (ho : x.o ∈ P) {P' : List Int} (hP : ∀ y, y ∈ P' ↔ y ∈ P ∧ y ≠ x.o) : BldP D { m with mv := v, ms := m.ms ++ [x] } P' := by
  refine ⟨h.sg, h.gs, h.xs, fun g hg => ?_, fun q hq => ?_, fun y hy => h.pn y ((hP y).1 hy).1⟩
  · rcases List.mem_append.1 hg with hg | hg
    · exact h.ms g hg
    · rw [List.mem_singleton] at hg; subst hg; exact hx
  · have h1 := h.dr q hq
    have e : (drvL D { m with mv := v, ms := m.ms ++ [x] }).count (q : Int) = (drvL D m).count (q : Int) + if x.o = (q : Int) then 1 else 0 := by
      unfold drvL
      show List.count _ (m.gs.map As.t ++ (m.ms ++ [x]).map Mm.o ++ m.xs.flatMap (xoK D)) = _
      rw [List.map_append]
      simp only [List.count_append]
      have : ([x].map Mm.o).count (q : Int) = if x.o = (q : Int) then 1 else 0 := by
        show [x.o].count (q : Int) = _
        rw [List.count_singleton]; by_cases e : x.o = (q : Int) <;> simp [e]
      omega
    rw [e, h1]
    show _ = if (m.ss.getD q sg0).k = 0 then 0 else _
    have hk := h.pn _ ho
    by_cases e2 : x.o = (q : Int)
    · have hq' : q < m.ss.length := hq
      rw [e2] at hk ho
      rw [zcx ⟨by omega, by omega⟩, Int.toNat_natCast] at hk
      rw [if_neg (by omega), if_pos ho, if_pos e2, if_neg (by omega), if_neg (fun h9 => ((hP _).1 h9).2 e2.symm)]
    · rw [if_neg e2, Nat.add_zero]
      split
      · rfl
      · by_cases hp : (q : Int) ∈ P
        · rw [if_pos hp, if_pos ((hP _).2 ⟨hp, fun h9 => e2 h9.symm⟩)]
        · rw [if_neg hp, if_neg (fun h9 => hp ((hP _).1 h9).1)]
theorem BldP.inst {D : List Md} {m : Md} {P : List Int} (h : BldP D m P) (v : Value) {x : Ix} (hx : ((0 ≤ x.m ∧ x.m < D.length) ∧ x.ps.length = (ptsK (D.getD x.m.toNat md0)).length) ∧ IxP D m x) (hn : (xoK D x).Nodup) (ho : ∀ y ∈ xoK D x, y ∈ P) {P' : List Int} (hP : ∀ y, y ∈ P' ↔ y ∈ P ∧ y ∉ xoK D x) : BldP D { m with iv := v, xs := m.xs ++ [x] } P' := by
  refine ⟨h.sg, h.gs, fun g hg => ?_, h.ms, fun q hq => ?_, fun y hy => h.pn y ((hP y).1 hy).1⟩
  · rcases List.mem_append.1 hg with hg | hg
    · exact h.xs g hg
    · rw [List.mem_singleton] at hg; subst hg; exact hx
  · have h1 := h.dr q hq
    have e : (drvL D { m with iv := v, xs := m.xs ++ [x] }).count (q : Int) = (drvL D m).count (q : Int) + (xoK D x).count (q : Int) := by
      unfold drvL
      show List.count _ (m.gs.map As.t ++ m.ms.map Mm.o ++ (m.xs ++ [x]).flatMap (xoK D)) = _
      rw [List.flatMap_append]
      simp only [List.count_append, List.flatMap_cons, List.flatMap_nil, List.append_nil]
      omega
    rw [e, h1]
    show _ = if (m.ss.getD q sg0).k = 0 then 0 else _
    by_cases e2 : (q : Int) ∈ xoK D x
    · have hq' : q < m.ss.length := hq
      have hk := h.pn _ (ho _ e2)
      rw [zcx ⟨by omega, by omega⟩, Int.toNat_natCast] at hk
      have h3 := List.nodup_iff_count.1 hn (q : Int)
      have h4 := List.count_pos_iff.2 e2
      rw [if_neg (by omega), if_pos (ho _ e2), if_neg (by omega), if_neg (fun h9 => ((hP _).1 h9).2 e2)]; omega
    · rw [List.count_eq_zero.2 e2, Nat.add_zero]
      split
      · rfl
      · by_cases hp : (q : Int) ∈ P
        · rw [if_pos hp, if_pos ((hP _).2 ⟨hp, e2⟩)]
        · rw [if_neg hp, if_neg (fun h9 => hp ((hP _).1 h9).1)]
theorem BldP.start (D : List Md) : BldP D md0 [] := ⟨fun s hs => (by cases hs), fun s hs => (by cases hs), fun s hs => (by cases hs), fun s hs => (by cases hs), fun s hs => absurd hs (by show ¬ s < 0; omega), fun s hs => (by cases hs)⟩
def nPt (ss : List Sg) : Nat := (ss.filter isPt).length
theorem nPt_app (a b : List Sg) : nPt (a ++ b) = nPt a + nPt b := by unfold nPt; rw [List.filter_append, List.length_append]
theorem ptsA_len (ss : List Sg) : ∀ i, i ≤ ss.length → (ptsA ss i).length = nPt (ss.take i)
  | 0, _ => rfl
  | i + 1, hi => by
    have h1 := ptsA_len ss i (by omega)
    rw [zez sg0 (show i < ss.length by omega), nPt_app]
    unfold ptsA; rw [List.length_append, h1]; unfold nPt
    by_cases e : isPt (ss.getD i sg0) = true
    · rw [if_pos e, List.filter_cons_of_pos e]; rfl
    · rw [if_neg e, List.filter_cons_of_neg e]; rfl
theorem ptsK_len {m : Md} (h : m.ss.length ≤ 30) : (ptsK m).length = nPt m.ss := by
  unfold ptsK; rw [if_pos h, ptsA_len _ _ (Nat.le_refl _), List.take_length]
theorem nPt_le (ss : List Sg) : nPt ss ≤ ss.length := List.length_filter_le _ _
theorem nPt_not {s : Sg} (h : s.k ≠ 0 ∧ s.k ≠ 1) : nPt [s] = 0 := by
  unfold nPt; rw [List.filter_cons_of_neg (fun h9 => (zfk.1 h9).elim h.1 h.2)]; rfl
theorem nPt_one (s : Sg) : nPt [s] ≤ 1 := nPt_le [s]
structure DmP (D : List Md) (m : Md) : Prop where
  b : BldP D m []
  len : LenP m
  pt : nPt m.ss ≤ 4
structure DdP (D : List Md) : Prop where
  md : ∀ k, k < D.length → DmP (D.take k) (D.getD k md0)
  len : D.length ≤ 3
theorem DdP.nil : DdP [] := ⟨fun k hk => absurd hk (by simp), by simp⟩
theorem DdP.app {D : List Md} (h : DdP D) (hl : D.length < 3) {m : Md} (hm : DmP D m) : DdP (D ++ [m]) := ⟨fun k hk => by
  rw [List.length_append, List.length_singleton] at hk
  by_cases e : k < D.length
  · rw [List.take_append_of_le_length (by omega), zgp e]; exact h.md k e
  · obtain rfl : k = D.length := by omega
    rw [List.take_append_of_le_length (Nat.le_refl _), List.take_length, gD_last]; exact hm, by rw [List.length_append, List.length_singleton]; omega⟩
def agK (k : Nat) (v : Value) : Value := match v with | .agg xs => xs.getD k undef | _ => undef
def RdP (w : World) (m : Md) : Prop := RdsW w m.av 2 m.gs.length (m.gs.flatMap asC) ∧ OpsR w m.gs ∧ PtsR w m.xs
theorem nilW (w : World) (s : Nat) : RdsW w (.slice none 0 0) s 0 [] := ⟨_, _, rfl, by simp, ⟨by decide, by decide⟩, fun h => absurd h (by decide)⟩
theorem RdP.nil (w : World) : RdP w md0 := ⟨nilW w 2, OpsR.nil w, PtsR.nil w⟩
theorem sgP_mk {k w i : Int} (hk : 0 ≤ k ∧ k ≤ 3) (hw : 0 ≤ w ∧ w ≤ 4) (hi : 0 ≤ i ∧ i ≤ 15) (h : i ≠ 0 → k = 3) : SgP (Sg.mk k w i) := ⟨hk, hw, hi, h⟩
theorem nPt_mk {k w i : Int} (h : k ≠ 0 ∧ k ≠ 1) : nPt [Sg.mk k w i] = 0 := nPt_not h
structure MI (D : List Md) (m : Md) (A P : List Int) (ns ng nx nm np na : Nat) : Prop where
  b : BldP D m P
  av : ∀ x ∈ A, 0 ≤ x ∧ x < m.ss.length
  ns : m.ss.length ≤ ns
  ng : m.gs.length ≤ ng
  nx : m.xs.length ≤ nx
  nm : m.ms.length ≤ nm
  np : nPt m.ss ≤ np
  na : A.length ≤ na
section
variable {D : List Md} {m : Md} {A P : List Int} {ns ng nx nm np na : Nat}
theorem MI.start (D : List Md) : MI D md0 [] [] 0 0 0 0 0 0 := ⟨BldP.start D, fun x hx => (by cases hx), Nat.le_refl _, Nat.le_refl _, Nat.le_refl _, Nat.le_refl _, Nat.le_refl _, Nat.le_refl _⟩
theorem MI.up (h : MI D m A P ns ng nx nm np na) {a b c d e f : Nat} (h1 : ns ≤ a) (h2 : ng ≤ b) (h3 : nx ≤ c) (h4 : nm ≤ d) (h5 : np ≤ e) (h6 : na ≤ f) : MI D m A P a b c d e f := ⟨h.b, h.av, by have := h.ns; omega, by have := h.ng; omega, by have := h.nx; omega, by have := h.nm; omega, by have := h.np; omega, by have := h.na; omega⟩
theorem BldP.sig {P' : List Int} (h : BldP D m P) (v : Value) {s : Sg} (hs : SgP s) (hP : ∀ x, x ∈ P' ↔ x ∈ P ∨ (s.k ≠ 0 ∧ x = (m.ss.length : Int))) : BldP D (Md.mk v m.av m.iv m.mv (m.ss ++ [s]) m.gs m.xs m.ms) P' :=
  h.app v (l := [s]) (fun x hx => by rw [List.mem_singleton] at hx; subst hx; exact hs) (fun x => (hP x).trans ⟨fun hx => hx.imp id (fun ⟨h1, h2⟩ => ⟨0, by simp, h1, by rw [h2]; omega⟩), fun hx => hx.imp id (fun ⟨j, hj, hk, e⟩ => by
    have : j = 0 := by have : j < 1 := hj; omega
    subst this; exact ⟨hk, by rw [e]; omega⟩)⟩)
theorem av_app (hA : ∀ x ∈ A, 0 ≤ x ∧ x < m.ss.length) (l : List Sg) : ∀ x ∈ A, 0 ≤ x ∧ x < ((m.ss ++ l).length : Int) := fun x hx => by
  have := hA x hx; rw [List.length_append]; omega
theorem MI.sig {P' : List Int} (h : MI D m A P ns ng nx nm np na) (v : Value) {s : Sg} (hs : SgP s) {e : Nat} (hn : nPt [s] ≤ e) (hP : ∀ x, x ∈ P' ↔ x ∈ P ∨ (s.k ≠ 0 ∧ x = (m.ss.length : Int))) : MI D (Md.mk v m.av m.iv m.mv (m.ss ++ [s]) m.gs m.xs m.ms) A P' (ns + 1) ng nx nm (np + e) na :=
  ⟨h.b.sig v hs hP, av_app h.av _, by have := h.ns; show (m.ss ++ [s]).length ≤ _; rw [List.length_append, List.length_singleton]; omega, h.ng, h.nx, h.nm, by have := h.np; show nPt (m.ss ++ [s]) ≤ _; rw [nPt_app]; omega, h.na⟩
theorem MI.avl (h : MI D m A P ns ng nx nm np na) {L : List Int} (hL : ∀ x ∈ L, 0 ≤ x ∧ x < m.ss.length) {e : Nat} (he : L.length ≤ e) : MI D m (A ++ L) P ns ng nx nm np (na + e) :=
  ⟨h.b, fun x hx => (List.mem_append.1 hx).elim (h.av x) (hL x), h.ns, h.ng, h.nx, h.nm, h.np, by have := h.na; rw [List.length_append]; omega⟩
theorem last_in (v : Value) (s : Sg) : ∀ x ∈ [(m.ss.length : Int)], 0 ≤ x ∧ x < ((m.ss ++ [s]).length : Int) := fun x hx => by
  rw [List.mem_singleton] at hx; subst hx; rw [List.length_append, List.length_singleton]; omega
theorem MI.inp (h : MI D m A P ns ng nx nm np na) (v : Value) {w : Int} (hw : 0 ≤ w ∧ w ≤ 4) : MI D (Md.mk v m.av m.iv m.mv (m.ss ++ [Sg.mk 0 w 0]) m.gs m.xs m.ms) (A ++ [(m.ss.length : Int)]) P (ns + 1) ng nx nm (np + 1) (na + 1) :=
  (h.sig v (s := Sg.mk 0 w 0) (sgP_mk ⟨by decide, by decide⟩ hw ⟨by decide, by decide⟩ (fun h9 => absurd rfl h9)) (nPt_one _) (fun x => ⟨.inl, fun hx => hx.elim id (fun h9 => absurd rfl h9.1)⟩)).avl (last_in v _) (by simp)
theorem MI.reg (h : MI D m A P ns ng nx nm np na) (v : Value) {w i : Int} (hw : 0 ≤ w ∧ w ≤ 4) (hi : 0 ≤ i ∧ i ≤ 15) : MI D (Md.mk v m.av m.iv m.mv (m.ss ++ [Sg.mk 3 w i]) m.gs m.xs m.ms) (A ++ [(m.ss.length : Int)]) (P ++ [(m.ss.length : Int)]) (ns + 1) ng nx nm np (na + 1) :=
  (h.sig v (s := Sg.mk 3 w i) (P' := P ++ [(m.ss.length : Int)]) (sgP_mk ⟨by decide, by decide⟩ hw hi (fun _ => rfl)) (e := 0) (Nat.le_of_eq (nPt_mk ⟨by decide, by decide⟩)) (fun x => by rw [List.mem_append, List.mem_singleton]; exact ⟨fun hx => hx.imp id (fun h9 => ⟨(show (3 : Int) ≠ 0 by decide), h9⟩), fun hx => hx.imp id (·.2)⟩)).avl (last_in v _) (by simp)
theorem MI.wire {P' : List Int} (h : MI D m A P ns ng nx nm np na) (v : Value) {w : Int} (hw : 0 ≤ w ∧ w ≤ 4) (hP : ∀ x, x ∈ P' ↔ x ∈ P ∨ x = (m.ss.length : Int)) : MI D (Md.mk v m.av m.iv m.mv (m.ss ++ [Sg.mk 2 w 0]) m.gs m.xs m.ms) A P' (ns + 1) ng nx nm np na :=
  h.sig v (s := Sg.mk 2 w 0) (sgP_mk ⟨by decide, by decide⟩ hw ⟨by decide, by decide⟩ (fun h9 => absurd rfl h9)) (e := 0) (Nat.le_of_eq (nPt_mk ⟨by decide, by decide⟩)) (fun x => (hP x).trans ⟨fun hx => hx.imp id (fun h9 => ⟨(show (2 : Int) ≠ 0 by decide), h9⟩), fun hx => hx.imp id (·.2)⟩)
theorem MI.out {P' : List Int} (h : MI D m A P ns ng nx nm np na) (v : Value) {k w : Int} (hk : k = 1 ∨ k = 2) (hw : 0 ≤ w ∧ w ≤ 4) (hP : ∀ x, x ∈ P' ↔ x ∈ P ∨ x = (m.ss.length : Int)) : MI D (Md.mk v m.av m.iv m.mv (m.ss ++ [Sg.mk k w 0]) m.gs m.xs m.ms) A P' (ns + 1) ng nx nm (np + 1) na :=
  h.sig v (s := Sg.mk k w 0) ⟨⟨by show 0 ≤ k; omega, by show k ≤ 3; omega⟩, hw, ⟨by show (0 : Int) ≤ 0; omega, by show (0 : Int) ≤ 15; omega⟩, fun h9 => absurd rfl h9⟩ (nPt_one _) (fun x => (hP x).trans ⟨fun hx => hx.imp id (fun h9 => ⟨by show k ≠ 0; omega, h9⟩), fun hx => hx.imp id (·.2)⟩)
theorem MI.asg {P' : List Int} (h : MI D m A P ns ng nx nm np na) (v : Value) {s : Int} (hs : s ∈ P) (ov : Value) {n : Int} {os : List Oq} (ho : ExP n 9 os) (hn : n ≤ m.ss.length) (hP : ∀ x, x ∈ P' ↔ x ∈ P ∧ x ≠ s) : MI D (Md.mk m.sv v m.iv m.mv m.ss (m.gs ++ [As.mk s ov os]) m.xs m.ms) A P' ns (ng + 1) nx nm np na :=
  ⟨h.b.assign v hs ov ((ho.1.ops (by have := ho.2.2; omega)).mono hn) hP, h.av, h.ns, by have := h.ng; show (m.gs ++ [As.mk s ov os]).length ≤ _; rw [List.length_append, List.length_singleton]; omega, h.nx, h.nm, h.np, h.na⟩
theorem MI.ist {P' : List Int} (h : MI D m A P ns ng nx nm np na) (v : Value) {x : Ix} (hx : ((0 ≤ x.m ∧ x.m < D.length) ∧ x.ps.length = (ptsK (D.getD x.m.toNat md0)).length) ∧ IxP D m x) (hn : (xoK D x).Nodup) (ho : ∀ y ∈ xoK D x, y ∈ P) (hP : ∀ y, y ∈ P' ↔ y ∈ P ∧ y ∉ xoK D x) : MI D (Md.mk m.sv m.av v m.mv m.ss m.gs (m.xs ++ [x]) m.ms) A P' ns ng (nx + 1) nm np na :=
  ⟨h.b.inst v hx hn ho hP, h.av, h.ns, h.ng, by have := h.nx; show (m.xs ++ [x]).length ≤ _; rw [List.length_append, List.length_singleton]; omega, h.nm, h.np, h.na⟩
theorem MI.fin (h : MI D m A [] ns ng nx nm np na) (h1 : ns ≤ 30) (h2 : ng ≤ 30) (h3 : nx ≤ 3) (h4 : nm ≤ 2) (h5 : np ≤ 4) : DmP D m := ⟨h.b, ⟨by have := h.ns; omega, by have := h.ng; omega, by have := h.nx; omega, by have := h.nm; omega⟩, by have := h.np; omega⟩
theorem MI.mm4 {R : List Int} (h : MI D m A R ns ng nx nm np na) (v v' : Value) {w : Int} (hw : 0 ≤ w ∧ w ≤ 4) :
    MI D (Md.mk v m.av m.iv v' (m.ss ++ [Sg.mk 2 2 0, Sg.mk 2 w 0, Sg.mk 2 1 0, Sg.mk 2 w 0]) m.gs m.xs (m.ms ++ [Mm.mk m.ss.length (m.ss.length + 1) (m.ss.length + 2) (m.ss.length + 3)])) (A ++ [(m.ss.length : Int) + 3]) (R ++ [(m.ss.length : Int), (m.ss.length : Int) + 1, (m.ss.length : Int) + 2]) (ns + 4) ng nx (nm + 1) np (na + 1) := by
  have hl4 : (m.ss ++ [Sg.mk 2 2 0, Sg.mk 2 w 0, Sg.mk 2 1 0, Sg.mk 2 w 0]).length = m.ss.length + 4 := by rw [List.length_append]; rfl
  have h1 : BldP D { m with sv := v, ss := m.ss ++ [Sg.mk 2 2 0, Sg.mk 2 w 0, Sg.mk 2 1 0, Sg.mk 2 w 0] } (R ++ [(m.ss.length : Int), (m.ss.length : Int) + 1, (m.ss.length : Int) + 2, (m.ss.length : Int) + 3]) := by
    refine h.b.app v (fun s hs => ?_) (fun x => ?_)
    · simp only [List.mem_cons, List.not_mem_nil, or_false] at hs
      rcases hs with rfl | rfl | rfl | rfl <;> exact sgP_mk ⟨by decide, by decide⟩ (by first | exact hw | decide) ⟨by decide, by decide⟩ (fun h9 => absurd rfl h9)
    · rw [List.mem_append]
      simp only [List.mem_cons, List.not_mem_nil, or_false]
      constructor
      · rintro (h9 | rfl | rfl | rfl | rfl)
        · exact .inl h9
        · exact .inr ⟨0, by simp, (show (2 : Int) ≠ 0 by decide), by omega⟩
        · exact .inr ⟨1, by simp, (show (2 : Int) ≠ 0 by decide), by omega⟩
        · exact .inr ⟨2, by simp, (show (2 : Int) ≠ 0 by decide), by omega⟩
        · exact .inr ⟨3, by simp, (show (2 : Int) ≠ 0 by decide), by omega⟩
      · rintro (h9 | ⟨j, hj, -, rfl⟩)
        · exact .inl h9
        · have hj4 : j < 4 := hj
          right
          rcases (by omega : j = 0 ∨ j = 1 ∨ j = 2 ∨ j = 3) with rfl | rfl | rfl | rfl <;> omega
  have hR : ∀ x ∈ R, x < (m.ss.length : Int) := fun x hx => (Inn_of (h.b.pn x hx)).2
  have hk : ∀ j : Nat, j < 4 → knd { m with sv := v, ss := m.ss ++ [Sg.mk 2 2 0, Sg.mk 2 w 0, Sg.mk 2 1 0, Sg.mk 2 w 0] } ((m.ss.length : Int) + (j : Int)) = 2 := fun j hj => by
    have hi : (0 : Int) ≤ (m.ss.length : Int) + (j : Int) ∧ (m.ss.length : Int) + (j : Int) < ((m.ss ++ [Sg.mk 2 2 0, Sg.mk 2 w 0, Sg.mk 2 1 0, Sg.mk 2 w 0]).length : Int) := by rw [hl4]; omega
    rw [zcx hi]
    show ((m.ss ++ [Sg.mk 2 2 0, Sg.mk 2 w 0, Sg.mk 2 1 0, Sg.mk 2 w 0]).getD (((m.ss.length : Int) + (j : Int)).toNat) sg0).k = 2
    rw [show (((m.ss.length : Int) + (j : Int)).toNat) = m.ss.length + j by omega, gD_right]
    rcases (by omega : j = 0 ∨ j = 1 ∨ j = 2 ∨ j = 3) with rfl | rfl | rfl | rfl <;> rfl
  have h2 : BldP D { ({ m with sv := v, ss := m.ss ++ [Sg.mk 2 2 0, Sg.mk 2 w 0, Sg.mk 2 1 0, Sg.mk 2 w 0] } : Md) with mv := v', ms := m.ms ++ [Mm.mk m.ss.length (m.ss.length + 1) (m.ss.length + 2) (m.ss.length + 3)] } (R ++ [(m.ss.length : Int), (m.ss.length : Int) + 1, (m.ss.length : Int) + 2]) := by
    refine h1.mem v' (x := Mm.mk m.ss.length (m.ss.length + 1) (m.ss.length + 2) (m.ss.length + 3)) ⟨⟨⟨by show (0 : Int) ≤ m.ss.length; omega, by show _ < ((_ : Nat) : Int); rw [hl4]; show (m.ss.length : Int) < _; omega⟩, ⟨by show (0 : Int) ≤ m.ss.length + 1; omega, by show _ < ((_ : Nat) : Int); rw [hl4]; show (m.ss.length : Int) + 1 < _; omega⟩, ⟨by show (0 : Int) ≤ m.ss.length + 2; omega, by show _ < ((_ : Nat) : Int); rw [hl4]; show (m.ss.length : Int) + 2 < _; omega⟩⟩, .inr (hk 3 (by decide))⟩ (by show (m.ss.length : Int) + 3 ∈ _; simp) (fun y => ?_)
    show _ ↔ _ ∧ y ≠ (m.ss.length : Int) + 3
    simp only [List.mem_append, List.mem_cons, List.not_mem_nil, or_false]
    constructor
    · rintro (h9 | h9 | h9 | h9)
      · exact ⟨.inl h9, by have := hR y h9; omega⟩
      · exact ⟨.inr (.inl h9), by omega⟩
      · exact ⟨.inr (.inr (.inl h9)), by omega⟩
      · exact ⟨.inr (.inr (.inr (.inl h9))), by omega⟩
    · rintro ⟨h9 | h9 | h9 | h9 | h9, h8⟩
      · exact .inl h9
      · exact .inr (.inl h9)
      · exact .inr (.inr (.inl h9))
      · exact .inr (.inr (.inr h9))
      · exact absurd h9 h8
  refine ⟨h2, fun x hx => ?_, by show (m.ss ++ _).length ≤ _; rw [hl4]; have := h.ns; omega, h.ng, h.nx, by have := h.nm; show (m.ms ++ [_]).length ≤ _; rw [List.length_append, List.length_singleton]; omega, ?_, by have := h.na; rw [List.length_append, List.length_singleton]; omega⟩
  · show 0 ≤ x ∧ x < ((m.ss ++ [Sg.mk 2 2 0, Sg.mk 2 w 0, Sg.mk 2 1 0, Sg.mk 2 w 0]).length : Int)
    rw [hl4]
    rcases List.mem_append.1 hx with hx | hx
    · have := h.av x hx; omega
    · rw [List.mem_singleton] at hx; omega
  · show nPt (m.ss ++ [Sg.mk 2 2 0, Sg.mk 2 w 0, Sg.mk 2 1 0, Sg.mk 2 w 0]) ≤ _
    rw [nPt_app, show ([Sg.mk 2 2 0, Sg.mk 2 w 0, Sg.mk 2 1 0, Sg.mk 2 w 0] : List Sg) = [Sg.mk 2 2 0] ++ ([Sg.mk 2 w 0] ++ ([Sg.mk 2 1 0] ++ [Sg.mk 2 w 0])) from rfl, nPt_app, nPt_app, nPt_app]
    have n1 : nPt [Sg.mk 2 2 0] = 0 := nPt_mk ⟨by decide, by decide⟩
    have n2 : nPt [Sg.mk 2 w 0] = 0 := nPt_mk ⟨by decide, by decide⟩
    have n3 : nPt [Sg.mk 2 1 0] = 0 := nPt_mk ⟨by decide, by decide⟩
    have := h.np; omega
theorem pend3 {R : List Int} {b : Int} (hR : ∀ x ∈ R, x < b) {j : Nat} (hj : j < 3) : (b + (j : Int)) ∈ R ++ ([b, b + 1, b + 2] : List Int).drop j ∧ ∀ x, x ∈ R ++ ([b, b + 1, b + 2] : List Int).drop (j + 1) ↔ x ∈ R ++ ([b, b + 1, b + 2] : List Int).drop j ∧ x ≠ b + (j : Int) := by
  rcases (by omega : j = 0 ∨ j = 1 ∨ j = 2) with rfl | rfl | rfl <;> refine ⟨by simp, fun x => ?_⟩ <;> simp only [List.mem_append, List.drop_succ_cons, List.drop_zero, List.mem_cons, List.not_mem_nil, or_false] <;> constructor
  · rintro (h | h | h)
    · exact ⟨.inl h, by have := hR x h; omega⟩
    · exact ⟨.inr (.inr (.inl h)), by omega⟩
    · exact ⟨.inr (.inr (.inr h)), by omega⟩
  · rintro ⟨h | h | h | h, h8⟩
    · exact .inl h
    · exact absurd h (by omega)
    · exact .inr (.inl h)
    · exact .inr (.inr h)
  · rintro (h | h)
    · exact ⟨.inl h, by have := hR x h; omega⟩
    · exact ⟨.inr (.inr h), by omega⟩
  · rintro ⟨h | h | h, h8⟩
    · exact .inl h
    · exact absurd h (by omega)
    · exact .inr h
  · intro h; exact ⟨.inl h, by have := hR x h; omega⟩
  · rintro ⟨h | h, h8⟩
    · exact h
    · exact absurd h (by omega)
theorem pendR {R : List Int} (hR : R.Pairwise (· < ·)) {k : Nat} (hk : k < R.length) : R.getD k 0 ∈ R.drop k ∧ ∀ x, x ∈ R.drop (k + 1) ↔ x ∈ R.drop k ∧ x ≠ R.getD k 0 := by
  have e : R.drop k = R.getD k 0 :: R.drop (k + 1) := by
    rw [List.drop_eq_getElem_cons hk, List.getD_eq_getElem?_getD, List.getElem?_eq_getElem hk]; rfl
  have hp : (R.drop k).Pairwise (· < ·) := hR.sublist (List.drop_sublist _ _)
  rw [e] at hp ⊢
  rw [List.pairwise_cons] at hp
  refine ⟨List.mem_cons_self, fun x => ⟨fun h => ⟨List.mem_cons_of_mem _ h, by have := hp.1 x h; omega⟩, fun ⟨h1, h2⟩ => ?_⟩⟩
  rcases List.mem_cons.1 h1 with h | h
  · exact absurd h h2
  · exact h
theorem asc_app {R : List Int} {b : Int} (h : R.Pairwise (· < ·)) (hb : ∀ x ∈ R, x < b) : (R ++ [b]).Pairwise (· < ·) := by
  rw [List.pairwise_append]
  exact ⟨h, List.pairwise_singleton _ _, fun x hx y hy => by rw [List.mem_singleton] at hy; subst hy; exact hb x hx⟩
theorem asc_nd {R : List Int} (h : R.Pairwise (· < ·)) : R.Nodup := h.imp (fun h9 => by omega)
theorem lit4 {x : Int} {L : List Int} (h : x ∈ L) (hL : L.all (fun y => decide (0 ≤ y ∧ y ≤ 4)) = true) : 0 ≤ x ∧ x ≤ 4 := of_decide_eq_true (List.all_eq_true.1 hL x h)
theorem lit12 {x : Int} (h : x ∈ ([1, 2] : List Int)) : x = 1 ∨ x = 2 := by simpa using h
theorem setK_last {l : List Sg} {k w i : Int} {q : Nat} (hq : q = l.length) : (l ++ [Sg.mk k w i]).set q { (l ++ [Sg.mk k w i]).getD q sg0 with k := 1 } = l ++ [Sg.mk 1 w i] := by
  subst hq; rw [gD_last]; simp
theorem xoA_take {D : List Md} {a b : Ix} (hm : a.m = b.m) : ∀ j, (∀ q, q < j → a.ps.getD q 0 = b.ps.getD q 0) → xoA D a j = xoA D b j
  | 0, _ => rfl
  | j + 1, h => by unfold xoA; rw [xoA_take hm j (fun q hq => h q (by omega)), h j (by omega), hm]
structure IjP (D : List Md) (q : Md) (xm : Int) (b : Nat) (ps os : List Int) (j : Nat) : Prop where
  len : ps.length = j
  wr : ∀ i, i < j → knd q (ps.getD i 0) = 2
  oq : os = xoA D (Ix.mk xm 0 (.slice none 0 0) ps) j
  asc : os.Pairwise (· < ·)
  lo : ∀ y ∈ os, (b : Int) ≤ y
  hi : ∀ y ∈ os, y < (q.ss.length : Int)
  bl : b ≤ q.ss.length
theorem IjP.start (D : List Md) (q : Md) (xm : Int) : IjP D q xm q.ss.length [] [] 0 := ⟨rfl, fun i hi => absurd hi (by omega), rfl, .nil, fun y hy => (by cases hy), fun y hy => (by cases hy), Nat.le_refl _⟩
theorem xoA_ps {D : List Md} {xm : Int} {ps : List Int} {x : Int} {j : Nat} (hl : ps.length = j) : xoA D (Ix.mk xm 0 (.slice none 0 0) (ps ++ [x])) j = xoA D (Ix.mk xm 0 (.slice none 0 0) ps) j :=
  xoA_take (a := Ix.mk xm 0 (.slice none 0 0) (ps ++ [x])) (b := Ix.mk xm 0 (.slice none 0 0) ps) rfl j (fun q hq => by show (ps ++ [x]).getD q 0 = ps.getD q 0; rw [zgp (by omega)])
theorem knd_app {q q' : Md} {w : Int} (hs : q'.ss = q.ss ++ [Sg.mk 2 w 0]) {x : Int} (hx : knd q x = 2) : knd q' x = 2 := by
  have hi : Inn q x := Inn_of (by omega)
  rw [← hx]
  exact Ext.knd ⟨by rw [hs, List.length_append]; omega, fun i hi => by rw [hs, zgp hi]⟩ hi
theorem knd_last {q q' : Md} {w : Int} (hs : q'.ss = q.ss ++ [Sg.mk 2 w 0]) : knd q' (q.ss.length : Int) = 2 := by
  rw [zcx ⟨by omega, by rw [hs, List.length_append, List.length_singleton]; omega⟩, hs, Int.toNat_natCast, gD_last]
theorem IjP.out {D : List Md} {q : Md} {xm : Int} {b j : Nat} {ps os : List Int} (h : IjP D q xm b ps os j) {q' : Md} {w : Int} (hs : q'.ss = q.ss ++ [Sg.mk 2 w 0]) (hk : knd (D.getD xm.toNat md0) ((ptsK (D.getD xm.toNat md0)).getD j 0) = 1) : IjP D q' xm b (ps ++ [(q.ss.length : Int)]) (os ++ [(q.ss.length : Int)]) (j + 1) := by
  have hl : q'.ss.length = q.ss.length + 1 := by rw [hs, List.length_append, List.length_singleton]
  refine ⟨by rw [List.length_append, List.length_singleton, h.len], fun i hi => ?_, ?_, asc_app h.asc h.hi, fun y hy => ?_, fun y hy => ?_, by have := h.bl; omega⟩
  · by_cases e : i < j
    · rw [zgp (by rw [h.len]; exact e)]; exact knd_app hs (h.wr i e)
    · obtain rfl : i = ps.length := by rw [h.len]; omega
      rw [gD_last]; exact knd_last hs
  · show _ = xoA D (Ix.mk xm 0 (.slice none 0 0) (ps ++ [(q.ss.length : Int)])) j ++ (if _ then _ else _)
    rw [if_pos hk, xoA_ps h.len, ← h.oq]
    show _ = os ++ [(ps ++ [(q.ss.length : Int)]).getD j 0]
    rw [← h.len, gD_last]
  · rcases List.mem_append.1 hy with hy | hy
    · exact h.lo y hy
    · rw [List.mem_singleton] at hy; have := h.bl; omega
  · rcases List.mem_append.1 hy with hy | hy
    · have := h.hi y hy; omega
    · rw [List.mem_singleton] at hy; omega
theorem IjP.inn {D : List Md} {q : Md} {xm : Int} {b j : Nat} {ps os : List Int} (h : IjP D q xm b ps os j) {q' : Md} {w : Int} (hs : q'.ss = q.ss ++ [Sg.mk 2 w 0]) (hk : knd (D.getD xm.toNat md0) ((ptsK (D.getD xm.toNat md0)).getD j 0) ≠ 1) : IjP D q' xm b (ps ++ [(q.ss.length : Int)]) os (j + 1) := by
  have hl : q'.ss.length = q.ss.length + 1 := by rw [hs, List.length_append, List.length_singleton]
  refine ⟨by rw [List.length_append, List.length_singleton, h.len], fun i hi => ?_, ?_, h.asc, h.lo, fun y hy => by have := h.hi y hy; omega, by have := h.bl; omega⟩
  · by_cases e : i < j
    · rw [zgp (by rw [h.len]; exact e)]; exact knd_app hs (h.wr i e)
    · obtain rfl : i = ps.length := by rw [h.len]; omega
      rw [gD_last]; exact knd_last hs
  · show _ = xoA D (Ix.mk xm 0 (.slice none 0 0) (ps ++ [(q.ss.length : Int)])) j ++ (if _ then _ else _)
    rw [if_neg hk, xoA_ps h.len, ← h.oq, List.append_nil]
theorem MI.done {R ps os : List Int} {q : Md} {xm xp : Int} {b : Nat} (h : MI D q A (R ++ os) ns ng nx nm np na) (v pv : Value) (hj : IjP D q xm b ps os (ptsK (D.getD xm.toNat md0)).length) (hm : 0 ≤ xm ∧ xm < D.length) (hp : 0 ≤ xp ∧ xp ≤ 4) (hR : ∀ x ∈ R, x < (b : Int)) {e : Nat} (he : os.length ≤ e) :
    MI D (Md.mk q.sv q.av v q.mv q.ss q.gs (q.xs ++ [Ix.mk xm xp pv ps]) q.ms) (A ++ os) R ns ng (nx + 1) nm np (na + e) := by
  have hx : xoK D (Ix.mk xm xp pv ps) = os := by
    rw [hj.oq]; exact xoA_take (a := Ix.mk xm xp pv ps) (b := Ix.mk xm 0 (.slice none 0 0) ps) rfl _ (fun q hq => rfl)
  have hw : ∀ i, i < (ptsK (D.getD xm.toNat md0)).length → Drv q (ps.getD i 0) := fun i hi => .inr (hj.wr i hi)
  refine MI.avl (m := Md.mk q.sv q.av v q.mv q.ss q.gs (q.xs ++ [Ix.mk xm xp pv ps]) q.ms) (h.ist v (x := Ix.mk xm xp pv ps) ⟨⟨hm, hj.len⟩, hp, fun i hi => ⟨(hw i hi).inn, fun _ => hw i hi⟩⟩ (by rw [hx]; exact asc_nd hj.asc) (fun y hy => by rw [hx] at hy; exact List.mem_append_right _ hy) (fun y => ?_)) (fun x hx9 => ⟨by have := hj.lo x hx9; omega, hj.hi x hx9⟩) he
  rw [hx, List.mem_append]
  exact ⟨fun h9 => ⟨.inl h9, fun h8 => by have h1 := hj.lo y h8; have h2 := hR y h9; omega⟩, fun ⟨h9, h8⟩ => h9.resolve_right h8⟩
theorem mem_app1 {R O : List Int} {b : Int} : ∀ x, x ∈ R ++ (O ++ [b]) ↔ x ∈ R ++ O ∨ x = b := fun x => by simp [or_assoc]
theorem mem_app2 {R : List Int} {b : Int} : ∀ x, x ∈ R ++ [b] ↔ x ∈ R ∨ x = b := fun x => by simp
theorem mem_less {R : List Int} {b : Int} (h : ∀ x ∈ R, x < b) : ∀ x, x ∈ R ↔ x ∈ R ++ [b] ∧ x ≠ b := fun x => by
  rw [List.mem_append, List.mem_singleton]
  exact ⟨fun h9 => ⟨.inl h9, by have := h x h9; omega⟩, fun ⟨h9, h8⟩ => h9.resolve_right h8⟩
theorem MI.plt (h : MI D m A P ns ng nx nm np na) : ∀ x ∈ P, x < (m.ss.length : Int) := fun x hx => (Inn_of (h.b.pn x hx)).2
end
theorem built_ws (x0 : Value) (x1 : Value) (h0 : x0.oneCell' = true) (h1 : x1.oneCell' = true) : Try.prog.built 50 [(0, x0), (1, x1)] = some #[x0, x1] := by
  (cases x0 <;> first | (exact absurd h0 Bool.false_ne_true) | (cases x1 <;> first | (exact absurd h1 Bool.false_ne_true) | kernel_rfl))
theorem SignalValues_ret (m : Md) (vs ws ins : List Int) (uv uw ui : Value) (w : World) (hr : RdsMd w m) (hfl : FlP m) (hst : WsP m vs ws) (hv : RdsW w uv 1 vs.length (vs.map (Value.int .i64))) (hw : RdsW w uw 1 ws.length (ws.map (Value.int .i64))) (hn : RdsW w ui 1 ins.length (ins.map (Value.int .i64))) (hil : ins.length = (pwK m 0).length) :
   Calls Try.prog 23 #[.agg #[m.sv, m.av, m.iv, m.mv], .agg #[uv, uw], ui] w (Ret w (fun v' post => post = [rowE 3 1 v' ((sgK m vs ins)).length (((sgK m vs ins)).map (Value.int .i64))])) := by
 refine zbw (N := 31) (args := [.agg #[m.sv, m.av, m.iv, m.mv], .agg #[uv, uw], ui]) Try.func23 rfl rfl (srQ ?_)
 refine zdk rfl (zda rfl rfl) ?_
 intro b1
 refine zdk rfl (zda rfl rfl) ?_
 intro b2
 refine zaz 1 rfl (zfh (hvQ rfl (zau (cs := [m.sv, m.av, m.iv, m.mv]) rfl rfl rfl rfl rfl (zaq 1 rfl 0 rfl)) (hvQ rfl (zau (cs := [uv, uw]) rfl rfl rfl rfl rfl (zaq 0 rfl 0 rfl)) ?_)))
 refine zej rfl (zaw rfl rfl (fun w hm => zbe (by have h9 := zev m vs ws _ _ w (hr.below hm.bel) (hv.below hm.bel) (hw.below hm.bel); rw [zdf hst] at h9; exact h9))) (zah 3 rfl (hvQ rfl (lnQ rfl rfl rfl (zae hn)) (hvQ rfl (zau (cs := [m.sv, m.av, m.iv, m.mv]) rfl rfl rfl rfl rfl (zaq 1 rfl 0 rfl)) ?_)))
 refine zfq rfl rfl rfl (zaw rfl rfl (fun w hm => zds m 0 w (hr.below hm.bel))) ?_
 intro v3 p4 hR5
 subst hR5
 refine hvQ rfl (lnQ rfl rfl rfl (zai 0 rfl)) (zff rfl rfl rfl rfl rfl rfl (fun h6 => absurd h6 (by omega)) (fun h6 => ?_))
 refine zaz 1 rfl (zas rfl (zcy (srQ (hvQ rfl (zau (cs := [m.sv, m.av, m.iv, m.mv]) rfl rfl rfl rfl rfl (zaq 2 rfl 0 rfl)) ?_))))
 refine zfq rfl rfl rfl (zaw rfl rfl (fun w hm => zfi m w (hr.below hm.bel))) ?_
 intro v7 p8 hR9
 obtain ⟨ov, rfl, rfl⟩ := hR9
 refine zah 3 rfl (zbq (fun h10 => ?_) (fun h10 => ?_))
 ·
  refine zaz 2 rfl (srQ (hvQ rfl (zau (cs := [m.sv, m.av, m.iv, m.mv]) rfl rfl rfl rfl rfl (zaq 3 rfl 0 rfl)) (zah 1 rfl (hvQ rfl (zau (cs := [uv, uw]) rfl rfl rfl rfl rfl (zaq 2 rfl 0 rfl)) (zah 1 rfl ?_)))))
  refine zfq rfl rfl rfl (zaw rfl rfl (fun w hm => zet m vs ws ins ov _ _ ui w (hr.below hm.bel) hfl ((zae hv) w hm) ((zae hw) w hm) ((zai 0 rfl) w hm) ((zae hn) w hm) (by omega) hst.v)) ?_
  intro v11 p12 hR13
  subst hR13
  refine zaz 1 rfl ?_
  exact zap (zew (post := [rowE 3 1 v11 ((sgK m vs ins).length) ((sgK m vs ins).map (Value.int .i64))]) rfl rfl (slQ [0] rfl) rfl)
 refine zaz 2 rfl (srQ (hvQ rfl (zau (cs := [m.sv, m.av, m.iv, m.mv]) rfl rfl rfl rfl rfl (zaq 3 rfl 0 rfl)) (zah 1 rfl (hvQ rfl (zau (cs := [uv, uw]) rfl rfl rfl rfl rfl (zaq 2 rfl 0 rfl)) (zah 1 rfl ?_)))))
 refine zfq rfl rfl rfl (zaw rfl rfl (fun w hm => zet m vs ws ins ov _ _ ui w (hr.below hm.bel) hfl ((zae hv) w hm) ((zae hw) w hm) ((zai 0 rfl) w hm) ((zae hn) w hm) (by omega) hst.v)) ?_
 intro v14 p15 hR16
 subst hR16
 refine zaz 1 rfl ?_
 exact zap (zew (post := [rowE 3 1 v14 ((sgK m vs ins).length) ((sgK m vs ins).map (Value.int .i64))]) rfl rfl (slQ [0] rfl) rfl)
theorem zgj (m : Md) (vs ws V : List Int) (uv uw u : Value) (w : World) (hr : RdsMd w m) (hfl : FlP m) (hst : WsP m vs ws) (hv : RdsW w uv 1 vs.length (vs.map (Value.int .i64))) (hw : RdsW w uw 1 ws.length (ws.map (Value.int .i64))) (hV : VlP m V) (hvv : RdsW w u 1 V.length (V.map (Value.int .i64))) :
   Calls Try.prog 68 #[.agg #[m.sv, m.av, m.iv, m.mv], .agg #[uv, uw], u] w (Ret w (fun u_ p_ => ∃ a9 b9, u_ = .agg #[a9, b9] ∧ p_ = [rowE 3 1 a9 (nxV m ws V).length ((nxV m ws V).map (Value.int .i64)), rowE 3 1 b9 (nxW m ws V).length ((nxW m ws V).map (Value.int .i64))])) := by
 have hs9 := sml hr.s
 have hg9 := sml hr.g
 have hm9 := sml hr.m
 have hln := hfl.lens
 have hVl := hV.len
 have hwl := hst.w.len
 refine zbw (N := 99) (args := [.agg #[m.sv, m.av, m.iv, m.mv], .agg #[uv, uw], u]) Try.func68 rfl rfl (srQ ?_)
 refine zdk rfl (zda rfl rfl) ?_
 intro b1
 refine zdk rfl (zda rfl rfl) ?_
 intro b2
 refine zdk rfl (zbf (z := .agg #[.slice none 0 0, .slice none 0 0]) rfl rfl) ?_
 intro b3
 refine ntQ (zag ?_)
 refine zfw rfl 9 [0, 1, 2, 3, 4, 5, 6, 7, 8] (List.take 9 _) (List.drop 9 _) [[], [0], [1], [2], [], [4], [5], [3, 6], []] [13, 14, 15, 16, 17, 18, 19, 20, 7] (fun i_ vs_ v_ p_ => match i_ with | 0 => v_ = .pointer (some ⟨b1, 0 + 0, none⟩) ∧ p_ = [] | 1 => v_ = m.sv ∧ p_ = [] | 2 => v_ = .int .i64 (m.ss.length : Int) ∧ p_ = [] | 3 => IsRow 3 1 ((List.replicate m.ss.length (0 : Int)).length) ((List.replicate m.ss.length (0 : Int)).map (Value.int .i64)) v_ p_ | 4 => v_ = .pointer (some ⟨b2, 0 + 1, none⟩) ∧ p_ = [] | 5 => v_ = uw ∧ p_ = [] | 6 => (fun v' post => post = [rowE 3 1 v' (ws).length ((ws).map (Value.int .i64))]) v_ p_ | 7 => v_ = .agg #[(List.getD vs_ 0 undef), (List.getD vs_ 1 undef)] ∧ p_ = [] | 8 => IsBox #[.slice none 0 0, .slice none 0 0] 50 v_ p_ | _ => True) (List.take_append_drop 9 _).symm (by kernel_rfl) (by kernel_rfl) rfl rfl ?_ ?_
 ·
  refine ⟨?_, ?_, ?_, ?_, ?_, ?_, ?_, ?_, ?_, trivial⟩
  ·
   intro vf pf hR
   exact ovQ rfl (zav [3] rfl) (zbz (fdQ 0 rfl rfl rfl))
  ·
   intro vf pf hR
   have e0 := hR 0 (by decide)
   exact olQ rfl (sk 13 (congrArg some e0.1) (zam _)) (zbz (zac rfl rfl rfl (zaa 2 rfl rfl)))
  ·
   intro vf pf hR
   have e1 := hR 1 (by decide)
   exact olQ rfl (sk 14 (congrArg some e1.1) (zam _)) (zbz (lnQ rfl rfl rfl (zae ((hr).s))))
  ·
   intro vf pf hR
   have e2 := hR 2 (by decide)
   exact olQ rfl (sk 15 (congrArg some e2.1) (zam _)) (rq_make (z := .int .i64 0) (s := 1) (bytes := 8) (n := (List.replicate m.ss.length (0 : Int)).length) (cs := ((List.replicate m.ss.length (0 : Int)).map (Value.int .i64))) rfl Try.underlying48 rfl (by decide) rfl rfl (by first | (rw [List.length_replicate]; done) | (rw [List.length_replicate]; omega)) (by first | (rw [List.length_replicate]; done) | (rw [List.length_replicate]; omega)) (by rw [List.length_replicate]; omega) (ints_make _))
  ·
   intro vf pf hR
   exact ovQ rfl (zav [4] rfl) (zbz (fdQ 1 rfl rfl rfl))
  ·
   intro vf pf hR
   have e4 := hR 4 (by decide)
   exact olQ rfl (sk 17 (congrArg some e4.1) (zam _)) (zbz (zac rfl rfl rfl (zaa 1 rfl rfl)))
  ·
   intro vf pf hR
   have e5 := hR 5 (by decide)
   exact olQ rfl (sk 18 (congrArg some e5.1) (zam _)) (zaw rfl rfl (fun w hm => copyIntsF_ret ws uw w ((zae hw) w hm) (by omega)))
  ·
   intro vf pf hR
   have e3 : IsRow 3 1 ((List.replicate m.ss.length (0 : Int)).length) ((List.replicate m.ss.length (0 : Int)).map (Value.int .i64)) (vf 3) (pf 3) := hR 3 (by decide)
   obtain ⟨g4, vE3, pE3⟩ := e3
   have e6 : (fun v' post => post = [rowE 3 1 v' (ws).length ((ws).map (Value.int .i64))]) (vf 6) (pf 6) := hR 6 (by decide)
   obtain ⟨v5, vE6⟩ : ∃ x, vf 6 = x := ⟨_, rfl⟩
   obtain ⟨p6, pE6⟩ : ∃ x, pf 6 = x := ⟨_, rfl⟩
   have hR7 := e6
   rw [vE6, pE6] at hR7
   subst hR7
   refine Or.inl ⟨rfl, ?_⟩
   exact zco (sk 16 (congrArg some vE3) (sk 19 (congrArg some vE6) (zam _))) (by simp only [pE3, vE3, pE6, vE6, fS] <;> rfl) (zct (zbz (rv_buildMD (cs := #[.slice (some ⟨g4, 0, none⟩) ((List.replicate m.ss.length (0 : Int)).length) ((List.replicate m.ss.length (0 : Int)).length), v5]) rfl rfl (fun w hm => built_ws (.slice (some ⟨g4, 0, none⟩) ((List.replicate m.ss.length (0 : Int)).length) ((List.replicate m.ss.length (0 : Int)).length)) v5 rfl ((zai 1 rfl w hm).one)))) (fun _ _ h => ⟨h.1.trans (by show _ = (.agg #[(vf 3), (vf 6)] : Value); first | (rw [vE3, vE6]; done) | (rw [vE3, vE6]; rfl)), h.2⟩))
  intro vf pf hR
  exact olQ rfl (zam _) (zbf (z := .agg #[.slice none 0 0, .slice none 0 0]) rfl rfl)
 intro vf pf hR
 have e3 : IsRow 3 1 ((List.replicate m.ss.length (0 : Int)).length) ((List.replicate m.ss.length (0 : Int)).map (Value.int .i64)) (vf 3) (pf 3) := hR 3 (by decide)
 obtain ⟨g4, vE3, pE3⟩ := e3
 have e6 : (fun v' post => post = [rowE 3 1 v' (ws).length ((ws).map (Value.int .i64))]) (vf 6) (pf 6) := hR 6 (by decide)
 obtain ⟨v5, vE6⟩ : ∃ x, vf 6 = x := ⟨_, rfl⟩
 obtain ⟨p6, pE6⟩ : ∃ x, pf 6 = x := ⟨_, rfl⟩
 have hR7 := e6
 rw [vE6, pE6] at hR7
 subst hR7
 have e7 : (vf 7) = .agg #[(vf 3), (vf 6)] ∧ (pf 7) = [] := hR 7 (by decide)
 rw [vE3, vE6] at e7
 have e8 : IsBox #[.slice none 0 0, .slice none 0 0] 50 (vf 8) (pf 8) := hR 8 (by decide)
 obtain ⟨b8, vE8, pE8⟩ := e8
 have q0 := hR 0 (by decide)
 have q1 := hR 1 (by decide)
 have q2 := hR 2 (by decide)
 have q4 := hR 4 (by decide)
 have q5 := hR 5 (by decide)
 have q7 := hR 7 (by decide)
 refine zdj (zcu [6, 4, 3, 2, 1, 0] _ (sk 7 (congrArg some vE8) (sk 20 (congrArg some e7.1) (zam _))) rfl) (by simp only [pE3, vE3, pE6, vE6, pE8, vE8, q0.2, q1.2, q2.2, q4.2, q5.2, q7.2, fS] <;> rfl) ?_
 simp only [List.drop_succ_cons, List.drop_zero]
 refine zcn (i := 1) rfl (fun ho9 => ?_)
 refine zbd (cs' := #[.slice (some ⟨g4, 0, none⟩) ((List.replicate m.ss.length (0 : Int)).length) ((List.replicate m.ss.length (0 : Int)).length), v5]) (i := 2) (off := 0) (us := [.slice (some ⟨g4, 0, none⟩) ((List.replicate m.ss.length (0 : Int)).length) ((List.replicate m.ss.length (0 : Int)).length), v5]) rfl rfl rfl rfl rfl rfl rfl (zab rfl (zab ho9 zbb)) rfl rfl rfl (ntQ (zfh (hvQ rfl (fdQ 1 rfl rfl rfl) (hvQ rfl (zac rfl rfl rfl (zaa 5 rfl rfl)) (hvQ rfl (lnQ rfl rfl rfl (zae ((hr).g))) (zaz 1 rfl (zba ?_)))))))
 refine lkQ2 (α := Nat) (β := List Int) [0, 1, 2, 3, 4, 6, 7, 22, 23] rfl (fun i zs => [rowE 3 1 (.slice (some ⟨g4, 0, none⟩) ((List.replicate m.ss.length (0 : Int)).length) ((List.replicate m.ss.length (0 : Int)).length)) zs.length (zs.map (Value.int .i64)), rowE 3 1 v5 ws.length (ws.map (Value.int .i64)), boxE b8 #[.slice (some ⟨g4, 0, none⟩) ((List.replicate m.ss.length (0 : Int)).length) ((List.replicate m.ss.length (0 : Int)).length), v5] 50, boxE b3 #[.slice none 0 0, .slice none 0 0] 50, boxE b2 #[uv, uw] 50, boxE b1 #[m.sv, m.av, m.iv, m.mv] 35]) (fun i zs => [(24, .int .i64 (i : Int))]) (fun i zs => i ≤ m.gs.length ∧ zs = nrA m V i) (fun i zs => m.gs.length - i) 0 (List.replicate m.ss.length 0) ⟨Nat.zero_le _, rfl⟩ (saQ rfl) (pfQ rfl) ?_
 intro i zs hi10
 obtain ⟨hi, hz⟩ := hi10
 have hzl : zs.length = m.ss.length := by rw [hz]; exact (nrA_ok hfl V i hi).1.len
 refine srQ ?_
 refine zbp rfl rfl rfl rfl rfl rfl (fun h11 => ?_) (fun h11 => ?_)
 ·
  refine ntQ (tcQ rfl (zcy (sbQ (srQ (hvQ rfl (riQ 2 rfl rfl rfl rfl (zae ((hr).g))) ?_)))))
  refine hvQ rfl (zbj (us := [.int .i64 ((m.gs.getD i as0).t), (m.gs.getD i as0).ov]) rfl rfl rfl rfl (zae ((hr).g)) (by omega) rfl (zby asC 2 (fun _ => rfl) m.gs as0 (show i < _ by omega) rfl)) (zdk rfl (zbf (z := .agg #[.int .i64 0, .slice none 0 0]) rfl rfl) ?_)
  intro b12
  refine zbd (cs' := #[.int .i64 ((m.gs.getD i as0).t), (m.gs.getD i as0).ov]) (i := 0) (off := 0) (us := [.int .i64 ((m.gs.getD i as0).t), (m.gs.getD i as0).ov]) rfl rfl rfl rfl rfl rfl rfl (zab rfl (zab (hr.o.at (k := i) (by omega)).one zbb)) rfl rfl rfl (ntQ (srQ ?_))
  obtain ⟨⟨htr, -⟩, hxo⟩ := hfl.as (show i < m.gs.length by omega)
  rw [← hVl] at hxo
  have hxw := hfl.sw (s := (m.gs.getD i as0).t.toNat) (by omega)
  refine hvQ rfl (fdQ 0 rfl rfl rfl) (hvQ rfl (zac rfl rfl rfl (zaa 6 rfl rfl)) (hvQ rfl (fdQ 0 rfl rfl rfl) (hvQ rfl (zac rfl rfl rfl (zaa 0 rfl rfl)) (hvQ rfl (riQ 3 rfl rfl rfl rfl (zae ((hr).s))) (hvQ rfl (zat (k0 := 0) rfl rfl rfl (zae ((hr).s)) (by omega)) ?_)))))
  refine hvQ rfl (zak (u := .int .i64 ((m.ss.getD (((m.gs.getD i as0).t).toNat) sg0).k)) rfl rfl rfl (zae ((hr).s)) ((zbg sgC 3 (fun _ => rfl) m.ss sg0 (show ((m.gs.getD i as0).t).toNat < _ by omega) (by decide)).trans rfl)) (zbu rfl rfl rfl rfl rfl rfl (fun h13 => ?_) (fun h13 => ?_))
  ·
   refine ntQ (zaj rfl ?_)
   refine zga 7 [6, 5, 4, 3, 2, 0, 1] rfl rfl (by decide) ?_
   refine hc_draw4 (l := [boxE b12 #[.int .i64 ((m.gs.getD i as0).t), (m.gs.getD i as0).ov] 89, rowE 3 1 v5 ws.length (ws.map (Value.int .i64)), boxE b8 #[.slice (some ⟨g4, 0, none⟩) ((List.replicate m.ss.length (0 : Int)).length) ((List.replicate m.ss.length (0 : Int)).length), v5] 50, boxE b3 #[.slice none 0 0, .slice none 0 0] 50, boxE b2 #[uv, uw] 50, boxE b1 #[m.sv, m.av, m.iv, m.mv] 35]) rfl 20 [0, 1, 2, 3, 4, 5, 6, 7, 8, 9, 10, 11, 12, 13, 14, 15, 16, 17, 18, 19] (List.take 20 _) (List.drop 20 _) [[], [0], [], [2], [], [4], [], [], [7], [], [9], [8, 10], [11], [12], [5, 6, 13], [14], [15], [15], [1, 3], [16, 18]] [some 37, some 38, some 39, some 40, some 41, some 42, some 43, some 44, some 45, some 46, some 47, some 48, some 49, some 50, some 51, some 36, some 52, some 53, some 54, none] (fun i_ vs_ v_ p_ => match i_ with | 0 => v_ = .pointer (some ⟨b8, 0 + 0, none⟩) ∧ p_ = [] | 1 => v_ = .slice (some ⟨g4, 0, none⟩) ((List.replicate m.ss.length (0 : Int)).length) ((List.replicate m.ss.length (0 : Int)).length) ∧ p_ = [] | 2 => v_ = .pointer (some ⟨b12, 0 + 0, none⟩) ∧ p_ = [] | 3 => v_ = .int .i64 ((m.gs.getD i as0).t) ∧ p_ = [] | 4 => v_ = .pointer (some ⟨b12, 0 + 1, none⟩) ∧ p_ = [] | 5 => v_ = (m.gs.getD i as0).ov ∧ p_ = [] | 6 => v_ = u ∧ p_ = [] | 7 => v_ = .pointer (some ⟨b1, 0 + 0, none⟩) ∧ p_ = [] | 8 => v_ = m.sv ∧ p_ = [] | 9 => v_ = .pointer (some ⟨b12, 0 + 0, none⟩) ∧ p_ = [] | 10 => v_ = .int .i64 ((m.gs.getD i as0).t) ∧ p_ = [] | 11 => v_ = elP m.sv (((m.gs.getD i as0).t).toNat * 3) ∧ p_ = [] | 12 => v_ = elP m.sv (((m.gs.getD i as0).t).toNat * 3 + 1) ∧ p_ = [] | 13 => v_ = .int .i64 ((m.ss.getD (((m.gs.getD i as0).t).toNat) sg0).w) ∧ p_ = [] | 14 => v_ = .tuple #[.int .i64 (evK (m.gs.getD i as0).os V ((m.ss.getD (((m.gs.getD i as0).t).toNat) sg0).w)), .int .i64 ((evE (m.gs.getD i as0).os V ((m.ss.getD (((m.gs.getD i as0).t).toNat) sg0).w) (m.gs.getD i as0).os.length 0).2 : Int)] ∧ p_ = [] | 15 => v_ = .tuple #[.int .i64 (evK (m.gs.getD i as0).os V ((m.ss.getD (((m.gs.getD i as0).t).toNat) sg0).w)), .int .i64 ((evE (m.gs.getD i as0).os V ((m.ss.getD (((m.gs.getD i as0).t).toNat) sg0).w) (m.gs.getD i as0).os.length 0).2 : Int)] ∧ p_ = [] | 16 => v_ = .int .i64 (evK (m.gs.getD i as0).os V ((m.ss.getD (((m.gs.getD i as0).t).toNat) sg0).w)) ∧ p_ = [] | 17 => v_ = .int .i64 ((evE (m.gs.getD i as0).os V ((m.ss.getD (((m.gs.getD i as0).t).toNat) sg0).w) (m.gs.getD i as0).os.length 0).2 : Int) ∧ p_ = [] | 18 => v_ = elP (.slice (some ⟨g4, 0, none⟩) ((List.replicate m.ss.length (0 : Int)).length) ((List.replicate m.ss.length (0 : Int)).length)) (((m.gs.getD i as0).t).toNat * 1) ∧ p_ = [] | 19 => p_ = [rowE 3 1 (.slice (some ⟨g4, 0, none⟩) ((List.replicate m.ss.length (0 : Int)).length) ((List.replicate m.ss.length (0 : Int)).length)) ((zs.set (((m.gs.getD i as0).t).toNat) (evK (m.gs.getD i as0).os V ((m.ss.getD (((m.gs.getD i as0).t).toNat) sg0).w))).length) ((zs.set (((m.gs.getD i as0).t).toNat) (evK (m.gs.getD i as0).os V ((m.ss.getD (((m.gs.getD i as0).t).toNat) sg0).w))).map (Value.int .i64))] | _ => True) [[], [0], [], [2], [], [4], [], [], [7], [], [9], [8, 10], [11], [12], [5, 6, 13], [14], [15], [15], [1, 3, 20], [16, 18]] [none, none, none, none, none, none, none, none, none, none, none, none, none, none, none, none, none, none, none, some 20] [[rowE 3 1 (.slice (some ⟨g4, 0, none⟩) ((List.replicate m.ss.length (0 : Int)).length) ((List.replicate m.ss.length (0 : Int)).length)) zs.length (zs.map (Value.int .i64))]] [0, 1, 2, 3, 4, 5, 6, 7, 8, 9, 10, 11, 12, 13, 14, 15, 16, 17, 18, 19] 20 (List.take_append_drop 20 _).symm (by kernel_rfl) (by kernel_rfl) (by kernel_rfl) rfl rfl ?_ ?_
   ·
    refine ⟨?_, ?_, ?_, ?_, ?_, ?_, ?_, ?_, ?_, ?_, ?_, ?_, ?_, ?_, ?_, ?_, ?_, ?_, ?_, ?_, trivial⟩
    ·
     intro vf pf hmu hR
     refine zfr [] [] rfl (zcd (zav [7] rfl) ?_)
     exact zbz (fdQ 0 rfl rfl rfl)
    ·
     intro vf pf hmu hR
     have e0 := hR 0 (by decide)
     refine zfr [0] [0] rfl (zbm (sk 37 (congrArg some e0.1) (zam _)) (List.sublist_append_right _ _) ?_)
     exact zbz (zac rfl rfl rfl (zaa 2 rfl rfl))
    ·
     intro vf pf hmu hR
     refine zfr [] [] rfl (zcd (zav [9] rfl) ?_)
     exact zbz (fdQ 0 rfl rfl rfl)
    ·
     intro vf pf hmu hR
     have e2 := hR 2 (by decide)
     refine zfr [2] [2] rfl (zbm (sk 39 (congrArg some e2.1) (zam _)) (List.sublist_append_right _ _) ?_)
     exact zbz (zac rfl rfl rfl (zaa 0 rfl rfl))
    ·
     intro vf pf hmu hR
     refine zfr [] [] rfl (zcd (zav [9] rfl) ?_)
     exact zbz (fdQ 1 rfl rfl rfl)
    ·
     intro vf pf hmu hR
     have e4 := hR 4 (by decide)
     refine zfr [4] [4] rfl (zbm (sk 41 (congrArg some e4.1) (zam _)) (List.sublist_append_right _ _) ?_)
     exact zbz (zac rfl rfl rfl (zaa 0 rfl rfl))
    ·
     intro vf pf hmu hR
     refine zfr [] [] rfl (zcd (zav [2] rfl) ?_)
     exact zbz (zax rfl)
    ·
     intro vf pf hmu hR
     refine zfr [] [] rfl (zcd (zav [3] rfl) ?_)
     exact zbz (fdQ 0 rfl rfl rfl)
    ·
     intro vf pf hmu hR
     have e7 := hR 7 (by decide)
     refine zfr [7] [7] rfl (zbm (sk 44 (congrArg some e7.1) (zam _)) (List.sublist_append_right _ _) ?_)
     exact zbz (zac rfl rfl rfl (zaa 5 rfl rfl))
    ·
     intro vf pf hmu hR
     refine zfr [] [] rfl (zcd (zav [9] rfl) ?_)
     exact zbz (fdQ 0 rfl rfl rfl)
    ·
     intro vf pf hmu hR
     have e9 := hR 9 (by decide)
     refine zfr [9] [9] rfl (zbm (sk 46 (congrArg some e9.1) (zam _)) (List.sublist_append_right _ _) ?_)
     exact zbz (zac rfl rfl rfl (zaa 0 rfl rfl))
    ·
     intro vf pf hmu hR
     have e8 := hR 8 (by decide)
     have e10 := hR 10 (by decide)
     refine zfr [8, 10] [8, 10] rfl (zbm (sk 45 (congrArg some e8.1) (sk 47 (congrArg some e10.1) (zam _))) (List.sublist_append_right _ _) ?_)
     exact zbz (riQ 3 rfl rfl rfl rfl (zae ((hr).s)))
    ·
     intro vf pf hmu hR
     have e11 := hR 11 (by decide)
     refine zfr [11] [11] rfl (zbm (sk 48 (congrArg some e11.1) (zam _)) (List.sublist_append_right _ _) ?_)
     exact zbz (zat (k0 := 1) rfl rfl rfl (zae ((hr).s)) (by omega))
    ·
     intro vf pf hmu hR
     have e12 := hR 12 (by decide)
     refine zfr [12] [12] rfl (zbm (sk 49 (congrArg some e12.1) (zam _)) (List.sublist_append_right _ _) ?_)
     exact zbz (zak (u := .int .i64 ((m.ss.getD (((m.gs.getD i as0).t).toNat) sg0).w)) rfl rfl rfl (zae ((hr).s)) ((zbg sgC 3 (fun _ => rfl) m.ss sg0 (show ((m.gs.getD i as0).t).toNat < _ by omega) (by decide)).trans rfl))
    ·
     intro vf pf hmu hR
     have e5 := hR 5 (by decide)
     have e6 := hR 6 (by decide)
     have e13 := hR 13 (by decide)
     refine zfr [5, 6, 13] [5, 6, 13] rfl (zbm (sk 42 (congrArg some e5.1) (sk 43 (congrArg some e6.1) (sk 50 (congrArg some e13.1) (zam _)))) (List.sublist_append_right _ _) ?_)
     exact (zaw rfl rfl (fun w hm => exprAt_ret (m.gs.getD i as0).os V _ _ _ hxo hxw (m.gs.getD i as0).os.length 0 (Nat.sub_le _ _) hxo.pos w ((hr.o.at (k := i) (by omega)).below hm.bel) ((zae hvv) w hm)))
    ·
     intro vf pf hmu hR
     have e14 := hR 14 (by decide)
     refine zfr [14] [14] rfl (zcd (sk 51 (congrArg some e14.1) (zam _)) ?_)
     exact zbz (zax rfl)
    ·
     intro vf pf hmu hR
     have e15 := hR 15 (by decide)
     refine zfr [15] [15] rfl (zcd (sk 36 (congrArg some e15.1) (zam _)) ?_)
     exact zbz (zax rfl)
    ·
     intro vf pf hmu hR
     have e15 := hR 15 (by decide)
     refine zfr [15] [15] rfl (zcd (sk 36 (congrArg some e15.1) (zam _)) ?_)
     exact zbz (zax rfl)
    ·
     intro vf pf hmu hR
     have e1 := hR 1 (by decide)
     have e3 := hR 3 (by decide)
     refine zfr [1, 3, 20] [1, 3] rfl ?_
     have hmu0 : pf 20 = [rowE 3 1 (.slice (some ⟨g4, 0, none⟩) ((List.replicate m.ss.length (0 : Int)).length) ((List.replicate m.ss.length (0 : Int)).length)) zs.length (zs.map (Value.int .i64))] := hmu 0 (show 0 < 1 by omega)
     exact zco (sk 38 (congrArg some e1.1) (sk 40 (congrArg some e3.1) (zam _))) (by simp only [hmu0, e1.2, e3.2, fS] <;> rfl) (zbz (riQ 1 rfl rfl rfl rfl (zai 0 rfl)))
    intro vf pf hmu hR
    have e16 := hR 16 (by decide)
    have e18 := hR 18 (by decide)
    refine Or.inl ⟨rfl, ?_⟩
    show RunM _ _ _ (pf 20) (([16, 18] : List Nat).flatMap pf ++ _) (envOf3 _ vf [16, 18] ++ _) _ _
    have hmu0 : pf 20 = [rowE 3 1 (.slice (some ⟨g4, 0, none⟩) ((List.replicate m.ss.length (0 : Int)).length) ((List.replicate m.ss.length (0 : Int)).length)) zs.length (zs.map (Value.int .i64))] := hmu 0 (show 0 < 1 by omega)
    rw [hmu0]
    exact zdn (sk 52 (congrArg some e16.1) (sk 54 (congrArg some e18.1) (zam _))) (by simp only [e16.2, e18.2, fS] <;> rfl) (rm_mono (rm_storeEl (n' := (zs.set (((m.gs.getD i as0).t).toNat) (evK (m.gs.getD i as0).os V ((m.ss.getD (((m.gs.getD i as0).t).toNat) sg0).w))).length) (xs' := ((zs.set (((m.gs.getD i as0).t).toNat) (evK (m.gs.getD i as0).os V ((m.ss.getD (((m.gs.getD i as0).t).toNat) sg0).w))).map (Value.int .i64))) 0 rfl rfl rfl rfl rfl rfl rfl (by first | omega | (simp only [List.length_set]; omega)) List.length_set.symm (zgk _ _ _)) (fun v_ p_ h => by show p_ = [rowE 3 1 (.slice (some ⟨g4, 0, none⟩) ((List.replicate m.ss.length (0 : Int)).length) ((List.replicate m.ss.length (0 : Int)).length)) ((zs.set (((m.gs.getD i as0).t).toNat) (evK (m.gs.getD i as0).os V ((m.ss.getD (((m.gs.getD i as0).t).toNat) sg0).w))).length) ((zs.set (((m.gs.getD i as0).t).toNat) (evK (m.gs.getD i as0).os V ((m.ss.getD (((m.gs.getD i as0).t).toNat) sg0).w))).map (Value.int .i64))]; exact h))
   intro vf pf hmu hR
   have e19 : (pf 19) = [rowE 3 1 (.slice (some ⟨g4, 0, none⟩) ((List.replicate m.ss.length (0 : Int)).length) ((List.replicate m.ss.length (0 : Int)).length)) ((zs.set (((m.gs.getD i as0).t).toNat) (evK (m.gs.getD i as0).os V ((m.ss.getD (((m.gs.getD i as0).t).toNat) sg0).w))).length) ((zs.set (((m.gs.getD i as0).t).toNat) (evK (m.gs.getD i as0).os V ((m.ss.getD (((m.gs.getD i as0).t).toNat) sg0).w))).map (Value.int .i64))] := hR 19 (by decide)
   have pE19 := e19
   have q0 := hR 0 (by decide)
   have q1 := hR 1 (by decide)
   have q2 := hR 2 (by decide)
   have q3 := hR 3 (by decide)
   have q4 := hR 4 (by decide)
   have q5 := hR 5 (by decide)
   have q6 := hR 6 (by decide)
   have q7 := hR 7 (by decide)
   have q8 := hR 8 (by decide)
   have q9 := hR 9 (by decide)
   have q10 := hR 10 (by decide)
   have q11 := hR 11 (by decide)
   have q12 := hR 12 (by decide)
   have q13 := hR 13 (by decide)
   have q14 := hR 14 (by decide)
   have q15 := hR 15 (by decide)
   have q16 := hR 16 (by decide)
   have q17 := hR 17 (by decide)
   have q18 := hR 18 (by decide)
   refine zdj (zav [35, 25, 24, 23, 22, 9, 7, 6, 4, 3, 2, 1, 0] rfl) (by simp only [pE19, q0.2, q1.2, q2.2, q3.2, q4.2, q5.2, q6.2, q7.2, q8.2, q9.2, q10.2, q11.2, q12.2, q13.2, q14.2, q15.2, q16.2, q17.2, q18.2, fS] <;> rfl) ?_
   simp only [List.drop_succ_cons, List.drop_zero]
   refine zbn (zde (zao (hvQ rfl (vaQ rfl rfl rfl) (enQ 1 rfl ?_))))
   exact zcp (i + 1) (zs.set (((m.gs.getD i as0).t).toNat) (evK (m.gs.getD i as0).os V ((m.ss.getD (((m.gs.getD i as0).t).toNat) sg0).w))) ⟨by omega, by rw [hz]; exact nrA_yes (by omega)⟩ (by omega) (saQ rfl) (slQ [0, 1, 0, 0, 0, 0] rfl)
  refine ntQ (fsQ rfl (zde (zao (hvQ rfl (vaQ rfl rfl rfl) (enQ 1 rfl ?_)))))
  exact zcp (i + 1) zs ⟨by omega, hz.trans (nrA_no (by omega))⟩ (by omega) (saQ rfl) (slQ [1, 0, 0, 0, 0, 0] rfl)
 refine ntQ (fcQ rfl ?_)
 refine zbi (zdv ?_)
 refine zal (zar (zfh (hvQ rfl (fdQ 3 rfl rfl rfl) (hvQ rfl (zac rfl rfl rfl (zaa 5 rfl rfl)) (hvQ rfl (lnQ rfl rfl rfl (zae ((hr).m))) (zaz 1 rfl (zba ?_)))))))
 refine lkQ3 (α := Nat) (β := List Int) (γ := List Int) [0, 1, 2, 3, 4, 6, 7, 22, 23, 24, 25, 57, 58] rfl (fun j ys qs => [rowE 3 1 (.slice (some ⟨g4, 0, none⟩) ((List.replicate m.ss.length (0 : Int)).length) ((List.replicate m.ss.length (0 : Int)).length)) ys.length (ys.map (Value.int .i64)), rowE 3 1 v5 qs.length (qs.map (Value.int .i64)), boxE b8 #[.slice (some ⟨g4, 0, none⟩) ((List.replicate m.ss.length (0 : Int)).length) ((List.replicate m.ss.length (0 : Int)).length), v5] 50, boxE b3 #[.slice none 0 0, .slice none 0 0] 50, boxE b2 #[uv, uw] 50, boxE b1 #[m.sv, m.av, m.iv, m.mv] 35]) (fun j ys qs => [(59, .int .i64 (j : Int))]) (fun j ys qs => j ≤ m.ms.length ∧ ys = (nmA m ws V j).1 ∧ qs = (nmA m ws V j).2) (fun j ys qs => m.ms.length - j) 0 zs ws ⟨Nat.zero_le _, by rw [hz, show i = m.gs.length by omega]; rfl, rfl⟩ (saQ rfl) (pfQ rfl) ?_
 intro j ys qs hi14
 obtain ⟨hj, hy, hq⟩ := hi14
 obtain ⟨⟨hyo, -⟩, hqo⟩ := nmA_ok hfl hV hst.w j hj
 rw [← hy] at hyo
 rw [← hq] at hqo
 have hyl := hyo.len
 have hql := hqo.len
 refine srQ ?_
 refine zbp rfl rfl rfl rfl rfl rfl (fun h15 => ?_) (fun h15 => ?_)
 ·
  refine ntQ (tcQ rfl (zcy (sbQ (zag (reQ 1 rfl (hvQ rfl (riQ 4 rfl rfl rfl rfl (zae ((hr).m))) ?_))))))
  refine hvQ rfl (zbj (us := [.int .i64 ((m.ms.getD j mm0).a), .int .i64 ((m.ms.getD j mm0).d), .int .i64 ((m.ms.getD j mm0).w), .int .i64 ((m.ms.getD j mm0).o)]) rfl rfl rfl rfl (zae ((hr).m)) (by omega) rfl (zby mmC 4 (fun _ => rfl) m.ms mm0 (show j < _ by omega) rfl)) (zdk rfl (zbf (z := .agg #[.int .i64 0, .int .i64 0, .int .i64 0, .int .i64 0]) rfl rfl) ?_)
  intro b16
  refine zah 1 rfl (zbd (cs' := #[.int .i64 ((m.ms.getD j mm0).a), .int .i64 ((m.ms.getD j mm0).d), .int .i64 ((m.ms.getD j mm0).w), .int .i64 ((m.ms.getD j mm0).o)]) (i := 0) (off := 0) (us := [.int .i64 ((m.ms.getD j mm0).a), .int .i64 ((m.ms.getD j mm0).d), .int .i64 ((m.ms.getD j mm0).w), .int .i64 ((m.ms.getD j mm0).o)]) rfl rfl rfl rfl rfl rfl rfl (zab rfl (zab rfl (zab rfl (zab rfl zbb)))) rfl rfl rfl ?_)
  refine ntQ (srQ ?_)
  have hmj := hfl.mm (show j < m.ms.length by omega)
  have hma := maK_rng hfl hV (show j < m.ms.length by omega)
  have hma9 : maK m V j = 4 * (j : Int) + V.getD (m.ms.getD j mm0).a.toNat 0 := rfl
  refine zah 1 rfl (hvQ rfl (rv_mul rfl rfl rfl (by constructor <;> omega)) (zah 1 rfl (hvQ rfl (fdQ 0 rfl rfl rfl) (hvQ rfl (zac rfl rfl rfl (zaa 0 rfl rfl)) (hvQ rfl (riQ 1 rfl rfl rfl rfl (zae hvv)) (hvQ rfl (lzQ rfl rfl rfl (zae hvv)) (hvQ rfl (vaQ rfl rfl rfl) ?_)))))))
  rw [show (4 * (j : Int)) + (V.getD (((m.ms.getD j mm0).a).toNat) 0) = maK m V j from rfl]
  refine zaz 1 rfl (zag ?_)
  refine zbv 10 [[], [0], [], [2], [], [4], [], [5, 6], [7], [1, 3]] [72, 73, 74, 75, 76, 77, 78, 79, 80, 81] [.pointer (some ⟨b8, 0 + 0, none⟩), .slice (some ⟨g4, 0, none⟩) ((List.replicate m.ss.length (0 : Int)).length) ((List.replicate m.ss.length (0 : Int)).length), .pointer (some ⟨b16, 0 + 3, none⟩), .int .i64 ((m.ms.getD j mm0).o), .pointer (some ⟨b2, 0 + 1, none⟩), uw, .int .i64 (maK m V j), elP uw (((maK m V j)).toNat * 1), .int .i64 (ws.getD (((maK m V j)).toNat) 0), elP (.slice (some ⟨g4, 0, none⟩) ((List.replicate m.ss.length (0 : Int)).length) ((List.replicate m.ss.length (0 : Int)).length)) (((m.ms.getD j mm0).o).toNat * 1)] (by kernel_rfl) rfl ?_ ?_
  ·
   exact ⟨iaQ rfl (fdQ 0 rfl rfl rfl) rfl, iaQ rfl (zac rfl rfl rfl (zaa 3 rfl rfl)) rfl, iaQ rfl (fdQ 3 rfl rfl rfl) rfl, iaQ rfl (zac rfl rfl rfl (zaa 0 rfl rfl)) rfl, iaQ rfl (fdQ 1 rfl rfl rfl) rfl, iaQ rfl (zac rfl rfl rfl (zaa 5 rfl rfl)) rfl, iaQ rfl (zax rfl) rfl, iaQ rfl (riQ 1 rfl rfl rfl rfl (zae hw)) rfl, iaQ rfl (lzQ rfl rfl rfl (zae hw)) rfl, iaQ rfl (riQ 1 rfl rfl rfl rfl (zai 1 rfl)) rfl, trivial⟩
  simp only [List.drop_succ_cons, List.drop_zero]
  refine zgc (i := 1) (n' := (ys.set (((m.ms.getD j mm0).o).toNat) (ws.getD (((maK m V j)).toNat) 0)).length) (xs' := ((ys.set (((m.ms.getD j mm0).o).toNat) (ws.getD (((maK m V j)).toNat) 0)).map (Value.int .i64))) rfl rfl rfl rfl rfl rfl rfl rfl (by first | omega | (simp only [List.length_set]; omega)) List.length_set.symm (zgk _ _ _) rfl (ntQ (zag (reQ 1 rfl (hvQ rfl (fdQ 2 rfl rfl rfl) (hvQ rfl (zac rfl rfl rfl (zaa 0 rfl rfl)) (hvQ rfl (riQ 1 rfl rfl rfl rfl (zae hvv)) (hvQ rfl (lzQ rfl rfl rfl (zae hvv)) ?_)))))))
  refine zbu rfl rfl rfl rfl rfl rfl (fun h17 => ?_) (fun h17 => ?_)
  ·
   refine ntQ (zaj rfl ?_)
   refine zbv 9 [[], [0], [], [], [], [4], [3, 5], [6], [1, 2]] [88, 89, 90, 91, 92, 93, 94, 95, 96] [.pointer (some ⟨b8, 0 + 1, none⟩), v5, .int .i64 (maK m V j), u, .pointer (some ⟨b16, 0 + 1, none⟩), .int .i64 ((m.ms.getD j mm0).d), elP u (((m.ms.getD j mm0).d).toNat * 1), .int .i64 (V.getD (((m.ms.getD j mm0).d).toNat) 0), elP v5 (((maK m V j)).toNat * 1)] (by kernel_rfl) rfl ?_ ?_
   ·
    exact ⟨iaQ rfl (fdQ 1 rfl rfl rfl) rfl, iaQ rfl (zac rfl rfl rfl (zaa 3 rfl rfl)) rfl, iaQ rfl (zax rfl) rfl, iaQ rfl (zax rfl) rfl, iaQ rfl (fdQ 1 rfl rfl rfl) rfl, iaQ rfl (zac rfl rfl rfl (zaa 0 rfl rfl)) rfl, iaQ rfl (riQ 1 rfl rfl rfl rfl (zae hvv)) rfl, iaQ rfl (lzQ rfl rfl rfl (zae hvv)) rfl, iaQ rfl (riQ 1 rfl rfl rfl rfl (zai 2 rfl)) rfl, trivial⟩
   simp only [List.drop_succ_cons, List.drop_zero]
   refine zgc (i := 2) (n' := (qs.set (((maK m V j)).toNat) (V.getD (((m.ms.getD j mm0).d).toNat) 0)).length) (xs' := ((qs.set (((maK m V j)).toNat) (V.getD (((m.ms.getD j mm0).d).toNat) 0)).map (Value.int .i64))) rfl rfl rfl rfl rfl rfl rfl rfl (by first | omega | (simp only [List.length_set]; omega)) List.length_set.symm (zgk _ _ _) rfl (zbn (zde (zao (hvQ rfl (vaQ rfl rfl rfl) (enQ 1 rfl ?_)))))
   exact zcl (j + 1) (ys.set (((m.ms.getD j mm0).o).toNat) (ws.getD (((maK m V j)).toNat) 0)) (qs.set (((maK m V j)).toNat) (V.getD (((m.ms.getD j mm0).d).toNat) 0)) ⟨by omega, by rw [hy]; rfl, by rw [hq]; show _ = if _ then _ else _; rw [if_pos (by omega)]⟩ (by omega) (saQ rfl) (slQ [1, 0, 0, 0, 0, 0] rfl)
  refine ntQ (fsQ rfl (zde (zao (hvQ rfl (vaQ rfl rfl rfl) (enQ 1 rfl ?_)))))
  exact zcl (j + 1) (ys.set (((m.ms.getD j mm0).o).toNat) (ws.getD (((maK m V j)).toNat) 0)) qs ⟨by omega, by rw [hy]; rfl, by rw [hq]; show _ = if _ then _ else _; rw [if_neg (by omega)]⟩ (by omega) (saQ rfl) (slQ [1, 0, 0, 0, 0, 0] rfl)
 refine ntQ (fcQ rfl ?_)
 refine zbi (zdv ?_)
 refine zal (zar (zag (zao (hvQ rfl (zau (cs := [.slice (some ⟨g4, 0, none⟩) ((List.replicate m.ss.length (0 : Int)).length) ((List.replicate m.ss.length (0 : Int)).length), v5]) rfl rfl rfl rfl rfl (zaq 2 rfl 0 rfl)) ?_))))
 refine zbd (cs' := #[.slice (some ⟨g4, 0, none⟩) ((List.replicate m.ss.length (0 : Int)).length) ((List.replicate m.ss.length (0 : Int)).length), v5]) (i := 3) (off := 0) (us := [.slice (some ⟨g4, 0, none⟩) ((List.replicate m.ss.length (0 : Int)).length) ((List.replicate m.ss.length (0 : Int)).length), v5]) rfl rfl rfl rfl rfl rfl rfl (zab rfl (zab ho9 zbb)) rfl rfl rfl (ntQ ?_)
 refine zap (zbk 6 [5, 4, 3, 2, 1, 0] rfl rfl (by decide) ?_)
 exact zcw (rs := [.cell 6 50]) (vs := [.agg #[.slice (some ⟨g4, 0, none⟩) ((List.replicate m.ss.length (0 : Int)).length) ((List.replicate m.ss.length (0 : Int)).length), v5]]) (post := [rowE 3 1 (.slice (some ⟨g4, 0, none⟩) ((List.replicate m.ss.length (0 : Int)).length) ((List.replicate m.ss.length (0 : Int)).length)) ys.length (ys.map (Value.int .i64)), rowE 3 1 v5 qs.length (qs.map (Value.int .i64))]) rfl ⟨⟨b3, 0, [.slice (some ⟨g4, 0, none⟩) ((List.replicate m.ss.length (0 : Int)).length) ((List.replicate m.ss.length (0 : Int)).length), v5], rfl, rfl, by kernel_rfl, by kernel_rfl, zaq 3 rfl 0 rfl⟩, trivial⟩ rfl (slQ [0, 0] rfl) ⟨_, _, rfl, by rw [hy, hq, show j = m.ms.length by omega]; rfl⟩
theorem FlatStep_ret (m : Md) (vs ws ins : List Int) (uv uw ui : Value) (w : World) (hr : RdsMd w m) (hfl : FlP m) (hst : WsP m vs ws) (hv : RdsW w uv 1 vs.length (vs.map (Value.int .i64))) (hw : RdsW w uw 1 ws.length (ws.map (Value.int .i64))) (hn : RdsW w ui 1 ins.length (ins.map (Value.int .i64))) (hil : ins.length = (pwK m 0).length) :
   Calls Try.prog 24 #[.agg #[m.sv, m.av, m.iv, m.mv], .agg #[uv, uw], ui] w (Ret w (fun u_ p_ => ∃ a9 b9 c9, u_ = .tuple #[.agg #[a9, b9], c9] ∧ p_ = [rowE 3 1 a9 (nxV m ws (sgK m vs ins)).length ((nxV m ws (sgK m vs ins)).map (Value.int .i64)), rowE 3 1 b9 (nxW m ws (sgK m vs ins)).length ((nxW m ws (sgK m vs ins)).map (Value.int .i64)), rowE 3 1 c9 (ouK m (sgK m vs ins)).length ((ouK m (sgK m vs ins)).map (Value.int .i64))] ∧ a9.oneCell' = true ∧ b9.oneCell' = true)) := by
 have hln := hfl.lens
 have hso := sgK_ok (ins := ins) hfl hst.v
 refine zbw (N := 33) (args := [.agg #[m.sv, m.av, m.iv, m.mv], .agg #[uv, uw], ui]) Try.func24 rfl rfl (srQ ?_)
 refine zdk rfl (zda rfl rfl) ?_
 intro b1
 refine zdk rfl (zda rfl rfl) ?_
 intro b2
 refine zdk rfl (zbf (z := .agg #[.slice none 0 0, .slice none 0 0]) rfl rfl) ?_
 intro b3
 refine zaz 1 rfl (srQ (hvQ rfl (zau (cs := [m.sv, m.av, m.iv, m.mv]) rfl rfl rfl rfl rfl (zaq 2 rfl 0 rfl)) (hvQ rfl (zau (cs := [uv, uw]) rfl rfl rfl rfl rfl (zaq 1 rfl 0 rfl)) (zah 1 rfl ?_))))
 refine zfq rfl rfl rfl (zaw rfl rfl (fun w hm => SignalValues_ret m vs ws ins _ _ ui w (hr.below hm.bel) hfl hst ((zae hv) w hm) ((zae hw) w hm) ((zae hn) w hm) hil)) ?_
 intro v4 p5 hR6
 subst hR6
 refine zaz 1 rfl (zfh (hvQ rfl (zau (cs := [m.sv, m.av, m.iv, m.mv]) rfl rfl rfl rfl rfl (zaq 3 rfl 0 rfl)) (hvQ rfl (zau (cs := [uv, uw]) rfl rfl rfl rfl rfl (zaq 2 rfl 0 rfl)) ?_)))
 refine zej rfl (zaw rfl rfl (fun w hm => zbe (by have h9 := zev m vs ws _ _ w (hr.below hm.bel) (hv.below hm.bel) (hw.below hm.bel); rw [zdf hst] at h9; exact h9))) (zah 3 rfl (hvQ rfl (lnQ rfl rfl rfl (zae hn)) (hvQ rfl (zau (cs := [m.sv, m.av, m.iv, m.mv]) rfl rfl rfl rfl rfl (zaq 3 rfl 0 rfl)) ?_)))
 refine zfq rfl rfl rfl (zaw rfl rfl (fun w hm => zds m 0 w (hr.below hm.bel))) ?_
 intro v7 p8 hR9
 subst hR9
 refine hvQ rfl (lnQ rfl rfl rfl (zai 0 rfl)) (zff rfl rfl rfl rfl rfl rfl (fun h10 => absurd h10 (by omega)) (fun h10 => ?_))
 refine zaz 1 rfl (zas rfl (zcy (zag ?_)))
 refine zfw rfl 7 [0, 1, 2, 3, 4, 5, 6] (List.take 7 _) (List.drop 7 _) [[], [], [], [0, 1, 2], [], [], [4, 5]] [26, 27, 28, 29, 30, 31, 32] (fun i_ vs_ v_ p_ => match i_ with | 0 => v_ = .agg #[m.sv, m.av, m.iv, m.mv] ∧ p_ = [] | 1 => v_ = .agg #[uv, uw] ∧ p_ = [] | 2 => v_ = v4 ∧ p_ = [] | 3 => (fun u_ p_ => ∃ a9 b9, u_ = .agg #[a9, b9] ∧ p_ = [rowE 3 1 a9 (nxV m ws (sgK m vs ins)).length ((nxV m ws (sgK m vs ins)).map (Value.int .i64)), rowE 3 1 b9 (nxW m ws (sgK m vs ins)).length ((nxW m ws (sgK m vs ins)).map (Value.int .i64))]) v_ p_ | 4 => v_ = .agg #[m.sv, m.av, m.iv, m.mv] ∧ p_ = [] | 5 => v_ = v4 ∧ p_ = [] | 6 => (fun v' post => post = [rowE 3 1 v' ((ouK m (sgK m vs ins))).length (((ouK m (sgK m vs ins))).map (Value.int .i64))]) v_ p_ | _ => True) (List.take_append_drop 7 _).symm (by kernel_rfl) (by kernel_rfl) rfl rfl ?_ ?_
 ·
  refine ⟨?_, ?_, ?_, ?_, ?_, ?_, ?_, trivial⟩
  ·
   intro vf pf hR
   exact olQ rfl (zav [3] rfl) (zbz (zau (cs := [m.sv, m.av, m.iv, m.mv]) rfl rfl rfl rfl rfl (zaq 4 rfl 0 rfl)))
  ·
   intro vf pf hR
   exact olQ rfl (zav [4] rfl) (zbz (zau (cs := [uv, uw]) rfl rfl rfl rfl rfl (zaq 3 rfl 0 rfl)))
  ·
   intro vf pf hR
   exact ovQ rfl (zav [8] rfl) (zbz (zax rfl))
  ·
   intro vf pf hR
   have e0 := hR 0 (by decide)
   have e1 := hR 1 (by decide)
   have e2 := hR 2 (by decide)
   exact olQ rfl (sk 26 (congrArg some e0.1) (sk 27 (congrArg some e1.1) (sk 28 (congrArg some e2.1) (zam _)))) (zaw rfl rfl (fun w hm => zgj m vs ws (sgK m vs ins) _ _ v4 w (hr.below hm.bel) hfl hst ((zae hv) w hm) ((zae hw) w hm) hso ((zai 1 rfl) w hm)))
  ·
   intro vf pf hR
   exact olQ rfl (zav [3] rfl) (zbz (zau (cs := [m.sv, m.av, m.iv, m.mv]) rfl rfl rfl rfl rfl (zaq 4 rfl 0 rfl)))
  ·
   intro vf pf hR
   exact ovQ rfl (zav [8] rfl) (zbz (zax rfl))
  intro vf pf hR
  have e4 := hR 4 (by decide)
  have e5 := hR 5 (by decide)
  exact olQ rfl (sk 30 (congrArg some e4.1) (sk 31 (congrArg some e5.1) (zam _))) (zaw rfl rfl (fun w hm => outputValues_ret m (sgK m vs ins) v4 w (hr.below hm.bel) ((zai 1 rfl) w hm) hso.len hln.1))
 intro vf pf hR
 have e3 : (fun u_ p_ => ∃ a9 b9, u_ = .agg #[a9, b9] ∧ p_ = [rowE 3 1 a9 (nxV m ws (sgK m vs ins)).length ((nxV m ws (sgK m vs ins)).map (Value.int .i64)), rowE 3 1 b9 (nxW m ws (sgK m vs ins)).length ((nxW m ws (sgK m vs ins)).map (Value.int .i64))]) (vf 3) (pf 3) := hR 3 (by decide)
 obtain ⟨v11, vE3⟩ : ∃ x, vf 3 = x := ⟨_, rfl⟩
 obtain ⟨p12, pE3⟩ : ∃ x, pf 3 = x := ⟨_, rfl⟩
 have hR13 := e3
 rw [vE3, pE3] at hR13
 obtain ⟨nahR13, nbhR13, rfl, rfl⟩ := hR13
 have e6 : (fun v' post => post = [rowE 3 1 v' ((ouK m (sgK m vs ins))).length (((ouK m (sgK m vs ins))).map (Value.int .i64))]) (vf 6) (pf 6) := hR 6 (by decide)
 obtain ⟨v14, vE6⟩ : ∃ x, vf 6 = x := ⟨_, rfl⟩
 obtain ⟨p15, pE6⟩ : ∃ x, pf 6 = x := ⟨_, rfl⟩
 have hR16 := e6
 rw [vE6, pE6] at hR16
 subst hR16
 have q0 := hR 0 (by decide)
 have q1 := hR 1 (by decide)
 have q2 := hR 2 (by decide)
 have q4 := hR 4 (by decide)
 have q5 := hR 5 (by decide)
 refine zdj (zcu [24, 8, 7, 6, 4, 3, 2, 1, 0] _ (sk 29 (congrArg some vE3) (sk 32 (congrArg some vE6) (zam _))) rfl) (by simp only [pE3, vE3, pE6, vE6, q0.2, q1.2, q2.2, q4.2, q5.2, fS] <;> rfl) ?_
 simp only [List.drop_succ_cons, List.drop_zero]
 refine zcn (i := 1) rfl (fun ho17 => ?_)
 refine zcn (i := 0) rfl (fun ho18 => ?_)
 refine zbd (cs' := #[nahR13, nbhR13]) (i := 5) (off := 0) (us := [nahR13, nbhR13]) rfl rfl rfl rfl rfl rfl rfl (zab ho18 (zab ho17 zbb)) rfl rfl rfl (zaz 1 rfl ?_)
 refine zap (zbk 8 [7, 6, 5, 4, 3, 2, 1, 0] rfl rfl (by decide) ?_)
 refine zex (p := nahR13.oneCell' = true ∧ nbhR13.oneCell' = true) (fun w hm => ⟨(zai 0 rfl w hm).one, (zai 1 rfl w hm).one⟩) (fun ho9 => ?_)
 exact zcw (rs := [.cell 6 50, .tmp 7]) (vs := [.agg #[nahR13, nbhR13], v14]) (post := [rowE 3 1 nahR13 ((nxV m ws (sgK m vs ins)).length) ((nxV m ws (sgK m vs ins)).map (Value.int .i64)), rowE 3 1 nbhR13 ((nxW m ws (sgK m vs ins)).length) ((nxW m ws (sgK m vs ins)).map (Value.int .i64)), rowE 3 1 v14 ((ouK m (sgK m vs ins)).length) ((ouK m (sgK m vs ins)).map (Value.int .i64))]) rfl ⟨⟨b3, 0, [nahR13, nbhR13], rfl, rfl, by kernel_rfl, by kernel_rfl, zaq 5 rfl 0 rfl⟩, rfl, trivial⟩ rfl (slQ [0, 0, 0] rfl) ⟨_, _, _, rfl, rfl, ho9⟩
theorem flatCycles_ret (m : Md) (rs : List CRow) (ui : Value) (w : World) (hr : RdsMd w m) (hfl : FlP m) (hn : RdsCl w ui rs) (hI : InI m (rs.map CRow.xs)) :
   Calls Try.prog 60 #[.agg #[m.sv, m.av, m.iv, m.mv], ui] w (Ret w (fun u_ p_ => ∃ (v9 : Value) (os9 : List CRow) (ps9 : List HP), u_ = .tuple #[v9, .bool true] ∧ p_ = [bigE ps9] ∧ (∀ w, (bigE ps9).holds w → RdsCl w v9 os9) ∧ v9.oneCell' = true ∧ os9.map CRow.xs = trK m (rs.map CRow.xs))) := by
 have hln := hfl.lens
 have hI1 := hI.1
 rw [List.length_map] at hI1
 refine zbw (N := 66) (args := [.agg #[m.sv, m.av, m.iv, m.mv], ui]) Try.func60 rfl rfl (srQ ?_)
 refine zdk rfl (zda rfl rfl) ?_
 intro b1
 refine zaz 2 rfl (zfh (hvQ rfl (zau (cs := [m.sv, m.av, m.iv, m.mv]) rfl rfl rfl rfl rfl (zaq 0 rfl 0 rfl)) ?_))
 refine zej rfl (zaw rfl rfl (fun w hm => zbe (by have h9 := zfy m w (hr.below hm.bel); rw [zdf hfl] at h9; exact h9))) (zah 3 rfl (hvQ rfl (lnQ rfl rfl rfl (zae hn.row)) ?_))
 refine zec rfl rfl rfl rfl rfl rfl (fun h2 => absurd h2 (by omega)) (fun h2 => ?_)
 refine zaz 1 rfl (zas rfl (zcy (srQ (hvQ rfl (zau (cs := [m.sv, m.av, m.iv, m.mv]) rfl rfl rfl rfl rfl (zaq 0 rfl 0 rfl)) ?_))))
 refine zfq rfl rfl rfl (zaw rfl rfl (fun w hm => zds m 0 w (hr.below hm.bel))) ?_
 intro v3 p4 hR5
 subst hR5
 refine hvQ rfl (lnQ rfl rfl rfl (zai 0 rfl)) (zaz 1 rfl (zag (zag (reQ 1 rfl (hvQ rfl (lnQ rfl rfl rfl (zae hn.row)) (zaz 1 rfl ?_))))))
 refine zba ?_
 refine lkQ1 (α := Nat) [0, 1, 2, 4, 5, 6, 23, 27, 28] rfl (fun j => [rowE 3 1 v3 ((pwK m 0).length) ((pwK m 0).map (Value.int .i64)), boxE b1 #[m.sv, m.av, m.iv, m.mv] 35]) (fun j => [(29, .int .i64 (j : Int))]) (fun j => j ≤ rs.length) (fun j => rs.length - j) 0 (Nat.zero_le _) (saQ rfl) (pfQ rfl) ?_
 intro j hi6
 have hj := hi6
 refine srQ ?_
 refine zbp rfl rfl rfl rfl rfl rfl (fun h7 => ?_) (fun h7 => ?_)
 ·
  refine ntQ (tcQ rfl (zcy (sbQ (srQ (hvQ rfl (riQ 1 rfl rfl rfl rfl (zae hn.row)) ?_)))))
  refine hvQ rfl (zak (u := (rs.getD j crow0).v) rfl rfl rfl (zae hn.row) (zer crowC (fun r => r.v) (fun _ => rfl) rs crow0 (show j < _ by omega))) (zaz 1 rfl (srQ ?_))
  have hai := hI.at (show j < rs.length by omega)
  refine zah 1 rfl (hvQ rfl (lnQ rfl rfl rfl (zae (hn.at (k := j) (by omega)))) (zah 1 rfl ?_))
  refine zff rfl rfl rfl rfl rfl rfl (fun h8 => absurd h8 (by omega)) (fun h8 => ?_)
  refine ntQ (fsQ rfl (zde (zao (hvQ rfl (vaQ rfl rfl rfl) (enQ 1 rfl ?_)))))
  exact zbt (j + 1) (by omega) (by omega) (saQ rfl) (pfQ rfl)
 refine ntQ (fcQ rfl ?_)
 refine zbi (zdv ?_)
 refine zal (zar (srQ (hvQ rfl (zau (cs := [m.sv, m.av, m.iv, m.mv]) rfl rfl rfl rfl rfl (zaq 1 rfl 0 rfl)) ?_)))
 refine zfq rfl rfl rfl (zaw rfl rfl (fun w hm => zfi m w (hr.below hm.bel))) ?_
 intro v9 p10 hR11
 obtain ⟨ov, rfl, rfl⟩ := hR11
 refine zah 3 rfl (zbq (fun h12 => ?_) (fun h12 => ?_))
 ·
  refine zaz 2 rfl (srQ (hvQ rfl (zau (cs := [m.sv, m.av, m.iv, m.mv]) rfl rfl rfl rfl rfl (zaq 2 rfl 0 rfl)) ?_))
  refine zfq rfl rfl rfl (zaw rfl rfl (fun w hm => zgq m w (hr.below hm.bel) hfl)) ?_
  intro v13 p14 hR15
  obtain ⟨sahR15, sbhR15, rfl, rfl⟩ := hR15
  refine zdk rfl (zbf (z := .agg #[.slice none 0 0, .slice none 0 0]) rfl rfl) ?_
  intro b16
  refine zcn (i := 2) rfl (fun ho17 => ?_)
  refine zcn (i := 1) rfl (fun ho18 => ?_)
  refine zbd (cs' := #[sahR15, sbhR15]) (i := 0) (off := 0) (us := [sahR15, sbhR15]) rfl rfl rfl rfl rfl rfl rfl (zab ho18 (zab ho17 zbb)) rfl rfl rfl (ntQ (srQ ?_))
  refine zdo 48 1 ?_
  refine zcs (l' := [rowE 48 1 (.slice none 0 0) (([] : List CRow).length) (([] : List CRow).flatMap crowC), boxE b16 #[sahR15, sbhR15] 50, rowE 3 1 sahR15 ((staV m).length) ((staV m).map (Value.int .i64)), rowE 3 1 sbhR15 ((staW m).length) ((staW m).map (Value.int .i64)), rowE 3 1 ov ((eoK m).length) ((eoK m).map (Value.int .i64)), rowE 3 1 v3 ((pwK m 0).length) ((pwK m 0).map (Value.int .i64)), boxE b1 #[m.sv, m.av, m.iv, m.mv] 35]) rfl ?_
  refine zaz 1 rfl (zag (zag (reQ 1 rfl (hvQ rfl (lnQ rfl rfl rfl (zae hn.row)) (zaz 1 rfl (zba ?_))))))
  refine zey [bigE [], rowE 48 1 (.slice none 0 0) (([] : List CRow).length) (([] : List CRow).flatMap crowC), boxE b16 #[sahR15, sbhR15] 50, rowE 3 1 sahR15 ((staV m).length) ((staV m).map (Value.int .i64)), rowE 3 1 sbhR15 ((staW m).length) ((staW m).map (Value.int .i64)), rowE 3 1 ov ((eoK m).length) ((eoK m).map (Value.int .i64)), rowE 3 1 v3 ((pwK m 0).length) ((pwK m 0).map (Value.int .i64)), boxE b1 #[m.sv, m.av, m.iv, m.mv] 35] zed ?_
  refine hc_loop5 (α := Nat) (β := List CRow) (γ := Value) (δ := Value × Value) (fun i os tv q ps => [bigE ps, rowE 48 1 tv os.length (os.flatMap crowC), boxE b16 #[q.1, q.2] 50, rowE 3 1 q.1 (((stT m (rs.map CRow.xs) i).1).length) (((stT m (rs.map CRow.xs) i).1).map (Value.int .i64)), rowE 3 1 q.2 (((stT m (rs.map CRow.xs) i).2).length) (((stT m (rs.map CRow.xs) i).2).map (Value.int .i64)), rowE 3 1 ov ((eoK m).length) ((eoK m).map (Value.int .i64)), boxE b1 #[m.sv, m.av, m.iv, m.mv] 35]) (fun i os tv q ps => [(0, .agg #[m.sv, m.av, m.iv, m.mv]), (1, ui), (2, .pointer (some ⟨b1, 0, none⟩)), (4, .slice none 0 0), (5, .bool false), (6, .int .i64 ((pwK m 0).length : Int)), (9, ov), (11, .pointer (some ⟨b16, 0, none⟩)), (12, tv), (23, .bool false), (27, ui), (28, .int .i64 (rs.length : Int)), (29, .int .i64 (j : Int)), (30, .bool false), (45, ui), (46, .int .i64 (rs.length : Int)), (47, .int .i64 (i : Int))]) (fun i os tv q ps => i ≤ rs.length ∧ os.map CRow.xs = trA m (rs.map CRow.xs) i ∧ ∀ w, (bigE ps).holds w → ∀ q ∈ os, RdsW w q.v 1 q.xs.length (q.xs.map (Value.int .i64))) (fun i os tv q ps => rs.length - i) 0 [] _ (sahR15, sbhR15) [] ⟨Nat.zero_le _, rfl, fun w hw q hq => (by cases hq)⟩ (zav [47, 46, 45, 30, 29, 28, 27, 23, 12, 11, 9, 6, 5, 4, 2, 1, 0] rfl) (slQ [0, 0, 0, 0, 0, 0, 1] rfl) ?_
  intro i os tv q ps hi20
  obtain ⟨hi, hos, hp⟩ := hi20
  have hol : os.length = i := by have h9 := congrArg List.length hos; unfold trA at h9; rw [List.length_map, List.length_map, List.length_range] at h9; exact h9
  have hst := stT_ok hfl (rs.map CRow.xs) i
  have hvo := vlT_ok hfl (rs.map CRow.xs) i
  have hrl16 := hI.1
  rw [List.length_map] at hrl16
  refine srQ ?_
  refine zbp rfl rfl rfl rfl rfl rfl (fun h21 => ?_) (fun h21 => ?_)
  ·
   refine ntQ (tcQ rfl (zcy (sbQ (srQ (hvQ rfl (riQ 1 rfl rfl rfl rfl (zae hn.row)) ?_)))))
   refine hvQ rfl (zak (u := (rs.getD i crow0).v) rfl rfl rfl (zae hn.row) (zer crowC (fun r => r.v) (fun _ => rfl) rs crow0 (show i < _ by omega))) (zaz 1 rfl (srQ ?_))
   have hai := hI.at (show i < rs.length by omega)
   refine hvQ rfl (zau (cs := [m.sv, m.av, m.iv, m.mv]) rfl rfl rfl rfl rfl (zaq 6 rfl 0 rfl)) (zah 1 rfl (hvQ rfl (zau (cs := [q.1, q.2]) rfl rfl rfl rfl rfl (zaq 2 rfl 0 rfl)) (zah 1 rfl ?_)))
   refine zfq rfl rfl rfl (zaw rfl rfl (fun w hm => (by have h9 := zet m ((stT m (rs.map CRow.xs) i).1) ((stT m (rs.map CRow.xs) i).2) (rs.getD i crow0).xs ov _ _ _ w (hr.below hm.bel) hfl ((zai 3 rfl) w hm) ((zai 4 rfl) w hm) ((zai 5 rfl) w hm) ((zae (hn.at (k := i) (by omega))) w hm) hai hst.v; rw [vl_at] at h9; exact h9))) ?_
   intro v22 p23 hR24
   subst hR24
   refine zaz 1 rfl (zag (reQ 2 rfl ?_))
   refine zdu rfl (zfb rfl Try.underlying44 (by kernel_rfl) rfl (fun w hm => (zai 0 rfl w hm).one)) ?_
   intro g25
   refine zcn (i := 1) rfl (fun ho26 => ?_)
   refine zcq (i := 3) (z := .slice none 0 0) (bytes := 24) rfl rfl rfl rfl Try.underlying44 (by kernel_rfl) rfl rfl rfl rfl (zai 0 rfl) (zab ho26 zbb) (by first | omega | (simp only [List.length_append, List.length_cons, List.length_nil]; omega)) (zci os [(CRow.mk v22 (vlT m (rs.map CRow.xs) i))]) (zdi crowC os (CRow.mk v22 (vlT m (rs.map CRow.xs) i)) _ rfl) (fun _ => rfl) ?_
   intro v27
   refine zaz 1 rfl (zao (hvQ rfl (zau (cs := [m.sv, m.av, m.iv, m.mv]) rfl rfl rfl rfl rfl (zaq 8 rfl 0 rfl)) (hvQ rfl (zau (cs := [q.1, q.2]) rfl rfl rfl rfl rfl (zaq 4 rfl 0 rfl)) (zah 1 rfl ?_))))
   refine zfq rfl rfl rfl (zaw rfl rfl (fun w hm => zgj m ((stT m (rs.map CRow.xs) i).1) ((stT m (rs.map CRow.xs) i).2) (vlT m (rs.map CRow.xs) i) _ _ v22 w (hr.below hm.bel) hfl hst ((zai 5 rfl) w hm) ((zai 6 rfl) w hm) hvo ((zai 1 rfl) w hm))) ?_
   intro v28 p29 hR30
   obtain ⟨nahR30, nbhR30, rfl, rfl⟩ := hR30
   refine zcn (i := 1) rfl (fun ho31 => ?_)
   refine zcn (i := 0) rfl (fun ho32 => ?_)
   refine zbd (cs' := #[nahR30, nbhR30]) (i := 6) (off := 0) (us := [nahR30, nbhR30]) rfl rfl rfl rfl rfl rfl rfl (zab ho32 (zab ho31 zbb)) rfl rfl rfl (zbn (zde (zao (hvQ rfl (vaQ rfl rfl rfl) (enQ 1 rfl ?_)))))
   refine zbk 11 [10, 9, 6, 5, 1, 0, 3, 4] rfl rfl (by decide) ?_
   refine zcf 2 rfl ?_
   refine zbk 7 [6, 5, 2, 1, 4, 3, 0] rfl rfl (by decide) ?_
   exact zfe (i + 1) (os ++ [(CRow.mk v22 (vlT m (rs.map CRow.xs) i))]) v27 (nahR30, nbhR30) [bigE ps, rowE 3 1 v22 ((vlT m (rs.map CRow.xs) i).length) ((vlT m (rs.map CRow.xs) i).map (Value.int .i64))] ⟨by omega, by rw [List.map_append, hos, trA_succ]; rfl, fun w hw => RdsCl.snoc (v := q.1) (v' := q.1) (hp w (zbc hw List.mem_cons_self)) (zcr (zbc hw (List.mem_cons_of_mem _ List.mem_cons_self)))⟩ (by omega) (zav [47, 46, 45, 30, 29, 28, 27, 23, 12, 11, 9, 6, 5, 4, 2, 1, 0] rfl) (pfQ rfl)
  refine ntQ (fcQ rfl ?_)
  refine zbi (zdv ?_)
  refine zal (zar (zbh 3 rfl ?_))
  refine zap (zex (fun w hm => (zai 1 rfl w hm).one) (fun ho9 => ?_))
  refine zbk 7 [6, 5, 4, 3, 2, 0, 1] rfl rfl (by decide) ?_
  refine zcf 2 rfl ?_
  exact zcw (rs := [.tmp 4, .tmp 5]) (vs := [tv, .bool true]) (post := [bigE [rowE 48 1 tv os.length (os.flatMap crowC), bigE ps]]) rfl ⟨rfl, rfl, trivial⟩ rfl (slQ [0] rfl) ⟨tv, os, _, rfl, rfl, fun w hw => ⟨zcr (zbc hw List.mem_cons_self), hp w (zbc hw (List.mem_cons_of_mem _ List.mem_cons_self))⟩, ho9, by rw [hos, show i = rs.length by omega]; unfold trK trA; rw [List.length_map]⟩
 refine zaz 2 rfl (srQ (hvQ rfl (zau (cs := [m.sv, m.av, m.iv, m.mv]) rfl rfl rfl rfl rfl (zaq 2 rfl 0 rfl)) ?_))
 refine zfq rfl rfl rfl (zaw rfl rfl (fun w hm => zgq m w (hr.below hm.bel) hfl)) ?_
 intro v33 p34 hR35
 obtain ⟨sahR35, sbhR35, rfl, rfl⟩ := hR35
 refine zdk rfl (zbf (z := .agg #[.slice none 0 0, .slice none 0 0]) rfl rfl) ?_
 intro b36
 refine zcn (i := 2) rfl (fun ho37 => ?_)
 refine zcn (i := 1) rfl (fun ho38 => ?_)
 refine zbd (cs' := #[sahR35, sbhR35]) (i := 0) (off := 0) (us := [sahR35, sbhR35]) rfl rfl rfl rfl rfl rfl rfl (zab ho38 (zab ho37 zbb)) rfl rfl rfl (ntQ (srQ ?_))
 refine zdo 48 1 ?_
 refine zcs (l' := [rowE 48 1 (.slice none 0 0) (([] : List CRow).length) (([] : List CRow).flatMap crowC), boxE b36 #[sahR35, sbhR35] 50, rowE 3 1 sahR35 ((staV m).length) ((staV m).map (Value.int .i64)), rowE 3 1 sbhR35 ((staW m).length) ((staW m).map (Value.int .i64)), rowE 3 1 ov ((eoK m).length) ((eoK m).map (Value.int .i64)), rowE 3 1 v3 ((pwK m 0).length) ((pwK m 0).map (Value.int .i64)), boxE b1 #[m.sv, m.av, m.iv, m.mv] 35]) rfl ?_
 refine zaz 1 rfl (zag (zag (reQ 1 rfl (hvQ rfl (lnQ rfl rfl rfl (zae hn.row)) (zaz 1 rfl (zba ?_))))))
 refine zey [bigE [], rowE 48 1 (.slice none 0 0) (([] : List CRow).length) (([] : List CRow).flatMap crowC), boxE b36 #[sahR35, sbhR35] 50, rowE 3 1 sahR35 ((staV m).length) ((staV m).map (Value.int .i64)), rowE 3 1 sbhR35 ((staW m).length) ((staW m).map (Value.int .i64)), rowE 3 1 ov ((eoK m).length) ((eoK m).map (Value.int .i64)), rowE 3 1 v3 ((pwK m 0).length) ((pwK m 0).map (Value.int .i64)), boxE b1 #[m.sv, m.av, m.iv, m.mv] 35] zed ?_
 refine hc_loop5 (α := Nat) (β := List CRow) (γ := Value) (δ := Value × Value) (fun i os tv q ps => [bigE ps, rowE 48 1 tv os.length (os.flatMap crowC), boxE b36 #[q.1, q.2] 50, rowE 3 1 q.1 (((stT m (rs.map CRow.xs) i).1).length) (((stT m (rs.map CRow.xs) i).1).map (Value.int .i64)), rowE 3 1 q.2 (((stT m (rs.map CRow.xs) i).2).length) (((stT m (rs.map CRow.xs) i).2).map (Value.int .i64)), rowE 3 1 ov ((eoK m).length) ((eoK m).map (Value.int .i64)), boxE b1 #[m.sv, m.av, m.iv, m.mv] 35]) (fun i os tv q ps => [(0, .agg #[m.sv, m.av, m.iv, m.mv]), (1, ui), (2, .pointer (some ⟨b1, 0, none⟩)), (4, .slice none 0 0), (5, .bool false), (6, .int .i64 ((pwK m 0).length : Int)), (9, ov), (11, .pointer (some ⟨b36, 0, none⟩)), (12, tv), (23, .bool false), (27, ui), (28, .int .i64 (rs.length : Int)), (29, .int .i64 (j : Int)), (30, .bool false), (45, ui), (46, .int .i64 (rs.length : Int)), (47, .int .i64 (i : Int))]) (fun i os tv q ps => i ≤ rs.length ∧ os.map CRow.xs = trA m (rs.map CRow.xs) i ∧ ∀ w, (bigE ps).holds w → ∀ q ∈ os, RdsW w q.v 1 q.xs.length (q.xs.map (Value.int .i64))) (fun i os tv q ps => rs.length - i) 0 [] _ (sahR35, sbhR35) [] ⟨Nat.zero_le _, rfl, fun w hw q hq => (by cases hq)⟩ (zav [47, 46, 45, 30, 29, 28, 27, 23, 12, 11, 9, 6, 5, 4, 2, 1, 0] rfl) (slQ [0, 0, 0, 0, 0, 0, 1] rfl) ?_
 intro i os tv q ps hi40
 obtain ⟨hi, hos, hp⟩ := hi40
 have hol : os.length = i := by have h9 := congrArg List.length hos; unfold trA at h9; rw [List.length_map, List.length_map, List.length_range] at h9; exact h9
 have hst := stT_ok hfl (rs.map CRow.xs) i
 have hvo := vlT_ok hfl (rs.map CRow.xs) i
 have hrl16 := hI.1
 rw [List.length_map] at hrl16
 refine srQ ?_
 refine zbp rfl rfl rfl rfl rfl rfl (fun h41 => ?_) (fun h41 => ?_)
 ·
  refine ntQ (tcQ rfl (zcy (sbQ (srQ (hvQ rfl (riQ 1 rfl rfl rfl rfl (zae hn.row)) ?_)))))
  refine hvQ rfl (zak (u := (rs.getD i crow0).v) rfl rfl rfl (zae hn.row) (zer crowC (fun r => r.v) (fun _ => rfl) rs crow0 (show i < _ by omega))) (zaz 1 rfl (srQ ?_))
  have hai := hI.at (show i < rs.length by omega)
  refine hvQ rfl (zau (cs := [m.sv, m.av, m.iv, m.mv]) rfl rfl rfl rfl rfl (zaq 6 rfl 0 rfl)) (zah 1 rfl (hvQ rfl (zau (cs := [q.1, q.2]) rfl rfl rfl rfl rfl (zaq 2 rfl 0 rfl)) (zah 1 rfl ?_)))
  refine zfq rfl rfl rfl (zaw rfl rfl (fun w hm => (by have h9 := zet m ((stT m (rs.map CRow.xs) i).1) ((stT m (rs.map CRow.xs) i).2) (rs.getD i crow0).xs ov _ _ _ w (hr.below hm.bel) hfl ((zai 3 rfl) w hm) ((zai 4 rfl) w hm) ((zai 5 rfl) w hm) ((zae (hn.at (k := i) (by omega))) w hm) hai hst.v; rw [vl_at] at h9; exact h9))) ?_
  intro v42 p43 hR44
  subst hR44
  refine zaz 1 rfl (zag (reQ 2 rfl ?_))
  refine zdu rfl (zfb rfl Try.underlying44 (by kernel_rfl) rfl (fun w hm => (zai 0 rfl w hm).one)) ?_
  intro g45
  refine zcn (i := 1) rfl (fun ho46 => ?_)
  refine zcq (i := 3) (z := .slice none 0 0) (bytes := 24) rfl rfl rfl rfl Try.underlying44 (by kernel_rfl) rfl rfl rfl rfl (zai 0 rfl) (zab ho46 zbb) (by first | omega | (simp only [List.length_append, List.length_cons, List.length_nil]; omega)) (zci os [(CRow.mk v42 (vlT m (rs.map CRow.xs) i))]) (zdi crowC os (CRow.mk v42 (vlT m (rs.map CRow.xs) i)) _ rfl) (fun _ => rfl) ?_
  intro v47
  refine zaz 1 rfl (zao (hvQ rfl (zau (cs := [m.sv, m.av, m.iv, m.mv]) rfl rfl rfl rfl rfl (zaq 8 rfl 0 rfl)) (hvQ rfl (zau (cs := [q.1, q.2]) rfl rfl rfl rfl rfl (zaq 4 rfl 0 rfl)) (zah 1 rfl ?_))))
  refine zfq rfl rfl rfl (zaw rfl rfl (fun w hm => zgj m ((stT m (rs.map CRow.xs) i).1) ((stT m (rs.map CRow.xs) i).2) (vlT m (rs.map CRow.xs) i) _ _ v42 w (hr.below hm.bel) hfl hst ((zai 5 rfl) w hm) ((zai 6 rfl) w hm) hvo ((zai 1 rfl) w hm))) ?_
  intro v48 p49 hR50
  obtain ⟨nahR50, nbhR50, rfl, rfl⟩ := hR50
  refine zcn (i := 1) rfl (fun ho51 => ?_)
  refine zcn (i := 0) rfl (fun ho52 => ?_)
  refine zbd (cs' := #[nahR50, nbhR50]) (i := 6) (off := 0) (us := [nahR50, nbhR50]) rfl rfl rfl rfl rfl rfl rfl (zab ho52 (zab ho51 zbb)) rfl rfl rfl (zbn (zde (zao (hvQ rfl (vaQ rfl rfl rfl) (enQ 1 rfl ?_)))))
  refine zbk 11 [10, 9, 6, 5, 1, 0, 3, 4] rfl rfl (by decide) ?_
  refine zcf 2 rfl ?_
  refine zbk 7 [6, 5, 2, 1, 4, 3, 0] rfl rfl (by decide) ?_
  exact zfe (i + 1) (os ++ [(CRow.mk v42 (vlT m (rs.map CRow.xs) i))]) v47 (nahR50, nbhR50) [bigE ps, rowE 3 1 v42 ((vlT m (rs.map CRow.xs) i).length) ((vlT m (rs.map CRow.xs) i).map (Value.int .i64))] ⟨by omega, by rw [List.map_append, hos, trA_succ]; rfl, fun w hw => RdsCl.snoc (v := q.1) (v' := q.1) (hp w (zbc hw List.mem_cons_self)) (zcr (zbc hw (List.mem_cons_of_mem _ List.mem_cons_self)))⟩ (by omega) (zav [47, 46, 45, 30, 29, 28, 27, 23, 12, 11, 9, 6, 5, 4, 2, 1, 0] rfl) (pfQ rfl)
 refine ntQ (fcQ rfl ?_)
 refine zbi (zdv ?_)
 refine zal (zar (zbh 3 rfl ?_))
 refine zap (zex (fun w hm => (zai 1 rfl w hm).one) (fun ho9 => ?_))
 refine zbk 7 [6, 5, 4, 3, 2, 0, 1] rfl rfl (by decide) ?_
 refine zcf 2 rfl ?_
 exact zcw (rs := [.tmp 4, .tmp 5]) (vs := [tv, .bool true]) (post := [bigE [rowE 48 1 tv os.length (os.flatMap crowC), bigE ps]]) rfl ⟨rfl, rfl, trivial⟩ rfl (slQ [0] rfl) ⟨tv, os, _, rfl, rfl, fun w hw => ⟨zcr (zbc hw List.mem_cons_self), hp w (zbc hw (List.mem_cons_of_mem _ List.mem_cons_self))⟩, ho9, by rw [hos, show i = rs.length by omega]; unfold trK trA; rw [List.length_map]⟩
theorem FlatTrace_ret (m : Md) (rs : List CRow) (ui : Value) (w : World) (hr : RdsMd w m) (hfl : FlP m) (hn : RdsCl w ui rs) (hI : InI m (rs.map CRow.xs)) :
   Calls Try.prog 19 #[.agg #[m.sv, m.av, m.iv, m.mv], ui] w (Ret w (fun u_ p_ => ∃ (os9 : List CRow) (ps9 : List HP), p_ = [bigE ps9] ∧ (∀ w, (bigE ps9).holds w → RdsCl w u_ os9) ∧ u_.oneCell' = true ∧ os9.map CRow.xs = trK m (rs.map CRow.xs))) := by
 refine zbw (N := 14) (args := [.agg #[m.sv, m.av, m.iv, m.mv], ui]) Try.func19 rfl rfl (srQ ?_)
 refine zdk rfl (zda rfl rfl) ?_
 intro b1
 refine zaz 1 rfl (srQ (hvQ rfl (zau (cs := [m.sv, m.av, m.iv, m.mv]) rfl rfl rfl rfl rfl (zaq 0 rfl 0 rfl)) (zah 1 rfl ?_)))
 refine zfq rfl rfl rfl (zaw rfl rfl (fun w hm => flatCycles_ret m rs _ w (hr.below hm.bel) hfl (hn.below hm.bel) hI)) ?_
 intro v2 p3 hR4
 obtain ⟨lv, ls, lp, rfl, rfl, hlp, hl1, hlx⟩ := hR4
 have hll := trK_len hlx
 rw [List.length_map] at hll
 refine zaz 5 rfl (zbh 2 rfl ?_)
 exact zap (zcw (rs := [.tmp 4]) (vs := [lv]) (post := [bigE lp]) rfl ⟨rfl, trivial⟩ rfl (slQ [0] rfl) ⟨ls, lp, rfl, hlp, hl1, hlx⟩)
theorem FlatRun_ret (m : Md) (rs : List CRow) (ui : Value) (w : World) (hr : RdsMd w m) (hfl : FlP m) (hn : RdsCl w ui rs) (hI : InI m (rs.map CRow.xs)) :
   Calls Try.prog 18 #[.agg #[m.sv, m.av, m.iv, m.mv], ui] w (Ret w (fun u_ p_ => ∃ (os9 : List CRow) (ps9 : List HP), p_ = [bigE ps9] ∧ (∀ w, (bigE ps9).holds w → RdsCl w u_ os9) ∧ u_.oneCell' = true ∧ os9.map CRow.xs = (trK m (rs.map CRow.xs)).map (ouK m))) := by
 have hln := hfl.lens
 have hI1 := hI.1
 rw [List.length_map] at hI1
 refine zbw (N := 30) (args := [.agg #[m.sv, m.av, m.iv, m.mv], ui]) Try.func18 rfl rfl (srQ ?_)
 refine zdk rfl (zda rfl rfl) ?_
 intro b1
 refine zaz 1 rfl (srQ (hvQ rfl (zau (cs := [m.sv, m.av, m.iv, m.mv]) rfl rfl rfl rfl rfl (zaq 0 rfl 0 rfl)) (zah 1 rfl ?_)))
 refine zfq rfl rfl rfl (zaw rfl rfl (fun w hm => flatCycles_ret m rs _ w (hr.below hm.bel) hfl (hn.below hm.bel) hI)) ?_
 intro v2 p3 hR4
 obtain ⟨lv, ls, lp, rfl, rfl, hlp, hl1, hlx⟩ := hR4
 have hll := trK_len hlx
 rw [List.length_map] at hll
 refine zaz 5 rfl (srQ ?_)
 refine zdo 48 1 ?_
 refine zcs (l' := [rowE 48 1 (.slice none 0 0) (([] : List CRow).length) (([] : List CRow).flatMap crowC), bigE lp, boxE b1 #[m.sv, m.av, m.iv, m.mv] 35]) rfl ?_
 refine zaz 1 rfl (zag (zag (reQ 1 rfl ?_)))
 refine hvQ rfl (lnQ rfl rfl rfl (fun w hm => (hlp w (hm.holds _ (zcc (i := 1) rfl))).row)) (zaz 1 rfl (zba ?_))
 refine zey [bigE [], rowE 48 1 (.slice none 0 0) (([] : List CRow).length) (([] : List CRow).flatMap crowC), bigE lp, boxE b1 #[m.sv, m.av, m.iv, m.mv] 35] zed ?_
 refine lkQ4 (α := Nat) (β := List CRow) (γ := Value) (δ := List HP) [0, 1, 2, 4, 5, 16, 17] rfl (fun i os tv ps => [bigE ps, rowE 48 1 tv os.length (os.flatMap crowC), bigE lp, boxE b1 #[m.sv, m.av, m.iv, m.mv] 35]) (fun i os tv ps => [(7, tv), (18, .int .i64 (i : Int))]) (fun i os tv ps => i ≤ ls.length ∧ os.map CRow.xs = (ls.take i).map (fun r => ouK m r.xs) ∧ ∀ w, (bigE ps).holds w → ∀ q ∈ os, RdsW w q.v 1 q.xs.length (q.xs.map (Value.int .i64))) (fun i os tv ps => ls.length - i) 0 [] _ [] ⟨Nat.zero_le _, rfl, fun w hw q hq => (by cases hq)⟩ (saQ rfl) (pfQ rfl) ?_
 intro i os tv ps hi6
 obtain ⟨hi, hos, hp⟩ := hi6
 have hol : os.length = i := by have h9 := congrArg List.length hos; rw [List.length_map, List.length_map, List.length_take] at h9; omega
 refine srQ ?_
 refine zbp rfl rfl rfl rfl rfl rfl (fun h7 => ?_) (fun h7 => ?_)
 ·
  refine ntQ (tcQ rfl (zcy (sbQ (srQ ?_))))
  refine hvQ rfl (riQ 1 rfl rfl rfl rfl (fun w hm => (hlp w (hm.holds _ (zcc (i := 2) rfl))).row)) (hvQ rfl (zak (u := (ls.getD i crow0).v) rfl rfl rfl (fun w hm => (hlp w (hm.holds _ (zcc (i := 2) rfl))).row) (zer crowC (fun r => r.v) (fun _ => rfl) ls crow0 (show i < _ by omega))) ?_)
  refine zaz 1 rfl (reQ 1 rfl ?_)
  have hvo : VlP m (ls.getD i crow0).xs := by rw [trK_at hlx (by omega)]; exact vlT_ok hfl (rs.map CRow.xs) i
  refine hvQ rfl (zau (cs := [m.sv, m.av, m.iv, m.mv]) rfl rfl rfl rfl rfl (zaq 3 rfl 0 rfl)) (zah 1 rfl ?_)
  refine zfq rfl rfl rfl (zaw rfl rfl (fun w hm => outputValues_ret m ((ls.getD i crow0).xs) ((ls.getD i crow0).v) w (hr.below hm.bel) ((fun w hm => (hlp w (hm.holds _ (zcc (i := 2) rfl))).at (k := i) (by omega)) w hm) hvo.len hln.1)) ?_
  intro v8 p9 hR10
  subst hR10
  refine zdu rfl (zfb rfl Try.underlying44 (by kernel_rfl) rfl (fun w hm => (zai 0 rfl w hm).one)) ?_
  intro g11
  refine zcn (i := 1) rfl (fun ho12 => ?_)
  refine zcq (i := 3) (z := .slice none 0 0) (bytes := 24) rfl rfl rfl rfl Try.underlying44 (by kernel_rfl) rfl rfl rfl rfl (zai 0 rfl) (zab ho12 zbb) (by first | omega | (simp only [List.length_append, List.length_cons, List.length_nil]; omega)) (zci os [(CRow.mk v8 (ouK m (ls.getD i crow0).xs))]) (zdi crowC os (CRow.mk v8 (ouK m (ls.getD i crow0).xs)) _ rfl) (fun _ => rfl) ?_
  intro v13
  refine enQ 1 rfl (zde (zao (hvQ rfl (vaQ rfl rfl rfl) (enQ 1 rfl ?_))))
  refine zbk 6 [5, 4, 3, 1, 2] rfl rfl (by decide) ?_
  refine zcf 2 rfl ?_
  exact zdt (i + 1) (os ++ [(CRow.mk v8 (ouK m (ls.getD i crow0).xs))]) v13 [bigE ps, rowE 3 1 v8 ((ouK m ((ls.getD i crow0).xs)).length) ((ouK m ((ls.getD i crow0).xs)).map (Value.int .i64))] ⟨by omega, by rw [List.map_append, hos, zez crow0 (show i < ls.length by omega), List.map_append]; rfl, fun w hw => RdsCl.snoc (v := lv) (v' := lv) (hp w (zbc hw List.mem_cons_self)) (zcr (zbc hw (List.mem_cons_of_mem _ List.mem_cons_self)))⟩ (by omega) (saQ rfl) (pfQ rfl)
 refine ntQ (fcQ rfl ?_)
 refine zbi (zdv ?_)
 refine zal (zar (zbh 2 rfl ?_))
 refine zap (zex (fun w hm => (zai 1 rfl w hm).one) (fun ho9 => ?_))
 refine zbk 4 [3, 2, 0, 1] rfl rfl (by decide) ?_
 refine zcf 2 rfl ?_
 exact zcw (rs := [.tmp 4]) (vs := [tv]) (post := [bigE [rowE 48 1 tv os.length (os.flatMap crowC), bigE ps]]) rfl ⟨rfl, trivial⟩ rfl (slQ [0] rfl) ⟨os, _, rfl, fun w hw => ⟨zcr (zbc hw List.mem_cons_self), hp w (zbc hw (List.mem_cons_of_mem _ List.mem_cons_self))⟩, ho9, by rw [hos, show i = ls.length by omega, List.take_length, ← hlx, List.map_map]; rfl⟩
def asV (g : As) : Int × List Oq := (g.t, g.os)
def MdOne (m : Md) : Prop := m.sv.oneCell' = true ∧ m.av.oneCell' = true ∧ m.iv.oneCell' = true ∧ m.mv.oneCell' = true
theorem RdsMd.ones {w : World} {m : Md} (h : RdsMd w m) : MdOne m := ⟨h.s.one, h.g.one, h.x.one, h.m.one⟩
structure Fz where
  ss : List Sg
  gs : List (Int × List Oq)
  ms : List Mm
abbrev fz0 : Fz := ⟨[], [], []⟩
def wdF (p : Int) (s : Sg) : Int := if s.w = 0 then p else s.w
def sgF (m : Md) (p : Int) (c : Bool) (P : List Int) (S0 : List Sg) : Nat → Option (List Int × Nat × List Sg)
  | 0 => some ([], 0, S0)
  | i + 1 => (sgF m p c P S0 i).bind (fun r =>
      if c = true ∧ isPt (m.ss.getD i sg0) = true then
        (if (r.2.2.getD (P.getD r.2.1 0).toNat sg0).w = wdF p (m.ss.getD i sg0) then some (r.1 ++ [P.getD r.2.1 0], r.2.1 + 1, r.2.2) else none)
      else some (r.1 ++ [(r.2.2.length : Int)], r.2.1, r.2.2 ++ [⟨(m.ss.getD i sg0).k, wdF p (m.ss.getD i sg0), (m.ss.getD i sg0).i⟩]))
def opF (ids : List Int) (p : Int) (o : Oq) : Oq := if o.k = 1 then ⟨0, p, 0⟩ else if o.k = 2 ∨ o.k = 3 then ⟨o.k, ids.getD o.a.toNat 0, o.b⟩ else o
def asF (ids : List Int) (p : Int) (g : As) : Int × List Oq := (ids.getD g.t.toNat 0, g.os.map (opF ids p))
def mmF (ids : List Int) (x : Mm) : Mm := ⟨ids.getD x.a.toNat 0, ids.getD x.d.toNat 0, ids.getD x.w.toNat 0, ids.getD x.o.toNat 0⟩
def inP (p : Int) (x : Ix) : Int := if x.p = 0 then p else x.p
def ptF (ids : List Int) (x : Ix) : List Int := x.ps.map (fun q => ids.getD q.toNat 0)
def insA (g : Nat → Int → List Int → Fz → Option Fz) (ids : List Int) (p : Int) (xs : List Ix) (F : Fz) : Nat → Option Fz
  | 0 => some F
  | i + 1 => (insA g ids p xs F i).bind (fun G => g (xs.getD i ix0).m.toNat (inP p (xs.getD i ix0)) (ptF ids (xs.getD i ix0)) G)
def Fz.Ok (F : Fz) : Prop := F.ss.length ≤ 30 ∧ F.gs.length ≤ 30 ∧ F.ms.length ≤ 2
instance (F : Fz) : Decidable F.Ok := by unfold Fz.Ok; infer_instance
def ownF (m : Md) (p : Int) (F : Fz) (r : List Int × Nat × List Sg) : Fz := ⟨r.2.2, F.gs ++ m.gs.map (asF r.1 p), F.ms ++ m.ms.map (mmF r.1)⟩
def addF (D : List Md) : Nat → Nat → Int → Bool → List Int → Fz → Option Fz
  | 0, _, _, _, _, _ => none
  | f + 1, k, p, c, P, F => (sgF (D.getD k md0) p c P F.ss (D.getD k md0).ss.length).bind (fun r =>
      if (ownF (D.getD k md0) p F r).Ok then insA (fun k p P G => addF D f k p true P G) r.1 p (D.getD k md0).xs (ownF (D.getD k md0) p F r) (D.getD k md0).xs.length else none)
def InN (n : Nat) (L : List Int) : Prop := ∀ x ∈ L, 0 ≤ x ∧ x < n
theorem InN.nil (n : Nat) : InN n [] := fun x h => by cases h
theorem InN.mono {n k : Nat} {L : List Int} (h : InN n L) (hk : n ≤ k) : InN k L := fun x hx => by have := h x hx; omega
theorem InN.app {n : Nat} {L : List Int} (h : InN n L) {x : Int} (hx : 0 ≤ x ∧ x < n) : InN n (L ++ [x]) := fun y hy => by
  rcases List.mem_append.1 hy with hy | hy
  · exact h y hy
  · rw [List.mem_singleton] at hy; subst hy; exact hx
theorem InN.at {n : Nat} {L : List Int} (h : InN n L) {j : Nat} (hj : j < L.length) : 0 ≤ L.getD j 0 ∧ L.getD j 0 < n := h _ (zch hj)
def PoP (m : Md) (c : Bool) (P : List Int) (n : Nat) : Prop := c = true → P.length = (ptsK m).length ∧ InN n P
def ptN (m : Md) (c : Bool) (i : Nat) : Nat := if c = true then (ptsA m.ss i).length else 0
theorem ptsA_mono (ss : List Sg) {i j : Nat} (h : i ≤ j) : (ptsA ss i).length ≤ (ptsA ss j).length := by
  induction h with
  | refl => exact Nat.le_refl _
  | step h ih => exact Nat.le_trans ih (by show _ ≤ (ptsA ss _ ++ _).length; rw [List.length_append]; exact Nat.le_add_right _ _)
theorem ptN_lt {m : Md} {c : Bool} {P : List Int} {n i : Nat} (h : PoP m c P n) (hl : m.ss.length ≤ 30) (hi : i < m.ss.length) (hc : c = true) (hp : isPt (m.ss.getD i sg0) = true) : ptN m c i < P.length := by
  rw [(h hc).1]; unfold ptN ptsK; rw [if_pos hc, if_pos hl]
  have h1 := ptsA_mono m.ss (show i + 1 ≤ m.ss.length from hi)
  have h2 : (ptsA m.ss (i + 1)).length = (ptsA m.ss i).length + 1 := by rw [← ptsA_yes (zfk.1 hp), List.length_append]; rfl
  omega
theorem sgF_ok {m : Md} {p : Int} {c : Bool} {P : List Int} {S0 : List Sg} (h : PoP m c P S0.length) (hl : m.ss.length ≤ 30) : ∀ (i : Nat) (r : List Int × Nat × List Sg), i ≤ m.ss.length → sgF m p c P S0 i = some r → r.1.length = i ∧ InN r.2.2.length r.1 ∧ r.2.1 = ptN m c i ∧ S0.length ≤ r.2.2.length ∧ r.2.2.length ≤ S0.length + i
  | 0, r, _, e => by
    have e := Option.some.inj e; subst e
    exact ⟨rfl, InN.nil _, by unfold ptN; split <;> rfl, Nat.le_refl _, Nat.le_refl _⟩
  | i + 1, r, hi, e => by
    unfold sgF at e
    obtain ⟨q, hq, e⟩ := Option.bind_eq_some_iff.1 e
    obtain ⟨h1, h2, h3, h4, h5⟩ := sgF_ok h hl i q (by omega) hq
    split at e
    · rename_i hc
      split at e
      · have e := Option.some.inj e; subst e
        have hp := (h hc.1).2.at (j := q.2.1) (by rw [h3]; exact ptN_lt h hl (by omega) hc.1 hc.2)
        refine ⟨by show (q.1 ++ [_]).length = _; rw [List.length_append, h1]; rfl, h2.app (by omega), ?_, h4, by show q.2.2.length ≤ _; omega⟩
        show q.2.1 + 1 = _
        rw [h3]; unfold ptN; rw [if_pos hc.1, if_pos hc.1, ← ptsA_yes (zfk.1 hc.2), List.length_append]; rfl
      · cases e
    · rename_i hc
      have e := Option.some.inj e; subst e
      have hl2 : (q.2.2 ++ [(⟨(m.ss.getD i sg0).k, wdF p (m.ss.getD i sg0), (m.ss.getD i sg0).i⟩ : Sg)]).length = q.2.2.length + 1 := by rw [List.length_append]; rfl
      refine ⟨by show (q.1 ++ [_]).length = _; rw [List.length_append, h1]; rfl, ?_, ?_, by show _ ≤ (q.2.2 ++ [_]).length; rw [hl2]; omega, by show (q.2.2 ++ [_]).length ≤ _; rw [hl2]; omega⟩
      · show InN (q.2.2 ++ [_]).length _
        rw [hl2]; exact (h2.mono (by omega)).app (by omega)
      · show q.2.1 = _
        rw [h3]; unfold ptN
        by_cases hc2 : c = true
        · rw [if_pos hc2, if_pos hc2, ← ptsA_no (fun hp => hc ⟨hc2, zfk.2 hp⟩)]
        · rw [if_neg hc2, if_neg hc2]
theorem insA_ok {g : Nat → Int → List Int → Fz → Option Fz} {ids : List Int} {p : Int} {xs : List Ix} {F : Fz} (hF : F.Ok) (hg : ∀ k p P (A B : Fz), A.Ok → g k p P A = some B → B.Ok ∧ A.ss.length ≤ B.ss.length) : ∀ (i : Nat) (G : Fz), insA g ids p xs F i = some G → G.Ok ∧ F.ss.length ≤ G.ss.length
  | 0, G, e => by have e := Option.some.inj e; subst e; exact ⟨hF, Nat.le_refl _⟩
  | i + 1, G, e => by
    unfold insA at e
    obtain ⟨q, hq, e⟩ := Option.bind_eq_some_iff.1 e
    obtain ⟨h1, h2⟩ := insA_ok hF hg i q hq
    obtain ⟨h3, h4⟩ := hg _ _ _ _ _ h1 e
    exact ⟨h3, Nat.le_trans h2 h4⟩
theorem sgF_le {m : Md} {p : Int} {c : Bool} {P : List Int} {S0 : List Sg} : ∀ (i : Nat) (r : List Int × Nat × List Sg), sgF m p c P S0 i = some r → S0.length ≤ r.2.2.length
  | 0, r, e => by have e := Option.some.inj e; subst e; exact Nat.le_refl _
  | i + 1, r, e => by
    unfold sgF at e
    obtain ⟨q, hq, e⟩ := Option.bind_eq_some_iff.1 e
    have h1 := sgF_le i q hq
    split at e
    · split at e
      · have e := Option.some.inj e; subst e; exact h1
      · cases e
    · have e := Option.some.inj e; subst e
      show _ ≤ (q.2.2 ++ [_]).length
      rw [List.length_append]; omega
theorem addF_ok {D : List Md} : ∀ (f k : Nat) (p : Int) (c : Bool) (P : List Int) (F G : Fz), addF D f k p c P F = some G → G.Ok ∧ F.ss.length ≤ G.ss.length
  | 0, k, p, c, P, F, G, e => by cases e
  | f + 1, k, p, c, P, F, G, e => by
    unfold addF at e
    obtain ⟨r, hr, e⟩ := Option.bind_eq_some_iff.1 e
    split at e
    · rename_i ho
      obtain ⟨h1, h2⟩ := insA_ok ho (fun k p P A B _ e => addF_ok f k p true P A B e) _ _ e
      exact ⟨h1, Nat.le_trans (sgF_le _ _ hr) h2⟩
    · cases e
theorem sgF_port {m : Md} {p : Int} {c : Bool} {P : List Int} {S0 : List Sg} {i : Nat} {ids : List Int} {n : Nat} {S : List Sg} (h : sgF m p c P S0 i = some (ids, n, S)) (hc : c = true) (hp : isPt (m.ss.getD i sg0) = true) (hw : (S.getD (P.getD n 0).toNat sg0).w = wdF p (m.ss.getD i sg0)) : sgF m p c P S0 (i + 1) = some (ids ++ [P.getD n 0], n + 1, S) := by
  unfold sgF; rw [h]; show (if _ then _ else _) = _; rw [if_pos ⟨hc, hp⟩]; show (if _ then _ else _) = _; rw [if_pos hw]
theorem sgF_bad {m : Md} {p : Int} {c : Bool} {P : List Int} {S0 : List Sg} {i : Nat} {ids : List Int} {n : Nat} {S : List Sg} (h : sgF m p c P S0 i = some (ids, n, S)) (hc : c = true) (hp : isPt (m.ss.getD i sg0) = true) (hw : ¬ (S.getD (P.getD n 0).toNat sg0).w = wdF p (m.ss.getD i sg0)) : sgF m p c P S0 (i + 1) = none := by
  unfold sgF; rw [h]; show (if _ then _ else _) = _; rw [if_pos ⟨hc, hp⟩]; show (if _ then _ else _) = _; rw [if_neg hw]
theorem sgF_new {m : Md} {p : Int} {c : Bool} {P : List Int} {S0 : List Sg} {i : Nat} {ids : List Int} {n : Nat} {S : List Sg} (h : sgF m p c P S0 i = some (ids, n, S)) (hc : ¬ (c = true ∧ isPt (m.ss.getD i sg0) = true)) : sgF m p c P S0 (i + 1) = some (ids ++ [(S.length : Int)], n, S ++ [⟨(m.ss.getD i sg0).k, wdF p (m.ss.getD i sg0), (m.ss.getD i sg0).i⟩]) := by
  unfold sgF; rw [h]; show (if _ then _ else _) = _; rw [if_neg hc]
theorem sgF_none {m : Md} {p : Int} {c : Bool} {P : List Int} {S0 : List Sg} {i : Nat} (h : sgF m p c P S0 i = none) : ∀ j, i ≤ j → sgF m p c P S0 j = none := by
  intro j hj
  induction hj with
  | refl => exact h
  | step h2 ih => show (sgF _ _ _ _ _ _).bind _ = _; rw [ih]; rfl
theorem zgb {g : Nat → Int → List Int → Fz → Option Fz} {ids : List Int} {p : Int} {xs : List Ix} {F : Fz} {i : Nat} (h : insA g ids p xs F i = none) : ∀ j, i ≤ j → insA g ids p xs F j = none := by
  intro j hj
  induction hj with
  | refl => exact h
  | step h2 ih => show (insA _ _ _ _ _ _).bind _ = _; rw [ih]; rfl
theorem zfu {g : Nat → Int → List Int → Fz → Option Fz} {ids : List Int} {p : Int} {xs : List Ix} {F G : Fz} {i : Nat} (h : insA g ids p xs F i = some G) : insA g ids p xs F (i + 1) = g (xs.getD i ix0).m.toNat (inP p (xs.getD i ix0)) (ptF ids (xs.getD i ix0)) G := by
  unfold insA; rw [h]; rfl
theorem zge {D : List Md} {f k : Nat} {p : Int} {c : Bool} {P : List Int} {F : Fz} {i : Nat} (h : sgF (D.getD k md0) p c P F.ss i = none) (hi : i ≤ (D.getD k md0).ss.length) : addF D (f + 1) k p c P F = none := by
  show (sgF _ _ _ _ _ _).bind _ = _; rw [sgF_none h _ hi]; rfl
theorem addF_big {D : List Md} {f k : Nat} {p : Int} {c : Bool} {P : List Int} {F : Fz} {r : List Int × Nat × List Sg} (h : sgF (D.getD k md0) p c P F.ss (D.getD k md0).ss.length = some r) (hb : ¬ (ownF (D.getD k md0) p F r).Ok) : addF D (f + 1) k p c P F = none := by
  show (sgF _ _ _ _ _ _).bind _ = _; rw [h]; show (if _ then _ else _) = _; rw [if_neg hb]
theorem addF_go {D : List Md} {f k : Nat} {p : Int} {c : Bool} {P : List Int} {F : Fz} {r : List Int × Nat × List Sg} (h : sgF (D.getD k md0) p c P F.ss (D.getD k md0).ss.length = some r) (hb : (ownF (D.getD k md0) p F r).Ok) : addF D (f + 1) k p c P F = insA (fun k p P G => addF D f k p true P G) r.1 p (D.getD k md0).xs (ownF (D.getD k md0) p F r) (D.getD k md0).xs.length := by
  show (sgF _ _ _ _ _ _).bind _ = _; rw [h]; show (if _ then _ else _) = _; rw [if_pos hb]
abbrev flQ (a b d : Value) (ss : List Sg) (gs : List As) (ms : List Mm) (ps : List HP) : List HP := [rowE 38 3 a ss.length (ss.flatMap sgC), rowE 89 2 b gs.length (gs.flatMap asC), rowE 94 4 d ms.length (ms.flatMap mmC), bigE ps]
def AddOk (G : Fz) (a b d : Value) (qs : List HP) : Prop := ∃ (gs : List As) (ps : List HP), qs = flQ a b d G.ss gs G.ms ps ∧ (∀ w, (bigE ps).holds w → OpsR w gs) ∧ gs.map asV = G.gs
def AddR (o : Option Fz) (u_ : Value) (p_ : HP) : Prop := ∃ (a b d : Value) (ok : Bool) (qs : List HP), u_ = .tuple #[.agg #[a, b, .slice none 0 0, d], .bool ok] ∧ p_ = bigE qs ∧ (a.oneCell' = true ∧ b.oneCell' = true ∧ d.oneCell' = true) ∧ (ok = true → ∃ G, o = some G ∧ AddOk G a b d qs) ∧ (ok = false → o = none)
theorem flat_nil {w0 w : World} {l : List HP} (h : Mem w0 l w) : Mem w0 (bigE (flQ (.slice none 0 0) (.slice none 0 0) (.slice none 0 0) [] [] [] []) :: l) w := by
  have h1 : Mem w0 (bigE [] :: l) w := Mem.big (ps := []) h
  have h2 := ((h1.nilRow 94 4).nilRow 89 2).nilRow 38 3
  exact Mem.big (ps := flQ (.slice none 0 0) (.slice none 0 0) (.slice none 0 0) [] [] [] []) h2
theorem ownF_iff {m : Md} {p : Int} {F : Fz} {ids : List Int} {n : Nat} {S : List Sg} {G : List As} {Ms : List Mm} (hG : G.map asV = F.gs ++ m.gs.map (asF ids p)) (hM : Ms = F.ms ++ m.ms.map (mmF ids)) : (ownF m p F (ids, n, S)).Ok ↔ S.length ≤ 30 ∧ G.length ≤ 30 ∧ Ms.length ≤ 2 := by
  have h1 : (F.gs ++ m.gs.map (asF ids p)).length = G.length := by rw [← hG, List.length_map]
  have h2 : (F.ms ++ m.ms.map (mmF ids)).length = Ms.length := by rw [hM]
  show S.length ≤ 30 ∧ (F.gs ++ m.gs.map (asF ids p)).length ≤ 30 ∧ (F.ms ++ m.ms.map (mmF ids)).length ≤ 2 ↔ _
  rw [h1, h2]
theorem ptF_take {ids : List Int} {L zs : List Int} {j : Nat} (hz : zs = (L.take j).map (fun q => ids.getD q.toNat 0)) (hj : j < L.length) : zs ++ [ids.getD (L.getD j 0).toNat 0] = (L.take (j + 1)).map (fun q => ids.getD q.toNat 0) := by
  rw [zez 0 hj, List.map_append, ← hz]; rfl
theorem ptF_in {n : Nat} {ids : List Int} {x : Ix} (h : InN n ids) (hp : ∀ j, j < x.ps.length → 0 ≤ x.ps.getD j 0 ∧ x.ps.getD j 0 < ids.length) : InN n (ptF ids x) := fun y hy => by
  obtain ⟨q, hq, rfl⟩ := List.mem_map.1 hy
  obtain ⟨j, hj, rfl⟩ := List.mem_iff_getElem.1 hq
  have h1 := hp j hj
  rw [List.getD_eq_getElem?_getD, List.getElem?_eq_getElem hj] at h1
  have h1 : 0 ≤ x.ps[j] ∧ x.ps[j] < ids.length := h1
  exact h.at (by omega)
theorem ptF_len (ids : List Int) (x : Ix) : (ptF ids x).length = x.ps.length := by unfold ptF; rw [List.length_map]
theorem zgl (x lo hi : Int) (w : World)  :
   Calls Try.prog 69 #[.int .i64 x, .int .i64 lo, .int .i64 hi] w (Ans w (.bool (inR x lo hi))) := by
 refine zbw (N := 15) (args := [.int .i64 x, .int .i64 lo, .int .i64 hi]) Try.func69 rfl rfl (zbh 1 rfl (zag (reQ 2 rfl ?_)))
 refine hl_geq rfl rfl rfl rfl rfl rfl (fun h1 => ?_) (fun h1 => ?_)
 ·
  refine zah 3 rfl (hl_leq rfl rfl rfl rfl rfl rfl (fun h2 => ?_) (fun h2 => ?_))
  ·
   refine zaz 2 rfl ?_
   exact zap (zay rfl rfl (congrArg _ (((zdd _ _ _).2 (by omega)).symm)))
  refine zaz 2 rfl ?_
  exact zap (zay rfl rfl (congrArg _ ((Bool.eq_false_iff.2 (fun h => by have := (zdd _ _ _).1 h; omega)).symm)))
 refine zaz 6 rfl ?_
 exact zap (zay rfl rfl (congrArg _ ((Bool.eq_false_iff.2 (fun h => by have := (zdd _ _ _).1 h; omega)).symm)))
theorem zgg (k : Int) (w : World)  :
   Calls Try.prog 124 #[.int .i64 k] w (Ans w (.int .i64 (arI k))) := by
 refine zbw (N := 12) (args := [.int .i64 k]) Try.func124 rfl rfl (zbh 1 rfl (zag (zag (reQ 1 rfl ?_))))
 refine zej rfl (zaw rfl rfl (fun w hm => zbe (zgl k 0 12 w))) (zbq (fun h1 => ?_) (fun h1 => ?_))
 ·
  obtain ⟨h1a, h1b⟩ := (zdd _ _ _).1 h1
  refine zaz 1 rfl (zas rfl (zcy (zag (zag (reQ 1 rfl ?_)))))
  refine hl_leq rfl rfl rfl rfl rfl rfl (fun h2 => ?_) (fun h2 => ?_)
  ·
   refine ntQ (zaj rfl (zbh 1 rfl ?_))
   refine zap (zaf ?_)
   exact zay rfl rfl (congrArg (Value.int .i64) (by unfold arI; (repeat' split) <;> first | rfl | (exfalso; omega)))
  refine ntQ (zas rfl (zcy (zag (zag (reQ 1 rfl ?_)))))
  refine zbu rfl rfl rfl rfl rfl rfl (fun h3 => ?_) (fun h3 => ?_)
  ·
   refine ntQ (zaj rfl (zbh 1 rfl ?_))
   refine zap (zaf ?_)
   exact zay rfl rfl (congrArg (Value.int .i64) (by unfold arI; (repeat' split) <;> first | rfl | (exfalso; omega)))
  refine ntQ (zas rfl (zcy (zag (zag (reQ 1 rfl ?_)))))
  refine zbu rfl rfl rfl rfl rfl rfl (fun h4 => ?_) (fun h4 => ?_)
  ·
   refine ntQ (zaj rfl (zbh 1 rfl ?_))
   refine zap (zaf ?_)
   exact zay rfl rfl (congrArg (Value.int .i64) (by unfold arI; (repeat' split) <;> first | rfl | (exfalso; omega)))
  refine ntQ (zas rfl (zcy (zbh 1 rfl ?_)))
  exact zap (zay rfl rfl (congrArg (Value.int .i64) (by unfold arI; (repeat' split) <;> first | rfl | (exfalso; omega))))
 have h1a := zcz h1
 refine zaz 1 rfl (zaj rfl (zbh 1 rfl ?_))
 refine zap (zaf ?_)
 exact zay rfl rfl (congrArg (Value.int .i64) (by unfold arI; (repeat' split) <;> first | rfl | (exfalso; omega)))
theorem l04Op_ans (o : Oq) (n : Int) (w : World)  :
   Calls Try.prog 126 #[.agg #[.int .i64 o.k, .int .i64 o.a, .int .i64 o.b], .int .i64 n] w (Ans w (.bool (pB (OqP n o)))) := by
 refine zbw (N := 63) (args := [.agg #[.int .i64 o.k, .int .i64 o.a, .int .i64 o.b], .int .i64 n]) Try.func126 rfl rfl (srQ ?_)
 refine zdk rfl (zda rfl rfl) ?_
 intro b1
 refine zaz 1 rfl (zfh (hvQ rfl (fdQ 0 rfl rfl rfl) (hvQ rfl (zac rfl rfl rfl (zaa 0 rfl rfl)) (ntQ (zba (zag ?_))))))
 refine zao (zbu rfl rfl rfl rfl rfl rfl (fun h2 => ?_) (fun h2 => ?_))
 ·
  refine zaz 1 rfl (zaj rfl (srQ (hvQ rfl (fdQ 1 rfl rfl rfl) (hvQ rfl (zac rfl rfl rfl (zaa 0 rfl rfl)) ?_))))
  refine zej rfl (zaw rfl rfl (fun w hm => zbe (zgl o.a 0 15 w))) (zbq (fun h3 => ?_) (fun h3 => ?_))
  ·
   obtain ⟨h3a, h3b⟩ := (zdd _ _ _).1 h3
   refine zah 1 rfl (hvQ rfl (fdQ 2 rfl rfl rfl) (hvQ rfl (zac rfl rfl rfl (zaa 0 rfl rfl)) ?_))
   refine zbu rfl rfl rfl rfl rfl rfl (fun h4 => ?_) (fun h4 => ?_)
   ·
    refine zaz 2 rfl ?_
    refine zap (zad ?_)
    exact zaf (zay rfl rfl (congrArg _ (zdf (by first | exact .inl ⟨by omega, ⟨by omega, by omega⟩, by omega⟩ | exact .inr (.inl ⟨by omega, ⟨by omega, by omega⟩, by omega⟩) | exact .inr (.inr (.inl ⟨by omega, ⟨by omega, by omega⟩, by omega, by omega⟩)) | exact .inr (.inr (.inr ⟨by omega, by omega, by omega, by omega, by omega, by omega⟩)))).symm))
   refine zaz 2 rfl ?_
   refine zap (zad ?_)
   exact zaf (zay rfl rfl (congrArg _ (zcb (fun hp => by first | (rcases hp with ⟨p1, p2, p3⟩ | ⟨p1, p2, p3⟩ | ⟨p1, p2, p3⟩ | ⟨p1, p2, p3, p4, p5, p6⟩ <;> omega))).symm))
  have h3a := zcz h3
  refine zaz 6 rfl ?_
  refine zap (zad ?_)
  exact zaf (zay rfl rfl (congrArg _ (zcb (fun hp => by first | (rcases hp with ⟨p1, p2, p3⟩ | ⟨p1, p2, p3⟩ | ⟨p1, p2, p3⟩ | ⟨p1, p2, p3, p4, p5, p6⟩ <;> omega))).symm))
 refine zaz 1 rfl (zas rfl (srQ ?_))
 refine zbu rfl rfl rfl rfl rfl rfl (fun h5 => ?_) (fun h5 => ?_)
 ·
  refine zaz 1 rfl (zaj rfl (srQ (hvQ rfl (fdQ 1 rfl rfl rfl) (hvQ rfl (zac rfl rfl rfl (zaa 0 rfl rfl)) ?_))))
  refine hl_geq rfl rfl rfl rfl rfl rfl (fun h6 => ?_) (fun h6 => ?_)
  ·
   refine zah 1 rfl (hvQ rfl (fdQ 1 rfl rfl rfl) (hvQ rfl (zac rfl rfl rfl (zaa 0 rfl rfl)) (zah 1 rfl ?_)))
   refine zbp rfl rfl rfl rfl rfl rfl (fun h7 => ?_) (fun h7 => ?_)
   ·
    refine zah 2 rfl (hvQ rfl (fdQ 2 rfl rfl rfl) (hvQ rfl (zac rfl rfl rfl (zaa 0 rfl rfl)) ?_))
    refine zbu rfl rfl rfl rfl rfl rfl (fun h8 => ?_) (fun h8 => ?_)
    ·
     refine zaz 2 rfl ?_
     refine zap (zad ?_)
     exact zaf (zay rfl rfl (congrArg _ (zdf (by first | exact .inl ⟨by omega, ⟨by omega, by omega⟩, by omega⟩ | exact .inr (.inl ⟨by omega, ⟨by omega, by omega⟩, by omega⟩) | exact .inr (.inr (.inl ⟨by omega, ⟨by omega, by omega⟩, by omega, by omega⟩)) | exact .inr (.inr (.inr ⟨by omega, by omega, by omega, by omega, by omega, by omega⟩)))).symm))
    refine zaz 2 rfl ?_
    refine zap (zad ?_)
    exact zaf (zay rfl rfl (congrArg _ (zcb (fun hp => by first | (rcases hp with ⟨p1, p2, p3⟩ | ⟨p1, p2, p3⟩ | ⟨p1, p2, p3⟩ | ⟨p1, p2, p3, p4, p5, p6⟩ <;> omega))).symm))
   refine zaz 7 rfl ?_
   refine zap (zad ?_)
   exact zaf (zay rfl rfl (congrArg _ (zcb (fun hp => by first | (rcases hp with ⟨p1, p2, p3⟩ | ⟨p1, p2, p3⟩ | ⟨p1, p2, p3⟩ | ⟨p1, p2, p3, p4, p5, p6⟩ <;> omega))).symm))
  refine zaz 12 rfl ?_
  refine zap (zad ?_)
  exact zaf (zay rfl rfl (congrArg _ (zcb (fun hp => by first | (rcases hp with ⟨p1, p2, p3⟩ | ⟨p1, p2, p3⟩ | ⟨p1, p2, p3⟩ | ⟨p1, p2, p3, p4, p5, p6⟩ <;> omega))).symm))
 refine zaz 1 rfl (zas rfl (srQ ?_))
 refine zbu rfl rfl rfl rfl rfl rfl (fun h9 => ?_) (fun h9 => ?_)
 ·
  refine zaz 1 rfl (zaj rfl (srQ (hvQ rfl (fdQ 1 rfl rfl rfl) (hvQ rfl (zac rfl rfl rfl (zaa 0 rfl rfl)) ?_))))
  refine hl_geq rfl rfl rfl rfl rfl rfl (fun h10 => ?_) (fun h10 => ?_)
  ·
   refine zah 1 rfl (hvQ rfl (fdQ 1 rfl rfl rfl) (hvQ rfl (zac rfl rfl rfl (zaa 0 rfl rfl)) (zah 1 rfl ?_)))
   refine zbp rfl rfl rfl rfl rfl rfl (fun h11 => ?_) (fun h11 => ?_)
   ·
    refine zah 2 rfl (hvQ rfl (fdQ 2 rfl rfl rfl) (hvQ rfl (zac rfl rfl rfl (zaa 0 rfl rfl)) ?_))
    refine zej rfl (zaw rfl rfl (fun w hm => zbe (zgl o.b 0 3 w))) (zbq (fun h12 => ?_) (fun h12 => ?_))
    ·
     obtain ⟨h12a, h12b⟩ := (zdd _ _ _).1 h12
     refine zaz 2 rfl ?_
     refine zap (zad ?_)
     exact zaf (zay rfl rfl (congrArg _ (zdf (by first | exact .inl ⟨by omega, ⟨by omega, by omega⟩, by omega⟩ | exact .inr (.inl ⟨by omega, ⟨by omega, by omega⟩, by omega⟩) | exact .inr (.inr (.inl ⟨by omega, ⟨by omega, by omega⟩, by omega, by omega⟩)) | exact .inr (.inr (.inr ⟨by omega, by omega, by omega, by omega, by omega, by omega⟩)))).symm))
    have h12a := zcz h12
    refine zaz 2 rfl ?_
    refine zap (zad ?_)
    exact zaf (zay rfl rfl (congrArg _ (zcb (fun hp => by first | (rcases hp with ⟨p1, p2, p3⟩ | ⟨p1, p2, p3⟩ | ⟨p1, p2, p3⟩ | ⟨p1, p2, p3, p4, p5, p6⟩ <;> omega))).symm))
   refine zaz 7 rfl ?_
   refine zap (zad ?_)
   exact zaf (zay rfl rfl (congrArg _ (zcb (fun hp => by first | (rcases hp with ⟨p1, p2, p3⟩ | ⟨p1, p2, p3⟩ | ⟨p1, p2, p3⟩ | ⟨p1, p2, p3, p4, p5, p6⟩ <;> omega))).symm))
  refine zaz 12 rfl ?_
  refine zap (zad ?_)
  exact zaf (zay rfl rfl (congrArg _ (zcb (fun hp => by first | (rcases hp with ⟨p1, p2, p3⟩ | ⟨p1, p2, p3⟩ | ⟨p1, p2, p3⟩ | ⟨p1, p2, p3, p4, p5, p6⟩ <;> omega))).symm))
 refine zaz 1 rfl (fsQ rfl (zde (srQ (hvQ rfl (fdQ 0 rfl rfl rfl) (hvQ rfl (zac rfl rfl rfl (zaa 0 rfl rfl)) ?_)))))
 refine zej rfl (zaw rfl rfl (fun w hm => zbe (zgg o.k w))) (hl_geq rfl rfl rfl rfl rfl rfl (fun h13 => ?_) (fun h13 => ?_))
 ·
  refine zah 1 rfl (hvQ rfl (fdQ 1 rfl rfl rfl) (hvQ rfl (zac rfl rfl rfl (zaa 0 rfl rfl)) ?_))
  refine zbu rfl rfl rfl rfl rfl rfl (fun h14 => ?_) (fun h14 => ?_)
  ·
   refine zah 2 rfl (hvQ rfl (fdQ 2 rfl rfl rfl) (hvQ rfl (zac rfl rfl rfl (zaa 0 rfl rfl)) ?_))
   refine zbu rfl rfl rfl rfl rfl rfl (fun h15 => ?_) (fun h15 => ?_)
   ·
    refine zaz 2 rfl ?_
    exact zap (zay rfl rfl (congrArg _ (zdf (by first | exact .inl ⟨by omega, ⟨by omega, by omega⟩, by omega⟩ | exact .inr (.inl ⟨by omega, ⟨by omega, by omega⟩, by omega⟩) | exact .inr (.inr (.inl ⟨by omega, ⟨by omega, by omega⟩, by omega, by omega⟩)) | exact .inr (.inr (.inr ⟨by omega, by omega, by omega, by omega, by omega, by omega⟩)))).symm))
   refine zaz 2 rfl ?_
   exact zap (zay rfl rfl (congrArg _ (zcb (fun hp => by first | (rcases hp with ⟨p1, p2, p3⟩ | ⟨p1, p2, p3⟩ | ⟨p1, p2, p3⟩ | ⟨p1, p2, p3, p4, p5, p6⟩ <;> omega))).symm))
  refine zaz 7 rfl ?_
  exact zap (zay rfl rfl (congrArg _ (zcb (fun hp => by first | (rcases hp with ⟨p1, p2, p3⟩ | ⟨p1, p2, p3⟩ | ⟨p1, p2, p3⟩ | ⟨p1, p2, p3, p4, p5, p6⟩ <;> omega))).symm))
 refine zaz 11 rfl ?_
 exact zap (zay rfl rfl (congrArg _ (zcb (fun hp => by first | (rcases hp with ⟨p1, p2, p3⟩ | ⟨p1, p2, p3⟩ | ⟨p1, p2, p3⟩ | ⟨p1, p2, p3, p4, p5, p6⟩ <;> omega))).symm))
theorem specOpsOk_ans (os : List Oq) (n : Int) (v : Value) (w : World) (hv : RdsW w v 3 os.length (os.flatMap oqC)) :
   Calls Try.prog 89 #[v, .int .i64 n] w (Ans w (.bool (pB (OpsP n os)))) := by
 have hv9 := sml hv
 refine zbw (N := 38) (args := [v, .int .i64 n]) Try.func89 rfl rfl (zbh 1 rfl (zag (zag (reQ 1 rfl (hvQ rfl (lnQ rfl rfl rfl (zae hv)) ?_)))))
 refine zec rfl rfl rfl rfl rfl rfl (fun h1 => ?_) (fun h1 => ?_)
 ·
  refine ntQ (zaj rfl (zbh 1 rfl ?_))
  refine zap (zaf ?_)
  exact zay rfl rfl (congrArg _ (zcb (fun hp => by first | (have := hp.len; omega) | (have := hp.pos; omega) | (have := (hp.op i (by omega)).1; omega) | (exact absurd (hp.op i (by omega)).2 (by assumption)) | (have := hp.fin; rw [show os.length = i by omega] at this; omega))).symm)
 refine ntQ (zas rfl (zcy (zbh 1 rfl (zag (zag ?_)))))
 refine zao (zaz 1 rfl (zba ?_))
 refine lkQ2 (α := Nat) (β := Int) [0, 1, 4, 9] rfl (fun i c => []) (fun i c => [(5, .int .i64 c), (6, .int .i64 (i : Int))]) (fun i c => i ≤ os.length ∧ c = needK os i ∧ ∀ q, q < i → needK os q ≠ 0 ∧ OqP n (os.getD q oq0)) (fun i c => os.length - i) 0 1 ⟨Nat.zero_le _, rfl, fun q hq => absurd hq (by omega)⟩ (saQ rfl) (.slnil) ?_
 intro i c hi2
 obtain ⟨hi, hc, hall⟩ := hi2
 have hnr := needK_rng os i
 have har := arI_rng (os.getD i oq0).k
 refine zag (zag (reQ 2 rfl (hvQ rfl (lnQ rfl rfl rfl (zae hv)) ?_)))
 refine zbp rfl rfl rfl rfl rfl rfl (fun h3 => ?_) (fun h3 => ?_)
 ·
  refine ntQ (zaj rfl (zcy (sbQ (zag (zag (reQ 1 rfl ?_))))))
  refine zbu rfl rfl rfl rfl rfl rfl (fun h4 => ?_) (fun h4 => ?_)
  ·
   refine zaz 9 rfl (zaj rfl (zag (reQ 1 rfl (?_))))
   refine ntQ ?_
   refine zap (zaf ?_)
   refine zad (zdw ?_)
   refine zad (zaf ?_)
   exact zay rfl rfl (congrArg _ (zcb (fun hp => by first | (have := hp.len; omega) | (have := hp.pos; omega) | (have := (hp.op i (by omega)).1; omega) | (exact absurd (hp.op i (by omega)).2 (by assumption)) | (have := hp.fin; rw [show os.length = i by omega] at this; omega))).symm)
  refine zah 3 rfl (hvQ rfl (riQ 3 rfl rfl rfl rfl (zae hv)) ?_)
  refine hvQ rfl (zbj (us := [.int .i64 ((os.getD i oq0).k), .int .i64 ((os.getD i oq0).a), .int .i64 ((os.getD i oq0).b)]) rfl rfl rfl rfl (zae hv) (by omega) rfl (zby oqC 3 (fun _ => rfl) os oq0 (show i < _ by omega) rfl)) (zah 1 rfl ?_)
  refine zej rfl (zaw rfl rfl (fun w hm => zbe (l04Op_ans (os.getD i oq0) n w))) (zbq (fun h5 => ?_) (fun h5 => ?_))
  ·
   have h5p := zfc h5
   refine zaz 2 rfl (zas rfl (zcy (reQ 1 rfl (hvQ rfl (vsQ rfl rfl rfl) (zah 2 rfl (hvQ rfl (riQ 3 rfl rfl rfl rfl (zae hv)) (hvQ rfl (zat (k0 := 0) rfl rfl rfl (zae hv) (by omega)) ?_)))))))
   refine hvQ rfl (zak (u := .int .i64 ((os.getD i oq0).k)) rfl rfl rfl (zae hv) ((zbg oqC 3 (fun _ => rfl) os oq0 (show i < _ by omega) (by decide)).trans rfl)) (zej rfl (zaw rfl rfl (fun w hm => zbe (zgg ((os.getD i oq0).k) w))) ?_)
   refine hvQ rfl (vaQ rfl rfl rfl) (enQ 1 rfl (zde (reQ 1 rfl (hvQ rfl (vaQ rfl rfl rfl) (enQ 1 rfl ?_)))))
   exact zcp (i + 1) ((c - 1) + (arI ((os.getD i oq0).k))) ⟨by omega, by show _ = needK os i + (arI (os.getD i oq0).k - 1); omega, fun q hq => by by_cases e : q = i; (subst e; exact ⟨by omega, by assumption⟩); exact hall q (by omega)⟩ (by omega) (saQ rfl) (.slnil)
  have h5p := zea h5
  refine zaz 2 rfl (zaj rfl (zbh 1 rfl ?_))
  refine zap (zaf ?_)
  refine zad (zdw ?_)
  refine zad (zaf ?_)
  exact zay rfl rfl (congrArg _ (zcb (fun hp => by first | (have := hp.len; omega) | (have := hp.pos; omega) | (have := (hp.op i (by omega)).1; omega) | (exact absurd (hp.op i (by omega)).2 (by assumption)) | (have := hp.fin; rw [show os.length = i by omega] at this; omega))).symm)
 refine ntQ (zas rfl ?_)
 refine zbi (zdv ?_)
 refine zal (zar (zag (reQ 1 rfl ?_)))
 refine zbu rfl rfl rfl rfl rfl rfl (fun h6 => ?_) (fun h6 => ?_)
 ·
  refine zaz 1 rfl ?_
  exact zap (zay rfl rfl (congrArg _ (zdf ⟨by omega, fun q hq => hall q (by omega), by rw [show os.length = i by omega]; omega⟩).symm))
 refine zaz 1 rfl ?_
 exact zap (zay rfl rfl (congrArg _ (zcb (fun hp => by first | (have := hp.len; omega) | (have := hp.pos; omega) | (have := (hp.op i (by omega)).1; omega) | (exact absurd (hp.op i (by omega)).2 (by assumption)) | (have := hp.fin; rw [show os.length = i by omega] at this; omega))).symm))
theorem zeg (m : Md) (w : World) (hr : RdsMd w m) :
   Calls Try.prog 32 #[.agg #[m.sv, m.av, m.iv, m.mv]] w (Ret w (fun v' post => post = [rowE 3 1 v' ((ptsK m)).length (((ptsK m)).map (Value.int .i64))])) := by
 have hs9 := sml hr.s
 refine zbw (N := 39) (args := [.agg #[m.sv, m.av, m.iv, m.mv]]) Try.func32 rfl rfl (srQ ?_)
 refine zdk rfl (zda rfl rfl) ?_
 intro b1
 refine zaz 1 rfl (srQ ?_)
 refine zdu rfl (zdq (s := 1) rfl Try.underlying48 rfl) ?_
 intro g2
 refine zaz 1 rfl (zfh (hvQ rfl (fdQ 0 rfl rfl rfl) (hvQ rfl (zac rfl rfl rfl (zaa 1 rfl rfl)) (hvQ rfl (lnQ rfl rfl rfl (zae ((hr).s))) ?_))))
 refine zec rfl rfl rfl rfl rfl rfl (fun h3 => ?_) (fun h3 => ?_)
 ·
  refine ntQ (zaj rfl (zbh 2 rfl ?_))
  refine zap (zaf ?_)
  exact zew (post := [rowE 3 1 (.slice (some ⟨g2, 0, none⟩) 0 0) 0 ([])]) rfl rfl (slQ [0] rfl) (by unfold ptsK; rw [if_neg (by omega)] <;> rfl)
 refine ntQ (zas rfl (zcy (zag (zbh 1 rfl (zba ?_)))))
 refine lkQ3 (α := Nat) (β := Value) (γ := List Int) [0, 1, 2, 9] rfl (fun i gu zs => [rowE 3 1 gu zs.length (zs.map (Value.int .i64)), boxE b1 #[m.sv, m.av, m.iv, m.mv] 35]) (fun i gu zs => [(3, gu), (4, .int .i64 (i : Int))]) (fun i gu zs => i ≤ m.ss.length ∧ zs = ptsA m.ss i) (fun i gu zs => m.ss.length - i) 0 _ [] ⟨Nat.zero_le _, rfl⟩ (saQ rfl) (pfQ rfl) ?_
 intro i gu zs hi4
 obtain ⟨hi, hz⟩ := hi4
 have hzl : zs.length ≤ i := by rw [hz]; exact ptsA_le _ _
 refine zag (zag (reQ 1 rfl (hvQ rfl (fdQ 0 rfl rfl rfl) (hvQ rfl (zac rfl rfl rfl (zaa 1 rfl rfl)) (hvQ rfl (lnQ rfl rfl rfl (zae ((hr).s))) ?_)))))
 refine zbp rfl rfl rfl rfl rfl rfl (fun h5 => ?_) (fun h5 => ?_)
 ·
  refine ntQ (zaj rfl (zcy (sbQ (srQ (hvQ rfl (fdQ 0 rfl rfl rfl) (hvQ rfl (zac rfl rfl rfl (zaa 1 rfl rfl)) (zah 1 rfl (hvQ rfl (riQ 3 rfl rfl rfl rfl (zae ((hr).s))) ?_))))))))
  refine hvQ rfl (zat (k0 := 0) rfl rfl rfl (zae ((hr).s)) (by omega)) (hvQ rfl (zak (u := .int .i64 ((m.ss.getD i sg0).k)) rfl rfl rfl (zae ((hr).s)) ((zbg sgC 3 (fun _ => rfl) m.ss sg0 (show i < _ by omega) (by decide)).trans rfl)) ?_)
  refine zbu rfl rfl rfl rfl rfl rfl (fun h6 => ?_) (fun h6 => ?_)
  ·
   refine zaz 9 rfl (zaj rfl (zao ?_))
   refine zah 2 rfl (zdu rfl (zan (z := .int .i64 0) (s := 1) (cs := ([(i : Int)].map (Value.int .i64))) rfl Try.underlying48 rfl (by decide) rfl (by kernel_rfl) rfl) ?_)
   intro g7
   refine zcq (i := 1) (z := .int .i64 0) (bytes := 8) rfl rfl rfl rfl Try.underlying48 (by kernel_rfl) rfl rfl rfl rfl (zai 0 rfl) (zcg _) (by first | omega | (simp; done) | (simp; omega)) (zci zs ([(i : Int)])) (zcv zs ([(i : Int)])) (fun _ => rfl) ?_
   intro v8
   refine enQ 1 rfl (zde (reQ 1 rfl (hvQ rfl (vaQ rfl rfl rfl) (enQ 1 rfl ?_))))
   exact zcl (i + 1) v8 (zs ++ ([(i : Int)])) ⟨by omega, by rw [hz]; exact ptsA_yes (by omega)⟩ (by omega) (saQ rfl) (slQ [1, 0] rfl)
  refine zah 1 rfl (hvQ rfl (fdQ 0 rfl rfl rfl) (hvQ rfl (zac rfl rfl rfl (zaa 1 rfl rfl)) (zah 1 rfl (hvQ rfl (riQ 3 rfl rfl rfl rfl (zae ((hr).s))) (hvQ rfl (zat (k0 := 0) rfl rfl rfl (zae ((hr).s)) (by omega)) ?_)))))
  refine hvQ rfl (zak (u := .int .i64 ((m.ss.getD i sg0).k)) rfl rfl rfl (zae ((hr).s)) ((zbg sgC 3 (fun _ => rfl) m.ss sg0 (show i < _ by omega) (by decide)).trans rfl)) (zbu rfl rfl rfl rfl rfl rfl (fun h9 => ?_) (fun h9 => ?_))
  ·
   refine zaz 1 rfl (zaj rfl (reQ 2 rfl ?_))
   refine zdu rfl (zan (z := .int .i64 0) (s := 1) (cs := ([(i : Int)].map (Value.int .i64))) rfl Try.underlying48 rfl (by decide) rfl (by kernel_rfl) rfl) ?_
   intro g10
   refine zcq (i := 1) (z := .int .i64 0) (bytes := 8) rfl rfl rfl rfl Try.underlying48 (by kernel_rfl) rfl rfl rfl rfl (zai 0 rfl) (zcg _) (by first | omega | (simp; done) | (simp; omega)) (zci zs ([(i : Int)])) (zcv zs ([(i : Int)])) (fun _ => rfl) ?_
   intro v11
   refine enQ 1 rfl (zde (reQ 1 rfl (hvQ rfl (vaQ rfl rfl rfl) (enQ 1 rfl ?_))))
   exact zcl (i + 1) v11 (zs ++ ([(i : Int)])) ⟨by omega, by rw [hz]; exact ptsA_yes (by omega)⟩ (by omega) (saQ rfl) (slQ [1, 0] rfl)
  refine zaz 1 rfl (fsQ rfl (zde (reQ 1 rfl (hvQ rfl (vaQ rfl rfl rfl) (enQ 1 rfl ?_)))))
  exact zcl (i + 1) gu zs ⟨by omega, hz.trans (ptsA_no (by omega))⟩ (by omega) (saQ rfl) (pfQ rfl)
 refine ntQ (zas rfl ?_)
 refine zbi (zdv ?_)
 refine zal (zar (zbh 2 rfl ?_))
 exact zap (zew (post := [rowE 3 1 gu zs.length (zs.map (Value.int .i64))]) rfl rfl (slQ [0] rfl) (by rw [hz, show i = m.ss.length by omega]; unfold ptsK; rw [if_pos (by omega)]))
theorem l04Counts_ans (D : List Md) (k : Nat) (v : Value) (w : World) (hd : RdsDs w v D) :
   Calls Try.prog 150 #[.agg #[v], .int .i64 (k : Int)] w (Ans w (.bool (pB (CtsP D k)))) := by
 have hd9 := sml hd.row
 have hm9 : ∀ q, q < D.length → (D.getD q md0).ss.length ≤ 9223372036854775807 := fun q hq => by have := sml (hd.at hq).s; omega
 refine zbw (N := 101) (args := [.agg #[v], .int .i64 (k : Int)]) Try.func150 rfl rfl (srQ ?_)
 refine zdk rfl (zda rfl rfl) ?_
 intro b1
 refine zaz 1 rfl (zfh (hvQ rfl (fdQ 0 rfl rfl rfl) (hvQ rfl (zac rfl rfl rfl (zaa 0 rfl rfl)) (hvQ rfl (lnQ rfl rfl rfl (zae hd.row)) ?_))))
 refine zec rfl rfl rfl rfl rfl rfl (fun h2 => ?_) (fun h2 => ?_)
 ·
  refine zaz 11 rfl (zaj rfl (srQ ?_))
  refine zaz 1 rfl ?_
  refine zap (zaf ?_)
  exact zay rfl rfl (congrArg _ (zcb (fun hp => by first | (have := hp.lt; have := hp.cnt.len; omega) | (have h9 := hp.cnt.md i (by omega); obtain ⟨h1, h2, h3, h4⟩ := h9; omega) | (have h9 := hp.ins i (by omega); obtain ⟨⟨h1, h2⟩, h3⟩ := h9; omega))).symm)
 refine zah 2 rfl (zbp rfl rfl rfl rfl rfl rfl (fun h3 => ?_) (fun h3 => ?_))
 ·
  refine zaz 8 rfl (zaj rfl (zag (reQ 1 rfl (?_))))
  refine ntQ ?_
  refine zap (zaf ?_)
  exact zay rfl rfl (congrArg _ (zcb (fun hp => by first | (have := hp.lt; have := hp.cnt.len; omega) | (have h9 := hp.cnt.md i (by omega); obtain ⟨h1, h2, h3, h4⟩ := h9; omega) | (have h9 := hp.ins i (by omega); obtain ⟨⟨h1, h2⟩, h3⟩ := h9; omega))).symm)
 refine zah 3 rfl (hvQ rfl (fdQ 0 rfl rfl rfl) (hvQ rfl (zac rfl rfl rfl (zaa 0 rfl rfl)) (hvQ rfl (lnQ rfl rfl rfl (zae hd.row)) ?_)))
 refine hl_geq rfl rfl rfl rfl rfl rfl (fun h4 => ?_) (fun h4 => ?_)
 ·
  refine zaz 1 rfl (zaj rfl (zbh 1 rfl ?_))
  refine zap (zaf ?_)
  exact zay rfl rfl (congrArg _ (zcb (fun hp => by first | (have := hp.lt; have := hp.cnt.len; omega) | (have h9 := hp.cnt.md i (by omega); obtain ⟨h1, h2, h3, h4⟩ := h9; omega) | (have h9 := hp.ins i (by omega); obtain ⟨⟨h1, h2⟩, h3⟩ := h9; omega))).symm)
 refine zaz 1 rfl (zas rfl (zcy (zag (zbh 1 rfl ?_))))
 refine zba ?_
 refine lkQ1 (α := Nat) [0, 1, 2, 4, 23] rfl (fun i => [boxE b1 #[v] 26]) (fun i => [(5, .int .i64 (i : Int))]) (fun i => i ≤ D.length ∧ ∀ q, q < i → LenP (D.getD q md0)) (fun i => D.length - i) 0 ⟨Nat.zero_le _, fun q hq => absurd hq (by omega)⟩ (saQ rfl) (pfQ rfl) ?_
 intro i hi5
 obtain ⟨hi, hall⟩ := hi5
 refine zag (zag (reQ 1 rfl (hvQ rfl (fdQ 0 rfl rfl rfl) (hvQ rfl (zac rfl rfl rfl (zaa 0 rfl rfl)) (hvQ rfl (lnQ rfl rfl rfl (zae hd.row)) ?_)))))
 refine zbp rfl rfl rfl rfl rfl rfl (fun h6 => ?_) (fun h6 => ?_)
 ·
  refine ntQ (zaj rfl (zcy (sbQ (srQ (hvQ rfl (fdQ 0 rfl rfl rfl) (hvQ rfl (zac rfl rfl rfl (zaa 0 rfl rfl)) (zah 1 rfl (hvQ rfl (riQ 4 rfl rfl rfl rfl (zae hd.row)) ?_))))))))
  refine hvQ rfl (zbj (us := [(D.getD i md0).sv, (D.getD i md0).av, (D.getD i md0).iv, (D.getD i md0).mv]) rfl rfl rfl rfl (zae hd.row) (by omega) rfl (zby mdC 4 (fun _ => rfl) D md0 (show i < _ by omega) rfl)) (zdk rfl (zbf (z := .agg #[.slice none 0 0, .slice none 0 0, .slice none 0 0, .slice none 0 0]) rfl rfl) ?_)
  intro b7
  refine zbd (cs' := #[(D.getD i md0).sv, (D.getD i md0).av, (D.getD i md0).iv, (D.getD i md0).mv]) (i := 0) (off := 0) (us := [(D.getD i md0).sv, (D.getD i md0).av, (D.getD i md0).iv, (D.getD i md0).mv]) rfl rfl rfl rfl rfl rfl rfl (zab (hd.at (k := i) (by omega)).s.one (zab (hd.at (k := i) (by omega)).g.one (zab (hd.at (k := i) (by omega)).x.one (zab (hd.at (k := i) (by omega)).m.one zbb)))) rfl rfl rfl (ntQ (srQ (hvQ rfl (fdQ 0 rfl rfl rfl) (hvQ rfl (zac rfl rfl rfl (zaa 0 rfl rfl)) (hvQ rfl (lnQ rfl rfl rfl (zae ((hd.at (k := i) (by omega)).s))) ?_)))))
  refine zec rfl rfl rfl rfl rfl rfl (fun h8 => ?_) (fun h8 => ?_)
  ·
   refine zaz 18 rfl (zaj rfl (zbh 1 rfl ?_))
   refine zap (zad ?_)
   refine zdw ?_
   refine zad (zaf ?_)
   exact zay rfl rfl (congrArg _ (zcb (fun hp => by first | (have := hp.lt; have := hp.cnt.len; omega) | (have h9 := hp.cnt.md i (by omega); obtain ⟨h1, h2, h3, h4⟩ := h9; omega) | (have h9 := hp.ins i (by omega); obtain ⟨⟨h1, h2⟩, h3⟩ := h9; omega))).symm)
  refine zah 1 rfl (hvQ rfl (fdQ 1 rfl rfl rfl) (hvQ rfl (zac rfl rfl rfl (zaa 0 rfl rfl)) (hvQ rfl (lnQ rfl rfl rfl (zae ((hd.at (k := i) (by omega)).g))) ?_)))
  refine zec rfl rfl rfl rfl rfl rfl (fun h9 => ?_) (fun h9 => ?_)
  ·
   refine zaz 13 rfl ?_
   refine zaj rfl (zbh 1 rfl ?_)
   refine zap (zad ?_)
   refine zdw ?_
   refine zad (zaf ?_)
   exact zay rfl rfl (congrArg _ (zcb (fun hp => by first | (have := hp.lt; have := hp.cnt.len; omega) | (have h9 := hp.cnt.md i (by omega); obtain ⟨h1, h2, h3, h4⟩ := h9; omega) | (have h9 := hp.ins i (by omega); obtain ⟨⟨h1, h2⟩, h3⟩ := h9; omega))).symm)
  refine zah 2 rfl (hvQ rfl (fdQ 2 rfl rfl rfl) (hvQ rfl (zac rfl rfl rfl (zaa 0 rfl rfl)) (hvQ rfl (lnQ rfl rfl rfl (zae ((hd.at (k := i) (by omega)).x))) ?_)))
  refine zec rfl rfl rfl rfl rfl rfl (fun h10 => ?_) (fun h10 => ?_)
  ·
   refine zaz 7 rfl (zaj rfl (zag (reQ 1 rfl (?_))))
   refine ntQ ?_
   refine zap (zad ?_)
   refine zdw ?_
   refine zad (zaf ?_)
   exact zay rfl rfl (congrArg _ (zcb (fun hp => by first | (have := hp.lt; have := hp.cnt.len; omega) | (have h9 := hp.cnt.md i (by omega); obtain ⟨h1, h2, h3, h4⟩ := h9; omega) | (have h9 := hp.ins i (by omega); obtain ⟨⟨h1, h2⟩, h3⟩ := h9; omega))).symm)
  refine zah 2 rfl (hvQ rfl (fdQ 3 rfl rfl rfl) (hvQ rfl (zac rfl rfl rfl (zaa 0 rfl rfl)) (hvQ rfl (lnQ rfl rfl rfl (zae ((hd.at (k := i) (by omega)).m))) ?_)))
  refine zec rfl rfl rfl rfl rfl rfl (fun h11 => ?_) (fun h11 => ?_)
  ·
   refine zaz 1 rfl (zaj rfl (zbh 1 rfl ?_))
   refine zap (zad ?_)
   refine zdw ?_
   refine zad (zaf ?_)
   exact zay rfl rfl (congrArg _ (zcb (fun hp => by first | (have := hp.lt; have := hp.cnt.len; omega) | (have h9 := hp.cnt.md i (by omega); obtain ⟨h1, h2, h3, h4⟩ := h9; omega) | (have h9 := hp.ins i (by omega); obtain ⟨⟨h1, h2⟩, h3⟩ := h9; omega))).symm)
  refine zaz 1 rfl (fsQ rfl (zde (reQ 1 rfl (hvQ rfl (vaQ rfl rfl rfl) (enQ 1 rfl ?_)))))
  exact zbt (i + 1) ⟨by omega, fun q hq => by by_cases e : q = i; (subst e; exact ⟨by omega, by omega, by omega, by omega⟩); exact hall q (by omega)⟩ (by omega) (saQ rfl) (slQ [1] rfl)
 refine ntQ (zas rfl ?_)
 refine zbi (zdv ?_)
 refine zal (zar (zag (zbh 1 rfl (zba ?_))))
 refine lkQ1 (α := Nat) [0, 1, 2, 4, 23, 28] rfl (fun i => [boxE b1 #[v] 26]) (fun i => [(7, .int .i64 (i : Int))]) (fun i => i ≤ (D.getD k md0).xs.length ∧ ∀ q, q < i → InsOk D k q) (fun i => (D.getD k md0).xs.length - i) 0 ⟨Nat.zero_le _, fun q hq => absurd hq (by omega)⟩ (saQ rfl) (pfQ rfl) ?_
 intro i hi12
 obtain ⟨hi, hins⟩ := hi12
 have hcnt : CntP D := ⟨by omega, fun q hq => hall q (by omega)⟩
 have hxl := (hcnt.md k (by omega)).2.2.1
 refine zag (zag (reQ 1 rfl (hvQ rfl (fdQ 0 rfl rfl rfl) (hvQ rfl (zac rfl rfl rfl (zaa 0 rfl rfl)) (zah 1 rfl (hvQ rfl (riQ 4 rfl rfl rfl rfl (zae hd.row)) (hvQ rfl (zat (k0 := 2) rfl rfl rfl (zae hd.row) (by omega)) ?_)))))))
 refine hvQ rfl (zak (u := (D.getD k md0).iv) rfl rfl rfl (zae hd.row) ((zbg mdC 4 (fun _ => rfl) D md0 (show k < _ by omega) (by decide)).trans rfl)) (hvQ rfl (lnQ rfl rfl rfl (zae ((hd.at (k := k) (by omega)).x))) ?_)
 refine zbp rfl rfl rfl rfl rfl rfl (fun h13 => ?_) (fun h13 => ?_)
 ·
  refine ntQ (zaj rfl (zcy (sbQ (srQ (hvQ rfl (fdQ 0 rfl rfl rfl) (hvQ rfl (zac rfl rfl rfl (zaa 0 rfl rfl)) (zah 1 rfl (hvQ rfl (riQ 4 rfl rfl rfl rfl (zae hd.row)) ?_))))))))
  refine hvQ rfl (zat (k0 := 2) rfl rfl rfl (zae hd.row) (by omega)) (hvQ rfl (zak (u := (D.getD k md0).iv) rfl rfl rfl (zae hd.row) ((zbg mdC 4 (fun _ => rfl) D md0 (show k < _ by omega) (by decide)).trans rfl)) ?_)
  refine zah 1 rfl (hvQ rfl (riQ 3 rfl rfl rfl rfl (zae ((hd.at (k := k) (by omega)).x))) ?_)
  refine hvQ rfl (zbj (us := [.int .i64 ((((D.getD k md0).xs).getD i ix0).m), .int .i64 ((((D.getD k md0).xs).getD i ix0).p), (((D.getD k md0).xs).getD i ix0).pv]) rfl rfl rfl rfl (zae ((hd.at (k := k) (by omega)).x)) (by omega) rfl (zby ixC 3 (fun _ => rfl) ((D.getD k md0).xs) ix0 (show i < _ by omega) rfl)) (zdk rfl (zbf (z := .agg #[.int .i64 0, .int .i64 0, .slice none 0 0]) rfl rfl) ?_)
  intro b14
  refine zbd (cs' := #[.int .i64 ((((D.getD k md0).xs).getD i ix0).m), .int .i64 ((((D.getD k md0).xs).getD i ix0).p), (((D.getD k md0).xs).getD i ix0).pv]) (i := 0) (off := 0) (us := [.int .i64 ((((D.getD k md0).xs).getD i ix0).m), .int .i64 ((((D.getD k md0).xs).getD i ix0).p), (((D.getD k md0).xs).getD i ix0).pv]) rfl rfl rfl rfl rfl rfl rfl (zab rfl (zab rfl (zab ((hd.at (k := k) (by omega)).p.at (k := i) (by omega)).one zbb))) rfl rfl rfl (ntQ (zag ?_))
  rcases Bool.eq_false_or_eq_true (decide ((((D.getD k md0).xs).getD i ix0).m < 0)) with hb15 | hb15
  ·
   have hb15p : (((D.getD k md0).xs).getD i ix0).m < 0 := of_decide_eq_true hb15
   refine zbv 23 [[], [0], [1], [2], [3], [3], [3], [3], [3, 7], [8], [9], [9], [9], [9], [9], [9], [9], [9], [9], [9], [9], [9], [9, 21]] [78, 79, 80, 81, 82, 83, 84, 85, 86, 87, 88, 89, 90, 91, 92, 93, 94, 95, 96, 97, 98, 99, 100] [.pointer (some ⟨b14, 0 + 0, none⟩), .int .i64 ((((D.getD k md0).xs).getD i ix0).m), .bool true, .bool true, undef, undef, undef, undef, .bool true, .bool true, undef, undef, undef, undef, undef, undef, undef, undef, undef, undef, undef, undef, .bool true] (by kernel_rfl) rfl ?_ ?_
   ·
    exact ⟨iaQ rfl (fdQ 0 rfl rfl rfl) rfl, iaQ rfl (zac rfl rfl rfl (zaa 0 rfl rfl)) rfl, .inl ⟨rfl, zdp (zck rfl rfl rfl rfl) hb15⟩, iaQ rfl (zax rfl) rfl, .inr ⟨rfl, rfl⟩, .inr ⟨rfl, rfl⟩, .inr ⟨rfl, rfl⟩, .inr ⟨rfl, rfl⟩, iaQ rfl (zax rfl) rfl, iaQ rfl (zax rfl) rfl, .inr ⟨rfl, rfl⟩, .inr ⟨rfl, rfl⟩, .inr ⟨rfl, rfl⟩, .inr ⟨rfl, rfl⟩, .inr ⟨rfl, rfl⟩, .inr ⟨rfl, rfl⟩, .inr ⟨rfl, rfl⟩, .inr ⟨rfl, rfl⟩, .inr ⟨rfl, rfl⟩, .inr ⟨rfl, rfl⟩, .inr ⟨rfl, rfl⟩, .inr ⟨rfl, rfl⟩, iaQ rfl (zax rfl) rfl, trivial⟩
   simp only [List.drop_succ_cons, List.drop_zero]
   refine ntQ (zaj rfl (zbh 1 rfl ?_))
   refine zap (zad ?_)
   refine zdw ?_
   refine zad (zaf ?_)
   exact zay rfl rfl (congrArg _ (zcb (fun hp => by first | (have := hp.lt; have := hp.cnt.len; omega) | (have h9 := hp.cnt.md i (by omega); obtain ⟨h1, h2, h3, h4⟩ := h9; omega) | (have h9 := hp.ins i (by omega); obtain ⟨⟨h1, h2⟩, h3⟩ := h9; omega))).symm)
  have hb15p : ¬ ((((D.getD k md0).xs).getD i ix0).m < 0) := of_decide_eq_false hb15
  rcases Bool.eq_false_or_eq_true (decide ((k : Int) ≤ (((D.getD k md0).xs).getD i ix0).m)) with hb16 | hb16
  ·
   have hb16p : (k : Int) ≤ (((D.getD k md0).xs).getD i ix0).m := of_decide_eq_true hb16
   refine zbv 23 [[], [0], [1], [2], [3], [3, 4], [3], [3, 5, 6], [3, 7], [8], [9], [9], [9], [9], [9], [9], [9], [9], [9], [9], [9], [9], [9, 21]] [78, 79, 80, 81, 82, 83, 84, 85, 86, 87, 88, 89, 90, 91, 92, 93, 94, 95, 96, 97, 98, 99, 100] [.pointer (some ⟨b14, 0 + 0, none⟩), .int .i64 ((((D.getD k md0).xs).getD i ix0).m), .bool false, .bool false, .pointer (some ⟨b14, 0 + 0, none⟩), .int .i64 ((((D.getD k md0).xs).getD i ix0).m), .int .i64 (k : Int), .bool true, .bool true, .bool true, undef, undef, undef, undef, undef, undef, undef, undef, undef, undef, undef, undef, .bool true] (by kernel_rfl) rfl ?_ ?_
   ·
    exact ⟨iaQ rfl (fdQ 0 rfl rfl rfl) rfl, iaQ rfl (zac rfl rfl rfl (zaa 0 rfl rfl)) rfl, .inl ⟨rfl, zdp (zck rfl rfl rfl rfl) hb15⟩, iaQ rfl (zax rfl) rfl, iaQ rfl (fdQ 0 rfl rfl rfl) rfl, iaQ rfl (zac rfl rfl rfl (zaa 0 rfl rfl)) rfl, iaQ rfl (zax rfl) rfl, .inl ⟨rfl, zdp (zck rfl rfl rfl rfl) hb16⟩, iaQ rfl (zax rfl) rfl, iaQ rfl (zax rfl) rfl, .inr ⟨rfl, rfl⟩, .inr ⟨rfl, rfl⟩, .inr ⟨rfl, rfl⟩, .inr ⟨rfl, rfl⟩, .inr ⟨rfl, rfl⟩, .inr ⟨rfl, rfl⟩, .inr ⟨rfl, rfl⟩, .inr ⟨rfl, rfl⟩, .inr ⟨rfl, rfl⟩, .inr ⟨rfl, rfl⟩, .inr ⟨rfl, rfl⟩, .inr ⟨rfl, rfl⟩, iaQ rfl (zax rfl) rfl, trivial⟩
   simp only [List.drop_succ_cons, List.drop_zero]
   refine ntQ (zaj rfl (zbh 1 rfl ?_))
   refine zap (zad ?_)
   refine zdw ?_
   refine zad (zaf ?_)
   exact zay rfl rfl (congrArg _ (zcb (fun hp => by first | (have := hp.lt; have := hp.cnt.len; omega) | (have h9 := hp.cnt.md i (by omega); obtain ⟨h1, h2, h3, h4⟩ := h9; omega) | (have h9 := hp.ins i (by omega); obtain ⟨⟨h1, h2⟩, h3⟩ := h9; omega))).symm)
  have hb16p : ¬ ((k : Int) ≤ (((D.getD k md0).xs).getD i ix0).m) := of_decide_eq_false hb16
  rcases Bool.eq_false_or_eq_true ((((((D.getD k md0).xs).getD i ix0).ps).length : Int) != ((ptsK (D.getD (((((D.getD k md0).xs).getD i ix0).m).toNat) md0)).length : Int)) with hb20 | hb20
  ·
   have hb20p : (((((D.getD k md0).xs).getD i ix0).ps).length : Int) ≠ ((ptsK (D.getD (((((D.getD k md0).xs).getD i ix0).m).toNat) md0)).length : Int) := bne_iff_ne.1 hb20
   refine zfw rfl 23 [0, 1, 2, 3, 4, 5, 6, 7, 8, 9, 10, 11, 12, 13, 14, 15, 16, 17, 18, 19, 20, 21, 22] (List.take 23 _) (List.drop 23 _) [[], [0], [1], [2], [3], [3, 4], [3], [3, 5, 6], [3, 7], [8], [9], [9, 10], [9, 11], [9], [9, 13], [9], [9, 15], [9, 14, 16], [9, 17], [9, 18], [9, 19], [9, 12, 19, 20], [9, 21]] [78, 79, 80, 81, 82, 83, 84, 85, 86, 87, 88, 89, 90, 91, 92, 93, 94, 95, 96, 97, 98, 99, 100] (fun i_ vs_ v_ p_ => match i_ with | 0 => v_ = .pointer (some ⟨b14, 0 + 0, none⟩) ∧ p_ = [] | 1 => v_ = .int .i64 ((((D.getD k md0).xs).getD i ix0).m) ∧ p_ = [] | 2 => v_ = .bool false ∧ p_ = [] | 3 => v_ = .bool false ∧ p_ = [] | 4 => v_ = .pointer (some ⟨b14, 0 + 0, none⟩) ∧ p_ = [] | 5 => v_ = .int .i64 ((((D.getD k md0).xs).getD i ix0).m) ∧ p_ = [] | 6 => v_ = .int .i64 (k : Int) ∧ p_ = [] | 7 => v_ = .bool false ∧ p_ = [] | 8 => v_ = .bool false ∧ p_ = [] | 9 => v_ = .bool false ∧ p_ = [] | 10 => v_ = .pointer (some ⟨b14, 0 + 2, none⟩) ∧ p_ = [] | 11 => v_ = (((D.getD k md0).xs).getD i ix0).pv ∧ p_ = [] | 12 => v_ = .int .i64 (((((D.getD k md0).xs).getD i ix0).ps).length : Int) ∧ p_ = [] | 13 => v_ = .pointer (some ⟨b1, 0 + 0, none⟩) ∧ p_ = [] | 14 => v_ = v ∧ p_ = [] | 15 => v_ = .pointer (some ⟨b14, 0 + 0, none⟩) ∧ p_ = [] | 16 => v_ = .int .i64 ((((D.getD k md0).xs).getD i ix0).m) ∧ p_ = [] | 17 => v_ = elP v (((((D.getD k md0).xs).getD i ix0).m).toNat * 4) ∧ p_ = [] | 18 => v_ = .agg #[(D.getD (((((D.getD k md0).xs).getD i ix0).m).toNat) md0).sv, (D.getD (((((D.getD k md0).xs).getD i ix0).m).toNat) md0).av, (D.getD (((((D.getD k md0).xs).getD i ix0).m).toNat) md0).iv, (D.getD (((((D.getD k md0).xs).getD i ix0).m).toNat) md0).mv] ∧ p_ = [] | 19 => (fun v' post => post = [rowE 3 1 v' ((ptsK (D.getD (((((D.getD k md0).xs).getD i ix0).m).toNat) md0))).length (((ptsK (D.getD (((((D.getD k md0).xs).getD i ix0).m).toNat) md0))).map (Value.int .i64))]) v_ p_ | 20 => v_ = .int .i64 ((ptsK (D.getD (((((D.getD k md0).xs).getD i ix0).m).toNat) md0)).length : Int) ∧ p_ = [] | 21 => v_ = .bool true ∧ p_ = [] | 22 => v_ = .bool true ∧ p_ = [] | _ => True) (List.take_append_drop 23 _).symm (by kernel_rfl) (by kernel_rfl) rfl rfl ?_ ?_
   ·
    refine ⟨?_, ?_, ?_, ?_, ?_, ?_, ?_, ?_, ?_, ?_, ?_, ?_, ?_, ?_, ?_, ?_, ?_, ?_, ?_, ?_, ?_, ?_, ?_, trivial⟩
    ·
     intro vf pf hR
     exact ovQ rfl (zav [8] rfl) (zbz (fdQ 0 rfl rfl rfl))
    ·
     intro vf pf hR
     have e0 := hR 0 (by decide)
     exact olQ rfl (sk 78 (congrArg some e0.1) (zam _)) (zbz (zac rfl rfl rfl (zaa 0 rfl rfl)))
    ·
     intro vf pf hR
     have e1 := hR 1 (by decide)
     exact ovQ rfl (sk 79 (congrArg some e1.1) (zam _)) (zct (zbz (zck rfl rfl rfl rfl)) (fun _ _ h => ⟨h.1.trans (congrArg Value.bool hb15), h.2⟩))
    ·
     intro vf pf hR
     have e2 := hR 2 (by decide)
     exact ovQ rfl (sk 80 (congrArg some e2.1) (zam _)) (zbz (zax rfl))
    ·
     intro vf pf hR
     have e3 := hR 3 (by decide)
     refine Or.inl ⟨zbx (congrArg some e3.1) rfl, ?_⟩
     exact zcd (zav [8] rfl) (zbz (fdQ 0 rfl rfl rfl))
    ·
     intro vf pf hR
     have e3 := hR 3 (by decide)
     have e4 := hR 4 (by decide)
     refine Or.inl ⟨zbx (congrArg some e3.1) rfl, ?_⟩
     exact zbm (sk 82 (congrArg some e4.1) (zam _)) (List.sublist_append_right _ _) (zbz (zac rfl rfl rfl (zaa 0 rfl rfl)))
    ·
     intro vf pf hR
     have e3 := hR 3 (by decide)
     refine Or.inl ⟨zbx (congrArg some e3.1) rfl, ?_⟩
     exact zcd (zav [1] rfl) (zbz (zax rfl))
    ·
     intro vf pf hR
     have e3 := hR 3 (by decide)
     have e5 := hR 5 (by decide)
     have e6 := hR 6 (by decide)
     refine Or.inl ⟨zbx (congrArg some e3.1) rfl, ?_⟩
     exact zcd (sk 83 (congrArg some e5.1) (sk 84 (congrArg some e6.1) (zam _))) (zct (zbz (zck rfl rfl rfl rfl)) (fun _ _ h => ⟨h.1.trans (congrArg Value.bool hb16), h.2⟩))
    ·
     intro vf pf hR
     have e3 := hR 3 (by decide)
     have e7 := hR 7 (by decide)
     exact ovQ rfl (sk 81 (congrArg some e3.1) (sk 85 (congrArg some e7.1) (zam _))) (zbz (zax rfl))
    ·
     intro vf pf hR
     have e8 := hR 8 (by decide)
     exact ovQ rfl (sk 86 (congrArg some e8.1) (zam _)) (zbz (zax rfl))
    ·
     intro vf pf hR
     have e9 := hR 9 (by decide)
     refine Or.inl ⟨zbx (congrArg some e9.1) rfl, ?_⟩
     exact zcd (zav [8] rfl) (zbz (fdQ 2 rfl rfl rfl))
    ·
     intro vf pf hR
     have e9 := hR 9 (by decide)
     have e10 := hR 10 (by decide)
     refine Or.inl ⟨zbx (congrArg some e9.1) rfl, ?_⟩
     exact zbm (sk 88 (congrArg some e10.1) (zam _)) (List.sublist_append_right _ _) (zbz (zac rfl rfl rfl (zaa 0 rfl rfl)))
    ·
     intro vf pf hR
     have e9 := hR 9 (by decide)
     have e11 := hR 11 (by decide)
     refine Or.inl ⟨zbx (congrArg some e9.1) rfl, ?_⟩
     exact zbm (sk 89 (congrArg some e11.1) (zam _)) (List.sublist_append_right _ _) (zbz (lnQ rfl rfl rfl (zae ((hd.at (k := k) (by omega)).p.at (k := i) (by omega)))))
    ·
     intro vf pf hR
     have e9 := hR 9 (by decide)
     refine Or.inl ⟨zbx (congrArg some e9.1) rfl, ?_⟩
     exact zcd (zav [2] rfl) (zbz (fdQ 0 rfl rfl rfl))
    ·
     intro vf pf hR
     have e9 := hR 9 (by decide)
     have e13 := hR 13 (by decide)
     refine Or.inl ⟨zbx (congrArg some e9.1) rfl, ?_⟩
     exact zbm (sk 91 (congrArg some e13.1) (zam _)) (List.sublist_append_right _ _) (zbz (zac rfl rfl rfl (zaa 1 rfl rfl)))
    ·
     intro vf pf hR
     have e9 := hR 9 (by decide)
     refine Or.inl ⟨zbx (congrArg some e9.1) rfl, ?_⟩
     exact zcd (zav [8] rfl) (zbz (fdQ 0 rfl rfl rfl))
    ·
     intro vf pf hR
     have e9 := hR 9 (by decide)
     have e15 := hR 15 (by decide)
     refine Or.inl ⟨zbx (congrArg some e9.1) rfl, ?_⟩
     exact zbm (sk 93 (congrArg some e15.1) (zam _)) (List.sublist_append_right _ _) (zbz (zac rfl rfl rfl (zaa 0 rfl rfl)))
    ·
     intro vf pf hR
     have e9 := hR 9 (by decide)
     have e14 := hR 14 (by decide)
     have e16 := hR 16 (by decide)
     refine Or.inl ⟨zbx (congrArg some e9.1) rfl, ?_⟩
     exact zbm (sk 92 (congrArg some e14.1) (sk 94 (congrArg some e16.1) (zam _))) (List.sublist_append_right _ _) (zbz (riQ 4 rfl rfl rfl rfl (zae hd.row)))
    ·
     intro vf pf hR
     have e9 := hR 9 (by decide)
     have e17 := hR 17 (by decide)
     refine Or.inl ⟨zbx (congrArg some e9.1) rfl, ?_⟩
     exact zbm (sk 95 (congrArg some e17.1) (zam _)) (List.sublist_append_right _ _) (zbz (zbj (us := [(D.getD (((((D.getD k md0).xs).getD i ix0).m).toNat) md0).sv, (D.getD (((((D.getD k md0).xs).getD i ix0).m).toNat) md0).av, (D.getD (((((D.getD k md0).xs).getD i ix0).m).toNat) md0).iv, (D.getD (((((D.getD k md0).xs).getD i ix0).m).toNat) md0).mv]) rfl rfl rfl rfl (zae hd.row) (by omega) rfl (zby mdC 4 (fun _ => rfl) D md0 (show ((((D.getD k md0).xs).getD i ix0).m).toNat < _ by omega) rfl)))
    ·
     intro vf pf hR
     have e9 := hR 9 (by decide)
     have e18 := hR 18 (by decide)
     refine Or.inl ⟨zbx (congrArg some e9.1) rfl, ?_⟩
     exact zbm (sk 96 (congrArg some e18.1) (zam _)) (List.sublist_append_right _ _) (zaw rfl rfl (fun w hm => zeg (D.getD (((((D.getD k md0).xs).getD i ix0).m).toNat) md0) w ((hd.at (by omega)).below hm.bel)))
    ·
     intro vf pf hR
     have e9 := hR 9 (by decide)
     have e19 : (fun v' post => post = [rowE 3 1 v' ((ptsK (D.getD (((((D.getD k md0).xs).getD i ix0).m).toNat) md0))).length (((ptsK (D.getD (((((D.getD k md0).xs).getD i ix0).m).toNat) md0))).map (Value.int .i64))]) (vf 19) (pf 19) := hR 19 (by decide)
     obtain ⟨v21, vE19⟩ : ∃ x, vf 19 = x := ⟨_, rfl⟩
     obtain ⟨p22, pE19⟩ : ∃ x, pf 19 = x := ⟨_, rfl⟩
     have hR23 := e19
     rw [vE19, pE19] at hR23
     subst hR23
     refine Or.inl ⟨zbx (congrArg some e9.1) rfl, ?_⟩
     exact zco (sk 97 (congrArg some vE19) (zam _)) (by simp only [pE19, vE19, e9.2, fS] <;> rfl) (zbz (lnQ rfl rfl rfl (zai 0 rfl)))
    ·
     intro vf pf hR
     have e9 := hR 9 (by decide)
     have e12 := hR 12 (by decide)
     have e19 : (fun v' post => post = [rowE 3 1 v' ((ptsK (D.getD (((((D.getD k md0).xs).getD i ix0).m).toNat) md0))).length (((ptsK (D.getD (((((D.getD k md0).xs).getD i ix0).m).toNat) md0))).map (Value.int .i64))]) (vf 19) (pf 19) := hR 19 (by decide)
     obtain ⟨v21, vE19⟩ : ∃ x, vf 19 = x := ⟨_, rfl⟩
     obtain ⟨p22, pE19⟩ : ∃ x, pf 19 = x := ⟨_, rfl⟩
     have hR23 := e19
     rw [vE19, pE19] at hR23
     subst hR23
     have e20 := hR 20 (by decide)
     refine Or.inl ⟨zbx (congrArg some e9.1) rfl, ?_⟩
     exact zco (sk 90 (congrArg some e12.1) (sk 98 (congrArg some e20.1) (zam _))) (by simp only [pE19, vE19, e9.2, e12.2, e20.2, fS] <;> rfl) (zct (zbz (zck rfl rfl rfl rfl)) (fun _ _ h => ⟨h.1.trans (congrArg Value.bool hb20), h.2⟩))
    intro vf pf hR
    have e9 := hR 9 (by decide)
    have e21 := hR 21 (by decide)
    exact ovQ rfl (sk 87 (congrArg some e9.1) (sk 99 (congrArg some e21.1) (zam _))) (zbz (zax rfl))
   intro vf pf hR
   have e19 : (fun v' post => post = [rowE 3 1 v' ((ptsK (D.getD (((((D.getD k md0).xs).getD i ix0).m).toNat) md0))).length (((ptsK (D.getD (((((D.getD k md0).xs).getD i ix0).m).toNat) md0))).map (Value.int .i64))]) (vf 19) (pf 19) := hR 19 (by decide)
   obtain ⟨v21, vE19⟩ : ∃ x, vf 19 = x := ⟨_, rfl⟩
   obtain ⟨p22, pE19⟩ : ∃ x, pf 19 = x := ⟨_, rfl⟩
   have hR23 := e19
   rw [vE19, pE19] at hR23
   subst hR23
   have e22 := hR 22 (by decide)
   have q0 := hR 0 (by decide)
   have q1 := hR 1 (by decide)
   have q2 := hR 2 (by decide)
   have q3 := hR 3 (by decide)
   have q4 := hR 4 (by decide)
   have q5 := hR 5 (by decide)
   have q6 := hR 6 (by decide)
   have q7 := hR 7 (by decide)
   have q8 := hR 8 (by decide)
   have q9 := hR 9 (by decide)
   have q10 := hR 10 (by decide)
   have q11 := hR 11 (by decide)
   have q12 := hR 12 (by decide)
   have q13 := hR 13 (by decide)
   have q14 := hR 14 (by decide)
   have q15 := hR 15 (by decide)
   have q16 := hR 16 (by decide)
   have q17 := hR 17 (by decide)
   have q18 := hR 18 (by decide)
   have q20 := hR 20 (by decide)
   have q21 := hR 21 (by decide)
   have q22 := hR 22 (by decide)
   refine zdj (zcu [66, 28, 23, 8, 7, 4, 2, 1, 0] _ (sk 100 (congrArg some e22.1) (zam _)) rfl) (by simp only [pE19, vE19, q0.2, q1.2, q2.2, q3.2, q4.2, q5.2, q6.2, q7.2, q8.2, q9.2, q10.2, q11.2, q12.2, q13.2, q14.2, q15.2, q16.2, q17.2, q18.2, q20.2, q21.2, q22.2, fS] <;> rfl) ?_
   simp only [List.drop_succ_cons, List.drop_zero]
   refine ntQ (zaj rfl (zbh 1 rfl ?_))
   refine zap (zad ?_)
   refine zdw ?_
   refine zad (zaf ?_)
   exact zay rfl rfl (congrArg _ (zcb (fun hp => by first | (have := hp.lt; have := hp.cnt.len; omega) | (have h9 := hp.cnt.md i (by omega); obtain ⟨h1, h2, h3, h4⟩ := h9; omega) | (have h9 := hp.ins i (by omega); obtain ⟨⟨h1, h2⟩, h3⟩ := h9; omega))).symm)
  have hb20p : (((((D.getD k md0).xs).getD i ix0).ps).length : Int) = ((ptsK (D.getD (((((D.getD k md0).xs).getD i ix0).m).toNat) md0)).length : Int) := (bne_eq_false_iff_eq.1 hb20)
  refine zfw rfl 23 [0, 1, 2, 3, 4, 5, 6, 7, 8, 9, 10, 11, 12, 13, 14, 15, 16, 17, 18, 19, 20, 21, 22] (List.take 23 _) (List.drop 23 _) [[], [0], [1], [2], [3], [3, 4], [3], [3, 5, 6], [3, 7], [8], [9], [9, 10], [9, 11], [9], [9, 13], [9], [9, 15], [9, 14, 16], [9, 17], [9, 18], [9, 19], [9, 12, 19, 20], [9, 21]] [78, 79, 80, 81, 82, 83, 84, 85, 86, 87, 88, 89, 90, 91, 92, 93, 94, 95, 96, 97, 98, 99, 100] (fun i_ vs_ v_ p_ => match i_ with | 0 => v_ = .pointer (some ⟨b14, 0 + 0, none⟩) ∧ p_ = [] | 1 => v_ = .int .i64 ((((D.getD k md0).xs).getD i ix0).m) ∧ p_ = [] | 2 => v_ = .bool false ∧ p_ = [] | 3 => v_ = .bool false ∧ p_ = [] | 4 => v_ = .pointer (some ⟨b14, 0 + 0, none⟩) ∧ p_ = [] | 5 => v_ = .int .i64 ((((D.getD k md0).xs).getD i ix0).m) ∧ p_ = [] | 6 => v_ = .int .i64 (k : Int) ∧ p_ = [] | 7 => v_ = .bool false ∧ p_ = [] | 8 => v_ = .bool false ∧ p_ = [] | 9 => v_ = .bool false ∧ p_ = [] | 10 => v_ = .pointer (some ⟨b14, 0 + 2, none⟩) ∧ p_ = [] | 11 => v_ = (((D.getD k md0).xs).getD i ix0).pv ∧ p_ = [] | 12 => v_ = .int .i64 (((((D.getD k md0).xs).getD i ix0).ps).length : Int) ∧ p_ = [] | 13 => v_ = .pointer (some ⟨b1, 0 + 0, none⟩) ∧ p_ = [] | 14 => v_ = v ∧ p_ = [] | 15 => v_ = .pointer (some ⟨b14, 0 + 0, none⟩) ∧ p_ = [] | 16 => v_ = .int .i64 ((((D.getD k md0).xs).getD i ix0).m) ∧ p_ = [] | 17 => v_ = elP v (((((D.getD k md0).xs).getD i ix0).m).toNat * 4) ∧ p_ = [] | 18 => v_ = .agg #[(D.getD (((((D.getD k md0).xs).getD i ix0).m).toNat) md0).sv, (D.getD (((((D.getD k md0).xs).getD i ix0).m).toNat) md0).av, (D.getD (((((D.getD k md0).xs).getD i ix0).m).toNat) md0).iv, (D.getD (((((D.getD k md0).xs).getD i ix0).m).toNat) md0).mv] ∧ p_ = [] | 19 => (fun v' post => post = [rowE 3 1 v' ((ptsK (D.getD (((((D.getD k md0).xs).getD i ix0).m).toNat) md0))).length (((ptsK (D.getD (((((D.getD k md0).xs).getD i ix0).m).toNat) md0))).map (Value.int .i64))]) v_ p_ | 20 => v_ = .int .i64 ((ptsK (D.getD (((((D.getD k md0).xs).getD i ix0).m).toNat) md0)).length : Int) ∧ p_ = [] | 21 => v_ = .bool false ∧ p_ = [] | 22 => v_ = .bool false ∧ p_ = [] | _ => True) (List.take_append_drop 23 _).symm (by kernel_rfl) (by kernel_rfl) rfl rfl ?_ ?_
  ·
   refine ⟨?_, ?_, ?_, ?_, ?_, ?_, ?_, ?_, ?_, ?_, ?_, ?_, ?_, ?_, ?_, ?_, ?_, ?_, ?_, ?_, ?_, ?_, ?_, trivial⟩
   ·
    intro vf pf hR
    exact ovQ rfl (zav [8] rfl) (zbz (fdQ 0 rfl rfl rfl))
   ·
    intro vf pf hR
    have e0 := hR 0 (by decide)
    exact olQ rfl (sk 78 (congrArg some e0.1) (zam _)) (zbz (zac rfl rfl rfl (zaa 0 rfl rfl)))
   ·
    intro vf pf hR
    have e1 := hR 1 (by decide)
    exact ovQ rfl (sk 79 (congrArg some e1.1) (zam _)) (zct (zbz (zck rfl rfl rfl rfl)) (fun _ _ h => ⟨h.1.trans (congrArg Value.bool hb15), h.2⟩))
   ·
    intro vf pf hR
    have e2 := hR 2 (by decide)
    exact ovQ rfl (sk 80 (congrArg some e2.1) (zam _)) (zbz (zax rfl))
   ·
    intro vf pf hR
    have e3 := hR 3 (by decide)
    refine Or.inl ⟨zbx (congrArg some e3.1) rfl, ?_⟩
    exact zcd (zav [8] rfl) (zbz (fdQ 0 rfl rfl rfl))
   ·
    intro vf pf hR
    have e3 := hR 3 (by decide)
    have e4 := hR 4 (by decide)
    refine Or.inl ⟨zbx (congrArg some e3.1) rfl, ?_⟩
    exact zbm (sk 82 (congrArg some e4.1) (zam _)) (List.sublist_append_right _ _) (zbz (zac rfl rfl rfl (zaa 0 rfl rfl)))
   ·
    intro vf pf hR
    have e3 := hR 3 (by decide)
    refine Or.inl ⟨zbx (congrArg some e3.1) rfl, ?_⟩
    exact zcd (zav [1] rfl) (zbz (zax rfl))
   ·
    intro vf pf hR
    have e3 := hR 3 (by decide)
    have e5 := hR 5 (by decide)
    have e6 := hR 6 (by decide)
    refine Or.inl ⟨zbx (congrArg some e3.1) rfl, ?_⟩
    exact zcd (sk 83 (congrArg some e5.1) (sk 84 (congrArg some e6.1) (zam _))) (zct (zbz (zck rfl rfl rfl rfl)) (fun _ _ h => ⟨h.1.trans (congrArg Value.bool hb16), h.2⟩))
   ·
    intro vf pf hR
    have e3 := hR 3 (by decide)
    have e7 := hR 7 (by decide)
    exact ovQ rfl (sk 81 (congrArg some e3.1) (sk 85 (congrArg some e7.1) (zam _))) (zbz (zax rfl))
   ·
    intro vf pf hR
    have e8 := hR 8 (by decide)
    exact ovQ rfl (sk 86 (congrArg some e8.1) (zam _)) (zbz (zax rfl))
   ·
    intro vf pf hR
    have e9 := hR 9 (by decide)
    refine Or.inl ⟨zbx (congrArg some e9.1) rfl, ?_⟩
    exact zcd (zav [8] rfl) (zbz (fdQ 2 rfl rfl rfl))
   ·
    intro vf pf hR
    have e9 := hR 9 (by decide)
    have e10 := hR 10 (by decide)
    refine Or.inl ⟨zbx (congrArg some e9.1) rfl, ?_⟩
    exact zbm (sk 88 (congrArg some e10.1) (zam _)) (List.sublist_append_right _ _) (zbz (zac rfl rfl rfl (zaa 0 rfl rfl)))
   ·
    intro vf pf hR
    have e9 := hR 9 (by decide)
    have e11 := hR 11 (by decide)
    refine Or.inl ⟨zbx (congrArg some e9.1) rfl, ?_⟩
    exact zbm (sk 89 (congrArg some e11.1) (zam _)) (List.sublist_append_right _ _) (zbz (lnQ rfl rfl rfl (zae ((hd.at (k := k) (by omega)).p.at (k := i) (by omega)))))
   ·
    intro vf pf hR
    have e9 := hR 9 (by decide)
    refine Or.inl ⟨zbx (congrArg some e9.1) rfl, ?_⟩
    exact zcd (zav [2] rfl) (zbz (fdQ 0 rfl rfl rfl))
   ·
    intro vf pf hR
    have e9 := hR 9 (by decide)
    have e13 := hR 13 (by decide)
    refine Or.inl ⟨zbx (congrArg some e9.1) rfl, ?_⟩
    exact zbm (sk 91 (congrArg some e13.1) (zam _)) (List.sublist_append_right _ _) (zbz (zac rfl rfl rfl (zaa 1 rfl rfl)))
   ·
    intro vf pf hR
    have e9 := hR 9 (by decide)
    refine Or.inl ⟨zbx (congrArg some e9.1) rfl, ?_⟩
    exact zcd (zav [8] rfl) (zbz (fdQ 0 rfl rfl rfl))
   ·
    intro vf pf hR
    have e9 := hR 9 (by decide)
    have e15 := hR 15 (by decide)
    refine Or.inl ⟨zbx (congrArg some e9.1) rfl, ?_⟩
    exact zbm (sk 93 (congrArg some e15.1) (zam _)) (List.sublist_append_right _ _) (zbz (zac rfl rfl rfl (zaa 0 rfl rfl)))
   ·
    intro vf pf hR
    have e9 := hR 9 (by decide)
    have e14 := hR 14 (by decide)
    have e16 := hR 16 (by decide)
    refine Or.inl ⟨zbx (congrArg some e9.1) rfl, ?_⟩
    exact zbm (sk 92 (congrArg some e14.1) (sk 94 (congrArg some e16.1) (zam _))) (List.sublist_append_right _ _) (zbz (riQ 4 rfl rfl rfl rfl (zae hd.row)))
   ·
    intro vf pf hR
    have e9 := hR 9 (by decide)
    have e17 := hR 17 (by decide)
    refine Or.inl ⟨zbx (congrArg some e9.1) rfl, ?_⟩
    exact zbm (sk 95 (congrArg some e17.1) (zam _)) (List.sublist_append_right _ _) (zbz (zbj (us := [(D.getD (((((D.getD k md0).xs).getD i ix0).m).toNat) md0).sv, (D.getD (((((D.getD k md0).xs).getD i ix0).m).toNat) md0).av, (D.getD (((((D.getD k md0).xs).getD i ix0).m).toNat) md0).iv, (D.getD (((((D.getD k md0).xs).getD i ix0).m).toNat) md0).mv]) rfl rfl rfl rfl (zae hd.row) (by omega) rfl (zby mdC 4 (fun _ => rfl) D md0 (show ((((D.getD k md0).xs).getD i ix0).m).toNat < _ by omega) rfl)))
   ·
    intro vf pf hR
    have e9 := hR 9 (by decide)
    have e18 := hR 18 (by decide)
    refine Or.inl ⟨zbx (congrArg some e9.1) rfl, ?_⟩
    exact zbm (sk 96 (congrArg some e18.1) (zam _)) (List.sublist_append_right _ _) (zaw rfl rfl (fun w hm => zeg (D.getD (((((D.getD k md0).xs).getD i ix0).m).toNat) md0) w ((hd.at (by omega)).below hm.bel)))
   ·
    intro vf pf hR
    have e9 := hR 9 (by decide)
    have e19 : (fun v' post => post = [rowE 3 1 v' ((ptsK (D.getD (((((D.getD k md0).xs).getD i ix0).m).toNat) md0))).length (((ptsK (D.getD (((((D.getD k md0).xs).getD i ix0).m).toNat) md0))).map (Value.int .i64))]) (vf 19) (pf 19) := hR 19 (by decide)
    obtain ⟨v24, vE19⟩ : ∃ x, vf 19 = x := ⟨_, rfl⟩
    obtain ⟨p25, pE19⟩ : ∃ x, pf 19 = x := ⟨_, rfl⟩
    have hR26 := e19
    rw [vE19, pE19] at hR26
    subst hR26
    refine Or.inl ⟨zbx (congrArg some e9.1) rfl, ?_⟩
    exact zco (sk 97 (congrArg some vE19) (zam _)) (by simp only [pE19, vE19, e9.2, fS] <;> rfl) (zbz (lnQ rfl rfl rfl (zai 0 rfl)))
   ·
    intro vf pf hR
    have e9 := hR 9 (by decide)
    have e12 := hR 12 (by decide)
    have e19 : (fun v' post => post = [rowE 3 1 v' ((ptsK (D.getD (((((D.getD k md0).xs).getD i ix0).m).toNat) md0))).length (((ptsK (D.getD (((((D.getD k md0).xs).getD i ix0).m).toNat) md0))).map (Value.int .i64))]) (vf 19) (pf 19) := hR 19 (by decide)
    obtain ⟨v24, vE19⟩ : ∃ x, vf 19 = x := ⟨_, rfl⟩
    obtain ⟨p25, pE19⟩ : ∃ x, pf 19 = x := ⟨_, rfl⟩
    have hR26 := e19
    rw [vE19, pE19] at hR26
    subst hR26
    have e20 := hR 20 (by decide)
    refine Or.inl ⟨zbx (congrArg some e9.1) rfl, ?_⟩
    exact zco (sk 90 (congrArg some e12.1) (sk 98 (congrArg some e20.1) (zam _))) (by simp only [pE19, vE19, e9.2, e12.2, e20.2, fS] <;> rfl) (zct (zbz (zck rfl rfl rfl rfl)) (fun _ _ h => ⟨h.1.trans (congrArg Value.bool hb20), h.2⟩))
   intro vf pf hR
   have e9 := hR 9 (by decide)
   have e21 := hR 21 (by decide)
   exact ovQ rfl (sk 87 (congrArg some e9.1) (sk 99 (congrArg some e21.1) (zam _))) (zbz (zax rfl))
  intro vf pf hR
  have e19 : (fun v' post => post = [rowE 3 1 v' ((ptsK (D.getD (((((D.getD k md0).xs).getD i ix0).m).toNat) md0))).length (((ptsK (D.getD (((((D.getD k md0).xs).getD i ix0).m).toNat) md0))).map (Value.int .i64))]) (vf 19) (pf 19) := hR 19 (by decide)
  obtain ⟨v24, vE19⟩ : ∃ x, vf 19 = x := ⟨_, rfl⟩
  obtain ⟨p25, pE19⟩ : ∃ x, pf 19 = x := ⟨_, rfl⟩
  have hR26 := e19
  rw [vE19, pE19] at hR26
  subst hR26
  have e22 := hR 22 (by decide)
  have q0 := hR 0 (by decide)
  have q1 := hR 1 (by decide)
  have q2 := hR 2 (by decide)
  have q3 := hR 3 (by decide)
  have q4 := hR 4 (by decide)
  have q5 := hR 5 (by decide)
  have q6 := hR 6 (by decide)
  have q7 := hR 7 (by decide)
  have q8 := hR 8 (by decide)
  have q9 := hR 9 (by decide)
  have q10 := hR 10 (by decide)
  have q11 := hR 11 (by decide)
  have q12 := hR 12 (by decide)
  have q13 := hR 13 (by decide)
  have q14 := hR 14 (by decide)
  have q15 := hR 15 (by decide)
  have q16 := hR 16 (by decide)
  have q17 := hR 17 (by decide)
  have q18 := hR 18 (by decide)
  have q20 := hR 20 (by decide)
  have q21 := hR 21 (by decide)
  have q22 := hR 22 (by decide)
  refine zdj (zcu [66, 28, 23, 8, 7, 4, 2, 1, 0] _ (sk 100 (congrArg some e22.1) (zam _)) rfl) (by simp only [pE19, vE19, q0.2, q1.2, q2.2, q3.2, q4.2, q5.2, q6.2, q7.2, q8.2, q9.2, q10.2, q11.2, q12.2, q13.2, q14.2, q15.2, q16.2, q17.2, q18.2, q20.2, q21.2, q22.2, fS] <;> rfl) ?_
  simp only [List.drop_succ_cons, List.drop_zero]
  refine ntQ (fsQ rfl (zde (reQ 1 rfl (hvQ rfl (vaQ rfl rfl rfl) (enQ 1 rfl ?_)))))
  exact zbt (i + 1) ⟨by omega, fun q hq => by by_cases e : q = i; (subst e; exact ⟨⟨by omega, by omega⟩, by omega⟩); exact hins q (by omega)⟩ (by omega) (saQ rfl) (slQ [2] rfl)
 refine ntQ (zas rfl ?_)
 refine zbi (zdv ?_)
 refine zal (zar (zbh 1 rfl ?_))
 exact zap (zay rfl rfl (congrArg _ (zdf ⟨by omega, ⟨by omega, fun q hq => hall q (by omega)⟩, fun q hq => hins q (by omega)⟩).symm))
end Go.Proofs.Ytodiifjigjnalaa
