/- Texts of the law FnConnsComplete, part 6: what it uses. -/
import Derived.Test.YteikplehipifkaaCnc5
set_option linter.unusedVariables false
set_option linter.unusedSimpArgs false
set_option maxHeartbeats 4000000
set_option maxRecDepth 100000
namespace Go.Proofs.Yteikplehipifkaa
open Go.RowKit Go.ChangeShapes
open Go.RowKit
theorem zpl (n : Ln) (b : Bk) (w : World) (hr : RdsLn w n) (hok : LnOk n) (hbe : RdsW w b.bv 2 b.es.length (b.es.flatMap leC)) (hbl : b.es.length ≤ 100) (hb : BlP n b) :
   Calls Try.prog 35 #[.agg #[.int .i64 n.ins, n.sv, n.lv, n.ov], .agg #[.int .i64 b.kd, .int .i64 b.it, b.bv]] w (Ans w (.bool true)) := by
 have hso := sml hr.ou
 have hss := hr.sq.small
 have hsl := hr.lt.small
 have hcnt : n.cnt = 1 + n.ins + n.ss.length + n.ls.length := rfl
 have hfst : n.fst = 1 + n.ins + n.ss.length := rfl
 obtain ⟨⟨si0, si1⟩, s2, s3, s4⟩ := hok.sz
 have hb1 := hbe.one
 have hpl9 := zlo hok hb
 have hrg := hb.rng
 have hsq9 : b.kd = 2 → SqOk (n.ss.getD b.it.toNat sq0) := fun h => (hok.sq b.it.toNat (by have := hb.rng; omega)).1
 refine zbf (N := 47) (args := [.agg #[.int .i64 n.ins, n.sv, n.lv, n.ov], .agg #[.int .i64 b.kd, .int .i64 b.it, b.bv]]) Try.func35 rfl rfl (srQ ?_)
 refine zdj rfl (zch rfl rfl) ?_
 intro b1
 refine zdj rfl (zch rfl rfl) ?_
 intro b2
 refine zaz 1 rfl (zeh (hvQ rfl (zao (cs := [.int .i64 n.ins, n.sv, n.lv, n.ov]) rfl rfl rfl rfl rfl (zaj 1 rfl 0 rfl)) (hvQ rfl (zao (cs := [.int .i64 b.kd, .int .i64 b.it, b.bv]) rfl rfl rfl rfl rfl (zaj 0 rfl 0 rfl)) ?_)))
 refine zds rfl (zaq rfl rfl (fun w hm => zav (zhm n b w (hr.below hm.bel) hok (hbe.below hm.bel) hbl hb.1))) (zaz 1 rfl (zal rfl (zcq (zeh (hvQ rfl (fdQ 0 rfl rfl rfl) (hvQ rfl (zad rfl rfl rfl (zaa 0 rfl rfl)) ?_))))))
 refine zfj rfl rfl rfl rfl rfl rfl (fun h3 => ?_) (fun h3 => ?_)
 ·
  refine ntQ (zak rfl (srQ (hvQ rfl (fdQ 2 rfl rfl rfl) (hvQ rfl (zad rfl rfl rfl (zaa 0 rfl rfl)) (hvQ rfl (lnQ rfl rfl rfl (zab hbe)) ?_)))))
  refine zbp rfl rfl rfl rfl rfl rfl (fun h4 => ?_) (fun h4 => ?_)
  ·
   refine zap 1 rfl (hvQ rfl (fdQ 0 rfl rfl rfl) (hvQ rfl (zad rfl rfl rfl (zaa 0 rfl rfl)) ?_))
   refine zfj rfl rfl rfl rfl rfl rfl (fun h5 => ?_) (fun h5 => ?_)
   ·
    refine zaz 12 rfl ?_
    refine zau (zai ?_)
    exact zbb rfl rfl rfl
   refine zap 1 rfl (hvQ rfl (fdQ 1 rfl rfl rfl) (hvQ rfl (zad rfl rfl rfl (zaa 1 rfl rfl)) (hvQ rfl (fdQ 1 rfl rfl rfl) (hvQ rfl (zad rfl rfl rfl (zaa 0 rfl rfl)) (hvQ rfl (riQ 3 rfl rfl rfl rfl (zab ((hr).sq.row))) (hvQ rfl (zbe (k0 := 0) rfl rfl rfl (zab ((hr).sq.row)) (by omega)) ?_))))))
   refine hvQ rfl (zar (u := .int .i64 ((n.ss.getD ((b.it).toNat) sq0).kd)) rfl rfl rfl (zab ((hr).sq.row)) ((zce sqC 3 (fun _ => rfl) n.ss sq0 (show (b.it).toNat < _ by omega) (by decide)).trans rfl)) (zbp rfl rfl rfl rfl rfl rfl (fun h6 => ?_) (fun h6 => ?_))
   ·
    refine zaz 3 rfl ?_
    refine zau (zai ?_)
    exact zbb rfl rfl rfl
   refine zaz 3 rfl ?_
   refine zau (zai ?_)
   exfalso; obtain ⟨p1, p2, p3⟩ := hb; first | omega | (have := p2 (by omega); omega) | (have q3 := p3 (by omega); have := q3.2; omega)
  refine zaz 16 rfl ?_
  refine zau (zai ?_)
  exfalso; obtain ⟨p1, p2, p3⟩ := hb; first | omega | (have := p2 (by omega); omega) | (have q3 := p3 (by omega); have := q3.2; omega)
 refine ntQ (zal rfl (zcq (srQ (hvQ rfl (fdQ 1 rfl rfl rfl) (hvQ rfl (zad rfl rfl rfl (zaa 0 rfl rfl)) ?_)))))
 refine zbp rfl rfl rfl rfl rfl rfl (fun h7 => ?_) (fun h7 => ?_)
 ·
  refine zap 1 rfl (hvQ rfl (fdQ 2 rfl rfl rfl) (hvQ rfl (zad rfl rfl rfl (zaa 0 rfl rfl)) (hvQ rfl (lnQ rfl rfl rfl (zab hbe)) ?_)))
  refine zds rfl (zaq rfl rfl (fun w hm => zav (zgb (zdy _ _ _ w)))) (zca (fun h8 => ?_) (fun h8 => ?_))
  ·
   obtain ⟨h8a, h8b⟩ := (zdc _ _ _).1 h8
   refine zap 2 rfl (hvQ rfl (zao (cs := [.int .i64 n.ins, n.sv, n.lv, n.ov]) rfl rfl rfl rfl rfl (zaj 1 rfl 0 rfl)) (hvQ rfl (zao (cs := [.int .i64 b.kd, .int .i64 b.it, b.bv]) rfl rfl rfl rfl rfl (zaj 0 rfl 0 rfl)) ?_))
   refine zfg rfl rfl rfl (zaq rfl rfl (fun w hm => zhu n b w (hr.below hm.bel) hok (hbe.below hm.bel) hbl hb.1)) ?_
   intro v9 p10 hR11
   subst hR11
   refine hvQ rfl (lnQ rfl rfl rfl (zae 0 rfl)) (zhn rfl rfl rfl rfl rfl rfl (fun h12 => ?_) (fun h12 => ?_))
   ·
    refine zaz 2 rfl ?_
    exact zau (zbb rfl rfl rfl)
   refine zaz 2 rfl ?_
   refine zau ?_
   exfalso; obtain ⟨p1, p2, p3⟩ := hb; first | omega | (have := p2 (by omega); omega) | (have q3 := p3 (by omega); have := q3.2; omega)
  have h8a := zea h8
  refine zaz 9 rfl ?_
  refine zau ?_
  exfalso; obtain ⟨p1, p2, p3⟩ := hb; first | omega | (have := p2 (by omega); omega) | (have q3 := p3 (by omega); have := q3.2; omega)
 refine enQ 14 rfl ?_
 refine zaw (zau ?_)
 exfalso; obtain ⟨p1, p2, p3⟩ := hb; first | omega | (have := p2 (by omega); omega) | (have q3 := p3 (by omega); have := q3.2; omega)
theorem zmo (n : Ln) (b : Bk) (w : World) (hr : RdsLn w n) (hok : LnOk n) (hbe : RdsW w b.bv 2 b.es.length (b.es.flatMap leC)) (hbl : b.es.length ≤ 100) (hb : BlP n b) :
   Calls Try.prog 13 #[.agg #[.int .i64 n.ins, n.sv, n.lv, n.ov], .agg #[.int .i64 b.kd, .int .i64 b.it, b.bv]] w (Ret w (fun v' post => post = [rowE 3 1 v' ((outNd n b)).length (((outNd n b)).map (Value.int .i64))])) := by
 have hso := sml hr.ou
 have hss := hr.sq.small
 have hsl := hr.lt.small
 have hcnt : n.cnt = 1 + n.ins + n.ss.length + n.ls.length := rfl
 have hfst : n.fst = 1 + n.ins + n.ss.length := rfl
 obtain ⟨⟨si0, si1⟩, s2, s3, s4⟩ := hok.sz
 have hb1 := hbe.one
 refine zbf (N := 17) (args := [.agg #[.int .i64 n.ins, n.sv, n.lv, n.ov], .agg #[.int .i64 b.kd, .int .i64 b.it, b.bv]]) Try.func13 rfl rfl (srQ ?_)
 refine zdj rfl (zch rfl rfl) ?_
 intro b1
 refine zdj rfl (zch rfl rfl) ?_
 intro b2
 refine zaz 1 rfl (zeh (hvQ rfl (zao (cs := [.int .i64 n.ins, n.sv, n.lv, n.ov]) rfl rfl rfl rfl rfl (zaj 1 rfl 0 rfl)) ?_))
 refine zds rfl (zaq rfl rfl (fun w hm => zav (zic n w (hr.below hm.bel) hok))) (zap 2 rfl (hvQ rfl (zao (cs := [.int .i64 n.ins, n.sv, n.lv, n.ov]) rfl rfl rfl rfl rfl (zaj 1 rfl 0 rfl)) (hvQ rfl (zao (cs := [.int .i64 b.kd, .int .i64 b.it, b.bv]) rfl rfl rfl rfl rfl (zaj 0 rfl 0 rfl)) ?_)))
 refine zds rfl (zaq rfl rfl (fun w hm => zav (zhm n b w (hr.below hm.bel) hok (hbe.below hm.bel) hbl hb.1))) (zaz 2 rfl (zal rfl (zcq (srQ (hvQ rfl (zao (cs := [.int .i64 n.ins, n.sv, n.lv, n.ov]) rfl rfl rfl rfl rfl (zaj 1 rfl 0 rfl)) (hvQ rfl (zao (cs := [.int .i64 b.kd, .int .i64 b.it, b.bv]) rfl rfl rfl rfl rfl (zaj 0 rfl 0 rfl)) ?_))))))
 refine zfg rfl rfl rfl (zaq rfl rfl (fun w hm => zhv n b w (hr.below hm.bel) hok (hbe.below hm.bel) hbl hb.1)) ?_
 intro v3 p4 hR5
 subst hR5
 refine zaz 1 rfl ?_
 exact zau (zck (post := [rowE 3 1 v3 ((outNd n b).length) ((outNd n b).map (Value.int .i64))]) rfl rfl (slQ [0] rfl) rfl)
theorem zfy (xs : List Int) (v : Value) (w : World) (hv : RdsW w v 1 xs.length (xs.map (Value.int .i64))) (hlen : xs.length ≤ 1000000) (h1 : ∀ q, q < xs.length → xs.getD q 0 = 1) :
   Calls Try.prog 36 #[v] w (Ans w (.bool true)) := by
 refine zbf (N := 14) (args := [v]) Try.func36 rfl rfl (zbd 1 rfl (zac (zac (reQ 1 rfl (hvQ rfl (lnQ rfl rfl rfl (zab hv)) (zap 1 rfl (?_)))))))
 refine ntQ (zax ?_)
 refine zka (α := Nat) [0, 2, 5, 6] rfl (fun k => []) (fun k => [(7, .int .i64 (k : Int))]) (fun k => k ≤ xs.length) (fun k => xs.length - k) 0 (Nat.zero_le _) (saQ rfl) (.slnil) ?_
 intro k hi1
 have hk := hi1
 refine srQ ?_
 refine zbj rfl rfl rfl rfl rfl rfl (fun h2 => ?_) (fun h2 => ?_)
 ·
  refine ntQ (tcQ rfl (zcq (sbQ (srQ (hvQ rfl (riQ 1 rfl rfl rfl rfl (zab hv)) (hvQ rfl (liQ rfl rfl rfl (zab hv)) (zap 1 rfl ?_)))))))
  refine ntQ (zac (reQ 1 rfl ?_))
  refine zfj rfl rfl rfl rfl rfl rfl (fun h3 => ?_) (fun h3 => ?_)
  ·
   refine ntQ (zak rfl (zbd 1 rfl ?_))
   refine zau (zan ?_)
   refine zge ?_
   refine zan (zai ?_)
   exact absurd (h1 k (by omega)) (by assumption)
  refine ntQ (fsQ rfl (zcv (zay (hvQ rfl (vaQ rfl rfl rfl) (enQ 1 rfl ?_)))))
  exact zcr (k + 1) (by omega) (by omega) (saQ rfl) (.slnil)
 refine ntQ (fcQ rfl ?_)
 refine zba (zdq ?_)
 refine zag (zaw (zbd 1 rfl ?_))
 exact zau (zbb rfl rfl rfl)
theorem zkn (n : Ln) (bs : List Bk) (v : Value) (w : World) (hr : RdsLn w n) (hok : LnOk n) (hbk : RdsBk w v bs) (hp : PkOk n bs) :
   Calls Try.prog 14 #[.agg #[.int .i64 n.ins, n.sv, n.lv, n.ov], v] w (Ans w (.bool true)) := by
 have hso := sml hr.ou
 have hss := hr.sq.small
 have hsl := hr.lt.small
 have hcnt : n.cnt = 1 + n.ins + n.ss.length + n.ls.length := rfl
 have hfst : n.fst = 1 + n.ins + n.ss.length := rfl
 obtain ⟨⟨si0, si1⟩, s2, s3, s4⟩ := hok.sz
 have hbs9 := sml hbk.row
 have hb64 := hp.len
 have hblp : ∀ k, k < bs.length → BlP n (bs.getD k bk0) := fun k hk => hp.bl _ (zbl hk)
 have hel : ∀ k, k < bs.length → (bs.getD k bk0).es.length ≤ 100 := fun k hk => by have h9 := (hblp k hk).rng; omega
 refine zbf (N := 118) (args := [.agg #[.int .i64 n.ins, n.sv, n.lv, n.ov], v]) Try.func14 rfl rfl (srQ ?_)
 refine zdj rfl (zch rfl rfl) ?_
 intro b1
 refine zaz 1 rfl (zeh (hvQ rfl (zao (cs := [.int .i64 n.ins, n.sv, n.lv, n.ov]) rfl rfl rfl rfl rfl (zaj 0 rfl 0 rfl)) ?_))
 refine zds rfl (zaq rfl rfl (fun w hm => zav (zic n w (hr.below hm.bel) hok))) (zap 3 rfl (hvQ rfl (lnQ rfl rfl rfl (zab hbk.row)) ?_))
 refine zet rfl rfl rfl rfl rfl rfl (fun h2 => ?_) (fun h2 => ?_)
 ·
  refine zaz 1 rfl (zak rfl (zbd 1 rfl ?_))
  refine zau (zai ?_)
  exfalso; omega
 refine zaz 1 rfl (zal rfl (zcq (zac ?_)))
 refine zdf rfl 8 [0, 1, 2, 3, 4, 5, 6, 7] (List.take 8 _) (List.drop 8 _) [[], [0], [1], [], [3], [4], [5], [2]] [21, 22, 23, 24, 25, 26, 27, 5] (fun i_ vs_ v_ p_ => match i_ with | 0 => v_ = .pointer (some ⟨b1, 0 + 0, none⟩) ∧ p_ = [] | 1 => v_ = .int .i64 n.ins ∧ p_ = [] | 2 => IsRow 3 1 ((List.replicate (n.ins).toNat (0 : Int)).length) ((List.replicate (n.ins).toNat (0 : Int)).map (Value.int .i64)) v_ p_ | 3 => v_ = .pointer (some ⟨b1, 0 + 3, none⟩) ∧ p_ = [] | 4 => v_ = n.ov ∧ p_ = [] | 5 => v_ = .int .i64 (n.os.length : Int) ∧ p_ = [] | 6 => IsRow 3 1 ((List.replicate n.os.length (0 : Int)).length) ((List.replicate n.os.length (0 : Int)).map (Value.int .i64)) v_ p_ | 7 => v_ = (List.getD vs_ 0 undef) ∧ p_ = [] | _ => True) (List.take_append_drop 8 _).symm (by kernel_rfl) (by kernel_rfl) rfl rfl ?_ ?_
 ·
  refine ⟨?_, ?_, ?_, ?_, ?_, ?_, ?_, ?_, trivial⟩
  ·
   intro vf pf hR
   exact ovQ rfl (zam [2] rfl) (zbg (fdQ 0 rfl rfl rfl))
  ·
   intro vf pf hR
   have e0 := hR 0 (by decide)
   exact olQ rfl (sk 21 (congrArg some e0.1) (zaf _)) (zbg (zad rfl rfl rfl (zaa 0 rfl rfl)))
  ·
   intro vf pf hR
   have e1 := hR 1 (by decide)
   exact olQ rfl (sk 22 (congrArg some e1.1) (zaf _)) (zdw (z := .int .i64 0) (s := 1) (bytes := 8) (n := (List.replicate (n.ins).toNat (0 : Int)).length) (cs := ((List.replicate (n.ins).toNat (0 : Int)).map (Value.int .i64))) rfl Try.underlying28 rfl (by decide) rfl rfl (by first | (rw [List.length_replicate]; done) | (rw [List.length_replicate]; omega)) (by first | (rw [List.length_replicate]; done) | (rw [List.length_replicate]; omega)) (by rw [List.length_replicate]; omega) (zec _))
  ·
   intro vf pf hR
   exact ovQ rfl (zam [2] rfl) (zbg (fdQ 3 rfl rfl rfl))
  ·
   intro vf pf hR
   have e3 := hR 3 (by decide)
   exact olQ rfl (sk 24 (congrArg some e3.1) (zaf _)) (zbg (zad rfl rfl rfl (zaa 0 rfl rfl)))
  ·
   intro vf pf hR
   have e4 := hR 4 (by decide)
   exact olQ rfl (sk 25 (congrArg some e4.1) (zaf _)) (zbg (lnQ rfl rfl rfl (zab ((hr).ou))))
  ·
   intro vf pf hR
   have e5 := hR 5 (by decide)
   exact olQ rfl (sk 26 (congrArg some e5.1) (zaf _)) (zdw (z := .int .i64 0) (s := 1) (bytes := 8) (n := (List.replicate n.os.length (0 : Int)).length) (cs := ((List.replicate n.os.length (0 : Int)).map (Value.int .i64))) rfl Try.underlying28 rfl (by decide) rfl rfl (by first | (rw [List.length_replicate]; done) | (rw [List.length_replicate]; omega)) (by first | (rw [List.length_replicate]; done) | (rw [List.length_replicate]; omega)) (by rw [List.length_replicate]; omega) (zec _))
  intro vf pf hR
  have e2 : IsRow 3 1 ((List.replicate (n.ins).toNat (0 : Int)).length) ((List.replicate (n.ins).toNat (0 : Int)).map (Value.int .i64)) (vf 2) (pf 2) := hR 2 (by decide)
  obtain ⟨g3, vE2, pE2⟩ := e2
  refine Or.inl ⟨rfl, ?_⟩
  exact zci (sk 23 (congrArg some vE2) (zaf _)) (by simp only [pE2, vE2, fS] <;> rfl) (zcy (zbg (zas rfl)) (fun _ _ h => ⟨h.1.trans (by show _ = ((vf 2) : Value); first | (rw [vE2]; done) | (rw [vE2]; rfl)), h.2⟩))
 intro vf pf hR
 have e2 : IsRow 3 1 ((List.replicate (n.ins).toNat (0 : Int)).length) ((List.replicate (n.ins).toNat (0 : Int)).map (Value.int .i64)) (vf 2) (pf 2) := hR 2 (by decide)
 obtain ⟨g3, vE2, pE2⟩ := e2
 have e6 : IsRow 3 1 ((List.replicate n.os.length (0 : Int)).length) ((List.replicate n.os.length (0 : Int)).map (Value.int .i64)) (vf 6) (pf 6) := hR 6 (by decide)
 obtain ⟨g4, vE6, pE6⟩ := e6
 have e7 : (vf 7) = (vf 2) ∧ (pf 7) = [] := hR 7 (by decide)
 rw [vE2] at e7
 have q0 := hR 0 (by decide)
 have q1 := hR 1 (by decide)
 have q3 := hR 3 (by decide)
 have q4 := hR 4 (by decide)
 have q5 := hR 5 (by decide)
 have q7 := hR 7 (by decide)
 refine zco (zbk [4, 2, 1, 0] _ (sk 5 (congrArg some e7.1) (sk 20 rfl (sk 27 (congrArg some vE6) (zaf _)))) rfl) (by simp only [pE2, vE2, pE6, vE6, q0.2, q1.2, q3.2, q4.2, q5.2, q7.2, fS] <;> rfl) ?_
 simp only [List.drop_succ_cons, List.drop_zero]
 refine zaz 1 rfl (zac ?_)
 refine zdf rfl 9 [0, 1, 2, 3, 4, 5, 6, 7, 8] (List.take 9 _) (List.drop 9 _) [[], [0], [1], [2], [], [4], [5], [6], [3]] [28, 29, 30, 31, 32, 33, 34, 35, 7] (fun i_ vs_ v_ p_ => match i_ with | 0 => v_ = .pointer (some ⟨b1, 0 + 1, none⟩) ∧ p_ = [] | 1 => v_ = n.sv ∧ p_ = [] | 2 => v_ = .int .i64 (n.ss.length : Int) ∧ p_ = [] | 3 => IsRow 3 1 ((List.replicate n.ss.length (0 : Int)).length) ((List.replicate n.ss.length (0 : Int)).map (Value.int .i64)) v_ p_ | 4 => v_ = .pointer (some ⟨b1, 0 + 2, none⟩) ∧ p_ = [] | 5 => v_ = n.lv ∧ p_ = [] | 6 => v_ = .int .i64 (n.ls.length : Int) ∧ p_ = [] | 7 => IsRow 3 1 ((List.replicate n.ls.length (0 : Int)).length) ((List.replicate n.ls.length (0 : Int)).map (Value.int .i64)) v_ p_ | 8 => v_ = (List.getD vs_ 0 undef) ∧ p_ = [] | _ => True) (List.take_append_drop 9 _).symm (by kernel_rfl) (by kernel_rfl) rfl rfl ?_ ?_
 ·
  refine ⟨?_, ?_, ?_, ?_, ?_, ?_, ?_, ?_, ?_, trivial⟩
  ·
   intro vf pf hR
   exact ovQ rfl (zam [2] rfl) (zbg (fdQ 1 rfl rfl rfl))
  ·
   intro vf pf hR
   have e0 := hR 0 (by decide)
   exact olQ rfl (sk 28 (congrArg some e0.1) (zaf _)) (zbg (zad rfl rfl rfl (zaa 2 rfl rfl)))
  ·
   intro vf pf hR
   have e1 := hR 1 (by decide)
   exact olQ rfl (sk 29 (congrArg some e1.1) (zaf _)) (zbg (lnQ rfl rfl rfl (zab ((hr).sq.row))))
  ·
   intro vf pf hR
   have e2 := hR 2 (by decide)
   exact olQ rfl (sk 30 (congrArg some e2.1) (zaf _)) (zdw (z := .int .i64 0) (s := 1) (bytes := 8) (n := (List.replicate n.ss.length (0 : Int)).length) (cs := ((List.replicate n.ss.length (0 : Int)).map (Value.int .i64))) rfl Try.underlying28 rfl (by decide) rfl rfl (by first | (rw [List.length_replicate]; done) | (rw [List.length_replicate]; omega)) (by first | (rw [List.length_replicate]; done) | (rw [List.length_replicate]; omega)) (by rw [List.length_replicate]; omega) (zec _))
  ·
   intro vf pf hR
   exact ovQ rfl (zam [2] rfl) (zbg (fdQ 2 rfl rfl rfl))
  ·
   intro vf pf hR
   have e4 := hR 4 (by decide)
   exact olQ rfl (sk 32 (congrArg some e4.1) (zaf _)) (zbg (zad rfl rfl rfl (zaa 2 rfl rfl)))
  ·
   intro vf pf hR
   have e5 := hR 5 (by decide)
   exact olQ rfl (sk 33 (congrArg some e5.1) (zaf _)) (zbg (lnQ rfl rfl rfl (zab ((hr).lt.row))))
  ·
   intro vf pf hR
   have e6 := hR 6 (by decide)
   exact olQ rfl (sk 34 (congrArg some e6.1) (zaf _)) (zdw (z := .int .i64 0) (s := 1) (bytes := 8) (n := (List.replicate n.ls.length (0 : Int)).length) (cs := ((List.replicate n.ls.length (0 : Int)).map (Value.int .i64))) rfl Try.underlying28 rfl (by decide) rfl rfl (by first | (rw [List.length_replicate]; done) | (rw [List.length_replicate]; omega)) (by first | (rw [List.length_replicate]; done) | (rw [List.length_replicate]; omega)) (by rw [List.length_replicate]; omega) (zec _))
  intro vf pf hR
  have e3 : IsRow 3 1 ((List.replicate n.ss.length (0 : Int)).length) ((List.replicate n.ss.length (0 : Int)).map (Value.int .i64)) (vf 3) (pf 3) := hR 3 (by decide)
  obtain ⟨g5, vE3, pE3⟩ := e3
  refine Or.inl ⟨rfl, ?_⟩
  exact zci (sk 31 (congrArg some vE3) (zaf _)) (by simp only [pE3, vE3, fS] <;> rfl) (zcy (zbg (zas rfl)) (fun _ _ h => ⟨h.1.trans (by show _ = ((vf 3) : Value); first | (rw [vE3]; done) | (rw [vE3]; rfl)), h.2⟩))
 intro vf pf hR
 have e3 : IsRow 3 1 ((List.replicate n.ss.length (0 : Int)).length) ((List.replicate n.ss.length (0 : Int)).map (Value.int .i64)) (vf 3) (pf 3) := hR 3 (by decide)
 obtain ⟨g5, vE3, pE3⟩ := e3
 have e7 : IsRow 3 1 ((List.replicate n.ls.length (0 : Int)).length) ((List.replicate n.ls.length (0 : Int)).map (Value.int .i64)) (vf 7) (pf 7) := hR 7 (by decide)
 obtain ⟨g6, vE7, pE7⟩ := e7
 have e8 : (vf 8) = (vf 3) ∧ (pf 8) = [] := hR 8 (by decide)
 rw [vE3] at e8
 have q0 := hR 0 (by decide)
 have q1 := hR 1 (by decide)
 have q2 := hR 2 (by decide)
 have q4 := hR 4 (by decide)
 have q5 := hR 5 (by decide)
 have q6 := hR 6 (by decide)
 have q8 := hR 8 (by decide)
 refine zco (zbk [6, 5, 4, 2, 1, 0] _ (sk 7 (congrArg some e8.1) (sk 20 rfl (sk 35 (congrArg some vE7) (zaf _)))) rfl) (by simp only [pE3, vE3, pE7, vE7, q0.2, q1.2, q2.2, q4.2, q5.2, q6.2, q8.2, fS] <;> rfl) ?_
 simp only [List.drop_succ_cons, List.drop_zero]
 refine zaz 1 rfl (zac (zac (reQ 1 rfl (hvQ rfl (lnQ rfl rfl rfl (zab hbk.row)) (zaz 1 rfl (zax ?_))))))
 refine zhy (α := Nat) (β := List Int × List Int × List Int × List Int) [0, 1, 2, 4, 5, 6, 7, 8, 20, 36, 37] rfl (fun i Z => [rowE 3 1 (.slice (some ⟨g5, 0, none⟩) ((List.replicate n.ss.length (0 : Int)).length) ((List.replicate n.ss.length (0 : Int)).length)) Z.2.2.1.length (Z.2.2.1.map (Value.int .i64)), rowE 3 1 (.slice (some ⟨g6, 0, none⟩) ((List.replicate n.ls.length (0 : Int)).length) ((List.replicate n.ls.length (0 : Int)).length)) Z.2.2.2.length (Z.2.2.2.map (Value.int .i64)), rowE 3 1 (.slice (some ⟨g3, 0, none⟩) ((List.replicate (n.ins).toNat (0 : Int)).length) ((List.replicate (n.ins).toNat (0 : Int)).length)) Z.1.length (Z.1.map (Value.int .i64)), rowE 3 1 (.slice (some ⟨g4, 0, none⟩) ((List.replicate n.os.length (0 : Int)).length) ((List.replicate n.os.length (0 : Int)).length)) Z.2.1.length (Z.2.1.map (Value.int .i64)), boxE b1 #[.int .i64 n.ins, n.sv, n.lv, n.ov] 30]) (fun i Z => [(38, .int .i64 (i : Int))]) (fun i Z => i ≤ bs.length ∧ Z.1.length = n.ins.toNat ∧ Z.2.1.length = n.os.length ∧ Z.2.2.1.length = n.ss.length ∧ Z.2.2.2.length = n.ls.length ∧ CntB Z.1 (10 * i) ∧ CntB Z.2.1 (10 * i) ∧ CntB Z.2.2.1 (10 * i) ∧ CntB Z.2.2.2 (10 * i) ∧ CntZ Z.1 ((bs.take i).flatMap bI) ∧ CntZ Z.2.1 ((bs.take i).flatMap bO) ∧ CntZ Z.2.2.1 ((bs.take i).flatMap bS) ∧ CntZ Z.2.2.2 ((bs.take i).flatMap bL)) (fun i Z => bs.length - i) 0 (List.replicate n.ins.toNat 0, List.replicate n.os.length 0, List.replicate n.ss.length 0, List.replicate n.ls.length 0) ⟨Nat.zero_le _, List.length_replicate, List.length_replicate, List.length_replicate, List.length_replicate, zfd _ _, zfd _ _, zfd _ _, zfd _ _, CntZ.start _, CntZ.start _, CntZ.start _, CntZ.start _⟩ (saQ rfl) (pfQ rfl) ?_
 intro i Z hi7
 obtain ⟨hi, hz1, hz2, hz3, hz4, hc1, hc2, hc3, hc4, hz5, hz6, hz7, hz8⟩ := hi7
 refine srQ ?_
 refine zbj rfl rfl rfl rfl rfl rfl (fun h8 => ?_) (fun h8 => ?_)
 ·
  refine ntQ (tcQ rfl (zcq (sbQ (srQ (hvQ rfl (riQ 3 rfl rfl rfl rfl (zab hbk.row)) ?_)))))
  refine hvQ rfl (zbt (us := [.int .i64 ((bs.getD i bk0).kd), .int .i64 ((bs.getD i bk0).it), (bs.getD i bk0).bv]) rfl rfl rfl rfl (zab hbk.row) (by omega) rfl (zcp bkC 3 (fun _ => rfl) bs bk0 (show i < _ by omega) rfl)) (zdj rfl (zbx (z := .agg #[.int .i64 0, .int .i64 0, .slice none 0 0]) rfl rfl) ?_)
  intro b9
  refine zcc (cs' := #[.int .i64 ((bs.getD i bk0).kd), .int .i64 ((bs.getD i bk0).it), (bs.getD i bk0).bv]) (i := 0) (off := 0) (us := [.int .i64 ((bs.getD i bk0).kd), .int .i64 ((bs.getD i bk0).it), (bs.getD i bk0).bv]) rfl rfl rfl rfl rfl rfl rfl (zah rfl (zah rfl (zah (hbk.at (k := i) (by omega)).one zbr))) rfl rfl rfl (ntQ (zeh (hvQ rfl (zao (cs := [.int .i64 n.ins, n.sv, n.lv, n.ov]) rfl rfl rfl rfl rfl (zaj 5 rfl 0 rfl)) (hvQ rfl (zao (cs := [.int .i64 ((bs.getD i bk0).kd), .int .i64 ((bs.getD i bk0).it), (bs.getD i bk0).bv]) rfl rfl rfl rfl rfl (zaj 0 rfl 0 rfl)) ?_))))
  refine zds rfl (zaq rfl rfl (fun w hm => zav (zpl n (bs.getD i bk0) w (hr.below hm.bel) hok ((hbk.at (k := i) (by omega)).below hm.bel) (hel i (by omega)) (hblp i (by omega))))) (zaz 1 rfl (zal rfl (zcq ?_)))
  refine zqo (α := List Int × List Int × List Int) (fun Q => [boxE b9 #[.int .i64 ((bs.getD i bk0).kd), .int .i64 ((bs.getD i bk0).it), (bs.getD i bk0).bv] 39, rowE 3 1 (.slice (some ⟨g5, 0, none⟩) ((List.replicate n.ss.length (0 : Int)).length) ((List.replicate n.ss.length (0 : Int)).length)) Q.2.2.length (Q.2.2.map (Value.int .i64)), rowE 3 1 (.slice (some ⟨g6, 0, none⟩) ((List.replicate n.ls.length (0 : Int)).length) ((List.replicate n.ls.length (0 : Int)).length)) Z.2.2.2.length (Z.2.2.2.map (Value.int .i64)), rowE 3 1 (.slice (some ⟨g3, 0, none⟩) ((List.replicate (n.ins).toNat (0 : Int)).length) ((List.replicate (n.ins).toNat (0 : Int)).length)) Q.1.length (Q.1.map (Value.int .i64)), rowE 3 1 (.slice (some ⟨g4, 0, none⟩) ((List.replicate n.os.length (0 : Int)).length) ((List.replicate n.os.length (0 : Int)).length)) Q.2.1.length (Q.2.1.map (Value.int .i64)), boxE b1 #[.int .i64 n.ins, n.sv, n.lv, n.ov] 30]) (fun Q => [(0, .agg #[.int .i64 n.ins, n.sv, n.lv, n.ov]), (1, v), (2, .pointer (some ⟨b1, 0, none⟩)), (4, .bool false), (5, .slice (some ⟨g3, 0, none⟩) ((List.replicate (n.ins).toNat (0 : Int)).length) ((List.replicate (n.ins).toNat (0 : Int)).length)), (6, .slice (some ⟨g4, 0, none⟩) ((List.replicate n.os.length (0 : Int)).length) ((List.replicate n.os.length (0 : Int)).length)), (7, .slice (some ⟨g5, 0, none⟩) ((List.replicate n.ss.length (0 : Int)).length) ((List.replicate n.ss.length (0 : Int)).length)), (8, .slice (some ⟨g6, 0, none⟩) ((List.replicate n.ls.length (0 : Int)).length) ((List.replicate n.ls.length (0 : Int)).length)), (10, .pointer (some ⟨b9, 0, none⟩)), (20, .bool false), (36, v), (37, .int .i64 (bs.length : Int)), (38, .int .i64 (i : Int)), (39, .bool true), (45, .bool false)]) (fun Q => Q.1.length = n.ins.toNat ∧ Q.2.1.length = n.os.length ∧ Q.2.2.length = n.ss.length ∧ CntB Q.1 (10 * i + 1) ∧ CntB Q.2.1 (10 * i + 1) ∧ CntB Q.2.2 (10 * i + 1) ∧ CntZ Q.1 ((bs.take (i + 1)).flatMap bI) ∧ CntZ Q.2.1 ((bs.take (i + 1)).flatMap bO) ∧ CntZ Q.2.2 ((bs.take i).flatMap bS ++ bR (bs.getD i bk0))) ?_ ?_
  ·
   refine srQ ?_
   have hbp : BlP n (bs.getD i bk0) := hblp i (by omega)
   obtain ⟨hg0, hg1, hg2, hg3, hg4⟩ := hbp.rng
   have hq0 := hc1 (bs.getD i bk0).it.toNat
   have hq1 := hc2 (bs.getD i bk0).it.toNat
   have hq2 := hc3 (bs.getD i bk0).it.toNat
   refine hvQ rfl (fdQ 0 rfl rfl rfl) (hvQ rfl (zad rfl rfl rfl (zaa 0 rfl rfl)) (ntQ (zax (srQ ?_))))
   refine zbp rfl rfl rfl rfl rfl rfl (fun h10 => ?_) (fun h10 => ?_)
   ·
    refine zaz 1 rfl (zak rfl (reQ 1 rfl (hvQ rfl (fdQ 1 rfl rfl rfl) (hvQ rfl (zad rfl rfl rfl (zaa 0 rfl rfl)) (hvQ rfl (riQ 1 rfl rfl rfl rfl (zae 3 rfl)) (hvQ rfl (lzQ rfl rfl rfl (zae 3 rfl)) (hvQ rfl (vaQ rfl rfl rfl) (hvQ rfl (riQ 1 rfl rfl rfl rfl (zae 3 rfl)) ?_))))))))
    refine zda (i := 3) (n' := (Z.1.set (((bs.getD i bk0).it).toNat) ((Z.1.getD (((bs.getD i bk0).it).toNat) 0) + 1)).length) (xs' := ((Z.1.set (((bs.getD i bk0).it).toNat) ((Z.1.getD (((bs.getD i bk0).it).toNat) 0) + 1)).map (Value.int .i64))) rfl rfl rfl rfl rfl rfl rfl rfl (by first | omega | (simp only [List.length_set]; omega)) List.length_set.symm (zdd _ _ _) rfl (zbu (zcs ?_))
    exact zfz ((Z.1.set (((bs.getD i bk0).it).toNat) ((Z.1.getD (((bs.getD i bk0).it).toNat) 0) + 1)), Z.2.1, Z.2.2.1) ⟨by first | assumption | (rw [List.length_set]; assumption), by first | assumption | (rw [List.length_set]; assumption), by first | assumption | (rw [List.length_set]; assumption), by first | assumption | exact zbc (by assumption) (by omega) | exact zbc (zbs (by assumption)) (by omega), by first | assumption | exact zbc (by assumption) (by omega) | exact zbc (zbs (by assumption)) (by omega), by first | assumption | exact zbc (by assumption) (by omega) | exact zbc (zbs (by assumption)) (by omega), by rw [zdr bI bk0 (by omega)]; first | (rw [zvs (by omega), List.append_nil]; assumption) | (rw [zri (by omega)]; exact hz5.inc ⟨by omega, by omega⟩), by rw [zdr bO bk0 (by omega)]; first | (rw [zvr (by omega), List.append_nil]; assumption) | (rw [zrh (by omega)]; exact hz6.inc ⟨by omega, by omega⟩), by first | (rw [zvq (by omega), List.append_nil]; assumption) | (rw [zrg (by omega)]; exact hz7.inc ⟨by omega, by omega⟩)⟩ (saQ rfl) (pfQ rfl)
   refine zaz 1 rfl (zal rfl (srQ ?_))
   refine zbp rfl rfl rfl rfl rfl rfl (fun h11 => ?_) (fun h11 => ?_)
   ·
    refine zaz 1 rfl (zak rfl (reQ 1 rfl (hvQ rfl (fdQ 1 rfl rfl rfl) (hvQ rfl (zad rfl rfl rfl (zaa 0 rfl rfl)) (hvQ rfl (riQ 1 rfl rfl rfl rfl (zae 4 rfl)) (hvQ rfl (lzQ rfl rfl rfl (zae 4 rfl)) (hvQ rfl (vaQ rfl rfl rfl) (hvQ rfl (riQ 1 rfl rfl rfl rfl (zae 4 rfl)) ?_))))))))
    refine zda (i := 4) (n' := (Z.2.1.set (((bs.getD i bk0).it).toNat) ((Z.2.1.getD (((bs.getD i bk0).it).toNat) 0) + 1)).length) (xs' := ((Z.2.1.set (((bs.getD i bk0).it).toNat) ((Z.2.1.getD (((bs.getD i bk0).it).toNat) 0) + 1)).map (Value.int .i64))) rfl rfl rfl rfl rfl rfl rfl rfl (by first | omega | (simp only [List.length_set]; omega)) List.length_set.symm (zdd _ _ _) rfl (zbu (zcs ?_))
    exact zfz (Z.1, (Z.2.1.set (((bs.getD i bk0).it).toNat) ((Z.2.1.getD (((bs.getD i bk0).it).toNat) 0) + 1)), Z.2.2.1) ⟨by first | assumption | (rw [List.length_set]; assumption), by first | assumption | (rw [List.length_set]; assumption), by first | assumption | (rw [List.length_set]; assumption), by first | assumption | exact zbc (by assumption) (by omega) | exact zbc (zbs (by assumption)) (by omega), by first | assumption | exact zbc (by assumption) (by omega) | exact zbc (zbs (by assumption)) (by omega), by first | assumption | exact zbc (by assumption) (by omega) | exact zbc (zbs (by assumption)) (by omega), by rw [zdr bI bk0 (by omega)]; first | (rw [zvs (by omega), List.append_nil]; assumption) | (rw [zri (by omega)]; exact hz5.inc ⟨by omega, by omega⟩), by rw [zdr bO bk0 (by omega)]; first | (rw [zvr (by omega), List.append_nil]; assumption) | (rw [zrh (by omega)]; exact hz6.inc ⟨by omega, by omega⟩), by first | (rw [zvq (by omega), List.append_nil]; assumption) | (rw [zrg (by omega)]; exact hz7.inc ⟨by omega, by omega⟩)⟩ (saQ rfl) (pfQ rfl)
   refine zaz 1 rfl (zal rfl (srQ ?_))
   refine zbp rfl rfl rfl rfl rfl rfl (fun h12 => ?_) (fun h12 => ?_)
   ·
    refine zaz 1 rfl (zak rfl (reQ 1 rfl (hvQ rfl (fdQ 1 rfl rfl rfl) (hvQ rfl (zad rfl rfl rfl (zaa 0 rfl rfl)) (hvQ rfl (riQ 1 rfl rfl rfl rfl (zae 1 rfl)) (hvQ rfl (lzQ rfl rfl rfl (zae 1 rfl)) (hvQ rfl (vaQ rfl rfl rfl) (hvQ rfl (riQ 1 rfl rfl rfl rfl (zae 1 rfl)) ?_))))))))
    refine zda (i := 1) (n' := (Z.2.2.1.set (((bs.getD i bk0).it).toNat) ((Z.2.2.1.getD (((bs.getD i bk0).it).toNat) 0) + 1)).length) (xs' := ((Z.2.2.1.set (((bs.getD i bk0).it).toNat) ((Z.2.2.1.getD (((bs.getD i bk0).it).toNat) 0) + 1)).map (Value.int .i64))) rfl rfl rfl rfl rfl rfl rfl rfl (by first | omega | (simp only [List.length_set]; omega)) List.length_set.symm (zdd _ _ _) rfl (zbu (zcs ?_))
    exact zfz (Z.1, Z.2.1, (Z.2.2.1.set (((bs.getD i bk0).it).toNat) ((Z.2.2.1.getD (((bs.getD i bk0).it).toNat) 0) + 1))) ⟨by first | assumption | (rw [List.length_set]; assumption), by first | assumption | (rw [List.length_set]; assumption), by first | assumption | (rw [List.length_set]; assumption), by first | assumption | exact zbc (by assumption) (by omega) | exact zbc (zbs (by assumption)) (by omega), by first | assumption | exact zbc (by assumption) (by omega) | exact zbc (zbs (by assumption)) (by omega), by first | assumption | exact zbc (by assumption) (by omega) | exact zbc (zbs (by assumption)) (by omega), by rw [zdr bI bk0 (by omega)]; first | (rw [zvs (by omega), List.append_nil]; assumption) | (rw [zri (by omega)]; exact hz5.inc ⟨by omega, by omega⟩), by rw [zdr bO bk0 (by omega)]; first | (rw [zvr (by omega), List.append_nil]; assumption) | (rw [zrh (by omega)]; exact hz6.inc ⟨by omega, by omega⟩), by first | (rw [zvq (by omega), List.append_nil]; assumption) | (rw [zrg (by omega)]; exact hz7.inc ⟨by omega, by omega⟩)⟩ (saQ rfl) (pfQ rfl)
   refine zaz 1 rfl (fsQ rfl (zcs ?_))
   exact zfz (Z.1, Z.2.1, Z.2.2.1) ⟨by first | assumption | (rw [List.length_set]; assumption), by first | assumption | (rw [List.length_set]; assumption), by first | assumption | (rw [List.length_set]; assumption), by first | assumption | exact zbc (by assumption) (by omega) | exact zbc (zbs (by assumption)) (by omega), by first | assumption | exact zbc (by assumption) (by omega) | exact zbc (zbs (by assumption)) (by omega), by first | assumption | exact zbc (by assumption) (by omega) | exact zbc (zbs (by assumption)) (by omega), by rw [zdr bI bk0 (by omega)]; first | (rw [zvs (by omega), List.append_nil]; assumption) | (rw [zri (by omega)]; exact hz5.inc ⟨by omega, by omega⟩), by rw [zdr bO bk0 (by omega)]; first | (rw [zvr (by omega), List.append_nil]; assumption) | (rw [zrh (by omega)]; exact hz6.inc ⟨by omega, by omega⟩), by first | (rw [zvq (by omega), List.append_nil]; assumption) | (rw [zrg (by omega)]; exact hz7.inc ⟨by omega, by omega⟩)⟩ (saQ rfl) (pfQ rfl)
  intro Q hm13
  obtain ⟨hQ1, hQ2, hQ3, hQ4, hQ5, hQ6, hQ7, hQ8, hQ9⟩ := hm13
  have hbp : BlP n (bs.getD i bk0) := hblp i (by omega)
  obtain ⟨hg0, hg1, hg2, hg3, hg4⟩ := hbp.rng
  refine srQ (hvQ rfl (fdQ 2 rfl rfl rfl) (hvQ rfl (zad rfl rfl rfl (zaa 0 rfl rfl)) (hvQ rfl (lnQ rfl rfl rfl (zab (hbk.at (k := i) (by omega)))) (zaz 1 rfl (zax ?_)))))
  refine zhy (α := Nat) (β := List Int × List Int) [0, 1, 2, 4, 5, 6, 7, 8, 10, 20, 36, 37, 38, 39, 45, 76, 77] rfl (fun k Y => [boxE b9 #[.int .i64 ((bs.getD i bk0).kd), .int .i64 ((bs.getD i bk0).it), (bs.getD i bk0).bv] 39, rowE 3 1 (.slice (some ⟨g5, 0, none⟩) ((List.replicate n.ss.length (0 : Int)).length) ((List.replicate n.ss.length (0 : Int)).length)) Y.1.length (Y.1.map (Value.int .i64)), rowE 3 1 (.slice (some ⟨g6, 0, none⟩) ((List.replicate n.ls.length (0 : Int)).length) ((List.replicate n.ls.length (0 : Int)).length)) Y.2.length (Y.2.map (Value.int .i64)), rowE 3 1 (.slice (some ⟨g3, 0, none⟩) ((List.replicate (n.ins).toNat (0 : Int)).length) ((List.replicate (n.ins).toNat (0 : Int)).length)) Q.1.length (Q.1.map (Value.int .i64)), rowE 3 1 (.slice (some ⟨g4, 0, none⟩) ((List.replicate n.os.length (0 : Int)).length) ((List.replicate n.os.length (0 : Int)).length)) Q.2.1.length (Q.2.1.map (Value.int .i64)), boxE b1 #[.int .i64 n.ins, n.sv, n.lv, n.ov] 30]) (fun k Y => [(78, .int .i64 (k : Int))]) (fun k Y => k ≤ (bs.getD i bk0).es.length ∧ Y.1.length = n.ss.length ∧ Y.2.length = n.ls.length ∧ CntB Y.1 (10 * i + 2 + k) ∧ CntB Y.2 (10 * i + 2 + k) ∧ CntZ Y.1 (((bs.take i).flatMap bS ++ bR (bs.getD i bk0)) ++ ((bs.getD i bk0).es.take k).flatMap bF) ∧ CntZ Y.2 ((bs.take i).flatMap bL ++ ((bs.getD i bk0).es.take k).flatMap bU)) (fun k Y => (bs.getD i bk0).es.length - k) 0 (Q.2.2, Z.2.2.2) ⟨Nat.zero_le _, by first | assumption | (rw [List.length_set]; assumption), by first | assumption | (rw [List.length_set]; assumption), by first | assumption | exact zbc (by assumption) (by omega) | exact zbc (zbs (by assumption)) (by omega), by first | assumption | exact zbc (by assumption) (by omega) | exact zbc (zbs (by assumption)) (by omega), by rw [List.take_zero, List.flatMap_nil, List.append_nil]; exact hQ9, by rw [List.take_zero, List.flatMap_nil, List.append_nil]; assumption⟩ (saQ rfl) (pfQ rfl) ?_
  intro k Y hi14
  obtain ⟨hk, hy1, hy2, hd1, hd2, hd3, hd4⟩ := hi14
  refine srQ ?_
  refine zbj rfl rfl rfl rfl rfl rfl (fun h15 => ?_) (fun h15 => ?_)
  ·
   refine ntQ (tcQ rfl (zcq (sbQ (srQ (hvQ rfl (riQ 2 rfl rfl rfl rfl (zab (hbk.at (k := i) (by omega)))) ?_)))))
   refine hvQ rfl (zbt (us := [.int .i64 ((((bs.getD i bk0).es).getD k le0).u), .int .i64 ((((bs.getD i bk0).es).getD k le0).f)]) rfl rfl rfl rfl (zab (hbk.at (k := i) (by omega))) (by omega) rfl (zcp leC 2 (fun _ => rfl) ((bs.getD i bk0).es) le0 (show k < _ by omega) rfl)) (zdj rfl (zbx (z := .agg #[.int .i64 0, .int .i64 0]) rfl rfl) ?_)
   intro b16
   refine zcc (cs' := #[.int .i64 ((((bs.getD i bk0).es).getD k le0).u), .int .i64 ((((bs.getD i bk0).es).getD k le0).f)]) (i := 0) (off := 0) (us := [.int .i64 ((((bs.getD i bk0).es).getD k le0).u), .int .i64 ((((bs.getD i bk0).es).getD k le0).f)]) rfl rfl rfl rfl rfl rfl rfl (zah rfl (zah rfl zbr)) rfl rfl rfl (ntQ (zeh ?_))
   have hg5 := hg4 k (by omega)
   obtain ⟨⟨ga, gb⟩, ⟨gc, gd⟩, ge⟩ := hg5
   have hr1 := hd1 ((bs.getD i bk0).es.getD k le0).f.toNat
   have hr2 := hd2 ((bs.getD i bk0).es.getD k le0).u.toNat
   refine hvQ rfl (fdQ 0 rfl rfl rfl) (hvQ rfl (zad rfl rfl rfl (zaa 0 rfl rfl)) ?_)
   refine zdi rfl rfl rfl rfl rfl rfl (fun h17 => ?_) (fun h17 => ?_)
   ·
    refine ntQ (zak rfl (reQ 1 rfl (hvQ rfl (fdQ 0 rfl rfl rfl) (hvQ rfl (zad rfl rfl rfl (zaa 0 rfl rfl)) (hvQ rfl (riQ 1 rfl rfl rfl rfl (zae 3 rfl)) (hvQ rfl (lzQ rfl rfl rfl (zae 3 rfl)) (hvQ rfl (vaQ rfl rfl rfl) (hvQ rfl (riQ 1 rfl rfl rfl rfl (zae 3 rfl)) ?_))))))))
    refine zda (i := 3) (n' := (Y.2.set (((((bs.getD i bk0).es).getD k le0).u).toNat) ((Y.2.getD (((((bs.getD i bk0).es).getD k le0).u).toNat) 0) + 1)).length) (xs' := ((Y.2.set (((((bs.getD i bk0).es).getD k le0).u).toNat) ((Y.2.getD (((((bs.getD i bk0).es).getD k le0).u).toNat) 0) + 1)).map (Value.int .i64))) rfl rfl rfl rfl rfl rfl rfl rfl (by first | omega | (simp only [List.length_set]; omega)) List.length_set.symm (zdd _ _ _) rfl (ntQ (srQ (hvQ rfl (fdQ 1 rfl rfl rfl) (hvQ rfl (zad rfl rfl rfl (zaa 0 rfl rfl)) ?_))))
    refine zdi rfl rfl rfl rfl rfl rfl (fun h18 => ?_) (fun h18 => ?_)
    ·
     refine ntQ (zak rfl (reQ 1 rfl (hvQ rfl (fdQ 1 rfl rfl rfl) (hvQ rfl (zad rfl rfl rfl (zaa 0 rfl rfl)) (hvQ rfl (riQ 1 rfl rfl rfl rfl (zae 2 rfl)) (hvQ rfl (lzQ rfl rfl rfl (zae 2 rfl)) (hvQ rfl (vaQ rfl rfl rfl) (hvQ rfl (riQ 1 rfl rfl rfl rfl (zae 2 rfl)) ?_))))))))
     refine zda (i := 2) (n' := (Y.1.set (((((bs.getD i bk0).es).getD k le0).f).toNat) ((Y.1.getD (((((bs.getD i bk0).es).getD k le0).f).toNat) 0) + 1)).length) (xs' := ((Y.1.set (((((bs.getD i bk0).es).getD k le0).f).toNat) ((Y.1.getD (((((bs.getD i bk0).es).getD k le0).f).toNat) 0) + 1)).map (Value.int .i64))) rfl rfl rfl rfl rfl rfl rfl rfl (by first | omega | (simp only [List.length_set]; omega)) List.length_set.symm (zdd _ _ _) rfl (zbu (zcv (zay (hvQ rfl (vaQ rfl rfl rfl) (enQ 1 rfl ?_)))))
     exact zbq (k + 1) ((Y.1.set (((((bs.getD i bk0).es).getD k le0).f).toNat) ((Y.1.getD (((((bs.getD i bk0).es).getD k le0).f).toNat) 0) + 1)), (Y.2.set (((((bs.getD i bk0).es).getD k le0).u).toNat) ((Y.2.getD (((((bs.getD i bk0).es).getD k le0).u).toNat) 0) + 1))) ⟨by omega, by first | assumption | (rw [List.length_set]; assumption), by first | assumption | (rw [List.length_set]; assumption), by first | assumption | exact zbc (by assumption) (by omega) | exact zbc (zbs (by assumption)) (by omega), by first | assumption | exact zbc (by assumption) (by omega) | exact zbc (zbs (by assumption)) (by omega), by rw [zdr bF le0 (by omega), ← List.append_assoc]; first | (rw [zvt (by omega), List.append_nil]; assumption) | (rw [zrj (by omega)]; exact hd3.inc ⟨by omega, by omega⟩), by rw [zdr bU le0 (by omega), ← List.append_assoc]; first | (rw [zvp (by omega), List.append_nil]; assumption) | (rw [zrf (by omega)]; exact hd4.inc ⟨by omega, by omega⟩)⟩ (by omega) (saQ rfl) (slQ [1, 0, 0, 0, 0, 0] rfl)
    refine ntQ (fsQ rfl (zcv (zay (hvQ rfl (vaQ rfl rfl rfl) (enQ 1 rfl ?_)))))
    exact zbq (k + 1) (Y.1, (Y.2.set (((((bs.getD i bk0).es).getD k le0).u).toNat) ((Y.2.getD (((((bs.getD i bk0).es).getD k le0).u).toNat) 0) + 1))) ⟨by omega, by first | assumption | (rw [List.length_set]; assumption), by first | assumption | (rw [List.length_set]; assumption), by first | assumption | exact zbc (by assumption) (by omega) | exact zbc (zbs (by assumption)) (by omega), by first | assumption | exact zbc (by assumption) (by omega) | exact zbc (zbs (by assumption)) (by omega), by rw [zdr bF le0 (by omega), ← List.append_assoc]; first | (rw [zvt (by omega), List.append_nil]; assumption) | (rw [zrj (by omega)]; exact hd3.inc ⟨by omega, by omega⟩), by rw [zdr bU le0 (by omega), ← List.append_assoc]; first | (rw [zvp (by omega), List.append_nil]; assumption) | (rw [zrf (by omega)]; exact hd4.inc ⟨by omega, by omega⟩)⟩ (by omega) (saQ rfl) (slQ [1, 0, 0, 0, 0, 0] rfl)
   refine ntQ (zal rfl (zcq (srQ (hvQ rfl (fdQ 1 rfl rfl rfl) (hvQ rfl (zad rfl rfl rfl (zaa 0 rfl rfl)) ?_)))))
   refine zdi rfl rfl rfl rfl rfl rfl (fun h19 => ?_) (fun h19 => ?_)
   ·
    refine ntQ (zak rfl (reQ 1 rfl (hvQ rfl (fdQ 1 rfl rfl rfl) (hvQ rfl (zad rfl rfl rfl (zaa 0 rfl rfl)) (hvQ rfl (riQ 1 rfl rfl rfl rfl (zae 2 rfl)) (hvQ rfl (lzQ rfl rfl rfl (zae 2 rfl)) (hvQ rfl (vaQ rfl rfl rfl) (hvQ rfl (riQ 1 rfl rfl rfl rfl (zae 2 rfl)) ?_))))))))
    refine zda (i := 2) (n' := (Y.1.set (((((bs.getD i bk0).es).getD k le0).f).toNat) ((Y.1.getD (((((bs.getD i bk0).es).getD k le0).f).toNat) 0) + 1)).length) (xs' := ((Y.1.set (((((bs.getD i bk0).es).getD k le0).f).toNat) ((Y.1.getD (((((bs.getD i bk0).es).getD k le0).f).toNat) 0) + 1)).map (Value.int .i64))) rfl rfl rfl rfl rfl rfl rfl rfl (by first | omega | (simp only [List.length_set]; omega)) List.length_set.symm (zdd _ _ _) rfl (zbu (zcv (zay (hvQ rfl (vaQ rfl rfl rfl) (enQ 1 rfl ?_)))))
    exact zbq (k + 1) ((Y.1.set (((((bs.getD i bk0).es).getD k le0).f).toNat) ((Y.1.getD (((((bs.getD i bk0).es).getD k le0).f).toNat) 0) + 1)), Y.2) ⟨by omega, by first | assumption | (rw [List.length_set]; assumption), by first | assumption | (rw [List.length_set]; assumption), by first | assumption | exact zbc (by assumption) (by omega) | exact zbc (zbs (by assumption)) (by omega), by first | assumption | exact zbc (by assumption) (by omega) | exact zbc (zbs (by assumption)) (by omega), by rw [zdr bF le0 (by omega), ← List.append_assoc]; first | (rw [zvt (by omega), List.append_nil]; assumption) | (rw [zrj (by omega)]; exact hd3.inc ⟨by omega, by omega⟩), by rw [zdr bU le0 (by omega), ← List.append_assoc]; first | (rw [zvp (by omega), List.append_nil]; assumption) | (rw [zrf (by omega)]; exact hd4.inc ⟨by omega, by omega⟩)⟩ (by omega) (saQ rfl) (slQ [1, 0, 0, 0, 0, 0] rfl)
   refine ntQ (fsQ rfl (zcv (zay (hvQ rfl (vaQ rfl rfl rfl) (enQ 1 rfl ?_)))))
   exact zbq (k + 1) (Y.1, Y.2) ⟨by omega, by first | assumption | (rw [List.length_set]; assumption), by first | assumption | (rw [List.length_set]; assumption), by first | assumption | exact zbc (by assumption) (by omega) | exact zbc (zbs (by assumption)) (by omega), by first | assumption | exact zbc (by assumption) (by omega) | exact zbc (zbs (by assumption)) (by omega), by rw [zdr bF le0 (by omega), ← List.append_assoc]; first | (rw [zvt (by omega), List.append_nil]; assumption) | (rw [zrj (by omega)]; exact hd3.inc ⟨by omega, by omega⟩), by rw [zdr bU le0 (by omega), ← List.append_assoc]; first | (rw [zvp (by omega), List.append_nil]; assumption) | (rw [zrf (by omega)]; exact hd4.inc ⟨by omega, by omega⟩)⟩ (by omega) (saQ rfl) (slQ [1, 0, 0, 0, 0, 0] rfl)
  refine ntQ (fcQ rfl ?_)
  refine zba (zdq ?_)
  refine zag (zcv (zay (hvQ rfl (vaQ rfl rfl rfl) (enQ 1 rfl ?_))))
  exact zbq (i + 1) (Q.1, Q.2.1, Y.1, Y.2) ⟨by omega, by first | assumption | (rw [List.length_set]; assumption), by first | assumption | (rw [List.length_set]; assumption), by first | assumption | (rw [List.length_set]; assumption), by first | assumption | (rw [List.length_set]; assumption), by first | assumption | exact zbc (by assumption) (by omega) | exact zbc (zbs (by assumption)) (by omega), by first | assumption | exact zbc (by assumption) (by omega) | exact zbc (zbs (by assumption)) (by omega), by first | assumption | exact zbc (by assumption) (by omega) | exact zbc (zbs (by assumption)) (by omega), by first | assumption | exact zbc (by assumption) (by omega) | exact zbc (zbs (by assumption)) (by omega), hQ7, hQ8, by refine hd3.eq ?_; rw [zdr bS bk0 (by omega), show k = (bs.getD i bk0).es.length by omega, List.take_length]; show _ = _ ++ (bR _ ++ _); rw [List.append_assoc], by refine hd4.eq ?_; rw [zdr bL bk0 (by omega), show k = (bs.getD i bk0).es.length by omega, List.take_length]; rfl⟩ (by omega) (saQ rfl) (slQ [1, 0, 0, 0, 0] rfl)
 refine ntQ (fcQ rfl ?_)
 refine zba (zdq ?_)
 refine zag (zaw (zac (reQ 1 rfl ?_)))
 refine zds rfl (zaq rfl rfl (fun w hm => zav (zfy Z.1 _ w ((zae 2 rfl) w hm) (by omega) (CntZ.one (hz5.eq (by rw [show i = bs.length by omega, List.take_length])) (by omega) hp.ci)))) (zap 2 rfl ?_)
 refine zds rfl (zaq rfl rfl (fun w hm => zav (zfy Z.2.1 _ w ((zae 3 rfl) w hm) (by omega) (CntZ.one (hz6.eq (by rw [show i = bs.length by omega, List.take_length])) (by omega) hp.co)))) (zap 3 rfl ?_)
 refine zds rfl (zaq rfl rfl (fun w hm => zav (zfy Z.2.2.1 _ w ((zae 0 rfl) w hm) (by omega) (CntZ.one (hz7.eq (by rw [show i = bs.length by omega, List.take_length])) (by omega) hp.cs)))) (zap 3 rfl ?_)
 refine zds rfl (zaq rfl rfl (fun w hm => zav (zfy Z.2.2.2 _ w ((zae 1 rfl) w hm) (by omega) (CntZ.one (hz8.eq (by rw [show i = bs.length by omega, List.take_length])) (by omega) hp.cl)))) (zaz 2 rfl ?_)
 exact zau (zbb rfl rfl rfl)
theorem znz (n : Ln) (bs : List Bk) (v : Value) (w : World) (hr : RdsLn w n) (hok : LnOk n) (hbk : RdsBk w v bs) (hp : PkOk n bs) :
   Calls Try.prog 9 #[.agg #[.int .i64 n.ins, n.sv, n.lv, n.ov], v] w (Ret w (fun u_ p_ => ∃ (ps : List HP) (cs : List Cn), p_ = [bigE ps] ∧ (∀ w, (bigE ps).holds w → RdsCn w u_ cs) ∧ u_.oneCell' = true ∧ cs.length ≤ 2 * bs.length ∧ (∀ k, k < cs.length → (cs.getD k cn0).ks.length ≤ 5 * bs.length) ∧ cs.map cx = connsK n bs)) := by
 have hso := sml hr.ou
 have hss := hr.sq.small
 have hsl := hr.lt.small
 have hcnt : n.cnt = 1 + n.ins + n.ss.length + n.ls.length := rfl
 have hfst : n.fst = 1 + n.ins + n.ss.length := rfl
 obtain ⟨⟨si0, si1⟩, s2, s3, s4⟩ := hok.sz
 have hbs9 := sml hbk.row
 have hb64 := hp.len
 have hblp : ∀ k, k < bs.length → BlP n (bs.getD k bk0) := fun k hk => hp.bl _ (zbl hk)
 have hel : ∀ k, k < bs.length → (bs.getD k bk0).es.length ≤ 100 := fun k hk => by have h9 := (hblp k hk).rng; omega
 refine zbf (N := 94) (args := [.agg #[.int .i64 n.ins, n.sv, n.lv, n.ov], v]) Try.func9 rfl rfl (srQ ?_)
 refine zdj rfl (zch rfl rfl) ?_
 intro b1
 refine zaz 1 rfl (zeh (hvQ rfl (zao (cs := [.int .i64 n.ins, n.sv, n.lv, n.ov]) rfl rfl rfl rfl rfl (zaj 0 rfl 0 rfl)) (zap 1 rfl ?_)))
 refine zds rfl (zaq rfl rfl (fun w hm => zav (zkn n bs v w (hr.below hm.bel) hok (hbk.below hm.bel) hp))) (zaz 1 rfl (zal rfl (zcq (srQ ?_))))
 refine zes 28 1 (zaz 1 rfl (zac (zac (reQ 1 rfl (hvQ rfl (lnQ rfl rfl rfl (zab hbk.row)) (zaz 1 rfl (zax ?_)))))))
 refine zep _ zfh ?_
 refine zrs (α := Nat) (β := Value) (γ := List CRow) (δ := List HP) [0, 1, 2, 4, 21, 22, 23] rfl (fun b gp rs bp => [bigE bp, rowE 28 1 gp rs.length (rs.flatMap crowC), boxE b1 #[.int .i64 n.ins, n.sv, n.lv, n.ov] 30]) (fun b gp rs bp => [(5, gp), (24, .int .i64 (b : Int))]) (fun b gp rs bp => b ≤ bs.length ∧ rs.length = b ∧ (∀ q, q < b → (rs.getD q crow0).xs = pinN n (bs.getD q bk0)) ∧ ∀ w, (bigE bp).holds w → RdsAll w rs) (fun b gp rs bp => bs.length - b) 0 _ [] _ ⟨Nat.zero_le _, rfl, fun q hq => absurd hq (by omega), fun w _ => RdsAll.nil w⟩ (saQ rfl) (pfQ rfl) ?_
 intro b gp rs bp hi3
 obtain ⟨hb, hrl, hrp, hbp⟩ := hi3
 refine srQ ?_
 refine zbj rfl rfl rfl rfl rfl rfl (fun h4 => ?_) (fun h4 => ?_)
 ·
  refine ntQ (tcQ rfl (zcq (sbQ (srQ (hvQ rfl (riQ 3 rfl rfl rfl rfl (zab hbk.row)) ?_)))))
  refine hvQ rfl (zbt (us := [.int .i64 ((bs.getD b bk0).kd), .int .i64 ((bs.getD b bk0).it), (bs.getD b bk0).bv]) rfl rfl rfl rfl (zab hbk.row) (by omega) rfl (zcp bkC 3 (fun _ => rfl) bs bk0 (show b < _ by omega) rfl)) (zdj rfl (zbx (z := .agg #[.int .i64 0, .int .i64 0, .slice none 0 0]) rfl rfl) ?_)
  intro b5
  refine zcc (cs' := #[.int .i64 ((bs.getD b bk0).kd), .int .i64 ((bs.getD b bk0).it), (bs.getD b bk0).bv]) (i := 0) (off := 0) (us := [.int .i64 ((bs.getD b bk0).kd), .int .i64 ((bs.getD b bk0).it), (bs.getD b bk0).bv]) rfl rfl rfl rfl rfl rfl rfl (zah rfl (zah rfl (zah (hbk.at (k := b) (by omega)).one zbr))) rfl rfl rfl (ntQ (reQ 1 rfl (hvQ rfl (zao (cs := [.int .i64 n.ins, n.sv, n.lv, n.ov]) rfl rfl rfl rfl rfl (zaj 3 rfl 0 rfl)) (hvQ rfl (zao (cs := [.int .i64 ((bs.getD b bk0).kd), .int .i64 ((bs.getD b bk0).it), (bs.getD b bk0).bv]) rfl rfl rfl rfl rfl (zaj 0 rfl 0 rfl)) ?_))))
  refine zfg rfl rfl rfl (zaq rfl rfl (fun w hm => zhu n (bs.getD b bk0) w (hr.below hm.bel) hok ((hbk.at (k := b) (by omega)).below hm.bel) (hel b (by omega)) (hblp b (by omega)).1)) ?_
  intro v6 p7 hR8
  subst hR8
  refine zdk rfl (zfv rfl Try.underlying63 (by kernel_rfl) rfl (fun w hm => (zae 0 rfl w hm).one)) ?_
  intro g9
  refine zdn (i := 1) rfl (fun ho10 => ?_)
  refine zcd (i := 4) (z := .slice none 0 0) (bytes := 24) rfl rfl rfl rfl Try.underlying63 (by kernel_rfl) rfl rfl rfl rfl (zae 0 rfl) (zah ho10 zbr) (by first | omega | (simp only [List.length_append, List.length_cons, List.length_nil]; omega)) (zbv rs [(CRow.mk v6 (pinN n (bs.getD b bk0)))]) (zcx crowC rs (CRow.mk v6 (pinN n (bs.getD b bk0))) _ rfl) (fun _ => rfl) ?_
  intro v11
  refine enQ 1 rfl (zcv (zay (hvQ rfl (vaQ rfl rfl rfl) (enQ 1 rfl ?_))))
  refine zbw 6 [5, 4, 2, 1, 3] rfl rfl (by decide) ?_
  refine zcz 2 rfl ?_
  exact zct (b + 1) v11 (rs ++ [(CRow.mk v6 (pinN n (bs.getD b bk0)))]) [bigE bp, rowE 3 1 v6 ((pinN n (bs.getD b bk0)).length) ((pinN n (bs.getD b bk0)).map (Value.int .i64))] ⟨by omega, by rw [List.length_append, List.length_singleton]; omega, fun q hq => by by_cases e : q < rs.length; (rw [zen e]; exact hrp q (by omega)); (obtain rfl : q = rs.length := by omega); (rw [zeo (Nat.le_refl _), Nat.sub_self, hrl]; rfl), fun w hw => RdsAll.cons (u := CRow.mk v6 (pinN n (bs.getD b bk0))) (hbp w (zbh hw List.mem_cons_self)) (zcf (zbh hw (List.mem_cons_of_mem _ List.mem_cons_self))) (fun q hq => (List.mem_append.1 hq).elim .inr (fun h => .inl (List.mem_singleton.1 h)))⟩ (by omega) (saQ rfl) (slQ [0, 1, 0] rfl)
 refine ntQ (fcQ rfl ?_)
 refine zba (zdq ?_)
 refine zag (zaw (srQ ?_))
 refine zes 44 4 (zaz 1 rfl (zac (zac (reQ 1 rfl (hvQ rfl (lnQ rfl rfl rfl (zab hbk.row)) (zaz 1 rfl (zax ?_)))))))
 refine zep _ zfh ?_
 refine zgn (α := Nat) (β := Value × List Cn) (γ := List HP) [0, 1, 2, 4, 5, 21, 25, 35, 36] rfl (fun c U ps => [bigE ps, rowE 44 4 U.1 U.2.length (U.2.flatMap cnC), bigE bp, rowE 28 1 gp rs.length (rs.flatMap crowC), boxE b1 #[.int .i64 n.ins, n.sv, n.lv, n.ov] 30]) (fun c U ps => [(8, U.1), (37, .int .i64 (c : Int))]) (fun c U ps => c ≤ bs.length ∧ U.2.length ≤ 2 * c ∧ U.2.map cx = conA n bs c ∧ CnM (5 * bs.length) U.2 ∧ ∀ w, (bigE ps).holds w → KsR w U.2) (fun c U ps => bs.length - c) 0 (_, []) _ ⟨Nat.zero_le _, Nat.zero_le _, rfl, CnM.nil _, fun w _ => KsR.nil w⟩ (saQ rfl) (pfQ rfl) ?_
 intro c U ps hi13
 obtain ⟨hc, hul, huq, hum, huk⟩ := hi13
 refine srQ ?_
 refine zbj rfl rfl rfl rfl rfl rfl (fun h14 => ?_) (fun h14 => ?_)
 ·
  refine ntQ (tcQ rfl (zcq (sbQ (zac (reQ 1 rfl (hvQ rfl (riQ 3 rfl rfl rfl rfl (zab hbk.row)) ?_))))))
  refine hvQ rfl (zbt (us := [.int .i64 ((bs.getD c bk0).kd), .int .i64 ((bs.getD c bk0).it), (bs.getD c bk0).bv]) rfl rfl rfl rfl (zab hbk.row) (by omega) rfl (zcp bkC 3 (fun _ => rfl) bs bk0 (show c < _ by omega) rfl)) (zdj rfl (zbx (z := .agg #[.int .i64 0, .int .i64 0, .slice none 0 0]) rfl rfl) ?_)
  intro b15
  refine zap 1 rfl (zcc (cs' := #[.int .i64 ((bs.getD c bk0).kd), .int .i64 ((bs.getD c bk0).it), (bs.getD c bk0).bv]) (i := 0) (off := 0) (us := [.int .i64 ((bs.getD c bk0).kd), .int .i64 ((bs.getD c bk0).it), (bs.getD c bk0).bv]) rfl rfl rfl rfl rfl rfl rfl (zah rfl (zah rfl (zah (hbk.at (k := c) (by omega)).one zbr))) rfl rfl rfl ?_)
  refine ntQ (srQ (hvQ rfl (zao (cs := [.int .i64 n.ins, n.sv, n.lv, n.ov]) rfl rfl rfl rfl rfl (zaj 5 rfl 0 rfl)) (hvQ rfl (zao (cs := [.int .i64 ((bs.getD c bk0).kd), .int .i64 ((bs.getD c bk0).it), (bs.getD c bk0).bv]) rfl rfl rfl rfl rfl (zaj 0 rfl 0 rfl)) ?_)))
  refine zfg rfl rfl rfl (zaq rfl rfl (fun w hm => zhv n (bs.getD c bk0) w (hr.below hm.bel) hok ((hbk.at (k := c) (by omega)).below hm.bel) (hel c (by omega)) (hblp c (by omega)).1)) ?_
  intro v16 p17 hR18
  subst hR18
  have hol9 := zjv (hblp c (by omega))
  refine hvQ rfl (lnQ rfl rfl rfl (zae 0 rfl)) (zaz 1 rfl (zax ?_))
  refine zgn (α := Nat) (β := Value × List Cn) (γ := List HP) [0, 1, 2, 4, 5, 9, 10, 21, 25, 35, 36, 37, 38, 44, 45] rfl (fun p W qs => [rowE 3 1 v16 ((outNd n (bs.getD c bk0)).length) ((outNd n (bs.getD c bk0)).map (Value.int .i64)), bigE qs, rowE 44 4 W.1 W.2.length (W.2.flatMap cnC), bigE bp, rowE 28 1 gp rs.length (rs.flatMap crowC), boxE b1 #[.int .i64 n.ins, n.sv, n.lv, n.ov] 30]) (fun p W qs => [(8, W.1), (46, .int .i64 (p : Int))]) (fun p W qs => p ≤ (outNd n (bs.getD c bk0)).length ∧ W.2.length ≤ 2 * c + p ∧ W.2.map cx = conA n bs c ++ conB n bs c p ∧ CnM (5 * bs.length) W.2 ∧ ∀ w, (bigE qs).holds w → KsR w W.2) (fun p W qs => (outNd n (bs.getD c bk0)).length - p) 0 U ps ⟨Nat.zero_le _, by omega, huq.trans (List.append_nil _).symm, hum, huk⟩ (saQ rfl) (slQ [0, 1, 0, 0, 0, 0] rfl) ?_
  intro p W qs hi19
  obtain ⟨hp_, hvl, hvq, hvm, hvk⟩ := hi19
  refine srQ ?_
  refine zbj rfl rfl rfl rfl rfl rfl (fun h20 => ?_) (fun h20 => ?_)
  ·
   refine ntQ (tcQ rfl (zcq (sbQ (zac (reQ 1 rfl (hvQ rfl (riQ 1 rfl rfl rfl rfl (zae 0 rfl)) (hvQ rfl (zar (u := .int .i64 ((outNd n (bs.getD c bk0)).getD p 0)) rfl rfl rfl (zae 0 rfl) (zbn (show _ < (outNd n (bs.getD c bk0)).length by omega))) ?_)))))))
   refine zap 2 rfl (zbu (zaw (zac (zay (zap 3 rfl (hvQ rfl (zcw (cs := #[.int .i64 (c : Int), .int .i64 (p : Int)]) rfl rfl rfl) (hvQ rfl (zcw (cs := #[.int .i64 ((outNd n (bs.getD c bk0)).getD p 0), .int .i64 (c : Int), .int .i64 (p : Int), .slice none 0 0]) rfl rfl rfl) ?_)))))))
   refine zdj rfl (zbx (z := .agg #[.int .i64 0, .int .i64 0, .int .i64 0, .slice none 0 0]) rfl rfl) ?_
   intro b21
   refine zcc (cs' := #[.int .i64 ((outNd n (bs.getD c bk0)).getD p 0), .int .i64 (c : Int), .int .i64 (p : Int), .slice none 0 0]) (i := 0) (off := 0) (us := [.int .i64 ((outNd n (bs.getD c bk0)).getD p 0), .int .i64 (c : Int), .int .i64 (p : Int), .slice none 0 0]) rfl rfl rfl rfl rfl rfl rfl (zah rfl (zah rfl (zah rfl (zah rfl zbr)))) rfl rfl rfl (ntQ (zac (zac (reQ 1 rfl (hvQ rfl (lnQ rfl rfl rfl (zae 5 rfl)) (zaz 1 rfl (zax ?_)))))))
   refine zep [rowE 41 2 (.slice none 0 0) (([] : List Pn).length) (([] : List Pn).flatMap pnC), boxE b21 #[.int .i64 ((outNd n (bs.getD c bk0)).getD p 0), .int .i64 (c : Int), .int .i64 (p : Int), .slice none 0 0] 44, rowE 3 1 v16 ((outNd n (bs.getD c bk0)).length) ((outNd n (bs.getD c bk0)).map (Value.int .i64)), bigE qs, rowE 44 4 W.1 W.2.length (W.2.flatMap cnC), bigE bp, rowE 28 1 gp rs.length (rs.flatMap crowC), boxE b1 #[.int .i64 n.ins, n.sv, n.lv, n.ov] 30] (fun w hm => hm.nilRow 41 2) ?_
   refine zgn (α := Nat) (β := Value) (γ := List Pn) [0, 1, 2, 4, 5, 8, 9, 10, 11, 12, 13, 21, 25, 35, 36, 37, 38, 44, 45, 46, 47, 56, 57] rfl (fun i ui xs => [rowE 41 2 ui xs.length (xs.flatMap pnC), boxE b21 #[.int .i64 ((outNd n (bs.getD c bk0)).getD p 0), .int .i64 (c : Int), .int .i64 (p : Int), ui] 44, rowE 3 1 v16 ((outNd n (bs.getD c bk0)).length) ((outNd n (bs.getD c bk0)).map (Value.int .i64)), bigE qs, rowE 44 4 W.1 W.2.length (W.2.flatMap cnC), bigE bp, rowE 28 1 gp rs.length (rs.flatMap crowC), boxE b1 #[.int .i64 n.ins, n.sv, n.lv, n.ov] 30]) (fun i ui xs => [(58, .int .i64 (i : Int))]) (fun i ui xs => i ≤ bs.length ∧ xs.length ≤ 5 * i ∧ xs = sinkA n bs ((outNd n (bs.getD c bk0)).getD p 0) i) (fun i ui xs => bs.length - i) 0 _ [] ⟨Nat.zero_le _, Nat.zero_le _, rfl⟩ (saQ rfl) (pfQ rfl) ?_
   intro i ui xs hi22
   obtain ⟨hi, hxl, hxq⟩ := hi22
   refine srQ ?_
   refine zbj rfl rfl rfl rfl rfl rfl (fun h23 => ?_) (fun h23 => ?_)
   ·
    refine ntQ (tcQ rfl (zcq (sbQ (zac (reQ 1 rfl (hvQ rfl (riQ 1 rfl rfl rfl rfl (zae 6 rfl)) ?_))))))
    have hpl9 := zlo hok (hblp i (by omega))
    rw [← hrp i (by omega)] at hpl9
    refine hvQ rfl (zar (u := (rs.getD i crow0).v) rfl rfl rfl (zae 6 rfl) (zcu crowC (fun r => r.v) (fun _ => rfl) rs crow0 (show i < _ by omega))) (zaz 2 rfl (zac (reQ 1 rfl ?_)))
    refine hvQ rfl (lnQ rfl rfl rfl (fun w hm => (hbp w (hm.holds _ (zcn (i := 5) rfl))).at (k := i) (by omega))) (zaz 1 rfl (zax ?_))
    refine zgn (α := Nat) (β := Value) (γ := List Pn) [0, 1, 2, 4, 5, 8, 9, 10, 11, 12, 13, 14, 15, 21, 25, 35, 36, 37, 38, 44, 45, 46, 47, 56, 57, 58, 59, 63, 64] rfl (fun k uk ys => [rowE 41 2 uk ys.length (ys.flatMap pnC), boxE b21 #[.int .i64 ((outNd n (bs.getD c bk0)).getD p 0), .int .i64 (c : Int), .int .i64 (p : Int), uk] 44, rowE 3 1 v16 ((outNd n (bs.getD c bk0)).length) ((outNd n (bs.getD c bk0)).map (Value.int .i64)), bigE qs, rowE 44 4 W.1 W.2.length (W.2.flatMap cnC), bigE bp, rowE 28 1 gp rs.length (rs.flatMap crowC), boxE b1 #[.int .i64 n.ins, n.sv, n.lv, n.ov] 30]) (fun k uk ys => [(65, .int .i64 (k : Int))]) (fun k uk ys => k ≤ (rs.getD i crow0).xs.length ∧ ys.length ≤ 5 * i + k ∧ ys = sinkA n bs ((outNd n (bs.getD c bk0)).getD p 0) i ++ sinkB (rs.getD i crow0).xs ((outNd n (bs.getD c bk0)).getD p 0) (i : Int) k) (fun k uk ys => (rs.getD i crow0).xs.length - k) 0 _ xs ⟨Nat.zero_le _, by omega, hxq.trans (List.append_nil _).symm⟩ (saQ rfl) (pfQ rfl) ?_
    intro k uk ys hi24
    obtain ⟨hk, hyl, hyq⟩ := hi24
    refine srQ ?_
    refine zbj rfl rfl rfl rfl rfl rfl (fun h25 => ?_) (fun h25 => ?_)
    ·
     refine ntQ (tcQ rfl (zcq (sbQ (zac (reQ 1 rfl ?_)))))
     refine hvQ rfl (riQ 1 rfl rfl rfl rfl (fun w hm => (hbp w (hm.holds _ (zcn (i := 5) rfl))).at (k := i) (by omega))) (hvQ rfl (zar (u := .int .i64 (((rs.getD i crow0).xs).getD k 0)) rfl rfl rfl (fun w hm => (hbp w (hm.holds _ (zcn (i := 5) rfl))).at (k := i) (by omega)) (zbn (show _ < ((rs.getD i crow0).xs).length by omega))) ?_)
     refine zaz 2 rfl (zac (reQ 2 rfl ?_))
     refine zbp rfl rfl rfl rfl rfl rfl (fun h26 => ?_) (fun h26 => ?_)
     ·
      refine (zbu (zaw (zak rfl (zay (hvQ rfl (fdQ 3 rfl rfl rfl) (hvQ rfl (zad rfl rfl rfl (zaa 1 rfl rfl)) (zap 2 rfl (hvQ rfl (zcw (cs := #[.int .i64 (i : Int), .int .i64 (k : Int)]) rfl rfl rfl) ?_))))))))
      refine zdk rfl (zat (z := .agg #[.int .i64 0, .int .i64 0]) (s := 2) (cs := ([(i : Int), (k : Int)].map (Value.int .i64))) rfl Try.underlying42 rfl (by decide) rfl (by kernel_rfl) rfl) ?_
      intro g27
      refine zcd (i := 1) (z := .agg #[.int .i64 0, .int .i64 0]) (bytes := 16) rfl rfl rfl rfl Try.underlying42 (by kernel_rfl) rfl rfl rfl rfl (zae 0 rfl) (zbm _) (by first | omega | (simp only [List.length_append, List.length_cons, List.length_nil]; omega)) (zbv ys [(Pn.mk (i : Int) (k : Int))]) (zcx pnC ys (Pn.mk (i : Int) (k : Int)) _ rfl) (fun _ => rfl) ?_
      intro v28
      refine hvQ rfl (fdQ 3 rfl rfl rfl) (zdn (i := 1) rfl (fun ho29 => ?_))
      refine zez (i := 2) (cs' := #[.int .i64 ((outNd n (bs.getD c bk0)).getD p 0), .int .i64 (c : Int), .int .i64 (p : Int), v28]) rfl rfl rfl rfl rfl rfl ho29 rfl rfl rfl rfl (zbu (zcv (zay (hvQ rfl (vaQ rfl rfl rfl) (enQ 1 rfl ?_)))))
      exact zbi (k + 1) v28 (ys ++ [(Pn.mk (i : Int) (k : Int))]) ⟨by omega, by (try rw [List.length_append, List.length_singleton]); omega, zms hyq (by assumption)⟩ (by omega) (saQ rfl) (slQ [1, 0, 0, 0, 0, 0, 0, 0] rfl)
     refine ntQ (fsQ rfl (zcv (zay (hvQ rfl (vaQ rfl rfl rfl) (enQ 1 rfl ?_)))))
     exact zbi (k + 1) uk ys ⟨by omega, by (try rw [List.length_append, List.length_singleton]); omega, zpq hyq (by assumption)⟩ (by omega) (saQ rfl) (pfQ rfl)
    refine ntQ (fcQ rfl ?_)
    refine zba (zdq ?_)
    refine zag (zcv (zay (hvQ rfl (vaQ rfl rfl rfl) (enQ 1 rfl ?_))))
    exact zbi (i + 1) uk ys ⟨by omega, by omega, zmu hyq (hrp i (by omega)) (by omega)⟩ (by omega) (saQ rfl) (pfQ rfl)
   refine ntQ (fcQ rfl ?_)
   refine zba (zdq ?_)
   refine zag (zaw (srQ (hvQ rfl (fdQ 3 rfl rfl rfl) (hvQ rfl (zad rfl rfl rfl (zaa 1 rfl rfl)) (hvQ rfl (lnQ rfl rfl rfl (zae 0 rfl)) ?_)))))
   refine zet rfl rfl rfl rfl rfl rfl (fun h30 => ?_) (fun h30 => ?_)
   ·
    refine (zbu (zaw (zak rfl (zay (zap 1 rfl (hvQ rfl (zao (cs := [.int .i64 ((outNd n (bs.getD c bk0)).getD p 0), .int .i64 (c : Int), .int .i64 (p : Int), ui]) rfl rfl rfl rfl rfl (zaj 1 rfl 0 rfl)) ?_))))))
    refine zdk rfl (zat (z := .agg #[.int .i64 0, .int .i64 0, .int .i64 0, .slice none 0 0]) (s := 4) (cs := [.int .i64 ((outNd n (bs.getD c bk0)).getD p 0), .int .i64 (c : Int), .int .i64 (p : Int), ui]) rfl Try.underlying34 rfl (by decide) rfl (by kernel_rfl) rfl) ?_
    intro g31
    refine zdn (i := 1) rfl (fun ho32 => ?_)
    refine zcd (i := 5) (z := .agg #[.int .i64 0, .int .i64 0, .int .i64 0, .slice none 0 0]) (bytes := 48) rfl rfl rfl rfl Try.underlying34 (by kernel_rfl) rfl rfl rfl rfl (zae 0 rfl) (zah rfl (zah rfl (zah rfl (zah ho32 zbr)))) (by first | omega | (simp only [List.length_append, List.length_cons, List.length_nil]; omega)) (zbv W.2 [(Cn.mk ((outNd n (bs.getD c bk0)).getD p 0) (c : Int) (p : Int) ui xs)]) (zcx cnC W.2 (Cn.mk ((outNd n (bs.getD c bk0)).getD p 0) (c : Int) (p : Int) ui xs) _ rfl) (fun _ => rfl) ?_
    intro v33
    refine enQ 1 rfl (zcv (zay (hvQ rfl (vaQ rfl rfl rfl) (enQ 1 rfl ?_))))
    refine zbw 9 [8, 7, 6, 5, 3, 1, 4] rfl rfl (by decide) ?_
    refine zcz 2 rfl ?_
    refine zbw 6 [5, 4, 3, 2, 0, 1] rfl rfl (by decide) ?_
    exact zbi (p + 1) (v33, W.2 ++ [(Cn.mk ((outNd n (bs.getD c bk0)).getD p 0) (c : Int) (p : Int) ui xs)]) [bigE qs, rowE 41 2 ui xs.length (xs.flatMap pnC)] ⟨by omega, by show List.length (_ ++ [_]) ≤ _; rw [List.length_append, List.length_singleton]; omega, zqx (xs := xs) hvq (by rw [hxq, show i = bs.length by omega]) (by omega) _, hvm.app (by show xs.length ≤ _; omega), fun w hw => (hvk w (zbh hw List.mem_cons_self)).app (zcf (zbh hw (List.mem_cons_of_mem _ List.mem_cons_self)))⟩ (by omega) (saQ rfl) (pfQ rfl)
   refine ntQ (fsQ rfl (zcv (zay (hvQ rfl (vaQ rfl rfl rfl) (enQ 1 rfl ?_)))))
   exact zbi (p + 1) (W.1, W.2) qs ⟨by omega, by show (W.2).length ≤ _; omega, zub (xs := xs) hvq (by rw [hxq, show i = bs.length by omega]) (by omega), hvm, hvk⟩ (by omega) (saQ rfl) (slQ [2, 0, 0, 0, 0, 0] rfl)
  refine ntQ (fcQ rfl ?_)
  refine zba (zdq ?_)
  refine zag (zcv (zay (hvQ rfl (vaQ rfl rfl rfl) (enQ 1 rfl ?_))))
  exact zbi (c + 1) (W.1, W.2) qs ⟨by omega, by show (W.2).length ≤ _; omega, zqz hvq (by omega), hvm, by assumption⟩ (by omega) (saQ rfl) (slQ [1, 0, 0, 0, 0] rfl)
 refine ntQ (fcQ rfl ?_)
 refine zba (zdq ?_)
 refine zag (zaw (zbd 2 rfl ?_))
 refine zau (zed (fun w hm => (zae 1 rfl w hm).one) (fun ho => ?_))
 refine zbw 5 [4, 3, 2, 0, 1] rfl rfl (by decide) ?_
 refine zcz 2 rfl ?_
 exact zck (post := [bigE [rowE 44 4 U.1 U.2.length (U.2.flatMap cnC), bigE ps]]) rfl rfl (slQ [0] rfl) ⟨_, U.2, rfl, fun w hw => ⟨zcf (zbh hw List.mem_cons_self), huk w (zbh hw (List.mem_cons_of_mem _ List.mem_cons_self))⟩, ho, by omega, fun k hk => hum _ (zbl hk), huq.trans (by rw [show c = bs.length by omega]; rfl)⟩
open Go.RowKit
def eqPn (a b c d : Int) : Bool := (a == c) && (b == d)
theorem zvj {a b c d : Int} (h : eqPn a b c d = true) : a = c ∧ b = d := by unfold eqPn at h; simpa using h
theorem eqPn_no {a b c d : Int} (h : eqPn a b c d = false) : ¬ (a = c ∧ b = d) := by unfold eqPn at h; rintro ⟨rfl, rfl⟩; simp at h
section
variable {N : Nat} {w0 : World} {l : List HP} {env : List (Nat × Value)} {o : Oper}
theorem rv_eqPn {x y : Operand} {a b c d : Int} (ho : o.op = .binOp .eql 41 x y 41) (hx : ev env x = some (.agg #[.int .i64 a, .int .i64 b])) (hy : ev env y = some (.agg #[.int .i64 c, .int .i64 d])) :
    RunV Try.prog N w0 l env o (.bool (eqPn a b c d)) := fun a1 w st => by
  have hg : (eqGuard .eql 41 x y (.agg #[.int .i64 a, .int .i64 b]) (.agg #[.int .i64 c, .int .i64 d])).run Try.prog w = .ok () w := run_eqGuard_agg _ _ _ _ _ _ _ (by kernel_rfl)
  have h2 : (binOp .eql 41 (.agg #[.int .i64 a, .int .i64 b]) (.agg #[.int .i64 c, .int .i64 d])).run Try.prog w = .ok (.bool (eqPn a b c d)) w := by
    rw [run_eql_struct, run_equalIn_struct _ _ _ _ _ (by kernel_rfl) (by kernel_rfl)]
    have e0 : (Try.prog.fieldsOf 41).toList = [(Try.prog.fieldsOf 41)[0]!, (Try.prog.fieldsOf 41)[1]!] := by kernel_rfl
    have n0 : ((Try.prog.fieldsOf 41)[0]!).name = "Block" := by kernel_rfl
    have n1 : ((Try.prog.fieldsOf 41)[1]!).name = "Pin" := by kernel_rfl
    have t0 : ((Try.prog.fieldsOf 41)[0]!).type = 3 := by kernel_rfl
    have t1 : ((Try.prog.fieldsOf 41)[1]!).type = 3 := by kernel_rfl
    have o0 : ((Try.prog.fieldsOf 41)[0]!).offset = 0 := by kernel_rfl
    have o1 : ((Try.prog.fieldsOf 41)[1]!).offset = 1 := by kernel_rfl
    rw [e0]
    generalize (Try.prog.fieldsOf 41)[0]! = f0 at *
    generalize (Try.prog.fieldsOf 41)[1]! = f1 at *
    have m0 : f0.name ≠ "_" := by rw [n0]; decide
    have m1 : f1.name ≠ "_" := by rw [n1]; decide
    have hk : Try.prog.plainKey 3 = true := by kernel_rfl
    have q : ∀ (u v : Int) (w : World), (Op.equalIn 9999 3 (.int .i64 u) (.int .i64 v)).run Try.prog w = .ok (u == v) w := fun u v w => run_equalIn_int w 9998 3 .i64 .i64 u v Try.underlying3
    have pa : ∀ w : World, (part f0.type #[Value.int .i64 a, .int .i64 b] f0.offset).run Try.prog w = .ok (.int .i64 a) w := fun w => by rw [t0, o0]; exact run_part_plain w hk rfl
    have pb : ∀ w : World, (part f1.type #[Value.int .i64 a, .int .i64 b] f1.offset).run Try.prog w = .ok (.int .i64 b) w := fun w => by rw [t1, o1]; exact run_part_plain w hk rfl
    have pc : ∀ w : World, (part f0.type #[Value.int .i64 c, .int .i64 d] f0.offset).run Try.prog w = .ok (.int .i64 c) w := fun w => by rw [t0, o0]; exact run_part_plain w hk rfl
    have pd : ∀ w : World, (part f1.type #[Value.int .i64 c, .int .i64 d] f1.offset).run Try.prog w = .ok (.int .i64 d) w := fun w => by rw [t1, o1]; exact run_part_plain w hk rfl
    have q0 : ∀ (u v : Int) (w : World), (Op.equalIn 9999 f0.type (.int .i64 u) (.int .i64 v)).run Try.prog w = .ok (u == v) w := by rw [t0]; exact q
    have q1 : ∀ (u v : Int) (w : World), (Op.equalIn 9999 f1.type (.int .i64 u) (.int .i64 v)).run Try.prog w = .ok (u == v) w := by rw [t1]; exact q
    simp only [Op.eqFields, m0, m1, ne_eq, not_false_eq_true, if_true, Sem.run_bind, pa, pb, pc, pd, q0, q1, Result.andThen_ok, Sem.run_ite, Sem.run_pure]
    unfold eqPn
    cases (a == c) <;> cases (b == d) <;> simp
  simp [execOp, ho, st.eval hx, st.eval hy, hg, h2]
end
theorem zvg {α : Type} (f : α → List Value) (s : Nat) (hs : ∀ a, (f a).length = s) (es : List α) (d : α) {i o : Nat} {us : List Value} (hi : i < es.length) (hu : ∀ j u, us[j]? = some u → (f (es.getD i d))[o + j]? = some u ∧ o + j < s) : ∀ j u, us[j]? = some u → (es.flatMap f)[i * s + o + j]? = some u := fun j u hj => by
  obtain ⟨h1, h2⟩ := hu j u hj
  rw [Nat.add_assoc, zce f s hs es d hi h2]; exact h1
theorem zou (xs : List Int) (x : Int) (v : Value) (w : World) (hv : RdsW w v 1 xs.length (xs.map (Value.int .i64))) (hlen : xs.length ≤ 1000000000) :
   Calls Try.prog 12 #[v, .int .i64 x] w (Ans w (.int .i64 (getI xs x))) := by
 refine zbf (N := 17) (args := [v, .int .i64 x]) Try.func12 rfl rfl (zbd 1 rfl (zac (zac (reQ 1 rfl ?_))))
 refine zbj rfl rfl rfl rfl rfl rfl (fun h1 => ?_) (fun h1 => ?_)
 ·
  refine zaz 6 rfl (zak rfl (zbd 1 rfl ?_))
  refine zau (zai ?_)
  exact zbb rfl rfl (by unfold getI; rw [if_neg (by omega)])
 refine zap 3 rfl (hvQ rfl (lnQ rfl rfl rfl (zab hv)) ?_)
 refine zdi rfl rfl rfl rfl rfl rfl (fun h2 => ?_) (fun h2 => ?_)
 ·
  refine zaz 1 rfl (zak rfl (zbd 1 rfl ?_))
  refine zau (zai ?_)
  exact zbb rfl rfl (by unfold getI; rw [if_neg (by omega)])
 refine zaz 1 rfl (zal rfl (zcq (zac (reQ 2 rfl (hvQ rfl (riQ 1 rfl rfl rfl rfl (zab hv)) (hvQ rfl (lzQ rfl rfl rfl (zab hv)) (zap 1 rfl (?_))))))))
 refine ntQ ?_
 exact zau (zbb rfl rfl (by unfold getI; rw [if_pos (by omega)]))
theorem btoi_t  (w : World)  :
   Calls Try.prog 11 #[.bool true] w (Ans w (.int .i64 1)) := by
 refine zbf (N := 4) (args := [.bool true]) Try.func11 rfl rfl (zbd 1 rfl (zac (zbd 1 rfl ?_)))
 refine zak rfl (zbd 1 rfl ?_)
 refine zau (zai ?_)
 exact zbb rfl rfl rfl
theorem btoi_f  (w : World)  :
   Calls Try.prog 11 #[.bool false] w (Ans w (.int .i64 0)) := by
 refine zbf (N := 4) (args := [.bool false]) Try.func11 rfl rfl (zbd 1 rfl (zac (zbd 1 rfl ?_)))
 refine zal rfl (zcq (zbd 1 rfl ?_))
 exact zau (zbb rfl rfl rfl)
theorem zvy {n : Ln} {bs : List Bk} {cs : List Cn} (h5 : ∀ k, k < cs.length → (cs.getD k cn0).ks.length ≤ 5 * bs.length) (b p : Nat) : ∀ {i : Nat}, i ≤ cs.length → snkN cs b p i ≤ 5 * bs.length * i
  | 0, _ => by show List.countP _ ((cs.take 0).flatMap Cn.ks) ≤ _; simp
  | i + 1, hi => by
    rw [zmr (by omega)]
    have h1 := zvy (n := n) h5 b p (show i ≤ cs.length by omega)
    have h2 := h5 i (by omega)
    have h3 : (cs.getD i cn0).ks.countP (atP b p) ≤ _ := List.countP_le_length
    rw [Nat.mul_succ]; omega
theorem snk_le9 {n : Ln} {bs : List Bk} {cs : List Cn} (h5 : ∀ k, k < cs.length → (cs.getD k cn0).ks.length ≤ 5 * bs.length) (h64 : bs.length ≤ 64) (hcl : cs.length ≤ 2 * bs.length) (b p : Nat) {i : Nat} (hi : i ≤ cs.length) : snkN cs b p i ≤ 40960 := by
  have h1 := zvy (n := n) h5 b p hi
  have h2 : 5 * bs.length * i ≤ (5 * 64) * 128 := Nat.mul_le_mul (by omega) (by omega)
  omega
theorem walk_FnConnsComplete (a0 : Option Addr) (len0 cap0 : Nat) (z0 : List Int) (w : World) (hbr : BRow .u8 w a0 len0 cap0 z0) :
   Calls Try.prog 3 #[.slice a0 len0 cap0] w (Ans w (.bool true)) := by
 refine zbf (N := 146) (args := [.slice a0 len0 cap0]) Try.func3 rfl rfl (zbd 1 rfl (zac (zac (reQ 1 rfl ?_))))
 refine zds rfl (zaq rfl rfl (fun w hm => zav (zgb (big_any a0 len0 cap0 w (hbr.len_le))))) (zca (fun h1 => ?_) (fun h1 => ?_))
 ·
  refine ntQ (zak rfl (zbd 1 rfl ?_))
  refine zau (zai ?_)
  exact zbb rfl rfl rfl
 have hlen9 := of_decide_eq_false h1
 refine ntQ (zal rfl (zcq (zac (reQ 1 rfl ?_))))
 refine zfg rfl rfl rfl (zaq rfl rfl (fun w hm => znx a0 len0 cap0 z0 w (hbr.below hm.bel) (by omega))) ?_
 intro v2 p3 hR4
 obtain ⟨d, n, dp, bs, bv, rfl, rfl, hdp, ⟨o1, o2, o3⟩, oB, hok, hbo, hb64, hdv, hfit, hpk⟩ := hR4
 have hblp : ∀ k, k < bs.length → BlP n (bs.getD k bk0) := fun k hk => hpk.bl _ (zbl hk)
 have hel : ∀ k, k < bs.length → (bs.getD k bk0).es.length ≤ 100 := fun k hk => by have h9 := (hblp k hk).rng; omega
 refine zap 4 rfl (zdj rfl (zbx (z := .agg #[.int .i64 0, .int .i64 0, .int .i64 0, .int .i64 0]) rfl rfl) ?_)
 intro b5
 refine zdj rfl (zbx (z := .agg #[.int .i64 0, .slice none 0 0, .slice none 0 0, .slice none 0 0]) rfl rfl) ?_
 intro b6
 refine zcc (cs' := #[.int .i64 d.W, .int .i64 d.H, .int .i64 d.T, .int .i64 d.R]) (i := 1) (off := 0) (us := [.int .i64 d.W, .int .i64 d.H, .int .i64 d.T, .int .i64 d.R]) rfl rfl rfl rfl rfl rfl rfl (zah rfl (zah rfl (zah rfl (zah rfl zbr)))) rfl rfl rfl (zcc (cs' := #[.int .i64 n.ins, n.sv, n.lv, n.ov]) (i := 0) (off := 0) (us := [.int .i64 n.ins, n.sv, n.lv, n.ov]) rfl rfl rfl rfl rfl rfl rfl (zah rfl (zah o1 (zah o2 (zah o3 zbr)))) rfl rfl rfl ?_)
 refine zaz 1 rfl (srQ (hvQ rfl (zao (cs := [.int .i64 n.ins, n.sv, n.lv, n.ov]) rfl rfl rfl rfl rfl (zaj 0 rfl 0 rfl)) (zap 1 rfl ?_)))
 refine zfg rfl rfl rfl (zaq rfl rfl (fun w hm => znz n bs _ w (hdp w (hm.holds _ (zcn (i := 2) rfl))).1 hok (hdp w (hm.holds _ (zcn (i := 2) rfl))).2 hpk)) ?_
 intro v7 p8 hR9
 obtain ⟨cp, cs, rfl, hcp, oC, hcl, hc5, hcm⟩ := hR9
 obtain ⟨cv, rfl⟩ : ∃ x, x = v7 := ⟨_, rfl⟩
 refine zaz 1 rfl (zac (zbd 1 rfl (zax ?_)))
 refine zka (α := Nat) [0, 2, 4, 5, 6, 16] rfl (fun b => [bigE cp, boxE b6 #[.int .i64 n.ins, n.sv, n.lv, n.ov] 30, boxE b5 #[.int .i64 d.W, .int .i64 d.H, .int .i64 d.T, .int .i64 d.R] 25, bigE dp]) (fun b => [(7, .int .i64 (b : Int))]) (fun b => b ≤ bs.length) (fun b => bs.length - b) 0 (Nat.zero_le _) (saQ rfl) (pfQ rfl) ?_
 intro b hi10
 have hb := hi10
 refine zac (zac (reQ 2 rfl ?_))
 refine hvQ rfl (lnQ rfl rfl rfl (fun w hm => (hdp w (hm.holds _ (zcn (i := 3) rfl))).2.row)) (zbj rfl rfl rfl rfl rfl rfl (fun h11 => ?_) (fun h11 => ?_))
 ·
  refine ntQ (zak rfl (zcq (sbQ (zac ?_))))
  refine zdf rfl 6 [0, 1, 2, 3, 4, 5] (List.take 6 _) (List.drop 6 _) [[], [], [], [1, 2], [3], [0, 4]] [32, 33, 34, 35, 36, 37] (fun i_ vs_ v_ p_ => match i_ with | 0 => v_ = .agg #[.int .i64 n.ins, n.sv, n.lv, n.ov] ∧ p_ = [] | 1 => v_ = bv ∧ p_ = [] | 2 => v_ = .int .i64 (b : Int) ∧ p_ = [] | 3 => v_ = elP bv (((b : Int)).toNat * 3) ∧ p_ = [] | 4 => v_ = .agg #[.int .i64 ((bs.getD b bk0).kd), .int .i64 ((bs.getD b bk0).it), (bs.getD b bk0).bv] ∧ p_ = [] | 5 => (fun v' post => post = [rowE 3 1 v' ((pinN n (bs.getD b bk0))).length (((pinN n (bs.getD b bk0))).map (Value.int .i64))]) v_ p_ | _ => True) (List.take_append_drop 6 _).symm (by kernel_rfl) (by kernel_rfl) rfl rfl ?_ ?_
  ·
   refine ⟨?_, ?_, ?_, ?_, ?_, ?_, trivial⟩
   ·
    intro vf pf hR
    exact olQ rfl (zam [4] rfl) (zbg (zao (cs := [.int .i64 n.ins, n.sv, n.lv, n.ov]) rfl rfl rfl rfl rfl (zaj 1 rfl 0 rfl)))
   ·
    intro vf pf hR
    exact ovQ rfl (zam [5] rfl) (zbg (zas rfl))
   ·
    intro vf pf hR
    exact ovQ rfl (zam [7] rfl) (zbg (zas rfl))
   ·
    intro vf pf hR
    have e1 := hR 1 (by decide)
    have e2 := hR 2 (by decide)
    exact olQ rfl (sk 33 (congrArg some e1.1) (sk 34 (congrArg some e2.1) (zaf _))) (zbg (riQ 3 rfl rfl rfl rfl (fun w hm => (hdp w (hm.holds _ (zcn (i := 3) rfl))).2.row)))
   ·
    intro vf pf hR
    have e3 := hR 3 (by decide)
    exact olQ rfl (sk 35 (congrArg some e3.1) (zaf _)) (zbg (zbt (us := [.int .i64 ((bs.getD b bk0).kd), .int .i64 ((bs.getD b bk0).it), (bs.getD b bk0).bv]) rfl rfl rfl rfl (fun w hm => (hdp w (hm.holds _ (zcn (i := 3) rfl))).2.row) (by omega) rfl (zcp bkC 3 (fun _ => rfl) bs bk0 (show b < _ by omega) rfl)))
   intro vf pf hR
   have e0 := hR 0 (by decide)
   have e4 := hR 4 (by decide)
   exact olQ rfl (sk 32 (congrArg some e0.1) (sk 36 (congrArg some e4.1) (zaf _))) (zaq rfl rfl (fun w hm => ziy n (bs.getD b bk0) w (hdp w (hm.holds _ (zcn (i := 3) rfl))).1 hok ((hdp w (hm.holds _ (zcn (i := 3) rfl))).2.at (k := b) (by omega)) (hel b (by omega))))
  intro vf pf hR
  have e5 : (fun v' post => post = [rowE 3 1 v' ((pinN n (bs.getD b bk0))).length (((pinN n (bs.getD b bk0))).map (Value.int .i64))]) (vf 5) (pf 5) := hR 5 (by decide)
  obtain ⟨v12, vE5⟩ : ∃ x, vf 5 = x := ⟨_, rfl⟩
  obtain ⟨p13, pE5⟩ : ∃ x, pf 5 = x := ⟨_, rfl⟩
  have hR14 := e5
  rw [vE5, pE5] at hR14
  subst hR14
  have q0 := hR 0 (by decide)
  have q1 := hR 1 (by decide)
  have q2 := hR 2 (by decide)
  have q3 := hR 3 (by decide)
  have q4 := hR 4 (by decide)
  refine zco (zbk [29, 16, 7, 6, 5, 4, 2, 0] _ (sk 37 (congrArg some vE5) (zaf _)) rfl) (by simp only [pE5, vE5, q0.2, q1.2, q2.2, q3.2, q4.2, fS] <;> rfl) ?_
  simp only [List.drop_succ_cons, List.drop_zero]
  refine zaz 1 rfl (zbd 1 rfl (zax ?_))
  refine zka (α := Nat) [0, 2, 4, 5, 6, 7, 8, 16, 29] rfl (fun p => [rowE 3 1 v12 ((pinN n (bs.getD b bk0)).length) ((pinN n (bs.getD b bk0)).map (Value.int .i64)), bigE cp, boxE b6 #[.int .i64 n.ins, n.sv, n.lv, n.ov] 30, boxE b5 #[.int .i64 d.W, .int .i64 d.H, .int .i64 d.T, .int .i64 d.R] 25, bigE dp]) (fun p => [(9, .int .i64 (p : Int))]) (fun p => p ≤ (pinN n (bs.getD b bk0)).length) (fun p => (pinN n (bs.getD b bk0)).length - p) 0 (Nat.zero_le _) (saQ rfl) (pfQ rfl) ?_
  intro p hi15
  have hp := hi15
  have hpl9 := zlo hok (hblp b (by omega))
  refine zac (zac (reQ 2 rfl (hvQ rfl (lnQ rfl rfl rfl (zae 0 rfl)) ?_)))
  refine zbj rfl rfl rfl rfl rfl rfl (fun h16 => ?_) (fun h16 => ?_)
  ·
   refine ntQ (zak rfl (zcq (sbQ (zbd 1 rfl ?_))))
   refine zac (zbd 1 rfl (zax ?_))
   refine zhy (α := Nat) (β := Int) [0, 2, 4, 5, 6, 7, 8, 9, 16, 29, 41] rfl (fun i x => [rowE 3 1 v12 ((pinN n (bs.getD b bk0)).length) ((pinN n (bs.getD b bk0)).map (Value.int .i64)), bigE cp, boxE b6 #[.int .i64 n.ins, n.sv, n.lv, n.ov] 30, boxE b5 #[.int .i64 d.W, .int .i64 d.H, .int .i64 d.T, .int .i64 d.R] 25, bigE dp]) (fun i x => [(10, .int .i64 x), (11, .int .i64 (i : Int))]) (fun i x => i ≤ cs.length ∧ x = (snkN cs b p i : Int)) (fun i x => cs.length - i) 0 0 ⟨Nat.zero_le _, rfl⟩ (saQ rfl) (pfQ rfl) ?_
   intro i x hi17
   obtain ⟨hi, hx⟩ := hi17
   have hxb := snk_le9 (n := n) hc5 hb64 hcl b p hi
   refine zac (zac (reQ 2 rfl ?_))
   refine hvQ rfl (lnQ rfl rfl rfl (fun w hm => (hcp w (hm.holds _ (zcn (i := 1) rfl))).row)) (zbj rfl rfl rfl rfl rfl rfl (fun h18 => ?_) (fun h18 => ?_))
   ·
    refine ntQ (zak rfl (zcq (sbQ (zbd 1 rfl ?_))))
    refine zax ?_
    refine zhy (α := Nat) (β := Int) [0, 2, 4, 5, 6, 7, 8, 9, 11, 16, 29, 41, 47] rfl (fun k y => [rowE 3 1 v12 ((pinN n (bs.getD b bk0)).length) ((pinN n (bs.getD b bk0)).map (Value.int .i64)), bigE cp, boxE b6 #[.int .i64 n.ins, n.sv, n.lv, n.ov] 30, boxE b5 #[.int .i64 d.W, .int .i64 d.H, .int .i64 d.T, .int .i64 d.R] 25, bigE dp]) (fun k y => [(10, .int .i64 y), (12, .int .i64 (k : Int))]) (fun k y => k ≤ (cs.getD i cn0).ks.length ∧ y = (snkN cs b p i : Int) + (((cs.getD i cn0).ks.take k).countP (atP b p) : Int)) (fun k y => (cs.getD i cn0).ks.length - k) 0 x ⟨Nat.zero_le _, by rw [hx]; simp⟩ (saQ rfl) (pfQ rfl) ?_
    intro k y hi19
    obtain ⟨hk, hy⟩ := hi19
    have hc59 := hc5 i (by omega)
    have hyb : ((cs.getD i cn0).ks.take k).countP (atP b p) ≤ k := Nat.le_trans List.countP_le_length (by rw [List.length_take]; omega)
    refine zac (zac (reQ 3 rfl ?_))
    refine hvQ rfl (riQ 4 rfl rfl rfl rfl (fun w hm => (hcp w (hm.holds _ (zcn (i := 1) rfl))).row)) (hvQ rfl (zbe (k0 := 3) rfl rfl rfl (fun w hm => (hcp w (hm.holds _ (zcn (i := 1) rfl))).row) (by omega)) ?_)
    refine hvQ rfl (zar (u := (cs.getD i cn0).kv) rfl rfl rfl (fun w hm => (hcp w (hm.holds _ (zcn (i := 1) rfl))).row) ((zce cnC 4 (fun _ => rfl) cs cn0 (show i < _ by omega) (by decide)).trans rfl)) (hvQ rfl (lnQ rfl rfl rfl (fun w hm => (hcp w (hm.holds _ (zcn (i := 1) rfl))).at (k := i) (by omega))) ?_)
    refine zbj rfl rfl rfl rfl rfl rfl (fun h20 => ?_) (fun h20 => ?_)
    ·
     refine ntQ (zak rfl (zcq (sbQ (zac (reQ 2 rfl ?_)))))
     refine hvQ rfl (riQ 4 rfl rfl rfl rfl (fun w hm => (hcp w (hm.holds _ (zcn (i := 1) rfl))).row)) (hvQ rfl (zbe (k0 := 3) rfl rfl rfl (fun w hm => (hcp w (hm.holds _ (zcn (i := 1) rfl))).row) (by omega)) ?_)
     refine hvQ rfl (zar (u := (cs.getD i cn0).kv) rfl rfl rfl (fun w hm => (hcp w (hm.holds _ (zcn (i := 1) rfl))).row) ((zce cnC 4 (fun _ => rfl) cs cn0 (show i < _ by omega) (by decide)).trans rfl)) (zap 1 rfl ?_)
     refine hvQ rfl (riQ 2 rfl rfl rfl rfl (fun w hm => (hcp w (hm.holds _ (zcn (i := 1) rfl))).at (k := i) (by omega))) (hvQ rfl (zbt (us := [.int .i64 ((((cs.getD i cn0).ks).getD k pn0).b), .int .i64 ((((cs.getD i cn0).ks).getD k pn0).p)]) rfl rfl rfl rfl (fun w hm => (hcp w (hm.holds _ (zcn (i := 1) rfl))).at (k := i) (by omega)) (by omega) rfl (zcp pnC 2 (fun _ => rfl) ((cs.getD i cn0).ks) pn0 (show k < _ by omega) rfl)) ?_)
     refine zap 2 rfl (hvQ rfl (zcw (cs := #[.int .i64 (b : Int), .int .i64 (p : Int)]) rfl rfl rfl) (hvQ rfl (rv_eqPn rfl rfl rfl) ?_))
     refine zca (fun h21 => ?_) (fun h21 => ?_)
     ·
      have hat := zvj h21
      refine ntQ (zak rfl (zac (reQ 1 rfl (hvQ rfl (vaQ rfl rfl rfl) (zaz 1 rfl (zac ?_))))))
      have hnd9 := snk_nd hcm (show i < cs.length by omega) (show k < (cs.getD i cn0).ks.length by omega) hat.1 hat.2
      have hb22 : (((cs.getD i cn0).nd) != ((pinN n (bs.getD b bk0)).getD p 0)) = false := Bool.eq_false_iff.2 (fun h => bne_iff_ne.1 h (by omega))
      refine zby 10 [[], [], [0, 1], [2], [3], [], [], [5, 6], [7], [4, 8]] [74, 75, 76, 77, 78, 79, 80, 81, 82, 83] [cv, .int .i64 (i : Int), elP cv (((i : Int)).toNat * 4), elP cv (((i : Int)).toNat * 4 + 0), .int .i64 ((cs.getD i cn0).nd), v12, .int .i64 (p : Int), elP v12 (((p : Int)).toNat * 1), .int .i64 ((pinN n (bs.getD b bk0)).getD p 0), .bool false] (by kernel_rfl) rfl ?_ ?_
      ·
       exact ⟨iaQ rfl (zas rfl) rfl, iaQ rfl (zas rfl) rfl, iaQ rfl (riQ 4 rfl rfl rfl rfl (fun w hm => (hcp w (hm.holds _ (zcn (i := 1) rfl))).row)) rfl, iaQ rfl (zbe (k0 := 0) rfl rfl rfl (fun w hm => (hcp w (hm.holds _ (zcn (i := 1) rfl))).row) (by omega)) rfl, iaQ rfl (zar (u := .int .i64 ((cs.getD i cn0).nd)) rfl rfl rfl (fun w hm => (hcp w (hm.holds _ (zcn (i := 1) rfl))).row) ((zce cnC 4 (fun _ => rfl) cs cn0 (show i < _ by omega) (by decide)).trans rfl)) rfl, iaQ rfl (zas rfl) rfl, iaQ rfl (zas rfl) rfl, iaQ rfl (riQ 1 rfl rfl rfl rfl (zae 0 rfl)) rfl, iaQ rfl (zar (u := .int .i64 ((pinN n (bs.getD b bk0)).getD p 0)) rfl rfl rfl (zae 0 rfl) (zbn (show _ < (pinN n (bs.getD b bk0)).length by omega))) rfl, .inl ⟨rfl, zek (zde rfl rfl rfl rfl) hb22⟩, trivial⟩
      simp only [List.drop_succ_cons, List.drop_zero]
      refine ntQ (fsQ rfl (zcv (reQ 1 rfl (hvQ rfl (vaQ rfl rfl rfl) (enQ 1 rfl ?_)))))
      exact zbq (k + 1) (y + 1) ⟨by omega, by rw [zvl (by omega) hat]; omega⟩ (by omega) (saQ rfl) (pfQ rfl)
     have hat := eqPn_no h21
     refine ntQ (fsQ rfl (zcv (reQ 1 rfl (hvQ rfl (vaQ rfl rfl rfl) (enQ 1 rfl ?_)))))
     exact zbq (k + 1) y ⟨by omega, by rw [cntP_no (by omega) hat]; omega⟩ (by omega) (saQ rfl) (pfQ rfl)
    refine ntQ (zal rfl ?_)
    refine zba (zdq ?_)
    refine zag (zcv (reQ 1 rfl (hvQ rfl (vaQ rfl rfl rfl) (enQ 1 rfl ?_))))
    exact zbq (i + 1) y ⟨by omega, by rw [zmr (by omega), hy, show k = (cs.getD i cn0).ks.length by omega, List.take_length]; omega⟩ (by omega) (saQ rfl) (pfQ rfl)
   refine ntQ (zal rfl ?_)
   refine zba (zdq ?_)
   refine zag (zaw (zac (reQ 3 rfl (hvQ rfl (riQ 1 rfl rfl rfl rfl (zae 0 rfl)) (hvQ rfl (zar (u := .int .i64 ((pinN n (bs.getD b bk0)).getD p 0)) rfl rfl rfl (zae 0 rfl) (zbn (show _ < (pinN n (bs.getD b bk0)).length by omega))) ?_)))))
   refine zet rfl rfl rfl rfl rfl rfl (fun h23 => ?_) (fun h23 => ?_)
   ·
    refine zds rfl (zaq rfl rfl (fun w hm => zav (btoi_t w))) ?_
    have hsa9 := zsk hok hpk hcm (show b < bs.length by omega) (show p < (pinN n (bs.getD b bk0)).length by omega)
    rw [← show i = cs.length by omega] at hsa9
    first | rw [if_pos (by omega)] at hsa9 | rw [if_neg (by omega)] at hsa9
    refine zfj rfl rfl rfl rfl rfl rfl (fun h24 => absurd h24 (by omega)) (fun h24 => ?_)
    refine ntQ (fsQ rfl (zcv (reQ 1 rfl (hvQ rfl (vaQ rfl rfl rfl) (enQ 1 rfl ?_)))))
    exact zcr (p + 1) (by omega) (by omega) (saQ rfl) (pfQ rfl)
   refine zds rfl (zaq rfl rfl (fun w hm => zav (btoi_f w))) ?_
   have hsa9 := zsk hok hpk hcm (show b < bs.length by omega) (show p < (pinN n (bs.getD b bk0)).length by omega)
   rw [← show i = cs.length by omega] at hsa9
   first | rw [if_pos (by omega)] at hsa9 | rw [if_neg (by omega)] at hsa9
   refine zfj rfl rfl rfl rfl rfl rfl (fun h25 => absurd h25 (by omega)) (fun h25 => ?_)
   refine ntQ (fsQ rfl (zcv (reQ 1 rfl (hvQ rfl (vaQ rfl rfl rfl) (enQ 1 rfl ?_)))))
   exact zcr (p + 1) (by omega) (by omega) (saQ rfl) (pfQ rfl)
  refine ntQ (zal rfl ?_)
  refine zba (zdq ?_)
  refine zag (zcv (reQ 1 rfl (hvQ rfl (vaQ rfl rfl rfl) (enQ 1 rfl ?_))))
  exact zcr (b + 1) (by omega) (by omega) (saQ rfl) (slQ [1, 0, 0, 0] rfl)
 refine ntQ (zal rfl ?_)
 refine zba (zdq ?_)
 refine zag (zaw (zac (zbd 1 rfl (zax ?_))))
 refine zka (α := Nat) [0, 2, 4, 5, 6, 16, 29] rfl (fun i => [bigE cp, boxE b6 #[.int .i64 n.ins, n.sv, n.lv, n.ov] 30, boxE b5 #[.int .i64 d.W, .int .i64 d.H, .int .i64 d.T, .int .i64 d.R] 25, bigE dp]) (fun i => [(13, .int .i64 (i : Int))]) (fun i => i ≤ cs.length) (fun i => cs.length - i) 0 (Nat.zero_le _) (saQ rfl) (pfQ rfl) ?_
 intro i hi26
 have hi := hi26
 refine zac (zac (reQ 2 rfl ?_))
 refine hvQ rfl (lnQ rfl rfl rfl (fun w hm => (hcp w (hm.holds _ (zcn (i := 0) rfl))).row)) (zbj rfl rfl rfl rfl rfl rfl (fun h27 => ?_) (fun h27 => ?_))
 ·
  refine ntQ (zak rfl (zcq (sbQ (zac (reQ 2 rfl ?_)))))
  refine hvQ rfl (riQ 4 rfl rfl rfl rfl (fun w hm => (hcp w (hm.holds _ (zcn (i := 0) rfl))).row)) (hvQ rfl (zbe (k0 := 1) rfl rfl rfl (fun w hm => (hcp w (hm.holds _ (zcn (i := 0) rfl))).row) (by omega)) ?_)
  refine hvQ rfl (zbt (us := [.int .i64 ((cs.getD i cn0).sb), .int .i64 ((cs.getD i cn0).sp)]) rfl rfl rfl rfl (fun w hm => (hcp w (hm.holds _ (zcn (i := 0) rfl))).row) (by omega) rfl (zvg cnC 4 (fun _ => rfl) cs cn0 (show i < _ by omega) (fun j u hj => by match j, hj with | 0, hj => exact ⟨hj, by decide⟩ | 1, hj => exact ⟨hj, by decide⟩ | j + 2, hj => simp at hj))) (zdj rfl (zbx (z := .agg #[.int .i64 0, .int .i64 0]) rfl rfl) ?_)
  intro b28
  refine zcc (cs' := #[.int .i64 ((cs.getD i cn0).sb), .int .i64 ((cs.getD i cn0).sp)]) (i := 0) (off := 0) (us := [.int .i64 ((cs.getD i cn0).sb), .int .i64 ((cs.getD i cn0).sp)]) rfl rfl rfl rfl rfl rfl rfl (zah rfl (zah rfl zbr)) rfl rfl rfl (ntQ (zac ?_))
  obtain ⟨c9, p9, hc9, hp9, hsb, hsp, hnd⟩ := src_at hcm (show i < cs.length by omega)
  rw [← show ((cs.getD i cn0).sb).toNat = c9 by omega] at hp9 hnd
  have hge : getI (outNd n (bs.getD ((cs.getD i cn0).sb).toNat bk0)) (cs.getD i cn0).sp = (cs.getD i cn0).nd := by rw [hsp, hnd]; unfold getI; rw [if_pos (by omega), Int.toNat_natCast]
  have hol9 := zjv (hblp ((cs.getD i cn0).sb).toNat (by omega))
  have hb29 : (decide ((cs.getD i cn0).sb < 0)) = false := decide_eq_false (by omega)
  have hb30 : (decide ((bs.length : Int) ≤ (cs.getD i cn0).sb)) = false := decide_eq_false (by omega)
  have hb34 : ((getI (outNd n (bs.getD (((cs.getD i cn0).sb).toNat) bk0)) ((cs.getD i cn0).sp)) != ((cs.getD i cn0).nd)) = false := Bool.eq_false_iff.2 (fun h => bne_iff_ne.1 h (by omega))
  refine zdf rfl 28 [0, 1, 2, 3, 4, 5, 6, 7, 8, 9, 10, 11, 12, 13, 14, 15, 16, 17, 18, 19, 20, 21, 22, 23, 24, 25, 26, 27] (List.take 28 _) (List.drop 28 _) [[], [0], [1], [2], [3], [3, 4], [3], [3, 6], [3, 5, 7], [3, 8], [9], [10], [10], [10], [10, 13], [10, 12, 14], [10, 15], [10, 11, 16], [10], [10, 18], [10, 17, 19], [10], [10], [10, 21, 22], [10, 23], [10, 24], [10, 17, 20, 25], [10, 26]] [103, 104, 105, 106, 107, 108, 109, 110, 111, 112, 113, 114, 115, 116, 117, 118, 119, 120, 121, 122, 123, 124, 125, 126, 127, 128, 129, 130] (fun i_ vs_ v_ p_ => match i_ with | 0 => v_ = .pointer (some ⟨b28, 0 + 0, none⟩) ∧ p_ = [] | 1 => v_ = .int .i64 ((cs.getD i cn0).sb) ∧ p_ = [] | 2 => v_ = .bool false ∧ p_ = [] | 3 => v_ = .bool false ∧ p_ = [] | 4 => v_ = .pointer (some ⟨b28, 0 + 0, none⟩) ∧ p_ = [] | 5 => v_ = .int .i64 ((cs.getD i cn0).sb) ∧ p_ = [] | 6 => v_ = bv ∧ p_ = [] | 7 => v_ = .int .i64 (bs.length : Int) ∧ p_ = [] | 8 => v_ = .bool false ∧ p_ = [] | 9 => v_ = .bool false ∧ p_ = [] | 10 => v_ = .bool false ∧ p_ = [] | 11 => v_ = .agg #[.int .i64 n.ins, n.sv, n.lv, n.ov] ∧ p_ = [] | 12 => v_ = bv ∧ p_ = [] | 13 => v_ = .pointer (some ⟨b28, 0 + 0, none⟩) ∧ p_ = [] | 14 => v_ = .int .i64 ((cs.getD i cn0).sb) ∧ p_ = [] | 15 => v_ = elP bv (((cs.getD i cn0).sb).toNat * 3) ∧ p_ = [] | 16 => v_ = .agg #[.int .i64 ((bs.getD (((cs.getD i cn0).sb).toNat) bk0).kd), .int .i64 ((bs.getD (((cs.getD i cn0).sb).toNat) bk0).it), (bs.getD (((cs.getD i cn0).sb).toNat) bk0).bv] ∧ p_ = [] | 17 => (fun v' post => post = [rowE 3 1 v' ((outNd n (bs.getD (((cs.getD i cn0).sb).toNat) bk0))).length (((outNd n (bs.getD (((cs.getD i cn0).sb).toNat) bk0))).map (Value.int .i64))]) v_ p_ | 18 => v_ = .pointer (some ⟨b28, 0 + 1, none⟩) ∧ p_ = [] | 19 => v_ = .int .i64 ((cs.getD i cn0).sp) ∧ p_ = [] | 20 => v_ = .int .i64 (getI (outNd n (bs.getD (((cs.getD i cn0).sb).toNat) bk0)) ((cs.getD i cn0).sp)) ∧ p_ = [] | 21 => v_ = cv ∧ p_ = [] | 22 => v_ = .int .i64 (i : Int) ∧ p_ = [] | 23 => v_ = elP cv (((i : Int)).toNat * 4) ∧ p_ = [] | 24 => v_ = elP cv (((i : Int)).toNat * 4 + 0) ∧ p_ = [] | 25 => v_ = .int .i64 ((cs.getD i cn0).nd) ∧ p_ = [] | 26 => v_ = .bool false ∧ p_ = [] | 27 => v_ = .bool false ∧ p_ = [] | _ => True) (List.take_append_drop 28 _).symm (by kernel_rfl) (by kernel_rfl) rfl rfl ?_ ?_
  ·
   refine ⟨?_, ?_, ?_, ?_, ?_, ?_, ?_, ?_, ?_, ?_, ?_, ?_, ?_, ?_, ?_, ?_, ?_, ?_, ?_, ?_, ?_, ?_, ?_, ?_, ?_, ?_, ?_, ?_, trivial⟩
   ·
    intro vf pf hR
    exact ovQ rfl (zam [14] rfl) (zbg (fdQ 0 rfl rfl rfl))
   ·
    intro vf pf hR
    have e0 := hR 0 (by decide)
    exact olQ rfl (sk 103 (congrArg some e0.1) (zaf _)) (zbg (zad rfl rfl rfl (zaa 0 rfl rfl)))
   ·
    intro vf pf hR
    have e1 := hR 1 (by decide)
    exact ovQ rfl (sk 104 (congrArg some e1.1) (zaf _)) (zcy (zbg (zde rfl rfl rfl rfl)) (fun _ _ h => ⟨h.1.trans (congrArg Value.bool hb29), h.2⟩))
   ·
    intro vf pf hR
    have e2 := hR 2 (by decide)
    exact ovQ rfl (sk 105 (congrArg some e2.1) (zaf _)) (zbg (zas rfl))
   ·
    intro vf pf hR
    have e3 := hR 3 (by decide)
    refine Or.inl ⟨zcj (congrArg some e3.1) rfl, ?_⟩
    exact zcg (zam [14] rfl) (zbg (fdQ 0 rfl rfl rfl))
   ·
    intro vf pf hR
    have e3 := hR 3 (by decide)
    have e4 := hR 4 (by decide)
    refine Or.inl ⟨zcj (congrArg some e3.1) rfl, ?_⟩
    exact zbo (sk 107 (congrArg some e4.1) (zaf _)) (List.sublist_append_right _ _) (zbg (zad rfl rfl rfl (zaa 0 rfl rfl)))
   ·
    intro vf pf hR
    have e3 := hR 3 (by decide)
    refine Or.inl ⟨zcj (congrArg some e3.1) rfl, ?_⟩
    exact zcg (zam [5] rfl) (zbg (zas rfl))
   ·
    intro vf pf hR
    have e3 := hR 3 (by decide)
    have e6 := hR 6 (by decide)
    refine Or.inl ⟨zcj (congrArg some e3.1) rfl, ?_⟩
    exact zbo (sk 109 (congrArg some e6.1) (zaf _)) (List.sublist_append_right _ _) (zbg (lnQ rfl rfl rfl (fun w hm => (hdp w (hm.holds _ (zcn (i := 4) rfl))).2.row)))
   ·
    intro vf pf hR
    have e3 := hR 3 (by decide)
    have e5 := hR 5 (by decide)
    have e7 := hR 7 (by decide)
    refine Or.inl ⟨zcj (congrArg some e3.1) rfl, ?_⟩
    exact zcg (sk 108 (congrArg some e5.1) (sk 110 (congrArg some e7.1) (zaf _))) (zcy (zbg (zde rfl rfl rfl rfl)) (fun _ _ h => ⟨h.1.trans (congrArg Value.bool hb30), h.2⟩))
   ·
    intro vf pf hR
    have e3 := hR 3 (by decide)
    have e8 := hR 8 (by decide)
    exact ovQ rfl (sk 106 (congrArg some e3.1) (sk 111 (congrArg some e8.1) (zaf _))) (zbg (zas rfl))
   ·
    intro vf pf hR
    have e9 := hR 9 (by decide)
    exact ovQ rfl (sk 112 (congrArg some e9.1) (zaf _)) (zbg (zas rfl))
   ·
    intro vf pf hR
    have e10 := hR 10 (by decide)
    refine Or.inl ⟨zcj (congrArg some e10.1) rfl, ?_⟩
    exact zbo (zam [4] rfl) (List.sublist_append_right _ _) (zbg (zao (cs := [.int .i64 n.ins, n.sv, n.lv, n.ov]) rfl rfl rfl rfl rfl (zaj 2 rfl 0 rfl)))
   ·
    intro vf pf hR
    have e10 := hR 10 (by decide)
    refine Or.inl ⟨zcj (congrArg some e10.1) rfl, ?_⟩
    exact zcg (zam [5] rfl) (zbg (zas rfl))
   ·
    intro vf pf hR
    have e10 := hR 10 (by decide)
    refine Or.inl ⟨zcj (congrArg some e10.1) rfl, ?_⟩
    exact zcg (zam [14] rfl) (zbg (fdQ 0 rfl rfl rfl))
   ·
    intro vf pf hR
    have e10 := hR 10 (by decide)
    have e13 := hR 13 (by decide)
    refine Or.inl ⟨zcj (congrArg some e10.1) rfl, ?_⟩
    exact zbo (sk 116 (congrArg some e13.1) (zaf _)) (List.sublist_append_right _ _) (zbg (zad rfl rfl rfl (zaa 0 rfl rfl)))
   ·
    intro vf pf hR
    have e10 := hR 10 (by decide)
    have e12 := hR 12 (by decide)
    have e14 := hR 14 (by decide)
    refine Or.inl ⟨zcj (congrArg some e10.1) rfl, ?_⟩
    exact zbo (sk 115 (congrArg some e12.1) (sk 117 (congrArg some e14.1) (zaf _))) (List.sublist_append_right _ _) (zbg (riQ 3 rfl rfl rfl rfl (fun w hm => (hdp w (hm.holds _ (zcn (i := 4) rfl))).2.row)))
   ·
    intro vf pf hR
    have e10 := hR 10 (by decide)
    have e15 := hR 15 (by decide)
    refine Or.inl ⟨zcj (congrArg some e10.1) rfl, ?_⟩
    exact zbo (sk 118 (congrArg some e15.1) (zaf _)) (List.sublist_append_right _ _) (zbg (zbt (us := [.int .i64 ((bs.getD (((cs.getD i cn0).sb).toNat) bk0).kd), .int .i64 ((bs.getD (((cs.getD i cn0).sb).toNat) bk0).it), (bs.getD (((cs.getD i cn0).sb).toNat) bk0).bv]) rfl rfl rfl rfl (fun w hm => (hdp w (hm.holds _ (zcn (i := 4) rfl))).2.row) (by omega) rfl (zcp bkC 3 (fun _ => rfl) bs bk0 (show ((cs.getD i cn0).sb).toNat < _ by omega) rfl)))
   ·
    intro vf pf hR
    have e10 := hR 10 (by decide)
    have e11 := hR 11 (by decide)
    have e16 := hR 16 (by decide)
    refine Or.inl ⟨zcj (congrArg some e10.1) rfl, ?_⟩
    exact zbo (sk 114 (congrArg some e11.1) (sk 119 (congrArg some e16.1) (zaf _))) (List.sublist_append_right _ _) (zaq rfl rfl (fun w hm => zmo n (bs.getD (((cs.getD i cn0).sb).toNat) bk0) w (hdp w (hm.holds _ (zcn (i := 4) rfl))).1 hok ((hdp w (hm.holds _ (zcn (i := 4) rfl))).2.at (k := ((cs.getD i cn0).sb).toNat) (by omega)) (hel _ (by omega)) (hblp _ (by omega))))
   ·
    intro vf pf hR
    have e10 := hR 10 (by decide)
    refine Or.inl ⟨zcj (congrArg some e10.1) rfl, ?_⟩
    exact zcg (zam [14] rfl) (zbg (fdQ 1 rfl rfl rfl))
   ·
    intro vf pf hR
    have e10 := hR 10 (by decide)
    have e18 := hR 18 (by decide)
    refine Or.inl ⟨zcj (congrArg some e10.1) rfl, ?_⟩
    exact zbo (sk 121 (congrArg some e18.1) (zaf _)) (List.sublist_append_right _ _) (zbg (zad rfl rfl rfl (zaa 0 rfl rfl)))
   ·
    intro vf pf hR
    have e10 := hR 10 (by decide)
    have e17 : (fun v' post => post = [rowE 3 1 v' ((outNd n (bs.getD (((cs.getD i cn0).sb).toNat) bk0))).length (((outNd n (bs.getD (((cs.getD i cn0).sb).toNat) bk0))).map (Value.int .i64))]) (vf 17) (pf 17) := hR 17 (by decide)
    obtain ⟨v31, vE17⟩ : ∃ x, vf 17 = x := ⟨_, rfl⟩
    obtain ⟨p32, pE17⟩ : ∃ x, pf 17 = x := ⟨_, rfl⟩
    have hR33 := e17
    rw [vE17, pE17] at hR33
    subst hR33
    have e19 := hR 19 (by decide)
    refine Or.inl ⟨zcj (congrArg some e10.1) rfl, ?_⟩
    exact zci (sk 120 (congrArg some vE17) (sk 122 (congrArg some e19.1) (zaf _))) (by simp only [pE17, vE17, e10.2, e19.2, fS] <;> rfl) (zaq rfl rfl (fun w hm => zav (zou (outNd n (bs.getD (((cs.getD i cn0).sb).toNat) bk0)) ((cs.getD i cn0).sp) _ w ((zae 0 rfl) w hm) (by first | omega | simp))))
   ·
    intro vf pf hR
    have e10 := hR 10 (by decide)
    refine Or.inl ⟨zcj (congrArg some e10.1) rfl, ?_⟩
    exact zcg (zam [6] rfl) (zbg (zas rfl))
   ·
    intro vf pf hR
    have e10 := hR 10 (by decide)
    refine Or.inl ⟨zcj (congrArg some e10.1) rfl, ?_⟩
    exact zcg (zam [13] rfl) (zbg (zas rfl))
   ·
    intro vf pf hR
    have e10 := hR 10 (by decide)
    have e21 := hR 21 (by decide)
    have e22 := hR 22 (by decide)
    refine Or.inl ⟨zcj (congrArg some e10.1) rfl, ?_⟩
    exact zbo (sk 124 (congrArg some e21.1) (sk 125 (congrArg some e22.1) (zaf _))) (List.sublist_append_right _ _) (zbg (riQ 4 rfl rfl rfl rfl (fun w hm => (hcp w (hm.holds _ (zcn (i := 1) rfl))).row)))
   ·
    intro vf pf hR
    have e10 := hR 10 (by decide)
    have e23 := hR 23 (by decide)
    refine Or.inl ⟨zcj (congrArg some e10.1) rfl, ?_⟩
    exact zbo (sk 126 (congrArg some e23.1) (zaf _)) (List.sublist_append_right _ _) (zbg (zbe (k0 := 0) rfl rfl rfl (fun w hm => (hcp w (hm.holds _ (zcn (i := 1) rfl))).row) (by omega)))
   ·
    intro vf pf hR
    have e10 := hR 10 (by decide)
    have e24 := hR 24 (by decide)
    refine Or.inl ⟨zcj (congrArg some e10.1) rfl, ?_⟩
    exact zbo (sk 127 (congrArg some e24.1) (zaf _)) (List.sublist_append_right _ _) (zbg (zar (u := .int .i64 ((cs.getD i cn0).nd)) rfl rfl rfl (fun w hm => (hcp w (hm.holds _ (zcn (i := 1) rfl))).row) ((zce cnC 4 (fun _ => rfl) cs cn0 (show i < _ by omega) (by decide)).trans rfl)))
   ·
    intro vf pf hR
    have e10 := hR 10 (by decide)
    have e17 : (fun v' post => post = [rowE 3 1 v' ((outNd n (bs.getD (((cs.getD i cn0).sb).toNat) bk0))).length (((outNd n (bs.getD (((cs.getD i cn0).sb).toNat) bk0))).map (Value.int .i64))]) (vf 17) (pf 17) := hR 17 (by decide)
    obtain ⟨v31, vE17⟩ : ∃ x, vf 17 = x := ⟨_, rfl⟩
    obtain ⟨p32, pE17⟩ : ∃ x, pf 17 = x := ⟨_, rfl⟩
    have hR33 := e17
    rw [vE17, pE17] at hR33
    subst hR33
    have e20 := hR 20 (by decide)
    have e25 := hR 25 (by decide)
    refine Or.inl ⟨zcj (congrArg some e10.1) rfl, ?_⟩
    exact zci (sk 123 (congrArg some e20.1) (sk 128 (congrArg some e25.1) (zaf _))) (by simp only [pE17, vE17, e10.2, e20.2, e25.2, fS] <;> rfl) (zcy (zbg (zde rfl rfl rfl rfl)) (fun _ _ h => ⟨h.1.trans (congrArg Value.bool hb34), h.2⟩))
   intro vf pf hR
   have e10 := hR 10 (by decide)
   have e26 := hR 26 (by decide)
   exact ovQ rfl (sk 113 (congrArg some e10.1) (sk 129 (congrArg some e26.1) (zaf _))) (zbg (zas rfl))
  intro vf pf hR
  have e17 : (fun v' post => post = [rowE 3 1 v' ((outNd n (bs.getD (((cs.getD i cn0).sb).toNat) bk0))).length (((outNd n (bs.getD (((cs.getD i cn0).sb).toNat) bk0))).map (Value.int .i64))]) (vf 17) (pf 17) := hR 17 (by decide)
  obtain ⟨v31, vE17⟩ : ∃ x, vf 17 = x := ⟨_, rfl⟩
  obtain ⟨p32, pE17⟩ : ∃ x, pf 17 = x := ⟨_, rfl⟩
  have hR33 := e17
  rw [vE17, pE17] at hR33
  subst hR33
  have e27 := hR 27 (by decide)
  have q0 := hR 0 (by decide)
  have q1 := hR 1 (by decide)
  have q2 := hR 2 (by decide)
  have q3 := hR 3 (by decide)
  have q4 := hR 4 (by decide)
  have q5 := hR 5 (by decide)
  have q6 := hR 6 (by decide)
  have q7 := hR 7 (by decide)
  have q8 := hR 8 (by decide)
  have q9 := hR 9 (by decide)
  have q10 := hR 10 (by decide)
  have q11 := hR 11 (by decide)
  have q12 := hR 12 (by decide)
  have q13 := hR 13 (by decide)
  have q14 := hR 14 (by decide)
  have q15 := hR 15 (by decide)
  have q16 := hR 16 (by decide)
  have q18 := hR 18 (by decide)
  have q19 := hR 19 (by decide)
  have q20 := hR 20 (by decide)
  have q21 := hR 21 (by decide)
  have q22 := hR 22 (by decide)
  have q23 := hR 23 (by decide)
  have q24 := hR 24 (by decide)
  have q25 := hR 25 (by decide)
  have q26 := hR 26 (by decide)
  have q27 := hR 27 (by decide)
  refine zco (zbk [95, 29, 16, 14, 13, 6, 5, 4, 2, 0] _ (sk 130 (congrArg some e27.1) (zaf _)) rfl) (by simp only [pE17, vE17, q0.2, q1.2, q2.2, q3.2, q4.2, q5.2, q6.2, q7.2, q8.2, q9.2, q10.2, q11.2, q12.2, q13.2, q14.2, q15.2, q16.2, q18.2, q19.2, q20.2, q21.2, q22.2, q23.2, q24.2, q25.2, q26.2, q27.2, fS] <;> rfl) ?_
  simp only [List.drop_succ_cons, List.drop_zero]
  refine ntQ (fsQ rfl (zcv (reQ 1 rfl (hvQ rfl (vaQ rfl rfl rfl) (enQ 1 rfl ?_)))))
  exact zcr (i + 1) (by omega) (by omega) (saQ rfl) (slQ [2, 0, 0, 0] rfl)
 refine ntQ (zal rfl ?_)
 refine zba (zdq ?_)
 refine zag (zaw (srQ (hvQ rfl (zao (cs := [.int .i64 n.ins, n.sv, n.lv, n.ov]) rfl rfl rfl rfl rfl (zaj 1 rfl 0 rfl)) (zap 1 rfl ?_))))
 refine zds rfl (zaq rfl rfl (fun w hm => zav (zkn n bs _ w (hdp w (hm.holds _ (zcn (i := 3) rfl))).1 hok (hdp w (hm.holds _ (zcn (i := 3) rfl))).2 hpk))) (zap 2 rfl ?_)
 refine hvQ rfl (lnQ rfl rfl rfl (fun w hm => (hcp w (hm.holds _ (zcn (i := 0) rfl))).row)) (zet rfl rfl rfl rfl rfl rfl (fun h35 => ?_) (fun h35 => ?_))
 ·
  refine zaz 9 rfl ?_
  exact zau (zbb rfl rfl rfl)
 refine zap 1 rfl (hvQ rfl (zao (cs := [.int .i64 n.ins, n.sv, n.lv, n.ov]) rfl rfl rfl rfl rfl (zaj 1 rfl 0 rfl)) (zap 1 rfl ?_))
 refine zfg rfl rfl rfl (zaq rfl rfl (fun w hm => zny n bs _ w (hdp w (hm.holds _ (zcn (i := 3) rfl))).1 hok (hdp w (hm.holds _ (zcn (i := 3) rfl))).2 hel)) ?_
 intro v36 p37 hR38
 obtain ⟨sp_, ds, rfl, hsp_, oS, hsl, hsd⟩ := hR38
 obtain ⟨sv, rfl⟩ : ∃ x, x = v36 := ⟨_, rfl⟩
 refine hvQ rfl (lnQ rfl rfl rfl (fun w hm => (hsp_ w (hm.holds _ (zcn (i := 0) rfl))).row)) ?_
 have hd0 : ds.length = 0 := hsd.elim id (fun h9 => by have h8 := cx_len h9 hcm; omega)
 refine zbp rfl rfl rfl rfl rfl rfl (fun h39 => ?_) (fun h39 => absurd h39 (by omega))
 refine zaz 3 rfl ?_
 exact zau (zbb rfl rfl rfl)
end Go.Proofs.Yteikplehipifkaa
