/- Texts of the law FnSettles, part 2: what it uses. -/
import Derived.Test.YtakjndmlanpadaaSttl1
set_option linter.unusedVariables false
set_option linter.unusedSimpArgs false
namespace Go.Proofs.Ytakjndmlanpadaa
open Go.RowKit Go.ChangeShapes
open Go.RowKit
set_option maxHeartbeats 4000000 in
set_option maxRecDepth 100000 in
theorem specLutNodes_ans (n : Ln) (w : World) (hr : RdsLn w n) :
   Calls Try.prog 44 #[.agg #[.int .i64 n.ins, n.sv, n.lv, n.ov]] w (Ans w (.int .i64 (lnN n))) := by
 have hso := sml hr.ou
 have hss := hr.sq.small
 have hsl := hr.lt.small
 have hcnt : n.cnt = 1 + n.ins + n.ss.length + n.ls.length := rfl
 have hfst : n.fst = 1 + n.ins + n.ss.length := rfl
 refine zbh (N := 36) (args := [.agg #[.int .i64 n.ins, n.sv, n.lv, n.ov]]) Try.func44 rfl rfl (srQ ?_)
 refine zef rfl (zcx rfl rfl) ?_
 intro b1
 refine zbc 1 rfl (zgg (hvQ rfl (zaa (k0 := 0) rfl rfl rfl) (hvQ rfl (zaj rfl rfl rfl (zae 0 rfl rfl)) ?_)))
 refine zdn rfl (zap rfl rfl (fun w hm => zau (zel n.ins 0 20 w))) (zbl (fun h2 => ?_) (fun h2 => ?_))
 ·
  obtain ⟨h2a, h2b⟩ := (zdf _ _ _).1 h2
  refine zar 2 rfl (hvQ rfl (zaa (k0 := 1) rfl rfl rfl) (hvQ rfl (zaj rfl rfl rfl (zae 0 rfl rfl)) (hvQ rfl (lnQ rfl rfl rfl (zab ((hr).sq.row))) ?_)))
  refine zfk rfl rfl rfl rfl rfl rfl (fun h3 => ?_) (fun h3 => ?_)
  ·
   refine zbc 13 rfl ?_
   refine zan rfl (zba 1 rfl ?_)
   refine zaw (zam ?_)
   exact zbf rfl rfl (congrArg _ (lnN_no (fun hp => by obtain ⟨si, s2, s3, s4⟩ := hp; omega)).symm)
  refine zar 2 rfl (hvQ rfl (zaa (k0 := 2) rfl rfl rfl) (hvQ rfl (zaj rfl rfl rfl (zae 0 rfl rfl)) (hvQ rfl (lnQ rfl rfl rfl (zab ((hr).lt.row))) ?_)))
  refine zfk rfl rfl rfl rfl rfl rfl (fun h4 => ?_) (fun h4 => ?_)
  ·
   refine zbc 7 rfl (zan rfl (zac (reQ 1 rfl (?_))))
   refine ntQ ?_
   refine zaw (zam ?_)
   exact zbf rfl rfl (congrArg _ (lnN_no (fun hp => by obtain ⟨si, s2, s3, s4⟩ := hp; omega)).symm)
  refine zar 2 rfl (hvQ rfl (zaa (k0 := 3) rfl rfl rfl) (hvQ rfl (zaj rfl rfl rfl (zae 0 rfl rfl)) (hvQ rfl (lnQ rfl rfl rfl (zab ((hr).ou))) ?_)))
  refine zfk rfl rfl rfl rfl rfl rfl (fun h5 => ?_) (fun h5 => ?_)
  ·
   refine zbc 1 rfl (zan rfl (zba 1 rfl ?_))
   refine zaw (zam ?_)
   exact zbf rfl rfl (congrArg _ (lnN_no (fun hp => by obtain ⟨si, s2, s3, s4⟩ := hp; omega)).symm)
  refine zbc 1 rfl (zaq rfl (zcq (srQ (hvQ rfl (zaa (k0 := 0) rfl rfl rfl) (hvQ rfl (zaj rfl rfl rfl (zae 0 rfl rfl)) (hvQ rfl (vaQ rfl rfl rfl) (hvQ rfl (zaa (k0 := 1) rfl rfl rfl) (hvQ rfl (zaj rfl rfl rfl (zae 0 rfl rfl)) ?_))))))))
  refine hvQ rfl (lnQ rfl rfl rfl (zab ((hr).sq.row))) (hvQ rfl (vaQ rfl rfl rfl) (hvQ rfl (zaa (k0 := 2) rfl rfl rfl) (hvQ rfl (zaj rfl rfl rfl (zae 0 rfl rfl)) (hvQ rfl (lnQ rfl rfl rfl (zab ((hr).lt.row))) (hvQ rfl (vaQ rfl rfl rfl) (zbc 1 rfl ?_))))))
  exact zaw (zbf rfl rfl (congrArg (Value.int .i64) (show n.cnt = lnN n from (lnN_yes ⟨by omega, by omega, by omega, by omega⟩).symm)))
 have h2a := zdv h2
 refine zbc 19 rfl (zan rfl (zba 1 rfl ?_))
 refine zaw (zam ?_)
 exact zbf rfl rfl (congrArg _ (lnN_no (fun hp => by obtain ⟨si, s2, s3, s4⟩ := hp; omega)).symm)
set_option maxHeartbeats 4000000 in
set_option maxRecDepth 100000 in
theorem zeu (xs : List Int) (m : Int) (v : Value) (w : World) (hv : RdsW w v 1 xs.length (xs.map (Value.int .i64))) (hm0 : -1000 ≤ m ∧ m ≤ 1000000) :
   Calls Try.prog 35 #[v, .int .i64 m] w (Ans w (.bool (pB (BelowP xs m)))) := by
 have hsm := sml hv
 refine zbh (N := 19) (args := [v, .int .i64 m]) Try.func35 rfl rfl (zba 1 rfl (zac (zac (reQ 1 rfl (hvQ rfl (lnQ rfl rfl rfl (zab hv)) (zar 1 rfl (?_)))))))
 refine ntQ (zax ?_)
 refine lkQ1 (α := Nat) [0, 1, 4, 7, 8] rfl (fun j => []) (fun j => [(9, .int .i64 (j : Int))]) (fun j => j ≤ xs.length ∧ ∀ i, i < j → 0 ≤ xs.getD i 0 ∧ xs.getD i 0 < m) (fun j => xs.length - j) 0 ⟨Nat.zero_le _, fun i hi => absurd hi (by omega)⟩ (saQ rfl) (.slnil) ?_
 intro j hi1
 obtain ⟨hj, hq⟩ := hi1
 refine srQ ?_
 refine zbn rfl rfl rfl rfl rfl rfl (fun h2 => ?_) (fun h2 => ?_)
 ·
  refine ntQ (tcQ rfl (zcq (sbQ (srQ (hvQ rfl (riQ 1 rfl rfl rfl rfl (zab hv)) (hvQ rfl (liQ rfl rfl rfl (zab hv)) (zar 1 rfl ?_)))))))
  refine ntQ (zac (reQ 2 rfl (hvQ rfl (vsQ rfl rfl rfl) ?_)))
  refine zdn rfl (zap rfl rfl (fun w hm => zau (ans_of (zed _ _ _ w)))) (zbl (fun h3 => ?_) (fun h3 => ?_))
  ·
   obtain ⟨h3a, h3b⟩ := (zdf _ _ _).1 h3
   refine zbc 1 rfl (fsQ rfl (zcv (zbg (hvQ rfl (vaQ rfl rfl rfl) (enQ 1 rfl ?_)))))
   exact zcm (j + 1) ⟨by omega, fun i hi => by by_cases e : i = j; (subst e; omega); exact hq i (by omega)⟩ (by omega) (saQ rfl) (.slnil)
  have h3a := zdv h3
  refine zbc 1 rfl (zan rfl (zba 1 rfl ?_))
  refine zaw (zak ?_)
  refine zfn ?_
  refine zak (zam ?_)
  exact zbf rfl rfl (congrArg _ (zdg (fun hp => by first | (have h9 := hp j (by omega); omega))).symm)
 refine ntQ (fcQ rfl ?_)
 refine zbb (zds ?_)
 refine zai (zay (zba 1 rfl ?_))
 exact zaw (zbf rfl rfl (congrArg _ (zet (fun i hi => hq i (by omega))).symm))
set_option maxHeartbeats 4000000 in
set_option maxRecDepth 100000 in
theorem zep (xs : List Int) (m : Int) (v : Value) (w : World) (hv : RdsW w v 1 xs.length (xs.map (Value.int .i64))) (hm0 : -1000 ≤ m ∧ m ≤ 1000000) :
   Calls Try.prog 86 #[v, .int .i64 m] w (Ans w (.bool (pB (BelowP xs m)))) := by
 have hsm := sml hv
 refine zbh (N := 25) (args := [v, .int .i64 m]) Try.func86 rfl rfl (zba 1 rfl (zac (zba 1 rfl ?_)))
 refine zax ?_
 refine lkQ1 (α := Nat) [0, 1, 4] rfl (fun j => []) (fun j => [(5, .int .i64 (j : Int))]) (fun j => j ≤ xs.length ∧ ∀ i, i < j → 0 ≤ xs.getD i 0 ∧ xs.getD i 0 < m) (fun j => xs.length - j) 0 ⟨Nat.zero_le _, fun i hi => absurd hi (by omega)⟩ (saQ rfl) (.slnil) ?_
 intro j hi1
 obtain ⟨hj, hq⟩ := hi1
 refine zac (zac (reQ 2 rfl (hvQ rfl (lnQ rfl rfl rfl (zab hv)) ?_)))
 refine zbn rfl rfl rfl rfl rfl rfl (fun h2 => ?_) (fun h2 => ?_)
 ·
  refine ntQ (zan rfl (zcq (sbQ (zac (reQ 2 rfl (hvQ rfl (riQ 1 rfl rfl rfl rfl (zab hv)) (hvQ rfl (liQ rfl rfl rfl (zab hv)) ?_)))))))
  refine zbn rfl rfl rfl rfl rfl rfl (fun h3 => ?_) (fun h3 => ?_)
  ·
   refine zbc 8 rfl (zan rfl (zac (reQ 1 rfl (?_))))
   refine ntQ ?_
   refine zaw (zak ?_)
   refine zfn ?_
   refine zak (zam ?_)
   exact zbf rfl rfl (congrArg _ (zdg (fun hp => by first | (have h9 := hp j (by omega); omega))).symm)
  refine zar 3 rfl (hvQ rfl (riQ 1 rfl rfl rfl rfl (zab hv)) (hvQ rfl (liQ rfl rfl rfl (zab hv)) (zar 1 rfl ?_)))
  refine zff rfl rfl rfl rfl rfl rfl (fun h4 => ?_) (fun h4 => ?_)
  ·
   refine zbc 1 rfl (zan rfl (zba 1 rfl ?_))
   refine zaw (zak ?_)
   refine zfn ?_
   refine zak (zam ?_)
   exact zbf rfl rfl (congrArg _ (zdg (fun hp => by first | (have h9 := hp j (by omega); omega))).symm)
  refine zbc 1 rfl (fsQ rfl (zcv (reQ 1 rfl (hvQ rfl (vaQ rfl rfl rfl) (enQ 1 rfl ?_)))))
  exact zcm (j + 1) ⟨by omega, fun i hi => by by_cases e : i = j; (subst e; omega); exact hq i (by omega)⟩ (by omega) (saQ rfl) (.slnil)
 refine ntQ (zaq rfl ?_)
 refine zbb (zds ?_)
 refine zai (zay (zba 1 rfl ?_))
 exact zaw (zbf rfl rfl (congrArg _ (zet (fun i hi => hq i (by omega))).symm))
set_option maxHeartbeats 4000000 in
set_option maxRecDepth 100000 in
theorem seqOk_ans (s : Sq) (w : World) (hx : RdsW w s.iv 1 s.xs.length (s.xs.map (Value.int .i64))) :
   Calls Try.prog 36 #[.agg #[.int .i64 s.kd, .int .i64 s.it, s.iv]] w (Ans w (.bool (pB (SqOk s)))) := by
 refine zbh (N := 27) (args := [.agg #[.int .i64 s.kd, .int .i64 s.it, s.iv]]) Try.func36 rfl rfl (srQ ?_)
 refine zef rfl (zcx rfl rfl) ?_
 intro b1
 refine zbc 1 rfl (zgg (hvQ rfl (zaa (k0 := 0) rfl rfl rfl) (hvQ rfl (zaj rfl rfl rfl (zae 0 rfl rfl)) (ntQ (zax (zac ?_))))))
 refine zbg (zcs rfl rfl rfl rfl rfl rfl (fun h2 => ?_) (fun h2 => ?_))
 ·
  refine zbc 1 rfl (zan rfl (srQ (hvQ rfl (zaa (k0 := 1) rfl rfl rfl) (hvQ rfl (zaj rfl rfl rfl (zae 0 rfl rfl)) ?_))))
  refine zdn rfl (zap rfl rfl (fun w hm => zau (ans_of (zed _ _ _ w)))) (zbl (fun h3 => ?_) (fun h3 => ?_))
  ·
   obtain ⟨h3a, h3b⟩ := (zdf _ _ _).1 h3
   refine zar 1 rfl (hvQ rfl (zaa (k0 := 2) rfl rfl rfl) (hvQ rfl (zaj rfl rfl rfl (zae 0 rfl rfl)) (hvQ rfl (lnQ rfl rfl rfl (zab hx)) ?_)))
   refine zcs rfl rfl rfl rfl rfl rfl (fun h4 => ?_) (fun h4 => ?_)
   ·
    refine zbc 2 rfl ?_
    refine zaw (zak ?_)
    exact zam (zbf rfl rfl (congrArg _ (zet ⟨by omega⟩).symm))
   refine zbc 2 rfl ?_
   refine zaw (zak ?_)
   exact zam (zbf rfl rfl (congrArg _ (zdg (fun hp => by first | (rcases hp.kind with ⟨a, b, c⟩ | ⟨a, b, c⟩ <;> omega))).symm))
  have h3a := zdv h3
  refine zbc 7 rfl ?_
  refine zaw (zak ?_)
  exact zam (zbf rfl rfl (congrArg _ (zdg (fun hp => by first | (rcases hp.kind with ⟨a, b, c⟩ | ⟨a, b, c⟩ <;> omega))).symm))
 refine zbc 1 rfl (zaq rfl (srQ ?_))
 refine zcs rfl rfl rfl rfl rfl rfl (fun h5 => ?_) (fun h5 => ?_)
 ·
  refine zbc 1 rfl (zan rfl (srQ (hvQ rfl (zaa (k0 := 1) rfl rfl rfl) (hvQ rfl (zaj rfl rfl rfl (zae 0 rfl rfl)) ?_))))
  refine zdn rfl (zap rfl rfl (fun w hm => zau (ans_of (zed _ _ _ w)))) (zbl (fun h6 => ?_) (fun h6 => ?_))
  ·
   obtain ⟨h6a, h6b⟩ := (zdf _ _ _).1 h6
   refine zar 1 rfl (hvQ rfl (zaa (k0 := 2) rfl rfl rfl) (hvQ rfl (zaj rfl rfl rfl (zae 0 rfl rfl)) (hvQ rfl (lnQ rfl rfl rfl (zab hx)) ?_)))
   refine zcs rfl rfl rfl rfl rfl rfl (fun h7 => ?_) (fun h7 => ?_)
   ·
    refine zbc 2 rfl ?_
    refine zaw (zak ?_)
    exact zam (zbf rfl rfl (congrArg _ (zet ⟨by omega⟩).symm))
   refine zbc 2 rfl ?_
   refine zaw (zak ?_)
   exact zam (zbf rfl rfl (congrArg _ (zdg (fun hp => by first | (rcases hp.kind with ⟨a, b, c⟩ | ⟨a, b, c⟩ <;> omega))).symm))
  have h6a := zdv h6
  refine zbc 7 rfl ?_
  refine zaw (zak ?_)
  exact zam (zbf rfl rfl (congrArg _ (zdg (fun hp => by first | (rcases hp.kind with ⟨a, b, c⟩ | ⟨a, b, c⟩ <;> omega))).symm))
 refine zbc 1 rfl (fsQ rfl (zcv (zba 1 rfl ?_)))
 exact zaw (zbf rfl rfl (congrArg _ (zdg (fun hp => by first | (rcases hp.kind with ⟨a, b, c⟩ | ⟨a, b, c⟩ <;> omega))).symm))
set_option maxHeartbeats 4000000 in
set_option maxRecDepth 100000 in
theorem l02FullT_ans (n : Int) (w : World) (hn : 0 ≤ n ∧ n ≤ 4) :
   Calls Try.prog 62 #[.int .i64 n] w (Ans w (.int .i64 (qT n - 1))) := by
 have hp := pT_rng hn
 have hq := qT_rng hn
 refine zbh (N := 7) (args := [.int .i64 n]) Try.func62 rfl rfl (zac (zbg (zar 1 rfl (zcf (zay (zac (zbg (zar 1 rfl (hvQ rfl (zfw (k := .u64) (kk := .i64) (r := (pT n : Int)) rfl rfl rfl rfl (by omega) (wruT hn)) (hvQ rfl (zfw (k := .i64) (kk := .u64) (r := qT n) rfl rfl rfl rfl (by omega) (wrqT (by omega))) (hvQ rfl (vsQ rfl rfl rfl) (zar 1 rfl ?_))))))))))))
 refine ntQ ?_
 exact zaw (zbf rfl rfl rfl)
set_option maxHeartbeats 4000000 in
set_option maxRecDepth 100000 in
theorem implTabOk_ans (n b : Int) (w : World)  :
   Calls Try.prog 38 #[.agg #[.int .i64 n, .int .i64 b]] w (Ans w (.bool (pB (TabP n b)))) := by
 refine zbh (N := 17) (args := [.agg #[.int .i64 n, .int .i64 b]]) Try.func38 rfl rfl (srQ ?_)
 refine zef rfl (zcx rfl rfl) ?_
 intro b1
 refine zbc 1 rfl (srQ (hvQ rfl (zaa (k0 := 0) rfl rfl rfl) (hvQ rfl (zaj rfl rfl rfl (zae 0 rfl rfl)) ?_)))
 refine zdn rfl (zap rfl rfl (fun w hm => zau (ans_of (zed _ _ _ w)))) (zbl (fun h2 => ?_) (fun h2 => ?_))
 ·
  obtain ⟨h2a, h2b⟩ := (zdf _ _ _).1 h2
  refine zar 1 rfl (hvQ rfl (zaa (k0 := 1) rfl rfl rfl) ?_)
  have hpT := pT_rng (n := n) (by omega)
  have hqT := qT_rng (n := n) (by omega)
  refine hvQ rfl (zaj rfl rfl rfl (zae 0 rfl rfl)) (hvQ rfl (zaa (k0 := 0) rfl rfl rfl) (hvQ rfl (zaj rfl rfl rfl (zae 0 rfl rfl)) (hvQ rfl (rv_conv rfl Try.underlying3 Try.underlying111 rfl (IntWalk.u64_in _ (by omega))) (hvQ rfl (zfw (k := .u64) (kk := .u64) (r := (pT n : Int)) rfl rfl rfl rfl (by omega) (wruT (by omega))) (hvQ rfl (zfw (k := .i64) (kk := .u64) (r := qT n) rfl rfl rfl rfl (by omega) (wrqT (by omega))) (hvQ rfl (vsQ rfl rfl rfl) ?_))))))
  refine zdn rfl (zap rfl rfl (fun w hm => zau (ans_of (zed _ _ _ w)))) (zbl (fun h3 => ?_) (fun h3 => ?_))
  ·
   obtain ⟨h3a, h3b⟩ := (zdf _ _ _).1 h3
   refine zbc 2 rfl ?_
   exact zaw (zbf rfl rfl (congrArg _ (zet ⟨by omega, by omega, by omega⟩).symm))
  have h3a := zdv h3
  refine zbc 2 rfl ?_
  exact zaw (zbf rfl rfl (congrArg _ (zdg (fun hp => by first | (obtain ⟨p1, p2, p3⟩ := hp; omega))).symm))
 have h2a := zdv h2
 refine zbc 12 rfl ?_
 exact zaw (zbf rfl rfl (congrArg _ (zdg (fun hp => by first | (obtain ⟨p1, p2, p3⟩ := hp; omega))).symm))
set_option maxHeartbeats 4000000 in
set_option maxRecDepth 100000 in
theorem zgo (n b : Int) (w : World)  :
   Calls Try.prog 87 #[.agg #[.int .i64 n, .int .i64 b]] w (Ans w (.bool (pB (TabP n b)))) := by
 refine zbh (N := 19) (args := [.agg #[.int .i64 n, .int .i64 b]]) Try.func87 rfl rfl (srQ ?_)
 refine zef rfl (zcx rfl rfl) ?_
 intro b1
 refine zbc 1 rfl (zac ?_)
 rcases Bool.eq_false_or_eq_true (inR n 0 4) with hb2 | hb2
 ·
  obtain ⟨hb2a, hb2b⟩ := (zdf _ _ _).1 hb2
  rcases Bool.eq_false_or_eq_true (decide (0 ≤ b)) with hb3 | hb3
  ·
   have hb3p : 0 ≤ b := of_decide_eq_true hb3
   rcases Bool.eq_false_or_eq_true (decide (b ≤ qT n - 1)) with hb4 | hb4
   ·
    have hb4p : b ≤ qT n - 1 := of_decide_eq_true hb4
    refine zbi 16 [[], [0], [1], [2], [3], [3, 4], [3, 5], [3, 6], [7], [8], [8, 9], [8], [8, 11], [8, 12], [8, 10, 13], [8, 14]] [3, 4, 5, 6, 7, 8, 9, 10, 11, 12, 13, 14, 15, 16, 17, 18] [.pointer (some ⟨b1, 0 + 0, none⟩), .int .i64 n, .bool true, .bool true, .pointer (some ⟨b1, 0 + 1, none⟩), .int .i64 b, .bool true, .bool true, .bool true, .pointer (some ⟨b1, 0 + 1, none⟩), .int .i64 b, .pointer (some ⟨b1, 0 + 0, none⟩), .int .i64 n, .int .i64 (qT n - 1), .bool true, .bool true] (by kernel_rfl) rfl ?_ ?_
    ·
     exact ⟨iaQ rfl (zaa (k0 := 0) rfl rfl rfl) rfl, iaQ rfl (zaj rfl rfl rfl (zae 0 rfl rfl)) rfl, .inl ⟨rfl, zfo (zap rfl rfl (fun w hm => zau (zel n 0 4 w))) hb2⟩, iaQ rfl (zah rfl) rfl, iaQ rfl (zaa (k0 := 1) rfl rfl rfl) rfl, iaQ rfl (zaj rfl rfl rfl (zae 0 rfl rfl)) rfl, .inl ⟨rfl, zcw (zcc rfl rfl rfl rfl) hb3⟩, iaQ rfl (zah rfl) rfl, iaQ rfl (zah rfl) rfl, iaQ rfl (zaa (k0 := 1) rfl rfl rfl) rfl, iaQ rfl (zaj rfl rfl rfl (zae 0 rfl rfl)) rfl, iaQ rfl (zaa (k0 := 0) rfl rfl rfl) rfl, iaQ rfl (zaj rfl rfl rfl (zae 0 rfl rfl)) rfl, .inl ⟨rfl, zap rfl rfl (fun w hm => zau (l02FullT_ans n w (by omega)))⟩, .inl ⟨rfl, zcw (zcc rfl rfl rfl rfl) hb4⟩, iaQ rfl (zah rfl) rfl, trivial⟩
    simp only [List.drop_succ_cons, List.drop_zero]
    refine zbc 1 rfl ?_
    exact zaw (zbf rfl rfl (congrArg _ (zet ⟨by omega, by omega, by omega⟩).symm))
   have hb4p : ¬ (b ≤ qT n - 1) := of_decide_eq_false hb4
   refine zbi 16 [[], [0], [1], [2], [3], [3, 4], [3, 5], [3, 6], [7], [8], [8, 9], [8], [8, 11], [8, 12], [8, 10, 13], [8, 14]] [3, 4, 5, 6, 7, 8, 9, 10, 11, 12, 13, 14, 15, 16, 17, 18] [.pointer (some ⟨b1, 0 + 0, none⟩), .int .i64 n, .bool true, .bool true, .pointer (some ⟨b1, 0 + 1, none⟩), .int .i64 b, .bool true, .bool true, .bool true, .pointer (some ⟨b1, 0 + 1, none⟩), .int .i64 b, .pointer (some ⟨b1, 0 + 0, none⟩), .int .i64 n, .int .i64 (qT n - 1), .bool false, .bool false] (by kernel_rfl) rfl ?_ ?_
   ·
    exact ⟨iaQ rfl (zaa (k0 := 0) rfl rfl rfl) rfl, iaQ rfl (zaj rfl rfl rfl (zae 0 rfl rfl)) rfl, .inl ⟨rfl, zfo (zap rfl rfl (fun w hm => zau (zel n 0 4 w))) hb2⟩, iaQ rfl (zah rfl) rfl, iaQ rfl (zaa (k0 := 1) rfl rfl rfl) rfl, iaQ rfl (zaj rfl rfl rfl (zae 0 rfl rfl)) rfl, .inl ⟨rfl, zcw (zcc rfl rfl rfl rfl) hb3⟩, iaQ rfl (zah rfl) rfl, iaQ rfl (zah rfl) rfl, iaQ rfl (zaa (k0 := 1) rfl rfl rfl) rfl, iaQ rfl (zaj rfl rfl rfl (zae 0 rfl rfl)) rfl, iaQ rfl (zaa (k0 := 0) rfl rfl rfl) rfl, iaQ rfl (zaj rfl rfl rfl (zae 0 rfl rfl)) rfl, .inl ⟨rfl, zap rfl rfl (fun w hm => zau (l02FullT_ans n w (by omega)))⟩, .inl ⟨rfl, zcw (zcc rfl rfl rfl rfl) hb4⟩, iaQ rfl (zah rfl) rfl, trivial⟩
   simp only [List.drop_succ_cons, List.drop_zero]
   refine zbc 1 rfl ?_
   exact zaw (zbf rfl rfl (congrArg _ (zdg (fun hp => by first | (obtain ⟨p1, p2, p3⟩ := hp; omega))).symm))
  have hb3p : ¬ (0 ≤ b) := of_decide_eq_false hb3
  refine zbi 16 [[], [0], [1], [2], [3], [3, 4], [3, 5], [3, 6], [7], [8], [8], [8], [8], [8], [8], [8, 14]] [3, 4, 5, 6, 7, 8, 9, 10, 11, 12, 13, 14, 15, 16, 17, 18] [.pointer (some ⟨b1, 0 + 0, none⟩), .int .i64 n, .bool true, .bool true, .pointer (some ⟨b1, 0 + 1, none⟩), .int .i64 b, .bool false, .bool false, .bool false, undef, undef, undef, undef, undef, undef, .bool false] (by kernel_rfl) rfl ?_ ?_
  ·
   exact ⟨iaQ rfl (zaa (k0 := 0) rfl rfl rfl) rfl, iaQ rfl (zaj rfl rfl rfl (zae 0 rfl rfl)) rfl, .inl ⟨rfl, zfo (zap rfl rfl (fun w hm => zau (zel n 0 4 w))) hb2⟩, iaQ rfl (zah rfl) rfl, iaQ rfl (zaa (k0 := 1) rfl rfl rfl) rfl, iaQ rfl (zaj rfl rfl rfl (zae 0 rfl rfl)) rfl, .inl ⟨rfl, zcw (zcc rfl rfl rfl rfl) hb3⟩, iaQ rfl (zah rfl) rfl, iaQ rfl (zah rfl) rfl, .inr ⟨rfl, rfl⟩, .inr ⟨rfl, rfl⟩, .inr ⟨rfl, rfl⟩, .inr ⟨rfl, rfl⟩, .inr ⟨rfl, rfl⟩, .inr ⟨rfl, rfl⟩, iaQ rfl (zah rfl) rfl, trivial⟩
  simp only [List.drop_succ_cons, List.drop_zero]
  refine zbc 1 rfl ?_
  exact zaw (zbf rfl rfl (congrArg _ (zdg (fun hp => by first | (obtain ⟨p1, p2, p3⟩ := hp; omega))).symm))
 have hb2a := zdv hb2
 refine zbi 16 [[], [0], [1], [2], [3], [3], [3], [3, 6], [7], [8], [8], [8], [8], [8], [8], [8, 14]] [3, 4, 5, 6, 7, 8, 9, 10, 11, 12, 13, 14, 15, 16, 17, 18] [.pointer (some ⟨b1, 0 + 0, none⟩), .int .i64 n, .bool false, .bool false, undef, undef, undef, .bool false, .bool false, undef, undef, undef, undef, undef, undef, .bool false] (by kernel_rfl) rfl ?_ ?_
 ·
  exact ⟨iaQ rfl (zaa (k0 := 0) rfl rfl rfl) rfl, iaQ rfl (zaj rfl rfl rfl (zae 0 rfl rfl)) rfl, .inl ⟨rfl, zfo (zap rfl rfl (fun w hm => zau (zel n 0 4 w))) hb2⟩, iaQ rfl (zah rfl) rfl, .inr ⟨rfl, rfl⟩, .inr ⟨rfl, rfl⟩, .inr ⟨rfl, rfl⟩, iaQ rfl (zah rfl) rfl, iaQ rfl (zah rfl) rfl, .inr ⟨rfl, rfl⟩, .inr ⟨rfl, rfl⟩, .inr ⟨rfl, rfl⟩, .inr ⟨rfl, rfl⟩, .inr ⟨rfl, rfl⟩, .inr ⟨rfl, rfl⟩, iaQ rfl (zah rfl) rfl, trivial⟩
 simp only [List.drop_succ_cons, List.drop_zero]
 refine zbc 1 rfl ?_
 exact zaw (zbf rfl rfl (congrArg _ (zdg (fun hp => by first | (obtain ⟨p1, p2, p3⟩ := hp; omega))).symm))
theorem LutP_len {x : Nat} {b : Int} (h : TabP (x : Int) b) : x ≤ 4 := by have := h.1.2; omega
set_option maxHeartbeats 4000000 in
set_option maxRecDepth 100000 in
theorem implLutNetOk_ans (n : Ln) (w : World) (hr : RdsLn w n) :
   Calls Try.prog 11 #[.agg #[.int .i64 n.ins, n.sv, n.lv, n.ov]] w (Ans w (.bool (pB (LnOk n)))) := by
 have hso := sml hr.ou
 have hss := hr.sq.small
 have hsl := hr.lt.small
 have hcnt : n.cnt = 1 + n.ins + n.ss.length + n.ls.length := rfl
 have hfst : n.fst = 1 + n.ins + n.ss.length := rfl
 refine zbh (N := 70) (args := [.agg #[.int .i64 n.ins, n.sv, n.lv, n.ov]]) Try.func11 rfl rfl (srQ ?_)
 refine zef rfl (zcx rfl rfl) ?_
 intro b1
 refine zbc 1 rfl (srQ (hvQ rfl (zas (cs := [.int .i64 n.ins, n.sv, n.lv, n.ov]) rfl rfl rfl rfl rfl (zao 0 rfl 0 rfl)) ?_))
 refine zdn rfl (zap rfl rfl (fun w hm => zau (implLutNodes_ans n w (hr.below hm.bel)))) (zbc 1 rfl (zac (zac (reQ 1 rfl ?_))))
 refine zcs rfl rfl rfl rfl rfl rfl (fun h2 => ?_) (fun h2 => ?_)
 ·
  refine zbc 7 rfl (zan rfl (zac (reQ 1 rfl (?_))))
  refine ntQ ?_
  refine zaw (zam ?_)
  exact zbf rfl rfl (congrArg _ (zdg (fun hp => by first | (exact zdu hp.sz (by assumption)) | (exact absurd hp.ou (by rw [← hnc]; assumption)) | (have h9 := hp.sq k (by omega); exact absurd h9.1 (by assumption)) | (have h9 := hp.sq k (by omega); rw [← hnc] at h9; exact absurd h9.2 (by assumption)) | (have h9 := hp.sq k (by omega); rcases h9.1.kind with ⟨a, b, c⟩ | ⟨a, b, c⟩ <;> omega) | (have h9 := hp.lt i (by omega); have h8 := h9.1.1; omega) | (have h9 := hp.lt i (by omega); exact absurd h9.1.2 (by assumption)) | (have h9 := hp.lt i (by omega); exact absurd h9.2 (by assumption)))).symm)
 refine zar 1 rfl ?_
 have hsz := lnN_sz (by assumption)
 have hnc := lnN_yes hsz
 obtain ⟨si, s2, s3, s4⟩ := id hsz
 refine hvQ rfl (zaa (k0 := 3) rfl rfl rfl) (hvQ rfl (zaj rfl rfl rfl (zae 0 rfl rfl)) (zar 1 rfl ?_))
 refine zdn rfl (zap rfl rfl (fun w hm => zau (zeu n.os (lnN n) _ w ((zab ((hr).ou)) w hm) (by omega)))) (zbl (fun h3 => ?_) (fun h3 => ?_))
 ·
  have h3p := zgi h3
  refine zbc 2 rfl (zaq rfl (zcq (zgg (hvQ rfl (zaa (k0 := 1) rfl rfl rfl) (hvQ rfl (zaj rfl rfl rfl (zae 0 rfl rfl)) (hvQ rfl (lnQ rfl rfl rfl (zab ((hr).sq.row))) (zar 1 rfl ?_)))))))
  refine ntQ (zax ?_)
  refine lkQ1 (α := Nat) [0, 1, 2, 3, 18, 20, 21] rfl (fun k => [boxE b1 #[.int .i64 n.ins, n.sv, n.lv, n.ov] 28]) (fun k => [(22, .int .i64 (k : Int))]) (fun k => k ≤ n.ss.length ∧ ∀ i, i < k → SqOk (n.ss.getD i sq0) ∧ BelowP (n.ss.getD i sq0).xs n.cnt) (fun k => n.ss.length - k) 0 ⟨Nat.zero_le _, fun i hi => absurd hi (by omega)⟩ (saQ rfl) (pfQ rfl) ?_
  intro k hi4
  obtain ⟨hk, hqs⟩ := hi4
  refine srQ ?_
  refine zbn rfl rfl rfl rfl rfl rfl (fun h5 => ?_) (fun h5 => ?_)
  ·
   refine ntQ (tcQ rfl (zcq (sbQ (srQ (hvQ rfl (riQ 3 rfl rfl rfl rfl (zab ((hr).sq.row))) ?_)))))
   refine hvQ rfl (zdl (us := [.int .i64 ((n.ss.getD k sq0).kd), .int .i64 ((n.ss.getD k sq0).it), (n.ss.getD k sq0).iv]) rfl rfl rfl rfl (zab ((hr).sq.row)) (by omega) rfl (zek sqC 3 (fun _ => rfl) n.ss sq0 (show k < _ by omega) rfl)) (zef rfl (zbw (z := .agg #[.int .i64 0, .int .i64 0, .slice none 0 0]) rfl rfl) ?_)
   intro b6
   refine zcb (cs' := #[.int .i64 ((n.ss.getD k sq0).kd), .int .i64 ((n.ss.getD k sq0).it), (n.ss.getD k sq0).iv]) (i := 0) (off := 0) (us := [.int .i64 ((n.ss.getD k sq0).kd), .int .i64 ((n.ss.getD k sq0).it), (n.ss.getD k sq0).iv]) rfl rfl rfl rfl rfl rfl rfl (zaf rfl (zaf rfl (zaf (hr.sq.at (d := sq0) (k := k) (by omega)).one zbo))) rfl rfl rfl (ntQ (srQ (hvQ rfl (zas (cs := [.int .i64 ((n.ss.getD k sq0).kd), .int .i64 ((n.ss.getD k sq0).it), (n.ss.getD k sq0).iv]) rfl rfl rfl rfl rfl (zao 0 rfl 0 rfl)) ?_)))
   refine zdn rfl (zap rfl rfl (fun w hm => zau (seqOk_ans (n.ss.getD k sq0) w ((hr.sq.at (d := sq0) (k := k) (by omega)).below hm.bel)))) (zbl (fun h7 => ?_) (fun h7 => ?_))
   ·
    have h7p := zgi h7
    refine zar 2 rfl (hvQ rfl (zaa (k0 := 2) rfl rfl rfl) (hvQ rfl (zaj rfl rfl rfl (zae 0 rfl rfl)) (zar 1 rfl ?_)))
    refine zdn rfl (zap rfl rfl (fun w hm => zau (zeu ((n.ss.getD k sq0).xs) (lnN n) _ w ((zab ((hr).sq.at (d := sq0) (k := k) (by omega))) w hm) (by omega)))) (zbl (fun h8 => ?_) (fun h8 => ?_))
    ·
     have h8p := zgi h8
     refine zbc 2 rfl (fsQ rfl (zcv (zbg (hvQ rfl (vaQ rfl rfl rfl) (enQ 1 rfl ?_)))))
     exact zcm (k + 1) ⟨by omega, fun i hi => by by_cases e : i = k; (subst e; exact ⟨by first | assumption | exact ⟨by omega⟩, by rw [← hnc]; assumption⟩); exact hqs i (by omega)⟩ (by omega) (saQ rfl) (.cons _ (pfQ rfl))
    have h8p := zex h8
    refine zbc 2 rfl (zan rfl (zba 1 rfl ?_))
    refine zaw (zak ?_)
    refine zfn ?_
    refine zak (zam ?_)
    exact zbf rfl rfl (congrArg _ (zdg (fun hp => by first | (exact zdu hp.sz (by assumption)) | (exact absurd hp.ou (by rw [← hnc]; assumption)) | (have h9 := hp.sq k (by omega); exact absurd h9.1 (by assumption)) | (have h9 := hp.sq k (by omega); rw [← hnc] at h9; exact absurd h9.2 (by assumption)) | (have h9 := hp.sq k (by omega); rcases h9.1.kind with ⟨a, b, c⟩ | ⟨a, b, c⟩ <;> omega) | (have h9 := hp.lt i (by omega); have h8 := h9.1.1; omega) | (have h9 := hp.lt i (by omega); exact absurd h9.1.2 (by assumption)) | (have h9 := hp.lt i (by omega); exact absurd h9.2 (by assumption)))).symm)
   have h7p := zex h7
   refine zbc 8 rfl (zan rfl (zac (reQ 1 rfl (?_))))
   refine ntQ ?_
   refine zaw (zak ?_)
   refine zfn ?_
   refine zak (zam ?_)
   exact zbf rfl rfl (congrArg _ (zdg (fun hp => by first | (exact zdu hp.sz (by assumption)) | (exact absurd hp.ou (by rw [← hnc]; assumption)) | (have h9 := hp.sq k (by omega); exact absurd h9.1 (by assumption)) | (have h9 := hp.sq k (by omega); rw [← hnc] at h9; exact absurd h9.2 (by assumption)) | (have h9 := hp.sq k (by omega); rcases h9.1.kind with ⟨a, b, c⟩ | ⟨a, b, c⟩ <;> omega) | (have h9 := hp.lt i (by omega); have h8 := h9.1.1; omega) | (have h9 := hp.lt i (by omega); exact absurd h9.1.2 (by assumption)) | (have h9 := hp.lt i (by omega); exact absurd h9.2 (by assumption)))).symm)
  refine ntQ (fcQ rfl ?_)
  refine zbb (zds ?_)
  refine zai (zay (zgg (hvQ rfl (zaa (k0 := 2) rfl rfl rfl) (hvQ rfl (zaj rfl rfl rfl (zae 0 rfl rfl)) (hvQ rfl (lnQ rfl rfl rfl (zab ((hr).lt.row))) (zbc 1 rfl (zax ?_)))))))
  refine lkQ1 (α := Nat) [0, 1, 2, 3, 18, 20, 21, 22, 23, 38, 39] rfl (fun i => [boxE b1 #[.int .i64 n.ins, n.sv, n.lv, n.ov] 28]) (fun i => [(40, .int .i64 (i : Int))]) (fun i => i ≤ n.ls.length ∧ ∀ j, j < i → LutP (n.fst + j) (n.ls.getD j lt0)) (fun i => n.ls.length - i) 0 ⟨Nat.zero_le _, fun i hi => absurd hi (by omega)⟩ (saQ rfl) (pfQ rfl) ?_
  intro i hi9
  obtain ⟨hi, hql⟩ := hi9
  refine srQ ?_
  refine zbn rfl rfl rfl rfl rfl rfl (fun h10 => ?_) (fun h10 => ?_)
  ·
   refine ntQ (tcQ rfl (zcq (sbQ (zac (reQ 1 rfl (hvQ rfl (riQ 2 rfl rfl rfl rfl (zab ((hr).lt.row))) ?_))))))
   refine hvQ rfl (zdl (us := [(n.ls.getD i lt0).iv, .int .i64 ((n.ls.getD i lt0).ma)]) rfl rfl rfl rfl (zab ((hr).lt.row)) (by omega) rfl (zek ltC 2 (fun _ => rfl) n.ls lt0 (show i < _ by omega) rfl)) (zef rfl (zbw (z := .agg #[.slice none 0 0, .int .i64 0]) rfl rfl) ?_)
   intro b11
   refine zar 1 rfl (zcb (cs' := #[(n.ls.getD i lt0).iv, .int .i64 ((n.ls.getD i lt0).ma)]) (i := 0) (off := 0) (us := [(n.ls.getD i lt0).iv, .int .i64 ((n.ls.getD i lt0).ma)]) rfl rfl rfl rfl rfl rfl rfl (zaf (hr.lt.at (d := lt0) (k := i) (by omega)).one (zaf rfl zbo)) rfl rfl rfl ?_)
   refine ntQ (zac ?_)
   rcases Bool.eq_false_or_eq_true (decide (4 < (((n.ls.getD i lt0).xs).length : Int))) with hb12 | hb12
   ·
    have hb12p : 4 < (((n.ls.getD i lt0).xs).length : Int) := of_decide_eq_true hb12
    refine zbi 24 [[], [0], [1], [2], [3], [4], [4], [4], [4], [4], [4], [4], [4], [4, 12], [13], [14], [14], [14], [14], [14], [14], [14], [14], [14, 22]] [45, 46, 47, 48, 49, 50, 51, 52, 53, 54, 55, 56, 57, 58, 59, 60, 61, 62, 63, 64, 65, 66, 67, 68] [.pointer (some ⟨b11, 0 + 0, none⟩), (n.ls.getD i lt0).iv, .int .i64 (((n.ls.getD i lt0).xs).length : Int), .bool true, .bool true, undef, undef, undef, undef, undef, undef, undef, undef, .bool true, .bool true, undef, undef, undef, undef, undef, undef, undef, undef, .bool true] (by kernel_rfl) rfl ?_ ?_
    ·
     exact ⟨iaQ rfl (zaa (k0 := 0) rfl rfl rfl) rfl, iaQ rfl (zaj rfl rfl rfl (zae 0 rfl rfl)) rfl, iaQ rfl (lnQ rfl rfl rfl (zab ((hr).lt.at (d := lt0) (k := i) (by omega)))) rfl, .inl ⟨rfl, zcw (zcc rfl rfl rfl rfl) hb12⟩, iaQ rfl (zah rfl) rfl, .inr ⟨rfl, rfl⟩, .inr ⟨rfl, rfl⟩, .inr ⟨rfl, rfl⟩, .inr ⟨rfl, rfl⟩, .inr ⟨rfl, rfl⟩, .inr ⟨rfl, rfl⟩, .inr ⟨rfl, rfl⟩, .inr ⟨rfl, rfl⟩, iaQ rfl (zah rfl) rfl, iaQ rfl (zah rfl) rfl, .inr ⟨rfl, rfl⟩, .inr ⟨rfl, rfl⟩, .inr ⟨rfl, rfl⟩, .inr ⟨rfl, rfl⟩, .inr ⟨rfl, rfl⟩, .inr ⟨rfl, rfl⟩, .inr ⟨rfl, rfl⟩, .inr ⟨rfl, rfl⟩, iaQ rfl (zah rfl) rfl, trivial⟩
    simp only [List.drop_succ_cons, List.drop_zero]
    refine ntQ (zan rfl (zba 1 rfl ?_))
    refine zaw (zak ?_)
    refine zfn ?_
    refine zak (zam ?_)
    exact zbf rfl rfl (congrArg _ (zdg (fun hp => by first | (exact zdu hp.sz (by assumption)) | (exact absurd hp.ou (by rw [← hnc]; assumption)) | (have h9 := hp.sq k (by omega); exact absurd h9.1 (by assumption)) | (have h9 := hp.sq k (by omega); rw [← hnc] at h9; exact absurd h9.2 (by assumption)) | (have h9 := hp.sq k (by omega); rcases h9.1.kind with ⟨a, b, c⟩ | ⟨a, b, c⟩ <;> omega) | (have h9 := hp.lt i (by omega); have h8 := h9.1.1; omega) | (have h9 := hp.lt i (by omega); exact absurd h9.1.2 (by assumption)) | (have h9 := hp.lt i (by omega); exact absurd h9.2 (by assumption)))).symm)
   have hb12p : ¬ (4 < (((n.ls.getD i lt0).xs).length : Int)) := of_decide_eq_false hb12
   rcases Bool.eq_false_or_eq_true (pB (BelowP ((n.ls.getD i lt0).xs) (n.fst + (i : Int)))) with hb13 | hb13
   ·
    have hb13p := zgi hb13
    rcases Bool.eq_false_or_eq_true (pB (TabP (((n.ls.getD i lt0).xs).length : Int) ((n.ls.getD i lt0).ma))) with hb14 | hb14
    ·
     have hb14p := zgi hb14
     refine zbi 24 [[], [0], [1], [2], [3], [4], [4, 5], [4], [4, 7], [4], [4, 8, 9], [4, 6, 10], [4, 11], [4, 12], [13], [14], [14, 15], [14, 16], [14], [14, 18], [14, 17, 19], [14, 20], [14, 21], [14, 22]] [45, 46, 47, 48, 49, 50, 51, 52, 53, 54, 55, 56, 57, 58, 59, 60, 61, 62, 63, 64, 65, 66, 67, 68] [.pointer (some ⟨b11, 0 + 0, none⟩), (n.ls.getD i lt0).iv, .int .i64 (((n.ls.getD i lt0).xs).length : Int), .bool false, .bool false, .pointer (some ⟨b11, 0 + 0, none⟩), (n.ls.getD i lt0).iv, .agg #[.int .i64 n.ins, n.sv, n.lv, n.ov], .int .i64 n.fst, .int .i64 (i : Int), .int .i64 (n.fst + (i : Int)), .bool true, .bool false, .bool false, .bool false, .pointer (some ⟨b11, 0 + 0, none⟩), (n.ls.getD i lt0).iv, .int .i64 (((n.ls.getD i lt0).xs).length : Int), .pointer (some ⟨b11, 0 + 1, none⟩), .int .i64 ((n.ls.getD i lt0).ma), .agg #[.int .i64 (((n.ls.getD i lt0).xs).length : Int), .int .i64 ((n.ls.getD i lt0).ma)], .bool true, .bool false, .bool false] (by kernel_rfl) rfl ?_ ?_
     ·
      exact ⟨iaQ rfl (zaa (k0 := 0) rfl rfl rfl) rfl, iaQ rfl (zaj rfl rfl rfl (zae 0 rfl rfl)) rfl, iaQ rfl (lnQ rfl rfl rfl (zab ((hr).lt.at (d := lt0) (k := i) (by omega)))) rfl, .inl ⟨rfl, zcw (zcc rfl rfl rfl rfl) hb12⟩, iaQ rfl (zah rfl) rfl, iaQ rfl (zaa (k0 := 0) rfl rfl rfl) rfl, iaQ rfl (zaj rfl rfl rfl (zae 0 rfl rfl)) rfl, iaQ rfl (zas (cs := [.int .i64 n.ins, n.sv, n.lv, n.ov]) rfl rfl rfl rfl rfl (zao 1 rfl 0 rfl)) rfl, .inl ⟨rfl, zap rfl rfl (fun w hm => zau (zej n w (hr.below hm.bel) hsz))⟩, iaQ rfl (zah rfl) rfl, iaQ rfl (vaQ rfl rfl rfl) rfl, .inl ⟨rfl, zfo (zap (by kernel_rfl) rfl (fun w hm => zau (zeu ((n.ls.getD i lt0).xs) (n.fst + (i : Int)) _ w ((zab ((hr).lt.at (d := lt0) (k := i) (by omega))) w hm) (by omega)))) hb13⟩, iaQ rfl (zah rfl) rfl, iaQ rfl (zah rfl) rfl, iaQ rfl (zah rfl) rfl, iaQ rfl (zaa (k0 := 0) rfl rfl rfl) rfl, iaQ rfl (zaj rfl rfl rfl (zae 0 rfl rfl)) rfl, iaQ rfl (lnQ rfl rfl rfl (zab ((hr).lt.at (d := lt0) (k := i) (by omega)))) rfl, iaQ rfl (zaa (k0 := 1) rfl rfl rfl) rfl, iaQ rfl (zaj rfl rfl rfl (zae 0 rfl rfl)) rfl, iaQ rfl (zdp (cs := #[.int .i64 (((n.ls.getD i lt0).xs).length : Int), .int .i64 ((n.ls.getD i lt0).ma)]) rfl rfl rfl) rfl, .inl ⟨rfl, zfo (zap (by kernel_rfl) rfl (fun w hm => zau (implTabOk_ans (((n.ls.getD i lt0).xs).length : Int) ((n.ls.getD i lt0).ma) w))) hb14⟩, iaQ rfl (zah rfl) rfl, iaQ rfl (zah rfl) rfl, trivial⟩
     simp only [List.drop_succ_cons, List.drop_zero]
     refine ntQ (fsQ rfl (zcv (zbg (hvQ rfl (vaQ rfl rfl rfl) (enQ 1 rfl ?_)))))
     exact zcm (i + 1) ⟨by omega, fun j hj => by by_cases e : j = i; (subst e; exact ⟨⟨by first | omega | exact LutP_len (by assumption), by assumption⟩, by assumption⟩); exact hql j (by omega)⟩ (by omega) (saQ rfl) (.cons _ (pfQ rfl))
    have hb14p := zex hb14
    refine zbi 24 [[], [0], [1], [2], [3], [4], [4, 5], [4], [4, 7], [4], [4, 8, 9], [4, 6, 10], [4, 11], [4, 12], [13], [14], [14, 15], [14, 16], [14], [14, 18], [14, 17, 19], [14, 20], [14, 21], [14, 22]] [45, 46, 47, 48, 49, 50, 51, 52, 53, 54, 55, 56, 57, 58, 59, 60, 61, 62, 63, 64, 65, 66, 67, 68] [.pointer (some ⟨b11, 0 + 0, none⟩), (n.ls.getD i lt0).iv, .int .i64 (((n.ls.getD i lt0).xs).length : Int), .bool false, .bool false, .pointer (some ⟨b11, 0 + 0, none⟩), (n.ls.getD i lt0).iv, .agg #[.int .i64 n.ins, n.sv, n.lv, n.ov], .int .i64 n.fst, .int .i64 (i : Int), .int .i64 (n.fst + (i : Int)), .bool true, .bool false, .bool false, .bool false, .pointer (some ⟨b11, 0 + 0, none⟩), (n.ls.getD i lt0).iv, .int .i64 (((n.ls.getD i lt0).xs).length : Int), .pointer (some ⟨b11, 0 + 1, none⟩), .int .i64 ((n.ls.getD i lt0).ma), .agg #[.int .i64 (((n.ls.getD i lt0).xs).length : Int), .int .i64 ((n.ls.getD i lt0).ma)], .bool false, .bool true, .bool true] (by kernel_rfl) rfl ?_ ?_
    ·
     exact ⟨iaQ rfl (zaa (k0 := 0) rfl rfl rfl) rfl, iaQ rfl (zaj rfl rfl rfl (zae 0 rfl rfl)) rfl, iaQ rfl (lnQ rfl rfl rfl (zab ((hr).lt.at (d := lt0) (k := i) (by omega)))) rfl, .inl ⟨rfl, zcw (zcc rfl rfl rfl rfl) hb12⟩, iaQ rfl (zah rfl) rfl, iaQ rfl (zaa (k0 := 0) rfl rfl rfl) rfl, iaQ rfl (zaj rfl rfl rfl (zae 0 rfl rfl)) rfl, iaQ rfl (zas (cs := [.int .i64 n.ins, n.sv, n.lv, n.ov]) rfl rfl rfl rfl rfl (zao 1 rfl 0 rfl)) rfl, .inl ⟨rfl, zap rfl rfl (fun w hm => zau (zej n w (hr.below hm.bel) hsz))⟩, iaQ rfl (zah rfl) rfl, iaQ rfl (vaQ rfl rfl rfl) rfl, .inl ⟨rfl, zfo (zap (by kernel_rfl) rfl (fun w hm => zau (zeu ((n.ls.getD i lt0).xs) (n.fst + (i : Int)) _ w ((zab ((hr).lt.at (d := lt0) (k := i) (by omega))) w hm) (by omega)))) hb13⟩, iaQ rfl (zah rfl) rfl, iaQ rfl (zah rfl) rfl, iaQ rfl (zah rfl) rfl, iaQ rfl (zaa (k0 := 0) rfl rfl rfl) rfl, iaQ rfl (zaj rfl rfl rfl (zae 0 rfl rfl)) rfl, iaQ rfl (lnQ rfl rfl rfl (zab ((hr).lt.at (d := lt0) (k := i) (by omega)))) rfl, iaQ rfl (zaa (k0 := 1) rfl rfl rfl) rfl, iaQ rfl (zaj rfl rfl rfl (zae 0 rfl rfl)) rfl, iaQ rfl (zdp (cs := #[.int .i64 (((n.ls.getD i lt0).xs).length : Int), .int .i64 ((n.ls.getD i lt0).ma)]) rfl rfl rfl) rfl, .inl ⟨rfl, zfo (zap (by kernel_rfl) rfl (fun w hm => zau (implTabOk_ans (((n.ls.getD i lt0).xs).length : Int) ((n.ls.getD i lt0).ma) w))) hb14⟩, iaQ rfl (zah rfl) rfl, iaQ rfl (zah rfl) rfl, trivial⟩
    simp only [List.drop_succ_cons, List.drop_zero]
    refine ntQ (zan rfl (zba 1 rfl ?_))
    refine zaw (zak ?_)
    refine zfn ?_
    refine zak (zam ?_)
    exact zbf rfl rfl (congrArg _ (zdg (fun hp => by first | (exact zdu hp.sz (by assumption)) | (exact absurd hp.ou (by rw [← hnc]; assumption)) | (have h9 := hp.sq k (by omega); exact absurd h9.1 (by assumption)) | (have h9 := hp.sq k (by omega); rw [← hnc] at h9; exact absurd h9.2 (by assumption)) | (have h9 := hp.sq k (by omega); rcases h9.1.kind with ⟨a, b, c⟩ | ⟨a, b, c⟩ <;> omega) | (have h9 := hp.lt i (by omega); have h8 := h9.1.1; omega) | (have h9 := hp.lt i (by omega); exact absurd h9.1.2 (by assumption)) | (have h9 := hp.lt i (by omega); exact absurd h9.2 (by assumption)))).symm)
   have hb13p := zex hb13
   refine zbi 24 [[], [0], [1], [2], [3], [4], [4, 5], [4], [4, 7], [4], [4, 8, 9], [4, 6, 10], [4, 11], [4, 12], [13], [14], [14], [14], [14], [14], [14], [14], [14], [14, 22]] [45, 46, 47, 48, 49, 50, 51, 52, 53, 54, 55, 56, 57, 58, 59, 60, 61, 62, 63, 64, 65, 66, 67, 68] [.pointer (some ⟨b11, 0 + 0, none⟩), (n.ls.getD i lt0).iv, .int .i64 (((n.ls.getD i lt0).xs).length : Int), .bool false, .bool false, .pointer (some ⟨b11, 0 + 0, none⟩), (n.ls.getD i lt0).iv, .agg #[.int .i64 n.ins, n.sv, n.lv, n.ov], .int .i64 n.fst, .int .i64 (i : Int), .int .i64 (n.fst + (i : Int)), .bool false, .bool true, .bool true, .bool true, undef, undef, undef, undef, undef, undef, undef, undef, .bool true] (by kernel_rfl) rfl ?_ ?_
   ·
    exact ⟨iaQ rfl (zaa (k0 := 0) rfl rfl rfl) rfl, iaQ rfl (zaj rfl rfl rfl (zae 0 rfl rfl)) rfl, iaQ rfl (lnQ rfl rfl rfl (zab ((hr).lt.at (d := lt0) (k := i) (by omega)))) rfl, .inl ⟨rfl, zcw (zcc rfl rfl rfl rfl) hb12⟩, iaQ rfl (zah rfl) rfl, iaQ rfl (zaa (k0 := 0) rfl rfl rfl) rfl, iaQ rfl (zaj rfl rfl rfl (zae 0 rfl rfl)) rfl, iaQ rfl (zas (cs := [.int .i64 n.ins, n.sv, n.lv, n.ov]) rfl rfl rfl rfl rfl (zao 1 rfl 0 rfl)) rfl, .inl ⟨rfl, zap rfl rfl (fun w hm => zau (zej n w (hr.below hm.bel) hsz))⟩, iaQ rfl (zah rfl) rfl, iaQ rfl (vaQ rfl rfl rfl) rfl, .inl ⟨rfl, zfo (zap (by kernel_rfl) rfl (fun w hm => zau (zeu ((n.ls.getD i lt0).xs) (n.fst + (i : Int)) _ w ((zab ((hr).lt.at (d := lt0) (k := i) (by omega))) w hm) (by omega)))) hb13⟩, iaQ rfl (zah rfl) rfl, iaQ rfl (zah rfl) rfl, iaQ rfl (zah rfl) rfl, .inr ⟨rfl, rfl⟩, .inr ⟨rfl, rfl⟩, .inr ⟨rfl, rfl⟩, .inr ⟨rfl, rfl⟩, .inr ⟨rfl, rfl⟩, .inr ⟨rfl, rfl⟩, .inr ⟨rfl, rfl⟩, .inr ⟨rfl, rfl⟩, iaQ rfl (zah rfl) rfl, trivial⟩
   simp only [List.drop_succ_cons, List.drop_zero]
   refine ntQ (zan rfl (zba 1 rfl ?_))
   refine zaw (zak ?_)
   refine zfn ?_
   refine zak (zam ?_)
   exact zbf rfl rfl (congrArg _ (zdg (fun hp => by first | (exact zdu hp.sz (by assumption)) | (exact absurd hp.ou (by rw [← hnc]; assumption)) | (have h9 := hp.sq k (by omega); exact absurd h9.1 (by assumption)) | (have h9 := hp.sq k (by omega); rw [← hnc] at h9; exact absurd h9.2 (by assumption)) | (have h9 := hp.sq k (by omega); rcases h9.1.kind with ⟨a, b, c⟩ | ⟨a, b, c⟩ <;> omega) | (have h9 := hp.lt i (by omega); have h8 := h9.1.1; omega) | (have h9 := hp.lt i (by omega); exact absurd h9.1.2 (by assumption)) | (have h9 := hp.lt i (by omega); exact absurd h9.2 (by assumption)))).symm)
  refine ntQ (fcQ rfl ?_)
  refine zbb (zds ?_)
  refine zai (zay (zba 1 rfl ?_))
  exact zaw (zbf rfl rfl (congrArg _ (zet ⟨hsz, by rw [← hnc]; assumption, fun q hq => hqs q (by omega), fun q hq => hql q (by omega)⟩).symm))
 have h3p := zex h3
 refine zbc 2 rfl (zan rfl (zba 1 rfl ?_))
 refine zaw (zam ?_)
 exact zbf rfl rfl (congrArg _ (zdg (fun hp => by first | (exact zdu hp.sz (by assumption)) | (exact absurd hp.ou (by rw [← hnc]; assumption)) | (have h9 := hp.sq k (by omega); exact absurd h9.1 (by assumption)) | (have h9 := hp.sq k (by omega); rw [← hnc] at h9; exact absurd h9.2 (by assumption)) | (have h9 := hp.sq k (by omega); rcases h9.1.kind with ⟨a, b, c⟩ | ⟨a, b, c⟩ <;> omega) | (have h9 := hp.lt i (by omega); have h8 := h9.1.1; omega) | (have h9 := hp.lt i (by omega); exact absurd h9.1.2 (by assumption)) | (have h9 := hp.lt i (by omega); exact absurd h9.2 (by assumption)))).symm)
set_option maxHeartbeats 4000000 in
set_option maxRecDepth 100000 in
theorem specLutNetOk_ans (n : Ln) (w : World) (hr : RdsLn w n) :
   Calls Try.prog 67 #[.agg #[.int .i64 n.ins, n.sv, n.lv, n.ov]] w (Ans w (.bool (pB (LnOk n)))) := by
 have hso := sml hr.ou
 have hss := hr.sq.small
 have hsl := hr.lt.small
 have hcnt : n.cnt = 1 + n.ins + n.ss.length + n.ls.length := rfl
 have hfst : n.fst = 1 + n.ins + n.ss.length := rfl
 refine zbh (N := 99) (args := [.agg #[.int .i64 n.ins, n.sv, n.lv, n.ov]]) Try.func67 rfl rfl (srQ ?_)
 refine zef rfl (zcx rfl rfl) ?_
 intro b1
 refine zbc 1 rfl (srQ (hvQ rfl (zas (cs := [.int .i64 n.ins, n.sv, n.lv, n.ov]) rfl rfl rfl rfl rfl (zao 0 rfl 0 rfl)) ?_))
 refine zdn rfl (zap rfl rfl (fun w hm => zau (specLutNodes_ans n w (hr.below hm.bel)))) (zbc 1 rfl (zac (zac (reQ 1 rfl ?_))))
 refine zcs rfl rfl rfl rfl rfl rfl (fun h2 => ?_) (fun h2 => ?_)
 ·
  refine zbc 7 rfl (zan rfl (zac (reQ 1 rfl (?_))))
  refine ntQ ?_
  refine zaw (zam ?_)
  exact zbf rfl rfl (congrArg _ (zdg (fun hp => by first | (exact zdu hp.sz (by assumption)) | (exact absurd hp.ou (by rw [← hnc]; assumption)) | (have h9 := hp.sq k (by omega); exact absurd h9.1 (by assumption)) | (have h9 := hp.sq k (by omega); rw [← hnc] at h9; exact absurd h9.2 (by assumption)) | (have h9 := hp.sq k (by omega); rcases h9.1.kind with ⟨a, b, c⟩ | ⟨a, b, c⟩ <;> omega) | (have h9 := hp.lt i (by omega); have h8 := h9.1.1; omega) | (have h9 := hp.lt i (by omega); exact absurd h9.1.2 (by assumption)) | (have h9 := hp.lt i (by omega); exact absurd h9.2 (by assumption)))).symm)
 refine zar 1 rfl ?_
 have hsz := lnN_sz (by assumption)
 have hnc := lnN_yes hsz
 obtain ⟨si, s2, s3, s4⟩ := id hsz
 refine hvQ rfl (zaa (k0 := 3) rfl rfl rfl) (hvQ rfl (zaj rfl rfl rfl (zae 0 rfl rfl)) (zar 1 rfl ?_))
 refine zdn rfl (zap rfl rfl (fun w hm => zau (zep n.os (lnN n) _ w ((zab ((hr).ou)) w hm) (by omega)))) (zbl (fun h3 => ?_) (fun h3 => ?_))
 ·
  have h3p := zgi h3
  refine zbc 2 rfl (zaq rfl (zcq (zac (zba 1 rfl ?_))))
  refine zax ?_
  refine lkQ1 (α := Nat) [0, 1, 2, 3, 18] rfl (fun k => [boxE b1 #[.int .i64 n.ins, n.sv, n.lv, n.ov] 28]) (fun k => [(4, .int .i64 (k : Int))]) (fun k => k ≤ n.ss.length ∧ ∀ i, i < k → SqOk (n.ss.getD i sq0) ∧ BelowP (n.ss.getD i sq0).xs n.cnt) (fun k => n.ss.length - k) 0 ⟨Nat.zero_le _, fun i hi => absurd hi (by omega)⟩ (saQ rfl) (pfQ rfl) ?_
  intro k hi4
  obtain ⟨hk, hqs⟩ := hi4
  refine zac (zac (reQ 1 rfl (hvQ rfl (zaa (k0 := 1) rfl rfl rfl) (hvQ rfl (zaj rfl rfl rfl (zae 0 rfl rfl)) (hvQ rfl (lnQ rfl rfl rfl (zab ((hr).sq.row))) ?_)))))
  refine zbn rfl rfl rfl rfl rfl rfl (fun h5 => ?_) (fun h5 => ?_)
  ·
   refine ntQ (zan rfl (zcq (sbQ (srQ (hvQ rfl (zaa (k0 := 1) rfl rfl rfl) (hvQ rfl (zaj rfl rfl rfl (zae 0 rfl rfl)) (zar 1 rfl (hvQ rfl (riQ 3 rfl rfl rfl rfl (zab ((hr).sq.row))) ?_))))))))
   refine hvQ rfl (zdl (us := [.int .i64 ((n.ss.getD k sq0).kd), .int .i64 ((n.ss.getD k sq0).it), (n.ss.getD k sq0).iv]) rfl rfl rfl rfl (zab ((hr).sq.row)) (by omega) rfl (zek sqC 3 (fun _ => rfl) n.ss sq0 (show k < _ by omega) rfl)) (zef rfl (zbw (z := .agg #[.int .i64 0, .int .i64 0, .slice none 0 0]) rfl rfl) ?_)
   intro b6
   refine zcb (cs' := #[.int .i64 ((n.ss.getD k sq0).kd), .int .i64 ((n.ss.getD k sq0).it), (n.ss.getD k sq0).iv]) (i := 0) (off := 0) (us := [.int .i64 ((n.ss.getD k sq0).kd), .int .i64 ((n.ss.getD k sq0).it), (n.ss.getD k sq0).iv]) rfl rfl rfl rfl rfl rfl rfl (zaf rfl (zaf rfl (zaf (hr.sq.at (d := sq0) (k := k) (by omega)).one zbo))) rfl rfl rfl (ntQ (srQ (hvQ rfl (zaa (k0 := 0) rfl rfl rfl) (hvQ rfl (zaj rfl rfl rfl (zae 0 rfl rfl)) ?_))))
   refine zcs rfl rfl rfl rfl rfl rfl (fun h7 => ?_) (fun h7 => ?_)
   ·
    refine zar 1 rfl (hvQ rfl (zaa (k0 := 1) rfl rfl rfl) (hvQ rfl (zaj rfl rfl rfl (zae 0 rfl rfl)) ?_))
    refine zdn rfl (zap rfl rfl (fun w hm => zau (zel ((n.ss.getD k sq0).it) 0 1 w))) (zbl (fun h8 => ?_) (fun h8 => ?_))
    ·
     obtain ⟨h8a, h8b⟩ := (zdf _ _ _).1 h8
     refine zar 2 rfl (hvQ rfl (zaa (k0 := 2) rfl rfl rfl) (hvQ rfl (zaj rfl rfl rfl (zae 0 rfl rfl)) (hvQ rfl (lnQ rfl rfl rfl (zab ((hr).sq.at (d := sq0) (k := k) (by omega)))) ?_)))
     refine zcs rfl rfl rfl rfl rfl rfl (fun h9 => ?_) (fun h9 => ?_)
     ·
      refine zar 19 rfl (hvQ rfl (zaa (k0 := 2) rfl rfl rfl) (hvQ rfl (zaj rfl rfl rfl (zae 0 rfl rfl)) (zar 1 rfl ?_)))
      refine zdn rfl (zap rfl rfl (fun w hm => zau (zep ((n.ss.getD k sq0).xs) (lnN n) _ w ((zab ((hr).sq.at (d := sq0) (k := k) (by omega))) w hm) (by omega)))) (zbl (fun h10 => ?_) (fun h10 => ?_))
      ·
       have h10p := zgi h10
       refine zbc 2 rfl (fsQ rfl (zcv (reQ 1 rfl (hvQ rfl (vaQ rfl rfl rfl) (enQ 1 rfl ?_)))))
       exact zcm (k + 1) ⟨by omega, fun i hi => by by_cases e : i = k; (subst e; exact ⟨by first | assumption | exact ⟨by omega⟩, by rw [← hnc]; assumption⟩); exact hqs i (by omega)⟩ (by omega) (saQ rfl) (.cons _ (pfQ rfl))
      have h10p := zex h10
      refine zbc 2 rfl (zan rfl (zba 1 rfl ?_))
      refine zaw (zak ?_)
      refine zfn ?_
      refine zak (zam ?_)
      exact zbf rfl rfl (congrArg _ (zdg (fun hp => by first | (exact zdu hp.sz (by assumption)) | (exact absurd hp.ou (by rw [← hnc]; assumption)) | (have h9 := hp.sq k (by omega); exact absurd h9.1 (by assumption)) | (have h9 := hp.sq k (by omega); rw [← hnc] at h9; exact absurd h9.2 (by assumption)) | (have h9 := hp.sq k (by omega); rcases h9.1.kind with ⟨a, b, c⟩ | ⟨a, b, c⟩ <;> omega) | (have h9 := hp.lt i (by omega); have h8 := h9.1.1; omega) | (have h9 := hp.lt i (by omega); exact absurd h9.1.2 (by assumption)) | (have h9 := hp.lt i (by omega); exact absurd h9.2 (by assumption)))).symm)
     refine zar 2 rfl (hvQ rfl (zaa (k0 := 0) rfl rfl rfl) (hvQ rfl (zaj rfl rfl rfl (zae 0 rfl rfl)) ?_))
     refine zcs rfl rfl rfl rfl rfl rfl (fun h11 => ?_) (fun h11 => ?_)
     ·
      refine zar 1 rfl (hvQ rfl (zaa (k0 := 1) rfl rfl rfl) (hvQ rfl (zaj rfl rfl rfl (zae 0 rfl rfl)) ?_))
      refine zdn rfl (zap rfl rfl (fun w hm => zau (zel ((n.ss.getD k sq0).it) 0 31 w))) (zbl (fun h12 => ?_) (fun h12 => ?_))
      ·
       obtain ⟨h12a, h12b⟩ := (zdf _ _ _).1 h12
       refine zar 2 rfl (hvQ rfl (zaa (k0 := 2) rfl rfl rfl) (hvQ rfl (zaj rfl rfl rfl (zae 0 rfl rfl)) (hvQ rfl (lnQ rfl rfl rfl (zab ((hr).sq.at (d := sq0) (k := k) (by omega)))) ?_)))
       refine zcs rfl rfl rfl rfl rfl rfl (fun h13 => ?_) (fun h13 => ?_)
       ·
        refine zar 4 rfl (hvQ rfl (zaa (k0 := 2) rfl rfl rfl) (hvQ rfl (zaj rfl rfl rfl (zae 0 rfl rfl)) (zar 1 rfl ?_)))
        refine zdn rfl (zap rfl rfl (fun w hm => zau (zep ((n.ss.getD k sq0).xs) (lnN n) _ w ((zab ((hr).sq.at (d := sq0) (k := k) (by omega))) w hm) (by omega)))) (zbl (fun h14 => ?_) (fun h14 => ?_))
        ·
         have h14p := zgi h14
         refine zbc 2 rfl (fsQ rfl (zcv (reQ 1 rfl (hvQ rfl (vaQ rfl rfl rfl) (enQ 1 rfl ?_)))))
         exact zcm (k + 1) ⟨by omega, fun i hi => by by_cases e : i = k; (subst e; exact ⟨by first | assumption | exact ⟨by omega⟩, by rw [← hnc]; assumption⟩); exact hqs i (by omega)⟩ (by omega) (saQ rfl) (.cons _ (pfQ rfl))
        have h14p := zex h14
        refine zbc 2 rfl (zan rfl (zba 1 rfl ?_))
        refine zaw (zak ?_)
        refine zfn ?_
        refine zak (zam ?_)
        exact zbf rfl rfl (congrArg _ (zdg (fun hp => by first | (exact zdu hp.sz (by assumption)) | (exact absurd hp.ou (by rw [← hnc]; assumption)) | (have h9 := hp.sq k (by omega); exact absurd h9.1 (by assumption)) | (have h9 := hp.sq k (by omega); rw [← hnc] at h9; exact absurd h9.2 (by assumption)) | (have h9 := hp.sq k (by omega); rcases h9.1.kind with ⟨a, b, c⟩ | ⟨a, b, c⟩ <;> omega) | (have h9 := hp.lt i (by omega); have h8 := h9.1.1; omega) | (have h9 := hp.lt i (by omega); exact absurd h9.1.2 (by assumption)) | (have h9 := hp.lt i (by omega); exact absurd h9.2 (by assumption)))).symm)
       refine zbc 10 rfl (zan rfl (zac (reQ 1 rfl (?_))))
       refine ntQ ?_
       refine zaw (zak ?_)
       refine zfn ?_
       refine zak (zam ?_)
       exact zbf rfl rfl (congrArg _ (zdg (fun hp => by first | (exact zdu hp.sz (by assumption)) | (exact absurd hp.ou (by rw [← hnc]; assumption)) | (have h9 := hp.sq k (by omega); exact absurd h9.1 (by assumption)) | (have h9 := hp.sq k (by omega); rw [← hnc] at h9; exact absurd h9.2 (by assumption)) | (have h9 := hp.sq k (by omega); rcases h9.1.kind with ⟨a, b, c⟩ | ⟨a, b, c⟩ <;> omega) | (have h9 := hp.lt i (by omega); have h8 := h9.1.1; omega) | (have h9 := hp.lt i (by omega); exact absurd h9.1.2 (by assumption)) | (have h9 := hp.lt i (by omega); exact absurd h9.2 (by assumption)))).symm)
      have h12a := zdv h12
      refine zbc 16 rfl ?_
      refine zan rfl (zba 1 rfl ?_)
      refine zaw (zak ?_)
      refine zfn ?_
      refine zak (zam ?_)
      exact zbf rfl rfl (congrArg _ (zdg (fun hp => by first | (exact zdu hp.sz (by assumption)) | (exact absurd hp.ou (by rw [← hnc]; assumption)) | (have h9 := hp.sq k (by omega); exact absurd h9.1 (by assumption)) | (have h9 := hp.sq k (by omega); rw [← hnc] at h9; exact absurd h9.2 (by assumption)) | (have h9 := hp.sq k (by omega); rcases h9.1.kind with ⟨a, b, c⟩ | ⟨a, b, c⟩ <;> omega) | (have h9 := hp.lt i (by omega); have h8 := h9.1.1; omega) | (have h9 := hp.lt i (by omega); exact absurd h9.1.2 (by assumption)) | (have h9 := hp.lt i (by omega); exact absurd h9.2 (by assumption)))).symm)
     refine zbc 20 rfl (zan rfl (zba 1 rfl ?_))
     refine zaw (zak ?_)
     refine zfn ?_
     refine zak (zam ?_)
     exact zbf rfl rfl (congrArg _ (zdg (fun hp => by first | (exact zdu hp.sz (by assumption)) | (exact absurd hp.ou (by rw [← hnc]; assumption)) | (have h9 := hp.sq k (by omega); exact absurd h9.1 (by assumption)) | (have h9 := hp.sq k (by omega); rw [← hnc] at h9; exact absurd h9.2 (by assumption)) | (have h9 := hp.sq k (by omega); rcases h9.1.kind with ⟨a, b, c⟩ | ⟨a, b, c⟩ <;> omega) | (have h9 := hp.lt i (by omega); have h8 := h9.1.1; omega) | (have h9 := hp.lt i (by omega); exact absurd h9.1.2 (by assumption)) | (have h9 := hp.lt i (by omega); exact absurd h9.2 (by assumption)))).symm)
    have h8a := zdv h8
    refine zar 8 rfl (hvQ rfl (zaa (k0 := 0) rfl rfl rfl) (hvQ rfl (zaj rfl rfl rfl (zae 0 rfl rfl)) ?_))
    refine zcs rfl rfl rfl rfl rfl rfl (fun h15 => ?_) (fun h15 => ?_)
    ·
     refine zar 1 rfl (hvQ rfl (zaa (k0 := 1) rfl rfl rfl) (hvQ rfl (zaj rfl rfl rfl (zae 0 rfl rfl)) ?_))
     refine zdn rfl (zap rfl rfl (fun w hm => zau (zel ((n.ss.getD k sq0).it) 0 31 w))) (zbl (fun h16 => ?_) (fun h16 => ?_))
     ·
      obtain ⟨h16a, h16b⟩ := (zdf _ _ _).1 h16
      refine zar 2 rfl (hvQ rfl (zaa (k0 := 2) rfl rfl rfl) (hvQ rfl (zaj rfl rfl rfl (zae 0 rfl rfl)) (hvQ rfl (lnQ rfl rfl rfl (zab ((hr).sq.at (d := sq0) (k := k) (by omega)))) ?_)))
      refine zcs rfl rfl rfl rfl rfl rfl (fun h17 => ?_) (fun h17 => ?_)
      ·
       refine zar 4 rfl (hvQ rfl (zaa (k0 := 2) rfl rfl rfl) (hvQ rfl (zaj rfl rfl rfl (zae 0 rfl rfl)) (zar 1 rfl ?_)))
       refine zdn rfl (zap rfl rfl (fun w hm => zau (zep ((n.ss.getD k sq0).xs) (lnN n) _ w ((zab ((hr).sq.at (d := sq0) (k := k) (by omega))) w hm) (by omega)))) (zbl (fun h18 => ?_) (fun h18 => ?_))
       ·
        have h18p := zgi h18
        refine zbc 2 rfl (fsQ rfl (zcv (reQ 1 rfl (hvQ rfl (vaQ rfl rfl rfl) (enQ 1 rfl ?_)))))
        exact zcm (k + 1) ⟨by omega, fun i hi => by by_cases e : i = k; (subst e; exact ⟨by first | assumption | exact ⟨by omega⟩, by rw [← hnc]; assumption⟩); exact hqs i (by omega)⟩ (by omega) (saQ rfl) (.cons _ (pfQ rfl))
       have h18p := zex h18
       refine zbc 2 rfl (zan rfl (zba 1 rfl ?_))
       refine zaw (zak ?_)
       refine zfn ?_
       refine zak (zam ?_)
       exact zbf rfl rfl (congrArg _ (zdg (fun hp => by first | (exact zdu hp.sz (by assumption)) | (exact absurd hp.ou (by rw [← hnc]; assumption)) | (have h9 := hp.sq k (by omega); exact absurd h9.1 (by assumption)) | (have h9 := hp.sq k (by omega); rw [← hnc] at h9; exact absurd h9.2 (by assumption)) | (have h9 := hp.sq k (by omega); rcases h9.1.kind with ⟨a, b, c⟩ | ⟨a, b, c⟩ <;> omega) | (have h9 := hp.lt i (by omega); have h8 := h9.1.1; omega) | (have h9 := hp.lt i (by omega); exact absurd h9.1.2 (by assumption)) | (have h9 := hp.lt i (by omega); exact absurd h9.2 (by assumption)))).symm)
      refine zbc 10 rfl (zan rfl (zac (reQ 1 rfl (?_))))
      refine ntQ ?_
      refine zaw (zak ?_)
      refine zfn ?_
      refine zak (zam ?_)
      exact zbf rfl rfl (congrArg _ (zdg (fun hp => by first | (exact zdu hp.sz (by assumption)) | (exact absurd hp.ou (by rw [← hnc]; assumption)) | (have h9 := hp.sq k (by omega); exact absurd h9.1 (by assumption)) | (have h9 := hp.sq k (by omega); rw [← hnc] at h9; exact absurd h9.2 (by assumption)) | (have h9 := hp.sq k (by omega); rcases h9.1.kind with ⟨a, b, c⟩ | ⟨a, b, c⟩ <;> omega) | (have h9 := hp.lt i (by omega); have h8 := h9.1.1; omega) | (have h9 := hp.lt i (by omega); exact absurd h9.1.2 (by assumption)) | (have h9 := hp.lt i (by omega); exact absurd h9.2 (by assumption)))).symm)
     have h16a := zdv h16
     refine zbc 16 rfl ?_
     refine zan rfl (zba 1 rfl ?_)
     refine zaw (zak ?_)
     refine zfn ?_
     refine zak (zam ?_)
     exact zbf rfl rfl (congrArg _ (zdg (fun hp => by first | (exact zdu hp.sz (by assumption)) | (exact absurd hp.ou (by rw [← hnc]; assumption)) | (have h9 := hp.sq k (by omega); exact absurd h9.1 (by assumption)) | (have h9 := hp.sq k (by omega); rw [← hnc] at h9; exact absurd h9.2 (by assumption)) | (have h9 := hp.sq k (by omega); rcases h9.1.kind with ⟨a, b, c⟩ | ⟨a, b, c⟩ <;> omega) | (have h9 := hp.lt i (by omega); have h8 := h9.1.1; omega) | (have h9 := hp.lt i (by omega); exact absurd h9.1.2 (by assumption)) | (have h9 := hp.lt i (by omega); exact absurd h9.2 (by assumption)))).symm)
    refine zbc 20 rfl (zan rfl (zba 1 rfl ?_))
    refine zaw (zak ?_)
    refine zfn ?_
    refine zak (zam ?_)
    exact zbf rfl rfl (congrArg _ (zdg (fun hp => by first | (exact zdu hp.sz (by assumption)) | (exact absurd hp.ou (by rw [← hnc]; assumption)) | (have h9 := hp.sq k (by omega); exact absurd h9.1 (by assumption)) | (have h9 := hp.sq k (by omega); rw [← hnc] at h9; exact absurd h9.2 (by assumption)) | (have h9 := hp.sq k (by omega); rcases h9.1.kind with ⟨a, b, c⟩ | ⟨a, b, c⟩ <;> omega) | (have h9 := hp.lt i (by omega); have h8 := h9.1.1; omega) | (have h9 := hp.lt i (by omega); exact absurd h9.1.2 (by assumption)) | (have h9 := hp.lt i (by omega); exact absurd h9.2 (by assumption)))).symm)
   refine zar 12 rfl (hvQ rfl (zaa (k0 := 0) rfl rfl rfl) (hvQ rfl (zaj rfl rfl rfl (zae 0 rfl rfl)) ?_))
   refine zcs rfl rfl rfl rfl rfl rfl (fun h19 => ?_) (fun h19 => ?_)
   ·
    refine zar 1 rfl (hvQ rfl (zaa (k0 := 1) rfl rfl rfl) (hvQ rfl (zaj rfl rfl rfl (zae 0 rfl rfl)) ?_))
    refine zdn rfl (zap rfl rfl (fun w hm => zau (zel ((n.ss.getD k sq0).it) 0 31 w))) (zbl (fun h20 => ?_) (fun h20 => ?_))
    ·
     obtain ⟨h20a, h20b⟩ := (zdf _ _ _).1 h20
     refine zar 2 rfl (hvQ rfl (zaa (k0 := 2) rfl rfl rfl) (hvQ rfl (zaj rfl rfl rfl (zae 0 rfl rfl)) (hvQ rfl (lnQ rfl rfl rfl (zab ((hr).sq.at (d := sq0) (k := k) (by omega)))) ?_)))
     refine zcs rfl rfl rfl rfl rfl rfl (fun h21 => ?_) (fun h21 => ?_)
     ·
      refine zar 4 rfl (hvQ rfl (zaa (k0 := 2) rfl rfl rfl) (hvQ rfl (zaj rfl rfl rfl (zae 0 rfl rfl)) (zar 1 rfl ?_)))
      refine zdn rfl (zap rfl rfl (fun w hm => zau (zep ((n.ss.getD k sq0).xs) (lnN n) _ w ((zab ((hr).sq.at (d := sq0) (k := k) (by omega))) w hm) (by omega)))) (zbl (fun h22 => ?_) (fun h22 => ?_))
      ·
       have h22p := zgi h22
       refine zbc 2 rfl (fsQ rfl (zcv (reQ 1 rfl (hvQ rfl (vaQ rfl rfl rfl) (enQ 1 rfl ?_)))))
       exact zcm (k + 1) ⟨by omega, fun i hi => by by_cases e : i = k; (subst e; exact ⟨by first | assumption | exact ⟨by omega⟩, by rw [← hnc]; assumption⟩); exact hqs i (by omega)⟩ (by omega) (saQ rfl) (.cons _ (pfQ rfl))
      have h22p := zex h22
      refine zbc 2 rfl (zan rfl (zba 1 rfl ?_))
      refine zaw (zak ?_)
      refine zfn ?_
      refine zak (zam ?_)
      exact zbf rfl rfl (congrArg _ (zdg (fun hp => by first | (exact zdu hp.sz (by assumption)) | (exact absurd hp.ou (by rw [← hnc]; assumption)) | (have h9 := hp.sq k (by omega); exact absurd h9.1 (by assumption)) | (have h9 := hp.sq k (by omega); rw [← hnc] at h9; exact absurd h9.2 (by assumption)) | (have h9 := hp.sq k (by omega); rcases h9.1.kind with ⟨a, b, c⟩ | ⟨a, b, c⟩ <;> omega) | (have h9 := hp.lt i (by omega); have h8 := h9.1.1; omega) | (have h9 := hp.lt i (by omega); exact absurd h9.1.2 (by assumption)) | (have h9 := hp.lt i (by omega); exact absurd h9.2 (by assumption)))).symm)
     refine zbc 10 rfl (zan rfl (zac (reQ 1 rfl (?_))))
     refine ntQ ?_
     refine zaw (zak ?_)
     refine zfn ?_
     refine zak (zam ?_)
     exact zbf rfl rfl (congrArg _ (zdg (fun hp => by first | (exact zdu hp.sz (by assumption)) | (exact absurd hp.ou (by rw [← hnc]; assumption)) | (have h9 := hp.sq k (by omega); exact absurd h9.1 (by assumption)) | (have h9 := hp.sq k (by omega); rw [← hnc] at h9; exact absurd h9.2 (by assumption)) | (have h9 := hp.sq k (by omega); rcases h9.1.kind with ⟨a, b, c⟩ | ⟨a, b, c⟩ <;> omega) | (have h9 := hp.lt i (by omega); have h8 := h9.1.1; omega) | (have h9 := hp.lt i (by omega); exact absurd h9.1.2 (by assumption)) | (have h9 := hp.lt i (by omega); exact absurd h9.2 (by assumption)))).symm)
    have h20a := zdv h20
    refine zbc 16 rfl ?_
    refine zan rfl (zba 1 rfl ?_)
    refine zaw (zak ?_)
    refine zfn ?_
    refine zak (zam ?_)
    exact zbf rfl rfl (congrArg _ (zdg (fun hp => by first | (exact zdu hp.sz (by assumption)) | (exact absurd hp.ou (by rw [← hnc]; assumption)) | (have h9 := hp.sq k (by omega); exact absurd h9.1 (by assumption)) | (have h9 := hp.sq k (by omega); rw [← hnc] at h9; exact absurd h9.2 (by assumption)) | (have h9 := hp.sq k (by omega); rcases h9.1.kind with ⟨a, b, c⟩ | ⟨a, b, c⟩ <;> omega) | (have h9 := hp.lt i (by omega); have h8 := h9.1.1; omega) | (have h9 := hp.lt i (by omega); exact absurd h9.1.2 (by assumption)) | (have h9 := hp.lt i (by omega); exact absurd h9.2 (by assumption)))).symm)
   refine zbc 20 rfl (zan rfl (zba 1 rfl ?_))
   refine zaw (zak ?_)
   refine zfn ?_
   refine zak (zam ?_)
   exact zbf rfl rfl (congrArg _ (zdg (fun hp => by first | (exact zdu hp.sz (by assumption)) | (exact absurd hp.ou (by rw [← hnc]; assumption)) | (have h9 := hp.sq k (by omega); exact absurd h9.1 (by assumption)) | (have h9 := hp.sq k (by omega); rw [← hnc] at h9; exact absurd h9.2 (by assumption)) | (have h9 := hp.sq k (by omega); rcases h9.1.kind with ⟨a, b, c⟩ | ⟨a, b, c⟩ <;> omega) | (have h9 := hp.lt i (by omega); have h8 := h9.1.1; omega) | (have h9 := hp.lt i (by omega); exact absurd h9.1.2 (by assumption)) | (have h9 := hp.lt i (by omega); exact absurd h9.2 (by assumption)))).symm)
  refine ntQ (zaq rfl ?_)
  refine zbb (zds ?_)
  refine zai (zay (zac (zba 1 rfl (zax ?_))))
  refine lkQ1 (α := Nat) [0, 1, 2, 3, 18, 23] rfl (fun i => [boxE b1 #[.int .i64 n.ins, n.sv, n.lv, n.ov] 28]) (fun i => [(6, .int .i64 (i : Int))]) (fun i => i ≤ n.ls.length ∧ ∀ j, j < i → LutP (n.fst + j) (n.ls.getD j lt0)) (fun i => n.ls.length - i) 0 ⟨Nat.zero_le _, fun i hi => absurd hi (by omega)⟩ (saQ rfl) (pfQ rfl) ?_
  intro i hi23
  obtain ⟨hi, hql⟩ := hi23
  refine zac (zac (reQ 1 rfl (hvQ rfl (zaa (k0 := 2) rfl rfl rfl) (hvQ rfl (zaj rfl rfl rfl (zae 0 rfl rfl)) (hvQ rfl (lnQ rfl rfl rfl (zab ((hr).lt.row))) ?_)))))
  refine zbn rfl rfl rfl rfl rfl rfl (fun h24 => ?_) (fun h24 => ?_)
  ·
   refine ntQ (zan rfl (zcq (sbQ (srQ (hvQ rfl (zaa (k0 := 2) rfl rfl rfl) (hvQ rfl (zaj rfl rfl rfl (zae 0 rfl rfl)) (zar 1 rfl (hvQ rfl (riQ 2 rfl rfl rfl rfl (zab ((hr).lt.row))) ?_))))))))
   refine hvQ rfl (zdl (us := [(n.ls.getD i lt0).iv, .int .i64 ((n.ls.getD i lt0).ma)]) rfl rfl rfl rfl (zab ((hr).lt.row)) (by omega) rfl (zek ltC 2 (fun _ => rfl) n.ls lt0 (show i < _ by omega) rfl)) (zef rfl (zbw (z := .agg #[.slice none 0 0, .int .i64 0]) rfl rfl) ?_)
   intro b25
   refine zcb (cs' := #[(n.ls.getD i lt0).iv, .int .i64 ((n.ls.getD i lt0).ma)]) (i := 0) (off := 0) (us := [(n.ls.getD i lt0).iv, .int .i64 ((n.ls.getD i lt0).ma)]) rfl rfl rfl rfl rfl rfl rfl (zaf (hr.lt.at (d := lt0) (k := i) (by omega)).one (zaf rfl zbo)) rfl rfl rfl (ntQ (zac ?_))
   rcases Bool.eq_false_or_eq_true (pB (TabP (((n.ls.getD i lt0).xs).length : Int) ((n.ls.getD i lt0).ma))) with hb26 | hb26
   ·
    have hb26p := zgi hb26
    rcases Bool.eq_false_or_eq_true (pB (BelowP ((n.ls.getD i lt0).xs) (n.fst + (i : Int)))) with hb27 | hb27
    ·
     have hb27p := zgi hb27
     refine zbi 18 [[], [0], [1], [], [3], [2, 4], [5], [6], [7], [8], [8, 9], [8], [8, 11], [8], [8, 12, 13], [8, 10, 14], [8, 15], [8, 16]] [81, 82, 83, 84, 85, 86, 87, 88, 89, 90, 91, 92, 93, 94, 95, 96, 97, 98] [.pointer (some ⟨b25, 0 + 0, none⟩), (n.ls.getD i lt0).iv, .int .i64 (((n.ls.getD i lt0).xs).length : Int), .pointer (some ⟨b25, 0 + 1, none⟩), .int .i64 ((n.ls.getD i lt0).ma), .agg #[.int .i64 (((n.ls.getD i lt0).xs).length : Int), .int .i64 ((n.ls.getD i lt0).ma)], .bool true, .bool false, .bool false, .pointer (some ⟨b25, 0 + 0, none⟩), (n.ls.getD i lt0).iv, .agg #[.int .i64 n.ins, n.sv, n.lv, n.ov], .int .i64 n.fst, .int .i64 (i : Int), .int .i64 (n.fst + (i : Int)), .bool true, .bool false, .bool false] (by kernel_rfl) rfl ?_ ?_
     ·
      exact ⟨iaQ rfl (zaa (k0 := 0) rfl rfl rfl) rfl, iaQ rfl (zaj rfl rfl rfl (zae 0 rfl rfl)) rfl, iaQ rfl (lnQ rfl rfl rfl (zab ((hr).lt.at (d := lt0) (k := i) (by omega)))) rfl, iaQ rfl (zaa (k0 := 1) rfl rfl rfl) rfl, iaQ rfl (zaj rfl rfl rfl (zae 0 rfl rfl)) rfl, iaQ rfl (zdp (cs := #[.int .i64 (((n.ls.getD i lt0).xs).length : Int), .int .i64 ((n.ls.getD i lt0).ma)]) rfl rfl rfl) rfl, .inl ⟨rfl, zfo (zap (by kernel_rfl) rfl (fun w hm => zau (zgo (((n.ls.getD i lt0).xs).length : Int) ((n.ls.getD i lt0).ma) w))) hb26⟩, iaQ rfl (zah rfl) rfl, iaQ rfl (zah rfl) rfl, iaQ rfl (zaa (k0 := 0) rfl rfl rfl) rfl, iaQ rfl (zaj rfl rfl rfl (zae 0 rfl rfl)) rfl, iaQ rfl (zas (cs := [.int .i64 n.ins, n.sv, n.lv, n.ov]) rfl rfl rfl rfl rfl (zao 1 rfl 0 rfl)) rfl, .inl ⟨rfl, zap rfl rfl (fun w hm => zau (zfi n w (hr.below hm.bel) hsz))⟩, iaQ rfl (zah rfl) rfl, iaQ rfl (vaQ rfl rfl rfl) rfl, .inl ⟨rfl, zfo (zap (by kernel_rfl) rfl (fun w hm => zau (zep ((n.ls.getD i lt0).xs) (n.fst + (i : Int)) _ w ((zab ((hr).lt.at (d := lt0) (k := i) (by omega))) w hm) (by omega)))) hb27⟩, iaQ rfl (zah rfl) rfl, iaQ rfl (zah rfl) rfl, trivial⟩
     simp only [List.drop_succ_cons, List.drop_zero]
     refine ntQ (fsQ rfl (zcv (reQ 1 rfl (hvQ rfl (vaQ rfl rfl rfl) (enQ 1 rfl ?_)))))
     exact zcm (i + 1) ⟨by omega, fun j hj => by by_cases e : j = i; (subst e; exact ⟨⟨by first | omega | exact LutP_len (by assumption), by assumption⟩, by assumption⟩); exact hql j (by omega)⟩ (by omega) (saQ rfl) (.cons _ (pfQ rfl))
    have hb27p := zex hb27
    refine zbi 18 [[], [0], [1], [], [3], [2, 4], [5], [6], [7], [8], [8, 9], [8], [8, 11], [8], [8, 12, 13], [8, 10, 14], [8, 15], [8, 16]] [81, 82, 83, 84, 85, 86, 87, 88, 89, 90, 91, 92, 93, 94, 95, 96, 97, 98] [.pointer (some ⟨b25, 0 + 0, none⟩), (n.ls.getD i lt0).iv, .int .i64 (((n.ls.getD i lt0).xs).length : Int), .pointer (some ⟨b25, 0 + 1, none⟩), .int .i64 ((n.ls.getD i lt0).ma), .agg #[.int .i64 (((n.ls.getD i lt0).xs).length : Int), .int .i64 ((n.ls.getD i lt0).ma)], .bool true, .bool false, .bool false, .pointer (some ⟨b25, 0 + 0, none⟩), (n.ls.getD i lt0).iv, .agg #[.int .i64 n.ins, n.sv, n.lv, n.ov], .int .i64 n.fst, .int .i64 (i : Int), .int .i64 (n.fst + (i : Int)), .bool false, .bool true, .bool true] (by kernel_rfl) rfl ?_ ?_
    ·
     exact ⟨iaQ rfl (zaa (k0 := 0) rfl rfl rfl) rfl, iaQ rfl (zaj rfl rfl rfl (zae 0 rfl rfl)) rfl, iaQ rfl (lnQ rfl rfl rfl (zab ((hr).lt.at (d := lt0) (k := i) (by omega)))) rfl, iaQ rfl (zaa (k0 := 1) rfl rfl rfl) rfl, iaQ rfl (zaj rfl rfl rfl (zae 0 rfl rfl)) rfl, iaQ rfl (zdp (cs := #[.int .i64 (((n.ls.getD i lt0).xs).length : Int), .int .i64 ((n.ls.getD i lt0).ma)]) rfl rfl rfl) rfl, .inl ⟨rfl, zfo (zap (by kernel_rfl) rfl (fun w hm => zau (zgo (((n.ls.getD i lt0).xs).length : Int) ((n.ls.getD i lt0).ma) w))) hb26⟩, iaQ rfl (zah rfl) rfl, iaQ rfl (zah rfl) rfl, iaQ rfl (zaa (k0 := 0) rfl rfl rfl) rfl, iaQ rfl (zaj rfl rfl rfl (zae 0 rfl rfl)) rfl, iaQ rfl (zas (cs := [.int .i64 n.ins, n.sv, n.lv, n.ov]) rfl rfl rfl rfl rfl (zao 1 rfl 0 rfl)) rfl, .inl ⟨rfl, zap rfl rfl (fun w hm => zau (zfi n w (hr.below hm.bel) hsz))⟩, iaQ rfl (zah rfl) rfl, iaQ rfl (vaQ rfl rfl rfl) rfl, .inl ⟨rfl, zfo (zap (by kernel_rfl) rfl (fun w hm => zau (zep ((n.ls.getD i lt0).xs) (n.fst + (i : Int)) _ w ((zab ((hr).lt.at (d := lt0) (k := i) (by omega))) w hm) (by omega)))) hb27⟩, iaQ rfl (zah rfl) rfl, iaQ rfl (zah rfl) rfl, trivial⟩
    simp only [List.drop_succ_cons, List.drop_zero]
    refine ntQ (zan rfl (zba 1 rfl ?_))
    refine zaw (zak ?_)
    refine zfn ?_
    refine zak (zam ?_)
    exact zbf rfl rfl (congrArg _ (zdg (fun hp => by first | (exact zdu hp.sz (by assumption)) | (exact absurd hp.ou (by rw [← hnc]; assumption)) | (have h9 := hp.sq k (by omega); exact absurd h9.1 (by assumption)) | (have h9 := hp.sq k (by omega); rw [← hnc] at h9; exact absurd h9.2 (by assumption)) | (have h9 := hp.sq k (by omega); rcases h9.1.kind with ⟨a, b, c⟩ | ⟨a, b, c⟩ <;> omega) | (have h9 := hp.lt i (by omega); have h8 := h9.1.1; omega) | (have h9 := hp.lt i (by omega); exact absurd h9.1.2 (by assumption)) | (have h9 := hp.lt i (by omega); exact absurd h9.2 (by assumption)))).symm)
   have hb26p := zex hb26
   refine zbi 18 [[], [0], [1], [], [3], [2, 4], [5], [6], [7], [8], [8], [8], [8], [8], [8], [8], [8], [8, 16]] [81, 82, 83, 84, 85, 86, 87, 88, 89, 90, 91, 92, 93, 94, 95, 96, 97, 98] [.pointer (some ⟨b25, 0 + 0, none⟩), (n.ls.getD i lt0).iv, .int .i64 (((n.ls.getD i lt0).xs).length : Int), .pointer (some ⟨b25, 0 + 1, none⟩), .int .i64 ((n.ls.getD i lt0).ma), .agg #[.int .i64 (((n.ls.getD i lt0).xs).length : Int), .int .i64 ((n.ls.getD i lt0).ma)], .bool false, .bool true, .bool true, undef, undef, undef, undef, undef, undef, undef, undef, .bool true] (by kernel_rfl) rfl ?_ ?_
   ·
    exact ⟨iaQ rfl (zaa (k0 := 0) rfl rfl rfl) rfl, iaQ rfl (zaj rfl rfl rfl (zae 0 rfl rfl)) rfl, iaQ rfl (lnQ rfl rfl rfl (zab ((hr).lt.at (d := lt0) (k := i) (by omega)))) rfl, iaQ rfl (zaa (k0 := 1) rfl rfl rfl) rfl, iaQ rfl (zaj rfl rfl rfl (zae 0 rfl rfl)) rfl, iaQ rfl (zdp (cs := #[.int .i64 (((n.ls.getD i lt0).xs).length : Int), .int .i64 ((n.ls.getD i lt0).ma)]) rfl rfl rfl) rfl, .inl ⟨rfl, zfo (zap (by kernel_rfl) rfl (fun w hm => zau (zgo (((n.ls.getD i lt0).xs).length : Int) ((n.ls.getD i lt0).ma) w))) hb26⟩, iaQ rfl (zah rfl) rfl, iaQ rfl (zah rfl) rfl, .inr ⟨rfl, rfl⟩, .inr ⟨rfl, rfl⟩, .inr ⟨rfl, rfl⟩, .inr ⟨rfl, rfl⟩, .inr ⟨rfl, rfl⟩, .inr ⟨rfl, rfl⟩, .inr ⟨rfl, rfl⟩, .inr ⟨rfl, rfl⟩, iaQ rfl (zah rfl) rfl, trivial⟩
   simp only [List.drop_succ_cons, List.drop_zero]
   refine ntQ (zan rfl (zba 1 rfl ?_))
   refine zaw (zak ?_)
   refine zfn ?_
   refine zak (zam ?_)
   exact zbf rfl rfl (congrArg _ (zdg (fun hp => by first | (exact zdu hp.sz (by assumption)) | (exact absurd hp.ou (by rw [← hnc]; assumption)) | (have h9 := hp.sq k (by omega); exact absurd h9.1 (by assumption)) | (have h9 := hp.sq k (by omega); rw [← hnc] at h9; exact absurd h9.2 (by assumption)) | (have h9 := hp.sq k (by omega); rcases h9.1.kind with ⟨a, b, c⟩ | ⟨a, b, c⟩ <;> omega) | (have h9 := hp.lt i (by omega); have h8 := h9.1.1; omega) | (have h9 := hp.lt i (by omega); exact absurd h9.1.2 (by assumption)) | (have h9 := hp.lt i (by omega); exact absurd h9.2 (by assumption)))).symm)
  refine ntQ (zaq rfl ?_)
  refine zbb (zds ?_)
  refine zai (zay (zba 1 rfl ?_))
  exact zaw (zbf rfl rfl (congrArg _ (zet ⟨hsz, by rw [← hnc]; assumption, fun q hq => hqs q (by omega), fun q hq => hql q (by omega)⟩).symm))
 have h3p := zex h3
 refine zbc 2 rfl (zan rfl (zba 1 rfl ?_))
 refine zaw (zam ?_)
 exact zbf rfl rfl (congrArg _ (zdg (fun hp => by first | (exact zdu hp.sz (by assumption)) | (exact absurd hp.ou (by rw [← hnc]; assumption)) | (have h9 := hp.sq k (by omega); exact absurd h9.1 (by assumption)) | (have h9 := hp.sq k (by omega); rw [← hnc] at h9; exact absurd h9.2 (by assumption)) | (have h9 := hp.sq k (by omega); rcases h9.1.kind with ⟨a, b, c⟩ | ⟨a, b, c⟩ <;> omega) | (have h9 := hp.lt i (by omega); have h8 := h9.1.1; omega) | (have h9 := hp.lt i (by omega); exact absurd h9.1.2 (by assumption)) | (have h9 := hp.lt i (by omega); exact absurd h9.2 (by assumption)))).symm)
open Go.RowKit
theorem andNot_smallT {v : Int} (h0 : 0 ≤ v) (h1 : v ≤ 31) : bits .andNot .i64 v 1 = v - v % 2 := by
  have key : ∀ m : Fin 32, bits .andNot .i64 ((m.val : Nat) : Int) 1 = ((m.val : Nat) : Int) - ((m.val : Nat) : Int) % 2 := by decide
  have := key ⟨v.toNat, by omega⟩
  rw [show (((⟨v.toNat, by omega⟩ : Fin 32).val : Nat) : Int) = v by show ((v.toNat : Nat) : Int) = v; omega] at this
  exact this
theorem stR_iff {kd x : Int} (h : kd = 0 ∨ kd = 1) : (0 ≤ x ∧ x ≤ (if kd = 0 then 1 else 31)) ↔ StR kd x := by
  unfold StR
  rcases h with rfl | rfl <;> simp <;> omega
noncomputable def snx0 (kd v : Int) : Int := if pB (StR kd v) = true then (if kd = 0 then 0 else v - v % 2 + v / 2 % 2) else -1
theorem zgp {kd v : Int} (hk : kd = 0 ∨ kd = 1) : 0 ≤ snx0 kd v ↔ StR kd v := by
  unfold snx0
  by_cases h : StR kd v
  · rw [if_pos (zet h)]
    have := h; unfold StR at this
    refine ⟨fun _ => h, fun _ => ?_⟩
    split <;> omega
  · rw [zdg h]
    exact ⟨fun h9 => absurd (show (0 : Int) ≤ -1 from h9) (by decide), fun h9 => absurd h9 h⟩
set_option maxHeartbeats 4000000 in
set_option maxRecDepth 100000 in
theorem seqMostT_ans (kd : Int) (w : World) (h : kd = 0 ∨ kd = 1) :
   Calls Try.prog 41 #[.int .i64 kd] w (Ans w (.int .i64 (if kd = 0 then 1 else 31))) := by
 refine zbh (N := 8) (args := [.int .i64 kd]) Try.func41 rfl rfl (zba 1 rfl (zac (zba 1 rfl ?_)))
 refine zax (srQ ?_)
 refine zcs rfl rfl rfl rfl rfl rfl (fun h1 => ?_) (fun h1 => ?_)
 ·
  refine zbc 1 rfl (zan rfl (zba 1 rfl ?_))
  refine zaw (zak ?_)
  exact zam (zbf rfl rfl (by rw [if_pos (by omega)]))
 refine zbc 1 rfl (zaq rfl (srQ ?_))
 refine zcs rfl rfl rfl rfl rfl rfl (fun h2 => ?_) (fun h2 => ?_)
 ·
  refine zbc 1 rfl (zan rfl (zba 1 rfl ?_))
  refine zaw (zak ?_)
  exact zam (zbf rfl rfl (by rw [if_neg (by omega)]))
 refine zbc 1 rfl (fsQ rfl (zcv (zba 1 rfl ?_)))
 refine zaw ?_
 exfalso
 omega
set_option maxHeartbeats 4000000 in
set_option maxRecDepth 100000 in
theorem zgb (n : Ln) (st : List Int) (v : Value) (w : World) (hr : RdsLn w n) (hst : RdsW w v 1 st.length (st.map (Value.int .i64))) :
   Calls Try.prog 15 #[.agg #[.int .i64 n.ins, n.sv, n.lv, n.ov], v] w (Ans w (.bool (pB (StAll n st)))) := by
 have hso := sml hr.ou
 have hss := hr.sq.small
 have hsl := hr.lt.small
 have hcnt : n.cnt = 1 + n.ins + n.ss.length + n.ls.length := rfl
 have hfst : n.fst = 1 + n.ins + n.ss.length := rfl
 have hst9 := sml hst
 refine zbh (N := 36) (args := [.agg #[.int .i64 n.ins, n.sv, n.lv, n.ov], v]) Try.func15 rfl rfl (srQ ?_)
 refine zef rfl (zcx rfl rfl) ?_
 intro b1
 refine zbc 1 rfl (zgg (hvQ rfl (zas (cs := [.int .i64 n.ins, n.sv, n.lv, n.ov]) rfl rfl rfl rfl rfl (zao 0 rfl 0 rfl)) ?_))
 refine zdn rfl (zap rfl rfl (fun w hm => zau (implLutNetOk_ans n w (hr.below hm.bel)))) (zbl (fun h2 => ?_) (fun h2 => ?_))
 ·
  have hokp := zgi h2
  refine zar 3 rfl (hvQ rfl (lnQ rfl rfl rfl (zab hst)) (hvQ rfl (zaa (k0 := 1) rfl rfl rfl) (hvQ rfl (zaj rfl rfl rfl (zae 0 rfl rfl)) (hvQ rfl (lnQ rfl rfl rfl (zab ((hr).sq.row))) ?_))))
  refine zgc rfl rfl rfl rfl rfl rfl (fun h3 => ?_) (fun h3 => ?_)
  ·
   refine zbc 1 rfl (zan rfl (zba 1 rfl ?_))
   refine zaw (zam ?_)
   exact zbf rfl rfl (congrArg _ (zdg (fun hp => by first | (exact absurd hp.ok (by assumption)) | (have h9 := hp.sp.len; omega) | (exact absurd ((stR_iff hks).2 (hp.sp.rng k (by omega))) (by assumption)) | (have h9 := (zgp hks).2 (hp.sp.rng k (by omega)); omega))).symm)
  refine zbc 1 rfl (zaq rfl (zcq (zac (zac (reQ 1 rfl (hvQ rfl (lnQ rfl rfl rfl (zab hst)) (zar 1 rfl (?_))))))))
  refine ntQ (zax ?_)
  refine lkQ1 (α := Nat) [0, 1, 2, 4, 17, 18, 19] rfl (fun k => [boxE b1 #[.int .i64 n.ins, n.sv, n.lv, n.ov] 28]) (fun k => [(20, .int .i64 (k : Int))]) (fun k => k ≤ st.length ∧ ∀ i, i < k → StR (n.ss.getD i sq0).kd (st.getD i 0)) (fun k => st.length - k) 0 ⟨Nat.zero_le _, fun i hi => absurd hi (by omega)⟩ (saQ rfl) (pfQ rfl) ?_
  intro k hi4
  obtain ⟨hk, hq⟩ := hi4
  refine srQ ?_
  refine zbn rfl rfl rfl rfl rfl rfl (fun h5 => ?_) (fun h5 => ?_)
  ·
   refine ntQ (tcQ rfl (zcq (sbQ (zac (reQ 1 rfl (hvQ rfl (riQ 1 rfl rfl rfl rfl (zab hst)) (hvQ rfl (liQ rfl rfl rfl (zab hst)) ?_)))))))
   refine zbc 2 rfl (srQ ?_)
   have hks : (n.ss.getD k sq0).kd = 0 ∨ (n.ss.getD k sq0).kd = 1 := by rcases (hokp.sq k (by omega)).1.kind with ⟨a, b, c⟩ | ⟨a, b, c⟩ <;> omega
   refine zar 1 rfl (hvQ rfl (zaa (k0 := 1) rfl rfl rfl) (hvQ rfl (zaj rfl rfl rfl (zae 0 rfl rfl)) (zar 1 rfl (hvQ rfl (riQ 3 rfl rfl rfl rfl (zab ((hr).sq.row))) (hvQ rfl (zbt (k0 := 0) rfl rfl rfl (zab ((hr).sq.row)) (by omega)) ?_)))))
   refine hvQ rfl (zat (u := .int .i64 ((n.ss.getD k sq0).kd)) rfl rfl rfl (zab ((hr).sq.row)) ((zcu sqC 3 (fun _ => rfl) n.ss sq0 (show k < _ by omega) (by decide)).trans rfl)) (zdn rfl (zap rfl rfl (fun w hm => zau (seqMostT_ans ((n.ss.getD k sq0).kd) w hks))) ?_)
   refine zdn rfl (zap rfl rfl (fun w hm => zau (ans_of (zed _ _ _ w)))) (zbl (fun h6 => ?_) (fun h6 => ?_))
   ·
    obtain ⟨h6a, h6b⟩ := (zdf _ _ _).1 h6
    refine zbc 1 rfl (fsQ rfl (zcv (zbg (hvQ rfl (vaQ rfl rfl rfl) (enQ 1 rfl ?_)))))
    exact zcm (k + 1) ⟨by omega, fun i hi => by by_cases e : i = k; (subst e; exact (stR_iff hks).1 ⟨by assumption, by assumption⟩); exact hq i (by omega)⟩ (by omega) (saQ rfl) (pfQ rfl)
   have h6a := zdv h6
   refine zbc 1 rfl (zan rfl (zba 1 rfl ?_))
   refine zaw (zak ?_)
   refine zfn ?_
   refine zak (zam ?_)
   exact zbf rfl rfl (congrArg _ (zdg (fun hp => by first | (exact absurd hp.ok (by assumption)) | (have h9 := hp.sp.len; omega) | (exact absurd ((stR_iff hks).2 (hp.sp.rng k (by omega))) (by assumption)) | (have h9 := (zgp hks).2 (hp.sp.rng k (by omega)); omega))).symm)
  refine ntQ (fcQ rfl ?_)
  refine zbb (zds ?_)
  refine zai (zay (zba 1 rfl ?_))
  exact zaw (zbf rfl rfl (congrArg _ (zet ⟨hokp, by omega, fun i hi => hq i (by omega)⟩).symm))
 have hokp := zex h2
 refine zbc 9 rfl (zan rfl (zac (reQ 1 rfl ?_)))
 refine ntQ ?_
 refine zaw (zam ?_)
 exact zbf rfl rfl (congrArg _ (zdg (fun hp => by first | (exact absurd hp.ok (by assumption)) | (have h9 := hp.sp.len; omega) | (exact absurd ((stR_iff hks).2 (hp.sp.rng k (by omega))) (by assumption)) | (have h9 := (zgp hks).2 (hp.sp.rng k (by omega)); omega))).symm)
set_option maxHeartbeats 4000000 in
set_option maxRecDepth 100000 in
theorem SeqNext0_ans (kd v : Int) (w : World) (hk : kd = 0 ∨ kd = 1) :
   Calls Try.prog 68 #[.int .i64 kd, .int .i64 v, .int .i64 0] w (Ans w (.int .i64 (snx0 kd v))) := by
 refine zbh (N := 49) (args := [.int .i64 kd, .int .i64 v, .int .i64 0]) Try.func68 rfl rfl (zba 1 rfl (zac (zac (reQ 1 rfl ?_))))
 refine zcs rfl rfl rfl rfl rfl rfl (fun h1 => ?_) (fun h1 => ?_)
 ·
  refine zar 2 rfl (zdn rfl (zap rfl rfl (fun w hm => zau (zel v 0 1 w))) ?_)
  refine zbl (fun h2 => ?_) (fun h2 => ?_)
  ·
   obtain ⟨h2a, h2b⟩ := (zdf _ _ _).1 h2
   refine zbc 1 rfl (zan rfl (zac (reQ 1 rfl (hvQ rfl (zdb rfl (by decide) rfl rfl (r := 0) (by decide)) (zbc 1 rfl ?_)))))
   refine zaw (zam ?_)
   exact zbf rfl rfl (congrArg (Value.int .i64) (show (0 : Int) = snx0 kd v by unfold snx0; rw [if_pos (zet (by unfold StR; omega))]; first | (rw [if_pos (by omega)]; done) | (rw [if_neg (by omega)]; done) | (rw [if_neg (by omega)]; omega)))
  have h2a := zdv h2
  refine zbc 1 rfl (zaq rfl (zcq (zac (zac (reQ 1 rfl ?_)))))
  refine zgc rfl rfl rfl rfl rfl rfl (fun h3 => ?_) (fun h3 => ?_)
  ·
   refine zbc 5 rfl (zan rfl (zba 1 rfl ?_))
   refine zaw (zam ?_)
   exact zbf rfl rfl (congrArg (Value.int .i64) (show (-1 : Int) = snx0 kd v by unfold snx0; rw [zdg (fun hp => by unfold StR at hp; omega)]; rfl))
  refine zar 2 rfl (zdn rfl (zap rfl rfl (fun w hm => zau (zel v 0 31 w))) ?_)
  refine zbl (fun h4 => ?_) (fun h4 => ?_)
  ·
   obtain ⟨h4a, h4b⟩ := (zdf _ _ _).1 h4
   refine zbc 2 rfl (zaq rfl (zcq (zac (reQ 1 rfl (hvQ rfl (zdb rfl (by decide) rfl rfl (r := 0) (by decide)) (hvQ rfl (vaQ rfl rfl rfl) (zar 1 rfl (?_))))))))
   refine ntQ (zac (reQ 1 rfl (hvQ rfl (zdb rfl (by decide) rfl rfl (r := v - v % 2) (andNot_smallT (by omega) (by omega))) (zar 2 rfl (hvQ rfl (rv_shr rfl rfl rfl (by omega)) ?_)))))
   rw [show (v / 2 ^ (0 + 1 : Int).toNat : Int) = v / 2 from rfl]
   refine hvQ rfl (zdb rfl (by decide) rfl rfl (r := (v / 2) % 2) (Bit.and_one _ (by omega) (by omega))) (hvQ rfl (vaQ rfl rfl rfl) (zbc 1 rfl (zac (zac (reQ 1 rfl (hvQ rfl (rv_shr rfl rfl rfl (by omega)) (hvQ rfl (zdb rfl (by decide) rfl rfl (r := 0) (by decide)) ?_)))))))
   refine zcs rfl rfl rfl rfl rfl rfl (fun h5 => absurd h5 (by omega)) (fun h5 => ?_)
   refine ntQ (zaq rfl (zcq (zba 2 rfl ?_)))
   exact zaw (zbf rfl rfl (congrArg (Value.int .i64) (show ((v - v % 2) + ((v / 2) % 2) : Int) = snx0 kd v by unfold snx0; rw [if_pos (zet (by unfold StR; omega))]; first | (rw [if_pos (by omega)]; done) | (rw [if_neg (by omega)]; done) | (rw [if_neg (by omega)]; omega))))
  have h4a := zdv h4
  refine zbc 2 rfl (zan rfl (zba 1 rfl ?_))
  refine zaw (zam ?_)
  exact zbf rfl rfl (congrArg (Value.int .i64) (show (-1 : Int) = snx0 kd v by unfold snx0; rw [zdg (fun hp => by unfold StR at hp; omega)]; rfl))
 refine zbc 4 rfl (zaq rfl (zcq (zac (zac (reQ 1 rfl ?_)))))
 refine zgc rfl rfl rfl rfl rfl rfl (fun h6 => ?_) (fun h6 => ?_)
 ·
  refine zbc 5 rfl (zan rfl (zba 1 rfl ?_))
  refine zaw (zam ?_)
  exact zbf rfl rfl (congrArg (Value.int .i64) (show (-1 : Int) = snx0 kd v by unfold snx0; rw [zdg (fun hp => by unfold StR at hp; omega)]; rfl))
 refine zar 2 rfl (zdn rfl (zap rfl rfl (fun w hm => zau (zel v 0 31 w))) ?_)
 refine zbl (fun h7 => ?_) (fun h7 => ?_)
 ·
  obtain ⟨h7a, h7b⟩ := (zdf _ _ _).1 h7
  refine zbc 2 rfl (zaq rfl (zcq (zac (reQ 1 rfl (hvQ rfl (zdb rfl (by decide) rfl rfl (r := 0) (by decide)) (hvQ rfl (vaQ rfl rfl rfl) (zar 1 rfl (?_))))))))
  refine ntQ (zac (reQ 1 rfl (hvQ rfl (zdb rfl (by decide) rfl rfl (r := v - v % 2) (andNot_smallT (by omega) (by omega))) (zar 2 rfl (hvQ rfl (rv_shr rfl rfl rfl (by omega)) ?_)))))
  rw [show (v / 2 ^ (0 + 1 : Int).toNat : Int) = v / 2 from rfl]
  refine hvQ rfl (zdb rfl (by decide) rfl rfl (r := (v / 2) % 2) (Bit.and_one _ (by omega) (by omega))) (hvQ rfl (vaQ rfl rfl rfl) (zbc 1 rfl (zac (zac (reQ 1 rfl (hvQ rfl (rv_shr rfl rfl rfl (by omega)) (hvQ rfl (zdb rfl (by decide) rfl rfl (r := 0) (by decide)) ?_)))))))
  refine zcs rfl rfl rfl rfl rfl rfl (fun h8 => absurd h8 (by omega)) (fun h8 => ?_)
  refine ntQ (zaq rfl (zcq (zba 2 rfl ?_)))
  exact zaw (zbf rfl rfl (congrArg (Value.int .i64) (show ((v - v % 2) + ((v / 2) % 2) : Int) = snx0 kd v by unfold snx0; rw [if_pos (zet (by unfold StR; omega))]; first | (rw [if_pos (by omega)]; done) | (rw [if_neg (by omega)]; done) | (rw [if_neg (by omega)]; omega))))
 have h7a := zdv h7
 refine zbc 2 rfl (zan rfl (zba 1 rfl ?_))
 refine zaw (zam ?_)
 exact zbf rfl rfl (congrArg (Value.int .i64) (show (-1 : Int) = snx0 kd v by unfold snx0; rw [zdg (fun hp => by unfold StR at hp; omega)]; rfl))
set_option maxHeartbeats 4000000 in
set_option maxRecDepth 100000 in
theorem specLutStateOk_ans (n : Ln) (st : List Int) (v : Value) (w : World) (hr : RdsLn w n) (hst : RdsW w v 1 st.length (st.map (Value.int .i64))) :
   Calls Try.prog 43 #[.agg #[.int .i64 n.ins, n.sv, n.lv, n.ov], v] w (Ans w (.bool (pB (StAll n st)))) := by
 have hso := sml hr.ou
 have hss := hr.sq.small
 have hsl := hr.lt.small
 have hcnt : n.cnt = 1 + n.ins + n.ss.length + n.ls.length := rfl
 have hfst : n.fst = 1 + n.ins + n.ss.length := rfl
 have hst9 := sml hst
 refine zbh (N := 35) (args := [.agg #[.int .i64 n.ins, n.sv, n.lv, n.ov], v]) Try.func43 rfl rfl (srQ ?_)
 refine zef rfl (zcx rfl rfl) ?_
 intro b1
 refine zbc 1 rfl (zgg (hvQ rfl (zas (cs := [.int .i64 n.ins, n.sv, n.lv, n.ov]) rfl rfl rfl rfl rfl (zao 0 rfl 0 rfl)) ?_))
 refine zdn rfl (zap rfl rfl (fun w hm => zau (specLutNetOk_ans n w (hr.below hm.bel)))) (zbl (fun h2 => ?_) (fun h2 => ?_))
 ·
  have hokp := zgi h2
  refine zar 3 rfl (hvQ rfl (lnQ rfl rfl rfl (zab hst)) (hvQ rfl (zaa (k0 := 1) rfl rfl rfl) (hvQ rfl (zaj rfl rfl rfl (zae 0 rfl rfl)) (hvQ rfl (lnQ rfl rfl rfl (zab ((hr).sq.row))) ?_))))
  refine zgc rfl rfl rfl rfl rfl rfl (fun h3 => ?_) (fun h3 => ?_)
  ·
   refine zbc 1 rfl (zan rfl (zba 1 rfl ?_))
   refine zaw (zam ?_)
   exact zbf rfl rfl (congrArg _ (zdg (fun hp => by first | (exact absurd hp.ok (by assumption)) | (have h9 := hp.sp.len; omega) | (exact absurd ((stR_iff hks).2 (hp.sp.rng k (by omega))) (by assumption)) | (have h9 := (zgp hks).2 (hp.sp.rng k (by omega)); omega))).symm)
  refine zbc 1 rfl (zaq rfl (zcq (zac (zba 1 rfl ?_))))
  refine zax ?_
  refine lkQ1 (α := Nat) [0, 1, 2, 4, 16] rfl (fun k => [boxE b1 #[.int .i64 n.ins, n.sv, n.lv, n.ov] 28]) (fun k => [(5, .int .i64 (k : Int))]) (fun k => k ≤ st.length ∧ ∀ i, i < k → StR (n.ss.getD i sq0).kd (st.getD i 0)) (fun k => st.length - k) 0 ⟨Nat.zero_le _, fun i hi => absurd hi (by omega)⟩ (saQ rfl) (pfQ rfl) ?_
  intro k hi4
  obtain ⟨hk, hq⟩ := hi4
  refine zac (zac (reQ 2 rfl (hvQ rfl (lnQ rfl rfl rfl (zab hst)) ?_)))
  refine zbn rfl rfl rfl rfl rfl rfl (fun h5 => ?_) (fun h5 => ?_)
  ·
   refine ntQ (zan rfl (zcq (sbQ (zac ?_))))
   have hks : (n.ss.getD k sq0).kd = 0 ∨ (n.ss.getD k sq0).kd = 1 := by rcases (hokp.sq k (by omega)).1.kind with ⟨a, b, c⟩ | ⟨a, b, c⟩ <;> omega
   rcases Bool.eq_false_or_eq_true (decide (snx0 ((n.ss.getD k sq0).kd) (st.getD k 0) < 0)) with hb6 | hb6
   ·
    have hb6p : snx0 ((n.ss.getD k sq0).kd) (st.getD k 0) < 0 := of_decide_eq_true hb6
    have hks : (n.ss.getD k sq0).kd = 0 ∨ (n.ss.getD k sq0).kd = 1 := by rcases (hokp.sq k (by omega)).1.kind with ⟨a, b, c⟩ | ⟨a, b, c⟩ <;> omega
    refine zbi 12 [[], [0], [], [1, 2], [3], [4], [], [], [6, 7], [8], [5, 9], [10]] [23, 24, 25, 26, 27, 28, 29, 30, 31, 32, 33, 34] [.pointer (some ⟨b1, 0 + 1, none⟩), n.sv, .int .i64 (k : Int), elP n.sv (((k : Int)).toNat * 3), elP n.sv (((k : Int)).toNat * 3 + 0), .int .i64 ((n.ss.getD k sq0).kd), v, .int .i64 (k : Int), elP v (((k : Int)).toNat * 1), .int .i64 (st.getD k 0), .int .i64 (snx0 ((n.ss.getD k sq0).kd) (st.getD k 0)), .bool true] (by kernel_rfl) rfl ?_ ?_
    ·
     exact ⟨iaQ rfl (zaa (k0 := 1) rfl rfl rfl) rfl, iaQ rfl (zaj rfl rfl rfl (zae 0 rfl rfl)) rfl, iaQ rfl (zah rfl) rfl, iaQ rfl (riQ 3 rfl rfl rfl rfl (zab ((hr).sq.row))) rfl, iaQ rfl (zbt (k0 := 0) rfl rfl rfl (zab ((hr).sq.row)) (by omega)) rfl, iaQ rfl (zat (u := .int .i64 ((n.ss.getD k sq0).kd)) rfl rfl rfl (zab ((hr).sq.row)) ((zcu sqC 3 (fun _ => rfl) n.ss sq0 (show k < _ by omega) (by decide)).trans rfl)) rfl, iaQ rfl (zah rfl) rfl, iaQ rfl (zah rfl) rfl, iaQ rfl (riQ 1 rfl rfl rfl rfl (zab hst)) rfl, iaQ rfl (liQ rfl rfl rfl (zab hst)) rfl, .inl ⟨rfl, zap rfl rfl (fun w hm => zau (SeqNext0_ans ((n.ss.getD k sq0).kd) (st.getD k 0) w hks))⟩, .inl ⟨rfl, zcw (zcc rfl rfl rfl rfl) hb6⟩, trivial⟩
    simp only [List.drop_succ_cons, List.drop_zero]
    refine ntQ (zan rfl (zba 1 rfl ?_))
    refine zaw (zak ?_)
    refine zfn ?_
    refine zak (zam ?_)
    exact zbf rfl rfl (congrArg _ (zdg (fun hp => by first | (exact absurd hp.ok (by assumption)) | (have h9 := hp.sp.len; omega) | (exact absurd ((stR_iff hks).2 (hp.sp.rng k (by omega))) (by assumption)) | (have h9 := (zgp hks).2 (hp.sp.rng k (by omega)); omega))).symm)
   have hb6p : ¬ (snx0 ((n.ss.getD k sq0).kd) (st.getD k 0) < 0) := of_decide_eq_false hb6
   have hks : (n.ss.getD k sq0).kd = 0 ∨ (n.ss.getD k sq0).kd = 1 := by rcases (hokp.sq k (by omega)).1.kind with ⟨a, b, c⟩ | ⟨a, b, c⟩ <;> omega
   refine zbi 12 [[], [0], [], [1, 2], [3], [4], [], [], [6, 7], [8], [5, 9], [10]] [23, 24, 25, 26, 27, 28, 29, 30, 31, 32, 33, 34] [.pointer (some ⟨b1, 0 + 1, none⟩), n.sv, .int .i64 (k : Int), elP n.sv (((k : Int)).toNat * 3), elP n.sv (((k : Int)).toNat * 3 + 0), .int .i64 ((n.ss.getD k sq0).kd), v, .int .i64 (k : Int), elP v (((k : Int)).toNat * 1), .int .i64 (st.getD k 0), .int .i64 (snx0 ((n.ss.getD k sq0).kd) (st.getD k 0)), .bool false] (by kernel_rfl) rfl ?_ ?_
   ·
    exact ⟨iaQ rfl (zaa (k0 := 1) rfl rfl rfl) rfl, iaQ rfl (zaj rfl rfl rfl (zae 0 rfl rfl)) rfl, iaQ rfl (zah rfl) rfl, iaQ rfl (riQ 3 rfl rfl rfl rfl (zab ((hr).sq.row))) rfl, iaQ rfl (zbt (k0 := 0) rfl rfl rfl (zab ((hr).sq.row)) (by omega)) rfl, iaQ rfl (zat (u := .int .i64 ((n.ss.getD k sq0).kd)) rfl rfl rfl (zab ((hr).sq.row)) ((zcu sqC 3 (fun _ => rfl) n.ss sq0 (show k < _ by omega) (by decide)).trans rfl)) rfl, iaQ rfl (zah rfl) rfl, iaQ rfl (zah rfl) rfl, iaQ rfl (riQ 1 rfl rfl rfl rfl (zab hst)) rfl, iaQ rfl (liQ rfl rfl rfl (zab hst)) rfl, .inl ⟨rfl, zap rfl rfl (fun w hm => zau (SeqNext0_ans ((n.ss.getD k sq0).kd) (st.getD k 0) w hks))⟩, .inl ⟨rfl, zcw (zcc rfl rfl rfl rfl) hb6⟩, trivial⟩
   simp only [List.drop_succ_cons, List.drop_zero]
   refine ntQ (fsQ rfl (zcv (reQ 1 rfl (hvQ rfl (vaQ rfl rfl rfl) (enQ 1 rfl ?_)))))
   exact zcm (k + 1) ⟨by omega, fun i hi => by by_cases e : i = k; (subst e; exact (zgp hks).1 (by omega)); exact hq i (by omega)⟩ (by omega) (saQ rfl) (pfQ rfl)
  refine ntQ (zaq rfl ?_)
  refine zbb (zds ?_)
  refine zai (zay (zba 1 rfl ?_))
  exact zaw (zbf rfl rfl (congrArg _ (zet ⟨hokp, by omega, fun i hi => hq i (by omega)⟩).symm))
 have hokp := zex h2
 refine zbc 9 rfl (zan rfl (zac (reQ 1 rfl ?_)))
 refine ntQ ?_
 refine zaw (zam ?_)
 exact zbf rfl rfl (congrArg _ (zdg (fun hp => by first | (exact absurd hp.ok (by assumption)) | (have h9 := hp.sp.len; omega) | (exact absurd ((stR_iff hks).2 (hp.sp.rng k (by omega))) (by assumption)) | (have h9 := (zgp hks).2 (hp.sp.rng k (by omega)); omega))).symm)
set_option maxHeartbeats 4000000 in
set_option maxRecDepth 100000 in
theorem delaysOk_ans (rs : List IR) (sz : List Int) (v u : Value) (w : World) (hA1 : RdsIr w v rs) (hA2 : RdsW w u 1 sz.length (sz.map (Value.int .i64))) :
   Calls Try.prog 49 #[v, u] w (Ans w (.bool (pB (DlP rs sz)))) := by
 have q1 := hA1.small
 have q2 := sml hA2
 refine zbh (N := 39) (args := [v, u]) Try.func49 rfl rfl (zba 1 rfl (zac (zac (reQ 1 rfl (hvQ rfl (lnQ rfl rfl rfl (zab ((hA1).row))) (zar 1 rfl (hvQ rfl (lnQ rfl rfl rfl (zab hA2)) ?_)))))))
 refine zgc rfl rfl rfl rfl rfl rfl (fun h1 => ?_) (fun h1 => ?_)
 ·
  refine ntQ (zan rfl (zba 1 rfl ?_))
  refine zaw (zam ?_)
  exact zbf rfl rfl (congrArg _ (zdg (fun hp => by first | (have h9 := hp.len; omega) | (have h9 := (hp.el i (by omega)).1; omega) | (have h9 := (hp.el i (by omega)).2 j (by omega); omega))).symm)
 refine ntQ (zaq rfl (zcq (zac (zac (reQ 1 rfl (hvQ rfl (lnQ rfl rfl rfl (zab ((hA1).row))) (enQ 1 rfl ?_)))))))
 refine zay (zax ?_)
 refine lkQ1 (α := Nat) [0, 1, 4, 13, 14, 15] rfl (fun i => []) (fun i => [(16, .int .i64 (i : Int))]) (fun i => i ≤ rs.length ∧ ∀ q, q < i → LiP (rs.getD q ir0).xs (sz.getD q 0) 100) (fun i => rs.length - i) 0 ⟨Nat.zero_le _, fun i hi => absurd hi (by omega)⟩ (saQ rfl) (.slnil) ?_
 intro i hi2
 obtain ⟨hi, hq⟩ := hi2
 refine srQ ?_
 refine zbn rfl rfl rfl rfl rfl rfl (fun h3 => ?_) (fun h3 => ?_)
 ·
  refine ntQ (tcQ rfl (zcq (sbQ (zac (reQ 1 rfl (hvQ rfl (riQ 1 rfl rfl rfl rfl (zab ((hA1).row))) ?_))))))
  refine hvQ rfl (zat (u := (rs.getD i ir0).v) rfl rfl rfl (zab ((hA1).row)) (zbk irC (fun r => r.v) (fun _ => rfl) rs ir0 (show i < _ by omega))) (zbc 2 rfl (zac (zac (reQ 1 rfl (hvQ rfl (lnQ rfl rfl rfl (zab ((hA1).at (d := ir0) (k := i) (by omega)))) (zar 2 rfl (hvQ rfl (riQ 1 rfl rfl rfl rfl (zab hA2)) (hvQ rfl (liQ rfl rfl rfl (zab hA2)) ?_))))))))
  refine zgc rfl rfl rfl rfl rfl rfl (fun h4 => ?_) (fun h4 => ?_)
  ·
   refine ntQ (zan rfl (zba 1 rfl ?_))
   refine zaw (zam ?_)
   refine zak (zfn ?_)
   refine zak (zam ?_)
   exact zbf rfl rfl (congrArg _ (zdg (fun hp => by first | (have h9 := hp.len; omega) | (have h9 := (hp.el i (by omega)).1; omega) | (have h9 := (hp.el i (by omega)).2 j (by omega); omega))).symm)
  refine ntQ (zaq rfl (zcq (srQ ?_)))
  have q3 := sml (hA1.at (d := ir0) (k := i) (by omega))
  refine zar 1 rfl (hvQ rfl (lnQ rfl rfl rfl (zab ((hA1).at (d := ir0) (k := i) (by omega)))) (zbc 1 rfl (zax ?_)))
  refine lkQ1 (α := Nat) [0, 1, 4, 5, 6, 13, 14, 15, 16, 17, 27, 28, 29] rfl (fun j => []) (fun j => [(30, .int .i64 (j : Int))]) (fun j => j ≤ (rs.getD i ir0).xs.length ∧ ∀ q, q < j → 0 ≤ (rs.getD i ir0).xs.getD q 0 ∧ (rs.getD i ir0).xs.getD q 0 ≤ 100) (fun j => (rs.getD i ir0).xs.length - j) 0 ⟨Nat.zero_le _, fun i hi => absurd hi (by omega)⟩ (saQ rfl) (.slnil) ?_
  intro j hi5
  obtain ⟨hj, hj2⟩ := hi5
  refine srQ ?_
  refine zbn rfl rfl rfl rfl rfl rfl (fun h6 => ?_) (fun h6 => ?_)
  ·
   refine ntQ (tcQ rfl (zcq (sbQ (srQ (hvQ rfl (riQ 1 rfl rfl rfl rfl (zab ((hA1).at (d := ir0) (k := i) (by omega)))) (hvQ rfl (zat (u := .int .i64 (((rs.getD i ir0).xs).getD j 0)) rfl rfl rfl (zab ((hA1).at (d := ir0) (k := i) (by omega))) (zdk (show _ < ((rs.getD i ir0).xs).length by omega))) (zar 1 rfl ?_)))))))
   refine ntQ (zac (reQ 1 rfl ?_))
   refine zdn rfl (zap rfl rfl (fun w hm => zau (ans_of (zed _ _ _ w)))) (zbl (fun h7 => ?_) (fun h7 => ?_))
   ·
    obtain ⟨h7a, h7b⟩ := (zdf _ _ _).1 h7
    refine zbc 1 rfl (fsQ rfl (zcv (zbg (hvQ rfl (vaQ rfl rfl rfl) (enQ 1 rfl ?_)))))
    exact zcm (j + 1) ⟨by omega, fun q hq9 => by by_cases e : q = j; (subst e; omega); exact hj2 q (by omega)⟩ (by omega) (saQ rfl) (.slnil)
   have h7a := zdv h7
   refine zbc 1 rfl (zan rfl (zba 1 rfl ?_))
   refine zaw (zak ?_)
   refine zfn ?_
   refine zak (zak ?_)
   refine zfn ?_
   refine zak (zam ?_)
   exact zbf rfl rfl (congrArg _ (zdg (fun hp => by first | (have h9 := hp.len; omega) | (have h9 := (hp.el i (by omega)).1; omega) | (have h9 := (hp.el i (by omega)).2 j (by omega); omega))).symm)
  refine ntQ (fcQ rfl ?_)
  refine zbb (zds ?_)
  refine zai (zcv (zbg (hvQ rfl (vaQ rfl rfl rfl) (enQ 1 rfl ?_))))
  exact zcm (i + 1) ⟨by omega, fun q hq9 => by by_cases e : q = i; (subst e; exact ⟨by omega, fun t ht => hj2 t (by omega)⟩); exact hq q (by omega)⟩ (by omega) (saQ rfl) (.slnil)
 refine ntQ (fcQ rfl ?_)
 refine zbb (zds ?_)
 refine zai (zay (zba 1 rfl ?_))
 exact zaw (zbf rfl rfl (congrArg _ (zet ⟨by omega, fun q hq9 => hq q (by omega)⟩).symm))
set_option maxHeartbeats 4000000 in
set_option maxRecDepth 100000 in
theorem zfx (x : Td) (w : World) (hr : RdsTd w x) :
   Calls Try.prog 20 #[.agg #[.int .i64 x.n.ins, x.n.sv, x.n.lv, x.n.ov, x.pv, x.qv, x.kv, x.av, x.bv, .int .i64 x.oi, .int .i64 x.ni]] w (Ans w (.bool (pB (TdOk x)))) := by
 have t1 := sml hr.ks
 have t2 := sml hr.ao
 have t3 := sml hr.bs
 have t4 := hr.dl.small
 have t5 := hr.ds.small
 have t6 := hr.n.sq.small
 have t7 := hr.n.lt.small
 have t8 := sml hr.n.ou
 have hcnt : x.n.cnt = 1 + x.n.ins + x.n.ss.length + x.n.ls.length := rfl
 have hfst : x.n.fst = 1 + x.n.ins + x.n.ss.length := rfl
 refine zbh (N := 83) (args := [.agg #[.int .i64 x.n.ins, x.n.sv, x.n.lv, x.n.ov, x.pv, x.qv, x.kv, x.av, x.bv, .int .i64 x.oi, .int .i64 x.ni]]) Try.func20 rfl rfl (srQ ?_)
 refine zef rfl (zcx rfl rfl) ?_
 intro b1
 refine zbc 1 rfl (zgg (hvQ rfl (zaa (k0 := 0) rfl rfl rfl) (hvQ rfl (zas (cs := [.int .i64 x.n.ins, x.n.sv, x.n.lv, x.n.ov]) rfl rfl rfl rfl rfl (zao 0 rfl 0 rfl)) (hvQ rfl (zaa (k0 := 7) rfl rfl rfl) (hvQ rfl (zaj rfl rfl rfl (zae 0 rfl rfl)) ?_)))))
 refine zdn rfl (zap rfl rfl (fun w hm => zau (zgb x.n x.ao _ w (hr.n.below hm.bel) (hr.ao.below hm.bel)))) (zbl (fun h2 => ?_) (fun h2 => ?_))
 ·
  have hSao := zgi h2
  refine zar 2 rfl (hvQ rfl (zaa (k0 := 0) rfl rfl rfl) (hvQ rfl (zas (cs := [.int .i64 x.n.ins, x.n.sv, x.n.lv, x.n.ov]) rfl rfl rfl rfl rfl (zao 0 rfl 0 rfl)) (hvQ rfl (zaa (k0 := 8) rfl rfl rfl) (hvQ rfl (zaj rfl rfl rfl (zae 0 rfl rfl)) ?_))))
  refine zdn rfl (zap rfl rfl (fun w hm => zau (zgb x.n x.bs _ w (hr.n.below hm.bel) (hr.bs.below hm.bel)))) (zbl (fun h3 => ?_) (fun h3 => ?_))
  ·
   have hSbs := zgi h3
   refine zar 3 rfl (hvQ rfl (zaa (k0 := 6) rfl rfl rfl) (hvQ rfl (zaj rfl rfl rfl (zae 0 rfl rfl)) (hvQ rfl (lnQ rfl rfl rfl (zab ((hr).ks))) (hvQ rfl (zaa (k0 := 0) rfl rfl rfl) (hvQ rfl (zaa (k0 := 1) rfl rfl rfl) (hvQ rfl (zaj rfl rfl rfl (zae 0 rfl rfl)) (hvQ rfl (lnQ rfl rfl rfl (zab ((hr).n.sq.row))) ?_)))))))
   refine zgc rfl rfl rfl rfl rfl rfl (fun h4 => ?_) (fun h4 => ?_)
   ·
    refine zbc 1 rfl (zan rfl (zba 1 rfl ?_))
    refine zaw (zam ?_)
    exact zbf rfl rfl (congrArg _ (zdg (fun hp => by first | (exact hSao ⟨hp.n, hp.a⟩) | (exact hSbs ⟨hp.n, hp.b⟩) | (have h9 := hp.k.1; omega) | (have h9 := hp.k.2 k (by omega); omega) | (exact hDdl (hE1.2 ⟨hp.dn, hp.dl⟩)) | (exact hDds (hE2.2 ⟨hp.sn, hp.ds⟩)))).symm)
   refine zbc 1 rfl (zaq rfl (zcq (srQ ?_)))
   refine zfy 3 1 (zar 1 rfl ?_)
   refine zfy 3 1 (zbc 1 rfl (zgg ?_))
   obtain ⟨⟨si, s2, s3, s4⟩, -, -, -⟩ := id hSao.ok
   refine hvQ rfl (zaa (k0 := 0) rfl rfl rfl) (hvQ rfl (zaa (k0 := 2) rfl rfl rfl) (hvQ rfl (zaj rfl rfl rfl (zae 2 rfl rfl)) (hvQ rfl (lnQ rfl rfl rfl (zab ((hr).n.lt.row))) (zbc 1 rfl (zax ?_)))))
   refine lkQ3 (α := Nat) (β := Value) (γ := List Int) [0, 1, 2, 4, 32, 35, 36] rfl (fun i u1 z1 => [rowE 3 1 (.slice none 0 0) 0 ([]), rowE 3 1 u1 z1.length (z1.map (Value.int .i64)), boxE b1 #[.int .i64 x.n.ins, x.n.sv, x.n.lv, x.n.ov, x.pv, x.qv, x.kv, x.av, x.bv, .int .i64 x.oi, .int .i64 x.ni] 45]) (fun i u1 z1 => [(3, u1), (37, .int .i64 (i : Int))]) (fun i u1 z1 => i ≤ x.n.ls.length ∧ z1 = lensL Lt.xs x.n.ls i) (fun i u1 z1 => x.n.ls.length - i) 0 _ [] ⟨Nat.zero_le _, rfl⟩ (saQ rfl) (.cons_cons _ (.cons_cons _ (pfQ rfl))) ?_
   intro i u1 z1 hi7
   obtain ⟨hi, hz1⟩ := hi7
   have hzl1 : z1.length = i := by rw [hz1]; exact lensL_len _ hi
   refine srQ ?_
   refine zbn rfl rfl rfl rfl rfl rfl (fun h8 => ?_) (fun h8 => ?_)
   ·
    refine ntQ (tcQ rfl (zcq (sbQ (srQ (hvQ rfl (riQ 2 rfl rfl rfl rfl (zab ((hr).n.lt.row))) ?_)))))
    refine hvQ rfl (zdl (us := [(x.n.ls.getD i lt0).iv, .int .i64 ((x.n.ls.getD i lt0).ma)]) rfl rfl rfl rfl (zab ((hr).n.lt.row)) (by omega) rfl (zek ltC 2 (fun _ => rfl) x.n.ls lt0 (show i < _ by omega) rfl)) (zef rfl (zbw (z := .agg #[.slice none 0 0, .int .i64 0]) rfl rfl) ?_)
    intro b9
    refine zcb (cs' := #[(x.n.ls.getD i lt0).iv, .int .i64 ((x.n.ls.getD i lt0).ma)]) (i := 0) (off := 0) (us := [(x.n.ls.getD i lt0).iv, .int .i64 ((x.n.ls.getD i lt0).ma)]) rfl rfl rfl rfl rfl rfl rfl (zaf (hr.n.lt.at (d := lt0) (k := i) (by omega)).one (zaf rfl zbo)) rfl rfl rfl (ntQ (reQ 1 rfl (hvQ rfl (zaa (k0 := 0) rfl rfl rfl) (hvQ rfl (zaj rfl rfl rfl (zae 0 rfl rfl)) (hvQ rfl (lnQ rfl rfl rfl (zab ((hr).n.lt.at (d := lt0) (k := i) (by omega)))) ?_)))))
    refine zdw rfl (zav (z := .int .i64 0) (s := 1) (cs := ([(((x.n.ls.getD i lt0).xs).length : Int)].map (Value.int .i64))) rfl Try.underlying26 rfl (by decide) rfl (by kernel_rfl) rfl) ?_
    intro g10
    refine zci (i := 3) (z := .int .i64 0) (bytes := 8) rfl rfl rfl rfl Try.underlying26 (by kernel_rfl) rfl rfl rfl rfl (zag 0 rfl) (zbz _) (by first | omega | (simp; done) | (simp; omega)) (zbx z1 ([(((x.n.ls.getD i lt0).xs).length : Int)])) (zco z1 ([(((x.n.ls.getD i lt0).xs).length : Int)])) (fun _ => rfl) ?_
    intro v11
    refine enQ 1 rfl (zcv (zbg (hvQ rfl (vaQ rfl rfl rfl) (enQ 1 rfl ?_))))
    exact zbv (i + 1) v11 (z1 ++ ([(((x.n.ls.getD i lt0).xs).length : Int)])) ⟨by omega, by rw [hz1]; exact lensL_succ Lt.xs lt0 (by omega)⟩ (by omega) (saQ rfl) (.cons _ (.cons _ (.cons_cons _ (.cons_cons _ (pfQ rfl)))))
   refine ntQ (fcQ rfl ?_)
   refine zbb (zds ?_)
   refine zai (zay (zgg (hvQ rfl (zaa (k0 := 0) rfl rfl rfl) (hvQ rfl (zaa (k0 := 1) rfl rfl rfl) (hvQ rfl (zaj rfl rfl rfl (zae 2 rfl rfl)) (hvQ rfl (lnQ rfl rfl rfl (zab ((hr).n.sq.row))) (zbc 1 rfl (zax ?_))))))))
   refine lkQ3 (α := Nat) (β := Value) (γ := List Int) [0, 1, 2, 3, 32, 35, 36, 37, 38, 50, 51] rfl (fun k u2 z2 => [rowE 3 1 u2 z2.length (z2.map (Value.int .i64)), rowE 3 1 u1 z1.length (z1.map (Value.int .i64)), boxE b1 #[.int .i64 x.n.ins, x.n.sv, x.n.lv, x.n.ov, x.pv, x.qv, x.kv, x.av, x.bv, .int .i64 x.oi, .int .i64 x.ni] 45]) (fun k u2 z2 => [(4, u2), (52, .int .i64 (k : Int))]) (fun k u2 z2 => k ≤ x.n.ss.length ∧ z2 = lensL Sq.xs x.n.ss k ∧ ∀ q, q < k → 0 ≤ x.ks.getD q 0 ∧ x.ks.getD q 0 ≤ 50) (fun k u2 z2 => x.n.ss.length - k) 0 _ [] ⟨Nat.zero_le _, rfl, fun q hq => absurd hq (by omega)⟩ (saQ rfl) (.cons_cons _ (.cons_cons _ (pfQ rfl))) ?_
   intro k u2 z2 hi12
   obtain ⟨hk, hz2, hkq⟩ := hi12
   have hzl2 : z2.length = k := by rw [hz2]; exact lensL_len _ hk
   refine srQ ?_
   refine zbn rfl rfl rfl rfl rfl rfl (fun h13 => ?_) (fun h13 => ?_)
   ·
    refine ntQ (tcQ rfl (zcq (sbQ (zac (reQ 1 rfl (hvQ rfl (riQ 3 rfl rfl rfl rfl (zab ((hr).n.sq.row))) ?_))))))
    refine hvQ rfl (zdl (us := [.int .i64 ((x.n.ss.getD k sq0).kd), .int .i64 ((x.n.ss.getD k sq0).it), (x.n.ss.getD k sq0).iv]) rfl rfl rfl rfl (zab ((hr).n.sq.row)) (by omega) rfl (zek sqC 3 (fun _ => rfl) x.n.ss sq0 (show k < _ by omega) rfl)) (zef rfl (zbw (z := .agg #[.int .i64 0, .int .i64 0, .slice none 0 0]) rfl rfl) ?_)
    intro b14
    refine zar 1 rfl (zcb (cs' := #[.int .i64 ((x.n.ss.getD k sq0).kd), .int .i64 ((x.n.ss.getD k sq0).it), (x.n.ss.getD k sq0).iv]) (i := 0) (off := 0) (us := [.int .i64 ((x.n.ss.getD k sq0).kd), .int .i64 ((x.n.ss.getD k sq0).it), (x.n.ss.getD k sq0).iv]) rfl rfl rfl rfl rfl rfl rfl (zaf rfl (zaf rfl (zaf (hr.n.sq.at (d := sq0) (k := k) (by omega)).one zbo))) rfl rfl rfl ?_)
    refine ntQ (zac (reQ 1 rfl (hvQ rfl (zaa (k0 := 2) rfl rfl rfl) (hvQ rfl (zaj rfl rfl rfl (zae 0 rfl rfl)) (hvQ rfl (lnQ rfl rfl rfl (zab ((hr).n.sq.at (d := sq0) (k := k) (by omega)))) ?_)))))
    refine zdw rfl (zav (z := .int .i64 0) (s := 1) (cs := ([(((x.n.ss.getD k sq0).xs).length : Int)].map (Value.int .i64))) rfl Try.underlying26 rfl (by decide) rfl (by kernel_rfl) rfl) ?_
    intro g15
    refine zci (i := 2) (z := .int .i64 0) (bytes := 8) rfl rfl rfl rfl Try.underlying26 (by kernel_rfl) rfl rfl rfl rfl (zag 0 rfl) (zbz _) (by first | omega | (simp; done) | (simp; omega)) (zbx z2 ([(((x.n.ss.getD k sq0).xs).length : Int)])) (zco z2 ([(((x.n.ss.getD k sq0).xs).length : Int)])) (fun _ => rfl) ?_
    intro v16
    refine zbc 1 rfl (srQ (hvQ rfl (zaa (k0 := 6) rfl rfl rfl) (hvQ rfl (zaj rfl rfl rfl (zae 4 rfl rfl)) (zar 1 rfl (hvQ rfl (riQ 1 rfl rfl rfl rfl (zab ((hr).ks))) (hvQ rfl (liQ rfl rfl rfl (zab ((hr).ks))) ?_))))))
    refine zdn rfl (zap rfl rfl (fun w hm => zau (ans_of (zed _ _ _ w)))) (zbl (fun h17 => ?_) (fun h17 => ?_))
    ·
     obtain ⟨h17a, h17b⟩ := (zdf _ _ _).1 h17
     refine zbc 1 rfl (fsQ rfl (zcv (zbg (hvQ rfl (vaQ rfl rfl rfl) (enQ 1 rfl ?_)))))
     exact zbv (k + 1) v16 (z2 ++ ([(((x.n.ss.getD k sq0).xs).length : Int)])) ⟨by omega, by rw [hz2]; exact lensL_succ Sq.xs sq0 (by omega), fun q hq => by by_cases e : q = k; (subst e; omega); exact hkq q (by omega)⟩ (by omega) (saQ rfl) (.cons _ (.cons _ (.cons_cons _ (.cons_cons _ (pfQ rfl)))))
    have h17a := zdv h17
    refine zbc 1 rfl (zan rfl (zba 1 rfl ?_))
    refine zaw (zak ?_)
    refine zfn ?_
    refine zak (zam ?_)
    exact zbf rfl rfl (congrArg _ (zdg (fun hp => by first | (exact hSao ⟨hp.n, hp.a⟩) | (exact hSbs ⟨hp.n, hp.b⟩) | (have h9 := hp.k.1; omega) | (have h9 := hp.k.2 k (by omega); omega) | (exact hDdl (hE1.2 ⟨hp.dn, hp.dl⟩)) | (exact hDds (hE2.2 ⟨hp.sn, hp.ds⟩)))).symm)
   refine ntQ (fcQ rfl ?_)
   refine zbb (zds ?_)
   refine zai (zay (srQ ?_))
   have hie : i = x.n.ls.length := by omega
   have hke : k = x.n.ss.length := by omega
   have hE1 := dl_iff (rs := x.dl) Lt.xs (es := x.n.ls) lt0
   have hE2 := dl_iff (rs := x.ds) Sq.xs (es := x.n.ss) sq0
   rw [show lensL Lt.xs x.n.ls x.n.ls.length = z1 by rw [hz1, hie]] at hE1
   rw [show lensL Sq.xs x.n.ss x.n.ss.length = z2 by rw [hz2, hke]] at hE2
   refine hvQ rfl (zaa (k0 := 4) rfl rfl rfl) (hvQ rfl (zaa (k0 := 0) rfl rfl rfl) (hvQ rfl (zaj rfl rfl rfl (zae 2 rfl rfl)) (zar 1 rfl ?_)))
   refine zdn rfl (zap rfl rfl (fun w hm => zau (delaysOk_ans x.dl z1 _ _ w (hr.dl.below hm.bel) ((zag 1 rfl) w hm)))) (zbl (fun h18 => ?_) (fun h18 => ?_))
   ·
    have hDdl := zgi h18
    refine zar 1 rfl (hvQ rfl (zaa (k0 := 4) rfl rfl rfl) (hvQ rfl (zaa (k0 := 1) rfl rfl rfl) (hvQ rfl (zaj rfl rfl rfl (zae 2 rfl rfl)) (zar 1 rfl ?_))))
    refine zdn rfl (zap rfl rfl (fun w hm => zau (delaysOk_ans x.ds z2 _ _ w (hr.ds.below hm.bel) ((zag 0 rfl) w hm)))) (zbl (fun h19 => ?_) (fun h19 => ?_))
    ·
     have hDds := zgi h19
     refine zbc 2 rfl ?_
     exact zaw (zbf rfl rfl (congrArg _ (zet ⟨hSao.ok, hSao.sp, hSbs.sp, ⟨by omega, fun q hq => hkq q (by omega)⟩, (hE1.1 hDdl).1, (hE1.1 hDdl).2, (hE2.1 hDds).1, (hE2.1 hDds).2⟩).symm))
    have hDds := zex h19
    refine zbc 2 rfl ?_
    exact zaw (zbf rfl rfl (congrArg _ (zdg (fun hp => by first | (exact hSao ⟨hp.n, hp.a⟩) | (exact hSbs ⟨hp.n, hp.b⟩) | (have h9 := hp.k.1; omega) | (have h9 := hp.k.2 k (by omega); omega) | (exact hDdl (hE1.2 ⟨hp.dn, hp.dl⟩)) | (exact hDds (hE2.2 ⟨hp.sn, hp.ds⟩)))).symm))
   have hDdl := zex h18
   refine zbc 8 rfl ?_
   exact zaw (zbf rfl rfl (congrArg _ (zdg (fun hp => by first | (exact hSao ⟨hp.n, hp.a⟩) | (exact hSbs ⟨hp.n, hp.b⟩) | (have h9 := hp.k.1; omega) | (have h9 := hp.k.2 k (by omega); omega) | (exact hDdl (hE1.2 ⟨hp.dn, hp.dl⟩)) | (exact hDds (hE2.2 ⟨hp.sn, hp.ds⟩)))).symm))
  have hSbs := zex h3
  refine zbc 12 rfl (zan rfl ?_)
  refine zba 1 rfl ?_
  refine zaw (zam ?_)
  exact zbf rfl rfl (congrArg _ (zdg (fun hp => by first | (exact hSao ⟨hp.n, hp.a⟩) | (exact hSbs ⟨hp.n, hp.b⟩) | (have h9 := hp.k.1; omega) | (have h9 := hp.k.2 k (by omega); omega) | (exact hDdl (hE1.2 ⟨hp.dn, hp.dl⟩)) | (exact hDds (hE2.2 ⟨hp.sn, hp.ds⟩)))).symm)
 have hSao := zex h2
 refine zbc 19 rfl (zan rfl (zba 1 rfl ?_))
 refine zaw (zam ?_)
 exact zbf rfl rfl (congrArg _ (zdg (fun hp => by first | (exact hSao ⟨hp.n, hp.a⟩) | (exact hSbs ⟨hp.n, hp.b⟩) | (have h9 := hp.k.1; omega) | (have h9 := hp.k.2 k (by omega); omega) | (exact hDdl (hE1.2 ⟨hp.dn, hp.dl⟩)) | (exact hDds (hE2.2 ⟨hp.sn, hp.ds⟩)))).symm)
/-- how many inputs the sequential elements ahead of k have -/
def nS (x : Td) : Nat → Nat
  | 0 => 0
  | k + 1 => nS x k + (x.n.ss.getD k sq0).xs.length
theorem nS_le {x : Td} (h : LnOk x.n) : ∀ k, k ≤ x.n.ss.length → nS x k ≤ 4 * k
  | 0, _ => Nat.le_refl _
  | k + 1, hk => by have := nS_le h k (by omega); have h4 := (h.sq k (by omega)).1.len; unfold nS; omega
def lauA (k : Nat) : List Pt := (List.range k).map (fun (q : Nat) => ⟨1 + q, 0⟩)
def lauB (x : Td) (k : Nat) : List Pt := lauA x.n.ins.toNat ++ (List.range k).map (fun (q : Nat) => ⟨1 + x.n.ins + q, x.ks.getD q 0⟩)
def arcL (x : Td) : Nat → List Arc
  | 0 => []
  | i + 1 => arcL x i ++ (List.range (x.n.ls.getD i lt0).xs.length).map (fun j => ⟨(x.n.ls.getD i lt0).xs.getD j 0, x.n.fst + i, (x.dl.getD i ir0).xs.getD j 0⟩)
theorem arcL_le {x : Td} (h : LnOk x.n) : ∀ i, i ≤ x.n.ls.length → (arcL x i).length ≤ 4 * i
  | 0, _ => Nat.le_refl _
  | i + 1, hi => by
    have := arcL_le h i (by omega)
    have h4 := (h.lt i (by omega)).1.1
    unfold arcL; rw [List.length_append]; simp only [List.length_map, List.length_range]; omega
def arcS (x : Td) : Nat → List Arc
  | 0 => arcL x x.n.ls.length
  | k + 1 => arcS x k ++ (List.range (x.n.ss.getD k sq0).xs.length).map (fun j => ⟨(x.n.ss.getD k sq0).xs.getD j 0, x.n.cnt + nS x k + j, (x.ds.getD k ir0).xs.getD j 0⟩)
theorem arcS_len (x : Td) : ∀ k, (arcS x k).length = (arcL x x.n.ls.length).length + nS x k
  | 0 => rfl
  | k + 1 => by unfold arcS nS; rw [List.length_append, arcS_len x k]; simp; omega
/-- what a valid timed net keeps -/
structure Bnd (x : Td) : Prop where
  i : 0 ≤ x.n.ins ∧ x.n.ins ≤ 20
  s : x.n.ss.length ≤ 12
  l : x.n.ls.length ≤ 400
  k : x.ks.length = x.n.ss.length
  a : x.ao.length = x.n.ss.length
  b : x.bs.length = x.n.ss.length
  d : x.dl.length = x.n.ls.length
  e : x.ds.length = x.n.ss.length
theorem TdOk.bnd {x : Td} (h : TdOk x) : Bnd x := ⟨h.n.sz.i, h.n.sz.s, h.n.sz.l, by have := h.k.1; omega, h.a.len, h.b.len, h.dn, h.sn⟩
open Go.RowKit
open Go.RowKit
theorem andOne (x : Int) : bits .and .i64 x 1 = x % 2 := by
  show IntKind.i64.wrap ((BitVec.ofInt 64 x &&& BitVec.ofInt 64 1).toNat : Int) = _
  have h1 : (BitVec.ofInt 64 (1 : Int)).toNat = 1 := by decide
  rw [BitVec.toNat_and, h1, Nat.and_one_is_mod, BitVec.toNat_ofInt]
  have h2 : (x % ((2 ^ 64 : Nat) : Int)).toNat % 2 < 2 := Nat.mod_lt _ (by decide)
  rw [Bit.i64_small _ (by omega)]
  have h3 : ((2 ^ 64 : Nat) : Int) = 18446744073709551616 := by decide
  rw [h3]; omega
/-- a number of bits -/
def pk (b : Nat → Int) : Nat → Int
  | 0 => 0
  | k + 1 => pk b k + b k * 2 ^ k
theorem pk_ext {b c : Nat → Int} : ∀ k, (∀ q, q < k → b q = c q) → pk b k = pk c k
  | 0, _ => rfl
  | k + 1, h => by unfold pk; rw [pk_ext k (fun q hq => h q (by omega)), h k (by omega)]
theorem two_pow (k : Nat) : (2 : Int) ^ k = ((2 ^ k : Nat) : Int) := by simp
theorem pk_rng {b : Nat → Int} : ∀ k, (∀ q, q < k → b q = 0 ∨ b q = 1) → 0 ≤ pk b k ∧ pk b k < 2 ^ k
  | 0, _ => ⟨Int.le_refl _, by show (0 : Int) < 2 ^ 0; decide⟩
  | k + 1, h => by
    have ih := pk_rng k (fun q hq => h q (by omega))
    have hk := h k (by omega)
    have hp : (0 : Int) < 2 ^ k := Int.pow_pos (by decide)
    unfold pk
    rw [Int.pow_succ]
    rcases hk with e | e <;> rw [e] <;> omega
theorem pow4 {k : Nat} (h : k ≤ 4) : (2 : Int) ^ k ≤ 16 := by
  have h1 : (2 : Nat) ^ k ≤ 2 ^ 4 := Nat.pow_le_pow_right (by decide) h
  have h2 : (2 : Nat) ^ 4 = 16 := by decide
  rw [two_pow]; omega
theorem pk16 {b : Nat → Int} {k : Nat} (h : ∀ q, q < k → b q = 0 ∨ b q = 1) (hk : k ≤ 4) : 0 ≤ pk b k ∧ pk b k < 16 := by
  have := pk_rng k h
  have := pow4 hk
  omega
theorem shl_pk {b : Int} {k : Nat} (hb : b = 0 ∨ b = 1) (hk : k ≤ 4) : IntKind.i64.wrap (b * 2 ^ ((k : Int)).toNat) = b * 2 ^ k := by
  have hp := pow4 hk
  have hp0 : (0 : Int) < 2 ^ k := Int.pow_pos (by decide)
  rw [Int.toNat_natCast]
  exact IntWalk.i64_in _ (by rcases hb with e | e <;> rw [e] <;> omega)
theorem or_pk {b : Nat → Int} {k : Nat} (h : ∀ q, q < k → b q = 0 ∨ b q = 1) (hb : b k = 0 ∨ b k = 1) (hk : k ≤ 4) : bits .or .i64 (pk b k) (b k * 2 ^ k) = pk b (k + 1) := by
  obtain ⟨h0, h1⟩ := pk_rng k h
  have hp := pow4 hk
  have hp0 : (0 : Int) < 2 ^ k := Int.pow_pos (by decide)
  rw [Bit.or_int _ _ h0 (by omega) (by rcases hb with e | e <;> rw [e] <;> omega) (by rcases hb with e | e <;> rw [e] <;> omega)]
  have e2 : (b k * 2 ^ k).toNat = (b k).toNat * 2 ^ k := by
    rcases hb with e | e <;> rw [e]
    · simp
    · rw [Int.one_mul, two_pow, Int.toNat_natCast]; simp
  have hlt : (pk b k).toNat < 2 ^ k := by rw [two_pow] at h1; omega
  rw [e2, Bit.or_join _ _ _ hlt]
  show _ = pk b k + b k * 2 ^ k
  rw [← e2]
  have : 0 ≤ b k * 2 ^ k := by rcases hb with e | e <;> rw [e] <;> omega
  omega
/-- a list and zeros behind it -/
def fzT (C : Nat) (vs : List Int) : List Int := vs ++ List.replicate (C - vs.length) 0
theorem fz_len {C : Nat} {vs : List Int} (h : vs.length ≤ C) : (fzT C vs).length = C := by simp [fzT]; omega
theorem fz_get {C : Nat} {vs : List Int} {k : Nat} (h : k < vs.length) : (fzT C vs).getD k 0 = vs.getD k 0 := zct h
theorem fz_all {C : Nat} {vs : List Int} (h : vs.length = C) : fzT C vs = vs := by unfold fzT; rw [h, Nat.sub_self]; simp
theorem fz_set {C : Nat} {vs : List Int} {x : Int} {j : Nat} (hj : j = vs.length) (h : vs.length < C) : (fzT C vs).set j x = fzT C (vs ++ [x]) := by
  subst hj
  unfold fzT
  rw [List.set_append_right _ _ (Nat.le_refl _), Nat.sub_self, List.length_append, List.length_singleton, show C - vs.length = (C - (vs.length + 1)) + 1 by omega, List.replicate_succ, List.set_cons_zero]
  simp
theorem fz_one {C : Nat} (h : 1 ≤ C) : List.replicate C (0 : Int) = fzT C [0] := by
  unfold fzT
  obtain ⟨c, rfl⟩ : ∃ c, C = c + 1 := ⟨C - 1, by omega⟩
  simp [List.replicate_succ]
theorem fz_nil (C : Nat) : List.replicate C (0 : Int) = fzT C [] := by simp [fzT]
/-- values of a net's nodes -/
def pa_o (inp : Int) (k : Nat) : List Int := [0] ++ (List.range k).map (fun k => inp / 2 ^ k % 2)
def pb_o (n : Ln) (st : List Int) (inp : Int) (k : Nat) : List Int := pa_o inp n.ins.toNat ++ (st.take k).map (· % 2)
def lutV (l : Lt) (b : Nat → Int) : Int := l.ma / 2 ^ (pk b l.xs.length).toNat % 2
abbrev atV (v : List Int) (ns : List Int) : Nat → Int := fun j => v.getD (ns.getD j 0).toNat 0
def vlL (n : Ln) (st : List Int) (inp : Int) : Nat → List Int
  | 0 => pb_o n st inp st.length
  | i + 1 => vlL n st inp i ++ [lutV (n.ls.getD i lt0) (atV (vlL n st inp i) (n.ls.getD i lt0).xs)]
abbrev valT (n : Ln) (st : List Int) (inp : Int) : List Int := vlL n st inp n.ls.length
theorem pa_len (inp : Int) (k : Nat) : (pa_o inp k).length = 1 + k := by simp [pa_o]; omega
theorem pa_step (inp : Int) (k : Nat) : pa_o inp k ++ [inp / 2 ^ k % 2] = pa_o inp (k + 1) := by unfold pa_o; rw [List.range_succ, List.map_append, List.append_assoc]; rfl
theorem pb_len (n : Ln) (st : List Int) (inp : Int) {k : Nat} (h : k ≤ st.length) : (pb_o n st inp k).length = 1 + n.ins.toNat + k := by simp [pb_o, pa_len]; omega
theorem pb_zero (n : Ln) (st : List Int) (inp : Int) : pa_o inp n.ins.toNat = pb_o n st inp 0 := by simp [pb_o]
theorem pb_step (n : Ln) (st : List Int) (inp : Int) {k : Nat} (h : k < st.length) : pb_o n st inp k ++ [st.getD k 0 % 2] = pb_o n st inp (k + 1) := by unfold pb_o; rw [zer 0 h, List.map_append, List.append_assoc]; rfl
theorem zes (n : Ln) (st : List Int) (inp : Int) : ∀ i, (vlL n st inp i).length = 1 + n.ins.toNat + st.length + i
  | 0 => pb_len n st inp (Nat.le_refl _)
  | i + 1 => by unfold vlL; rw [List.length_append, zes n st inp i]; simp; omega
theorem mod01 (x : Int) : x % 2 = 0 ∨ x % 2 = 1 := by omega
theorem lut01 (l : Lt) (b : Nat → Int) : lutV l b = 0 ∨ lutV l b = 1 := mod01 _
theorem b01_mod (xs : List Int) : B01 (xs.map (· % 2)) := fun k hk => by
  rw [List.length_map] at hk
  have : (xs.map (· % 2)).getD k 0 = xs.getD k 0 % 2 := getD_mapv (· % 2) xs k 0
  rw [this]; exact mod01 _
theorem b01_cat {u v : List Int} (h : B01 u) (k : B01 v) : B01 (u ++ v) := fun i hi => by
  by_cases h1 : i < u.length
  · rw [zct h1]; exact h i h1
  · rw [zde (by omega)]; exact k _ (by rw [List.length_append] at hi; omega)
theorem pa01 (inp : Int) (k : Nat) : B01 (pa_o inp k) := by
  refine b01_cat (fun i hi => .inl (by simp at hi; subst hi; rfl)) (fun i hi => ?_)
  simp at hi
  have : ((List.range k).map (fun k => inp / 2 ^ k % 2)).getD i 0 = inp / 2 ^ i % 2 := by simp [hi]
  rw [this]; exact mod01 _
theorem pb01 (n : Ln) (st : List Int) (inp : Int) (k : Nat) : B01 (pb_o n st inp k) := b01_cat (pa01 _ _) (b01_mod _)
theorem vl01 (n : Ln) (st : List Int) (inp : Int) : ∀ i, B01 (vlL n st inp i)
  | 0 => pb01 n st inp _
  | i + 1 => by unfold vlL; exact b01_cat (vl01 n st inp i) (fun k hk => by simp at hk; subst hk; exact lut01 _ _)
set_option maxHeartbeats 4000000 in
set_option maxRecDepth 100000 in
theorem packNodes_ans (xs ns : List Int) (v u : Value) (w : World) (hv : RdsW w v 1 xs.length (xs.map (Value.int .i64))) (hu : RdsW w u 1 ns.length (ns.map (Value.int .i64))) (hl : ns.length ≤ 4) (hns : ∀ q, q < ns.length → 0 ≤ ns.getD q 0 ∧ ns.getD q 0 < xs.length) (h01 : ∀ q, q < ns.length → atV xs ns q = 0 ∨ atV xs ns q = 1) :
   Calls Try.prog 66 #[v, u] w (Ans w (.int .i64 (pk (atV xs ns) ns.length))) := by
 refine zbh (N := 26) (args := [v, u]) Try.func66 rfl rfl (zba 1 rfl (zba 1 rfl (zac ?_)))
 refine zac (reQ 1 rfl (hvQ rfl (lnQ rfl rfl rfl (zab hu)) (zbc 1 rfl (zax ?_))))
 refine lkQ2 (α := Nat) (β := Int) [0, 1, 4, 8, 9] rfl (fun k q => []) (fun k q => [(5, .int .i64 q), (10, .int .i64 (k : Int))]) (fun k q => k ≤ ns.length ∧ q = pk (atV xs ns) k) (fun k q => ns.length - k) 0 0 ⟨Nat.zero_le _, rfl⟩ (saQ rfl) (.slnil) ?_
 intro k q hi1
 obtain ⟨hk, hq⟩ := hi1
 refine srQ ?_
 refine zbn rfl rfl rfl rfl rfl rfl (fun h2 => ?_) (fun h2 => ?_)
 ·
  refine ntQ (tcQ rfl (zcq (sbQ (zac (reQ 1 rfl (hvQ rfl (riQ 1 rfl rfl rfl rfl (zab hu)) (hvQ rfl (liQ rfl rfl rfl (zab hu)) ?_)))))))
  refine zbc 2 rfl (zbg ?_)
  have hnk := hns k (by omega)
  have hbk := h01 k (by omega)
  have hpr := pk16 (b := atV xs ns) (k := k) (fun z hz => h01 z (by omega)) (by omega)
  have hbk2 : xs.getD (ns.getD k 0).toNat 0 = 0 ∨ xs.getD (ns.getD k 0).toNat 0 = 1 := hbk
  have hpw := pow4 (k := k) (by omega)
  have hpw0 : (0 : Int) < 2 ^ k := Int.pow_pos (by decide)
  refine zar 3 rfl (hvQ rfl (riQ 1 rfl rfl rfl rfl (zab hv)) (hvQ rfl (lzQ rfl rfl rfl (zab hv)) (zar 1 rfl (hvQ rfl (rv_conv rfl Try.underlying3 Try.underlying111 rfl (IntWalk.u64_in _ (by omega))) (hvQ rfl (zfw (k := .i64) (kk := .u64) (r := xs.getD (ns.getD k 0).toNat 0 * 2 ^ k) rfl rfl rfl rfl (by omega) (shl_pk hbk2 (by omega))) ?_)))))
  refine hvQ rfl (zdb rfl (by decide) rfl rfl (r := pk (atV xs ns) (k + 1)) (by rw [hq]; exact or_pk (fun z hz => h01 z (by omega)) hbk (by omega))) (enQ 1 rfl (zcv (zbg (hvQ rfl (vaQ rfl rfl rfl) (enQ 1 rfl ?_)))))
  exact zca (k + 1) _ ⟨by omega, by first | rfl | (rw [hq]; rfl)⟩ (by omega) (saQ rfl) (.slnil)
 refine ntQ (fcQ rfl ?_)
 refine zbb (zds ?_)
 refine zai (zay (zba 2 rfl ?_))
 exact zaw (zbf rfl rfl (by rw [hq, show k = ns.length by omega]))
set_option maxHeartbeats 4000000 in
set_option maxRecDepth 100000 in
theorem l20Pack_ans (xs ns : List Int) (v u : Value) (w : World) (hv : RdsW w v 1 xs.length (xs.map (Value.int .i64))) (hu : RdsW w u 1 ns.length (ns.map (Value.int .i64))) (hl : ns.length ≤ 4) (hns : ∀ q, q < ns.length → 0 ≤ ns.getD q 0 ∧ ns.getD q 0 < xs.length) (h01 : ∀ q, q < ns.length → atV xs ns q = 0 ∨ atV xs ns q = 1) :
   Calls Try.prog 45 #[v, u] w (Ans w (.int .i64 (pk (atV xs ns) ns.length))) := by
 refine zbh (N := 25) (args := [v, u]) Try.func45 rfl rfl (zba 1 rfl (zba 1 rfl (zac ?_)))
 refine zba 1 rfl (zax ?_)
 refine lkQ2 (α := Nat) (β := Int) [0, 1, 4] rfl (fun k q => []) (fun k q => [(5, .int .i64 q), (6, .int .i64 (k : Int))]) (fun k q => k ≤ ns.length ∧ q = pk (atV xs ns) k) (fun k q => ns.length - k) 0 0 ⟨Nat.zero_le _, rfl⟩ (saQ rfl) (.slnil) ?_
 intro k q hi1
 obtain ⟨hk, hq⟩ := hi1
 refine zac (zac (reQ 2 rfl (hvQ rfl (lnQ rfl rfl rfl (zab hu)) ?_)))
 refine zbn rfl rfl rfl rfl rfl rfl (fun h2 => ?_) (fun h2 => ?_)
 ·
  refine ntQ (zan rfl (zcq (sbQ (zbg ?_))))
  have hnk := hns k (by omega)
  have hbk := h01 k (by omega)
  have hpr := pk16 (b := atV xs ns) (k := k) (fun z hz => h01 z (by omega)) (by omega)
  have hbk2 : xs.getD (ns.getD k 0).toNat 0 = 0 ∨ xs.getD (ns.getD k 0).toNat 0 = 1 := hbk
  have hpw := pow4 (k := k) (by omega)
  have hpw0 : (0 : Int) < 2 ^ k := Int.pow_pos (by decide)
  refine zar 4 rfl (hvQ rfl (riQ 1 rfl rfl rfl rfl (zab hu)) (hvQ rfl (liQ rfl rfl rfl (zab hu)) (hvQ rfl (riQ 1 rfl rfl rfl rfl (zab hv)) (hvQ rfl (lzQ rfl rfl rfl (zab hv)) (zar 1 rfl (hvQ rfl (zfw (k := .i64) (kk := .i64) (r := xs.getD (ns.getD k 0).toNat 0 * 2 ^ k) rfl rfl rfl rfl (by omega) (shl_pk hbk2 (by omega))) (hvQ rfl (rv_add rfl rfl rfl (by rw [hq]; constructor <;> (rcases hbk2 with e | e <;> rw [e] <;> omega))) (enQ 1 rfl (zcv ?_)))))))))
  refine reQ 1 rfl (hvQ rfl (vaQ rfl rfl rfl) (enQ 1 rfl ?_))
  exact zca (k + 1) _ ⟨by omega, by first | rfl | (rw [hq]; rfl)⟩ (by omega) (saQ rfl) (.slnil)
 refine ntQ (zaq rfl ?_)
 refine zbb (zds ?_)
 refine zai (zay (zba 2 rfl ?_))
 exact zaw (zbf rfl rfl (by rw [hq, show k = ns.length by omega]))
set_option maxHeartbeats 4000000 in
set_option maxRecDepth 100000 in
theorem lutValues_ret (n : Ln) (st : List Int) (v : Value) (inp : Int) (w : World) (hr : RdsLn w n) (hst : RdsW w v 1 st.length (st.map (Value.int .i64))) (hok : LnOk n) (hsp : StP n st) :
   Calls Try.prog 39 #[.agg #[.int .i64 n.ins, n.sv, n.lv, n.ov], v, .int .i64 inp] w (Ret w (fun v' post => post = [rowE 3 1 v' (valT n st inp).length ((valT n st inp).map (Value.int .i64))])) := by
 have hso := sml hr.ou
 have hss := hr.sq.small
 have hsl := hr.lt.small
 have hcnt : n.cnt = 1 + n.ins + n.ss.length + n.ls.length := rfl
 have hfst : n.fst = 1 + n.ins + n.ss.length := rfl
 obtain ⟨⟨si0, si1⟩, s2, s3, s4⟩ := hok.sz
 have hsl9 := hsp.len
 refine zbh (N := 73) (args := [.agg #[.int .i64 n.ins, n.sv, n.lv, n.ov], v, .int .i64 inp]) Try.func39 rfl rfl (srQ ?_)
 refine zef rfl (zcx rfl rfl) ?_
 intro b1
 refine zbc 1 rfl (srQ (hvQ rfl (zas (cs := [.int .i64 n.ins, n.sv, n.lv, n.ov]) rfl rfl rfl rfl rfl (zao 0 rfl 0 rfl)) ?_))
 refine zdn rfl (zap rfl rfl (fun w hm => zau (zey n w (hr.below hm.bel) hok.sz))) (zdw rfl (zem (z := .int .i64 0) (s := 1) (bytes := 8) (n := (List.replicate (n.cnt).toNat (0 : Int)).length) (cs := ((List.replicate (n.cnt).toNat (0 : Int)).map (Value.int .i64))) rfl Try.underlying26 rfl (by decide) rfl rfl (by first | (rw [List.length_replicate]; done) | (rw [List.length_replicate]; omega)) (by first | (rw [List.length_replicate]; done) | (rw [List.length_replicate]; omega)) (by rw [List.length_replicate]; omega) (zfc _)) ?_)
 intro g2
 refine zbc 1 rfl (zac (zba 1 rfl (zax ?_)))
 refine zft (α := Nat) (β := List Int) (fun k zs => [rowE 3 1 (.slice (some ⟨g2, 0, none⟩) ((List.replicate (n.cnt).toNat (0 : Int)).length) ((List.replicate (n.cnt).toNat (0 : Int)).length)) zs.length (zs.map (Value.int .i64)), boxE b1 #[.int .i64 n.ins, n.sv, n.lv, n.ov] 28]) (fun k zs => [(0, .agg #[.int .i64 n.ins, n.sv, n.lv, n.ov]), (1, v), (2, .int .i64 inp), (3, .pointer (some ⟨b1, 0, none⟩)), (6, .slice none 0 0), (7, .slice (some ⟨g2, 0, none⟩) ((List.replicate (n.cnt).toNat (0 : Int)).length) ((List.replicate (n.cnt).toNat (0 : Int)).length)), (8, .int .i64 (k : Int))]) (fun k zs => (k : Int) ≤ n.ins ∧ zs = fzT n.cnt.toNat (pa_o inp k)) (fun k zs => (n.ins).toNat - k) 0 (List.replicate n.cnt.toNat (0 : Int)) ⟨by omega, fz_one (by omega)⟩ (saQ rfl) (.cons_cons _ (pfQ rfl)) ?_
 intro k zs hi3
 obtain ⟨hk, hz⟩ := hi3
 have hzl : zs.length = n.cnt.toNat := by rw [hz]; exact fz_len (by rw [pa_len]; omega)
 refine zac (zac (reQ 1 rfl (hvQ rfl (zaa (k0 := 0) rfl rfl rfl) (hvQ rfl (zaj rfl rfl rfl (zae 1 rfl rfl)) ?_))))
 refine zbn rfl rfl rfl rfl rfl rfl (fun h4 => ?_) (fun h4 => ?_)
 ·
  refine ntQ (zan rfl (zcq (sbQ (reQ 2 rfl (hvQ rfl (vaQ rfl rfl rfl) (zar 2 rfl (hvQ rfl (rv_conv rfl Try.underlying3 Try.underlying111 rfl (IntWalk.u64_in _ (by omega))) (hvQ rfl (rv_shr rfl rfl rfl (by omega)) ?_))))))))
  refine hvQ rfl (zdb rfl (by decide) rfl rfl (r := inp / 2 ^ k % 2) (by rw [show (inp / 2 ^ ((k : Int)).toNat : Int) = inp / 2 ^ k by rw [Int.toNat_natCast]]; exact andOne _)) (hvQ rfl (riQ 1 rfl rfl rfl rfl (zag 0 rfl)) ?_)
  refine zcz (i := 0) (n' := (zs.set ((1 + (k : Int)).toNat) (inp / 2 ^ k % 2)).length) (xs' := ((zs.set ((1 + (k : Int)).toNat) (inp / 2 ^ k % 2)).map (Value.int .i64))) rfl rfl rfl rfl rfl rfl rfl rfl (by first | omega | (simp only [List.length_set]; omega)) List.length_set.symm (zdj _ _ _) rfl (zcf (zcv (reQ 1 rfl (hvQ rfl (vaQ rfl rfl rfl) (enQ 1 rfl ?_)))))
  exact zca (k + 1) (zs.set ((1 + (k : Int)).toNat) (inp / 2 ^ k % 2)) ⟨by omega, by rw [hz]; exact (fz_set (by rw [pa_len]; omega) (by rw [pa_len]; omega)).trans (by rw [pa_step])⟩ (by omega) (saQ rfl) (.cons_cons _ (pfQ rfl))
 refine ntQ (zaq rfl ?_)
 refine zbb (zds ?_)
 refine zai (zay (zac (zac (reQ 1 rfl (hvQ rfl (lnQ rfl rfl rfl (zab hst)) (zbc 1 rfl (zax ?_)))))))
 refine zft (α := Nat) (β := List Int) (fun k zs => [rowE 3 1 (.slice (some ⟨g2, 0, none⟩) ((List.replicate (n.cnt).toNat (0 : Int)).length) ((List.replicate (n.cnt).toNat (0 : Int)).length)) zs.length (zs.map (Value.int .i64)), boxE b1 #[.int .i64 n.ins, n.sv, n.lv, n.ov] 28]) (fun k zs => [(0, .agg #[.int .i64 n.ins, n.sv, n.lv, n.ov]), (1, v), (2, .int .i64 inp), (3, .pointer (some ⟨b1, 0, none⟩)), (6, .slice none 0 0), (7, .slice (some ⟨g2, 0, none⟩) ((List.replicate (n.cnt).toNat (0 : Int)).length) ((List.replicate (n.cnt).toNat (0 : Int)).length)), (19, .bool false), (31, v), (32, .int .i64 (st.length : Int)), (33, .int .i64 (k : Int))]) (fun k zs => (k : Int) ≤ (st.length : Int) ∧ zs = fzT n.cnt.toNat (pb_o n st inp k)) (fun k zs => ((st.length : Int)).toNat - k) 0 zs ⟨by omega, by rw [hz, show k = n.ins.toNat by omega, pb_zero n st inp]⟩ (saQ rfl) (.cons_cons _ (pfQ rfl)) ?_
 intro k zs hi5
 obtain ⟨hk, hz⟩ := hi5
 have hzl : zs.length = n.cnt.toNat := by rw [hz]; exact fz_len (by rw [pb_len n st inp (by omega)]; omega)
 refine srQ ?_
 refine zbn rfl rfl rfl rfl rfl rfl (fun h6 => ?_) (fun h6 => ?_)
 ·
  refine ntQ (tcQ rfl (zcq (sbQ (zac (reQ 1 rfl (hvQ rfl (riQ 1 rfl rfl rfl rfl (zab hst)) (hvQ rfl (liQ rfl rfl rfl (zab hst)) ?_)))))))
  refine zbc 2 rfl (reQ 1 rfl (hvQ rfl (zaa (k0 := 0) rfl rfl rfl) (hvQ rfl (zaj rfl rfl rfl (zae 1 rfl rfl)) (hvQ rfl (vaQ rfl rfl rfl) (zar 1 rfl (hvQ rfl (vaQ rfl rfl rfl) (zar 1 rfl (hvQ rfl (zdb rfl (by decide) rfl rfl (r := (st.getD k 0) % 2) (andOne _)) (hvQ rfl (riQ 1 rfl rfl rfl rfl (zag 0 rfl)) ?_)))))))))
  refine zcz (i := 0) (n' := (zs.set (((1 + n.ins) + (k : Int)).toNat) ((st.getD k 0) % 2)).length) (xs' := ((zs.set (((1 + n.ins) + (k : Int)).toNat) ((st.getD k 0) % 2)).map (Value.int .i64))) rfl rfl rfl rfl rfl rfl rfl rfl (by first | omega | (simp only [List.length_set]; omega)) List.length_set.symm (zdj _ _ _) rfl (zcf (zcv (zbg (hvQ rfl (vaQ rfl rfl rfl) (enQ 1 rfl ?_)))))
  exact zca (k + 1) (zs.set (((1 + n.ins) + (k : Int)).toNat) ((st.getD k 0) % 2)) ⟨by omega, by rw [hz]; exact (fz_set (by rw [pb_len n st inp (by omega)]; omega) (by rw [pb_len n st inp (by omega)]; omega)).trans (by rw [pb_step n st inp (by omega)])⟩ (by omega) (saQ rfl) (.cons_cons _ (pfQ rfl))
 refine ntQ (fcQ rfl ?_)
 refine zbb (zds ?_)
 refine zai (zay (zgg (hvQ rfl (zaa (k0 := 2) rfl rfl rfl) (hvQ rfl (zaj rfl rfl rfl (zae 1 rfl rfl)) (hvQ rfl (lnQ rfl rfl rfl (zab ((hr).lt.row))) (zbc 1 rfl (zax ?_)))))))
 refine zft (α := Nat) (β := List Int) (fun k zs => [rowE 3 1 (.slice (some ⟨g2, 0, none⟩) ((List.replicate (n.cnt).toNat (0 : Int)).length) ((List.replicate (n.cnt).toNat (0 : Int)).length)) zs.length (zs.map (Value.int .i64)), boxE b1 #[.int .i64 n.ins, n.sv, n.lv, n.ov] 28]) (fun k zs => [(0, .agg #[.int .i64 n.ins, n.sv, n.lv, n.ov]), (1, v), (2, .int .i64 inp), (3, .pointer (some ⟨b1, 0, none⟩)), (6, .slice none 0 0), (7, .slice (some ⟨g2, 0, none⟩) ((List.replicate (n.cnt).toNat (0 : Int)).length) ((List.replicate (n.cnt).toNat (0 : Int)).length)), (19, .bool false), (31, v), (32, .int .i64 (st.length : Int)), (34, .bool false), (49, n.lv), (50, .int .i64 (n.ls.length : Int)), (51, .int .i64 (k : Int))]) (fun k zs => (k : Int) ≤ (n.ls.length : Int) ∧ zs = fzT n.cnt.toNat (vlL n st inp k)) (fun k zs => ((n.ls.length : Int)).toNat - k) 0 zs ⟨by omega, by rw [hz, show k = st.length by omega]; rfl⟩ (saQ rfl) (.cons_cons _ (pfQ rfl)) ?_
 intro k zs hi7
 obtain ⟨hk, hz⟩ := hi7
 have hzl : zs.length = n.cnt.toNat := by rw [hz]; exact fz_len (by rw [zes n st inp k]; omega)
 refine srQ ?_
 refine zbn rfl rfl rfl rfl rfl rfl (fun h8 => ?_) (fun h8 => ?_)
 ·
  refine ntQ (tcQ rfl (zcq (sbQ (zac (reQ 1 rfl (hvQ rfl (riQ 2 rfl rfl rfl rfl (zab ((hr).lt.row))) ?_))))))
  refine hvQ rfl (zdl (us := [(n.ls.getD k lt0).iv, .int .i64 ((n.ls.getD k lt0).ma)]) rfl rfl rfl rfl (zab ((hr).lt.row)) (by omega) rfl (zek ltC 2 (fun _ => rfl) n.ls lt0 (show k < _ by omega) rfl)) (zef rfl (zbw (z := .agg #[.slice none 0 0, .int .i64 0]) rfl rfl) ?_)
  intro b9
  refine zar 1 rfl (zcb (cs' := #[(n.ls.getD k lt0).iv, .int .i64 ((n.ls.getD k lt0).ma)]) (i := 0) (off := 0) (us := [(n.ls.getD k lt0).iv, .int .i64 ((n.ls.getD k lt0).ma)]) rfl rfl rfl rfl rfl rfl rfl (zaf (hr.lt.at (d := lt0) (k := k) (by omega)).one (zaf rfl zbo)) rfl rfl rfl ?_)
  refine ntQ ?_
  have hvl := zes n st inp k
  have hltk := hok.lt k (by omega)
  have hx4 : (n.ls.getD k lt0).xs.length ≤ 4 := hltk.1.1
  have hxr : ∀ q, q < (n.ls.getD k lt0).xs.length → 0 ≤ (n.ls.getD k lt0).xs.getD q 0 ∧ (n.ls.getD k lt0).xs.getD q 0 < zs.length := fun q hq => by have := hltk.1.2 q hq; omega
  have hat : ∀ q, q < (n.ls.getD k lt0).xs.length → atV zs (n.ls.getD k lt0).xs q = atV (vlL n st inp k) (n.ls.getD k lt0).xs q := fun q hq => by have := hltk.1.2 q hq; show zs.getD _ 0 = _; rw [hz]; exact fz_get (by omega)
  have hx01 : ∀ q, q < (n.ls.getD k lt0).xs.length → atV zs (n.ls.getD k lt0).xs q = 0 ∨ atV zs (n.ls.getD k lt0).xs q = 1 := fun q hq => by rw [hat q hq]; have := hltk.1.2 q hq; exact vl01 n st inp k _ (by omega)
  have hpk := pk16 (b := atV zs (n.ls.getD k lt0).xs) (k := (n.ls.getD k lt0).xs.length) hx01 hx4
  have hpe : pk (atV zs (n.ls.getD k lt0).xs) (n.ls.getD k lt0).xs.length = pk (atV (vlL n st inp k) (n.ls.getD k lt0).xs) (n.ls.getD k lt0).xs.length := pk_ext _ hat
  refine zbi 15 [[], [], [1], [], [2, 3], [], [5], [], [], [8], [7, 9], [10], [6, 11], [12], [0, 4]] [56, 57, 58, 59, 60, 61, 62, 63, 64, 65, 66, 67, 68, 69, 70] [.slice (some ⟨g2, 0, none⟩) ((List.replicate (n.cnt).toNat (0 : Int)).length) ((List.replicate (n.cnt).toNat (0 : Int)).length), .agg #[.int .i64 n.ins, n.sv, n.lv, n.ov], .int .i64 n.fst, .int .i64 (k : Int), .int .i64 (n.fst + (k : Int)), .pointer (some ⟨b9, 0 + 1, none⟩), .int .i64 ((n.ls.getD k lt0).ma), .slice (some ⟨g2, 0, none⟩) ((List.replicate (n.cnt).toNat (0 : Int)).length) ((List.replicate (n.cnt).toNat (0 : Int)).length), .pointer (some ⟨b9, 0 + 0, none⟩), (n.ls.getD k lt0).iv, .int .i64 (pk (atV zs ((n.ls.getD k lt0).xs)) ((n.ls.getD k lt0).xs).length), .int .u64 (pk (atV zs ((n.ls.getD k lt0).xs)) ((n.ls.getD k lt0).xs).length), .int .i64 (((n.ls.getD k lt0).ma) / 2 ^ (pk (atV zs ((n.ls.getD k lt0).xs)) ((n.ls.getD k lt0).xs).length : Int).toNat), .int .i64 ((((n.ls.getD k lt0).ma) / 2 ^ (pk (atV zs ((n.ls.getD k lt0).xs)) ((n.ls.getD k lt0).xs).length : Int).toNat) % 2), elP (.slice (some ⟨g2, 0, none⟩) ((List.replicate (n.cnt).toNat (0 : Int)).length) ((List.replicate (n.cnt).toNat (0 : Int)).length)) ((n.fst + (k : Int)).toNat * 1)] (by kernel_rfl) rfl ?_ ?_
  ·
   exact ⟨iaQ rfl (zah rfl) rfl, iaQ rfl (zas (cs := [.int .i64 n.ins, n.sv, n.lv, n.ov]) rfl rfl rfl rfl rfl (zao 2 rfl 0 rfl)) rfl, .inl ⟨rfl, zap rfl rfl (fun w hm => zau (zej n w (hr.below hm.bel) hok.sz))⟩, iaQ rfl (zah rfl) rfl, iaQ rfl (vaQ rfl rfl rfl) rfl, iaQ rfl (zaa (k0 := 1) rfl rfl rfl) rfl, iaQ rfl (zaj rfl rfl rfl (zae 0 rfl rfl)) rfl, iaQ rfl (zah rfl) rfl, iaQ rfl (zaa (k0 := 0) rfl rfl rfl) rfl, iaQ rfl (zaj rfl rfl rfl (zae 0 rfl rfl)) rfl, .inl ⟨rfl, zap rfl rfl (fun w hm => zau (packNodes_ans zs ((n.ls.getD k lt0).xs) _ _ w ((zag 1 rfl) w hm) ((zab ((hr).lt.at (d := lt0) (k := k) (by omega))) w hm) hx4 hxr hx01))⟩, iaQ rfl (rv_conv rfl Try.underlying3 Try.underlying111 rfl (IntWalk.u64_in _ (by omega))) rfl, iaQ rfl (rv_shr rfl rfl rfl (by omega)) rfl, iaQ rfl (zdb rfl (by decide) rfl rfl (r := (((n.ls.getD k lt0).ma) / 2 ^ (pk (atV zs ((n.ls.getD k lt0).xs)) ((n.ls.getD k lt0).xs).length : Int).toNat) % 2) (andOne _)) rfl, iaQ rfl (riQ 1 rfl rfl rfl rfl (zag 1 rfl)) rfl, trivial⟩
  simp only [List.drop_succ_cons, List.drop_zero]
  refine zcz (i := 1) (n' := (zs.set ((n.fst + (k : Int)).toNat) ((((n.ls.getD k lt0).ma) / 2 ^ (pk (atV zs ((n.ls.getD k lt0).xs)) ((n.ls.getD k lt0).xs).length : Int).toNat) % 2)).length) (xs' := ((zs.set ((n.fst + (k : Int)).toNat) ((((n.ls.getD k lt0).ma) / 2 ^ (pk (atV zs ((n.ls.getD k lt0).xs)) ((n.ls.getD k lt0).xs).length : Int).toNat) % 2)).map (Value.int .i64))) rfl rfl rfl rfl rfl rfl rfl rfl (by first | omega | (simp only [List.length_set]; omega)) List.length_set.symm (zdj _ _ _) rfl (zcf (zcv (zbg (hvQ rfl (vaQ rfl rfl rfl) (enQ 1 rfl ?_)))))
  exact zca (k + 1) (zs.set ((n.fst + (k : Int)).toNat) ((((n.ls.getD k lt0).ma) / 2 ^ (pk (atV zs ((n.ls.getD k lt0).xs)) ((n.ls.getD k lt0).xs).length : Int).toNat) % 2)) ⟨by omega, by rw [hz]; exact (fz_set (by rw [zes n st inp k]; omega) (by rw [zes n st inp k]; omega)).trans (congrArg (fun q => fzT n.cnt.toNat (vlL n st inp k ++ [q])) (show _ / 2 ^ (pk (atV (fzT n.cnt.toNat (vlL n st inp k)) (n.ls.getD k lt0).xs) _).toNat % 2 = lutV _ _ by rw [← hz, hpe]; rfl))⟩ (by omega) (saQ rfl) (.cons _ (.cons_cons _ (pfQ rfl)))
 refine ntQ (fcQ rfl ?_)
 refine zbb (zds ?_)
 refine zai (zay (zba 2 rfl ?_))
 exact zaw (zdh (post := [rowE 3 1 (.slice (some ⟨g2, 0, none⟩) ((List.replicate (n.cnt).toNat (0 : Int)).length) ((List.replicate (n.cnt).toNat (0 : Int)).length)) zs.length (zs.map (Value.int .i64))]) rfl rfl (.cons_cons _ (slQ [] rfl)) (by rw [hz, show k = n.ls.length by omega, fz_all (by rw [zes n st inp]; omega)]))
set_option maxHeartbeats 4000000 in
set_option maxRecDepth 100000 in
theorem specLutValues_ret (n : Ln) (st : List Int) (v : Value) (inp : Int) (w : World) (hr : RdsLn w n) (hst : RdsW w v 1 st.length (st.map (Value.int .i64))) (hok : LnOk n) (hsp : StP n st) :
   Calls Try.prog 17 #[.agg #[.int .i64 n.ins, n.sv, n.lv, n.ov], v, .int .i64 inp] w (Ret w (fun v' post => post = [rowE 3 1 v' (valT n st inp).length ((valT n st inp).map (Value.int .i64))])) := by
 have hso := sml hr.ou
 have hss := hr.sq.small
 have hsl := hr.lt.small
 have hcnt : n.cnt = 1 + n.ins + n.ss.length + n.ls.length := rfl
 have hfst : n.fst = 1 + n.ins + n.ss.length := rfl
 obtain ⟨⟨si0, si1⟩, s2, s3, s4⟩ := hok.sz
 have hsl9 := hsp.len
 refine zbh (N := 81) (args := [.agg #[.int .i64 n.ins, n.sv, n.lv, n.ov], v, .int .i64 inp]) Try.func17 rfl rfl (srQ ?_)
 refine zef rfl (zcx rfl rfl) ?_
 intro b1
 refine zbc 1 rfl (zgg (hvQ rfl (zas (cs := [.int .i64 n.ins, n.sv, n.lv, n.ov]) rfl rfl rfl rfl rfl (zao 0 rfl 0 rfl)) (zar 1 rfl ?_)))
 refine zdn rfl (zap rfl rfl (fun w hm => zau (by have h9 := specLutStateOk_ans n st _ w (hr.below hm.bel) (hst.below hm.bel); rw [zet ⟨hok, hsp⟩] at h9; exact h9))) (zbc 1 rfl (zaq rfl (zcq (srQ (hvQ rfl (zas (cs := [.int .i64 n.ins, n.sv, n.lv, n.ov]) rfl rfl rfl rfl rfl (zao 0 rfl 0 rfl)) ?_)))))
 refine zdn rfl (zap rfl rfl (fun w hm => zau (by have h9 := specLutNodes_ans n w (hr.below hm.bel); rw [lnN_yes hok.sz] at h9; exact h9))) (zdw rfl (zem (z := .int .i64 0) (s := 1) (bytes := 8) (n := (List.replicate (n.cnt).toNat (0 : Int)).length) (cs := ((List.replicate (n.cnt).toNat (0 : Int)).map (Value.int .i64))) rfl Try.underlying26 rfl (by decide) rfl rfl (by first | (rw [List.length_replicate]; done) | (rw [List.length_replicate]; omega)) (by first | (rw [List.length_replicate]; done) | (rw [List.length_replicate]; omega)) (by rw [List.length_replicate]; omega) (zfc _)) ?_)
 intro g2
 refine zbc 1 rfl (zac (zba 1 rfl (zax ?_)))
 refine zft (α := Nat) (β := List Int) (fun k zs => [rowE 3 1 (.slice (some ⟨g2, 0, none⟩) ((List.replicate (n.cnt).toNat (0 : Int)).length) ((List.replicate (n.cnt).toNat (0 : Int)).length)) zs.length (zs.map (Value.int .i64)), boxE b1 #[.int .i64 n.ins, n.sv, n.lv, n.ov] 28]) (fun k zs => [(0, .agg #[.int .i64 n.ins, n.sv, n.lv, n.ov]), (1, v), (2, .int .i64 inp), (3, .pointer (some ⟨b1, 0, none⟩)), (6, .slice none 0 0), (7, .slice (some ⟨g2, 0, none⟩) ((List.replicate (n.cnt).toNat (0 : Int)).length) ((List.replicate (n.cnt).toNat (0 : Int)).length)), (8, .int .i64 (k : Int)), (14, .bool false)]) (fun k zs => (k : Int) ≤ n.ins ∧ zs = fzT n.cnt.toNat (pa_o inp k)) (fun k zs => (n.ins).toNat - k) 0 (List.replicate n.cnt.toNat (0 : Int)) ⟨by omega, fz_one (by omega)⟩ (saQ rfl) (.cons_cons _ (pfQ rfl)) ?_
 intro k zs hi3
 obtain ⟨hk, hz⟩ := hi3
 have hzl : zs.length = n.cnt.toNat := by rw [hz]; exact fz_len (by rw [pa_len]; omega)
 refine zac (zac (reQ 1 rfl (hvQ rfl (zaa (k0 := 0) rfl rfl rfl) (hvQ rfl (zaj rfl rfl rfl (zae 1 rfl rfl)) ?_))))
 refine zbn rfl rfl rfl rfl rfl rfl (fun h4 => ?_) (fun h4 => ?_)
 ·
  refine (zcf (zay (zan rfl (hc_skip (zay (zac (zax (zbg (zar 2 rfl (hvQ rfl (vaQ rfl rfl rfl) (zar 2 rfl (hvQ rfl (rv_shr rfl rfl rfl (by omega)) (hvQ rfl (zdb rfl (by decide) rfl rfl (r := inp / 2 ^ k % 2) (by rw [show (inp / 2 ^ ((k : Int)).toNat : Int) = inp / 2 ^ k by rw [Int.toNat_natCast]]; exact andOne _)) ?_)))))))))))))
  refine hvQ rfl (riQ 1 rfl rfl rfl rfl (zag 0 rfl)) (zcz (i := 0) (n' := (zs.set ((1 + (k : Int)).toNat) (inp / 2 ^ k % 2)).length) (xs' := ((zs.set ((1 + (k : Int)).toNat) (inp / 2 ^ k % 2)).map (Value.int .i64))) rfl rfl rfl rfl rfl rfl rfl rfl (by first | omega | (simp only [List.length_set]; omega)) List.length_set.symm (zdj _ _ _) rfl ?_)
  refine zcf (zcv (reQ 1 rfl (hvQ rfl (vaQ rfl rfl rfl) (enQ 1 rfl ?_))))
  exact zca (k + 1) (zs.set ((1 + (k : Int)).toNat) (inp / 2 ^ k % 2)) ⟨by omega, by rw [hz]; exact (fz_set (by rw [pa_len]; omega) (by rw [pa_len]; omega)).trans (by rw [pa_step])⟩ (by omega) (saQ rfl) (.cons_cons _ (pfQ rfl))
 refine ntQ (zaq rfl ?_)
 refine zbb (zds ?_)
 refine zai (zay (zac (zba 1 rfl (zax ?_))))
 refine zft (α := Nat) (β := List Int) (fun k zs => [rowE 3 1 (.slice (some ⟨g2, 0, none⟩) ((List.replicate (n.cnt).toNat (0 : Int)).length) ((List.replicate (n.cnt).toNat (0 : Int)).length)) zs.length (zs.map (Value.int .i64)), boxE b1 #[.int .i64 n.ins, n.sv, n.lv, n.ov] 28]) (fun k zs => [(0, .agg #[.int .i64 n.ins, n.sv, n.lv, n.ov]), (1, v), (2, .int .i64 inp), (3, .pointer (some ⟨b1, 0, none⟩)), (6, .slice none 0 0), (7, .slice (some ⟨g2, 0, none⟩) ((List.replicate (n.cnt).toNat (0 : Int)).length) ((List.replicate (n.cnt).toNat (0 : Int)).length)), (9, .int .i64 (k : Int)), (14, .bool false), (22, .bool false)]) (fun k zs => (k : Int) ≤ (st.length : Int) ∧ zs = fzT n.cnt.toNat (pb_o n st inp k)) (fun k zs => ((st.length : Int)).toNat - k) 0 zs ⟨by omega, by rw [hz, show k = n.ins.toNat by omega, pb_zero n st inp]⟩ (saQ rfl) (.cons_cons _ (pfQ rfl)) ?_
 intro k zs hi5
 obtain ⟨hk, hz⟩ := hi5
 have hzl : zs.length = n.cnt.toNat := by rw [hz]; exact fz_len (by rw [pb_len n st inp (by omega)]; omega)
 refine zac (zac (reQ 2 rfl (hvQ rfl (lnQ rfl rfl rfl (zab hst)) ?_)))
 refine zbn rfl rfl rfl rfl rfl rfl (fun h6 => ?_) (fun h6 => ?_)
 ·
  refine ntQ (zan rfl (zcq (sbQ ?_)))
  refine zbi 12 [[], [], [1], [2], [], [3, 4], [], [], [6, 7], [8], [9], [0, 5]] [39, 40, 41, 42, 43, 44, 45, 46, 47, 48, 49, 50] [.slice (some ⟨g2, 0, none⟩) ((List.replicate (n.cnt).toNat (0 : Int)).length) ((List.replicate (n.cnt).toNat (0 : Int)).length), .pointer (some ⟨b1, 0 + 0, none⟩), .int .i64 n.ins, .int .i64 (1 + n.ins), .int .i64 (k : Int), .int .i64 ((1 + n.ins) + (k : Int)), v, .int .i64 (k : Int), elP v (((k : Int)).toNat * 1), .int .i64 (st.getD k 0), .int .i64 ((st.getD k 0) % 2), elP (.slice (some ⟨g2, 0, none⟩) ((List.replicate (n.cnt).toNat (0 : Int)).length) ((List.replicate (n.cnt).toNat (0 : Int)).length)) (((1 + n.ins) + (k : Int)).toNat * 1)] (by kernel_rfl) rfl ?_ ?_
  ·
   exact ⟨iaQ rfl (zah rfl) rfl, iaQ rfl (zaa (k0 := 0) rfl rfl rfl) rfl, iaQ rfl (zaj rfl rfl rfl (zae 1 rfl rfl)) rfl, iaQ rfl (vaQ rfl rfl rfl) rfl, iaQ rfl (zah rfl) rfl, iaQ rfl (vaQ rfl rfl rfl) rfl, iaQ rfl (zah rfl) rfl, iaQ rfl (zah rfl) rfl, iaQ rfl (riQ 1 rfl rfl rfl rfl (zab hst)) rfl, iaQ rfl (liQ rfl rfl rfl (zab hst)) rfl, iaQ rfl (zdb rfl (by decide) rfl rfl (r := (st.getD k 0) % 2) (andOne _)) rfl, iaQ rfl (riQ 1 rfl rfl rfl rfl (zag 0 rfl)) rfl, trivial⟩
  simp only [List.drop_succ_cons, List.drop_zero]
  refine zcz (i := 0) (n' := (zs.set (((1 + n.ins) + (k : Int)).toNat) ((st.getD k 0) % 2)).length) (xs' := ((zs.set (((1 + n.ins) + (k : Int)).toNat) ((st.getD k 0) % 2)).map (Value.int .i64))) rfl rfl rfl rfl rfl rfl rfl rfl (by first | omega | (simp only [List.length_set]; omega)) List.length_set.symm (zdj _ _ _) rfl (zcf (zcv (reQ 1 rfl (hvQ rfl (vaQ rfl rfl rfl) (enQ 1 rfl ?_)))))
  exact zca (k + 1) (zs.set (((1 + n.ins) + (k : Int)).toNat) ((st.getD k 0) % 2)) ⟨by omega, by rw [hz]; exact (fz_set (by rw [pb_len n st inp (by omega)]; omega) (by rw [pb_len n st inp (by omega)]; omega)).trans (by rw [pb_step n st inp (by omega)])⟩ (by omega) (saQ rfl) (.cons_cons _ (pfQ rfl))
 refine ntQ (zaq rfl ?_)
 refine zbb (zds ?_)
 refine zai (zay (zac (zba 1 rfl (zax ?_))))
 refine zft (α := Nat) (β := List Int) (fun k zs => [rowE 3 1 (.slice (some ⟨g2, 0, none⟩) ((List.replicate (n.cnt).toNat (0 : Int)).length) ((List.replicate (n.cnt).toNat (0 : Int)).length)) zs.length (zs.map (Value.int .i64)), boxE b1 #[.int .i64 n.ins, n.sv, n.lv, n.ov] 28]) (fun k zs => [(0, .agg #[.int .i64 n.ins, n.sv, n.lv, n.ov]), (1, v), (2, .int .i64 inp), (3, .pointer (some ⟨b1, 0, none⟩)), (6, .slice none 0 0), (7, .slice (some ⟨g2, 0, none⟩) ((List.replicate (n.cnt).toNat (0 : Int)).length) ((List.replicate (n.cnt).toNat (0 : Int)).length)), (10, .int .i64 (k : Int)), (14, .bool false), (22, .bool false), (36, .bool false)]) (fun k zs => (k : Int) ≤ (n.ls.length : Int) ∧ zs = fzT n.cnt.toNat (vlL n st inp k)) (fun k zs => ((n.ls.length : Int)).toNat - k) 0 zs ⟨by omega, by rw [hz, show k = st.length by omega]; rfl⟩ (saQ rfl) (.cons_cons _ (pfQ rfl)) ?_
 intro k zs hi7
 obtain ⟨hk, hz⟩ := hi7
 have hzl : zs.length = n.cnt.toNat := by rw [hz]; exact fz_len (by rw [zes n st inp k]; omega)
 refine zac (zac (reQ 1 rfl (hvQ rfl (zaa (k0 := 2) rfl rfl rfl) (hvQ rfl (zaj rfl rfl rfl (zae 1 rfl rfl)) (hvQ rfl (lnQ rfl rfl rfl (zab ((hr).lt.row))) ?_)))))
 refine zbn rfl rfl rfl rfl rfl rfl (fun h8 => ?_) (fun h8 => ?_)
 ·
  refine ntQ (zan rfl (zcq (sbQ ?_)))
  have hvl := zes n st inp k
  have hltk := hok.lt k (by omega)
  have hx4 : (n.ls.getD k lt0).xs.length ≤ 4 := hltk.1.1
  have hxr : ∀ q, q < (n.ls.getD k lt0).xs.length → 0 ≤ (n.ls.getD k lt0).xs.getD q 0 ∧ (n.ls.getD k lt0).xs.getD q 0 < zs.length := fun q hq => by have := hltk.1.2 q hq; omega
  have hat : ∀ q, q < (n.ls.getD k lt0).xs.length → atV zs (n.ls.getD k lt0).xs q = atV (vlL n st inp k) (n.ls.getD k lt0).xs q := fun q hq => by have := hltk.1.2 q hq; show zs.getD _ 0 = _; rw [hz]; exact fz_get (by omega)
  have hx01 : ∀ q, q < (n.ls.getD k lt0).xs.length → atV zs (n.ls.getD k lt0).xs q = 0 ∨ atV zs (n.ls.getD k lt0).xs q = 1 := fun q hq => by rw [hat q hq]; have := hltk.1.2 q hq; exact vl01 n st inp k _ (by omega)
  have hpk := pk16 (b := atV zs (n.ls.getD k lt0).xs) (k := (n.ls.getD k lt0).xs.length) hx01 hx4
  have hpe : pk (atV zs (n.ls.getD k lt0).xs) (n.ls.getD k lt0).xs.length = pk (atV (vlL n st inp k) (n.ls.getD k lt0).xs) (n.ls.getD k lt0).xs.length := pk_ext _ hat
  refine zbi 22 [[], [], [1], [], [2, 3], [], [5], [], [6, 7], [8], [9], [], [], [12], [], [13, 14], [15], [16], [11, 17], [10, 18], [19], [0, 4]] [58, 59, 60, 61, 62, 63, 64, 65, 66, 67, 68, 69, 70, 71, 72, 73, 74, 75, 76, 77, 78, 79] [.slice (some ⟨g2, 0, none⟩) ((List.replicate (n.cnt).toNat (0 : Int)).length) ((List.replicate (n.cnt).toNat (0 : Int)).length), .agg #[.int .i64 n.ins, n.sv, n.lv, n.ov], .int .i64 n.fst, .int .i64 (k : Int), .int .i64 (n.fst + (k : Int)), .pointer (some ⟨b1, 0 + 2, none⟩), n.lv, .int .i64 (k : Int), elP n.lv (((k : Int)).toNat * 2), elP n.lv (((k : Int)).toNat * 2 + 1), .int .i64 ((n.ls.getD k lt0).ma), .slice (some ⟨g2, 0, none⟩) ((List.replicate (n.cnt).toNat (0 : Int)).length) ((List.replicate (n.cnt).toNat (0 : Int)).length), .pointer (some ⟨b1, 0 + 2, none⟩), n.lv, .int .i64 (k : Int), elP n.lv (((k : Int)).toNat * 2), elP n.lv (((k : Int)).toNat * 2 + 0), (n.ls.getD k lt0).iv, .int .i64 (pk (atV zs ((n.ls.getD k lt0).xs)) ((n.ls.getD k lt0).xs).length), .int .i64 (((n.ls.getD k lt0).ma) / 2 ^ (pk (atV zs ((n.ls.getD k lt0).xs)) ((n.ls.getD k lt0).xs).length : Int).toNat), .int .i64 ((((n.ls.getD k lt0).ma) / 2 ^ (pk (atV zs ((n.ls.getD k lt0).xs)) ((n.ls.getD k lt0).xs).length : Int).toNat) % 2), elP (.slice (some ⟨g2, 0, none⟩) ((List.replicate (n.cnt).toNat (0 : Int)).length) ((List.replicate (n.cnt).toNat (0 : Int)).length)) ((n.fst + (k : Int)).toNat * 1)] (by kernel_rfl) rfl ?_ ?_
  ·
   exact ⟨iaQ rfl (zah rfl) rfl, iaQ rfl (zas (cs := [.int .i64 n.ins, n.sv, n.lv, n.ov]) rfl rfl rfl rfl rfl (zao 1 rfl 0 rfl)) rfl, .inl ⟨rfl, zap rfl rfl (fun w hm => zau (zfi n w (hr.below hm.bel) hok.sz))⟩, iaQ rfl (zah rfl) rfl, iaQ rfl (vaQ rfl rfl rfl) rfl, iaQ rfl (zaa (k0 := 2) rfl rfl rfl) rfl, iaQ rfl (zaj rfl rfl rfl (zae 1 rfl rfl)) rfl, iaQ rfl (zah rfl) rfl, iaQ rfl (riQ 2 rfl rfl rfl rfl (zab ((hr).lt.row))) rfl, iaQ rfl (zbt (k0 := 1) rfl rfl rfl (zab ((hr).lt.row)) (by omega)) rfl, iaQ rfl (zat (u := .int .i64 ((n.ls.getD k lt0).ma)) rfl rfl rfl (zab ((hr).lt.row)) ((zcu ltC 2 (fun _ => rfl) n.ls lt0 (show k < _ by omega) (by decide)).trans rfl)) rfl, iaQ rfl (zah rfl) rfl, iaQ rfl (zaa (k0 := 2) rfl rfl rfl) rfl, iaQ rfl (zaj rfl rfl rfl (zae 1 rfl rfl)) rfl, iaQ rfl (zah rfl) rfl, iaQ rfl (riQ 2 rfl rfl rfl rfl (zab ((hr).lt.row))) rfl, iaQ rfl (zbt (k0 := 0) rfl rfl rfl (zab ((hr).lt.row)) (by omega)) rfl, iaQ rfl (zat (u := (n.ls.getD k lt0).iv) rfl rfl rfl (zab ((hr).lt.row)) ((zcu ltC 2 (fun _ => rfl) n.ls lt0 (show k < _ by omega) (by decide)).trans rfl)) rfl, .inl ⟨rfl, zap rfl rfl (fun w hm => zau (l20Pack_ans zs ((n.ls.getD k lt0).xs) _ _ w ((zag 0 rfl) w hm) ((zab ((hr).lt.at (d := lt0) (k := k) (by omega))) w hm) hx4 hxr hx01))⟩, iaQ rfl (rv_shr rfl rfl rfl (by omega)) rfl, iaQ rfl (zdb rfl (by decide) rfl rfl (r := (((n.ls.getD k lt0).ma) / 2 ^ (pk (atV zs ((n.ls.getD k lt0).xs)) ((n.ls.getD k lt0).xs).length : Int).toNat) % 2) (andOne _)) rfl, iaQ rfl (riQ 1 rfl rfl rfl rfl (zag 0 rfl)) rfl, trivial⟩
  simp only [List.drop_succ_cons, List.drop_zero]
  refine zcz (i := 0) (n' := (zs.set ((n.fst + (k : Int)).toNat) ((((n.ls.getD k lt0).ma) / 2 ^ (pk (atV zs ((n.ls.getD k lt0).xs)) ((n.ls.getD k lt0).xs).length : Int).toNat) % 2)).length) (xs' := ((zs.set ((n.fst + (k : Int)).toNat) ((((n.ls.getD k lt0).ma) / 2 ^ (pk (atV zs ((n.ls.getD k lt0).xs)) ((n.ls.getD k lt0).xs).length : Int).toNat) % 2)).map (Value.int .i64))) rfl rfl rfl rfl rfl rfl rfl rfl (by first | omega | (simp only [List.length_set]; omega)) List.length_set.symm (zdj _ _ _) rfl (zcf (zcv (reQ 1 rfl (hvQ rfl (vaQ rfl rfl rfl) (enQ 1 rfl ?_)))))
  exact zca (k + 1) (zs.set ((n.fst + (k : Int)).toNat) ((((n.ls.getD k lt0).ma) / 2 ^ (pk (atV zs ((n.ls.getD k lt0).xs)) ((n.ls.getD k lt0).xs).length : Int).toNat) % 2)) ⟨by omega, by rw [hz]; exact (fz_set (by rw [zes n st inp k]; omega) (by rw [zes n st inp k]; omega)).trans (congrArg (fun q => fzT n.cnt.toNat (vlL n st inp k ++ [q])) (show _ / 2 ^ (pk (atV (fzT n.cnt.toNat (vlL n st inp k)) (n.ls.getD k lt0).xs) _).toNat % 2 = lutV _ _ by rw [← hz, hpe]; rfl))⟩ (by omega) (saQ rfl) (.cons_cons _ (pfQ rfl))
 refine ntQ (zaq rfl ?_)
 refine zbb (zds ?_)
 refine zai (zay (zba 2 rfl ?_))
 exact zaw (zdh (post := [rowE 3 1 (.slice (some ⟨g2, 0, none⟩) ((List.replicate (n.cnt).toNat (0 : Int)).length) ((List.replicate (n.cnt).toNat (0 : Int)).length)) zs.length (zs.map (Value.int .i64))]) rfl rfl (.cons_cons _ (slQ [] rfl)) (by rw [hz, show k = n.ls.length by omega, fz_all (by rw [zes n st inp]; omega)]))
def blkOf (v : Value) : Nat := match v with | .pointer (some ⟨b, _, _⟩) => b | _ => 0
/-- the complement of a literal -/
def xr (a : Int) : Int := if a % 2 = 0 then a + 1 else a - 1
theorem xr_ok {a m : Int} (h : LtOk a m) : LtOk (xr a) m := by unfold LtOk xr at *; split <;> omega
def withG (n : Nt) (gs : List An) : Nt := { n with gs := gs }
/-- a literal added: the gates then, and what it computes of the values before -/
structure AddOk (n : Nt) (gs gs' : List An) (x : Int) (k : Nat) (f : (Int → Int) → Int) : Prop where
  ext : ∃ t, gs' = gs ++ t ∧ t.length ≤ k
  ok : NtOk (withG n gs')
  lit : LtOk x (n.fst + gs'.length)
  val : ∀ (st : List Int) (inp : Int), st.length = n.ss.length → bitL (valsL (withG n gs') st inp) x = f (bitL (valsL (withG n gs) st inp))
abbrev fAnd (a b : Int) : (Int → Int) → Int := fun ev => ev a * ev b
open Go.RowKit
theorem hq_oneX {N : Nat} {w0 : World} {l : List HP} {env : List (Nat × Value)} {Q : Post} {ex : Exit} {i e s n : Nat} {v : Value} {xs : List Value} (hi : l[i]? = some (rowE e s v n xs)) (k : v.oneCell' = true → HQ N w0 l env ex Q) : HQ N w0 l env ex Q := fun a w st => k (zbm (st.mem.holds _ (zcg hi))).one a w st
def AnsOk (f : Int) (gs : List An) : Prop := ∀ k, k < gs.length → LtOk (gs.getD k an0).a (f + k) ∧ LtOk (gs.getD k an0).b (f + k)
theorem ans_app {f : Int} {gs : List An} {a b : Int} (h : AnsOk f gs) (ha : LtOk a (f + gs.length)) (hb : LtOk b (f + gs.length)) : AnsOk f (gs ++ [An.mk a b]) := fun k hk => by
  rw [List.length_append, List.length_singleton] at hk
  by_cases hc : k < gs.length
  · rw [zct hc]; exact h k hc
  · rw [zde (by omega), show k - gs.length = 0 by omega, show k = gs.length by omega]; exact ⟨ha, hb⟩
def SqsOk (m : Int) (ss : List Sq) : Prop := ∀ s ∈ ss, SqOk s ∧ ∀ x ∈ s.xs, LtOk x m
theorem sqs_app {m : Int} {ss : List Sq} {s : Sq} (h : SqsOk m ss) (h1 : SqOk s) (h2 : ∀ x ∈ s.xs, LtOk x m) : SqsOk m (ss ++ [s]) := fun r hr => by
  rcases List.mem_append.1 hr with hr | hr
  · exact h r hr
  · rw [List.mem_singleton] at hr; subst hr; exact ⟨h1, h2⟩
def OsOk (m : Int) (os : List Int) : Prop := ∀ x ∈ os, LtOk x m
theorem os_app {m : Int} {os : List Int} {x : Int} (h : OsOk m os) (hx : LtOk x m) : OsOk m (os ++ [x]) := fun r hr => by
  rcases List.mem_append.1 hr with hr | hr
  · exact h r hr
  · rw [List.mem_singleton] at hr; subst hr; exact hx
theorem conv_snocX {w0 : World} {ps l : List HP} {p : HP} : Conv w0 (bigE ps :: p :: l) (bigE (ps ++ [p]) :: l) := fun w hm => by
  have h1 : Mem w0 (ps ++ (p :: l)) w := hm.unbig
  have h2 : Mem w0 ((ps ++ [p]) ++ l) w := by simpa using h1
  exact h2.big
theorem nt_mk {ins m f : Int} {sv av ov : Value} {ss : List Sq} {gs : List An} {os : List Int} (h0 : 0 ≤ ins) (h1 : ins ≤ 20) (h2 : ss.length ≤ 12) (h3 : gs.length ≤ 300) (h4 : os.length ≤ 16) (h5 : SqsOk m ss) (h6 : AnsOk f gs) (h7 : OsOk m os)
    (hf : f = 1 + ins + ss.length) (hm : m = 1 + ins + ss.length + gs.length) : NtOk (Nt.mk ins sv av ov ss gs os) := by
  subst hf hm
  exact ⟨h0, h1, h2, h3, h4, fun s hs => (h5 s hs).1, fun s hs => (h5 s hs).2, h6, h7⟩
set_option maxHeartbeats 4000000 in
set_option maxRecDepth 100000 in
theorem l08Sized_mut (g : Nat) (a : Option Addr) (len cap : Nat) (z : List Int) (q1 q2 q3 : Int) (w0 : World) (l : List HP) (w : World) (hm0 : Mem w0 (curE g a len cap :: l) w) (hb : BRow .u8 w0 a len cap z) (hq1 : 1 ≤ q1 ∧ q1 ≤ 6) (hq2 : 0 ≤ q2 ∧ q2 ≤ 4) (hq3 : 0 ≤ q3 ∧ q3 ≤ 30) :
   Calls Try.prog 58 #[.pointer (some ⟨g, 0, none⟩), .int .i64 q1, .int .i64 q2, .int .i64 q3] w (fun e_ w_ => ∃ v_ p_, e_ = .returned v_ ∧ (fun u_ p_ => ∃ n : Nt, u_ = n.agg ∧ p_ = bigE [curE g a len cap, ntE n] ∧ (n.sv.oneCell' = true ∧ n.av.oneCell' = true ∧ n.ov.oneCell' = true) ∧ NtOk n ∧ n.ins ≤ q1 ∧ (n.ss.length : Int) ≤ q2 ∧ (n.gs.length : Int) ≤ q3) v_ p_ ∧ Mem w0 (p_ :: l) w_) := by
 refine zgn (N := 131) (args := [.pointer (some ⟨g, 0, none⟩), .int .i64 q1, .int .i64 q2, .int .i64 q3]) Try.func58 rfl rfl hm0 (srQ ?_)
 refine zef rfl (zbw (z := .agg #[.int .i64 0, .slice none 0 0, .slice none 0 0, .slice none 0 0]) rfl rfl) ?_
 intro b1
 refine ntQ (zac (reQ 2 rfl ?_))
 refine zdd (R := (fun u_ p_ => (∃ x_ : Int, u_ = .int .i64 x_ ∧ 0 ≤ x_ ∧ x_ < q1) ∧ p_ = curE g a len cap)) 1 rfl rfl rfl rfl rfl (fun l' w hm => zch g a len cap z q1 _ _ _ hm hb (by constructor <;> omega)) ?_
 intro v2 p3 hR4
 obtain ⟨⟨xhR4, rfl, xhR40, xhR41⟩, rfl⟩ := hR4
 refine zee (l' := (boxE b1 #[.int .i64 0, .slice none 0 0, .slice none 0 0, .slice none 0 0] 101 :: curE g a len cap :: l)) rfl ?_
 refine hvQ rfl (vaQ rfl rfl rfl) (hvQ rfl (zdp (cs := #[.int .i64 (1 + xhR4), .slice none 0 0, .slice none 0 0, .slice none 0 0]) rfl rfl rfl) ?_)
 refine zef rfl (zbw (z := .agg #[.int .i64 0, .slice none 0 0, .slice none 0 0, .slice none 0 0]) rfl rfl) ?_
 intro b5
 refine zcb (cs' := #[.int .i64 (1 + xhR4), .slice none 0 0, .slice none 0 0, .slice none 0 0]) (i := 0) (off := 0) (us := [.int .i64 (1 + xhR4), .slice none 0 0, .slice none 0 0, .slice none 0 0]) rfl rfl rfl rfl rfl rfl rfl (zaf rfl (zaf rfl (zaf rfl (zaf rfl zbo)))) rfl rfl rfl (ntQ (zac (reQ 2 rfl (hvQ rfl (vaQ rfl rfl rfl) ?_))))
 refine zdd (R := (fun u_ p_ => (∃ x_ : Int, u_ = .int .i64 x_ ∧ 0 ≤ x_ ∧ x_ < q2 + 1) ∧ p_ = curE g a len cap)) 2 rfl rfl rfl rfl rfl (fun l' w hm => zch g a len cap z (q2 + 1) _ _ _ hm hb (by constructor <;> omega)) ?_
 intro v6 p7 hR8
 obtain ⟨⟨xhR8, rfl, xhR80, xhR81⟩, rfl⟩ := hR8
 refine zee (l' := (boxE b5 #[.int .i64 (1 + xhR4), .slice none 0 0, .slice none 0 0, .slice none 0 0] 101 :: boxE b1 #[.int .i64 0, .slice none 0 0, .slice none 0 0, .slice none 0 0] 101 :: curE g a len cap :: l)) rfl ?_
 refine zbc 1 rfl (zac (reQ 2 rfl (hvQ rfl (vaQ rfl rfl rfl) ?_)))
 refine zdd (R := (fun u_ p_ => (∃ x_ : Int, u_ = .int .i64 x_ ∧ 0 ≤ x_ ∧ x_ < q3 + 1) ∧ p_ = curE g a len cap)) 2 rfl rfl rfl rfl rfl (fun l' w hm => zch g a len cap z (q3 + 1) _ _ _ hm hb (by constructor <;> omega)) ?_
 intro v9 p10 hR11
 obtain ⟨⟨xhR11, rfl, xhR110, xhR111⟩, rfl⟩ := hR11
 refine zee (l' := (boxE b5 #[.int .i64 (1 + xhR4), .slice none 0 0, .slice none 0 0, .slice none 0 0] 101 :: boxE b1 #[.int .i64 0, .slice none 0 0, .slice none 0 0, .slice none 0 0] 101 :: curE g a len cap :: l)) rfl ?_
 refine zbc 1 rfl (srQ (hvQ rfl (zaa (k0 := 0) rfl rfl rfl) (hvQ rfl (zaj rfl rfl rfl (zae 0 rfl rfl)) (hvQ rfl (vaQ rfl rfl rfl) (zar 1 rfl (hvQ rfl (vaQ rfl rfl rfl) (enQ 1 rfl ?_)))))))
 refine zay (zac (zba 1 rfl (zax ?_)))
 refine zdi (rowE 3 1 (.slice none 0 0) 0 ([]) :: boxE b5 #[.int .i64 (1 + xhR4), .slice none 0 0, .slice none 0 0, .slice none 0 0] 101 :: boxE b1 #[.int .i64 0, .slice none 0 0, .slice none 0 0, .slice none 0 0] 101 :: curE g a len cap :: l) (fun w hm => hm.nilRow 3 1) ?_
 refine zdi (rowE 124 2 (.slice none 0 0) 0 ([]) :: rowE 3 1 (.slice none 0 0) 0 ([]) :: boxE b5 #[.int .i64 (1 + xhR4), .slice none 0 0, .slice none 0 0, .slice none 0 0] 101 :: boxE b1 #[.int .i64 0, .slice none 0 0, .slice none 0 0, .slice none 0 0] 101 :: curE g a len cap :: l) (fun w hm => hm.nilRow 124 2) ?_
 refine zdi (rowE 35 3 (.slice none 0 0) 0 ([]) :: rowE 124 2 (.slice none 0 0) 0 ([]) :: rowE 3 1 (.slice none 0 0) 0 ([]) :: boxE b5 #[.int .i64 (1 + xhR4), .slice none 0 0, .slice none 0 0, .slice none 0 0] 101 :: boxE b1 #[.int .i64 0, .slice none 0 0, .slice none 0 0, .slice none 0 0] 101 :: curE g a len cap :: l) (fun w hm => hm.nilRow 35 3) ?_
 refine zdi _ zfu ?_
 refine lkQ3 (α := Nat) (β := Value) (γ := List An) [0, 1, 2, 3, 8, 9, 10, 11, 12] rfl (fun i u gs => (bigE ([] : List HP) :: rowE 35 3 (.slice none 0 0) 0 ([]) :: rowE 124 2 u gs.length (gs.flatMap anC) :: rowE 3 1 (.slice none 0 0) 0 ([]) :: boxE b5 #[.int .i64 (1 + xhR4), .slice none 0 0, u, .slice none 0 0] 101 :: boxE b1 #[.int .i64 0, .slice none 0 0, .slice none 0 0, .slice none 0 0] 101 :: curE g a len cap :: l)) (fun i u gs => [(13, .int .i64 (i : Int))]) (fun i u gs => (i : Int) ≤ xhR11 ∧ gs.length = i ∧ AnsOk ((1 + (1 + xhR4)) + xhR8) gs) (fun i u gs => (xhR11).toNat - i) 0 _ [] ⟨by omega, rfl, fun k hk => absurd hk (by simp)⟩ (saQ rfl) (.refl _) ?_
 intro i u gs hi12
 obtain ⟨hi, hgl, hgo⟩ := hi12
 refine zac (zac (reQ 2 rfl ?_))
 refine zbn rfl rfl rfl rfl rfl rfl (fun h13 => ?_) (fun h13 => ?_)
 ·
  refine ntQ (zan rfl (zcq (sbQ (zac (reQ 2 rfl (hvQ rfl (vaQ rfl rfl rfl) (hvQ rfl (zez rfl rfl rfl (by constructor <;> omega)) (zar 1 rfl ?_))))))))
  refine ntQ (zac (reQ 1 rfl (hvQ rfl (vsQ rfl rfl rfl) (zar 2 rfl (hvQ rfl (vsQ rfl rfl rfl) (hvQ rfl (rv_min rfl rfl rfl) ?_))))))
  refine zdd (R := (fun u_ p_ => (∃ x_ : Int, u_ = .int .i64 x_ ∧ 0 ≤ x_ ∧ x_ < min ((2 * (((1 + (1 + xhR4)) + xhR8) + (i : Int))) - 1) 14) ∧ p_ = curE g a len cap)) 6 rfl rfl rfl rfl rfl (fun l' w hm => zch g a len cap z (min ((2 * (((1 + (1 + xhR4)) + xhR8) + (i : Int))) - 1) 14) _ _ _ hm hb (by constructor <;> omega)) ?_
  intro v14 p15 hR16
  obtain ⟨⟨xhR16, rfl, xhR160, xhR161⟩, rfl⟩ := hR16
  refine zee (l' := (bigE ([] : List HP) :: rowE 35 3 (.slice none 0 0) 0 ([]) :: rowE 124 2 u gs.length (gs.flatMap anC) :: rowE 3 1 (.slice none 0 0) 0 ([]) :: boxE b5 #[.int .i64 (1 + xhR4), .slice none 0 0, u, .slice none 0 0] 101 :: boxE b1 #[.int .i64 0, .slice none 0 0, .slice none 0 0, .slice none 0 0] 101 :: curE g a len cap :: l)) rfl ?_
  refine hvQ rfl (vsQ rfl rfl rfl) (zbc 1 rfl ?_)
  refine zfd 7 [5, 4, 3, 2, 1, 0, 6] rfl rfl (by decide) ?_
  refine zfe (l := (bigE ([] : List HP) :: rowE 35 3 (.slice none 0 0) 0 ([]) :: rowE 124 2 u gs.length (gs.flatMap anC) :: rowE 3 1 (.slice none 0 0) 0 ([]) :: boxE b5 #[.int .i64 (1 + xhR4), .slice none 0 0, u, .slice none 0 0] 101 :: boxE b1 #[.int .i64 0, .slice none 0 0, .slice none 0 0, .slice none 0 0] 101 :: l)) rfl 8 [0, 1, 2, 3, 4, 5, 6, 7] (List.take 8 _) (List.drop 8 _) [[], [0], [], [], [], [3, 4], [2, 5], [5, 6]] [54, 55, 56, 57, 58, 59, 60, 61] (fun i_ vs_ v_ p_ => match i_ with | 0 => v_ = .pointer (some ⟨b5, 0 + 2, none⟩) ∧ p_ = [] | 1 => v_ = u ∧ p_ = [] | 2 => v_ = .int .i64 (((2 * (((1 + (1 + xhR4)) + xhR8) + (i : Int))) - 1) - xhR16) ∧ p_ = [] | 3 => v_ = .pointer (some ⟨g, 0, none⟩) ∧ p_ = [] | 4 => v_ = .int .i64 (2 * (((1 + (1 + xhR4)) + xhR8) + (i : Int))) ∧ p_ = [] | 5 => (∃ pm_, p_ = [pm_] ∧ (fun u_ p_ => (∃ x_ : Int, u_ = .int .i64 x_ ∧ 0 ≤ x_ ∧ x_ < 2 * (((1 + (1 + xhR4)) + xhR8) + (i : Int))) ∧ p_ = curE g a len cap) v_ pm_) | 6 => v_ = .agg #[.int .i64 (((2 * (((1 + (1 + xhR4)) + xhR8) + (i : Int))) - 1) - xhR16), .int .i64 (intOf_o (List.getD vs_ 1 undef))] ∧ p_ = [] | 7 => IsRow_o 124 2 1 ([((2 * (((1 + (1 + xhR4)) + xhR8) + (i : Int))) - 1) - xhR16, (intOf_o (List.getD vs_ 0 undef))].map (Value.int .i64)) v_ p_ | _ => True) [[], [0], [], [], [], [3, 4], [2, 5], [5, 6]] [none, none, none, none, none, some 11, none, none] [curE g a len cap] [0, 1, 2, 3, 4, 5, 6, 7] 11 (List.take_append_drop 8 _).symm (by kernel_rfl) (by kernel_rfl) (by kernel_rfl) rfl rfl ?_ ?_
  ·
   refine ⟨?_, ?_, ?_, ?_, ?_, ?_, ?_, ?_, trivial⟩
   ·
    intro vf pf hmu hR
    refine dqQ [] [] rfl (zbr (zal [9] rfl) ?_)
    exact zbd (zaa (k0 := 2) rfl rfl rfl)
   ·
    intro vf pf hmu hR
    have e0 := hR 0 (by decide)
    refine dqQ [0] [0] rfl (zbq (sk 54 (congrArg some e0.1) (zad _)) (List.sublist_append_right _ _) ?_)
    exact zbd (zaj rfl rfl rfl (zae 4 rfl rfl))
   ·
    intro vf pf hmu hR
    refine dqQ [] [] rfl (zbr (zal [15] rfl) ?_)
    exact zbd (zah rfl)
   ·
    intro vf pf hmu hR
    refine dqQ [] [] rfl (zbr (zal [0] rfl) ?_)
    exact zbd (zah rfl)
   ·
    intro vf pf hmu hR
    refine dqQ [] [] rfl (zbr (zal [14] rfl) ?_)
    exact zbd (zah rfl)
   ·
    intro vf pf hmu hR
    have e3 := hR 3 (by decide)
    have e4 := hR 4 (by decide)
    refine Or.inl ⟨rfl, ?_⟩
    show RunM _ _ _ (pf 11) (([3, 4] : List Nat).flatMap pf ++ _) (envOf _ vf [3, 4] ++ _) _ _
    rw [hmu]
    exact zda (sk 57 (congrArg some e3.1) (sk 58 (congrArg some e4.1) (zad _))) (by simp only [e3.2, e4.2, fS] <;> rfl) (zdt (R := (fun u_ p_ => (∃ x_ : Int, u_ = .int .i64 x_ ∧ 0 ≤ x_ ∧ x_ < 2 * (((1 + (1 + xhR4)) + xhR8) + (i : Int))) ∧ p_ = curE g a len cap)) rfl rfl (fun L w hX hm => zch g a len cap z (2 * (((1 + (1 + xhR4)) + xhR8) + (i : Int))) _ _ _ hm hb (by constructor <;> omega)))
   ·
    intro vf pf hmu hR
    have e2 := hR 2 (by decide)
    have e5 : (∃ pm_, (pf 5) = [pm_] ∧ (fun u_ p_ => (∃ x_ : Int, u_ = .int .i64 x_ ∧ 0 ≤ x_ ∧ x_ < 2 * (((1 + (1 + xhR4)) + xhR8) + (i : Int))) ∧ p_ = curE g a len cap) (vf 5) pm_) := hR 5 (by decide)
    obtain ⟨p18, pE5, hR19⟩ := e5
    obtain ⟨v17, vE5⟩ : ∃ x, vf 5 = x := ⟨_, rfl⟩
    rw [vE5] at hR19
    obtain ⟨⟨xhR19, rfl, xhR190, xhR191⟩, rfl⟩ := hR19
    refine dqQ [2, 5] [2, 5] rfl (zby (sk 56 (congrArg some e2.1) (sk 59 (congrArg some vE5) (zad _))) (by simp only [pE5, vE5, e2.2, fS] <;> rfl) ?_)
    exact zck (zbd (zdp (cs := #[.int .i64 (((2 * (((1 + (1 + xhR4)) + xhR8) + (i : Int))) - 1) - xhR16), .int .i64 xhR19]) rfl rfl rfl)) (fun _ _ h => ⟨h.1.trans (by show _ = (.agg #[.int .i64 (((2 * (((1 + (1 + xhR4)) + xhR8) + (i : Int))) - 1) - xhR16), .int .i64 (intOf_o (vf 5))] : Value); first | (rw [vE5]; done) | (rw [vE5]; rfl)), h.2⟩)
   intro vf pf hmu hR
   have e5 : (∃ pm_, (pf 5) = [pm_] ∧ (fun u_ p_ => (∃ x_ : Int, u_ = .int .i64 x_ ∧ 0 ≤ x_ ∧ x_ < 2 * (((1 + (1 + xhR4)) + xhR8) + (i : Int))) ∧ p_ = curE g a len cap) (vf 5) pm_) := hR 5 (by decide)
   obtain ⟨p18, pE5, hR19⟩ := e5
   obtain ⟨v17, vE5⟩ : ∃ x, vf 5 = x := ⟨_, rfl⟩
   rw [vE5] at hR19
   obtain ⟨⟨xhR19, rfl, xhR190, xhR191⟩, rfl⟩ := hR19
   have e6 : (vf 6) = .agg #[.int .i64 (((2 * (((1 + (1 + xhR4)) + xhR8) + (i : Int))) - 1) - xhR16), .int .i64 (intOf_o (vf 5))] ∧ (pf 6) = [] := hR 6 (by decide)
   rw [vE5] at e6
   refine dqQ [5, 6] [5, 6] rfl (zby (sk 60 (congrArg some e6.1) (zad _)) (by simp only [pE5, vE5, e6.2, fS] <;> rfl) ?_)
   exact zck (zav (z := .agg #[.int .i64 0, .int .i64 0]) (s := 2) (cs := ([((2 * (((1 + (1 + xhR4)) + xhR8) + (i : Int))) - 1) - xhR16, xhR19].map (Value.int .i64))) rfl Try.underlying99 rfl (by decide) rfl (by kernel_rfl) rfl) (fun v_ p_ h => by show IsRow_o 124 2 1 ([((2 * (((1 + (1 + xhR4)) + xhR8) + (i : Int))) - 1) - xhR16, (intOf_o (vf 5))].map (Value.int .i64)) v_ p_; rw [vE5]; exact h)
  intro vf pf hmu hR
  have e1 := hR 1 (by decide)
  have e5 : (∃ pm_, (pf 5) = [pm_] ∧ (fun u_ p_ => (∃ x_ : Int, u_ = .int .i64 x_ ∧ 0 ≤ x_ ∧ x_ < 2 * (((1 + (1 + xhR4)) + xhR8) + (i : Int))) ∧ p_ = curE g a len cap) (vf 5) pm_) := hR 5 (by decide)
  obtain ⟨p18, pE5, hR19⟩ := e5
  obtain ⟨v17, vE5⟩ : ∃ x, vf 5 = x := ⟨_, rfl⟩
  rw [vE5] at hR19
  obtain ⟨⟨xhR19, rfl, xhR190, xhR191⟩, rfl⟩ := hR19
  have e7 : IsRow_o 124 2 1 ([((2 * (((1 + (1 + xhR4)) + xhR8) + (i : Int))) - 1) - xhR16, (intOf_o (vf 5))].map (Value.int .i64)) (vf 7) (pf 7) := hR 7 (by decide)
  rw [vE5] at e7
  obtain ⟨g20, vE7, pE7⟩ := e7
  have q0 := hR 0 (by decide)
  have q1 := hR 1 (by decide)
  have q2 := hR 2 (by decide)
  have q3 := hR 3 (by decide)
  have q4 := hR 4 (by decide)
  have q6 := hR 6 (by decide)
  refine zcj (zbe [39, 15, 14, 13, 12, 11, 10, 9, 8, 3, 2, 1, 0] _ (sk 55 (congrArg some e1.1) (sk 61 (congrArg some vE7) (zad _))) rfl) (by simp only [pE5, vE5, pE7, vE7, q0.2, q1.2, q2.2, q3.2, q4.2, q6.2, fS] <;> rfl) ?_
  simp only [List.drop_succ_cons, List.drop_zero]
  refine zci (i := 4) (z := .agg #[.int .i64 0, .int .i64 0]) (bytes := 16) rfl rfl rfl rfl Try.underlying99 (by kernel_rfl) rfl rfl rfl rfl (zag 1 rfl) (zbz _) (by first | omega | (simp only [List.length_append, List.length_cons, List.length_nil]; omega)) (zbx gs [(An.mk (((2 * (((1 + (1 + xhR4)) + xhR8) + (i : Int))) - 1) - xhR16) xhR19)]) (zcy anC gs (An.mk (((2 * (((1 + (1 + xhR4)) + xhR8) + (i : Int))) - 1) - xhR16) xhR19) _ rfl) (fun _ => rfl) ?_
  intro v21
  refine hvQ rfl (zaa (k0 := 2) rfl rfl rfl) (zcp (i := 4) rfl (fun ho22 => ?_))
  refine zei (i := 6) (cs' := #[.int .i64 (1 + xhR4), .slice none 0 0, v21, .slice none 0 0]) rfl rfl rfl rfl rfl rfl ho22 rfl rfl rfl rfl (zcf (zcv (reQ 1 rfl (hvQ rfl (vaQ rfl rfl rfl) (enQ 1 rfl ?_)))))
  refine zbj 8 [0, 7, 6, 5, 4, 3, 2] rfl rfl (by decide) ?_
  exact zbv (i + 1) v21 (gs ++ [(An.mk (((2 * (((1 + (1 + xhR4)) + xhR8) + (i : Int))) - 1) - xhR16) xhR19)]) ⟨by omega, by simp; omega, ans_app hgo (by unfold LtOk; omega) (by unfold LtOk; omega)⟩ (by omega) (saQ rfl) (.refl _)
 refine ntQ (zaq rfl ?_)
 refine zbb (zds ?_)
 refine zai (zay (zac (reQ 2 rfl (hvQ rfl (vaQ rfl rfl rfl) (hvQ rfl (zez rfl rfl rfl (by constructor <;> omega)) (zbc 1 rfl (zac (zac (reQ 1 rfl ?_)))))))))
 refine ntQ (zax ?_)
 refine lkQ3 (α := Nat) (β := Value) (γ := List Sq) [0, 1, 2, 3, 8, 9, 10, 11, 12, 16, 39] rfl (fun i uq ss => (bigE (ss.map sqPart) :: rowE 35 3 uq ss.length (ss.flatMap sqC) :: rowE 124 2 u gs.length (gs.flatMap anC) :: rowE 3 1 (.slice none 0 0) 0 ([]) :: boxE b5 #[.int .i64 (1 + xhR4), uq, u, .slice none 0 0] 101 :: boxE b1 #[.int .i64 0, .slice none 0 0, .slice none 0 0, .slice none 0 0] 101 :: curE g a len cap :: l)) (fun i uq ss => [(17, .int .i64 (i : Int))]) (fun i uq ss => (i : Int) ≤ xhR8 ∧ ss.length = i ∧ SqsOk (((1 + (1 + xhR4)) + xhR8) + xhR11) ss) (fun i uq ss => (xhR8).toNat - i) 0 _ [] ⟨by omega, rfl, fun k hk => absurd hk (by simp)⟩ (saQ rfl) (.refl _) ?_
 intro i uq ss hi23
 obtain ⟨hi2, hsl, hso⟩ := hi23
 refine zac (zac (reQ 2 rfl ?_))
 refine zbn rfl rfl rfl rfl rfl rfl (fun h24 => ?_) (fun h24 => ?_)
 ·
  refine ntQ (zan rfl (zcq (sbQ (zac (reQ 1 rfl ?_)))))
  refine zdd (R := (fun u_ p_ => (∃ b : Bool, u_ = .bool b) ∧ p_ = curE g a len cap)) 6 rfl rfl rfl rfl rfl (fun l' w hm => once_mut hm hb (6) (by omega) (by omega)) ?_
  intro v25 p26 hR27
  obtain ⟨⟨xhR27, rfl⟩, rfl⟩ := hR27
  refine zee (l' := (bigE (ss.map sqPart) :: rowE 35 3 uq ss.length (ss.flatMap sqC) :: rowE 124 2 u gs.length (gs.flatMap anC) :: rowE 3 1 (.slice none 0 0) 0 ([]) :: boxE b5 #[.int .i64 (1 + xhR4), uq, u, .slice none 0 0] 101 :: boxE b1 #[.int .i64 0, .slice none 0 0, .slice none 0 0, .slice none 0 0] 101 :: curE g a len cap :: l)) rfl ?_
  refine zbl (fun h28 => ?_) (fun h28 => ?_)
  ·
   refine ntQ (zan rfl ?_)
   refine zfd 7 [5, 4, 3, 2, 1, 0, 6] rfl rfl (by decide) ?_
   refine zfe (l := (bigE (ss.map sqPart) :: rowE 35 3 uq ss.length (ss.flatMap sqC) :: rowE 124 2 u gs.length (gs.flatMap anC) :: rowE 3 1 (.slice none 0 0) 0 ([]) :: boxE b5 #[.int .i64 (1 + xhR4), uq, u, .slice none 0 0] 101 :: boxE b1 #[.int .i64 0, .slice none 0 0, .slice none 0 0, .slice none 0 0] 101 :: l)) rfl 19 [0, 1, 2, 3, 4, 5, 6, 7, 8, 9, 10, 11, 12, 13, 14, 15, 16, 17, 18] (List.take 19 _) (List.drop 19 _) [[], [0], [], [2], [], [], [3, 4, 5], [], [], [6, 7, 8], [], [], [9, 10, 11], [], [], [12, 13, 14], [6, 9, 12, 15], [3, 6, 9, 12, 15, 16], [3, 6, 9, 12, 15, 16, 17]] [75, 76, 77, 78, 79, 80, 81, 82, 83, 84, 85, 86, 87, 88, 89, 90, 91, 92, 93] (fun i_ vs_ v_ p_ => match i_ with | 0 => v_ = .pointer (some ⟨b5, 0 + 1, none⟩) ∧ p_ = [] | 1 => v_ = uq ∧ p_ = [] | 2 => v_ = .pointer (some ⟨g, 0, none⟩) ∧ p_ = [] | 3 => (∃ pm_, p_ = [pm_] ∧ (fun u_ p_ => (∃ x_ : Int, u_ = .int .i64 x_ ∧ 0 ≤ x_ ∧ x_ < 32) ∧ p_ = curE g a len cap) v_ pm_) | 4 => v_ = .pointer (some ⟨g, 0, none⟩) ∧ p_ = [] | 5 => v_ = .int .i64 (2 * (((1 + (1 + xhR4)) + xhR8) + xhR11)) ∧ p_ = [] | 6 => (∃ pm_, p_ = [pm_] ∧ (fun u_ p_ => (∃ x_ : Int, u_ = .int .i64 x_ ∧ 0 ≤ x_ ∧ x_ < 2 * (((1 + (1 + xhR4)) + xhR8) + xhR11)) ∧ p_ = curE g a len cap) v_ pm_) | 7 => v_ = .pointer (some ⟨g, 0, none⟩) ∧ p_ = [] | 8 => v_ = .int .i64 (2 * (((1 + (1 + xhR4)) + xhR8) + xhR11)) ∧ p_ = [] | 9 => (∃ pm_, p_ = [pm_] ∧ (fun u_ p_ => (∃ x_ : Int, u_ = .int .i64 x_ ∧ 0 ≤ x_ ∧ x_ < 2 * (((1 + (1 + xhR4)) + xhR8) + xhR11)) ∧ p_ = curE g a len cap) v_ pm_) | 10 => v_ = .pointer (some ⟨g, 0, none⟩) ∧ p_ = [] | 11 => v_ = .int .i64 (2 * (((1 + (1 + xhR4)) + xhR8) + xhR11)) ∧ p_ = [] | 12 => (∃ pm_, p_ = [pm_] ∧ (fun u_ p_ => (∃ x_ : Int, u_ = .int .i64 x_ ∧ 0 ≤ x_ ∧ x_ < 2 * (((1 + (1 + xhR4)) + xhR8) + xhR11)) ∧ p_ = curE g a len cap) v_ pm_) | 13 => v_ = .pointer (some ⟨g, 0, none⟩) ∧ p_ = [] | 14 => v_ = .int .i64 (2 * (((1 + (1 + xhR4)) + xhR8) + xhR11)) ∧ p_ = [] | 15 => (∃ pm_, p_ = [pm_] ∧ (fun u_ p_ => (∃ x_ : Int, u_ = .int .i64 x_ ∧ 0 ≤ x_ ∧ x_ < 2 * (((1 + (1 + xhR4)) + xhR8) + xhR11)) ∧ p_ = curE g a len cap) v_ pm_) | 16 => IsRow_o 3 1 4 ([(intOf_o (List.getD vs_ 0 undef)), (intOf_o (List.getD vs_ 1 undef)), (intOf_o (List.getD vs_ 2 undef)), (intOf_o (List.getD vs_ 3 undef))].map (Value.int .i64)) v_ p_ | 17 => v_ = .agg #[.int .i64 1, .int .i64 (intOf_o (List.getD vs_ 0 undef)), (List.getD vs_ 5 undef)] ∧ p_ = [] | 18 => IsRow_o 35 3 1 ([.int .i64 1, .int .i64 (intOf_o (List.getD vs_ 0 undef)), (List.getD vs_ 5 undef)]) v_ p_ | _ => True) [[], [0], [], [2], [], [], [4, 5], [], [], [7, 8], [], [], [10, 11], [], [], [13, 14], [15], [15, 16], [15, 16, 17]] [none, none, none, some 22, none, none, some 3, none, none, some 6, none, none, some 9, none, none, some 12, none, none, none] [curE g a len cap] [0, 1, 2, 4, 5, 7, 8, 10, 11, 13, 14, 15, 16, 17, 18] 22 (List.take_append_drop 19 _).symm (by kernel_rfl) (by kernel_rfl) (by kernel_rfl) rfl rfl ?_ ?_
   ·
    refine ⟨?_, ?_, ?_, ?_, ?_, ?_, ?_, ?_, ?_, ?_, ?_, ?_, ?_, ?_, ?_, ?_, ?_, ?_, ?_, trivial⟩
    ·
     intro vf pf hmu hR
     refine dqQ [] [] rfl (zbr (zal [9] rfl) ?_)
     exact zbd (zaa (k0 := 1) rfl rfl rfl)
    ·
     intro vf pf hmu hR
     have e0 := hR 0 (by decide)
     refine dqQ [0] [0] rfl (zbq (sk 75 (congrArg some e0.1) (zad _)) (List.sublist_append_right _ _) ?_)
     exact zbd (zaj rfl rfl rfl (zae 4 rfl rfl))
    ·
     intro vf pf hmu hR
     refine dqQ [] [] rfl (zbr (zal [0] rfl) ?_)
     exact zbd (zah rfl)
    ·
     intro vf pf hmu hR
     have e2 := hR 2 (by decide)
     refine Or.inl ⟨rfl, ?_⟩
     show RunM _ _ _ (pf 22) (([2] : List Nat).flatMap pf ++ _) (envOf _ vf [2] ++ _) _ _
     rw [hmu]
     exact zda (sk 77 (congrArg some e2.1) (zad _)) (by simp only [e2.2, fS] <;> rfl) (zdt (R := (fun u_ p_ => (∃ x_ : Int, u_ = .int .i64 x_ ∧ 0 ≤ x_ ∧ x_ < 32) ∧ p_ = curE g a len cap)) rfl rfl (fun L w hX hm => zch g a len cap z 32 _ _ _ hm hb (by constructor <;> omega)))
    ·
     intro vf pf hmu hR
     refine dqQ [] [] rfl (zbr (zal [0] rfl) ?_)
     exact zbd (zah rfl)
    ·
     intro vf pf hmu hR
     refine dqQ [] [] rfl (zbr (zal [16] rfl) ?_)
     exact zbd (zah rfl)
    ·
     intro vf pf hmu hR
     have e3 : (∃ pm_, (pf 3) = [pm_] ∧ (fun u_ p_ => (∃ x_ : Int, u_ = .int .i64 x_ ∧ 0 ≤ x_ ∧ x_ < 32) ∧ p_ = curE g a len cap) (vf 3) pm_) := hR 3 (by decide)
     obtain ⟨p30, pE3, hR31⟩ := e3
     obtain ⟨v29, vE3⟩ : ∃ x, vf 3 = x := ⟨_, rfl⟩
     rw [vE3] at hR31
     obtain ⟨⟨xhR31, rfl, xhR310, xhR311⟩, rfl⟩ := hR31
     have e4 := hR 4 (by decide)
     have e5 := hR 5 (by decide)
     refine Or.inl ⟨rfl, ?_⟩
     show RunM _ _ _ (pf 3) (([4, 5] : List Nat).flatMap pf ++ _) (envOf _ vf [3, 4, 5] ++ _) _ _
     rw [pE3]
     exact zda (sk 79 (congrArg some e4.1) (sk 80 (congrArg some e5.1) (zad _))) (by simp only [e4.2, e5.2, fS] <;> rfl) (zdt (R := (fun u_ p_ => (∃ x_ : Int, u_ = .int .i64 x_ ∧ 0 ≤ x_ ∧ x_ < 2 * (((1 + (1 + xhR4)) + xhR8) + xhR11)) ∧ p_ = curE g a len cap)) rfl rfl (fun L w hX hm => zch g a len cap z (2 * (((1 + (1 + xhR4)) + xhR8) + xhR11)) _ _ _ hm hb (by constructor <;> omega)))
    ·
     intro vf pf hmu hR
     refine dqQ [] [] rfl (zbr (zal [0] rfl) ?_)
     exact zbd (zah rfl)
    ·
     intro vf pf hmu hR
     refine dqQ [] [] rfl (zbr (zal [16] rfl) ?_)
     exact zbd (zah rfl)
    ·
     intro vf pf hmu hR
     have e6 : (∃ pm_, (pf 6) = [pm_] ∧ (fun u_ p_ => (∃ x_ : Int, u_ = .int .i64 x_ ∧ 0 ≤ x_ ∧ x_ < 2 * (((1 + (1 + xhR4)) + xhR8) + xhR11)) ∧ p_ = curE g a len cap) (vf 6) pm_) := hR 6 (by decide)
     obtain ⟨p33, pE6, hR34⟩ := e6
     obtain ⟨v32, vE6⟩ : ∃ x, vf 6 = x := ⟨_, rfl⟩
     rw [vE6] at hR34
     obtain ⟨⟨xhR34, rfl, xhR340, xhR341⟩, rfl⟩ := hR34
     have e7 := hR 7 (by decide)
     have e8 := hR 8 (by decide)
     refine Or.inl ⟨rfl, ?_⟩
     show RunM _ _ _ (pf 6) (([7, 8] : List Nat).flatMap pf ++ _) (envOf _ vf [6, 7, 8] ++ _) _ _
     rw [pE6]
     exact zda (sk 82 (congrArg some e7.1) (sk 83 (congrArg some e8.1) (zad _))) (by simp only [e7.2, e8.2, fS] <;> rfl) (zdt (R := (fun u_ p_ => (∃ x_ : Int, u_ = .int .i64 x_ ∧ 0 ≤ x_ ∧ x_ < 2 * (((1 + (1 + xhR4)) + xhR8) + xhR11)) ∧ p_ = curE g a len cap)) rfl rfl (fun L w hX hm => zch g a len cap z (2 * (((1 + (1 + xhR4)) + xhR8) + xhR11)) _ _ _ hm hb (by constructor <;> omega)))
    ·
     intro vf pf hmu hR
     refine dqQ [] [] rfl (zbr (zal [0] rfl) ?_)
     exact zbd (zah rfl)
    ·
     intro vf pf hmu hR
     refine dqQ [] [] rfl (zbr (zal [16] rfl) ?_)
     exact zbd (zah rfl)
    ·
     intro vf pf hmu hR
     have e9 : (∃ pm_, (pf 9) = [pm_] ∧ (fun u_ p_ => (∃ x_ : Int, u_ = .int .i64 x_ ∧ 0 ≤ x_ ∧ x_ < 2 * (((1 + (1 + xhR4)) + xhR8) + xhR11)) ∧ p_ = curE g a len cap) (vf 9) pm_) := hR 9 (by decide)
     obtain ⟨p36, pE9, hR37⟩ := e9
     obtain ⟨v35, vE9⟩ : ∃ x, vf 9 = x := ⟨_, rfl⟩
     rw [vE9] at hR37
     obtain ⟨⟨xhR37, rfl, xhR370, xhR371⟩, rfl⟩ := hR37
     have e10 := hR 10 (by decide)
     have e11 := hR 11 (by decide)
     refine Or.inl ⟨rfl, ?_⟩
     show RunM _ _ _ (pf 9) (([10, 11] : List Nat).flatMap pf ++ _) (envOf _ vf [9, 10, 11] ++ _) _ _
     rw [pE9]
     exact zda (sk 85 (congrArg some e10.1) (sk 86 (congrArg some e11.1) (zad _))) (by simp only [e10.2, e11.2, fS] <;> rfl) (zdt (R := (fun u_ p_ => (∃ x_ : Int, u_ = .int .i64 x_ ∧ 0 ≤ x_ ∧ x_ < 2 * (((1 + (1 + xhR4)) + xhR8) + xhR11)) ∧ p_ = curE g a len cap)) rfl rfl (fun L w hX hm => zch g a len cap z (2 * (((1 + (1 + xhR4)) + xhR8) + xhR11)) _ _ _ hm hb (by constructor <;> omega)))
    ·
     intro vf pf hmu hR
     refine dqQ [] [] rfl (zbr (zal [0] rfl) ?_)
     exact zbd (zah rfl)
    ·
     intro vf pf hmu hR
     refine dqQ [] [] rfl (zbr (zal [16] rfl) ?_)
     exact zbd (zah rfl)
    ·
     intro vf pf hmu hR
     have e12 : (∃ pm_, (pf 12) = [pm_] ∧ (fun u_ p_ => (∃ x_ : Int, u_ = .int .i64 x_ ∧ 0 ≤ x_ ∧ x_ < 2 * (((1 + (1 + xhR4)) + xhR8) + xhR11)) ∧ p_ = curE g a len cap) (vf 12) pm_) := hR 12 (by decide)
     obtain ⟨p39, pE12, hR40⟩ := e12
     obtain ⟨v38, vE12⟩ : ∃ x, vf 12 = x := ⟨_, rfl⟩
     rw [vE12] at hR40
     obtain ⟨⟨xhR40, rfl, xhR400, xhR401⟩, rfl⟩ := hR40
     have e13 := hR 13 (by decide)
     have e14 := hR 14 (by decide)
     refine Or.inl ⟨rfl, ?_⟩
     show RunM _ _ _ (pf 12) (([13, 14] : List Nat).flatMap pf ++ _) (envOf _ vf [12, 13, 14] ++ _) _ _
     rw [pE12]
     exact zda (sk 88 (congrArg some e13.1) (sk 89 (congrArg some e14.1) (zad _))) (by simp only [e13.2, e14.2, fS] <;> rfl) (zdt (R := (fun u_ p_ => (∃ x_ : Int, u_ = .int .i64 x_ ∧ 0 ≤ x_ ∧ x_ < 2 * (((1 + (1 + xhR4)) + xhR8) + xhR11)) ∧ p_ = curE g a len cap)) rfl rfl (fun L w hX hm => zch g a len cap z (2 * (((1 + (1 + xhR4)) + xhR8) + xhR11)) _ _ _ hm hb (by constructor <;> omega)))
    ·
     intro vf pf hmu hR
     have e6 : (∃ pm_, (pf 6) = [pm_] ∧ (fun u_ p_ => (∃ x_ : Int, u_ = .int .i64 x_ ∧ 0 ≤ x_ ∧ x_ < 2 * (((1 + (1 + xhR4)) + xhR8) + xhR11)) ∧ p_ = curE g a len cap) (vf 6) pm_) := hR 6 (by decide)
     obtain ⟨p33, pE6, hR34⟩ := e6
     obtain ⟨v32, vE6⟩ : ∃ x, vf 6 = x := ⟨_, rfl⟩
     rw [vE6] at hR34
     obtain ⟨⟨xhR34, rfl, xhR340, xhR341⟩, rfl⟩ := hR34
     have e9 : (∃ pm_, (pf 9) = [pm_] ∧ (fun u_ p_ => (∃ x_ : Int, u_ = .int .i64 x_ ∧ 0 ≤ x_ ∧ x_ < 2 * (((1 + (1 + xhR4)) + xhR8) + xhR11)) ∧ p_ = curE g a len cap) (vf 9) pm_) := hR 9 (by decide)
     obtain ⟨p36, pE9, hR37⟩ := e9
     obtain ⟨v35, vE9⟩ : ∃ x, vf 9 = x := ⟨_, rfl⟩
     rw [vE9] at hR37
     obtain ⟨⟨xhR37, rfl, xhR370, xhR371⟩, rfl⟩ := hR37
     have e12 : (∃ pm_, (pf 12) = [pm_] ∧ (fun u_ p_ => (∃ x_ : Int, u_ = .int .i64 x_ ∧ 0 ≤ x_ ∧ x_ < 2 * (((1 + (1 + xhR4)) + xhR8) + xhR11)) ∧ p_ = curE g a len cap) (vf 12) pm_) := hR 12 (by decide)
     obtain ⟨p39, pE12, hR40⟩ := e12
     obtain ⟨v38, vE12⟩ : ∃ x, vf 12 = x := ⟨_, rfl⟩
     rw [vE12] at hR40
     obtain ⟨⟨xhR40, rfl, xhR400, xhR401⟩, rfl⟩ := hR40
     have e15 : (∃ pm_, (pf 15) = [pm_] ∧ (fun u_ p_ => (∃ x_ : Int, u_ = .int .i64 x_ ∧ 0 ≤ x_ ∧ x_ < 2 * (((1 + (1 + xhR4)) + xhR8) + xhR11)) ∧ p_ = curE g a len cap) (vf 15) pm_) := hR 15 (by decide)
     obtain ⟨p42, pE15, hR43⟩ := e15
     obtain ⟨v41, vE15⟩ : ∃ x, vf 15 = x := ⟨_, rfl⟩
     rw [vE15] at hR43
     obtain ⟨⟨xhR43, rfl, xhR430, xhR431⟩, rfl⟩ := hR43
     refine dqQ [15] [6, 9, 12, 15] rfl (zby (sk 81 (congrArg some vE6) (sk 84 (congrArg some vE9) (sk 87 (congrArg some vE12) (sk 90 (congrArg some vE15) (zad _))))) (by simp only [pE15, vE15, fS] <;> rfl) ?_)
     exact zck (zav (z := .int .i64 0) (s := 1) (cs := ([xhR34, xhR37, xhR40, xhR43].map (Value.int .i64))) rfl Try.underlying26 rfl (by decide) rfl (by kernel_rfl) rfl) (fun v_ p_ h => by show IsRow_o 3 1 4 ([(intOf_o (vf 6)), (intOf_o (vf 9)), (intOf_o (vf 12)), (intOf_o (vf 15))].map (Value.int .i64)) v_ p_; rw [vE6, vE9, vE12, vE15]; exact h)
    ·
     intro vf pf hmu hR
     have e3 : (∃ pm_, (pf 3) = [pm_] ∧ (fun u_ p_ => (∃ x_ : Int, u_ = .int .i64 x_ ∧ 0 ≤ x_ ∧ x_ < 32) ∧ p_ = curE g a len cap) (vf 3) pm_) := hR 3 (by decide)
     obtain ⟨p30, pE3, hR31⟩ := e3
     obtain ⟨v29, vE3⟩ : ∃ x, vf 3 = x := ⟨_, rfl⟩
     rw [vE3] at hR31
     obtain ⟨⟨xhR31, rfl, xhR310, xhR311⟩, rfl⟩ := hR31
     have e6 : (∃ pm_, (pf 6) = [pm_] ∧ (fun u_ p_ => (∃ x_ : Int, u_ = .int .i64 x_ ∧ 0 ≤ x_ ∧ x_ < 2 * (((1 + (1 + xhR4)) + xhR8) + xhR11)) ∧ p_ = curE g a len cap) (vf 6) pm_) := hR 6 (by decide)
     obtain ⟨p33, pE6, hR34⟩ := e6
     obtain ⟨v32, vE6⟩ : ∃ x, vf 6 = x := ⟨_, rfl⟩
     rw [vE6] at hR34
     obtain ⟨⟨xhR34, rfl, xhR340, xhR341⟩, rfl⟩ := hR34
     have e9 : (∃ pm_, (pf 9) = [pm_] ∧ (fun u_ p_ => (∃ x_ : Int, u_ = .int .i64 x_ ∧ 0 ≤ x_ ∧ x_ < 2 * (((1 + (1 + xhR4)) + xhR8) + xhR11)) ∧ p_ = curE g a len cap) (vf 9) pm_) := hR 9 (by decide)
     obtain ⟨p36, pE9, hR37⟩ := e9
     obtain ⟨v35, vE9⟩ : ∃ x, vf 9 = x := ⟨_, rfl⟩
     rw [vE9] at hR37
     obtain ⟨⟨xhR37, rfl, xhR370, xhR371⟩, rfl⟩ := hR37
     have e12 : (∃ pm_, (pf 12) = [pm_] ∧ (fun u_ p_ => (∃ x_ : Int, u_ = .int .i64 x_ ∧ 0 ≤ x_ ∧ x_ < 2 * (((1 + (1 + xhR4)) + xhR8) + xhR11)) ∧ p_ = curE g a len cap) (vf 12) pm_) := hR 12 (by decide)
     obtain ⟨p39, pE12, hR40⟩ := e12
     obtain ⟨v38, vE12⟩ : ∃ x, vf 12 = x := ⟨_, rfl⟩
     rw [vE12] at hR40
     obtain ⟨⟨xhR40, rfl, xhR400, xhR401⟩, rfl⟩ := hR40
     have e15 : (∃ pm_, (pf 15) = [pm_] ∧ (fun u_ p_ => (∃ x_ : Int, u_ = .int .i64 x_ ∧ 0 ≤ x_ ∧ x_ < 2 * (((1 + (1 + xhR4)) + xhR8) + xhR11)) ∧ p_ = curE g a len cap) (vf 15) pm_) := hR 15 (by decide)
     obtain ⟨p42, pE15, hR43⟩ := e15
     obtain ⟨v41, vE15⟩ : ∃ x, vf 15 = x := ⟨_, rfl⟩
     rw [vE15] at hR43
     obtain ⟨⟨xhR43, rfl, xhR430, xhR431⟩, rfl⟩ := hR43
     have e16 : IsRow_o 3 1 4 ([(intOf_o (vf 6)), (intOf_o (vf 9)), (intOf_o (vf 12)), (intOf_o (vf 15))].map (Value.int .i64)) (vf 16) (pf 16) := hR 16 (by decide)
     rw [vE6, vE9, vE12, vE15] at e16
     obtain ⟨g44, vE16, pE16⟩ := e16
     refine dqQ [15, 16] [3, 6, 9, 12, 15, 16] rfl (zby (sk 78 (congrArg some vE3) (sk 91 (congrArg some vE16) (zad _))) (by simp only [pE15, vE15, pE16, vE16, fS] <;> rfl) ?_)
     exact zck (zbd (zdp (cs := #[.int .i64 1, .int .i64 xhR31, .slice (some ⟨g44, 0, none⟩) 4 4]) rfl rfl rfl)) (fun _ _ h => ⟨h.1.trans (by show _ = (.agg #[.int .i64 1, .int .i64 (intOf_o (vf 3)), (vf 16)] : Value); first | (rw [vE3, vE16]; done) | (rw [vE3, vE16]; rfl)), h.2⟩)
    intro vf pf hmu hR
    have e3 : (∃ pm_, (pf 3) = [pm_] ∧ (fun u_ p_ => (∃ x_ : Int, u_ = .int .i64 x_ ∧ 0 ≤ x_ ∧ x_ < 32) ∧ p_ = curE g a len cap) (vf 3) pm_) := hR 3 (by decide)
    obtain ⟨p30, pE3, hR31⟩ := e3
    obtain ⟨v29, vE3⟩ : ∃ x, vf 3 = x := ⟨_, rfl⟩
    rw [vE3] at hR31
    obtain ⟨⟨xhR31, rfl, xhR310, xhR311⟩, rfl⟩ := hR31
    have e6 : (∃ pm_, (pf 6) = [pm_] ∧ (fun u_ p_ => (∃ x_ : Int, u_ = .int .i64 x_ ∧ 0 ≤ x_ ∧ x_ < 2 * (((1 + (1 + xhR4)) + xhR8) + xhR11)) ∧ p_ = curE g a len cap) (vf 6) pm_) := hR 6 (by decide)
    obtain ⟨p33, pE6, hR34⟩ := e6
    obtain ⟨v32, vE6⟩ : ∃ x, vf 6 = x := ⟨_, rfl⟩
    rw [vE6] at hR34
    obtain ⟨⟨xhR34, rfl, xhR340, xhR341⟩, rfl⟩ := hR34
    have e9 : (∃ pm_, (pf 9) = [pm_] ∧ (fun u_ p_ => (∃ x_ : Int, u_ = .int .i64 x_ ∧ 0 ≤ x_ ∧ x_ < 2 * (((1 + (1 + xhR4)) + xhR8) + xhR11)) ∧ p_ = curE g a len cap) (vf 9) pm_) := hR 9 (by decide)
    obtain ⟨p36, pE9, hR37⟩ := e9
    obtain ⟨v35, vE9⟩ : ∃ x, vf 9 = x := ⟨_, rfl⟩
    rw [vE9] at hR37
    obtain ⟨⟨xhR37, rfl, xhR370, xhR371⟩, rfl⟩ := hR37
    have e12 : (∃ pm_, (pf 12) = [pm_] ∧ (fun u_ p_ => (∃ x_ : Int, u_ = .int .i64 x_ ∧ 0 ≤ x_ ∧ x_ < 2 * (((1 + (1 + xhR4)) + xhR8) + xhR11)) ∧ p_ = curE g a len cap) (vf 12) pm_) := hR 12 (by decide)
    obtain ⟨p39, pE12, hR40⟩ := e12
    obtain ⟨v38, vE12⟩ : ∃ x, vf 12 = x := ⟨_, rfl⟩
    rw [vE12] at hR40
    obtain ⟨⟨xhR40, rfl, xhR400, xhR401⟩, rfl⟩ := hR40
    have e15 : (∃ pm_, (pf 15) = [pm_] ∧ (fun u_ p_ => (∃ x_ : Int, u_ = .int .i64 x_ ∧ 0 ≤ x_ ∧ x_ < 2 * (((1 + (1 + xhR4)) + xhR8) + xhR11)) ∧ p_ = curE g a len cap) (vf 15) pm_) := hR 15 (by decide)
    obtain ⟨p42, pE15, hR43⟩ := e15
    obtain ⟨v41, vE15⟩ : ∃ x, vf 15 = x := ⟨_, rfl⟩
    rw [vE15] at hR43
    obtain ⟨⟨xhR43, rfl, xhR430, xhR431⟩, rfl⟩ := hR43
    have e16 : IsRow_o 3 1 4 ([(intOf_o (vf 6)), (intOf_o (vf 9)), (intOf_o (vf 12)), (intOf_o (vf 15))].map (Value.int .i64)) (vf 16) (pf 16) := hR 16 (by decide)
    rw [vE6, vE9, vE12, vE15] at e16
    obtain ⟨g44, vE16, pE16⟩ := e16
    have e17 : (vf 17) = .agg #[.int .i64 1, .int .i64 (intOf_o (vf 3)), (vf 16)] ∧ (pf 17) = [] := hR 17 (by decide)
    rw [vE3, vE16] at e17
    refine dqQ [15, 16, 17] [3, 6, 9, 12, 15, 16, 17] rfl (zby (sk 92 (congrArg some e17.1) (zad _)) (by simp only [pE15, vE15, pE16, vE16, e17.2, fS] <;> rfl) ?_)
    exact zck (zav (z := .agg #[.int .i64 0, .int .i64 0, .slice none 0 0]) (s := 3) (cs := [.int .i64 1, .int .i64 xhR31, .slice (some ⟨g44, 0, none⟩) 4 4]) rfl Try.underlying24 rfl (by decide) rfl (by kernel_rfl) rfl) (fun v_ p_ h => by show IsRow_o 35 3 1 ([.int .i64 1, .int .i64 (intOf_o (vf 3)), (vf 16)]) v_ p_; rw [vE3, vE16]; exact h)
   intro vf pf hmu hR
   have e1 := hR 1 (by decide)
   have e3 : (∃ pm_, (pf 3) = [pm_] ∧ (fun u_ p_ => (∃ x_ : Int, u_ = .int .i64 x_ ∧ 0 ≤ x_ ∧ x_ < 32) ∧ p_ = curE g a len cap) (vf 3) pm_) := hR 3 (by decide)
   obtain ⟨p30, pE3, hR31⟩ := e3
   obtain ⟨v29, vE3⟩ : ∃ x, vf 3 = x := ⟨_, rfl⟩
   rw [vE3] at hR31
   obtain ⟨⟨xhR31, rfl, xhR310, xhR311⟩, rfl⟩ := hR31
   have e6 : (∃ pm_, (pf 6) = [pm_] ∧ (fun u_ p_ => (∃ x_ : Int, u_ = .int .i64 x_ ∧ 0 ≤ x_ ∧ x_ < 2 * (((1 + (1 + xhR4)) + xhR8) + xhR11)) ∧ p_ = curE g a len cap) (vf 6) pm_) := hR 6 (by decide)
   obtain ⟨p33, pE6, hR34⟩ := e6
   obtain ⟨v32, vE6⟩ : ∃ x, vf 6 = x := ⟨_, rfl⟩
   rw [vE6] at hR34
   obtain ⟨⟨xhR34, rfl, xhR340, xhR341⟩, rfl⟩ := hR34
   have e9 : (∃ pm_, (pf 9) = [pm_] ∧ (fun u_ p_ => (∃ x_ : Int, u_ = .int .i64 x_ ∧ 0 ≤ x_ ∧ x_ < 2 * (((1 + (1 + xhR4)) + xhR8) + xhR11)) ∧ p_ = curE g a len cap) (vf 9) pm_) := hR 9 (by decide)
   obtain ⟨p36, pE9, hR37⟩ := e9
   obtain ⟨v35, vE9⟩ : ∃ x, vf 9 = x := ⟨_, rfl⟩
   rw [vE9] at hR37
   obtain ⟨⟨xhR37, rfl, xhR370, xhR371⟩, rfl⟩ := hR37
   have e12 : (∃ pm_, (pf 12) = [pm_] ∧ (fun u_ p_ => (∃ x_ : Int, u_ = .int .i64 x_ ∧ 0 ≤ x_ ∧ x_ < 2 * (((1 + (1 + xhR4)) + xhR8) + xhR11)) ∧ p_ = curE g a len cap) (vf 12) pm_) := hR 12 (by decide)
   obtain ⟨p39, pE12, hR40⟩ := e12
   obtain ⟨v38, vE12⟩ : ∃ x, vf 12 = x := ⟨_, rfl⟩
   rw [vE12] at hR40
   obtain ⟨⟨xhR40, rfl, xhR400, xhR401⟩, rfl⟩ := hR40
   have e15 : (∃ pm_, (pf 15) = [pm_] ∧ (fun u_ p_ => (∃ x_ : Int, u_ = .int .i64 x_ ∧ 0 ≤ x_ ∧ x_ < 2 * (((1 + (1 + xhR4)) + xhR8) + xhR11)) ∧ p_ = curE g a len cap) (vf 15) pm_) := hR 15 (by decide)
   obtain ⟨p42, pE15, hR43⟩ := e15
   obtain ⟨v41, vE15⟩ : ∃ x, vf 15 = x := ⟨_, rfl⟩
   rw [vE15] at hR43
   obtain ⟨⟨xhR43, rfl, xhR430, xhR431⟩, rfl⟩ := hR43
   have e16 : IsRow_o 3 1 4 ([(intOf_o (vf 6)), (intOf_o (vf 9)), (intOf_o (vf 12)), (intOf_o (vf 15))].map (Value.int .i64)) (vf 16) (pf 16) := hR 16 (by decide)
   rw [vE6, vE9, vE12, vE15] at e16
   obtain ⟨g44, vE16, pE16⟩ := e16
   have e18 : IsRow_o 35 3 1 ([.int .i64 1, .int .i64 (intOf_o (vf 3)), (vf 16)]) (vf 18) (pf 18) := hR 18 (by decide)
   rw [vE3, vE16] at e18
   obtain ⟨g45, vE18, pE18⟩ := e18
   have q0 := hR 0 (by decide)
   have q1 := hR 1 (by decide)
   have q2 := hR 2 (by decide)
   have q4 := hR 4 (by decide)
   have q5 := hR 5 (by decide)
   have q7 := hR 7 (by decide)
   have q8 := hR 8 (by decide)
   have q10 := hR 10 (by decide)
   have q11 := hR 11 (by decide)
   have q13 := hR 13 (by decide)
   have q14 := hR 14 (by decide)
   have q17 := hR 17 (by decide)
   refine zcj (zbe [74, 70, 39, 17, 16, 12, 11, 10, 9, 8, 3, 2, 1, 0] _ (sk 76 (congrArg some e1.1) (sk 93 (congrArg some vE18) (zad _))) rfl) (by simp only [pE15, vE15, pE16, vE16, pE18, vE18, q0.2, q1.2, q2.2, q4.2, q5.2, q7.2, q8.2, q10.2, q11.2, q13.2, q14.2, q17.2, fS] <;> rfl) ?_
   simp only [List.drop_succ_cons, List.drop_zero]
   refine zci (i := 4) (z := .agg #[.int .i64 0, .int .i64 0, .slice none 0 0]) (bytes := 40) rfl rfl rfl rfl Try.underlying24 (by kernel_rfl) rfl rfl rfl rfl (zag 2 rfl) (by simp [Value.oneCell']) (by first | omega | (simp only [List.length_append, List.length_cons, List.length_nil]; omega)) (zbx ss [(Sq.mk 1 xhR31 (.slice (some ⟨g44, 0, none⟩) 4 4) ([xhR34, xhR37, xhR40, xhR43]))]) (zcy sqC ss (Sq.mk 1 xhR31 (.slice (some ⟨g44, 0, none⟩) 4 4) ([xhR34, xhR37, xhR40, xhR43])) _ rfl) (fun _ => rfl) ?_
   intro v46
   refine hvQ rfl (zaa (k0 := 1) rfl rfl rfl) (zcp (i := 4) rfl (fun ho47 => ?_))
   refine zei (i := 7) (cs' := #[.int .i64 (1 + xhR4), v46, u, .slice none 0 0]) rfl rfl rfl rfl rfl rfl ho47 rfl rfl rfl rfl (zcf (zcv (reQ 1 rfl (hvQ rfl (vaQ rfl rfl rfl) (enQ 1 rfl ?_)))))
   refine zbj 9 [8, 7, 6, 5, 4, 2, 0, 1, 3] rfl rfl (by decide) ?_
   refine zew (bigE ((ss ++ [(Sq.mk 1 xhR31 (.slice (some ⟨g44, 0, none⟩) 4 4) ([xhR34, xhR37, xhR40, xhR43]))]).map sqPart) :: curE g a len cap :: rowE 35 3 (.slice (some ⟨g45, 0, none⟩) 1 1) 1 ([.int .i64 1, .int .i64 xhR31, .slice (some ⟨g44, 0, none⟩) 4 4]) :: rowE 35 3 v46 ((ss ++ [(Sq.mk 1 xhR31 (.slice (some ⟨g44, 0, none⟩) 4 4) ([xhR34, xhR37, xhR40, xhR43]))]).length) ((ss ++ [(Sq.mk 1 xhR31 (.slice (some ⟨g44, 0, none⟩) 4 4) ([xhR34, xhR37, xhR40, xhR43]))]).flatMap sqC) :: rowE 124 2 u gs.length (gs.flatMap anC) :: rowE 3 1 (.slice none 0 0) 0 ([]) :: boxE b5 #[.int .i64 (1 + xhR4), v46, u, .slice none 0 0] 101 :: boxE b1 #[.int .i64 0, .slice none 0 0, .slice none 0 0, .slice none 0 0] 101 :: l) (fun w hm => by rw [List.map_append]; exact conv_snocX w hm) ?_
   refine zbj 8 [1, 7, 6, 5, 4, 3, 0] rfl rfl (by decide) ?_
   exact zbv (i + 1) v46 (ss ++ [(Sq.mk 1 xhR31 (.slice (some ⟨g44, 0, none⟩) 4 4) ([xhR34, xhR37, xhR40, xhR43]))]) ⟨by omega, by simp; omega, sqs_app hso ⟨.inr ⟨rfl, by dsimp only; omega, rfl⟩⟩ (fun x hx => by simp only [List.mem_cons, List.not_mem_nil, or_false] at hx; unfold LtOk; omega)⟩ (by omega) (saQ rfl) (.refl _)
  refine ntQ (zaq rfl ?_)
  refine zfd 7 [5, 4, 3, 2, 1, 0, 6] rfl rfl (by decide) ?_
  refine zfe (l := (bigE (ss.map sqPart) :: rowE 35 3 uq ss.length (ss.flatMap sqC) :: rowE 124 2 u gs.length (gs.flatMap anC) :: rowE 3 1 (.slice none 0 0) 0 ([]) :: boxE b5 #[.int .i64 (1 + xhR4), uq, u, .slice none 0 0] 101 :: boxE b1 #[.int .i64 0, .slice none 0 0, .slice none 0 0, .slice none 0 0] 101 :: l)) rfl 14 [0, 1, 2, 3, 4, 5, 6, 7, 8, 9, 10, 11, 12, 13] (List.take 14 _) (List.drop 14 _) [[], [0], [], [2], [], [4], [], [], [7], [3, 6, 8], [5, 9], [9, 10], [3, 9, 11], [3, 9, 11, 12]] [96, 97, 98, 99, 100, 101, 102, 103, 104, 105, 106, 107, 108, 109] (fun i_ vs_ v_ p_ => match i_ with | 0 => v_ = .pointer (some ⟨b5, 0 + 1, none⟩) ∧ p_ = [] | 1 => v_ = uq ∧ p_ = [] | 2 => v_ = .pointer (some ⟨g, 0, none⟩) ∧ p_ = [] | 3 => (∃ pm_, p_ = [pm_] ∧ (fun u_ p_ => (∃ x_ : Int, u_ = .int .i64 x_ ∧ 0 ≤ x_ ∧ x_ < 2) ∧ p_ = curE g a len cap) v_ pm_) | 4 => v_ = .int .i64 (2 * (((1 + (1 + xhR4)) + xhR8) + xhR11)) ∧ p_ = [] | 5 => v_ = .int .i64 ((2 * (((1 + (1 + xhR4)) + xhR8) + xhR11)) - 1) ∧ p_ = [] | 6 => v_ = .pointer (some ⟨g, 0, none⟩) ∧ p_ = [] | 7 => v_ = .int .i64 (2 * (((1 + (1 + xhR4)) + xhR8) + xhR11)) ∧ p_ = [] | 8 => v_ = .int .i64 (min (2 * (((1 + (1 + xhR4)) + xhR8) + xhR11)) 12) ∧ p_ = [] | 9 => (∃ pm_, p_ = [pm_] ∧ (fun u_ p_ => (∃ x_ : Int, u_ = .int .i64 x_ ∧ 0 ≤ x_ ∧ x_ < min (2 * (((1 + (1 + xhR4)) + xhR8) + xhR11)) 12) ∧ p_ = curE g a len cap) v_ pm_) | 10 => v_ = .int .i64 (((2 * (((1 + (1 + xhR4)) + xhR8) + xhR11)) - 1) - (intOf_o (List.getD vs_ 1 undef))) ∧ p_ = [] | 11 => IsRow_o 3 1 1 ([((2 * (((1 + (1 + xhR4)) + xhR8) + xhR11)) - 1) - (intOf_o (List.getD vs_ 0 undef))].map (Value.int .i64)) v_ p_ | 12 => v_ = .agg #[.int .i64 0, .int .i64 (intOf_o (List.getD vs_ 0 undef)), (List.getD vs_ 2 undef)] ∧ p_ = [] | 13 => IsRow_o 35 3 1 ([.int .i64 0, .int .i64 (intOf_o (List.getD vs_ 0 undef)), (List.getD vs_ 2 undef)]) v_ p_ | _ => True) [[], [0], [], [2], [], [4], [], [], [7], [6, 8], [5, 9], [9, 10], [9, 11], [9, 11, 12]] [none, none, none, some 17, none, none, none, none, none, some 3, none, none, none, none] [curE g a len cap] [0, 1, 2, 4, 5, 6, 7, 8, 9, 10, 11, 12, 13] 17 (List.take_append_drop 14 _).symm (by kernel_rfl) (by kernel_rfl) (by kernel_rfl) rfl rfl ?_ ?_
  ·
   refine ⟨?_, ?_, ?_, ?_, ?_, ?_, ?_, ?_, ?_, ?_, ?_, ?_, ?_, ?_, trivial⟩
   ·
    intro vf pf hmu hR
    refine dqQ [] [] rfl (zbr (zal [9] rfl) ?_)
    exact zbd (zaa (k0 := 1) rfl rfl rfl)
   ·
    intro vf pf hmu hR
    have e0 := hR 0 (by decide)
    refine dqQ [0] [0] rfl (zbq (sk 96 (congrArg some e0.1) (zad _)) (List.sublist_append_right _ _) ?_)
    exact zbd (zaj rfl rfl rfl (zae 4 rfl rfl))
   ·
    intro vf pf hmu hR
    refine dqQ [] [] rfl (zbr (zal [0] rfl) ?_)
    exact zbd (zah rfl)
   ·
    intro vf pf hmu hR
    have e2 := hR 2 (by decide)
    refine Or.inl ⟨rfl, ?_⟩
    show RunM _ _ _ (pf 17) (([2] : List Nat).flatMap pf ++ _) (envOf _ vf [2] ++ _) _ _
    rw [hmu]
    exact zda (sk 98 (congrArg some e2.1) (zad _)) (by simp only [e2.2, fS] <;> rfl) (zdt (R := (fun u_ p_ => (∃ x_ : Int, u_ = .int .i64 x_ ∧ 0 ≤ x_ ∧ x_ < 2) ∧ p_ = curE g a len cap)) rfl rfl (fun L w hX hm => zch g a len cap z 2 _ _ _ hm hb (by constructor <;> omega)))
   ·
    intro vf pf hmu hR
    refine dqQ [] [] rfl (zbr (zal [16] rfl) ?_)
    exact zbd (zah rfl)
   ·
    intro vf pf hmu hR
    have e4 := hR 4 (by decide)
    refine dqQ [4] [4] rfl (zbr (sk 100 (congrArg some e4.1) (zad _)) ?_)
    exact zbd (vsQ rfl rfl rfl)
   ·
    intro vf pf hmu hR
    refine dqQ [] [] rfl (zbr (zal [0] rfl) ?_)
    exact zbd (zah rfl)
   ·
    intro vf pf hmu hR
    refine dqQ [] [] rfl (zbr (zal [16] rfl) ?_)
    exact zbd (zah rfl)
   ·
    intro vf pf hmu hR
    have e7 := hR 7 (by decide)
    refine dqQ [7] [7] rfl (zbr (sk 103 (congrArg some e7.1) (zad _)) ?_)
    exact zbd (rv_min rfl rfl rfl)
   ·
    intro vf pf hmu hR
    have e3 : (∃ pm_, (pf 3) = [pm_] ∧ (fun u_ p_ => (∃ x_ : Int, u_ = .int .i64 x_ ∧ 0 ≤ x_ ∧ x_ < 2) ∧ p_ = curE g a len cap) (vf 3) pm_) := hR 3 (by decide)
    obtain ⟨p49, pE3, hR50⟩ := e3
    obtain ⟨v48, vE3⟩ : ∃ x, vf 3 = x := ⟨_, rfl⟩
    rw [vE3] at hR50
    obtain ⟨⟨xhR50, rfl, xhR500, xhR501⟩, rfl⟩ := hR50
    have e6 := hR 6 (by decide)
    have e8 := hR 8 (by decide)
    refine Or.inl ⟨rfl, ?_⟩
    show RunM _ _ _ (pf 3) (([6, 8] : List Nat).flatMap pf ++ _) (envOf _ vf [3, 6, 8] ++ _) _ _
    rw [pE3]
    exact zda (sk 102 (congrArg some e6.1) (sk 104 (congrArg some e8.1) (zad _))) (by simp only [e6.2, e8.2, fS] <;> rfl) (zdt (R := (fun u_ p_ => (∃ x_ : Int, u_ = .int .i64 x_ ∧ 0 ≤ x_ ∧ x_ < min (2 * (((1 + (1 + xhR4)) + xhR8) + xhR11)) 12) ∧ p_ = curE g a len cap)) rfl rfl (fun L w hX hm => zch g a len cap z (min (2 * (((1 + (1 + xhR4)) + xhR8) + xhR11)) 12) _ _ _ hm hb (by constructor <;> omega)))
   ·
    intro vf pf hmu hR
    have e5 := hR 5 (by decide)
    have e9 : (∃ pm_, (pf 9) = [pm_] ∧ (fun u_ p_ => (∃ x_ : Int, u_ = .int .i64 x_ ∧ 0 ≤ x_ ∧ x_ < min (2 * (((1 + (1 + xhR4)) + xhR8) + xhR11)) 12) ∧ p_ = curE g a len cap) (vf 9) pm_) := hR 9 (by decide)
    obtain ⟨p52, pE9, hR53⟩ := e9
    obtain ⟨v51, vE9⟩ : ∃ x, vf 9 = x := ⟨_, rfl⟩
    rw [vE9] at hR53
    obtain ⟨⟨xhR53, rfl, xhR530, xhR531⟩, rfl⟩ := hR53
    refine dqQ [5, 9] [5, 9] rfl (zby (sk 101 (congrArg some e5.1) (sk 105 (congrArg some vE9) (zad _))) (by simp only [pE9, vE9, e5.2, fS] <;> rfl) ?_)
    exact zck (zbd (vsQ rfl rfl rfl)) (fun _ _ h => ⟨h.1.trans (by show _ = (.int .i64 (((2 * (((1 + (1 + xhR4)) + xhR8) + xhR11)) - 1) - (intOf_o (vf 9))) : Value); first | (rw [vE9]; done) | (rw [vE9]; rfl)), h.2⟩)
   ·
    intro vf pf hmu hR
    have e9 : (∃ pm_, (pf 9) = [pm_] ∧ (fun u_ p_ => (∃ x_ : Int, u_ = .int .i64 x_ ∧ 0 ≤ x_ ∧ x_ < min (2 * (((1 + (1 + xhR4)) + xhR8) + xhR11)) 12) ∧ p_ = curE g a len cap) (vf 9) pm_) := hR 9 (by decide)
    obtain ⟨p52, pE9, hR53⟩ := e9
    obtain ⟨v51, vE9⟩ : ∃ x, vf 9 = x := ⟨_, rfl⟩
    rw [vE9] at hR53
    obtain ⟨⟨xhR53, rfl, xhR530, xhR531⟩, rfl⟩ := hR53
    have e10 : (vf 10) = .int .i64 (((2 * (((1 + (1 + xhR4)) + xhR8) + xhR11)) - 1) - (intOf_o (vf 9))) ∧ (pf 10) = [] := hR 10 (by decide)
    rw [vE9] at e10
    refine dqQ [9, 10] [9, 10] rfl (zby (sk 106 (congrArg some e10.1) (zad _)) (by simp only [pE9, vE9, e10.2, fS] <;> rfl) ?_)
    exact zck (zav (z := .int .i64 0) (s := 1) (cs := ([((2 * (((1 + (1 + xhR4)) + xhR8) + xhR11)) - 1) - xhR53].map (Value.int .i64))) rfl Try.underlying26 rfl (by decide) rfl (by kernel_rfl) rfl) (fun v_ p_ h => by show IsRow_o 3 1 1 ([((2 * (((1 + (1 + xhR4)) + xhR8) + xhR11)) - 1) - (intOf_o (vf 9))].map (Value.int .i64)) v_ p_; rw [vE9]; exact h)
   ·
    intro vf pf hmu hR
    have e3 : (∃ pm_, (pf 3) = [pm_] ∧ (fun u_ p_ => (∃ x_ : Int, u_ = .int .i64 x_ ∧ 0 ≤ x_ ∧ x_ < 2) ∧ p_ = curE g a len cap) (vf 3) pm_) := hR 3 (by decide)
    obtain ⟨p49, pE3, hR50⟩ := e3
    obtain ⟨v48, vE3⟩ : ∃ x, vf 3 = x := ⟨_, rfl⟩
    rw [vE3] at hR50
    obtain ⟨⟨xhR50, rfl, xhR500, xhR501⟩, rfl⟩ := hR50
    have e9 : (∃ pm_, (pf 9) = [pm_] ∧ (fun u_ p_ => (∃ x_ : Int, u_ = .int .i64 x_ ∧ 0 ≤ x_ ∧ x_ < min (2 * (((1 + (1 + xhR4)) + xhR8) + xhR11)) 12) ∧ p_ = curE g a len cap) (vf 9) pm_) := hR 9 (by decide)
    obtain ⟨p52, pE9, hR53⟩ := e9
    obtain ⟨v51, vE9⟩ : ∃ x, vf 9 = x := ⟨_, rfl⟩
    rw [vE9] at hR53
    obtain ⟨⟨xhR53, rfl, xhR530, xhR531⟩, rfl⟩ := hR53
    have e11 : IsRow_o 3 1 1 ([((2 * (((1 + (1 + xhR4)) + xhR8) + xhR11)) - 1) - (intOf_o (vf 9))].map (Value.int .i64)) (vf 11) (pf 11) := hR 11 (by decide)
    rw [vE9] at e11
    obtain ⟨g54, vE11, pE11⟩ := e11
    refine dqQ [9, 11] [3, 9, 11] rfl (zby (sk 99 (congrArg some vE3) (sk 107 (congrArg some vE11) (zad _))) (by simp only [pE9, vE9, pE11, vE11, fS] <;> rfl) ?_)
    exact zck (zbd (zdp (cs := #[.int .i64 0, .int .i64 xhR50, .slice (some ⟨g54, 0, none⟩) 1 1]) rfl rfl rfl)) (fun _ _ h => ⟨h.1.trans (by show _ = (.agg #[.int .i64 0, .int .i64 (intOf_o (vf 3)), (vf 11)] : Value); first | (rw [vE3, vE11]; done) | (rw [vE3, vE11]; rfl)), h.2⟩)
   intro vf pf hmu hR
   have e3 : (∃ pm_, (pf 3) = [pm_] ∧ (fun u_ p_ => (∃ x_ : Int, u_ = .int .i64 x_ ∧ 0 ≤ x_ ∧ x_ < 2) ∧ p_ = curE g a len cap) (vf 3) pm_) := hR 3 (by decide)
   obtain ⟨p49, pE3, hR50⟩ := e3
   obtain ⟨v48, vE3⟩ : ∃ x, vf 3 = x := ⟨_, rfl⟩
   rw [vE3] at hR50
   obtain ⟨⟨xhR50, rfl, xhR500, xhR501⟩, rfl⟩ := hR50
   have e9 : (∃ pm_, (pf 9) = [pm_] ∧ (fun u_ p_ => (∃ x_ : Int, u_ = .int .i64 x_ ∧ 0 ≤ x_ ∧ x_ < min (2 * (((1 + (1 + xhR4)) + xhR8) + xhR11)) 12) ∧ p_ = curE g a len cap) (vf 9) pm_) := hR 9 (by decide)
   obtain ⟨p52, pE9, hR53⟩ := e9
   obtain ⟨v51, vE9⟩ : ∃ x, vf 9 = x := ⟨_, rfl⟩
   rw [vE9] at hR53
   obtain ⟨⟨xhR53, rfl, xhR530, xhR531⟩, rfl⟩ := hR53
   have e11 : IsRow_o 3 1 1 ([((2 * (((1 + (1 + xhR4)) + xhR8) + xhR11)) - 1) - (intOf_o (vf 9))].map (Value.int .i64)) (vf 11) (pf 11) := hR 11 (by decide)
   rw [vE9] at e11
   obtain ⟨g54, vE11, pE11⟩ := e11
   have e12 : (vf 12) = .agg #[.int .i64 0, .int .i64 (intOf_o (vf 3)), (vf 11)] ∧ (pf 12) = [] := hR 12 (by decide)
   rw [vE3, vE11] at e12
   refine dqQ [9, 11, 12] [3, 9, 11, 12] rfl (zby (sk 108 (congrArg some e12.1) (zad _)) (by simp only [pE9, vE9, pE11, vE11, e12.2, fS] <;> rfl) ?_)
   exact zck (zav (z := .agg #[.int .i64 0, .int .i64 0, .slice none 0 0]) (s := 3) (cs := [.int .i64 0, .int .i64 xhR50, .slice (some ⟨g54, 0, none⟩) 1 1]) rfl Try.underlying24 rfl (by decide) rfl (by kernel_rfl) rfl) (fun v_ p_ h => by show IsRow_o 35 3 1 ([.int .i64 0, .int .i64 (intOf_o (vf 3)), (vf 11)]) v_ p_; rw [vE3, vE11]; exact h)
  intro vf pf hmu hR
  have e1 := hR 1 (by decide)
  have e3 : (∃ pm_, (pf 3) = [pm_] ∧ (fun u_ p_ => (∃ x_ : Int, u_ = .int .i64 x_ ∧ 0 ≤ x_ ∧ x_ < 2) ∧ p_ = curE g a len cap) (vf 3) pm_) := hR 3 (by decide)
  obtain ⟨p49, pE3, hR50⟩ := e3
  obtain ⟨v48, vE3⟩ : ∃ x, vf 3 = x := ⟨_, rfl⟩
  rw [vE3] at hR50
  obtain ⟨⟨xhR50, rfl, xhR500, xhR501⟩, rfl⟩ := hR50
  have e9 : (∃ pm_, (pf 9) = [pm_] ∧ (fun u_ p_ => (∃ x_ : Int, u_ = .int .i64 x_ ∧ 0 ≤ x_ ∧ x_ < min (2 * (((1 + (1 + xhR4)) + xhR8) + xhR11)) 12) ∧ p_ = curE g a len cap) (vf 9) pm_) := hR 9 (by decide)
  obtain ⟨p52, pE9, hR53⟩ := e9
  obtain ⟨v51, vE9⟩ : ∃ x, vf 9 = x := ⟨_, rfl⟩
  rw [vE9] at hR53
  obtain ⟨⟨xhR53, rfl, xhR530, xhR531⟩, rfl⟩ := hR53
  have e11 : IsRow_o 3 1 1 ([((2 * (((1 + (1 + xhR4)) + xhR8) + xhR11)) - 1) - (intOf_o (vf 9))].map (Value.int .i64)) (vf 11) (pf 11) := hR 11 (by decide)
  rw [vE9] at e11
  obtain ⟨g54, vE11, pE11⟩ := e11
  have e13 : IsRow_o 35 3 1 ([.int .i64 0, .int .i64 (intOf_o (vf 3)), (vf 11)]) (vf 13) (pf 13) := hR 13 (by decide)
  rw [vE3, vE11] at e13
  obtain ⟨g55, vE13, pE13⟩ := e13
  have q0 := hR 0 (by decide)
  have q1 := hR 1 (by decide)
  have q2 := hR 2 (by decide)
  have q4 := hR 4 (by decide)
  have q5 := hR 5 (by decide)
  have q6 := hR 6 (by decide)
  have q7 := hR 7 (by decide)
  have q8 := hR 8 (by decide)
  have q10 := hR 10 (by decide)
  have q12 := hR 12 (by decide)
  refine zcj (zbe [74, 70, 39, 17, 16, 12, 11, 10, 9, 8, 3, 2, 1, 0] _ (sk 97 (congrArg some e1.1) (sk 109 (congrArg some vE13) (zad _))) rfl) (by simp only [pE9, vE9, pE11, vE11, pE13, vE13, q0.2, q1.2, q2.2, q4.2, q5.2, q6.2, q7.2, q8.2, q10.2, q12.2, fS] <;> rfl) ?_
  simp only [List.drop_succ_cons, List.drop_zero]
  refine zci (i := 4) (z := .agg #[.int .i64 0, .int .i64 0, .slice none 0 0]) (bytes := 40) rfl rfl rfl rfl Try.underlying24 (by kernel_rfl) rfl rfl rfl rfl (zag 2 rfl) (by simp [Value.oneCell']) (by first | omega | (simp only [List.length_append, List.length_cons, List.length_nil]; omega)) (zbx ss [(Sq.mk 0 xhR50 (.slice (some ⟨g54, 0, none⟩) 1 1) ([((2 * (((1 + (1 + xhR4)) + xhR8) + xhR11)) - 1) - xhR53]))]) (zcy sqC ss (Sq.mk 0 xhR50 (.slice (some ⟨g54, 0, none⟩) 1 1) ([((2 * (((1 + (1 + xhR4)) + xhR8) + xhR11)) - 1) - xhR53])) _ rfl) (fun _ => rfl) ?_
  intro v56
  refine hvQ rfl (zaa (k0 := 1) rfl rfl rfl) (zcp (i := 4) rfl (fun ho57 => ?_))
  refine zei (i := 7) (cs' := #[.int .i64 (1 + xhR4), v56, u, .slice none 0 0]) rfl rfl rfl rfl rfl rfl ho57 rfl rfl rfl rfl (zcf (zcv (reQ 1 rfl (hvQ rfl (vaQ rfl rfl rfl) (enQ 1 rfl ?_)))))
  refine zbj 9 [8, 7, 6, 5, 4, 2, 0, 1, 3] rfl rfl (by decide) ?_
  refine zew (bigE ((ss ++ [(Sq.mk 0 xhR50 (.slice (some ⟨g54, 0, none⟩) 1 1) ([((2 * (((1 + (1 + xhR4)) + xhR8) + xhR11)) - 1) - xhR53]))]).map sqPart) :: curE g a len cap :: rowE 35 3 (.slice (some ⟨g55, 0, none⟩) 1 1) 1 ([.int .i64 0, .int .i64 xhR50, .slice (some ⟨g54, 0, none⟩) 1 1]) :: rowE 35 3 v56 ((ss ++ [(Sq.mk 0 xhR50 (.slice (some ⟨g54, 0, none⟩) 1 1) ([((2 * (((1 + (1 + xhR4)) + xhR8) + xhR11)) - 1) - xhR53]))]).length) ((ss ++ [(Sq.mk 0 xhR50 (.slice (some ⟨g54, 0, none⟩) 1 1) ([((2 * (((1 + (1 + xhR4)) + xhR8) + xhR11)) - 1) - xhR53]))]).flatMap sqC) :: rowE 124 2 u gs.length (gs.flatMap anC) :: rowE 3 1 (.slice none 0 0) 0 ([]) :: boxE b5 #[.int .i64 (1 + xhR4), v56, u, .slice none 0 0] 101 :: boxE b1 #[.int .i64 0, .slice none 0 0, .slice none 0 0, .slice none 0 0] 101 :: l) (fun w hm => by rw [List.map_append]; exact conv_snocX w hm) ?_
  refine zbj 8 [1, 7, 6, 5, 4, 3, 0] rfl rfl (by decide) ?_
  exact zbv (i + 1) v56 (ss ++ [(Sq.mk 0 xhR50 (.slice (some ⟨g54, 0, none⟩) 1 1) ([((2 * (((1 + (1 + xhR4)) + xhR8) + xhR11)) - 1) - xhR53]))]) ⟨by omega, by simp; omega, sqs_app hso ⟨.inl ⟨rfl, by dsimp only; omega, rfl⟩⟩ (fun x hx => by simp only [List.mem_cons, List.not_mem_nil, or_false] at hx; unfold LtOk; omega)⟩ (by omega) (saQ rfl) (.refl _)
 refine ntQ (zaq rfl ?_)
 refine zbb (zds ?_)
 refine zai (zay (zac (zac (reQ 1 rfl ?_))))
 refine zdd (R := (fun u_ p_ => (∃ x_ : Int, u_ = .int .i64 x_ ∧ 0 ≤ x_ ∧ x_ < 4) ∧ p_ = curE g a len cap)) 6 rfl rfl rfl rfl rfl (fun l' w hm => zch g a len cap z 4 _ _ _ hm hb (by constructor <;> omega)) ?_
 intro v58 p59 hR60
 obtain ⟨⟨xhR60, rfl, xhR600, xhR601⟩, rfl⟩ := hR60
 refine zee (l' := (bigE (ss.map sqPart) :: rowE 35 3 uq ss.length (ss.flatMap sqC) :: rowE 124 2 u gs.length (gs.flatMap anC) :: rowE 3 1 (.slice none 0 0) 0 ([]) :: boxE b5 #[.int .i64 (1 + xhR4), uq, u, .slice none 0 0] 101 :: boxE b1 #[.int .i64 0, .slice none 0 0, .slice none 0 0, .slice none 0 0] 101 :: curE g a len cap :: l)) rfl ?_
 refine zbc 1 rfl (zax ?_)
 refine lkQ3 (α := Int) (β := Value) (γ := List Int) [0, 1, 2, 3, 8, 9, 10, 11, 12, 16, 39, 70] rfl (fun k uo os => (bigE (ss.map sqPart) :: rowE 35 3 uq ss.length (ss.flatMap sqC) :: rowE 124 2 u gs.length (gs.flatMap anC) :: rowE 3 1 uo os.length (os.map (Value.int .i64)) :: boxE b5 #[.int .i64 (1 + xhR4), uq, u, uo] 101 :: boxE b1 #[.int .i64 0, .slice none 0 0, .slice none 0 0, .slice none 0 0] 101 :: curE g a len cap :: l)) (fun k uo os => [(18, .int .i64 k)]) (fun k uo os => (-1 ≤ k ∧ k ≤ 3) ∧ (os.length : Int) + k ≤ 3 ∧ OsOk (((1 + (1 + xhR4)) + xhR8) + xhR11) os) (fun k uo os => (k + 1).toNat) _ _ [] ⟨by omega, by simp; omega, fun x hx => absurd hx (by simp)⟩ (saQ rfl) (.refl _) ?_
 intro k uo os hi61
 obtain ⟨hk0, hol, hoo⟩ := hi61
 refine zac (zac (reQ 1 rfl ?_))
 refine zff rfl rfl rfl rfl rfl rfl (fun h62 => ?_) (fun h62 => ?_)
 ·
  refine ntQ (zan rfl (zcq (sbQ ?_)))
  refine zfd 7 [5, 4, 3, 2, 1, 0, 6] rfl rfl (by decide) ?_
  refine zfe (l := (bigE (ss.map sqPart) :: rowE 35 3 uq ss.length (ss.flatMap sqC) :: rowE 124 2 u gs.length (gs.flatMap anC) :: rowE 3 1 uo os.length (os.map (Value.int .i64)) :: boxE b5 #[.int .i64 (1 + xhR4), uq, u, uo] 101 :: boxE b1 #[.int .i64 0, .slice none 0 0, .slice none 0 0, .slice none 0 0] 101 :: l)) rfl 10 [0, 1, 2, 3, 4, 5, 6, 7, 8, 9] (List.take 10 _) (List.drop 10 _) [[], [0], [], [2], [], [], [5], [4, 6], [3, 7], [7, 8]] [118, 119, 120, 121, 122, 123, 124, 125, 126, 127] (fun i_ vs_ v_ p_ => match i_ with | 0 => v_ = .pointer (some ⟨b5, 0 + 3, none⟩) ∧ p_ = [] | 1 => v_ = uo ∧ p_ = [] | 2 => v_ = .int .i64 (2 * (((1 + (1 + xhR4)) + xhR8) + xhR11)) ∧ p_ = [] | 3 => v_ = .int .i64 ((2 * (((1 + (1 + xhR4)) + xhR8) + xhR11)) - 1) ∧ p_ = [] | 4 => v_ = .pointer (some ⟨g, 0, none⟩) ∧ p_ = [] | 5 => v_ = .int .i64 (2 * (((1 + (1 + xhR4)) + xhR8) + xhR11)) ∧ p_ = [] | 6 => v_ = .int .i64 (min (2 * (((1 + (1 + xhR4)) + xhR8) + xhR11)) 12) ∧ p_ = [] | 7 => (∃ pm_, p_ = [pm_] ∧ (fun u_ p_ => (∃ x_ : Int, u_ = .int .i64 x_ ∧ 0 ≤ x_ ∧ x_ < min (2 * (((1 + (1 + xhR4)) + xhR8) + xhR11)) 12) ∧ p_ = curE g a len cap) v_ pm_) | 8 => v_ = .int .i64 (((2 * (((1 + (1 + xhR4)) + xhR8) + xhR11)) - 1) - (intOf_o (List.getD vs_ 1 undef))) ∧ p_ = [] | 9 => IsRow_o 3 1 1 ([((2 * (((1 + (1 + xhR4)) + xhR8) + xhR11)) - 1) - (intOf_o (List.getD vs_ 0 undef))].map (Value.int .i64)) v_ p_ | _ => True) [[], [0], [], [2], [], [], [5], [4, 6], [3, 7], [7, 8]] [none, none, none, none, none, none, none, some 13, none, none] [curE g a len cap] [0, 1, 2, 3, 4, 5, 6, 7, 8, 9] 13 (List.take_append_drop 10 _).symm (by kernel_rfl) (by kernel_rfl) (by kernel_rfl) rfl rfl ?_ ?_
  ·
   refine ⟨?_, ?_, ?_, ?_, ?_, ?_, ?_, ?_, ?_, ?_, trivial⟩
   ·
    intro vf pf hmu hR
    refine dqQ [] [] rfl (zbr (zal [9] rfl) ?_)
    exact zbd (zaa (k0 := 3) rfl rfl rfl)
   ·
    intro vf pf hmu hR
    have e0 := hR 0 (by decide)
    refine dqQ [0] [0] rfl (zbq (sk 118 (congrArg some e0.1) (zad _)) (List.sublist_append_right _ _) ?_)
    exact zbd (zaj rfl rfl rfl (zae 4 rfl rfl))
   ·
    intro vf pf hmu hR
    refine dqQ [] [] rfl (zbr (zal [16] rfl) ?_)
    exact zbd (zah rfl)
   ·
    intro vf pf hmu hR
    have e2 := hR 2 (by decide)
    refine dqQ [2] [2] rfl (zbr (sk 120 (congrArg some e2.1) (zad _)) ?_)
    exact zbd (vsQ rfl rfl rfl)
   ·
    intro vf pf hmu hR
    refine dqQ [] [] rfl (zbr (zal [0] rfl) ?_)
    exact zbd (zah rfl)
   ·
    intro vf pf hmu hR
    refine dqQ [] [] rfl (zbr (zal [16] rfl) ?_)
    exact zbd (zah rfl)
   ·
    intro vf pf hmu hR
    have e5 := hR 5 (by decide)
    refine dqQ [5] [5] rfl (zbr (sk 123 (congrArg some e5.1) (zad _)) ?_)
    exact zbd (rv_min rfl rfl rfl)
   ·
    intro vf pf hmu hR
    have e4 := hR 4 (by decide)
    have e6 := hR 6 (by decide)
    refine Or.inl ⟨rfl, ?_⟩
    show RunM _ _ _ (pf 13) (([4, 6] : List Nat).flatMap pf ++ _) (envOf _ vf [4, 6] ++ _) _ _
    rw [hmu]
    exact zda (sk 122 (congrArg some e4.1) (sk 124 (congrArg some e6.1) (zad _))) (by simp only [e4.2, e6.2, fS] <;> rfl) (zdt (R := (fun u_ p_ => (∃ x_ : Int, u_ = .int .i64 x_ ∧ 0 ≤ x_ ∧ x_ < min (2 * (((1 + (1 + xhR4)) + xhR8) + xhR11)) 12) ∧ p_ = curE g a len cap)) rfl rfl (fun L w hX hm => zch g a len cap z (min (2 * (((1 + (1 + xhR4)) + xhR8) + xhR11)) 12) _ _ _ hm hb (by constructor <;> omega)))
   ·
    intro vf pf hmu hR
    have e3 := hR 3 (by decide)
    have e7 : (∃ pm_, (pf 7) = [pm_] ∧ (fun u_ p_ => (∃ x_ : Int, u_ = .int .i64 x_ ∧ 0 ≤ x_ ∧ x_ < min (2 * (((1 + (1 + xhR4)) + xhR8) + xhR11)) 12) ∧ p_ = curE g a len cap) (vf 7) pm_) := hR 7 (by decide)
    obtain ⟨p64, pE7, hR65⟩ := e7
    obtain ⟨v63, vE7⟩ : ∃ x, vf 7 = x := ⟨_, rfl⟩
    rw [vE7] at hR65
    obtain ⟨⟨xhR65, rfl, xhR650, xhR651⟩, rfl⟩ := hR65
    refine dqQ [3, 7] [3, 7] rfl (zby (sk 121 (congrArg some e3.1) (sk 125 (congrArg some vE7) (zad _))) (by simp only [pE7, vE7, e3.2, fS] <;> rfl) ?_)
    exact zck (zbd (vsQ rfl rfl rfl)) (fun _ _ h => ⟨h.1.trans (by show _ = (.int .i64 (((2 * (((1 + (1 + xhR4)) + xhR8) + xhR11)) - 1) - (intOf_o (vf 7))) : Value); first | (rw [vE7]; done) | (rw [vE7]; rfl)), h.2⟩)
   intro vf pf hmu hR
   have e7 : (∃ pm_, (pf 7) = [pm_] ∧ (fun u_ p_ => (∃ x_ : Int, u_ = .int .i64 x_ ∧ 0 ≤ x_ ∧ x_ < min (2 * (((1 + (1 + xhR4)) + xhR8) + xhR11)) 12) ∧ p_ = curE g a len cap) (vf 7) pm_) := hR 7 (by decide)
   obtain ⟨p64, pE7, hR65⟩ := e7
   obtain ⟨v63, vE7⟩ : ∃ x, vf 7 = x := ⟨_, rfl⟩
   rw [vE7] at hR65
   obtain ⟨⟨xhR65, rfl, xhR650, xhR651⟩, rfl⟩ := hR65
   have e8 : (vf 8) = .int .i64 (((2 * (((1 + (1 + xhR4)) + xhR8) + xhR11)) - 1) - (intOf_o (vf 7))) ∧ (pf 8) = [] := hR 8 (by decide)
   rw [vE7] at e8
   refine dqQ [7, 8] [7, 8] rfl (zby (sk 126 (congrArg some e8.1) (zad _)) (by simp only [pE7, vE7, e8.2, fS] <;> rfl) ?_)
   exact zck (zav (z := .int .i64 0) (s := 1) (cs := ([((2 * (((1 + (1 + xhR4)) + xhR8) + xhR11)) - 1) - xhR65].map (Value.int .i64))) rfl Try.underlying26 rfl (by decide) rfl (by kernel_rfl) rfl) (fun v_ p_ h => by show IsRow_o 3 1 1 ([((2 * (((1 + (1 + xhR4)) + xhR8) + xhR11)) - 1) - (intOf_o (vf 7))].map (Value.int .i64)) v_ p_; rw [vE7]; exact h)
  intro vf pf hmu hR
  have e1 := hR 1 (by decide)
  have e7 : (∃ pm_, (pf 7) = [pm_] ∧ (fun u_ p_ => (∃ x_ : Int, u_ = .int .i64 x_ ∧ 0 ≤ x_ ∧ x_ < min (2 * (((1 + (1 + xhR4)) + xhR8) + xhR11)) 12) ∧ p_ = curE g a len cap) (vf 7) pm_) := hR 7 (by decide)
  obtain ⟨p64, pE7, hR65⟩ := e7
  obtain ⟨v63, vE7⟩ : ∃ x, vf 7 = x := ⟨_, rfl⟩
  rw [vE7] at hR65
  obtain ⟨⟨xhR65, rfl, xhR650, xhR651⟩, rfl⟩ := hR65
  have e9 : IsRow_o 3 1 1 ([((2 * (((1 + (1 + xhR4)) + xhR8) + xhR11)) - 1) - (intOf_o (vf 7))].map (Value.int .i64)) (vf 9) (pf 9) := hR 9 (by decide)
  rw [vE7] at e9
  obtain ⟨g66, vE9, pE9⟩ := e9
  have q0 := hR 0 (by decide)
  have q1 := hR 1 (by decide)
  have q2 := hR 2 (by decide)
  have q3 := hR 3 (by decide)
  have q4 := hR 4 (by decide)
  have q5 := hR 5 (by decide)
  have q6 := hR 6 (by decide)
  have q8 := hR 8 (by decide)
  refine zcj (zbe [115, 70, 39, 18, 16, 12, 11, 10, 9, 8, 3, 2, 1, 0] _ (sk 119 (congrArg some e1.1) (sk 127 (congrArg some vE9) (zad _))) rfl) (by simp only [pE7, vE7, pE9, vE9, q0.2, q1.2, q2.2, q3.2, q4.2, q5.2, q6.2, q8.2, fS] <;> rfl) ?_
  simp only [List.drop_succ_cons, List.drop_zero]
  refine zci (i := 5) (z := .int .i64 0) (bytes := 8) rfl rfl rfl rfl Try.underlying26 (by kernel_rfl) rfl rfl rfl rfl (zag 1 rfl) (zbz _) (by first | omega | (simp; done) | (simp; omega)) (zbx os ([((2 * (((1 + (1 + xhR4)) + xhR8) + xhR11)) - 1) - xhR65])) (zco os ([((2 * (((1 + (1 + xhR4)) + xhR8) + xhR11)) - 1) - xhR65])) (fun _ => rfl) ?_
  intro v67
  refine hvQ rfl (zaa (k0 := 3) rfl rfl rfl) (zcp (i := 5) rfl (fun ho68 => ?_))
  refine zei (i := 6) (cs' := #[.int .i64 (1 + xhR4), uq, u, v67]) rfl rfl rfl rfl rfl rfl ho68 rfl rfl rfl rfl (zcf (zcv (reQ 1 rfl (hvQ rfl (vsQ rfl rfl rfl) (enQ 1 rfl ?_)))))
  refine zbj 8 [0, 7, 6, 5, 4, 3, 2] rfl rfl (by decide) ?_
  exact zbv (k - 1) v67 (os ++ ([((2 * (((1 + (1 + xhR4)) + xhR8) + xhR11)) - 1) - xhR65])) ⟨by omega, by simp; omega, os_app hoo (by unfold LtOk; omega)⟩ (by omega) (saQ rfl) (.refl _)
 refine ntQ (zaq rfl ?_)
 refine zbb (zds ?_)
 refine zai (zay (srQ (hvQ rfl (zas (cs := [.int .i64 (1 + xhR4), uq, u, uo]) rfl rfl rfl rfl rfl (zao 4 rfl 0 rfl)) ?_)))
 refine zcp (i := 3) rfl (fun ho69 => ?_)
 refine zcp (i := 2) rfl (fun ho70 => ?_)
 refine zcp (i := 1) rfl (fun ho71 => ?_)
 refine zcb (cs' := #[.int .i64 (1 + xhR4), uq, u, uo]) (i := 5) (off := 0) (us := [.int .i64 (1 + xhR4), uq, u, uo]) rfl rfl rfl rfl rfl rfl rfl (zaf rfl (zaf ho71 (zaf ho70 (zaf ho69 zbo)))) rfl rfl rfl (ntQ ?_)
 refine zaw (hq_oneX (i := 1) rfl (fun oQ => ?_))
 refine hq_oneX (i := 2) rfl (fun oA => ?_)
 refine hq_oneX (i := 3) rfl (fun oO => ?_)
 refine zbj 7 [5, 6, 3, 2, 1, 0] rfl rfl (by decide) ?_
 refine zew (bigE [curE g a len cap, ntE (Nt.mk (1 + xhR4) uq u uo ss gs os)] :: boxE b1 #[.int .i64 (1 + xhR4), uq, u, uo] 101 :: l) (fun w hm => by
     have h1 : Mem _ ([bigE (ss.map sqPart), rowE 35 3 uq ss.length (ss.flatMap sqC)] ++ (rowE 124 2 u gs.length (gs.flatMap anC) :: rowE 3 1 uo os.length (os.map (Value.int .i64)) :: curE g a len cap :: boxE b1 #[.int .i64 (1 + xhR4), uq, u, uo] 101 :: l)) w := hm
     have h2 : Mem _ ([sqsE uq ss, rowE 124 2 u gs.length (gs.flatMap anC), rowE 3 1 uo os.length (os.map (Value.int .i64))] ++ (curE g a len cap :: boxE b1 #[.int .i64 (1 + xhR4), uq, u, uo] 101 :: l)) w := h1.big
     have h3 : Mem _ (ntE (Nt.mk (1 + xhR4) uq u uo ss gs os) :: curE g a len cap :: boxE b1 #[.int .i64 (1 + xhR4), uq, u, uo] 101 :: l) w := Mem.big h2
     exact Mem.big (ps := [curE g a len cap, ntE (Nt.mk (1 + xhR4) uq u uo ss gs os)]) (h3.perm (.swap _ _ _))) ?_
 exact hq_ret (rs := [.cell 8 101]) (vs := [.agg #[.int .i64 (1 + xhR4), uq, u, uo]]) rfl ⟨⟨b1, 0, [.int .i64 (1 + xhR4), uq, u, uo], rfl, rfl, by kernel_rfl, by kernel_rfl, zao 1 rfl 0 rfl⟩, trivial⟩ rfl (fun w hm => ⟨_, bigE [curE g a len cap, ntE (Nt.mk (1 + xhR4) uq u uo ss gs os)], rfl, ⟨Nt.mk (1 + xhR4) uq u uo ss gs os, rfl, rfl, ⟨oQ, oA, oO⟩, nt_mk (by omega) (by omega) (by omega) (by omega) (by omega) hso hgo hoo (by omega) (by omega), by dsimp only; omega, by dsimp only; omega, by dsimp only; omega⟩, hm.sub (.cons_cons _ (.cons _ (.refl _)))⟩)
open Go.RowKit
theorem and01 {a b : Int} (ha : a = 0 ∨ a = 1) (hb : b = 0 ∨ b = 1) : bits .and .i64 a b = a * b := by
  rcases ha with e | e <;> rcases hb with e' | e' <;> rw [e, e'] <;> decide
theorem xor01 {a l : Int} (ha : a = 0 ∨ a = 1) : bits .xor .i64 a (l % 2) = if l % 2 = 0 then a else 1 - a := by
  rcases (show l % 2 = 0 ∨ l % 2 = 1 by omega) with e | e <;> rcases ha with e' | e' <;> rw [e, e'] <;> decide
theorem mul_01 {a b : Int} (ha : a = 0 ∨ a = 1) (hb : b = 0 ∨ b = 1) : a * b = 0 ∨ a * b = 1 := by
  rcases ha with e | e <;> rcases hb with e' | e' <;> rw [e, e'] <;> decide
set_option maxHeartbeats 4000000 in
set_option maxRecDepth 100000 in
theorem l01In_any0 (x lo hi : Int) (w : World)  :
   Calls Try.prog 69 #[.int .i64 x, .int .i64 lo, .int .i64 hi] w (Ans w (.bool (inR x lo hi))) := by
 refine zbh (N := 15) (args := [.int .i64 x, .int .i64 lo, .int .i64 hi]) Try.func69 rfl rfl (zba 1 rfl (zac (reQ 2 rfl ?_)))
 refine zff rfl rfl rfl rfl rfl rfl (fun h1 => ?_) (fun h1 => ?_)
 ·
  refine zar 3 rfl (hl_leq rfl rfl rfl rfl rfl rfl (fun h2 => ?_) (fun h2 => ?_))
  ·
   refine zbc 2 rfl ?_
   exact zaw (zbf rfl rfl (congrArg _ (((zdf _ _ _).2 (by omega)).symm)))
  refine zbc 2 rfl ?_
  exact zaw (zbf rfl rfl (congrArg _ ((Bool.eq_false_iff.2 (fun h => by have := (zdf _ _ _).1 h; omega)).symm)))
 refine zbc 6 rfl ?_
 exact zaw (zbf rfl rfl (congrArg _ ((Bool.eq_false_iff.2 (fun h => by have := (zdf _ _ _).1 h; omega)).symm)))
set_option maxHeartbeats 4000000 in
set_option maxRecDepth 100000 in
theorem zbp (n : Nt) (w : World) (hr : RdsNt w n) (hn : NtOk n) :
   Calls Try.prog 78 #[.agg #[.int .i64 n.ins, n.sv, n.av, n.ov]] w (Ans w (.int .i64 n.cnt)) := by
 have hi0 := hn.i0
 have hi1 := hn.i1
 have hs1 := hn.s1
 have ha1 := hn.a1
 have ho1 := hn.o1
 have hcnt : n.cnt = 1 + n.ins + n.ss.length + n.gs.length := rfl
 have hfst : n.fst = 1 + n.ins + n.ss.length := rfl
 refine zbh (N := 36) (args := [.agg #[.int .i64 n.ins, n.sv, n.av, n.ov]]) Try.func78 rfl rfl (srQ ?_)
 refine zef rfl (zcx rfl rfl) ?_
 intro b1
 refine zbc 1 rfl (zgg (hvQ rfl (zaa (k0 := 0) rfl rfl rfl) (hvQ rfl (zaj rfl rfl rfl (zae 0 rfl rfl)) ?_)))
 refine zdn rfl (zap rfl rfl (fun w hm => zau (l01In_any0 n.ins 0 20 w))) (zbl (fun h2 => ?_) (fun h2 => absurd ((((zdf _ _ _).2 (by omega))).symm.trans h2) (by decide)))
 refine zar 2 rfl (hvQ rfl (zaa (k0 := 1) rfl rfl rfl) (hvQ rfl (zaj rfl rfl rfl (zae 0 rfl rfl)) (hvQ rfl (lnQ rfl rfl rfl (zab hr.sq)) ?_)))
 refine zfk rfl rfl rfl rfl rfl rfl (fun h3 => absurd h3 (by omega)) (fun h3 => ?_)
 refine zar 2 rfl (hvQ rfl (zaa (k0 := 2) rfl rfl rfl) (hvQ rfl (zaj rfl rfl rfl (zae 0 rfl rfl)) (hvQ rfl (lnQ rfl rfl rfl (zab hr.an)) ?_)))
 refine zfk rfl rfl rfl rfl rfl rfl (fun h4 => absurd h4 (by omega)) (fun h4 => ?_)
 refine zar 2 rfl (hvQ rfl (zaa (k0 := 3) rfl rfl rfl) (hvQ rfl (zaj rfl rfl rfl (zae 0 rfl rfl)) (hvQ rfl (lnQ rfl rfl rfl (zab hr.ou)) ?_)))
 refine zfk rfl rfl rfl rfl rfl rfl (fun h5 => absurd h5 (by omega)) (fun h5 => ?_)
 refine zbc 1 rfl (zaq rfl (zcq (srQ (hvQ rfl (zaa (k0 := 0) rfl rfl rfl) (hvQ rfl (zaj rfl rfl rfl (zae 0 rfl rfl)) (hvQ rfl (vaQ rfl rfl rfl) (hvQ rfl (zaa (k0 := 1) rfl rfl rfl) (hvQ rfl (zaj rfl rfl rfl (zae 0 rfl rfl)) ?_))))))))
 refine hvQ rfl (lnQ rfl rfl rfl (zab hr.sq)) (hvQ rfl (vaQ rfl rfl rfl) (hvQ rfl (zaa (k0 := 2) rfl rfl rfl) (hvQ rfl (zaj rfl rfl rfl (zae 0 rfl rfl)) (hvQ rfl (lnQ rfl rfl rfl (zab hr.an)) (hvQ rfl (vaQ rfl rfl rfl) (zbc 1 rfl ?_))))))
 exact zaw (zbf rfl rfl rfl)
set_option maxHeartbeats 4000000 in
set_option maxRecDepth 100000 in
theorem zbs (n : Nt) (w : World) (hr : RdsNt w n) (hn : NtOk n) :
   Calls Try.prog 61 #[.agg #[.int .i64 n.ins, n.sv, n.av, n.ov]] w (Ans w (.int .i64 n.fst)) := by
 have hi0 := hn.i0
 have hi1 := hn.i1
 have hs1 := hn.s1
 have ha1 := hn.a1
 have ho1 := hn.o1
 have hcnt : n.cnt = 1 + n.ins + n.ss.length + n.gs.length := rfl
 have hfst : n.fst = 1 + n.ins + n.ss.length := rfl
 refine zbh (N := 10) (args := [.agg #[.int .i64 n.ins, n.sv, n.av, n.ov]]) Try.func61 rfl rfl (srQ ?_)
 refine zef rfl (zcx rfl rfl) ?_
 intro b1
 refine zbc 1 rfl (srQ (hvQ rfl (zaa (k0 := 0) rfl rfl rfl) (hvQ rfl (zaj rfl rfl rfl (zae 0 rfl rfl)) (hvQ rfl (vaQ rfl rfl rfl) (hvQ rfl (zaa (k0 := 1) rfl rfl rfl) (hvQ rfl (zaj rfl rfl rfl (zae 0 rfl rfl)) (hvQ rfl (lnQ rfl rfl rfl (zab hr.sq)) (hvQ rfl (vaQ rfl rfl rfl) (zar 1 rfl ?_)))))))))
 refine ntQ ?_
 exact zaw (zbf rfl rfl rfl)
set_option maxHeartbeats 4000000 in
set_option maxRecDepth 100000 in
theorem zgl (x m : Int) (w : World) (hx : LtOk x m) (hm : m ≤ 100000) :
   Calls Try.prog 88 #[.int .i64 x, .int .i64 m] w (Ans w (.bool true)) := by
 unfold LtOk at hx
 refine zbh (N := 13) (args := [.int .i64 x, .int .i64 m]) Try.func88 rfl rfl (zba 1 rfl (zac (reQ 1 rfl ?_)))
 refine zff rfl rfl rfl rfl rfl rfl (fun h1 => ?_) (fun h1 => absurd h1 (by omega))
 refine zar 2 rfl (hvQ rfl (zen rfl rfl rfl (by refine ⟨?_, ?_, ?_⟩ <;> omega)) ?_)
 refine zar 1 rfl (zbn rfl rfl rfl rfl rfl rfl (fun h2 => ?_) (fun h2 => absurd h2 (by omega)))
 refine zbc 2 rfl ?_
 exact zaw (zbf rfl rfl rfl)
set_option maxHeartbeats 4000000 in
set_option maxRecDepth 100000 in
theorem l08Roots_ret (n : Nt) (w : World) (hr : RdsNt w n) (hn : NtOk n) :
   Calls Try.prog 79 #[.agg #[.int .i64 n.ins, n.sv, n.av, n.ov]] w (Ret w (fun v' post => post = [rowE 3 1 v' (rtsL n n.ss.length).length ((rtsL n n.ss.length).map (Value.int .i64))])) := by
 have hi0 := hn.i0
 have hi1 := hn.i1
 have hs1 := hn.s1
 have ha1 := hn.a1
 have ho1 := hn.o1
 have hcnt : n.cnt = 1 + n.ins + n.ss.length + n.gs.length := rfl
 have hfst : n.fst = 1 + n.ins + n.ss.length := rfl
 refine zbh (N := 25) (args := [.agg #[.int .i64 n.ins, n.sv, n.av, n.ov]]) Try.func79 rfl rfl (srQ ?_)
 refine zef rfl (zcx rfl rfl) ?_
 intro b1
 refine zbc 1 rfl (srQ ?_)
 refine zdw rfl (zcl (s := 1) rfl Try.underlying26 rfl) ?_
 intro g2
 refine hvQ rfl (zaa (k0 := 3) rfl rfl rfl) (hvQ rfl (zaj rfl rfl rfl (zae 1 rfl rfl)) ?_)
 refine zci (i := 0) (z := .int .i64 0) (bytes := 8) (n' := n.os.length) (xs' := (n.os.map (Value.int .i64))) rfl rfl rfl rfl Try.underlying26 (by kernel_rfl) rfl rfl rfl rfl (zab hr.ou) (zbz _) (by first | omega | (simp; done) | (simp; omega)) (Nat.zero_add _) (List.nil_append _) (fun _ => rfl) ?_
 intro v3
 refine zbc 1 rfl (zac (zba 1 rfl (zax ?_)))
 refine lkQ3 (α := Nat) (β := Value) (γ := List Int) [0, 1, 2] rfl (fun k u zs => [rowE 3 1 u zs.length (zs.map (Value.int .i64)), boxE b1 #[.int .i64 n.ins, n.sv, n.av, n.ov] 101]) (fun k u zs => [(3, u), (4, .int .i64 (k : Int))]) (fun k u zs => k ≤ n.ss.length ∧ zs = rtsL n k) (fun k u zs => n.ss.length - k) 0 _ n.os ⟨by omega, by simp [rtsL]⟩ (saQ rfl) (.cons_cons _ (pfQ rfl)) ?_
 intro k u zs hi4
 obtain ⟨hk, hz⟩ := hi4
 have hzl : zs.length ≤ 16 + 4 * k := by rw [hz]; exact rts_len hn k hk
 refine zac (zac (reQ 1 rfl (hvQ rfl (zaa (k0 := 1) rfl rfl rfl) (hvQ rfl (zaj rfl rfl rfl (zae 1 rfl rfl)) (hvQ rfl (lnQ rfl rfl rfl (zab hr.sq)) ?_)))))
 refine zbn rfl rfl rfl rfl rfl rfl (fun h5 => ?_) (fun h5 => ?_)
 ·
  refine ntQ (zan rfl (zcq (sbQ (reQ 1 rfl (hvQ rfl (zaa (k0 := 1) rfl rfl rfl) ?_)))))
  have hx4 := (hn.sq _ (zce (d := sq0) (show k < n.ss.length by omega))).len
  refine hvQ rfl (zaj rfl rfl rfl (zae 1 rfl rfl)) (zar 1 rfl (hvQ rfl (riQ 3 rfl rfl rfl rfl (zab hr.sq)) (hvQ rfl (zbt (k0 := 2) rfl rfl rfl (zab hr.sq) (by omega)) ?_)))
  refine hvQ rfl (zat (u := (n.ss.getD k sq0).iv) rfl rfl rfl (zab hr.sq) ((zcu sqC 3 (fun _ => rfl) n.ss sq0 (show k < _ by omega) (by decide)).trans rfl)) (zci (i := 0) (z := .int .i64 0) (bytes := 8) rfl rfl rfl rfl Try.underlying26 (by kernel_rfl) rfl rfl rfl rfl (fun w hm => (hr.at (k := k) (by omega)).below hm.bel) (zbz _) (by first | omega | (simp; done) | (simp; omega)) (zbx zs ((n.ss.getD k sq0).xs)) (zco zs ((n.ss.getD k sq0).xs)) (fun _ => rfl) ?_)
  intro v6
  refine enQ 1 rfl (zcv (reQ 1 rfl (hvQ rfl (vaQ rfl rfl rfl) (enQ 1 rfl ?_))))
  exact zbv (k + 1) v6 (zs ++ ((n.ss.getD k sq0).xs)) ⟨by omega, by rw [hz, rts_step n (by omega)]⟩ (by omega) (saQ rfl) (.cons_cons _ (pfQ rfl))
 refine ntQ (zaq rfl ?_)
 refine zbb (zds ?_)
 refine zai (zay (zba 2 rfl ?_))
 exact zaw (zdh (post := [rowE 3 1 u zs.length (zs.map (Value.int .i64))]) rfl rfl (.cons_cons _ (slQ [] rfl)) (by rw [hz, show k = n.ss.length by omega]))
set_option maxHeartbeats 4000000 in
set_option maxRecDepth 100000 in
theorem zdo (n : Nt) (w : World) (hr : RdsNt w n) (hn : NtOk n) :
   Calls Try.prog 73 #[.agg #[.int .i64 n.ins, n.sv, n.av, n.ov]] w (Ans w (.bool true)) := by
 have hi0 := hn.i0
 have hi1 := hn.i1
 have hs1 := hn.s1
 have ha1 := hn.a1
 have ho1 := hn.o1
 have hcnt : n.cnt = 1 + n.ins + n.ss.length + n.gs.length := rfl
 have hfst : n.fst = 1 + n.ins + n.ss.length := rfl
 refine zbh (N := 104) (args := [.agg #[.int .i64 n.ins, n.sv, n.av, n.ov]]) Try.func73 rfl rfl (srQ ?_)
 refine zef rfl (zcx rfl rfl) ?_
 intro b1
 refine zbc 1 rfl (srQ (hvQ rfl (zas (cs := [.int .i64 n.ins, n.sv, n.av, n.ov]) rfl rfl rfl rfl rfl (zao 0 rfl 0 rfl)) ?_))
 refine zdn rfl (zap rfl rfl (fun w hm => zau (zbp n w (hr.below hm.bel) hn))) (zbc 1 rfl (zac (zac (reQ 1 rfl ?_))))
 refine zcs rfl rfl rfl rfl rfl rfl (fun h2 => absurd h2 (by omega)) (fun h2 => ?_)
 refine ntQ (zaq rfl (zcq (zac (zba 1 rfl (zax ?_)))))
 refine lkQ1 (α := Nat) [0, 1, 2, 3, 12] rfl (fun k => [boxE b1 #[.int .i64 n.ins, n.sv, n.av, n.ov] 101]) (fun k => [(4, .int .i64 (k : Int))]) (fun k => k ≤ n.ss.length) (fun k => n.ss.length - k) 0 (Nat.zero_le _) (saQ rfl) (pfQ rfl) ?_
 intro k hi3
 have hk := hi3
 refine zac (zac (reQ 1 rfl (hvQ rfl (zaa (k0 := 1) rfl rfl rfl) (hvQ rfl (zaj rfl rfl rfl (zae 0 rfl rfl)) (hvQ rfl (lnQ rfl rfl rfl (zab hr.sq)) ?_)))))
 refine zbn rfl rfl rfl rfl rfl rfl (fun h4 => ?_) (fun h4 => ?_)
 ·
  refine ntQ (zan rfl (zcq (sbQ (srQ ?_))))
  have hqk := (hn.sq _ (zce (d := sq0) (show k < n.ss.length by omega))).kind
  refine hvQ rfl (zaa (k0 := 1) rfl rfl rfl) (hvQ rfl (zaj rfl rfl rfl (zae 0 rfl rfl)) (zar 1 rfl (hvQ rfl (riQ 3 rfl rfl rfl rfl (zab hr.sq)) ?_)))
  refine hvQ rfl (zdl (us := [.int .i64 ((n.ss.getD k sq0).kd), .int .i64 ((n.ss.getD k sq0).it), (n.ss.getD k sq0).iv]) rfl rfl rfl rfl (zab hr.sq) (by omega) rfl (zek sqC 3 (fun _ => rfl) n.ss sq0 (show k < _ by omega) rfl)) (zef rfl (zbw (z := .agg #[.int .i64 0, .int .i64 0, .slice none 0 0]) rfl rfl) ?_)
  intro b5
  refine zcb (cs' := #[.int .i64 ((n.ss.getD k sq0).kd), .int .i64 ((n.ss.getD k sq0).it), (n.ss.getD k sq0).iv]) (i := 0) (off := 0) (us := [.int .i64 ((n.ss.getD k sq0).kd), .int .i64 ((n.ss.getD k sq0).it), (n.ss.getD k sq0).iv]) rfl rfl rfl rfl rfl rfl rfl (zaf rfl (zaf rfl (zaf (hr.at (k := k) (by omega)).one zbo))) rfl rfl rfl (ntQ (srQ (hvQ rfl (zaa (k0 := 0) rfl rfl rfl) (hvQ rfl (zaj rfl rfl rfl (zae 0 rfl rfl)) ?_))))
  refine zcs rfl rfl rfl rfl rfl rfl (fun h6 => ?_) (fun h6 => ?_)
  ·
   refine zar 1 rfl (hvQ rfl (zaa (k0 := 1) rfl rfl rfl) (hvQ rfl (zaj rfl rfl rfl (zae 0 rfl rfl)) ?_))
   refine zdn rfl (zap rfl rfl (fun w hm => zau (l01In_any0 ((n.ss.getD k sq0).it) 0 1 w))) (zbl (fun h7 => ?_) (fun h7 => absurd ((((zdf _ _ _).2 (by omega))).symm.trans h7) (by decide)))
   refine zar 2 rfl (hvQ rfl (zaa (k0 := 2) rfl rfl rfl) (hvQ rfl (zaj rfl rfl rfl (zae 0 rfl rfl)) ?_))
   refine hvQ rfl (lnQ rfl rfl rfl (fun w hm => (hr.at (k := k) (by omega)).below hm.bel)) (zcs rfl rfl rfl rfl rfl rfl (fun h8 => ?_) (fun h8 => ?_))
   ·
    refine zbc 18 rfl (fsQ rfl (zcv (reQ 1 rfl (hvQ rfl (vaQ rfl rfl rfl) (enQ 1 rfl ?_)))))
    exact zcm (k + 1) (by omega) (by omega) (saQ rfl) (.cons _ (pfQ rfl))
   refine zar 2 rfl (hvQ rfl (zaa (k0 := 0) rfl rfl rfl) (hvQ rfl (zaj rfl rfl rfl (zae 0 rfl rfl)) ?_))
   refine zcs rfl rfl rfl rfl rfl rfl (fun h9 => ?_) (fun h9 => ?_)
   ·
    refine zar 1 rfl (hvQ rfl (zaa (k0 := 1) rfl rfl rfl) (hvQ rfl (zaj rfl rfl rfl (zae 0 rfl rfl)) ?_))
    refine zdn rfl (zap rfl rfl (fun w hm => zau (l01In_any0 ((n.ss.getD k sq0).it) 0 31 w))) (zbl (fun h10 => ?_) (fun h10 => absurd ((((zdf _ _ _).2 (by omega))).symm.trans h10) (by decide)))
    refine zar 2 rfl (hvQ rfl (zaa (k0 := 2) rfl rfl rfl) (hvQ rfl (zaj rfl rfl rfl (zae 0 rfl rfl)) ?_))
    refine hvQ rfl (lnQ rfl rfl rfl (fun w hm => (hr.at (k := k) (by omega)).below hm.bel)) (zcs rfl rfl rfl rfl rfl rfl (fun h11 => ?_) (fun h11 => ?_))
    ·
     refine zbc 3 rfl (fsQ rfl (zcv (reQ 1 rfl (hvQ rfl (vaQ rfl rfl rfl) (enQ 1 rfl ?_)))))
     exact zcm (k + 1) (by omega) (by omega) (saQ rfl) (.cons _ (pfQ rfl))
    refine zbc 3 rfl (zan rfl (zba 1 rfl ?_))
    refine zaw (zak ?_)
    refine zfn ?_
    refine zak (zam ?_)
    exfalso
    omega
   refine zbc 13 rfl (zan rfl ?_)
   refine zba 1 rfl ?_
   refine zaw (zak ?_)
   refine zfn ?_
   refine zak (zam ?_)
   exfalso
   omega
  refine zar 12 rfl (hvQ rfl (zaa (k0 := 0) rfl rfl rfl) (hvQ rfl (zaj rfl rfl rfl (zae 0 rfl rfl)) ?_))
  refine zcs rfl rfl rfl rfl rfl rfl (fun h12 => ?_) (fun h12 => ?_)
  ·
   refine zar 1 rfl (hvQ rfl (zaa (k0 := 1) rfl rfl rfl) (hvQ rfl (zaj rfl rfl rfl (zae 0 rfl rfl)) ?_))
   refine zdn rfl (zap rfl rfl (fun w hm => zau (l01In_any0 ((n.ss.getD k sq0).it) 0 31 w))) (zbl (fun h13 => ?_) (fun h13 => absurd ((((zdf _ _ _).2 (by omega))).symm.trans h13) (by decide)))
   refine zar 2 rfl (hvQ rfl (zaa (k0 := 2) rfl rfl rfl) (hvQ rfl (zaj rfl rfl rfl (zae 0 rfl rfl)) ?_))
   refine hvQ rfl (lnQ rfl rfl rfl (fun w hm => (hr.at (k := k) (by omega)).below hm.bel)) (zcs rfl rfl rfl rfl rfl rfl (fun h14 => ?_) (fun h14 => ?_))
   ·
    refine zbc 3 rfl (fsQ rfl (zcv (reQ 1 rfl (hvQ rfl (vaQ rfl rfl rfl) (enQ 1 rfl ?_)))))
    exact zcm (k + 1) (by omega) (by omega) (saQ rfl) (.cons _ (pfQ rfl))
   refine zbc 3 rfl (zan rfl (zba 1 rfl ?_))
   refine zaw (zak ?_)
   refine zfn ?_
   refine zak (zam ?_)
   exfalso
   omega
  refine zbc 13 rfl (zan rfl ?_)
  refine zba 1 rfl ?_
  refine zaw (zak ?_)
  refine zfn ?_
  refine zak (zam ?_)
  exfalso
  omega
 refine ntQ (zaq rfl ?_)
 refine zbb (zds ?_)
 refine zai (zay (srQ (hvQ rfl (zas (cs := [.int .i64 n.ins, n.sv, n.av, n.ov]) rfl rfl rfl rfl rfl (zao 0 rfl 0 rfl)) ?_)))
 refine hl_q rfl rfl rfl (zap rfl rfl (fun w hm => l08Roots_ret n w (hr.below hm.bel) hn)) ?_
 intro v15 p16 hR17
 subst hR17
 refine zbc 1 rfl (zac (zba 1 rfl (zax ?_)))
 refine lkQ1 (α := Nat) [0, 1, 2, 3, 6, 12, 17] rfl (fun q => [rowE 3 1 v15 ((rtsL n n.ss.length).length) ((rtsL n n.ss.length).map (Value.int .i64)), boxE b1 #[.int .i64 n.ins, n.sv, n.av, n.ov] 101]) (fun q => [(7, .int .i64 (q : Int))]) (fun q => q ≤ (rtsL n n.ss.length).length) (fun q => (rtsL n n.ss.length).length - q) 0 (Nat.zero_le _) (saQ rfl) (.cons_cons _ (pfQ rfl)) ?_
 intro q hi18
 have hq := hi18
 refine zgg ?_
 have hzl := rts_len hn n.ss.length (Nat.le_refl _)
 refine zar 2 rfl (hvQ rfl (lnQ rfl rfl rfl (zag 0 rfl)) ?_)
 refine zbn rfl rfl rfl rfl rfl rfl (fun h19 => ?_) (fun h19 => ?_)
 ·
  refine ntQ (zan rfl (zcq (sbQ (srQ ?_))))
  have hlk := rts_ok hn (i := q) (by omega)
  have hzl := rts_len hn n.ss.length (Nat.le_refl _)
  refine zar 2 rfl (hvQ rfl (riQ 1 rfl rfl rfl rfl (zag 0 rfl)) (hvQ rfl (zat (u := .int .i64 ((rtsL n n.ss.length).getD q 0)) rfl rfl rfl (zag 0 rfl) (zdk (show _ < (rtsL n n.ss.length).length by omega))) (zar 1 rfl ?_)))
  refine zdn rfl (zap rfl rfl (fun w hm => zau (zgl ((rtsL n n.ss.length).getD q 0) n.cnt w (by first | assumption | (unfold LtOk; omega)) (by omega)))) (zbc 1 rfl (fsQ rfl (zcv (reQ 1 rfl (hvQ rfl (vaQ rfl rfl rfl) (enQ 1 rfl ?_))))))
  exact zcm (q + 1) (by omega) (by omega) (saQ rfl) (.cons_cons _ (pfQ rfl))
 refine ntQ (zaq rfl ?_)
 refine zbb (zds ?_)
 refine zai (zay (zac (zba 1 rfl (zax ?_))))
 refine lkQ1 (α := Nat) [0, 1, 2, 3, 6, 12, 17, 61] rfl (fun j => [rowE 3 1 v15 ((rtsL n n.ss.length).length) ((rtsL n n.ss.length).map (Value.int .i64)), boxE b1 #[.int .i64 n.ins, n.sv, n.av, n.ov] 101]) (fun j => [(8, .int .i64 (j : Int))]) (fun j => j ≤ n.gs.length) (fun j => n.gs.length - j) 0 (Nat.zero_le _) (saQ rfl) (.cons_cons _ (pfQ rfl)) ?_
 intro j hi20
 have hj := hi20
 refine zac (zac (reQ 1 rfl (hvQ rfl (zaa (k0 := 2) rfl rfl rfl) (hvQ rfl (zaj rfl rfl rfl (zae 1 rfl rfl)) (hvQ rfl (lnQ rfl rfl rfl (zab hr.an)) ?_)))))
 refine zbn rfl rfl rfl rfl rfl rfl (fun h21 => ?_) (fun h21 => ?_)
 ·
  refine ntQ (zan rfl (zcq (sbQ (zac ?_))))
  have hlj := hn.an j (by omega)
  obtain ⟨hlj1, hlj2⟩ := hlj
  refine zbi 26 [[], [0], [], [1, 2], [3], [4], [], [6], [], [7, 8], [5, 9], [10], [11], [12], [12, 13], [12], [12, 14, 15], [12, 16], [12, 17], [12], [12, 19], [12], [12, 20, 21], [12, 18, 22], [12, 23], [12, 24]] [78, 79, 80, 81, 82, 83, 84, 85, 86, 87, 88, 89, 90, 91, 92, 93, 94, 95, 96, 97, 98, 99, 100, 101, 102, 103] [.pointer (some ⟨b1, 0 + 2, none⟩), n.av, .int .i64 (j : Int), elP n.av (((j : Int)).toNat * 2), elP n.av (((j : Int)).toNat * 2 + 0), .int .i64 ((n.gs.getD j an0).a), .agg #[.int .i64 n.ins, n.sv, n.av, n.ov], .int .i64 n.fst, .int .i64 (j : Int), .int .i64 (n.fst + (j : Int)), .bool true, .bool false, .bool false, .pointer (some ⟨b1, 0 + 2, none⟩), n.av, .int .i64 (j : Int), elP n.av (((j : Int)).toNat * 2), elP n.av (((j : Int)).toNat * 2 + 1), .int .i64 ((n.gs.getD j an0).b), .agg #[.int .i64 n.ins, n.sv, n.av, n.ov], .int .i64 n.fst, .int .i64 (j : Int), .int .i64 (n.fst + (j : Int)), .bool true, .bool false, .bool false] (by kernel_rfl) rfl ?_ ?_
  ·
   exact ⟨iaQ rfl (zaa (k0 := 2) rfl rfl rfl) rfl, iaQ rfl (zaj rfl rfl rfl (zae 1 rfl rfl)) rfl, iaQ rfl (zah rfl) rfl, iaQ rfl (riQ 2 rfl rfl rfl rfl (zab hr.an)) rfl, iaQ rfl (zbt (k0 := 0) rfl rfl rfl (zab hr.an) (by omega)) rfl, iaQ rfl (zat (u := .int .i64 ((n.gs.getD j an0).a)) rfl rfl rfl (zab hr.an) ((zcu anC 2 (fun _ => rfl) n.gs an0 (show j < _ by omega) (by decide)).trans rfl)) rfl, iaQ rfl (zas (cs := [.int .i64 n.ins, n.sv, n.av, n.ov]) rfl rfl rfl rfl rfl (zao 1 rfl 0 rfl)) rfl, .inl ⟨rfl, zap rfl rfl (fun w hm => zau (zbs n w (hr.below hm.bel) hn))⟩, iaQ rfl (zah rfl) rfl, iaQ rfl (vaQ rfl rfl rfl) rfl, .inl ⟨rfl, zap (by kernel_rfl) rfl (fun w hm => zau (zgl ((n.gs.getD j an0).a) (n.fst + (j : Int)) w (by first | assumption | (unfold LtOk; omega)) (by omega)))⟩, iaQ rfl (zah rfl) rfl, iaQ rfl (zah rfl) rfl, iaQ rfl (zaa (k0 := 2) rfl rfl rfl) rfl, iaQ rfl (zaj rfl rfl rfl (zae 1 rfl rfl)) rfl, iaQ rfl (zah rfl) rfl, iaQ rfl (riQ 2 rfl rfl rfl rfl (zab hr.an)) rfl, iaQ rfl (zbt (k0 := 1) rfl rfl rfl (zab hr.an) (by omega)) rfl, iaQ rfl (zat (u := .int .i64 ((n.gs.getD j an0).b)) rfl rfl rfl (zab hr.an) ((zcu anC 2 (fun _ => rfl) n.gs an0 (show j < _ by omega) (by decide)).trans rfl)) rfl, iaQ rfl (zas (cs := [.int .i64 n.ins, n.sv, n.av, n.ov]) rfl rfl rfl rfl rfl (zao 1 rfl 0 rfl)) rfl, .inl ⟨rfl, zap rfl rfl (fun w hm => zau (zbs n w (hr.below hm.bel) hn))⟩, iaQ rfl (zah rfl) rfl, iaQ rfl (vaQ rfl rfl rfl) rfl, .inl ⟨rfl, zap (by kernel_rfl) rfl (fun w hm => zau (zgl ((n.gs.getD j an0).b) (n.fst + (j : Int)) w (by first | assumption | (unfold LtOk; omega)) (by omega)))⟩, iaQ rfl (zah rfl) rfl, iaQ rfl (zah rfl) rfl, trivial⟩
  simp only [List.drop_succ_cons, List.drop_zero]
  refine ntQ (fsQ rfl (zcv (reQ 1 rfl (hvQ rfl (vaQ rfl rfl rfl) (enQ 1 rfl ?_)))))
  exact zcm (j + 1) (by omega) (by omega) (saQ rfl) (.cons_cons _ (pfQ rfl))
 refine ntQ (zaq rfl ?_)
 refine zbb (zds ?_)
 refine zai (zay (zba 1 rfl ?_))
 exact zaw (zbf rfl rfl rfl)
set_option maxHeartbeats 4000000 in
set_option maxRecDepth 100000 in
theorem l09Bit_ans (xs : List Int) (l : Int) (v : Value) (w : World) (hv : RdsW w v 1 xs.length (xs.map (Value.int .i64))) (hl : 0 ≤ l ∧ l < 2 * xs.length) (h01 : xs.getD (l / 2).toNat 0 = 0 ∨ xs.getD (l / 2).toNat 0 = 1) (hlen : xs.length ≤ 100000) :
   Calls Try.prog 95 #[v, .int .i64 l] w (Ans w (.int .i64 (bitL xs l))) := by
 refine zbh (N := 13) (args := [v, .int .i64 l]) Try.func95 rfl rfl (zba 1 rfl (zac (reQ 2 rfl ?_)))
 refine hvQ rfl (zen rfl rfl rfl (by refine ⟨?_, ?_, ?_⟩ <;> omega)) ?_
 refine hvQ rfl (riQ 1 rfl rfl rfl rfl (zab hv)) (hvQ rfl (lzQ rfl rfl rfl (zab hv)) (zar 1 rfl (hvQ rfl (zdb rfl (by decide) rfl rfl (r := l % 2) (Bit.and_one _ (by omega) (by omega))) (hvQ rfl (zdb rfl (by decide) rfl rfl (r := bitL xs l) (xor01 h01)) (zbc 1 rfl ?_)))))
 exact zaw (zbf rfl rfl rfl)
def tauOk4 (os : List Oper) (m K : Nat) (dps qd : List (List Nat)) (tau : List (Option Nat)) (fl : List Nat) : Bool :=
  (List.range m).all (fun i => (qd.getD i []).all (fun j => ((dps.getD i []).contains j || (Nat.ble os.length j && Nat.blt j (os.length + K))) && (List.range m).all (fun k => tau.getD k none != some j || (k != i && ((msk ((List.range os.length).map (depsOf os)) []).getD k 0).testBit i))) && decide ((qd.getD i []).Nodup)) &&
  (List.range m).all (fun i => match tau.getD i none with | none => true | some h => ((Nat.ble os.length h && Nat.blt h (os.length + K)) || (dps.getD i []).contains h) && (List.range m).all (fun k => k == i || tau.getD k none != some h)) &&
  fl.all (fun j => (Nat.blt j m || (Nat.ble os.length j && Nat.blt j (os.length + K))) && (List.range m).all (fun k => tau.getD k none != some j)) && decide fl.Nodup
section
variable {P : Program} {N : Nat} {w0 : World} {l : List HP} {env : List (Nat × Value)} {Q : Post} {os : List Oper} {m : Nat} {dps : List (List Nat)} {dsts : List (Option Nat)} {R : Nat → List Value → Value → List HP → Prop}
/-- where the quiet part stands -/
structure Mid4 (N : Nat) (w0 : World) (l : List HP) (env : List (Nat × Value)) (os : List Oper) (m : Nat) (dps : List (List Nat)) (dsts : List (Option Nat)) (R : Nat → List Value → Value → List HP → Prop) (tau : List (Option Nat)) (P0 : List (List HP)) (listed : Array Bool) (ord held : List Nat) (vf : Nat → Value) (pf : Nat → List HP) (a : Act) (w : World) : Prop where
  size : listed.size = os.length
  iff : ∀ i, i < os.length → (listed.getD i true = true ↔ i ∈ ord)
  low : ∀ i ∈ ord, i < m
  closed : ∀ i ∈ ord, ∀ j ∈ depsOf os i, j ∈ ord
  nodup : ord.Nodup
  dcl : ∀ i ∈ ord, ∀ j ∈ dps.getD i [], j ∈ ord
  rel : ∀ i ∈ ord, R i ((dps.getD i []).map vf) (vf i) (pf i)
  hn : held.Nodup
  hin : ∀ i ∈ held, i ∈ ord ∨ (os.length ≤ i ∧ i < os.length + P0.length)
  hall : ∀ i, (i ∈ ord ∨ (os.length ≤ i ∧ i < os.length + P0.length)) → (∀ j ∈ ord, tau.getD j none ≠ some i) → i ∈ held
  hP : ∀ k, k < P0.length → pf (os.length + k) = P0.getD k []
  mem : Mem w0 (held.flatMap pf ++ l) w
  asize : a.tmps.size = N
  defers : a.defers = []
  env : ∀ d v, lk env d = some v → a.tmps[d]? = some v
  slots : ∀ i ∈ ord, ∀ d, dsts[i]? = some (some d) → a.tmps[d]? = some (vf i)
theorem Mid4.st {tau P0 listed ord held vf pf a w} (h : Mid4 N w0 l env os m dps dsts R tau P0 listed ord held vf pf a w) (hm : m ≤ dsts.length) {is : List Nat} (hs : ∀ j ∈ is, j ∈ ord) {L : List HP} (hM : Mem w0 L w) : St N w0 L (envOf3 dsts vf is ++ env) a w := by
  refine ⟨hM, h.asize, h.defers, fun d v hd => ?_⟩
  rcases lk_append _ _ _ _ hd with h1 | h1
  · unfold envOf3 at h1
    rw [List.mem_filterMap] at h1
    obtain ⟨i, hi, he⟩ := h1
    rw [Option.map_eq_some_iff] at he
    obtain ⟨d', hd', he⟩ := he
    simp only [Prod.mk.injEq] at he
    obtain ⟨rfl, rfl⟩ := he
    have : dsts[i]? = some (some d') := by
      rw [List.getD_eq_getElem?_getD] at hd'
      cases hx : dsts[i]? with
      | none => rw [hx] at hd'; cases hd'
      | some y => rw [hx] at hd'; exact congrArg some hd'
    exact h.slots i (hs i hi) _ this
  · exact h.env d v h1
theorem hc_drawn4 {id : Nat} (hmix : P.follows .mixedOrders = true) (m : Nat) (dps : List (List Nat)) (dsts : List (Option Nat)) (R : Nat → List Value → Value → List HP → Prop) (qd : List (List Nat)) (tau : List (Option Nat)) (P0 : List (List HP)) (fl : List Nat) (hok : drawOk3 os m dps dsts = true) (htau : tauOk4 os m P0.length dps qd tau fl = true) (hfresh : dsts.all (fun d => match d with | some d => (lk env d).isNone | none => true) = true) (hN : dsts.all (fun d => match d with | some d => Nat.blt d N | none => true) = true)
    (due : ∀ i o, os[i]? = some o → i < m → ∀ vf pf, (∀ k, k < P0.length → pf (os.length + k) = P0.getD k []) → (∀ j ∈ dps.getD i [], R j ((dps.getD j []).map vf) (vf j) (pf j)) → Obl2 P os.toArray N w0 (tau.getD i none) pf ((qd.getD i []).flatMap pf ++ l) (envOf3 dsts vf (dps.getD i []) ++ env) o (R i ((dps.getD i []).map vf)))
    (fin : ∀ vf pf, (∀ k, k < P0.length → pf (os.length + k) = P0.getD k []) → (∀ i, i < m → R i ((dps.getD i []).map vf) (vf i) (pf i)) → HL P N os.toArray w0 (fl.flatMap pf ++ l) (envOf3 dsts vf (List.range m) ++ env) (os.drop m) Q) : HC P N w0 (P0.flatten ++ l) env (.region id os.toArray true) Q := by
  intro a w st
  refine wp_region_any hmix ?_
  simp only [drawOk3, Bool.and_eq_true, Nat.ble_eq, List.all_eq_true, List.mem_range, Bool.or_eq_true, Nat.blt_eq, beq_iff_eq, decide_eq_true_eq, Array.all_eq_true', bne_iff_ne] at hok
  obtain ⟨⟨⟨⟨⟨⟨hml, hback⟩, hcov⟩, hready⟩, hdst⟩, hdn⟩, hdp⟩ := hok
  simp only [tauOk4, Bool.and_eq_true, List.all_eq_true, List.mem_range, Bool.or_eq_true, Nat.blt_eq, Nat.ble_eq, beq_iff_eq, bne_iff_ne, decide_eq_true_eq, List.contains_iff_mem] at htau
  obtain ⟨⟨⟨hqd, hth⟩, hfl⟩, hfn⟩ := htau
  have hml' : m ≤ dsts.length := by have := congrArg List.length hdst; simp at this; omega
  have hlen : dsts.length = m := by have := congrArg List.length hdst; simp at this; omega
  have hrdy : ∀ k, m ≤ k → k < os.length → Region.ready .any os.toArray (preT os.length k) = [k] := fun k h1 h2 => by
    have := hready (k - m) (by omega)
    rw [show m + (k - m) = k by omega] at this
    exact this
  have hmsk : ∀ i j, ((msk ((List.range os.length).map (depsOf os)) []).getD i 0).testBit j = true → Dep os i j := msk_dep os _ _ (fun t ds ht d hd => by
    rw [List.getElem?_map] at ht
    by_cases h : t < os.length
    · rw [List.getElem?_range h] at ht; simp at ht; subst ht; simpa using hd
    · rw [List.getElem?_eq_none (by simp; omega)] at ht; cases ht) (fun i j h => by simp at h)
  have dstAt : ∀ i, i < m → ∀ o, os[i]? = some o → o.dst = dsts.getD i none := fun i hi o ho => by
    have h1 : ((os.take m).map (·.dst))[i]? = some o.dst := by rw [List.getElem?_map, List.getElem?_take, if_pos hi, ho]; rfl
    rw [hdst] at h1
    rw [List.getD_eq_getElem?_getD, h1]; rfl
  -- what may come up
  have key : ∀ (f : Nat) (listed : Array Bool) (ord held : List Nat) (vf : Nat → Value) (pf : Nat → List HP) (a : Act) (w : World), f + ord.length = os.length → Mid4 N w0 l env os m dps dsts R tau P0 listed ord held vf pf a w → wpAny P .any os.toArray Q f listed a w := by
    intro f
    induction f with
    | zero =>
      intro listed ord held vf pf a w hf h
      -- all are listed: m = the length
      have hall : ∀ i, i < os.length → i ∈ ord := by
        intro i hi
        have hsub : ord.Perm (List.range os.length) ∨ True := .inr trivial
        obtain ⟨r, hr⟩ := zdz ord (List.range os.length) h.nodup (fun j hj => by have := h.low j hj; simp; omega)
        have hl := hr.length_eq
        simp at hl
        have : r = [] := List.length_eq_zero_iff.1 (by omega)
        subst this
        have := hr.mem_iff.1 (List.mem_range.2 hi)
        simpa using this
      have hm2 : m = os.length := by
        by_cases hc : m < os.length
        · have := h.low m (hall m hc); omega
        · omega
      have hp : listed = preT os.length m := by
        apply Array.ext
        · rw [h.size, zeh _ _ hml]
        · intro i h1 h2
          have hi : i < os.length := by rw [h.size] at h1; exact h1
          have e1 := (h.iff i hi).2 (hall i hi)
          have e2 := zfa os.length m i hml hi
          rw [Array.getD_eq_getD_getElem?, Array.getElem?_eq_getElem h1] at e1
          rw [Array.getD_eq_getD_getElem?, Array.getElem?_eq_getElem h2] at e2
          simp only [Option.getD_some] at e1 e2
          rw [e1, e2]; simp; omega
      rw [hp]
      refine zfq hrdy 0 m (Nat.le_refl _) (by omega) a w ?_
      exact fin vf pf h.hP (fun i hi => h.rel i (hall i (by omega))) a w (h.st hml' (fun j hj => hall j (by rw [List.mem_range] at hj; omega)) (h.mem.pick hfn (fun j hj => h.hall j ((hfl j hj).1.imp (fun hlt => hall j (by omega)) (fun x => x)) (fun k hk => (hfl j hj).2 k (h.low k hk)))))
    | succ f ih =>
      intro listed ord held vf pf a w hf h
      by_cases hall : ∀ i, i < m → i ∈ ord
      · -- the tail's turn
        have hp : listed = preT os.length m := by
          apply Array.ext
          · rw [h.size, zeh _ _ hml]
          · intro i h1 h2
            have hi : i < os.length := by rw [h.size] at h1; exact h1
            have e1 := h.iff i hi
            have e2 := zfa os.length m i hml hi
            rw [Array.getD_eq_getD_getElem?, Array.getElem?_eq_getElem h1] at e1
            rw [Array.getD_eq_getD_getElem?, Array.getElem?_eq_getElem h2] at e2
            simp only [Option.getD_some] at e1 e2
            rw [e2, Bool.eq_iff_iff, e1, decide_eq_true_eq]
            exact ⟨fun hx => h.low i hx, fun hx => hall i hx⟩
        have hord : ord.length = m := by
          obtain ⟨r, hr⟩ := zdz ord (List.range m) h.nodup (fun j hj => by have := h.low j hj; simpa using this)
          obtain ⟨r', hr'⟩ := zdz (List.range m) ord List.nodup_range (fun j hj => hall j (by simpa using hj))
          have h1 := hr.length_eq
          have h2 := hr'.length_eq
          simp at h1 h2
          omega
        rw [hp]
        refine zfq hrdy (f + 1) m (Nat.le_refl _) (by omega) a w ?_
        exact fin vf pf h.hP (fun i hi => h.rel i (hall i hi)) a w (h.st hml' (fun j hj => hall j (by simpa using hj)) (h.mem.pick hfn (fun j hj => h.hall j ((hfl j hj).1.imp (fun hlt => hall j hlt) (fun x => x)) (fun k hk => (hfl j hj).2 k (h.low k hk)))))
      · -- some quiet one is not done yet
        have hsome : ∃ i, i < m ∧ i ∉ ord := by
          by_cases hx : ∃ i, i < m ∧ i ∉ ord
          · exact hx
          · exact absurd (fun i hi => Decidable.byContradiction fun hn => hx ⟨i, hi, hn⟩) hall
        have mem_rdy : ∀ i, i ∈ Region.ready .any os.toArray listed ↔ i < os.length ∧ i ∉ ord ∧ ∀ j ∈ depsOf os i, j ∈ ord := by
          intro i
          unfold Region.ready
          rw [List.mem_filter, List.mem_range]
          simp only [List.size_toArray]
          constructor
          · rintro ⟨hi, hb⟩
            rw [Bool.and_eq_true] at hb
            have hno : i ∉ ord := fun hx => by rw [(h.iff i hi).2 hx] at hb; simp at hb
            refine ⟨hi, hno, fun j hj => ?_⟩
            have ho : os.toArray[i]? = some os[i] := by simp [hi]
            rw [ho] at hb
            simp only [Option.map_some, Option.getD_some, Array.all_eq_true'] at hb
            unfold depsOf at hj
            rw [List.getElem?_eq_getElem hi] at hj
            simp only [List.mem_map, List.mem_filter] at hj
            obtain ⟨e, ⟨he, hbd⟩, rfl⟩ := hj
            have hb2 := hb.2 e (by simpa using he)
            rw [hbd] at hb2
            simp at hb2
            have hlt := hback i hi e.on (by unfold depsOf; rw [List.getElem?_eq_getElem hi]; exact List.mem_map.2 ⟨e, List.mem_filter.2 ⟨he, hbd⟩, rfl⟩)
            refine (h.iff e.on (by omega)).1 ?_
            have hs : e.on < listed.size := by rw [h.size]; omega
            rw [Array.getD_eq_getD_getElem?, Array.getElem?_eq_getElem hs] 
            simp only [Option.getD_some]
            rw [Array.getElem?_eq_getElem hs] at hb2
            simpa using hb2
          · rintro ⟨hi, hno, hd⟩
            refine ⟨hi, ?_⟩
            have ho : os.toArray[i]? = some os[i] := by simp [hi]
            rw [ho]
            simp only [Option.map_some, Option.getD_some, Bool.and_eq_true, Array.all_eq_true']
            refine ⟨?_, fun e he => ?_⟩
            · cases hb : listed.getD i true with
              | true => exact absurd ((h.iff i hi).1 hb) hno
              | false => rfl
            · rw [Bool.or_eq_true]
              by_cases hbd : Region.binds .any e = true
              rotate_left
              · left; simpa using hbd
              right
              have hon : e.on ∈ depsOf os i := by unfold depsOf; rw [List.getElem?_eq_getElem hi]; exact List.mem_map.2 ⟨e, List.mem_filter.2 ⟨by simpa using he, hbd⟩, rfl⟩
              have hlt := hback i hi e.on hon
              have := (h.iff e.on (by omega)).2 (hd e.on hon)
              have hs : e.on < listed.size := by rw [h.size]; omega
              rw [Array.getD_eq_getD_getElem?, Array.getElem?_eq_getElem hs] at this
              simp only [Option.getD_some] at this
              rw [Array.getD_eq_getD_getElem?, Array.getElem?_eq_getElem hs]
              simpa using this
        have hdep : ∀ k j, Dep os k j → (∀ d ∈ depsOf os k, d ∈ ord) → j ∈ ord := by
          intro k j hd
          induction hd with
          | one hj => intro hx; exact hx _ hj
          | more hk _ ih2 => intro hx; exact ih2 (fun d hd => h.closed _ (hx _ hk) d hd)
        have hlow : ∀ i ∈ Region.ready .any os.toArray listed, i < m := by
          intro i hi
          obtain ⟨h1, h2, h3⟩ := (mem_rdy i).1 hi
          by_cases hc : i < m
          · exact hc
          · exfalso
            obtain ⟨q, hq, hqn⟩ := hsome
            rcases hcov i h1 with h4 | h4
            · exact hc h4
            · exact hqn (hdep i q (hmsk i q (h4 q hq)) h3)
        refine ⟨fun h0 => ?_, fun i hi => ?_⟩
        · -- the least one that is not done may come up
          exfalso
          obtain ⟨q, hq, hqn⟩ := hsome
          obtain ⟨p, hp, hmin⟩ := exists_least (p := fun i => i < m ∧ i ∉ ord) ⟨q, hq, hqn⟩
          have : p ∈ Region.ready .any os.toArray listed := by
            rw [mem_rdy]
            refine ⟨by omega, hp.2, fun j hj => ?_⟩
            have hlt := hback p (by omega) j hj
            apply Decidable.byContradiction
            intro hn
            have := hmin j ⟨by omega, hn⟩
            omega
          rw [h0] at this
          cases this
        · have him := hlow i hi
          obtain ⟨h1, h2, h3⟩ := (mem_rdy i).1 hi
          have ho : os[i]? = some os[i] := List.getElem?_eq_getElem h1
          have hdps := hdp i him
          have hsub : ∀ j ∈ dps.getD i [], j ∈ ord := fun j hj => hdep i j (hmsk i j (hdps.1 j hj)) h3
          have hqi := hqd i him
          have hqheld : ∀ j ∈ qd.getD i [], j ∈ held := fun j hj => h.hall j ((hqi.1 j hj).1.imp (hsub j) (fun x => x)) (fun k hk => by
            rcases (hqi.1 j hj).2 k (h.low k hk) with h5 | ⟨-, h6⟩
            · exact h5
            · exact absurd (hdep k i (hmsk k i h6) (h.closed k hk)) h2)
          have hobl := due i os[i] ho him vf pf h.hP (fun j hj => h.rel j (hsub j hj))
          have hdd := dstAt i him _ ho
          have hdlt : ∀ d, dsts.getD i none = some d → d < N := fun d hd => by
            have := List.all_eq_true.1 hN (some d) (by rw [← hd, List.getD_eq_getElem?_getD, List.getElem?_eq_getElem (by omega)]; exact List.getElem_mem _)
            simpa [Nat.blt_eq] using this
          have hdnone : ∀ d, dsts.getD i none = some d → lk env d = none := fun d hd => by
            have := List.all_eq_true.1 hfresh (some d) (by rw [← hd, List.getD_eq_getElem?_getD, List.getElem?_eq_getElem (by omega)]; exact List.getElem_mem _)
            simpa using this
          have hne : ∀ j ∈ ord, j ≠ i := fun j hj e => h2 (e ▸ hj)
          have hneh : ∀ j ∈ held, j ≠ i := fun j hj e => by
            rcases h.hin j hj with h5 | h5
            · exact hne j h5 e
            · omega
          have next : ∀ (held' : List Nat) v post w', held'.Nodup → (∀ k ∈ held', k ∈ i :: ord ∨ (os.length ≤ k ∧ k < os.length + P0.length)) → (∀ k, (k ∈ i :: ord ∨ (os.length ≤ k ∧ k < os.length + P0.length)) → (∀ j ∈ i :: ord, tau.getD j none ≠ some k) → k ∈ held') → R i ((dps.getD i []).map vf) v post →
              Mem w0 (held'.flatMap (fun k => if k = i then post else pf k) ++ l) w' → wpAny P .any os.toArray Q f (listed.setIfInBounds i true) (a.put (dsts.getD i none) v) w' := by
            intro held' v post w' hh1 hh2 hh3 hv hm
            refine ih (listed.setIfInBounds i true) (i :: ord) held' (fun k => if k = i then v else vf k) (fun k => if k = i then post else pf k) _ w' (by simp; omega) ⟨?_, ?_, ?_, ?_, ?_, ?_, ?_, hh1, hh2, hh3, ?_, hm, ?_, ?_, ?_, ?_⟩
            · simp [h.size]
            · intro k hk
              by_cases hki : k = i
              · subst hki
                have hs : k < listed.size := by rw [h.size]; exact hk
                simp [Array.getD_eq_getD_getElem?, hs]
              · rw [getD_set_ne true (fun e => hki e.symm), h.iff k hk]
                simp [hki]
            · intro k hk; rcases List.mem_cons.1 hk with rfl | hk; exact him; exact h.low k hk
            · intro k hk j hj
              rcases List.mem_cons.1 hk with rfl | hk
              · exact List.mem_cons_of_mem _ (h3 j hj)
              · exact List.mem_cons_of_mem _ (h.closed k hk j hj)
            · exact List.nodup_cons.2 ⟨h2, h.nodup⟩
            · intro k hk j hj
              rcases List.mem_cons.1 hk with rfl | hk
              · exact List.mem_cons_of_mem _ (hsub j hj)
              · exact List.mem_cons_of_mem _ (h.dcl k hk j hj)
            · intro k hk
              rcases List.mem_cons.1 hk with rfl | hk
              · have e : (dps.getD k []).map (fun j => if j = k then v else vf j) = (dps.getD k []).map vf := List.map_congr_left fun j hj => if_neg (hne j (hsub j hj))
                rw [e, if_pos rfl, if_pos rfl]; exact hv
              · have e : (dps.getD k []).map (fun j => if j = i then v else vf j) = (dps.getD k []).map vf := List.map_congr_left fun j hj => if_neg (hne j (h.dcl k hk j hj))
                rw [e, if_neg (hne k hk), if_neg (hne k hk)]; exact h.rel k hk
            · intro k hk; rw [if_neg (by omega)]; exact h.hP k hk
            · cases hdi : dsts.getD i none <;> simp [Act.put, h.asize]
            · cases hdi : dsts.getD i none <;> exact h.defers
            · intro d u hd
              cases hdi : dsts.getD i none with
              | none => exact h.env d u hd
              | some d0 =>
                have hdne : d0 ≠ d := fun e => by rw [← e, hdnone _ hdi] at hd; cases hd
                simp only [Act.put]
                rw [Array.getElem?_setIfInBounds_ne hdne]
                exact h.env d u hd
            · intro k hk d hd
              cases hdi : dsts.getD i none with
              | none =>
                rcases List.mem_cons.1 hk with rfl | hk
                · rw [List.getD_eq_getElem?_getD, hd] at hdi; cases hdi
                · show a.tmps[d]? = _
                  rw [if_neg (hne k hk)]; exact h.slots k hk d hd
              | some d0 =>
                have hlt : d0 < a.tmps.size := by rw [h.asize]; exact hdlt _ hdi
                rcases List.mem_cons.1 hk with rfl | hk
                · have : d = d0 := by rw [List.getD_eq_getElem?_getD, hd] at hdi; exact Option.some.inj hdi
                  subst this
                  simp only [Act.put, if_true]
                  simp only [Array.getElem?_setIfInBounds_self_of_lt hlt]
                · have hdne : d0 ≠ d := by
                    intro e
                    have hk2 : k < dsts.length := (List.getElem?_eq_some_iff.1 hd).1
                    have hdk : dsts.getD k none = some d := by rw [List.getD_eq_getElem?_getD, hd]; rfl
                    rcases hdn i him k (by omega) with (hx | hx) | hx
                    · exact hne k hk hx.symm
                    · rw [hdi] at hx; cases hx
                    · exact hx (by rw [hdi, hdk, e])
                  simp only [Act.put]
                  rw [Array.getElem?_setIfInBounds_ne hdne, if_neg (hne k hk)]
                  exact h.slots k hk d hd
          unfold wpOp
          have hoa : os.toArray[i]? = some os[i] := by simp [h1]
          rw [hoa]
          simp only
          have hpost : ∀ (hs : List Nat) (post : List HP), (∀ k ∈ hs, k ≠ i) → (i :: hs).flatMap (fun k => if k = i then post else pf k) = post ++ hs.flatMap pf := fun hs post hx => by
            rw [List.flatMap_cons, if_pos rfl]
            congr 1
            rw [List.flatMap_def, List.flatMap_def]
            congr 1
            exact List.map_congr_left fun k hk => if_neg (hx k hk)
          cases ht : tau.getD i none with
          | none =>
            rw [ht] at hobl
            have hst := h.st hml' hsub (h.mem.pick hqi.2 hqheld)
            have next1 : ∀ v post w', R i ((dps.getD i []).map vf) v post → Mem w post w' → wpAny P .any os.toArray Q f (listed.setIfInBounds i true) (a.put (dsts.getD i none) v) w' := fun v post w' hv hm => by
              refine next (i :: held) v post w' (List.nodup_cons.2 ⟨fun hx => hneh i hx rfl, h.hn⟩) (fun k hk => ?_) (fun k hk hk2 => ?_) hv ?_
              · rcases List.mem_cons.1 hk with rfl | hk
                · exact .inl List.mem_cons_self
                · exact (h.hin k hk).imp (List.mem_cons_of_mem _) (fun x => x)
              · by_cases hki : k = i
                · rw [hki]; exact List.mem_cons_self
                · refine List.mem_cons_of_mem _ (h.hall k (hk.imp (fun hx => by rcases List.mem_cons.1 hx with hx | hx; exact absurd hx hki; exact hx) (fun x => x)) (fun j hj => hk2 j (List.mem_cons_of_mem _ hj)))
              · rw [hpost held post hneh, List.append_assoc]; exact h.mem.app hm
            rcases hobl with ⟨hw, hq⟩ | ⟨hw, hq⟩
            · rw [if_pos (hst.wanted hw)]
              refine .inl (hq a w hst Q _ fun v post w' hv hm => ?_)
              rw [hdd]
              exact next1 v post w' hv hm
            · rw [if_neg (by rw [hst.wanted hw]; decide), hdd]
              exact next1 undef [] w hq (Mem.refl w)
          | some hh =>
            rw [ht] at hobl
            have hth2 := hth i him
            rw [ht] at hth2
            simp only [Bool.and_eq_true, Bool.or_eq_true, Nat.ble_eq, Nat.blt_eq, beq_iff_eq, List.all_eq_true, List.mem_range, bne_iff_ne, List.contains_iff_mem] at hth2
            have hheld : hh ∈ held := h.hall hh (hth2.1.symm.imp (fun hx => hsub hh hx) (fun x => x)) (fun k hk => (hth2.2 k (h.low k hk)).resolve_left (hne k hk))
            have hperm := List.perm_cons_erase hheld
            have hmem : Mem w0 (pf hh ++ ((held.erase hh).flatMap pf ++ l)) w := by
              have := h.mem.perm ((hperm.flatMap_right pf).append_right l)
              rwa [List.flatMap_cons, List.append_assoc] at this
            have hnin : hh ∉ qd.getD i [] := fun hx => by
              rcases (hqi.1 hh hx).2 i him with h5 | ⟨h5, -⟩
              · exact h5 ht
              · exact h5 rfl
            have hconv : ∀ w, Mem w0 ((held.erase hh).flatMap pf ++ l) w → Mem w0 ((qd.getD i []).flatMap pf ++ l) w := fun w hm => hm.pick hqi.2 (fun j hj => (List.mem_erase_of_ne (fun (e : j = hh) => hnin (by rw [← e]; exact hj))).2 (hqheld j hj))
            have hst := h.st hml' hsub hmem
            have hneh2 : ∀ k ∈ held.erase hh, k ≠ i := fun k hk => hneh k (List.mem_of_mem_erase hk)
            have next2 : ∀ v post w', R i ((dps.getD i []).map vf) v post → Mem w0 (post ++ ((held.erase hh).flatMap pf ++ l)) w' → wpAny P .any os.toArray Q f (listed.setIfInBounds i true) (a.put (dsts.getD i none) v) w' := fun v post w' hv hm => by
              refine next (i :: held.erase hh) v post w' (List.nodup_cons.2 ⟨fun hx => hneh2 i hx rfl, h.hn.erase hh⟩) (fun k hk => ?_) (fun k hk hk2 => ?_) hv ?_
              · rcases List.mem_cons.1 hk with rfl | hk
                · exact .inl List.mem_cons_self
                · exact (h.hin k (List.mem_of_mem_erase hk)).imp (List.mem_cons_of_mem _) (fun x => x)
              · by_cases hki : k = i
                · rw [hki]; exact List.mem_cons_self
                · have hkh : k ≠ hh := fun e => hk2 i List.mem_cons_self (by rw [ht, e])
                  exact List.mem_cons_of_mem _ ((List.mem_erase_of_ne hkh).2 (h.hall k (hk.imp (fun hx => by rcases List.mem_cons.1 hx with hx | hx; exact absurd hx hki; exact hx) (fun x => x)) (fun j hj => hk2 j (List.mem_cons_of_mem _ hj))))
              · rw [hpost _ post hneh2, List.append_assoc]; exact hm
            rcases hobl with ⟨hw, hq⟩ | ⟨hw, hq⟩
            · rw [if_pos (hst.wanted hw)]
              refine .inl (hq _ hconv a w hst Q _ fun v post w' hv hm => ?_)
              rw [hdd]
              exact next2 v post w' hv hm
            · rw [if_neg (by rw [hst.wanted hw]; decide), hdd]
              exact next2 undef (pf hh) w hq hmem
  refine key os.length (Array.replicate os.length false) [] ((List.range P0.length).map (os.length + ·)) (fun _ => undef) (fun k => if os.length ≤ k then P0.getD (k - os.length) [] else []) a _ (by simp) ⟨by simp, ?_, by simp, by simp, by simp, by simp, by simp, ?_, ?_, ?_, ?_, ?_, st.size, st.defers, st.env, by simp⟩
  · intro i hi; simp [hi]
  · exact nodup_shift _ _
  · intro i hi
    simp only [List.mem_map, List.mem_range] at hi
    obtain ⟨k, hk, rfl⟩ := hi
    exact .inr ⟨by omega, by omega⟩
  · rintro i (hi | ⟨h1, h2⟩) _
    · cases hi
    · simp only [List.mem_map, List.mem_range]; exact ⟨i - os.length, by omega, by omega⟩
  · intro k hk; rw [if_pos (by omega), Nat.add_sub_cancel_left]
  · have e : ((List.range P0.length).map (os.length + ·)).flatMap (fun k => if os.length ≤ k then P0.getD (k - os.length) [] else []) = P0.flatten := by
      rw [List.flatMap_map]
      have : (fun a : Nat => (if os.length ≤ os.length + a then P0.getD (os.length + a - os.length) [] else [])) = fun a => P0.getD a [] := by
        funext a; rw [if_pos (by omega), Nat.add_sub_cancel_left]
      rw [List.flatMap_def]
      rw [show (List.map (fun a : Nat => (if os.length ≤ os.length + a then P0.getD (os.length + a - os.length) [] else [])) (List.range P0.length)) = P0 from by rw [this]; exact range_getD P0]
    rw [e]; exact st.mem.drawn _
/-- each quiet operation's due, in the order of the text -/
def Dues4 (P : Program) (ops : Array Oper) (N : Nat) (w0 : World) (l : List HP) (env : List (Nat × Value)) (P0 : List (List HP)) (mu : Nat) (dsts : List (Option Nat)) (all qall : List (List Nat)) (tau : List (Option Nat)) (R : Nat → List Value → Value → List HP → Prop) : Nat → List (List Nat) → List Oper → Prop
  | _, _, [] => True
  | k, dss, o :: os => (∀ (vf : Nat → Value) (pf : Nat → List HP), (∀ k, k < P0.length → pf (mu + k) = P0.getD k []) → (∀ j ∈ all.getD k [], R j ((all.getD j []).map vf) (vf j) (pf j)) → Obl2 P ops N w0 (tau.getD k none) pf ((qall.getD k []).flatMap pf ++ l) (envOf3 dsts vf (all.getD k []) ++ env) o (R k ((all.getD k []).map vf))) ∧ Dues4 P ops N w0 l env P0 mu dsts all qall tau R (k + 1) dss os
theorem dues4_at {P : Program} {ops : Array Oper} {N : Nat} {w0 : World} {l : List HP} {env : List (Nat × Value)} {P0 : List (List HP)} {mu : Nat} {dsts : List (Option Nat)} {all qall : List (List Nat)} {tau : List (Option Nat)} {R : Nat → List Value → Value → List HP → Prop} : ∀ (os : List Oper) (dss : List (List Nat)) (k : Nat), Dues4 P ops N w0 l env P0 mu dsts all qall tau R k dss os → ∀ i o, os[i]? = some o → ∀ vf pf, (∀ k, k < P0.length → pf (mu + k) = P0.getD k []) → (∀ j ∈ all.getD (k + i) [], R j ((all.getD j []).map vf) (vf j) (pf j)) → Obl2 P ops N w0 (tau.getD (k + i) none) pf ((qall.getD (k + i) []).flatMap pf ++ l) (envOf3 dsts vf (all.getD (k + i) []) ++ env) o (R (k + i) ((all.getD (k + i) []).map vf))
  | [], _, _, _, i, o, ho, _, _, _, _ => by simp at ho
  | o' :: os, dss, k, h, 0, o, ho, vf, pf, hP, hR => by simp at ho; subst ho; exact h.1 vf pf hP hR
  | o' :: os, dss, k, h, i + 1, o, ho, vf, pf, hP, hR => by
    have e : k + 1 + i = k + (i + 1) := by omega
    have := dues4_at os dss (k + 1) h.2 i o (by simpa using ho) vf pf hP (by rw [e]; exact hR)
    rwa [e] at this
theorem hc_draw4 {id : Nat} (hmix : P.follows .mixedOrders = true) (m : Nat) (qs : List Nat) (quiet tail : List Oper) (dps : List (List Nat)) (dsts : List (Option Nat)) (R : Nat → List Value → Value → List HP → Prop) (qd : List (List Nat)) (tau : List (Option Nat)) (P0 : List (List HP)) (fl : List Nat) (mu : Nat)
    (hos : os = quiet ++ tail) (hq : (Nat.beq quiet.length m && (List.range m == qs) && Nat.beq os.length mu) = true) (hok : drawOk3 os m dps dsts = true) (htau : tauOk4 os m P0.length dps qd tau fl = true) (hfresh : dsts.all (fun d => match d with | some d => (lk env d).isNone | none => true) = true) (hN : dsts.all (fun d => match d with | some d => Nat.blt d N | none => true) = true)
    (due : Dues4 P os.toArray N w0 l env P0 mu dsts dps qd tau R 0 [] quiet)
    (fin : ∀ vf pf, (∀ k, k < P0.length → pf (mu + k) = P0.getD k []) → (∀ i, i < m → R i ((dps.getD i []).map vf) (vf i) (pf i)) → HL P N os.toArray w0 (fl.flatMap pf ++ l) (envOf3 dsts vf qs ++ env) tail Q) : HC P N w0 (P0.flatten ++ l) env (.region id os.toArray true) Q := by
  simp only [Bool.and_eq_true, Nat.beq_eq, beq_iff_eq] at hq
  obtain ⟨⟨hq1, hq2⟩, hq3⟩ := hq
  refine hc_drawn4 hmix m dps dsts R qd tau P0 fl hok htau hfresh hN (fun i o ho hi vf pf hP hR => ?_) (fun vf pf hP hR => ?_)
  · have ho' : quiet[i]? = some o := by rw [hos, List.getElem?_append_left (by omega)] at ho; exact ho
    have := dues4_at quiet [] 0 due i o ho' vf pf (by rw [← hq3]; exact hP) (by rw [Nat.zero_add]; exact hR)
    rwa [Nat.zero_add] at this
  rw [hq2, hos, List.drop_left' hq1, ← hos]; exact fin vf pf (by rw [← hq3]; exact hP) hR
end
open Go.RowKit
def eqA (a b c d : Int) : Bool := a == c && b == d
theorem Bit.xor_par (m : Nat) : (m ^^^ 1) % 2 = (m + 1) % 2 := by
  have h : (m ^^^ 1) / 2 ^ 0 % 2 = (m / 2 ^ 0 % 2) ^^^ (1 / 2 ^ 0 % 2) := Bit.bit_xor m 1 0
  simp only [Nat.pow_zero, Nat.div_one] at h
  rw [h]
  rcases Nat.mod_two_eq_zero_or_one m with e | e <;> rw [e] <;> simp <;> omega
theorem xor_xr {a : Int} (h0 : 0 ≤ a) (h1 : a < 4294967296) : bits .xor .i64 a 1 = xr a := by
  rw [Bit.xor_int a 1 h0 h1 (by decide) (by decide)]
  unfold xr
  have h2 : (a.toNat ^^^ (1 : Int).toNat) / 2 = a.toNat / 2 := by
    show (a.toNat ^^^ 1) / 2 = a.toNat / 2
    have := Nat.xor_div_two (a := a.toNat) (b := 1)
    rw [this]; simp
  have h3 : (a.toNat ^^^ (1 : Int).toNat) % 2 = (a.toNat + 1) % 2 := by
    show (a.toNat ^^^ 1) % 2 = (a.toNat + 1) % 2
    have e := Bit.xor_par a.toNat
    exact e
  split <;> omega
section
variable {N : Nat} {w0 : World} {l : List HP} {env : List (Nat × Value)} {o : Oper}
theorem rv_eqAn {x y : Operand} {a b c d : Int} (ho : o.op = .binOp .eql 124 x y 124) (hx : ev env x = some (.agg #[.int .i64 a, .int .i64 b])) (hy : ev env y = some (.agg #[.int .i64 c, .int .i64 d])) :
    RunV Try.prog N w0 l env o (.bool (eqA a b c d)) := fun a1 w st => by
  have hg : (eqGuard .eql 124 x y (.agg #[.int .i64 a, .int .i64 b]) (.agg #[.int .i64 c, .int .i64 d])).run Try.prog w = .ok () w := run_eqGuard_agg _ _ _ _ _ _ _ (by kernel_rfl)
  have h2 : (binOp .eql 124 (.agg #[.int .i64 a, .int .i64 b]) (.agg #[.int .i64 c, .int .i64 d])).run Try.prog w = .ok (.bool (eqA a b c d)) w := by
    rw [run_eql_struct, run_equalIn_struct _ _ _ _ _ (by kernel_rfl) (by kernel_rfl)]
    have e0 : (Try.prog.fieldsOf 124).toList = [(Try.prog.fieldsOf 124)[0]!, (Try.prog.fieldsOf 124)[1]!] := by kernel_rfl
    have n0 : ((Try.prog.fieldsOf 124)[0]!).name = "A" := by kernel_rfl
    have n1 : ((Try.prog.fieldsOf 124)[1]!).name = "B" := by kernel_rfl
    have t0 : ((Try.prog.fieldsOf 124)[0]!).type = 3 := by kernel_rfl
    have t1 : ((Try.prog.fieldsOf 124)[1]!).type = 3 := by kernel_rfl
    have o0 : ((Try.prog.fieldsOf 124)[0]!).offset = 0 := by kernel_rfl
    have o1 : ((Try.prog.fieldsOf 124)[1]!).offset = 1 := by kernel_rfl
    rw [e0]
    generalize (Try.prog.fieldsOf 124)[0]! = f0 at *
    generalize (Try.prog.fieldsOf 124)[1]! = f1 at *
    have m0 : f0.name ≠ "_" := by rw [n0]; decide
    have m1 : f1.name ≠ "_" := by rw [n1]; decide
    have hk : Try.prog.plainKey 3 = true := by kernel_rfl
    have q : ∀ (u v : Int) (w : World), (Op.equalIn 9999 3 (.int .i64 u) (.int .i64 v)).run Try.prog w = .ok (u == v) w := fun u v w => run_equalIn_int w 9998 3 .i64 .i64 u v Try.underlying3
    have pa : ∀ w : World, (part f0.type #[Value.int .i64 a, .int .i64 b] f0.offset).run Try.prog w = .ok (.int .i64 a) w := fun w => by rw [t0, o0]; exact run_part_plain w hk rfl
    have pb : ∀ w : World, (part f1.type #[Value.int .i64 a, .int .i64 b] f1.offset).run Try.prog w = .ok (.int .i64 b) w := fun w => by rw [t1, o1]; exact run_part_plain w hk rfl
    have pc : ∀ w : World, (part f0.type #[Value.int .i64 c, .int .i64 d] f0.offset).run Try.prog w = .ok (.int .i64 c) w := fun w => by rw [t0, o0]; exact run_part_plain w hk rfl
    have pd : ∀ w : World, (part f1.type #[Value.int .i64 c, .int .i64 d] f1.offset).run Try.prog w = .ok (.int .i64 d) w := fun w => by rw [t1, o1]; exact run_part_plain w hk rfl
    have q0 : ∀ (u v : Int) (w : World), (Op.equalIn 9999 f0.type (.int .i64 u) (.int .i64 v)).run Try.prog w = .ok (u == v) w := by rw [t0]; exact q
    have q1 : ∀ (u v : Int) (w : World), (Op.equalIn 9999 f1.type (.int .i64 u) (.int .i64 v)).run Try.prog w = .ok (u == v) w := by rw [t1]; exact q
    simp only [Op.eqFields, m0, m1, ne_eq, not_false_eq_true, if_true, Sem.run_bind, pa, pb, pc, pd, q0, q1, Result.andThen_ok, Sem.run_ite, Sem.run_pure]
    unfold eqA
    cases (a == c) <;> cases (b == d) <;> simp
  simp [execOp, ho, st.eval hx, st.eval hy, hg, h2]
end
def sqv (s : Sq) : Int × Int × List Int := (s.kd, s.it, s.xs)
def sqk (s : Sq) : Int × Int × Nat := (s.kd, s.it, s.xs.length)
/-- what is left of a net beside its row of elements -/
structure NtRest (w : World) (n : Nt) : Prop where
  xs : ∀ s ∈ n.ss, RdsW w s.iv 1 s.xs.length (s.xs.map (Value.int .i64))
  an : RdsW w n.av 2 n.gs.length (n.gs.flatMap anC)
  ou : RdsW w n.ov 1 n.os.length (n.os.map (Value.int .i64))
theorem NtRest.rds {w : World} {n : Nt} (h : NtRest w n) (hs : RdsW w n.sv 3 n.ss.length (n.ss.flatMap sqC)) : RdsNt w n := ⟨hs, h.xs, h.an, h.ou⟩
def RdsSqs (w : World) (ss : List Sq) : Prop := ∀ s ∈ ss, RdsW w s.iv 1 s.xs.length (s.xs.map (Value.int .i64))
theorem RdsSqs.nil (w : World) : RdsSqs w [] := fun s hs => by cases hs
theorem RdsSqs.at {w : World} {ss : List Sq} (h : RdsSqs w ss) {k : Nat} (hk : k < ss.length) : RdsW w (ss.getD k sq0).iv 1 (ss.getD k sq0).xs.length ((ss.getD k sq0).xs.map (Value.int .i64)) := h _ (zce hk)
theorem RdsSqs.app {w : World} {ss : List Sq} {s : Sq} (h : RdsSqs w ss) (hs : RdsW w s.iv 1 s.xs.length (s.xs.map (Value.int .i64))) : RdsSqs w (ss ++ [s]) := fun r hr => by
  rcases List.mem_append.1 hr with hr | hr
  · exact h r hr
  · rw [List.mem_singleton] at hr; subst hr; exact hs
theorem RdsSqs.set {w : World} {ss : List Sq} {k : Nat} {s : Sq} (h : RdsSqs w ss) (hs : RdsW w s.iv 1 s.xs.length (s.xs.map (Value.int .i64))) : RdsSqs w (ss.set k s) := fun r hr => by
  rcases List.mem_or_eq_of_mem_set hr with hr | rfl
  · exact h r hr
  · exact hs
theorem sqv_len {ss zs : List Sq} (h : zs.map sqv = ss.map sqv) : zs.length = ss.length := by simpa using congrArg List.length h
theorem sqk_len {ss zs : List Sq} (h : zs.map sqk = ss.map sqk) : zs.length = ss.length := by simpa using congrArg List.length h
theorem map_at' {α β : Type} {f : α → β} {xs ys : List α} {d : α} (h : xs.map f = ys.map f) {k : Nat} (hk : k < ys.length) : f (xs.getD k d) = f (ys.getD k d) := by
  have hl : xs.length = ys.length := by simpa using congrArg List.length h
  have h1 : (xs.map f)[k]? = (ys.map f)[k]? := by rw [h]
  rw [List.getElem?_map, List.getElem?_map, List.getElem?_eq_getElem (by omega), List.getElem?_eq_getElem hk] at h1
  rw [List.getD_eq_getElem?_getD, List.getD_eq_getElem?_getD, List.getElem?_eq_getElem (by omega), List.getElem?_eq_getElem hk]
  simpa using h1
theorem map_mem' {α β : Type} {f : α → β} {xs ys : List α} (h : xs.map f = ys.map f) {s : α} (hs : s ∈ xs) : ∃ r ∈ ys, f r = f s := by
  have h1 : f s ∈ ys.map f := h ▸ List.mem_map.2 ⟨s, hs, rfl⟩
  exact List.mem_map.1 h1
/-- a literal through a map -/
def mpL (tos : List Int) (l : Int) : Int := if l % 2 = 0 then tos.getD (l / 2).toNat 0 else xr (tos.getD (l / 2).toNat 0)
theorem xor_mp {tos : List Int} {l : Int} (h0 : 0 ≤ tos.getD (l / 2).toNat 0) (h1 : tos.getD (l / 2).toNat 0 < 4294967296) : bits .xor .i64 (tos.getD (l / 2).toNat 0) (l % 2) = mpL tos l := by
  unfold mpL
  rcases (show l % 2 = 0 ∨ l % 2 = 1 by omega) with e | e
  · rw [e, if_pos rfl]
    have hz : ∀ a : Int, 0 ≤ a → a < 4294967296 → bits .xor .i64 a 0 = a := fun a h0 h1 => by
      have := Bit.xor_int a 0 h0 (by omega) (by omega) (by omega)
      rw [this]; simp; omega
    exact hz _ h0 h1
  · rw [e, if_neg (by decide)]; exact xor_xr h0 h1
def MapOk (tos : List Int) (c m : Int) : Prop := (tos.length : Int) = c ∧ ∀ k, k < tos.length → LtOk (tos.getD k 0) m
theorem MapOk.lit {tos : List Int} {c m : Int} (h : MapOk tos c m) {l : Int} (hl : LtOk l c) : LtOk (tos.getD (l / 2).toNat 0) m ∧ LtOk (mpL tos l) m := by
  have h1 := h.1
  unfold LtOk at hl
  have h2 := h.2 (l / 2).toNat (by omega)
  refine ⟨h2, ?_⟩
  unfold mpL; split
  · exact h2
  · exact xr_ok h2
theorem MapOk.up {tos : List Int} {c m m' : Int} (h : MapOk tos c m) (hm : m ≤ m') : MapOk tos c m' := ⟨h.1, fun k hk => ⟨(h.2 k hk).1, by have := (h.2 k hk).2; omega⟩⟩
theorem MapOk.app {tos : List Int} {c m x : Int} (h : MapOk tos c m) (hx : LtOk x m) : MapOk (tos ++ [x]) (c + 1) m := ⟨by rw [List.length_append, List.length_singleton]; have := h.1; omega, fun k hk => by
  rw [List.length_append, List.length_singleton] at hk
  by_cases c : k < tos.length
  · rw [zct c]; exact h.2 k c
  · rw [zde (by omega), show k - tos.length = 0 by omega]; exact hx⟩
def mpS (tos lits : List Int) : List Int := lits.map (mpL tos)
theorem mpS_ok {tos : List Int} {c m : Int} (h : MapOk tos c m) {lits : List Int} (hl : ∀ x ∈ lits, LtOk x c) : ∀ x ∈ mpS tos lits, LtOk x m := fun x hx => by
  obtain ⟨l, h1, rfl⟩ := List.mem_map.1 hx
  exact (h.lit (hl l h1)).2
/-- the evens -/
def evs2 (k : Nat) : List Int := (List.range k).map fun i : Nat => 2 * (i : Int)
theorem evs2_step (k : Nat) : evs2 k ++ [2 * (k : Int)] = evs2 (k + 1) := by unfold evs2; rw [List.range_succ, List.map_append]; rfl
theorem evs2_len (k : Nat) : (evs2 k).length = k := by simp [evs2]
theorem evs2_ok {k : Nat} {m : Int} (h : (k : Int) ≤ m) : MapOk (evs2 k) k m := ⟨by rw [evs2_len], fun j hj => by
  rw [evs2_len] at hj
  have e : (evs2 k).getD j 0 = 2 * (j : Int) := by
    unfold evs2
    rw [List.getD_eq_getElem?_getD, List.getElem?_map, List.getElem?_range hj]; rfl
  rw [e]; unfold LtOk; omega⟩
/-- a net of the same elements -/
structure Skel (n n2 : Nt) : Prop where
  ins : n2.ins = n.ins
  ss : n2.ss.map sqk = n.ss.map sqk
theorem Skel.fst {n n2 : Nt} (h : Skel n n2) : n2.fst = n.fst := by show 1 + n2.ins + (n2.ss.length : Int) = 1 + n.ins + n.ss.length; rw [h.ins, sqk_len h.ss]
theorem Skel.len {n n2 : Nt} (h : Skel n n2) : n2.ss.length = n.ss.length := sqk_len h.ss
theorem Skel.sq {n n2 : Nt} (h : Skel n n2) (hn : ∀ s ∈ n.ss, SqOk s) : ∀ s ∈ n2.ss, SqOk s := fun s hs => by
  obtain ⟨r, hr, he⟩ := map_mem' h.ss hs
  simp only [sqk, Prod.mk.injEq] at he
  exact ⟨by rw [← he.1, ← he.2.1, ← he.2.2]; exact (hn r hr).kind⟩
theorem Skel.trans {a b c : Nt} (h : Skel a b) (h' : Skel b c) : Skel a c := ⟨h'.ins.trans h.ins, h'.ss.trans h.ss⟩
theorem sqk_of_sqv {zs ss : List Sq} (h : zs.map sqv = ss.map sqv) : zs.map sqk = ss.map sqk := by
  have e : sqk = (fun p : Int × Int × List Int => (p.1, p.2.1, p.2.2.length)) ∘ sqv := rfl
  rw [e, ← List.map_map, ← List.map_map, h]
/-- a gate more, or none -/
structure Grew (n n2 : Nt) (x : Int) : Prop where
  sk : Skel n n2
  ok : NtOk n2
  l0 : n.gs.length ≤ n2.gs.length
  l1 : n2.gs.length ≤ n.gs.length + 1
  lit : LtOk x n2.cnt
theorem Grew.cnt {n n2 : Nt} {x : Int} (h : Grew n n2 x) : n.cnt ≤ n2.cnt := by show n.fst + (n.gs.length : Int) ≤ n2.fst + n2.gs.length; have := h.l0; rw [h.sk.fst]; omega
theorem flat_onesH {α : Type} (f : α → List Value) (xs : List α) (h : ∀ r u, u ∈ f r → u.oneCell' = true) : ∀ q ∈ xs.flatMap f, q.oneCell' = true := fun q hq => by
  obtain ⟨r, -, h2⟩ := List.mem_flatMap.1 hq
  exact h r q h2
/-- a copy -/
structure CopyOf (n n2 : Nt) : Prop where
  ins : n2.ins = n.ins
  gs : n2.gs = n.gs
  os : n2.os = n.os
  ss : n2.ss.map sqv = n.ss.map sqv
theorem CopyOf.sk {n n2 : Nt} (h : CopyOf n n2) : Skel n n2 := ⟨h.ins, sqk_of_sqv h.ss⟩
theorem CopyOf.cnt {n n2 : Nt} (h : CopyOf n n2) : n2.cnt = n.cnt := by show n2.fst + (n2.gs.length : Int) = n.fst + n.gs.length; rw [h.sk.fst, h.gs]
theorem CopyOf.ok {n n2 : Nt} (h : CopyOf n n2) (hn : NtOk n) : NtOk n2 :=
  ⟨by rw [h.ins]; exact hn.i0, by rw [h.ins]; exact hn.i1, by rw [h.sk.len]; exact hn.s1, by rw [h.gs]; exact hn.a1, by rw [h.os]; exact hn.o1, h.sk.sq hn.sq, fun s hs => by
    obtain ⟨r, hr, he⟩ := map_mem' h.ss hs
    simp only [sqv, Prod.mk.injEq] at he
    rw [← he.2.2, h.cnt]; exact hn.xs r hr, by rw [h.gs, h.sk.fst]; exact hn.an, by rw [h.os, h.cnt]; exact hn.ou⟩
theorem CopyOf.same {n n2 : Nt} (h : CopyOf n n2) (hn : NtOk n) {x : Int} (hx : LtOk x n.cnt) : Grew n n2 x := ⟨h.sk, h.ok hn, by rw [h.gs]; exact Nat.le_refl _, by rw [h.gs]; omega, by rw [h.cnt]; exact hx⟩
theorem NtOk.add {n : Nt} (hn : NtOk n) {a b : Int} (ha : LtOk a n.cnt) (hb : LtOk b n.cnt) (hl : n.gs.length < 300) (v : Value) : NtOk { n with av := v, gs := n.gs ++ [An.mk a b] } := by
  have hc : ({ n with av := v, gs := n.gs ++ [An.mk a b] } : Nt).cnt = n.cnt + 1 := by show 1 + n.ins + (n.ss.length : Int) + ((n.gs ++ [An.mk a b]).length : Int) = 1 + n.ins + n.ss.length + n.gs.length + 1; rw [List.length_append, List.length_singleton]; omega
  have up : ∀ x, LtOk x n.cnt → LtOk x (n.cnt + 1) := fun x h => ⟨h.1, by have := h.2; omega⟩
  refine ⟨hn.i0, hn.i1, hn.s1, by show (n.gs ++ [An.mk a b]).length ≤ 300; rw [List.length_append, List.length_singleton]; omega, hn.o1, hn.sq, fun s hs x hx => by rw [hc]; exact up _ (hn.xs s hs x hx), fun k hk => ?_, fun x hx => by rw [hc]; exact up _ (hn.ou x hx)⟩
  show LtOk ((n.gs ++ [An.mk a b]).getD k an0).a (n.fst + k) ∧ LtOk ((n.gs ++ [An.mk a b]).getD k an0).b (n.fst + k)
  have hk' : k < n.gs.length + 1 := by have : k < (n.gs ++ [An.mk a b]).length := hk; rwa [List.length_append, List.length_singleton] at this
  by_cases c : k < n.gs.length
  · rw [zct c]; exact hn.an k c
  · rw [zde (by omega), show k - n.gs.length = 0 by omega, show k = n.gs.length by omega]; exact ⟨ha, hb⟩
theorem CopyOf.put {n n2 : Nt} (h : CopyOf n n2) (hn : NtOk n) {a b : Int} (ha : LtOk a n.cnt) (hb : LtOk b n.cnt) (hl : n.gs.length < 300) (v : Value) : Grew n { n2 with av := v, gs := n2.gs ++ [An.mk (min a b) (if a < b then b else a)] } (2 * n.cnt) := by
  have h2 := h.ok hn
  have hm : LtOk (min a b) n.cnt ∧ LtOk (if a < b then b else a) n.cnt := by unfold LtOk at *; omega
  refine ⟨⟨h.ins, sqk_of_sqv h.ss⟩, h2.add (by rw [h.cnt]; exact hm.1) (by rw [h.cnt]; exact hm.2) (by rw [h.gs]; exact hl) v, ?_, ?_, ?_⟩
  · show n.gs.length ≤ (n2.gs ++ _).length; rw [List.length_append, h.gs]; omega
  · show (n2.gs ++ _).length ≤ n.gs.length + 1; rw [List.length_append, List.length_singleton, h.gs]; exact Nat.le_refl _
  · have hc : ({ n2 with av := v, gs := n2.gs ++ [An.mk (min a b) (if a < b then b else a)] } : Nt).cnt = n.cnt + 1 := by
      show n2.fst + ((n2.gs ++ _).length : Int) = n.fst + n.gs.length + 1; rw [List.length_append, List.length_singleton, h.gs, h.sk.fst]; omega
    rw [hc]
    have hc0 : 0 ≤ n.cnt := by have := hn.i0; show 0 ≤ 1 + n.ins + (n.ss.length : Int) + n.gs.length; omega
    unfold LtOk; omega
theorem cnt_rng {n : Nt} (hn : NtOk n) : 1 ≤ n.fst ∧ n.fst ≤ 33 ∧ n.fst ≤ n.cnt ∧ n.cnt ≤ 333 ∧ n.cnt = n.fst + n.gs.length ∧ n.fst = 1 + n.ins + n.ss.length := by
  have := hn.i0; have := hn.i1; have := hn.s1; have := hn.a1
  have e : n.cnt = n.fst + n.gs.length := by unfold Nt.cnt Nt.fst; omega
  have e2 : n.fst = 1 + n.ins + n.ss.length := rfl
  omega
/-- the elements with the roots put through -/
theorem sqk_set {ss : List Sq} {k : Nat} {s : Sq} (h : sqk s = sqk (ss.getD k sq0)) (hk : k < ss.length) : (ss.set k s).map sqk = ss.map sqk := by
  rw [List.map_set, h]
  have : (ss.map sqk)[k]? = some (sqk (ss.getD k sq0)) := by rw [List.getElem?_map, List.getD_eq_getElem?_getD, List.getElem?_eq_getElem hk]; rfl
  exact list_set_self this
set_option maxHeartbeats 4000000 in
theorem built_seqH (x0 : Int) (x1 : Int) (x2 : Value) (h2 : x2.oneCell' = true) : Try.prog.built 35 [(0, .int .i64 x0), (1, .int .i64 x1), (2, x2)] = some #[.int .i64 x0, .int .i64 x1, x2] := by
  (cases x2 <;> first | (exact absurd h2 Bool.false_ne_true) | kernel_rfl)
set_option maxHeartbeats 4000000 in
theorem built_netH (x0 : Int) (x1 : Value) (x2 : Value) (x3 : Value) (h1 : x1.oneCell' = true) (h2 : x2.oneCell' = true) (h3 : x3.oneCell' = true) : Try.prog.built 101 [(0, .int .i64 x0), (1, x1), (2, x2), (3, x3)] = some #[.int .i64 x0, x1, x2, x3] := by
  (cases x1 <;> first | (exact absurd h1 Bool.false_ne_true) | (cases x2 <;> first | (exact absurd h2 Bool.false_ne_true) | (cases x3 <;> first | (exact absurd h3 Bool.false_ne_true) | kernel_rfl)))
theorem zfg {P : Program} {N : Nat} {w0 : World} {l : List HP} {env : List (Nat × Value)} {o : Oper} {t : TypeId} {ps : Array (Nat × Operand)} {vs : List (Nat × Value)} {cs : Array Value} (ho : o.op = .build t ps)
    (hp : ps.toList.mapM (fun p => (ev env p.2).map fun v => (p.1, v)) = some vs) (hb : ∀ w, Mem w0 l w → P.built t vs = some cs) : RunV P N w0 l env o (.agg cs) := fun a w st => zdp ho hp (hb w st.mem) a w st
end Go.Proofs.Ytakjndmlanpadaa
