/- Texts of the law FnInitialLegal, part 4: what it uses. -/
import Derived.Test.YteikplehipifkaaInl3
set_option linter.unusedVariables false
set_option linter.unusedSimpArgs false
set_option maxHeartbeats 4000000
set_option maxRecDepth 100000
namespace Go.Proofs.Yteikplehipifkaa
open Go.RowKit Go.ChangeShapes
open Go.RowKit
theorem l28Known_ans (n : Ln) (b : Bk) (w : World) (hr : RdsLn w n) (hok : LnOk n) (hbe : RdsW w b.bv 2 b.es.length (b.es.flatMap leC)) (hbl : b.es.length ≤ 100) :
   Calls Try.prog 31 #[.agg #[.int .i64 n.ins, n.sv, n.lv, n.ov], .agg #[.int .i64 b.kd, .int .i64 b.it, b.bv]] w (Ans w (.bool (pB (BkIn n b)))) := by
 have hso := sml hr.ou
 have hss := hr.sq.small
 have hsl := hr.lt.small
 have hcnt : n.cnt = 1 + n.ins + n.ss.length + n.ls.length := rfl
 have hfst : n.fst = 1 + n.ins + n.ss.length := rfl
 obtain ⟨⟨si0, si1⟩, s2, s3, s4⟩ := hok.sz
 have hb1 := hbe.one
 refine zbl (N := 67) (args := [.agg #[.int .i64 n.ins, n.sv, n.lv, n.ov], .agg #[.int .i64 b.kd, .int .i64 b.it, b.bv]]) Try.func31 rfl rfl (srQ ?_)
 refine zdt rfl (zcm rfl rfl) ?_
 intro b1
 refine zdt rfl (zcm rfl rfl) ?_
 intro b2
 refine zba 1 rfl (zfc (hvQ rfl (zao (cs := [.int .i64 n.ins, n.sv, n.lv, n.ov]) rfl rfl rfl rfl rfl (zaj 1 rfl 0 rfl)) ?_))
 refine zdp rfl (zan rfl rfl (fun w hm => zau (by have h9 := zfz n w (hr.below hm.bel); rw [zed hok] at h9; exact h9))) (zba 1 rfl (zal rfl (zcn (zfc (hvQ rfl (fdQ 0 rfl rfl rfl) (hvQ rfl (zaf rfl rfl rfl (zab 0 rfl rfl)) (zbr ?_)))))))
 refine zav (zax (srQ ?_))
 refine zby rfl rfl rfl rfl rfl rfl (fun h3 => ?_) (fun h3 => ?_)
 ·
  refine zba 1 rfl (zak rfl (srQ (hvQ rfl (fdQ 1 rfl rfl rfl) (hvQ rfl (zaf rfl rfl rfl (zab 0 rfl rfl)) ?_))))
  refine zdo rfl rfl rfl rfl rfl rfl (fun h4 => ?_) (fun h4 => ?_)
  ·
   refine zam 1 rfl (hvQ rfl (fdQ 1 rfl rfl rfl) (hvQ rfl (zaf rfl rfl rfl (zab 0 rfl rfl)) (hvQ rfl (fdQ 0 rfl rfl rfl) (hvQ rfl (zaf rfl rfl rfl (zab 1 rfl rfl)) ?_))))
   refine zbk rfl rfl rfl rfl rfl rfl (fun h5 => ?_) (fun h5 => ?_)
   ·
    refine zba 2 rfl ?_
    refine zaw (zaq ?_)
    exact zap (zbi rfl rfl (congrArg _ (zed (by first | exact .inl ⟨by omega, by omega, by omega⟩ | exact .inr (.inl ⟨by omega, by omega, by omega⟩) | exact .inr (.inr (.inl ⟨by omega, by omega, by omega⟩)) | exact .inr (.inr (.inr ⟨by omega, fun q hq => hall q (by omega)⟩)))).symm))
   refine zba 2 rfl ?_
   refine zaw (zaq ?_)
   exact zap (zbi rfl rfl (congrArg _ (zdv (fun hp => by rcases hp with ⟨p1, p2, p3⟩ | ⟨p1, p2, p3⟩ | ⟨p1, p2, p3⟩ | ⟨p1, p2⟩ <;> first | omega | exact absurd (p2 k (by omega)) (by assumption))).symm))
  refine zba 8 rfl ?_
  refine zaw (zaq ?_)
  exact zap (zbi rfl rfl (congrArg _ (zdv (fun hp => by rcases hp with ⟨p1, p2, p3⟩ | ⟨p1, p2, p3⟩ | ⟨p1, p2, p3⟩ | ⟨p1, p2⟩ <;> first | omega | exact absurd (p2 k (by omega)) (by assumption))).symm))
 refine zba 1 rfl (zal rfl (srQ ?_))
 refine zby rfl rfl rfl rfl rfl rfl (fun h6 => ?_) (fun h6 => ?_)
 ·
  refine zba 1 rfl (zak rfl (srQ (hvQ rfl (fdQ 1 rfl rfl rfl) (hvQ rfl (zaf rfl rfl rfl (zab 0 rfl rfl)) ?_))))
  refine zdo rfl rfl rfl rfl rfl rfl (fun h7 => ?_) (fun h7 => ?_)
  ·
   refine zam 1 rfl (hvQ rfl (fdQ 1 rfl rfl rfl) (hvQ rfl (zaf rfl rfl rfl (zab 0 rfl rfl)) (hvQ rfl (fdQ 3 rfl rfl rfl) (hvQ rfl (zaf rfl rfl rfl (zab 1 rfl rfl)) (hvQ rfl (lnQ rfl rfl rfl (zae ((hr).ou))) ?_)))))
   refine zbk rfl rfl rfl rfl rfl rfl (fun h8 => ?_) (fun h8 => ?_)
   ·
    refine zba 2 rfl ?_
    refine zaw (zaq ?_)
    exact zap (zbi rfl rfl (congrArg _ (zed (by first | exact .inl ⟨by omega, by omega, by omega⟩ | exact .inr (.inl ⟨by omega, by omega, by omega⟩) | exact .inr (.inr (.inl ⟨by omega, by omega, by omega⟩)) | exact .inr (.inr (.inr ⟨by omega, fun q hq => hall q (by omega)⟩)))).symm))
   refine zba 2 rfl ?_
   refine zaw (zaq ?_)
   exact zap (zbi rfl rfl (congrArg _ (zdv (fun hp => by rcases hp with ⟨p1, p2, p3⟩ | ⟨p1, p2, p3⟩ | ⟨p1, p2, p3⟩ | ⟨p1, p2⟩ <;> first | omega | exact absurd (p2 k (by omega)) (by assumption))).symm))
  refine zba 9 rfl ?_
  refine zaw (zaq ?_)
  exact zap (zbi rfl rfl (congrArg _ (zdv (fun hp => by rcases hp with ⟨p1, p2, p3⟩ | ⟨p1, p2, p3⟩ | ⟨p1, p2, p3⟩ | ⟨p1, p2⟩ <;> first | omega | exact absurd (p2 k (by omega)) (by assumption))).symm))
 refine zba 1 rfl (zal rfl (srQ ?_))
 refine zby rfl rfl rfl rfl rfl rfl (fun h9 => ?_) (fun h9 => ?_)
 ·
  refine zba 1 rfl (zak rfl (srQ (hvQ rfl (fdQ 1 rfl rfl rfl) (hvQ rfl (zaf rfl rfl rfl (zab 0 rfl rfl)) ?_))))
  refine zdo rfl rfl rfl rfl rfl rfl (fun h10 => ?_) (fun h10 => ?_)
  ·
   refine zam 1 rfl (hvQ rfl (fdQ 1 rfl rfl rfl) (hvQ rfl (zaf rfl rfl rfl (zab 0 rfl rfl)) (hvQ rfl (fdQ 1 rfl rfl rfl) (hvQ rfl (zaf rfl rfl rfl (zab 1 rfl rfl)) (hvQ rfl (lnQ rfl rfl rfl (zae ((hr).sq.row))) ?_)))))
   refine zbk rfl rfl rfl rfl rfl rfl (fun h11 => ?_) (fun h11 => ?_)
   ·
    refine zba 2 rfl ?_
    refine zaw (zaq ?_)
    exact zap (zbi rfl rfl (congrArg _ (zed (by first | exact .inl ⟨by omega, by omega, by omega⟩ | exact .inr (.inl ⟨by omega, by omega, by omega⟩) | exact .inr (.inr (.inl ⟨by omega, by omega, by omega⟩)) | exact .inr (.inr (.inr ⟨by omega, fun q hq => hall q (by omega)⟩)))).symm))
   refine zba 2 rfl ?_
   refine zaw (zaq ?_)
   exact zap (zbi rfl rfl (congrArg _ (zdv (fun hp => by rcases hp with ⟨p1, p2, p3⟩ | ⟨p1, p2, p3⟩ | ⟨p1, p2, p3⟩ | ⟨p1, p2⟩ <;> first | omega | exact absurd (p2 k (by omega)) (by assumption))).symm))
  refine zba 9 rfl ?_
  refine zaw (zaq ?_)
  exact zap (zbi rfl rfl (congrArg _ (zdv (fun hp => by rcases hp with ⟨p1, p2, p3⟩ | ⟨p1, p2, p3⟩ | ⟨p1, p2, p3⟩ | ⟨p1, p2⟩ <;> first | omega | exact absurd (p2 k (by omega)) (by assumption))).symm))
 refine zba 1 rfl (fsQ rfl (zco (zfc (enQ 1 rfl ?_))))
 refine zav (zax ?_)
 refine lkQ1 (α := Nat) [0, 1, 2, 3, 4, 8, 10, 11, 23, 36] rfl (fun k => [boxE b2 #[.int .i64 b.kd, .int .i64 b.it, b.bv] 39, boxE b1 #[.int .i64 n.ins, n.sv, n.lv, n.ov] 30]) (fun k => [(5, .int .i64 (k : Int))]) (fun k => k ≤ b.es.length ∧ ∀ q, q < k → LeP n (b.es.getD q le0)) (fun k => b.es.length - k) 0 ⟨Nat.zero_le _, fun q hq => absurd hq (by omega)⟩ (saQ rfl) (pfQ rfl) ?_
 intro k hi12
 obtain ⟨hk, hall⟩ := hi12
 refine zaa (zaa (reQ 1 rfl (hvQ rfl (fdQ 2 rfl rfl rfl) (hvQ rfl (zaf rfl rfl rfl (zab 0 rfl rfl)) (hvQ rfl (lnQ rfl rfl rfl (zae hbe)) ?_)))))
 refine zbk rfl rfl rfl rfl rfl rfl (fun h13 => ?_) (fun h13 => ?_)
 ·
  refine ntQ (zak rfl (zcn (sbQ (zaa ?_))))
  rcases Bool.eq_false_or_eq_true (pB (LeP n (b.es.getD k le0))) with hb14 | hb14
  ·
   have hb14p := of_pB hb14
   refine zca 8 [[], [], [1], [], [2, 3], [4], [0, 5], [6]] [56, 57, 58, 59, 60, 61, 62, 63] [.agg #[.int .i64 n.ins, n.sv, n.lv, n.ov], .pointer (some ⟨b2, 0 + 2, none⟩), b.bv, .int .i64 (k : Int), elP b.bv (((k : Int)).toNat * 2), .agg #[.int .i64 ((b.es.getD k le0).u), .int .i64 ((b.es.getD k le0).f)], .bool true, .bool false] (by kernel_rfl) rfl ?_ ?_
   ·
    exact ⟨iaQ rfl (zao (cs := [.int .i64 n.ins, n.sv, n.lv, n.ov]) rfl rfl rfl rfl rfl (zaj 1 rfl 0 rfl)) rfl, iaQ rfl (fdQ 2 rfl rfl rfl) rfl, iaQ rfl (zaf rfl rfl rfl (zab 0 rfl rfl)) rfl, iaQ rfl (zat rfl) rfl, iaQ rfl (riQ 2 rfl rfl rfl rfl (zae hbe)) rfl, iaQ rfl (zcg (us := [.int .i64 ((b.es.getD k le0).u), .int .i64 ((b.es.getD k le0).f)]) rfl rfl rfl rfl (zae hbe) (by omega) rfl (zcw leC 2 (fun _ => rfl) b.es le0 (show k < _ by omega) rfl)) rfl, .inl ⟨rfl, zge (zan rfl rfl (fun w hm => zau (l28Le_ans n (b.es.getD k le0) w (hr.below hm.bel) hok))) hb14⟩, iaQ rfl (zat rfl) rfl, trivial⟩
   simp only [List.drop_succ_cons, List.drop_zero]
   refine ntQ (fsQ rfl (zco (reQ 1 rfl (hvQ rfl (vaQ rfl rfl rfl) (enQ 1 rfl ?_)))))
   exact zcx (k + 1) ⟨by omega, fun q hq => by by_cases e : q = k; (subst e; assumption); exact hall q (by omega)⟩ (by omega) (saQ rfl) (pfQ rfl)
  have hb14p := zgr hb14
  refine zca 8 [[], [], [1], [], [2, 3], [4], [0, 5], [6]] [56, 57, 58, 59, 60, 61, 62, 63] [.agg #[.int .i64 n.ins, n.sv, n.lv, n.ov], .pointer (some ⟨b2, 0 + 2, none⟩), b.bv, .int .i64 (k : Int), elP b.bv (((k : Int)).toNat * 2), .agg #[.int .i64 ((b.es.getD k le0).u), .int .i64 ((b.es.getD k le0).f)], .bool false, .bool true] (by kernel_rfl) rfl ?_ ?_
  ·
   exact ⟨iaQ rfl (zao (cs := [.int .i64 n.ins, n.sv, n.lv, n.ov]) rfl rfl rfl rfl rfl (zaj 1 rfl 0 rfl)) rfl, iaQ rfl (fdQ 2 rfl rfl rfl) rfl, iaQ rfl (zaf rfl rfl rfl (zab 0 rfl rfl)) rfl, iaQ rfl (zat rfl) rfl, iaQ rfl (riQ 2 rfl rfl rfl rfl (zae hbe)) rfl, iaQ rfl (zcg (us := [.int .i64 ((b.es.getD k le0).u), .int .i64 ((b.es.getD k le0).f)]) rfl rfl rfl rfl (zae hbe) (by omega) rfl (zcw leC 2 (fun _ => rfl) b.es le0 (show k < _ by omega) rfl)) rfl, .inl ⟨rfl, zge (zan rfl rfl (fun w hm => zau (l28Le_ans n (b.es.getD k le0) w (hr.below hm.bel) hok))) hb14⟩, iaQ rfl (zat rfl) rfl, trivial⟩
  simp only [List.drop_succ_cons, List.drop_zero]
  refine ntQ (zak rfl (zbd 1 rfl ?_))
  refine zaw (zaq ?_)
  refine zgp ?_
  refine zaq (zap ?_)
  exact zbi rfl rfl (congrArg _ (zdv (fun hp => by rcases hp with ⟨p1, p2, p3⟩ | ⟨p1, p2, p3⟩ | ⟨p1, p2, p3⟩ | ⟨p1, p2⟩ <;> first | omega | exact absurd (p2 k (by omega)) (by assumption))).symm)
 refine ntQ (zal rfl ?_)
 refine zaz (zds ?_)
 refine zag (zav (srQ (hvQ rfl (fdQ 0 rfl rfl rfl) (hvQ rfl (zaf rfl rfl rfl (zab 0 rfl rfl)) ?_))))
 refine zby rfl rfl rfl rfl rfl rfl (fun h15 => ?_) (fun h15 => ?_)
 ·
  refine zba 1 rfl ?_
  exact zaw (zbi rfl rfl (congrArg _ (zed (by first | exact .inl ⟨by omega, by omega, by omega⟩ | exact .inr (.inl ⟨by omega, by omega, by omega⟩) | exact .inr (.inr (.inl ⟨by omega, by omega, by omega⟩)) | exact .inr (.inr (.inr ⟨by omega, fun q hq => hall q (by omega)⟩)))).symm))
 refine zba 1 rfl ?_
 exact zaw (zbi rfl rfl (congrArg _ (zdv (fun hp => by rcases hp with ⟨p1, p2, p3⟩ | ⟨p1, p2, p3⟩ | ⟨p1, p2, p3⟩ | ⟨p1, p2⟩ <;> first | omega | exact absurd (p2 k (by omega)) (by assumption))).symm))
theorem PinNodes_ret (n : Ln) (b : Bk) (w : World) (hr : RdsLn w n) (hok : LnOk n) (hbe : RdsW w b.bv 2 b.es.length (b.es.flatMap leC)) (hbl : b.es.length ≤ 100) :
   Calls Try.prog 10 #[.agg #[.int .i64 n.ins, n.sv, n.lv, n.ov], .agg #[.int .i64 b.kd, .int .i64 b.it, b.bv]] w (Ret w (fun v' post => post = [rowE 3 1 v' ((pinN n b)).length (((pinN n b)).map (Value.int .i64))])) := by
 have hso := sml hr.ou
 have hss := hr.sq.small
 have hsl := hr.lt.small
 have hcnt : n.cnt = 1 + n.ins + n.ss.length + n.ls.length := rfl
 have hfst : n.fst = 1 + n.ins + n.ss.length := rfl
 obtain ⟨⟨si0, si1⟩, s2, s3, s4⟩ := hok.sz
 have hb1 := hbe.one
 refine zbl (N := 39) (args := [.agg #[.int .i64 n.ins, n.sv, n.lv, n.ov], .agg #[.int .i64 b.kd, .int .i64 b.it, b.bv]]) Try.func10 rfl rfl (srQ ?_)
 refine zdt rfl (zcm rfl rfl) ?_
 intro b1
 refine zdt rfl (zcm rfl rfl) ?_
 intro b2
 refine zba 1 rfl (zfc (hvQ rfl (zao (cs := [.int .i64 n.ins, n.sv, n.lv, n.ov]) rfl rfl rfl rfl rfl (zaj 1 rfl 0 rfl)) (hvQ rfl (zao (cs := [.int .i64 b.kd, .int .i64 b.it, b.bv]) rfl rfl rfl rfl rfl (zaj 0 rfl 0 rfl)) ?_)))
 refine zdp rfl (zan rfl rfl (fun w hm => zau (l28Known_ans n b w (hr.below hm.bel) hok (hbe.below hm.bel) hbl))) (zbx (fun h3 => ?_) (fun h3 => ?_))
 ·
  have h3p := of_pB h3
  refine zba 1 rfl (zal rfl (zcn (zfc (hvQ rfl (fdQ 0 rfl rfl rfl) (hvQ rfl (zaf rfl rfl rfl (zab 0 rfl rfl)) (zbr ?_))))))
  refine zav (zax (srQ ?_))
  refine zby rfl rfl rfl rfl rfl rfl (fun h4 => ?_) (fun h4 => ?_)
  ·
   refine zba 1 rfl (zak rfl (srQ ?_))
   refine zdi rfl (zcb (s := 1) rfl Try.underlying28 rfl) ?_
   intro g5
   refine zba 1 rfl ?_
   refine zaw (zaq ?_)
   exact zap (zcz (post := [rowE 3 1 (.slice (some ⟨g5, 0, none⟩) 0 0) 0 ([])]) rfl rfl (slQ [0] rfl) (by unfold pinN; first | (rw [if_pos (show ¬ BkIn n b by assumption)] <;> rfl) | (rw [if_neg (not_not_intro (show BkIn n b by assumption)), if_pos (by omega)] <;> rfl) | (rw [if_neg (not_not_intro (show BkIn n b by assumption)), if_neg (by omega), if_pos (by omega)] <;> rfl) | (rw [if_neg (not_not_intro (show BkIn n b by assumption)), if_neg (by omega), if_neg (by omega), if_pos (by omega)] <;> rfl) | (rw [if_neg (not_not_intro (show BkIn n b by assumption)), if_neg (by omega), if_neg (by omega), if_neg (by omega)] <;> rfl)))
  refine zba 1 rfl (zal rfl (srQ ?_))
  refine zby rfl rfl rfl rfl rfl rfl (fun h6 => ?_) (fun h6 => ?_)
  ·
   refine zba 1 rfl (zak rfl (srQ ?_))
   have hbi : BkIn n b := by assumption
   have hrg : (b.kd = 0 → 0 ≤ b.it ∧ b.it < n.ins) ∧ (b.kd = 1 → 0 ≤ b.it ∧ b.it < n.os.length) ∧ (b.kd = 2 → 0 ≤ b.it ∧ b.it < n.ss.length) := by rcases hbi with ⟨p1, p2, p3⟩ | ⟨p1, p2, p3⟩ | ⟨p1, p2, p3⟩ | ⟨p1, p2⟩ <;> omega
   refine hvQ rfl (fdQ 3 rfl rfl rfl) (hvQ rfl (zaf rfl rfl rfl (zab 1 rfl rfl)) (hvQ rfl (fdQ 1 rfl rfl rfl) (hvQ rfl (zaf rfl rfl rfl (zab 0 rfl rfl)) (hvQ rfl (riQ 1 rfl rfl rfl rfl (zae ((hr).ou))) (hvQ rfl (lzQ rfl rfl rfl (zae ((hr).ou))) ?_)))))
   refine zdi rfl (zas (z := .int .i64 0) (s := 1) (cs := ([n.os.getD ((b.it).toNat) 0].map (Value.int .i64))) rfl Try.underlying28 rfl (by decide) rfl (by kernel_rfl) rfl) ?_
   intro g7
   refine zba 1 rfl ?_
   refine zaw (zaq ?_)
   exact zap (zcz (post := [rowE 3 1 (.slice (some ⟨g7, 0, none⟩) 1 1) 1 ([n.os.getD ((b.it).toNat) 0].map (Value.int .i64))]) rfl rfl (slQ [0] rfl) (by unfold pinN; first | (rw [if_pos (show ¬ BkIn n b by assumption)] <;> rfl) | (rw [if_neg (not_not_intro (show BkIn n b by assumption)), if_pos (by omega)] <;> rfl) | (rw [if_neg (not_not_intro (show BkIn n b by assumption)), if_neg (by omega), if_pos (by omega)] <;> rfl) | (rw [if_neg (not_not_intro (show BkIn n b by assumption)), if_neg (by omega), if_neg (by omega), if_pos (by omega)] <;> rfl) | (rw [if_neg (not_not_intro (show BkIn n b by assumption)), if_neg (by omega), if_neg (by omega), if_neg (by omega)] <;> rfl)))
  refine zba 1 rfl (zal rfl (srQ ?_))
  refine zby rfl rfl rfl rfl rfl rfl (fun h8 => ?_) (fun h8 => ?_)
  ·
   refine zba 1 rfl (zak rfl (srQ ?_))
   have hbi : BkIn n b := by assumption
   have hrg : (b.kd = 0 → 0 ≤ b.it ∧ b.it < n.ins) ∧ (b.kd = 1 → 0 ≤ b.it ∧ b.it < n.os.length) ∧ (b.kd = 2 → 0 ≤ b.it ∧ b.it < n.ss.length) := by rcases hbi with ⟨p1, p2, p3⟩ | ⟨p1, p2, p3⟩ | ⟨p1, p2, p3⟩ | ⟨p1, p2⟩ <;> omega
   have hsq9 := (hok.sq b.it.toNat (by omega)).1.len
   refine zdi rfl (zcb (s := 1) rfl Try.underlying28 rfl) ?_
   intro g9
   refine hvQ rfl (fdQ 1 rfl rfl rfl) (hvQ rfl (zaf rfl rfl rfl (zab 2 rfl rfl)) (hvQ rfl (fdQ 1 rfl rfl rfl) (hvQ rfl (zaf rfl rfl rfl (zab 1 rfl rfl)) (hvQ rfl (riQ 3 rfl rfl rfl rfl (zae ((hr).sq.row))) (hvQ rfl (zbb (k0 := 2) rfl rfl rfl (zae ((hr).sq.row)) (by omega)) ?_)))))
   refine hvQ rfl (zar (u := (n.ss.getD ((b.it).toNat) sq0).iv) rfl rfl rfl (zae ((hr).sq.row)) ((zbv sqC 3 (fun _ => rfl) n.ss sq0 (show (b.it).toNat < _ by omega) (by decide)).trans rfl)) (zcf (i := 0) (z := .int .i64 0) (bytes := 8) (n' := ((n.ss.getD ((b.it).toNat) sq0).xs).length) (xs' := (((n.ss.getD ((b.it).toNat) sq0).xs).map (Value.int .i64))) rfl rfl rfl rfl Try.underlying28 (by kernel_rfl) rfl rfl rfl rfl (zae (hr.sq.at (d := sq0) (k := ((b.it).toNat)) (by omega))) (zbm _) (by first | omega | (simp; done) | (simp; omega)) (Nat.zero_add _) (List.nil_append _) (fun _ => rfl) ?_)
   intro v10
   refine zba 1 rfl ?_
   refine zaw (zaq ?_)
   exact zap (zcz (post := [rowE 3 1 v10 (((n.ss.getD ((b.it).toNat) sq0).xs).length) (((n.ss.getD ((b.it).toNat) sq0).xs).map (Value.int .i64))]) rfl rfl (slQ [0] rfl) (by unfold pinN; first | (rw [if_pos (show ¬ BkIn n b by assumption)] <;> rfl) | (rw [if_neg (not_not_intro (show BkIn n b by assumption)), if_pos (by omega)] <;> rfl) | (rw [if_neg (not_not_intro (show BkIn n b by assumption)), if_neg (by omega), if_pos (by omega)] <;> rfl) | (rw [if_neg (not_not_intro (show BkIn n b by assumption)), if_neg (by omega), if_neg (by omega), if_pos (by omega)] <;> rfl) | (rw [if_neg (not_not_intro (show BkIn n b by assumption)), if_neg (by omega), if_neg (by omega), if_neg (by omega)] <;> rfl)))
  refine zba 1 rfl (fsQ rfl (zco (srQ ?_)))
  have hbi : BkIn n b := by assumption
  have hin9 : ∀ k, k < b.es.length → LeIn n (b.es.getD k le0) := by rcases hbi with ⟨p1, p2, p3⟩ | ⟨p1, p2, p3⟩ | ⟨p1, p2, p3⟩ | ⟨p1, p2⟩ <;> first | omega | exact fun q hq => (p2 q hq).1
  refine hvQ rfl (zao (cs := [.int .i64 n.ins, n.sv, n.lv, n.ov]) rfl rfl rfl rfl rfl (zaj 1 rfl 0 rfl)) (hvQ rfl (fdQ 2 rfl rfl rfl) (hvQ rfl (zaf rfl rfl rfl (zab 0 rfl rfl)) ?_))
  refine zfu rfl rfl rfl (zan rfl rfl (fun w hm => zhc n b.es _ w (hr.below hm.bel) hok (hbe.below hm.bel) hbl hin9)) ?_
  intro v11 p12 hR13
  subst hR13
  refine zba 1 rfl ?_
  exact zaw (zcz (post := [rowE 3 1 v11 ((pinsK n b.es).length) ((pinsK n b.es).map (Value.int .i64))]) rfl rfl (slQ [0] rfl) (by unfold pinN; first | (rw [if_pos (show ¬ BkIn n b by assumption)] <;> rfl) | (rw [if_neg (not_not_intro (show BkIn n b by assumption)), if_pos (by omega)] <;> rfl) | (rw [if_neg (not_not_intro (show BkIn n b by assumption)), if_neg (by omega), if_pos (by omega)] <;> rfl) | (rw [if_neg (not_not_intro (show BkIn n b by assumption)), if_neg (by omega), if_neg (by omega), if_pos (by omega)] <;> rfl) | (rw [if_neg (not_not_intro (show BkIn n b by assumption)), if_neg (by omega), if_neg (by omega), if_neg (by omega)] <;> rfl)))
 have h3p := zgr h3
 refine zba 1 rfl (zak rfl (srQ ?_))
 refine zdi rfl (zcb (s := 1) rfl Try.underlying28 rfl) ?_
 intro g14
 refine zba 1 rfl ?_
 refine zaw (zap ?_)
 exact zcz (post := [rowE 3 1 (.slice (some ⟨g14, 0, none⟩) 0 0) 0 ([])]) rfl rfl (slQ [0] rfl) (by unfold pinN; first | (rw [if_pos (show ¬ BkIn n b by assumption)] <;> rfl) | (rw [if_neg (not_not_intro (show BkIn n b by assumption)), if_pos (by omega)] <;> rfl) | (rw [if_neg (not_not_intro (show BkIn n b by assumption)), if_neg (by omega), if_pos (by omega)] <;> rfl) | (rw [if_neg (not_not_intro (show BkIn n b by assumption)), if_neg (by omega), if_neg (by omega), if_pos (by omega)] <;> rfl) | (rw [if_neg (not_not_intro (show BkIn n b by assumption)), if_neg (by omega), if_neg (by omega), if_neg (by omega)] <;> rfl))
theorem OutNodes_ret (n : Ln) (b : Bk) (w : World) (hr : RdsLn w n) (hok : LnOk n) (hbe : RdsW w b.bv 2 b.es.length (b.es.flatMap leC)) (hbl : b.es.length ≤ 100) :
   Calls Try.prog 38 #[.agg #[.int .i64 n.ins, n.sv, n.lv, n.ov], .agg #[.int .i64 b.kd, .int .i64 b.it, b.bv]] w (Ret w (fun v' post => post = [rowE 3 1 v' ((outNd n b)).length (((outNd n b)).map (Value.int .i64))])) := by
 have hso := sml hr.ou
 have hss := hr.sq.small
 have hsl := hr.lt.small
 have hcnt : n.cnt = 1 + n.ins + n.ss.length + n.ls.length := rfl
 have hfst : n.fst = 1 + n.ins + n.ss.length := rfl
 obtain ⟨⟨si0, si1⟩, s2, s3, s4⟩ := hok.sz
 have hb1 := hbe.one
 refine zbl (N := 51) (args := [.agg #[.int .i64 n.ins, n.sv, n.lv, n.ov], .agg #[.int .i64 b.kd, .int .i64 b.it, b.bv]]) Try.func38 rfl rfl (srQ ?_)
 refine zdt rfl (zcm rfl rfl) ?_
 intro b1
 refine zdt rfl (zcm rfl rfl) ?_
 intro b2
 refine zba 1 rfl (srQ ?_)
 refine zdi rfl (zcb (s := 1) rfl Try.underlying28 rfl) ?_
 intro g3
 refine zba 1 rfl (zfc (hvQ rfl (zao (cs := [.int .i64 n.ins, n.sv, n.lv, n.ov]) rfl rfl rfl rfl rfl (zaj 2 rfl 0 rfl)) (hvQ rfl (zao (cs := [.int .i64 b.kd, .int .i64 b.it, b.bv]) rfl rfl rfl rfl rfl (zaj 1 rfl 0 rfl)) ?_)))
 refine zdp rfl (zan rfl rfl (fun w hm => zau (l28Known_ans n b w (hr.below hm.bel) hok (hbe.below hm.bel) hbl))) (zbx (fun h4 => ?_) (fun h4 => ?_))
 ·
  have h4p := of_pB h4
  refine zba 1 rfl (zal rfl (zcn (zfc (hvQ rfl (fdQ 0 rfl rfl rfl) (hvQ rfl (zaf rfl rfl rfl (zab 1 rfl rfl)) (zbr ?_))))))
  refine zav (zax (srQ ?_))
  refine zby rfl rfl rfl rfl rfl rfl (fun h5 => ?_) (fun h5 => ?_)
  ·
   refine zba 1 rfl (zak rfl (srQ ?_))
   have hbi : BkIn n b := by assumption
   have hrg : (b.kd = 0 → 0 ≤ b.it ∧ b.it < n.ins) ∧ (b.kd = 1 → 0 ≤ b.it ∧ b.it < n.os.length) ∧ (b.kd = 2 → 0 ≤ b.it ∧ b.it < n.ss.length) := by rcases hbi with ⟨p1, p2, p3⟩ | ⟨p1, p2, p3⟩ | ⟨p1, p2, p3⟩ | ⟨p1, p2⟩ <;> omega
   refine hvQ rfl (fdQ 1 rfl rfl rfl) (hvQ rfl (zaf rfl rfl rfl (zab 1 rfl rfl)) (hvQ rfl (vaQ rfl rfl rfl) ?_))
   refine zdi rfl (zas (z := .int .i64 0) (s := 1) (cs := ([1 + b.it].map (Value.int .i64))) rfl Try.underlying28 rfl (by decide) rfl (by kernel_rfl) rfl) ?_
   intro g6
   refine zba 1 rfl ?_
   refine zaw (zaq ?_)
   exact zap (zcz (post := [rowE 3 1 (.slice (some ⟨g6, 0, none⟩) 1 1) 1 ([1 + b.it].map (Value.int .i64))]) rfl rfl (slQ [0] rfl) (by unfold outNd; first | (rw [if_pos (show ¬ BkIn n b by assumption)] <;> rfl) | (rw [if_neg (not_not_intro (show BkIn n b by assumption)), if_pos (by omega)] <;> rfl) | (rw [if_neg (not_not_intro (show BkIn n b by assumption)), if_neg (by omega), if_pos (by omega)] <;> rfl) | (rw [if_neg (not_not_intro (show BkIn n b by assumption)), if_neg (by omega), if_neg (by omega), if_pos (by omega)] <;> rfl) | (rw [if_neg (not_not_intro (show BkIn n b by assumption)), if_neg (by omega), if_neg (by omega), if_neg (by omega)] <;> rfl)))
  refine zba 1 rfl (zal rfl (srQ ?_))
  refine zby rfl rfl rfl rfl rfl rfl (fun h7 => ?_) (fun h7 => ?_)
  ·
   refine zba 1 rfl (zak rfl (zbd 2 rfl ?_))
   refine zaw (zaq ?_)
   exact zap (zcz (post := [rowE 3 1 (.slice (some ⟨g3, 0, none⟩) 0 0) 0 ([])]) rfl rfl (slQ [0] rfl) (by unfold outNd; first | (rw [if_pos (show ¬ BkIn n b by assumption)] <;> rfl) | (rw [if_neg (not_not_intro (show BkIn n b by assumption)), if_pos (by omega)] <;> rfl) | (rw [if_neg (not_not_intro (show BkIn n b by assumption)), if_neg (by omega), if_pos (by omega)] <;> rfl) | (rw [if_neg (not_not_intro (show BkIn n b by assumption)), if_neg (by omega), if_neg (by omega), if_pos (by omega)] <;> rfl) | (rw [if_neg (not_not_intro (show BkIn n b by assumption)), if_neg (by omega), if_neg (by omega), if_neg (by omega)] <;> rfl)))
  refine zba 1 rfl (zal rfl (srQ ?_))
  refine zby rfl rfl rfl rfl rfl rfl (fun h8 => ?_) (fun h8 => ?_)
  ·
   refine zba 1 rfl (zak rfl (srQ ?_))
   have hbi : BkIn n b := by assumption
   have hrg : (b.kd = 0 → 0 ≤ b.it ∧ b.it < n.ins) ∧ (b.kd = 1 → 0 ≤ b.it ∧ b.it < n.os.length) ∧ (b.kd = 2 → 0 ≤ b.it ∧ b.it < n.ss.length) := by rcases hbi with ⟨p1, p2, p3⟩ | ⟨p1, p2, p3⟩ | ⟨p1, p2, p3⟩ | ⟨p1, p2⟩ <;> omega
   refine hvQ rfl (fdQ 0 rfl rfl rfl) (hvQ rfl (zaf rfl rfl rfl (zab 2 rfl rfl)) (hvQ rfl (vaQ rfl rfl rfl) (hvQ rfl (fdQ 1 rfl rfl rfl) (hvQ rfl (zaf rfl rfl rfl (zab 1 rfl rfl)) (hvQ rfl (vaQ rfl rfl rfl) ?_)))))
   refine zdi rfl (zas (z := .int .i64 0) (s := 1) (cs := ([(1 + n.ins) + b.it].map (Value.int .i64))) rfl Try.underlying28 rfl (by decide) rfl (by kernel_rfl) rfl) ?_
   intro g9
   refine zba 1 rfl ?_
   refine zaw (zaq ?_)
   exact zap (zcz (post := [rowE 3 1 (.slice (some ⟨g9, 0, none⟩) 1 1) 1 ([(1 + n.ins) + b.it].map (Value.int .i64))]) rfl rfl (slQ [0] rfl) (by unfold outNd; first | (rw [if_pos (show ¬ BkIn n b by assumption)] <;> rfl) | (rw [if_neg (not_not_intro (show BkIn n b by assumption)), if_pos (by omega)] <;> rfl) | (rw [if_neg (not_not_intro (show BkIn n b by assumption)), if_neg (by omega), if_pos (by omega)] <;> rfl) | (rw [if_neg (not_not_intro (show BkIn n b by assumption)), if_neg (by omega), if_neg (by omega), if_pos (by omega)] <;> rfl) | (rw [if_neg (not_not_intro (show BkIn n b by assumption)), if_neg (by omega), if_neg (by omega), if_neg (by omega)] <;> rfl)))
  refine zba 1 rfl (fsQ rfl (zco (zfc ?_)))
  have hbi : BkIn n b := by assumption
  have hin9 : ∀ k, k < b.es.length → LeIn n (b.es.getD k le0) := by rcases hbi with ⟨p1, p2, p3⟩ | ⟨p1, p2, p3⟩ | ⟨p1, p2, p3⟩ | ⟨p1, p2⟩ <;> first | omega | exact fun q hq => (p2 q hq).1
  refine zba 1 rfl (zax ?_)
  refine lkQ2 (α := Nat) (β := Value) [0, 1, 2, 3, 4, 11, 14, 15, 21, 24] rfl (fun k gv => [rowE 3 1 gv ((outL n b.es k).length) ((outL n b.es k).map (Value.int .i64)), boxE b2 #[.int .i64 b.kd, .int .i64 b.it, b.bv] 39, boxE b1 #[.int .i64 n.ins, n.sv, n.lv, n.ov] 30]) (fun k gv => [(5, gv), (6, .int .i64 (k : Int))]) (fun k gv => k ≤ b.es.length) (fun k gv => b.es.length - k) 0 _ (Nat.zero_le _) (saQ rfl) (pfQ rfl) ?_
  intro k gv hi10
  have hk := hi10
  have hol := outL_len n b.es k
  refine zaa (zaa (reQ 1 rfl (hvQ rfl (fdQ 2 rfl rfl rfl) (hvQ rfl (zaf rfl rfl rfl (zab 1 rfl rfl)) (hvQ rfl (lnQ rfl rfl rfl (zae hbe)) ?_)))))
  refine zbk rfl rfl rfl rfl rfl rfl (fun h11 => ?_) (fun h11 => ?_)
  ·
   refine ntQ (zak rfl (zcn (sbQ ?_)))
   have hle9 := hin9 k (by omega)
   refine zdg rfl 9 [0, 1, 2, 3, 4, 5, 6, 7, 8] (List.take 9 _) (List.drop 9 _) [[], [], [], [2], [], [3, 4], [5], [1, 6], [7]] [40, 41, 42, 43, 44, 45, 46, 47, 48] (fun i_ vs_ v_ p_ => match i_ with | 0 => v_ = gv ∧ p_ = [] | 1 => v_ = .agg #[.int .i64 n.ins, n.sv, n.lv, n.ov] ∧ p_ = [] | 2 => v_ = .pointer (some ⟨b2, 0 + 2, none⟩) ∧ p_ = [] | 3 => v_ = b.bv ∧ p_ = [] | 4 => v_ = .int .i64 (k : Int) ∧ p_ = [] | 5 => v_ = elP b.bv (((k : Int)).toNat * 2) ∧ p_ = [] | 6 => v_ = .agg #[.int .i64 ((b.es.getD k le0).u), .int .i64 ((b.es.getD k le0).f)] ∧ p_ = [] | 7 => v_ = .int .i64 (outK n (b.es.getD k le0)) ∧ p_ = [] | 8 => IsRow 3 1 1 ([outK n (b.es.getD k le0)].map (Value.int .i64)) v_ p_ | _ => True) (List.take_append_drop 9 _).symm (by kernel_rfl) (by kernel_rfl) rfl rfl ?_ ?_
   ·
    refine ⟨?_, ?_, ?_, ?_, ?_, ?_, ?_, ?_, ?_, trivial⟩
    ·
     intro vf pf hR
     exact ovQ rfl (zai [5] rfl) (zbe (zat rfl))
    ·
     intro vf pf hR
     exact olQ rfl (zai [2] rfl) (zbe (zao (cs := [.int .i64 n.ins, n.sv, n.lv, n.ov]) rfl rfl rfl rfl rfl (zaj 2 rfl 0 rfl)))
    ·
     intro vf pf hR
     exact ovQ rfl (zai [3] rfl) (zbe (fdQ 2 rfl rfl rfl))
    ·
     intro vf pf hR
     have e2 := hR 2 (by decide)
     exact olQ rfl (sk 42 (congrArg some e2.1) (zad _)) (zbe (zaf rfl rfl rfl (zab 1 rfl rfl)))
    ·
     intro vf pf hR
     exact ovQ rfl (zai [6] rfl) (zbe (zat rfl))
    ·
     intro vf pf hR
     have e3 := hR 3 (by decide)
     have e4 := hR 4 (by decide)
     exact olQ rfl (sk 43 (congrArg some e3.1) (sk 44 (congrArg some e4.1) (zad _))) (zbe (riQ 2 rfl rfl rfl rfl (zae hbe)))
    ·
     intro vf pf hR
     have e5 := hR 5 (by decide)
     exact olQ rfl (sk 45 (congrArg some e5.1) (zad _)) (zbe (zcg (us := [.int .i64 ((b.es.getD k le0).u), .int .i64 ((b.es.getD k le0).f)]) rfl rfl rfl rfl (zae hbe) (by omega) rfl (zcw leC 2 (fun _ => rfl) b.es le0 (show k < _ by omega) rfl)))
    ·
     intro vf pf hR
     have e1 := hR 1 (by decide)
     have e6 := hR 6 (by decide)
     exact olQ rfl (sk 41 (congrArg some e1.1) (sk 46 (congrArg some e6.1) (zad _))) (zan rfl rfl (fun w hm => zau (l28Out_ans n (b.es.getD k le0) w (hr.below hm.bel) hok hle9)))
    intro vf pf hR
    have e7 := hR 7 (by decide)
    exact olQ rfl (sk 47 (congrArg some e7.1) (zad _)) (zas (z := .int .i64 0) (s := 1) (cs := ([outK n (b.es.getD k le0)].map (Value.int .i64))) rfl Try.underlying28 rfl (by decide) rfl (by kernel_rfl) rfl)
   intro vf pf hR
   have e0 := hR 0 (by decide)
   have e8 : IsRow 3 1 1 ([outK n (b.es.getD k le0)].map (Value.int .i64)) (vf 8) (pf 8) := hR 8 (by decide)
   obtain ⟨g12, vE8, pE8⟩ := e8
   have q0 := hR 0 (by decide)
   have q1 := hR 1 (by decide)
   have q2 := hR 2 (by decide)
   have q3 := hR 3 (by decide)
   have q4 := hR 4 (by decide)
   have q5 := hR 5 (by decide)
   have q6 := hR 6 (by decide)
   have q7 := hR 7 (by decide)
   refine zck (zbj [37, 24, 21, 15, 14, 11, 6, 5, 4, 3, 2, 1, 0] _ (sk 40 (congrArg some e0.1) (sk 48 (congrArg some vE8) (zad _))) rfl) (by simp only [pE8, vE8, q0.2, q1.2, q2.2, q3.2, q4.2, q5.2, q6.2, q7.2, fS] <;> rfl) ?_
   simp only [List.drop_succ_cons, List.drop_zero]
   refine zcf (i := 1) (z := .int .i64 0) (bytes := 8) rfl rfl rfl rfl Try.underlying28 (by kernel_rfl) rfl rfl rfl rfl (zac 0 rfl) (zbm _) (by first | omega | (simp; done) | (simp; omega)) (zbt (outL n b.es k) ([outK n (b.es.getD k le0)])) (zcl (outL n b.es k) ([outK n (b.es.getD k le0)])) (fun _ => rfl) ?_
   intro v13
   refine enQ 1 rfl (zco (reQ 1 rfl (hvQ rfl (vaQ rfl rfl rfl) ?_)))
   have hbi : BkIn n b := by assumption
   have hin9 : ∀ k, k < b.es.length → LeIn n (b.es.getD k le0) := by rcases hbi with ⟨p1, p2, p3⟩ | ⟨p1, p2, p3⟩ | ⟨p1, p2, p3⟩ | ⟨p1, p2⟩ <;> first | omega | exact fun q hq => (p2 q hq).1
   refine enQ 1 rfl ?_
   exact zbg (k + 1) v13 (by omega) (by omega) (saQ rfl) (slQ [1, 0, 0] rfl)
  refine ntQ (zal rfl ?_)
  refine zaz (zds ?_)
  refine zag (zav (zbd 2 rfl ?_))
  refine zaw ?_
  have hke : k = b.es.length := by omega
  exact zcz (post := [rowE 3 1 gv ((outL n b.es k).length) ((outL n b.es k).map (Value.int .i64))]) rfl rfl (slQ [0] rfl) (by rw [hke]; unfold outNd; rw [if_neg (not_not_intro (show BkIn n b by assumption)), if_neg (by omega), if_neg (by omega), if_neg (by omega)])
 have h4p := zgr h4
 refine zba 1 rfl (zak rfl (zbd 2 rfl ?_))
 refine zaw (zap ?_)
 exact zcz (post := [rowE 3 1 (.slice (some ⟨g3, 0, none⟩) 0 0) 0 ([])]) rfl rfl (slQ [0] rfl) (by unfold outNd; first | (rw [if_pos (show ¬ BkIn n b by assumption)] <;> rfl) | (rw [if_neg (not_not_intro (show BkIn n b by assumption)), if_pos (by omega)] <;> rfl) | (rw [if_neg (not_not_intro (show BkIn n b by assumption)), if_neg (by omega), if_pos (by omega)] <;> rfl) | (rw [if_neg (not_not_intro (show BkIn n b by assumption)), if_neg (by omega), if_neg (by omega), if_pos (by omega)] <;> rfl) | (rw [if_neg (not_not_intro (show BkIn n b by assumption)), if_neg (by omega), if_neg (by omega), if_neg (by omega)] <;> rfl))
theorem BlockOk_ans (n : Ln) (b : Bk) (w : World) (hr : RdsLn w n) (hok : LnOk n) (hbe : RdsW w b.bv 2 b.es.length (b.es.flatMap leC)) (hbl : b.es.length ≤ 100) :
   Calls Try.prog 80 #[.agg #[.int .i64 n.ins, n.sv, n.lv, n.ov], .agg #[.int .i64 b.kd, .int .i64 b.it, b.bv]] w (Ans w (.bool (pB (BlP n b)))) := by
 have hso := sml hr.ou
 have hss := hr.sq.small
 have hsl := hr.lt.small
 have hcnt : n.cnt = 1 + n.ins + n.ss.length + n.ls.length := rfl
 have hfst : n.fst = 1 + n.ins + n.ss.length := rfl
 obtain ⟨⟨si0, si1⟩, s2, s3, s4⟩ := hok.sz
 have hb1 := hbe.one
 refine zbl (N := 48) (args := [.agg #[.int .i64 n.ins, n.sv, n.lv, n.ov], .agg #[.int .i64 b.kd, .int .i64 b.it, b.bv]]) Try.func80 rfl rfl (srQ ?_)
 refine zdt rfl (zcm rfl rfl) ?_
 intro b1
 refine zdt rfl (zcm rfl rfl) ?_
 intro b2
 refine zba 1 rfl (zfc (hvQ rfl (zao (cs := [.int .i64 n.ins, n.sv, n.lv, n.ov]) rfl rfl rfl rfl rfl (zaj 1 rfl 0 rfl)) (hvQ rfl (zao (cs := [.int .i64 b.kd, .int .i64 b.it, b.bv]) rfl rfl rfl rfl rfl (zaj 0 rfl 0 rfl)) ?_)))
 refine zdp rfl (zan rfl rfl (fun w hm => zau (l28Known_ans n b w (hr.below hm.bel) hok (hbe.below hm.bel) hbl))) (zbx (fun h3 => ?_) (fun h3 => ?_))
 ·
  have h3p := of_pB h3
  refine zba 1 rfl (zal rfl (zcn (zfc (hvQ rfl (fdQ 0 rfl rfl rfl) (hvQ rfl (zaf rfl rfl rfl (zab 0 rfl rfl)) ?_)))))
  refine zby rfl rfl rfl rfl rfl rfl (fun h4 => ?_) (fun h4 => ?_)
  ·
   refine ntQ (zak rfl (srQ ?_))
   have hbi : BkIn n b := by assumption
   have hin9 : ∀ k, k < b.es.length → LeIn n (b.es.getD k le0) := by rcases hbi with ⟨p1, p2, p3⟩ | ⟨p1, p2, p3⟩ | ⟨p1, p2, p3⟩ | ⟨p1, p2⟩ <;> first | omega | exact fun q hq => (p2 q hq).1
   refine hvQ rfl (fdQ 1 rfl rfl rfl) (hvQ rfl (zaf rfl rfl rfl (zab 0 rfl rfl)) ?_)
   refine zby rfl rfl rfl rfl rfl rfl (fun h5 => ?_) (fun h5 => ?_)
   ·
    refine zam 1 rfl (hvQ rfl (fdQ 2 rfl rfl rfl) (hvQ rfl (zaf rfl rfl rfl (zab 0 rfl rfl)) (hvQ rfl (lnQ rfl rfl rfl (zae hbe)) ?_)))
    refine zdp rfl (zan rfl rfl (fun w hm => zau (zes (b.es.length : Int) 1 2 w))) (zbx (fun h6 => ?_) (fun h6 => ?_))
    ·
     obtain ⟨h6a, h6b⟩ := (zde _ _ _).1 h6
     refine zam 2 rfl (hvQ rfl (zao (cs := [.int .i64 n.ins, n.sv, n.lv, n.ov]) rfl rfl rfl rfl rfl (zaj 1 rfl 0 rfl)) (hvQ rfl (fdQ 2 rfl rfl rfl) (hvQ rfl (zaf rfl rfl rfl (zab 0 rfl rfl)) ?_)))
     refine zfu rfl rfl rfl (zan rfl rfl (fun w hm => zhc n b.es _ w (hr.below hm.bel) hok (hbe.below hm.bel) hbl hin9)) ?_
     intro v7 p8 hR9
     subst hR9
     refine hvQ rfl (lnQ rfl rfl rfl (zac 0 rfl)) (hl_leq rfl rfl rfl rfl rfl rfl (fun h10 => ?_) (fun h10 => ?_))
     ·
      refine zba 2 rfl ?_
      refine zaw (zap ?_)
      exact zbi rfl rfl (congrArg _ (zed ⟨by assumption, fun _ => by first | omega | exact ⟨by omega, ⟨by omega, by omega⟩, by omega⟩, fun _ => by first | omega | exact ⟨by omega, fun _ => by omega⟩⟩).symm)
     refine zba 2 rfl ?_
     refine zaw (zap ?_)
     exact zbi rfl rfl (congrArg _ (zdv (fun hp => by obtain ⟨p1, p2, p3⟩ := hp; first | exact absurd p1 (by assumption) | (have := p2 (by omega); omega) | (have q3 := p3 (by omega); have := q3.2; omega))).symm)
    have h6a := zfs h6
    refine zba 10 rfl ?_
    refine zaw (zap ?_)
    exact zbi rfl rfl (congrArg _ (zdv (fun hp => by obtain ⟨p1, p2, p3⟩ := hp; first | exact absurd p1 (by assumption) | (have := p2 (by omega); omega) | (have q3 := p3 (by omega); have := q3.2; omega))).symm)
   refine zam 15 rfl (?_)
   refine ntQ ?_
   refine zaw (zap ?_)
   exact zbi rfl rfl (congrArg _ (zdv (fun hp => by obtain ⟨p1, p2, p3⟩ := hp; first | exact absurd p1 (by assumption) | (have := p2 (by omega); omega) | (have q3 := p3 (by omega); have := q3.2; omega))).symm)
  refine ntQ (zal rfl (zcn (srQ ?_)))
  have hbi : BkIn n b := by assumption
  have hrg : (b.kd = 0 → 0 ≤ b.it ∧ b.it < n.ins) ∧ (b.kd = 1 → 0 ≤ b.it ∧ b.it < n.os.length) ∧ (b.kd = 2 → 0 ≤ b.it ∧ b.it < n.ss.length) := by rcases hbi with ⟨p1, p2, p3⟩ | ⟨p1, p2, p3⟩ | ⟨p1, p2, p3⟩ | ⟨p1, p2⟩ <;> omega
  have hsq9 : b.kd = 2 → SqOk (n.ss.getD b.it.toNat sq0) := fun h => (hok.sq b.it.toNat (by omega)).1
  refine hvQ rfl (fdQ 2 rfl rfl rfl) (hvQ rfl (zaf rfl rfl rfl (zab 0 rfl rfl)) (hvQ rfl (lnQ rfl rfl rfl (zae hbe)) ?_))
  refine zby rfl rfl rfl rfl rfl rfl (fun h11 => ?_) (fun h11 => ?_)
  ·
   refine zam 1 rfl (hvQ rfl (fdQ 0 rfl rfl rfl) (hvQ rfl (zaf rfl rfl rfl (zab 0 rfl rfl)) ?_))
   refine zgw rfl rfl rfl rfl rfl rfl (fun h12 => ?_) (fun h12 => ?_)
   ·
    refine zba 12 rfl ?_
    exact zaw (zbi rfl rfl (congrArg _ (zed ⟨by assumption, fun _ => by first | omega | exact ⟨by omega, ⟨by omega, by omega⟩, by omega⟩, fun _ => by first | omega | exact ⟨by omega, fun _ => by omega⟩⟩).symm))
   refine zam 1 rfl (hvQ rfl (fdQ 1 rfl rfl rfl) (hvQ rfl (zaf rfl rfl rfl (zab 1 rfl rfl)) (hvQ rfl (fdQ 1 rfl rfl rfl) (hvQ rfl (zaf rfl rfl rfl (zab 0 rfl rfl)) (hvQ rfl (riQ 3 rfl rfl rfl rfl (zae ((hr).sq.row))) (hvQ rfl (zbb (k0 := 0) rfl rfl rfl (zae ((hr).sq.row)) (by omega)) ?_))))))
   refine hvQ rfl (zar (u := .int .i64 ((n.ss.getD ((b.it).toNat) sq0).kd)) rfl rfl rfl (zae ((hr).sq.row)) ((zbv sqC 3 (fun _ => rfl) n.ss sq0 (show (b.it).toNat < _ by omega) (by decide)).trans rfl)) (zby rfl rfl rfl rfl rfl rfl (fun h13 => ?_) (fun h13 => ?_))
   ·
    refine zba 3 rfl ?_
    exact zaw (zbi rfl rfl (congrArg _ (zed ⟨by assumption, fun _ => by first | omega | exact ⟨by omega, ⟨by omega, by omega⟩, by omega⟩, fun _ => by first | omega | exact ⟨by omega, fun _ => by omega⟩⟩).symm))
   refine zba 3 rfl ?_
   exact zaw (zbi rfl rfl (congrArg _ (zdv (fun hp => by obtain ⟨p1, p2, p3⟩ := hp; first | exact absurd p1 (by assumption) | (have := p2 (by omega); omega) | (have q3 := p3 (by omega); have := q3.2; omega))).symm))
  refine zba 16 rfl ?_
  exact zaw (zbi rfl rfl (congrArg _ (zdv (fun hp => by obtain ⟨p1, p2, p3⟩ := hp; first | exact absurd p1 (by assumption) | (have := p2 (by omega); omega) | (have q3 := p3 (by omega); have := q3.2; omega))).symm))
 have h3p := zgr h3
 refine zba 1 rfl (zak rfl (zbd 1 rfl ?_))
 refine zaw (zap ?_)
 exact zbi rfl rfl (congrArg _ (zdv (fun hp => by obtain ⟨p1, p2, p3⟩ := hp; first | exact absurd p1 (by assumption) | (have := p2 (by omega); omega) | (have q3 := p3 (by omega); have := q3.2; omega))).symm)
theorem l07Bit_ans (b : Bool) (w : World)  :
   Calls Try.prog 127 #[.bool b] w (Ans w (.int .i64 (if b = true then 1 else 0))) := by
 refine zbl (N := 4) (args := [.bool b]) Try.func127 rfl rfl (zbd 1 rfl (zaa (zaa (reQ 1 rfl ?_))))
 refine zbx (fun h1 => ?_) (fun h1 => ?_)
 ·
  refine ntQ (zak rfl (zbd 1 rfl ?_))
  refine zaw (zap ?_)
  exact zbi rfl rfl (by first | rfl | (cases b <;> first | rfl | (exfalso; simp_all; done)))
 refine ntQ (zal rfl (zcn (zbd 1 rfl ?_)))
 exact zaw (zbi rfl rfl (by first | rfl | (cases b <;> first | rfl | (exfalso; simp_all; done))))
theorem l28Common_ans (n : Ln) (a b : Le) (w : World) (hr : RdsLn w n) (hok : LnOk n) (ha : LeIn n a) (hb : LeIn n b) :
   Calls Try.prog 107 #[.agg #[.int .i64 n.ins, n.sv, n.lv, n.ov], .agg #[.int .i64 a.u, .int .i64 a.f], .agg #[.int .i64 b.u, .int .i64 b.f]] w (Ans w (.int .i64 (comK n a b))) := by
 have hso := sml hr.ou
 have hss := hr.sq.small
 have hsl := hr.lt.small
 have hcnt : n.cnt = 1 + n.ins + n.ss.length + n.ls.length := rfl
 have hfst : n.fst = 1 + n.ins + n.ss.length := rfl
 obtain ⟨⟨si0, si1⟩, s2, s3, s4⟩ := hok.sz
 have hia := insK_le hok ha
 have hib := insK_le hok hb
 have hxl := setK_le (insK n a ++ [outK n a]) []
 rw [List.length_append, List.length_singleton] at hxl
 refine zbl (N := 46) (args := [.agg #[.int .i64 n.ins, n.sv, n.lv, n.ov], .agg #[.int .i64 a.u, .int .i64 a.f], .agg #[.int .i64 b.u, .int .i64 b.f]]) Try.func107 rfl rfl (srQ ?_)
 refine zdt rfl (zcm rfl rfl) ?_
 intro b1
 refine zdt rfl (zcm rfl rfl) ?_
 intro b2
 refine zdt rfl (zcm rfl rfl) ?_
 intro b3
 refine zba 1 rfl (zaa ?_)
 refine zdg rfl 7 [0, 1, 2, 3, 4, 5, 6] (List.take 7 _) (List.drop 7 _) [[], [], [0, 1], [], [], [3, 4], [5]] [11, 12, 13, 14, 15, 16, 17] (fun i_ vs_ v_ p_ => match i_ with | 0 => v_ = .agg #[.int .i64 n.ins, n.sv, n.lv, n.ov] ∧ p_ = [] | 1 => v_ = .agg #[.int .i64 a.u, .int .i64 a.f] ∧ p_ = [] | 2 => (fun v' post => post = [rowE 3 1 v' ((insK n a)).length (((insK n a)).map (Value.int .i64))]) v_ p_ | 3 => v_ = .agg #[.int .i64 n.ins, n.sv, n.lv, n.ov] ∧ p_ = [] | 4 => v_ = .agg #[.int .i64 a.u, .int .i64 a.f] ∧ p_ = [] | 5 => v_ = .int .i64 (outK n a) ∧ p_ = [] | 6 => IsRow 3 1 1 ([outK n a].map (Value.int .i64)) v_ p_ | _ => True) (List.take_append_drop 7 _).symm (by kernel_rfl) (by kernel_rfl) rfl rfl ?_ ?_
 ·
  refine ⟨?_, ?_, ?_, ?_, ?_, ?_, ?_, trivial⟩
  ·
   intro vf pf hR
   exact olQ rfl (zai [3] rfl) (zbe (zao (cs := [.int .i64 n.ins, n.sv, n.lv, n.ov]) rfl rfl rfl rfl rfl (zaj 2 rfl 0 rfl)))
  ·
   intro vf pf hR
   exact olQ rfl (zai [4] rfl) (zbe (zao (cs := [.int .i64 a.u, .int .i64 a.f]) rfl rfl rfl rfl rfl (zaj 1 rfl 0 rfl)))
  ·
   intro vf pf hR
   have e0 := hR 0 (by decide)
   have e1 := hR 1 (by decide)
   exact olQ rfl (sk 11 (congrArg some e0.1) (sk 12 (congrArg some e1.1) (zad _))) (zan rfl rfl (fun w hm => l28Ins_ret n a w (hr.below hm.bel) hok ha))
  ·
   intro vf pf hR
   exact olQ rfl (zai [3] rfl) (zbe (zao (cs := [.int .i64 n.ins, n.sv, n.lv, n.ov]) rfl rfl rfl rfl rfl (zaj 2 rfl 0 rfl)))
  ·
   intro vf pf hR
   exact olQ rfl (zai [4] rfl) (zbe (zao (cs := [.int .i64 a.u, .int .i64 a.f]) rfl rfl rfl rfl rfl (zaj 1 rfl 0 rfl)))
  ·
   intro vf pf hR
   have e3 := hR 3 (by decide)
   have e4 := hR 4 (by decide)
   exact olQ rfl (sk 14 (congrArg some e3.1) (sk 15 (congrArg some e4.1) (zad _))) (zan rfl rfl (fun w hm => zau (l28Out_ans n a w (hr.below hm.bel) hok ha)))
  intro vf pf hR
  have e5 := hR 5 (by decide)
  exact olQ rfl (sk 16 (congrArg some e5.1) (zad _)) (zas (z := .int .i64 0) (s := 1) (cs := ([outK n a].map (Value.int .i64))) rfl Try.underlying28 rfl (by decide) rfl (by kernel_rfl) rfl)
 intro vf pf hR
 have e2 : (fun v' post => post = [rowE 3 1 v' ((insK n a)).length (((insK n a)).map (Value.int .i64))]) (vf 2) (pf 2) := hR 2 (by decide)
 obtain ⟨v4, vE2⟩ : ∃ x, vf 2 = x := ⟨_, rfl⟩
 obtain ⟨p5, pE2⟩ : ∃ x, pf 2 = x := ⟨_, rfl⟩
 have hR6 := e2
 rw [vE2, pE2] at hR6
 subst hR6
 have e6 : IsRow 3 1 1 ([outK n a].map (Value.int .i64)) (vf 6) (pf 6) := hR 6 (by decide)
 obtain ⟨g7, vE6, pE6⟩ := e6
 have q0 := hR 0 (by decide)
 have q1 := hR 1 (by decide)
 have q3 := hR 3 (by decide)
 have q4 := hR 4 (by decide)
 have q5 := hR 5 (by decide)
 refine zck (zbj [6, 5, 4, 3, 2, 1, 0] _ (sk 13 (congrArg some vE2) (sk 17 (congrArg some vE6) (zad _))) rfl) (by simp only [pE2, vE2, pE6, vE6, q0.2, q1.2, q3.2, q4.2, q5.2, fS] <;> rfl) ?_
 simp only [List.drop_succ_cons, List.drop_zero]
 refine zcf (i := 0) (z := .int .i64 0) (bytes := 8) rfl rfl rfl rfl Try.underlying28 (by kernel_rfl) rfl rfl rfl rfl (zac 1 rfl) (zbm _) (by first | omega | (simp; done) | (simp; omega)) (zbt (insK n a) ([outK n a])) (zcl (insK n a) ([outK n a])) (fun _ => rfl) ?_
 intro v8
 refine zba 1 rfl (zaa ?_)
 refine zdg rfl 7 [0, 1, 2, 3, 4, 5, 6] (List.take 7 _) (List.drop 7 _) [[], [], [0, 1], [], [], [3, 4], [5]] [19, 20, 21, 22, 23, 24, 25] (fun i_ vs_ v_ p_ => match i_ with | 0 => v_ = .agg #[.int .i64 n.ins, n.sv, n.lv, n.ov] ∧ p_ = [] | 1 => v_ = .agg #[.int .i64 b.u, .int .i64 b.f] ∧ p_ = [] | 2 => (fun v' post => post = [rowE 3 1 v' ((insK n b)).length (((insK n b)).map (Value.int .i64))]) v_ p_ | 3 => v_ = .agg #[.int .i64 n.ins, n.sv, n.lv, n.ov] ∧ p_ = [] | 4 => v_ = .agg #[.int .i64 b.u, .int .i64 b.f] ∧ p_ = [] | 5 => v_ = .int .i64 (outK n b) ∧ p_ = [] | 6 => IsRow 3 1 1 ([outK n b].map (Value.int .i64)) v_ p_ | _ => True) (List.take_append_drop 7 _).symm (by kernel_rfl) (by kernel_rfl) rfl rfl ?_ ?_
 ·
  refine ⟨?_, ?_, ?_, ?_, ?_, ?_, ?_, trivial⟩
  ·
   intro vf pf hR
   exact olQ rfl (zai [3] rfl) (zbe (zao (cs := [.int .i64 n.ins, n.sv, n.lv, n.ov]) rfl rfl rfl rfl rfl (zaj 4 rfl 0 rfl)))
  ·
   intro vf pf hR
   exact olQ rfl (zai [5] rfl) (zbe (zao (cs := [.int .i64 b.u, .int .i64 b.f]) rfl rfl rfl rfl rfl (zaj 2 rfl 0 rfl)))
  ·
   intro vf pf hR
   have e0 := hR 0 (by decide)
   have e1 := hR 1 (by decide)
   exact olQ rfl (sk 19 (congrArg some e0.1) (sk 20 (congrArg some e1.1) (zad _))) (zan rfl rfl (fun w hm => l28Ins_ret n b w (hr.below hm.bel) hok hb))
  ·
   intro vf pf hR
   exact olQ rfl (zai [3] rfl) (zbe (zao (cs := [.int .i64 n.ins, n.sv, n.lv, n.ov]) rfl rfl rfl rfl rfl (zaj 4 rfl 0 rfl)))
  ·
   intro vf pf hR
   exact olQ rfl (zai [5] rfl) (zbe (zao (cs := [.int .i64 b.u, .int .i64 b.f]) rfl rfl rfl rfl rfl (zaj 2 rfl 0 rfl)))
  ·
   intro vf pf hR
   have e3 := hR 3 (by decide)
   have e4 := hR 4 (by decide)
   exact olQ rfl (sk 22 (congrArg some e3.1) (sk 23 (congrArg some e4.1) (zad _))) (zan rfl rfl (fun w hm => zau (l28Out_ans n b w (hr.below hm.bel) hok hb)))
  intro vf pf hR
  have e5 := hR 5 (by decide)
  exact olQ rfl (sk 24 (congrArg some e5.1) (zad _)) (zas (z := .int .i64 0) (s := 1) (cs := ([outK n b].map (Value.int .i64))) rfl Try.underlying28 rfl (by decide) rfl (by kernel_rfl) rfl)
 intro vf pf hR
 have e2 : (fun v' post => post = [rowE 3 1 v' ((insK n b)).length (((insK n b)).map (Value.int .i64))]) (vf 2) (pf 2) := hR 2 (by decide)
 obtain ⟨v9, vE2⟩ : ∃ x, vf 2 = x := ⟨_, rfl⟩
 obtain ⟨p10, pE2⟩ : ∃ x, pf 2 = x := ⟨_, rfl⟩
 have hR11 := e2
 rw [vE2, pE2] at hR11
 subst hR11
 have e6 : IsRow 3 1 1 ([outK n b].map (Value.int .i64)) (vf 6) (pf 6) := hR 6 (by decide)
 obtain ⟨g12, vE6, pE6⟩ := e6
 have q0 := hR 0 (by decide)
 have q1 := hR 1 (by decide)
 have q3 := hR 3 (by decide)
 have q4 := hR 4 (by decide)
 have q5 := hR 5 (by decide)
 refine zck (zbj [7, 6, 5, 4, 3, 2, 1, 0] _ (sk 21 (congrArg some vE2) (sk 25 (congrArg some vE6) (zad _))) rfl) (by simp only [pE2, vE2, pE6, vE6, q0.2, q1.2, q3.2, q4.2, q5.2, fS] <;> rfl) ?_
 simp only [List.drop_succ_cons, List.drop_zero]
 refine zcf (i := 0) (z := .int .i64 0) (bytes := 8) rfl rfl rfl rfl Try.underlying28 (by kernel_rfl) rfl rfl rfl rfl (zac 1 rfl) (zbm _) (by first | omega | (simp; done) | (simp; omega)) (zbt (insK n b) ([outK n b])) (zcl (insK n b) ([outK n b])) (fun _ => rfl) ?_
 intro v13
 refine zba 1 rfl (zaa (reQ 1 rfl ?_))
 refine zdi rfl (zcb (s := 1) rfl Try.underlying28 rfl) ?_
 intro g14
 refine zfu rfl rfl rfl (zan rfl rfl (fun w hm => l28Set_ret ((insK n a) ++ ([outK n a])) [] _ _ w ((zac 3 rfl) w hm) ⟨_, _, rfl, rfl, ⟨by decide, by decide⟩, fun h => absurd h (by decide)⟩ (by simp only [List.length_append, List.length_singleton]; omega) (by decide))) ?_
 intro v15 p16 hR17
 subst hR17
 refine zba 1 rfl (zbd 1 rfl (zaa (zaa (reQ 1 rfl ?_))))
 refine ntQ (zax ?_)
 refine lkQ2 (α := Nat) (β := Int) [0, 1, 2, 3, 4, 5, 6, 7, 8] rfl (fun i c => [rowE 3 1 v15 ((setK ((insK n a) ++ ([outK n a])) []).length) ((setK ((insK n a) ++ ([outK n a])) []).map (Value.int .i64)), rowE 3 1 (.slice (some ⟨g14, 0, none⟩) 0 0) 0 ([]), rowE 3 1 v13 (((insK n b) ++ ([outK n b])).length) (((insK n b) ++ ([outK n b])).map (Value.int .i64)), rowE 3 1 (.slice (some ⟨g12, 0, none⟩) 1 1) 1 ([outK n b].map (Value.int .i64)), rowE 3 1 v8 (((insK n a) ++ ([outK n a])).length) (((insK n a) ++ ([outK n a])).map (Value.int .i64)), rowE 3 1 (.slice (some ⟨g7, 0, none⟩) 1 1) 1 ([outK n a].map (Value.int .i64)), boxE b3 #[.int .i64 b.u, .int .i64 b.f] 70, boxE b2 #[.int .i64 a.u, .int .i64 a.f] 70, boxE b1 #[.int .i64 n.ins, n.sv, n.lv, n.ov] 30]) (fun i c => [(9, .int .i64 c), (10, .int .i64 (i : Int))]) (fun i c => i ≤ (setK (insK n a ++ [outK n a]) []).length ∧ c = comL (setK (insK n a ++ [outK n a]) []) (insK n b ++ [outK n b]) i) (fun i c => (setK (insK n a ++ [outK n a]) []).length - i) 0 0 ⟨Nat.zero_le _, rfl⟩ (saQ rfl) (pfQ rfl) ?_
 intro i c hi18
 obtain ⟨hi, hc⟩ := hi18
 have hcr := comL_rng (setK (insK n a ++ [outK n a]) []) (insK n b ++ [outK n b]) i
 refine zaa (zaa (reQ 2 rfl (hvQ rfl (lnQ rfl rfl rfl (zac 0 rfl)) ?_)))
 refine zbk rfl rfl rfl rfl rfl rfl (fun h19 => ?_) (fun h19 => ?_)
 ·
  refine ntQ (zak rfl (zcn (sbQ (reQ 4 rfl (hvQ rfl (riQ 1 rfl rfl rfl rfl (zac 0 rfl)) (hvQ rfl (zar (u := .int .i64 ((setK ((insK n a) ++ ([outK n a])) []).getD i 0)) rfl rfl rfl (zac 0 rfl) (zbu (show _ < (setK ((insK n a) ++ ([outK n a])) []).length by omega))) ?_))))))
  refine zdp rfl (zan rfl rfl (fun w hm => zau (zdy ((insK n b) ++ ([outK n b])) ((setK ((insK n a) ++ ([outK n a])) []).getD i 0) _ w ((zac 2 rfl) w hm) (by first | omega | (simp only [List.length_append, List.length_singleton]; omega))))) (zbx (fun h20 => ?_) (fun h20 => ?_))
  ·
   refine zdp rfl (zan rfl rfl (fun w hm => zau (show Calls _ _ _ w (Ans w (.int .i64 1)) from l07Bit_ans true w))) (hvQ rfl (vaQ rfl rfl rfl) (enQ 1 rfl (zco (reQ 1 rfl (hvQ rfl (vaQ rfl rfl rfl) (enQ 1 rfl ?_))))))
   exact zbg (i + 1) _ ⟨by omega, by rw [hc]; show _ = comL (setK (insK n a ++ [outK n a]) []) (insK n b ++ [outK n b]) i + (if _ then _ else _); first | rfl | (rw [if_pos (by assumption)]; done) | (rw [if_neg (by rw [Bool.not_eq_true]; assumption)]; done)⟩ (by omega) (saQ rfl) (pfQ rfl)
  refine zdp rfl (zan rfl rfl (fun w hm => zau (show Calls _ _ _ w (Ans w (.int .i64 0)) from l07Bit_ans false w))) (hvQ rfl (vaQ rfl rfl rfl) (enQ 1 rfl (zco (reQ 1 rfl (hvQ rfl (vaQ rfl rfl rfl) (enQ 1 rfl ?_))))))
  exact zbg (i + 1) _ ⟨by omega, by rw [hc]; show _ = comL (setK (insK n a ++ [outK n a]) []) (insK n b ++ [outK n b]) i + (if _ then _ else _); first | rfl | (rw [if_pos (by assumption)]; done) | (rw [if_neg (by rw [Bool.not_eq_true]; assumption)]; done)⟩ (by omega) (saQ rfl) (pfQ rfl)
 refine ntQ (zal rfl ?_)
 refine zaz (zds ?_)
 refine zag (zav (zbd 2 rfl ?_))
 exact zaw (zbi rfl rfl (by rw [hc, show i = (setK (insK n a ++ [outK n a]) []).length by omega]; rfl))
theorem l28Les_ret (n : Ln) (w : World) (hr : RdsLn w n) (hok : LnOk n) :
   Calls Try.prog 106 #[.agg #[.int .i64 n.ins, n.sv, n.lv, n.ov]] w (Ret w (fun v' post => ∃ es : List Le, post = [rowE 70 2 v' es.length (es.flatMap leC)] ∧ LesIn n es ∧ es.length ≤ 412)) := by
 have hso := sml hr.ou
 have hss := hr.sq.small
 have hsl := hr.lt.small
 have hcnt : n.cnt = 1 + n.ins + n.ss.length + n.ls.length := rfl
 have hfst : n.fst = 1 + n.ins + n.ss.length := rfl
 obtain ⟨⟨si0, si1⟩, s2, s3, s4⟩ := hok.sz
 have hul := usK_len n
 refine zbl (N := 87) (args := [.agg #[.int .i64 n.ins, n.sv, n.lv, n.ov]]) Try.func106 rfl rfl (srQ ?_)
 refine zdt rfl (zcm rfl rfl) ?_
 intro b1
 refine zba 1 rfl (srQ ?_)
 refine zdi rfl (zcb (s := 2) rfl Try.underlying37 rfl) ?_
 intro g2
 refine zba 1 rfl (srQ (hvQ rfl (zao (cs := [.int .i64 n.ins, n.sv, n.lv, n.ov]) rfl rfl rfl rfl rfl (zaj 1 rfl 0 rfl)) ?_))
 refine zfu rfl rfl rfl (zan rfl rfl (fun w hm => zgk n w (hr.below hm.bel) hok)) ?_
 intro v3 p4 hR5
 subst hR5
 refine zba 1 rfl (srQ (hvQ rfl (fdQ 2 rfl rfl rfl) (hvQ rfl (zaf rfl rfl rfl (zab 2 rfl rfl)) (hvQ rfl (lnQ rfl rfl rfl (zae ((hr).lt.row))) ?_))))
 refine zdi rfl (zej (z := .bool false) (s := 1) (bytes := 1) (n := (List.replicate n.ls.length bl0).length) (cs := ((List.replicate n.ls.length bl0).flatMap blC)) rfl Try.underlying130 rfl (by decide) rfl rfl (by first | (rw [List.length_replicate]; done) | (rw [List.length_replicate]; omega)) (by first | (rw [List.length_replicate]; done) | (rw [List.length_replicate]; omega)) (by rw [List.length_replicate]; omega) (zfg blC 1 (fun _ => rfl) bl0 _ rfl n.ls.length)) ?_
 intro g6
 refine zba 1 rfl (zaa (zbd 1 rfl (zax ?_)))
 refine lkQ4 (α := Nat) (β := Value) (γ := List Le) (δ := List Bl) [0, 1, 2, 4, 5] rfl (fun i gu es tk => [rowE 4 1 (.slice (some ⟨g6, 0, none⟩) ((List.replicate n.ls.length bl0).length) ((List.replicate n.ls.length bl0).length)) tk.length (tk.flatMap blC), rowE 3 1 v3 ((usK n).length) ((usK n).map (Value.int .i64)), rowE 70 2 gu es.length (es.flatMap leC), boxE b1 #[.int .i64 n.ins, n.sv, n.lv, n.ov] 30]) (fun i gu es tk => [(3, gu), (6, .int .i64 (i : Int))]) (fun i gu es tk => i ≤ n.ss.length ∧ es.length ≤ i ∧ LesIn n es ∧ tk.length = n.ls.length) (fun i gu es tk => n.ss.length - i) 0 _ [] (List.replicate n.ls.length bl0) ⟨Nat.zero_le _, Nat.le_refl _, LesIn.nil _, List.length_replicate⟩ (saQ rfl) (pfQ rfl) ?_
 intro i gu es tk hi7
 obtain ⟨hi, hel, hle, htk⟩ := hi7
 refine zaa (zaa (reQ 1 rfl (hvQ rfl (fdQ 1 rfl rfl rfl) (hvQ rfl (zaf rfl rfl rfl (zab 3 rfl rfl)) (hvQ rfl (lnQ rfl rfl rfl (zae ((hr).sq.row))) ?_)))))
 refine zbk rfl rfl rfl rfl rfl rfl (fun h8 => ?_) (fun h8 => ?_)
 ·
  refine ntQ (zak rfl (zcn (sbQ (zfc (hvQ rfl (fdQ 1 rfl rfl rfl) (hvQ rfl (zaf rfl rfl rfl (zab 3 rfl rfl)) (zam 1 rfl ?_)))))))
  refine hvQ rfl (riQ 3 rfl rfl rfl rfl (zae ((hr).sq.row))) (hvQ rfl (zbb (k0 := 0) rfl rfl rfl (zae ((hr).sq.row)) (by omega)) ?_)
  refine hvQ rfl (zar (u := .int .i64 ((n.ss.getD i sq0).kd)) rfl rfl rfl (zae ((hr).sq.row)) ((zbv sqC 3 (fun _ => rfl) n.ss sq0 (show i < _ by omega) (by decide)).trans rfl)) (zgw rfl rfl rfl rfl rfl rfl (fun h9 => ?_) (fun h9 => ?_))
  ·
   refine ntQ (zak rfl ?_)
   refine zaz (zct ?_)
   refine zag (zav (reQ 1 rfl (hvQ rfl (vaQ rfl rfl rfl) (enQ 1 rfl ?_))))
   exact zci (i + 1) gu es tk ⟨by omega, by (try rw [List.length_append, List.length_singleton]); omega, by first | assumption | exact hle.app (leIn_mk (by omega)), by first | assumption | (rw [List.length_set]; assumption)⟩ (by omega) (saQ rfl) (pfQ rfl)
  refine (zbr (zav (zal rfl (zfh (zav (zaa (zay (zam 1 rfl (hvQ rfl (zcq (cs := #[.int .i64 (-1), .int .i64 (i : Int)]) rfl rfl rfl) ?_)))))))))
  refine zdt rfl (zbw (z := .agg #[.int .i64 0, .int .i64 0]) rfl rfl) ?_
  intro b10
  refine zcd (cs' := #[.int .i64 (-1), .int .i64 (i : Int)]) (i := 0) (off := 0) (us := [.int .i64 (-1), .int .i64 (i : Int)]) rfl rfl rfl rfl rfl rfl rfl (zah rfl (zah rfl zbp)) rfl rfl rfl (ntQ (zaa ?_))
  have hsq9 := (hok.sq i (by omega)).1.kind
  have hx9 := (hok.sq i (by omega)).2 0 (by omega)
  refine zca 11 [[], [0], [], [1, 2], [3], [4], [5], [6], [], [8], [7, 9]] [33, 34, 35, 36, 37, 38, 39, 40, 41, 42, 43] [.pointer (some ⟨b1, 0 + 1, none⟩), n.sv, .int .i64 (i : Int), elP n.sv (((i : Int)).toNat * 3), elP n.sv (((i : Int)).toNat * 3 + 2), (n.ss.getD i sq0).iv, elP ((n.ss.getD i sq0).iv) ((0 : Int).toNat * 1), .int .i64 (((n.ss.getD i sq0).xs).getD 0 0), .agg #[.int .i64 n.ins, n.sv, n.lv, n.ov], .int .i64 n.fst, .int .i64 ((((n.ss.getD i sq0).xs).getD 0 0) - n.fst)] (by kernel_rfl) rfl ?_ ?_
  ·
   exact ⟨iaQ rfl (fdQ 1 rfl rfl rfl) rfl, iaQ rfl (zaf rfl rfl rfl (zab 4 rfl rfl)) rfl, iaQ rfl (zat rfl) rfl, iaQ rfl (riQ 3 rfl rfl rfl rfl (zae ((hr).sq.row))) rfl, iaQ rfl (zbb (k0 := 2) rfl rfl rfl (zae ((hr).sq.row)) (by omega)) rfl, iaQ rfl (zar (u := (n.ss.getD i sq0).iv) rfl rfl rfl (zae ((hr).sq.row)) ((zbv sqC 3 (fun _ => rfl) n.ss sq0 (show i < _ by omega) (by decide)).trans rfl)) rfl, iaQ rfl (riQ 1 rfl rfl rfl rfl (zae ((hr).sq.at (d := sq0) (k := i) (by omega)))) rfl, iaQ rfl (zar (u := .int .i64 (((n.ss.getD i sq0).xs).getD 0 0)) rfl rfl rfl (zae ((hr).sq.at (d := sq0) (k := i) (by omega))) (zbu (show _ < ((n.ss.getD i sq0).xs).length by omega))) rfl, iaQ rfl (zao (cs := [.int .i64 n.ins, n.sv, n.lv, n.ov]) rfl rfl rfl rfl rfl (zaj 4 rfl 0 rfl)) rfl, .inl ⟨rfl, zan rfl rfl (fun w hm => zau (zep n w (hr.below hm.bel) hok.sz))⟩, iaQ rfl (vsQ rfl rfl rfl) rfl, trivial⟩
  simp only [List.drop_succ_cons, List.drop_zero]
  refine zba 1 rfl (zaa (zaa (reQ 1 rfl ?_)))
  refine zdo rfl rfl rfl rfl rfl rfl (fun h11 => ?_) (fun h11 => ?_)
  ·
   refine zam 2 rfl (hvQ rfl (fdQ 1 rfl rfl rfl) (hvQ rfl (zaf rfl rfl rfl (zab 4 rfl rfl)) (zam 1 rfl (hvQ rfl (riQ 3 rfl rfl rfl rfl (zae ((hr).sq.row))) (hvQ rfl (zbb (k0 := 2) rfl rfl rfl (zae ((hr).sq.row)) (by omega)) ?_)))))
   refine hvQ rfl (zar (u := (n.ss.getD i sq0).iv) rfl rfl rfl (zae ((hr).sq.row)) ((zbv sqC 3 (fun _ => rfl) n.ss sq0 (show i < _ by omega) (by decide)).trans rfl)) (hvQ rfl (riQ 1 rfl rfl rfl rfl (zae ((hr).sq.at (d := sq0) (k := i) (by omega)))) (hvQ rfl (zar (u := .int .i64 (((n.ss.getD i sq0).xs).getD 0 0)) rfl rfl rfl (zae ((hr).sq.at (d := sq0) (k := i) (by omega))) (zbu (show _ < ((n.ss.getD i sq0).xs).length by omega))) (hvQ rfl (riQ 1 rfl rfl rfl rfl (zac 2 rfl)) (hvQ rfl (zar (u := .int .i64 ((usK n).getD ((((n.ss.getD i sq0).xs).getD 0 0).toNat) 0)) rfl rfl rfl (zac 2 rfl) (zbu (show _ < (usK n).length by omega))) ?_))))
   refine zby rfl rfl rfl rfl rfl rfl (fun h12 => ?_) (fun h12 => ?_)
   ·
    refine zba 1 rfl (zak rfl (zaa (reQ 1 rfl (hvQ rfl (fdQ 0 rfl rfl rfl) ?_))))
    refine zfj (i := 0) (cs' := #[.int .i64 ((((n.ss.getD i sq0).xs).getD 0 0) - n.fst), .int .i64 (i : Int)]) rfl rfl rfl rfl rfl rfl rfl rfl rfl rfl rfl (ntQ (reQ 2 rfl (hvQ rfl (riQ 1 rfl rfl rfl rfl (zac 1 rfl)) ?_)))
    refine zcu (i := 1) (n' := (tk.set (((((n.ss.getD i sq0).xs).getD 0 0) - n.fst).toNat) { tk.getD (((((n.ss.getD i sq0).xs).getD 0 0) - n.fst).toNat) bl0 with b := true }).length) rfl rfl rfl rfl rfl rfl rfl rfl (by first | omega | (simp only [List.length_set]; omega)) List.length_set.symm (zdh blC (fun r => .bool r.b) (fun _ => rfl) _ ({ tk.getD (((((n.ss.getD i sq0).xs).getD 0 0) - n.fst).toNat) bl0 with b := true }) rfl) rfl (zbr (zav (zay (zam 1 rfl (hvQ rfl (zao (cs := [.int .i64 ((((n.ss.getD i sq0).xs).getD 0 0) - n.fst), .int .i64 (i : Int)]) rfl rfl rfl rfl rfl (zaj 0 rfl 0 rfl)) ?_)))))
    refine zdi rfl (zas (z := .agg #[.int .i64 0, .int .i64 0]) (s := 2) (cs := ([(((n.ss.getD i sq0).xs).getD 0 0) - n.fst, (i : Int)].map (Value.int .i64))) rfl Try.underlying37 rfl (by decide) rfl (by kernel_rfl) rfl) ?_
    intro g13
    refine zcf (i := 4) (z := .agg #[.int .i64 0, .int .i64 0]) (bytes := 16) rfl rfl rfl rfl Try.underlying37 (by kernel_rfl) rfl rfl rfl rfl (zac 0 rfl) (zbm _) (by first | omega | (simp only [List.length_append, List.length_cons, List.length_nil]; omega)) (zbt es [(Le.mk ((((n.ss.getD i sq0).xs).getD 0 0) - n.fst) (i : Int))]) (zcp leC es (Le.mk ((((n.ss.getD i sq0).xs).getD 0 0) - n.fst) (i : Int)) _ rfl) (fun _ => rfl) ?_
    intro v14
    refine enQ 1 rfl (zco (reQ 1 rfl (hvQ rfl (vaQ rfl rfl rfl) (enQ 1 rfl ?_))))
    exact zci (i + 1) v14 (es ++ [(Le.mk ((((n.ss.getD i sq0).xs).getD 0 0) - n.fst) (i : Int))]) (tk.set (((((n.ss.getD i sq0).xs).getD 0 0) - n.fst).toNat) { tk.getD (((((n.ss.getD i sq0).xs).getD 0 0) - n.fst).toNat) bl0 with b := true }) ⟨by omega, by (try rw [List.length_append, List.length_singleton]); omega, by first | assumption | exact hle.app (leIn_mk (by omega)), by first | assumption | (rw [List.length_set]; assumption)⟩ (by omega) (saQ rfl) (slQ [2, 0, 0, 0] rfl)
   refine zam 1 rfl (zbr (zav (zal rfl (zfh (zav (zay (zam 1 rfl (hvQ rfl (zao (cs := [.int .i64 (-1), .int .i64 (i : Int)]) rfl rfl rfl rfl rfl (zaj 0 rfl 0 rfl)) ?_))))))))
   refine zdi rfl (zas (z := .agg #[.int .i64 0, .int .i64 0]) (s := 2) (cs := ([-1, (i : Int)].map (Value.int .i64))) rfl Try.underlying37 rfl (by decide) rfl (by kernel_rfl) rfl) ?_
   intro g15
   refine zcf (i := 4) (z := .agg #[.int .i64 0, .int .i64 0]) (bytes := 16) rfl rfl rfl rfl Try.underlying37 (by kernel_rfl) rfl rfl rfl rfl (zac 0 rfl) (zbm _) (by first | omega | (simp only [List.length_append, List.length_cons, List.length_nil]; omega)) (zbt es [(Le.mk (-1) (i : Int))]) (zcp leC es (Le.mk (-1) (i : Int)) _ rfl) (fun _ => rfl) ?_
   intro v16
   refine enQ 1 rfl (zco (reQ 1 rfl (hvQ rfl (vaQ rfl rfl rfl) (enQ 1 rfl ?_))))
   exact zci (i + 1) v16 (es ++ [(Le.mk (-1) (i : Int))]) tk ⟨by omega, by (try rw [List.length_append, List.length_singleton]); omega, by first | assumption | exact hle.app (leIn_mk (by omega)), by first | assumption | (rw [List.length_set]; assumption)⟩ (by omega) (saQ rfl) (slQ [2, 0, 0, 0] rfl)
  refine zam 14 rfl (?_)
  refine zbr (zav (zal rfl (zfh (zav (zay (zam 1 rfl (hvQ rfl (zao (cs := [.int .i64 (-1), .int .i64 (i : Int)]) rfl rfl rfl rfl rfl (zaj 0 rfl 0 rfl)) ?_)))))))
  refine zdi rfl (zas (z := .agg #[.int .i64 0, .int .i64 0]) (s := 2) (cs := ([-1, (i : Int)].map (Value.int .i64))) rfl Try.underlying37 rfl (by decide) rfl (by kernel_rfl) rfl) ?_
  intro g17
  refine zcf (i := 4) (z := .agg #[.int .i64 0, .int .i64 0]) (bytes := 16) rfl rfl rfl rfl Try.underlying37 (by kernel_rfl) rfl rfl rfl rfl (zac 0 rfl) (zbm _) (by first | omega | (simp only [List.length_append, List.length_cons, List.length_nil]; omega)) (zbt es [(Le.mk (-1) (i : Int))]) (zcp leC es (Le.mk (-1) (i : Int)) _ rfl) (fun _ => rfl) ?_
  intro v18
  refine enQ 1 rfl (zco (reQ 1 rfl (hvQ rfl (vaQ rfl rfl rfl) (enQ 1 rfl ?_))))
  exact zci (i + 1) v18 (es ++ [(Le.mk (-1) (i : Int))]) tk ⟨by omega, by (try rw [List.length_append, List.length_singleton]); omega, by first | assumption | exact hle.app (leIn_mk (by omega)), by first | assumption | (rw [List.length_set]; assumption)⟩ (by omega) (saQ rfl) (slQ [2, 0, 0, 0] rfl)
 refine ntQ (zal rfl ?_)
 refine zaz (zds ?_)
 refine zag (zav (zaa (zbd 1 rfl (zax ?_))))
 refine lkQ3 (α := Nat) (β := Value) (γ := List Le) [0, 1, 2, 4, 5, 21] rfl (fun k gv fs => [rowE 4 1 (.slice (some ⟨g6, 0, none⟩) ((List.replicate n.ls.length bl0).length) ((List.replicate n.ls.length bl0).length)) tk.length (tk.flatMap blC), rowE 3 1 v3 ((usK n).length) ((usK n).map (Value.int .i64)), rowE 70 2 gv fs.length (fs.flatMap leC), boxE b1 #[.int .i64 n.ins, n.sv, n.lv, n.ov] 30]) (fun k gv fs => [(3, gv), (9, .int .i64 (k : Int))]) (fun k gv fs => k ≤ n.ls.length ∧ fs.length ≤ n.ss.length + k ∧ LesIn n fs) (fun k gv fs => n.ls.length - k) 0 _ es ⟨Nat.zero_le _, by omega, hle⟩ (saQ rfl) (pfQ rfl) ?_
 intro k gv fs hi19
 obtain ⟨hk, hfl, hlf⟩ := hi19
 refine zaa (zaa (reQ 1 rfl (hvQ rfl (fdQ 2 rfl rfl rfl) (hvQ rfl (zaf rfl rfl rfl (zab 3 rfl rfl)) (hvQ rfl (lnQ rfl rfl rfl (zae ((hr).lt.row))) ?_)))))
 refine zbk rfl rfl rfl rfl rfl rfl (fun h20 => ?_) (fun h20 => ?_)
 ·
  refine ntQ (zak rfl (zcn (sbQ (zaa (reQ 2 rfl (hvQ rfl (riQ 1 rfl rfl rfl rfl (zac 0 rfl)) ?_))))))
  refine hvQ rfl (zar (u := .bool ((tk.getD k bl0).b)) rfl rfl rfl (zac 0 rfl) (zcr blC (fun r => .bool r.b) (fun _ => rfl) tk bl0 (show k < _ by omega))) (zbx (fun h21 => ?_) (fun h21 => ?_))
  ·
   refine zba 1 rfl (fsQ rfl (zco (reQ 1 rfl (hvQ rfl (vaQ rfl rfl rfl) (enQ 1 rfl ?_)))))
   exact zbh (k + 1) gv fs ⟨by omega, by (try rw [List.length_append, List.length_singleton]); omega, by first | assumption | exact hlf.app (leIn_mk (by omega))⟩ (by omega) (saQ rfl) (pfQ rfl)
  refine zam 1 rfl (zbr (zav (zak rfl (zay (zam 2 rfl (hvQ rfl (zcq (cs := #[.int .i64 (k : Int), .int .i64 (-1)]) rfl rfl rfl) ?_))))))
  refine zdi rfl (zas (z := .agg #[.int .i64 0, .int .i64 0]) (s := 2) (cs := ([(k : Int), -1].map (Value.int .i64))) rfl Try.underlying37 rfl (by decide) rfl (by kernel_rfl) rfl) ?_
  intro g22
  refine zcf (i := 3) (z := .agg #[.int .i64 0, .int .i64 0]) (bytes := 16) rfl rfl rfl rfl Try.underlying37 (by kernel_rfl) rfl rfl rfl rfl (zac 0 rfl) (zbm _) (by first | omega | (simp only [List.length_append, List.length_cons, List.length_nil]; omega)) (zbt fs [(Le.mk (k : Int) (-1))]) (zcp leC fs (Le.mk (k : Int) (-1)) _ rfl) (fun _ => rfl) ?_
  intro v23
  refine enQ 1 rfl (zco (reQ 1 rfl (hvQ rfl (vaQ rfl rfl rfl) (enQ 1 rfl ?_))))
  exact zbh (k + 1) v23 (fs ++ [(Le.mk (k : Int) (-1))]) ⟨by omega, by (try rw [List.length_append, List.length_singleton]); omega, by first | assumption | exact hlf.app (leIn_mk (by omega))⟩ (by omega) (saQ rfl) (slQ [1, 0, 0, 0] rfl)
 refine ntQ (zal rfl ?_)
 refine zaz (zds ?_)
 refine zag (zav (zbd 2 rfl ?_))
 exact zaw (zcz (post := [rowE 70 2 gv fs.length (fs.flatMap leC)]) rfl rfl (slQ [2] rfl) ⟨_, rfl, by assumption, by omega⟩)
theorem PackOk_ret (n : Ln) (bs : List Bk) (v : Value) (w : World) (hr : RdsLn w n) (hok : LnOk n) (hbk : RdsBk w v bs) (hel : ∀ k, k < bs.length → (bs.getD k bk0).es.length ≤ 100) :
   Calls Try.prog 37 #[.agg #[.int .i64 n.ins, n.sv, n.lv, n.ov], v] w (Ret w (fun u_ p_ => ∃ b : Bool, u_ = .bool b ∧ p_ = [] ∧ (b = true → bs.length ≤ 64 ∧ ∀ k, k < bs.length → BlP n (bs.getD k bk0)))) := by
 have hso := sml hr.ou
 have hss := hr.sq.small
 have hsl := hr.lt.small
 have hcnt : n.cnt = 1 + n.ins + n.ss.length + n.ls.length := rfl
 have hfst : n.fst = 1 + n.ins + n.ss.length := rfl
 obtain ⟨⟨si0, si1⟩, s2, s3, s4⟩ := hok.sz
 have hbs9 := sml hbk.row
 refine zbl (N := 141) (args := [.agg #[.int .i64 n.ins, n.sv, n.lv, n.ov], v]) Try.func37 rfl rfl (srQ ?_)
 refine zdt rfl (zcm rfl rfl) ?_
 intro b1
 refine zba 1 rfl (zfc (hvQ rfl (zao (cs := [.int .i64 n.ins, n.sv, n.lv, n.ov]) rfl rfl rfl rfl rfl (zaj 0 rfl 0 rfl)) ?_))
 refine zdp rfl (zan rfl rfl (fun w hm => zau (by have h9 := zfz n w (hr.below hm.bel); rw [zed hok] at h9; exact h9))) (zam 3 rfl (hvQ rfl (lnQ rfl rfl rfl (zae hbk.row)) ?_))
 refine zff rfl rfl rfl rfl rfl rfl (fun h2 => ?_) (fun h2 => ?_)
 ·
  refine zba 1 rfl (zak rfl (zbd 1 rfl ?_))
  refine zaw (zap ?_)
  exact zdb (rs := [.tmp 4]) (vs := [.bool false]) (post := []) rfl ⟨rfl, trivial⟩ rfl (slQ [] rfl) ⟨_, rfl, rfl, fun h => by cases h⟩
 refine zba 1 rfl (zal rfl (zcn (srQ (hvQ rfl (fdQ 0 rfl rfl rfl) (hvQ rfl (zaf rfl rfl rfl (zab 0 rfl rfl)) ?_)))))
 refine zdi rfl (zej (z := .int .i64 0) (s := 1) (bytes := 8) (n := (List.replicate (n.ins).toNat (0 : Int)).length) (cs := ((List.replicate (n.ins).toNat (0 : Int)).map (Value.int .i64))) rfl Try.underlying28 rfl (by decide) rfl rfl (by first | (rw [List.length_replicate]; done) | (rw [List.length_replicate]; omega)) (by first | (rw [List.length_replicate]; done) | (rw [List.length_replicate]; omega)) (by rw [List.length_replicate]; omega) (zez _)) ?_
 intro g3
 refine zba 1 rfl (srQ (hvQ rfl (fdQ 3 rfl rfl rfl) (hvQ rfl (zaf rfl rfl rfl (zab 1 rfl rfl)) (hvQ rfl (lnQ rfl rfl rfl (zae ((hr).ou))) ?_))))
 refine zdi rfl (zej (z := .int .i64 0) (s := 1) (bytes := 8) (n := (List.replicate n.os.length (0 : Int)).length) (cs := ((List.replicate n.os.length (0 : Int)).map (Value.int .i64))) rfl Try.underlying28 rfl (by decide) rfl rfl (by first | (rw [List.length_replicate]; done) | (rw [List.length_replicate]; omega)) (by first | (rw [List.length_replicate]; done) | (rw [List.length_replicate]; omega)) (by rw [List.length_replicate]; omega) (zez _)) ?_
 intro g4
 refine zba 1 rfl (srQ (hvQ rfl (fdQ 1 rfl rfl rfl) (hvQ rfl (zaf rfl rfl rfl (zab 2 rfl rfl)) (hvQ rfl (lnQ rfl rfl rfl (zae ((hr).sq.row))) ?_))))
 refine zdi rfl (zej (z := .int .i64 0) (s := 1) (bytes := 8) (n := (List.replicate n.ss.length (0 : Int)).length) (cs := ((List.replicate n.ss.length (0 : Int)).map (Value.int .i64))) rfl Try.underlying28 rfl (by decide) rfl rfl (by first | (rw [List.length_replicate]; done) | (rw [List.length_replicate]; omega)) (by first | (rw [List.length_replicate]; done) | (rw [List.length_replicate]; omega)) (by rw [List.length_replicate]; omega) (zez _)) ?_
 intro g5
 refine zba 1 rfl (srQ (hvQ rfl (fdQ 2 rfl rfl rfl) (hvQ rfl (zaf rfl rfl rfl (zab 3 rfl rfl)) (hvQ rfl (lnQ rfl rfl rfl (zae ((hr).lt.row))) ?_))))
 refine zdi rfl (zej (z := .int .i64 0) (s := 1) (bytes := 8) (n := (List.replicate n.ls.length (0 : Int)).length) (cs := ((List.replicate n.ls.length (0 : Int)).map (Value.int .i64))) rfl Try.underlying28 rfl (by decide) rfl rfl (by first | (rw [List.length_replicate]; done) | (rw [List.length_replicate]; omega)) (by first | (rw [List.length_replicate]; done) | (rw [List.length_replicate]; omega)) (by rw [List.length_replicate]; omega) (zez _)) ?_
 intro g6
 refine zba 1 rfl (zaa (zbd 1 rfl (zax ?_)))
 refine lkQ2 (α := Nat) (β := List Int × List Int × List Int × List Int) [0, 1, 2, 4, 5, 6, 7, 8, 21] rfl (fun i Z => [rowE 3 1 (.slice (some ⟨g6, 0, none⟩) ((List.replicate n.ls.length (0 : Int)).length) ((List.replicate n.ls.length (0 : Int)).length)) Z.2.2.2.length (Z.2.2.2.map (Value.int .i64)), rowE 3 1 (.slice (some ⟨g5, 0, none⟩) ((List.replicate n.ss.length (0 : Int)).length) ((List.replicate n.ss.length (0 : Int)).length)) Z.2.2.1.length (Z.2.2.1.map (Value.int .i64)), rowE 3 1 (.slice (some ⟨g4, 0, none⟩) ((List.replicate n.os.length (0 : Int)).length) ((List.replicate n.os.length (0 : Int)).length)) Z.2.1.length (Z.2.1.map (Value.int .i64)), rowE 3 1 (.slice (some ⟨g3, 0, none⟩) ((List.replicate (n.ins).toNat (0 : Int)).length) ((List.replicate (n.ins).toNat (0 : Int)).length)) Z.1.length (Z.1.map (Value.int .i64)), boxE b1 #[.int .i64 n.ins, n.sv, n.lv, n.ov] 30]) (fun i Z => [(9, .int .i64 (i : Int))]) (fun i Z => i ≤ bs.length ∧ (∀ q, q < i → BlP n (bs.getD q bk0)) ∧ Z.1.length = n.ins.toNat ∧ Z.2.1.length = n.os.length ∧ Z.2.2.1.length = n.ss.length ∧ Z.2.2.2.length = n.ls.length ∧ CntB Z.1 (10 * i) ∧ CntB Z.2.1 (10 * i) ∧ CntB Z.2.2.1 (10 * i) ∧ CntB Z.2.2.2 (10 * i)) (fun i Z => bs.length - i) 0 (List.replicate n.ins.toNat 0, List.replicate n.os.length 0, List.replicate n.ss.length 0, List.replicate n.ls.length 0) ⟨Nat.zero_le _, fun q hq => absurd hq (by omega), List.length_replicate, List.length_replicate, List.length_replicate, List.length_replicate, cntB_rep _ _, cntB_rep _ _, cntB_rep _ _, cntB_rep _ _⟩ (saQ rfl) (pfQ rfl) ?_
 intro i Z hi7
 obtain ⟨hi, hall, hz1, hz2, hz3, hz4, hc1, hc2, hc3, hc4⟩ := hi7
 refine zaa (zaa (reQ 2 rfl (hvQ rfl (lnQ rfl rfl rfl (zae hbk.row)) ?_)))
 refine zbk rfl rfl rfl rfl rfl rfl (fun h8 => ?_) (fun h8 => ?_)
 ·
  refine ntQ (zak rfl (zcn (sbQ (zaa (reQ 2 rfl (hvQ rfl (riQ 3 rfl rfl rfl rfl (zae hbk.row)) ?_))))))
  refine hvQ rfl (zcg (us := [.int .i64 ((bs.getD i bk0).kd), .int .i64 ((bs.getD i bk0).it), (bs.getD i bk0).bv]) rfl rfl rfl rfl (zae hbk.row) (by omega) rfl (zcw bkC 3 (fun _ => rfl) bs bk0 (show i < _ by omega) rfl)) (zdt rfl (zbw (z := .agg #[.int .i64 0, .int .i64 0, .slice none 0 0]) rfl rfl) ?_)
  intro b9
  refine zcd (cs' := #[.int .i64 ((bs.getD i bk0).kd), .int .i64 ((bs.getD i bk0).it), (bs.getD i bk0).bv]) (i := 0) (off := 0) (us := [.int .i64 ((bs.getD i bk0).kd), .int .i64 ((bs.getD i bk0).it), (bs.getD i bk0).bv]) rfl rfl rfl rfl rfl rfl rfl (zah rfl (zah rfl (zah (hbk.at (k := i) (by omega)).one zbp))) rfl rfl rfl (ntQ (zfc (hvQ rfl (zao (cs := [.int .i64 n.ins, n.sv, n.lv, n.ov]) rfl rfl rfl rfl rfl (zaj 5 rfl 0 rfl)) (hvQ rfl (zao (cs := [.int .i64 ((bs.getD i bk0).kd), .int .i64 ((bs.getD i bk0).it), (bs.getD i bk0).bv]) rfl rfl rfl rfl rfl (zaj 0 rfl 0 rfl)) ?_))))
  refine zdp rfl (zan rfl rfl (fun w hm => zau (BlockOk_ans n (bs.getD i bk0) w (hr.below hm.bel) hok ((hbk.at (k := i) (by omega)).below hm.bel) (hel i (by omega))))) (zbx (fun h10 => ?_) (fun h10 => ?_))
  ·
   have h10p := of_pB h10
   refine zba 1 rfl (zal rfl (zcn (zfc ?_)))
   have hbp : BlP n (bs.getD i bk0) := by assumption
   obtain ⟨hg0, hg1, hg2, hg3, hg4⟩ := hbp.rng
   have hq0 := hc1 (bs.getD i bk0).it.toNat
   have hq1 := hc2 (bs.getD i bk0).it.toNat
   have hq2 := hc3 (bs.getD i bk0).it.toNat
   refine hvQ rfl (fdQ 0 rfl rfl rfl) (hvQ rfl (zaf rfl rfl rfl (zab 0 rfl rfl)) (ntQ (zax (srQ ?_))))
   refine zby rfl rfl rfl rfl rfl rfl (fun h11 => ?_) (fun h11 => ?_)
   ·
    refine zba 1 rfl (zak rfl (reQ 1 rfl (hvQ rfl (fdQ 1 rfl rfl rfl) (hvQ rfl (zaf rfl rfl rfl (zab 0 rfl rfl)) (hvQ rfl (riQ 1 rfl rfl rfl rfl (zac 4 rfl)) (hvQ rfl (lzQ rfl rfl rfl (zac 4 rfl)) (hvQ rfl (vaQ rfl rfl rfl) (hvQ rfl (riQ 1 rfl rfl rfl rfl (zac 4 rfl)) ?_))))))))
    refine zcu (i := 4) (n' := (Z.1.set (((bs.getD i bk0).it).toNat) ((Z.1.getD (((bs.getD i bk0).it).toNat) 0) + 1)).length) (xs' := ((Z.1.set (((bs.getD i bk0).it).toNat) ((Z.1.getD (((bs.getD i bk0).it).toNat) 0) + 1)).map (Value.int .i64))) rfl rfl rfl rfl rfl rfl rfl rfl (by first | omega | (simp only [List.length_set]; omega)) List.length_set.symm (zcv _ _ _) rfl (zbr (zco (zbd 1 rfl (zax ?_))))
    refine lkQ2 (α := Nat) (β := List Int × List Int) [0, 1, 2, 4, 5, 6, 7, 8, 9, 10, 21, 40, 50, 52, 53] rfl (fun k Y => [boxE b9 #[.int .i64 ((bs.getD i bk0).kd), .int .i64 ((bs.getD i bk0).it), (bs.getD i bk0).bv] 39, rowE 3 1 (.slice (some ⟨g6, 0, none⟩) ((List.replicate n.ls.length (0 : Int)).length) ((List.replicate n.ls.length (0 : Int)).length)) Y.2.length (Y.2.map (Value.int .i64)), rowE 3 1 (.slice (some ⟨g5, 0, none⟩) ((List.replicate n.ss.length (0 : Int)).length) ((List.replicate n.ss.length (0 : Int)).length)) Y.1.length (Y.1.map (Value.int .i64)), rowE 3 1 (.slice (some ⟨g4, 0, none⟩) ((List.replicate n.os.length (0 : Int)).length) ((List.replicate n.os.length (0 : Int)).length)) Z.2.1.length (Z.2.1.map (Value.int .i64)), rowE 3 1 (.slice (some ⟨g3, 0, none⟩) ((List.replicate (n.ins).toNat (0 : Int)).length) ((List.replicate (n.ins).toNat (0 : Int)).length)) ((Z.1.set (((bs.getD i bk0).it).toNat) ((Z.1.getD (((bs.getD i bk0).it).toNat) 0) + 1)).length) ((Z.1.set (((bs.getD i bk0).it).toNat) ((Z.1.getD (((bs.getD i bk0).it).toNat) 0) + 1)).map (Value.int .i64)), boxE b1 #[.int .i64 n.ins, n.sv, n.lv, n.ov] 30]) (fun k Y => [(11, .int .i64 (k : Int))]) (fun k Y => k ≤ (bs.getD i bk0).es.length ∧ Y.1.length = n.ss.length ∧ Y.2.length = n.ls.length ∧ CntB Y.1 (10 * i + 2 + k) ∧ CntB Y.2 (10 * i + 2 + k)) (fun k Y => (bs.getD i bk0).es.length - k) 0 (Z.2.2.1, Z.2.2.2) ⟨Nat.zero_le _, by first | assumption | (rw [List.length_set]; assumption), by first | assumption | (rw [List.length_set]; assumption), by first | assumption | exact zbc (by assumption) (by omega) | exact zbc (zbq (by assumption)) (by omega), by first | assumption | exact zbc (by assumption) (by omega) | exact zbc (zbq (by assumption)) (by omega)⟩ (saQ rfl) (pfQ rfl) ?_
    intro k Y hi12
    obtain ⟨hk, hy1, hy2, hd1, hd2⟩ := hi12
    refine zaa (zaa (reQ 1 rfl (hvQ rfl (fdQ 2 rfl rfl rfl) (hvQ rfl (zaf rfl rfl rfl (zab 0 rfl rfl)) (hvQ rfl (lnQ rfl rfl rfl (zae (hbk.at (k := i) (by omega)))) ?_)))))
    refine zbk rfl rfl rfl rfl rfl rfl (fun h13 => ?_) (fun h13 => ?_)
    ·
     refine ntQ (zak rfl (zcn (sbQ (zfc ?_))))
     have hg5 := hg4 k (by omega)
     obtain ⟨⟨ga, gb⟩, ⟨gc, gd⟩, ge⟩ := hg5
     have hr1 := hd1 ((bs.getD i bk0).es.getD k le0).f.toNat
     have hr2 := hd2 ((bs.getD i bk0).es.getD k le0).u.toNat
     refine hvQ rfl (fdQ 2 rfl rfl rfl) (hvQ rfl (zaf rfl rfl rfl (zab 0 rfl rfl)) (zam 1 rfl (hvQ rfl (riQ 2 rfl rfl rfl rfl (zae (hbk.at (k := i) (by omega)))) (hvQ rfl (zbb (k0 := 0) rfl rfl rfl (zae (hbk.at (k := i) (by omega))) (by omega)) ?_))))
     refine hvQ rfl (zar (u := .int .i64 ((((bs.getD i bk0).es).getD k le0).u)) rfl rfl rfl (zae (hbk.at (k := i) (by omega))) ((zbv leC 2 (fun _ => rfl) ((bs.getD i bk0).es) le0 (show k < _ by omega) (by decide)).trans rfl)) (zdo rfl rfl rfl rfl rfl rfl (fun h14 => ?_) (fun h14 => ?_))
     ·
      refine ntQ (zak rfl (reQ 1 rfl (hvQ rfl (fdQ 2 rfl rfl rfl) (hvQ rfl (zaf rfl rfl rfl (zab 0 rfl rfl)) (zam 1 rfl (hvQ rfl (riQ 2 rfl rfl rfl rfl (zae (hbk.at (k := i) (by omega)))) (hvQ rfl (zbb (k0 := 0) rfl rfl rfl (zae (hbk.at (k := i) (by omega))) (by omega)) ?_)))))))
      refine hvQ rfl (zar (u := .int .i64 ((((bs.getD i bk0).es).getD k le0).u)) rfl rfl rfl (zae (hbk.at (k := i) (by omega))) ((zbv leC 2 (fun _ => rfl) ((bs.getD i bk0).es) le0 (show k < _ by omega) (by decide)).trans rfl)) (hvQ rfl (riQ 1 rfl rfl rfl rfl (zac 1 rfl)) (hvQ rfl (lzQ rfl rfl rfl (zac 1 rfl)) (hvQ rfl (vaQ rfl rfl rfl) (hvQ rfl (riQ 1 rfl rfl rfl rfl (zac 1 rfl)) ?_))))
      refine zcu (i := 1) (n' := (Y.2.set (((((bs.getD i bk0).es).getD k le0).u).toNat) ((Y.2.getD (((((bs.getD i bk0).es).getD k le0).u).toNat) 0) + 1)).length) (xs' := ((Y.2.set (((((bs.getD i bk0).es).getD k le0).u).toNat) ((Y.2.getD (((((bs.getD i bk0).es).getD k le0).u).toNat) 0) + 1)).map (Value.int .i64))) rfl rfl rfl rfl rfl rfl rfl rfl (by first | omega | (simp only [List.length_set]; omega)) List.length_set.symm (zcv _ _ _) rfl (ntQ (srQ (hvQ rfl (fdQ 2 rfl rfl rfl) (hvQ rfl (zaf rfl rfl rfl (zab 0 rfl rfl)) (zam 1 rfl (hvQ rfl (riQ 2 rfl rfl rfl rfl (zae (hbk.at (k := i) (by omega)))) (hvQ rfl (zbb (k0 := 1) rfl rfl rfl (zae (hbk.at (k := i) (by omega))) (by omega)) ?_)))))))
      refine hvQ rfl (zar (u := .int .i64 ((((bs.getD i bk0).es).getD k le0).f)) rfl rfl rfl (zae (hbk.at (k := i) (by omega))) ((zbv leC 2 (fun _ => rfl) ((bs.getD i bk0).es) le0 (show k < _ by omega) (by decide)).trans rfl)) (zdo rfl rfl rfl rfl rfl rfl (fun h15 => ?_) (fun h15 => ?_))
      ·
       refine ntQ (zak rfl (reQ 1 rfl (hvQ rfl (fdQ 2 rfl rfl rfl) (hvQ rfl (zaf rfl rfl rfl (zab 0 rfl rfl)) (zam 1 rfl (hvQ rfl (riQ 2 rfl rfl rfl rfl (zae (hbk.at (k := i) (by omega)))) (hvQ rfl (zbb (k0 := 1) rfl rfl rfl (zae (hbk.at (k := i) (by omega))) (by omega)) ?_)))))))
       refine hvQ rfl (zar (u := .int .i64 ((((bs.getD i bk0).es).getD k le0).f)) rfl rfl rfl (zae (hbk.at (k := i) (by omega))) ((zbv leC 2 (fun _ => rfl) ((bs.getD i bk0).es) le0 (show k < _ by omega) (by decide)).trans rfl)) (hvQ rfl (riQ 1 rfl rfl rfl rfl (zac 2 rfl)) (hvQ rfl (lzQ rfl rfl rfl (zac 2 rfl)) (hvQ rfl (vaQ rfl rfl rfl) (hvQ rfl (riQ 1 rfl rfl rfl rfl (zac 2 rfl)) ?_))))
       refine zcu (i := 2) (n' := (Y.1.set (((((bs.getD i bk0).es).getD k le0).f).toNat) ((Y.1.getD (((((bs.getD i bk0).es).getD k le0).f).toNat) 0) + 1)).length) (xs' := ((Y.1.set (((((bs.getD i bk0).es).getD k le0).f).toNat) ((Y.1.getD (((((bs.getD i bk0).es).getD k le0).f).toNat) 0) + 1)).map (Value.int .i64))) rfl rfl rfl rfl rfl rfl rfl rfl (by first | omega | (simp only [List.length_set]; omega)) List.length_set.symm (zcv _ _ _) rfl (zbr (zco (reQ 1 rfl (hvQ rfl (vaQ rfl rfl rfl) (enQ 1 rfl ?_)))))
       exact zbg (k + 1) ((Y.1.set (((((bs.getD i bk0).es).getD k le0).f).toNat) ((Y.1.getD (((((bs.getD i bk0).es).getD k le0).f).toNat) 0) + 1)), (Y.2.set (((((bs.getD i bk0).es).getD k le0).u).toNat) ((Y.2.getD (((((bs.getD i bk0).es).getD k le0).u).toNat) 0) + 1))) ⟨by omega, by first | assumption | (rw [List.length_set]; assumption), by first | assumption | (rw [List.length_set]; assumption), by first | assumption | exact zbc (by assumption) (by omega) | exact zbc (zbq (by assumption)) (by omega), by first | assumption | exact zbc (by assumption) (by omega) | exact zbc (zbq (by assumption)) (by omega)⟩ (by omega) (saQ rfl) (pfQ rfl)
      refine ntQ (fsQ rfl (zco (reQ 1 rfl (hvQ rfl (vaQ rfl rfl rfl) (enQ 1 rfl ?_)))))
      exact zbg (k + 1) (Y.1, (Y.2.set (((((bs.getD i bk0).es).getD k le0).u).toNat) ((Y.2.getD (((((bs.getD i bk0).es).getD k le0).u).toNat) 0) + 1))) ⟨by omega, by first | assumption | (rw [List.length_set]; assumption), by first | assumption | (rw [List.length_set]; assumption), by first | assumption | exact zbc (by assumption) (by omega) | exact zbc (zbq (by assumption)) (by omega), by first | assumption | exact zbc (by assumption) (by omega) | exact zbc (zbq (by assumption)) (by omega)⟩ (by omega) (saQ rfl) (pfQ rfl)
     refine ntQ (zal rfl (zcn (srQ (hvQ rfl (fdQ 2 rfl rfl rfl) (hvQ rfl (zaf rfl rfl rfl (zab 0 rfl rfl)) (zam 1 rfl (hvQ rfl (riQ 2 rfl rfl rfl rfl (zae (hbk.at (k := i) (by omega)))) (hvQ rfl (zbb (k0 := 1) rfl rfl rfl (zae (hbk.at (k := i) (by omega))) (by omega)) ?_))))))))
     refine hvQ rfl (zar (u := .int .i64 ((((bs.getD i bk0).es).getD k le0).f)) rfl rfl rfl (zae (hbk.at (k := i) (by omega))) ((zbv leC 2 (fun _ => rfl) ((bs.getD i bk0).es) le0 (show k < _ by omega) (by decide)).trans rfl)) (zdo rfl rfl rfl rfl rfl rfl (fun h16 => ?_) (fun h16 => ?_))
     ·
      refine ntQ (zak rfl (reQ 1 rfl (hvQ rfl (fdQ 2 rfl rfl rfl) (hvQ rfl (zaf rfl rfl rfl (zab 0 rfl rfl)) (zam 1 rfl (hvQ rfl (riQ 2 rfl rfl rfl rfl (zae (hbk.at (k := i) (by omega)))) (hvQ rfl (zbb (k0 := 1) rfl rfl rfl (zae (hbk.at (k := i) (by omega))) (by omega)) ?_)))))))
      refine hvQ rfl (zar (u := .int .i64 ((((bs.getD i bk0).es).getD k le0).f)) rfl rfl rfl (zae (hbk.at (k := i) (by omega))) ((zbv leC 2 (fun _ => rfl) ((bs.getD i bk0).es) le0 (show k < _ by omega) (by decide)).trans rfl)) (hvQ rfl (riQ 1 rfl rfl rfl rfl (zac 2 rfl)) (hvQ rfl (lzQ rfl rfl rfl (zac 2 rfl)) (hvQ rfl (vaQ rfl rfl rfl) (hvQ rfl (riQ 1 rfl rfl rfl rfl (zac 2 rfl)) ?_))))
      refine zcu (i := 2) (n' := (Y.1.set (((((bs.getD i bk0).es).getD k le0).f).toNat) ((Y.1.getD (((((bs.getD i bk0).es).getD k le0).f).toNat) 0) + 1)).length) (xs' := ((Y.1.set (((((bs.getD i bk0).es).getD k le0).f).toNat) ((Y.1.getD (((((bs.getD i bk0).es).getD k le0).f).toNat) 0) + 1)).map (Value.int .i64))) rfl rfl rfl rfl rfl rfl rfl rfl (by first | omega | (simp only [List.length_set]; omega)) List.length_set.symm (zcv _ _ _) rfl (zbr (zco (reQ 1 rfl (hvQ rfl (vaQ rfl rfl rfl) (enQ 1 rfl ?_)))))
      exact zbg (k + 1) ((Y.1.set (((((bs.getD i bk0).es).getD k le0).f).toNat) ((Y.1.getD (((((bs.getD i bk0).es).getD k le0).f).toNat) 0) + 1)), Y.2) ⟨by omega, by first | assumption | (rw [List.length_set]; assumption), by first | assumption | (rw [List.length_set]; assumption), by first | assumption | exact zbc (by assumption) (by omega) | exact zbc (zbq (by assumption)) (by omega), by first | assumption | exact zbc (by assumption) (by omega) | exact zbc (zbq (by assumption)) (by omega)⟩ (by omega) (saQ rfl) (pfQ rfl)
     refine ntQ (fsQ rfl (zco (reQ 1 rfl (hvQ rfl (vaQ rfl rfl rfl) (enQ 1 rfl ?_)))))
     exact zbg (k + 1) (Y.1, Y.2) ⟨by omega, by first | assumption | (rw [List.length_set]; assumption), by first | assumption | (rw [List.length_set]; assumption), by first | assumption | exact zbc (by assumption) (by omega) | exact zbc (zbq (by assumption)) (by omega), by first | assumption | exact zbc (by assumption) (by omega) | exact zbc (zbq (by assumption)) (by omega)⟩ (by omega) (saQ rfl) (pfQ rfl)
    refine ntQ (zal rfl ?_)
    refine zaz (zds ?_)
    refine zag (zco (reQ 1 rfl (hvQ rfl (vaQ rfl rfl rfl) (enQ 1 rfl ?_))))
    exact zbg (i + 1) ((Z.1.set (((bs.getD i bk0).it).toNat) ((Z.1.getD (((bs.getD i bk0).it).toNat) 0) + 1)), Z.2.1, Y.1, Y.2) ⟨by omega, fun q hq => by by_cases e : q = i; (subst e; assumption); exact hall q (by omega), by first | assumption | (rw [List.length_set]; assumption), by first | assumption | (rw [List.length_set]; assumption), by first | assumption | (rw [List.length_set]; assumption), by first | assumption | (rw [List.length_set]; assumption), by first | assumption | exact zbc (by assumption) (by omega) | exact zbc (zbq (by assumption)) (by omega), by first | assumption | exact zbc (by assumption) (by omega) | exact zbc (zbq (by assumption)) (by omega), by first | assumption | exact zbc (by assumption) (by omega) | exact zbc (zbq (by assumption)) (by omega), by first | assumption | exact zbc (by assumption) (by omega) | exact zbc (zbq (by assumption)) (by omega)⟩ (by omega) (saQ rfl) (slQ [1, 0, 0, 0, 0] rfl)
   refine zba 1 rfl (zal rfl (srQ ?_))
   refine zby rfl rfl rfl rfl rfl rfl (fun h17 => ?_) (fun h17 => ?_)
   ·
    refine zba 1 rfl (zak rfl (reQ 1 rfl (hvQ rfl (fdQ 1 rfl rfl rfl) (hvQ rfl (zaf rfl rfl rfl (zab 0 rfl rfl)) (hvQ rfl (riQ 1 rfl rfl rfl rfl (zac 3 rfl)) (hvQ rfl (lzQ rfl rfl rfl (zac 3 rfl)) (hvQ rfl (vaQ rfl rfl rfl) (hvQ rfl (riQ 1 rfl rfl rfl rfl (zac 3 rfl)) ?_))))))))
    refine zcu (i := 3) (n' := (Z.2.1.set (((bs.getD i bk0).it).toNat) ((Z.2.1.getD (((bs.getD i bk0).it).toNat) 0) + 1)).length) (xs' := ((Z.2.1.set (((bs.getD i bk0).it).toNat) ((Z.2.1.getD (((bs.getD i bk0).it).toNat) 0) + 1)).map (Value.int .i64))) rfl rfl rfl rfl rfl rfl rfl rfl (by first | omega | (simp only [List.length_set]; omega)) List.length_set.symm (zcv _ _ _) rfl (zbr (zco (zbd 1 rfl (zax ?_))))
    refine lkQ2 (α := Nat) (β := List Int × List Int) [0, 1, 2, 4, 5, 6, 7, 8, 9, 10, 21, 40, 50, 52, 53, 62] rfl (fun k Y => [boxE b9 #[.int .i64 ((bs.getD i bk0).kd), .int .i64 ((bs.getD i bk0).it), (bs.getD i bk0).bv] 39, rowE 3 1 (.slice (some ⟨g6, 0, none⟩) ((List.replicate n.ls.length (0 : Int)).length) ((List.replicate n.ls.length (0 : Int)).length)) Y.2.length (Y.2.map (Value.int .i64)), rowE 3 1 (.slice (some ⟨g5, 0, none⟩) ((List.replicate n.ss.length (0 : Int)).length) ((List.replicate n.ss.length (0 : Int)).length)) Y.1.length (Y.1.map (Value.int .i64)), rowE 3 1 (.slice (some ⟨g4, 0, none⟩) ((List.replicate n.os.length (0 : Int)).length) ((List.replicate n.os.length (0 : Int)).length)) ((Z.2.1.set (((bs.getD i bk0).it).toNat) ((Z.2.1.getD (((bs.getD i bk0).it).toNat) 0) + 1)).length) ((Z.2.1.set (((bs.getD i bk0).it).toNat) ((Z.2.1.getD (((bs.getD i bk0).it).toNat) 0) + 1)).map (Value.int .i64)), rowE 3 1 (.slice (some ⟨g3, 0, none⟩) ((List.replicate (n.ins).toNat (0 : Int)).length) ((List.replicate (n.ins).toNat (0 : Int)).length)) Z.1.length (Z.1.map (Value.int .i64)), boxE b1 #[.int .i64 n.ins, n.sv, n.lv, n.ov] 30]) (fun k Y => [(11, .int .i64 (k : Int))]) (fun k Y => k ≤ (bs.getD i bk0).es.length ∧ Y.1.length = n.ss.length ∧ Y.2.length = n.ls.length ∧ CntB Y.1 (10 * i + 2 + k) ∧ CntB Y.2 (10 * i + 2 + k)) (fun k Y => (bs.getD i bk0).es.length - k) 0 (Z.2.2.1, Z.2.2.2) ⟨Nat.zero_le _, by first | assumption | (rw [List.length_set]; assumption), by first | assumption | (rw [List.length_set]; assumption), by first | assumption | exact zbc (by assumption) (by omega) | exact zbc (zbq (by assumption)) (by omega), by first | assumption | exact zbc (by assumption) (by omega) | exact zbc (zbq (by assumption)) (by omega)⟩ (saQ rfl) (pfQ rfl) ?_
    intro k Y hi18
    obtain ⟨hk, hy1, hy2, hd1, hd2⟩ := hi18
    refine zaa (zaa (reQ 1 rfl (hvQ rfl (fdQ 2 rfl rfl rfl) (hvQ rfl (zaf rfl rfl rfl (zab 0 rfl rfl)) (hvQ rfl (lnQ rfl rfl rfl (zae (hbk.at (k := i) (by omega)))) ?_)))))
    refine zbk rfl rfl rfl rfl rfl rfl (fun h19 => ?_) (fun h19 => ?_)
    ·
     refine ntQ (zak rfl (zcn (sbQ (zfc ?_))))
     have hg5 := hg4 k (by omega)
     obtain ⟨⟨ga, gb⟩, ⟨gc, gd⟩, ge⟩ := hg5
     have hr1 := hd1 ((bs.getD i bk0).es.getD k le0).f.toNat
     have hr2 := hd2 ((bs.getD i bk0).es.getD k le0).u.toNat
     refine hvQ rfl (fdQ 2 rfl rfl rfl) (hvQ rfl (zaf rfl rfl rfl (zab 0 rfl rfl)) (zam 1 rfl (hvQ rfl (riQ 2 rfl rfl rfl rfl (zae (hbk.at (k := i) (by omega)))) (hvQ rfl (zbb (k0 := 0) rfl rfl rfl (zae (hbk.at (k := i) (by omega))) (by omega)) ?_))))
     refine hvQ rfl (zar (u := .int .i64 ((((bs.getD i bk0).es).getD k le0).u)) rfl rfl rfl (zae (hbk.at (k := i) (by omega))) ((zbv leC 2 (fun _ => rfl) ((bs.getD i bk0).es) le0 (show k < _ by omega) (by decide)).trans rfl)) (zdo rfl rfl rfl rfl rfl rfl (fun h20 => ?_) (fun h20 => ?_))
     ·
      refine ntQ (zak rfl (reQ 1 rfl (hvQ rfl (fdQ 2 rfl rfl rfl) (hvQ rfl (zaf rfl rfl rfl (zab 0 rfl rfl)) (zam 1 rfl (hvQ rfl (riQ 2 rfl rfl rfl rfl (zae (hbk.at (k := i) (by omega)))) (hvQ rfl (zbb (k0 := 0) rfl rfl rfl (zae (hbk.at (k := i) (by omega))) (by omega)) ?_)))))))
      refine hvQ rfl (zar (u := .int .i64 ((((bs.getD i bk0).es).getD k le0).u)) rfl rfl rfl (zae (hbk.at (k := i) (by omega))) ((zbv leC 2 (fun _ => rfl) ((bs.getD i bk0).es) le0 (show k < _ by omega) (by decide)).trans rfl)) (hvQ rfl (riQ 1 rfl rfl rfl rfl (zac 1 rfl)) (hvQ rfl (lzQ rfl rfl rfl (zac 1 rfl)) (hvQ rfl (vaQ rfl rfl rfl) (hvQ rfl (riQ 1 rfl rfl rfl rfl (zac 1 rfl)) ?_))))
      refine zcu (i := 1) (n' := (Y.2.set (((((bs.getD i bk0).es).getD k le0).u).toNat) ((Y.2.getD (((((bs.getD i bk0).es).getD k le0).u).toNat) 0) + 1)).length) (xs' := ((Y.2.set (((((bs.getD i bk0).es).getD k le0).u).toNat) ((Y.2.getD (((((bs.getD i bk0).es).getD k le0).u).toNat) 0) + 1)).map (Value.int .i64))) rfl rfl rfl rfl rfl rfl rfl rfl (by first | omega | (simp only [List.length_set]; omega)) List.length_set.symm (zcv _ _ _) rfl (ntQ (srQ (hvQ rfl (fdQ 2 rfl rfl rfl) (hvQ rfl (zaf rfl rfl rfl (zab 0 rfl rfl)) (zam 1 rfl (hvQ rfl (riQ 2 rfl rfl rfl rfl (zae (hbk.at (k := i) (by omega)))) (hvQ rfl (zbb (k0 := 1) rfl rfl rfl (zae (hbk.at (k := i) (by omega))) (by omega)) ?_)))))))
      refine hvQ rfl (zar (u := .int .i64 ((((bs.getD i bk0).es).getD k le0).f)) rfl rfl rfl (zae (hbk.at (k := i) (by omega))) ((zbv leC 2 (fun _ => rfl) ((bs.getD i bk0).es) le0 (show k < _ by omega) (by decide)).trans rfl)) (zdo rfl rfl rfl rfl rfl rfl (fun h21 => ?_) (fun h21 => ?_))
      ·
       refine ntQ (zak rfl (reQ 1 rfl (hvQ rfl (fdQ 2 rfl rfl rfl) (hvQ rfl (zaf rfl rfl rfl (zab 0 rfl rfl)) (zam 1 rfl (hvQ rfl (riQ 2 rfl rfl rfl rfl (zae (hbk.at (k := i) (by omega)))) (hvQ rfl (zbb (k0 := 1) rfl rfl rfl (zae (hbk.at (k := i) (by omega))) (by omega)) ?_)))))))
       refine hvQ rfl (zar (u := .int .i64 ((((bs.getD i bk0).es).getD k le0).f)) rfl rfl rfl (zae (hbk.at (k := i) (by omega))) ((zbv leC 2 (fun _ => rfl) ((bs.getD i bk0).es) le0 (show k < _ by omega) (by decide)).trans rfl)) (hvQ rfl (riQ 1 rfl rfl rfl rfl (zac 2 rfl)) (hvQ rfl (lzQ rfl rfl rfl (zac 2 rfl)) (hvQ rfl (vaQ rfl rfl rfl) (hvQ rfl (riQ 1 rfl rfl rfl rfl (zac 2 rfl)) ?_))))
       refine zcu (i := 2) (n' := (Y.1.set (((((bs.getD i bk0).es).getD k le0).f).toNat) ((Y.1.getD (((((bs.getD i bk0).es).getD k le0).f).toNat) 0) + 1)).length) (xs' := ((Y.1.set (((((bs.getD i bk0).es).getD k le0).f).toNat) ((Y.1.getD (((((bs.getD i bk0).es).getD k le0).f).toNat) 0) + 1)).map (Value.int .i64))) rfl rfl rfl rfl rfl rfl rfl rfl (by first | omega | (simp only [List.length_set]; omega)) List.length_set.symm (zcv _ _ _) rfl (zbr (zco (reQ 1 rfl (hvQ rfl (vaQ rfl rfl rfl) (enQ 1 rfl ?_)))))
       exact zbg (k + 1) ((Y.1.set (((((bs.getD i bk0).es).getD k le0).f).toNat) ((Y.1.getD (((((bs.getD i bk0).es).getD k le0).f).toNat) 0) + 1)), (Y.2.set (((((bs.getD i bk0).es).getD k le0).u).toNat) ((Y.2.getD (((((bs.getD i bk0).es).getD k le0).u).toNat) 0) + 1))) ⟨by omega, by first | assumption | (rw [List.length_set]; assumption), by first | assumption | (rw [List.length_set]; assumption), by first | assumption | exact zbc (by assumption) (by omega) | exact zbc (zbq (by assumption)) (by omega), by first | assumption | exact zbc (by assumption) (by omega) | exact zbc (zbq (by assumption)) (by omega)⟩ (by omega) (saQ rfl) (pfQ rfl)
      refine ntQ (fsQ rfl (zco (reQ 1 rfl (hvQ rfl (vaQ rfl rfl rfl) (enQ 1 rfl ?_)))))
      exact zbg (k + 1) (Y.1, (Y.2.set (((((bs.getD i bk0).es).getD k le0).u).toNat) ((Y.2.getD (((((bs.getD i bk0).es).getD k le0).u).toNat) 0) + 1))) ⟨by omega, by first | assumption | (rw [List.length_set]; assumption), by first | assumption | (rw [List.length_set]; assumption), by first | assumption | exact zbc (by assumption) (by omega) | exact zbc (zbq (by assumption)) (by omega), by first | assumption | exact zbc (by assumption) (by omega) | exact zbc (zbq (by assumption)) (by omega)⟩ (by omega) (saQ rfl) (pfQ rfl)
     refine ntQ (zal rfl (zcn (srQ (hvQ rfl (fdQ 2 rfl rfl rfl) (hvQ rfl (zaf rfl rfl rfl (zab 0 rfl rfl)) (zam 1 rfl (hvQ rfl (riQ 2 rfl rfl rfl rfl (zae (hbk.at (k := i) (by omega)))) (hvQ rfl (zbb (k0 := 1) rfl rfl rfl (zae (hbk.at (k := i) (by omega))) (by omega)) ?_))))))))
     refine hvQ rfl (zar (u := .int .i64 ((((bs.getD i bk0).es).getD k le0).f)) rfl rfl rfl (zae (hbk.at (k := i) (by omega))) ((zbv leC 2 (fun _ => rfl) ((bs.getD i bk0).es) le0 (show k < _ by omega) (by decide)).trans rfl)) (zdo rfl rfl rfl rfl rfl rfl (fun h22 => ?_) (fun h22 => ?_))
     ·
      refine ntQ (zak rfl (reQ 1 rfl (hvQ rfl (fdQ 2 rfl rfl rfl) (hvQ rfl (zaf rfl rfl rfl (zab 0 rfl rfl)) (zam 1 rfl (hvQ rfl (riQ 2 rfl rfl rfl rfl (zae (hbk.at (k := i) (by omega)))) (hvQ rfl (zbb (k0 := 1) rfl rfl rfl (zae (hbk.at (k := i) (by omega))) (by omega)) ?_)))))))
      refine hvQ rfl (zar (u := .int .i64 ((((bs.getD i bk0).es).getD k le0).f)) rfl rfl rfl (zae (hbk.at (k := i) (by omega))) ((zbv leC 2 (fun _ => rfl) ((bs.getD i bk0).es) le0 (show k < _ by omega) (by decide)).trans rfl)) (hvQ rfl (riQ 1 rfl rfl rfl rfl (zac 2 rfl)) (hvQ rfl (lzQ rfl rfl rfl (zac 2 rfl)) (hvQ rfl (vaQ rfl rfl rfl) (hvQ rfl (riQ 1 rfl rfl rfl rfl (zac 2 rfl)) ?_))))
      refine zcu (i := 2) (n' := (Y.1.set (((((bs.getD i bk0).es).getD k le0).f).toNat) ((Y.1.getD (((((bs.getD i bk0).es).getD k le0).f).toNat) 0) + 1)).length) (xs' := ((Y.1.set (((((bs.getD i bk0).es).getD k le0).f).toNat) ((Y.1.getD (((((bs.getD i bk0).es).getD k le0).f).toNat) 0) + 1)).map (Value.int .i64))) rfl rfl rfl rfl rfl rfl rfl rfl (by first | omega | (simp only [List.length_set]; omega)) List.length_set.symm (zcv _ _ _) rfl (zbr (zco (reQ 1 rfl (hvQ rfl (vaQ rfl rfl rfl) (enQ 1 rfl ?_)))))
      exact zbg (k + 1) ((Y.1.set (((((bs.getD i bk0).es).getD k le0).f).toNat) ((Y.1.getD (((((bs.getD i bk0).es).getD k le0).f).toNat) 0) + 1)), Y.2) ⟨by omega, by first | assumption | (rw [List.length_set]; assumption), by first | assumption | (rw [List.length_set]; assumption), by first | assumption | exact zbc (by assumption) (by omega) | exact zbc (zbq (by assumption)) (by omega), by first | assumption | exact zbc (by assumption) (by omega) | exact zbc (zbq (by assumption)) (by omega)⟩ (by omega) (saQ rfl) (pfQ rfl)
     refine ntQ (fsQ rfl (zco (reQ 1 rfl (hvQ rfl (vaQ rfl rfl rfl) (enQ 1 rfl ?_)))))
     exact zbg (k + 1) (Y.1, Y.2) ⟨by omega, by first | assumption | (rw [List.length_set]; assumption), by first | assumption | (rw [List.length_set]; assumption), by first | assumption | exact zbc (by assumption) (by omega) | exact zbc (zbq (by assumption)) (by omega), by first | assumption | exact zbc (by assumption) (by omega) | exact zbc (zbq (by assumption)) (by omega)⟩ (by omega) (saQ rfl) (pfQ rfl)
    refine ntQ (zal rfl ?_)
    refine zaz (zds ?_)
    refine zag (zco (reQ 1 rfl (hvQ rfl (vaQ rfl rfl rfl) (enQ 1 rfl ?_))))
    exact zbg (i + 1) (Z.1, (Z.2.1.set (((bs.getD i bk0).it).toNat) ((Z.2.1.getD (((bs.getD i bk0).it).toNat) 0) + 1)), Y.1, Y.2) ⟨by omega, fun q hq => by by_cases e : q = i; (subst e; assumption); exact hall q (by omega), by first | assumption | (rw [List.length_set]; assumption), by first | assumption | (rw [List.length_set]; assumption), by first | assumption | (rw [List.length_set]; assumption), by first | assumption | (rw [List.length_set]; assumption), by first | assumption | exact zbc (by assumption) (by omega) | exact zbc (zbq (by assumption)) (by omega), by first | assumption | exact zbc (by assumption) (by omega) | exact zbc (zbq (by assumption)) (by omega), by first | assumption | exact zbc (by assumption) (by omega) | exact zbc (zbq (by assumption)) (by omega), by first | assumption | exact zbc (by assumption) (by omega) | exact zbc (zbq (by assumption)) (by omega)⟩ (by omega) (saQ rfl) (slQ [1, 0, 0, 0, 0] rfl)
   refine zba 1 rfl (zal rfl (srQ ?_))
   refine zby rfl rfl rfl rfl rfl rfl (fun h23 => ?_) (fun h23 => ?_)
   ·
    refine zba 1 rfl (zak rfl (reQ 1 rfl (hvQ rfl (fdQ 1 rfl rfl rfl) (hvQ rfl (zaf rfl rfl rfl (zab 0 rfl rfl)) (hvQ rfl (riQ 1 rfl rfl rfl rfl (zac 2 rfl)) (hvQ rfl (lzQ rfl rfl rfl (zac 2 rfl)) (hvQ rfl (vaQ rfl rfl rfl) (hvQ rfl (riQ 1 rfl rfl rfl rfl (zac 2 rfl)) ?_))))))))
    refine zcu (i := 2) (n' := (Z.2.2.1.set (((bs.getD i bk0).it).toNat) ((Z.2.2.1.getD (((bs.getD i bk0).it).toNat) 0) + 1)).length) (xs' := ((Z.2.2.1.set (((bs.getD i bk0).it).toNat) ((Z.2.2.1.getD (((bs.getD i bk0).it).toNat) 0) + 1)).map (Value.int .i64))) rfl rfl rfl rfl rfl rfl rfl rfl (by first | omega | (simp only [List.length_set]; omega)) List.length_set.symm (zcv _ _ _) rfl (zbr (zco (zbd 1 rfl (zax ?_))))
    refine lkQ2 (α := Nat) (β := List Int × List Int) [0, 1, 2, 4, 5, 6, 7, 8, 9, 10, 21, 40, 50, 52, 53, 62, 71] rfl (fun k Y => [boxE b9 #[.int .i64 ((bs.getD i bk0).kd), .int .i64 ((bs.getD i bk0).it), (bs.getD i bk0).bv] 39, rowE 3 1 (.slice (some ⟨g6, 0, none⟩) ((List.replicate n.ls.length (0 : Int)).length) ((List.replicate n.ls.length (0 : Int)).length)) Y.2.length (Y.2.map (Value.int .i64)), rowE 3 1 (.slice (some ⟨g5, 0, none⟩) ((List.replicate n.ss.length (0 : Int)).length) ((List.replicate n.ss.length (0 : Int)).length)) Y.1.length (Y.1.map (Value.int .i64)), rowE 3 1 (.slice (some ⟨g4, 0, none⟩) ((List.replicate n.os.length (0 : Int)).length) ((List.replicate n.os.length (0 : Int)).length)) Z.2.1.length (Z.2.1.map (Value.int .i64)), rowE 3 1 (.slice (some ⟨g3, 0, none⟩) ((List.replicate (n.ins).toNat (0 : Int)).length) ((List.replicate (n.ins).toNat (0 : Int)).length)) Z.1.length (Z.1.map (Value.int .i64)), boxE b1 #[.int .i64 n.ins, n.sv, n.lv, n.ov] 30]) (fun k Y => [(11, .int .i64 (k : Int))]) (fun k Y => k ≤ (bs.getD i bk0).es.length ∧ Y.1.length = n.ss.length ∧ Y.2.length = n.ls.length ∧ CntB Y.1 (10 * i + 2 + k) ∧ CntB Y.2 (10 * i + 2 + k)) (fun k Y => (bs.getD i bk0).es.length - k) 0 ((Z.2.2.1.set (((bs.getD i bk0).it).toNat) ((Z.2.2.1.getD (((bs.getD i bk0).it).toNat) 0) + 1)), Z.2.2.2) ⟨Nat.zero_le _, by first | assumption | (rw [List.length_set]; assumption), by first | assumption | (rw [List.length_set]; assumption), by first | assumption | exact zbc (by assumption) (by omega) | exact zbc (zbq (by assumption)) (by omega), by first | assumption | exact zbc (by assumption) (by omega) | exact zbc (zbq (by assumption)) (by omega)⟩ (saQ rfl) (pfQ rfl) ?_
    intro k Y hi24
    obtain ⟨hk, hy1, hy2, hd1, hd2⟩ := hi24
    refine zaa (zaa (reQ 1 rfl (hvQ rfl (fdQ 2 rfl rfl rfl) (hvQ rfl (zaf rfl rfl rfl (zab 0 rfl rfl)) (hvQ rfl (lnQ rfl rfl rfl (zae (hbk.at (k := i) (by omega)))) ?_)))))
    refine zbk rfl rfl rfl rfl rfl rfl (fun h25 => ?_) (fun h25 => ?_)
    ·
     refine ntQ (zak rfl (zcn (sbQ (zfc ?_))))
     have hg5 := hg4 k (by omega)
     obtain ⟨⟨ga, gb⟩, ⟨gc, gd⟩, ge⟩ := hg5
     have hr1 := hd1 ((bs.getD i bk0).es.getD k le0).f.toNat
     have hr2 := hd2 ((bs.getD i bk0).es.getD k le0).u.toNat
     refine hvQ rfl (fdQ 2 rfl rfl rfl) (hvQ rfl (zaf rfl rfl rfl (zab 0 rfl rfl)) (zam 1 rfl (hvQ rfl (riQ 2 rfl rfl rfl rfl (zae (hbk.at (k := i) (by omega)))) (hvQ rfl (zbb (k0 := 0) rfl rfl rfl (zae (hbk.at (k := i) (by omega))) (by omega)) ?_))))
     refine hvQ rfl (zar (u := .int .i64 ((((bs.getD i bk0).es).getD k le0).u)) rfl rfl rfl (zae (hbk.at (k := i) (by omega))) ((zbv leC 2 (fun _ => rfl) ((bs.getD i bk0).es) le0 (show k < _ by omega) (by decide)).trans rfl)) (zdo rfl rfl rfl rfl rfl rfl (fun h26 => ?_) (fun h26 => ?_))
     ·
      refine ntQ (zak rfl (reQ 1 rfl (hvQ rfl (fdQ 2 rfl rfl rfl) (hvQ rfl (zaf rfl rfl rfl (zab 0 rfl rfl)) (zam 1 rfl (hvQ rfl (riQ 2 rfl rfl rfl rfl (zae (hbk.at (k := i) (by omega)))) (hvQ rfl (zbb (k0 := 0) rfl rfl rfl (zae (hbk.at (k := i) (by omega))) (by omega)) ?_)))))))
      refine hvQ rfl (zar (u := .int .i64 ((((bs.getD i bk0).es).getD k le0).u)) rfl rfl rfl (zae (hbk.at (k := i) (by omega))) ((zbv leC 2 (fun _ => rfl) ((bs.getD i bk0).es) le0 (show k < _ by omega) (by decide)).trans rfl)) (hvQ rfl (riQ 1 rfl rfl rfl rfl (zac 1 rfl)) (hvQ rfl (lzQ rfl rfl rfl (zac 1 rfl)) (hvQ rfl (vaQ rfl rfl rfl) (hvQ rfl (riQ 1 rfl rfl rfl rfl (zac 1 rfl)) ?_))))
      refine zcu (i := 1) (n' := (Y.2.set (((((bs.getD i bk0).es).getD k le0).u).toNat) ((Y.2.getD (((((bs.getD i bk0).es).getD k le0).u).toNat) 0) + 1)).length) (xs' := ((Y.2.set (((((bs.getD i bk0).es).getD k le0).u).toNat) ((Y.2.getD (((((bs.getD i bk0).es).getD k le0).u).toNat) 0) + 1)).map (Value.int .i64))) rfl rfl rfl rfl rfl rfl rfl rfl (by first | omega | (simp only [List.length_set]; omega)) List.length_set.symm (zcv _ _ _) rfl (ntQ (srQ (hvQ rfl (fdQ 2 rfl rfl rfl) (hvQ rfl (zaf rfl rfl rfl (zab 0 rfl rfl)) (zam 1 rfl (hvQ rfl (riQ 2 rfl rfl rfl rfl (zae (hbk.at (k := i) (by omega)))) (hvQ rfl (zbb (k0 := 1) rfl rfl rfl (zae (hbk.at (k := i) (by omega))) (by omega)) ?_)))))))
      refine hvQ rfl (zar (u := .int .i64 ((((bs.getD i bk0).es).getD k le0).f)) rfl rfl rfl (zae (hbk.at (k := i) (by omega))) ((zbv leC 2 (fun _ => rfl) ((bs.getD i bk0).es) le0 (show k < _ by omega) (by decide)).trans rfl)) (zdo rfl rfl rfl rfl rfl rfl (fun h27 => ?_) (fun h27 => ?_))
      ·
       refine ntQ (zak rfl (reQ 1 rfl (hvQ rfl (fdQ 2 rfl rfl rfl) (hvQ rfl (zaf rfl rfl rfl (zab 0 rfl rfl)) (zam 1 rfl (hvQ rfl (riQ 2 rfl rfl rfl rfl (zae (hbk.at (k := i) (by omega)))) (hvQ rfl (zbb (k0 := 1) rfl rfl rfl (zae (hbk.at (k := i) (by omega))) (by omega)) ?_)))))))
       refine hvQ rfl (zar (u := .int .i64 ((((bs.getD i bk0).es).getD k le0).f)) rfl rfl rfl (zae (hbk.at (k := i) (by omega))) ((zbv leC 2 (fun _ => rfl) ((bs.getD i bk0).es) le0 (show k < _ by omega) (by decide)).trans rfl)) (hvQ rfl (riQ 1 rfl rfl rfl rfl (zac 2 rfl)) (hvQ rfl (lzQ rfl rfl rfl (zac 2 rfl)) (hvQ rfl (vaQ rfl rfl rfl) (hvQ rfl (riQ 1 rfl rfl rfl rfl (zac 2 rfl)) ?_))))
       refine zcu (i := 2) (n' := (Y.1.set (((((bs.getD i bk0).es).getD k le0).f).toNat) ((Y.1.getD (((((bs.getD i bk0).es).getD k le0).f).toNat) 0) + 1)).length) (xs' := ((Y.1.set (((((bs.getD i bk0).es).getD k le0).f).toNat) ((Y.1.getD (((((bs.getD i bk0).es).getD k le0).f).toNat) 0) + 1)).map (Value.int .i64))) rfl rfl rfl rfl rfl rfl rfl rfl (by first | omega | (simp only [List.length_set]; omega)) List.length_set.symm (zcv _ _ _) rfl (zbr (zco (reQ 1 rfl (hvQ rfl (vaQ rfl rfl rfl) (enQ 1 rfl ?_)))))
       exact zbg (k + 1) ((Y.1.set (((((bs.getD i bk0).es).getD k le0).f).toNat) ((Y.1.getD (((((bs.getD i bk0).es).getD k le0).f).toNat) 0) + 1)), (Y.2.set (((((bs.getD i bk0).es).getD k le0).u).toNat) ((Y.2.getD (((((bs.getD i bk0).es).getD k le0).u).toNat) 0) + 1))) ⟨by omega, by first | assumption | (rw [List.length_set]; assumption), by first | assumption | (rw [List.length_set]; assumption), by first | assumption | exact zbc (by assumption) (by omega) | exact zbc (zbq (by assumption)) (by omega), by first | assumption | exact zbc (by assumption) (by omega) | exact zbc (zbq (by assumption)) (by omega)⟩ (by omega) (saQ rfl) (pfQ rfl)
      refine ntQ (fsQ rfl (zco (reQ 1 rfl (hvQ rfl (vaQ rfl rfl rfl) (enQ 1 rfl ?_)))))
      exact zbg (k + 1) (Y.1, (Y.2.set (((((bs.getD i bk0).es).getD k le0).u).toNat) ((Y.2.getD (((((bs.getD i bk0).es).getD k le0).u).toNat) 0) + 1))) ⟨by omega, by first | assumption | (rw [List.length_set]; assumption), by first | assumption | (rw [List.length_set]; assumption), by first | assumption | exact zbc (by assumption) (by omega) | exact zbc (zbq (by assumption)) (by omega), by first | assumption | exact zbc (by assumption) (by omega) | exact zbc (zbq (by assumption)) (by omega)⟩ (by omega) (saQ rfl) (pfQ rfl)
     refine ntQ (zal rfl (zcn (srQ (hvQ rfl (fdQ 2 rfl rfl rfl) (hvQ rfl (zaf rfl rfl rfl (zab 0 rfl rfl)) (zam 1 rfl (hvQ rfl (riQ 2 rfl rfl rfl rfl (zae (hbk.at (k := i) (by omega)))) (hvQ rfl (zbb (k0 := 1) rfl rfl rfl (zae (hbk.at (k := i) (by omega))) (by omega)) ?_))))))))
     refine hvQ rfl (zar (u := .int .i64 ((((bs.getD i bk0).es).getD k le0).f)) rfl rfl rfl (zae (hbk.at (k := i) (by omega))) ((zbv leC 2 (fun _ => rfl) ((bs.getD i bk0).es) le0 (show k < _ by omega) (by decide)).trans rfl)) (zdo rfl rfl rfl rfl rfl rfl (fun h28 => ?_) (fun h28 => ?_))
     ·
      refine ntQ (zak rfl (reQ 1 rfl (hvQ rfl (fdQ 2 rfl rfl rfl) (hvQ rfl (zaf rfl rfl rfl (zab 0 rfl rfl)) (zam 1 rfl (hvQ rfl (riQ 2 rfl rfl rfl rfl (zae (hbk.at (k := i) (by omega)))) (hvQ rfl (zbb (k0 := 1) rfl rfl rfl (zae (hbk.at (k := i) (by omega))) (by omega)) ?_)))))))
      refine hvQ rfl (zar (u := .int .i64 ((((bs.getD i bk0).es).getD k le0).f)) rfl rfl rfl (zae (hbk.at (k := i) (by omega))) ((zbv leC 2 (fun _ => rfl) ((bs.getD i bk0).es) le0 (show k < _ by omega) (by decide)).trans rfl)) (hvQ rfl (riQ 1 rfl rfl rfl rfl (zac 2 rfl)) (hvQ rfl (lzQ rfl rfl rfl (zac 2 rfl)) (hvQ rfl (vaQ rfl rfl rfl) (hvQ rfl (riQ 1 rfl rfl rfl rfl (zac 2 rfl)) ?_))))
      refine zcu (i := 2) (n' := (Y.1.set (((((bs.getD i bk0).es).getD k le0).f).toNat) ((Y.1.getD (((((bs.getD i bk0).es).getD k le0).f).toNat) 0) + 1)).length) (xs' := ((Y.1.set (((((bs.getD i bk0).es).getD k le0).f).toNat) ((Y.1.getD (((((bs.getD i bk0).es).getD k le0).f).toNat) 0) + 1)).map (Value.int .i64))) rfl rfl rfl rfl rfl rfl rfl rfl (by first | omega | (simp only [List.length_set]; omega)) List.length_set.symm (zcv _ _ _) rfl (zbr (zco (reQ 1 rfl (hvQ rfl (vaQ rfl rfl rfl) (enQ 1 rfl ?_)))))
      exact zbg (k + 1) ((Y.1.set (((((bs.getD i bk0).es).getD k le0).f).toNat) ((Y.1.getD (((((bs.getD i bk0).es).getD k le0).f).toNat) 0) + 1)), Y.2) ⟨by omega, by first | assumption | (rw [List.length_set]; assumption), by first | assumption | (rw [List.length_set]; assumption), by first | assumption | exact zbc (by assumption) (by omega) | exact zbc (zbq (by assumption)) (by omega), by first | assumption | exact zbc (by assumption) (by omega) | exact zbc (zbq (by assumption)) (by omega)⟩ (by omega) (saQ rfl) (pfQ rfl)
     refine ntQ (fsQ rfl (zco (reQ 1 rfl (hvQ rfl (vaQ rfl rfl rfl) (enQ 1 rfl ?_)))))
     exact zbg (k + 1) (Y.1, Y.2) ⟨by omega, by first | assumption | (rw [List.length_set]; assumption), by first | assumption | (rw [List.length_set]; assumption), by first | assumption | exact zbc (by assumption) (by omega) | exact zbc (zbq (by assumption)) (by omega), by first | assumption | exact zbc (by assumption) (by omega) | exact zbc (zbq (by assumption)) (by omega)⟩ (by omega) (saQ rfl) (pfQ rfl)
    refine ntQ (zal rfl ?_)
    refine zaz (zds ?_)
    refine zag (zco (reQ 1 rfl (hvQ rfl (vaQ rfl rfl rfl) (enQ 1 rfl ?_))))
    exact zbg (i + 1) (Z.1, Z.2.1, Y.1, Y.2) ⟨by omega, fun q hq => by by_cases e : q = i; (subst e; assumption); exact hall q (by omega), by first | assumption | (rw [List.length_set]; assumption), by first | assumption | (rw [List.length_set]; assumption), by first | assumption | (rw [List.length_set]; assumption), by first | assumption | (rw [List.length_set]; assumption), by first | assumption | exact zbc (by assumption) (by omega) | exact zbc (zbq (by assumption)) (by omega), by first | assumption | exact zbc (by assumption) (by omega) | exact zbc (zbq (by assumption)) (by omega), by first | assumption | exact zbc (by assumption) (by omega) | exact zbc (zbq (by assumption)) (by omega), by first | assumption | exact zbc (by assumption) (by omega) | exact zbc (zbq (by assumption)) (by omega)⟩ (by omega) (saQ rfl) (slQ [1, 0, 0, 0, 0] rfl)
   refine zba 1 rfl (fsQ rfl (zco (zbd 1 rfl ?_)))
   refine zax ?_
   refine lkQ2 (α := Nat) (β := List Int × List Int) [0, 1, 2, 4, 5, 6, 7, 8, 9, 10, 21, 40, 50, 52, 53, 62, 71] rfl (fun k Y => [boxE b9 #[.int .i64 ((bs.getD i bk0).kd), .int .i64 ((bs.getD i bk0).it), (bs.getD i bk0).bv] 39, rowE 3 1 (.slice (some ⟨g6, 0, none⟩) ((List.replicate n.ls.length (0 : Int)).length) ((List.replicate n.ls.length (0 : Int)).length)) Y.2.length (Y.2.map (Value.int .i64)), rowE 3 1 (.slice (some ⟨g5, 0, none⟩) ((List.replicate n.ss.length (0 : Int)).length) ((List.replicate n.ss.length (0 : Int)).length)) Y.1.length (Y.1.map (Value.int .i64)), rowE 3 1 (.slice (some ⟨g4, 0, none⟩) ((List.replicate n.os.length (0 : Int)).length) ((List.replicate n.os.length (0 : Int)).length)) Z.2.1.length (Z.2.1.map (Value.int .i64)), rowE 3 1 (.slice (some ⟨g3, 0, none⟩) ((List.replicate (n.ins).toNat (0 : Int)).length) ((List.replicate (n.ins).toNat (0 : Int)).length)) Z.1.length (Z.1.map (Value.int .i64)), boxE b1 #[.int .i64 n.ins, n.sv, n.lv, n.ov] 30]) (fun k Y => [(11, .int .i64 (k : Int))]) (fun k Y => k ≤ (bs.getD i bk0).es.length ∧ Y.1.length = n.ss.length ∧ Y.2.length = n.ls.length ∧ CntB Y.1 (10 * i + 2 + k) ∧ CntB Y.2 (10 * i + 2 + k)) (fun k Y => (bs.getD i bk0).es.length - k) 0 (Z.2.2.1, Z.2.2.2) ⟨Nat.zero_le _, by first | assumption | (rw [List.length_set]; assumption), by first | assumption | (rw [List.length_set]; assumption), by first | assumption | exact zbc (by assumption) (by omega) | exact zbc (zbq (by assumption)) (by omega), by first | assumption | exact zbc (by assumption) (by omega) | exact zbc (zbq (by assumption)) (by omega)⟩ (saQ rfl) (pfQ rfl) ?_
   intro k Y hi29
   obtain ⟨hk, hy1, hy2, hd1, hd2⟩ := hi29
   refine zaa (zaa (reQ 1 rfl (hvQ rfl (fdQ 2 rfl rfl rfl) (hvQ rfl (zaf rfl rfl rfl (zab 0 rfl rfl)) (hvQ rfl (lnQ rfl rfl rfl (zae (hbk.at (k := i) (by omega)))) ?_)))))
   refine zbk rfl rfl rfl rfl rfl rfl (fun h30 => ?_) (fun h30 => ?_)
   ·
    refine ntQ (zak rfl (zcn (sbQ (zfc ?_))))
    have hg5 := hg4 k (by omega)
    obtain ⟨⟨ga, gb⟩, ⟨gc, gd⟩, ge⟩ := hg5
    have hr1 := hd1 ((bs.getD i bk0).es.getD k le0).f.toNat
    have hr2 := hd2 ((bs.getD i bk0).es.getD k le0).u.toNat
    refine hvQ rfl (fdQ 2 rfl rfl rfl) (hvQ rfl (zaf rfl rfl rfl (zab 0 rfl rfl)) (zam 1 rfl (hvQ rfl (riQ 2 rfl rfl rfl rfl (zae (hbk.at (k := i) (by omega)))) (hvQ rfl (zbb (k0 := 0) rfl rfl rfl (zae (hbk.at (k := i) (by omega))) (by omega)) ?_))))
    refine hvQ rfl (zar (u := .int .i64 ((((bs.getD i bk0).es).getD k le0).u)) rfl rfl rfl (zae (hbk.at (k := i) (by omega))) ((zbv leC 2 (fun _ => rfl) ((bs.getD i bk0).es) le0 (show k < _ by omega) (by decide)).trans rfl)) (zdo rfl rfl rfl rfl rfl rfl (fun h31 => ?_) (fun h31 => ?_))
    ·
     refine ntQ (zak rfl (reQ 1 rfl (hvQ rfl (fdQ 2 rfl rfl rfl) (hvQ rfl (zaf rfl rfl rfl (zab 0 rfl rfl)) (zam 1 rfl (hvQ rfl (riQ 2 rfl rfl rfl rfl (zae (hbk.at (k := i) (by omega)))) (hvQ rfl (zbb (k0 := 0) rfl rfl rfl (zae (hbk.at (k := i) (by omega))) (by omega)) ?_)))))))
     refine hvQ rfl (zar (u := .int .i64 ((((bs.getD i bk0).es).getD k le0).u)) rfl rfl rfl (zae (hbk.at (k := i) (by omega))) ((zbv leC 2 (fun _ => rfl) ((bs.getD i bk0).es) le0 (show k < _ by omega) (by decide)).trans rfl)) (hvQ rfl (riQ 1 rfl rfl rfl rfl (zac 1 rfl)) (hvQ rfl (lzQ rfl rfl rfl (zac 1 rfl)) (hvQ rfl (vaQ rfl rfl rfl) (hvQ rfl (riQ 1 rfl rfl rfl rfl (zac 1 rfl)) ?_))))
     refine zcu (i := 1) (n' := (Y.2.set (((((bs.getD i bk0).es).getD k le0).u).toNat) ((Y.2.getD (((((bs.getD i bk0).es).getD k le0).u).toNat) 0) + 1)).length) (xs' := ((Y.2.set (((((bs.getD i bk0).es).getD k le0).u).toNat) ((Y.2.getD (((((bs.getD i bk0).es).getD k le0).u).toNat) 0) + 1)).map (Value.int .i64))) rfl rfl rfl rfl rfl rfl rfl rfl (by first | omega | (simp only [List.length_set]; omega)) List.length_set.symm (zcv _ _ _) rfl (ntQ (srQ (hvQ rfl (fdQ 2 rfl rfl rfl) (hvQ rfl (zaf rfl rfl rfl (zab 0 rfl rfl)) (zam 1 rfl (hvQ rfl (riQ 2 rfl rfl rfl rfl (zae (hbk.at (k := i) (by omega)))) (hvQ rfl (zbb (k0 := 1) rfl rfl rfl (zae (hbk.at (k := i) (by omega))) (by omega)) ?_)))))))
     refine hvQ rfl (zar (u := .int .i64 ((((bs.getD i bk0).es).getD k le0).f)) rfl rfl rfl (zae (hbk.at (k := i) (by omega))) ((zbv leC 2 (fun _ => rfl) ((bs.getD i bk0).es) le0 (show k < _ by omega) (by decide)).trans rfl)) (zdo rfl rfl rfl rfl rfl rfl (fun h32 => ?_) (fun h32 => ?_))
     ·
      refine ntQ (zak rfl (reQ 1 rfl (hvQ rfl (fdQ 2 rfl rfl rfl) (hvQ rfl (zaf rfl rfl rfl (zab 0 rfl rfl)) (zam 1 rfl (hvQ rfl (riQ 2 rfl rfl rfl rfl (zae (hbk.at (k := i) (by omega)))) (hvQ rfl (zbb (k0 := 1) rfl rfl rfl (zae (hbk.at (k := i) (by omega))) (by omega)) ?_)))))))
      refine hvQ rfl (zar (u := .int .i64 ((((bs.getD i bk0).es).getD k le0).f)) rfl rfl rfl (zae (hbk.at (k := i) (by omega))) ((zbv leC 2 (fun _ => rfl) ((bs.getD i bk0).es) le0 (show k < _ by omega) (by decide)).trans rfl)) (hvQ rfl (riQ 1 rfl rfl rfl rfl (zac 2 rfl)) (hvQ rfl (lzQ rfl rfl rfl (zac 2 rfl)) (hvQ rfl (vaQ rfl rfl rfl) (hvQ rfl (riQ 1 rfl rfl rfl rfl (zac 2 rfl)) ?_))))
      refine zcu (i := 2) (n' := (Y.1.set (((((bs.getD i bk0).es).getD k le0).f).toNat) ((Y.1.getD (((((bs.getD i bk0).es).getD k le0).f).toNat) 0) + 1)).length) (xs' := ((Y.1.set (((((bs.getD i bk0).es).getD k le0).f).toNat) ((Y.1.getD (((((bs.getD i bk0).es).getD k le0).f).toNat) 0) + 1)).map (Value.int .i64))) rfl rfl rfl rfl rfl rfl rfl rfl (by first | omega | (simp only [List.length_set]; omega)) List.length_set.symm (zcv _ _ _) rfl (zbr (zco (reQ 1 rfl (hvQ rfl (vaQ rfl rfl rfl) (enQ 1 rfl ?_)))))
      exact zbg (k + 1) ((Y.1.set (((((bs.getD i bk0).es).getD k le0).f).toNat) ((Y.1.getD (((((bs.getD i bk0).es).getD k le0).f).toNat) 0) + 1)), (Y.2.set (((((bs.getD i bk0).es).getD k le0).u).toNat) ((Y.2.getD (((((bs.getD i bk0).es).getD k le0).u).toNat) 0) + 1))) ⟨by omega, by first | assumption | (rw [List.length_set]; assumption), by first | assumption | (rw [List.length_set]; assumption), by first | assumption | exact zbc (by assumption) (by omega) | exact zbc (zbq (by assumption)) (by omega), by first | assumption | exact zbc (by assumption) (by omega) | exact zbc (zbq (by assumption)) (by omega)⟩ (by omega) (saQ rfl) (pfQ rfl)
     refine ntQ (fsQ rfl (zco (reQ 1 rfl (hvQ rfl (vaQ rfl rfl rfl) (enQ 1 rfl ?_)))))
     exact zbg (k + 1) (Y.1, (Y.2.set (((((bs.getD i bk0).es).getD k le0).u).toNat) ((Y.2.getD (((((bs.getD i bk0).es).getD k le0).u).toNat) 0) + 1))) ⟨by omega, by first | assumption | (rw [List.length_set]; assumption), by first | assumption | (rw [List.length_set]; assumption), by first | assumption | exact zbc (by assumption) (by omega) | exact zbc (zbq (by assumption)) (by omega), by first | assumption | exact zbc (by assumption) (by omega) | exact zbc (zbq (by assumption)) (by omega)⟩ (by omega) (saQ rfl) (pfQ rfl)
    refine ntQ (zal rfl (zcn (srQ (hvQ rfl (fdQ 2 rfl rfl rfl) (hvQ rfl (zaf rfl rfl rfl (zab 0 rfl rfl)) (zam 1 rfl (hvQ rfl (riQ 2 rfl rfl rfl rfl (zae (hbk.at (k := i) (by omega)))) (hvQ rfl (zbb (k0 := 1) rfl rfl rfl (zae (hbk.at (k := i) (by omega))) (by omega)) ?_))))))))
    refine hvQ rfl (zar (u := .int .i64 ((((bs.getD i bk0).es).getD k le0).f)) rfl rfl rfl (zae (hbk.at (k := i) (by omega))) ((zbv leC 2 (fun _ => rfl) ((bs.getD i bk0).es) le0 (show k < _ by omega) (by decide)).trans rfl)) (zdo rfl rfl rfl rfl rfl rfl (fun h33 => ?_) (fun h33 => ?_))
    ·
     refine ntQ (zak rfl (reQ 1 rfl (hvQ rfl (fdQ 2 rfl rfl rfl) (hvQ rfl (zaf rfl rfl rfl (zab 0 rfl rfl)) (zam 1 rfl (hvQ rfl (riQ 2 rfl rfl rfl rfl (zae (hbk.at (k := i) (by omega)))) (hvQ rfl (zbb (k0 := 1) rfl rfl rfl (zae (hbk.at (k := i) (by omega))) (by omega)) ?_)))))))
     refine hvQ rfl (zar (u := .int .i64 ((((bs.getD i bk0).es).getD k le0).f)) rfl rfl rfl (zae (hbk.at (k := i) (by omega))) ((zbv leC 2 (fun _ => rfl) ((bs.getD i bk0).es) le0 (show k < _ by omega) (by decide)).trans rfl)) (hvQ rfl (riQ 1 rfl rfl rfl rfl (zac 2 rfl)) (hvQ rfl (lzQ rfl rfl rfl (zac 2 rfl)) (hvQ rfl (vaQ rfl rfl rfl) (hvQ rfl (riQ 1 rfl rfl rfl rfl (zac 2 rfl)) ?_))))
     refine zcu (i := 2) (n' := (Y.1.set (((((bs.getD i bk0).es).getD k le0).f).toNat) ((Y.1.getD (((((bs.getD i bk0).es).getD k le0).f).toNat) 0) + 1)).length) (xs' := ((Y.1.set (((((bs.getD i bk0).es).getD k le0).f).toNat) ((Y.1.getD (((((bs.getD i bk0).es).getD k le0).f).toNat) 0) + 1)).map (Value.int .i64))) rfl rfl rfl rfl rfl rfl rfl rfl (by first | omega | (simp only [List.length_set]; omega)) List.length_set.symm (zcv _ _ _) rfl (zbr (zco (reQ 1 rfl (hvQ rfl (vaQ rfl rfl rfl) (enQ 1 rfl ?_)))))
     exact zbg (k + 1) ((Y.1.set (((((bs.getD i bk0).es).getD k le0).f).toNat) ((Y.1.getD (((((bs.getD i bk0).es).getD k le0).f).toNat) 0) + 1)), Y.2) ⟨by omega, by first | assumption | (rw [List.length_set]; assumption), by first | assumption | (rw [List.length_set]; assumption), by first | assumption | exact zbc (by assumption) (by omega) | exact zbc (zbq (by assumption)) (by omega), by first | assumption | exact zbc (by assumption) (by omega) | exact zbc (zbq (by assumption)) (by omega)⟩ (by omega) (saQ rfl) (pfQ rfl)
    refine ntQ (fsQ rfl (zco (reQ 1 rfl (hvQ rfl (vaQ rfl rfl rfl) (enQ 1 rfl ?_)))))
    exact zbg (k + 1) (Y.1, Y.2) ⟨by omega, by first | assumption | (rw [List.length_set]; assumption), by first | assumption | (rw [List.length_set]; assumption), by first | assumption | exact zbc (by assumption) (by omega) | exact zbc (zbq (by assumption)) (by omega), by first | assumption | exact zbc (by assumption) (by omega) | exact zbc (zbq (by assumption)) (by omega)⟩ (by omega) (saQ rfl) (pfQ rfl)
   refine ntQ (zal rfl ?_)
   refine zaz (zds ?_)
   refine zag (zco (reQ 1 rfl (hvQ rfl (vaQ rfl rfl rfl) (enQ 1 rfl ?_))))
   exact zbg (i + 1) (Z.1, Z.2.1, Y.1, Y.2) ⟨by omega, fun q hq => by by_cases e : q = i; (subst e; assumption); exact hall q (by omega), by first | assumption | (rw [List.length_set]; assumption), by first | assumption | (rw [List.length_set]; assumption), by first | assumption | (rw [List.length_set]; assumption), by first | assumption | (rw [List.length_set]; assumption), by first | assumption | exact zbc (by assumption) (by omega) | exact zbc (zbq (by assumption)) (by omega), by first | assumption | exact zbc (by assumption) (by omega) | exact zbc (zbq (by assumption)) (by omega), by first | assumption | exact zbc (by assumption) (by omega) | exact zbc (zbq (by assumption)) (by omega), by first | assumption | exact zbc (by assumption) (by omega) | exact zbc (zbq (by assumption)) (by omega)⟩ (by omega) (saQ rfl) (slQ [1, 0, 0, 0, 0] rfl)
  have h10p := zgr h10
  refine zba 1 rfl (zak rfl (zbd 1 rfl ?_))
  refine zaw (zap ?_)
  refine zaq (zgp ?_)
  refine zaq (zap ?_)
  exact zdb (rs := [.tmp 4]) (vs := [.bool false]) (post := []) rfl ⟨rfl, trivial⟩ rfl (slQ [] rfl) ⟨_, rfl, rfl, fun h => by cases h⟩
 refine ntQ (zal rfl ?_)
 refine zaz (zds ?_)
 refine zag (zav (zaa (reQ 2 rfl ?_)))
 refine zcf (i := 3) (z := .int .i64 0) (bytes := 8) rfl rfl rfl rfl Try.underlying28 (by kernel_rfl) rfl rfl rfl rfl (zac 2 rfl) (zbm _) (by first | omega | (simp only [List.length_append]; omega)) (zbt Z.1 Z.2.1) (zcl Z.1 Z.2.1) (fun _ => rfl) ?_
 intro v34
 refine zam 1 rfl (zcf (i := 3) (z := .int .i64 0) (bytes := 8) rfl rfl rfl rfl Try.underlying28 (by kernel_rfl) rfl rfl rfl rfl (zac 1 rfl) (zbm _) (by first | omega | (simp only [List.length_append]; omega)) (zbt (Z.1 ++ Z.2.1) Z.2.2.1) (zcl (Z.1 ++ Z.2.1) Z.2.2.1) (fun _ => rfl) ?_)
 intro v35
 refine zam 1 rfl (zcf (i := 3) (z := .int .i64 0) (bytes := 8) rfl rfl rfl rfl Try.underlying28 (by kernel_rfl) rfl rfl rfl rfl (zac 0 rfl) (zbm _) (by first | omega | (simp only [List.length_append]; omega)) (zbt ((Z.1 ++ Z.2.1) ++ Z.2.2.1) Z.2.2.2) (zcl ((Z.1 ++ Z.2.1) ++ Z.2.2.1) Z.2.2.2) (fun _ => rfl) ?_)
 intro v36
 refine zba 1 rfl (zaa (zbd 1 rfl (zax ?_)))
 refine lkQ1 (α := Nat) [0, 1, 2, 4, 5, 6, 7, 8, 12, 21, 40] rfl (fun j => [rowE 3 1 (.slice (some ⟨g6, 0, none⟩) ((List.replicate n.ls.length (0 : Int)).length) ((List.replicate n.ls.length (0 : Int)).length)) Z.2.2.2.length (Z.2.2.2.map (Value.int .i64)), rowE 3 1 (.slice (some ⟨g5, 0, none⟩) ((List.replicate n.ss.length (0 : Int)).length) ((List.replicate n.ss.length (0 : Int)).length)) Z.2.2.1.length (Z.2.2.1.map (Value.int .i64)), rowE 3 1 (.slice (some ⟨g4, 0, none⟩) ((List.replicate n.os.length (0 : Int)).length) ((List.replicate n.os.length (0 : Int)).length)) Z.2.1.length (Z.2.1.map (Value.int .i64)), rowE 3 1 v36 ((((Z.1 ++ Z.2.1) ++ Z.2.2.1) ++ Z.2.2.2).length) ((((Z.1 ++ Z.2.1) ++ Z.2.2.1) ++ Z.2.2.2).map (Value.int .i64)), boxE b1 #[.int .i64 n.ins, n.sv, n.lv, n.ov] 30]) (fun j => [(13, .int .i64 (j : Int))]) (fun j => j ≤ (((Z.1 ++ Z.2.1) ++ Z.2.2.1) ++ Z.2.2.2).length) (fun j => (((Z.1 ++ Z.2.1) ++ Z.2.2.1) ++ Z.2.2.2).length - j) 0 (Nat.zero_le _) (saQ rfl) (pfQ rfl) ?_
 intro j hi37
 have hj := hi37
 have hal : (((Z.1 ++ Z.2.1) ++ Z.2.2.1) ++ Z.2.2.2).length ≤ 1000 := by simp only [List.length_append]; omega
 refine zaa (zaa (reQ 2 rfl (hvQ rfl (lnQ rfl rfl rfl (zac 3 rfl)) ?_)))
 refine zbk rfl rfl rfl rfl rfl rfl (fun h38 => ?_) (fun h38 => ?_)
 ·
  refine ntQ (zak rfl (zcn (sbQ (zaa (reQ 2 rfl (hvQ rfl (riQ 1 rfl rfl rfl rfl (zac 3 rfl)) (hvQ rfl (zar (u := .int .i64 ((((Z.1 ++ Z.2.1) ++ Z.2.2.1) ++ Z.2.2.2).getD j 0)) rfl rfl rfl (zac 3 rfl) (zbu (show _ < (((Z.1 ++ Z.2.1) ++ Z.2.2.1) ++ Z.2.2.2).length by omega))) ?_)))))))
  refine zgw rfl rfl rfl rfl rfl rfl (fun h39 => ?_) (fun h39 => ?_)
  ·
   refine ntQ (zak rfl (zbd 1 rfl ?_))
   refine zaw (zaq ?_)
   refine zgp ?_
   refine zaq (zap ?_)
   exact zdb (rs := [.tmp 4]) (vs := [.bool false]) (post := []) rfl ⟨rfl, trivial⟩ rfl (slQ [] rfl) ⟨_, rfl, rfl, fun h => by cases h⟩
  refine ntQ (fsQ rfl (zco (reQ 1 rfl (hvQ rfl (vaQ rfl rfl rfl) (enQ 1 rfl ?_)))))
  exact zcx (j + 1) (by omega) (by omega) (saQ rfl) (pfQ rfl)
 refine ntQ (zal rfl ?_)
 refine zaz (zds ?_)
 refine zag (zav (zbd 1 rfl ?_))
 exact zaw (zdb (rs := [.tmp 4]) (vs := [.bool true]) (post := []) rfl ⟨rfl, trivial⟩ rfl (slQ [] rfl) ⟨_, rfl, rfl, fun _ => ⟨by omega, fun q hq => hall q (by omega)⟩⟩)
theorem Pack_ret (n : Ln) (w : World) (hr : RdsLn w n) (hok : LnOk n) :
   Calls Try.prog 63 #[.agg #[.int .i64 n.ins, n.sv, n.lv, n.ov]] w (Ret w (fun u_ p_ => ∃ (ps : List HP) (bs : List Bk) (bv : Value) (ok : Bool), u_ = .tuple #[bv, .bool ok] ∧ p_ = [bigE ps] ∧ (∀ w, (bigE ps).holds w → RdsBk w bv bs) ∧ bv.oneCell' = true ∧ BsOk bs ∧ bs.length ≤ 64)) := by
 have hso := sml hr.ou
 have hss := hr.sq.small
 have hsl := hr.lt.small
 have hcnt : n.cnt = 1 + n.ins + n.ss.length + n.ls.length := rfl
 have hfst : n.fst = 1 + n.ins + n.ss.length := rfl
 obtain ⟨⟨si0, si1⟩, s2, s3, s4⟩ := hok.sz
 refine zbl (N := 152) (args := [.agg #[.int .i64 n.ins, n.sv, n.lv, n.ov]]) Try.func63 rfl rfl (srQ ?_)
 refine zdt rfl (zcm rfl rfl) ?_
 intro b1
 refine zba 2 rfl (srQ ?_)
 refine zdi rfl (zcb (s := 3) rfl Try.underlying31 rfl) ?_
 intro g2
 refine zba 1 rfl (zfc (hvQ rfl (zao (cs := [.int .i64 n.ins, n.sv, n.lv, n.ov]) rfl rfl rfl rfl rfl (zaj 1 rfl 0 rfl)) ?_))
 refine zdp rfl (zan rfl rfl (fun w hm => zau (by have h9 := zfz n w (hr.below hm.bel); rw [zed hok] at h9; exact h9))) (zba 1 rfl (zal rfl (zcn (zaa (zbd 1 rfl ?_)))))
 refine zax ?_
 refine lkQ3 (α := Nat) (β := Value) (γ := List Bk) [0, 1, 2, 3, 19] rfl (fun i gu bs => [rowE 39 3 gu bs.length (bs.flatMap bkC), boxE b1 #[.int .i64 n.ins, n.sv, n.lv, n.ov] 30]) (fun i gu bs => [(4, gu), (5, .int .i64 (i : Int))]) (fun i gu bs => i ≤ n.ins.toNat ∧ bs.length ≤ 0 + i ∧ BsNil bs) (fun i gu bs => n.ins.toNat - i) 0 _ [] ⟨Nat.zero_le _, Nat.zero_le _, BsNil.nil⟩ (saQ rfl) (pfQ rfl) ?_
 intro i gu bs hi3
 obtain ⟨hi, hlbs, hnbs⟩ := hi3
 refine zaa (zaa (reQ 1 rfl (hvQ rfl (fdQ 0 rfl rfl rfl) (hvQ rfl (zaf rfl rfl rfl (zab 1 rfl rfl)) ?_))))
 refine zbk rfl rfl rfl rfl rfl rfl (fun h4 => ?_) (fun h4 => ?_)
 ·
  refine (zbr (zav (zak rfl (zfh (zav (zaa (zax (zay (zam 2 rfl (hvQ rfl (zcq (cs := #[.int .i64 0, .int .i64 (i : Int), .slice none 0 0]) rfl rfl rfl) ?_))))))))))
  refine zdi rfl (zas (z := .agg #[.int .i64 0, .int .i64 0, .slice none 0 0]) (s := 3) (cs := [.int .i64 0, .int .i64 (i : Int), .slice none 0 0]) rfl Try.underlying31 rfl (by decide) rfl (by kernel_rfl) rfl) ?_
  intro g5
  refine zcf (i := 1) (z := .agg #[.int .i64 0, .int .i64 0, .slice none 0 0]) (bytes := 40) rfl rfl rfl rfl Try.underlying31 (by kernel_rfl) rfl rfl rfl rfl (zac 0 rfl) (by simp [Value.oneCell']) (by first | omega | (simp only [List.length_append, List.length_cons, List.length_nil]; omega)) (zbt bs [(Bk.mk 0 (i : Int) (.slice none 0 0) [])]) (zcp bkC bs (Bk.mk 0 (i : Int) (.slice none 0 0) []) _ rfl) (fun _ => rfl) ?_
  intro v6
  refine enQ 1 rfl (zco (reQ 1 rfl (hvQ rfl (vaQ rfl rfl rfl) (enQ 1 rfl ?_))))
  exact zbh (i + 1) v6 (bs ++ [(Bk.mk 0 (i : Int) (.slice none 0 0) [])]) ⟨by omega, by (try rw [List.length_append, List.length_singleton]); omega, by first | assumption | exact hnbs.app (by decide)⟩ (by omega) (saQ rfl) (slQ [1, 0] rfl)
 refine ntQ (zal rfl ?_)
 refine zaz (zds ?_)
 refine zag (zav (zaa (zbd 1 rfl (zax ?_))))
 refine lkQ3 (α := Nat) (β := Value) (γ := List Bk) [0, 1, 2, 3, 19, 24] rfl (fun j gv cs => [rowE 39 3 gv cs.length (cs.flatMap bkC), boxE b1 #[.int .i64 n.ins, n.sv, n.lv, n.ov] 30]) (fun j gv cs => [(4, gv), (6, .int .i64 (j : Int))]) (fun j gv cs => j ≤ n.os.length ∧ cs.length ≤ 20 + j ∧ BsNil cs) (fun j gv cs => n.os.length - j) 0 _ bs ⟨Nat.zero_le _, by omega, by assumption⟩ (saQ rfl) (pfQ rfl) ?_
 intro j gv cs hi7
 obtain ⟨hj, hlcs, hncs⟩ := hi7
 refine zaa (zaa (reQ 1 rfl (hvQ rfl (fdQ 3 rfl rfl rfl) (hvQ rfl (zaf rfl rfl rfl (zab 1 rfl rfl)) (hvQ rfl (lnQ rfl rfl rfl (zae ((hr).ou))) ?_)))))
 refine zbk rfl rfl rfl rfl rfl rfl (fun h8 => ?_) (fun h8 => ?_)
 ·
  refine (zbr (zav (zak rfl (zfh (zav (zaa (zax (zay (zam 2 rfl (hvQ rfl (zcq (cs := #[.int .i64 1, .int .i64 (j : Int), .slice none 0 0]) rfl rfl rfl) ?_))))))))))
  refine zdi rfl (zas (z := .agg #[.int .i64 0, .int .i64 0, .slice none 0 0]) (s := 3) (cs := [.int .i64 1, .int .i64 (j : Int), .slice none 0 0]) rfl Try.underlying31 rfl (by decide) rfl (by kernel_rfl) rfl) ?_
  intro g9
  refine zcf (i := 1) (z := .agg #[.int .i64 0, .int .i64 0, .slice none 0 0]) (bytes := 40) rfl rfl rfl rfl Try.underlying31 (by kernel_rfl) rfl rfl rfl rfl (zac 0 rfl) (by simp [Value.oneCell']) (by first | omega | (simp only [List.length_append, List.length_cons, List.length_nil]; omega)) (zbt cs [(Bk.mk 1 (j : Int) (.slice none 0 0) [])]) (zcp bkC cs (Bk.mk 1 (j : Int) (.slice none 0 0) []) _ rfl) (fun _ => rfl) ?_
  intro v10
  refine enQ 1 rfl (zco (reQ 1 rfl (hvQ rfl (vaQ rfl rfl rfl) (enQ 1 rfl ?_))))
  exact zbh (j + 1) v10 (cs ++ [(Bk.mk 1 (j : Int) (.slice none 0 0) [])]) ⟨by omega, by (try rw [List.length_append, List.length_singleton]); omega, by first | assumption | exact hncs.app (by decide)⟩ (by omega) (saQ rfl) (slQ [1, 0] rfl)
 refine ntQ (zal rfl ?_)
 refine zaz (zds ?_)
 refine zag (zav (zaa (zbd 1 rfl (zax ?_))))
 refine lkQ3 (α := Nat) (β := Value) (γ := List Bk) [0, 1, 2, 3, 19, 24, 36] rfl (fun k gw ds => [rowE 39 3 gw ds.length (ds.flatMap bkC), boxE b1 #[.int .i64 n.ins, n.sv, n.lv, n.ov] 30]) (fun k gw ds => [(4, gw), (7, .int .i64 (k : Int))]) (fun k gw ds => k ≤ n.ss.length ∧ ds.length ≤ 36 + k ∧ BsNil ds) (fun k gw ds => n.ss.length - k) 0 _ cs ⟨Nat.zero_le _, by omega, by assumption⟩ (saQ rfl) (pfQ rfl) ?_
 intro k gw ds hi11
 obtain ⟨hk, hlds, hnds⟩ := hi11
 refine zaa (zaa (reQ 1 rfl (hvQ rfl (fdQ 1 rfl rfl rfl) (hvQ rfl (zaf rfl rfl rfl (zab 1 rfl rfl)) (hvQ rfl (lnQ rfl rfl rfl (zae ((hr).sq.row))) ?_)))))
 refine zbk rfl rfl rfl rfl rfl rfl (fun h12 => ?_) (fun h12 => ?_)
 ·
  refine ntQ (zak rfl (zcn (sbQ (srQ (hvQ rfl (fdQ 1 rfl rfl rfl) (hvQ rfl (zaf rfl rfl rfl (zab 1 rfl rfl)) (zam 1 rfl (hvQ rfl (riQ 3 rfl rfl rfl rfl (zae ((hr).sq.row))) ?_))))))))
  refine hvQ rfl (zbb (k0 := 0) rfl rfl rfl (zae ((hr).sq.row)) (by omega)) (hvQ rfl (zar (u := .int .i64 ((n.ss.getD k sq0).kd)) rfl rfl rfl (zae ((hr).sq.row)) ((zbv sqC 3 (fun _ => rfl) n.ss sq0 (show k < _ by omega) (by decide)).trans rfl)) ?_)
  refine zby rfl rfl rfl rfl rfl rfl (fun h13 => ?_) (fun h13 => ?_)
  ·
   refine (zbr (zav (zak rfl (zay (zam 2 rfl (hvQ rfl (zcq (cs := #[.int .i64 2, .int .i64 (k : Int), .slice none 0 0]) rfl rfl rfl) ?_))))))
   refine zdi rfl (zas (z := .agg #[.int .i64 0, .int .i64 0, .slice none 0 0]) (s := 3) (cs := [.int .i64 2, .int .i64 (k : Int), .slice none 0 0]) rfl Try.underlying31 rfl (by decide) rfl (by kernel_rfl) rfl) ?_
   intro g14
   refine zcf (i := 1) (z := .agg #[.int .i64 0, .int .i64 0, .slice none 0 0]) (bytes := 40) rfl rfl rfl rfl Try.underlying31 (by kernel_rfl) rfl rfl rfl rfl (zac 0 rfl) (by simp [Value.oneCell']) (by first | omega | (simp only [List.length_append, List.length_cons, List.length_nil]; omega)) (zbt ds [(Bk.mk 2 (k : Int) (.slice none 0 0) [])]) (zcp bkC ds (Bk.mk 2 (k : Int) (.slice none 0 0) []) _ rfl) (fun _ => rfl) ?_
   intro v15
   refine enQ 1 rfl (zco (reQ 1 rfl (hvQ rfl (vaQ rfl rfl rfl) (enQ 1 rfl ?_))))
   exact zbh (k + 1) v15 (ds ++ [(Bk.mk 2 (k : Int) (.slice none 0 0) [])]) ⟨by omega, by (try rw [List.length_append, List.length_singleton]); omega, by first | assumption | exact hnds.app (by decide)⟩ (by omega) (saQ rfl) (slQ [1, 0] rfl)
  refine ntQ (fsQ rfl (zco (reQ 1 rfl (hvQ rfl (vaQ rfl rfl rfl) (enQ 1 rfl ?_)))))
  exact zbh (k + 1) gw ds ⟨by omega, by (try rw [List.length_append, List.length_singleton]); omega, by first | assumption | exact hnds.app (by decide)⟩ (by omega) (saQ rfl) (pfQ rfl)
 refine ntQ (zal rfl ?_)
 refine zaz (zds ?_)
 refine zag (zav (srQ (hvQ rfl (zao (cs := [.int .i64 n.ins, n.sv, n.lv, n.ov]) rfl rfl rfl rfl rfl (zaj 1 rfl 0 rfl)) ?_)))
 refine zfu rfl rfl rfl (zan rfl rfl (fun w hm => l28Les_ret n w (hr.below hm.bel) hok)) ?_
 intro v16 p17 hR18
 obtain ⟨es, rfl, hle, hel⟩ := hR18
 refine zba 1 rfl (zaa (reQ 1 rfl (hvQ rfl (lnQ rfl rfl rfl (zac 0 rfl)) ?_)))
 refine zdi rfl (zej (z := .bool false) (s := 1) (bytes := 1) (n := (List.replicate es.length bl0).length) (cs := ((List.replicate es.length bl0).flatMap blC)) rfl Try.underlying130 rfl (by decide) rfl rfl (by first | (rw [List.length_replicate]; done) | (rw [List.length_replicate]; omega)) (by first | (rw [List.length_replicate]; done) | (rw [List.length_replicate]; omega)) (by rw [List.length_replicate]; omega) (zfg blC 1 (fun _ => rfl) bl0 _ rfl es.length)) ?_
 intro g19
 refine zba 1 rfl (zaa (zbd 1 rfl (zax ?_)))
 refine zfa _ zgg ?_
 refine lkQ4 (α := Nat) (β := Value × List Bk) (γ := List Bl) (δ := List HP) [0, 1, 2, 3, 8, 9, 19, 24, 36, 48] rfl (fun i U D ps => [bigE ps, rowE 4 1 (.slice (some ⟨g19, 0, none⟩) ((List.replicate es.length bl0).length) ((List.replicate es.length bl0).length)) D.length (D.flatMap blC), rowE 70 2 v16 es.length (es.flatMap leC), rowE 39 3 U.1 U.2.length (U.2.flatMap bkC), boxE b1 #[.int .i64 n.ins, n.sv, n.lv, n.ov] 30]) (fun i U D ps => [(4, U.1), (10, .int .i64 (i : Int))]) (fun i U D ps => i ≤ es.length ∧ U.2.length ≤ 64 ∧ BsOk U.2 ∧ D.length = es.length ∧ ∀ w, (bigE ps).holds w → EsR w U.2) (fun i U D ps => es.length - i) 0 (_, ds) (List.replicate es.length bl0) [] ⟨Nat.zero_le _, by show (ds).length ≤ 64; omega, hnds.ok, List.length_replicate, fun w _ => hnds.es w⟩ (saQ rfl) (pfQ rfl) ?_
 intro i U D ps hi20
 obtain ⟨hi, hul, hbo, hdl, hps⟩ := hi20
 refine zaa (zaa (reQ 2 rfl (hvQ rfl (lnQ rfl rfl rfl (zac 2 rfl)) ?_)))
 refine zbk rfl rfl rfl rfl rfl rfl (fun h21 => ?_) (fun h21 => ?_)
 ·
  refine ntQ (zak rfl (zcn (sbQ (zaa (zaa (reQ 2 rfl (hvQ rfl (riQ 1 rfl rfl rfl rfl (zac 1 rfl)) ?_)))))))
  refine hvQ rfl (zar (u := .bool ((D.getD i bl0).b)) rfl rfl rfl (zac 1 rfl) (zcr blC (fun r => .bool r.b) (fun _ => rfl) D bl0 (show i < _ by omega))) (zbx (fun h22 => ?_) (fun h22 => ?_))
  ·
   refine ntQ (zak rfl ?_)
   refine zaz (zct ?_)
   refine zag (zav (reQ 1 rfl (hvQ rfl (vaQ rfl rfl rfl) (enQ 1 rfl ?_))))
   exact zci (i + 1) (U.1, U.2) D ps ⟨by omega, hul, hbo, hdl, hps⟩ (by omega) (saQ rfl) (pfQ rfl)
  refine ntQ (zal rfl (zcn (zaa (zaa (reQ 1 rfl (hvQ rfl (lnQ rfl rfl rfl (zac 3 rfl)) ?_))))))
  refine zby rfl rfl rfl rfl rfl rfl (fun h23 => ?_) (fun h23 => ?_)
  ·
   refine ntQ (zak rfl (srQ ?_))
   refine zdi rfl (zcb (s := 3) rfl Try.underlying31 rfl) ?_
   intro g24
   refine zba 2 rfl ?_
   refine zaw (zap ?_)
   refine zaq (zgp ?_)
   refine zaq (zap ?_)
   refine zbn 6 [5, 4, 3, 2, 1, 0] rfl rfl (by decide) ?_
   refine zcs 1 rfl ?_
   exact zdb (rs := [.tmp 2, .tmp 3]) (vs := [.slice (some ⟨g24, 0, none⟩) 0 0, .bool false]) (post := [bigE [rowE 39 3 (.slice (some ⟨g24, 0, none⟩) 0 0) 0 ([])]]) rfl ⟨rfl, rfl, trivial⟩ rfl (slQ [0] rfl) ⟨_, [], _, _, rfl, rfl, fun w hw => ⟨zcc (zbf hw List.mem_cons_self), (fun b hb => by cases hb)⟩, rfl, (fun b hb => by cases hb), by decide⟩
  refine ntQ (zal rfl (zcn (zbd 1 rfl (srQ ?_))))
  refine zba 1 rfl (zaa (zaa (reQ 1 rfl (hvQ rfl (vaQ rfl rfl rfl) (zba 1 rfl (zax ?_))))))
  refine lkQ3 (α := Nat) (β := Int) (γ := Int) [0, 1, 2, 3, 4, 8, 9, 10, 19, 24, 36, 48, 71, 77, 80] rfl (fun k best most => [bigE ps, rowE 4 1 (.slice (some ⟨g19, 0, none⟩) ((List.replicate es.length bl0).length) ((List.replicate es.length bl0).length)) D.length (D.flatMap blC), rowE 70 2 v16 es.length (es.flatMap leC), rowE 39 3 U.1 U.2.length (U.2.flatMap bkC), boxE b1 #[.int .i64 n.ins, n.sv, n.lv, n.ov] 30]) (fun k best most => [(11, .int .i64 best), (12, .int .i64 most), (13, .int .i64 (k : Int))]) (fun k best most => (i + 1 ≤ k ∧ k ≤ es.length) ∧ (best = -1 ∨ (0 ≤ best ∧ best < es.length))) (fun k best most => es.length - k) (i + 1) _ _ ⟨by omega, .inl rfl⟩ (saQ rfl) (pfQ rfl) ?_
  intro k best most hi25
  obtain ⟨⟨hk0, hk1⟩, hb⟩ := hi25
  refine zaa (zaa (reQ 2 rfl (hvQ rfl (lnQ rfl rfl rfl (zac 2 rfl)) ?_)))
  refine zbk rfl rfl rfl rfl rfl rfl (fun h26 => ?_) (fun h26 => ?_)
  ·
   refine ntQ (zak rfl (zcn (sbQ (zaa (zaa ?_)))))
   rcases Bool.eq_false_or_eq_true ((D.getD k bl0).b) with hb27 | hb27
   ·
    refine zca 19 [[], [], [0, 1], [2], [3], [4], [4], [4], [4], [4], [4], [4], [4], [4], [4], [4], [4], [4], [4, 17]] [90, 91, 92, 93, 94, 95, 96, 97, 98, 99, 100, 101, 102, 103, 104, 105, 106, 107, 108] [.slice (some ⟨g19, 0, none⟩) ((List.replicate es.length bl0).length) ((List.replicate es.length bl0).length), .int .i64 (k : Int), elP (.slice (some ⟨g19, 0, none⟩) ((List.replicate es.length bl0).length) ((List.replicate es.length bl0).length)) (((k : Int)).toNat * 1), .bool true, .bool true, undef, undef, undef, undef, undef, undef, undef, undef, undef, undef, undef, undef, undef, .bool true] (by kernel_rfl) rfl ?_ ?_
    ·
     exact ⟨iaQ rfl (zat rfl) rfl, iaQ rfl (zat rfl) rfl, iaQ rfl (riQ 1 rfl rfl rfl rfl (zac 1 rfl)) rfl, .inl ⟨rfl, zev (zar (u := .bool ((D.getD k bl0).b)) rfl rfl rfl (zac 1 rfl) (zcr blC (fun r => .bool r.b) (fun _ => rfl) D bl0 (show k < _ by omega))) hb27⟩, iaQ rfl (zat rfl) rfl, .inr ⟨rfl, rfl⟩, .inr ⟨rfl, rfl⟩, .inr ⟨rfl, rfl⟩, .inr ⟨rfl, rfl⟩, .inr ⟨rfl, rfl⟩, .inr ⟨rfl, rfl⟩, .inr ⟨rfl, rfl⟩, .inr ⟨rfl, rfl⟩, .inr ⟨rfl, rfl⟩, .inr ⟨rfl, rfl⟩, .inr ⟨rfl, rfl⟩, .inr ⟨rfl, rfl⟩, .inr ⟨rfl, rfl⟩, iaQ rfl (zat rfl) rfl, trivial⟩
    simp only [List.drop_succ_cons, List.drop_zero]
    refine ntQ (zak rfl ?_)
    refine zaz (zct ?_)
    refine zag (zav (reQ 1 rfl (hvQ rfl (vaQ rfl rfl rfl) (enQ 1 rfl ?_))))
    exact zbh (k + 1) _ _ ⟨by omega, by first | exact hb | exact .inr ⟨by omega, by omega⟩⟩ (by omega) (saQ rfl) (pfQ rfl)
   rcases Bool.eq_false_or_eq_true (decide (5 < ((pinsK n [es.getD i le0, es.getD k le0]).length : Int))) with hb32 | hb32
   ·
    have hb32p : 5 < ((pinsK n [es.getD i le0, es.getD k le0]).length : Int) := of_decide_eq_true hb32
    refine zdg rfl 19 [0, 1, 2, 3, 4, 5, 6, 7, 8, 9, 10, 11, 12, 13, 14, 15, 16, 17, 18] (List.take 19 _) (List.drop 19 _) [[], [], [0, 1], [2], [3], [4], [4], [4], [4, 6, 7], [4, 8], [4], [4], [4, 10, 11], [4, 12], [4, 9, 13], [4, 5, 14], [4, 15], [4, 15, 16], [4, 17]] [90, 91, 92, 93, 94, 95, 96, 97, 98, 99, 100, 101, 102, 103, 104, 105, 106, 107, 108] (fun i_ vs_ v_ p_ => match i_ with | 0 => v_ = .slice (some ⟨g19, 0, none⟩) ((List.replicate es.length bl0).length) ((List.replicate es.length bl0).length) ∧ p_ = [] | 1 => v_ = .int .i64 (k : Int) ∧ p_ = [] | 2 => v_ = elP (.slice (some ⟨g19, 0, none⟩) ((List.replicate es.length bl0).length) ((List.replicate es.length bl0).length)) (((k : Int)).toNat * 1) ∧ p_ = [] | 3 => v_ = .bool false ∧ p_ = [] | 4 => v_ = .bool false ∧ p_ = [] | 5 => v_ = .agg #[.int .i64 n.ins, n.sv, n.lv, n.ov] ∧ p_ = [] | 6 => v_ = v16 ∧ p_ = [] | 7 => v_ = .int .i64 (i : Int) ∧ p_ = [] | 8 => v_ = elP v16 (((i : Int)).toNat * 2) ∧ p_ = [] | 9 => v_ = .agg #[.int .i64 ((es.getD i le0).u), .int .i64 ((es.getD i le0).f)] ∧ p_ = [] | 10 => v_ = v16 ∧ p_ = [] | 11 => v_ = .int .i64 (k : Int) ∧ p_ = [] | 12 => v_ = elP v16 (((k : Int)).toNat * 2) ∧ p_ = [] | 13 => v_ = .agg #[.int .i64 ((es.getD k le0).u), .int .i64 ((es.getD k le0).f)] ∧ p_ = [] | 14 => IsRow 70 2 2 ([(es.getD i le0).u, (es.getD i le0).f, (es.getD k le0).u, (es.getD k le0).f].map (Value.int .i64)) v_ p_ | 15 => (fun v' post => post = [rowE 3 1 v' ((pinsK n [es.getD i le0, es.getD k le0])).length (((pinsK n [es.getD i le0, es.getD k le0])).map (Value.int .i64))]) v_ p_ | 16 => v_ = .int .i64 ((pinsK n [es.getD i le0, es.getD k le0]).length : Int) ∧ p_ = [] | 17 => v_ = .bool true ∧ p_ = [] | 18 => v_ = .bool true ∧ p_ = [] | _ => True) (List.take_append_drop 19 _).symm (by kernel_rfl) (by kernel_rfl) rfl rfl ?_ ?_
    ·
     refine ⟨?_, ?_, ?_, ?_, ?_, ?_, ?_, ?_, ?_, ?_, ?_, ?_, ?_, ?_, ?_, ?_, ?_, ?_, ?_, trivial⟩
     ·
      intro vf pf hR
      exact ovQ rfl (zai [9] rfl) (zbe (zat rfl))
     ·
      intro vf pf hR
      exact ovQ rfl (zai [13] rfl) (zbe (zat rfl))
     ·
      intro vf pf hR
      have e0 := hR 0 (by decide)
      have e1 := hR 1 (by decide)
      exact olQ rfl (sk 90 (congrArg some e0.1) (sk 91 (congrArg some e1.1) (zad _))) (zbe (riQ 1 rfl rfl rfl rfl (zac 1 rfl)))
     ·
      intro vf pf hR
      have e2 := hR 2 (by decide)
      exact olQ rfl (sk 92 (congrArg some e2.1) (zad _)) (zcy (zbe (zar (u := .bool ((D.getD k bl0).b)) rfl rfl rfl (zac 1 rfl) (zcr blC (fun r => .bool r.b) (fun _ => rfl) D bl0 (show k < _ by omega)))) (fun _ _ h => ⟨h.1.trans (congrArg Value.bool hb27), h.2⟩))
     ·
      intro vf pf hR
      have e3 := hR 3 (by decide)
      exact ovQ rfl (sk 93 (congrArg some e3.1) (zad _)) (zbe (zat rfl))
     ·
      intro vf pf hR
      have e4 := hR 4 (by decide)
      refine Or.inl ⟨zda (congrArg some e4.1) rfl, ?_⟩
      exact zbo (zai [1] rfl) (List.sublist_append_right _ _) (zbe (zao (cs := [.int .i64 n.ins, n.sv, n.lv, n.ov]) rfl rfl rfl rfl rfl (zaj 4 rfl 0 rfl)))
     ·
      intro vf pf hR
      have e4 := hR 4 (by decide)
      refine Or.inl ⟨zda (congrArg some e4.1) rfl, ?_⟩
      exact zce (zai [8] rfl) (zbe (zat rfl))
     ·
      intro vf pf hR
      have e4 := hR 4 (by decide)
      refine Or.inl ⟨zda (congrArg some e4.1) rfl, ?_⟩
      exact zce (zai [10] rfl) (zbe (zat rfl))
     ·
      intro vf pf hR
      have e4 := hR 4 (by decide)
      have e6 := hR 6 (by decide)
      have e7 := hR 7 (by decide)
      refine Or.inl ⟨zda (congrArg some e4.1) rfl, ?_⟩
      exact zbo (sk 96 (congrArg some e6.1) (sk 97 (congrArg some e7.1) (zad _))) (List.sublist_append_right _ _) (zbe (riQ 2 rfl rfl rfl rfl (zac 2 rfl)))
     ·
      intro vf pf hR
      have e4 := hR 4 (by decide)
      have e8 := hR 8 (by decide)
      refine Or.inl ⟨zda (congrArg some e4.1) rfl, ?_⟩
      exact zbo (sk 98 (congrArg some e8.1) (zad _)) (List.sublist_append_right _ _) (zbe (zcg (us := [.int .i64 ((es.getD i le0).u), .int .i64 ((es.getD i le0).f)]) rfl rfl rfl rfl (zac 2 rfl) (by omega) rfl (zcw leC 2 (fun _ => rfl) es le0 (show i < _ by omega) rfl)))
     ·
      intro vf pf hR
      have e4 := hR 4 (by decide)
      refine Or.inl ⟨zda (congrArg some e4.1) rfl, ?_⟩
      exact zce (zai [8] rfl) (zbe (zat rfl))
     ·
      intro vf pf hR
      have e4 := hR 4 (by decide)
      refine Or.inl ⟨zda (congrArg some e4.1) rfl, ?_⟩
      exact zce (zai [13] rfl) (zbe (zat rfl))
     ·
      intro vf pf hR
      have e4 := hR 4 (by decide)
      have e10 := hR 10 (by decide)
      have e11 := hR 11 (by decide)
      refine Or.inl ⟨zda (congrArg some e4.1) rfl, ?_⟩
      exact zbo (sk 100 (congrArg some e10.1) (sk 101 (congrArg some e11.1) (zad _))) (List.sublist_append_right _ _) (zbe (riQ 2 rfl rfl rfl rfl (zac 2 rfl)))
     ·
      intro vf pf hR
      have e4 := hR 4 (by decide)
      have e12 := hR 12 (by decide)
      refine Or.inl ⟨zda (congrArg some e4.1) rfl, ?_⟩
      exact zbo (sk 102 (congrArg some e12.1) (zad _)) (List.sublist_append_right _ _) (zbe (zcg (us := [.int .i64 ((es.getD k le0).u), .int .i64 ((es.getD k le0).f)]) rfl rfl rfl rfl (zac 2 rfl) (by omega) rfl (zcw leC 2 (fun _ => rfl) es le0 (show k < _ by omega) rfl)))
     ·
      intro vf pf hR
      have e4 := hR 4 (by decide)
      have e9 := hR 9 (by decide)
      have e13 := hR 13 (by decide)
      refine Or.inl ⟨zda (congrArg some e4.1) rfl, ?_⟩
      exact zbo (sk 99 (congrArg some e9.1) (sk 103 (congrArg some e13.1) (zad _))) (List.sublist_append_right _ _) (zas (z := .agg #[.int .i64 0, .int .i64 0]) (s := 2) (cs := ([(es.getD i le0).u, (es.getD i le0).f, (es.getD k le0).u, (es.getD k le0).f].map (Value.int .i64))) rfl Try.underlying37 rfl (by decide) rfl (by kernel_rfl) rfl)
     ·
      intro vf pf hR
      have e4 := hR 4 (by decide)
      have e5 := hR 5 (by decide)
      have e14 : IsRow 70 2 2 ([(es.getD i le0).u, (es.getD i le0).f, (es.getD k le0).u, (es.getD k le0).f].map (Value.int .i64)) (vf 14) (pf 14) := hR 14 (by decide)
      obtain ⟨g33, vE14, pE14⟩ := e14
      refine Or.inl ⟨zda (congrArg some e4.1) rfl, ?_⟩
      exact zcj (sk 95 (congrArg some e5.1) (sk 104 (congrArg some vE14) (zad _))) (by simp only [pE14, vE14, e4.2, e5.2, fS] <;> rfl) (zan rfl rfl (fun w hm => zhc n [es.getD i le0, es.getD k le0] _ w (hr.below hm.bel) hok (zac 0 rfl w hm) (by simp only [List.length_cons, List.length_nil]; omega) (hle.two (by omega) (by omega))))
     ·
      intro vf pf hR
      have e4 := hR 4 (by decide)
      have e15 : (fun v' post => post = [rowE 3 1 v' ((pinsK n [es.getD i le0, es.getD k le0])).length (((pinsK n [es.getD i le0, es.getD k le0])).map (Value.int .i64))]) (vf 15) (pf 15) := hR 15 (by decide)
      obtain ⟨v34, vE15⟩ : ∃ x, vf 15 = x := ⟨_, rfl⟩
      obtain ⟨p35, pE15⟩ : ∃ x, pf 15 = x := ⟨_, rfl⟩
      have hR36 := e15
      rw [vE15, pE15] at hR36
      subst hR36
      refine Or.inl ⟨zda (congrArg some e4.1) rfl, ?_⟩
      exact zcj (sk 105 (congrArg some vE15) (zad _)) (by simp only [pE15, vE15, e4.2, fS] <;> rfl) (zbe (lnQ rfl rfl rfl (zac 0 rfl)))
     ·
      intro vf pf hR
      have e4 := hR 4 (by decide)
      have e15 : (fun v' post => post = [rowE 3 1 v' ((pinsK n [es.getD i le0, es.getD k le0])).length (((pinsK n [es.getD i le0, es.getD k le0])).map (Value.int .i64))]) (vf 15) (pf 15) := hR 15 (by decide)
      obtain ⟨v34, vE15⟩ : ∃ x, vf 15 = x := ⟨_, rfl⟩
      obtain ⟨p35, pE15⟩ : ∃ x, pf 15 = x := ⟨_, rfl⟩
      have hR36 := e15
      rw [vE15, pE15] at hR36
      subst hR36
      have e16 := hR 16 (by decide)
      refine Or.inl ⟨zda (congrArg some e4.1) rfl, ?_⟩
      exact zcj (sk 106 (congrArg some e16.1) (zad _)) (by simp only [pE15, vE15, e4.2, e16.2, fS] <;> rfl) (zcy (zbe (zdf rfl rfl rfl rfl)) (fun _ _ h => ⟨h.1.trans (congrArg Value.bool hb32), h.2⟩))
     intro vf pf hR
     have e4 := hR 4 (by decide)
     have e17 := hR 17 (by decide)
     exact ovQ rfl (sk 94 (congrArg some e4.1) (sk 107 (congrArg some e17.1) (zad _))) (zbe (zat rfl))
    intro vf pf hR
    have e14 : IsRow 70 2 2 ([(es.getD i le0).u, (es.getD i le0).f, (es.getD k le0).u, (es.getD k le0).f].map (Value.int .i64)) (vf 14) (pf 14) := hR 14 (by decide)
    obtain ⟨g33, vE14, pE14⟩ := e14
    have e15 : (fun v' post => post = [rowE 3 1 v' ((pinsK n [es.getD i le0, es.getD k le0])).length (((pinsK n [es.getD i le0, es.getD k le0])).map (Value.int .i64))]) (vf 15) (pf 15) := hR 15 (by decide)
    obtain ⟨v34, vE15⟩ : ∃ x, vf 15 = x := ⟨_, rfl⟩
    obtain ⟨p35, pE15⟩ : ∃ x, pf 15 = x := ⟨_, rfl⟩
    have hR36 := e15
    rw [vE15, pE15] at hR36
    subst hR36
    have e18 := hR 18 (by decide)
    have q0 := hR 0 (by decide)
    have q1 := hR 1 (by decide)
    have q2 := hR 2 (by decide)
    have q3 := hR 3 (by decide)
    have q4 := hR 4 (by decide)
    have q5 := hR 5 (by decide)
    have q6 := hR 6 (by decide)
    have q7 := hR 7 (by decide)
    have q8 := hR 8 (by decide)
    have q9 := hR 9 (by decide)
    have q10 := hR 10 (by decide)
    have q11 := hR 11 (by decide)
    have q12 := hR 12 (by decide)
    have q13 := hR 13 (by decide)
    have q16 := hR 16 (by decide)
    have q17 := hR 17 (by decide)
    have q18 := hR 18 (by decide)
    refine zck (zbj [87, 80, 77, 71, 48, 36, 24, 19, 13, 12, 11, 10, 9, 8, 4, 3, 2, 1, 0] _ (sk 108 (congrArg some e18.1) (zad _)) rfl) (by simp only [pE14, vE14, pE15, vE15, q0.2, q1.2, q2.2, q3.2, q4.2, q5.2, q6.2, q7.2, q8.2, q9.2, q10.2, q11.2, q12.2, q13.2, q16.2, q17.2, q18.2, fS] <;> rfl) ?_
    simp only [List.drop_succ_cons, List.drop_zero]
    refine ntQ (zak rfl ?_)
    refine zaz (zct ?_)
    refine zag (zav (reQ 1 rfl (hvQ rfl (vaQ rfl rfl rfl) (enQ 1 rfl ?_))))
    exact zbh (k + 1) _ _ ⟨by omega, by first | exact hb | exact .inr ⟨by omega, by omega⟩⟩ (by omega) (saQ rfl) (slQ [2, 0, 0, 0, 0] rfl)
   have hb32p : ¬ (5 < ((pinsK n [es.getD i le0, es.getD k le0]).length : Int)) := of_decide_eq_false hb32
   refine zdg rfl 19 [0, 1, 2, 3, 4, 5, 6, 7, 8, 9, 10, 11, 12, 13, 14, 15, 16, 17, 18] (List.take 19 _) (List.drop 19 _) [[], [], [0, 1], [2], [3], [4], [4], [4], [4, 6, 7], [4, 8], [4], [4], [4, 10, 11], [4, 12], [4, 9, 13], [4, 5, 14], [4, 15], [4, 15, 16], [4, 17]] [90, 91, 92, 93, 94, 95, 96, 97, 98, 99, 100, 101, 102, 103, 104, 105, 106, 107, 108] (fun i_ vs_ v_ p_ => match i_ with | 0 => v_ = .slice (some ⟨g19, 0, none⟩) ((List.replicate es.length bl0).length) ((List.replicate es.length bl0).length) ∧ p_ = [] | 1 => v_ = .int .i64 (k : Int) ∧ p_ = [] | 2 => v_ = elP (.slice (some ⟨g19, 0, none⟩) ((List.replicate es.length bl0).length) ((List.replicate es.length bl0).length)) (((k : Int)).toNat * 1) ∧ p_ = [] | 3 => v_ = .bool false ∧ p_ = [] | 4 => v_ = .bool false ∧ p_ = [] | 5 => v_ = .agg #[.int .i64 n.ins, n.sv, n.lv, n.ov] ∧ p_ = [] | 6 => v_ = v16 ∧ p_ = [] | 7 => v_ = .int .i64 (i : Int) ∧ p_ = [] | 8 => v_ = elP v16 (((i : Int)).toNat * 2) ∧ p_ = [] | 9 => v_ = .agg #[.int .i64 ((es.getD i le0).u), .int .i64 ((es.getD i le0).f)] ∧ p_ = [] | 10 => v_ = v16 ∧ p_ = [] | 11 => v_ = .int .i64 (k : Int) ∧ p_ = [] | 12 => v_ = elP v16 (((k : Int)).toNat * 2) ∧ p_ = [] | 13 => v_ = .agg #[.int .i64 ((es.getD k le0).u), .int .i64 ((es.getD k le0).f)] ∧ p_ = [] | 14 => IsRow 70 2 2 ([(es.getD i le0).u, (es.getD i le0).f, (es.getD k le0).u, (es.getD k le0).f].map (Value.int .i64)) v_ p_ | 15 => (fun v' post => post = [rowE 3 1 v' ((pinsK n [es.getD i le0, es.getD k le0])).length (((pinsK n [es.getD i le0, es.getD k le0])).map (Value.int .i64))]) v_ p_ | 16 => v_ = .int .i64 ((pinsK n [es.getD i le0, es.getD k le0]).length : Int) ∧ p_ = [] | 17 => v_ = .bool false ∧ p_ = [] | 18 => v_ = .bool false ∧ p_ = [] | _ => True) (List.take_append_drop 19 _).symm (by kernel_rfl) (by kernel_rfl) rfl rfl ?_ ?_
   ·
    refine ⟨?_, ?_, ?_, ?_, ?_, ?_, ?_, ?_, ?_, ?_, ?_, ?_, ?_, ?_, ?_, ?_, ?_, ?_, ?_, trivial⟩
    ·
     intro vf pf hR
     exact ovQ rfl (zai [9] rfl) (zbe (zat rfl))
    ·
     intro vf pf hR
     exact ovQ rfl (zai [13] rfl) (zbe (zat rfl))
    ·
     intro vf pf hR
     have e0 := hR 0 (by decide)
     have e1 := hR 1 (by decide)
     exact olQ rfl (sk 90 (congrArg some e0.1) (sk 91 (congrArg some e1.1) (zad _))) (zbe (riQ 1 rfl rfl rfl rfl (zac 1 rfl)))
    ·
     intro vf pf hR
     have e2 := hR 2 (by decide)
     exact olQ rfl (sk 92 (congrArg some e2.1) (zad _)) (zcy (zbe (zar (u := .bool ((D.getD k bl0).b)) rfl rfl rfl (zac 1 rfl) (zcr blC (fun r => .bool r.b) (fun _ => rfl) D bl0 (show k < _ by omega)))) (fun _ _ h => ⟨h.1.trans (congrArg Value.bool hb27), h.2⟩))
    ·
     intro vf pf hR
     have e3 := hR 3 (by decide)
     exact ovQ rfl (sk 93 (congrArg some e3.1) (zad _)) (zbe (zat rfl))
    ·
     intro vf pf hR
     have e4 := hR 4 (by decide)
     refine Or.inl ⟨zda (congrArg some e4.1) rfl, ?_⟩
     exact zbo (zai [1] rfl) (List.sublist_append_right _ _) (zbe (zao (cs := [.int .i64 n.ins, n.sv, n.lv, n.ov]) rfl rfl rfl rfl rfl (zaj 4 rfl 0 rfl)))
    ·
     intro vf pf hR
     have e4 := hR 4 (by decide)
     refine Or.inl ⟨zda (congrArg some e4.1) rfl, ?_⟩
     exact zce (zai [8] rfl) (zbe (zat rfl))
    ·
     intro vf pf hR
     have e4 := hR 4 (by decide)
     refine Or.inl ⟨zda (congrArg some e4.1) rfl, ?_⟩
     exact zce (zai [10] rfl) (zbe (zat rfl))
    ·
     intro vf pf hR
     have e4 := hR 4 (by decide)
     have e6 := hR 6 (by decide)
     have e7 := hR 7 (by decide)
     refine Or.inl ⟨zda (congrArg some e4.1) rfl, ?_⟩
     exact zbo (sk 96 (congrArg some e6.1) (sk 97 (congrArg some e7.1) (zad _))) (List.sublist_append_right _ _) (zbe (riQ 2 rfl rfl rfl rfl (zac 2 rfl)))
    ·
     intro vf pf hR
     have e4 := hR 4 (by decide)
     have e8 := hR 8 (by decide)
     refine Or.inl ⟨zda (congrArg some e4.1) rfl, ?_⟩
     exact zbo (sk 98 (congrArg some e8.1) (zad _)) (List.sublist_append_right _ _) (zbe (zcg (us := [.int .i64 ((es.getD i le0).u), .int .i64 ((es.getD i le0).f)]) rfl rfl rfl rfl (zac 2 rfl) (by omega) rfl (zcw leC 2 (fun _ => rfl) es le0 (show i < _ by omega) rfl)))
    ·
     intro vf pf hR
     have e4 := hR 4 (by decide)
     refine Or.inl ⟨zda (congrArg some e4.1) rfl, ?_⟩
     exact zce (zai [8] rfl) (zbe (zat rfl))
    ·
     intro vf pf hR
     have e4 := hR 4 (by decide)
     refine Or.inl ⟨zda (congrArg some e4.1) rfl, ?_⟩
     exact zce (zai [13] rfl) (zbe (zat rfl))
    ·
     intro vf pf hR
     have e4 := hR 4 (by decide)
     have e10 := hR 10 (by decide)
     have e11 := hR 11 (by decide)
     refine Or.inl ⟨zda (congrArg some e4.1) rfl, ?_⟩
     exact zbo (sk 100 (congrArg some e10.1) (sk 101 (congrArg some e11.1) (zad _))) (List.sublist_append_right _ _) (zbe (riQ 2 rfl rfl rfl rfl (zac 2 rfl)))
    ·
     intro vf pf hR
     have e4 := hR 4 (by decide)
     have e12 := hR 12 (by decide)
     refine Or.inl ⟨zda (congrArg some e4.1) rfl, ?_⟩
     exact zbo (sk 102 (congrArg some e12.1) (zad _)) (List.sublist_append_right _ _) (zbe (zcg (us := [.int .i64 ((es.getD k le0).u), .int .i64 ((es.getD k le0).f)]) rfl rfl rfl rfl (zac 2 rfl) (by omega) rfl (zcw leC 2 (fun _ => rfl) es le0 (show k < _ by omega) rfl)))
    ·
     intro vf pf hR
     have e4 := hR 4 (by decide)
     have e9 := hR 9 (by decide)
     have e13 := hR 13 (by decide)
     refine Or.inl ⟨zda (congrArg some e4.1) rfl, ?_⟩
     exact zbo (sk 99 (congrArg some e9.1) (sk 103 (congrArg some e13.1) (zad _))) (List.sublist_append_right _ _) (zas (z := .agg #[.int .i64 0, .int .i64 0]) (s := 2) (cs := ([(es.getD i le0).u, (es.getD i le0).f, (es.getD k le0).u, (es.getD k le0).f].map (Value.int .i64))) rfl Try.underlying37 rfl (by decide) rfl (by kernel_rfl) rfl)
    ·
     intro vf pf hR
     have e4 := hR 4 (by decide)
     have e5 := hR 5 (by decide)
     have e14 : IsRow 70 2 2 ([(es.getD i le0).u, (es.getD i le0).f, (es.getD k le0).u, (es.getD k le0).f].map (Value.int .i64)) (vf 14) (pf 14) := hR 14 (by decide)
     obtain ⟨g37, vE14, pE14⟩ := e14
     refine Or.inl ⟨zda (congrArg some e4.1) rfl, ?_⟩
     exact zcj (sk 95 (congrArg some e5.1) (sk 104 (congrArg some vE14) (zad _))) (by simp only [pE14, vE14, e4.2, e5.2, fS] <;> rfl) (zan rfl rfl (fun w hm => zhc n [es.getD i le0, es.getD k le0] _ w (hr.below hm.bel) hok (zac 0 rfl w hm) (by simp only [List.length_cons, List.length_nil]; omega) (hle.two (by omega) (by omega))))
    ·
     intro vf pf hR
     have e4 := hR 4 (by decide)
     have e15 : (fun v' post => post = [rowE 3 1 v' ((pinsK n [es.getD i le0, es.getD k le0])).length (((pinsK n [es.getD i le0, es.getD k le0])).map (Value.int .i64))]) (vf 15) (pf 15) := hR 15 (by decide)
     obtain ⟨v38, vE15⟩ : ∃ x, vf 15 = x := ⟨_, rfl⟩
     obtain ⟨p39, pE15⟩ : ∃ x, pf 15 = x := ⟨_, rfl⟩
     have hR40 := e15
     rw [vE15, pE15] at hR40
     subst hR40
     refine Or.inl ⟨zda (congrArg some e4.1) rfl, ?_⟩
     exact zcj (sk 105 (congrArg some vE15) (zad _)) (by simp only [pE15, vE15, e4.2, fS] <;> rfl) (zbe (lnQ rfl rfl rfl (zac 0 rfl)))
    ·
     intro vf pf hR
     have e4 := hR 4 (by decide)
     have e15 : (fun v' post => post = [rowE 3 1 v' ((pinsK n [es.getD i le0, es.getD k le0])).length (((pinsK n [es.getD i le0, es.getD k le0])).map (Value.int .i64))]) (vf 15) (pf 15) := hR 15 (by decide)
     obtain ⟨v38, vE15⟩ : ∃ x, vf 15 = x := ⟨_, rfl⟩
     obtain ⟨p39, pE15⟩ : ∃ x, pf 15 = x := ⟨_, rfl⟩
     have hR40 := e15
     rw [vE15, pE15] at hR40
     subst hR40
     have e16 := hR 16 (by decide)
     refine Or.inl ⟨zda (congrArg some e4.1) rfl, ?_⟩
     exact zcj (sk 106 (congrArg some e16.1) (zad _)) (by simp only [pE15, vE15, e4.2, e16.2, fS] <;> rfl) (zcy (zbe (zdf rfl rfl rfl rfl)) (fun _ _ h => ⟨h.1.trans (congrArg Value.bool hb32), h.2⟩))
    intro vf pf hR
    have e4 := hR 4 (by decide)
    have e17 := hR 17 (by decide)
    exact ovQ rfl (sk 94 (congrArg some e4.1) (sk 107 (congrArg some e17.1) (zad _))) (zbe (zat rfl))
   intro vf pf hR
   have e14 : IsRow 70 2 2 ([(es.getD i le0).u, (es.getD i le0).f, (es.getD k le0).u, (es.getD k le0).f].map (Value.int .i64)) (vf 14) (pf 14) := hR 14 (by decide)
   obtain ⟨g37, vE14, pE14⟩ := e14
   have e15 : (fun v' post => post = [rowE 3 1 v' ((pinsK n [es.getD i le0, es.getD k le0])).length (((pinsK n [es.getD i le0, es.getD k le0])).map (Value.int .i64))]) (vf 15) (pf 15) := hR 15 (by decide)
   obtain ⟨v38, vE15⟩ : ∃ x, vf 15 = x := ⟨_, rfl⟩
   obtain ⟨p39, pE15⟩ : ∃ x, pf 15 = x := ⟨_, rfl⟩
   have hR40 := e15
   rw [vE15, pE15] at hR40
   subst hR40
   have e18 := hR 18 (by decide)
   have q0 := hR 0 (by decide)
   have q1 := hR 1 (by decide)
   have q2 := hR 2 (by decide)
   have q3 := hR 3 (by decide)
   have q4 := hR 4 (by decide)
   have q5 := hR 5 (by decide)
   have q6 := hR 6 (by decide)
   have q7 := hR 7 (by decide)
   have q8 := hR 8 (by decide)
   have q9 := hR 9 (by decide)
   have q10 := hR 10 (by decide)
   have q11 := hR 11 (by decide)
   have q12 := hR 12 (by decide)
   have q13 := hR 13 (by decide)
   have q16 := hR 16 (by decide)
   have q17 := hR 17 (by decide)
   have q18 := hR 18 (by decide)
   refine zck (zbj [87, 80, 77, 71, 48, 36, 24, 19, 13, 12, 11, 10, 9, 8, 4, 3, 2, 1, 0] _ (sk 108 (congrArg some e18.1) (zad _)) rfl) (by simp only [pE14, vE14, pE15, vE15, q0.2, q1.2, q2.2, q3.2, q4.2, q5.2, q6.2, q7.2, q8.2, q9.2, q10.2, q11.2, q12.2, q13.2, q16.2, q17.2, q18.2, fS] <;> rfl) ?_
   simp only [List.drop_succ_cons, List.drop_zero]
   refine ntQ (zal rfl (zcn (zaa ?_)))
   refine zca 10 [[], [], [], [1, 2], [3], [], [], [5, 6], [7], [0, 4, 8]] [109, 110, 111, 112, 113, 114, 115, 116, 117, 118] [.agg #[.int .i64 n.ins, n.sv, n.lv, n.ov], v16, .int .i64 (i : Int), elP v16 (((i : Int)).toNat * 2), .agg #[.int .i64 ((es.getD i le0).u), .int .i64 ((es.getD i le0).f)], v16, .int .i64 (k : Int), elP v16 (((k : Int)).toNat * 2), .agg #[.int .i64 ((es.getD k le0).u), .int .i64 ((es.getD k le0).f)], .int .i64 (comK n (es.getD i le0) (es.getD k le0))] (by kernel_rfl) rfl ?_ ?_
   ·
    exact ⟨iaQ rfl (zao (cs := [.int .i64 n.ins, n.sv, n.lv, n.ov]) rfl rfl rfl rfl rfl (zaj 6 rfl 0 rfl)) rfl, iaQ rfl (zat rfl) rfl, iaQ rfl (zat rfl) rfl, iaQ rfl (riQ 2 rfl rfl rfl rfl (zac 4 rfl)) rfl, iaQ rfl (zcg (us := [.int .i64 ((es.getD i le0).u), .int .i64 ((es.getD i le0).f)]) rfl rfl rfl rfl (zac 4 rfl) (by omega) rfl (zcw leC 2 (fun _ => rfl) es le0 (show i < _ by omega) rfl)) rfl, iaQ rfl (zat rfl) rfl, iaQ rfl (zat rfl) rfl, iaQ rfl (riQ 2 rfl rfl rfl rfl (zac 4 rfl)) rfl, iaQ rfl (zcg (us := [.int .i64 ((es.getD k le0).u), .int .i64 ((es.getD k le0).f)]) rfl rfl rfl rfl (zac 4 rfl) (by omega) rfl (zcw leC 2 (fun _ => rfl) es le0 (show k < _ by omega) rfl)) rfl, .inl ⟨rfl, zan rfl rfl (fun w hm => zau (l28Common_ans n (es.getD i le0) (es.getD k le0) w (hr.below hm.bel) hok (hle _ (by omega)) (hle _ (by omega))))⟩, trivial⟩
   simp only [List.drop_succ_cons, List.drop_zero]
   refine zba 1 rfl (zaa (reQ 2 rfl ?_))
   refine zff rfl rfl rfl rfl rfl rfl (fun h41 => ?_) (fun h41 => ?_)
   ·
    refine ntQ (zak rfl (zbd 2 rfl (zay (enQ 2 rfl ?_))))
    refine incQ rfl rfl rfl rfl rfl rfl ?_
    exact zbh (k + 1) _ _ ⟨by omega, by first | exact hb | exact .inr ⟨by omega, by omega⟩⟩ (by omega) (saQ rfl) (slQ [2, 0, 0, 0, 0] rfl)
   refine ntQ (fsQ rfl (zco (reQ 1 rfl (hvQ rfl (vaQ rfl rfl rfl) (enQ 1 rfl ?_)))))
   exact zbh (k + 1) _ _ ⟨by omega, by first | exact hb | exact .inr ⟨by omega, by omega⟩⟩ (by omega) (saQ rfl) (slQ [2, 0, 0, 0, 0] rfl)
  refine ntQ (zal rfl ?_)
  refine zaz (zds ?_)
  refine zag (zav (zaa (reQ 2 rfl (hvQ rfl (riQ 2 rfl rfl rfl rfl (zac 2 rfl)) ?_))))
  refine hvQ rfl (zcg (us := [.int .i64 ((es.getD i le0).u), .int .i64 ((es.getD i le0).f)]) rfl rfl rfl rfl (zac 2 rfl) (by omega) rfl (zcw leC 2 (fun _ => rfl) es le0 (show i < _ by omega) rfl)) (zdi rfl (zas (z := .agg #[.int .i64 0, .int .i64 0]) (s := 2) (cs := ([(es.getD i le0).u, (es.getD i le0).f].map (Value.int .i64))) rfl Try.underlying37 rfl (by decide) rfl (by kernel_rfl) rfl) ?_)
  intro g42
  refine hvQ rfl (zcq (cs := #[.int .i64 3, .int .i64 0, .slice (some ⟨g42, 0, none⟩) 1 1]) rfl rfl rfl) (zdt rfl (zbw (z := .agg #[.int .i64 0, .int .i64 0, .slice none 0 0]) rfl rfl) ?_)
  intro b43
  refine zcd (cs' := #[.int .i64 3, .int .i64 0, .slice (some ⟨g42, 0, none⟩) 1 1]) (i := 0) (off := 0) (us := [.int .i64 3, .int .i64 0, .slice (some ⟨g42, 0, none⟩) 1 1]) rfl rfl rfl rfl rfl rfl rfl (zah rfl (zah rfl (zah rfl zbp))) rfl rfl rfl (ntQ (zfc ?_))
  refine zdz (l' := [boxE b43 #[.int .i64 3, .int .i64 0, .slice (some ⟨g42, 0, none⟩) 1 1] 39, rowE 70 2 (.slice (some ⟨g42, 0, none⟩) 1 1) (([es.getD i le0]).length) (([es.getD i le0]).flatMap leC), bigE ps, rowE 4 1 (.slice (some ⟨g19, 0, none⟩) ((List.replicate es.length bl0).length) ((List.replicate es.length bl0).length)) D.length (D.flatMap blC), rowE 70 2 v16 es.length (es.flatMap leC), rowE 39 3 U.1 U.2.length (U.2.flatMap bkC), boxE b1 #[.int .i64 n.ins, n.sv, n.lv, n.ov] 30]) rfl ?_
  refine zam 1 rfl (zdo rfl rfl rfl rfl rfl rfl (fun h44 => ?_) (fun h44 => ?_))
  ·
   refine ntQ (zak rfl (zaa ?_))
   refine zdg rfl 7 [0, 1, 2, 3, 4, 5, 6] (List.take 7 _) (List.drop 7 _) [[], [0], [], [], [2, 3], [4], [5]] [132, 133, 134, 135, 136, 137, 138] (fun i_ vs_ v_ p_ => match i_ with | 0 => v_ = .pointer (some ⟨b43, 0 + 2, none⟩) ∧ p_ = [] | 1 => v_ = .slice (some ⟨g42, 0, none⟩) 1 1 ∧ p_ = [] | 2 => v_ = v16 ∧ p_ = [] | 3 => v_ = .int .i64 best ∧ p_ = [] | 4 => v_ = elP v16 ((best).toNat * 2) ∧ p_ = [] | 5 => v_ = .agg #[.int .i64 ((es.getD ((best).toNat) le0).u), .int .i64 ((es.getD ((best).toNat) le0).f)] ∧ p_ = [] | 6 => IsRow 70 2 1 ([(es.getD ((best).toNat) le0).u, (es.getD ((best).toNat) le0).f].map (Value.int .i64)) v_ p_ | _ => True) (List.take_append_drop 7 _).symm (by kernel_rfl) (by kernel_rfl) rfl rfl ?_ ?_
   ·
    refine ⟨?_, ?_, ?_, ?_, ?_, ?_, ?_, trivial⟩
    ·
     intro vf pf hR
     exact ovQ rfl (zai [15] rfl) (zbe (fdQ 2 rfl rfl rfl))
    ·
     intro vf pf hR
     have e0 := hR 0 (by decide)
     exact olQ rfl (sk 132 (congrArg some e0.1) (zad _)) (zbe (zaf rfl rfl rfl (zab 0 rfl rfl)))
    ·
     intro vf pf hR
     exact ovQ rfl (zai [8] rfl) (zbe (zat rfl))
    ·
     intro vf pf hR
     exact ovQ rfl (zai [11] rfl) (zbe (zat rfl))
    ·
     intro vf pf hR
     have e2 := hR 2 (by decide)
     have e3 := hR 3 (by decide)
     exact olQ rfl (sk 134 (congrArg some e2.1) (sk 135 (congrArg some e3.1) (zad _))) (zbe (riQ 2 rfl rfl rfl rfl (zac 4 rfl)))
    ·
     intro vf pf hR
     have e4 := hR 4 (by decide)
     exact olQ rfl (sk 136 (congrArg some e4.1) (zad _)) (zbe (zcg (us := [.int .i64 ((es.getD ((best).toNat) le0).u), .int .i64 ((es.getD ((best).toNat) le0).f)]) rfl rfl rfl rfl (zac 4 rfl) (by omega) rfl (zcw leC 2 (fun _ => rfl) es le0 (show (best).toNat < _ by omega) rfl)))
    intro vf pf hR
    have e5 := hR 5 (by decide)
    exact olQ rfl (sk 137 (congrArg some e5.1) (zad _)) (zas (z := .agg #[.int .i64 0, .int .i64 0]) (s := 2) (cs := ([(es.getD ((best).toNat) le0).u, (es.getD ((best).toNat) le0).f].map (Value.int .i64))) rfl Try.underlying37 rfl (by decide) rfl (by kernel_rfl) rfl)
   intro vf pf hR
   have e1 := hR 1 (by decide)
   have e6 : IsRow 70 2 1 ([(es.getD ((best).toNat) le0).u, (es.getD ((best).toNat) le0).f].map (Value.int .i64)) (vf 6) (pf 6) := hR 6 (by decide)
   obtain ⟨g45, vE6, pE6⟩ := e6
   have q0 := hR 0 (by decide)
   have q1 := hR 1 (by decide)
   have q2 := hR 2 (by decide)
   have q3 := hR 3 (by decide)
   have q4 := hR 4 (by decide)
   have q5 := hR 5 (by decide)
   refine zck (zbj [131, 87, 80, 77, 71, 48, 36, 24, 19, 15, 13, 12, 11, 10, 9, 8, 4, 3, 2, 1, 0] _ (sk 133 (congrArg some e1.1) (sk 138 (congrArg some vE6) (zad _))) rfl) (by simp only [pE6, vE6, q0.2, q1.2, q2.2, q3.2, q4.2, q5.2, fS] <;> rfl) ?_
   simp only [List.drop_succ_cons, List.drop_zero]
   refine zcf (i := 2) (z := .agg #[.int .i64 0, .int .i64 0]) (bytes := 16) rfl rfl rfl rfl Try.underlying37 (by kernel_rfl) rfl rfl rfl rfl (zac 0 rfl) (zbm _) (by first | omega | (simp only [List.length_append, List.length_cons, List.length_nil]; omega)) (zbt ([es.getD i le0]) [(Le.mk ((es.getD ((best).toNat) le0).u) ((es.getD ((best).toNat) le0).f))]) (zcp leC ([es.getD i le0]) (Le.mk ((es.getD ((best).toNat) le0).u) ((es.getD ((best).toNat) le0).f)) _ rfl) (fun _ => rfl) ?_
   intro v46
   refine hvQ rfl (fdQ 2 rfl rfl rfl) (zdn (i := 2) rfl (fun ho47 => ?_))
   refine zfj (i := 1) (cs' := #[.int .i64 3, .int .i64 0, v46]) rfl rfl rfl rfl rfl rfl ho47 rfl rfl rfl rfl (ntQ (reQ 2 rfl (hvQ rfl (riQ 1 rfl rfl rfl rfl (zac 4 rfl)) ?_)))
   refine zcu (i := 4) (n' := (D.set ((best).toNat) { D.getD ((best).toNat) bl0 with b := true }).length) rfl rfl rfl rfl rfl rfl rfl rfl (by first | omega | (simp only [List.length_set]; omega)) List.length_set.symm (zdh blC (fun r => .bool r.b) (fun _ => rfl) _ ({ D.getD ((best).toNat) bl0 with b := true }) rfl) rfl (ntQ (reQ 1 rfl (hvQ rfl (zao (cs := [.int .i64 3, .int .i64 0, v46]) rfl rfl rfl rfl rfl (zaj 1 rfl 0 rfl)) ?_)))
   refine zdi rfl (zas (z := .agg #[.int .i64 0, .int .i64 0, .slice none 0 0]) (s := 3) (cs := [.int .i64 3, .int .i64 0, v46]) rfl Try.underlying31 rfl (by decide) rfl (by kernel_rfl) rfl) ?_
   intro g48
   refine zcf (i := 7) (z := .agg #[.int .i64 0, .int .i64 0, .slice none 0 0]) (bytes := 40) rfl rfl rfl rfl Try.underlying31 (by kernel_rfl) rfl rfl rfl rfl (zac 0 rfl) (zah rfl (zah rfl (zah ho47 zbp))) (by first | omega | (simp only [List.length_append, List.length_cons, List.length_nil]; omega)) (zbt U.2 [(Bk.mk 3 0 v46 (([es.getD i le0]) ++ [(Le.mk ((es.getD ((best).toNat) le0).u) ((es.getD ((best).toNat) le0).f))]))]) (zcp bkC U.2 (Bk.mk 3 0 v46 (([es.getD i le0]) ++ [(Le.mk ((es.getD ((best).toNat) le0).u) ((es.getD ((best).toNat) le0).f))])) _ rfl) (fun _ => rfl) ?_
   intro v49
   refine enQ 1 rfl (zco (reQ 1 rfl (hvQ rfl (vaQ rfl rfl rfl) (enQ 1 rfl ?_))))
   refine zbn 9 [8, 7, 6, 5, 3, 4] rfl rfl (by decide) ?_
   refine zcs 2 rfl ?_
   exact zci (i + 1) (v49, U.2 ++ [(Bk.mk 3 0 v46 (([es.getD i le0]) ++ [(Le.mk ((es.getD ((best).toNat) le0).u) ((es.getD ((best).toNat) le0).f))]))]) (D.set ((best).toNat) { D.getD ((best).toNat) bl0 with b := true }) [bigE ps, rowE 70 2 v46 ((([es.getD i le0]) ++ [(Le.mk ((es.getD ((best).toNat) le0).u) ((es.getD ((best).toNat) le0).f))]).length) ((([es.getD i le0]) ++ [(Le.mk ((es.getD ((best).toNat) le0).u) ((es.getD ((best).toNat) le0).f))]).flatMap leC)] ⟨by omega, by show List.length (_ ++ [_]) ≤ 64; rw [List.length_append, List.length_singleton]; omega, hbo.app ⟨by dsimp only; decide, by simp⟩, by first | assumption | (rw [List.length_set]; assumption), fun w hw => (hps w (zbf hw List.mem_cons_self)).app (zcc (zbf hw (List.mem_cons_of_mem _ List.mem_cons_self)))⟩ (by omega) (saQ rfl) (pfQ rfl)
  refine ntQ (zal rfl (zcn (reQ 1 rfl (hvQ rfl (zao (cs := [.int .i64 3, .int .i64 0, .slice (some ⟨g42, 0, none⟩) 1 1]) rfl rfl rfl rfl rfl (zaj 0 rfl 0 rfl)) ?_))))
  refine zdi rfl (zas (z := .agg #[.int .i64 0, .int .i64 0, .slice none 0 0]) (s := 3) (cs := [.int .i64 3, .int .i64 0, .slice (some ⟨g42, 0, none⟩) 1 1]) rfl Try.underlying31 rfl (by decide) rfl (by kernel_rfl) rfl) ?_
  intro g50
  refine zcf (i := 6) (z := .agg #[.int .i64 0, .int .i64 0, .slice none 0 0]) (bytes := 40) rfl rfl rfl rfl Try.underlying31 (by kernel_rfl) rfl rfl rfl rfl (zac 0 rfl) (by simp [Value.oneCell']) (by first | omega | (simp only [List.length_append, List.length_cons, List.length_nil]; omega)) (zbt U.2 [(Bk.mk 3 0 (.slice (some ⟨g42, 0, none⟩) 1 1) ([es.getD i le0]))]) (zcp bkC U.2 (Bk.mk 3 0 (.slice (some ⟨g42, 0, none⟩) 1 1) ([es.getD i le0])) _ rfl) (fun _ => rfl) ?_
  intro v51
  refine enQ 1 rfl (zco (reQ 1 rfl (hvQ rfl (vaQ rfl rfl rfl) (enQ 1 rfl ?_))))
  refine zbn 8 [7, 6, 5, 4, 2, 3] rfl rfl (by decide) ?_
  refine zcs 2 rfl ?_
  exact zci (i + 1) (v51, U.2 ++ [(Bk.mk 3 0 (.slice (some ⟨g42, 0, none⟩) 1 1) ([es.getD i le0]))]) D [bigE ps, rowE 70 2 (.slice (some ⟨g42, 0, none⟩) 1 1) (([es.getD i le0]).length) (([es.getD i le0]).flatMap leC)] ⟨by omega, by show List.length (_ ++ [_]) ≤ 64; rw [List.length_append, List.length_singleton]; omega, hbo.app ⟨by dsimp only; decide, by simp⟩, by first | assumption | (rw [List.length_set]; assumption), fun w hw => (hps w (zbf hw List.mem_cons_self)).app (zcc (zbf hw (List.mem_cons_of_mem _ List.mem_cons_self)))⟩ (by omega) (saQ rfl) (pfQ rfl)
 refine ntQ (zal rfl ?_)
 refine zaz (zds ?_)
 refine zag (zav (zaa (reQ 2 rfl (hvQ rfl (lnQ rfl rfl rfl (zac 3 rfl)) ?_))))
 refine hl_leq rfl rfl rfl rfl rfl rfl (fun h52 => ?_) (fun h52 => absurd h52 (by omega))
 refine zba 2 rfl ?_
 refine zaw (zdw (fun w hm => (zac 3 rfl w hm).one) (fun ho => ?_))
 refine zbn 5 [4, 2, 1, 0, 3] rfl rfl (by decide) ?_
 refine zcs 2 rfl ?_
 exact zdb (rs := [.tmp 2, .tmp 3]) (vs := [U.1, .bool true]) (post := [bigE [rowE 39 3 U.1 U.2.length (U.2.flatMap bkC), bigE ps]]) rfl ⟨rfl, rfl, trivial⟩ rfl (slQ [0] rfl) ⟨_, U.2, _, _, rfl, rfl, fun w hw => ⟨zcc (zbf hw List.mem_cons_self), hps w (zbf hw (List.mem_cons_of_mem _ List.mem_cons_self))⟩, ho, hbo, hul⟩
theorem k4' {d : Dev} {t : Int} (h : (((t % d.W == 0) = true ∨ (t / d.W == 0) = true) ∨ (t % d.W == d.W - 1) = true) ∨ (t / d.W == d.H - 1) = true) : 0 = kindI d t := by
  rcases h with ((h | h) | h) | h
  · exact k4 (.inl (.inl (.inl h)))
  · exact k4 (.inl (.inr h))
  · exact k4 (.inl (.inl (.inr h)))
  · exact k4 (.inr h)
theorem k5' {d : Dev} {t : Int} (h : (((t % d.W == 0) = false ∧ (t / d.W == 0) = false) ∧ (t % d.W == d.W - 1) = false) ∧ (t / d.W == d.H - 1) = false) (h2 : (t % d.W == d.R) = true) : 2 = kindI d t :=
  k5 ⟨⟨⟨h.1.1.1, h.1.2⟩, h.1.1.2⟩, h.2⟩ h2
theorem k6' {d : Dev} {t : Int} (h : (((t % d.W == 0) = false ∧ (t / d.W == 0) = false) ∧ (t % d.W == d.W - 1) = false) ∧ (t / d.W == d.H - 1) = false) (h2 : (t % d.W == d.R) = false) : 1 = kindI d t :=
  k6 ⟨⟨⟨h.1.1.1, h.1.2⟩, h.1.1.2⟩, h.2⟩ h2
theorem specTileKind_any (d : Dev) (t : Int) (w : World) :
    Calls Try.prog 45 #[.agg #[.int .i64 d.W, .int .i64 d.H, .int .i64 d.T, .int .i64 d.R], .int .i64 t] w fun e w' => e = .returned (.int .i64 (tileKindI d t)) ∧ Below w.heap.size w w' := by
  rcases Bool.eq_false_or_eq_true (devB d) with hv | hv
  rotate_left
  · have hf := Lib.hid (show tileKindI d t = -1 from if_neg (by simp [tOk, hv]))
    have hS0 := devS_start w d
    have HS0 := Lib.hid hS0
    go_enter Try.func45, Try.ntmps45
    go_wp2_with fail
    refine (zer d _).mono ?_
    rintro e w1 ⟨rfl, hb1⟩
    have hS1 := devS_step HS0.out hb1
    have HS1 := Lib.hid hS1
    clear hS0
    obtain ⟨c0, c1, c2, c3, -⟩ := hS1
    clear hb1
    have hz1 : w.heap.size < w1.heap.size := World.block_lt_of_cell? _ _ c0
    go_wp2
    go_ret
    exact ⟨rt_int hf.out.symm, devS_end HS1.out⟩
  obtain ⟨m1, m2⟩ := area_le hv
  obtain ⟨⟨a1, a2⟩, ⟨b1, b2⟩, -, -⟩ := (zeq d).1 hv
  by_cases h0 : t < 0
  · have hf := Lib.hid (show tileKindI d t = -1 from if_neg (by rw [zgo]; omega))
    have hS0 := devS_start w d
    have HS0 := Lib.hid hS0
    go_enter Try.func45, Try.ntmps45
    go_wp2_with fail
    refine (zer d _).mono ?_
    rintro e w1 ⟨rfl, hb1⟩
    have hS1 := devS_step HS0.out hb1
    have HS1 := Lib.hid hS1
    clear hS0
    obtain ⟨c0, c1, c2, c3, -⟩ := hS1
    clear hb1
    have hz1 : w.heap.size < w1.heap.size := World.block_lt_of_cell? _ _ c0
    go_wp2
    go_ret
    exact ⟨rt_int hf.out.symm, devS_end HS1.out⟩
  by_cases h1 : d.W * d.H ≤ t
  · have hf := Lib.hid (show tileKindI d t = -1 from if_neg (by rw [zgo]; omega))
    have hS0 := devS_start w d
    have HS0 := Lib.hid hS0
    go_enter Try.func45, Try.ntmps45
    go_wp2_with fail
    refine (zer d _).mono ?_
    rintro e w1 ⟨rfl, hb1⟩
    have hS1 := devS_step HS0.out hb1
    have HS1 := Lib.hid hS1
    clear hS0
    obtain ⟨c0, c1, c2, c3, -⟩ := hS1
    clear hb1
    have hz1 : w.heap.size < w1.heap.size := World.block_lt_of_cell? _ _ c0
    go_wp2
    go_ret
    exact ⟨rt_int hf.out.symm, devS_end HS1.out⟩
  · have hf := Lib.hid (show tileKindI d t = kindI d t from if_pos ((zgo d t).2 ⟨hv, by omega, by omega⟩))
    have o1 := @k1_o d t
    have o2 := @k2_o d t
    have o3 := @k3_o d t
    have z : t ≤ 35 := by omega
    have hS0 := devS_start w d
    have HS0 := Lib.hid hS0
    go_enter Try.func45, Try.ntmps45
    go_wp2_with fail
    refine (zer d _).mono ?_
    rintro e w1 ⟨rfl, hb1⟩
    have hS1 := devS_step HS0.out hb1
    have HS1 := Lib.hid hS1
    clear hS0
    obtain ⟨c0, c1, c2, c3, -⟩ := hS1
    clear hb1
    have hz1 : w.heap.size < w1.heap.size := World.block_lt_of_cell? _ _ c0
    clear o1 o2 o3
    go_wp2
    all_goals go_ret
    all_goals refine ⟨rt_int ?_, devS_end HS1.out⟩
    all_goals rw [hf.out]
    all_goals first | exact k1_o (by assumption) | exact k2_o (by assumption) | exact k3_o (by assumption) | exact k4' (by assumption) | exact k5' (by assumption) (by assumption) | exact k6' (by assumption) (by assumption)
open Go.RowKit
def btI (k : Int) : Int := if k = 0 ∨ k = 1 then 0 else if k = 2 then 2 else if k = 3 then 1 else -1
def tlL (d : Dev) (k : Int) : Nat → List Int
  | 0 => []
  | t + 1 => if tileKindI d (t : Int) = k then tlL d k t ++ [(t : Int)] else tlL d k t
def tilesK (d : Dev) (k : Int) : List Int := tlL d k (d.W * d.H).toNat
theorem tlL_le (d : Dev) (k : Int) : ∀ t, (tlL d k t).length ≤ t
  | 0 => Nat.le_refl _
  | t + 1 => by have := tlL_le d k t; unfold tlL; split <;> first | (rw [List.length_append, List.length_singleton]; omega) | omega
theorem tlL_mem (d : Dev) (k : Int) : ∀ t x, x ∈ tlL d k t ↔ (0 ≤ x ∧ x < (t : Int)) ∧ tileKindI d x = k
  | 0, x => by constructor <;> intro h; (cases h); (omega)
  | t + 1, x => by
    unfold tlL
    split
    · rename_i hk
      rw [List.mem_append, tlL_mem d k t x, List.mem_singleton]
      constructor
      · rintro (⟨h1, h2⟩ | rfl)
        · exact ⟨by omega, h2⟩
        · exact ⟨by omega, hk⟩
      · rintro ⟨h1, h2⟩
        by_cases e : x = (t : Int)
        · exact .inr e
        · exact .inl ⟨by omega, h2⟩
    · rename_i hk
      rw [tlL_mem d k t x]
      constructor
      · rintro ⟨h1, h2⟩; exact ⟨by omega, h2⟩
      · rintro ⟨h1, h2⟩
        refine ⟨⟨h1.1, ?_⟩, h2⟩
        have : x ≠ (t : Int) := fun e => hk (by rw [← e]; exact h2)
        omega
theorem tlL_nodup (d : Dev) (k : Int) : ∀ t, (tlL d k t).Nodup
  | 0 => List.nodup_nil
  | t + 1 => by
    unfold tlL
    split
    · rw [List.nodup_append]
      refine ⟨tlL_nodup d k t, by simp, fun a ha b hb => ?_⟩
      rw [List.mem_singleton] at hb
      have := ((tlL_mem d k t a).1 ha).1
      omega
    · exact tlL_nodup d k t
theorem zfe {d : Dev} (h : devB d = true) : 9 ≤ d.W * d.H ∧ d.W * d.H ≤ 36 := by
  obtain ⟨⟨a, b⟩, ⟨c, e⟩, -⟩ := (zeq d).1 h
  have h1 : 3 * 3 ≤ d.W * d.H := Int.mul_le_mul a c (by omega) (by omega)
  have h2 : d.W * d.H ≤ 6 * 6 := Int.mul_le_mul b e (by omega) (by omega)
  omega
theorem zfq (k : Int) (w : World)  :
   Calls Try.prog 20 #[.int .i64 k] w (Ans w (.int .i64 (btI k))) := by
 refine zbl (N := 11) (args := [.int .i64 k]) Try.func20 rfl rfl (zbd 1 rfl (zaa (zbd 1 rfl ?_)))
 refine zax (zfc ?_)
 refine zby rfl rfl rfl rfl rfl rfl (fun h1 => ?_) (fun h1 => ?_)
 ·
  refine zba 1 rfl (zak rfl (zcn (zak rfl (zbd 1 rfl ?_))))
  refine zaw (zaq ?_)
  exact zap (zbi rfl rfl (by unfold btI; first | rw [if_pos (by omega)] | rw [if_neg (by omega), if_pos (by omega)] | rw [if_neg (by omega), if_neg (by omega), if_pos (by omega)] | rw [if_neg (by omega), if_neg (by omega), if_neg (by omega)]))
 refine zba 1 rfl (zal rfl (zay ?_))
 refine zby rfl rfl rfl rfl rfl rfl (fun h2 => ?_) (fun h2 => ?_)
 ·
  refine zba 1 rfl (zak rfl (zbd 1 rfl ?_))
  refine zaw (zaq ?_)
  exact zap (zbi rfl rfl (by unfold btI; first | rw [if_pos (by omega)] | rw [if_neg (by omega), if_pos (by omega)] | rw [if_neg (by omega), if_neg (by omega), if_pos (by omega)] | rw [if_neg (by omega), if_neg (by omega), if_neg (by omega)]))
 refine zba 1 rfl (zal rfl (srQ ?_))
 refine zby rfl rfl rfl rfl rfl rfl (fun h3 => ?_) (fun h3 => ?_)
 ·
  refine zba 1 rfl (zak rfl (zbd 1 rfl ?_))
  refine zaw (zaq ?_)
  exact zap (zbi rfl rfl (by unfold btI; first | rw [if_pos (by omega)] | rw [if_neg (by omega), if_pos (by omega)] | rw [if_neg (by omega), if_neg (by omega), if_pos (by omega)] | rw [if_neg (by omega), if_neg (by omega), if_neg (by omega)]))
 refine zba 1 rfl (zal rfl (srQ ?_))
 refine zby rfl rfl rfl rfl rfl rfl (fun h4 => ?_) (fun h4 => ?_)
 ·
  refine zba 1 rfl (zak rfl (zbd 1 rfl ?_))
  refine zaw (zaq ?_)
  exact zap (zbi rfl rfl (by unfold btI; first | rw [if_pos (by omega)] | rw [if_neg (by omega), if_pos (by omega)] | rw [if_neg (by omega), if_neg (by omega), if_pos (by omega)] | rw [if_neg (by omega), if_neg (by omega), if_neg (by omega)]))
 refine zba 1 rfl (fsQ rfl (zco (zbd 1 rfl ?_)))
 exact zaw (zbi rfl rfl (by unfold btI; first | rw [if_pos (by omega)] | rw [if_neg (by omega), if_pos (by omega)] | rw [if_neg (by omega), if_neg (by omega), if_pos (by omega)] | rw [if_neg (by omega), if_neg (by omega), if_neg (by omega)]))
theorem zen (k : Int) (w : World)  :
   Calls Try.prog 41 #[.int .i64 k] w (Ans w (.int .i64 (btI k))) := by
 refine zbl (N := 11) (args := [.int .i64 k]) Try.func41 rfl rfl (zbd 1 rfl (zaa (zbd 1 rfl ?_)))
 refine zax (zfc ?_)
 refine zby rfl rfl rfl rfl rfl rfl (fun h1 => ?_) (fun h1 => ?_)
 ·
  refine zba 1 rfl (zak rfl (zcn (zak rfl (zbd 1 rfl ?_))))
  refine zaw (zaq ?_)
  exact zap (zbi rfl rfl (by unfold btI; first | rw [if_pos (by omega)] | rw [if_neg (by omega), if_pos (by omega)] | rw [if_neg (by omega), if_neg (by omega), if_pos (by omega)] | rw [if_neg (by omega), if_neg (by omega), if_neg (by omega)]))
 refine zba 1 rfl (zal rfl (zay ?_))
 refine zby rfl rfl rfl rfl rfl rfl (fun h2 => ?_) (fun h2 => ?_)
 ·
  refine zba 1 rfl (zak rfl (zbd 1 rfl ?_))
  refine zaw (zaq ?_)
  exact zap (zbi rfl rfl (by unfold btI; first | rw [if_pos (by omega)] | rw [if_neg (by omega), if_pos (by omega)] | rw [if_neg (by omega), if_neg (by omega), if_pos (by omega)] | rw [if_neg (by omega), if_neg (by omega), if_neg (by omega)]))
 refine zba 1 rfl (zal rfl (srQ ?_))
 refine zby rfl rfl rfl rfl rfl rfl (fun h3 => ?_) (fun h3 => ?_)
 ·
  refine zba 1 rfl (zak rfl (zbd 1 rfl ?_))
  refine zaw (zaq ?_)
  exact zap (zbi rfl rfl (by unfold btI; first | rw [if_pos (by omega)] | rw [if_neg (by omega), if_pos (by omega)] | rw [if_neg (by omega), if_neg (by omega), if_pos (by omega)] | rw [if_neg (by omega), if_neg (by omega), if_neg (by omega)]))
 refine zba 1 rfl (zal rfl (srQ ?_))
 refine zby rfl rfl rfl rfl rfl rfl (fun h4 => ?_) (fun h4 => ?_)
 ·
  refine zba 1 rfl (zak rfl (zbd 1 rfl ?_))
  refine zaw (zaq ?_)
  exact zap (zbi rfl rfl (by unfold btI; first | rw [if_pos (by omega)] | rw [if_neg (by omega), if_pos (by omega)] | rw [if_neg (by omega), if_neg (by omega), if_pos (by omega)] | rw [if_neg (by omega), if_neg (by omega), if_neg (by omega)]))
 refine zba 1 rfl (fsQ rfl (zco (zbd 1 rfl ?_)))
 exact zaw (zbi rfl rfl (by unfold btI; first | rw [if_pos (by omega)] | rw [if_neg (by omega), if_pos (by omega)] | rw [if_neg (by omega), if_neg (by omega), if_pos (by omega)] | rw [if_neg (by omega), if_neg (by omega), if_neg (by omega)]))
theorem l29Kinds_ret (bs : List Bk) (v : Value) (w : World) (hbk : RdsBk w v bs) (hbl : bs.length ≤ 1000) :
   Calls Try.prog 65 #[v] w (Ret w (fun v' post => post = [rowE 3 1 v' ((bs.map Bk.kd)).length (((bs.map Bk.kd)).map (Value.int .i64))])) := by
 have hbs9 := sml hbk.row
 refine zbl (N := 21) (args := [v]) Try.func65 rfl rfl (zbd 1 rfl (srQ ?_))
 refine zdi rfl (zcb (s := 1) rfl Try.underlying28 rfl) ?_
 intro g1
 refine zba 1 rfl (zaa (zbd 1 rfl (zax ?_)))
 refine lkQ3 (α := Nat) (β := Value) (γ := List Int) [0, 2] rfl (fun i gu zs => [rowE 3 1 gu zs.length (zs.map (Value.int .i64))]) (fun i gu zs => [(3, gu), (4, .int .i64 (i : Int))]) (fun i gu zs => i ≤ bs.length ∧ zs = (bs.take i).map Bk.kd) (fun i gu zs => bs.length - i) 0 _ [] ⟨Nat.zero_le _, rfl⟩ (saQ rfl) (pfQ rfl) ?_
 intro i gu zs hi2
 obtain ⟨hi, hz⟩ := hi2
 have hzl : zs.length = i := by rw [hz, List.length_map, List.length_take]; omega
 refine zaa (zaa (reQ 2 rfl (hvQ rfl (lnQ rfl rfl rfl (zae hbk.row)) ?_)))
 refine zbk rfl rfl rfl rfl rfl rfl (fun h3 => ?_) (fun h3 => ?_)
 ·
  refine ntQ (zak rfl (zcn (sbQ (reQ 3 rfl (hvQ rfl (riQ 3 rfl rfl rfl rfl (zae hbk.row)) (hvQ rfl (zbb (k0 := 0) rfl rfl rfl (zae hbk.row) (by omega)) ?_))))))
  refine hvQ rfl (zar (u := .int .i64 ((bs.getD i bk0).kd)) rfl rfl rfl (zae hbk.row) ((zbv bkC 3 (fun _ => rfl) bs bk0 (show i < _ by omega) (by decide)).trans rfl)) (zdi rfl (zas (z := .int .i64 0) (s := 1) (cs := ([(bs.getD i bk0).kd].map (Value.int .i64))) rfl Try.underlying28 rfl (by decide) rfl (by kernel_rfl) rfl) ?_)
  intro g4
  refine zcf (i := 1) (z := .int .i64 0) (bytes := 8) rfl rfl rfl rfl Try.underlying28 (by kernel_rfl) rfl rfl rfl rfl (zac 0 rfl) (zbm _) (by first | omega | (simp; done) | (simp; omega)) (zbt zs ([(bs.getD i bk0).kd])) (zcl zs ([(bs.getD i bk0).kd])) (fun _ => rfl) ?_
  intro v5
  refine enQ 1 rfl (zco (reQ 1 rfl (hvQ rfl (vaQ rfl rfl rfl) (enQ 1 rfl ?_))))
  exact zbh (i + 1) v5 (zs ++ ([(bs.getD i bk0).kd])) ⟨by omega, by rw [hz, zdx bk0 (show i < bs.length by omega), List.map_append]; rfl⟩ (by omega) (saQ rfl) (slQ [1] rfl)
 refine ntQ (zal rfl ?_)
 refine zaz (zds ?_)
 refine zag (zav (zbd 2 rfl ?_))
 exact zaw (zcz (post := [rowE 3 1 gu zs.length (zs.map (Value.int .i64))]) rfl rfl (pfQ rfl) (by rw [hz, List.take_of_length_le (by omega)]))
theorem zfm (d : Dev) (k : Int) (w : World) (hdv : devB d = true) :
   Calls Try.prog 19 #[.agg #[.int .i64 d.W, .int .i64 d.H, .int .i64 d.T, .int .i64 d.R], .int .i64 k] w (Ret w (fun v' post => post = [rowE 3 1 v' ((tilesK d k)).length (((tilesK d k)).map (Value.int .i64))])) := by
 obtain ⟨har1, har2⟩ := zfe hdv
 refine zbl (N := 31) (args := [.agg #[.int .i64 d.W, .int .i64 d.H, .int .i64 d.T, .int .i64 d.R], .int .i64 k]) Try.func19 rfl rfl (srQ ?_)
 refine zdt rfl (zcm rfl rfl) ?_
 intro b1
 refine zba 1 rfl (srQ ?_)
 refine zdi rfl (zcb (s := 1) rfl Try.underlying28 rfl) ?_
 intro g2
 refine zba 1 rfl (zfc (hvQ rfl (zao (cs := [.int .i64 d.W, .int .i64 d.H, .int .i64 d.T, .int .i64 d.R]) rfl rfl rfl rfl rfl (zaj 1 rfl 0 rfl)) ?_))
 refine zdp rfl (zan rfl rfl (fun w hm => zau (by have h9 := zer d w; rw [hdv] at h9; exact h9))) (zba 1 rfl (zal rfl (zcn (zaa (zbd 1 rfl ?_)))))
 refine zax ?_
 refine lkQ3 (α := Nat) (β := Value) (γ := List Int) [0, 1, 2, 4, 10] rfl (fun t gu zs => [rowE 3 1 gu zs.length (zs.map (Value.int .i64)), boxE b1 #[.int .i64 d.W, .int .i64 d.H, .int .i64 d.T, .int .i64 d.R] 25]) (fun t gu zs => [(5, gu), (6, .int .i64 (t : Int))]) (fun t gu zs => (t : Int) ≤ d.W * d.H ∧ zs = tlL d k t) (fun t gu zs => (d.W * d.H).toNat - t) 0 _ [] ⟨by omega, rfl⟩ (saQ rfl) (pfQ rfl) ?_
 intro t gu zs hi3
 obtain ⟨ht, hz⟩ := hi3
 have hzl : zs.length ≤ t := by rw [hz]; exact tlL_le d k t
 refine zaa (zaa (reQ 1 rfl (hvQ rfl (fdQ 0 rfl rfl rfl) (hvQ rfl (zaf rfl rfl rfl (zab 1 rfl rfl)) (hvQ rfl (fdQ 1 rfl rfl rfl) (hvQ rfl (zaf rfl rfl rfl (zab 1 rfl rfl)) (hvQ rfl (zdu rfl rfl rfl (by constructor <;> omega)) ?_)))))))
 refine zbk rfl rfl rfl rfl rfl rfl (fun h4 => ?_) (fun h4 => ?_)
 ·
  refine ntQ (zak rfl (zcn (sbQ (srQ (hvQ rfl (zao (cs := [.int .i64 d.W, .int .i64 d.H, .int .i64 d.T, .int .i64 d.R]) rfl rfl rfl rfl rfl (zaj 1 rfl 0 rfl)) (zam 1 rfl ?_))))))
  refine zdp rfl (zan rfl rfl (fun w hm => zau (specTileKind_any d (t : Int) w))) (zam 1 rfl ?_)
  refine zby rfl rfl rfl rfl rfl rfl (fun h5 => ?_) (fun h5 => ?_)
  ·
   refine ntQ (zak rfl (reQ 2 rfl ?_))
   refine zdi rfl (zas (z := .int .i64 0) (s := 1) (cs := ([(t : Int)].map (Value.int .i64))) rfl Try.underlying28 rfl (by decide) rfl (by kernel_rfl) rfl) ?_
   intro g6
   refine zcf (i := 1) (z := .int .i64 0) (bytes := 8) rfl rfl rfl rfl Try.underlying28 (by kernel_rfl) rfl rfl rfl rfl (zac 0 rfl) (zbm _) (by first | omega | (simp; done) | (simp; omega)) (zbt zs ([(t : Int)])) (zcl zs ([(t : Int)])) (fun _ => rfl) ?_
   intro v7
   refine enQ 1 rfl (zco (reQ 1 rfl (hvQ rfl (vaQ rfl rfl rfl) (enQ 1 rfl ?_))))
   exact zbh (t + 1) v7 (zs ++ ([(t : Int)])) ⟨by omega, by rw [hz]; show _ = (if _ then _ else _); first | rw [if_pos (by omega)] | rw [if_neg (by omega)]⟩ (by omega) (saQ rfl) (slQ [1, 0] rfl)
  refine ntQ (fsQ rfl (zco (reQ 1 rfl (hvQ rfl (vaQ rfl rfl rfl) (enQ 1 rfl ?_)))))
  exact zbh (t + 1) gu zs ⟨by omega, by rw [hz]; show _ = (if _ then _ else _); first | rw [if_pos (by omega)] | rw [if_neg (by omega)]⟩ (by omega) (saQ rfl) (pfQ rfl)
 refine ntQ (zal rfl ?_)
 refine zaz (zds ?_)
 refine zag (zav (zbd 2 rfl ?_))
 exact zaw (zcz (post := [rowE 3 1 gu zs.length (zs.map (Value.int .i64))]) rfl rfl (slQ [0] rfl) (by rw [hz, show t = (d.W * d.H).toNat by omega]; rfl))
theorem zgy : ∀ (us ns : List Int), us.Nodup → (∀ x ∈ us, x ∈ ns) → us.length ≤ ns.length
  | [], _, _, _ => Nat.zero_le _
  | u :: us, ns, hn, hs => by
    rw [List.nodup_cons] at hn
    have hu : u ∈ ns := hs u List.mem_cons_self
    have := zgy us (ns.erase u) hn.2 fun x hx => by
      have hne : x ≠ u := fun e => hn.1 (e ▸ hx)
      exact (List.mem_erase_of_ne hne).2 (hs x (List.mem_cons_of_mem _ hx))
    rw [List.length_erase_of_mem hu] at this
    have hp := List.length_pos_of_mem hu
    rw [List.length_cons]; omega
theorem filt_eq (P Q : Int → Bool) : ∀ (a b : List Int), a.length = b.length → (∀ i, i < a.length → P (a.getD i 0) = Q (b.getD i 0)) → (a.filter P).length = (b.filter Q).length
  | [], [], _, _ => rfl
  | [], _ :: _, h, _ => by cases h
  | _ :: _, [], h, _ => by cases h
  | x :: a, y :: b, h, hp => by
    have h0 : P x = Q y := hp 0 (by rw [List.length_cons]; omega)
    have ih := filt_eq P Q a b (by rw [List.length_cons, List.length_cons] at h; omega) fun i hi => hp (i + 1) (by rw [List.length_cons]; omega)
    rw [List.filter_cons, List.filter_cons, h0]
    split
    · rw [List.length_cons, List.length_cons, ih]
    · exact ih
structure PlP (d : Dev) (ks zs : List Int) : Prop where
  kd : ∀ q, q < zs.length → tileKindI d (zs.getD q 0) = btI (ks.getD q 0)
  rg : ∀ q, q < zs.length → 0 ≤ zs.getD q 0 ∧ zs.getD q 0 < d.W * d.H
  nd : zs.Nodup
  le : zs.length ≤ ks.length
def Fits (d : Dev) (ks : List Int) : Prop := ∀ c : Int, (ks.filter (fun k => btI k == c)).length ≤ (tilesK d c).length
theorem PlP.nil (d : Dev) (ks : List Int) : PlP d ks [] := ⟨fun q hq => absurd hq (by simp), fun q hq => absurd hq (by simp), List.nodup_nil, Nat.zero_le _⟩
theorem zel {d : Dev} (hd : devB d = true) {c x : Int} : x ∈ tilesK d c ↔ (0 ≤ x ∧ x < d.W * d.H) ∧ tileKindI d x = c := by
  have := zfe hd
  unfold tilesK; rw [tlL_mem]; rw [show (((d.W * d.H).toNat : Nat) : Int) = d.W * d.H by omega]
theorem PlP.app {d : Dev} (hd : devB d = true) {ks zs : List Int} (h : PlP d ks zs) (hl : zs.length < ks.length) {x : Int} (hx : x ∈ tilesK d (btI (ks.getD zs.length 0))) (hn : x ∉ zs) : PlP d ks (zs ++ [x]) := by
  obtain ⟨hx1, hx2⟩ := (zel hd).1 hx
  refine ⟨fun q hq => ?_, fun q hq => ?_, ?_, by rw [List.length_append, List.length_singleton]; omega⟩
  · rw [List.length_append, List.length_singleton] at hq
    by_cases e : q < zs.length
    · rw [zet e]; exact h.kd q e
    · obtain rfl : q = zs.length := by omega
      rw [zeu (Nat.le_refl _), Nat.sub_self]; exact hx2
  · rw [List.length_append, List.length_singleton] at hq
    by_cases e : q < zs.length
    · rw [zet e]; exact h.rg q e
    · obtain rfl : q = zs.length := by omega
      rw [zeu (Nat.le_refl _), Nat.sub_self]; exact hx1
  · rw [List.nodup_append]
    refine ⟨h.nd, by simp, fun a ha b hb => ?_⟩
    rw [List.mem_singleton] at hb; subst hb
    exact fun e => hn (e ▸ ha)
theorem PlP.count {d : Dev} {ks zs : List Int} (h : PlP d ks zs) (c : Int) : ((ks.take zs.length).filter (fun k => btI k == c)).length = (zs.filter (fun x => tileKindI d x == c)).length := by
  have hl := h.le
  have hlen : (ks.take zs.length).length = zs.length := by rw [List.length_take]; omega
  refine filt_eq _ _ _ _ hlen fun i hi => ?_
  rw [hlen] at hi
  rw [show (ks.take zs.length).getD i 0 = ks.getD i 0 by rw [List.getD_eq_getElem?_getD, List.getElem?_take_of_lt hi, ← List.getD_eq_getElem?_getD], h.kd i hi]
theorem PlP.mem_rg {d : Dev} {ks zs : List Int} (h : PlP d ks zs) {x : Int} (hx : x ∈ zs) : 0 ≤ x ∧ x < d.W * d.H := by
  obtain ⟨q, hq, rfl⟩ := List.mem_iff_getElem.1 hx
  have := h.rg q hq
  rwa [List.getD_eq_getElem?_getD, List.getElem?_eq_getElem hq] at this
theorem PlP.fits {d : Dev} (hd : devB d = true) {ks zs : List Int} (h : PlP d ks zs) (hl : zs.length = ks.length) : Fits d ks := fun c => by
  have hc := h.count c
  rw [hl, List.take_length] at hc
  rw [hc]
  refine zgy _ _ (h.nd.filter _) fun x hx => ?_
  rw [List.mem_filter] at hx
  exact (zel hd).2 ⟨h.mem_rg hx.1, by simpa using hx.2⟩
theorem PlP.short {d : Dev} (hd : devB d = true) {ks zs : List Int} (h : PlP d ks zs) (hl : zs.length < ks.length) (hall : ∀ x ∈ tilesK d (btI (ks.getD zs.length 0)), x ∈ zs) : ¬ Fits d ks := fun hf => by
  have h1 := hf (btI (ks.getD zs.length 0))
  have h2 := h.count (btI (ks.getD zs.length 0))
  have h3 := zgy (tilesK d (btI (ks.getD zs.length 0))) (zs.filter (fun x => tileKindI d x == btI (ks.getD zs.length 0))) (tlL_nodup _ _ _) fun x hx => by
    rw [List.mem_filter]; exact ⟨hall x hx, by simpa using ((zel hd).1 hx).2⟩
  have h4 : ((ks.take (zs.length + 1)).filter (fun k => btI k == btI (ks.getD zs.length 0))).length = ((ks.take zs.length).filter (fun k => btI k == btI (ks.getD zs.length 0))).length + 1 := by
    rw [zdx 0 hl, List.filter_append, List.length_append]; simp
  have h5 := ((List.take_sublist (zs.length + 1) ks).filter (fun k => btI k == btI (ks.getD zs.length 0))).length_le
  omega
theorem all_turn {n s : Int} (hn : 0 < n) {P : Int → Prop} (h : ∀ q : Int, 0 ≤ q → q < n → P ((s + q) % n)) : ∀ i : Int, 0 ≤ i → i < n → P i := fun i h0 h1 => by
  have := h ((i - s) % n) (Int.emod_nonneg _ (by omega)) (Int.emod_lt_of_pos _ hn)
  rwa [Int.add_emod_emod, show s + (i - s) = i by omega, Int.emod_eq_of_lt h0 h1] at this
theorem turn_all {T zs : List Int} {s : Int} (h : ∀ q : Nat, q < T.length → T.getD ((s + (q : Int)) % (T.length : Int)).toNat 0 ∈ zs) : ∀ x ∈ T, x ∈ zs := fun x hx => by
  obtain ⟨i, hi, rfl⟩ := List.mem_iff_getElem.1 hx
  have := all_turn (n := (T.length : Int)) (s := s) (by omega) (P := fun i => T.getD i.toNat 0 ∈ zs) (fun q h0 h1 => by
    have := h q.toNat (by omega)
    rwa [Int.toNat_of_nonneg h0] at this) (i : Int) (by omega) (by omega)
  rwa [Int.toNat_natCast, List.getD_eq_getElem?_getD, List.getElem?_eq_getElem hi] at this
def lenN (v : Value) : Nat := match v with | .slice _ n _ => n | _ => 0
theorem rdsW_lenN {w : World} {v : Value} {s n : Nat} {cs : List Value} (h : RdsW w v s n cs) : lenN v = n := by obtain ⟨a, c, rfl, -⟩ := h; rfl
theorem rd_lenN {w0 : World} {l : List HP} {v : Value} {s n : Nat} {cs : List Value} (h : Rd w0 l v s n cs) : Rd w0 l v s (lenN v) cs := fun w hm => by have h9 := h w hm; rw [rdsW_lenN h9]; exact h9
def UsP (zs : List Int) (us : List Bl) : Prop := ∀ t : Nat, t < us.length → ((us.getD t bl0).b = true ↔ (t : Int) ∈ zs)
theorem UsP.nil (n : Nat) : UsP [] (List.replicate n bl0) := fun t ht => by
  rw [List.length_replicate] at ht
  rw [List.getD_eq_getElem?_getD, List.getElem?_eq_getElem (by rw [List.length_replicate]; exact ht)]
  simp
theorem UsP.app {zs : List Int} {us : List Bl} (h : UsP zs us) {x : Int} (hx : 0 ≤ x) {y : Bl} (hy : y.b = true) : UsP (zs ++ [x]) (us.set x.toNat y) := fun t ht => by
  rw [List.length_set] at ht
  rw [List.getD_eq_getElem?_getD, List.getElem?_set, List.mem_append, List.mem_singleton]
  by_cases e : x.toNat = t
  · subst e
    rw [if_pos rfl, if_pos ht]
    exact ⟨fun _ => .inr (by omega), fun _ => hy⟩
  · rw [if_neg e, ← List.getD_eq_getElem?_getD, h t ht]
    exact ⟨.inl, fun q => q.resolve_right (by omega)⟩
theorem two_io {d : Dev} (hd : devB d = true) : Fits d [0, 1] := fun c => by
  obtain ⟨⟨a, b⟩, ⟨c', e⟩, -⟩ := (zeq d).1 hd
  have har := zfe hd
  by_cases hc : c = 0
  · subst hc
    have hk0 : ∀ x : Int, 0 ≤ x ∧ x < 3 → tileKindI d x = 0 := fun x hx => by
      unfold tileKindI; rw [if_pos ((zgo d x).2 ⟨hd, by omega, by omega⟩)]; unfold kindI; rw [if_pos (.inr (.inl (Int.ediv_eq_zero_of_lt (by omega) (by omega))))]
    have h0 : (0 : Int) ∈ tilesK d 0 := (zel hd).2 ⟨by omega, hk0 0 (by omega)⟩
    have h1 : (1 : Int) ∈ tilesK d 0 := (zel hd).2 ⟨by omega, hk0 1 (by omega)⟩
    have := zgy [0, 1] (tilesK d 0) (by decide) (fun x hx => by
      rcases List.mem_cons.1 hx with rfl | hx
      · exact h0
      · rw [List.mem_singleton] at hx; subst hx; exact h1)
    show (([0, 1] : List Int).filter (fun k => btI k == 0)).length ≤ _
    exact Nat.le_trans (by decide) this
  · have : (([0, 1] : List Int).filter (fun k => btI k == c)) = [] := by
      rw [List.filter_eq_nil_iff]
      intro x hx
      have : btI x = 0 := by
        rcases List.mem_cons.1 hx with rfl | hx
        · rfl
        · rw [List.mem_singleton] at hx; subst hx; rfl
      rw [this]; simp; exact fun e => hc e.symm
    rw [this]; exact Nat.zero_le _
theorem below0_mut (g : Nat) (a : Option Addr) (len cap : Nat) (z : List Int) (n : Int) (w0 : World) (l : List HP) (w : World) (hm0 : Mem w0 (curE g a len cap :: l) w) (hn : n ≤ 0) :
   Calls Try.prog 57 #[.pointer (some ⟨g, 0, none⟩), .int .i64 n] w (fun e_ w_ => ∃ v_ p_, e_ = .returned v_ ∧ (fun u_ p_ => u_ = .int .i64 0 ∧ p_ = curE g a len cap) v_ p_ ∧ Mem w0 (p_ :: l) w_) := by
 refine zfy (N := 37) (args := [.pointer (some ⟨g, 0, none⟩), .int .i64 n]) Try.func57 rfl rfl hm0 (zbd 1 rfl (zaa (zaa (reQ 1 rfl ?_))))
 refine hl_leq rfl rfl rfl rfl rfl rfl (fun h1 => ?_) (fun h1 => absurd h1 (by omega))
 refine ntQ (zak rfl (zbd 1 rfl ?_))
 refine zaw (zap ?_)
 exact hq_retMut (p' := curE g a len cap) rfl rfl (.refl _) ⟨rfl, rfl⟩
theorem zfl (g : Nat) (a : Option Addr) (len cap : Nat) (z : List Int) (n : Int) (w0 : World) (l : List HP) (w : World) (hm0 : Mem w0 (curE g a len cap :: l) w) (hb : BRow .u8 w0 a len cap z) (hn : n ≤ 4294967296) :
   Calls Try.prog 57 #[.pointer (some ⟨g, 0, none⟩), .int .i64 n] w (fun e_ w_ => ∃ v_ p_, e_ = .returned v_ ∧ (fun u_ p_ => (∃ x : Int, u_ = .int .i64 x ∧ 0 ≤ x ∧ (1 ≤ n → x < n)) ∧ p_ = curE g a len cap) v_ p_ ∧ Mem w0 (p_ :: l) w_) := by
  by_cases h : 1 ≤ n
  · refine (zdd g a len cap z n w0 l w hm0 hb ⟨h, hn⟩).mono ?_
    rintro e w' ⟨v, p, he, ⟨⟨x, hx, h0, h1⟩, hp⟩, hm⟩
    exact ⟨v, p, he, ⟨⟨x, hx, h0, fun _ => h1⟩, hp⟩, hm⟩
  · refine (below0_mut g a len cap z n w0 l w hm0 (by omega)).mono ?_
    rintro e w' ⟨v, p, he, ⟨hx, hp⟩, hm⟩
    exact ⟨v, p, he, ⟨⟨0, hx, Int.le_refl _, fun h9 => absurd h9 h⟩, hp⟩, hm⟩
theorem zgf (g : Nat) (a : Option Addr) (len cap : Nat) (z : List Int) (d : Dev) (ks : List Int) (kv : Value) (w0 : World) (l : List HP) (w : World) (hm0 : Mem w0 (curE g a len cap :: l) w) (hb : BRow .u8 w0 a len cap z) (hdv : devB d = true) (hkv : Rd w0 l kv 1 ks.length (ks.map (Value.int .i64))) (hkl : ks.length ≤ 64) :
   Calls Try.prog 64 #[.pointer (some ⟨g, 0, none⟩), .agg #[.int .i64 d.W, .int .i64 d.H, .int .i64 d.T, .int .i64 d.R], kv] w (fun e_ w_ => ∃ v_ p_, e_ = .returned v_ ∧ (fun u_ p_ => ∃ zs : List Int, p_ = bigE [curE g a len cap, rowE 3 1 u_ zs.length (zs.map (Value.int .i64))] ∧ (lenN u_ = zs.length ∧ u_.oneCell' = true) ∧ ((Fits d ks ∧ zs.length = ks.length ∧ PlP d ks zs) ∨ (¬ Fits d ks ∧ zs = []))) v_ p_ ∧ Mem w0 (p_ :: l) w_) := by
 obtain ⟨har1, har2⟩ := zfe hdv
 refine zfy (N := 75) (args := [.pointer (some ⟨g, 0, none⟩), .agg #[.int .i64 d.W, .int .i64 d.H, .int .i64 d.T, .int .i64 d.R], kv]) Try.func64 rfl rfl hm0 (srQ ?_)
 refine zdt rfl (zcm rfl rfl) ?_
 intro b1
 refine zba 1 rfl (srQ ?_)
 refine zdi rfl (zcb (s := 1) rfl Try.underlying28 rfl) ?_
 intro g2
 refine zba 1 rfl (srQ (hvQ rfl (fdQ 0 rfl rfl rfl) (hvQ rfl (zaf rfl rfl rfl (zab 1 rfl rfl)) (hvQ rfl (fdQ 1 rfl rfl rfl) (hvQ rfl (zaf rfl rfl rfl (zab 1 rfl rfl)) (hvQ rfl (zdu rfl rfl rfl (by constructor <;> omega)) ?_))))))
 refine zdi rfl (zej (z := .bool false) (s := 1) (bytes := 1) (n := (List.replicate (d.W * d.H).toNat bl0).length) (cs := ((List.replicate (d.W * d.H).toNat bl0).flatMap blC)) rfl Try.underlying130 rfl (by decide) rfl rfl (by first | (rw [List.length_replicate]; done) | (rw [List.length_replicate]; omega)) (by first | (rw [List.length_replicate]; done) | (rw [List.length_replicate]; omega)) (by rw [List.length_replicate]; omega) (zfg blC 1 (fun _ => rfl) bl0 _ rfl (d.W * d.H).toNat)) ?_
 intro g3
 refine zba 1 rfl (zaa (zbd 1 rfl (zax ?_)))
 refine lkQ3 (α := Nat) (β := Value × List Int) (γ := List Bl) [0, 1, 2, 4, 6, 8] rfl (fun b U us => (rowE 4 1 (.slice (some ⟨g3, 0, none⟩) ((List.replicate (d.W * d.H).toNat bl0).length) ((List.replicate (d.W * d.H).toNat bl0).length)) us.length (us.flatMap blC) :: rowE 3 1 U.1 U.2.length (U.2.map (Value.int .i64)) :: boxE b1 #[.int .i64 d.W, .int .i64 d.H, .int .i64 d.T, .int .i64 d.R] 25 :: curE g a len cap :: l)) (fun b U us => [(7, U.1), (9, .int .i64 (b : Int))]) (fun b U us => b ≤ ks.length ∧ U.2.length = b ∧ PlP d ks U.2 ∧ us.length = (d.W * d.H).toNat ∧ UsP U.2 us) (fun b U us => ks.length - b) 0 (_, []) (List.replicate (d.W * d.H).toNat bl0) ⟨Nat.zero_le _, rfl, PlP.nil _ _, List.length_replicate, UsP.nil _⟩ (saQ rfl) (.refl _) ?_
 intro b U us hi4
 obtain ⟨hbl, hzl, hpl, hul, hup⟩ := hi4
 refine zaa (zaa (reQ 2 rfl ?_))
 refine hvQ rfl (lnQ rfl rfl rfl (fun w hm => hkv w (hm.sub (.cons _ (.cons _ (.cons _ (.cons _ (.refl _)))))))) (zbk rfl rfl rfl rfl rfl rfl (fun h5 => ?_) (fun h5 => ?_))
 ·
  refine ntQ (zak rfl (zcn (sbQ (zaa ?_))))
  refine zdg rfl 7 [0, 1, 2, 3, 4, 5, 6] (List.take 7 _) (List.drop 7 _) [[], [], [], [1, 2], [3], [4], [0, 5]] [29, 30, 31, 32, 33, 34, 35] (fun i_ vs_ v_ p_ => match i_ with | 0 => v_ = .agg #[.int .i64 d.W, .int .i64 d.H, .int .i64 d.T, .int .i64 d.R] ∧ p_ = [] | 1 => v_ = kv ∧ p_ = [] | 2 => v_ = .int .i64 (b : Int) ∧ p_ = [] | 3 => v_ = elP kv (((b : Int)).toNat * 1) ∧ p_ = [] | 4 => v_ = .int .i64 (ks.getD b 0) ∧ p_ = [] | 5 => v_ = .int .i64 (btI (ks.getD b 0)) ∧ p_ = [] | 6 => (fun v' post => post = [rowE 3 1 v' ((tilesK d (btI (ks.getD b 0)))).length (((tilesK d (btI (ks.getD b 0)))).map (Value.int .i64))]) v_ p_ | _ => True) (List.take_append_drop 7 _).symm (by kernel_rfl) (by kernel_rfl) rfl rfl ?_ ?_
  ·
   refine ⟨?_, ?_, ?_, ?_, ?_, ?_, ?_, trivial⟩
   ·
    intro vf pf hR
    exact olQ rfl (zai [4] rfl) (zbe (zao (cs := [.int .i64 d.W, .int .i64 d.H, .int .i64 d.T, .int .i64 d.R]) rfl rfl rfl rfl rfl (zaj 2 rfl 0 rfl)))
   ·
    intro vf pf hR
    exact ovQ rfl (zai [2] rfl) (zbe (zat rfl))
   ·
    intro vf pf hR
    exact ovQ rfl (zai [9] rfl) (zbe (zat rfl))
   ·
    intro vf pf hR
    have e1 := hR 1 (by decide)
    have e2 := hR 2 (by decide)
    exact olQ rfl (sk 30 (congrArg some e1.1) (sk 31 (congrArg some e2.1) (zad _))) (zbe (riQ 1 rfl rfl rfl rfl (fun w hm => hkv w (hm.sub (.cons _ (.cons _ (.cons _ (.cons _ (.refl _)))))))))
   ·
    intro vf pf hR
    have e3 := hR 3 (by decide)
    exact olQ rfl (sk 32 (congrArg some e3.1) (zad _)) (zbe (liQ rfl rfl rfl (fun w hm => hkv w (hm.sub (.cons _ (.cons _ (.cons _ (.cons _ (.refl _)))))))))
   ·
    intro vf pf hR
    have e4 := hR 4 (by decide)
    exact olQ rfl (sk 33 (congrArg some e4.1) (zad _)) (zan rfl rfl (fun w hm => zau (zfq (ks.getD b 0) w)))
   intro vf pf hR
   have e0 := hR 0 (by decide)
   have e5 := hR 5 (by decide)
   exact olQ rfl (sk 29 (congrArg some e0.1) (sk 34 (congrArg some e5.1) (zad _))) (zan rfl rfl (fun w hm => zfm d (btI (ks.getD b 0)) w hdv))
  intro vf pf hR
  have e6 : (fun v' post => post = [rowE 3 1 v' ((tilesK d (btI (ks.getD b 0)))).length (((tilesK d (btI (ks.getD b 0)))).map (Value.int .i64))]) (vf 6) (pf 6) := hR 6 (by decide)
  obtain ⟨v6, vE6⟩ : ∃ x, vf 6 = x := ⟨_, rfl⟩
  obtain ⟨p7, pE6⟩ : ∃ x, pf 6 = x := ⟨_, rfl⟩
  have hR8 := e6
  rw [vE6, pE6] at hR8
  subst hR8
  have q0 := hR 0 (by decide)
  have q1 := hR 1 (by decide)
  have q2 := hR 2 (by decide)
  have q3 := hR 3 (by decide)
  have q4 := hR 4 (by decide)
  have q5 := hR 5 (by decide)
  refine zck (zbj [26, 9, 8, 7, 6, 4, 2, 1, 0] _ (sk 35 (congrArg some vE6) (zad _)) rfl) (by simp only [pE6, vE6, q0.2, q1.2, q2.2, q3.2, q4.2, q5.2, fS] <;> rfl) ?_
  simp only [List.drop_succ_cons, List.drop_zero]
  refine zba 1 rfl (srQ ?_)
  have htl := tlL_le d (btI (ks.getD b 0)) (d.W * d.H).toNat
  have htl9 : (tilesK d (btI (ks.getD b 0))).length ≤ (d.W * d.H).toNat := htl
  refine zba 1 rfl (zaa (reQ 1 rfl (hvQ rfl (lnQ rfl rfl rfl (zac 0 rfl)) (zba 1 rfl (srQ ?_)))))
  refine zam 2 rfl (zdc (R := (fun u_ p_ => (∃ x : Int, u_ = .int .i64 x ∧ 0 ≤ x ∧ (1 ≤ (((tilesK d (btI (ks.getD b 0))).length : Int) : Int) → x < (((tilesK d (btI (ks.getD b 0))).length : Int) : Int))) ∧ p_ = curE g a len cap)) 4 rfl rfl rfl rfl rfl (fun l' w hm => zfl g a len cap z ((tilesK d (btI (ks.getD b 0))).length : Int) _ _ _ hm hb (by omega)) ?_)
  intro v9 p10 hR11
  obtain ⟨⟨xhR11, rfl, xhR110, xhR111⟩, rfl⟩ := hR11
  refine zdz (l' := (rowE 3 1 v6 ((tilesK d (btI (ks.getD b 0))).length) ((tilesK d (btI (ks.getD b 0))).map (Value.int .i64)) :: rowE 4 1 (.slice (some ⟨g3, 0, none⟩) ((List.replicate (d.W * d.H).toNat bl0).length) ((List.replicate (d.W * d.H).toNat bl0).length)) us.length (us.flatMap blC) :: rowE 3 1 U.1 U.2.length (U.2.map (Value.int .i64)) :: boxE b1 #[.int .i64 d.W, .int .i64 d.H, .int .i64 d.T, .int .i64 d.R] 25 :: curE g a len cap :: l)) rfl ?_
  refine zba 1 rfl (zaa (zbd 1 rfl (zax ?_)))
  refine lkQ2 (α := Nat) (β := Int) [0, 1, 2, 4, 6, 7, 8, 9, 10, 12, 13, 26] rfl (fun k at_ => (rowE 3 1 v6 ((tilesK d (btI (ks.getD b 0))).length) ((tilesK d (btI (ks.getD b 0))).map (Value.int .i64)) :: rowE 4 1 (.slice (some ⟨g3, 0, none⟩) ((List.replicate (d.W * d.H).toNat bl0).length) ((List.replicate (d.W * d.H).toNat bl0).length)) us.length (us.flatMap blC) :: rowE 3 1 U.1 U.2.length (U.2.map (Value.int .i64)) :: boxE b1 #[.int .i64 d.W, .int .i64 d.H, .int .i64 d.T, .int .i64 d.R] 25 :: curE g a len cap :: l)) (fun k at_ => [(11, .int .i64 at_), (14, .int .i64 (k : Int))]) (fun k at_ => k ≤ (tilesK d (btI (ks.getD b 0))).length ∧ ((at_ = -1 ∧ ∀ q : Nat, q < k → (tilesK d (btI (ks.getD b 0))).getD ((xhR11 + (q : Int)) % ((tilesK d (btI (ks.getD b 0))).length : Int)).toNat 0 ∈ U.2) ∨ (0 ≤ at_ ∧ at_ ∈ (tilesK d (btI (ks.getD b 0))) ∧ at_ ∉ U.2))) (fun k at_ => (tilesK d (btI (ks.getD b 0))).length - k) 0 _ ⟨Nat.zero_le _, .inl ⟨rfl, fun q hq => absurd hq (by omega)⟩⟩ (saQ rfl) (.refl _) ?_
  intro k at_ hi12
  obtain ⟨hk, hat⟩ := hi12
  refine zaa (zaa (reQ 2 rfl ?_))
  refine zbk rfl rfl rfl rfl rfl rfl (fun h13 => ?_) (fun h13 => ?_)
  ·
   refine zam 2 rfl (zbk rfl rfl rfl rfl rfl rfl (fun h14 => ?_) (fun h14 => ?_))
   ·
    refine zba 1 rfl (zak rfl (zcn (sbQ (srQ ?_))))
    have hmo := Int.emod_nonneg (xhR11 + (k : Int)) (show ((tilesK d (btI (ks.getD b 0))).length : Int) ≠ 0 by omega)
    have hmo2 := Int.emod_lt_of_pos (xhR11 + (k : Int)) (show 0 < ((tilesK d (btI (ks.getD b 0))).length : Int) by omega)
    have hat9 := hat.resolve_right (fun h9 => by omega)
    refine zam 1 rfl (zam 2 rfl (hvQ rfl (vaQ rfl rfl rfl) (zam 1 rfl (hvQ rfl (zgi rfl rfl rfl (by constructor <;> omega)) (hvQ rfl (riQ 1 rfl rfl rfl rfl (zac 0 rfl)) (hvQ rfl (zar (u := .int .i64 ((tilesK d (btI (ks.getD b 0))).getD (((xhR11 + (k : Int)) % ((tilesK d (btI (ks.getD b 0))).length : Int)).toNat) 0)) rfl rfl rfl (zac 0 rfl) (zbu (show _ < (tilesK d (btI (ks.getD b 0))).length by omega))) (zba 1 rfl (srQ ?_))))))))
    have htm : ((tilesK d (btI (ks.getD b 0))).getD ((xhR11 + (k : Int)) % ((tilesK d (btI (ks.getD b 0))).length : Int)).toNat 0) ∈ (tilesK d (btI (ks.getD b 0))) := zeh (by omega)
    have htr := (zel hdv).1 htm
    have hus := hup ((tilesK d (btI (ks.getD b 0))).getD ((xhR11 + (k : Int)) % ((tilesK d (btI (ks.getD b 0))).length : Int)).toNat 0).toNat (by omega)
    refine zam 2 rfl (hvQ rfl (riQ 1 rfl rfl rfl rfl (zac 1 rfl)) ?_)
    refine hvQ rfl (zar (u := .bool ((us.getD (((tilesK d (btI (ks.getD b 0))).getD (((xhR11 + (k : Int)) % ((tilesK d (btI (ks.getD b 0))).length : Int)).toNat) 0).toNat) bl0).b)) rfl rfl rfl (zac 1 rfl) (zcr blC (fun r => .bool r.b) (fun _ => rfl) us bl0 (show ((tilesK d (btI (ks.getD b 0))).getD (((xhR11 + (k : Int)) % ((tilesK d (btI (ks.getD b 0))).length : Int)).toNat) 0).toNat < _ by omega))) (zbx (fun h15 => ?_) (fun h15 => ?_))
    ·
     refine zba 1 rfl (fsQ rfl (zco (reQ 1 rfl (hvQ rfl (vaQ rfl rfl rfl) (enQ 1 rfl ?_)))))
     exact zbg (k + 1) _ ⟨by omega, by first | exact .inr ⟨htr.1.1, htm, fun h9 => by have h8 := hus.2 (by rw [Int.toNat_of_nonneg htr.1.1]; exact h9); simp_all⟩ | (refine .inl ⟨hat9.1, fun q hq => ?_⟩; by_cases e : q = k; (subst e; have h8 := hus.1 (by assumption); rwa [Int.toNat_of_nonneg htr.1.1] at h8); exact hat9.2 q (by omega))⟩ (by omega) (saQ rfl) (.refl _)
    refine zba 1 rfl (zak rfl (zay (enQ 2 rfl (zco (reQ 1 rfl (hvQ rfl (vaQ rfl rfl rfl) ?_))))))
    refine enQ 1 rfl ?_
    exact zbg (k + 1) _ ⟨by omega, by first | exact .inr ⟨htr.1.1, htm, fun h9 => by have h8 := hus.2 (by rw [Int.toNat_of_nonneg htr.1.1]; exact h9); simp_all⟩ | (refine .inl ⟨hat9.1, fun q hq => ?_⟩; by_cases e : q = k; (subst e; have h8 := hus.1 (by assumption); rwa [Int.toNat_of_nonneg htr.1.1] at h8); exact hat9.2 q (by omega))⟩ (by omega) (saQ rfl) (.refl _)
   refine zba 1 rfl (zal rfl ?_)
   refine zaz (zds ?_)
   refine zag (zav (zaa (zaa (reQ 1 rfl ?_))))
   refine zbk rfl rfl rfl rfl rfl rfl (fun h16 => ?_) (fun h16 => ?_)
   ·
    refine ntQ (zak rfl (srQ ?_))
    refine zdi rfl (zcb (s := 1) rfl Try.underlying28 rfl) ?_
    intro g17
    refine zba 1 rfl ?_
    refine zaw (zap ?_)
    refine zaq (zgp ?_)
    refine zaq (zap ?_)
    have hat7 := hat.resolve_right (fun h9 => by omega)
    refine zdw (fun w hm => (⟨rdsW_lenN (zac 0 rfl w hm), (zac 0 rfl w hm).one⟩ : lenN _ = _ ∧ _)) (fun hlo => ?_)
    refine zbn 6 [4, 3, 2, 1, 0, 5] rfl rfl (by decide) ?_
    refine zcs 2 rfl ?_
    exact zgm (rs := [.tmp 6]) (vs := [.slice (some ⟨g17, 0, none⟩) 0 0]) rfl ⟨rfl, trivial⟩ rfl (fun w hm => ⟨_, bigE [curE g a len cap, rowE 3 1 (.slice (some ⟨g17, 0, none⟩) 0 0) 0 ([])], rfl, ⟨[], rfl, hlo, .inr ⟨hpl.short hdv (by omega) (by rw [hzl]; exact turn_all (s := xhR11) (fun q hq => hat7.2 q (by omega))), rfl⟩⟩, hm.sub (.cons_cons _ (.cons _ (.cons _ (.cons _ (.cons _ (.refl _))))))⟩)
   refine ntQ (zal rfl (zcn (srQ ?_)))
   have hat8 := hat.resolve_left (fun h9 => by omega)
   obtain ⟨ha0, ha1, ha2⟩ := hat8
   have har9 := (zel hdv).1 ha1
   have hpl9 := hpl.app hdv (by omega) (by rw [hzl]; exact ha1) ha2
   have hup9 := hup.app (y := { us.getD at_.toNat bl0 with b := true }) ha0 rfl
   refine zam 2 rfl (hvQ rfl (riQ 1 rfl rfl rfl rfl (zac 1 rfl)) ?_)
   refine zcu (i := 1) (n' := (us.set ((at_).toNat) { us.getD ((at_).toNat) bl0 with b := true }).length) rfl rfl rfl rfl rfl rfl rfl rfl (by first | omega | (simp only [List.length_set]; omega)) List.length_set.symm (zdh blC (fun r => .bool r.b) (fun _ => rfl) _ ({ us.getD ((at_).toNat) bl0 with b := true }) rfl) rfl (ntQ (reQ 2 rfl ?_))
   refine zdi rfl (zas (z := .int .i64 0) (s := 1) (cs := ([at_].map (Value.int .i64))) rfl Try.underlying28 rfl (by decide) rfl (by kernel_rfl) rfl) ?_
   intro g18
   refine zcf (i := 3) (z := .int .i64 0) (bytes := 8) rfl rfl rfl rfl Try.underlying28 (by kernel_rfl) rfl rfl rfl rfl (zac 0 rfl) (zbm _) (by first | omega | (simp; done) | (simp; omega)) (zbt U.2 ([at_])) (zcl U.2 ([at_])) (fun _ => rfl) ?_
   intro v19
   refine enQ 1 rfl (zco (reQ 1 rfl (hvQ rfl (vaQ rfl rfl rfl) (enQ 1 rfl ?_))))
   exact zbh (b + 1) (v19, U.2 ++ ([at_])) (us.set ((at_).toNat) { us.getD ((at_).toNat) bl0 with b := true }) ⟨by omega, by show List.length (_ ++ [_]) = b + 1; rw [List.length_append, List.length_singleton]; omega, hpl9, by rw [List.length_set]; exact hul, hup9⟩ (by omega) (saQ rfl) (.cons _ (.cons _ (.refl _)))
  refine zba 4 rfl (zal rfl ?_)
  refine zaz (zds ?_)
  refine zag (zav (zaa (zaa (reQ 1 rfl ?_))))
  refine zbk rfl rfl rfl rfl rfl rfl (fun h20 => ?_) (fun h20 => ?_)
  ·
   refine ntQ (zak rfl (srQ ?_))
   refine zdi rfl (zcb (s := 1) rfl Try.underlying28 rfl) ?_
   intro g21
   refine zba 1 rfl ?_
   refine zaw (zap ?_)
   refine zaq (zgp ?_)
   refine zaq (zap ?_)
   have hat7 := hat.resolve_right (fun h9 => by omega)
   refine zdw (fun w hm => (⟨rdsW_lenN (zac 0 rfl w hm), (zac 0 rfl w hm).one⟩ : lenN _ = _ ∧ _)) (fun hlo => ?_)
   refine zbn 6 [4, 3, 2, 1, 0, 5] rfl rfl (by decide) ?_
   refine zcs 2 rfl ?_
   exact zgm (rs := [.tmp 6]) (vs := [.slice (some ⟨g21, 0, none⟩) 0 0]) rfl ⟨rfl, trivial⟩ rfl (fun w hm => ⟨_, bigE [curE g a len cap, rowE 3 1 (.slice (some ⟨g21, 0, none⟩) 0 0) 0 ([])], rfl, ⟨[], rfl, hlo, .inr ⟨hpl.short hdv (by omega) (by rw [hzl]; exact turn_all (s := xhR11) (fun q hq => hat7.2 q (by omega))), rfl⟩⟩, hm.sub (.cons_cons _ (.cons _ (.cons _ (.cons _ (.cons _ (.refl _))))))⟩)
  refine ntQ (zal rfl (zcn (srQ ?_)))
  have hat8 := hat.resolve_left (fun h9 => by omega)
  obtain ⟨ha0, ha1, ha2⟩ := hat8
  have har9 := (zel hdv).1 ha1
  have hpl9 := hpl.app hdv (by omega) (by rw [hzl]; exact ha1) ha2
  have hup9 := hup.app (y := { us.getD at_.toNat bl0 with b := true }) ha0 rfl
  refine zam 2 rfl (hvQ rfl (riQ 1 rfl rfl rfl rfl (zac 1 rfl)) ?_)
  refine zcu (i := 1) (n' := (us.set ((at_).toNat) { us.getD ((at_).toNat) bl0 with b := true }).length) rfl rfl rfl rfl rfl rfl rfl rfl (by first | omega | (simp only [List.length_set]; omega)) List.length_set.symm (zdh blC (fun r => .bool r.b) (fun _ => rfl) _ ({ us.getD ((at_).toNat) bl0 with b := true }) rfl) rfl (ntQ (reQ 2 rfl ?_))
  refine zdi rfl (zas (z := .int .i64 0) (s := 1) (cs := ([at_].map (Value.int .i64))) rfl Try.underlying28 rfl (by decide) rfl (by kernel_rfl) rfl) ?_
  intro g22
  refine zcf (i := 3) (z := .int .i64 0) (bytes := 8) rfl rfl rfl rfl Try.underlying28 (by kernel_rfl) rfl rfl rfl rfl (zac 0 rfl) (zbm _) (by first | omega | (simp; done) | (simp; omega)) (zbt U.2 ([at_])) (zcl U.2 ([at_])) (fun _ => rfl) ?_
  intro v23
  refine enQ 1 rfl (zco (reQ 1 rfl (hvQ rfl (vaQ rfl rfl rfl) (enQ 1 rfl ?_))))
  exact zbh (b + 1) (v23, U.2 ++ ([at_])) (us.set ((at_).toNat) { us.getD ((at_).toNat) bl0 with b := true }) ⟨by omega, by show List.length (_ ++ [_]) = b + 1; rw [List.length_append, List.length_singleton]; omega, hpl9, by rw [List.length_set]; exact hul, hup9⟩ (by omega) (saQ rfl) (.cons _ (.cons _ (.refl _)))
 refine ntQ (zal rfl ?_)
 refine zaz (zds ?_)
 refine zag (zav (zbd 2 rfl ?_))
 refine zaw (zdw (fun w hm => (⟨rdsW_lenN (zac 1 rfl w hm), (zac 1 rfl w hm).one⟩ : lenN _ = _ ∧ _)) (fun hlo => ?_))
 refine zbn 4 [2, 0, 1, 3] rfl rfl (by decide) ?_
 refine zcs 2 rfl ?_
 exact zgm (rs := [.tmp 6]) (vs := [U.1]) rfl ⟨rfl, trivial⟩ rfl (fun w hm => ⟨_, bigE [curE g a len cap, rowE 3 1 U.1 U.2.length (U.2.map (Value.int .i64))], rfl, ⟨_, rfl, hlo, .inl ⟨hpl.fits hdv (by omega), by omega, hpl⟩⟩, hm.sub (.cons_cons _ (.cons _ (.cons _ (.refl _))))⟩)
theorem pinN_le {n : Ln} (hok : LnOk n) {b : Bk} (h : BlP n b) : (pinN n b).length ≤ 5 := by
  unfold pinN
  rw [if_neg (not_not_intro h.1)]
  split
  · exact Nat.zero_le _
  · split
    · exact Nat.le_trans (Nat.le_refl 1) (by decide)
    · split
      · rename_i h0 h1 h2
        have := (hok.sq b.it.toNat (by have := h.rng.2.2.1 h2; omega)).1.len
        omega
      · rename_i h0 h1 h2
        have : b.kd = 3 := by rcases h.1 with ⟨p, -⟩ | ⟨p, -⟩ | ⟨p, -⟩ | ⟨p, -⟩ <;> first | exact p | exact absurd p (by assumption)
        exact (h.2.1 this).2.2
theorem outN_le {n : Ln} {b : Bk} (h : BlP n b) : (outNd n b).length ≤ 2 := by
  unfold outNd
  rw [if_neg (not_not_intro h.1)]
  split
  · exact Nat.le_trans (Nat.le_refl 1) (by decide)
  · split
    · exact Nat.zero_le _
    · split
      · exact Nat.le_trans (Nat.le_refl 1) (by decide)
      · rw [outL_len]; exact h.rng.2.2.2.1
structure Pn where
  b : Int
  p : Int
abbrev pn0 : Pn := ⟨0, 0⟩
def pnC (k : Pn) : List Value := [.int .i64 k.b, .int .i64 k.p]
structure Cn where
  nd : Int
  sb : Int
  sp : Int
  kv : Value
  ks : List Pn
abbrev cn0 : Cn := ⟨0, 0, 0, .slice none 0 0, []⟩
def cnC (c : Cn) : List Value := [.int .i64 c.nd, .int .i64 c.sb, .int .i64 c.sp, c.kv]
def KsR (w : World) (cs : List Cn) : Prop := ∀ c ∈ cs, RdsW w c.kv 2 c.ks.length (c.ks.flatMap pnC)
structure RdsCn (w : World) (v : Value) (cs : List Cn) : Prop where
  row : RdsW w v 4 cs.length (cs.flatMap cnC)
  ks : KsR w cs
theorem RdsCn.below {w w' : World} {v : Value} {cs : List Cn} (h : RdsCn w v cs) (hb : Below w.heap.size w w') : RdsCn w' v cs := ⟨h.row.below hb, fun c hc => (h.ks c hc).below hb⟩
theorem RdsCn.at {w : World} {v : Value} {cs : List Cn} (h : RdsCn w v cs) {k : Nat} (hk : k < cs.length) : RdsW w (cs.getD k cn0).kv 2 (cs.getD k cn0).ks.length ((cs.getD k cn0).ks.flatMap pnC) := h.ks _ (zbs hk)
def PnIn (B : Nat) (ks : List Pn) : Prop := ∀ k ∈ ks, (0 ≤ k.b ∧ k.b < (B : Int)) ∧ 0 ≤ k.p ∧ k.p ≤ 4
def CnIn (B : Nat) (cs : List Cn) : Prop := ∀ c ∈ cs, ((0 ≤ c.sb ∧ c.sb < (B : Int)) ∧ 0 ≤ c.sp ∧ c.sp ≤ 4) ∧ (1 ≤ c.ks.length ∧ c.ks.length ≤ 5 * B) ∧ PnIn B c.ks
theorem PnIn.nil (B : Nat) : PnIn B [] := fun k hk => by cases hk
theorem PnIn.app {B : Nat} {ks : List Pn} (h : PnIn B ks) {b p : Int} (hb : (0 ≤ b ∧ b < (B : Int)) ∧ 0 ≤ p ∧ p ≤ 4) : PnIn B (ks ++ [Pn.mk b p]) := fun x hx => by
  rcases List.mem_append.1 hx with hx | hx
  · exact h x hx
  · rw [List.mem_singleton] at hx; subst hx; exact hb
theorem CnIn.nil (B : Nat) : CnIn B [] := fun k hk => by cases hk
theorem CnIn.app {B : Nat} {cs : List Cn} (h : CnIn B cs) {nd sb sp : Int} {kv : Value} {ks : List Pn} (h1 : (0 ≤ sb ∧ sb < (B : Int)) ∧ 0 ≤ sp ∧ sp ≤ 4) (h2 : 1 ≤ ks.length ∧ ks.length ≤ 5 * B) (h3 : PnIn B ks) : CnIn B (cs ++ [Cn.mk nd sb sp kv ks]) := fun x hx => by
  rcases List.mem_append.1 hx with hx | hx
  · exact h x hx
  · rw [List.mem_singleton] at hx; subst hx; exact ⟨h1, h2, h3⟩
def CoP (cs : List Cn) : Prop := cs.length ≤ 100 ∧ ∀ k, k < cs.length → (cs.getD k cn0).ks.length ≤ 120
def CnM (M : Nat) (cs : List Cn) : Prop := ∀ c ∈ cs, c.ks.length ≤ M
theorem CnM.nil (M : Nat) : CnM M [] := fun k hk => by cases hk
theorem CnM.app {M : Nat} {cs : List Cn} (h : CnM M cs) {c : Cn} (h1 : c.ks.length ≤ M) : CnM M (cs ++ [c]) := fun x hx => by
  rcases List.mem_append.1 hx with hx | hx
  · exact h x hx
  · rw [List.mem_singleton] at hx; subst hx; exact h1
def kW (x : Int) : Nat := if x = 0 ∨ x = 1 then 1 else 5
def kSm (bs : List Bk) : Nat → Nat
  | 0 => 0
  | i + 1 => kSm bs i + kW (bs.getD i bk0).kd
theorem kSm_le (bs : List Bk) {i : Nat} : ∀ {j : Nat}, i ≤ j → kSm bs i ≤ kSm bs j
  | 0, h => by rw [show i = 0 by omega]; exact Nat.le_refl _
  | j + 1, h => by
    by_cases e : i = j + 1
    · rw [e]; exact Nat.le_refl _
    · exact Nat.le_trans (kSm_le bs (by omega)) (Nat.le_add_right _ _)
theorem pinN_kW {n : Ln} (hok : LnOk n) {b : Bk} (h : BlP n b) : (pinN n b).length ≤ kW b.kd := by
  have h5 := pinN_le hok h
  unfold kW
  split
  · rename_i hk
    unfold pinN
    rw [if_neg (not_not_intro h.1)]
    rcases hk with hk | hk
    · rw [if_pos hk]; exact Nat.zero_le _
    · rw [if_neg (by omega), if_pos hk]; exact Nat.le_refl 1
  · exact h5
theorem btI_zero {x : Int} (h : btI x = 0) : kW x = 1 := by
  unfold btI at h; unfold kW
  split at h
  · rename_i h1; rw [if_pos h1]
  · split at h
    · omega
    · split at h <;> omega
theorem kW_le (x : Int) : kW x ≤ 5 := by unfold kW; split <;> omega
theorem kSm_pl {d : Dev} {bs : List Bk} {zs : List Int} (h : PlP d (bs.map Bk.kd) zs) (hl : zs.length = (bs.map Bk.kd).length) : ∀ i, i ≤ bs.length → kSm bs i ≤ i + 4 * ((zs.take i).filter (fun x => tileKindI d x != 0)).length
  | 0, _ => by simp [kSm]
  | i + 1, hi => by
    rw [List.length_map] at hl
    have ih := kSm_pl h (by rw [List.length_map]; exact hl) i (by omega)
    have hk := h.kd i (by omega)
    have hm : (bs.map Bk.kd).getD i 0 = (bs.getD i bk0).kd := by
      rw [List.getD_eq_getElem?_getD, List.getElem?_map, List.getD_eq_getElem?_getD, List.getElem?_eq_getElem (show i < bs.length by omega)]; rfl
    rw [hm] at hk
    rw [zdx 0 (show i < zs.length by omega), List.filter_append, List.length_append]
    show kSm bs i + kW (bs.getD i bk0).kd ≤ _
    by_cases e : tileKindI d (zs.getD i 0) = 0
    · rw [e] at hk
      have := btI_zero hk.symm
      omega
    · have h5 := kW_le (bs.getD i bk0).kd
      rw [show ([zs.getD i 0].filter (fun x => tileKindI d x != 0)) = [zs.getD i 0] by rw [List.filter_cons_of_pos (by simpa using e)]; rfl]
      rw [List.length_singleton]; omega
theorem in16 {d : Dev} (hd : devB d = true) {x : Int} (hx : 0 ≤ x ∧ x < d.W * d.H) (hk : tileKindI d x ≠ 0) : x ∈ (List.range 16).map (fun k : Nat => d.W * ((k : Int) / 4 + 1) + (k : Int) % 4 + 1) := by
  obtain ⟨⟨a, b⟩, ⟨c, e⟩, -⟩ := (zeq d).1 hd
  unfold tileKindI at hk
  rw [if_pos ((zgo d x).2 ⟨hd, by omega, by omega⟩)] at hk
  unfold kindI at hk
  have hn : ¬ ((x % d.W = 0 ∨ x % d.W = d.W - 1) ∨ (x / d.W = 0 ∨ x / d.W = d.H - 1)) := fun h9 => hk (if_pos h9)
  have h1 := Int.emod_nonneg x (show d.W ≠ 0 by omega)
  have h2 := Int.emod_lt_of_pos x (show 0 < d.W by omega)
  have h3 : 0 ≤ x / d.W := Int.ediv_nonneg hx.1 (by omega)
  have h4 : x / d.W < d.H := Int.ediv_lt_of_lt_mul (by omega) (by rw [Int.mul_comm]; exact hx.2)
  have h5 := Int.mul_ediv_add_emod x d.W
  generalize x % d.W = p at *
  generalize x / d.W = q at *
  refine List.mem_map.2 ⟨((q - 1) * 4 + (p - 1)).toNat, List.mem_range.2 (by omega), ?_⟩
  rw [show ((((q - 1) * 4 + (p - 1)).toNat : Nat) : Int) / 4 + 1 = q by omega, show ((((q - 1) * 4 + (p - 1)).toNat : Nat) : Int) % 4 = p - 1 by omega]
  omega
theorem PlP.few {d : Dev} (hd : devB d = true) {ks zs : List Int} (h : PlP d ks zs) : zs.length ≤ 36 ∧ (zs.filter (fun x => tileKindI d x != 0)).length ≤ 16 := by
  have har := zfe hd
  refine ⟨?_, ?_⟩
  · refine Nat.le_trans (zgy zs ((List.range 36).map (fun k : Nat => (k : Int))) h.nd fun x hx => ?_) (by simp)
    have := h.mem_rg hx
    exact List.mem_map.2 ⟨x.toNat, List.mem_range.2 (by omega), by omega⟩
  · refine Nat.le_trans (zgy _ _ (h.nd.filter _) fun x hx => ?_) (Nat.le_of_eq (show ((List.range 16).map (fun k : Nat => d.W * ((k : Int) / 4 + 1) + (k : Int) % 4 + 1)).length = 16 by rw [List.length_map, List.length_range]))
    rw [List.mem_filter] at hx
    exact in16 hd (h.mem_rg hx.1) (by simpa using hx.2)
theorem coP_pl {d : Dev} (hd : devB d = true) {bs : List Bk} {zs : List Int} (h : PlP d (bs.map Bk.kd) zs) (hl : zs.length = (bs.map Bk.kd).length) {cs : List Cn} (h1 : cs.length ≤ 2 * bs.length) (h2 : CnM (kSm bs bs.length) cs) : CoP cs := by
  obtain ⟨f1, f2⟩ := h.few hd
  have hs := kSm_pl h hl bs.length (Nat.le_refl _)
  rw [List.length_map] at hl
  rw [← hl, List.take_length, hl] at hs
  refine ⟨by omega, fun k hk => ?_⟩
  have := h2 _ (zbs (d := cn0) hk)
  omega
theorem KsR.nil (w : World) : KsR w [] := fun c hc => by cases hc
theorem KsR.app {w : World} {cs : List Cn} (h : KsR w cs) {c : Cn} (hc : RdsW w c.kv 2 c.ks.length (c.ks.flatMap pnC)) : KsR w (cs ++ [c]) := fun x hx => by
  rcases List.mem_append.1 hx with hx | hx
  · exact h x hx
  · rw [List.mem_singleton] at hx; subst hx; exact hc
theorem ConnsOf_ret (n : Ln) (bs : List Bk) (v : Value) (w : World) (hr : RdsLn w n) (hok : LnOk n) (hbk : RdsBk w v bs) (hel : ∀ k, k < bs.length → (bs.getD k bk0).es.length ≤ 100) :
   Calls Try.prog 15 #[.agg #[.int .i64 n.ins, n.sv, n.lv, n.ov], v] w (Ret w (fun u_ p_ => ∃ (ps : List HP) (cs : List Cn), p_ = [bigE ps] ∧ (∀ w, (bigE ps).holds w → RdsCn w u_ cs) ∧ u_.oneCell' = true ∧ CnIn bs.length cs ∧ cs.length ≤ 2 * bs.length ∧ CnM (kSm bs bs.length) cs)) := by
 have hso := sml hr.ou
 have hss := hr.sq.small
 have hsl := hr.lt.small
 have hcnt : n.cnt = 1 + n.ins + n.ss.length + n.ls.length := rfl
 have hfst : n.fst = 1 + n.ins + n.ss.length := rfl
 obtain ⟨⟨si0, si1⟩, s2, s3, s4⟩ := hok.sz
 have hbs9 := sml hbk.row
 refine zbl (N := 106) (args := [.agg #[.int .i64 n.ins, n.sv, n.lv, n.ov], v]) Try.func15 rfl rfl (srQ ?_)
 refine zdt rfl (zcm rfl rfl) ?_
 intro b1
 refine zba 1 rfl (srQ ?_)
 refine zdi rfl (zcb (s := 4) rfl Try.underlying34 rfl) ?_
 intro g2
 refine zba 1 rfl (zfc (hvQ rfl (zao (cs := [.int .i64 n.ins, n.sv, n.lv, n.ov]) rfl rfl rfl rfl rfl (zaj 1 rfl 0 rfl)) (zam 1 rfl ?_)))
 refine zfu rfl rfl rfl (zan rfl rfl (fun w hm => PackOk_ret n bs v w (hr.below hm.bel) hok (hbk.below hm.bel) hel)) ?_
 intro v3 p4 hR5
 obtain ⟨xhR5, rfl, rfl, khR5⟩ := hR5
 refine zam 1 rfl (zbx (fun h6 => ?_) (fun h6 => ?_))
 ·
  refine ntQ (zak rfl (zbd 2 rfl ?_))
  refine zaw (zap ?_)
  refine zbn 2 [1, 0] rfl rfl (by decide) ?_
  refine zcs 1 rfl ?_
  exact zcz (post := [bigE [rowE 44 4 (.slice (some ⟨g2, 0, none⟩) 0 0) 0 ([])]]) rfl rfl (slQ [0] rfl) ⟨_, [], rfl, fun w hw => ⟨zcc (zbf hw List.mem_cons_self), KsR.nil w⟩, rfl, CnIn.nil _, Nat.zero_le _, CnM.nil _⟩
 obtain ⟨hb64, hblp⟩ := khR5 (by simpa using h6)
 refine ntQ (zal rfl (zcn (srQ ?_)))
 refine zdi rfl (zcb (s := 1) rfl Try.underlying63 rfl) ?_
 intro g7
 refine zba 1 rfl (zaa (zbd 1 rfl (zax ?_)))
 refine zfa _ zgg ?_
 refine lkQ4 (α := Nat) (β := Value) (γ := List CRow) (δ := List HP) [0, 1, 2, 4, 5, 18] rfl (fun b gp rs bp => [bigE bp, rowE 28 1 gp rs.length (rs.flatMap crowC), rowE 44 4 (.slice (some ⟨g2, 0, none⟩) 0 0) 0 ([]), boxE b1 #[.int .i64 n.ins, n.sv, n.lv, n.ov] 30]) (fun b gp rs bp => [(6, gp), (7, .int .i64 (b : Int))]) (fun b gp rs bp => b ≤ bs.length ∧ rs.length = b ∧ (∀ q, q < b → (rs.getD q crow0).xs = pinN n (bs.getD q bk0)) ∧ ∀ w, (bigE bp).holds w → RdsAll w rs) (fun b gp rs bp => bs.length - b) 0 _ [] _ ⟨Nat.zero_le _, rfl, fun q hq => absurd hq (by omega), fun w _ => RdsAll.nil w⟩ (saQ rfl) (pfQ rfl) ?_
 intro b gp rs bp hi8
 obtain ⟨hb, hrl, hrp, hbp⟩ := hi8
 refine zaa (zaa (reQ 2 rfl (hvQ rfl (lnQ rfl rfl rfl (zae hbk.row)) ?_)))
 refine zbk rfl rfl rfl rfl rfl rfl (fun h9 => ?_) (fun h9 => ?_)
 ·
  refine ntQ (zak rfl (zcn (sbQ ?_)))
  refine zdg rfl 8 [0, 1, 2, 3, 4, 5, 6, 7] (List.take 8 _) (List.drop 8 _) [[], [], [], [], [2, 3], [4], [1, 5], [6]] [27, 28, 29, 30, 31, 32, 33, 34] (fun i_ vs_ v_ p_ => match i_ with | 0 => v_ = gp ∧ p_ = [] | 1 => v_ = .agg #[.int .i64 n.ins, n.sv, n.lv, n.ov] ∧ p_ = [] | 2 => v_ = v ∧ p_ = [] | 3 => v_ = .int .i64 (b : Int) ∧ p_ = [] | 4 => v_ = elP v (((b : Int)).toNat * 3) ∧ p_ = [] | 5 => v_ = .agg #[.int .i64 ((bs.getD b bk0).kd), .int .i64 ((bs.getD b bk0).it), (bs.getD b bk0).bv] ∧ p_ = [] | 6 => (fun v' post => post = [rowE 3 1 v' ((pinN n (bs.getD b bk0))).length (((pinN n (bs.getD b bk0))).map (Value.int .i64))]) v_ p_ | 7 => IsRow 28 1 1 ([(List.getD vs_ 0 undef)]) v_ p_ | _ => True) (List.take_append_drop 8 _).symm (by kernel_rfl) (by kernel_rfl) rfl rfl ?_ ?_
  ·
   refine ⟨?_, ?_, ?_, ?_, ?_, ?_, ?_, ?_, trivial⟩
   ·
    intro vf pf hR
    exact ovQ rfl (zai [6] rfl) (zbe (zat rfl))
   ·
    intro vf pf hR
    exact olQ rfl (zai [2] rfl) (zbe (zao (cs := [.int .i64 n.ins, n.sv, n.lv, n.ov]) rfl rfl rfl rfl rfl (zaj 3 rfl 0 rfl)))
   ·
    intro vf pf hR
    exact ovQ rfl (zai [1] rfl) (zbe (zat rfl))
   ·
    intro vf pf hR
    exact ovQ rfl (zai [7] rfl) (zbe (zat rfl))
   ·
    intro vf pf hR
    have e2 := hR 2 (by decide)
    have e3 := hR 3 (by decide)
    exact olQ rfl (sk 29 (congrArg some e2.1) (sk 30 (congrArg some e3.1) (zad _))) (zbe (riQ 3 rfl rfl rfl rfl (zae hbk.row)))
   ·
    intro vf pf hR
    have e4 := hR 4 (by decide)
    exact olQ rfl (sk 31 (congrArg some e4.1) (zad _)) (zbe (zcg (us := [.int .i64 ((bs.getD b bk0).kd), .int .i64 ((bs.getD b bk0).it), (bs.getD b bk0).bv]) rfl rfl rfl rfl (zae hbk.row) (by omega) rfl (zcw bkC 3 (fun _ => rfl) bs bk0 (show b < _ by omega) rfl)))
   ·
    intro vf pf hR
    have e1 := hR 1 (by decide)
    have e5 := hR 5 (by decide)
    exact olQ rfl (sk 28 (congrArg some e1.1) (sk 32 (congrArg some e5.1) (zad _))) (zan rfl rfl (fun w hm => PinNodes_ret n (bs.getD b bk0) w (hr.below hm.bel) hok ((hbk.at (k := b) (by omega)).below hm.bel) (hel b (by omega))))
   intro vf pf hR
   have e6 : (fun v' post => post = [rowE 3 1 v' ((pinN n (bs.getD b bk0))).length (((pinN n (bs.getD b bk0))).map (Value.int .i64))]) (vf 6) (pf 6) := hR 6 (by decide)
   obtain ⟨v10, vE6⟩ : ∃ x, vf 6 = x := ⟨_, rfl⟩
   obtain ⟨p11, pE6⟩ : ∃ x, pf 6 = x := ⟨_, rfl⟩
   have hR12 := e6
   rw [vE6, pE6] at hR12
   subst hR12
   refine Or.inl ⟨rfl, ?_⟩
   exact zcj (sk 33 (congrArg some vE6) (zad _)) (by simp only [pE6, vE6, fS] <;> rfl) (zcy (rq_buildSlice1M rfl Try.underlying63 (by kernel_rfl) rfl (fun w hm => (zac 0 rfl w hm).one)) (fun v_ p_ h => by show IsRow 28 1 1 ([(vf 6)]) v_ p_; rw [vE6]; exact h))
  intro vf pf hR
  have e0 := hR 0 (by decide)
  have e6 : (fun v' post => post = [rowE 3 1 v' ((pinN n (bs.getD b bk0))).length (((pinN n (bs.getD b bk0))).map (Value.int .i64))]) (vf 6) (pf 6) := hR 6 (by decide)
  obtain ⟨v10, vE6⟩ : ∃ x, vf 6 = x := ⟨_, rfl⟩
  obtain ⟨p11, pE6⟩ : ∃ x, pf 6 = x := ⟨_, rfl⟩
  have hR12 := e6
  rw [vE6, pE6] at hR12
  subst hR12
  have e7 : IsRow 28 1 1 ([(vf 6)]) (vf 7) (pf 7) := hR 7 (by decide)
  rw [vE6] at e7
  obtain ⟨g13, vE7, pE7⟩ := e7
  have q0 := hR 0 (by decide)
  have q1 := hR 1 (by decide)
  have q2 := hR 2 (by decide)
  have q3 := hR 3 (by decide)
  have q4 := hR 4 (by decide)
  have q5 := hR 5 (by decide)
  refine zck (zbj [24, 18, 7, 6, 5, 4, 2, 1, 0] _ (sk 27 (congrArg some e0.1) (sk 34 (congrArg some vE7) (zad _))) rfl) (by simp only [pE6, vE6, pE7, vE7, q0.2, q1.2, q2.2, q3.2, q4.2, q5.2, fS] <;> rfl) ?_
  simp only [List.drop_succ_cons, List.drop_zero]
  refine zdn (i := 0) rfl (fun ho14 => ?_)
  refine zcf (i := 3) (z := .slice none 0 0) (bytes := 24) rfl rfl rfl rfl Try.underlying63 (by kernel_rfl) rfl rfl rfl rfl (zac 1 rfl) (zah ho14 zbp) (by first | omega | (simp only [List.length_append, List.length_cons, List.length_nil]; omega)) (zbt rs [(CRow.mk v10 (pinN n (bs.getD b bk0)))]) (zcp crowC rs (CRow.mk v10 (pinN n (bs.getD b bk0))) _ rfl) (fun _ => rfl) ?_
  intro v15
  refine enQ 1 rfl (zco (reQ 1 rfl (hvQ rfl (vaQ rfl rfl rfl) (enQ 1 rfl ?_))))
  refine zbn 6 [5, 4, 3, 0, 2] rfl rfl (by decide) ?_
  refine zcs 2 rfl ?_
  exact zci (b + 1) v15 (rs ++ [(CRow.mk v10 (pinN n (bs.getD b bk0)))]) [bigE bp, rowE 3 1 v10 ((pinN n (bs.getD b bk0)).length) ((pinN n (bs.getD b bk0)).map (Value.int .i64))] ⟨by omega, by rw [List.length_append, List.length_singleton]; omega, fun q hq => by by_cases e : q < rs.length; (rw [zet e]; exact hrp q (by omega)); (obtain rfl : q = rs.length := by omega); (rw [zeu (Nat.le_refl _), Nat.sub_self, hrl]; rfl), fun w hw => RdsAll.cons (u := CRow.mk v10 (pinN n (bs.getD b bk0))) (hbp w (zbf hw List.mem_cons_self)) (zcc (zbf hw (List.mem_cons_of_mem _ List.mem_cons_self))) (fun q hq => (List.mem_append.1 hq).elim .inr (fun h => .inl (List.mem_singleton.1 h)))⟩ (by omega) (saQ rfl) (pfQ rfl)
 refine ntQ (zal rfl ?_)
 refine zaz (zds ?_)
 refine zag (zav (zaa (zbd 1 rfl (zax ?_))))
 refine zfa _ zgg ?_
 refine lkQ3 (α := Nat) (β := Value × List Cn) (γ := List HP) [0, 1, 2, 4, 6, 18, 24] rfl (fun c U ps => [bigE ps, bigE bp, rowE 28 1 gp rs.length (rs.flatMap crowC), rowE 44 4 U.1 U.2.length (U.2.flatMap cnC), boxE b1 #[.int .i64 n.ins, n.sv, n.lv, n.ov] 30]) (fun c U ps => [(5, U.1), (8, .int .i64 (c : Int))]) (fun c U ps => c ≤ bs.length ∧ U.2.length ≤ 2 * c ∧ CnIn bs.length U.2 ∧ CnM (kSm bs bs.length) U.2 ∧ ∀ w, (bigE ps).holds w → KsR w U.2) (fun c U ps => bs.length - c) 0 (_, []) _ ⟨Nat.zero_le _, Nat.zero_le _, CnIn.nil _, CnM.nil _, fun w _ => KsR.nil w⟩ (saQ rfl) (pfQ rfl) ?_
 intro c U ps hi16
 obtain ⟨hc, hul, hui, hum, huk⟩ := hi16
 refine zaa (zaa (reQ 2 rfl (hvQ rfl (lnQ rfl rfl rfl (zae hbk.row)) ?_)))
 refine zbk rfl rfl rfl rfl rfl rfl (fun h17 => ?_) (fun h17 => ?_)
 ·
  refine ntQ (zak rfl (zcn (sbQ (zaa ?_))))
  refine zdg rfl 6 [0, 1, 2, 3, 4, 5] (List.take 6 _) (List.drop 6 _) [[], [], [], [1, 2], [3], [0, 4]] [42, 43, 44, 45, 46, 47] (fun i_ vs_ v_ p_ => match i_ with | 0 => v_ = .agg #[.int .i64 n.ins, n.sv, n.lv, n.ov] ∧ p_ = [] | 1 => v_ = v ∧ p_ = [] | 2 => v_ = .int .i64 (c : Int) ∧ p_ = [] | 3 => v_ = elP v (((c : Int)).toNat * 3) ∧ p_ = [] | 4 => v_ = .agg #[.int .i64 ((bs.getD c bk0).kd), .int .i64 ((bs.getD c bk0).it), (bs.getD c bk0).bv] ∧ p_ = [] | 5 => (fun v' post => post = [rowE 3 1 v' ((outNd n (bs.getD c bk0))).length (((outNd n (bs.getD c bk0))).map (Value.int .i64))]) v_ p_ | _ => True) (List.take_append_drop 6 _).symm (by kernel_rfl) (by kernel_rfl) rfl rfl ?_ ?_
  ·
   refine ⟨?_, ?_, ?_, ?_, ?_, ?_, trivial⟩
   ·
    intro vf pf hR
    exact olQ rfl (zai [2] rfl) (zbe (zao (cs := [.int .i64 n.ins, n.sv, n.lv, n.ov]) rfl rfl rfl rfl rfl (zaj 4 rfl 0 rfl)))
   ·
    intro vf pf hR
    exact ovQ rfl (zai [1] rfl) (zbe (zat rfl))
   ·
    intro vf pf hR
    exact ovQ rfl (zai [8] rfl) (zbe (zat rfl))
   ·
    intro vf pf hR
    have e1 := hR 1 (by decide)
    have e2 := hR 2 (by decide)
    exact olQ rfl (sk 43 (congrArg some e1.1) (sk 44 (congrArg some e2.1) (zad _))) (zbe (riQ 3 rfl rfl rfl rfl (zae hbk.row)))
   ·
    intro vf pf hR
    have e3 := hR 3 (by decide)
    exact olQ rfl (sk 45 (congrArg some e3.1) (zad _)) (zbe (zcg (us := [.int .i64 ((bs.getD c bk0).kd), .int .i64 ((bs.getD c bk0).it), (bs.getD c bk0).bv]) rfl rfl rfl rfl (zae hbk.row) (by omega) rfl (zcw bkC 3 (fun _ => rfl) bs bk0 (show c < _ by omega) rfl)))
   intro vf pf hR
   have e0 := hR 0 (by decide)
   have e4 := hR 4 (by decide)
   exact olQ rfl (sk 42 (congrArg some e0.1) (sk 46 (congrArg some e4.1) (zad _))) (zan rfl rfl (fun w hm => OutNodes_ret n (bs.getD c bk0) w (hr.below hm.bel) hok ((hbk.at (k := c) (by omega)).below hm.bel) (hel c (by omega))))
  intro vf pf hR
  have e5 : (fun v' post => post = [rowE 3 1 v' ((outNd n (bs.getD c bk0))).length (((outNd n (bs.getD c bk0))).map (Value.int .i64))]) (vf 5) (pf 5) := hR 5 (by decide)
  obtain ⟨v18, vE5⟩ : ∃ x, vf 5 = x := ⟨_, rfl⟩
  obtain ⟨p19, pE5⟩ : ∃ x, pf 5 = x := ⟨_, rfl⟩
  have hR20 := e5
  rw [vE5, pE5] at hR20
  subst hR20
  have q0 := hR 0 (by decide)
  have q1 := hR 1 (by decide)
  have q2 := hR 2 (by decide)
  have q3 := hR 3 (by decide)
  have q4 := hR 4 (by decide)
  refine zck (zbj [39, 24, 18, 8, 6, 5, 4, 2, 1, 0] _ (sk 47 (congrArg some vE5) (zad _)) rfl) (by simp only [pE5, vE5, q0.2, q1.2, q2.2, q3.2, q4.2, fS] <;> rfl) ?_
  simp only [List.drop_succ_cons, List.drop_zero]
  refine zba 1 rfl (srQ ?_)
  have hol9 := outN_le (hblp c (by omega))
  refine zba 1 rfl (zax ?_)
  refine lkQ3 (α := Nat) (β := Value × List Cn) (γ := List HP) [0, 1, 2, 4, 6, 8, 9, 18, 24, 39] rfl (fun p W qs => [rowE 3 1 v18 ((outNd n (bs.getD c bk0)).length) ((outNd n (bs.getD c bk0)).map (Value.int .i64)), bigE qs, bigE bp, rowE 28 1 gp rs.length (rs.flatMap crowC), rowE 44 4 W.1 W.2.length (W.2.flatMap cnC), boxE b1 #[.int .i64 n.ins, n.sv, n.lv, n.ov] 30]) (fun p W qs => [(5, W.1), (10, .int .i64 (p : Int))]) (fun p W qs => p ≤ (outNd n (bs.getD c bk0)).length ∧ W.2.length ≤ 2 * c + p ∧ CnIn bs.length W.2 ∧ CnM (kSm bs bs.length) W.2 ∧ ∀ w, (bigE qs).holds w → KsR w W.2) (fun p W qs => (outNd n (bs.getD c bk0)).length - p) 0 U ps ⟨Nat.zero_le _, by omega, hui, hum, huk⟩ (saQ rfl) (pfQ rfl) ?_
  intro p W qs hi21
  obtain ⟨hp, hvl, hvi, hvm, hvk⟩ := hi21
  refine zaa (zaa (reQ 2 rfl (hvQ rfl (lnQ rfl rfl rfl (zac 0 rfl)) ?_)))
  refine zbk rfl rfl rfl rfl rfl rfl (fun h22 => ?_) (fun h22 => ?_)
  ·
   refine ntQ (zak rfl (zcn (sbQ (zaa (reQ 2 rfl (hvQ rfl (riQ 1 rfl rfl rfl rfl (zac 0 rfl)) (hvQ rfl (zar (u := .int .i64 ((outNd n (bs.getD c bk0)).getD p 0)) rfl rfl rfl (zac 0 rfl) (zbu (show _ < (outNd n (bs.getD c bk0)).length by omega))) (zam 2 rfl ?_))))))))
   refine hvQ rfl (zcq (cs := #[.int .i64 (c : Int), .int .i64 (p : Int)]) rfl rfl rfl) (hvQ rfl (zcq (cs := #[.int .i64 ((outNd n (bs.getD c bk0)).getD p 0), .int .i64 (c : Int), .int .i64 (p : Int), .slice none 0 0]) rfl rfl rfl) ?_)
   refine zdt rfl (zbw (z := .agg #[.int .i64 0, .int .i64 0, .int .i64 0, .slice none 0 0]) rfl rfl) ?_
   intro b23
   refine zcd (cs' := #[.int .i64 ((outNd n (bs.getD c bk0)).getD p 0), .int .i64 (c : Int), .int .i64 (p : Int), .slice none 0 0]) (i := 0) (off := 0) (us := [.int .i64 ((outNd n (bs.getD c bk0)).getD p 0), .int .i64 (c : Int), .int .i64 (p : Int), .slice none 0 0]) rfl rfl rfl rfl rfl rfl rfl (zah rfl (zah rfl (zah rfl (zah rfl zbp)))) rfl rfl rfl (ntQ (zaa (zbd 1 rfl (zax ?_))))
   refine zfa [rowE 41 2 (.slice none 0 0) (([] : List Pn).length) (([] : List Pn).flatMap pnC), boxE b23 #[.int .i64 ((outNd n (bs.getD c bk0)).getD p 0), .int .i64 (c : Int), .int .i64 (p : Int), .slice none 0 0] 44, rowE 3 1 v18 ((outNd n (bs.getD c bk0)).length) ((outNd n (bs.getD c bk0)).map (Value.int .i64)), bigE qs, bigE bp, rowE 28 1 gp rs.length (rs.flatMap crowC), rowE 44 4 W.1 W.2.length (W.2.flatMap cnC), boxE b1 #[.int .i64 n.ins, n.sv, n.lv, n.ov] 30] (fun w hm => hm.nilRow 41 2) ?_
   refine lkQ3 (α := Nat) (β := Value) (γ := List Pn) [0, 1, 2, 4, 5, 6, 8, 9, 10, 11, 18, 24, 39, 51] rfl (fun i ui xs => [rowE 41 2 ui xs.length (xs.flatMap pnC), boxE b23 #[.int .i64 ((outNd n (bs.getD c bk0)).getD p 0), .int .i64 (c : Int), .int .i64 (p : Int), ui] 44, rowE 3 1 v18 ((outNd n (bs.getD c bk0)).length) ((outNd n (bs.getD c bk0)).map (Value.int .i64)), bigE qs, bigE bp, rowE 28 1 gp rs.length (rs.flatMap crowC), rowE 44 4 W.1 W.2.length (W.2.flatMap cnC), boxE b1 #[.int .i64 n.ins, n.sv, n.lv, n.ov] 30]) (fun i ui xs => [(12, .int .i64 (i : Int))]) (fun i ui xs => i ≤ bs.length ∧ xs.length ≤ 5 * i ∧ xs.length ≤ kSm bs i ∧ PnIn bs.length xs) (fun i ui xs => bs.length - i) 0 _ [] ⟨Nat.zero_le _, Nat.zero_le _, Nat.zero_le _, PnIn.nil _⟩ (saQ rfl) (pfQ rfl) ?_
   intro i ui xs hi24
   obtain ⟨hi, hxl, hxm, hxi⟩ := hi24
   refine zaa (zaa (reQ 2 rfl (hvQ rfl (lnQ rfl rfl rfl (zac 5 rfl)) ?_)))
   refine zbk rfl rfl rfl rfl rfl rfl (fun h25 => ?_) (fun h25 => ?_)
   ·
    refine ntQ (zak rfl (zcn (sbQ (zbd 1 rfl ?_))))
    refine zax ?_
    refine lkQ3 (α := Nat) (β := Value) (γ := List Pn) [0, 1, 2, 4, 5, 6, 8, 9, 10, 11, 12, 18, 24, 39, 51, 65] rfl (fun k uk ys => [rowE 41 2 uk ys.length (ys.flatMap pnC), boxE b23 #[.int .i64 ((outNd n (bs.getD c bk0)).getD p 0), .int .i64 (c : Int), .int .i64 (p : Int), uk] 44, rowE 3 1 v18 ((outNd n (bs.getD c bk0)).length) ((outNd n (bs.getD c bk0)).map (Value.int .i64)), bigE qs, bigE bp, rowE 28 1 gp rs.length (rs.flatMap crowC), rowE 44 4 W.1 W.2.length (W.2.flatMap cnC), boxE b1 #[.int .i64 n.ins, n.sv, n.lv, n.ov] 30]) (fun k uk ys => [(13, .int .i64 (k : Int))]) (fun k uk ys => k ≤ (rs.getD i crow0).xs.length ∧ ys.length ≤ 5 * i + k ∧ ys.length ≤ kSm bs i + k ∧ PnIn bs.length ys) (fun k uk ys => (rs.getD i crow0).xs.length - k) 0 _ xs ⟨Nat.zero_le _, by omega, by omega, hxi⟩ (saQ rfl) (pfQ rfl) ?_
    intro k uk ys hi26
    obtain ⟨hk, hyl, hym, hyi⟩ := hi26
    refine zfc ?_
    have hpl9 := pinN_le hok (hblp i (by omega))
    rw [← hrp i (by omega)] at hpl9
    have hpw9 := pinN_kW hok (hblp i (by omega))
    rw [← hrp i (by omega)] at hpw9
    refine zam 3 rfl (hvQ rfl (riQ 1 rfl rfl rfl rfl (zac 5 rfl)) ?_)
    refine hvQ rfl (zar (u := (rs.getD i crow0).v) rfl rfl rfl (zac 5 rfl) (zcr crowC (fun r => r.v) (fun _ => rfl) rs crow0 (show i < _ by omega))) (hvQ rfl (lnQ rfl rfl rfl (fun w hm => (hbp w (hm.holds _ (zdj (i := 4) rfl))).at (k := i) (by omega))) ?_)
    refine zbk rfl rfl rfl rfl rfl rfl (fun h27 => ?_) (fun h27 => ?_)
    ·
     refine ntQ (zak rfl (zcn (sbQ (zaa ?_))))
     rcases Bool.eq_false_or_eq_true ((((rs.getD i crow0).xs).getD k 0) == ((outNd n (bs.getD c bk0)).getD p 0)) with hb28 | hb28
     ·
      have hb28p : ((rs.getD i crow0).xs).getD k 0 = (outNd n (bs.getD c bk0)).getD p 0 := beq_iff_eq.1 hb28
      refine zca 12 [[], [], [0, 1], [2], [], [3, 4], [5], [], [], [7, 8], [9], [6, 10]] [77, 78, 79, 80, 81, 82, 83, 84, 85, 86, 87, 88] [gp, .int .i64 (i : Int), elP gp (((i : Int)).toNat * 1), (rs.getD i crow0).v, .int .i64 (k : Int), elP ((rs.getD i crow0).v) (((k : Int)).toNat * 1), .int .i64 (((rs.getD i crow0).xs).getD k 0), v18, .int .i64 (p : Int), elP v18 (((p : Int)).toNat * 1), .int .i64 ((outNd n (bs.getD c bk0)).getD p 0), .bool true] (by kernel_rfl) rfl ?_ ?_
      ·
       exact ⟨iaQ rfl (zat rfl) rfl, iaQ rfl (zat rfl) rfl, iaQ rfl (riQ 1 rfl rfl rfl rfl (zac 5 rfl)) rfl, iaQ rfl (zar (u := (rs.getD i crow0).v) rfl rfl rfl (zac 5 rfl) (zcr crowC (fun r => r.v) (fun _ => rfl) rs crow0 (show i < _ by omega))) rfl, iaQ rfl (zat rfl) rfl, iaQ rfl (riQ 1 rfl rfl rfl rfl (fun w hm => (hbp w (hm.holds _ (zdj (i := 4) rfl))).at (k := i) (by omega))) rfl, iaQ rfl (zar (u := .int .i64 (((rs.getD i crow0).xs).getD k 0)) rfl rfl rfl (fun w hm => (hbp w (hm.holds _ (zdj (i := 4) rfl))).at (k := i) (by omega)) (zbu (show _ < ((rs.getD i crow0).xs).length by omega))) rfl, iaQ rfl (zat rfl) rfl, iaQ rfl (zat rfl) rfl, iaQ rfl (riQ 1 rfl rfl rfl rfl (zac 2 rfl)) rfl, iaQ rfl (zar (u := .int .i64 ((outNd n (bs.getD c bk0)).getD p 0)) rfl rfl rfl (zac 2 rfl) (zbu (show _ < (outNd n (bs.getD c bk0)).length by omega))) rfl, .inl ⟨rfl, zev (zdf rfl rfl rfl rfl) hb28⟩, trivial⟩
      simp only [List.drop_succ_cons, List.drop_zero]
      refine (zbr (zav (zak rfl (zay (hvQ rfl (fdQ 3 rfl rfl rfl) (hvQ rfl (zaf rfl rfl rfl (zab 1 rfl rfl)) (zam 2 rfl (hvQ rfl (zcq (cs := #[.int .i64 (i : Int), .int .i64 (k : Int)]) rfl rfl rfl) ?_))))))))
      refine zdi rfl (zas (z := .agg #[.int .i64 0, .int .i64 0]) (s := 2) (cs := ([(i : Int), (k : Int)].map (Value.int .i64))) rfl Try.underlying42 rfl (by decide) rfl (by kernel_rfl) rfl) ?_
      intro g29
      refine zcf (i := 1) (z := .agg #[.int .i64 0, .int .i64 0]) (bytes := 16) rfl rfl rfl rfl Try.underlying42 (by kernel_rfl) rfl rfl rfl rfl (zac 0 rfl) (zbm _) (by first | omega | (simp only [List.length_append, List.length_cons, List.length_nil]; omega)) (zbt ys [(Pn.mk (i : Int) (k : Int))]) (zcp pnC ys (Pn.mk (i : Int) (k : Int)) _ rfl) (fun _ => rfl) ?_
      intro v30
      refine hvQ rfl (fdQ 3 rfl rfl rfl) (zdn (i := 1) rfl (fun ho31 => ?_))
      refine zfj (i := 2) (cs' := #[.int .i64 ((outNd n (bs.getD c bk0)).getD p 0), .int .i64 (c : Int), .int .i64 (p : Int), v30]) rfl rfl rfl rfl rfl rfl ho31 rfl rfl rfl rfl (zbr (zco (reQ 1 rfl (hvQ rfl (vaQ rfl rfl rfl) (enQ 1 rfl ?_)))))
      exact zbh (k + 1) v30 (ys ++ [(Pn.mk (i : Int) (k : Int))]) ⟨by omega, by (try rw [List.length_append, List.length_singleton]); omega, by (try rw [List.length_append, List.length_singleton]); omega, by first | assumption | exact hyi.app ⟨⟨by omega, by omega⟩, by omega, by omega⟩⟩ (by omega) (saQ rfl) (slQ [1, 0, 0, 0, 0, 0, 0, 0] rfl)
     have hb28p : ((rs.getD i crow0).xs).getD k 0 ≠ (outNd n (bs.getD c bk0)).getD p 0 := beq_eq_false_iff_ne.1 hb28
     refine zca 12 [[], [], [0, 1], [2], [], [3, 4], [5], [], [], [7, 8], [9], [6, 10]] [77, 78, 79, 80, 81, 82, 83, 84, 85, 86, 87, 88] [gp, .int .i64 (i : Int), elP gp (((i : Int)).toNat * 1), (rs.getD i crow0).v, .int .i64 (k : Int), elP ((rs.getD i crow0).v) (((k : Int)).toNat * 1), .int .i64 (((rs.getD i crow0).xs).getD k 0), v18, .int .i64 (p : Int), elP v18 (((p : Int)).toNat * 1), .int .i64 ((outNd n (bs.getD c bk0)).getD p 0), .bool false] (by kernel_rfl) rfl ?_ ?_
     ·
      exact ⟨iaQ rfl (zat rfl) rfl, iaQ rfl (zat rfl) rfl, iaQ rfl (riQ 1 rfl rfl rfl rfl (zac 5 rfl)) rfl, iaQ rfl (zar (u := (rs.getD i crow0).v) rfl rfl rfl (zac 5 rfl) (zcr crowC (fun r => r.v) (fun _ => rfl) rs crow0 (show i < _ by omega))) rfl, iaQ rfl (zat rfl) rfl, iaQ rfl (riQ 1 rfl rfl rfl rfl (fun w hm => (hbp w (hm.holds _ (zdj (i := 4) rfl))).at (k := i) (by omega))) rfl, iaQ rfl (zar (u := .int .i64 (((rs.getD i crow0).xs).getD k 0)) rfl rfl rfl (fun w hm => (hbp w (hm.holds _ (zdj (i := 4) rfl))).at (k := i) (by omega)) (zbu (show _ < ((rs.getD i crow0).xs).length by omega))) rfl, iaQ rfl (zat rfl) rfl, iaQ rfl (zat rfl) rfl, iaQ rfl (riQ 1 rfl rfl rfl rfl (zac 2 rfl)) rfl, iaQ rfl (zar (u := .int .i64 ((outNd n (bs.getD c bk0)).getD p 0)) rfl rfl rfl (zac 2 rfl) (zbu (show _ < (outNd n (bs.getD c bk0)).length by omega))) rfl, .inl ⟨rfl, zev (zdf rfl rfl rfl rfl) hb28⟩, trivial⟩
     simp only [List.drop_succ_cons, List.drop_zero]
     refine ntQ (fsQ rfl (zco (reQ 1 rfl (hvQ rfl (vaQ rfl rfl rfl) (enQ 1 rfl ?_)))))
     exact zbh (k + 1) uk ys ⟨by omega, by (try rw [List.length_append, List.length_singleton]); omega, by (try rw [List.length_append, List.length_singleton]); omega, by first | assumption | exact hyi.app ⟨⟨by omega, by omega⟩, by omega, by omega⟩⟩ (by omega) (saQ rfl) (pfQ rfl)
    refine ntQ (zal rfl ?_)
    refine zaz (zds ?_)
    refine zag (zco (reQ 1 rfl (hvQ rfl (vaQ rfl rfl rfl) (enQ 1 rfl ?_))))
    exact zbh (i + 1) uk ys ⟨by omega, by omega, by show _ ≤ kSm bs i + kW (bs.getD i bk0).kd; omega, by assumption⟩ (by omega) (saQ rfl) (pfQ rfl)
   refine ntQ (zal rfl ?_)
   refine zaz (zds ?_)
   refine zag (zav (srQ (hvQ rfl (fdQ 3 rfl rfl rfl) (hvQ rfl (zaf rfl rfl rfl (zab 1 rfl rfl)) (hvQ rfl (lnQ rfl rfl rfl (zac 0 rfl)) ?_)))))
   refine zff rfl rfl rfl rfl rfl rfl (fun h32 => ?_) (fun h32 => ?_)
   ·
    refine (zbr (zav (zak rfl (zay (zam 1 rfl (hvQ rfl (zao (cs := [.int .i64 ((outNd n (bs.getD c bk0)).getD p 0), .int .i64 (c : Int), .int .i64 (p : Int), ui]) rfl rfl rfl rfl rfl (zaj 1 rfl 0 rfl)) ?_))))))
    refine zdi rfl (zas (z := .agg #[.int .i64 0, .int .i64 0, .int .i64 0, .slice none 0 0]) (s := 4) (cs := [.int .i64 ((outNd n (bs.getD c bk0)).getD p 0), .int .i64 (c : Int), .int .i64 (p : Int), ui]) rfl Try.underlying34 rfl (by decide) rfl (by kernel_rfl) rfl) ?_
    intro g33
    refine zdn (i := 1) rfl (fun ho34 => ?_)
    refine zcf (i := 7) (z := .agg #[.int .i64 0, .int .i64 0, .int .i64 0, .slice none 0 0]) (bytes := 48) rfl rfl rfl rfl Try.underlying34 (by kernel_rfl) rfl rfl rfl rfl (zac 0 rfl) (zah rfl (zah rfl (zah rfl (zah ho34 zbp)))) (by first | omega | (simp only [List.length_append, List.length_cons, List.length_nil]; omega)) (zbt W.2 [(Cn.mk ((outNd n (bs.getD c bk0)).getD p 0) (c : Int) (p : Int) ui xs)]) (zcp cnC W.2 (Cn.mk ((outNd n (bs.getD c bk0)).getD p 0) (c : Int) (p : Int) ui xs) _ rfl) (fun _ => rfl) ?_
    intro v35
    refine enQ 1 rfl (zco (reQ 1 rfl (hvQ rfl (vaQ rfl rfl rfl) ?_)))
    have hol9 := outN_le (hblp c (by omega))
    refine enQ 1 rfl ?_
    refine zbn 9 [8, 7, 6, 5, 3, 1, 4] rfl rfl (by decide) ?_
    refine zcs 2 rfl ?_
    refine zbn 6 [5, 4, 3, 2, 0, 1] rfl rfl (by decide) ?_
    exact zbh (p + 1) (v35, W.2 ++ [(Cn.mk ((outNd n (bs.getD c bk0)).getD p 0) (c : Int) (p : Int) ui xs)]) [bigE qs, rowE 41 2 ui xs.length (xs.flatMap pnC)] ⟨by omega, by show List.length (_ ++ [_]) ≤ _; rw [List.length_append, List.length_singleton]; omega, hvi.app ⟨by omega, by omega⟩ (by omega) hxi, hvm.app (Nat.le_trans hxm (kSm_le bs (by omega))), fun w hw => (hvk w (zbf hw List.mem_cons_self)).app (zcc (zbf hw (List.mem_cons_of_mem _ List.mem_cons_self)))⟩ (by omega) (saQ rfl) (pfQ rfl)
   refine ntQ (fsQ rfl (zco (reQ 1 rfl (hvQ rfl (vaQ rfl rfl rfl) ?_))))
   have hol9 := outN_le (hblp c (by omega))
   refine enQ 1 rfl ?_
   exact zbh (p + 1) (W.1, W.2) qs ⟨by omega, by show (W.2).length ≤ _; omega, hvi, hvm, hvk⟩ (by omega) (saQ rfl) (slQ [2, 0, 0, 0, 0, 0] rfl)
  refine ntQ (zal rfl ?_)
  refine zaz (zds ?_)
  refine zag (zco (reQ 1 rfl (hvQ rfl (vaQ rfl rfl rfl) (enQ 1 rfl ?_))))
  exact zbh (c + 1) (W.1, W.2) qs ⟨by omega, by show (W.2).length ≤ _; omega, by assumption, by assumption, by assumption⟩ (by omega) (saQ rfl) (slQ [1, 0, 0, 0, 0] rfl)
 refine ntQ (zal rfl ?_)
 refine zaz (zds ?_)
 refine zag (zav (zbd 2 rfl ?_))
 refine zaw (zdw (fun w hm => (zac 3 rfl w hm).one) (fun ho => ?_))
 refine zbn 5 [4, 2, 1, 0, 3] rfl rfl (by decide) ?_
 refine zcs 2 rfl ?_
 exact zcz (post := [bigE [rowE 44 4 U.1 U.2.length (U.2.flatMap cnC), bigE ps]]) rfl rfl (slQ [0] rfl) ⟨_, U.2, rfl, fun w hw => ⟨zcc (zbf hw List.mem_cons_self), huk w (zbf hw (List.mem_cons_of_mem _ List.mem_cons_self))⟩, ho, hui, by omega, hum⟩
theorem l01In_yes {a b c : Int} (h1 : b ≤ a) (h2 : a ≤ c) (w : World) : Calls Try.prog 86 #[.int .i64 a, .int .i64 b, .int .i64 c] w (Ans w (.bool true)) := by
  rw [← inR_true h1 h2]; exact ans_of (zgu _ _ _ w)
structure Tab where
  N : Int
  B : Int
def pn (n : Int) : Nat := 2 ^ n.toNat
def qn (n : Int) : Int := 2 ^ (2 ^ n.toNat)
theorem five {n : Int} (h : 0 ≤ n ∧ n ≤ 4) : n = 0 ∨ n = 1 ∨ n = 2 ∨ n = 3 ∨ n = 4 := by omega
theorem pn_rng {n : Int} (h : 0 ≤ n ∧ n ≤ 4) : 1 ≤ pn n ∧ pn n ≤ 16 := by
  rcases five h with rfl | rfl | rfl | rfl | rfl <;> decide
theorem qn_rng {n : Int} (h : 0 ≤ n ∧ n ≤ 4) : 2 ≤ qn n ∧ qn n ≤ 65536 := by
  rcases five h with rfl | rfl | rfl | rfl | rfl <;> decide
theorem wr1 {n : Int} (h : 0 ≤ n ∧ n ≤ 4) : IntKind.i64.wrap (1 * 2 ^ n.toNat) = (pn n : Int) := by
  rcases five h with rfl | rfl | rfl | rfl | rfl <;> exact IntWalk.i64_in _ (by decide)
theorem wru {n : Int} (h : 0 ≤ n ∧ n ≤ 4) : IntKind.u64.wrap (1 * 2 ^ n.toNat) = (pn n : Int) := by
  rcases five h with rfl | rfl | rfl | rfl | rfl <;> exact IntWalk.u64_in _ (by decide)
theorem wr2 {n : Int} (h : 0 ≤ n ∧ n ≤ 4) : IntKind.i64.wrap (1 * 2 ^ ((pn n : Int)).toNat) = qn n := by
  rcases five h with rfl | rfl | rfl | rfl | rfl <;> exact IntWalk.i64_in _ (by decide)
def TabOk (t : Tab) : Prop := (0 ≤ t.N ∧ t.N ≤ 4) ∧ 0 ≤ t.B ∧ t.B ≤ qn t.N - 1
theorem andB {x : Int} (k : Nat) (h : 0 ≤ x ∧ x ≤ 65535) : bits .and .i64 (x / 2 ^ k) 1 = x / 2 ^ k % 2 := by
  have h1 : (0 : Int) ≤ x / 2 ^ k := Int.ediv_nonneg h.1 (Int.le_of_lt (Int.pow_pos (by decide)))
  have h2 : x / 2 ^ k ≤ x := Int.ediv_le_self _ h.1
  exact Bit.and_one _ h1 (by omega)
open Go.RowKit
theorem l02Full_ans (n : Int) (w : World) (hn : 0 ≤ n ∧ n ≤ 4) :
   Calls Try.prog 124 #[.int .i64 n] w (Ans w (.int .i64 (qn n - 1))) := by
 have hp := pn_rng hn
 have hq := qn_rng hn
 refine zbl (N := 7) (args := [.int .i64 n]) Try.func124 rfl rfl (zaa (zay (zam 1 rfl (zbr (zav (zaa (zay (zam 1 rfl (hvQ rfl (rv_shlG (k := .u64) (kk := .i64) (r := (pn n : Int)) rfl rfl rfl rfl (by omega) (wru hn)) (hvQ rfl (rv_shlG (k := .i64) (kk := .u64) (r := qn n) rfl rfl rfl rfl (by omega) (wr2 hn)) (hvQ rfl (vsQ rfl rfl rfl) (zam 1 rfl ?_))))))))))))
 refine ntQ ?_
 exact zaw (zbi rfl rfl rfl)
theorem specTableOk_yes (t : Tab) (w : World) (ht : TabOk t) :
   Calls Try.prog 110 #[.agg #[.int .i64 t.N, .int .i64 t.B]] w (Ans w (.bool true)) := by
 obtain ⟨hn, hB0, hB1⟩ := ht
 have hp := pn_rng hn
 have hq := qn_rng hn
 refine zbl (N := 19) (args := [.agg #[.int .i64 t.N, .int .i64 t.B]]) Try.func110 rfl rfl (srQ ?_)
 refine zdt rfl (zcm rfl rfl) ?_
 intro b1
 refine zba 1 rfl (zaa ?_)
 have hb2 : (decide (0 ≤ t.B)) = true := decide_eq_true (by omega)
 have hb3 : (decide (t.B ≤ qn t.N - 1)) = true := decide_eq_true (by omega)
 refine zca 16 [[], [0], [1], [2], [3], [3, 4], [3, 5], [3, 6], [7], [8], [8, 9], [8], [8, 11], [8, 12], [8, 10, 13], [8, 14]] [3, 4, 5, 6, 7, 8, 9, 10, 11, 12, 13, 14, 15, 16, 17, 18] [.pointer (some ⟨b1, 0 + 0, none⟩), .int .i64 t.N, .bool true, .bool true, .pointer (some ⟨b1, 0 + 1, none⟩), .int .i64 t.B, .bool true, .bool true, .bool true, .pointer (some ⟨b1, 0 + 1, none⟩), .int .i64 t.B, .pointer (some ⟨b1, 0 + 0, none⟩), .int .i64 t.N, .int .i64 (qn t.N - 1), .bool true, .bool true] (by kernel_rfl) rfl ?_ ?_
 ·
  exact ⟨iaQ rfl (fdQ 0 rfl rfl rfl) rfl, iaQ rfl (zaf rfl rfl rfl (zab 0 rfl rfl)) rfl, .inl ⟨rfl, zan rfl rfl (fun w hm => zau (l01In_yes (by omega) (by omega) w))⟩, iaQ rfl (zat rfl) rfl, iaQ rfl (fdQ 1 rfl rfl rfl) rfl, iaQ rfl (zaf rfl rfl rfl (zab 0 rfl rfl)) rfl, .inl ⟨rfl, zev (zdf rfl rfl rfl rfl) hb2⟩, iaQ rfl (zat rfl) rfl, iaQ rfl (zat rfl) rfl, iaQ rfl (fdQ 1 rfl rfl rfl) rfl, iaQ rfl (zaf rfl rfl rfl (zab 0 rfl rfl)) rfl, iaQ rfl (fdQ 0 rfl rfl rfl) rfl, iaQ rfl (zaf rfl rfl rfl (zab 0 rfl rfl)) rfl, .inl ⟨rfl, zan rfl rfl (fun w hm => zau (l02Full_ans _ w hn))⟩, .inl ⟨rfl, zev (zdf rfl rfl rfl rfl) hb3⟩, iaQ rfl (zat rfl) rfl, trivial⟩
 simp only [List.drop_succ_cons, List.drop_zero]
 refine zba 1 rfl ?_
 exact zaw (zbi rfl rfl rfl)
open Go.RowKit
open Go.RowKit
theorem TableNot_ret (n x : Int) (w : World) (hn : 0 ≤ n ∧ n ≤ 4) (ha : 0 ≤ x ∧ x ≤ qn n - 1) :
   Calls Try.prog 102 #[.agg #[.int .i64 n, .int .i64 x]] w (Ret w (fun v' post => post = [] ∧ ∃ t : Tab, TabOk t ∧ t.N = n ∧ v' = .agg #[.int .i64 t.N, .int .i64 t.B])) := by
 have hq := qn_rng hn
 refine zbl (N := 16) (args := [.agg #[.int .i64 n, .int .i64 x]]) Try.func102 rfl rfl (srQ ?_)
 refine zdt rfl (zcm rfl rfl) ?_
 intro b1
 refine zdt rfl (zbw (z := .agg #[.int .i64 0, .int .i64 0]) rfl rfl) ?_
 intro b2
 refine ntQ (zfc (hvQ rfl (zao (cs := [.int .i64 n, .int .i64 x]) rfl rfl rfl rfl rfl (zaj 1 rfl 0 rfl)) ?_))
 refine zdp rfl (zan rfl rfl (fun w hm => zau (specTableOk_yes ⟨n, x⟩ w ⟨(by show 0 ≤ n ∧ n ≤ 4; omega), (by show 0 ≤ x ∧ x ≤ qn (n) - 1; omega)⟩))) (zba 1 rfl (zal rfl (zcn (zaa ?_))))
 refine zca 9 [[], [0], [], [2], [3], [], [5], [4, 6], [1, 7]] [7, 8, 9, 10, 11, 12, 13, 14, 15] [.pointer (some ⟨b1, 0 + 0, none⟩), .int .i64 n, .pointer (some ⟨b1, 0 + 0, none⟩), .int .i64 n, .int .i64 (qn n - 1), .pointer (some ⟨b1, 0 + 1, none⟩), .int .i64 x, .int .i64 ((qn n - 1) - x), .agg #[.int .i64 n, .int .i64 ((qn n - 1) - x)]] (by kernel_rfl) rfl ?_ ?_
 ·
  exact ⟨iaQ rfl (fdQ 0 rfl rfl rfl) rfl, iaQ rfl (zaf rfl rfl rfl (zab 1 rfl rfl)) rfl, iaQ rfl (fdQ 0 rfl rfl rfl) rfl, iaQ rfl (zaf rfl rfl rfl (zab 1 rfl rfl)) rfl, .inl ⟨rfl, zan rfl rfl (fun w hm => zau (l02Full_ans _ w (by omega)))⟩, iaQ rfl (fdQ 1 rfl rfl rfl) rfl, iaQ rfl (zaf rfl rfl rfl (zab 1 rfl rfl)) rfl, iaQ rfl (vsQ rfl rfl rfl) rfl, iaQ rfl (zcq (cs := #[.int .i64 n, .int .i64 ((qn n - 1) - x)]) rfl rfl rfl) rfl, trivial⟩
 simp only [List.drop_succ_cons, List.drop_zero]
 refine zcd (cs' := #[.int .i64 n, .int .i64 ((qn n - 1) - x)]) (i := 0) (off := 0) (us := [.int .i64 n, .int .i64 ((qn n - 1) - x)]) rfl rfl rfl rfl rfl rfl rfl (zah rfl (zah rfl zbp)) rfl rfl rfl (ntQ ?_)
 exact zaw (zdb (rs := [.cell 2 110]) (vs := [.agg #[.int .i64 n, .int .i64 ((qn n - 1) - x)]]) (post := []) rfl ⟨⟨b2, 0, [.int .i64 n, .int .i64 ((qn n - 1) - x)], rfl, rfl, by kernel_rfl, by kernel_rfl, zaj 0 rfl 0 rfl⟩, trivial⟩ rfl (slQ [] rfl) ⟨rfl, ⟨n, (qn n - 1) - x⟩, ⟨hn, by constructor <;> dsimp only <;> omega⟩, rfl, rfl⟩)
def opn (n : Nt) (cut : List Int) : Nat → List Bl → Bool
  | 0, _ => true
  | k + 1, bs => if (bs.getD (k + 1) bl0).b = false ∨ hasB cut ((k + 1 : Nat) : Int) = true then opn n cut k bs
    else if ((k + 1 : Nat) : Int) < n.fst then false
    else opn n cut k ((bs.set ((n.gs.getD (((k + 1 : Nat) : Int) - n.fst).toNat an0).a / 2).toNat ⟨true⟩).set ((n.gs.getD (((k + 1 : Nat) : Int) - n.fst).toNat an0).b / 2).toNat ⟨true⟩)
theorem opn_skip {n : Nt} {cut : List Int} {k : Nat} {bs : List Bl} (hk : 0 < k) (h : (bs.getD k bl0).b = false ∨ hasB cut (k : Int) = true) : opn n cut k bs = opn n cut (k - 1) bs := by
  obtain ⟨j, rfl⟩ : ∃ j, k = j + 1 := ⟨k - 1, by omega⟩
  rw [opn, if_pos h]; rfl
theorem opn_no {n : Nt} {cut : List Int} {k : Nat} {bs : List Bl} (hk : 0 < k) (h1 : (bs.getD k bl0).b = true) (h2 : hasB cut (k : Int) = false) (h3 : (k : Int) < n.fst) : opn n cut k bs = false := by
  obtain ⟨j, rfl⟩ : ∃ j, k = j + 1 := ⟨k - 1, by omega⟩
  rw [opn, if_neg (by rw [h1, h2]; decide), if_pos h3]
theorem opn_step {n : Nt} {cut : List Int} {k : Nat} {bs : List Bl} (hk : 0 < k) (h1 : (bs.getD k bl0).b = true) (h2 : hasB cut (k : Int) = false) (h3 : n.fst ≤ (k : Int)) :
    opn n cut k bs = opn n cut (k - 1) ((bs.set ((n.gs.getD ((k : Int) - n.fst).toNat an0).a / 2).toNat ⟨true⟩).set ((n.gs.getD ((k : Int) - n.fst).toNat an0).b / 2).toNat ⟨true⟩) := by
  obtain ⟨j, rfl⟩ : ∃ j, k = j + 1 := ⟨k - 1, by omega⟩
  rw [opn, if_neg (by rw [h1, h2]; decide), if_neg (by omega)]; rfl
abbrev opn0 (n : Nt) (node : Int) : List Bl := (List.replicate n.cnt.toNat bl0).set node.toNat ⟨true⟩
def ElP (n : Nt) (node : Int) (cut : List Int) (i : Nat) : Prop := hasB (coneS n node) (cut.getD i 0) = true ∧ (0 < i → cut.getD (i - 1) 0 < cut.getD i 0)
structure CutP (n : Nt) (node : Int) (cut : List Int) : Prop where
  len : cut.length ≤ 4
  el : ∀ i, i < cut.length → ElP n node cut i
  op : opn n cut node.toNat (opn0 n node) = true
theorem elP_no {n : Nt} {node : Int} {cut : List Int} {i : Nat} (h : hasB (coneS n node) (cut.getD i 0) = false ∨ (0 < i ∧ cut.getD i 0 ≤ cut.getD ((i : Int) - 1).toNat 0)) : ¬ ElP n node cut i := fun he => by
  rcases h with h | ⟨h0, h⟩
  · rw [he.1] at h; cases h
  · have := he.2 h0
    rw [show ((i : Int) - 1).toNat = i - 1 by omega] at h
    omega
theorem elP_yes {n : Nt} {node : Int} {cut : List Int} {i : Nat} (h : hasB (coneS n node) (cut.getD i 0) = true) (h1 : (i : Int) ≤ 0 ∨ cut.getD ((i : Int) - 1).toNat 0 < cut.getD i 0) : ElP n node cut i := ⟨h, fun h0 => by
  rcases h1 with h1 | h1
  · omega
  · rwa [show ((i : Int) - 1).toNat = i - 1 by omega] at h1⟩
theorem CutP.rng {n : Nt} (hn : NtOk n) {node : Int} (h0 : 0 ≤ node) {cut : List Int} (h : CutP n node cut) {i : Nat} (hi : i < cut.length) : 0 ≤ cut.getD i 0 ∧ cut.getD i 0 ≤ node := coneS_rng hn h0 _ (hasBE_mem.1 (h.el i hi).1)
structure MapP (n : Nt) (rs : List CRow) : Prop where
  len : rs.length = n.gs.length
  cut : ∀ i, i < rs.length → CutP n (n.fst + (i : Int)) (rs.getD i crow0).xs ∧ hasB (rs.getD i crow0).xs (n.fst + (i : Int)) = false
theorem MapP.below {n : Nt} (hn : NtOk n) {rs : List CRow} (h : MapP n rs) {i : Nat} (hi : i < rs.length) {k : Nat} (hk : k < (rs.getD i crow0).xs.length) : 0 ≤ (rs.getD i crow0).xs.getD k 0 ∧ (rs.getD i crow0).xs.getD k 0 < n.fst + (i : Int) := by
  have hc := h.cut i hi
  have hf : 0 ≤ n.fst := by have := hn.i0; unfold Nt.fst; omega
  have h1 := hc.1.rng hn (by omega) hk
  have hne : (rs.getD i crow0).xs.getD k 0 ≠ n.fst + (i : Int) := fun e => by
    have := hasBE_at hk e
    rw [hc.2] at this; cases this
  omega
theorem b01_set {v : List Int} (h : B01 v) {k : Nat} {x : Int} (hx : x = 0 ∨ x = 1) : B01 (v.set k x) := fun j hj => by
  rw [List.length_set] at hj
  by_cases e : k = j
  · subst e; rw [zeb hj]; exact hx
  · rw [List.getD_eq_getElem?_getD, List.getElem?_set_ne e, ← List.getD_eq_getElem?_getD]; exact h j hj
theorem b01_rep (n : Nat) : B01 (List.replicate n 0) := fun k hk => by rw [List.length_replicate] at hk; rw [getD_rep' hk]; exact .inl rfl
theorem pow16 {k : Nat} (h : k ≤ 16) : (0 : Int) < 2 ^ k ∧ (2 : Int) ^ k ≤ 65536 := by
  have h1 : (2 : Nat) ^ k ≤ 2 ^ 16 := Nat.pow_le_pow_right (by decide) h
  have h2 : ((2 ^ k : Nat) : Int) = (2 : Int) ^ k := by push_cast; rfl
  have h3 : 0 < (2 : Nat) ^ k := Nat.pow_pos (by decide)
  have h4 : (2 : Nat) ^ 16 = 65536 := by decide
  rw [← h2]; omega
theorem shl_bitE {b : Int} {k : Nat} (hb : b = 0 ∨ b = 1) (hk : k ≤ 16) : IntKind.i64.wrap (b * 2 ^ ((k : Int)).toNat) = b * 2 ^ k := by
  have hp := pow16 hk
  rw [Int.toNat_natCast]
  exact IntWalk.i64_in _ (by rcases hb with e | e <;> rw [e] <;> omega)
theorem bits_next {b x : Int} {i : Nat} (hb : 0 ≤ b ∧ b < 2 ^ i) (hx : x = 0 ∨ x = 1) : 0 ≤ b + x * 2 ^ i ∧ b + x * 2 ^ i < 2 ^ (i + 1) := by
  have hp : (0 : Int) < 2 ^ i := Int.pow_pos (by decide)
  rw [Int.pow_succ]
  rcases hx with e | e <;> rw [e] <;> omega
theorem bits_all {m b : Int} (hm : 0 ≤ m ∧ m ≤ 4) {i : Nat} (hi : i = pn m) (hb : 0 ≤ b ∧ b < 2 ^ i) : TabOk (Tab.mk m b) := by
  subst hi
  refine ⟨hm, hb.1, ?_⟩
  show b ≤ 2 ^ (2 ^ m.toNat) - 1
  have := hb.2
  unfold pn at this
  omega
theorem CutOkE_ans (n : Nt) (node : Int) (cut : List Int) (cv : Value) (w : World) (hr : RdsNt w n) (hn : NtOk n) (hcr : RdsW w cv 1 cut.length (cut.map (Value.int .i64))) (hnd : 0 ≤ node ∧ node < n.cnt) (hcl9 : cut.length ≤ 100000) :
   Calls Try.prog 122 #[.agg #[.int .i64 n.ins, n.sv, n.av, n.ov], .int .i64 node, cv] w (Ans w (.bool (pBe (CutP n node cut)))) := by
 have hi0 := hn.i0
 have hi1 := hn.i1
 have hs1 := hn.s1
 have ha1 := hn.a1
 have ho1 := hn.o1
 have hcnt : n.cnt = 1 + n.ins + n.ss.length + n.gs.length := rfl
 have hfst : n.fst = 1 + n.ins + n.ss.length := rfl
 refine zbl (N := 105) (args := [.agg #[.int .i64 n.ins, n.sv, n.av, n.ov], .int .i64 node, cv]) Try.func122 rfl rfl (srQ ?_)
 refine zdt rfl (zcm rfl rfl) ?_
 intro b1
 refine zba 1 rfl (zfc (hvQ rfl (zao (cs := [.int .i64 n.ins, n.sv, n.av, n.ov]) rfl rfl rfl rfl rfl (zaj 0 rfl 0 rfl)) ?_))
 refine zdp rfl (zan rfl rfl (fun w hm => zau (zea n w (hr.below hm.bel) hn))) (zam 3 rfl ?_)
 refine zbk rfl rfl rfl rfl rfl rfl (fun h2 => absurd h2 (by omega)) (fun h2 => ?_)
 refine zam 3 rfl (hvQ rfl (zao (cs := [.int .i64 n.ins, n.sv, n.av, n.ov]) rfl rfl rfl rfl rfl (zaj 0 rfl 0 rfl)) ?_)
 refine zdp rfl (zan rfl rfl (fun w hm => zau (zbz n w (hr.below hm.bel) hn))) (zdo rfl rfl rfl rfl rfl rfl (fun h3 => absurd h3 (by omega)) (fun h3 => ?_))
 refine zam 3 rfl (hvQ rfl (lnQ rfl rfl rfl (zae hcr)) ?_)
 refine zff rfl rfl rfl rfl rfl rfl (fun h4 => ?_) (fun h4 => ?_)
 ·
  refine zba 1 rfl (zak rfl (zbd 1 rfl ?_))
  refine zaw (zap ?_)
  exact zbi rfl rfl (congrArg Value.bool (pBe_no (p := CutP n node cut) (fun h => by have h9 := h.len; omega)).symm)
 refine zba 1 rfl (zal rfl (zcn (srQ (hvQ rfl (zao (cs := [.int .i64 n.ins, n.sv, n.av, n.ov]) rfl rfl rfl rfl rfl (zaj 0 rfl 0 rfl)) (zam 1 rfl ?_)))))
 refine zfu rfl rfl rfl (zan rfl rfl (fun w hm => Cone_ret n node w (hr.below hm.bel) hn hnd)) ?_
 intro v5 p6 hR7
 subst hR7
 have hcl := coneS_len n node (by omega)
 refine zba 1 rfl (zaa (zbd 1 rfl (zax ?_)))
 refine hc_loop1 (α := Nat) (fun j => [rowE 3 1 v5 ((coneS n node).length) ((coneS n node).map (Value.int .i64)), boxE b1 #[.int .i64 n.ins, n.sv, n.av, n.ov] 86]) (fun j => [(0, .agg #[.int .i64 n.ins, n.sv, n.av, n.ov]), (1, .int .i64 node), (2, cv), (3, .pointer (some ⟨b1, 0, none⟩)), (6, .bool false), (7, v5), (8, .int .i64 (j : Int)), (29, .bool false)]) (fun j => j ≤ cut.length ∧ ∀ i, i < j → ElP n node cut i) (fun j => cut.length - j) 0 ⟨Nat.zero_le _, fun i hi => absurd hi (by omega)⟩ (saQ rfl) (pfQ rfl) ?_
 intro j hi8
 obtain ⟨hj, hel⟩ := hi8
 refine zaa (zaa (reQ 2 rfl (hvQ rfl (lnQ rfl rfl rfl (zae hcr)) ?_)))
 refine zbk rfl rfl rfl rfl rfl rfl (fun h9 => ?_) (fun h9 => ?_)
 ·
  refine ntQ (zak rfl (zcn (sbQ (zaa ?_))))
  rcases Bool.eq_false_or_eq_true (hasB (coneS n node) (cut.getD j 0)) with hb10 | hb10
  ·
   rcases Bool.eq_false_or_eq_true (decide (0 < (j : Int))) with hb11 | hb11
   ·
    have hb11p : 0 < (j : Int) := of_decide_eq_true hb11
    rcases Bool.eq_false_or_eq_true (decide (cut.getD j 0 ≤ cut.getD (((j : Int) - 1).toNat) 0)) with hb12 | hb12
    ·
     have hb12p : cut.getD j 0 ≤ cut.getD (((j : Int) - 1).toNat) 0 := of_decide_eq_true hb12
     refine zca 23 [[], [], [], [1, 2], [3], [0, 4], [5], [6], [7], [7, 8], [7, 9], [10], [10], [10, 11, 12], [10, 13], [10], [10], [10, 16], [10, 15, 17], [10, 18], [10, 14, 19], [7, 10, 20], [7, 21]] [39, 40, 41, 42, 43, 44, 45, 46, 47, 48, 49, 50, 51, 52, 53, 54, 55, 56, 57, 58, 59, 60, 61] [v5, cv, .int .i64 (j : Int), elP cv (((j : Int)).toNat * 1), .int .i64 (cut.getD j 0), .bool true, .bool false, .bool false, .int .i64 (j : Int), .bool true, .bool true, cv, .int .i64 (j : Int), elP cv (((j : Int)).toNat * 1), .int .i64 (cut.getD j 0), cv, .int .i64 (j : Int), .int .i64 ((j : Int) - 1), elP cv (((j : Int) - 1).toNat * 1), .int .i64 (cut.getD (((j : Int) - 1).toNat) 0), .bool true, .bool true, .bool true] (by kernel_rfl) rfl ?_ ?_
     ·
      exact ⟨iaQ rfl (zat rfl) rfl, iaQ rfl (zat rfl) rfl, iaQ rfl (zat rfl) rfl, iaQ rfl (riQ 1 rfl rfl rfl rfl (zae hcr)) rfl, iaQ rfl (liQ rfl rfl rfl (zae hcr)) rfl, .inl ⟨rfl, zge (zan rfl rfl (fun w hm => zau (zdy (coneS n node) (cut.getD j 0) _ w ((zac 0 rfl) w hm) (by omega)))) hb10⟩, iaQ rfl (zat rfl) rfl, iaQ rfl (zat rfl) rfl, iaQ rfl (zat rfl) rfl, .inl ⟨rfl, zev (zdf rfl rfl rfl rfl) hb11⟩, iaQ rfl (zat rfl) rfl, iaQ rfl (zat rfl) rfl, iaQ rfl (zat rfl) rfl, iaQ rfl (riQ 1 rfl rfl rfl rfl (zae hcr)) rfl, iaQ rfl (liQ rfl rfl rfl (zae hcr)) rfl, iaQ rfl (zat rfl) rfl, iaQ rfl (zat rfl) rfl, iaQ rfl (vsQ rfl rfl rfl) rfl, iaQ rfl (riQ 1 rfl rfl rfl rfl (zae hcr)) rfl, iaQ rfl (lzQ rfl rfl rfl (zae hcr)) rfl, .inl ⟨rfl, zev (zdf rfl rfl rfl rfl) hb12⟩, iaQ rfl (zat rfl) rfl, iaQ rfl (zat rfl) rfl, trivial⟩
     simp only [List.drop_succ_cons, List.drop_zero]
     refine ntQ (zak rfl (zbd 1 rfl ?_))
     refine zaw (zaq ?_)
     refine zgp ?_
     refine zaq (zap ?_)
     exact zbi rfl rfl (congrArg Value.bool (pBe_no (p := CutP n node cut) (fun h => elP_no (by first | exact .inl (by assumption) | exact .inr ⟨by omega, by omega⟩) (h.el j (by omega)))).symm)
    have hb12p : ¬ (cut.getD j 0 ≤ cut.getD (((j : Int) - 1).toNat) 0) := of_decide_eq_false hb12
    refine zca 23 [[], [], [], [1, 2], [3], [0, 4], [5], [6], [7], [7, 8], [7, 9], [10], [10], [10, 11, 12], [10, 13], [10], [10], [10, 16], [10, 15, 17], [10, 18], [10, 14, 19], [7, 10, 20], [7, 21]] [39, 40, 41, 42, 43, 44, 45, 46, 47, 48, 49, 50, 51, 52, 53, 54, 55, 56, 57, 58, 59, 60, 61] [v5, cv, .int .i64 (j : Int), elP cv (((j : Int)).toNat * 1), .int .i64 (cut.getD j 0), .bool true, .bool false, .bool false, .int .i64 (j : Int), .bool true, .bool true, cv, .int .i64 (j : Int), elP cv (((j : Int)).toNat * 1), .int .i64 (cut.getD j 0), cv, .int .i64 (j : Int), .int .i64 ((j : Int) - 1), elP cv (((j : Int) - 1).toNat * 1), .int .i64 (cut.getD (((j : Int) - 1).toNat) 0), .bool false, .bool false, .bool false] (by kernel_rfl) rfl ?_ ?_
    ·
     exact ⟨iaQ rfl (zat rfl) rfl, iaQ rfl (zat rfl) rfl, iaQ rfl (zat rfl) rfl, iaQ rfl (riQ 1 rfl rfl rfl rfl (zae hcr)) rfl, iaQ rfl (liQ rfl rfl rfl (zae hcr)) rfl, .inl ⟨rfl, zge (zan rfl rfl (fun w hm => zau (zdy (coneS n node) (cut.getD j 0) _ w ((zac 0 rfl) w hm) (by omega)))) hb10⟩, iaQ rfl (zat rfl) rfl, iaQ rfl (zat rfl) rfl, iaQ rfl (zat rfl) rfl, .inl ⟨rfl, zev (zdf rfl rfl rfl rfl) hb11⟩, iaQ rfl (zat rfl) rfl, iaQ rfl (zat rfl) rfl, iaQ rfl (zat rfl) rfl, iaQ rfl (riQ 1 rfl rfl rfl rfl (zae hcr)) rfl, iaQ rfl (liQ rfl rfl rfl (zae hcr)) rfl, iaQ rfl (zat rfl) rfl, iaQ rfl (zat rfl) rfl, iaQ rfl (vsQ rfl rfl rfl) rfl, iaQ rfl (riQ 1 rfl rfl rfl rfl (zae hcr)) rfl, iaQ rfl (lzQ rfl rfl rfl (zae hcr)) rfl, .inl ⟨rfl, zev (zdf rfl rfl rfl rfl) hb12⟩, iaQ rfl (zat rfl) rfl, iaQ rfl (zat rfl) rfl, trivial⟩
    simp only [List.drop_succ_cons, List.drop_zero]
    refine ntQ (fsQ rfl (zco (reQ 1 rfl (hvQ rfl (vaQ rfl rfl rfl) (enQ 1 rfl ?_)))))
    exact zcx (j + 1) ⟨by omega, fun i hi => by by_cases e : i = j; (subst e; exact elP_yes (by assumption) (by first | exact .inl (by omega) | exact .inr (by omega))); exact hel i (by omega)⟩ (by omega) (saQ rfl) (pfQ rfl)
   have hb11p : ¬ (0 < (j : Int)) := of_decide_eq_false hb11
   refine zca 23 [[], [], [], [1, 2], [3], [0, 4], [5], [6], [7], [7, 8], [7, 9], [10], [10], [10], [10], [10], [10], [10], [10], [10], [10], [7, 10, 20], [7, 21]] [39, 40, 41, 42, 43, 44, 45, 46, 47, 48, 49, 50, 51, 52, 53, 54, 55, 56, 57, 58, 59, 60, 61] [v5, cv, .int .i64 (j : Int), elP cv (((j : Int)).toNat * 1), .int .i64 (cut.getD j 0), .bool true, .bool false, .bool false, .int .i64 (j : Int), .bool false, .bool false, undef, undef, undef, undef, undef, undef, undef, undef, undef, undef, .bool false, .bool false] (by kernel_rfl) rfl ?_ ?_
   ·
    exact ⟨iaQ rfl (zat rfl) rfl, iaQ rfl (zat rfl) rfl, iaQ rfl (zat rfl) rfl, iaQ rfl (riQ 1 rfl rfl rfl rfl (zae hcr)) rfl, iaQ rfl (liQ rfl rfl rfl (zae hcr)) rfl, .inl ⟨rfl, zge (zan rfl rfl (fun w hm => zau (zdy (coneS n node) (cut.getD j 0) _ w ((zac 0 rfl) w hm) (by omega)))) hb10⟩, iaQ rfl (zat rfl) rfl, iaQ rfl (zat rfl) rfl, iaQ rfl (zat rfl) rfl, .inl ⟨rfl, zev (zdf rfl rfl rfl rfl) hb11⟩, iaQ rfl (zat rfl) rfl, .inr ⟨rfl, rfl⟩, .inr ⟨rfl, rfl⟩, .inr ⟨rfl, rfl⟩, .inr ⟨rfl, rfl⟩, .inr ⟨rfl, rfl⟩, .inr ⟨rfl, rfl⟩, .inr ⟨rfl, rfl⟩, .inr ⟨rfl, rfl⟩, .inr ⟨rfl, rfl⟩, .inr ⟨rfl, rfl⟩, iaQ rfl (zat rfl) rfl, iaQ rfl (zat rfl) rfl, trivial⟩
   simp only [List.drop_succ_cons, List.drop_zero]
   refine ntQ (fsQ rfl (zco (reQ 1 rfl (hvQ rfl (vaQ rfl rfl rfl) (enQ 1 rfl ?_)))))
   exact zcx (j + 1) ⟨by omega, fun i hi => by by_cases e : i = j; (subst e; exact elP_yes (by assumption) (by first | exact .inl (by omega) | exact .inr (by omega))); exact hel i (by omega)⟩ (by omega) (saQ rfl) (pfQ rfl)
  refine zca 23 [[], [], [], [1, 2], [3], [0, 4], [5], [6], [7], [7], [7], [10], [10], [10], [10], [10], [10], [10], [10], [10], [10], [7], [7, 21]] [39, 40, 41, 42, 43, 44, 45, 46, 47, 48, 49, 50, 51, 52, 53, 54, 55, 56, 57, 58, 59, 60, 61] [v5, cv, .int .i64 (j : Int), elP cv (((j : Int)).toNat * 1), .int .i64 (cut.getD j 0), .bool false, .bool true, .bool true, undef, undef, undef, undef, undef, undef, undef, undef, undef, undef, undef, undef, undef, undef, .bool true] (by kernel_rfl) rfl ?_ ?_
  ·
   exact ⟨iaQ rfl (zat rfl) rfl, iaQ rfl (zat rfl) rfl, iaQ rfl (zat rfl) rfl, iaQ rfl (riQ 1 rfl rfl rfl rfl (zae hcr)) rfl, iaQ rfl (liQ rfl rfl rfl (zae hcr)) rfl, .inl ⟨rfl, zge (zan rfl rfl (fun w hm => zau (zdy (coneS n node) (cut.getD j 0) _ w ((zac 0 rfl) w hm) (by omega)))) hb10⟩, iaQ rfl (zat rfl) rfl, iaQ rfl (zat rfl) rfl, .inr ⟨rfl, rfl⟩, .inr ⟨rfl, rfl⟩, .inr ⟨rfl, rfl⟩, .inr ⟨rfl, rfl⟩, .inr ⟨rfl, rfl⟩, .inr ⟨rfl, rfl⟩, .inr ⟨rfl, rfl⟩, .inr ⟨rfl, rfl⟩, .inr ⟨rfl, rfl⟩, .inr ⟨rfl, rfl⟩, .inr ⟨rfl, rfl⟩, .inr ⟨rfl, rfl⟩, .inr ⟨rfl, rfl⟩, .inr ⟨rfl, rfl⟩, iaQ rfl (zat rfl) rfl, trivial⟩
  simp only [List.drop_succ_cons, List.drop_zero]
  refine ntQ (zak rfl (zbd 1 rfl ?_))
  refine zaw (zaq ?_)
  refine zgp ?_
  refine zaq (zap ?_)
  exact zbi rfl rfl (congrArg Value.bool (pBe_no (p := CutP n node cut) (fun h => elP_no (by first | exact .inl (by assumption) | exact .inr ⟨by omega, by omega⟩) (h.el j (by omega)))).symm)
 refine ntQ (zal rfl ?_)
 refine zaz (zds ?_)
 refine zag (zav (srQ (hvQ rfl (zao (cs := [.int .i64 n.ins, n.sv, n.av, n.ov]) rfl rfl rfl rfl rfl (zaj 1 rfl 0 rfl)) ?_)))
 refine zdp rfl (zan rfl rfl (fun w hm => zau (zbz n w (hr.below hm.bel) hn))) (zdi rfl (zej (z := .bool false) (s := 1) (bytes := 1) (n := (List.replicate (n.cnt).toNat bl0).length) (cs := ((List.replicate (n.cnt).toNat bl0).flatMap blC)) rfl Try.underlying130 rfl (by decide) rfl rfl (by first | (rw [List.length_replicate]; done) | (rw [List.length_replicate]; omega)) (by first | (rw [List.length_replicate]; done) | (rw [List.length_replicate]; omega)) (by rw [List.length_replicate]; omega) (zfg blC 1 (fun _ => rfl) bl0 _ rfl (n.cnt).toNat)) ?_)
 intro g13
 refine zba 1 rfl (zaa (reQ 2 rfl ?_))
 have hrl : (List.replicate n.cnt.toNat bl0).length = n.cnt.toNat := List.length_replicate
 refine hvQ rfl (riQ 1 rfl rfl rfl rfl (zac 0 rfl)) (zcu (i := 0) (n' := ((List.replicate (n.cnt).toNat bl0).set ((node).toNat) { (List.replicate (n.cnt).toNat bl0).getD ((node).toNat) bl0 with b := true }).length) rfl rfl rfl rfl rfl rfl rfl rfl (by first | omega | (simp only [List.length_set]; omega)) List.length_set.symm (zdh blC (fun r => .bool r.b) (fun _ => rfl) _ ({ (List.replicate (n.cnt).toNat bl0).getD ((node).toNat) bl0 with b := true }) rfl) rfl ?_)
 refine ntQ (zaa (zbd 2 rfl (zax ?_)))
 refine hc_loop2 (α := Nat) (β := List Bl) (fun k bs => [rowE 4 1 (.slice (some ⟨g13, 0, none⟩) ((List.replicate (n.cnt).toNat bl0).length) ((List.replicate (n.cnt).toNat bl0).length)) bs.length (bs.flatMap blC), rowE 3 1 v5 ((coneS n node).length) ((coneS n node).map (Value.int .i64)), boxE b1 #[.int .i64 n.ins, n.sv, n.av, n.ov] 86]) (fun k bs => [(0, .agg #[.int .i64 n.ins, n.sv, n.av, n.ov]), (1, .int .i64 node), (2, cv), (3, .pointer (some ⟨b1, 0, none⟩)), (6, .bool false), (7, v5), (9, .slice (some ⟨g13, 0, none⟩) ((List.replicate (n.cnt).toNat bl0).length) ((List.replicate (n.cnt).toNat bl0).length)), (10, .int .i64 (k : Int)), (29, .bool false), (36, .bool false)]) (fun k bs => (k : Int) ≤ node ∧ opn n cut node.toNat (opn0 n node) = opn n cut k bs ∧ bs.length = n.cnt.toNat) (fun k bs => k) node.toNat _ ⟨by omega, rfl, by rw [List.length_set, List.length_replicate]⟩ (zbj [9, 7, 6, 3, 2, 1, 0] _ (sk 10 (congrArg (fun x => some (Value.int .i64 x)) (by omega)) (zai [36, 29] rfl)) rfl) (pfQ rfl) ?_
 intro k bs hi14
 obtain ⟨hk, hop, hbl⟩ := hi14
 refine zaa (zaa (reQ 1 rfl ?_))
 refine zff rfl rfl rfl rfl rfl rfl (fun h15 => ?_) (fun h15 => ?_)
 ·
  refine ntQ (zak rfl (zcn (sbQ (zaa (zaa (reQ 2 rfl (hvQ rfl (riQ 1 rfl rfl rfl rfl (zac 0 rfl)) ?_)))))))
  refine hvQ rfl (zar (u := .bool ((bs.getD k bl0).b)) rfl rfl rfl (zac 0 rfl) (zcr blC (fun r => .bool r.b) (fun _ => rfl) bs bl0 (show k < _ by omega))) (zbx (fun h16 => ?_) (fun h16 => ?_))
  ·
   have hmk := h16
   refine zam 4 rfl (zdp rfl (zan rfl rfl (fun w hm => zau (zdy cut (k : Int) _ w ((zae hcr) w hm) (by omega)))) ?_)
   refine zbx (fun h17 => ?_) (fun h17 => ?_)
   ·
    refine zba 1 rfl (zak rfl ?_)
    refine zaz (zct ?_)
    refine zag (zav (reQ 1 rfl (hvQ rfl (vsQ rfl rfl rfl) (enQ 1 rfl ?_))))
    exact zbg (k - 1) bs ⟨by omega, hop.trans (opn_skip (by omega) (by first | exact .inl hmk | exact .inr (by assumption))), by first | omega | (simp only [List.length_set]; omega)⟩ (by omega) (zbj [9, 7, 6, 3, 2, 1, 0] _ (sk 10 (congrArg (fun x => some (Value.int .i64 x)) (by omega)) (zai [36, 29] rfl)) rfl) (pfQ rfl)
   refine zba 1 rfl (zal rfl (zcn (zaa (zaa (reQ 1 rfl (hvQ rfl (zao (cs := [.int .i64 n.ins, n.sv, n.av, n.ov]) rfl rfl rfl rfl rfl (zaj 2 rfl 0 rfl)) ?_))))))
   refine zdp rfl (zan rfl rfl (fun w hm => zau (zch n w (hr.below hm.bel) hn))) (zbk rfl rfl rfl rfl rfl rfl (fun h18 => ?_) (fun h18 => ?_))
   ·
    refine ntQ (zak rfl (zbd 1 rfl ?_))
    refine zaw (zap ?_)
    refine zaq (zgp ?_)
    refine zaq (zap ?_)
    exact zbi rfl rfl (congrArg Value.bool (pBe_no (p := CutP n node cut) (fun h => by have h9 := h.op; rw [hop, opn_no (by omega) hmk (by assumption) (by omega)] at h9; cases h9)).symm)
   refine ntQ (zal rfl (zcn (zaa ?_)))
   have hani := hn.an ((k : Int) - n.fst).toNat (by omega)
   unfold LtOk at hani
   refine zdg rfl 9 [0, 1, 2, 3, 4, 5, 6, 7, 8] (List.take 9 _) (List.drop 9 _) [[], [0], [], [], [3], [2, 4], [1, 5], [6], []] [87, 88, 89, 90, 91, 92, 93, 94, 11] (fun i_ vs_ v_ p_ => match i_ with | 0 => v_ = .pointer (some ⟨b1, 0 + 2, none⟩) ∧ p_ = [] | 1 => v_ = n.av ∧ p_ = [] | 2 => v_ = .int .i64 (k : Int) ∧ p_ = [] | 3 => v_ = .agg #[.int .i64 n.ins, n.sv, n.av, n.ov] ∧ p_ = [] | 4 => v_ = .int .i64 n.fst ∧ p_ = [] | 5 => v_ = .int .i64 ((k : Int) - n.fst) ∧ p_ = [] | 6 => v_ = elP n.av (((k : Int) - n.fst).toNat * 2) ∧ p_ = [] | 7 => v_ = .agg #[.int .i64 ((n.gs.getD (((k : Int) - n.fst).toNat) an0).a), .int .i64 ((n.gs.getD (((k : Int) - n.fst).toNat) an0).b)] ∧ p_ = [] | 8 => IsBox #[.int .i64 0, .int .i64 0] 126 v_ p_ | _ => True) (List.take_append_drop 9 _).symm (by kernel_rfl) (by kernel_rfl) rfl rfl ?_ ?_
   ·
    refine ⟨?_, ?_, ?_, ?_, ?_, ?_, ?_, ?_, ?_, trivial⟩
    ·
     intro vf pf hR
     exact ovQ rfl (zai [3] rfl) (zbe (fdQ 2 rfl rfl rfl))
    ·
     intro vf pf hR
     have e0 := hR 0 (by decide)
     exact olQ rfl (sk 87 (congrArg some e0.1) (zad _)) (zbe (zaf rfl rfl rfl (zab 2 rfl rfl)))
    ·
     intro vf pf hR
     exact ovQ rfl (zai [10] rfl) (zbe (zat rfl))
    ·
     intro vf pf hR
     exact olQ rfl (zai [3] rfl) (zbe (zao (cs := [.int .i64 n.ins, n.sv, n.av, n.ov]) rfl rfl rfl rfl rfl (zaj 2 rfl 0 rfl)))
    ·
     intro vf pf hR
     have e3 := hR 3 (by decide)
     exact olQ rfl (sk 90 (congrArg some e3.1) (zad _)) (zan rfl rfl (fun w hm => zau (zch n w (hr.below hm.bel) hn)))
    ·
     intro vf pf hR
     have e2 := hR 2 (by decide)
     have e4 := hR 4 (by decide)
     exact ovQ rfl (sk 89 (congrArg some e2.1) (sk 91 (congrArg some e4.1) (zad _))) (zbe (vsQ rfl rfl rfl))
    ·
     intro vf pf hR
     have e1 := hR 1 (by decide)
     have e5 := hR 5 (by decide)
     exact olQ rfl (sk 88 (congrArg some e1.1) (sk 92 (congrArg some e5.1) (zad _))) (zbe (riQ 2 rfl rfl rfl rfl (zae hr.an)))
    ·
     intro vf pf hR
     have e6 := hR 6 (by decide)
     exact olQ rfl (sk 93 (congrArg some e6.1) (zad _)) (zbe (zcg (us := [.int .i64 ((n.gs.getD (((k : Int) - n.fst).toNat) an0).a), .int .i64 ((n.gs.getD (((k : Int) - n.fst).toNat) an0).b)]) rfl rfl rfl rfl (zae hr.an) (by omega) rfl (zcw anC 2 (fun _ => rfl) n.gs an0 (show ((k : Int) - n.fst).toNat < _ by omega) rfl)))
    intro vf pf hR
    exact olQ rfl (zad _) (zbw (z := .agg #[.int .i64 0, .int .i64 0]) rfl rfl)
   intro vf pf hR
   have e7 := hR 7 (by decide)
   have e8 : IsBox #[.int .i64 0, .int .i64 0] 126 (vf 8) (pf 8) := hR 8 (by decide)
   obtain ⟨b19, vE8, pE8⟩ := e8
   have q0 := hR 0 (by decide)
   have q1 := hR 1 (by decide)
   have q2 := hR 2 (by decide)
   have q3 := hR 3 (by decide)
   have q4 := hR 4 (by decide)
   have q5 := hR 5 (by decide)
   have q6 := hR 6 (by decide)
   have q7 := hR 7 (by decide)
   refine zck (zbj [10, 9, 7, 6, 3, 2, 1, 0] _ (sk 11 (congrArg some vE8) (zbj [86, 82, 70, 36, 29] _ (sk 94 (congrArg some e7.1) (zad _)) rfl)) rfl) (by simp only [pE8, vE8, q0.2, q1.2, q2.2, q3.2, q4.2, q5.2, q6.2, q7.2, fS] <;> rfl) ?_
   simp only [List.drop_succ_cons, List.drop_zero]
   refine zcd (cs' := #[.int .i64 ((n.gs.getD (((k : Int) - n.fst).toNat) an0).a), .int .i64 ((n.gs.getD (((k : Int) - n.fst).toNat) an0).b)]) (i := 0) (off := 0) (us := [.int .i64 ((n.gs.getD (((k : Int) - n.fst).toNat) an0).a), .int .i64 ((n.gs.getD (((k : Int) - n.fst).toNat) an0).b)]) rfl rfl rfl rfl rfl rfl rfl (zah rfl (zah rfl zbp)) rfl rfl rfl (ntQ (zaa (reQ 1 rfl (hvQ rfl (fdQ 0 rfl rfl rfl) (hvQ rfl (zaf rfl rfl rfl (zab 0 rfl rfl)) ?_)))))
   refine hvQ rfl (zee rfl rfl rfl (by refine ⟨?_, ?_, ?_⟩ <;> omega)) ?_
   refine hvQ rfl (riQ 1 rfl rfl rfl rfl (zac 1 rfl)) (zcu (i := 1) (n' := (bs.set ((((n.gs.getD (((k : Int) - n.fst).toNat) an0).a) / 2).toNat) { bs.getD ((((n.gs.getD (((k : Int) - n.fst).toNat) an0).a) / 2).toNat) bl0 with b := true }).length) rfl rfl rfl rfl rfl rfl rfl rfl (by first | omega | (simp only [List.length_set]; omega)) List.length_set.symm (zdh blC (fun r => .bool r.b) (fun _ => rfl) _ ({ bs.getD ((((n.gs.getD (((k : Int) - n.fst).toNat) an0).a) / 2).toNat) bl0 with b := true }) rfl) rfl ?_)
   refine ntQ (reQ 1 rfl (hvQ rfl (fdQ 1 rfl rfl rfl) (hvQ rfl (zaf rfl rfl rfl (zab 0 rfl rfl)) ?_)))
   refine hvQ rfl (zee rfl rfl rfl (by refine ⟨?_, ?_, ?_⟩ <;> omega)) ?_
   refine hvQ rfl (riQ 1 rfl rfl rfl rfl (zac 1 rfl) (by omega) (by first | omega | (simp only [List.length_set]; omega))) (zcu (i := 1) (n' := ((bs.set ((((n.gs.getD (((k : Int) - n.fst).toNat) an0).a) / 2).toNat) { bs.getD ((((n.gs.getD (((k : Int) - n.fst).toNat) an0).a) / 2).toNat) bl0 with b := true }).set ((((n.gs.getD (((k : Int) - n.fst).toNat) an0).b) / 2).toNat) { (bs.set ((((n.gs.getD (((k : Int) - n.fst).toNat) an0).a) / 2).toNat) { bs.getD ((((n.gs.getD (((k : Int) - n.fst).toNat) an0).a) / 2).toNat) bl0 with b := true }).getD ((((n.gs.getD (((k : Int) - n.fst).toNat) an0).b) / 2).toNat) bl0 with b := true }).length) rfl rfl rfl rfl rfl rfl rfl rfl (by first | omega | (simp only [List.length_set]; omega)) List.length_set.symm (zdh blC (fun r => .bool r.b) (fun _ => rfl) _ ({ (bs.set ((((n.gs.getD (((k : Int) - n.fst).toNat) an0).a) / 2).toNat) { bs.getD ((((n.gs.getD (((k : Int) - n.fst).toNat) an0).a) / 2).toNat) bl0 with b := true }).getD ((((n.gs.getD (((k : Int) - n.fst).toNat) an0).b) / 2).toNat) bl0 with b := true }) rfl) rfl ?_)
   refine zbr (zco (reQ 1 rfl (hvQ rfl (vsQ rfl rfl rfl) (enQ 1 rfl ?_))))
   exact zbg (k - 1) ((bs.set ((((n.gs.getD (((k : Int) - n.fst).toNat) an0).a) / 2).toNat) { bs.getD ((((n.gs.getD (((k : Int) - n.fst).toNat) an0).a) / 2).toNat) bl0 with b := true }).set ((((n.gs.getD (((k : Int) - n.fst).toNat) an0).b) / 2).toNat) { (bs.set ((((n.gs.getD (((k : Int) - n.fst).toNat) an0).a) / 2).toNat) { bs.getD ((((n.gs.getD (((k : Int) - n.fst).toNat) an0).a) / 2).toNat) bl0 with b := true }).getD ((((n.gs.getD (((k : Int) - n.fst).toNat) an0).b) / 2).toNat) bl0 with b := true }) ⟨by omega, hop.trans (opn_step (by omega) hmk (by assumption) (by omega)), by first | omega | (simp only [List.length_set]; omega)⟩ (by omega) (zbj [9, 7, 6, 3, 2, 1, 0] _ (sk 10 (congrArg (fun x => some (Value.int .i64 x)) (by omega)) (zai [36, 29] rfl)) rfl) (slQ [1, 0, 0] rfl)
  have hmk := h16
  refine zba 6 rfl (zak rfl ?_)
  refine zaz (zct ?_)
  refine zag (zav (reQ 1 rfl (hvQ rfl (vsQ rfl rfl rfl) (enQ 1 rfl ?_))))
  exact zbg (k - 1) bs ⟨by omega, hop.trans (opn_skip (by omega) (by first | exact .inl hmk | exact .inr (by assumption))), by first | omega | (simp only [List.length_set]; omega)⟩ (by omega) (zbj [9, 7, 6, 3, 2, 1, 0] _ (sk 10 (congrArg (fun x => some (Value.int .i64 x)) (by omega)) (zai [36, 29] rfl)) rfl) (pfQ rfl)
 refine ntQ (zal rfl ?_)
 refine zaz (zds ?_)
 refine zag (zav (zbd 1 rfl ?_))
 exact zaw (zbi rfl rfl (congrArg Value.bool (pBe_yes (p := CutP n node cut) ⟨by omega, fun i hi => hel i (by omega), by rw [hop, show k = 0 by omega]; rfl⟩).symm))
end Go.Proofs.Yteikplehipifkaa
