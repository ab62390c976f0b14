/- Texts of the law FnSetup, part 2: what it uses. -/
import Derived.Test.YtakjndmlanpadaaStp1
set_option linter.unusedVariables false
set_option linter.unusedSimpArgs false
set_option maxHeartbeats 4000000
set_option maxRecDepth 100000
namespace Go.Proofs.Ytakjndmlanpadaa
open Go.RowKit Go.ChangeShapes
open Go.RowKit
theorem dl_iff {α : Type} (xs : α → List Int) {rs : List IR} {es : List α} (d : α) : DlP rs (lensL xs es es.length) ↔ (rs.length = es.length ∧ ∀ i, i < es.length → LiP (rs.getD i ir0).xs ((xs (es.getD i d)).length : Int) 100) := by
  have hl := lensL_len xs (es := es) (Nat.le_refl _)
  constructor
  · intro h
    refine ⟨by rw [h.len, hl], fun i hi => ?_⟩
    have := h.el i (by rw [h.len, hl]; exact hi)
    rw [lensL_at xs d hi] at this; exact this
  · rintro ⟨h1, h2⟩
    refine ⟨by rw [hl, h1], fun i hi => ?_⟩
    rw [lensL_at xs d (by omega)]; exact h2 i (by omega)
theorem zdy {a b c : Int} (h : inR a b c = false) : ¬ (b ≤ a ∧ a ≤ c) := fun hh => by rw [(zdm _ _ _).2 hh] at h; cases h
theorem zen (x lo hi : Int) (w : World)  :
   Calls Try.prog 69 #[.int .i64 x, .int .i64 lo, .int .i64 hi] w (Ans w (.bool (inR x lo hi))) := by
 refine zbf (N := 15) (args := [.int .i64 x, .int .i64 lo, .int .i64 hi]) Try.func69 rfl rfl (zbc 1 rfl (zac (reQ 2 rfl ?_)))
 refine zfh rfl rfl rfl rfl rfl rfl (fun h1 => ?_) (fun h1 => ?_)
 ·
  refine zan 3 rfl (hl_leq rfl rfl rfl rfl rfl rfl (fun h2 => ?_) (fun h2 => ?_))
  ·
   refine zbb 2 rfl ?_
   exact zav (zbg rfl rfl (congrArg _ (((zdm _ _ _).2 (by omega)).symm)))
  refine zbb 2 rfl ?_
  exact zav (zbg rfl rfl (congrArg _ ((Bool.eq_false_iff.2 (fun h => by have := (zdm _ _ _).1 h; omega)).symm)))
 refine zbb 6 rfl ?_
 exact zav (zbg rfl rfl (congrArg _ ((Bool.eq_false_iff.2 (fun h => by have := (zdm _ _ _).1 h; omega)).symm)))
theorem zfm (n : Ln) (w : World) (hr : RdsLn w n) (hsz : LnSz n) :
   Calls Try.prog 47 #[.agg #[.int .i64 n.ins, n.sv, n.lv, n.ov]] w (Ans w (.int .i64 n.cnt)) := by
 have hso := sml hr.ou
 have hss := hr.sq.small
 have hsl := hr.lt.small
 have hcnt : n.cnt = 1 + n.ins + n.ss.length + n.ls.length := rfl
 have hfst : n.fst = 1 + n.ins + n.ss.length := rfl
 obtain ⟨si, s2, s3, s4⟩ := hsz
 refine zbf (N := 14) (args := [.agg #[.int .i64 n.ins, n.sv, n.lv, n.ov]]) Try.func47 rfl rfl (srQ ?_)
 refine zdt rfl (zct rfl rfl) ?_
 intro b1
 refine zbb 1 rfl (srQ (hvQ rfl (fdQ 0 rfl rfl rfl) (hvQ rfl (zag rfl rfl rfl (zad 0 rfl rfl)) (hvQ rfl (vaQ rfl rfl rfl) (hvQ rfl (fdQ 1 rfl rfl rfl) (hvQ rfl (zag rfl rfl rfl (zad 0 rfl rfl)) (hvQ rfl (lnQ rfl rfl rfl (zaa ((hr).sq.row))) (hvQ rfl (vaQ rfl rfl rfl) (hvQ rfl (fdQ 2 rfl rfl rfl) ?_)))))))))
 refine hvQ rfl (zag rfl rfl rfl (zad 0 rfl rfl)) (hvQ rfl (lnQ rfl rfl rfl (zaa ((hr).lt.row))) (hvQ rfl (vaQ rfl rfl rfl) (zbb 1 rfl ?_)))
 exact zav (zbg rfl rfl rfl)
theorem zeu (n : Ln) (w : World) (hr : RdsLn w n) (hsz : LnSz n) :
   Calls Try.prog 37 #[.agg #[.int .i64 n.ins, n.sv, n.lv, n.ov]] w (Ans w (.int .i64 n.fst)) := by
 have hso := sml hr.ou
 have hss := hr.sq.small
 have hsl := hr.lt.small
 have hcnt : n.cnt = 1 + n.ins + n.ss.length + n.ls.length := rfl
 have hfst : n.fst = 1 + n.ins + n.ss.length := rfl
 obtain ⟨si, s2, s3, s4⟩ := hsz
 refine zbf (N := 10) (args := [.agg #[.int .i64 n.ins, n.sv, n.lv, n.ov]]) Try.func37 rfl rfl (srQ ?_)
 refine zdt rfl (zct rfl rfl) ?_
 intro b1
 refine zbb 1 rfl (srQ (hvQ rfl (fdQ 0 rfl rfl rfl) (hvQ rfl (zag rfl rfl rfl (zad 0 rfl rfl)) (hvQ rfl (vaQ rfl rfl rfl) (hvQ rfl (fdQ 1 rfl rfl rfl) (hvQ rfl (zag rfl rfl rfl (zad 0 rfl rfl)) (hvQ rfl (lnQ rfl rfl rfl (zaa ((hr).sq.row))) (hvQ rfl (vaQ rfl rfl rfl) (zan 1 rfl ?_)))))))))
 refine ntQ ?_
 exact zav (zbg rfl rfl rfl)
theorem zfn (n : Ln) (w : World) (hr : RdsLn w n) (hsz : LnSz n) :
   Calls Try.prog 46 #[.agg #[.int .i64 n.ins, n.sv, n.lv, n.ov]] w (Ans w (.int .i64 n.fst)) := by
 have hso := sml hr.ou
 have hss := hr.sq.small
 have hsl := hr.lt.small
 have hcnt : n.cnt = 1 + n.ins + n.ss.length + n.ls.length := rfl
 have hfst : n.fst = 1 + n.ins + n.ss.length := rfl
 obtain ⟨si, s2, s3, s4⟩ := hsz
 refine zbf (N := 10) (args := [.agg #[.int .i64 n.ins, n.sv, n.lv, n.ov]]) Try.func46 rfl rfl (srQ ?_)
 refine zdt rfl (zct rfl rfl) ?_
 intro b1
 refine zbb 1 rfl (srQ (hvQ rfl (fdQ 0 rfl rfl rfl) (hvQ rfl (zag rfl rfl rfl (zad 0 rfl rfl)) (hvQ rfl (vaQ rfl rfl rfl) (hvQ rfl (fdQ 1 rfl rfl rfl) (hvQ rfl (zag rfl rfl rfl (zad 0 rfl rfl)) (hvQ rfl (lnQ rfl rfl rfl (zaa ((hr).sq.row))) (hvQ rfl (vaQ rfl rfl rfl) (zan 1 rfl ?_)))))))))
 refine ntQ ?_
 exact zav (zbg rfl rfl rfl)
theorem implLutNodes_ans (n : Ln) (w : World) (hr : RdsLn w n) :
   Calls Try.prog 34 #[.agg #[.int .i64 n.ins, n.sv, n.lv, n.ov]] w (Ans w (.int .i64 (lnN n))) := by
 have hso := sml hr.ou
 have hss := hr.sq.small
 have hsl := hr.lt.small
 have hcnt : n.cnt = 1 + n.ins + n.ss.length + n.ls.length := rfl
 have hfst : n.fst = 1 + n.ins + n.ss.length := rfl
 refine zbf (N := 27) (args := [.agg #[.int .i64 n.ins, n.sv, n.lv, n.ov]]) Try.func34 rfl rfl (srQ ?_)
 refine zdt rfl (zct rfl rfl) ?_
 intro b1
 refine zbb 1 rfl (zfl (hvQ rfl (fdQ 0 rfl rfl rfl) (hvQ rfl (zag rfl rfl rfl (zad 0 rfl rfl)) ?_)))
 refine zdn rfl (zal rfl rfl (fun w hm => zas (zgo (zea _ _ _ w)))) (zbl (fun h2 => ?_) (fun h2 => ?_))
 ·
  obtain ⟨h2a, h2b⟩ := (zdm _ _ _).1 h2
  refine zan 2 rfl (hvQ rfl (fdQ 1 rfl rfl rfl) (hvQ rfl (zag rfl rfl rfl (zad 0 rfl rfl)) (hvQ rfl (lnQ rfl rfl rfl (zaa ((hr).sq.row))) ?_)))
  refine zfa rfl rfl rfl rfl rfl rfl (fun h3 => ?_) (fun h3 => ?_)
  ·
   refine zbb 13 rfl ?_
   refine zao rfl (zbc 1 rfl ?_)
   refine zav (zap ?_)
   exact zbg rfl rfl (congrArg _ (lnN_no (fun hp => by obtain ⟨si, s2, s3, s4⟩ := hp; omega)).symm)
  refine zan 2 rfl (hvQ rfl (fdQ 2 rfl rfl rfl) (hvQ rfl (zag rfl rfl rfl (zad 0 rfl rfl)) (hvQ rfl (lnQ rfl rfl rfl (zaa ((hr).lt.row))) ?_)))
  refine zfa rfl rfl rfl rfl rfl rfl (fun h4 => ?_) (fun h4 => ?_)
  ·
   refine zbb 7 rfl (zao rfl (zac (reQ 1 rfl (?_))))
   refine ntQ ?_
   refine zav (zap ?_)
   exact zbg rfl rfl (congrArg _ (lnN_no (fun hp => by obtain ⟨si, s2, s3, s4⟩ := hp; omega)).symm)
  refine zan 2 rfl (hvQ rfl (fdQ 3 rfl rfl rfl) (hvQ rfl (zag rfl rfl rfl (zad 0 rfl rfl)) (hvQ rfl (lnQ rfl rfl rfl (zaa ((hr).ou))) ?_)))
  refine zfa rfl rfl rfl rfl rfl rfl (fun h5 => ?_) (fun h5 => ?_)
  ·
   refine zbb 1 rfl (zao rfl (zbc 1 rfl ?_))
   refine zav (zap ?_)
   exact zbg rfl rfl (congrArg _ (lnN_no (fun hp => by obtain ⟨si, s2, s3, s4⟩ := hp; omega)).symm)
  refine zbb 1 rfl (zaq rfl (zcp (srQ (hvQ rfl (zar (cs := [.int .i64 n.ins, n.sv, n.lv, n.ov]) rfl rfl rfl rfl rfl (zam 0 rfl 0 rfl)) ?_))))
  refine zdn rfl (zal rfl rfl (fun w hm => zas (zfm n w (hr.below hm.bel) ⟨by omega, by omega, by omega, by omega⟩))) (zbb 1 rfl ?_)
  exact zav (zbg rfl rfl (congrArg (Value.int .i64) (show n.cnt = lnN n from (lnN_yes ⟨by omega, by omega, by omega, by omega⟩).symm)))
 have h2a := zdy h2
 refine zbb 19 rfl (zao rfl (zbc 1 rfl ?_))
 refine zav (zap ?_)
 exact zbg rfl rfl (congrArg _ (lnN_no (fun hp => by obtain ⟨si, s2, s3, s4⟩ := hp; omega)).symm)
theorem specLutNodes_ans (n : Ln) (w : World) (hr : RdsLn w n) :
   Calls Try.prog 44 #[.agg #[.int .i64 n.ins, n.sv, n.lv, n.ov]] w (Ans w (.int .i64 (lnN n))) := by
 have hso := sml hr.ou
 have hss := hr.sq.small
 have hsl := hr.lt.small
 have hcnt : n.cnt = 1 + n.ins + n.ss.length + n.ls.length := rfl
 have hfst : n.fst = 1 + n.ins + n.ss.length := rfl
 refine zbf (N := 36) (args := [.agg #[.int .i64 n.ins, n.sv, n.lv, n.ov]]) Try.func44 rfl rfl (srQ ?_)
 refine zdt rfl (zct rfl rfl) ?_
 intro b1
 refine zbb 1 rfl (zfl (hvQ rfl (fdQ 0 rfl rfl rfl) (hvQ rfl (zag rfl rfl rfl (zad 0 rfl rfl)) ?_)))
 refine zdn rfl (zal rfl rfl (fun w hm => zas (zen n.ins 0 20 w))) (zbl (fun h2 => ?_) (fun h2 => ?_))
 ·
  obtain ⟨h2a, h2b⟩ := (zdm _ _ _).1 h2
  refine zan 2 rfl (hvQ rfl (fdQ 1 rfl rfl rfl) (hvQ rfl (zag rfl rfl rfl (zad 0 rfl rfl)) (hvQ rfl (lnQ rfl rfl rfl (zaa ((hr).sq.row))) ?_)))
  refine zfa rfl rfl rfl rfl rfl rfl (fun h3 => ?_) (fun h3 => ?_)
  ·
   refine zbb 13 rfl ?_
   refine zao rfl (zbc 1 rfl ?_)
   refine zav (zap ?_)
   exact zbg rfl rfl (congrArg _ (lnN_no (fun hp => by obtain ⟨si, s2, s3, s4⟩ := hp; omega)).symm)
  refine zan 2 rfl (hvQ rfl (fdQ 2 rfl rfl rfl) (hvQ rfl (zag rfl rfl rfl (zad 0 rfl rfl)) (hvQ rfl (lnQ rfl rfl rfl (zaa ((hr).lt.row))) ?_)))
  refine zfa rfl rfl rfl rfl rfl rfl (fun h4 => ?_) (fun h4 => ?_)
  ·
   refine zbb 7 rfl (zao rfl (zac (reQ 1 rfl (?_))))
   refine ntQ ?_
   refine zav (zap ?_)
   exact zbg rfl rfl (congrArg _ (lnN_no (fun hp => by obtain ⟨si, s2, s3, s4⟩ := hp; omega)).symm)
  refine zan 2 rfl (hvQ rfl (fdQ 3 rfl rfl rfl) (hvQ rfl (zag rfl rfl rfl (zad 0 rfl rfl)) (hvQ rfl (lnQ rfl rfl rfl (zaa ((hr).ou))) ?_)))
  refine zfa rfl rfl rfl rfl rfl rfl (fun h5 => ?_) (fun h5 => ?_)
  ·
   refine zbb 1 rfl (zao rfl (zbc 1 rfl ?_))
   refine zav (zap ?_)
   exact zbg rfl rfl (congrArg _ (lnN_no (fun hp => by obtain ⟨si, s2, s3, s4⟩ := hp; omega)).symm)
  refine zbb 1 rfl (zaq rfl (zcp (srQ (hvQ rfl (fdQ 0 rfl rfl rfl) (hvQ rfl (zag rfl rfl rfl (zad 0 rfl rfl)) (hvQ rfl (vaQ rfl rfl rfl) (hvQ rfl (fdQ 1 rfl rfl rfl) (hvQ rfl (zag rfl rfl rfl (zad 0 rfl rfl)) ?_))))))))
  refine hvQ rfl (lnQ rfl rfl rfl (zaa ((hr).sq.row))) (hvQ rfl (vaQ rfl rfl rfl) (hvQ rfl (fdQ 2 rfl rfl rfl) (hvQ rfl (zag rfl rfl rfl (zad 0 rfl rfl)) (hvQ rfl (lnQ rfl rfl rfl (zaa ((hr).lt.row))) (hvQ rfl (vaQ rfl rfl rfl) (zbb 1 rfl ?_))))))
  exact zav (zbg rfl rfl (congrArg (Value.int .i64) (show n.cnt = lnN n from (lnN_yes ⟨by omega, by omega, by omega, by omega⟩).symm)))
 have h2a := zdy h2
 refine zbb 19 rfl (zao rfl (zbc 1 rfl ?_))
 refine zav (zap ?_)
 exact zbg rfl rfl (congrArg _ (lnN_no (fun hp => by obtain ⟨si, s2, s3, s4⟩ := hp; omega)).symm)
theorem zex (xs : List Int) (m : Int) (v : Value) (w : World) (hv : RdsW w v 1 xs.length (xs.map (Value.int .i64))) (hm0 : -1000 ≤ m ∧ m ≤ 1000000) :
   Calls Try.prog 35 #[v, .int .i64 m] w (Ans w (.bool (pB (BelowP xs m)))) := by
 have hsm := sml hv
 refine zbf (N := 19) (args := [v, .int .i64 m]) Try.func35 rfl rfl (zbc 1 rfl (zac (zac (reQ 1 rfl (hvQ rfl (lnQ rfl rfl rfl (zaa hv)) (zan 1 rfl (?_)))))))
 refine ntQ (zaw ?_)
 refine lkQ1 (α := Nat) [0, 1, 4, 7, 8] rfl (fun j => []) (fun j => [(9, .int .i64 (j : Int))]) (fun j => j ≤ xs.length ∧ ∀ i, i < j → 0 ≤ xs.getD i 0 ∧ xs.getD i 0 < m) (fun j => xs.length - j) 0 ⟨Nat.zero_le _, fun i hi => absurd hi (by omega)⟩ (saQ rfl) (.slnil) ?_
 intro j hi1
 obtain ⟨hj, hq⟩ := hi1
 refine srQ ?_
 refine zbh rfl rfl rfl rfl rfl rfl (fun h2 => ?_) (fun h2 => ?_)
 ·
  refine ntQ (tcQ rfl (zcp (sbQ (srQ (hvQ rfl (riQ 1 rfl rfl rfl rfl (zaa hv)) (hvQ rfl (liQ rfl rfl rfl (zaa hv)) (zan 1 rfl ?_)))))))
  refine ntQ (zac (reQ 2 rfl (hvQ rfl (vsQ rfl rfl rfl) ?_)))
  refine zdn rfl (zal rfl rfl (fun w hm => zas (zgo (zea _ _ _ w)))) (zbl (fun h3 => ?_) (fun h3 => ?_))
  ·
   obtain ⟨h3a, h3b⟩ := (zdm _ _ _).1 h3
   refine zbb 1 rfl (fsQ rfl (zcv (zay (hvQ rfl (vaQ rfl rfl rfl) (enQ 1 rfl ?_)))))
   exact zck (j + 1) ⟨by omega, fun i hi => by by_cases e : i = j; (subst e; omega); exact hq i (by omega)⟩ (by omega) (saQ rfl) (.slnil)
  have h3a := zdy h3
  refine zbb 1 rfl (zao rfl (zbc 1 rfl ?_))
  refine zav (zak ?_)
  refine zfs ?_
  refine zak (zap ?_)
  exact zbg rfl rfl (congrArg _ (zdh (fun hp => by first | (have h9 := hp j (by omega); omega))).symm)
 refine ntQ (fcQ rfl ?_)
 refine zaz (zdr ?_)
 refine zaf (zax (zbc 1 rfl ?_))
 exact zav (zbg rfl rfl (congrArg _ (zef (fun i hi => hq i (by omega))).symm))
theorem zer (xs : List Int) (m : Int) (v : Value) (w : World) (hv : RdsW w v 1 xs.length (xs.map (Value.int .i64))) (hm0 : -1000 ≤ m ∧ m ≤ 1000000) :
   Calls Try.prog 86 #[v, .int .i64 m] w (Ans w (.bool (pB (BelowP xs m)))) := by
 have hsm := sml hv
 refine zbf (N := 25) (args := [v, .int .i64 m]) Try.func86 rfl rfl (zbc 1 rfl (zac (zbc 1 rfl ?_)))
 refine zaw ?_
 refine lkQ1 (α := Nat) [0, 1, 4] rfl (fun j => []) (fun j => [(5, .int .i64 (j : Int))]) (fun j => j ≤ xs.length ∧ ∀ i, i < j → 0 ≤ xs.getD i 0 ∧ xs.getD i 0 < m) (fun j => xs.length - j) 0 ⟨Nat.zero_le _, fun i hi => absurd hi (by omega)⟩ (saQ rfl) (.slnil) ?_
 intro j hi1
 obtain ⟨hj, hq⟩ := hi1
 refine zac (zac (reQ 2 rfl (hvQ rfl (lnQ rfl rfl rfl (zaa hv)) ?_)))
 refine zbh rfl rfl rfl rfl rfl rfl (fun h2 => ?_) (fun h2 => ?_)
 ·
  refine ntQ (zao rfl (zcp (sbQ (zac (reQ 2 rfl (hvQ rfl (riQ 1 rfl rfl rfl rfl (zaa hv)) (hvQ rfl (liQ rfl rfl rfl (zaa hv)) ?_)))))))
  refine zbh rfl rfl rfl rfl rfl rfl (fun h3 => ?_) (fun h3 => ?_)
  ·
   refine zbb 8 rfl (zao rfl (zac (reQ 1 rfl (?_))))
   refine ntQ ?_
   refine zav (zak ?_)
   refine zfs ?_
   refine zak (zap ?_)
   exact zbg rfl rfl (congrArg _ (zdh (fun hp => by first | (have h9 := hp j (by omega); omega))).symm)
  refine zan 3 rfl (hvQ rfl (riQ 1 rfl rfl rfl rfl (zaa hv)) (hvQ rfl (liQ rfl rfl rfl (zaa hv)) (zan 1 rfl ?_)))
  refine zfh rfl rfl rfl rfl rfl rfl (fun h4 => ?_) (fun h4 => ?_)
  ·
   refine zbb 1 rfl (zao rfl (zbc 1 rfl ?_))
   refine zav (zak ?_)
   refine zfs ?_
   refine zak (zap ?_)
   exact zbg rfl rfl (congrArg _ (zdh (fun hp => by first | (have h9 := hp j (by omega); omega))).symm)
  refine zbb 1 rfl (fsQ rfl (zcv (reQ 1 rfl (hvQ rfl (vaQ rfl rfl rfl) (enQ 1 rfl ?_)))))
  exact zck (j + 1) ⟨by omega, fun i hi => by by_cases e : i = j; (subst e; omega); exact hq i (by omega)⟩ (by omega) (saQ rfl) (.slnil)
 refine ntQ (zaq rfl ?_)
 refine zaz (zdr ?_)
 refine zaf (zax (zbc 1 rfl ?_))
 exact zav (zbg rfl rfl (congrArg _ (zef (fun i hi => hq i (by omega))).symm))
theorem seqOk_ans (s : Sq) (w : World) (hx : RdsW w s.iv 1 s.xs.length (s.xs.map (Value.int .i64))) :
   Calls Try.prog 36 #[.agg #[.int .i64 s.kd, .int .i64 s.it, s.iv]] w (Ans w (.bool (pB (SqOk s)))) := by
 refine zbf (N := 27) (args := [.agg #[.int .i64 s.kd, .int .i64 s.it, s.iv]]) Try.func36 rfl rfl (srQ ?_)
 refine zdt rfl (zct rfl rfl) ?_
 intro b1
 refine zbb 1 rfl (zfl (hvQ rfl (fdQ 0 rfl rfl rfl) (hvQ rfl (zag rfl rfl rfl (zad 0 rfl rfl)) (ntQ (zaw (zac ?_))))))
 refine zay (zcu rfl rfl rfl rfl rfl rfl (fun h2 => ?_) (fun h2 => ?_))
 ·
  refine zbb 1 rfl (zao rfl (srQ (hvQ rfl (fdQ 1 rfl rfl rfl) (hvQ rfl (zag rfl rfl rfl (zad 0 rfl rfl)) ?_))))
  refine zdn rfl (zal rfl rfl (fun w hm => zas (zgo (zea _ _ _ w)))) (zbl (fun h3 => ?_) (fun h3 => ?_))
  ·
   obtain ⟨h3a, h3b⟩ := (zdm _ _ _).1 h3
   refine zan 1 rfl (hvQ rfl (fdQ 2 rfl rfl rfl) (hvQ rfl (zag rfl rfl rfl (zad 0 rfl rfl)) (hvQ rfl (lnQ rfl rfl rfl (zaa hx)) ?_)))
   refine zcu rfl rfl rfl rfl rfl rfl (fun h4 => ?_) (fun h4 => ?_)
   ·
    refine zbb 2 rfl ?_
    refine zav (zak ?_)
    exact zap (zbg rfl rfl (congrArg _ (zef ⟨by omega⟩).symm))
   refine zbb 2 rfl ?_
   refine zav (zak ?_)
   exact zap (zbg rfl rfl (congrArg _ (zdh (fun hp => by first | (rcases hp.kind with ⟨a, b, c⟩ | ⟨a, b, c⟩ <;> omega))).symm))
  have h3a := zdy h3
  refine zbb 7 rfl ?_
  refine zav (zak ?_)
  exact zap (zbg rfl rfl (congrArg _ (zdh (fun hp => by first | (rcases hp.kind with ⟨a, b, c⟩ | ⟨a, b, c⟩ <;> omega))).symm))
 refine zbb 1 rfl (zaq rfl (srQ ?_))
 refine zcu rfl rfl rfl rfl rfl rfl (fun h5 => ?_) (fun h5 => ?_)
 ·
  refine zbb 1 rfl (zao rfl (srQ (hvQ rfl (fdQ 1 rfl rfl rfl) (hvQ rfl (zag rfl rfl rfl (zad 0 rfl rfl)) ?_))))
  refine zdn rfl (zal rfl rfl (fun w hm => zas (zgo (zea _ _ _ w)))) (zbl (fun h6 => ?_) (fun h6 => ?_))
  ·
   obtain ⟨h6a, h6b⟩ := (zdm _ _ _).1 h6
   refine zan 1 rfl (hvQ rfl (fdQ 2 rfl rfl rfl) (hvQ rfl (zag rfl rfl rfl (zad 0 rfl rfl)) (hvQ rfl (lnQ rfl rfl rfl (zaa hx)) ?_)))
   refine zcu rfl rfl rfl rfl rfl rfl (fun h7 => ?_) (fun h7 => ?_)
   ·
    refine zbb 2 rfl ?_
    refine zav (zak ?_)
    exact zap (zbg rfl rfl (congrArg _ (zef ⟨by omega⟩).symm))
   refine zbb 2 rfl ?_
   refine zav (zak ?_)
   exact zap (zbg rfl rfl (congrArg _ (zdh (fun hp => by first | (rcases hp.kind with ⟨a, b, c⟩ | ⟨a, b, c⟩ <;> omega))).symm))
  have h6a := zdy h6
  refine zbb 7 rfl ?_
  refine zav (zak ?_)
  exact zap (zbg rfl rfl (congrArg _ (zdh (fun hp => by first | (rcases hp.kind with ⟨a, b, c⟩ | ⟨a, b, c⟩ <;> omega))).symm))
 refine zbb 1 rfl (fsQ rfl (zcv (zbc 1 rfl ?_)))
 exact zav (zbg rfl rfl (congrArg _ (zdh (fun hp => by first | (rcases hp.kind with ⟨a, b, c⟩ | ⟨a, b, c⟩ <;> omega))).symm))
theorem l02FullT_ans (n : Int) (w : World) (hn : 0 ≤ n ∧ n ≤ 4) :
   Calls Try.prog 62 #[.int .i64 n] w (Ans w (.int .i64 (qT n - 1))) := by
 have hp := pT_rng hn
 have hq := qT_rng hn
 refine zbf (N := 7) (args := [.int .i64 n]) Try.func62 rfl rfl (zac (zay (zan 1 rfl (zcb (zax (zac (zay (zan 1 rfl (hvQ rfl (zga (k := .u64) (kk := .i64) (r := (pT n : Int)) rfl rfl rfl rfl (by omega) (wruT hn)) (hvQ rfl (zga (k := .i64) (kk := .u64) (r := qT n) rfl rfl rfl rfl (by omega) (wrqT (by omega))) (hvQ rfl (vsQ rfl rfl rfl) (zan 1 rfl ?_))))))))))))
 refine ntQ ?_
 exact zav (zbg rfl rfl rfl)
theorem implTabOk_ans (n b : Int) (w : World)  :
   Calls Try.prog 38 #[.agg #[.int .i64 n, .int .i64 b]] w (Ans w (.bool (pB (TabP n b)))) := by
 refine zbf (N := 17) (args := [.agg #[.int .i64 n, .int .i64 b]]) Try.func38 rfl rfl (srQ ?_)
 refine zdt rfl (zct rfl rfl) ?_
 intro b1
 refine zbb 1 rfl (srQ (hvQ rfl (fdQ 0 rfl rfl rfl) (hvQ rfl (zag rfl rfl rfl (zad 0 rfl rfl)) ?_)))
 refine zdn rfl (zal rfl rfl (fun w hm => zas (zgo (zea _ _ _ w)))) (zbl (fun h2 => ?_) (fun h2 => ?_))
 ·
  obtain ⟨h2a, h2b⟩ := (zdm _ _ _).1 h2
  refine zan 1 rfl (hvQ rfl (fdQ 1 rfl rfl rfl) ?_)
  have hpT := pT_rng (n := n) (by omega)
  have hqT := qT_rng (n := n) (by omega)
  refine hvQ rfl (zag rfl rfl rfl (zad 0 rfl rfl)) (hvQ rfl (fdQ 0 rfl rfl rfl) (hvQ rfl (zag rfl rfl rfl (zad 0 rfl rfl)) (hvQ rfl (rv_conv rfl Try.underlying3 Try.underlying111 rfl (IntWalk.u64_in _ (by omega))) (hvQ rfl (zga (k := .u64) (kk := .u64) (r := (pT n : Int)) rfl rfl rfl rfl (by omega) (wruT (by omega))) (hvQ rfl (zga (k := .i64) (kk := .u64) (r := qT n) rfl rfl rfl rfl (by omega) (wrqT (by omega))) (hvQ rfl (vsQ rfl rfl rfl) ?_))))))
  refine zdn rfl (zal rfl rfl (fun w hm => zas (zgo (zea _ _ _ w)))) (zbl (fun h3 => ?_) (fun h3 => ?_))
  ·
   obtain ⟨h3a, h3b⟩ := (zdm _ _ _).1 h3
   refine zbb 2 rfl ?_
   exact zav (zbg rfl rfl (congrArg _ (zef ⟨by omega, by omega, by omega⟩).symm))
  have h3a := zdy h3
  refine zbb 2 rfl ?_
  exact zav (zbg rfl rfl (congrArg _ (zdh (fun hp => by first | (obtain ⟨p1, p2, p3⟩ := hp; omega))).symm))
 have h2a := zdy h2
 refine zbb 12 rfl ?_
 exact zav (zbg rfl rfl (congrArg _ (zdh (fun hp => by first | (obtain ⟨p1, p2, p3⟩ := hp; omega))).symm))
theorem zgq (n b : Int) (w : World)  :
   Calls Try.prog 87 #[.agg #[.int .i64 n, .int .i64 b]] w (Ans w (.bool (pB (TabP n b)))) := by
 refine zbf (N := 19) (args := [.agg #[.int .i64 n, .int .i64 b]]) Try.func87 rfl rfl (srQ ?_)
 refine zdt rfl (zct rfl rfl) ?_
 intro b1
 refine zbb 1 rfl (zac ?_)
 rcases Bool.eq_false_or_eq_true (inR n 0 4) with hb2 | hb2
 ·
  obtain ⟨hb2a, hb2b⟩ := (zdm _ _ _).1 hb2
  rcases Bool.eq_false_or_eq_true (decide (0 ≤ b)) with hb3 | hb3
  ·
   have hb3p : 0 ≤ b := of_decide_eq_true hb3
   rcases Bool.eq_false_or_eq_true (decide (b ≤ qT n - 1)) with hb4 | hb4
   ·
    have hb4p : b ≤ qT n - 1 := of_decide_eq_true hb4
    refine zbk 16 [[], [0], [1], [2], [3], [3, 4], [3, 5], [3, 6], [7], [8], [8, 9], [8], [8, 11], [8, 12], [8, 10, 13], [8, 14]] [3, 4, 5, 6, 7, 8, 9, 10, 11, 12, 13, 14, 15, 16, 17, 18] [.pointer (some ⟨b1, 0 + 0, none⟩), .int .i64 n, .bool true, .bool true, .pointer (some ⟨b1, 0 + 1, none⟩), .int .i64 b, .bool true, .bool true, .bool true, .pointer (some ⟨b1, 0 + 1, none⟩), .int .i64 b, .pointer (some ⟨b1, 0 + 0, none⟩), .int .i64 n, .int .i64 (qT n - 1), .bool true, .bool true] (by kernel_rfl) rfl ?_ ?_
    ·
     exact ⟨iaQ rfl (fdQ 0 rfl rfl rfl) rfl, iaQ rfl (zag rfl rfl rfl (zad 0 rfl rfl)) rfl, .inl ⟨rfl, zfq (zal rfl rfl (fun w hm => zas (zen n 0 4 w))) hb2⟩, iaQ rfl (zaj rfl) rfl, iaQ rfl (fdQ 1 rfl rfl rfl) rfl, iaQ rfl (zag rfl rfl rfl (zad 0 rfl rfl)) rfl, .inl ⟨rfl, zcz (zcd rfl rfl rfl rfl) hb3⟩, iaQ rfl (zaj rfl) rfl, iaQ rfl (zaj rfl) rfl, iaQ rfl (fdQ 1 rfl rfl rfl) rfl, iaQ rfl (zag rfl rfl rfl (zad 0 rfl rfl)) rfl, iaQ rfl (fdQ 0 rfl rfl rfl) rfl, iaQ rfl (zag rfl rfl rfl (zad 0 rfl rfl)) rfl, .inl ⟨rfl, zal rfl rfl (fun w hm => zas (l02FullT_ans n w (by omega)))⟩, .inl ⟨rfl, zcz (zcd rfl rfl rfl rfl) hb4⟩, iaQ rfl (zaj rfl) rfl, trivial⟩
    simp only [List.drop_succ_cons, List.drop_zero]
    refine zbb 1 rfl ?_
    exact zav (zbg rfl rfl (congrArg _ (zef ⟨by omega, by omega, by omega⟩).symm))
   have hb4p : ¬ (b ≤ qT n - 1) := of_decide_eq_false hb4
   refine zbk 16 [[], [0], [1], [2], [3], [3, 4], [3, 5], [3, 6], [7], [8], [8, 9], [8], [8, 11], [8, 12], [8, 10, 13], [8, 14]] [3, 4, 5, 6, 7, 8, 9, 10, 11, 12, 13, 14, 15, 16, 17, 18] [.pointer (some ⟨b1, 0 + 0, none⟩), .int .i64 n, .bool true, .bool true, .pointer (some ⟨b1, 0 + 1, none⟩), .int .i64 b, .bool true, .bool true, .bool true, .pointer (some ⟨b1, 0 + 1, none⟩), .int .i64 b, .pointer (some ⟨b1, 0 + 0, none⟩), .int .i64 n, .int .i64 (qT n - 1), .bool false, .bool false] (by kernel_rfl) rfl ?_ ?_
   ·
    exact ⟨iaQ rfl (fdQ 0 rfl rfl rfl) rfl, iaQ rfl (zag rfl rfl rfl (zad 0 rfl rfl)) rfl, .inl ⟨rfl, zfq (zal rfl rfl (fun w hm => zas (zen n 0 4 w))) hb2⟩, iaQ rfl (zaj rfl) rfl, iaQ rfl (fdQ 1 rfl rfl rfl) rfl, iaQ rfl (zag rfl rfl rfl (zad 0 rfl rfl)) rfl, .inl ⟨rfl, zcz (zcd rfl rfl rfl rfl) hb3⟩, iaQ rfl (zaj rfl) rfl, iaQ rfl (zaj rfl) rfl, iaQ rfl (fdQ 1 rfl rfl rfl) rfl, iaQ rfl (zag rfl rfl rfl (zad 0 rfl rfl)) rfl, iaQ rfl (fdQ 0 rfl rfl rfl) rfl, iaQ rfl (zag rfl rfl rfl (zad 0 rfl rfl)) rfl, .inl ⟨rfl, zal rfl rfl (fun w hm => zas (l02FullT_ans n w (by omega)))⟩, .inl ⟨rfl, zcz (zcd rfl rfl rfl rfl) hb4⟩, iaQ rfl (zaj rfl) rfl, trivial⟩
   simp only [List.drop_succ_cons, List.drop_zero]
   refine zbb 1 rfl ?_
   exact zav (zbg rfl rfl (congrArg _ (zdh (fun hp => by first | (obtain ⟨p1, p2, p3⟩ := hp; omega))).symm))
  have hb3p : ¬ (0 ≤ b) := of_decide_eq_false hb3
  refine zbk 16 [[], [0], [1], [2], [3], [3, 4], [3, 5], [3, 6], [7], [8], [8], [8], [8], [8], [8], [8, 14]] [3, 4, 5, 6, 7, 8, 9, 10, 11, 12, 13, 14, 15, 16, 17, 18] [.pointer (some ⟨b1, 0 + 0, none⟩), .int .i64 n, .bool true, .bool true, .pointer (some ⟨b1, 0 + 1, none⟩), .int .i64 b, .bool false, .bool false, .bool false, undef, undef, undef, undef, undef, undef, .bool false] (by kernel_rfl) rfl ?_ ?_
  ·
   exact ⟨iaQ rfl (fdQ 0 rfl rfl rfl) rfl, iaQ rfl (zag rfl rfl rfl (zad 0 rfl rfl)) rfl, .inl ⟨rfl, zfq (zal rfl rfl (fun w hm => zas (zen n 0 4 w))) hb2⟩, iaQ rfl (zaj rfl) rfl, iaQ rfl (fdQ 1 rfl rfl rfl) rfl, iaQ rfl (zag rfl rfl rfl (zad 0 rfl rfl)) rfl, .inl ⟨rfl, zcz (zcd rfl rfl rfl rfl) hb3⟩, iaQ rfl (zaj rfl) rfl, iaQ rfl (zaj rfl) rfl, .inr ⟨rfl, rfl⟩, .inr ⟨rfl, rfl⟩, .inr ⟨rfl, rfl⟩, .inr ⟨rfl, rfl⟩, .inr ⟨rfl, rfl⟩, .inr ⟨rfl, rfl⟩, iaQ rfl (zaj rfl) rfl, trivial⟩
  simp only [List.drop_succ_cons, List.drop_zero]
  refine zbb 1 rfl ?_
  exact zav (zbg rfl rfl (congrArg _ (zdh (fun hp => by first | (obtain ⟨p1, p2, p3⟩ := hp; omega))).symm))
 have hb2a := zdy hb2
 refine zbk 16 [[], [0], [1], [2], [3], [3], [3], [3, 6], [7], [8], [8], [8], [8], [8], [8], [8, 14]] [3, 4, 5, 6, 7, 8, 9, 10, 11, 12, 13, 14, 15, 16, 17, 18] [.pointer (some ⟨b1, 0 + 0, none⟩), .int .i64 n, .bool false, .bool false, undef, undef, undef, .bool false, .bool false, undef, undef, undef, undef, undef, undef, .bool false] (by kernel_rfl) rfl ?_ ?_
 ·
  exact ⟨iaQ rfl (fdQ 0 rfl rfl rfl) rfl, iaQ rfl (zag rfl rfl rfl (zad 0 rfl rfl)) rfl, .inl ⟨rfl, zfq (zal rfl rfl (fun w hm => zas (zen n 0 4 w))) hb2⟩, iaQ rfl (zaj rfl) rfl, .inr ⟨rfl, rfl⟩, .inr ⟨rfl, rfl⟩, .inr ⟨rfl, rfl⟩, iaQ rfl (zaj rfl) rfl, iaQ rfl (zaj rfl) rfl, .inr ⟨rfl, rfl⟩, .inr ⟨rfl, rfl⟩, .inr ⟨rfl, rfl⟩, .inr ⟨rfl, rfl⟩, .inr ⟨rfl, rfl⟩, .inr ⟨rfl, rfl⟩, iaQ rfl (zaj rfl) rfl, trivial⟩
 simp only [List.drop_succ_cons, List.drop_zero]
 refine zbb 1 rfl ?_
 exact zav (zbg rfl rfl (congrArg _ (zdh (fun hp => by first | (obtain ⟨p1, p2, p3⟩ := hp; omega))).symm))
theorem LutP_len {x : Nat} {b : Int} (h : TabP (x : Int) b) : x ≤ 4 := by have := h.1.2; omega
theorem implLutNetOk_ans (n : Ln) (w : World) (hr : RdsLn w n) :
   Calls Try.prog 11 #[.agg #[.int .i64 n.ins, n.sv, n.lv, n.ov]] w (Ans w (.bool (pB (LnOk n)))) := by
 have hso := sml hr.ou
 have hss := hr.sq.small
 have hsl := hr.lt.small
 have hcnt : n.cnt = 1 + n.ins + n.ss.length + n.ls.length := rfl
 have hfst : n.fst = 1 + n.ins + n.ss.length := rfl
 refine zbf (N := 70) (args := [.agg #[.int .i64 n.ins, n.sv, n.lv, n.ov]]) Try.func11 rfl rfl (srQ ?_)
 refine zdt rfl (zct rfl rfl) ?_
 intro b1
 refine zbb 1 rfl (srQ (hvQ rfl (zar (cs := [.int .i64 n.ins, n.sv, n.lv, n.ov]) rfl rfl rfl rfl rfl (zam 0 rfl 0 rfl)) ?_))
 refine zdn rfl (zal rfl rfl (fun w hm => zas (implLutNodes_ans n w (hr.below hm.bel)))) (zbb 1 rfl (zac (zac (reQ 1 rfl ?_))))
 refine zcu rfl rfl rfl rfl rfl rfl (fun h2 => ?_) (fun h2 => ?_)
 ·
  refine zbb 7 rfl (zao rfl (zac (reQ 1 rfl (?_))))
  refine ntQ ?_
  refine zav (zap ?_)
  exact zbg rfl rfl (congrArg _ (zdh (fun hp => by first | exact zdx hp.sz ‹_› | exact absurd hp.ou (by rw [← hnc]; assumption) | exact absurd (hp.sq k (by omega)).1 ‹_› | (have h9 := hp.sq k (by omega); rw [← hnc] at h9; exact absurd h9.2 ‹_›) | (rcases (hp.sq k (by omega)).1.kind with ⟨a, b, c⟩ | ⟨a, b, c⟩ <;> omega) | (have h8 := (hp.lt i (by omega)).1.1; omega) | exact absurd (hp.lt i (by omega)).1.2 ‹_› | exact absurd (hp.lt i (by omega)).2 ‹_›)).symm)
 refine zan 1 rfl ?_
 have hsz := lnN_sz (by assumption)
 have hnc := lnN_yes hsz
 obtain ⟨si, s2, s3, s4⟩ := id hsz
 refine hvQ rfl (fdQ 3 rfl rfl rfl) (hvQ rfl (zag rfl rfl rfl (zad 0 rfl rfl)) (zan 1 rfl ?_))
 refine zdn rfl (zal rfl rfl (fun w hm => zas (zex n.os (lnN n) _ w ((zaa ((hr).ou)) w hm) (by omega)))) (zbl (fun h3 => ?_) (fun h3 => ?_))
 ·
  have h3p := zgb h3
  refine zbb 2 rfl (zaq rfl (zcp (zfl (hvQ rfl (fdQ 1 rfl rfl rfl) (hvQ rfl (zag rfl rfl rfl (zad 0 rfl rfl)) (hvQ rfl (lnQ rfl rfl rfl (zaa ((hr).sq.row))) (zan 1 rfl ?_)))))))
  refine ntQ (zaw ?_)
  refine lkQ1 (α := Nat) [0, 1, 2, 3, 18, 20, 21] rfl (fun k => [boxE b1 #[.int .i64 n.ins, n.sv, n.lv, n.ov] 28]) (fun k => [(22, .int .i64 (k : Int))]) (fun k => k ≤ n.ss.length ∧ ∀ i, i < k → SqOk (n.ss.getD i sq0) ∧ BelowP (n.ss.getD i sq0).xs n.cnt) (fun k => n.ss.length - k) 0 ⟨Nat.zero_le _, fun i hi => absurd hi (by omega)⟩ (saQ rfl) (pfQ rfl) ?_
  intro k hi4
  obtain ⟨hk, hqs⟩ := hi4
  refine srQ ?_
  refine zbh rfl rfl rfl rfl rfl rfl (fun h5 => ?_) (fun h5 => ?_)
  ·
   refine ntQ (tcQ rfl (zcp (sbQ (srQ (hvQ rfl (riQ 3 rfl rfl rfl rfl (zaa ((hr).sq.row))) ?_)))))
   refine hvQ rfl (zcl (us := [.int .i64 ((n.ss.getD k sq0).kd), .int .i64 ((n.ss.getD k sq0).it), (n.ss.getD k sq0).iv]) rfl rfl rfl rfl (zaa ((hr).sq.row)) (by omega) rfl (zde sqC 3 (fun _ => rfl) n.ss sq0 (show k < _ by omega) rfl)) (zdt rfl (zbm (z := .agg #[.int .i64 0, .int .i64 0, .slice none 0 0]) rfl rfl) ?_)
   intro b6
   refine zbr (cs' := #[.int .i64 ((n.ss.getD k sq0).kd), .int .i64 ((n.ss.getD k sq0).it), (n.ss.getD k sq0).iv]) (i := 0) (off := 0) (us := [.int .i64 ((n.ss.getD k sq0).kd), .int .i64 ((n.ss.getD k sq0).it), (n.ss.getD k sq0).iv]) rfl rfl rfl rfl rfl rfl rfl (zae rfl (zae rfl (zae (hr.sq.at (d := sq0) (k := k) (by omega)).one zbj))) rfl rfl rfl (ntQ (srQ (hvQ rfl (zar (cs := [.int .i64 ((n.ss.getD k sq0).kd), .int .i64 ((n.ss.getD k sq0).it), (n.ss.getD k sq0).iv]) rfl rfl rfl rfl rfl (zam 0 rfl 0 rfl)) ?_)))
   refine zdn rfl (zal rfl rfl (fun w hm => zas (seqOk_ans (n.ss.getD k sq0) w ((hr.sq.at (d := sq0) (k := k) (by omega)).below hm.bel)))) (zbl (fun h7 => ?_) (fun h7 => ?_))
   ·
    have h7p := zgb h7
    refine zan 2 rfl (hvQ rfl (fdQ 2 rfl rfl rfl) (hvQ rfl (zag rfl rfl rfl (zad 0 rfl rfl)) (zan 1 rfl ?_)))
    refine zdn rfl (zal rfl rfl (fun w hm => zas (zex ((n.ss.getD k sq0).xs) (lnN n) _ w ((zaa ((hr).sq.at (d := sq0) (k := k) (by omega))) w hm) (by omega)))) (zbl (fun h8 => ?_) (fun h8 => ?_))
    ·
     have h8p := zgb h8
     refine zbb 2 rfl (fsQ rfl (zcv (zay (hvQ rfl (vaQ rfl rfl rfl) (enQ 1 rfl ?_)))))
     exact zck (k + 1) ⟨by omega, fun i hi => by by_cases e : i = k; (subst e; exact ⟨by first | assumption | exact ⟨by omega⟩, by rw [← hnc]; assumption⟩); exact hqs i (by omega)⟩ (by omega) (saQ rfl) (slQ [1] rfl)
    have h8p := zew h8
    refine zbb 2 rfl (zao rfl (zbc 1 rfl ?_))
    refine zav (zak ?_)
    refine zfs ?_
    refine zak (zap ?_)
    exact zbg rfl rfl (congrArg _ (zdh (fun hp => by first | exact zdx hp.sz ‹_› | exact absurd hp.ou (by rw [← hnc]; assumption) | exact absurd (hp.sq k (by omega)).1 ‹_› | (have h9 := hp.sq k (by omega); rw [← hnc] at h9; exact absurd h9.2 ‹_›) | (rcases (hp.sq k (by omega)).1.kind with ⟨a, b, c⟩ | ⟨a, b, c⟩ <;> omega) | (have h8 := (hp.lt i (by omega)).1.1; omega) | exact absurd (hp.lt i (by omega)).1.2 ‹_› | exact absurd (hp.lt i (by omega)).2 ‹_›)).symm)
   have h7p := zew h7
   refine zbb 8 rfl (zao rfl (zac (reQ 1 rfl (?_))))
   refine ntQ ?_
   refine zav (zak ?_)
   refine zfs ?_
   refine zak (zap ?_)
   exact zbg rfl rfl (congrArg _ (zdh (fun hp => by first | exact zdx hp.sz ‹_› | exact absurd hp.ou (by rw [← hnc]; assumption) | exact absurd (hp.sq k (by omega)).1 ‹_› | (have h9 := hp.sq k (by omega); rw [← hnc] at h9; exact absurd h9.2 ‹_›) | (rcases (hp.sq k (by omega)).1.kind with ⟨a, b, c⟩ | ⟨a, b, c⟩ <;> omega) | (have h8 := (hp.lt i (by omega)).1.1; omega) | exact absurd (hp.lt i (by omega)).1.2 ‹_› | exact absurd (hp.lt i (by omega)).2 ‹_›)).symm)
  refine ntQ (fcQ rfl ?_)
  refine zaz (zdr ?_)
  refine zaf (zax (zfl (hvQ rfl (fdQ 2 rfl rfl rfl) (hvQ rfl (zag rfl rfl rfl (zad 0 rfl rfl)) (hvQ rfl (lnQ rfl rfl rfl (zaa ((hr).lt.row))) (zbb 1 rfl (zaw ?_)))))))
  refine lkQ1 (α := Nat) [0, 1, 2, 3, 18, 20, 21, 22, 23, 38, 39] rfl (fun i => [boxE b1 #[.int .i64 n.ins, n.sv, n.lv, n.ov] 28]) (fun i => [(40, .int .i64 (i : Int))]) (fun i => i ≤ n.ls.length ∧ ∀ j, j < i → LutP (n.fst + j) (n.ls.getD j lt0)) (fun i => n.ls.length - i) 0 ⟨Nat.zero_le _, fun i hi => absurd hi (by omega)⟩ (saQ rfl) (pfQ rfl) ?_
  intro i hi9
  obtain ⟨hi, hql⟩ := hi9
  refine srQ ?_
  refine zbh rfl rfl rfl rfl rfl rfl (fun h10 => ?_) (fun h10 => ?_)
  ·
   refine ntQ (tcQ rfl (zcp (sbQ (zac (reQ 1 rfl (hvQ rfl (riQ 2 rfl rfl rfl rfl (zaa ((hr).lt.row))) ?_))))))
   refine hvQ rfl (zcl (us := [(n.ls.getD i lt0).iv, .int .i64 ((n.ls.getD i lt0).ma)]) rfl rfl rfl rfl (zaa ((hr).lt.row)) (by omega) rfl (zde ltC 2 (fun _ => rfl) n.ls lt0 (show i < _ by omega) rfl)) (zdt rfl (zbm (z := .agg #[.slice none 0 0, .int .i64 0]) rfl rfl) ?_)
   intro b11
   refine zan 1 rfl (zbr (cs' := #[(n.ls.getD i lt0).iv, .int .i64 ((n.ls.getD i lt0).ma)]) (i := 0) (off := 0) (us := [(n.ls.getD i lt0).iv, .int .i64 ((n.ls.getD i lt0).ma)]) rfl rfl rfl rfl rfl rfl rfl (zae (hr.lt.at (d := lt0) (k := i) (by omega)).one (zae rfl zbj)) rfl rfl rfl ?_)
   refine ntQ (zac ?_)
   rcases Bool.eq_false_or_eq_true (decide (4 < (((n.ls.getD i lt0).xs).length : Int))) with hb12 | hb12
   ·
    have hb12p : 4 < (((n.ls.getD i lt0).xs).length : Int) := of_decide_eq_true hb12
    refine zbk 24 [[], [0], [1], [2], [3], [4], [4], [4], [4], [4], [4], [4], [4], [4, 12], [13], [14], [14], [14], [14], [14], [14], [14], [14], [14, 22]] [45, 46, 47, 48, 49, 50, 51, 52, 53, 54, 55, 56, 57, 58, 59, 60, 61, 62, 63, 64, 65, 66, 67, 68] [.pointer (some ⟨b11, 0 + 0, none⟩), (n.ls.getD i lt0).iv, .int .i64 (((n.ls.getD i lt0).xs).length : Int), .bool true, .bool true, undef, undef, undef, undef, undef, undef, undef, undef, .bool true, .bool true, undef, undef, undef, undef, undef, undef, undef, undef, .bool true] (by kernel_rfl) rfl ?_ ?_
    ·
     exact ⟨iaQ rfl (fdQ 0 rfl rfl rfl) rfl, iaQ rfl (zag rfl rfl rfl (zad 0 rfl rfl)) rfl, iaQ rfl (lnQ rfl rfl rfl (zaa ((hr).lt.at (d := lt0) (k := i) (by omega)))) rfl, .inl ⟨rfl, zcz (zcd rfl rfl rfl rfl) hb12⟩, iaQ rfl (zaj rfl) rfl, .inr ⟨rfl, rfl⟩, .inr ⟨rfl, rfl⟩, .inr ⟨rfl, rfl⟩, .inr ⟨rfl, rfl⟩, .inr ⟨rfl, rfl⟩, .inr ⟨rfl, rfl⟩, .inr ⟨rfl, rfl⟩, .inr ⟨rfl, rfl⟩, iaQ rfl (zaj rfl) rfl, iaQ rfl (zaj rfl) rfl, .inr ⟨rfl, rfl⟩, .inr ⟨rfl, rfl⟩, .inr ⟨rfl, rfl⟩, .inr ⟨rfl, rfl⟩, .inr ⟨rfl, rfl⟩, .inr ⟨rfl, rfl⟩, .inr ⟨rfl, rfl⟩, .inr ⟨rfl, rfl⟩, iaQ rfl (zaj rfl) rfl, trivial⟩
    simp only [List.drop_succ_cons, List.drop_zero]
    refine ntQ (zao rfl (zbc 1 rfl ?_))
    refine zav (zak ?_)
    refine zfs ?_
    refine zak (zap ?_)
    exact zbg rfl rfl (congrArg _ (zdh (fun hp => by first | exact zdx hp.sz ‹_› | exact absurd hp.ou (by rw [← hnc]; assumption) | exact absurd (hp.sq k (by omega)).1 ‹_› | (have h9 := hp.sq k (by omega); rw [← hnc] at h9; exact absurd h9.2 ‹_›) | (rcases (hp.sq k (by omega)).1.kind with ⟨a, b, c⟩ | ⟨a, b, c⟩ <;> omega) | (have h8 := (hp.lt i (by omega)).1.1; omega) | exact absurd (hp.lt i (by omega)).1.2 ‹_› | exact absurd (hp.lt i (by omega)).2 ‹_›)).symm)
   have hb12p : ¬ (4 < (((n.ls.getD i lt0).xs).length : Int)) := of_decide_eq_false hb12
   rcases Bool.eq_false_or_eq_true (pB (BelowP ((n.ls.getD i lt0).xs) (n.fst + (i : Int)))) with hb13 | hb13
   ·
    have hb13p := zgb hb13
    rcases Bool.eq_false_or_eq_true (pB (TabP (((n.ls.getD i lt0).xs).length : Int) ((n.ls.getD i lt0).ma))) with hb14 | hb14
    ·
     have hb14p := zgb hb14
     refine zbk 24 [[], [0], [1], [2], [3], [4], [4, 5], [4], [4, 7], [4], [4, 8, 9], [4, 6, 10], [4, 11], [4, 12], [13], [14], [14, 15], [14, 16], [14], [14, 18], [14, 17, 19], [14, 20], [14, 21], [14, 22]] [45, 46, 47, 48, 49, 50, 51, 52, 53, 54, 55, 56, 57, 58, 59, 60, 61, 62, 63, 64, 65, 66, 67, 68] [.pointer (some ⟨b11, 0 + 0, none⟩), (n.ls.getD i lt0).iv, .int .i64 (((n.ls.getD i lt0).xs).length : Int), .bool false, .bool false, .pointer (some ⟨b11, 0 + 0, none⟩), (n.ls.getD i lt0).iv, .agg #[.int .i64 n.ins, n.sv, n.lv, n.ov], .int .i64 n.fst, .int .i64 (i : Int), .int .i64 (n.fst + (i : Int)), .bool true, .bool false, .bool false, .bool false, .pointer (some ⟨b11, 0 + 0, none⟩), (n.ls.getD i lt0).iv, .int .i64 (((n.ls.getD i lt0).xs).length : Int), .pointer (some ⟨b11, 0 + 1, none⟩), .int .i64 ((n.ls.getD i lt0).ma), .agg #[.int .i64 (((n.ls.getD i lt0).xs).length : Int), .int .i64 ((n.ls.getD i lt0).ma)], .bool true, .bool false, .bool false] (by kernel_rfl) rfl ?_ ?_
     ·
      exact ⟨iaQ rfl (fdQ 0 rfl rfl rfl) rfl, iaQ rfl (zag rfl rfl rfl (zad 0 rfl rfl)) rfl, iaQ rfl (lnQ rfl rfl rfl (zaa ((hr).lt.at (d := lt0) (k := i) (by omega)))) rfl, .inl ⟨rfl, zcz (zcd rfl rfl rfl rfl) hb12⟩, iaQ rfl (zaj rfl) rfl, iaQ rfl (fdQ 0 rfl rfl rfl) rfl, iaQ rfl (zag rfl rfl rfl (zad 0 rfl rfl)) rfl, iaQ rfl (zar (cs := [.int .i64 n.ins, n.sv, n.lv, n.ov]) rfl rfl rfl rfl rfl (zam 1 rfl 0 rfl)) rfl, .inl ⟨rfl, zal rfl rfl (fun w hm => zas (zeu n w (hr.below hm.bel) hsz))⟩, iaQ rfl (zaj rfl) rfl, iaQ rfl (vaQ rfl rfl rfl) rfl, .inl ⟨rfl, zfq (zal (by kernel_rfl) rfl (fun w hm => zas (zex ((n.ls.getD i lt0).xs) (n.fst + (i : Int)) _ w ((zaa ((hr).lt.at (d := lt0) (k := i) (by omega))) w hm) (by omega)))) hb13⟩, iaQ rfl (zaj rfl) rfl, iaQ rfl (zaj rfl) rfl, iaQ rfl (zaj rfl) rfl, iaQ rfl (fdQ 0 rfl rfl rfl) rfl, iaQ rfl (zag rfl rfl rfl (zad 0 rfl rfl)) rfl, iaQ rfl (lnQ rfl rfl rfl (zaa ((hr).lt.at (d := lt0) (k := i) (by omega)))) rfl, iaQ rfl (fdQ 1 rfl rfl rfl) rfl, iaQ rfl (zag rfl rfl rfl (zad 0 rfl rfl)) rfl, iaQ rfl (zda (cs := #[.int .i64 (((n.ls.getD i lt0).xs).length : Int), .int .i64 ((n.ls.getD i lt0).ma)]) rfl rfl rfl) rfl, .inl ⟨rfl, zfq (zal (by kernel_rfl) rfl (fun w hm => zas (implTabOk_ans (((n.ls.getD i lt0).xs).length : Int) ((n.ls.getD i lt0).ma) w))) hb14⟩, iaQ rfl (zaj rfl) rfl, iaQ rfl (zaj rfl) rfl, trivial⟩
     simp only [List.drop_succ_cons, List.drop_zero]
     refine ntQ (fsQ rfl (zcv (zay (hvQ rfl (vaQ rfl rfl rfl) (enQ 1 rfl ?_)))))
     exact zck (i + 1) ⟨by omega, fun j hj => by by_cases e : j = i; (subst e; exact ⟨⟨by first | omega | exact LutP_len (by assumption), by assumption⟩, by assumption⟩); exact hql j (by omega)⟩ (by omega) (saQ rfl) (slQ [1] rfl)
    have hb14p := zew hb14
    refine zbk 24 [[], [0], [1], [2], [3], [4], [4, 5], [4], [4, 7], [4], [4, 8, 9], [4, 6, 10], [4, 11], [4, 12], [13], [14], [14, 15], [14, 16], [14], [14, 18], [14, 17, 19], [14, 20], [14, 21], [14, 22]] [45, 46, 47, 48, 49, 50, 51, 52, 53, 54, 55, 56, 57, 58, 59, 60, 61, 62, 63, 64, 65, 66, 67, 68] [.pointer (some ⟨b11, 0 + 0, none⟩), (n.ls.getD i lt0).iv, .int .i64 (((n.ls.getD i lt0).xs).length : Int), .bool false, .bool false, .pointer (some ⟨b11, 0 + 0, none⟩), (n.ls.getD i lt0).iv, .agg #[.int .i64 n.ins, n.sv, n.lv, n.ov], .int .i64 n.fst, .int .i64 (i : Int), .int .i64 (n.fst + (i : Int)), .bool true, .bool false, .bool false, .bool false, .pointer (some ⟨b11, 0 + 0, none⟩), (n.ls.getD i lt0).iv, .int .i64 (((n.ls.getD i lt0).xs).length : Int), .pointer (some ⟨b11, 0 + 1, none⟩), .int .i64 ((n.ls.getD i lt0).ma), .agg #[.int .i64 (((n.ls.getD i lt0).xs).length : Int), .int .i64 ((n.ls.getD i lt0).ma)], .bool false, .bool true, .bool true] (by kernel_rfl) rfl ?_ ?_
    ·
     exact ⟨iaQ rfl (fdQ 0 rfl rfl rfl) rfl, iaQ rfl (zag rfl rfl rfl (zad 0 rfl rfl)) rfl, iaQ rfl (lnQ rfl rfl rfl (zaa ((hr).lt.at (d := lt0) (k := i) (by omega)))) rfl, .inl ⟨rfl, zcz (zcd rfl rfl rfl rfl) hb12⟩, iaQ rfl (zaj rfl) rfl, iaQ rfl (fdQ 0 rfl rfl rfl) rfl, iaQ rfl (zag rfl rfl rfl (zad 0 rfl rfl)) rfl, iaQ rfl (zar (cs := [.int .i64 n.ins, n.sv, n.lv, n.ov]) rfl rfl rfl rfl rfl (zam 1 rfl 0 rfl)) rfl, .inl ⟨rfl, zal rfl rfl (fun w hm => zas (zeu n w (hr.below hm.bel) hsz))⟩, iaQ rfl (zaj rfl) rfl, iaQ rfl (vaQ rfl rfl rfl) rfl, .inl ⟨rfl, zfq (zal (by kernel_rfl) rfl (fun w hm => zas (zex ((n.ls.getD i lt0).xs) (n.fst + (i : Int)) _ w ((zaa ((hr).lt.at (d := lt0) (k := i) (by omega))) w hm) (by omega)))) hb13⟩, iaQ rfl (zaj rfl) rfl, iaQ rfl (zaj rfl) rfl, iaQ rfl (zaj rfl) rfl, iaQ rfl (fdQ 0 rfl rfl rfl) rfl, iaQ rfl (zag rfl rfl rfl (zad 0 rfl rfl)) rfl, iaQ rfl (lnQ rfl rfl rfl (zaa ((hr).lt.at (d := lt0) (k := i) (by omega)))) rfl, iaQ rfl (fdQ 1 rfl rfl rfl) rfl, iaQ rfl (zag rfl rfl rfl (zad 0 rfl rfl)) rfl, iaQ rfl (zda (cs := #[.int .i64 (((n.ls.getD i lt0).xs).length : Int), .int .i64 ((n.ls.getD i lt0).ma)]) rfl rfl rfl) rfl, .inl ⟨rfl, zfq (zal (by kernel_rfl) rfl (fun w hm => zas (implTabOk_ans (((n.ls.getD i lt0).xs).length : Int) ((n.ls.getD i lt0).ma) w))) hb14⟩, iaQ rfl (zaj rfl) rfl, iaQ rfl (zaj rfl) rfl, trivial⟩
    simp only [List.drop_succ_cons, List.drop_zero]
    refine ntQ (zao rfl (zbc 1 rfl ?_))
    refine zav (zak ?_)
    refine zfs ?_
    refine zak (zap ?_)
    exact zbg rfl rfl (congrArg _ (zdh (fun hp => by first | exact zdx hp.sz ‹_› | exact absurd hp.ou (by rw [← hnc]; assumption) | exact absurd (hp.sq k (by omega)).1 ‹_› | (have h9 := hp.sq k (by omega); rw [← hnc] at h9; exact absurd h9.2 ‹_›) | (rcases (hp.sq k (by omega)).1.kind with ⟨a, b, c⟩ | ⟨a, b, c⟩ <;> omega) | (have h8 := (hp.lt i (by omega)).1.1; omega) | exact absurd (hp.lt i (by omega)).1.2 ‹_› | exact absurd (hp.lt i (by omega)).2 ‹_›)).symm)
   have hb13p := zew hb13
   refine zbk 24 [[], [0], [1], [2], [3], [4], [4, 5], [4], [4, 7], [4], [4, 8, 9], [4, 6, 10], [4, 11], [4, 12], [13], [14], [14], [14], [14], [14], [14], [14], [14], [14, 22]] [45, 46, 47, 48, 49, 50, 51, 52, 53, 54, 55, 56, 57, 58, 59, 60, 61, 62, 63, 64, 65, 66, 67, 68] [.pointer (some ⟨b11, 0 + 0, none⟩), (n.ls.getD i lt0).iv, .int .i64 (((n.ls.getD i lt0).xs).length : Int), .bool false, .bool false, .pointer (some ⟨b11, 0 + 0, none⟩), (n.ls.getD i lt0).iv, .agg #[.int .i64 n.ins, n.sv, n.lv, n.ov], .int .i64 n.fst, .int .i64 (i : Int), .int .i64 (n.fst + (i : Int)), .bool false, .bool true, .bool true, .bool true, undef, undef, undef, undef, undef, undef, undef, undef, .bool true] (by kernel_rfl) rfl ?_ ?_
   ·
    exact ⟨iaQ rfl (fdQ 0 rfl rfl rfl) rfl, iaQ rfl (zag rfl rfl rfl (zad 0 rfl rfl)) rfl, iaQ rfl (lnQ rfl rfl rfl (zaa ((hr).lt.at (d := lt0) (k := i) (by omega)))) rfl, .inl ⟨rfl, zcz (zcd rfl rfl rfl rfl) hb12⟩, iaQ rfl (zaj rfl) rfl, iaQ rfl (fdQ 0 rfl rfl rfl) rfl, iaQ rfl (zag rfl rfl rfl (zad 0 rfl rfl)) rfl, iaQ rfl (zar (cs := [.int .i64 n.ins, n.sv, n.lv, n.ov]) rfl rfl rfl rfl rfl (zam 1 rfl 0 rfl)) rfl, .inl ⟨rfl, zal rfl rfl (fun w hm => zas (zeu n w (hr.below hm.bel) hsz))⟩, iaQ rfl (zaj rfl) rfl, iaQ rfl (vaQ rfl rfl rfl) rfl, .inl ⟨rfl, zfq (zal (by kernel_rfl) rfl (fun w hm => zas (zex ((n.ls.getD i lt0).xs) (n.fst + (i : Int)) _ w ((zaa ((hr).lt.at (d := lt0) (k := i) (by omega))) w hm) (by omega)))) hb13⟩, iaQ rfl (zaj rfl) rfl, iaQ rfl (zaj rfl) rfl, iaQ rfl (zaj rfl) rfl, .inr ⟨rfl, rfl⟩, .inr ⟨rfl, rfl⟩, .inr ⟨rfl, rfl⟩, .inr ⟨rfl, rfl⟩, .inr ⟨rfl, rfl⟩, .inr ⟨rfl, rfl⟩, .inr ⟨rfl, rfl⟩, .inr ⟨rfl, rfl⟩, iaQ rfl (zaj rfl) rfl, trivial⟩
   simp only [List.drop_succ_cons, List.drop_zero]
   refine ntQ (zao rfl (zbc 1 rfl ?_))
   refine zav (zak ?_)
   refine zfs ?_
   refine zak (zap ?_)
   exact zbg rfl rfl (congrArg _ (zdh (fun hp => by first | exact zdx hp.sz ‹_› | exact absurd hp.ou (by rw [← hnc]; assumption) | exact absurd (hp.sq k (by omega)).1 ‹_› | (have h9 := hp.sq k (by omega); rw [← hnc] at h9; exact absurd h9.2 ‹_›) | (rcases (hp.sq k (by omega)).1.kind with ⟨a, b, c⟩ | ⟨a, b, c⟩ <;> omega) | (have h8 := (hp.lt i (by omega)).1.1; omega) | exact absurd (hp.lt i (by omega)).1.2 ‹_› | exact absurd (hp.lt i (by omega)).2 ‹_›)).symm)
  refine ntQ (fcQ rfl ?_)
  refine zaz (zdr ?_)
  refine zaf (zax (zbc 1 rfl ?_))
  exact zav (zbg rfl rfl (congrArg _ (zef ⟨hsz, by rw [← hnc]; assumption, fun q hq => hqs q (by omega), fun q hq => hql q (by omega)⟩).symm))
 have h3p := zew h3
 refine zbb 2 rfl (zao rfl (zbc 1 rfl ?_))
 refine zav (zap ?_)
 exact zbg rfl rfl (congrArg _ (zdh (fun hp => by first | exact zdx hp.sz ‹_› | exact absurd hp.ou (by rw [← hnc]; assumption) | exact absurd (hp.sq k (by omega)).1 ‹_› | (have h9 := hp.sq k (by omega); rw [← hnc] at h9; exact absurd h9.2 ‹_›) | (rcases (hp.sq k (by omega)).1.kind with ⟨a, b, c⟩ | ⟨a, b, c⟩ <;> omega) | (have h8 := (hp.lt i (by omega)).1.1; omega) | exact absurd (hp.lt i (by omega)).1.2 ‹_› | exact absurd (hp.lt i (by omega)).2 ‹_›)).symm)
theorem specLutNetOk_ans (n : Ln) (w : World) (hr : RdsLn w n) :
   Calls Try.prog 67 #[.agg #[.int .i64 n.ins, n.sv, n.lv, n.ov]] w (Ans w (.bool (pB (LnOk n)))) := by
 have hso := sml hr.ou
 have hss := hr.sq.small
 have hsl := hr.lt.small
 have hcnt : n.cnt = 1 + n.ins + n.ss.length + n.ls.length := rfl
 have hfst : n.fst = 1 + n.ins + n.ss.length := rfl
 refine zbf (N := 99) (args := [.agg #[.int .i64 n.ins, n.sv, n.lv, n.ov]]) Try.func67 rfl rfl (srQ ?_)
 refine zdt rfl (zct rfl rfl) ?_
 intro b1
 refine zbb 1 rfl (srQ (hvQ rfl (zar (cs := [.int .i64 n.ins, n.sv, n.lv, n.ov]) rfl rfl rfl rfl rfl (zam 0 rfl 0 rfl)) ?_))
 refine zdn rfl (zal rfl rfl (fun w hm => zas (specLutNodes_ans n w (hr.below hm.bel)))) (zbb 1 rfl (zac (zac (reQ 1 rfl ?_))))
 refine zcu rfl rfl rfl rfl rfl rfl (fun h2 => ?_) (fun h2 => ?_)
 ·
  refine zbb 7 rfl (zao rfl (zac (reQ 1 rfl (?_))))
  refine ntQ ?_
  refine zav (zap ?_)
  exact zbg rfl rfl (congrArg _ (zdh (fun hp => by first | exact zdx hp.sz ‹_› | exact absurd hp.ou (by rw [← hnc]; assumption) | exact absurd (hp.sq k (by omega)).1 ‹_› | (have h9 := hp.sq k (by omega); rw [← hnc] at h9; exact absurd h9.2 ‹_›) | (rcases (hp.sq k (by omega)).1.kind with ⟨a, b, c⟩ | ⟨a, b, c⟩ <;> omega) | (have h8 := (hp.lt i (by omega)).1.1; omega) | exact absurd (hp.lt i (by omega)).1.2 ‹_› | exact absurd (hp.lt i (by omega)).2 ‹_›)).symm)
 refine zan 1 rfl ?_
 have hsz := lnN_sz (by assumption)
 have hnc := lnN_yes hsz
 obtain ⟨si, s2, s3, s4⟩ := id hsz
 refine hvQ rfl (fdQ 3 rfl rfl rfl) (hvQ rfl (zag rfl rfl rfl (zad 0 rfl rfl)) (zan 1 rfl ?_))
 refine zdn rfl (zal rfl rfl (fun w hm => zas (zer n.os (lnN n) _ w ((zaa ((hr).ou)) w hm) (by omega)))) (zbl (fun h3 => ?_) (fun h3 => ?_))
 ·
  have h3p := zgb h3
  refine zbb 2 rfl (zaq rfl (zcp (zac (zbc 1 rfl ?_))))
  refine zaw ?_
  refine lkQ1 (α := Nat) [0, 1, 2, 3, 18] rfl (fun k => [boxE b1 #[.int .i64 n.ins, n.sv, n.lv, n.ov] 28]) (fun k => [(4, .int .i64 (k : Int))]) (fun k => k ≤ n.ss.length ∧ ∀ i, i < k → SqOk (n.ss.getD i sq0) ∧ BelowP (n.ss.getD i sq0).xs n.cnt) (fun k => n.ss.length - k) 0 ⟨Nat.zero_le _, fun i hi => absurd hi (by omega)⟩ (saQ rfl) (pfQ rfl) ?_
  intro k hi4
  obtain ⟨hk, hqs⟩ := hi4
  refine zac (zac (reQ 1 rfl (hvQ rfl (fdQ 1 rfl rfl rfl) (hvQ rfl (zag rfl rfl rfl (zad 0 rfl rfl)) (hvQ rfl (lnQ rfl rfl rfl (zaa ((hr).sq.row))) ?_)))))
  refine zbh rfl rfl rfl rfl rfl rfl (fun h5 => ?_) (fun h5 => ?_)
  ·
   refine ntQ (zao rfl (zcp (sbQ (srQ (hvQ rfl (fdQ 1 rfl rfl rfl) (hvQ rfl (zag rfl rfl rfl (zad 0 rfl rfl)) (zan 1 rfl (hvQ rfl (riQ 3 rfl rfl rfl rfl (zaa ((hr).sq.row))) ?_))))))))
   refine hvQ rfl (zcl (us := [.int .i64 ((n.ss.getD k sq0).kd), .int .i64 ((n.ss.getD k sq0).it), (n.ss.getD k sq0).iv]) rfl rfl rfl rfl (zaa ((hr).sq.row)) (by omega) rfl (zde sqC 3 (fun _ => rfl) n.ss sq0 (show k < _ by omega) rfl)) (zdt rfl (zbm (z := .agg #[.int .i64 0, .int .i64 0, .slice none 0 0]) rfl rfl) ?_)
   intro b6
   refine zbr (cs' := #[.int .i64 ((n.ss.getD k sq0).kd), .int .i64 ((n.ss.getD k sq0).it), (n.ss.getD k sq0).iv]) (i := 0) (off := 0) (us := [.int .i64 ((n.ss.getD k sq0).kd), .int .i64 ((n.ss.getD k sq0).it), (n.ss.getD k sq0).iv]) rfl rfl rfl rfl rfl rfl rfl (zae rfl (zae rfl (zae (hr.sq.at (d := sq0) (k := k) (by omega)).one zbj))) rfl rfl rfl (ntQ (srQ (hvQ rfl (fdQ 0 rfl rfl rfl) (hvQ rfl (zag rfl rfl rfl (zad 0 rfl rfl)) ?_))))
   refine zcu rfl rfl rfl rfl rfl rfl (fun h7 => ?_) (fun h7 => ?_)
   ·
    refine zan 1 rfl (hvQ rfl (fdQ 1 rfl rfl rfl) (hvQ rfl (zag rfl rfl rfl (zad 0 rfl rfl)) ?_))
    refine zdn rfl (zal rfl rfl (fun w hm => zas (zen ((n.ss.getD k sq0).it) 0 1 w))) (zbl (fun h8 => ?_) (fun h8 => ?_))
    ·
     obtain ⟨h8a, h8b⟩ := (zdm _ _ _).1 h8
     refine zan 2 rfl (hvQ rfl (fdQ 2 rfl rfl rfl) (hvQ rfl (zag rfl rfl rfl (zad 0 rfl rfl)) (hvQ rfl (lnQ rfl rfl rfl (zaa ((hr).sq.at (d := sq0) (k := k) (by omega)))) ?_)))
     refine zcu rfl rfl rfl rfl rfl rfl (fun h9 => ?_) (fun h9 => ?_)
     ·
      refine zan 19 rfl (hvQ rfl (fdQ 2 rfl rfl rfl) (hvQ rfl (zag rfl rfl rfl (zad 0 rfl rfl)) (zan 1 rfl ?_)))
      refine zdn rfl (zal rfl rfl (fun w hm => zas (zer ((n.ss.getD k sq0).xs) (lnN n) _ w ((zaa ((hr).sq.at (d := sq0) (k := k) (by omega))) w hm) (by omega)))) (zbl (fun h10 => ?_) (fun h10 => ?_))
      ·
       have h10p := zgb h10
       refine zbb 2 rfl (fsQ rfl (zcv (reQ 1 rfl (hvQ rfl (vaQ rfl rfl rfl) (enQ 1 rfl ?_)))))
       exact zck (k + 1) ⟨by omega, fun i hi => by by_cases e : i = k; (subst e; exact ⟨by first | assumption | exact ⟨by omega⟩, by rw [← hnc]; assumption⟩); exact hqs i (by omega)⟩ (by omega) (saQ rfl) (slQ [1] rfl)
      have h10p := zew h10
      refine zbb 2 rfl (zao rfl (zbc 1 rfl ?_))
      refine zav (zak ?_)
      refine zfs ?_
      refine zak (zap ?_)
      exact zbg rfl rfl (congrArg _ (zdh (fun hp => by first | exact zdx hp.sz ‹_› | exact absurd hp.ou (by rw [← hnc]; assumption) | exact absurd (hp.sq k (by omega)).1 ‹_› | (have h9 := hp.sq k (by omega); rw [← hnc] at h9; exact absurd h9.2 ‹_›) | (rcases (hp.sq k (by omega)).1.kind with ⟨a, b, c⟩ | ⟨a, b, c⟩ <;> omega) | (have h8 := (hp.lt i (by omega)).1.1; omega) | exact absurd (hp.lt i (by omega)).1.2 ‹_› | exact absurd (hp.lt i (by omega)).2 ‹_›)).symm)
     refine zan 2 rfl (hvQ rfl (fdQ 0 rfl rfl rfl) (hvQ rfl (zag rfl rfl rfl (zad 0 rfl rfl)) ?_))
     refine zcu rfl rfl rfl rfl rfl rfl (fun h11 => ?_) (fun h11 => ?_)
     ·
      refine zan 1 rfl (hvQ rfl (fdQ 1 rfl rfl rfl) (hvQ rfl (zag rfl rfl rfl (zad 0 rfl rfl)) ?_))
      refine zdn rfl (zal rfl rfl (fun w hm => zas (zen ((n.ss.getD k sq0).it) 0 31 w))) (zbl (fun h12 => ?_) (fun h12 => ?_))
      ·
       obtain ⟨h12a, h12b⟩ := (zdm _ _ _).1 h12
       refine zan 2 rfl (hvQ rfl (fdQ 2 rfl rfl rfl) (hvQ rfl (zag rfl rfl rfl (zad 0 rfl rfl)) (hvQ rfl (lnQ rfl rfl rfl (zaa ((hr).sq.at (d := sq0) (k := k) (by omega)))) ?_)))
       refine zcu rfl rfl rfl rfl rfl rfl (fun h13 => ?_) (fun h13 => ?_)
       ·
        refine zan 4 rfl (hvQ rfl (fdQ 2 rfl rfl rfl) (hvQ rfl (zag rfl rfl rfl (zad 0 rfl rfl)) (zan 1 rfl ?_)))
        refine zdn rfl (zal rfl rfl (fun w hm => zas (zer ((n.ss.getD k sq0).xs) (lnN n) _ w ((zaa ((hr).sq.at (d := sq0) (k := k) (by omega))) w hm) (by omega)))) (zbl (fun h14 => ?_) (fun h14 => ?_))
        ·
         have h14p := zgb h14
         refine zbb 2 rfl (fsQ rfl (zcv (reQ 1 rfl (hvQ rfl (vaQ rfl rfl rfl) (enQ 1 rfl ?_)))))
         exact zck (k + 1) ⟨by omega, fun i hi => by by_cases e : i = k; (subst e; exact ⟨by first | assumption | exact ⟨by omega⟩, by rw [← hnc]; assumption⟩); exact hqs i (by omega)⟩ (by omega) (saQ rfl) (slQ [1] rfl)
        have h14p := zew h14
        refine zbb 2 rfl (zao rfl (zbc 1 rfl ?_))
        refine zav (zak ?_)
        refine zfs ?_
        refine zak (zap ?_)
        exact zbg rfl rfl (congrArg _ (zdh (fun hp => by first | exact zdx hp.sz ‹_› | exact absurd hp.ou (by rw [← hnc]; assumption) | exact absurd (hp.sq k (by omega)).1 ‹_› | (have h9 := hp.sq k (by omega); rw [← hnc] at h9; exact absurd h9.2 ‹_›) | (rcases (hp.sq k (by omega)).1.kind with ⟨a, b, c⟩ | ⟨a, b, c⟩ <;> omega) | (have h8 := (hp.lt i (by omega)).1.1; omega) | exact absurd (hp.lt i (by omega)).1.2 ‹_› | exact absurd (hp.lt i (by omega)).2 ‹_›)).symm)
       refine zbb 10 rfl (zao rfl (zac (reQ 1 rfl (?_))))
       refine ntQ ?_
       refine zav (zak ?_)
       refine zfs ?_
       refine zak (zap ?_)
       exact zbg rfl rfl (congrArg _ (zdh (fun hp => by first | exact zdx hp.sz ‹_› | exact absurd hp.ou (by rw [← hnc]; assumption) | exact absurd (hp.sq k (by omega)).1 ‹_› | (have h9 := hp.sq k (by omega); rw [← hnc] at h9; exact absurd h9.2 ‹_›) | (rcases (hp.sq k (by omega)).1.kind with ⟨a, b, c⟩ | ⟨a, b, c⟩ <;> omega) | (have h8 := (hp.lt i (by omega)).1.1; omega) | exact absurd (hp.lt i (by omega)).1.2 ‹_› | exact absurd (hp.lt i (by omega)).2 ‹_›)).symm)
      have h12a := zdy h12
      refine zbb 16 rfl ?_
      refine zao rfl (zbc 1 rfl ?_)
      refine zav (zak ?_)
      refine zfs ?_
      refine zak (zap ?_)
      exact zbg rfl rfl (congrArg _ (zdh (fun hp => by first | exact zdx hp.sz ‹_› | exact absurd hp.ou (by rw [← hnc]; assumption) | exact absurd (hp.sq k (by omega)).1 ‹_› | (have h9 := hp.sq k (by omega); rw [← hnc] at h9; exact absurd h9.2 ‹_›) | (rcases (hp.sq k (by omega)).1.kind with ⟨a, b, c⟩ | ⟨a, b, c⟩ <;> omega) | (have h8 := (hp.lt i (by omega)).1.1; omega) | exact absurd (hp.lt i (by omega)).1.2 ‹_› | exact absurd (hp.lt i (by omega)).2 ‹_›)).symm)
     refine zbb 20 rfl (zao rfl (zbc 1 rfl ?_))
     refine zav (zak ?_)
     refine zfs ?_
     refine zak (zap ?_)
     exact zbg rfl rfl (congrArg _ (zdh (fun hp => by first | exact zdx hp.sz ‹_› | exact absurd hp.ou (by rw [← hnc]; assumption) | exact absurd (hp.sq k (by omega)).1 ‹_› | (have h9 := hp.sq k (by omega); rw [← hnc] at h9; exact absurd h9.2 ‹_›) | (rcases (hp.sq k (by omega)).1.kind with ⟨a, b, c⟩ | ⟨a, b, c⟩ <;> omega) | (have h8 := (hp.lt i (by omega)).1.1; omega) | exact absurd (hp.lt i (by omega)).1.2 ‹_› | exact absurd (hp.lt i (by omega)).2 ‹_›)).symm)
    have h8a := zdy h8
    refine zan 8 rfl (hvQ rfl (fdQ 0 rfl rfl rfl) (hvQ rfl (zag rfl rfl rfl (zad 0 rfl rfl)) ?_))
    refine zcu rfl rfl rfl rfl rfl rfl (fun h15 => ?_) (fun h15 => ?_)
    ·
     refine zan 1 rfl (hvQ rfl (fdQ 1 rfl rfl rfl) (hvQ rfl (zag rfl rfl rfl (zad 0 rfl rfl)) ?_))
     refine zdn rfl (zal rfl rfl (fun w hm => zas (zen ((n.ss.getD k sq0).it) 0 31 w))) (zbl (fun h16 => ?_) (fun h16 => ?_))
     ·
      obtain ⟨h16a, h16b⟩ := (zdm _ _ _).1 h16
      refine zan 2 rfl (hvQ rfl (fdQ 2 rfl rfl rfl) (hvQ rfl (zag rfl rfl rfl (zad 0 rfl rfl)) (hvQ rfl (lnQ rfl rfl rfl (zaa ((hr).sq.at (d := sq0) (k := k) (by omega)))) ?_)))
      refine zcu rfl rfl rfl rfl rfl rfl (fun h17 => ?_) (fun h17 => ?_)
      ·
       refine zan 4 rfl (hvQ rfl (fdQ 2 rfl rfl rfl) (hvQ rfl (zag rfl rfl rfl (zad 0 rfl rfl)) (zan 1 rfl ?_)))
       refine zdn rfl (zal rfl rfl (fun w hm => zas (zer ((n.ss.getD k sq0).xs) (lnN n) _ w ((zaa ((hr).sq.at (d := sq0) (k := k) (by omega))) w hm) (by omega)))) (zbl (fun h18 => ?_) (fun h18 => ?_))
       ·
        have h18p := zgb h18
        refine zbb 2 rfl (fsQ rfl (zcv (reQ 1 rfl (hvQ rfl (vaQ rfl rfl rfl) (enQ 1 rfl ?_)))))
        exact zck (k + 1) ⟨by omega, fun i hi => by by_cases e : i = k; (subst e; exact ⟨by first | assumption | exact ⟨by omega⟩, by rw [← hnc]; assumption⟩); exact hqs i (by omega)⟩ (by omega) (saQ rfl) (slQ [1] rfl)
       have h18p := zew h18
       refine zbb 2 rfl (zao rfl (zbc 1 rfl ?_))
       refine zav (zak ?_)
       refine zfs ?_
       refine zak (zap ?_)
       exact zbg rfl rfl (congrArg _ (zdh (fun hp => by first | exact zdx hp.sz ‹_› | exact absurd hp.ou (by rw [← hnc]; assumption) | exact absurd (hp.sq k (by omega)).1 ‹_› | (have h9 := hp.sq k (by omega); rw [← hnc] at h9; exact absurd h9.2 ‹_›) | (rcases (hp.sq k (by omega)).1.kind with ⟨a, b, c⟩ | ⟨a, b, c⟩ <;> omega) | (have h8 := (hp.lt i (by omega)).1.1; omega) | exact absurd (hp.lt i (by omega)).1.2 ‹_› | exact absurd (hp.lt i (by omega)).2 ‹_›)).symm)
      refine zbb 10 rfl (zao rfl (zac (reQ 1 rfl (?_))))
      refine ntQ ?_
      refine zav (zak ?_)
      refine zfs ?_
      refine zak (zap ?_)
      exact zbg rfl rfl (congrArg _ (zdh (fun hp => by first | exact zdx hp.sz ‹_› | exact absurd hp.ou (by rw [← hnc]; assumption) | exact absurd (hp.sq k (by omega)).1 ‹_› | (have h9 := hp.sq k (by omega); rw [← hnc] at h9; exact absurd h9.2 ‹_›) | (rcases (hp.sq k (by omega)).1.kind with ⟨a, b, c⟩ | ⟨a, b, c⟩ <;> omega) | (have h8 := (hp.lt i (by omega)).1.1; omega) | exact absurd (hp.lt i (by omega)).1.2 ‹_› | exact absurd (hp.lt i (by omega)).2 ‹_›)).symm)
     have h16a := zdy h16
     refine zbb 16 rfl ?_
     refine zao rfl (zbc 1 rfl ?_)
     refine zav (zak ?_)
     refine zfs ?_
     refine zak (zap ?_)
     exact zbg rfl rfl (congrArg _ (zdh (fun hp => by first | exact zdx hp.sz ‹_› | exact absurd hp.ou (by rw [← hnc]; assumption) | exact absurd (hp.sq k (by omega)).1 ‹_› | (have h9 := hp.sq k (by omega); rw [← hnc] at h9; exact absurd h9.2 ‹_›) | (rcases (hp.sq k (by omega)).1.kind with ⟨a, b, c⟩ | ⟨a, b, c⟩ <;> omega) | (have h8 := (hp.lt i (by omega)).1.1; omega) | exact absurd (hp.lt i (by omega)).1.2 ‹_› | exact absurd (hp.lt i (by omega)).2 ‹_›)).symm)
    refine zbb 20 rfl (zao rfl (zbc 1 rfl ?_))
    refine zav (zak ?_)
    refine zfs ?_
    refine zak (zap ?_)
    exact zbg rfl rfl (congrArg _ (zdh (fun hp => by first | exact zdx hp.sz ‹_› | exact absurd hp.ou (by rw [← hnc]; assumption) | exact absurd (hp.sq k (by omega)).1 ‹_› | (have h9 := hp.sq k (by omega); rw [← hnc] at h9; exact absurd h9.2 ‹_›) | (rcases (hp.sq k (by omega)).1.kind with ⟨a, b, c⟩ | ⟨a, b, c⟩ <;> omega) | (have h8 := (hp.lt i (by omega)).1.1; omega) | exact absurd (hp.lt i (by omega)).1.2 ‹_› | exact absurd (hp.lt i (by omega)).2 ‹_›)).symm)
   refine zan 12 rfl (hvQ rfl (fdQ 0 rfl rfl rfl) (hvQ rfl (zag rfl rfl rfl (zad 0 rfl rfl)) ?_))
   refine zcu rfl rfl rfl rfl rfl rfl (fun h19 => ?_) (fun h19 => ?_)
   ·
    refine zan 1 rfl (hvQ rfl (fdQ 1 rfl rfl rfl) (hvQ rfl (zag rfl rfl rfl (zad 0 rfl rfl)) ?_))
    refine zdn rfl (zal rfl rfl (fun w hm => zas (zen ((n.ss.getD k sq0).it) 0 31 w))) (zbl (fun h20 => ?_) (fun h20 => ?_))
    ·
     obtain ⟨h20a, h20b⟩ := (zdm _ _ _).1 h20
     refine zan 2 rfl (hvQ rfl (fdQ 2 rfl rfl rfl) (hvQ rfl (zag rfl rfl rfl (zad 0 rfl rfl)) (hvQ rfl (lnQ rfl rfl rfl (zaa ((hr).sq.at (d := sq0) (k := k) (by omega)))) ?_)))
     refine zcu rfl rfl rfl rfl rfl rfl (fun h21 => ?_) (fun h21 => ?_)
     ·
      refine zan 4 rfl (hvQ rfl (fdQ 2 rfl rfl rfl) (hvQ rfl (zag rfl rfl rfl (zad 0 rfl rfl)) (zan 1 rfl ?_)))
      refine zdn rfl (zal rfl rfl (fun w hm => zas (zer ((n.ss.getD k sq0).xs) (lnN n) _ w ((zaa ((hr).sq.at (d := sq0) (k := k) (by omega))) w hm) (by omega)))) (zbl (fun h22 => ?_) (fun h22 => ?_))
      ·
       have h22p := zgb h22
       refine zbb 2 rfl (fsQ rfl (zcv (reQ 1 rfl (hvQ rfl (vaQ rfl rfl rfl) (enQ 1 rfl ?_)))))
       exact zck (k + 1) ⟨by omega, fun i hi => by by_cases e : i = k; (subst e; exact ⟨by first | assumption | exact ⟨by omega⟩, by rw [← hnc]; assumption⟩); exact hqs i (by omega)⟩ (by omega) (saQ rfl) (slQ [1] rfl)
      have h22p := zew h22
      refine zbb 2 rfl (zao rfl (zbc 1 rfl ?_))
      refine zav (zak ?_)
      refine zfs ?_
      refine zak (zap ?_)
      exact zbg rfl rfl (congrArg _ (zdh (fun hp => by first | exact zdx hp.sz ‹_› | exact absurd hp.ou (by rw [← hnc]; assumption) | exact absurd (hp.sq k (by omega)).1 ‹_› | (have h9 := hp.sq k (by omega); rw [← hnc] at h9; exact absurd h9.2 ‹_›) | (rcases (hp.sq k (by omega)).1.kind with ⟨a, b, c⟩ | ⟨a, b, c⟩ <;> omega) | (have h8 := (hp.lt i (by omega)).1.1; omega) | exact absurd (hp.lt i (by omega)).1.2 ‹_› | exact absurd (hp.lt i (by omega)).2 ‹_›)).symm)
     refine zbb 10 rfl (zao rfl (zac (reQ 1 rfl (?_))))
     refine ntQ ?_
     refine zav (zak ?_)
     refine zfs ?_
     refine zak (zap ?_)
     exact zbg rfl rfl (congrArg _ (zdh (fun hp => by first | exact zdx hp.sz ‹_› | exact absurd hp.ou (by rw [← hnc]; assumption) | exact absurd (hp.sq k (by omega)).1 ‹_› | (have h9 := hp.sq k (by omega); rw [← hnc] at h9; exact absurd h9.2 ‹_›) | (rcases (hp.sq k (by omega)).1.kind with ⟨a, b, c⟩ | ⟨a, b, c⟩ <;> omega) | (have h8 := (hp.lt i (by omega)).1.1; omega) | exact absurd (hp.lt i (by omega)).1.2 ‹_› | exact absurd (hp.lt i (by omega)).2 ‹_›)).symm)
    have h20a := zdy h20
    refine zbb 16 rfl ?_
    refine zao rfl (zbc 1 rfl ?_)
    refine zav (zak ?_)
    refine zfs ?_
    refine zak (zap ?_)
    exact zbg rfl rfl (congrArg _ (zdh (fun hp => by first | exact zdx hp.sz ‹_› | exact absurd hp.ou (by rw [← hnc]; assumption) | exact absurd (hp.sq k (by omega)).1 ‹_› | (have h9 := hp.sq k (by omega); rw [← hnc] at h9; exact absurd h9.2 ‹_›) | (rcases (hp.sq k (by omega)).1.kind with ⟨a, b, c⟩ | ⟨a, b, c⟩ <;> omega) | (have h8 := (hp.lt i (by omega)).1.1; omega) | exact absurd (hp.lt i (by omega)).1.2 ‹_› | exact absurd (hp.lt i (by omega)).2 ‹_›)).symm)
   refine zbb 20 rfl (zao rfl (zbc 1 rfl ?_))
   refine zav (zak ?_)
   refine zfs ?_
   refine zak (zap ?_)
   exact zbg rfl rfl (congrArg _ (zdh (fun hp => by first | exact zdx hp.sz ‹_› | exact absurd hp.ou (by rw [← hnc]; assumption) | exact absurd (hp.sq k (by omega)).1 ‹_› | (have h9 := hp.sq k (by omega); rw [← hnc] at h9; exact absurd h9.2 ‹_›) | (rcases (hp.sq k (by omega)).1.kind with ⟨a, b, c⟩ | ⟨a, b, c⟩ <;> omega) | (have h8 := (hp.lt i (by omega)).1.1; omega) | exact absurd (hp.lt i (by omega)).1.2 ‹_› | exact absurd (hp.lt i (by omega)).2 ‹_›)).symm)
  refine ntQ (zaq rfl ?_)
  refine zaz (zdr ?_)
  refine zaf (zax (zac (zbc 1 rfl (zaw ?_))))
  refine lkQ1 (α := Nat) [0, 1, 2, 3, 18, 23] rfl (fun i => [boxE b1 #[.int .i64 n.ins, n.sv, n.lv, n.ov] 28]) (fun i => [(6, .int .i64 (i : Int))]) (fun i => i ≤ n.ls.length ∧ ∀ j, j < i → LutP (n.fst + j) (n.ls.getD j lt0)) (fun i => n.ls.length - i) 0 ⟨Nat.zero_le _, fun i hi => absurd hi (by omega)⟩ (saQ rfl) (pfQ rfl) ?_
  intro i hi23
  obtain ⟨hi, hql⟩ := hi23
  refine zac (zac (reQ 1 rfl (hvQ rfl (fdQ 2 rfl rfl rfl) (hvQ rfl (zag rfl rfl rfl (zad 0 rfl rfl)) (hvQ rfl (lnQ rfl rfl rfl (zaa ((hr).lt.row))) ?_)))))
  refine zbh rfl rfl rfl rfl rfl rfl (fun h24 => ?_) (fun h24 => ?_)
  ·
   refine ntQ (zao rfl (zcp (sbQ (srQ (hvQ rfl (fdQ 2 rfl rfl rfl) (hvQ rfl (zag rfl rfl rfl (zad 0 rfl rfl)) (zan 1 rfl (hvQ rfl (riQ 2 rfl rfl rfl rfl (zaa ((hr).lt.row))) ?_))))))))
   refine hvQ rfl (zcl (us := [(n.ls.getD i lt0).iv, .int .i64 ((n.ls.getD i lt0).ma)]) rfl rfl rfl rfl (zaa ((hr).lt.row)) (by omega) rfl (zde ltC 2 (fun _ => rfl) n.ls lt0 (show i < _ by omega) rfl)) (zdt rfl (zbm (z := .agg #[.slice none 0 0, .int .i64 0]) rfl rfl) ?_)
   intro b25
   refine zbr (cs' := #[(n.ls.getD i lt0).iv, .int .i64 ((n.ls.getD i lt0).ma)]) (i := 0) (off := 0) (us := [(n.ls.getD i lt0).iv, .int .i64 ((n.ls.getD i lt0).ma)]) rfl rfl rfl rfl rfl rfl rfl (zae (hr.lt.at (d := lt0) (k := i) (by omega)).one (zae rfl zbj)) rfl rfl rfl (ntQ (zac ?_))
   rcases Bool.eq_false_or_eq_true (pB (TabP (((n.ls.getD i lt0).xs).length : Int) ((n.ls.getD i lt0).ma))) with hb26 | hb26
   ·
    have hb26p := zgb hb26
    rcases Bool.eq_false_or_eq_true (pB (BelowP ((n.ls.getD i lt0).xs) (n.fst + (i : Int)))) with hb27 | hb27
    ·
     have hb27p := zgb hb27
     refine zbk 18 [[], [0], [1], [], [3], [2, 4], [5], [6], [7], [8], [8, 9], [8], [8, 11], [8], [8, 12, 13], [8, 10, 14], [8, 15], [8, 16]] [81, 82, 83, 84, 85, 86, 87, 88, 89, 90, 91, 92, 93, 94, 95, 96, 97, 98] [.pointer (some ⟨b25, 0 + 0, none⟩), (n.ls.getD i lt0).iv, .int .i64 (((n.ls.getD i lt0).xs).length : Int), .pointer (some ⟨b25, 0 + 1, none⟩), .int .i64 ((n.ls.getD i lt0).ma), .agg #[.int .i64 (((n.ls.getD i lt0).xs).length : Int), .int .i64 ((n.ls.getD i lt0).ma)], .bool true, .bool false, .bool false, .pointer (some ⟨b25, 0 + 0, none⟩), (n.ls.getD i lt0).iv, .agg #[.int .i64 n.ins, n.sv, n.lv, n.ov], .int .i64 n.fst, .int .i64 (i : Int), .int .i64 (n.fst + (i : Int)), .bool true, .bool false, .bool false] (by kernel_rfl) rfl ?_ ?_
     ·
      exact ⟨iaQ rfl (fdQ 0 rfl rfl rfl) rfl, iaQ rfl (zag rfl rfl rfl (zad 0 rfl rfl)) rfl, iaQ rfl (lnQ rfl rfl rfl (zaa ((hr).lt.at (d := lt0) (k := i) (by omega)))) rfl, iaQ rfl (fdQ 1 rfl rfl rfl) rfl, iaQ rfl (zag rfl rfl rfl (zad 0 rfl rfl)) rfl, iaQ rfl (zda (cs := #[.int .i64 (((n.ls.getD i lt0).xs).length : Int), .int .i64 ((n.ls.getD i lt0).ma)]) rfl rfl rfl) rfl, .inl ⟨rfl, zfq (zal (by kernel_rfl) rfl (fun w hm => zas (zgq (((n.ls.getD i lt0).xs).length : Int) ((n.ls.getD i lt0).ma) w))) hb26⟩, iaQ rfl (zaj rfl) rfl, iaQ rfl (zaj rfl) rfl, iaQ rfl (fdQ 0 rfl rfl rfl) rfl, iaQ rfl (zag rfl rfl rfl (zad 0 rfl rfl)) rfl, iaQ rfl (zar (cs := [.int .i64 n.ins, n.sv, n.lv, n.ov]) rfl rfl rfl rfl rfl (zam 1 rfl 0 rfl)) rfl, .inl ⟨rfl, zal rfl rfl (fun w hm => zas (zfn n w (hr.below hm.bel) hsz))⟩, iaQ rfl (zaj rfl) rfl, iaQ rfl (vaQ rfl rfl rfl) rfl, .inl ⟨rfl, zfq (zal (by kernel_rfl) rfl (fun w hm => zas (zer ((n.ls.getD i lt0).xs) (n.fst + (i : Int)) _ w ((zaa ((hr).lt.at (d := lt0) (k := i) (by omega))) w hm) (by omega)))) hb27⟩, iaQ rfl (zaj rfl) rfl, iaQ rfl (zaj rfl) rfl, trivial⟩
     simp only [List.drop_succ_cons, List.drop_zero]
     refine ntQ (fsQ rfl (zcv (reQ 1 rfl (hvQ rfl (vaQ rfl rfl rfl) (enQ 1 rfl ?_)))))
     exact zck (i + 1) ⟨by omega, fun j hj => by by_cases e : j = i; (subst e; exact ⟨⟨by first | omega | exact LutP_len (by assumption), by assumption⟩, by assumption⟩); exact hql j (by omega)⟩ (by omega) (saQ rfl) (slQ [1] rfl)
    have hb27p := zew hb27
    refine zbk 18 [[], [0], [1], [], [3], [2, 4], [5], [6], [7], [8], [8, 9], [8], [8, 11], [8], [8, 12, 13], [8, 10, 14], [8, 15], [8, 16]] [81, 82, 83, 84, 85, 86, 87, 88, 89, 90, 91, 92, 93, 94, 95, 96, 97, 98] [.pointer (some ⟨b25, 0 + 0, none⟩), (n.ls.getD i lt0).iv, .int .i64 (((n.ls.getD i lt0).xs).length : Int), .pointer (some ⟨b25, 0 + 1, none⟩), .int .i64 ((n.ls.getD i lt0).ma), .agg #[.int .i64 (((n.ls.getD i lt0).xs).length : Int), .int .i64 ((n.ls.getD i lt0).ma)], .bool true, .bool false, .bool false, .pointer (some ⟨b25, 0 + 0, none⟩), (n.ls.getD i lt0).iv, .agg #[.int .i64 n.ins, n.sv, n.lv, n.ov], .int .i64 n.fst, .int .i64 (i : Int), .int .i64 (n.fst + (i : Int)), .bool false, .bool true, .bool true] (by kernel_rfl) rfl ?_ ?_
    ·
     exact ⟨iaQ rfl (fdQ 0 rfl rfl rfl) rfl, iaQ rfl (zag rfl rfl rfl (zad 0 rfl rfl)) rfl, iaQ rfl (lnQ rfl rfl rfl (zaa ((hr).lt.at (d := lt0) (k := i) (by omega)))) rfl, iaQ rfl (fdQ 1 rfl rfl rfl) rfl, iaQ rfl (zag rfl rfl rfl (zad 0 rfl rfl)) rfl, iaQ rfl (zda (cs := #[.int .i64 (((n.ls.getD i lt0).xs).length : Int), .int .i64 ((n.ls.getD i lt0).ma)]) rfl rfl rfl) rfl, .inl ⟨rfl, zfq (zal (by kernel_rfl) rfl (fun w hm => zas (zgq (((n.ls.getD i lt0).xs).length : Int) ((n.ls.getD i lt0).ma) w))) hb26⟩, iaQ rfl (zaj rfl) rfl, iaQ rfl (zaj rfl) rfl, iaQ rfl (fdQ 0 rfl rfl rfl) rfl, iaQ rfl (zag rfl rfl rfl (zad 0 rfl rfl)) rfl, iaQ rfl (zar (cs := [.int .i64 n.ins, n.sv, n.lv, n.ov]) rfl rfl rfl rfl rfl (zam 1 rfl 0 rfl)) rfl, .inl ⟨rfl, zal rfl rfl (fun w hm => zas (zfn n w (hr.below hm.bel) hsz))⟩, iaQ rfl (zaj rfl) rfl, iaQ rfl (vaQ rfl rfl rfl) rfl, .inl ⟨rfl, zfq (zal (by kernel_rfl) rfl (fun w hm => zas (zer ((n.ls.getD i lt0).xs) (n.fst + (i : Int)) _ w ((zaa ((hr).lt.at (d := lt0) (k := i) (by omega))) w hm) (by omega)))) hb27⟩, iaQ rfl (zaj rfl) rfl, iaQ rfl (zaj rfl) rfl, trivial⟩
    simp only [List.drop_succ_cons, List.drop_zero]
    refine ntQ (zao rfl (zbc 1 rfl ?_))
    refine zav (zak ?_)
    refine zfs ?_
    refine zak (zap ?_)
    exact zbg rfl rfl (congrArg _ (zdh (fun hp => by first | exact zdx hp.sz ‹_› | exact absurd hp.ou (by rw [← hnc]; assumption) | exact absurd (hp.sq k (by omega)).1 ‹_› | (have h9 := hp.sq k (by omega); rw [← hnc] at h9; exact absurd h9.2 ‹_›) | (rcases (hp.sq k (by omega)).1.kind with ⟨a, b, c⟩ | ⟨a, b, c⟩ <;> omega) | (have h8 := (hp.lt i (by omega)).1.1; omega) | exact absurd (hp.lt i (by omega)).1.2 ‹_› | exact absurd (hp.lt i (by omega)).2 ‹_›)).symm)
   have hb26p := zew hb26
   refine zbk 18 [[], [0], [1], [], [3], [2, 4], [5], [6], [7], [8], [8], [8], [8], [8], [8], [8], [8], [8, 16]] [81, 82, 83, 84, 85, 86, 87, 88, 89, 90, 91, 92, 93, 94, 95, 96, 97, 98] [.pointer (some ⟨b25, 0 + 0, none⟩), (n.ls.getD i lt0).iv, .int .i64 (((n.ls.getD i lt0).xs).length : Int), .pointer (some ⟨b25, 0 + 1, none⟩), .int .i64 ((n.ls.getD i lt0).ma), .agg #[.int .i64 (((n.ls.getD i lt0).xs).length : Int), .int .i64 ((n.ls.getD i lt0).ma)], .bool false, .bool true, .bool true, undef, undef, undef, undef, undef, undef, undef, undef, .bool true] (by kernel_rfl) rfl ?_ ?_
   ·
    exact ⟨iaQ rfl (fdQ 0 rfl rfl rfl) rfl, iaQ rfl (zag rfl rfl rfl (zad 0 rfl rfl)) rfl, iaQ rfl (lnQ rfl rfl rfl (zaa ((hr).lt.at (d := lt0) (k := i) (by omega)))) rfl, iaQ rfl (fdQ 1 rfl rfl rfl) rfl, iaQ rfl (zag rfl rfl rfl (zad 0 rfl rfl)) rfl, iaQ rfl (zda (cs := #[.int .i64 (((n.ls.getD i lt0).xs).length : Int), .int .i64 ((n.ls.getD i lt0).ma)]) rfl rfl rfl) rfl, .inl ⟨rfl, zfq (zal (by kernel_rfl) rfl (fun w hm => zas (zgq (((n.ls.getD i lt0).xs).length : Int) ((n.ls.getD i lt0).ma) w))) hb26⟩, iaQ rfl (zaj rfl) rfl, iaQ rfl (zaj rfl) rfl, .inr ⟨rfl, rfl⟩, .inr ⟨rfl, rfl⟩, .inr ⟨rfl, rfl⟩, .inr ⟨rfl, rfl⟩, .inr ⟨rfl, rfl⟩, .inr ⟨rfl, rfl⟩, .inr ⟨rfl, rfl⟩, .inr ⟨rfl, rfl⟩, iaQ rfl (zaj rfl) rfl, trivial⟩
   simp only [List.drop_succ_cons, List.drop_zero]
   refine ntQ (zao rfl (zbc 1 rfl ?_))
   refine zav (zak ?_)
   refine zfs ?_
   refine zak (zap ?_)
   exact zbg rfl rfl (congrArg _ (zdh (fun hp => by first | exact zdx hp.sz ‹_› | exact absurd hp.ou (by rw [← hnc]; assumption) | exact absurd (hp.sq k (by omega)).1 ‹_› | (have h9 := hp.sq k (by omega); rw [← hnc] at h9; exact absurd h9.2 ‹_›) | (rcases (hp.sq k (by omega)).1.kind with ⟨a, b, c⟩ | ⟨a, b, c⟩ <;> omega) | (have h8 := (hp.lt i (by omega)).1.1; omega) | exact absurd (hp.lt i (by omega)).1.2 ‹_› | exact absurd (hp.lt i (by omega)).2 ‹_›)).symm)
  refine ntQ (zaq rfl ?_)
  refine zaz (zdr ?_)
  refine zaf (zax (zbc 1 rfl ?_))
  exact zav (zbg rfl rfl (congrArg _ (zef ⟨hsz, by rw [← hnc]; assumption, fun q hq => hqs q (by omega), fun q hq => hql q (by omega)⟩).symm))
 have h3p := zew h3
 refine zbb 2 rfl (zao rfl (zbc 1 rfl ?_))
 refine zav (zap ?_)
 exact zbg rfl rfl (congrArg _ (zdh (fun hp => by first | exact zdx hp.sz ‹_› | exact absurd hp.ou (by rw [← hnc]; assumption) | exact absurd (hp.sq k (by omega)).1 ‹_› | (have h9 := hp.sq k (by omega); rw [← hnc] at h9; exact absurd h9.2 ‹_›) | (rcases (hp.sq k (by omega)).1.kind with ⟨a, b, c⟩ | ⟨a, b, c⟩ <;> omega) | (have h8 := (hp.lt i (by omega)).1.1; omega) | exact absurd (hp.lt i (by omega)).1.2 ‹_› | exact absurd (hp.lt i (by omega)).2 ‹_›)).symm)
open Go.RowKit
theorem andNot_smallT {v : Int} (h0 : 0 ≤ v) (h1 : v ≤ 31) : bits .andNot .i64 v 1 = v - v % 2 := by
  have key : ∀ m : Fin 32, bits .andNot .i64 ((m.val : Nat) : Int) 1 = ((m.val : Nat) : Int) - ((m.val : Nat) : Int) % 2 := by decide
  have := key ⟨v.toNat, by omega⟩
  rw [show (((⟨v.toNat, by omega⟩ : Fin 32).val : Nat) : Int) = v by show ((v.toNat : Nat) : Int) = v; omega] at this
  exact this
theorem stR_iff {kd x : Int} (h : kd = 0 ∨ kd = 1) : (0 ≤ x ∧ x ≤ (if kd = 0 then 1 else 31)) ↔ StR kd x := by
  unfold StR
  rcases h with rfl | rfl <;> simp <;> omega
noncomputable def snx0 (kd v : Int) : Int := if pB (StR kd v) = true then (if kd = 0 then 0 else v - v % 2 + v / 2 % 2) else -1
theorem zgr {kd v : Int} (hk : kd = 0 ∨ kd = 1) : 0 ≤ snx0 kd v ↔ StR kd v := by
  unfold snx0
  by_cases h : StR kd v
  · rw [if_pos (zef h)]
    have := h; unfold StR at this
    refine ⟨fun _ => h, fun _ => ?_⟩
    split <;> omega
  · rw [zdh h]
    exact ⟨fun h9 => absurd (show (0 : Int) ≤ -1 from h9) (by decide), fun h9 => absurd h9 h⟩
theorem seqMostT_ans (kd : Int) (w : World) (h : kd = 0 ∨ kd = 1) :
   Calls Try.prog 41 #[.int .i64 kd] w (Ans w (.int .i64 (if kd = 0 then 1 else 31))) := by
 refine zbf (N := 8) (args := [.int .i64 kd]) Try.func41 rfl rfl (zbc 1 rfl (zac (zbc 1 rfl ?_)))
 refine zaw (srQ ?_)
 refine zcu rfl rfl rfl rfl rfl rfl (fun h1 => ?_) (fun h1 => ?_)
 ·
  refine zbb 1 rfl (zao rfl (zbc 1 rfl ?_))
  refine zav (zak ?_)
  exact zap (zbg rfl rfl (by rw [if_pos (by omega)]))
 refine zbb 1 rfl (zaq rfl (srQ ?_))
 refine zcu rfl rfl rfl rfl rfl rfl (fun h2 => ?_) (fun h2 => ?_)
 ·
  refine zbb 1 rfl (zao rfl (zbc 1 rfl ?_))
  refine zav (zak ?_)
  exact zap (zbg rfl rfl (by rw [if_neg (by omega)]))
 refine zbb 1 rfl (fsQ rfl (zcv (zbc 1 rfl ?_)))
 refine zav ?_
 exfalso
 omega
theorem zge (n : Ln) (st : List Int) (v : Value) (w : World) (hr : RdsLn w n) (hst : RdsW w v 1 st.length (st.map (Value.int .i64))) :
   Calls Try.prog 15 #[.agg #[.int .i64 n.ins, n.sv, n.lv, n.ov], v] w (Ans w (.bool (pB (StAll n st)))) := by
 have hso := sml hr.ou
 have hss := hr.sq.small
 have hsl := hr.lt.small
 have hcnt : n.cnt = 1 + n.ins + n.ss.length + n.ls.length := rfl
 have hfst : n.fst = 1 + n.ins + n.ss.length := rfl
 have hst9 := sml hst
 refine zbf (N := 36) (args := [.agg #[.int .i64 n.ins, n.sv, n.lv, n.ov], v]) Try.func15 rfl rfl (srQ ?_)
 refine zdt rfl (zct rfl rfl) ?_
 intro b1
 refine zbb 1 rfl (zfl (hvQ rfl (zar (cs := [.int .i64 n.ins, n.sv, n.lv, n.ov]) rfl rfl rfl rfl rfl (zam 0 rfl 0 rfl)) ?_))
 refine zdn rfl (zal rfl rfl (fun w hm => zas (implLutNetOk_ans n w (hr.below hm.bel)))) (zbl (fun h2 => ?_) (fun h2 => ?_))
 ·
  have hokp := zgb h2
  refine zan 3 rfl (hvQ rfl (lnQ rfl rfl rfl (zaa hst)) (hvQ rfl (fdQ 1 rfl rfl rfl) (hvQ rfl (zag rfl rfl rfl (zad 0 rfl rfl)) (hvQ rfl (lnQ rfl rfl rfl (zaa ((hr).sq.row))) ?_))))
  refine hl_neq rfl rfl rfl rfl rfl rfl (fun h3 => ?_) (fun h3 => ?_)
  ·
   refine zbb 1 rfl (zao rfl (zbc 1 rfl ?_))
   refine zav (zap ?_)
   exact zbg rfl rfl (congrArg _ (zdh (fun hp => by first | (exact absurd hp.ok (by assumption)) | (have h9 := hp.sp.len; omega) | (exact absurd ((stR_iff hks).2 (hp.sp.rng k (by omega))) (by assumption)) | (have h9 := (zgr hks).2 (hp.sp.rng k (by omega)); omega))).symm)
  refine zbb 1 rfl (zaq rfl (zcp (zac (zac (reQ 1 rfl (hvQ rfl (lnQ rfl rfl rfl (zaa hst)) (zan 1 rfl (?_))))))))
  refine ntQ (zaw ?_)
  refine lkQ1 (α := Nat) [0, 1, 2, 4, 17, 18, 19] rfl (fun k => [boxE b1 #[.int .i64 n.ins, n.sv, n.lv, n.ov] 28]) (fun k => [(20, .int .i64 (k : Int))]) (fun k => k ≤ st.length ∧ ∀ i, i < k → StR (n.ss.getD i sq0).kd (st.getD i 0)) (fun k => st.length - k) 0 ⟨Nat.zero_le _, fun i hi => absurd hi (by omega)⟩ (saQ rfl) (pfQ rfl) ?_
  intro k hi4
  obtain ⟨hk, hq⟩ := hi4
  refine srQ ?_
  refine zbh rfl rfl rfl rfl rfl rfl (fun h5 => ?_) (fun h5 => ?_)
  ·
   refine ntQ (tcQ rfl (zcp (sbQ (zac (reQ 1 rfl (hvQ rfl (riQ 1 rfl rfl rfl rfl (zaa hst)) (hvQ rfl (liQ rfl rfl rfl (zaa hst)) ?_)))))))
   refine zbb 2 rfl (srQ ?_)
   have hks : (n.ss.getD k sq0).kd = 0 ∨ (n.ss.getD k sq0).kd = 1 := by rcases (hokp.sq k (by omega)).1.kind with ⟨a, b, c⟩ | ⟨a, b, c⟩ <;> omega
   refine zan 1 rfl (hvQ rfl (fdQ 1 rfl rfl rfl) (hvQ rfl (zag rfl rfl rfl (zad 0 rfl rfl)) (zan 1 rfl (hvQ rfl (riQ 3 rfl rfl rfl rfl (zaa ((hr).sq.row))) (hvQ rfl (zbx (k0 := 0) rfl rfl rfl (zaa ((hr).sq.row)) (by omega)) ?_)))))
   refine hvQ rfl (zat (u := .int .i64 ((n.ss.getD k sq0).kd)) rfl rfl rfl (zaa ((hr).sq.row)) ((zcy sqC 3 (fun _ => rfl) n.ss sq0 (show k < _ by omega) (by decide)).trans rfl)) (zdn rfl (zal rfl rfl (fun w hm => zas (seqMostT_ans ((n.ss.getD k sq0).kd) w hks))) ?_)
   refine zdn rfl (zal rfl rfl (fun w hm => zas (zgo (zea _ _ _ w)))) (zbl (fun h6 => ?_) (fun h6 => ?_))
   ·
    obtain ⟨h6a, h6b⟩ := (zdm _ _ _).1 h6
    refine zbb 1 rfl (fsQ rfl (zcv (zay (hvQ rfl (vaQ rfl rfl rfl) (enQ 1 rfl ?_)))))
    exact zck (k + 1) ⟨by omega, fun i hi => by by_cases e : i = k; (subst e; exact (stR_iff hks).1 ⟨by assumption, by assumption⟩); exact hq i (by omega)⟩ (by omega) (saQ rfl) (pfQ rfl)
   have h6a := zdy h6
   refine zbb 1 rfl (zao rfl (zbc 1 rfl ?_))
   refine zav (zak ?_)
   refine zfs ?_
   refine zak (zap ?_)
   exact zbg rfl rfl (congrArg _ (zdh (fun hp => by first | (exact absurd hp.ok (by assumption)) | (have h9 := hp.sp.len; omega) | (exact absurd ((stR_iff hks).2 (hp.sp.rng k (by omega))) (by assumption)) | (have h9 := (zgr hks).2 (hp.sp.rng k (by omega)); omega))).symm)
  refine ntQ (fcQ rfl ?_)
  refine zaz (zdr ?_)
  refine zaf (zax (zbc 1 rfl ?_))
  exact zav (zbg rfl rfl (congrArg _ (zef ⟨hokp, by omega, fun i hi => hq i (by omega)⟩).symm))
 have hokp := zew h2
 refine zbb 9 rfl (zao rfl (zac (reQ 1 rfl ?_)))
 refine ntQ ?_
 refine zav (zap ?_)
 exact zbg rfl rfl (congrArg _ (zdh (fun hp => by first | (exact absurd hp.ok (by assumption)) | (have h9 := hp.sp.len; omega) | (exact absurd ((stR_iff hks).2 (hp.sp.rng k (by omega))) (by assumption)) | (have h9 := (zgr hks).2 (hp.sp.rng k (by omega)); omega))).symm)
theorem SeqNext0_ans (kd v : Int) (w : World) (hk : kd = 0 ∨ kd = 1) :
   Calls Try.prog 68 #[.int .i64 kd, .int .i64 v, .int .i64 0] w (Ans w (.int .i64 (snx0 kd v))) := by
 refine zbf (N := 49) (args := [.int .i64 kd, .int .i64 v, .int .i64 0]) Try.func68 rfl rfl (zbc 1 rfl (zac (zac (reQ 1 rfl ?_))))
 refine zcu rfl rfl rfl rfl rfl rfl (fun h1 => ?_) (fun h1 => ?_)
 ·
  refine zan 2 rfl (zdn rfl (zal rfl rfl (fun w hm => zas (zen v 0 1 w))) ?_)
  refine zbl (fun h2 => ?_) (fun h2 => ?_)
  ·
   obtain ⟨h2a, h2b⟩ := (zdm _ _ _).1 h2
   refine zbb 1 rfl (zao rfl (zac (reQ 1 rfl (hvQ rfl (zdg rfl (by decide) rfl rfl (r := 0) (by decide)) (zbb 1 rfl ?_)))))
   refine zav (zap ?_)
   exact zbg rfl rfl (congrArg (Value.int .i64) (show (0 : Int) = snx0 kd v by unfold snx0; rw [if_pos (zef (by unfold StR; omega))]; first | (rw [if_pos (by omega)]; done) | (rw [if_neg (by omega)]; done) | (rw [if_neg (by omega)]; omega)))
  have h2a := zdy h2
  refine zbb 1 rfl (zaq rfl (zcp (zac (zac (reQ 1 rfl ?_)))))
  refine hl_neq rfl rfl rfl rfl rfl rfl (fun h3 => ?_) (fun h3 => ?_)
  ·
   refine zbb 5 rfl (zao rfl (zbc 1 rfl ?_))
   refine zav (zap ?_)
   exact zbg rfl rfl (congrArg (Value.int .i64) (show (-1 : Int) = snx0 kd v by unfold snx0; rw [zdh (fun hp => by unfold StR at hp; omega)]; rfl))
  refine zan 2 rfl (zdn rfl (zal rfl rfl (fun w hm => zas (zen v 0 31 w))) ?_)
  refine zbl (fun h4 => ?_) (fun h4 => ?_)
  ·
   obtain ⟨h4a, h4b⟩ := (zdm _ _ _).1 h4
   refine zbb 2 rfl (zaq rfl (zcp (zac (reQ 1 rfl (hvQ rfl (zdg rfl (by decide) rfl rfl (r := 0) (by decide)) (hvQ rfl (vaQ rfl rfl rfl) (zan 1 rfl (?_))))))))
   refine ntQ (zac (reQ 1 rfl (hvQ rfl (zdg rfl (by decide) rfl rfl (r := v - v % 2) (andNot_smallT (by omega) (by omega))) (zan 2 rfl (hvQ rfl (rv_shr rfl rfl rfl (by omega)) ?_)))))
   rw [show (v / 2 ^ (0 + 1 : Int).toNat : Int) = v / 2 from rfl]
   refine hvQ rfl (zdg rfl (by decide) rfl rfl (r := (v / 2) % 2) (Bit.and_one _ (by omega) (by omega))) (hvQ rfl (vaQ rfl rfl rfl) (zbb 1 rfl (zac (zac (reQ 1 rfl (hvQ rfl (rv_shr rfl rfl rfl (by omega)) (hvQ rfl (zdg rfl (by decide) rfl rfl (r := 0) (by decide)) ?_)))))))
   refine zcu rfl rfl rfl rfl rfl rfl (fun h5 => absurd h5 (by omega)) (fun h5 => ?_)
   refine ntQ (zaq rfl (zcp (zbc 2 rfl ?_)))
   exact zav (zbg rfl rfl (congrArg (Value.int .i64) (show ((v - v % 2) + ((v / 2) % 2) : Int) = snx0 kd v by unfold snx0; rw [if_pos (zef (by unfold StR; omega))]; first | (rw [if_pos (by omega)]; done) | (rw [if_neg (by omega)]; done) | (rw [if_neg (by omega)]; omega))))
  have h4a := zdy h4
  refine zbb 2 rfl (zao rfl (zbc 1 rfl ?_))
  refine zav (zap ?_)
  exact zbg rfl rfl (congrArg (Value.int .i64) (show (-1 : Int) = snx0 kd v by unfold snx0; rw [zdh (fun hp => by unfold StR at hp; omega)]; rfl))
 refine zbb 4 rfl (zaq rfl (zcp (zac (zac (reQ 1 rfl ?_)))))
 refine hl_neq rfl rfl rfl rfl rfl rfl (fun h6 => ?_) (fun h6 => ?_)
 ·
  refine zbb 5 rfl (zao rfl (zbc 1 rfl ?_))
  refine zav (zap ?_)
  exact zbg rfl rfl (congrArg (Value.int .i64) (show (-1 : Int) = snx0 kd v by unfold snx0; rw [zdh (fun hp => by unfold StR at hp; omega)]; rfl))
 refine zan 2 rfl (zdn rfl (zal rfl rfl (fun w hm => zas (zen v 0 31 w))) ?_)
 refine zbl (fun h7 => ?_) (fun h7 => ?_)
 ·
  obtain ⟨h7a, h7b⟩ := (zdm _ _ _).1 h7
  refine zbb 2 rfl (zaq rfl (zcp (zac (reQ 1 rfl (hvQ rfl (zdg rfl (by decide) rfl rfl (r := 0) (by decide)) (hvQ rfl (vaQ rfl rfl rfl) (zan 1 rfl (?_))))))))
  refine ntQ (zac (reQ 1 rfl (hvQ rfl (zdg rfl (by decide) rfl rfl (r := v - v % 2) (andNot_smallT (by omega) (by omega))) (zan 2 rfl (hvQ rfl (rv_shr rfl rfl rfl (by omega)) ?_)))))
  rw [show (v / 2 ^ (0 + 1 : Int).toNat : Int) = v / 2 from rfl]
  refine hvQ rfl (zdg rfl (by decide) rfl rfl (r := (v / 2) % 2) (Bit.and_one _ (by omega) (by omega))) (hvQ rfl (vaQ rfl rfl rfl) (zbb 1 rfl (zac (zac (reQ 1 rfl (hvQ rfl (rv_shr rfl rfl rfl (by omega)) (hvQ rfl (zdg rfl (by decide) rfl rfl (r := 0) (by decide)) ?_)))))))
  refine zcu rfl rfl rfl rfl rfl rfl (fun h8 => absurd h8 (by omega)) (fun h8 => ?_)
  refine ntQ (zaq rfl (zcp (zbc 2 rfl ?_)))
  exact zav (zbg rfl rfl (congrArg (Value.int .i64) (show ((v - v % 2) + ((v / 2) % 2) : Int) = snx0 kd v by unfold snx0; rw [if_pos (zef (by unfold StR; omega))]; first | (rw [if_pos (by omega)]; done) | (rw [if_neg (by omega)]; done) | (rw [if_neg (by omega)]; omega))))
 have h7a := zdy h7
 refine zbb 2 rfl (zao rfl (zbc 1 rfl ?_))
 refine zav (zap ?_)
 exact zbg rfl rfl (congrArg (Value.int .i64) (show (-1 : Int) = snx0 kd v by unfold snx0; rw [zdh (fun hp => by unfold StR at hp; omega)]; rfl))
theorem specLutStateOk_ans (n : Ln) (st : List Int) (v : Value) (w : World) (hr : RdsLn w n) (hst : RdsW w v 1 st.length (st.map (Value.int .i64))) :
   Calls Try.prog 43 #[.agg #[.int .i64 n.ins, n.sv, n.lv, n.ov], v] w (Ans w (.bool (pB (StAll n st)))) := by
 have hso := sml hr.ou
 have hss := hr.sq.small
 have hsl := hr.lt.small
 have hcnt : n.cnt = 1 + n.ins + n.ss.length + n.ls.length := rfl
 have hfst : n.fst = 1 + n.ins + n.ss.length := rfl
 have hst9 := sml hst
 refine zbf (N := 35) (args := [.agg #[.int .i64 n.ins, n.sv, n.lv, n.ov], v]) Try.func43 rfl rfl (srQ ?_)
 refine zdt rfl (zct rfl rfl) ?_
 intro b1
 refine zbb 1 rfl (zfl (hvQ rfl (zar (cs := [.int .i64 n.ins, n.sv, n.lv, n.ov]) rfl rfl rfl rfl rfl (zam 0 rfl 0 rfl)) ?_))
 refine zdn rfl (zal rfl rfl (fun w hm => zas (specLutNetOk_ans n w (hr.below hm.bel)))) (zbl (fun h2 => ?_) (fun h2 => ?_))
 ·
  have hokp := zgb h2
  refine zan 3 rfl (hvQ rfl (lnQ rfl rfl rfl (zaa hst)) (hvQ rfl (fdQ 1 rfl rfl rfl) (hvQ rfl (zag rfl rfl rfl (zad 0 rfl rfl)) (hvQ rfl (lnQ rfl rfl rfl (zaa ((hr).sq.row))) ?_))))
  refine hl_neq rfl rfl rfl rfl rfl rfl (fun h3 => ?_) (fun h3 => ?_)
  ·
   refine zbb 1 rfl (zao rfl (zbc 1 rfl ?_))
   refine zav (zap ?_)
   exact zbg rfl rfl (congrArg _ (zdh (fun hp => by first | (exact absurd hp.ok (by assumption)) | (have h9 := hp.sp.len; omega) | (exact absurd ((stR_iff hks).2 (hp.sp.rng k (by omega))) (by assumption)) | (have h9 := (zgr hks).2 (hp.sp.rng k (by omega)); omega))).symm)
  refine zbb 1 rfl (zaq rfl (zcp (zac (zbc 1 rfl ?_))))
  refine zaw ?_
  refine lkQ1 (α := Nat) [0, 1, 2, 4, 16] rfl (fun k => [boxE b1 #[.int .i64 n.ins, n.sv, n.lv, n.ov] 28]) (fun k => [(5, .int .i64 (k : Int))]) (fun k => k ≤ st.length ∧ ∀ i, i < k → StR (n.ss.getD i sq0).kd (st.getD i 0)) (fun k => st.length - k) 0 ⟨Nat.zero_le _, fun i hi => absurd hi (by omega)⟩ (saQ rfl) (pfQ rfl) ?_
  intro k hi4
  obtain ⟨hk, hq⟩ := hi4
  refine zac (zac (reQ 2 rfl (hvQ rfl (lnQ rfl rfl rfl (zaa hst)) ?_)))
  refine zbh rfl rfl rfl rfl rfl rfl (fun h5 => ?_) (fun h5 => ?_)
  ·
   refine ntQ (zao rfl (zcp (sbQ (zac ?_))))
   have hks : (n.ss.getD k sq0).kd = 0 ∨ (n.ss.getD k sq0).kd = 1 := by rcases (hokp.sq k (by omega)).1.kind with ⟨a, b, c⟩ | ⟨a, b, c⟩ <;> omega
   rcases Bool.eq_false_or_eq_true (decide (snx0 ((n.ss.getD k sq0).kd) (st.getD k 0) < 0)) with hb6 | hb6
   ·
    have hb6p : snx0 ((n.ss.getD k sq0).kd) (st.getD k 0) < 0 := of_decide_eq_true hb6
    have hks : (n.ss.getD k sq0).kd = 0 ∨ (n.ss.getD k sq0).kd = 1 := by rcases (hokp.sq k (by omega)).1.kind with ⟨a, b, c⟩ | ⟨a, b, c⟩ <;> omega
    refine zbk 12 [[], [0], [], [1, 2], [3], [4], [], [], [6, 7], [8], [5, 9], [10]] [23, 24, 25, 26, 27, 28, 29, 30, 31, 32, 33, 34] [.pointer (some ⟨b1, 0 + 1, none⟩), n.sv, .int .i64 (k : Int), elP n.sv (((k : Int)).toNat * 3), elP n.sv (((k : Int)).toNat * 3 + 0), .int .i64 ((n.ss.getD k sq0).kd), v, .int .i64 (k : Int), elP v (((k : Int)).toNat * 1), .int .i64 (st.getD k 0), .int .i64 (snx0 ((n.ss.getD k sq0).kd) (st.getD k 0)), .bool true] (by kernel_rfl) rfl ?_ ?_
    ·
     exact ⟨iaQ rfl (fdQ 1 rfl rfl rfl) rfl, iaQ rfl (zag rfl rfl rfl (zad 0 rfl rfl)) rfl, iaQ rfl (zaj rfl) rfl, iaQ rfl (riQ 3 rfl rfl rfl rfl (zaa ((hr).sq.row))) rfl, iaQ rfl (zbx (k0 := 0) rfl rfl rfl (zaa ((hr).sq.row)) (by omega)) rfl, iaQ rfl (zat (u := .int .i64 ((n.ss.getD k sq0).kd)) rfl rfl rfl (zaa ((hr).sq.row)) ((zcy sqC 3 (fun _ => rfl) n.ss sq0 (show k < _ by omega) (by decide)).trans rfl)) rfl, iaQ rfl (zaj rfl) rfl, iaQ rfl (zaj rfl) rfl, iaQ rfl (riQ 1 rfl rfl rfl rfl (zaa hst)) rfl, iaQ rfl (liQ rfl rfl rfl (zaa hst)) rfl, .inl ⟨rfl, zal rfl rfl (fun w hm => zas (SeqNext0_ans ((n.ss.getD k sq0).kd) (st.getD k 0) w hks))⟩, .inl ⟨rfl, zcz (zcd rfl rfl rfl rfl) hb6⟩, trivial⟩
    simp only [List.drop_succ_cons, List.drop_zero]
    refine ntQ (zao rfl (zbc 1 rfl ?_))
    refine zav (zak ?_)
    refine zfs ?_
    refine zak (zap ?_)
    exact zbg rfl rfl (congrArg _ (zdh (fun hp => by first | (exact absurd hp.ok (by assumption)) | (have h9 := hp.sp.len; omega) | (exact absurd ((stR_iff hks).2 (hp.sp.rng k (by omega))) (by assumption)) | (have h9 := (zgr hks).2 (hp.sp.rng k (by omega)); omega))).symm)
   have hb6p : ¬ (snx0 ((n.ss.getD k sq0).kd) (st.getD k 0) < 0) := of_decide_eq_false hb6
   have hks : (n.ss.getD k sq0).kd = 0 ∨ (n.ss.getD k sq0).kd = 1 := by rcases (hokp.sq k (by omega)).1.kind with ⟨a, b, c⟩ | ⟨a, b, c⟩ <;> omega
   refine zbk 12 [[], [0], [], [1, 2], [3], [4], [], [], [6, 7], [8], [5, 9], [10]] [23, 24, 25, 26, 27, 28, 29, 30, 31, 32, 33, 34] [.pointer (some ⟨b1, 0 + 1, none⟩), n.sv, .int .i64 (k : Int), elP n.sv (((k : Int)).toNat * 3), elP n.sv (((k : Int)).toNat * 3 + 0), .int .i64 ((n.ss.getD k sq0).kd), v, .int .i64 (k : Int), elP v (((k : Int)).toNat * 1), .int .i64 (st.getD k 0), .int .i64 (snx0 ((n.ss.getD k sq0).kd) (st.getD k 0)), .bool false] (by kernel_rfl) rfl ?_ ?_
   ·
    exact ⟨iaQ rfl (fdQ 1 rfl rfl rfl) rfl, iaQ rfl (zag rfl rfl rfl (zad 0 rfl rfl)) rfl, iaQ rfl (zaj rfl) rfl, iaQ rfl (riQ 3 rfl rfl rfl rfl (zaa ((hr).sq.row))) rfl, iaQ rfl (zbx (k0 := 0) rfl rfl rfl (zaa ((hr).sq.row)) (by omega)) rfl, iaQ rfl (zat (u := .int .i64 ((n.ss.getD k sq0).kd)) rfl rfl rfl (zaa ((hr).sq.row)) ((zcy sqC 3 (fun _ => rfl) n.ss sq0 (show k < _ by omega) (by decide)).trans rfl)) rfl, iaQ rfl (zaj rfl) rfl, iaQ rfl (zaj rfl) rfl, iaQ rfl (riQ 1 rfl rfl rfl rfl (zaa hst)) rfl, iaQ rfl (liQ rfl rfl rfl (zaa hst)) rfl, .inl ⟨rfl, zal rfl rfl (fun w hm => zas (SeqNext0_ans ((n.ss.getD k sq0).kd) (st.getD k 0) w hks))⟩, .inl ⟨rfl, zcz (zcd rfl rfl rfl rfl) hb6⟩, trivial⟩
   simp only [List.drop_succ_cons, List.drop_zero]
   refine ntQ (fsQ rfl (zcv (reQ 1 rfl (hvQ rfl (vaQ rfl rfl rfl) (enQ 1 rfl ?_)))))
   exact zck (k + 1) ⟨by omega, fun i hi => by by_cases e : i = k; (subst e; exact (zgr hks).1 (by omega)); exact hq i (by omega)⟩ (by omega) (saQ rfl) (pfQ rfl)
  refine ntQ (zaq rfl ?_)
  refine zaz (zdr ?_)
  refine zaf (zax (zbc 1 rfl ?_))
  exact zav (zbg rfl rfl (congrArg _ (zef ⟨hokp, by omega, fun i hi => hq i (by omega)⟩).symm))
 have hokp := zew h2
 refine zbb 9 rfl (zao rfl (zac (reQ 1 rfl ?_)))
 refine ntQ ?_
 refine zav (zap ?_)
 exact zbg rfl rfl (congrArg _ (zdh (fun hp => by first | (exact absurd hp.ok (by assumption)) | (have h9 := hp.sp.len; omega) | (exact absurd ((stR_iff hks).2 (hp.sp.rng k (by omega))) (by assumption)) | (have h9 := (zgr hks).2 (hp.sp.rng k (by omega)); omega))).symm)
theorem delaysOk_ans (rs : List IR) (sz : List Int) (v u : Value) (w : World) (hA1 : RdsIr w v rs) (hA2 : RdsW w u 1 sz.length (sz.map (Value.int .i64))) :
   Calls Try.prog 49 #[v, u] w (Ans w (.bool (pB (DlP rs sz)))) := by
 have q1 := hA1.small
 have q2 := sml hA2
 refine zbf (N := 39) (args := [v, u]) Try.func49 rfl rfl (zbc 1 rfl (zac (zac (reQ 1 rfl (hvQ rfl (lnQ rfl rfl rfl (zaa ((hA1).row))) (zan 1 rfl (hvQ rfl (lnQ rfl rfl rfl (zaa hA2)) ?_)))))))
 refine hl_neq rfl rfl rfl rfl rfl rfl (fun h1 => ?_) (fun h1 => ?_)
 ·
  refine ntQ (zao rfl (zbc 1 rfl ?_))
  refine zav (zap ?_)
  exact zbg rfl rfl (congrArg _ (zdh (fun hp => by first | (have h9 := hp.len; omega) | (have h9 := (hp.el i (by omega)).1; omega) | (have h9 := (hp.el i (by omega)).2 j (by omega); omega))).symm)
 refine ntQ (zaq rfl (zcp (zac (zac (reQ 1 rfl (hvQ rfl (lnQ rfl rfl rfl (zaa ((hA1).row))) (enQ 1 rfl ?_)))))))
 refine zax (zaw ?_)
 refine lkQ1 (α := Nat) [0, 1, 4, 13, 14, 15] rfl (fun i => []) (fun i => [(16, .int .i64 (i : Int))]) (fun i => i ≤ rs.length ∧ ∀ q, q < i → LiP (rs.getD q ir0).xs (sz.getD q 0) 100) (fun i => rs.length - i) 0 ⟨Nat.zero_le _, fun i hi => absurd hi (by omega)⟩ (saQ rfl) (.slnil) ?_
 intro i hi2
 obtain ⟨hi, hq⟩ := hi2
 refine srQ ?_
 refine zbh rfl rfl rfl rfl rfl rfl (fun h3 => ?_) (fun h3 => ?_)
 ·
  refine ntQ (tcQ rfl (zcp (sbQ (zac (reQ 1 rfl (hvQ rfl (riQ 1 rfl rfl rfl rfl (zaa ((hA1).row))) ?_))))))
  refine hvQ rfl (zat (u := (rs.getD i ir0).v) rfl rfl rfl (zaa ((hA1).row)) (zbn irC (fun r => r.v) (fun _ => rfl) rs ir0 (show i < _ by omega))) (zbb 2 rfl (zac (zac (reQ 1 rfl (hvQ rfl (lnQ rfl rfl rfl (zaa ((hA1).at (d := ir0) (k := i) (by omega)))) (zan 2 rfl (hvQ rfl (riQ 1 rfl rfl rfl rfl (zaa hA2)) (hvQ rfl (liQ rfl rfl rfl (zaa hA2)) ?_))))))))
  refine hl_neq rfl rfl rfl rfl rfl rfl (fun h4 => ?_) (fun h4 => ?_)
  ·
   refine ntQ (zao rfl (zbc 1 rfl ?_))
   refine zav (zap ?_)
   refine zak (zfs ?_)
   refine zak (zap ?_)
   exact zbg rfl rfl (congrArg _ (zdh (fun hp => by first | (have h9 := hp.len; omega) | (have h9 := (hp.el i (by omega)).1; omega) | (have h9 := (hp.el i (by omega)).2 j (by omega); omega))).symm)
  refine ntQ (zaq rfl (zcp (srQ ?_)))
  have q3 := sml (hA1.at (d := ir0) (k := i) (by omega))
  refine zan 1 rfl (hvQ rfl (lnQ rfl rfl rfl (zaa ((hA1).at (d := ir0) (k := i) (by omega)))) (zbb 1 rfl (zaw ?_)))
  refine lkQ1 (α := Nat) [0, 1, 4, 5, 6, 13, 14, 15, 16, 17, 27, 28, 29] rfl (fun j => []) (fun j => [(30, .int .i64 (j : Int))]) (fun j => j ≤ (rs.getD i ir0).xs.length ∧ ∀ q, q < j → 0 ≤ (rs.getD i ir0).xs.getD q 0 ∧ (rs.getD i ir0).xs.getD q 0 ≤ 100) (fun j => (rs.getD i ir0).xs.length - j) 0 ⟨Nat.zero_le _, fun i hi => absurd hi (by omega)⟩ (saQ rfl) (.slnil) ?_
  intro j hi5
  obtain ⟨hj, hj2⟩ := hi5
  refine srQ ?_
  refine zbh rfl rfl rfl rfl rfl rfl (fun h6 => ?_) (fun h6 => ?_)
  ·
   refine ntQ (tcQ rfl (zcp (sbQ (srQ (hvQ rfl (riQ 1 rfl rfl rfl rfl (zaa ((hA1).at (d := ir0) (k := i) (by omega)))) (hvQ rfl (zat (u := .int .i64 (((rs.getD i ir0).xs).getD j 0)) rfl rfl rfl (zaa ((hA1).at (d := ir0) (k := i) (by omega))) (zdi (show _ < ((rs.getD i ir0).xs).length by omega))) (zan 1 rfl ?_)))))))
   refine ntQ (zac (reQ 1 rfl ?_))
   refine zdn rfl (zal rfl rfl (fun w hm => zas (zgo (zea _ _ _ w)))) (zbl (fun h7 => ?_) (fun h7 => ?_))
   ·
    obtain ⟨h7a, h7b⟩ := (zdm _ _ _).1 h7
    refine zbb 1 rfl (fsQ rfl (zcv (zay (hvQ rfl (vaQ rfl rfl rfl) (enQ 1 rfl ?_)))))
    exact zck (j + 1) ⟨by omega, fun q hq9 => by by_cases e : q = j; (subst e; omega); exact hj2 q (by omega)⟩ (by omega) (saQ rfl) (.slnil)
   have h7a := zdy h7
   refine zbb 1 rfl (zao rfl (zbc 1 rfl ?_))
   refine zav (zak ?_)
   refine zfs ?_
   refine zak (zak ?_)
   refine zfs ?_
   refine zak (zap ?_)
   exact zbg rfl rfl (congrArg _ (zdh (fun hp => by first | (have h9 := hp.len; omega) | (have h9 := (hp.el i (by omega)).1; omega) | (have h9 := (hp.el i (by omega)).2 j (by omega); omega))).symm)
  refine ntQ (fcQ rfl ?_)
  refine zaz (zdr ?_)
  refine zaf (zcv (zay (hvQ rfl (vaQ rfl rfl rfl) (enQ 1 rfl ?_))))
  exact zck (i + 1) ⟨by omega, fun q hq9 => by by_cases e : q = i; (subst e; exact ⟨by omega, fun t ht => hj2 t (by omega)⟩); exact hq q (by omega)⟩ (by omega) (saQ rfl) (.slnil)
 refine ntQ (fcQ rfl ?_)
 refine zaz (zdr ?_)
 refine zaf (zax (zbc 1 rfl ?_))
 exact zav (zbg rfl rfl (congrArg _ (zef ⟨by omega, fun q hq9 => hq q (by omega)⟩).symm))
theorem zfg (x : Td) (w : World) (hr : RdsTd w x) :
   Calls Try.prog 20 #[.agg #[.int .i64 x.n.ins, x.n.sv, x.n.lv, x.n.ov, x.pv, x.qv, x.kv, x.av, x.bv, .int .i64 x.oi, .int .i64 x.ni]] w (Ans w (.bool (pB (TdOk x)))) := by
 have t1 := sml hr.ks
 have t2 := sml hr.ao
 have t3 := sml hr.bs
 have t4 := hr.dl.small
 have t5 := hr.ds.small
 have t6 := hr.n.sq.small
 have t7 := hr.n.lt.small
 have t8 := sml hr.n.ou
 have hcnt : x.n.cnt = 1 + x.n.ins + x.n.ss.length + x.n.ls.length := rfl
 have hfst : x.n.fst = 1 + x.n.ins + x.n.ss.length := rfl
 refine zbf (N := 83) (args := [.agg #[.int .i64 x.n.ins, x.n.sv, x.n.lv, x.n.ov, x.pv, x.qv, x.kv, x.av, x.bv, .int .i64 x.oi, .int .i64 x.ni]]) Try.func20 rfl rfl (srQ ?_)
 refine zdt rfl (zct rfl rfl) ?_
 intro b1
 refine zbb 1 rfl (zfl (hvQ rfl (fdQ 0 rfl rfl rfl) (hvQ rfl (zar (cs := [.int .i64 x.n.ins, x.n.sv, x.n.lv, x.n.ov]) rfl rfl rfl rfl rfl (zam 0 rfl 0 rfl)) (hvQ rfl (fdQ 7 rfl rfl rfl) (hvQ rfl (zag rfl rfl rfl (zad 0 rfl rfl)) ?_)))))
 refine zdn rfl (zal rfl rfl (fun w hm => zas (zge x.n x.ao _ w (hr.n.below hm.bel) (hr.ao.below hm.bel)))) (zbl (fun h2 => ?_) (fun h2 => ?_))
 ·
  have hSao := zgb h2
  refine zan 2 rfl (hvQ rfl (fdQ 0 rfl rfl rfl) (hvQ rfl (zar (cs := [.int .i64 x.n.ins, x.n.sv, x.n.lv, x.n.ov]) rfl rfl rfl rfl rfl (zam 0 rfl 0 rfl)) (hvQ rfl (fdQ 8 rfl rfl rfl) (hvQ rfl (zag rfl rfl rfl (zad 0 rfl rfl)) ?_))))
  refine zdn rfl (zal rfl rfl (fun w hm => zas (zge x.n x.bs _ w (hr.n.below hm.bel) (hr.bs.below hm.bel)))) (zbl (fun h3 => ?_) (fun h3 => ?_))
  ·
   have hSbs := zgb h3
   refine zan 3 rfl (hvQ rfl (fdQ 6 rfl rfl rfl) (hvQ rfl (zag rfl rfl rfl (zad 0 rfl rfl)) (hvQ rfl (lnQ rfl rfl rfl (zaa ((hr).ks))) (hvQ rfl (fdQ 0 rfl rfl rfl) (hvQ rfl (fdQ 1 rfl rfl rfl) (hvQ rfl (zag rfl rfl rfl (zad 0 rfl rfl)) (hvQ rfl (lnQ rfl rfl rfl (zaa ((hr).n.sq.row))) ?_)))))))
   refine hl_neq rfl rfl rfl rfl rfl rfl (fun h4 => ?_) (fun h4 => ?_)
   ·
    refine zbb 1 rfl (zao rfl (zbc 1 rfl ?_))
    refine zav (zap ?_)
    exact zbg rfl rfl (congrArg _ (zdh (fun hp => by first | (exact hSao ⟨hp.n, hp.a⟩) | (exact hSbs ⟨hp.n, hp.b⟩) | (have h9 := hp.k.1; omega) | (have h9 := hp.k.2 k (by omega); omega) | (exact hDdl (hE1.2 ⟨hp.dn, hp.dl⟩)) | (exact hDds (hE2.2 ⟨hp.sn, hp.ds⟩)))).symm)
   refine zbb 1 rfl (zaq rfl (zcp (srQ ?_)))
   refine zeo 3 1 (zan 1 rfl ?_)
   refine zeo 3 1 (zbb 1 rfl (zfl ?_))
   obtain ⟨⟨si, s2, s3, s4⟩, -, -, -⟩ := id hSao.ok
   refine hvQ rfl (fdQ 0 rfl rfl rfl) (hvQ rfl (fdQ 2 rfl rfl rfl) (hvQ rfl (zag rfl rfl rfl (zad 2 rfl rfl)) (hvQ rfl (lnQ rfl rfl rfl (zaa ((hr).n.lt.row))) (zbb 1 rfl (zaw ?_)))))
   refine lkQ3 (α := Nat) (β := Value) (γ := List Int) [0, 1, 2, 4, 32, 35, 36] rfl (fun i u1 z1 => [rowE 3 1 (.slice none 0 0) 0 ([]), rowE 3 1 u1 z1.length (z1.map (Value.int .i64)), boxE b1 #[.int .i64 x.n.ins, x.n.sv, x.n.lv, x.n.ov, x.pv, x.qv, x.kv, x.av, x.bv, .int .i64 x.oi, .int .i64 x.ni] 45]) (fun i u1 z1 => [(3, u1), (37, .int .i64 (i : Int))]) (fun i u1 z1 => i ≤ x.n.ls.length ∧ z1 = lensL Lt.xs x.n.ls i) (fun i u1 z1 => x.n.ls.length - i) 0 _ [] ⟨Nat.zero_le _, rfl⟩ (saQ rfl) (pfQ rfl) ?_
   intro i u1 z1 hi7
   obtain ⟨hi, hz1⟩ := hi7
   have hzl1 : z1.length = i := by rw [hz1]; exact lensL_len _ hi
   refine srQ ?_
   refine zbh rfl rfl rfl rfl rfl rfl (fun h8 => ?_) (fun h8 => ?_)
   ·
    refine ntQ (tcQ rfl (zcp (sbQ (srQ (hvQ rfl (riQ 2 rfl rfl rfl rfl (zaa ((hr).n.lt.row))) ?_)))))
    refine hvQ rfl (zcl (us := [(x.n.ls.getD i lt0).iv, .int .i64 ((x.n.ls.getD i lt0).ma)]) rfl rfl rfl rfl (zaa ((hr).n.lt.row)) (by omega) rfl (zde ltC 2 (fun _ => rfl) x.n.ls lt0 (show i < _ by omega) rfl)) (zdt rfl (zbm (z := .agg #[.slice none 0 0, .int .i64 0]) rfl rfl) ?_)
    intro b9
    refine zbr (cs' := #[(x.n.ls.getD i lt0).iv, .int .i64 ((x.n.ls.getD i lt0).ma)]) (i := 0) (off := 0) (us := [(x.n.ls.getD i lt0).iv, .int .i64 ((x.n.ls.getD i lt0).ma)]) rfl rfl rfl rfl rfl rfl rfl (zae (hr.n.lt.at (d := lt0) (k := i) (by omega)).one (zae rfl zbj)) rfl rfl rfl (ntQ (reQ 1 rfl (hvQ rfl (fdQ 0 rfl rfl rfl) (hvQ rfl (zag rfl rfl rfl (zad 0 rfl rfl)) (hvQ rfl (lnQ rfl rfl rfl (zaa ((hr).n.lt.at (d := lt0) (k := i) (by omega)))) ?_)))))
    refine zdu rfl (zau (z := .int .i64 0) (s := 1) (cs := ([(((x.n.ls.getD i lt0).xs).length : Int)].map (Value.int .i64))) rfl Try.underlying26 rfl (by decide) rfl (by kernel_rfl) rfl) ?_
    intro g10
    refine zcf (i := 3) (z := .int .i64 0) (bytes := 8) rfl rfl rfl rfl Try.underlying26 (by kernel_rfl) rfl rfl rfl rfl (zah 0 rfl) (zbw _) (by first | omega | (simp; done) | (simp; omega)) (zbt z1 ([(((x.n.ls.getD i lt0).xs).length : Int)])) (zcn z1 ([(((x.n.ls.getD i lt0).xs).length : Int)])) (fun _ => rfl) ?_
    intro v11
    refine enQ 1 rfl (zcv (zay (hvQ rfl (vaQ rfl rfl rfl) (enQ 1 rfl ?_))))
    exact zbi (i + 1) v11 (z1 ++ ([(((x.n.ls.getD i lt0).xs).length : Int)])) ⟨by omega, by rw [hz1]; exact lensL_succ Lt.xs lt0 (by omega)⟩ (by omega) (saQ rfl) (slQ [2, 0, 0] rfl)
   refine ntQ (fcQ rfl ?_)
   refine zaz (zdr ?_)
   refine zaf (zax (zfl (hvQ rfl (fdQ 0 rfl rfl rfl) (hvQ rfl (fdQ 1 rfl rfl rfl) (hvQ rfl (zag rfl rfl rfl (zad 2 rfl rfl)) (hvQ rfl (lnQ rfl rfl rfl (zaa ((hr).n.sq.row))) (zbb 1 rfl (zaw ?_))))))))
   refine lkQ3 (α := Nat) (β := Value) (γ := List Int) [0, 1, 2, 3, 32, 35, 36, 37, 38, 50, 51] rfl (fun k u2 z2 => [rowE 3 1 u2 z2.length (z2.map (Value.int .i64)), rowE 3 1 u1 z1.length (z1.map (Value.int .i64)), boxE b1 #[.int .i64 x.n.ins, x.n.sv, x.n.lv, x.n.ov, x.pv, x.qv, x.kv, x.av, x.bv, .int .i64 x.oi, .int .i64 x.ni] 45]) (fun k u2 z2 => [(4, u2), (52, .int .i64 (k : Int))]) (fun k u2 z2 => k ≤ x.n.ss.length ∧ z2 = lensL Sq.xs x.n.ss k ∧ ∀ q, q < k → 0 ≤ x.ks.getD q 0 ∧ x.ks.getD q 0 ≤ 50) (fun k u2 z2 => x.n.ss.length - k) 0 _ [] ⟨Nat.zero_le _, rfl, fun q hq => absurd hq (by omega)⟩ (saQ rfl) (pfQ rfl) ?_
   intro k u2 z2 hi12
   obtain ⟨hk, hz2, hkq⟩ := hi12
   have hzl2 : z2.length = k := by rw [hz2]; exact lensL_len _ hk
   refine srQ ?_
   refine zbh rfl rfl rfl rfl rfl rfl (fun h13 => ?_) (fun h13 => ?_)
   ·
    refine ntQ (tcQ rfl (zcp (sbQ (zac (reQ 1 rfl (hvQ rfl (riQ 3 rfl rfl rfl rfl (zaa ((hr).n.sq.row))) ?_))))))
    refine hvQ rfl (zcl (us := [.int .i64 ((x.n.ss.getD k sq0).kd), .int .i64 ((x.n.ss.getD k sq0).it), (x.n.ss.getD k sq0).iv]) rfl rfl rfl rfl (zaa ((hr).n.sq.row)) (by omega) rfl (zde sqC 3 (fun _ => rfl) x.n.ss sq0 (show k < _ by omega) rfl)) (zdt rfl (zbm (z := .agg #[.int .i64 0, .int .i64 0, .slice none 0 0]) rfl rfl) ?_)
    intro b14
    refine zan 1 rfl (zbr (cs' := #[.int .i64 ((x.n.ss.getD k sq0).kd), .int .i64 ((x.n.ss.getD k sq0).it), (x.n.ss.getD k sq0).iv]) (i := 0) (off := 0) (us := [.int .i64 ((x.n.ss.getD k sq0).kd), .int .i64 ((x.n.ss.getD k sq0).it), (x.n.ss.getD k sq0).iv]) rfl rfl rfl rfl rfl rfl rfl (zae rfl (zae rfl (zae (hr.n.sq.at (d := sq0) (k := k) (by omega)).one zbj))) rfl rfl rfl ?_)
    refine ntQ (zac (reQ 1 rfl (hvQ rfl (fdQ 2 rfl rfl rfl) (hvQ rfl (zag rfl rfl rfl (zad 0 rfl rfl)) (hvQ rfl (lnQ rfl rfl rfl (zaa ((hr).n.sq.at (d := sq0) (k := k) (by omega)))) ?_)))))
    refine zdu rfl (zau (z := .int .i64 0) (s := 1) (cs := ([(((x.n.ss.getD k sq0).xs).length : Int)].map (Value.int .i64))) rfl Try.underlying26 rfl (by decide) rfl (by kernel_rfl) rfl) ?_
    intro g15
    refine zcf (i := 2) (z := .int .i64 0) (bytes := 8) rfl rfl rfl rfl Try.underlying26 (by kernel_rfl) rfl rfl rfl rfl (zah 0 rfl) (zbw _) (by first | omega | (simp; done) | (simp; omega)) (zbt z2 ([(((x.n.ss.getD k sq0).xs).length : Int)])) (zcn z2 ([(((x.n.ss.getD k sq0).xs).length : Int)])) (fun _ => rfl) ?_
    intro v16
    refine zbb 1 rfl (srQ (hvQ rfl (fdQ 6 rfl rfl rfl) (hvQ rfl (zag rfl rfl rfl (zad 4 rfl rfl)) (zan 1 rfl (hvQ rfl (riQ 1 rfl rfl rfl rfl (zaa ((hr).ks))) (hvQ rfl (liQ rfl rfl rfl (zaa ((hr).ks))) ?_))))))
    refine zdn rfl (zal rfl rfl (fun w hm => zas (zgo (zea _ _ _ w)))) (zbl (fun h17 => ?_) (fun h17 => ?_))
    ·
     obtain ⟨h17a, h17b⟩ := (zdm _ _ _).1 h17
     refine zbb 1 rfl (fsQ rfl (zcv (zay (hvQ rfl (vaQ rfl rfl rfl) (enQ 1 rfl ?_)))))
     exact zbi (k + 1) v16 (z2 ++ ([(((x.n.ss.getD k sq0).xs).length : Int)])) ⟨by omega, by rw [hz2]; exact lensL_succ Sq.xs sq0 (by omega), fun q hq => by by_cases e : q = k; (subst e; omega); exact hkq q (by omega)⟩ (by omega) (saQ rfl) (slQ [2, 0, 0] rfl)
    have h17a := zdy h17
    refine zbb 1 rfl (zao rfl (zbc 1 rfl ?_))
    refine zav (zak ?_)
    refine zfs ?_
    refine zak (zap ?_)
    exact zbg rfl rfl (congrArg _ (zdh (fun hp => by first | (exact hSao ⟨hp.n, hp.a⟩) | (exact hSbs ⟨hp.n, hp.b⟩) | (have h9 := hp.k.1; omega) | (have h9 := hp.k.2 k (by omega); omega) | (exact hDdl (hE1.2 ⟨hp.dn, hp.dl⟩)) | (exact hDds (hE2.2 ⟨hp.sn, hp.ds⟩)))).symm)
   refine ntQ (fcQ rfl ?_)
   refine zaz (zdr ?_)
   refine zaf (zax (srQ ?_))
   have hie : i = x.n.ls.length := by omega
   have hke : k = x.n.ss.length := by omega
   have hE1 := dl_iff (rs := x.dl) Lt.xs (es := x.n.ls) lt0
   have hE2 := dl_iff (rs := x.ds) Sq.xs (es := x.n.ss) sq0
   rw [show lensL Lt.xs x.n.ls x.n.ls.length = z1 by rw [hz1, hie]] at hE1
   rw [show lensL Sq.xs x.n.ss x.n.ss.length = z2 by rw [hz2, hke]] at hE2
   refine hvQ rfl (fdQ 4 rfl rfl rfl) (hvQ rfl (fdQ 0 rfl rfl rfl) (hvQ rfl (zag rfl rfl rfl (zad 2 rfl rfl)) (zan 1 rfl ?_)))
   refine zdn rfl (zal rfl rfl (fun w hm => zas (delaysOk_ans x.dl z1 _ _ w (hr.dl.below hm.bel) ((zah 1 rfl) w hm)))) (zbl (fun h18 => ?_) (fun h18 => ?_))
   ·
    have hDdl := zgb h18
    refine zan 1 rfl (hvQ rfl (fdQ 4 rfl rfl rfl) (hvQ rfl (fdQ 1 rfl rfl rfl) (hvQ rfl (zag rfl rfl rfl (zad 2 rfl rfl)) (zan 1 rfl ?_))))
    refine zdn rfl (zal rfl rfl (fun w hm => zas (delaysOk_ans x.ds z2 _ _ w (hr.ds.below hm.bel) ((zah 0 rfl) w hm)))) (zbl (fun h19 => ?_) (fun h19 => ?_))
    ·
     have hDds := zgb h19
     refine zbb 2 rfl ?_
     exact zav (zbg rfl rfl (congrArg _ (zef ⟨hSao.ok, hSao.sp, hSbs.sp, ⟨by omega, fun q hq => hkq q (by omega)⟩, (hE1.1 hDdl).1, (hE1.1 hDdl).2, (hE2.1 hDds).1, (hE2.1 hDds).2⟩).symm))
    have hDds := zew h19
    refine zbb 2 rfl ?_
    exact zav (zbg rfl rfl (congrArg _ (zdh (fun hp => by first | (exact hSao ⟨hp.n, hp.a⟩) | (exact hSbs ⟨hp.n, hp.b⟩) | (have h9 := hp.k.1; omega) | (have h9 := hp.k.2 k (by omega); omega) | (exact hDdl (hE1.2 ⟨hp.dn, hp.dl⟩)) | (exact hDds (hE2.2 ⟨hp.sn, hp.ds⟩)))).symm))
   have hDdl := zew h18
   refine zbb 8 rfl ?_
   exact zav (zbg rfl rfl (congrArg _ (zdh (fun hp => by first | (exact hSao ⟨hp.n, hp.a⟩) | (exact hSbs ⟨hp.n, hp.b⟩) | (have h9 := hp.k.1; omega) | (have h9 := hp.k.2 k (by omega); omega) | (exact hDdl (hE1.2 ⟨hp.dn, hp.dl⟩)) | (exact hDds (hE2.2 ⟨hp.sn, hp.ds⟩)))).symm))
  have hSbs := zew h3
  refine zbb 12 rfl (zao rfl ?_)
  refine zbc 1 rfl ?_
  refine zav (zap ?_)
  exact zbg rfl rfl (congrArg _ (zdh (fun hp => by first | (exact hSao ⟨hp.n, hp.a⟩) | (exact hSbs ⟨hp.n, hp.b⟩) | (have h9 := hp.k.1; omega) | (have h9 := hp.k.2 k (by omega); omega) | (exact hDdl (hE1.2 ⟨hp.dn, hp.dl⟩)) | (exact hDds (hE2.2 ⟨hp.sn, hp.ds⟩)))).symm)
 have hSao := zew h2
 refine zbb 19 rfl (zao rfl (zbc 1 rfl ?_))
 refine zav (zap ?_)
 exact zbg rfl rfl (congrArg _ (zdh (fun hp => by first | (exact hSao ⟨hp.n, hp.a⟩) | (exact hSbs ⟨hp.n, hp.b⟩) | (have h9 := hp.k.1; omega) | (have h9 := hp.k.2 k (by omega); omega) | (exact hDdl (hE1.2 ⟨hp.dn, hp.dl⟩)) | (exact hDds (hE2.2 ⟨hp.sn, hp.ds⟩)))).symm)
def nS (x : Td) : Nat → Nat
  | 0 => 0
  | k + 1 => nS x k + (x.n.ss.getD k sq0).xs.length
def capL (x : Td) : Nat → List Pt
  | 0 => []
  | k + 1 => capL x k ++ (List.range (x.n.ss.getD k sq0).xs.length).map (fun j => ⟨x.n.cnt + nS x k + j, x.ks.getD k 0⟩)
def capI (x : Td) (k j : Nat) : List Pt := capL x k ++ (List.range j).map (fun j => ⟨x.n.cnt + nS x k + j, x.ks.getD k 0⟩)
theorem cap_len (x : Td) : ∀ k, (capL x k).length = nS x k
  | 0 => rfl
  | k + 1 => by unfold capL nS; rw [List.length_append, cap_len x k]; simp
theorem capI_len (x : Td) (k j : Nat) : (capI x k j).length = nS x k + j := by unfold capI; rw [List.length_append, cap_len]; simp
theorem capI_zero (x : Td) (k : Nat) : capI x k 0 = capL x k := by simp [capI]
theorem capI_succ (x : Td) (k j : Nat) : capI x k (j + 1) = capI x k j ++ [⟨x.n.cnt + nS x k + j, x.ks.getD k 0⟩] := by
  unfold capI; rw [List.range_succ, List.map_append, List.append_assoc]; rfl
theorem nS_le {x : Td} (h : LnOk x.n) : ∀ k, k ≤ x.n.ss.length → nS x k ≤ 4 * k
  | 0, _ => Nat.le_refl _
  | k + 1, hk => by have := nS_le h k (by omega); have h4 := (h.sq k (by omega)).1.len; unfold nS; omega
noncomputable def capR (x : Td) : List Pt := if pB (TdOk x) = true then capL x x.n.ss.length else []
def lauA (k : Nat) : List Pt := (List.range k).map (fun (q : Nat) => ⟨1 + q, 0⟩)
def lauB (x : Td) (k : Nat) : List Pt := lauA x.n.ins.toNat ++ (List.range k).map (fun (q : Nat) => ⟨1 + x.n.ins + q, x.ks.getD q 0⟩)
theorem lauA_len (k : Nat) : (lauA k).length = k := by simp [lauA]
theorem lauB_len (x : Td) (k : Nat) : (lauB x k).length = x.n.ins.toNat + k := by simp [lauB, lauA]
theorem lauA_succ (k : Nat) : lauA (k + 1) = lauA k ++ [⟨1 + k, 0⟩] := by simp [lauA, List.range_succ]
theorem lauB_zero (x : Td) : lauB x 0 = lauA x.n.ins.toNat := by simp [lauB]
theorem lauB_succ (x : Td) (k : Nat) : lauB x (k + 1) = lauB x k ++ [⟨1 + x.n.ins + k, x.ks.getD k 0⟩] := by
  unfold lauB; rw [List.range_succ, List.map_append, List.append_assoc]; rfl
noncomputable def lauR (x : Td) : List Pt := if pB (TdOk x) = true then lauB x x.ks.length else []
def arcL (x : Td) : Nat → List Arc
  | 0 => []
  | i + 1 => arcL x i ++ (List.range (x.n.ls.getD i lt0).xs.length).map (fun j => ⟨(x.n.ls.getD i lt0).xs.getD j 0, x.n.fst + i, (x.dl.getD i ir0).xs.getD j 0⟩)
def arcI (x : Td) (i j : Nat) : List Arc := arcL x i ++ (List.range j).map (fun j => ⟨(x.n.ls.getD i lt0).xs.getD j 0, x.n.fst + i, (x.dl.getD i ir0).xs.getD j 0⟩)
theorem arcI_zero (x : Td) (i : Nat) : arcI x i 0 = arcL x i := by simp [arcI]
theorem arcI_succ (x : Td) (i j : Nat) : arcI x i (j + 1) = arcI x i j ++ [⟨(x.n.ls.getD i lt0).xs.getD j 0, x.n.fst + i, (x.dl.getD i ir0).xs.getD j 0⟩] := by
  unfold arcI; rw [List.range_succ, List.map_append, List.append_assoc]; rfl
theorem arcL_le {x : Td} (h : LnOk x.n) : ∀ i, i ≤ x.n.ls.length → (arcL x i).length ≤ 4 * i
  | 0, _ => Nat.le_refl _
  | i + 1, hi => by
    have := arcL_le h i (by omega)
    have h4 := (h.lt i (by omega)).1.1
    unfold arcL; rw [List.length_append]; simp only [List.length_map, List.length_range]; omega
theorem arcI_len (x : Td) (i j : Nat) : (arcI x i j).length = (arcL x i).length + j := by simp [arcI]
def arcS (x : Td) : Nat → List Arc
  | 0 => arcL x x.n.ls.length
  | k + 1 => arcS x k ++ (List.range (x.n.ss.getD k sq0).xs.length).map (fun j => ⟨(x.n.ss.getD k sq0).xs.getD j 0, x.n.cnt + nS x k + j, (x.ds.getD k ir0).xs.getD j 0⟩)
def arcT (x : Td) (k j : Nat) : List Arc := arcS x k ++ (List.range j).map (fun j => ⟨(x.n.ss.getD k sq0).xs.getD j 0, x.n.cnt + nS x k + j, (x.ds.getD k ir0).xs.getD j 0⟩)
theorem arcT_zero (x : Td) (k : Nat) : arcT x k 0 = arcS x k := by simp [arcT]
theorem arcT_succ (x : Td) (k j : Nat) : arcT x k (j + 1) = arcT x k j ++ [⟨(x.n.ss.getD k sq0).xs.getD j 0, x.n.cnt + nS x k + j, (x.ds.getD k ir0).xs.getD j 0⟩] := by
  unfold arcT; rw [List.range_succ, List.map_append, List.append_assoc]; rfl
theorem arcT_len (x : Td) (k j : Nat) : (arcT x k j).length = (arcS x k).length + j := by simp [arcT]
theorem arcS_len (x : Td) : ∀ k, (arcS x k).length = (arcL x x.n.ls.length).length + nS x k
  | 0 => rfl
  | k + 1 => by unfold arcS nS; rw [List.length_append, arcS_len x k]; simp; omega
noncomputable def arcR (x : Td) : List Arc := if pB (TdOk x) = true then arcS x x.n.ss.length else []
noncomputable def nodR (x : Td) : Int := if pB (TdOk x) = true then x.n.cnt + nS x x.n.ss.length else 0
structure Bnd (x : Td) : Prop where
  i : 0 ≤ x.n.ins ∧ x.n.ins ≤ 20
  s : x.n.ss.length ≤ 12
  l : x.n.ls.length ≤ 400
  k : x.ks.length = x.n.ss.length
  a : x.ao.length = x.n.ss.length
  b : x.bs.length = x.n.ss.length
  d : x.dl.length = x.n.ls.length
  e : x.ds.length = x.n.ss.length
theorem TdOk.bnd {x : Td} (h : TdOk x) : Bnd x := ⟨h.n.sz.i, h.n.sz.s, h.n.sz.l, by have := h.k.1; omega, h.a.len, h.b.len, h.dn, h.sn⟩
theorem implCapturePoints_ret (x : Td) (w : World) (hr : RdsTd w x) :
   Calls Try.prog 22 #[.agg #[.int .i64 x.n.ins, x.n.sv, x.n.lv, x.n.ov, x.pv, x.qv, x.kv, x.av, x.bv, .int .i64 x.oi, .int .i64 x.ni]] w (Ret w (fun v' post => post = [rowE 89 2 v' (capR x).length ((capR x).flatMap ptC)])) := by
 have t1 := sml hr.ks
 have t2 := sml hr.ao
 have t3 := sml hr.bs
 have t4 := hr.dl.small
 have t5 := hr.ds.small
 have t6 := hr.n.sq.small
 have t7 := hr.n.lt.small
 have t8 := sml hr.n.ou
 have hcnt : x.n.cnt = 1 + x.n.ins + x.n.ss.length + x.n.ls.length := rfl
 have hfst : x.n.fst = 1 + x.n.ins + x.n.ss.length := rfl
 refine zbf (N := 42) (args := [.agg #[.int .i64 x.n.ins, x.n.sv, x.n.lv, x.n.ov, x.pv, x.qv, x.kv, x.av, x.bv, .int .i64 x.oi, .int .i64 x.ni]]) Try.func22 rfl rfl (srQ ?_)
 refine zdt rfl (zct rfl rfl) ?_
 intro b1
 refine zeo 89 2 ?_
 refine zeb (l' := [rowE 89 2 (.slice none 0 0) (([] : List Pt).length) (([] : List Pt).flatMap ptC), boxE b1 #[.int .i64 x.n.ins, x.n.sv, x.n.lv, x.n.ov, x.pv, x.qv, x.kv, x.av, x.bv, .int .i64 x.oi, .int .i64 x.ni] 45]) rfl ?_
 refine zbb 1 rfl (zfl (hvQ rfl (zar (cs := [.int .i64 x.n.ins, x.n.sv, x.n.lv, x.n.ov, x.pv, x.qv, x.kv, x.av, x.bv, .int .i64 x.oi, .int .i64 x.ni]) rfl rfl rfl rfl rfl (zam 1 rfl 0 rfl)) ?_))
 refine zdn rfl (zal rfl rfl (fun w hm => zas (zfg x w (hr.below hm.bel)))) (zbl (fun h3 => ?_) (fun h3 => ?_))
 ·
  have hok := zgb h3
  obtain ⟨ci, cs_, cl, ck, ca, cb, cd, ce⟩ := hok.bnd
  have hi0 := ci.1
  have hi1 := ci.2
  refine zbb 1 rfl (zaq rfl (zcp (srQ (hvQ rfl (fdQ 0 rfl rfl rfl) (hvQ rfl (zar (cs := [.int .i64 x.n.ins, x.n.sv, x.n.lv, x.n.ov]) rfl rfl rfl rfl rfl (zam 1 rfl 0 rfl)) ?_)))))
  refine zdn rfl (zal rfl rfl (fun w hm => zas (zfm x.n w (hr.n.below hm.bel) hok.n.sz))) (zbb 1 rfl (srQ ?_))
  refine zeo 89 2 ?_
  refine zeb (l' := [rowE 89 2 (.slice none 0 0) (([] : List Pt).length) (([] : List Pt).flatMap ptC), rowE 89 2 (.slice none 0 0) (([] : List Pt).length) (([] : List Pt).flatMap ptC), boxE b1 #[.int .i64 x.n.ins, x.n.sv, x.n.lv, x.n.ov, x.pv, x.qv, x.kv, x.av, x.bv, .int .i64 x.oi, .int .i64 x.ni] 45]) rfl ?_
  refine zbb 1 rfl (zfl (hvQ rfl (fdQ 0 rfl rfl rfl) (hvQ rfl (fdQ 1 rfl rfl rfl) (hvQ rfl (zag rfl rfl rfl (zad 2 rfl rfl)) (hvQ rfl (lnQ rfl rfl rfl (zaa ((hr).n.sq.row))) (enQ 1 rfl ?_))))))
  refine zax (zaw ?_)
  refine hc_loop3 (α := Nat) (β := Value) (γ := List Pt) (fun k u zs => [rowE 89 2 u zs.length (zs.flatMap ptC), rowE 89 2 (.slice none 0 0) (([] : List Pt).length) (([] : List Pt).flatMap ptC), boxE b1 #[.int .i64 x.n.ins, x.n.sv, x.n.lv, x.n.ov, x.pv, x.qv, x.kv, x.av, x.bv, .int .i64 x.oi, .int .i64 x.ni] 45]) (fun k u zs => [(0, .agg #[.int .i64 x.n.ins, x.n.sv, x.n.lv, x.n.ov, x.pv, x.qv, x.kv, x.av, x.bv, .int .i64 x.oi, .int .i64 x.ni]), (1, .pointer (some ⟨b1, 0, none⟩)), (2, .slice none 0 0), (3, .int .i64 (x.n.cnt + (zs.length : Int))), (4, u), (9, .bool false), (15, x.n.sv), (16, .int .i64 (x.n.ss.length : Int)), (17, .int .i64 (k : Int))]) (fun k u zs => k ≤ x.n.ss.length ∧ zs = capL x k) (fun k u zs => x.n.ss.length - k) 0 _ [] ⟨Nat.zero_le _, rfl⟩ (zbe [2, 1, 0] _ (sk 3 (congrArg (fun q => some (Value.int .i64 q)) (by simp)) (zai [17, 16, 15, 9, 4] rfl)) rfl) (pfQ rfl) ?_
  intro k u zs hi5
  obtain ⟨hk, hz⟩ := hi5
  have hzl : zs.length = nS x k := by rw [hz]; exact cap_len x k
  refine srQ ?_
  refine zbh rfl rfl rfl rfl rfl rfl (fun h6 => ?_) (fun h6 => ?_)
  ·
   refine ntQ (tcQ rfl (zcp (sbQ (zac (reQ 1 rfl (hvQ rfl (riQ 3 rfl rfl rfl rfl (zaa ((hr).n.sq.row))) ?_))))))
   refine hvQ rfl (zcl (us := [.int .i64 ((x.n.ss.getD k sq0).kd), .int .i64 ((x.n.ss.getD k sq0).it), (x.n.ss.getD k sq0).iv]) rfl rfl rfl rfl (zaa ((hr).n.sq.row)) (by omega) rfl (zde sqC 3 (fun _ => rfl) x.n.ss sq0 (show k < _ by omega) rfl)) (zdt rfl (zbm (z := .agg #[.int .i64 0, .int .i64 0, .slice none 0 0]) rfl rfl) ?_)
   intro b7
   refine zan 1 rfl (zbr (cs' := #[.int .i64 ((x.n.ss.getD k sq0).kd), .int .i64 ((x.n.ss.getD k sq0).it), (x.n.ss.getD k sq0).iv]) (i := 0) (off := 0) (us := [.int .i64 ((x.n.ss.getD k sq0).kd), .int .i64 ((x.n.ss.getD k sq0).it), (x.n.ss.getD k sq0).iv]) rfl rfl rfl rfl rfl rfl rfl (zae rfl (zae rfl (zae (hr.n.sq.at (d := sq0) (k := k) (by omega)).one zbj))) rfl rfl rfl ?_)
   refine ntQ (srQ ?_)
   have hx4 := (hok.n.sq k (by omega)).1.len
   have hnk := nS_le hok.n k (by omega)
   refine hvQ rfl (fdQ 2 rfl rfl rfl) (hvQ rfl (zag rfl rfl rfl (zad 0 rfl rfl)) (hvQ rfl (lnQ rfl rfl rfl (zaa ((hr).n.sq.at (d := sq0) (k := k) (by omega)))) (zbb 1 rfl (zaw ?_))))
   refine hc_loop3 (α := Nat) (β := Value) (γ := List Pt) (fun j u2 ys => [boxE b7 #[.int .i64 ((x.n.ss.getD k sq0).kd), .int .i64 ((x.n.ss.getD k sq0).it), (x.n.ss.getD k sq0).iv] 35, rowE 89 2 u2 ys.length (ys.flatMap ptC), rowE 89 2 (.slice none 0 0) (([] : List Pt).length) (([] : List Pt).flatMap ptC), boxE b1 #[.int .i64 x.n.ins, x.n.sv, x.n.lv, x.n.ov, x.pv, x.qv, x.kv, x.av, x.bv, .int .i64 x.oi, .int .i64 x.ni] 45]) (fun j u2 ys => [(0, .agg #[.int .i64 x.n.ins, x.n.sv, x.n.lv, x.n.ov, x.pv, x.qv, x.kv, x.av, x.bv, .int .i64 x.oi, .int .i64 x.ni]), (1, .pointer (some ⟨b1, 0, none⟩)), (2, .slice none 0 0), (3, .int .i64 (x.n.cnt + (ys.length : Int))), (4, u2), (5, .int .i64 (k : Int)), (6, .pointer (some ⟨b7, 0, none⟩)), (9, .bool false), (15, x.n.sv), (16, .int .i64 (x.n.ss.length : Int)), (17, .int .i64 (k : Int)), (18, .bool true), (24, .int .i64 (((x.n.ss.getD k sq0).xs).length : Int)), (25, .int .i64 (j : Int))]) (fun j u2 ys => j ≤ (x.n.ss.getD k sq0).xs.length ∧ ys = capI x k j) (fun j u2 ys => (x.n.ss.getD k sq0).xs.length - j) 0 _ zs ⟨Nat.zero_le _, by rw [hz, capI_zero]⟩ (saQ rfl) (pfQ rfl) ?_
   intro j u2 ys hi8
   obtain ⟨hj, hy⟩ := hi8
   have hyl : ys.length = nS x k + j := by rw [hy]; exact capI_len x k j
   refine srQ ?_
   refine zbh rfl rfl rfl rfl rfl rfl (fun h9 => ?_) (fun h9 => ?_)
   ·
    refine ntQ (tcQ rfl (zcp (sbQ (zac (reQ 2 rfl (hvQ rfl (fdQ 6 rfl rfl rfl) (hvQ rfl (zag rfl rfl rfl (zad 3 rfl rfl)) ?_)))))))
    refine zan 1 rfl (hvQ rfl (riQ 1 rfl rfl rfl rfl (zaa ((hr).ks))) (hvQ rfl (liQ rfl rfl rfl (zaa ((hr).ks))) (hvQ rfl (zda (cs := #[.int .i64 (x.n.cnt + (ys.length : Int)), .int .i64 (x.ks.getD k 0)]) rfl rfl rfl) ?_)))
    refine zdu rfl (zau (z := .agg #[.int .i64 0, .int .i64 0]) (s := 2) (cs := ([x.n.cnt + (ys.length : Int), x.ks.getD k 0].map (Value.int .i64))) rfl Try.underlying56 rfl (by decide) rfl (by kernel_rfl) rfl) ?_
    intro g10
    refine zcf (i := 2) (z := .agg #[.int .i64 0, .int .i64 0]) (bytes := 16) rfl rfl rfl rfl Try.underlying56 (by kernel_rfl) rfl rfl rfl rfl (zah 0 rfl) (zbw _) (by first | omega | (simp only [List.length_append, List.length_cons, List.length_nil]; omega)) (zbt ys [Pt.mk (x.n.cnt + (ys.length : Int)) (x.ks.getD k 0)]) (zcs ptC ys (Pt.mk (x.n.cnt + (ys.length : Int)) (x.ks.getD k 0)) _ rfl) (fun _ => rfl) ?_
    intro v11
    refine zbb 1 rfl (reQ 1 rfl (hvQ rfl (vaQ rfl rfl rfl) (enQ 1 rfl (zcv (zay (hvQ rfl (vaQ rfl rfl rfl) ?_))))))
    refine enQ 1 rfl ?_
    exact zbi (j + 1) v11 (ys ++ [Pt.mk (x.n.cnt + (ys.length : Int)) (x.ks.getD k 0)]) ⟨by omega, by rw [capI_succ, ← hy]; congr 2; (try simp only [Pt.mk.injEq, and_true]); (try omega)⟩ (by omega) (zbe [2, 1, 0] _ (sk 3 (congrArg (fun q => some (Value.int .i64 q)) (by rw [List.length_append, List.length_singleton]; omega)) (zai [25, 24, 18, 17, 16, 15, 9, 6, 5, 4] rfl)) rfl) (slQ [1, 0, 0, 0] rfl)
   refine ntQ (fcQ rfl ?_)
   refine zaz (zdr ?_)
   refine zaf (zcv (zay (hvQ rfl (vaQ rfl rfl rfl) (enQ 1 rfl ?_))))
   exact zbi (k + 1) u2 ys ⟨by omega, by rw [hy, show j = (x.n.ss.getD k sq0).xs.length by omega]; rfl⟩ (by omega) (saQ rfl) (slQ [1, 0, 0] rfl)
  refine ntQ (fcQ rfl ?_)
  refine zaz (zdr ?_)
  refine zaf (zax (zbc 2 rfl ?_))
  refine zav ?_
  have hE : zs = capR x := by unfold capR; rw [if_pos (zef hok)]; rw [hz, show k = x.n.ss.length by omega]
  exact zdc (post := [rowE 89 2 u zs.length (zs.flatMap ptC)]) rfl rfl (slQ [0] rfl) (by rw [← hE] <;> rfl)
 have hno := zew h3
 refine zbb 1 rfl (zao rfl (srQ ?_))
 refine zeo 89 2 ?_
 refine zeb (l' := [rowE 89 2 (.slice none 0 0) (([] : List Pt).length) (([] : List Pt).flatMap ptC), rowE 89 2 (.slice none 0 0) (([] : List Pt).length) (([] : List Pt).flatMap ptC), boxE b1 #[.int .i64 x.n.ins, x.n.sv, x.n.lv, x.n.ov, x.pv, x.qv, x.kv, x.av, x.bv, .int .i64 x.oi, .int .i64 x.ni] 45]) rfl ?_
 refine zbb 1 rfl ?_
 refine zav (zap ?_)
 have hE : (([] : List Pt)) = capR x := by unfold capR; rw [zdh hno]; rfl
 exact zdc (post := [rowE 89 2 (.slice none 0 0) (([] : List Pt).length) (([] : List Pt).flatMap ptC)]) rfl rfl (slQ [0] rfl) (by rw [← hE] <;> rfl)
theorem implLaunchPoints_ret (x : Td) (w : World) (hr : RdsTd w x) :
   Calls Try.prog 24 #[.agg #[.int .i64 x.n.ins, x.n.sv, x.n.lv, x.n.ov, x.pv, x.qv, x.kv, x.av, x.bv, .int .i64 x.oi, .int .i64 x.ni]] w (Ret w (fun v' post => post = [rowE 89 2 v' (lauR x).length ((lauR x).flatMap ptC)])) := by
 have t1 := sml hr.ks
 have t2 := sml hr.ao
 have t3 := sml hr.bs
 have t4 := hr.dl.small
 have t5 := hr.ds.small
 have t6 := hr.n.sq.small
 have t7 := hr.n.lt.small
 have t8 := sml hr.n.ou
 have hcnt : x.n.cnt = 1 + x.n.ins + x.n.ss.length + x.n.ls.length := rfl
 have hfst : x.n.fst = 1 + x.n.ins + x.n.ss.length := rfl
 refine zbf (N := 44) (args := [.agg #[.int .i64 x.n.ins, x.n.sv, x.n.lv, x.n.ov, x.pv, x.qv, x.kv, x.av, x.bv, .int .i64 x.oi, .int .i64 x.ni]]) Try.func24 rfl rfl (srQ ?_)
 refine zdt rfl (zct rfl rfl) ?_
 intro b1
 refine zeo 89 2 ?_
 refine zeb (l' := [rowE 89 2 (.slice none 0 0) (([] : List Pt).length) (([] : List Pt).flatMap ptC), boxE b1 #[.int .i64 x.n.ins, x.n.sv, x.n.lv, x.n.ov, x.pv, x.qv, x.kv, x.av, x.bv, .int .i64 x.oi, .int .i64 x.ni] 45]) rfl ?_
 refine zbb 1 rfl (zfl (hvQ rfl (zar (cs := [.int .i64 x.n.ins, x.n.sv, x.n.lv, x.n.ov, x.pv, x.qv, x.kv, x.av, x.bv, .int .i64 x.oi, .int .i64 x.ni]) rfl rfl rfl rfl rfl (zam 1 rfl 0 rfl)) ?_))
 refine zdn rfl (zal rfl rfl (fun w hm => zas (zfg x w (hr.below hm.bel)))) (zbl (fun h3 => ?_) (fun h3 => ?_))
 ·
  have hok := zgb h3
  obtain ⟨ci, cs_, cl, ck, ca, cb, cd, ce⟩ := hok.bnd
  have hi0 := ci.1
  have hi1 := ci.2
  refine zbb 1 rfl (zaq rfl (zcp (srQ ?_)))
  refine zeo 89 2 ?_
  refine zeb (l' := [rowE 89 2 (.slice none 0 0) (([] : List Pt).length) (([] : List Pt).flatMap ptC), rowE 89 2 (.slice none 0 0) (([] : List Pt).length) (([] : List Pt).flatMap ptC), boxE b1 #[.int .i64 x.n.ins, x.n.sv, x.n.lv, x.n.ov, x.pv, x.qv, x.kv, x.av, x.bv, .int .i64 x.oi, .int .i64 x.ni] 45]) rfl ?_
  refine zbb 1 rfl (zac (zbc 1 rfl (zaw ?_)))
  refine lkQ3 (α := Nat) (β := Value) (γ := List Pt) [0, 1, 2, 9] rfl (fun k u zs => [rowE 89 2 u zs.length (zs.flatMap ptC), rowE 89 2 (.slice none 0 0) (([] : List Pt).length) (([] : List Pt).flatMap ptC), boxE b1 #[.int .i64 x.n.ins, x.n.sv, x.n.lv, x.n.ov, x.pv, x.qv, x.kv, x.av, x.bv, .int .i64 x.oi, .int .i64 x.ni] 45]) (fun k u zs => [(3, u), (4, .int .i64 (k : Int))]) (fun k u zs => (k : Int) ≤ x.n.ins ∧ zs = lauA k) (fun k u zs => x.n.ins.toNat - k) 0 _ [] ⟨by omega, rfl⟩ (saQ rfl) (pfQ rfl) ?_
  intro k u zs hi5
  obtain ⟨hk, hz⟩ := hi5
  have hzl : zs.length = k := by rw [hz]; exact lauA_len k
  refine zac (zac (reQ 1 rfl (hvQ rfl (fdQ 0 rfl rfl rfl) (hvQ rfl (fdQ 0 rfl rfl rfl) (hvQ rfl (zag rfl rfl rfl (zad 2 rfl rfl)) ?_)))))
  refine zbh rfl rfl rfl rfl rfl rfl (fun h6 => ?_) (fun h6 => ?_)
  ·
   refine (zcb (zax (zao rfl (zgs (zax (zac (zaw (zay (zan 2 rfl (hvQ rfl (vaQ rfl rfl rfl) (hvQ rfl (zda (cs := #[.int .i64 (1 + (k : Int)), .int .i64 0]) rfl rfl rfl) ?_)))))))))))
   refine zdu rfl (zau (z := .agg #[.int .i64 0, .int .i64 0]) (s := 2) (cs := ([1 + (k : Int), 0].map (Value.int .i64))) rfl Try.underlying56 rfl (by decide) rfl (by kernel_rfl) rfl) ?_
   intro g7
   refine zcf (i := 1) (z := .agg #[.int .i64 0, .int .i64 0]) (bytes := 16) rfl rfl rfl rfl Try.underlying56 (by kernel_rfl) rfl rfl rfl rfl (zah 0 rfl) (zbw _) (by first | omega | (simp only [List.length_append, List.length_cons, List.length_nil]; omega)) (zbt zs [Pt.mk (1 + (k : Int)) 0]) (zcs ptC zs (Pt.mk (1 + (k : Int)) 0) _ rfl) (fun _ => rfl) ?_
   intro v8
   refine enQ 1 rfl (zcv (reQ 1 rfl (hvQ rfl (vaQ rfl rfl rfl) (enQ 1 rfl ?_))))
   exact zbi (k + 1) v8 (zs ++ [Pt.mk (1 + (k : Int)) 0]) ⟨by omega, by rw [lauA_succ, hz]⟩ (by omega) (saQ rfl) (slQ [1, 0, 0] rfl)
  refine ntQ (zaq rfl ?_)
  refine zaz (zdr ?_)
  refine zaf (zax (zfl (hvQ rfl (fdQ 6 rfl rfl rfl) (hvQ rfl (zag rfl rfl rfl (zad 2 rfl rfl)) (hvQ rfl (lnQ rfl rfl rfl (zaa ((hr).ks))) (zbb 1 rfl (zaw ?_)))))))
  refine lkQ3 (α := Nat) (β := Value) (γ := List Pt) [0, 1, 2, 9, 14, 24, 25] rfl (fun j u2 ys => [rowE 89 2 u2 ys.length (ys.flatMap ptC), rowE 89 2 (.slice none 0 0) (([] : List Pt).length) (([] : List Pt).flatMap ptC), boxE b1 #[.int .i64 x.n.ins, x.n.sv, x.n.lv, x.n.ov, x.pv, x.qv, x.kv, x.av, x.bv, .int .i64 x.oi, .int .i64 x.ni] 45]) (fun j u2 ys => [(3, u2), (26, .int .i64 (j : Int))]) (fun j u2 ys => j ≤ x.ks.length ∧ ys = lauB x j) (fun j u2 ys => x.ks.length - j) 0 _ zs ⟨Nat.zero_le _, by rw [lauB_zero, hz, show k = x.n.ins.toNat by omega]⟩ (saQ rfl) (pfQ rfl) ?_
  intro j u2 ys hi9
  obtain ⟨hj, hy⟩ := hi9
  have hyl : ys.length = x.n.ins.toNat + j := by rw [hy]; exact lauB_len x j
  refine srQ ?_
  refine zbh rfl rfl rfl rfl rfl rfl (fun h10 => ?_) (fun h10 => ?_)
  ·
   refine ntQ (tcQ rfl (zcp (sbQ (zac (reQ 1 rfl (hvQ rfl (riQ 1 rfl rfl rfl rfl (zaa ((hr).ks))) (hvQ rfl (liQ rfl rfl rfl (zaa ((hr).ks))) ?_)))))))
   refine zan 2 rfl (zcb (zax (zay (zan 1 rfl (hvQ rfl (fdQ 0 rfl rfl rfl) (hvQ rfl (fdQ 0 rfl rfl rfl) (hvQ rfl (zag rfl rfl rfl (zad 2 rfl rfl)) (hvQ rfl (vaQ rfl rfl rfl) (zan 1 rfl (hvQ rfl (vaQ rfl rfl rfl) (zan 1 rfl (hvQ rfl (zda (cs := #[.int .i64 ((1 + x.n.ins) + (j : Int)), .int .i64 (x.ks.getD j 0)]) rfl rfl rfl) ?_))))))))))))
   refine zdu rfl (zau (z := .agg #[.int .i64 0, .int .i64 0]) (s := 2) (cs := ([(1 + x.n.ins) + (j : Int), x.ks.getD j 0].map (Value.int .i64))) rfl Try.underlying56 rfl (by decide) rfl (by kernel_rfl) rfl) ?_
   intro g11
   refine zcf (i := 1) (z := .agg #[.int .i64 0, .int .i64 0]) (bytes := 16) rfl rfl rfl rfl Try.underlying56 (by kernel_rfl) rfl rfl rfl rfl (zah 0 rfl) (zbw _) (by first | omega | (simp only [List.length_append, List.length_cons, List.length_nil]; omega)) (zbt ys [Pt.mk ((1 + x.n.ins) + (j : Int)) (x.ks.getD j 0)]) (zcs ptC ys (Pt.mk ((1 + x.n.ins) + (j : Int)) (x.ks.getD j 0)) _ rfl) (fun _ => rfl) ?_
   intro v12
   refine enQ 1 rfl (zcv (zay (hvQ rfl (vaQ rfl rfl rfl) (enQ 1 rfl ?_))))
   exact zbi (j + 1) v12 (ys ++ [Pt.mk ((1 + x.n.ins) + (j : Int)) (x.ks.getD j 0)]) ⟨by omega, by rw [lauB_succ, hy]⟩ (by omega) (saQ rfl) (slQ [1, 0, 0] rfl)
  refine ntQ (fcQ rfl ?_)
  refine zaz (zdr ?_)
  refine zaf (zax (zbc 2 rfl ?_))
  refine zav ?_
  have hE : ys = lauR x := by unfold lauR; rw [if_pos (zef hok), hy, show j = x.ks.length by omega]
  exact zdc (post := [rowE 89 2 u2 ys.length (ys.flatMap ptC)]) rfl rfl (slQ [0] rfl) (by rw [← hE] <;> rfl)
 have hno := zew h3
 refine zbb 1 rfl (zao rfl (srQ ?_))
 refine zeo 89 2 ?_
 refine zeb (l' := [rowE 89 2 (.slice none 0 0) (([] : List Pt).length) (([] : List Pt).flatMap ptC), rowE 89 2 (.slice none 0 0) (([] : List Pt).length) (([] : List Pt).flatMap ptC), boxE b1 #[.int .i64 x.n.ins, x.n.sv, x.n.lv, x.n.ov, x.pv, x.qv, x.kv, x.av, x.bv, .int .i64 x.oi, .int .i64 x.ni] 45]) rfl ?_
 refine zbb 1 rfl ?_
 refine zav (zap ?_)
 have hE : (([] : List Pt)) = lauR x := by unfold lauR; rw [zdh hno]; rfl
 exact zdc (post := [rowE 89 2 (.slice none 0 0) (([] : List Pt).length) (([] : List Pt).flatMap ptC)]) rfl rfl (slQ [0] rfl) (by rw [← hE] <;> rfl)
open Go.RowKit
theorem hq_oneT {N : Nat} {w0 : World} {l : List HP} {env : List (Nat × Value)} {Q : Post} {ex : Exit} {i e s n : Nat} {v : Value} {xs : List Value} (hi : l[i]? = some (rowE e s v n xs)) (k : v.oneCell' = true → HQ N w0 l env ex Q) : HQ N w0 l env ex Q := fun a w st => k (zbp (st.mem.holds _ (zby hi))).one a w st
theorem implTimingOf_ret (x : Td) (w : World) (hr : RdsTd w x) :
   Calls Try.prog 21 #[.agg #[.int .i64 x.n.ins, x.n.sv, x.n.lv, x.n.ov, x.pv, x.qv, x.kv, x.av, x.bv, .int .i64 x.oi, .int .i64 x.ni]] w (Ret w (fun v' post => ∃ u : Value, v' = .tuple #[.agg #[.int .i64 (nodR x), u], .bool (pB (TdOk x))] ∧ post = [rowE 87 3 u (arcR x).length ((arcR x).flatMap arcC)] ∧ u.oneCell' = true)) := by
 have t1 := sml hr.ks
 have t2 := sml hr.ao
 have t3 := sml hr.bs
 have t4 := hr.dl.small
 have t5 := hr.ds.small
 have t6 := hr.n.sq.small
 have t7 := hr.n.lt.small
 have t8 := sml hr.n.ou
 have hcnt : x.n.cnt = 1 + x.n.ins + x.n.ss.length + x.n.ls.length := rfl
 have hfst : x.n.fst = 1 + x.n.ins + x.n.ss.length := rfl
 refine zbf (N := 103) (args := [.agg #[.int .i64 x.n.ins, x.n.sv, x.n.lv, x.n.ov, x.pv, x.qv, x.kv, x.av, x.bv, .int .i64 x.oi, .int .i64 x.ni]]) Try.func21 rfl rfl (srQ ?_)
 refine zdt rfl (zct rfl rfl) ?_
 intro b1
 refine zdt rfl (zbm (z := .agg #[.int .i64 0, .slice none 0 0]) rfl rfl) ?_
 intro b2
 refine zbb 1 rfl (zfl (hvQ rfl (zar (cs := [.int .i64 x.n.ins, x.n.sv, x.n.lv, x.n.ov, x.pv, x.qv, x.kv, x.av, x.bv, .int .i64 x.oi, .int .i64 x.ni]) rfl rfl rfl rfl rfl (zam 1 rfl 0 rfl)) ?_))
 refine zdn rfl (zal rfl rfl (fun w hm => zas (zfg x w (hr.below hm.bel)))) (zbl (fun h3 => ?_) (fun h3 => ?_))
 ·
  have hok := zgb h3
  obtain ⟨ci, cs_, cl, ck, ca, cb, cd, ce⟩ := hok.bnd
  have hi0 := ci.1
  have hi1 := ci.2
  refine zbb 1 rfl (zaq rfl (zcp (srQ (hvQ rfl (fdQ 0 rfl rfl rfl) (hvQ rfl (zar (cs := [.int .i64 x.n.ins, x.n.sv, x.n.lv, x.n.ov]) rfl rfl rfl rfl rfl (zam 1 rfl 0 rfl)) ?_)))))
  refine zdn rfl (zal rfl rfl (fun w hm => zas (by have h9 := zfm x.n w (hr.n.below hm.bel) hok.n.sz; rw [show x.n.cnt = x.n.cnt + (nS x 0 : Int) from (Int.add_zero _).symm] at h9; exact h9))) (hvQ rfl (zda (cs := #[.int .i64 (x.n.cnt + (nS x 0 : Int)), .slice none 0 0]) rfl rfl rfl) ?_)
  refine zdt rfl (zbm (z := .agg #[.int .i64 0, .slice none 0 0]) rfl rfl) ?_
  intro b4
  refine zbr (cs' := #[.int .i64 (x.n.cnt + (nS x 0 : Int)), .slice none 0 0]) (i := 0) (off := 0) (us := [.int .i64 (x.n.cnt + (nS x 0 : Int)), .slice none 0 0]) rfl rfl rfl rfl rfl rfl rfl (zae rfl (zae rfl zbj)) rfl rfl rfl (ntQ (zfl (hvQ rfl (fdQ 0 rfl rfl rfl) (hvQ rfl (fdQ 2 rfl rfl rfl) (hvQ rfl (zag rfl rfl rfl (zad 2 rfl rfl)) (hvQ rfl (lnQ rfl rfl rfl (zaa ((hr).n.lt.row))) (zbb 1 rfl ?_)))))))
  refine zaw (zdo [rowE 87 3 (.slice none 0 0) (([] : List Arc).length) (([] : List Arc).flatMap arcC), boxE b4 #[.int .i64 (x.n.cnt + (nS x 0 : Int)), .slice none 0 0] 53, boxE b2 #[.int .i64 0, .slice none 0 0] 53, boxE b1 #[.int .i64 x.n.ins, x.n.sv, x.n.lv, x.n.ov, x.pv, x.qv, x.kv, x.av, x.bv, .int .i64 x.oi, .int .i64 x.ni] 45] (fun w hm => hm.nilRow 87 3) ?_)
  refine lkQ3 (α := Nat) (β := Value) (γ := List Arc) [0, 1, 2, 3, 4, 15, 23, 24] rfl (fun i u zs => [rowE 87 3 u zs.length (zs.flatMap arcC), boxE b4 #[.int .i64 (x.n.cnt + (nS x 0 : Int)), u] 53, boxE b2 #[.int .i64 0, .slice none 0 0] 53, boxE b1 #[.int .i64 x.n.ins, x.n.sv, x.n.lv, x.n.ov, x.pv, x.qv, x.kv, x.av, x.bv, .int .i64 x.oi, .int .i64 x.ni] 45]) (fun i u zs => [(25, .int .i64 (i : Int))]) (fun i u zs => i ≤ x.n.ls.length ∧ zs = arcL x i) (fun i u zs => x.n.ls.length - i) 0 _ [] ⟨Nat.zero_le _, rfl⟩ (saQ rfl) (pfQ rfl) ?_
  intro i u zs hi5
  obtain ⟨hi, hz⟩ := hi5
  have hzl : zs.length ≤ 4 * i := by rw [hz]; exact arcL_le hok.n i hi
  refine srQ ?_
  refine zbh rfl rfl rfl rfl rfl rfl (fun h6 => ?_) (fun h6 => ?_)
  ·
   refine ntQ (tcQ rfl (zcp (sbQ (zac (reQ 1 rfl (hvQ rfl (riQ 2 rfl rfl rfl rfl (zaa ((hr).n.lt.row))) ?_))))))
   refine hvQ rfl (zcl (us := [(x.n.ls.getD i lt0).iv, .int .i64 ((x.n.ls.getD i lt0).ma)]) rfl rfl rfl rfl (zaa ((hr).n.lt.row)) (by omega) rfl (zde ltC 2 (fun _ => rfl) x.n.ls lt0 (show i < _ by omega) rfl)) (zdt rfl (zbm (z := .agg #[.slice none 0 0, .int .i64 0]) rfl rfl) ?_)
   intro b7
   refine zan 1 rfl (zbr (cs' := #[(x.n.ls.getD i lt0).iv, .int .i64 ((x.n.ls.getD i lt0).ma)]) (i := 0) (off := 0) (us := [(x.n.ls.getD i lt0).iv, .int .i64 ((x.n.ls.getD i lt0).ma)]) rfl rfl rfl rfl rfl rfl rfl (zae (hr.n.lt.at (d := lt0) (k := i) (by omega)).one (zae rfl zbj)) rfl rfl rfl ?_)
   refine ntQ (srQ ?_)
   have hx4 : (x.n.ls.getD i lt0).xs.length ≤ 4 := (hok.n.lt i (by omega)).1.1
   have hdi : (x.dl.getD i ir0).xs.length = (x.n.ls.getD i lt0).xs.length := by have := (hok.dl i (by omega)).1; omega
   refine hvQ rfl (fdQ 0 rfl rfl rfl) (hvQ rfl (zag rfl rfl rfl (zad 0 rfl rfl)) (hvQ rfl (lnQ rfl rfl rfl (zaa ((hr).n.lt.at (d := lt0) (k := i) (by omega)))) (zbb 1 rfl (zaw ?_))))
   refine lkQ3 (α := Nat) (β := Value) (γ := List Arc) [0, 1, 2, 3, 4, 5, 6, 15, 23, 24, 25, 26, 31, 32] rfl (fun j u2 ys => [boxE b7 #[(x.n.ls.getD i lt0).iv, .int .i64 ((x.n.ls.getD i lt0).ma)] 72, rowE 87 3 u2 ys.length (ys.flatMap arcC), boxE b4 #[.int .i64 (x.n.cnt + (nS x 0 : Int)), u2] 53, boxE b2 #[.int .i64 0, .slice none 0 0] 53, boxE b1 #[.int .i64 x.n.ins, x.n.sv, x.n.lv, x.n.ov, x.pv, x.qv, x.kv, x.av, x.bv, .int .i64 x.oi, .int .i64 x.ni] 45]) (fun j u2 ys => [(33, .int .i64 (j : Int))]) (fun j u2 ys => j ≤ (x.n.ls.getD i lt0).xs.length ∧ ys = arcI x i j) (fun j u2 ys => (x.n.ls.getD i lt0).xs.length - j) 0 _ zs ⟨Nat.zero_le _, by rw [hz, arcI_zero]⟩ (saQ rfl) (pfQ rfl) ?_
   intro j u2 ys hi8
   obtain ⟨hj, hy⟩ := hi8
   have hyl : ys.length ≤ 4 * i + j := by rw [hy, arcI_len, ← hz]; omega
   refine srQ ?_
   refine zbh rfl rfl rfl rfl rfl rfl (fun h9 => ?_) (fun h9 => ?_)
   ·
    refine ntQ (tcQ rfl (zcp (sbQ (zac (reQ 1 rfl (hvQ rfl (riQ 1 rfl rfl rfl rfl (zaa ((hr).n.lt.at (d := lt0) (k := i) (by omega)))) (hvQ rfl (zat (u := .int .i64 (((x.n.ls.getD i lt0).xs).getD j 0)) rfl rfl rfl (zaa ((hr).n.lt.at (d := lt0) (k := i) (by omega))) (zdi (show _ < ((x.n.ls.getD i lt0).xs).length by omega))) ?_)))))))
    refine zbb 2 rfl ?_
    refine zdq rfl 19 [0, 1, 2, 3, 4, 5, 6, 7, 8, 9, 10, 11, 12, 13, 14, 15, 16, 17, 18] (List.take 19 _) (List.drop 19 _) [[], [0], [], [], [3], [4], [], [5, 6], [], [8], [9], [], [10, 11], [12], [], [13, 14], [15], [2, 7, 16], [17]] [38, 39, 40, 41, 42, 43, 44, 45, 46, 47, 48, 49, 50, 51, 52, 53, 54, 55, 56] (fun i_ vs_ v_ p_ => match i_ with | 0 => v_ = .pointer (some ⟨b4, 0 + 1, none⟩) ∧ p_ = [] | 1 => v_ = u2 ∧ p_ = [] | 2 => v_ = .int .i64 (((x.n.ls.getD i lt0).xs).getD j 0) ∧ p_ = [] | 3 => v_ = .pointer (some ⟨b1, 0 + 0, none⟩) ∧ p_ = [] | 4 => v_ = .agg #[.int .i64 x.n.ins, x.n.sv, x.n.lv, x.n.ov] ∧ p_ = [] | 5 => v_ = .int .i64 x.n.fst ∧ p_ = [] | 6 => v_ = .int .i64 (i : Int) ∧ p_ = [] | 7 => v_ = .int .i64 (x.n.fst + (i : Int)) ∧ p_ = [] | 8 => v_ = .pointer (some ⟨b1, 0 + 4, none⟩) ∧ p_ = [] | 9 => v_ = .pointer (some ⟨b1, 0 + 4 + 0, none⟩) ∧ p_ = [] | 10 => v_ = x.pv ∧ p_ = [] | 11 => v_ = .int .i64 (i : Int) ∧ p_ = [] | 12 => v_ = elP x.pv (((i : Int)).toNat * 1) ∧ p_ = [] | 13 => v_ = (x.dl.getD i ir0).v ∧ p_ = [] | 14 => v_ = .int .i64 (j : Int) ∧ p_ = [] | 15 => v_ = elP ((x.dl.getD i ir0).v) (((j : Int)).toNat * 1) ∧ p_ = [] | 16 => v_ = .int .i64 (((x.dl.getD i ir0).xs).getD j 0) ∧ p_ = [] | 17 => v_ = .agg #[.int .i64 (((x.n.ls.getD i lt0).xs).getD j 0), .int .i64 (x.n.fst + (i : Int)), .int .i64 (((x.dl.getD i ir0).xs).getD j 0)] ∧ p_ = [] | 18 => IsRow 87 3 1 ([((x.n.ls.getD i lt0).xs).getD j 0, x.n.fst + (i : Int), ((x.dl.getD i ir0).xs).getD j 0].map (Value.int .i64)) v_ p_ | _ => True) (List.take_append_drop 19 _).symm (by kernel_rfl) (by kernel_rfl) rfl rfl ?_ ?_
    ·
     refine ⟨?_, ?_, ?_, ?_, ?_, ?_, ?_, ?_, ?_, ?_, ?_, ?_, ?_, ?_, ?_, ?_, ?_, ?_, ?_, trivial⟩
     ·
      intro vf pf hR
      exact ovQ rfl (zai [4] rfl) (zbd (fdQ 1 rfl rfl rfl))
     ·
      intro vf pf hR
      have e0 := hR 0 (by decide)
      exact olQ rfl (sk 38 (congrArg some e0.1) (zab _)) (zbd (zag rfl rfl rfl (zad 2 rfl rfl)))
     ·
      intro vf pf hR
      exact ovQ rfl (zai [8] rfl) (zbd (zaj rfl))
     ·
      intro vf pf hR
      exact ovQ rfl (zai [1] rfl) (zbd (fdQ 0 rfl rfl rfl))
     ·
      intro vf pf hR
      have e3 := hR 3 (by decide)
      exact olQ rfl (sk 41 (congrArg some e3.1) (zab _)) (zbd (zar (cs := [.int .i64 x.n.ins, x.n.sv, x.n.lv, x.n.ov]) rfl rfl rfl rfl rfl (zam 4 rfl 0 rfl)))
     ·
      intro vf pf hR
      have e4 := hR 4 (by decide)
      exact olQ rfl (sk 42 (congrArg some e4.1) (zab _)) (zal rfl rfl (fun w hm => zas (zeu x.n w (hr.n.below hm.bel) hok.n.sz)))
     ·
      intro vf pf hR
      exact ovQ rfl (zai [5] rfl) (zbd (zaj rfl))
     ·
      intro vf pf hR
      have e5 := hR 5 (by decide)
      have e6 := hR 6 (by decide)
      exact ovQ rfl (sk 43 (congrArg some e5.1) (sk 44 (congrArg some e6.1) (zab _))) (zbd (vaQ rfl rfl rfl))
     ·
      intro vf pf hR
      exact ovQ rfl (zai [1] rfl) (zbd (fdQ 4 rfl rfl rfl))
     ·
      intro vf pf hR
      have e8 := hR 8 (by decide)
      exact ovQ rfl (sk 46 (congrArg some e8.1) (zab _)) (zbd (fdQ 0 rfl rfl rfl))
     ·
      intro vf pf hR
      have e9 := hR 9 (by decide)
      exact olQ rfl (sk 47 (congrArg some e9.1) (zab _)) (zbd (zag rfl rfl rfl (zad 4 rfl rfl)))
     ·
      intro vf pf hR
      exact ovQ rfl (zai [5] rfl) (zbd (zaj rfl))
     ·
      intro vf pf hR
      have e10 := hR 10 (by decide)
      have e11 := hR 11 (by decide)
      exact olQ rfl (sk 48 (congrArg some e10.1) (sk 49 (congrArg some e11.1) (zab _))) (zbd (riQ 1 rfl rfl rfl rfl (zaa ((hr).dl.row))))
     ·
      intro vf pf hR
      have e12 := hR 12 (by decide)
      exact olQ rfl (sk 50 (congrArg some e12.1) (zab _)) (zbd (zat (u := (x.dl.getD i ir0).v) rfl rfl rfl (zaa ((hr).dl.row)) (zbn irC (fun r => r.v) (fun _ => rfl) x.dl ir0 (show i < _ by omega))))
     ·
      intro vf pf hR
      exact ovQ rfl (zai [7] rfl) (zbd (zaj rfl))
     ·
      intro vf pf hR
      have e13 := hR 13 (by decide)
      have e14 := hR 14 (by decide)
      exact olQ rfl (sk 51 (congrArg some e13.1) (sk 52 (congrArg some e14.1) (zab _))) (zbd (riQ 1 rfl rfl rfl rfl (zaa ((hr).dl.at (d := ir0) (k := i) (by omega)))))
     ·
      intro vf pf hR
      have e15 := hR 15 (by decide)
      exact olQ rfl (sk 53 (congrArg some e15.1) (zab _)) (zbd (zat (u := .int .i64 (((x.dl.getD i ir0).xs).getD j 0)) rfl rfl rfl (zaa ((hr).dl.at (d := ir0) (k := i) (by omega))) (zdi (show _ < ((x.dl.getD i ir0).xs).length by omega))))
     ·
      intro vf pf hR
      have e2 := hR 2 (by decide)
      have e7 := hR 7 (by decide)
      have e16 := hR 16 (by decide)
      exact ovQ rfl (sk 40 (congrArg some e2.1) (sk 45 (congrArg some e7.1) (sk 54 (congrArg some e16.1) (zab _)))) (zbd (zda (cs := #[.int .i64 (((x.n.ls.getD i lt0).xs).getD j 0), .int .i64 (x.n.fst + (i : Int)), .int .i64 (((x.dl.getD i ir0).xs).getD j 0)]) rfl rfl rfl))
     intro vf pf hR
     have e17 := hR 17 (by decide)
     exact olQ rfl (sk 55 (congrArg some e17.1) (zab _)) (zau (z := .agg #[.int .i64 0, .int .i64 0, .int .i64 0]) (s := 3) (cs := ([((x.n.ls.getD i lt0).xs).getD j 0, x.n.fst + (i : Int), ((x.dl.getD i ir0).xs).getD j 0].map (Value.int .i64))) rfl Try.underlying51 rfl (by decide) rfl (by kernel_rfl) rfl)
    intro vf pf hR
    have e1 := hR 1 (by decide)
    have e18 : IsRow 87 3 1 ([((x.n.ls.getD i lt0).xs).getD j 0, x.n.fst + (i : Int), ((x.dl.getD i ir0).xs).getD j 0].map (Value.int .i64)) (vf 18) (pf 18) := hR 18 (by decide)
    obtain ⟨g10, vE18, pE18⟩ := e18
    have q0 := hR 0 (by decide)
    have q1 := hR 1 (by decide)
    have q2 := hR 2 (by decide)
    have q3 := hR 3 (by decide)
    have q4 := hR 4 (by decide)
    have q5 := hR 5 (by decide)
    have q6 := hR 6 (by decide)
    have q7 := hR 7 (by decide)
    have q8 := hR 8 (by decide)
    have q9 := hR 9 (by decide)
    have q10 := hR 10 (by decide)
    have q11 := hR 11 (by decide)
    have q12 := hR 12 (by decide)
    have q13 := hR 13 (by decide)
    have q14 := hR 14 (by decide)
    have q15 := hR 15 (by decide)
    have q16 := hR 16 (by decide)
    have q17 := hR 17 (by decide)
    refine zce (zbe [34, 33, 32, 31, 26, 25, 24, 23, 15, 8, 7, 6, 5, 4, 3, 2, 1, 0] _ (sk 39 (congrArg some e1.1) (sk 56 (congrArg some vE18) (zab _))) rfl) (by simp only [pE18, vE18, q0.2, q1.2, q2.2, q3.2, q4.2, q5.2, q6.2, q7.2, q8.2, q9.2, q10.2, q11.2, q12.2, q13.2, q14.2, q15.2, q16.2, q17.2, fS] <;> rfl) ?_
    simp only [List.drop_succ_cons, List.drop_zero]
    refine zcf (i := 2) (z := .agg #[.int .i64 0, .int .i64 0, .int .i64 0]) (bytes := 24) rfl rfl rfl rfl Try.underlying51 (by kernel_rfl) rfl rfl rfl rfl (zah 0 rfl) (zbw _) (by first | omega | (simp only [List.length_append, List.length_cons, List.length_nil]; omega)) (zbt ys [Arc.mk ((x.n.ls.getD i lt0).xs.getD j 0) (x.n.fst + (i : Int)) ((x.dl.getD i ir0).xs.getD j 0)]) (zcs arcC ys (Arc.mk ((x.n.ls.getD i lt0).xs.getD j 0) (x.n.fst + (i : Int)) ((x.dl.getD i ir0).xs.getD j 0)) _ rfl) (fun _ => rfl) ?_
    intro v11
    refine hvQ rfl (fdQ 1 rfl rfl rfl) (zcr (i := 2) rfl (fun ho12 => ?_))
    refine zed (i := 3) (cs' := #[.int .i64 (x.n.cnt + (nS x 0 : Int)), v11]) rfl rfl rfl rfl rfl rfl ho12 rfl rfl rfl rfl (zcb (zcv (zay (hvQ rfl (vaQ rfl rfl rfl) (enQ 1 rfl ?_)))))
    exact zbi (j + 1) v11 (ys ++ [Arc.mk ((x.n.ls.getD i lt0).xs.getD j 0) (x.n.fst + (i : Int)) ((x.dl.getD i ir0).xs.getD j 0)]) ⟨by omega, by rw [arcI_succ, hy]⟩ (by omega) (saQ rfl) (slQ [1, 0, 0, 0, 0] rfl)
   refine ntQ (fcQ rfl ?_)
   refine zaz (zdr ?_)
   refine zaf (zcv (zay (hvQ rfl (vaQ rfl rfl rfl) (enQ 1 rfl ?_))))
   exact zbi (i + 1) u2 ys ⟨by omega, by rw [hy, show j = (x.n.ls.getD i lt0).xs.length by omega]; rfl⟩ (by omega) (saQ rfl) (slQ [1, 0, 0, 0] rfl)
  refine ntQ (fcQ rfl ?_)
  refine zaz (zdr ?_)
  refine zaf (zax (zfl (hvQ rfl (fdQ 0 rfl rfl rfl) (hvQ rfl (fdQ 1 rfl rfl rfl) (hvQ rfl (zag rfl rfl rfl (zad 3 rfl rfl)) (hvQ rfl (lnQ rfl rfl rfl (zaa ((hr).n.sq.row))) (zbb 1 rfl (zaw ?_))))))))
  refine lkQ3 (α := Nat) (β := Value) (γ := List Arc) [0, 1, 2, 3, 4, 15, 23, 24, 26, 63, 64] rfl (fun k u3 vs => [rowE 87 3 u3 vs.length (vs.flatMap arcC), boxE b4 #[.int .i64 (x.n.cnt + (nS x k : Int)), u3] 53, boxE b2 #[.int .i64 0, .slice none 0 0] 53, boxE b1 #[.int .i64 x.n.ins, x.n.sv, x.n.lv, x.n.ov, x.pv, x.qv, x.kv, x.av, x.bv, .int .i64 x.oi, .int .i64 x.ni] 45]) (fun k u3 vs => [(65, .int .i64 (k : Int))]) (fun k u3 vs => k ≤ x.n.ss.length ∧ vs = arcS x k) (fun k u3 vs => x.n.ss.length - k) 0 _ zs ⟨Nat.zero_le _, by rw [hz, show i = x.n.ls.length by omega]; rfl⟩ (saQ rfl) (pfQ rfl) ?_
  intro k u3 vs hi13
  obtain ⟨hk, hv⟩ := hi13
  have hvl : vs.length ≤ 1600 + nS x k := by rw [hv, arcS_len]; have := arcL_le hok.n x.n.ls.length (Nat.le_refl _); omega
  have hnk := nS_le hok.n k (by omega)
  refine srQ ?_
  refine zbh rfl rfl rfl rfl rfl rfl (fun h14 => ?_) (fun h14 => ?_)
  ·
   refine ntQ (tcQ rfl (zcp (sbQ (zac (reQ 1 rfl (hvQ rfl (riQ 3 rfl rfl rfl rfl (zaa ((hr).n.sq.row))) ?_))))))
   refine hvQ rfl (zcl (us := [.int .i64 ((x.n.ss.getD k sq0).kd), .int .i64 ((x.n.ss.getD k sq0).it), (x.n.ss.getD k sq0).iv]) rfl rfl rfl rfl (zaa ((hr).n.sq.row)) (by omega) rfl (zde sqC 3 (fun _ => rfl) x.n.ss sq0 (show k < _ by omega) rfl)) (zdt rfl (zbm (z := .agg #[.int .i64 0, .int .i64 0, .slice none 0 0]) rfl rfl) ?_)
   intro b15
   refine zan 1 rfl (zbr (cs' := #[.int .i64 ((x.n.ss.getD k sq0).kd), .int .i64 ((x.n.ss.getD k sq0).it), (x.n.ss.getD k sq0).iv]) (i := 0) (off := 0) (us := [.int .i64 ((x.n.ss.getD k sq0).kd), .int .i64 ((x.n.ss.getD k sq0).it), (x.n.ss.getD k sq0).iv]) rfl rfl rfl rfl rfl rfl rfl (zae rfl (zae rfl (zae (hr.n.sq.at (d := sq0) (k := k) (by omega)).one zbj))) rfl rfl rfl ?_)
   refine ntQ (srQ ?_)
   have hx5 := (hok.n.sq k (by omega)).1.len
   have hdk : (x.ds.getD k ir0).xs.length = (x.n.ss.getD k sq0).xs.length := by have := (hok.ds k (by omega)).1; omega
   refine hvQ rfl (fdQ 2 rfl rfl rfl) (hvQ rfl (zag rfl rfl rfl (zad 0 rfl rfl)) (hvQ rfl (lnQ rfl rfl rfl (zaa ((hr).n.sq.at (d := sq0) (k := k) (by omega)))) (zbb 1 rfl (zaw ?_))))
   refine lkQ3 (α := Nat) (β := Value) (γ := List Arc) [0, 1, 2, 3, 4, 9, 10, 15, 23, 24, 26, 63, 64, 65, 66, 71, 72] rfl (fun q u4 ws => [boxE b15 #[.int .i64 ((x.n.ss.getD k sq0).kd), .int .i64 ((x.n.ss.getD k sq0).it), (x.n.ss.getD k sq0).iv] 35, rowE 87 3 u4 ws.length (ws.flatMap arcC), boxE b4 #[.int .i64 (x.n.cnt + ((nS x k + q : Nat) : Int)), u4] 53, boxE b2 #[.int .i64 0, .slice none 0 0] 53, boxE b1 #[.int .i64 x.n.ins, x.n.sv, x.n.lv, x.n.ov, x.pv, x.qv, x.kv, x.av, x.bv, .int .i64 x.oi, .int .i64 x.ni] 45]) (fun q u4 ws => [(73, .int .i64 (q : Int))]) (fun q u4 ws => q ≤ (x.n.ss.getD k sq0).xs.length ∧ ws = arcT x k q) (fun q u4 ws => (x.n.ss.getD k sq0).xs.length - q) 0 _ vs ⟨Nat.zero_le _, by rw [hv, arcT_zero]⟩ (saQ rfl) (pfQ rfl) ?_
   intro q u4 ws hi16
   obtain ⟨hq, hw⟩ := hi16
   have hwl : ws.length ≤ 1600 + nS x k + q := by rw [hw, arcT_len, ← hv]; omega
   refine srQ ?_
   refine zbh rfl rfl rfl rfl rfl rfl (fun h17 => ?_) (fun h17 => ?_)
   ·
    refine ntQ (tcQ rfl (zcp (sbQ (zac (reQ 1 rfl (hvQ rfl (riQ 1 rfl rfl rfl rfl (zaa ((hr).n.sq.at (d := sq0) (k := k) (by omega)))) (hvQ rfl (zat (u := .int .i64 (((x.n.ss.getD k sq0).xs).getD q 0)) rfl rfl rfl (zaa ((hr).n.sq.at (d := sq0) (k := k) (by omega))) (zdi (show _ < ((x.n.ss.getD k sq0).xs).length by omega))) ?_)))))))
    refine zbb 2 rfl (zac ?_)
    refine zdq rfl 16 [0, 1, 2, 3, 4, 5, 6, 7, 8, 9, 10, 11, 12, 13, 14, 15] (List.take 16 _) (List.drop 16 _) [[], [0], [], [], [3], [], [5], [6], [], [7, 8], [9], [], [10, 11], [12], [2, 4, 13], [14]] [78, 79, 80, 81, 82, 83, 84, 85, 86, 87, 88, 89, 90, 91, 92, 93] (fun i_ vs_ v_ p_ => match i_ with | 0 => v_ = .pointer (some ⟨b4, 0 + 1, none⟩) ∧ p_ = [] | 1 => v_ = u4 ∧ p_ = [] | 2 => v_ = .int .i64 (((x.n.ss.getD k sq0).xs).getD q 0) ∧ p_ = [] | 3 => v_ = .pointer (some ⟨b4, 0 + 0, none⟩) ∧ p_ = [] | 4 => v_ = .int .i64 (x.n.cnt + ((nS x k + q : Nat) : Int)) ∧ p_ = [] | 5 => v_ = .pointer (some ⟨b1, 0 + 4, none⟩) ∧ p_ = [] | 6 => v_ = .pointer (some ⟨b1, 0 + 4 + 1, none⟩) ∧ p_ = [] | 7 => v_ = x.qv ∧ p_ = [] | 8 => v_ = .int .i64 (k : Int) ∧ p_ = [] | 9 => v_ = elP x.qv (((k : Int)).toNat * 1) ∧ p_ = [] | 10 => v_ = (x.ds.getD k ir0).v ∧ p_ = [] | 11 => v_ = .int .i64 (q : Int) ∧ p_ = [] | 12 => v_ = elP ((x.ds.getD k ir0).v) (((q : Int)).toNat * 1) ∧ p_ = [] | 13 => v_ = .int .i64 (((x.ds.getD k ir0).xs).getD q 0) ∧ p_ = [] | 14 => v_ = .agg #[.int .i64 (((x.n.ss.getD k sq0).xs).getD q 0), .int .i64 (x.n.cnt + ((nS x k + q : Nat) : Int)), .int .i64 (((x.ds.getD k ir0).xs).getD q 0)] ∧ p_ = [] | 15 => IsRow 87 3 1 ([((x.n.ss.getD k sq0).xs).getD q 0, x.n.cnt + ((nS x k + q : Nat) : Int), ((x.ds.getD k ir0).xs).getD q 0].map (Value.int .i64)) v_ p_ | _ => True) (List.take_append_drop 16 _).symm (by kernel_rfl) (by kernel_rfl) rfl rfl ?_ ?_
    ·
     refine ⟨?_, ?_, ?_, ?_, ?_, ?_, ?_, ?_, ?_, ?_, ?_, ?_, ?_, ?_, ?_, ?_, trivial⟩
     ·
      intro vf pf hR
      exact ovQ rfl (zai [4] rfl) (zbd (fdQ 1 rfl rfl rfl))
     ·
      intro vf pf hR
      have e0 := hR 0 (by decide)
      exact olQ rfl (sk 78 (congrArg some e0.1) (zab _)) (zbd (zag rfl rfl rfl (zad 2 rfl rfl)))
     ·
      intro vf pf hR
      exact ovQ rfl (zai [12] rfl) (zbd (zaj rfl))
     ·
      intro vf pf hR
      exact ovQ rfl (zai [4] rfl) (zbd (fdQ 0 rfl rfl rfl))
     ·
      intro vf pf hR
      have e3 := hR 3 (by decide)
      exact olQ rfl (sk 81 (congrArg some e3.1) (zab _)) (zbd (zag rfl rfl rfl (zad 2 rfl rfl)))
     ·
      intro vf pf hR
      exact ovQ rfl (zai [1] rfl) (zbd (fdQ 4 rfl rfl rfl))
     ·
      intro vf pf hR
      have e5 := hR 5 (by decide)
      exact ovQ rfl (sk 83 (congrArg some e5.1) (zab _)) (zbd (fdQ 1 rfl rfl rfl))
     ·
      intro vf pf hR
      have e6 := hR 6 (by decide)
      exact olQ rfl (sk 84 (congrArg some e6.1) (zab _)) (zbd (zag rfl rfl rfl (zad 4 rfl rfl)))
     ·
      intro vf pf hR
      exact ovQ rfl (zai [9] rfl) (zbd (zaj rfl))
     ·
      intro vf pf hR
      have e7 := hR 7 (by decide)
      have e8 := hR 8 (by decide)
      exact olQ rfl (sk 85 (congrArg some e7.1) (sk 86 (congrArg some e8.1) (zab _))) (zbd (riQ 1 rfl rfl rfl rfl (zaa ((hr).ds.row))))
     ·
      intro vf pf hR
      have e9 := hR 9 (by decide)
      exact olQ rfl (sk 87 (congrArg some e9.1) (zab _)) (zbd (zat (u := (x.ds.getD k ir0).v) rfl rfl rfl (zaa ((hr).ds.row)) (zbn irC (fun r => r.v) (fun _ => rfl) x.ds ir0 (show k < _ by omega))))
     ·
      intro vf pf hR
      exact ovQ rfl (zai [11] rfl) (zbd (zaj rfl))
     ·
      intro vf pf hR
      have e10 := hR 10 (by decide)
      have e11 := hR 11 (by decide)
      exact olQ rfl (sk 88 (congrArg some e10.1) (sk 89 (congrArg some e11.1) (zab _))) (zbd (riQ 1 rfl rfl rfl rfl (zaa ((hr).ds.at (d := ir0) (k := k) (by omega)))))
     ·
      intro vf pf hR
      have e12 := hR 12 (by decide)
      exact olQ rfl (sk 90 (congrArg some e12.1) (zab _)) (zbd (zat (u := .int .i64 (((x.ds.getD k ir0).xs).getD q 0)) rfl rfl rfl (zaa ((hr).ds.at (d := ir0) (k := k) (by omega))) (zdi (show _ < ((x.ds.getD k ir0).xs).length by omega))))
     ·
      intro vf pf hR
      have e2 := hR 2 (by decide)
      have e4 := hR 4 (by decide)
      have e13 := hR 13 (by decide)
      exact ovQ rfl (sk 80 (congrArg some e2.1) (sk 82 (congrArg some e4.1) (sk 91 (congrArg some e13.1) (zab _)))) (zbd (zda (cs := #[.int .i64 (((x.n.ss.getD k sq0).xs).getD q 0), .int .i64 (x.n.cnt + ((nS x k + q : Nat) : Int)), .int .i64 (((x.ds.getD k ir0).xs).getD q 0)]) rfl rfl rfl))
     intro vf pf hR
     have e14 := hR 14 (by decide)
     exact olQ rfl (sk 92 (congrArg some e14.1) (zab _)) (zau (z := .agg #[.int .i64 0, .int .i64 0, .int .i64 0]) (s := 3) (cs := ([((x.n.ss.getD k sq0).xs).getD q 0, x.n.cnt + ((nS x k + q : Nat) : Int), ((x.ds.getD k ir0).xs).getD q 0].map (Value.int .i64))) rfl Try.underlying51 rfl (by decide) rfl (by kernel_rfl) rfl)
    intro vf pf hR
    have e1 := hR 1 (by decide)
    have e15 : IsRow 87 3 1 ([((x.n.ss.getD k sq0).xs).getD q 0, x.n.cnt + ((nS x k + q : Nat) : Int), ((x.ds.getD k ir0).xs).getD q 0].map (Value.int .i64)) (vf 15) (pf 15) := hR 15 (by decide)
    obtain ⟨g18, vE15, pE15⟩ := e15
    have q0 := hR 0 (by decide)
    have q1 := hR 1 (by decide)
    have q2 := hR 2 (by decide)
    have q3 := hR 3 (by decide)
    have q4 := hR 4 (by decide)
    have q5 := hR 5 (by decide)
    have q6 := hR 6 (by decide)
    have q7 := hR 7 (by decide)
    have q8 := hR 8 (by decide)
    have q9 := hR 9 (by decide)
    have q10 := hR 10 (by decide)
    have q11 := hR 11 (by decide)
    have q12 := hR 12 (by decide)
    have q13 := hR 13 (by decide)
    have q14 := hR 14 (by decide)
    refine zce (zbe [74, 73, 72, 71, 66, 65, 64, 63, 26, 24, 23, 15, 12, 11, 10, 9, 4, 3, 2, 1, 0] _ (sk 79 (congrArg some e1.1) (sk 93 (congrArg some vE15) (zab _))) rfl) (by simp only [pE15, vE15, q0.2, q1.2, q2.2, q3.2, q4.2, q5.2, q6.2, q7.2, q8.2, q9.2, q10.2, q11.2, q12.2, q13.2, q14.2, fS] <;> rfl) ?_
    simp only [List.drop_succ_cons, List.drop_zero]
    refine zcf (i := 2) (z := .agg #[.int .i64 0, .int .i64 0, .int .i64 0]) (bytes := 24) rfl rfl rfl rfl Try.underlying51 (by kernel_rfl) rfl rfl rfl rfl (zah 0 rfl) (zbw _) (by first | omega | (simp only [List.length_append, List.length_cons, List.length_nil]; omega)) (zbt ws [Arc.mk ((x.n.ss.getD k sq0).xs.getD q 0) (x.n.cnt + ((nS x k + q : Nat) : Int)) ((x.ds.getD k ir0).xs.getD q 0)]) (zcs arcC ws (Arc.mk ((x.n.ss.getD k sq0).xs.getD q 0) (x.n.cnt + ((nS x k + q : Nat) : Int)) ((x.ds.getD k ir0).xs.getD q 0)) _ rfl) (fun _ => rfl) ?_
    intro v19
    refine hvQ rfl (fdQ 1 rfl rfl rfl) (zcr (i := 2) rfl (fun ho20 => ?_))
    refine zed (i := 3) (cs' := #[.int .i64 (x.n.cnt + ((nS x k + q : Nat) : Int)), v19]) rfl rfl rfl rfl rfl rfl ho20 rfl rfl rfl rfl (ntQ (zay (hvQ rfl (fdQ 0 rfl rfl rfl) (hvQ rfl (zag rfl rfl rfl (zad 3 rfl rfl)) (hvQ rfl (vaQ rfl rfl rfl) (hvQ rfl (fdQ 0 rfl rfl rfl) ?_))))))
    refine zed (i := 3) (cs' := #[.int .i64 ((x.n.cnt + ((nS x k + q : Nat) : Int)) + 1), v19]) rfl rfl rfl rfl rfl rfl rfl rfl rfl rfl rfl (zcb (zcv (zay (hvQ rfl (vaQ rfl rfl rfl) (enQ 1 rfl ?_)))))
    rw [show (x.n.cnt + ((nS x k + q : Nat) : Int)) + 1 = x.n.cnt + ((nS x k + (q + 1) : Nat) : Int) by omega]
    exact zbi (q + 1) v19 (ws ++ [Arc.mk ((x.n.ss.getD k sq0).xs.getD q 0) (x.n.cnt + ((nS x k + q : Nat) : Int)) ((x.ds.getD k ir0).xs.getD q 0)]) ⟨by omega, by rw [arcT_succ, hw]; congr 2; (try simp only [Arc.mk.injEq, and_true, true_and]); (try omega)⟩ (by omega) (saQ rfl) (slQ [1, 0, 0, 0, 0] rfl)
   refine ntQ (fcQ rfl ?_)
   refine zaz (zdr ?_)
   refine zaf (zcv (zay (hvQ rfl (vaQ rfl rfl rfl) (enQ 1 rfl ?_))))
   have hqe : nS x k + q = nS x (k + 1) := by show _ = nS x k + (x.n.ss.getD k sq0).xs.length; omega
   rw [hqe]
   exact zbi (k + 1) u4 ws ⟨by omega, by rw [hw, show q = (x.n.ss.getD k sq0).xs.length by omega]; rfl⟩ (by omega) (saQ rfl) (slQ [1, 0, 0, 0] rfl)
  refine ntQ (fcQ rfl ?_)
  refine zaz (zdr ?_)
  refine zaf (zax (zac (zay (hvQ rfl (zar (cs := [.int .i64 (x.n.cnt + (nS x k : Int)), u3]) rfl rfl rfl rfl rfl (zam 1 rfl 0 rfl)) ?_))))
  refine zcr (i := 0) rfl (fun ho21 => ?_)
  refine zbr (cs' := #[.int .i64 (x.n.cnt + (nS x k : Int)), u3]) (i := 2) (off := 0) (us := [.int .i64 (x.n.cnt + (nS x k : Int)), u3]) rfl rfl rfl rfl rfl rfl rfl (zae rfl (zae ho21 zbj)) rfl rfl rfl (zbb 1 rfl ?_)
  refine zav ?_
  have hke : k = x.n.ss.length := by omega
  have hR1 : vs = arcR x := by unfold arcR; rw [if_pos (zef hok), hv, hke]
  have hR2 : x.n.cnt + (nS x k : Int) = nodR x := by unfold nodR; rw [if_pos (zef hok), hke]
  refine hq_oneT (i := 0) rfl (fun hoA => ?_)
  exact zdp (rs := [.cell 2 53, .tmp 3]) (vs := [.agg #[.int .i64 (x.n.cnt + (nS x k : Int)), u3], .bool true]) (post := [rowE 87 3 u3 vs.length (vs.flatMap arcC)]) rfl ⟨⟨b2, 0, [.int .i64 (x.n.cnt + (nS x k : Int)), u3], rfl, rfl, by kernel_rfl, by kernel_rfl, zam 2 rfl 0 rfl⟩, rfl, trivial⟩ rfl (slQ [0] rfl) ⟨_, by rw [← hR2, zef hok]; rfl, by rw [← hR1], hoA⟩
 have hno := zew h3
 refine zbb 1 rfl (zao rfl (srQ (hvQ rfl (zda (cs := #[.int .i64 0, .slice none 0 0]) rfl rfl rfl) ?_)))
 refine zbr (cs' := #[.int .i64 0, .slice none 0 0]) (i := 0) (off := 0) (us := [.int .i64 0, .slice none 0 0]) rfl rfl rfl rfl rfl rfl rfl (zae rfl (zae rfl zbj)) rfl rfl rfl (zbb 1 rfl ?_)
 refine zav (zap ?_)
 refine zet [rowE 87 3 (.slice none 0 0) (([] : List Arc).length) (([] : List Arc).flatMap arcC), boxE b2 #[.int .i64 0, .slice none 0 0] 53, boxE b1 #[.int .i64 x.n.ins, x.n.sv, x.n.lv, x.n.ov, x.pv, x.qv, x.kv, x.av, x.bv, .int .i64 x.oi, .int .i64 x.ni] 45] (fun w hm => hm.nilRow 87 3) ?_
 have hR1 : arcR x = [] := by unfold arcR; rw [zdh hno]; rfl
 have hR2 : nodR x = 0 := by unfold nodR; rw [zdh hno]; rfl
 exact zdp (rs := [.cell 2 53, .tmp 3]) (vs := [.agg #[.int .i64 0, .slice none 0 0], .bool false]) (post := [rowE 87 3 (.slice none 0 0) (([] : List Arc).length) (([] : List Arc).flatMap arcC)]) rfl ⟨⟨b2, 0, [.int .i64 0, .slice none 0 0], rfl, rfl, by kernel_rfl, by kernel_rfl, zam 1 rfl 0 rfl⟩, rfl, trivial⟩ rfl (slQ [0] rfl) ⟨_, by rw [hR2, zdh hno]; rfl, by rw [hR1], rfl⟩
open Go.RowKit
theorem andOne (x : Int) : bits .and .i64 x 1 = x % 2 := by
  show IntKind.i64.wrap ((BitVec.ofInt 64 x &&& BitVec.ofInt 64 1).toNat : Int) = _
  have h1 : (BitVec.ofInt 64 (1 : Int)).toNat = 1 := by decide
  rw [BitVec.toNat_and, h1, Nat.and_one_is_mod, BitVec.toNat_ofInt]
  have h2 : (x % ((2 ^ 64 : Nat) : Int)).toNat % 2 < 2 := Nat.mod_lt _ (by decide)
  rw [Bit.i64_small _ (by omega)]
  have h3 : ((2 ^ 64 : Nat) : Int) = 18446744073709551616 := by decide
  rw [h3]; omega
def pk (b : Nat → Int) : Nat → Int
  | 0 => 0
  | k + 1 => pk b k + b k * 2 ^ k
theorem pk_ext {b c : Nat → Int} : ∀ k, (∀ q, q < k → b q = c q) → pk b k = pk c k
  | 0, _ => rfl
  | k + 1, h => by unfold pk; rw [pk_ext k (fun q hq => h q (by omega)), h k (by omega)]
theorem two_pow (k : Nat) : (2 : Int) ^ k = ((2 ^ k : Nat) : Int) := by simp
theorem pk_rng {b : Nat → Int} : ∀ k, (∀ q, q < k → b q = 0 ∨ b q = 1) → 0 ≤ pk b k ∧ pk b k < 2 ^ k
  | 0, _ => ⟨Int.le_refl _, by show (0 : Int) < 2 ^ 0; decide⟩
  | k + 1, h => by
    have ih := pk_rng k (fun q hq => h q (by omega))
    have hk := h k (by omega)
    have hp : (0 : Int) < 2 ^ k := Int.pow_pos (by decide)
    unfold pk
    rw [Int.pow_succ]
    rcases hk with e | e <;> rw [e] <;> omega
theorem pow4 {k : Nat} (h : k ≤ 4) : (2 : Int) ^ k ≤ 16 := by
  have h1 : (2 : Nat) ^ k ≤ 2 ^ 4 := Nat.pow_le_pow_right (by decide) h
  have h2 : (2 : Nat) ^ 4 = 16 := by decide
  rw [two_pow]; omega
theorem pk16 {b : Nat → Int} {k : Nat} (h : ∀ q, q < k → b q = 0 ∨ b q = 1) (hk : k ≤ 4) : 0 ≤ pk b k ∧ pk b k < 16 := by
  have := pk_rng k h
  have := pow4 hk
  omega
theorem shl_pk {b : Int} {k : Nat} (hb : b = 0 ∨ b = 1) (hk : k ≤ 4) : IntKind.i64.wrap (b * 2 ^ ((k : Int)).toNat) = b * 2 ^ k := by
  have hp := pow4 hk
  have hp0 : (0 : Int) < 2 ^ k := Int.pow_pos (by decide)
  rw [Int.toNat_natCast]
  exact IntWalk.i64_in _ (by rcases hb with e | e <;> rw [e] <;> omega)
theorem or_pk {b : Nat → Int} {k : Nat} (h : ∀ q, q < k → b q = 0 ∨ b q = 1) (hb : b k = 0 ∨ b k = 1) (hk : k ≤ 4) : bits .or .i64 (pk b k) (b k * 2 ^ k) = pk b (k + 1) := by
  obtain ⟨h0, h1⟩ := pk_rng k h
  have hp := pow4 hk
  have hp0 : (0 : Int) < 2 ^ k := Int.pow_pos (by decide)
  rw [Bit.or_int _ _ h0 (by omega) (by rcases hb with e | e <;> rw [e] <;> omega) (by rcases hb with e | e <;> rw [e] <;> omega)]
  have e2 : (b k * 2 ^ k).toNat = (b k).toNat * 2 ^ k := by
    rcases hb with e | e <;> rw [e]
    · simp
    · rw [Int.one_mul, two_pow, Int.toNat_natCast]; simp
  have hlt : (pk b k).toNat < 2 ^ k := by rw [two_pow] at h1; omega
  rw [e2, Bit.or_join _ _ _ hlt]
  show _ = pk b k + b k * 2 ^ k
  rw [← e2]
  have : 0 ≤ b k * 2 ^ k := by rcases hb with e | e <;> rw [e] <;> omega
  omega
def fzT (C : Nat) (vs : List Int) : List Int := vs ++ List.replicate (C - vs.length) 0
theorem fz_len {C : Nat} {vs : List Int} (h : vs.length ≤ C) : (fzT C vs).length = C := by simp [fzT]; omega
theorem fz_get {C : Nat} {vs : List Int} {k : Nat} (h : k < vs.length) : (fzT C vs).getD k 0 = vs.getD k 0 := zdl h
theorem fz_all {C : Nat} {vs : List Int} (h : vs.length = C) : fzT C vs = vs := by unfold fzT; rw [h, Nat.sub_self]; simp
theorem fz_set {C : Nat} {vs : List Int} {x : Int} {j : Nat} (hj : j = vs.length) (h : vs.length < C) : (fzT C vs).set j x = fzT C (vs ++ [x]) := by
  subst hj
  unfold fzT
  rw [List.set_append_right _ _ (Nat.le_refl _), Nat.sub_self, List.length_append, List.length_singleton, show C - vs.length = (C - (vs.length + 1)) + 1 by omega, List.replicate_succ, List.set_cons_zero]
  simp
theorem fz_one {C : Nat} (h : 1 ≤ C) : List.replicate C (0 : Int) = fzT C [0] := by
  unfold fzT
  obtain ⟨c, rfl⟩ : ∃ c, C = c + 1 := ⟨C - 1, by omega⟩
  simp [List.replicate_succ]
theorem fz_nil (C : Nat) : List.replicate C (0 : Int) = fzT C [] := by simp [fzT]
def pa_o (inp : Int) (k : Nat) : List Int := [0] ++ (List.range k).map (fun k => inp / 2 ^ k % 2)
def pb_o (n : Ln) (st : List Int) (inp : Int) (k : Nat) : List Int := pa_o inp n.ins.toNat ++ (st.take k).map (· % 2)
def lutV (l : Lt) (b : Nat → Int) : Int := l.ma / 2 ^ (pk b l.xs.length).toNat % 2
abbrev atV (v : List Int) (ns : List Int) : Nat → Int := fun j => v.getD (ns.getD j 0).toNat 0
def vlL (n : Ln) (st : List Int) (inp : Int) : Nat → List Int
  | 0 => pb_o n st inp st.length
  | i + 1 => vlL n st inp i ++ [lutV (n.ls.getD i lt0) (atV (vlL n st inp i) (n.ls.getD i lt0).xs)]
abbrev valT (n : Ln) (st : List Int) (inp : Int) : List Int := vlL n st inp n.ls.length
theorem pa_len (inp : Int) (k : Nat) : (pa_o inp k).length = 1 + k := by simp [pa_o]; omega
theorem pa_step (inp : Int) (k : Nat) : pa_o inp k ++ [inp / 2 ^ k % 2] = pa_o inp (k + 1) := by unfold pa_o; rw [List.range_succ, List.map_append, List.append_assoc]; rfl
theorem pb_len (n : Ln) (st : List Int) (inp : Int) {k : Nat} (h : k ≤ st.length) : (pb_o n st inp k).length = 1 + n.ins.toNat + k := by simp [pb_o, pa_len]; omega
theorem pb_zero (n : Ln) (st : List Int) (inp : Int) : pa_o inp n.ins.toNat = pb_o n st inp 0 := by simp [pb_o]
theorem pb_step (n : Ln) (st : List Int) (inp : Int) {k : Nat} (h : k < st.length) : pb_o n st inp k ++ [st.getD k 0 % 2] = pb_o n st inp (k + 1) := by unfold pb_o; rw [zfd 0 h, List.map_append, List.append_assoc]; rfl
theorem zev (n : Ln) (st : List Int) (inp : Int) : ∀ i, (vlL n st inp i).length = 1 + n.ins.toNat + st.length + i
  | 0 => pb_len n st inp (Nat.le_refl _)
  | i + 1 => by unfold vlL; rw [List.length_append, zev n st inp i]; simp; omega
theorem mod01 (x : Int) : x % 2 = 0 ∨ x % 2 = 1 := by omega
theorem lut01 (l : Lt) (b : Nat → Int) : lutV l b = 0 ∨ lutV l b = 1 := mod01 _
theorem b01_mod (xs : List Int) : B01 (xs.map (· % 2)) := fun k hk => by
  rw [List.length_map] at hk
  have : (xs.map (· % 2)).getD k 0 = xs.getD k 0 % 2 := getD_mapv (· % 2) xs k 0
  rw [this]; exact mod01 _
theorem b01_cat {u v : List Int} (h : B01 u) (k : B01 v) : B01 (u ++ v) := fun i hi => by
  by_cases h1 : i < u.length
  · rw [zdl h1]; exact h i h1
  · rw [zdk (by omega)]; exact k _ (by rw [List.length_append] at hi; omega)
theorem pa01 (inp : Int) (k : Nat) : B01 (pa_o inp k) := by
  refine b01_cat (fun i hi => .inl (by simp at hi; subst hi; rfl)) (fun i hi => ?_)
  simp at hi
  have : ((List.range k).map (fun k => inp / 2 ^ k % 2)).getD i 0 = inp / 2 ^ i % 2 := by simp [hi]
  rw [this]; exact mod01 _
theorem pb01 (n : Ln) (st : List Int) (inp : Int) (k : Nat) : B01 (pb_o n st inp k) := b01_cat (pa01 _ _) (b01_mod _)
theorem vl01 (n : Ln) (st : List Int) (inp : Int) : ∀ i, B01 (vlL n st inp i)
  | 0 => pb01 n st inp _
  | i + 1 => by unfold vlL; exact b01_cat (vl01 n st inp i) (fun k hk => by simp at hk; subst hk; exact lut01 _ _)
theorem packNodes_ans (xs ns : List Int) (v u : Value) (w : World) (hv : RdsW w v 1 xs.length (xs.map (Value.int .i64))) (hu : RdsW w u 1 ns.length (ns.map (Value.int .i64))) (hl : ns.length ≤ 4) (hns : ∀ q, q < ns.length → 0 ≤ ns.getD q 0 ∧ ns.getD q 0 < xs.length) (h01 : ∀ q, q < ns.length → atV xs ns q = 0 ∨ atV xs ns q = 1) :
   Calls Try.prog 66 #[v, u] w (Ans w (.int .i64 (pk (atV xs ns) ns.length))) := by
 refine zbf (N := 26) (args := [v, u]) Try.func66 rfl rfl (zbc 1 rfl (zbc 1 rfl (zac ?_)))
 refine zac (reQ 1 rfl (hvQ rfl (lnQ rfl rfl rfl (zaa hu)) (zbb 1 rfl (zaw ?_))))
 refine lkQ2 (α := Nat) (β := Int) [0, 1, 4, 8, 9] rfl (fun k q => []) (fun k q => [(5, .int .i64 q), (10, .int .i64 (k : Int))]) (fun k q => k ≤ ns.length ∧ q = pk (atV xs ns) k) (fun k q => ns.length - k) 0 0 ⟨Nat.zero_le _, rfl⟩ (saQ rfl) (.slnil) ?_
 intro k q hi1
 obtain ⟨hk, hq⟩ := hi1
 refine srQ ?_
 refine zbh rfl rfl rfl rfl rfl rfl (fun h2 => ?_) (fun h2 => ?_)
 ·
  refine ntQ (tcQ rfl (zcp (sbQ (zac (reQ 1 rfl (hvQ rfl (riQ 1 rfl rfl rfl rfl (zaa hu)) (hvQ rfl (liQ rfl rfl rfl (zaa hu)) ?_)))))))
  refine zbb 2 rfl (zay ?_)
  have hnk := hns k (by omega)
  have hbk := h01 k (by omega)
  have hpr := pk16 (b := atV xs ns) (k := k) (fun z hz => h01 z (by omega)) (by omega)
  have hbk2 : xs.getD (ns.getD k 0).toNat 0 = 0 ∨ xs.getD (ns.getD k 0).toNat 0 = 1 := hbk
  have hpw := pow4 (k := k) (by omega)
  have hpw0 : (0 : Int) < 2 ^ k := Int.pow_pos (by decide)
  refine zan 3 rfl (hvQ rfl (riQ 1 rfl rfl rfl rfl (zaa hv)) (hvQ rfl (lzQ rfl rfl rfl (zaa hv)) (zan 1 rfl (hvQ rfl (rv_conv rfl Try.underlying3 Try.underlying111 rfl (IntWalk.u64_in _ (by omega))) (hvQ rfl (zga (k := .i64) (kk := .u64) (r := xs.getD (ns.getD k 0).toNat 0 * 2 ^ k) rfl rfl rfl rfl (by omega) (shl_pk hbk2 (by omega))) ?_)))))
  refine hvQ rfl (zdg rfl (by decide) rfl rfl (r := pk (atV xs ns) (k + 1)) (by rw [hq]; exact or_pk (fun z hz => h01 z (by omega)) hbk (by omega))) (enQ 1 rfl (zcv (zay (hvQ rfl (vaQ rfl rfl rfl) (enQ 1 rfl ?_)))))
  exact zbv (k + 1) _ ⟨by omega, by first | rfl | (rw [hq]; rfl)⟩ (by omega) (saQ rfl) (.slnil)
 refine ntQ (fcQ rfl ?_)
 refine zaz (zdr ?_)
 refine zaf (zax (zbc 2 rfl ?_))
 exact zav (zbg rfl rfl (by rw [hq, show k = ns.length by omega]))
theorem l20Pack_ans (xs ns : List Int) (v u : Value) (w : World) (hv : RdsW w v 1 xs.length (xs.map (Value.int .i64))) (hu : RdsW w u 1 ns.length (ns.map (Value.int .i64))) (hl : ns.length ≤ 4) (hns : ∀ q, q < ns.length → 0 ≤ ns.getD q 0 ∧ ns.getD q 0 < xs.length) (h01 : ∀ q, q < ns.length → atV xs ns q = 0 ∨ atV xs ns q = 1) :
   Calls Try.prog 45 #[v, u] w (Ans w (.int .i64 (pk (atV xs ns) ns.length))) := by
 refine zbf (N := 25) (args := [v, u]) Try.func45 rfl rfl (zbc 1 rfl (zbc 1 rfl (zac ?_)))
 refine zbc 1 rfl (zaw ?_)
 refine lkQ2 (α := Nat) (β := Int) [0, 1, 4] rfl (fun k q => []) (fun k q => [(5, .int .i64 q), (6, .int .i64 (k : Int))]) (fun k q => k ≤ ns.length ∧ q = pk (atV xs ns) k) (fun k q => ns.length - k) 0 0 ⟨Nat.zero_le _, rfl⟩ (saQ rfl) (.slnil) ?_
 intro k q hi1
 obtain ⟨hk, hq⟩ := hi1
 refine zac (zac (reQ 2 rfl (hvQ rfl (lnQ rfl rfl rfl (zaa hu)) ?_)))
 refine zbh rfl rfl rfl rfl rfl rfl (fun h2 => ?_) (fun h2 => ?_)
 ·
  refine ntQ (zao rfl (zcp (sbQ (zay ?_))))
  have hnk := hns k (by omega)
  have hbk := h01 k (by omega)
  have hpr := pk16 (b := atV xs ns) (k := k) (fun z hz => h01 z (by omega)) (by omega)
  have hbk2 : xs.getD (ns.getD k 0).toNat 0 = 0 ∨ xs.getD (ns.getD k 0).toNat 0 = 1 := hbk
  have hpw := pow4 (k := k) (by omega)
  have hpw0 : (0 : Int) < 2 ^ k := Int.pow_pos (by decide)
  refine zan 4 rfl (hvQ rfl (riQ 1 rfl rfl rfl rfl (zaa hu)) (hvQ rfl (liQ rfl rfl rfl (zaa hu)) (hvQ rfl (riQ 1 rfl rfl rfl rfl (zaa hv)) (hvQ rfl (lzQ rfl rfl rfl (zaa hv)) (zan 1 rfl (hvQ rfl (zga (k := .i64) (kk := .i64) (r := xs.getD (ns.getD k 0).toNat 0 * 2 ^ k) rfl rfl rfl rfl (by omega) (shl_pk hbk2 (by omega))) (hvQ rfl (rv_add rfl rfl rfl (by rw [hq]; constructor <;> (rcases hbk2 with e | e <;> rw [e] <;> omega))) (enQ 1 rfl (zcv ?_)))))))))
  refine reQ 1 rfl (hvQ rfl (vaQ rfl rfl rfl) (enQ 1 rfl ?_))
  exact zbv (k + 1) _ ⟨by omega, by first | rfl | (rw [hq]; rfl)⟩ (by omega) (saQ rfl) (.slnil)
 refine ntQ (zaq rfl ?_)
 refine zaz (zdr ?_)
 refine zaf (zax (zbc 2 rfl ?_))
 exact zav (zbg rfl rfl (by rw [hq, show k = ns.length by omega]))
theorem lutValues_ret (n : Ln) (st : List Int) (v : Value) (inp : Int) (w : World) (hr : RdsLn w n) (hst : RdsW w v 1 st.length (st.map (Value.int .i64))) (hok : LnOk n) (hsp : StP n st) :
   Calls Try.prog 39 #[.agg #[.int .i64 n.ins, n.sv, n.lv, n.ov], v, .int .i64 inp] w (Ret w (fun v' post => post = [rowE 3 1 v' (valT n st inp).length ((valT n st inp).map (Value.int .i64))])) := by
 have hso := sml hr.ou
 have hss := hr.sq.small
 have hsl := hr.lt.small
 have hcnt : n.cnt = 1 + n.ins + n.ss.length + n.ls.length := rfl
 have hfst : n.fst = 1 + n.ins + n.ss.length := rfl
 obtain ⟨⟨si0, si1⟩, s2, s3, s4⟩ := hok.sz
 have hsl9 := hsp.len
 refine zbf (N := 73) (args := [.agg #[.int .i64 n.ins, n.sv, n.lv, n.ov], v, .int .i64 inp]) Try.func39 rfl rfl (srQ ?_)
 refine zdt rfl (zct rfl rfl) ?_
 intro b1
 refine zbb 1 rfl (srQ (hvQ rfl (zar (cs := [.int .i64 n.ins, n.sv, n.lv, n.ov]) rfl rfl rfl rfl rfl (zam 0 rfl 0 rfl)) ?_))
 refine zdn rfl (zal rfl rfl (fun w hm => zas (zfm n w (hr.below hm.bel) hok.sz))) (zdu rfl (zei (z := .int .i64 0) (s := 1) (bytes := 8) (n := (List.replicate (n.cnt).toNat (0 : Int)).length) (cs := ((List.replicate (n.cnt).toNat (0 : Int)).map (Value.int .i64))) rfl Try.underlying26 rfl (by decide) rfl rfl (by first | (rw [List.length_replicate]; done) | (rw [List.length_replicate]; omega)) (by first | (rw [List.length_replicate]; done) | (rw [List.length_replicate]; omega)) (by rw [List.length_replicate]; omega) (zez _)) ?_)
 intro g2
 refine zbb 1 rfl (zac (zbc 1 rfl (zaw ?_)))
 refine zfw (α := Nat) (β := List Int) (fun k zs => [rowE 3 1 (.slice (some ⟨g2, 0, none⟩) ((List.replicate (n.cnt).toNat (0 : Int)).length) ((List.replicate (n.cnt).toNat (0 : Int)).length)) zs.length (zs.map (Value.int .i64)), boxE b1 #[.int .i64 n.ins, n.sv, n.lv, n.ov] 28]) (fun k zs => [(0, .agg #[.int .i64 n.ins, n.sv, n.lv, n.ov]), (1, v), (2, .int .i64 inp), (3, .pointer (some ⟨b1, 0, none⟩)), (6, .slice none 0 0), (7, .slice (some ⟨g2, 0, none⟩) ((List.replicate (n.cnt).toNat (0 : Int)).length) ((List.replicate (n.cnt).toNat (0 : Int)).length)), (8, .int .i64 (k : Int))]) (fun k zs => (k : Int) ≤ n.ins ∧ zs = fzT n.cnt.toNat (pa_o inp k)) (fun k zs => (n.ins).toNat - k) 0 (List.replicate n.cnt.toNat (0 : Int)) ⟨by omega, fz_one (by omega)⟩ (saQ rfl) (pfQ rfl) ?_
 intro k zs hi3
 obtain ⟨hk, hz⟩ := hi3
 have hzl : zs.length = n.cnt.toNat := by rw [hz]; exact fz_len (by rw [pa_len]; omega)
 refine zac (zac (reQ 1 rfl (hvQ rfl (fdQ 0 rfl rfl rfl) (hvQ rfl (zag rfl rfl rfl (zad 1 rfl rfl)) ?_))))
 refine zbh rfl rfl rfl rfl rfl rfl (fun h4 => ?_) (fun h4 => ?_)
 ·
  refine ntQ (zao rfl (zcp (sbQ (reQ 2 rfl (hvQ rfl (vaQ rfl rfl rfl) (zan 2 rfl (hvQ rfl (rv_conv rfl Try.underlying3 Try.underlying111 rfl (IntWalk.u64_in _ (by omega))) (hvQ rfl (rv_shr rfl rfl rfl (by omega)) ?_))))))))
  refine hvQ rfl (zdg rfl (by decide) rfl rfl (r := inp / 2 ^ k % 2) (by rw [show (inp / 2 ^ ((k : Int)).toNat : Int) = inp / 2 ^ k by rw [Int.toNat_natCast]]; exact andOne _)) (hvQ rfl (riQ 1 rfl rfl rfl rfl (zah 0 rfl)) ?_)
  refine zcw (i := 0) (n' := (zs.set ((1 + (k : Int)).toNat) (inp / 2 ^ k % 2)).length) (xs' := ((zs.set ((1 + (k : Int)).toNat) (inp / 2 ^ k % 2)).map (Value.int .i64))) rfl rfl rfl rfl rfl rfl rfl rfl (by first | omega | (simp only [List.length_set]; omega)) List.length_set.symm (zdb _ _ _) rfl (zcb (zcv (reQ 1 rfl (hvQ rfl (vaQ rfl rfl rfl) (enQ 1 rfl ?_)))))
  exact zbv (k + 1) (zs.set ((1 + (k : Int)).toNat) (inp / 2 ^ k % 2)) ⟨by omega, by rw [hz]; exact (fz_set (by rw [pa_len]; omega) (by rw [pa_len]; omega)).trans (by rw [pa_step])⟩ (by omega) (saQ rfl) (pfQ rfl)
 refine ntQ (zaq rfl ?_)
 refine zaz (zdr ?_)
 refine zaf (zax (zac (zac (reQ 1 rfl (hvQ rfl (lnQ rfl rfl rfl (zaa hst)) (zbb 1 rfl (zaw ?_)))))))
 refine zfw (α := Nat) (β := List Int) (fun k zs => [rowE 3 1 (.slice (some ⟨g2, 0, none⟩) ((List.replicate (n.cnt).toNat (0 : Int)).length) ((List.replicate (n.cnt).toNat (0 : Int)).length)) zs.length (zs.map (Value.int .i64)), boxE b1 #[.int .i64 n.ins, n.sv, n.lv, n.ov] 28]) (fun k zs => [(0, .agg #[.int .i64 n.ins, n.sv, n.lv, n.ov]), (1, v), (2, .int .i64 inp), (3, .pointer (some ⟨b1, 0, none⟩)), (6, .slice none 0 0), (7, .slice (some ⟨g2, 0, none⟩) ((List.replicate (n.cnt).toNat (0 : Int)).length) ((List.replicate (n.cnt).toNat (0 : Int)).length)), (19, .bool false), (31, v), (32, .int .i64 (st.length : Int)), (33, .int .i64 (k : Int))]) (fun k zs => (k : Int) ≤ (st.length : Int) ∧ zs = fzT n.cnt.toNat (pb_o n st inp k)) (fun k zs => ((st.length : Int)).toNat - k) 0 zs ⟨by omega, by rw [hz, show k = n.ins.toNat by omega, pb_zero n st inp]⟩ (saQ rfl) (pfQ rfl) ?_
 intro k zs hi5
 obtain ⟨hk, hz⟩ := hi5
 have hzl : zs.length = n.cnt.toNat := by rw [hz]; exact fz_len (by rw [pb_len n st inp (by omega)]; omega)
 refine srQ ?_
 refine zbh rfl rfl rfl rfl rfl rfl (fun h6 => ?_) (fun h6 => ?_)
 ·
  refine ntQ (tcQ rfl (zcp (sbQ (zac (reQ 1 rfl (hvQ rfl (riQ 1 rfl rfl rfl rfl (zaa hst)) (hvQ rfl (liQ rfl rfl rfl (zaa hst)) ?_)))))))
  refine zbb 2 rfl (reQ 1 rfl (hvQ rfl (fdQ 0 rfl rfl rfl) (hvQ rfl (zag rfl rfl rfl (zad 1 rfl rfl)) (hvQ rfl (vaQ rfl rfl rfl) (zan 1 rfl (hvQ rfl (vaQ rfl rfl rfl) (zan 1 rfl (hvQ rfl (zdg rfl (by decide) rfl rfl (r := (st.getD k 0) % 2) (andOne _)) (hvQ rfl (riQ 1 rfl rfl rfl rfl (zah 0 rfl)) ?_)))))))))
  refine zcw (i := 0) (n' := (zs.set (((1 + n.ins) + (k : Int)).toNat) ((st.getD k 0) % 2)).length) (xs' := ((zs.set (((1 + n.ins) + (k : Int)).toNat) ((st.getD k 0) % 2)).map (Value.int .i64))) rfl rfl rfl rfl rfl rfl rfl rfl (by first | omega | (simp only [List.length_set]; omega)) List.length_set.symm (zdb _ _ _) rfl (zcb (zcv (zay (hvQ rfl (vaQ rfl rfl rfl) (enQ 1 rfl ?_)))))
  exact zbv (k + 1) (zs.set (((1 + n.ins) + (k : Int)).toNat) ((st.getD k 0) % 2)) ⟨by omega, by rw [hz]; exact (fz_set (by rw [pb_len n st inp (by omega)]; omega) (by rw [pb_len n st inp (by omega)]; omega)).trans (by rw [pb_step n st inp (by omega)])⟩ (by omega) (saQ rfl) (pfQ rfl)
 refine ntQ (fcQ rfl ?_)
 refine zaz (zdr ?_)
 refine zaf (zax (zfl (hvQ rfl (fdQ 2 rfl rfl rfl) (hvQ rfl (zag rfl rfl rfl (zad 1 rfl rfl)) (hvQ rfl (lnQ rfl rfl rfl (zaa ((hr).lt.row))) (zbb 1 rfl (zaw ?_)))))))
 refine zfw (α := Nat) (β := List Int) (fun k zs => [rowE 3 1 (.slice (some ⟨g2, 0, none⟩) ((List.replicate (n.cnt).toNat (0 : Int)).length) ((List.replicate (n.cnt).toNat (0 : Int)).length)) zs.length (zs.map (Value.int .i64)), boxE b1 #[.int .i64 n.ins, n.sv, n.lv, n.ov] 28]) (fun k zs => [(0, .agg #[.int .i64 n.ins, n.sv, n.lv, n.ov]), (1, v), (2, .int .i64 inp), (3, .pointer (some ⟨b1, 0, none⟩)), (6, .slice none 0 0), (7, .slice (some ⟨g2, 0, none⟩) ((List.replicate (n.cnt).toNat (0 : Int)).length) ((List.replicate (n.cnt).toNat (0 : Int)).length)), (19, .bool false), (31, v), (32, .int .i64 (st.length : Int)), (34, .bool false), (49, n.lv), (50, .int .i64 (n.ls.length : Int)), (51, .int .i64 (k : Int))]) (fun k zs => (k : Int) ≤ (n.ls.length : Int) ∧ zs = fzT n.cnt.toNat (vlL n st inp k)) (fun k zs => ((n.ls.length : Int)).toNat - k) 0 zs ⟨by omega, by rw [hz, show k = st.length by omega]; rfl⟩ (saQ rfl) (pfQ rfl) ?_
 intro k zs hi7
 obtain ⟨hk, hz⟩ := hi7
 have hzl : zs.length = n.cnt.toNat := by rw [hz]; exact fz_len (by rw [zev n st inp k]; omega)
 refine srQ ?_
 refine zbh rfl rfl rfl rfl rfl rfl (fun h8 => ?_) (fun h8 => ?_)
 ·
  refine ntQ (tcQ rfl (zcp (sbQ (zac (reQ 1 rfl (hvQ rfl (riQ 2 rfl rfl rfl rfl (zaa ((hr).lt.row))) ?_))))))
  refine hvQ rfl (zcl (us := [(n.ls.getD k lt0).iv, .int .i64 ((n.ls.getD k lt0).ma)]) rfl rfl rfl rfl (zaa ((hr).lt.row)) (by omega) rfl (zde ltC 2 (fun _ => rfl) n.ls lt0 (show k < _ by omega) rfl)) (zdt rfl (zbm (z := .agg #[.slice none 0 0, .int .i64 0]) rfl rfl) ?_)
  intro b9
  refine zan 1 rfl (zbr (cs' := #[(n.ls.getD k lt0).iv, .int .i64 ((n.ls.getD k lt0).ma)]) (i := 0) (off := 0) (us := [(n.ls.getD k lt0).iv, .int .i64 ((n.ls.getD k lt0).ma)]) rfl rfl rfl rfl rfl rfl rfl (zae (hr.lt.at (d := lt0) (k := k) (by omega)).one (zae rfl zbj)) rfl rfl rfl ?_)
  refine ntQ ?_
  have hvl := zev n st inp k
  have hltk := hok.lt k (by omega)
  have hx4 : (n.ls.getD k lt0).xs.length ≤ 4 := hltk.1.1
  have hxr : ∀ q, q < (n.ls.getD k lt0).xs.length → 0 ≤ (n.ls.getD k lt0).xs.getD q 0 ∧ (n.ls.getD k lt0).xs.getD q 0 < zs.length := fun q hq => by have := hltk.1.2 q hq; omega
  have hat : ∀ q, q < (n.ls.getD k lt0).xs.length → atV zs (n.ls.getD k lt0).xs q = atV (vlL n st inp k) (n.ls.getD k lt0).xs q := fun q hq => by have := hltk.1.2 q hq; show zs.getD _ 0 = _; rw [hz]; exact fz_get (by omega)
  have hx01 : ∀ q, q < (n.ls.getD k lt0).xs.length → atV zs (n.ls.getD k lt0).xs q = 0 ∨ atV zs (n.ls.getD k lt0).xs q = 1 := fun q hq => by rw [hat q hq]; have := hltk.1.2 q hq; exact vl01 n st inp k _ (by omega)
  have hpk := pk16 (b := atV zs (n.ls.getD k lt0).xs) (k := (n.ls.getD k lt0).xs.length) hx01 hx4
  have hpe : pk (atV zs (n.ls.getD k lt0).xs) (n.ls.getD k lt0).xs.length = pk (atV (vlL n st inp k) (n.ls.getD k lt0).xs) (n.ls.getD k lt0).xs.length := pk_ext _ hat
  refine zbk 15 [[], [], [1], [], [2, 3], [], [5], [], [], [8], [7, 9], [10], [6, 11], [12], [0, 4]] [56, 57, 58, 59, 60, 61, 62, 63, 64, 65, 66, 67, 68, 69, 70] [.slice (some ⟨g2, 0, none⟩) ((List.replicate (n.cnt).toNat (0 : Int)).length) ((List.replicate (n.cnt).toNat (0 : Int)).length), .agg #[.int .i64 n.ins, n.sv, n.lv, n.ov], .int .i64 n.fst, .int .i64 (k : Int), .int .i64 (n.fst + (k : Int)), .pointer (some ⟨b9, 0 + 1, none⟩), .int .i64 ((n.ls.getD k lt0).ma), .slice (some ⟨g2, 0, none⟩) ((List.replicate (n.cnt).toNat (0 : Int)).length) ((List.replicate (n.cnt).toNat (0 : Int)).length), .pointer (some ⟨b9, 0 + 0, none⟩), (n.ls.getD k lt0).iv, .int .i64 (pk (atV zs ((n.ls.getD k lt0).xs)) ((n.ls.getD k lt0).xs).length), .int .u64 (pk (atV zs ((n.ls.getD k lt0).xs)) ((n.ls.getD k lt0).xs).length), .int .i64 (((n.ls.getD k lt0).ma) / 2 ^ (pk (atV zs ((n.ls.getD k lt0).xs)) ((n.ls.getD k lt0).xs).length : Int).toNat), .int .i64 ((((n.ls.getD k lt0).ma) / 2 ^ (pk (atV zs ((n.ls.getD k lt0).xs)) ((n.ls.getD k lt0).xs).length : Int).toNat) % 2), elP (.slice (some ⟨g2, 0, none⟩) ((List.replicate (n.cnt).toNat (0 : Int)).length) ((List.replicate (n.cnt).toNat (0 : Int)).length)) ((n.fst + (k : Int)).toNat * 1)] (by kernel_rfl) rfl ?_ ?_
  ·
   exact ⟨iaQ rfl (zaj rfl) rfl, iaQ rfl (zar (cs := [.int .i64 n.ins, n.sv, n.lv, n.ov]) rfl rfl rfl rfl rfl (zam 2 rfl 0 rfl)) rfl, .inl ⟨rfl, zal rfl rfl (fun w hm => zas (zeu n w (hr.below hm.bel) hok.sz))⟩, iaQ rfl (zaj rfl) rfl, iaQ rfl (vaQ rfl rfl rfl) rfl, iaQ rfl (fdQ 1 rfl rfl rfl) rfl, iaQ rfl (zag rfl rfl rfl (zad 0 rfl rfl)) rfl, iaQ rfl (zaj rfl) rfl, iaQ rfl (fdQ 0 rfl rfl rfl) rfl, iaQ rfl (zag rfl rfl rfl (zad 0 rfl rfl)) rfl, .inl ⟨rfl, zal rfl rfl (fun w hm => zas (packNodes_ans zs ((n.ls.getD k lt0).xs) _ _ w ((zah 1 rfl) w hm) ((zaa ((hr).lt.at (d := lt0) (k := k) (by omega))) w hm) hx4 hxr hx01))⟩, iaQ rfl (rv_conv rfl Try.underlying3 Try.underlying111 rfl (IntWalk.u64_in _ (by omega))) rfl, iaQ rfl (rv_shr rfl rfl rfl (by omega)) rfl, iaQ rfl (zdg rfl (by decide) rfl rfl (r := (((n.ls.getD k lt0).ma) / 2 ^ (pk (atV zs ((n.ls.getD k lt0).xs)) ((n.ls.getD k lt0).xs).length : Int).toNat) % 2) (andOne _)) rfl, iaQ rfl (riQ 1 rfl rfl rfl rfl (zah 1 rfl)) rfl, trivial⟩
  simp only [List.drop_succ_cons, List.drop_zero]
  refine zcw (i := 1) (n' := (zs.set ((n.fst + (k : Int)).toNat) ((((n.ls.getD k lt0).ma) / 2 ^ (pk (atV zs ((n.ls.getD k lt0).xs)) ((n.ls.getD k lt0).xs).length : Int).toNat) % 2)).length) (xs' := ((zs.set ((n.fst + (k : Int)).toNat) ((((n.ls.getD k lt0).ma) / 2 ^ (pk (atV zs ((n.ls.getD k lt0).xs)) ((n.ls.getD k lt0).xs).length : Int).toNat) % 2)).map (Value.int .i64))) rfl rfl rfl rfl rfl rfl rfl rfl (by first | omega | (simp only [List.length_set]; omega)) List.length_set.symm (zdb _ _ _) rfl (zcb (zcv (zay (hvQ rfl (vaQ rfl rfl rfl) (enQ 1 rfl ?_)))))
  exact zbv (k + 1) (zs.set ((n.fst + (k : Int)).toNat) ((((n.ls.getD k lt0).ma) / 2 ^ (pk (atV zs ((n.ls.getD k lt0).xs)) ((n.ls.getD k lt0).xs).length : Int).toNat) % 2)) ⟨by omega, by rw [hz]; exact (fz_set (by rw [zev n st inp k]; omega) (by rw [zev n st inp k]; omega)).trans (congrArg (fun q => fzT n.cnt.toNat (vlL n st inp k ++ [q])) (show _ / 2 ^ (pk (atV (fzT n.cnt.toNat (vlL n st inp k)) (n.ls.getD k lt0).xs) _).toNat % 2 = lutV _ _ by rw [← hz, hpe]; rfl))⟩ (by omega) (saQ rfl) (slQ [1, 0] rfl)
 refine ntQ (fcQ rfl ?_)
 refine zaz (zdr ?_)
 refine zaf (zax (zbc 2 rfl ?_))
 exact zav (zdc (post := [rowE 3 1 (.slice (some ⟨g2, 0, none⟩) ((List.replicate (n.cnt).toNat (0 : Int)).length) ((List.replicate (n.cnt).toNat (0 : Int)).length)) zs.length (zs.map (Value.int .i64))]) rfl rfl (slQ [0] rfl) (by rw [hz, show k = n.ls.length by omega, fz_all (by rw [zev n st inp]; omega)]))
theorem specLutValues_ret (n : Ln) (st : List Int) (v : Value) (inp : Int) (w : World) (hr : RdsLn w n) (hst : RdsW w v 1 st.length (st.map (Value.int .i64))) (hok : LnOk n) (hsp : StP n st) :
   Calls Try.prog 17 #[.agg #[.int .i64 n.ins, n.sv, n.lv, n.ov], v, .int .i64 inp] w (Ret w (fun v' post => post = [rowE 3 1 v' (valT n st inp).length ((valT n st inp).map (Value.int .i64))])) := by
 have hso := sml hr.ou
 have hss := hr.sq.small
 have hsl := hr.lt.small
 have hcnt : n.cnt = 1 + n.ins + n.ss.length + n.ls.length := rfl
 have hfst : n.fst = 1 + n.ins + n.ss.length := rfl
 obtain ⟨⟨si0, si1⟩, s2, s3, s4⟩ := hok.sz
 have hsl9 := hsp.len
 refine zbf (N := 81) (args := [.agg #[.int .i64 n.ins, n.sv, n.lv, n.ov], v, .int .i64 inp]) Try.func17 rfl rfl (srQ ?_)
 refine zdt rfl (zct rfl rfl) ?_
 intro b1
 refine zbb 1 rfl (zfl (hvQ rfl (zar (cs := [.int .i64 n.ins, n.sv, n.lv, n.ov]) rfl rfl rfl rfl rfl (zam 0 rfl 0 rfl)) (zan 1 rfl ?_)))
 refine zdn rfl (zal rfl rfl (fun w hm => zas (by have h9 := specLutStateOk_ans n st _ w (hr.below hm.bel) (hst.below hm.bel); rw [zef ⟨hok, hsp⟩] at h9; exact h9))) (zbb 1 rfl (zaq rfl (zcp (srQ (hvQ rfl (zar (cs := [.int .i64 n.ins, n.sv, n.lv, n.ov]) rfl rfl rfl rfl rfl (zam 0 rfl 0 rfl)) ?_)))))
 refine zdn rfl (zal rfl rfl (fun w hm => zas (by have h9 := specLutNodes_ans n w (hr.below hm.bel); rw [lnN_yes hok.sz] at h9; exact h9))) (zdu rfl (zei (z := .int .i64 0) (s := 1) (bytes := 8) (n := (List.replicate (n.cnt).toNat (0 : Int)).length) (cs := ((List.replicate (n.cnt).toNat (0 : Int)).map (Value.int .i64))) rfl Try.underlying26 rfl (by decide) rfl rfl (by first | (rw [List.length_replicate]; done) | (rw [List.length_replicate]; omega)) (by first | (rw [List.length_replicate]; done) | (rw [List.length_replicate]; omega)) (by rw [List.length_replicate]; omega) (zez _)) ?_)
 intro g2
 refine zbb 1 rfl (zac (zbc 1 rfl (zaw ?_)))
 refine zfw (α := Nat) (β := List Int) (fun k zs => [rowE 3 1 (.slice (some ⟨g2, 0, none⟩) ((List.replicate (n.cnt).toNat (0 : Int)).length) ((List.replicate (n.cnt).toNat (0 : Int)).length)) zs.length (zs.map (Value.int .i64)), boxE b1 #[.int .i64 n.ins, n.sv, n.lv, n.ov] 28]) (fun k zs => [(0, .agg #[.int .i64 n.ins, n.sv, n.lv, n.ov]), (1, v), (2, .int .i64 inp), (3, .pointer (some ⟨b1, 0, none⟩)), (6, .slice none 0 0), (7, .slice (some ⟨g2, 0, none⟩) ((List.replicate (n.cnt).toNat (0 : Int)).length) ((List.replicate (n.cnt).toNat (0 : Int)).length)), (8, .int .i64 (k : Int)), (14, .bool false)]) (fun k zs => (k : Int) ≤ n.ins ∧ zs = fzT n.cnt.toNat (pa_o inp k)) (fun k zs => (n.ins).toNat - k) 0 (List.replicate n.cnt.toNat (0 : Int)) ⟨by omega, fz_one (by omega)⟩ (saQ rfl) (pfQ rfl) ?_
 intro k zs hi3
 obtain ⟨hk, hz⟩ := hi3
 have hzl : zs.length = n.cnt.toNat := by rw [hz]; exact fz_len (by rw [pa_len]; omega)
 refine zac (zac (reQ 1 rfl (hvQ rfl (fdQ 0 rfl rfl rfl) (hvQ rfl (zag rfl rfl rfl (zad 1 rfl rfl)) ?_))))
 refine zbh rfl rfl rfl rfl rfl rfl (fun h4 => ?_) (fun h4 => ?_)
 ·
  refine (zcb (zax (zao rfl (zgs (zax (zac (zaw (zay (zan 2 rfl (hvQ rfl (vaQ rfl rfl rfl) (zan 2 rfl (hvQ rfl (rv_shr rfl rfl rfl (by omega)) (hvQ rfl (zdg rfl (by decide) rfl rfl (r := inp / 2 ^ k % 2) (by rw [show (inp / 2 ^ ((k : Int)).toNat : Int) = inp / 2 ^ k by rw [Int.toNat_natCast]]; exact andOne _)) ?_)))))))))))))
  refine hvQ rfl (riQ 1 rfl rfl rfl rfl (zah 0 rfl)) (zcw (i := 0) (n' := (zs.set ((1 + (k : Int)).toNat) (inp / 2 ^ k % 2)).length) (xs' := ((zs.set ((1 + (k : Int)).toNat) (inp / 2 ^ k % 2)).map (Value.int .i64))) rfl rfl rfl rfl rfl rfl rfl rfl (by first | omega | (simp only [List.length_set]; omega)) List.length_set.symm (zdb _ _ _) rfl ?_)
  refine zcb (zcv (reQ 1 rfl (hvQ rfl (vaQ rfl rfl rfl) (enQ 1 rfl ?_))))
  exact zbv (k + 1) (zs.set ((1 + (k : Int)).toNat) (inp / 2 ^ k % 2)) ⟨by omega, by rw [hz]; exact (fz_set (by rw [pa_len]; omega) (by rw [pa_len]; omega)).trans (by rw [pa_step])⟩ (by omega) (saQ rfl) (pfQ rfl)
 refine ntQ (zaq rfl ?_)
 refine zaz (zdr ?_)
 refine zaf (zax (zac (zbc 1 rfl (zaw ?_))))
 refine zfw (α := Nat) (β := List Int) (fun k zs => [rowE 3 1 (.slice (some ⟨g2, 0, none⟩) ((List.replicate (n.cnt).toNat (0 : Int)).length) ((List.replicate (n.cnt).toNat (0 : Int)).length)) zs.length (zs.map (Value.int .i64)), boxE b1 #[.int .i64 n.ins, n.sv, n.lv, n.ov] 28]) (fun k zs => [(0, .agg #[.int .i64 n.ins, n.sv, n.lv, n.ov]), (1, v), (2, .int .i64 inp), (3, .pointer (some ⟨b1, 0, none⟩)), (6, .slice none 0 0), (7, .slice (some ⟨g2, 0, none⟩) ((List.replicate (n.cnt).toNat (0 : Int)).length) ((List.replicate (n.cnt).toNat (0 : Int)).length)), (9, .int .i64 (k : Int)), (14, .bool false), (22, .bool false)]) (fun k zs => (k : Int) ≤ (st.length : Int) ∧ zs = fzT n.cnt.toNat (pb_o n st inp k)) (fun k zs => ((st.length : Int)).toNat - k) 0 zs ⟨by omega, by rw [hz, show k = n.ins.toNat by omega, pb_zero n st inp]⟩ (saQ rfl) (pfQ rfl) ?_
 intro k zs hi5
 obtain ⟨hk, hz⟩ := hi5
 have hzl : zs.length = n.cnt.toNat := by rw [hz]; exact fz_len (by rw [pb_len n st inp (by omega)]; omega)
 refine zac (zac (reQ 2 rfl (hvQ rfl (lnQ rfl rfl rfl (zaa hst)) ?_)))
 refine zbh rfl rfl rfl rfl rfl rfl (fun h6 => ?_) (fun h6 => ?_)
 ·
  refine ntQ (zao rfl (zcp (sbQ ?_)))
  refine zbk 12 [[], [], [1], [2], [], [3, 4], [], [], [6, 7], [8], [9], [0, 5]] [39, 40, 41, 42, 43, 44, 45, 46, 47, 48, 49, 50] [.slice (some ⟨g2, 0, none⟩) ((List.replicate (n.cnt).toNat (0 : Int)).length) ((List.replicate (n.cnt).toNat (0 : Int)).length), .pointer (some ⟨b1, 0 + 0, none⟩), .int .i64 n.ins, .int .i64 (1 + n.ins), .int .i64 (k : Int), .int .i64 ((1 + n.ins) + (k : Int)), v, .int .i64 (k : Int), elP v (((k : Int)).toNat * 1), .int .i64 (st.getD k 0), .int .i64 ((st.getD k 0) % 2), elP (.slice (some ⟨g2, 0, none⟩) ((List.replicate (n.cnt).toNat (0 : Int)).length) ((List.replicate (n.cnt).toNat (0 : Int)).length)) (((1 + n.ins) + (k : Int)).toNat * 1)] (by kernel_rfl) rfl ?_ ?_
  ·
   exact ⟨iaQ rfl (zaj rfl) rfl, iaQ rfl (fdQ 0 rfl rfl rfl) rfl, iaQ rfl (zag rfl rfl rfl (zad 1 rfl rfl)) rfl, iaQ rfl (vaQ rfl rfl rfl) rfl, iaQ rfl (zaj rfl) rfl, iaQ rfl (vaQ rfl rfl rfl) rfl, iaQ rfl (zaj rfl) rfl, iaQ rfl (zaj rfl) rfl, iaQ rfl (riQ 1 rfl rfl rfl rfl (zaa hst)) rfl, iaQ rfl (liQ rfl rfl rfl (zaa hst)) rfl, iaQ rfl (zdg rfl (by decide) rfl rfl (r := (st.getD k 0) % 2) (andOne _)) rfl, iaQ rfl (riQ 1 rfl rfl rfl rfl (zah 0 rfl)) rfl, trivial⟩
  simp only [List.drop_succ_cons, List.drop_zero]
  refine zcw (i := 0) (n' := (zs.set (((1 + n.ins) + (k : Int)).toNat) ((st.getD k 0) % 2)).length) (xs' := ((zs.set (((1 + n.ins) + (k : Int)).toNat) ((st.getD k 0) % 2)).map (Value.int .i64))) rfl rfl rfl rfl rfl rfl rfl rfl (by first | omega | (simp only [List.length_set]; omega)) List.length_set.symm (zdb _ _ _) rfl (zcb (zcv (reQ 1 rfl (hvQ rfl (vaQ rfl rfl rfl) (enQ 1 rfl ?_)))))
  exact zbv (k + 1) (zs.set (((1 + n.ins) + (k : Int)).toNat) ((st.getD k 0) % 2)) ⟨by omega, by rw [hz]; exact (fz_set (by rw [pb_len n st inp (by omega)]; omega) (by rw [pb_len n st inp (by omega)]; omega)).trans (by rw [pb_step n st inp (by omega)])⟩ (by omega) (saQ rfl) (pfQ rfl)
 refine ntQ (zaq rfl ?_)
 refine zaz (zdr ?_)
 refine zaf (zax (zac (zbc 1 rfl (zaw ?_))))
 refine zfw (α := Nat) (β := List Int) (fun k zs => [rowE 3 1 (.slice (some ⟨g2, 0, none⟩) ((List.replicate (n.cnt).toNat (0 : Int)).length) ((List.replicate (n.cnt).toNat (0 : Int)).length)) zs.length (zs.map (Value.int .i64)), boxE b1 #[.int .i64 n.ins, n.sv, n.lv, n.ov] 28]) (fun k zs => [(0, .agg #[.int .i64 n.ins, n.sv, n.lv, n.ov]), (1, v), (2, .int .i64 inp), (3, .pointer (some ⟨b1, 0, none⟩)), (6, .slice none 0 0), (7, .slice (some ⟨g2, 0, none⟩) ((List.replicate (n.cnt).toNat (0 : Int)).length) ((List.replicate (n.cnt).toNat (0 : Int)).length)), (10, .int .i64 (k : Int)), (14, .bool false), (22, .bool false), (36, .bool false)]) (fun k zs => (k : Int) ≤ (n.ls.length : Int) ∧ zs = fzT n.cnt.toNat (vlL n st inp k)) (fun k zs => ((n.ls.length : Int)).toNat - k) 0 zs ⟨by omega, by rw [hz, show k = st.length by omega]; rfl⟩ (saQ rfl) (pfQ rfl) ?_
 intro k zs hi7
 obtain ⟨hk, hz⟩ := hi7
 have hzl : zs.length = n.cnt.toNat := by rw [hz]; exact fz_len (by rw [zev n st inp k]; omega)
 refine zac (zac (reQ 1 rfl (hvQ rfl (fdQ 2 rfl rfl rfl) (hvQ rfl (zag rfl rfl rfl (zad 1 rfl rfl)) (hvQ rfl (lnQ rfl rfl rfl (zaa ((hr).lt.row))) ?_)))))
 refine zbh rfl rfl rfl rfl rfl rfl (fun h8 => ?_) (fun h8 => ?_)
 ·
  refine ntQ (zao rfl (zcp (sbQ ?_)))
  have hvl := zev n st inp k
  have hltk := hok.lt k (by omega)
  have hx4 : (n.ls.getD k lt0).xs.length ≤ 4 := hltk.1.1
  have hxr : ∀ q, q < (n.ls.getD k lt0).xs.length → 0 ≤ (n.ls.getD k lt0).xs.getD q 0 ∧ (n.ls.getD k lt0).xs.getD q 0 < zs.length := fun q hq => by have := hltk.1.2 q hq; omega
  have hat : ∀ q, q < (n.ls.getD k lt0).xs.length → atV zs (n.ls.getD k lt0).xs q = atV (vlL n st inp k) (n.ls.getD k lt0).xs q := fun q hq => by have := hltk.1.2 q hq; show zs.getD _ 0 = _; rw [hz]; exact fz_get (by omega)
  have hx01 : ∀ q, q < (n.ls.getD k lt0).xs.length → atV zs (n.ls.getD k lt0).xs q = 0 ∨ atV zs (n.ls.getD k lt0).xs q = 1 := fun q hq => by rw [hat q hq]; have := hltk.1.2 q hq; exact vl01 n st inp k _ (by omega)
  have hpk := pk16 (b := atV zs (n.ls.getD k lt0).xs) (k := (n.ls.getD k lt0).xs.length) hx01 hx4
  have hpe : pk (atV zs (n.ls.getD k lt0).xs) (n.ls.getD k lt0).xs.length = pk (atV (vlL n st inp k) (n.ls.getD k lt0).xs) (n.ls.getD k lt0).xs.length := pk_ext _ hat
  refine zbk 22 [[], [], [1], [], [2, 3], [], [5], [], [6, 7], [8], [9], [], [], [12], [], [13, 14], [15], [16], [11, 17], [10, 18], [19], [0, 4]] [58, 59, 60, 61, 62, 63, 64, 65, 66, 67, 68, 69, 70, 71, 72, 73, 74, 75, 76, 77, 78, 79] [.slice (some ⟨g2, 0, none⟩) ((List.replicate (n.cnt).toNat (0 : Int)).length) ((List.replicate (n.cnt).toNat (0 : Int)).length), .agg #[.int .i64 n.ins, n.sv, n.lv, n.ov], .int .i64 n.fst, .int .i64 (k : Int), .int .i64 (n.fst + (k : Int)), .pointer (some ⟨b1, 0 + 2, none⟩), n.lv, .int .i64 (k : Int), elP n.lv (((k : Int)).toNat * 2), elP n.lv (((k : Int)).toNat * 2 + 1), .int .i64 ((n.ls.getD k lt0).ma), .slice (some ⟨g2, 0, none⟩) ((List.replicate (n.cnt).toNat (0 : Int)).length) ((List.replicate (n.cnt).toNat (0 : Int)).length), .pointer (some ⟨b1, 0 + 2, none⟩), n.lv, .int .i64 (k : Int), elP n.lv (((k : Int)).toNat * 2), elP n.lv (((k : Int)).toNat * 2 + 0), (n.ls.getD k lt0).iv, .int .i64 (pk (atV zs ((n.ls.getD k lt0).xs)) ((n.ls.getD k lt0).xs).length), .int .i64 (((n.ls.getD k lt0).ma) / 2 ^ (pk (atV zs ((n.ls.getD k lt0).xs)) ((n.ls.getD k lt0).xs).length : Int).toNat), .int .i64 ((((n.ls.getD k lt0).ma) / 2 ^ (pk (atV zs ((n.ls.getD k lt0).xs)) ((n.ls.getD k lt0).xs).length : Int).toNat) % 2), elP (.slice (some ⟨g2, 0, none⟩) ((List.replicate (n.cnt).toNat (0 : Int)).length) ((List.replicate (n.cnt).toNat (0 : Int)).length)) ((n.fst + (k : Int)).toNat * 1)] (by kernel_rfl) rfl ?_ ?_
  ·
   exact ⟨iaQ rfl (zaj rfl) rfl, iaQ rfl (zar (cs := [.int .i64 n.ins, n.sv, n.lv, n.ov]) rfl rfl rfl rfl rfl (zam 1 rfl 0 rfl)) rfl, .inl ⟨rfl, zal rfl rfl (fun w hm => zas (zfn n w (hr.below hm.bel) hok.sz))⟩, iaQ rfl (zaj rfl) rfl, iaQ rfl (vaQ rfl rfl rfl) rfl, iaQ rfl (fdQ 2 rfl rfl rfl) rfl, iaQ rfl (zag rfl rfl rfl (zad 1 rfl rfl)) rfl, iaQ rfl (zaj rfl) rfl, iaQ rfl (riQ 2 rfl rfl rfl rfl (zaa ((hr).lt.row))) rfl, iaQ rfl (zbx (k0 := 1) rfl rfl rfl (zaa ((hr).lt.row)) (by omega)) rfl, iaQ rfl (zat (u := .int .i64 ((n.ls.getD k lt0).ma)) rfl rfl rfl (zaa ((hr).lt.row)) ((zcy ltC 2 (fun _ => rfl) n.ls lt0 (show k < _ by omega) (by decide)).trans rfl)) rfl, iaQ rfl (zaj rfl) rfl, iaQ rfl (fdQ 2 rfl rfl rfl) rfl, iaQ rfl (zag rfl rfl rfl (zad 1 rfl rfl)) rfl, iaQ rfl (zaj rfl) rfl, iaQ rfl (riQ 2 rfl rfl rfl rfl (zaa ((hr).lt.row))) rfl, iaQ rfl (zbx (k0 := 0) rfl rfl rfl (zaa ((hr).lt.row)) (by omega)) rfl, iaQ rfl (zat (u := (n.ls.getD k lt0).iv) rfl rfl rfl (zaa ((hr).lt.row)) ((zcy ltC 2 (fun _ => rfl) n.ls lt0 (show k < _ by omega) (by decide)).trans rfl)) rfl, .inl ⟨rfl, zal rfl rfl (fun w hm => zas (l20Pack_ans zs ((n.ls.getD k lt0).xs) _ _ w ((zah 0 rfl) w hm) ((zaa ((hr).lt.at (d := lt0) (k := k) (by omega))) w hm) hx4 hxr hx01))⟩, iaQ rfl (rv_shr rfl rfl rfl (by omega)) rfl, iaQ rfl (zdg rfl (by decide) rfl rfl (r := (((n.ls.getD k lt0).ma) / 2 ^ (pk (atV zs ((n.ls.getD k lt0).xs)) ((n.ls.getD k lt0).xs).length : Int).toNat) % 2) (andOne _)) rfl, iaQ rfl (riQ 1 rfl rfl rfl rfl (zah 0 rfl)) rfl, trivial⟩
  simp only [List.drop_succ_cons, List.drop_zero]
  refine zcw (i := 0) (n' := (zs.set ((n.fst + (k : Int)).toNat) ((((n.ls.getD k lt0).ma) / 2 ^ (pk (atV zs ((n.ls.getD k lt0).xs)) ((n.ls.getD k lt0).xs).length : Int).toNat) % 2)).length) (xs' := ((zs.set ((n.fst + (k : Int)).toNat) ((((n.ls.getD k lt0).ma) / 2 ^ (pk (atV zs ((n.ls.getD k lt0).xs)) ((n.ls.getD k lt0).xs).length : Int).toNat) % 2)).map (Value.int .i64))) rfl rfl rfl rfl rfl rfl rfl rfl (by first | omega | (simp only [List.length_set]; omega)) List.length_set.symm (zdb _ _ _) rfl (zcb (zcv (reQ 1 rfl (hvQ rfl (vaQ rfl rfl rfl) (enQ 1 rfl ?_)))))
  exact zbv (k + 1) (zs.set ((n.fst + (k : Int)).toNat) ((((n.ls.getD k lt0).ma) / 2 ^ (pk (atV zs ((n.ls.getD k lt0).xs)) ((n.ls.getD k lt0).xs).length : Int).toNat) % 2)) ⟨by omega, by rw [hz]; exact (fz_set (by rw [zev n st inp k]; omega) (by rw [zev n st inp k]; omega)).trans (congrArg (fun q => fzT n.cnt.toNat (vlL n st inp k ++ [q])) (show _ / 2 ^ (pk (atV (fzT n.cnt.toNat (vlL n st inp k)) (n.ls.getD k lt0).xs) _).toNat % 2 = lutV _ _ by rw [← hz, hpe]; rfl))⟩ (by omega) (saQ rfl) (pfQ rfl)
 refine ntQ (zaq rfl ?_)
 refine zaz (zdr ?_)
 refine zaf (zax (zbc 2 rfl ?_))
 exact zav (zdc (post := [rowE 3 1 (.slice (some ⟨g2, 0, none⟩) ((List.replicate (n.cnt).toNat (0 : Int)).length) ((List.replicate (n.cnt).toNat (0 : Int)).length)) zs.length (zs.map (Value.int .i64))]) rfl rfl (slQ [0] rfl) (by rw [hz, show k = n.ls.length by omega, fz_all (by rw [zev n st inp]; omega)]))
open Go.RowKit
theorem zgd {a b c : Int} (h1 : b ≤ a) (h2 : a ≤ c) (w : World) : Calls Try.prog 40 #[.int .i64 a, .int .i64 b, .int .i64 c] w (Ans w (.bool true)) := by
  rw [← inR_true h1 h2]; exact zgo (zea _ _ _ w)
theorem implTimingOk_yes (n : Int) (gs : List Arc) (v : Value) (w : World) (hg : GOk n gs) (hv : RdsW w v 3 gs.length (gs.flatMap arcC)) :
   Calls Try.prog 26 #[.agg #[.int .i64 n, v]] w (Ans w (.bool true)) := by
 obtain ⟨hn0, hn1, hgl, -⟩ := id hg
 refine zbf (N := 45) (args := [.agg #[.int .i64 n, v]]) Try.func26 rfl rfl (srQ ?_)
 refine zdt rfl (zct rfl rfl) ?_
 intro b1
 refine zbb 1 rfl (zfl (hvQ rfl (fdQ 0 rfl rfl rfl) (hvQ rfl (zag rfl rfl rfl (zad 0 rfl rfl)) ?_)))
 refine zdn rfl (zal rfl rfl (fun w hm => zas (zgd (by omega) (by omega) w))) (zan 2 rfl (hvQ rfl (fdQ 1 rfl rfl rfl) (hvQ rfl (zag rfl rfl rfl (zad 0 rfl rfl)) (hvQ rfl (lnQ rfl rfl rfl (zaa hv)) ?_))))
 refine zfa rfl rfl rfl rfl rfl rfl (fun h2 => absurd h2 (by omega)) (fun h2 => ?_)
 refine zbb 1 rfl (zaq rfl (zcp (zfl (hvQ rfl (fdQ 1 rfl rfl rfl) (hvQ rfl (zag rfl rfl rfl (zad 0 rfl rfl)) (hvQ rfl (lnQ rfl rfl rfl (zaa hv)) (zan 1 rfl ?_)))))))
 refine ntQ (zaw ?_)
 refine lkQ1 (α := Nat) [0, 1, 2, 14, 16, 17] rfl (fun j => [boxE b1 #[.int .i64 n, v] 53]) (fun j => [(18, .int .i64 (j : Int))]) (fun j => j ≤ gs.length) (fun j => gs.length - j) 0 (Nat.zero_le _) (saQ rfl) (pfQ rfl) ?_
 intro j hi3
 have hj := hi3
 refine srQ ?_
 refine zbh rfl rfl rfl rfl rfl rfl (fun h4 => ?_) (fun h4 => ?_)
 ·
  refine ntQ (tcQ rfl (zcp (sbQ (srQ (hvQ rfl (riQ 3 rfl rfl rfl rfl (zaa hv)) ?_)))))
  refine hvQ rfl (zcl (us := [.int .i64 ((gs.getD j arc0).f), .int .i64 ((gs.getD j arc0).t), .int .i64 ((gs.getD j arc0).d)]) rfl rfl rfl rfl (zaa hv) (by omega) rfl (zde arcC 3 (fun _ => rfl) gs arc0 (show j < _ by omega) rfl)) (zdt rfl (zbm (z := .agg #[.int .i64 0, .int .i64 0, .int .i64 0]) rfl rfl) ?_)
  intro b5
  refine zbr (cs' := #[.int .i64 ((gs.getD j arc0).f), .int .i64 ((gs.getD j arc0).t), .int .i64 ((gs.getD j arc0).d)]) (i := 0) (off := 0) (us := [.int .i64 ((gs.getD j arc0).f), .int .i64 ((gs.getD j arc0).t), .int .i64 ((gs.getD j arc0).d)]) rfl rfl rfl rfl rfl rfl rfl (zae rfl (zae rfl (zae rfl zbj))) rfl rfl rfl (ntQ (srQ ?_))
  have haj := hg.at (i := j) (by omega)
  refine hvQ rfl (fdQ 1 rfl rfl rfl) (hvQ rfl (zag rfl rfl rfl (zad 0 rfl rfl)) (hvQ rfl (fdQ 0 rfl rfl rfl) (hvQ rfl (zag rfl rfl rfl (zad 1 rfl rfl)) (hvQ rfl (vsQ rfl rfl rfl) ?_))))
  refine zdn rfl (zal rfl rfl (fun w hm => zas (zgd (by omega) (by omega) w))) (zan 2 rfl (hvQ rfl (fdQ 0 rfl rfl rfl) (hvQ rfl (zag rfl rfl rfl (zad 0 rfl rfl)) (hvQ rfl (fdQ 1 rfl rfl rfl) (hvQ rfl (zag rfl rfl rfl (zad 0 rfl rfl)) (hvQ rfl (vsQ rfl rfl rfl) ?_))))))
  refine zdn rfl (zal rfl rfl (fun w hm => zas (zgd (by omega) (by omega) w))) (zan 3 rfl (hvQ rfl (fdQ 2 rfl rfl rfl) (hvQ rfl (zag rfl rfl rfl (zad 0 rfl rfl)) ?_)))
  refine zdn rfl (zal rfl rfl (fun w hm => zas (zgd (by omega) (by omega) w))) (zbb 2 rfl (fsQ rfl (zcv (zay (hvQ rfl (vaQ rfl rfl rfl) (enQ 1 rfl ?_))))))
  exact zck (j + 1) (by omega) (by omega) (saQ rfl) (slQ [1] rfl)
 refine ntQ (fcQ rfl ?_)
 refine zaz (zdr ?_)
 refine zaf (zax (zbc 1 rfl ?_))
 exact zav (zbg rfl rfl rfl)
theorem arcsInto_ret (n : Int) (gs : List Arc) (v : Value) (w : World) (hg : GOk n gs) (hv : RdsW w v 3 gs.length (gs.flatMap arcC)) :
   Calls Try.prog 70 #[.agg #[.int .i64 n, v]] w (Ret w (fun v' post => ∃ rs : List ARow, post = [intoE v' rs] ∧ IntoOk gs n rs)) := by
 obtain ⟨hn0, hn1, hgl, -⟩ := id hg
 refine zbf (N := 30) (args := [.agg #[.int .i64 n, v]]) Try.func70 rfl rfl (srQ ?_)
 refine zdt rfl (zct rfl rfl) ?_
 intro b1
 refine zbb 1 rfl (srQ (hvQ rfl (fdQ 0 rfl rfl rfl) (hvQ rfl (zag rfl rfl rfl (zad 0 rfl rfl)) ?_)))
 refine zdu rfl (zei (z := .slice none 0 0) (s := 1) (bytes := 24) (n := (List.replicate (n).toNat row0).length) (cs := ((List.replicate (n).toNat row0).flatMap rowC)) rfl Try.underlying114 rfl (by decide) rfl rfl (by first | (rw [List.length_replicate]; done) | (rw [List.length_replicate]; omega)) (by first | (rw [List.length_replicate]; done) | (rw [List.length_replicate]; omega)) (by rw [List.length_replicate]; omega) (zey rowC 1 (fun _ => rfl) row0 _ rfl (n).toNat)) ?_
 intro g2
 refine zbb 1 rfl (zfl (hvQ rfl (fdQ 1 rfl rfl rfl) (hvQ rfl (zag rfl rfl rfl (zad 1 rfl rfl)) (hvQ rfl (lnQ rfl rfl rfl (zaa hv)) (zbb 1 rfl ?_)))))
 refine zaw (zdo [bigE ((List.replicate n.toNat row0).map aPart), rowE 51 1 (.slice (some ⟨g2, 0, none⟩) ((List.replicate (n).toNat row0).length) ((List.replicate (n).toNat row0).length)) ((List.replicate (n).toNat row0).length) ((List.replicate (n).toNat row0).flatMap rowC), boxE b1 #[.int .i64 n, v] 53] (fun w hm => by have h2 := (hm.bigNil 87 3 n.toNat).big; rw [show List.replicate n.toNat (rowE 87 3 (.slice none 0 0) 0 []) = (List.replicate n.toNat row0).map aPart by rw [List.map_replicate]; rfl] at h2; exact h2) ?_)
 refine lkQ2 (α := Nat) (β := List ARow) [0, 1, 2, 3, 10, 11] rfl (fun j rs => [bigE (rs.map aPart), rowE 51 1 (.slice (some ⟨g2, 0, none⟩) ((List.replicate (n).toNat row0).length) ((List.replicate (n).toNat row0).length)) rs.length (rs.flatMap rowC), boxE b1 #[.int .i64 n, v] 53]) (fun j rs => [(12, .int .i64 (j : Int))]) (fun j rs => j ≤ gs.length ∧ IntoOk (gs.take j) n rs) (fun j rs => gs.length - j) 0 _ ⟨by omega, by simp, fun k hk => by rw [List.getD_eq_getElem?_getD, List.getElem?_replicate]; simp only [List.length_replicate] at hk; rw [if_pos hk]; rfl⟩ (saQ rfl) (pfQ rfl) ?_
 intro j rs hi3
 obtain ⟨hj, hri⟩ := hi3
 have hrl := hri.1
 refine srQ ?_
 refine zbh rfl rfl rfl rfl rfl rfl (fun h4 => ?_) (fun h4 => ?_)
 ·
  refine ntQ (tcQ rfl (zcp (sbQ (srQ ?_))))
  have haj := hg.at (i := j) (by omega)
  have hfl : (rs.getD (((gs.getD j arc0).t).toNat) row0).ar.length ≤ 2000 := by rw [hri.2 (((gs.getD j arc0).t).toNat) (by omega)]; have := into_len (gs.take j) (((gs.getD j arc0).t).toNat); rw [List.length_take] at this; omega
  refine zfr [rowE 87 3 ((rs.getD (((gs.getD j arc0).t).toNat) row0).v) (((rs.getD (((gs.getD j arc0).t).toNat) row0).ar).length) (((rs.getD (((gs.getD j arc0).t).toNat) row0).ar).flatMap arcC), bigE ((rs.map aPart).eraseIdx (((gs.getD j arc0).t).toNat)), rowE 51 1 (.slice (some ⟨g2, 0, none⟩) ((List.replicate (n).toNat row0).length) ((List.replicate (n).toNat row0).length)) rs.length (rs.flatMap rowC), boxE b1 #[.int .i64 n, v] 53] (conv_focus (j := (((gs.getD j arc0).t).toNat)) (by rw [List.getElem?_map, getD_at (d := row0) (by rw [hri.1]; omega)]; rfl)) ?_
  refine hvQ rfl (riQ 3 rfl rfl rfl rfl (zaa hv)) (hvQ rfl (zcl (us := [.int .i64 ((gs.getD j arc0).f), .int .i64 ((gs.getD j arc0).t), .int .i64 ((gs.getD j arc0).d)]) rfl rfl rfl rfl (zaa hv) (by omega) rfl (zde arcC 3 (fun _ => rfl) gs arc0 (show j < _ by omega) rfl)) ?_)
  refine zdt rfl (zbm (z := .agg #[.int .i64 0, .int .i64 0, .int .i64 0]) rfl rfl) ?_
  intro b5
  refine zbr (cs' := #[.int .i64 ((gs.getD j arc0).f), .int .i64 ((gs.getD j arc0).t), .int .i64 ((gs.getD j arc0).d)]) (i := 0) (off := 0) (us := [.int .i64 ((gs.getD j arc0).f), .int .i64 ((gs.getD j arc0).t), .int .i64 ((gs.getD j arc0).d)]) rfl rfl rfl rfl rfl rfl rfl (zae rfl (zae rfl (zae rfl zbj))) rfl rfl rfl (ntQ ?_)
  refine zfc 5 [4, 3, 2, 0, 1] rfl rfl (by decide) ?_
  refine hc_draw3 (l := [boxE b5 #[.int .i64 ((gs.getD j arc0).f), .int .i64 ((gs.getD j arc0).t), .int .i64 ((gs.getD j arc0).d)] 87, bigE ((rs.map aPart).eraseIdx (((gs.getD j arc0).t).toNat)), rowE 51 1 (.slice (some ⟨g2, 0, none⟩) ((List.replicate (n).toNat row0).length) ((List.replicate (n).toNat row0).length)) rs.length (rs.flatMap rowC), boxE b1 #[.int .i64 n, v] 53]) rfl 11 [0, 1, 2, 3, 4, 5, 6, 7, 8, 9, 10] (List.take 11 _) (List.drop 11 _) [[], [], [1], [], [], [4], [3, 5], [6], [], [8], [7, 9]] [some 16, some 17, some 18, some 19, some 20, some 21, some 22, some 23, some 24, some 25, some 26] (fun i_ vs_ v_ p_ => match i_ with | 0 => v_ = .slice (some ⟨g2, 0, none⟩) ((List.replicate (n).toNat row0).length) ((List.replicate (n).toNat row0).length) ∧ p_ = [] | 1 => v_ = .pointer (some ⟨b5, 0 + 1, none⟩) ∧ p_ = [] | 2 => v_ = .int .i64 ((gs.getD j arc0).t) ∧ p_ = [] | 3 => v_ = .slice (some ⟨g2, 0, none⟩) ((List.replicate (n).toNat row0).length) ((List.replicate (n).toNat row0).length) ∧ p_ = [] | 4 => v_ = .pointer (some ⟨b5, 0 + 1, none⟩) ∧ p_ = [] | 5 => v_ = .int .i64 ((gs.getD j arc0).t) ∧ p_ = [] | 6 => v_ = elP (.slice (some ⟨g2, 0, none⟩) ((List.replicate (n).toNat row0).length) ((List.replicate (n).toNat row0).length)) (((gs.getD j arc0).t).toNat * 1) ∧ p_ = [] | 7 => v_ = (rs.getD (((gs.getD j arc0).t).toNat) row0).v ∧ p_ = [] | 8 => v_ = .agg #[.int .i64 ((gs.getD j arc0).f), .int .i64 ((gs.getD j arc0).t), .int .i64 ((gs.getD j arc0).d)] ∧ p_ = [] | 9 => IsRow 87 3 1 ([(gs.getD j arc0).f, (gs.getD j arc0).t, (gs.getD j arc0).d].map (Value.int .i64)) v_ p_ | 10 => (∃ pm_, p_ = [pm_] ∧ (fun u_ p_ => p_ = rowE 87 3 u_ ((((rs.getD (((gs.getD j arc0).t).toNat) row0).ar) ++ [gs.getD j arc0]).length) ((((rs.getD (((gs.getD j arc0).t).toNat) row0).ar) ++ [gs.getD j arc0]).flatMap arcC)) v_ pm_) | _ => True) [[], [], [1], [], [], [4], [3, 5], [6], [], [8], [7, 9]] [none, none, none, none, none, none, none, none, none, none, some 13] [[rowE 87 3 ((rs.getD (((gs.getD j arc0).t).toNat) row0).v) (((rs.getD (((gs.getD j arc0).t).toNat) row0).ar).length) (((rs.getD (((gs.getD j arc0).t).toNat) row0).ar).flatMap arcC)]] [0, 1, 2, 3, 4, 5, 6, 7, 8, 9, 10] 13 (List.take_append_drop 11 _).symm (by kernel_rfl) (by kernel_rfl) (by kernel_rfl) rfl rfl ?_ ?_
  ·
   refine ⟨?_, ?_, ?_, ?_, ?_, ?_, ?_, ?_, ?_, ?_, ?_, trivial⟩
   ·
    intro vf pf hmu hR
    refine zdz [] [] rfl (zbu (zai [3] rfl) ?_)
    exact zbd (zaj rfl)
   ·
    intro vf pf hmu hR
    refine zdz [] [] rfl (zbu (zai [5] rfl) ?_)
    exact zbd (fdQ 1 rfl rfl rfl)
   ·
    intro vf pf hmu hR
    have e1 := hR 1 (by decide)
    refine zdz [1] [1] rfl (zbq (sk 17 (congrArg some e1.1) (zab _)) (List.sublist_append_right _ _) ?_)
    exact zbd (zag rfl rfl rfl (zad 0 rfl rfl))
   ·
    intro vf pf hmu hR
    refine zdz [] [] rfl (zbu (zai [3] rfl) ?_)
    exact zbd (zaj rfl)
   ·
    intro vf pf hmu hR
    refine zdz [] [] rfl (zbu (zai [5] rfl) ?_)
    exact zbd (fdQ 1 rfl rfl rfl)
   ·
    intro vf pf hmu hR
    have e4 := hR 4 (by decide)
    refine zdz [4] [4] rfl (zbq (sk 20 (congrArg some e4.1) (zab _)) (List.sublist_append_right _ _) ?_)
    exact zbd (zag rfl rfl rfl (zad 0 rfl rfl))
   ·
    intro vf pf hmu hR
    have e3 := hR 3 (by decide)
    have e5 := hR 5 (by decide)
    refine zdz [3, 5] [3, 5] rfl (zbq (sk 19 (congrArg some e3.1) (sk 21 (congrArg some e5.1) (zab _))) (List.sublist_append_right _ _) ?_)
    exact zbd (riQ 1 rfl rfl rfl rfl (zah 2 rfl))
   ·
    intro vf pf hmu hR
    have e6 := hR 6 (by decide)
    refine zdz [6] [6] rfl (zbq (sk 22 (congrArg some e6.1) (zab _)) (List.sublist_append_right _ _) ?_)
    exact zbd (zat (u := (rs.getD (((gs.getD j arc0).t).toNat) row0).v) rfl rfl rfl (zah 2 rfl) (zbn rowC (fun r => r.v) (fun _ => rfl) rs row0 (show ((gs.getD j arc0).t).toNat < _ by omega)))
   ·
    intro vf pf hmu hR
    refine zdz [] [] rfl (zbq (zai [5] rfl) (List.sublist_append_right _ _) ?_)
    exact zbd (zar (cs := [.int .i64 ((gs.getD j arc0).f), .int .i64 ((gs.getD j arc0).t), .int .i64 ((gs.getD j arc0).d)]) rfl rfl rfl rfl rfl (zam 0 rfl 0 rfl))
   ·
    intro vf pf hmu hR
    have e8 := hR 8 (by decide)
    refine zdz [8] [8] rfl (zbq (sk 24 (congrArg some e8.1) (zab _)) (List.sublist_append_right _ _) ?_)
    exact zau (z := .agg #[.int .i64 0, .int .i64 0, .int .i64 0]) (s := 3) (cs := ([(gs.getD j arc0).f, (gs.getD j arc0).t, (gs.getD j arc0).d].map (Value.int .i64))) rfl Try.underlying51 rfl (by decide) rfl (by kernel_rfl) rfl
   intro vf pf hmu hR
   have e7 := hR 7 (by decide)
   have e9 : IsRow 87 3 1 ([(gs.getD j arc0).f, (gs.getD j arc0).t, (gs.getD j arc0).d].map (Value.int .i64)) (vf 9) (pf 9) := hR 9 (by decide)
   obtain ⟨g6, vE9, pE9⟩ := e9
   refine Or.inl ⟨rfl, ?_⟩
   show RunM _ _ _ (pf 13) (([7, 9] : List Nat).flatMap pf ++ _) (envOf3 _ vf [7, 9] ++ _) _ _
   have hmu0 : pf 13 = [rowE 87 3 ((rs.getD (((gs.getD j arc0).t).toNat) row0).v) (((rs.getD (((gs.getD j arc0).t).toNat) row0).ar).length) (((rs.getD (((gs.getD j arc0).t).toNat) row0).ar).flatMap arcC)] := hmu 0 (show 0 < 1 by omega)
   rw [hmu0]
   exact zdd (sk 23 (congrArg some e7.1) (sk 25 (congrArg some vE9) (zab _))) (by simp only [pE9, vE9, e7.2, fS] <;> rfl) (rm_append (d := 0) (z := .agg #[.int .i64 0, .int .i64 0, .int .i64 0]) (bytes := 24) (n' := (((rs.getD (((gs.getD j arc0).t).toNat) row0).ar) ++ [gs.getD j arc0]).length) (xs' := ((((rs.getD (((gs.getD j arc0).t).toNat) row0).ar) ++ [gs.getD j arc0]).flatMap arcC)) rfl Try.underlying51 rfl rfl rfl rfl (zah 0 rfl) (zbw _) (by first | omega | (simp only [List.length_append, List.length_cons, List.length_nil]; omega)) (zbt ((rs.getD (((gs.getD j arc0).t).toNat) row0).ar) [gs.getD j arc0]) (zcs arcC ((rs.getD (((gs.getD j arc0).t).toNat) row0).ar) (gs.getD j arc0) _ rfl))
  intro vf pf hmu hR
  have e0 := hR 0 (by decide)
  have e2 := hR 2 (by decide)
  have e9 : IsRow 87 3 1 ([(gs.getD j arc0).f, (gs.getD j arc0).t, (gs.getD j arc0).d].map (Value.int .i64)) (vf 9) (pf 9) := hR 9 (by decide)
  obtain ⟨g6, vE9, pE9⟩ := e9
  have e10 : (∃ pm_, (pf 10) = [pm_] ∧ (fun u_ p_ => p_ = rowE 87 3 u_ ((((rs.getD (((gs.getD j arc0).t).toNat) row0).ar) ++ [gs.getD j arc0]).length) ((((rs.getD (((gs.getD j arc0).t).toNat) row0).ar) ++ [gs.getD j arc0]).flatMap arcC)) (vf 10) pm_) := hR 10 (by decide)
  obtain ⟨p8, pE10, hR9⟩ := e10
  obtain ⟨v7, vE10⟩ : ∃ x, vf 10 = x := ⟨_, rfl⟩
  rw [vE10] at hR9
  subst hR9
  have q0 := hR 0 (by decide)
  have q1 := hR 1 (by decide)
  have q2 := hR 2 (by decide)
  have q3 := hR 3 (by decide)
  have q4 := hR 4 (by decide)
  have q5 := hR 5 (by decide)
  have q6 := hR 6 (by decide)
  have q7 := hR 7 (by decide)
  have q8 := hR 8 (by decide)
  refine zce (zbe [13, 12, 11, 10, 5, 3, 2, 1, 0] _ (sk 16 (congrArg some e0.1) (sk 18 (congrArg some e2.1) (sk 26 (congrArg some vE10) (zab _)))) rfl) (by simp only [pE9, vE9, pE10, vE10, q0.2, q1.2, q2.2, q3.2, q4.2, q5.2, q6.2, q7.2, q8.2, fS] <;> rfl) ?_
  simp only [List.drop_succ_cons, List.drop_zero]
  refine hvQ rfl (riQ 1 rfl rfl rfl rfl (zah 4 rfl)) (zcr (i := 1) rfl (fun ho10 => ?_))
  refine zcw (i := 4) (n' := (rs.set (((gs.getD j arc0).t).toNat) { rs.getD (((gs.getD j arc0).t).toNat) row0 with v := v7 }).length) rfl rfl rfl rfl rfl rfl ho10 rfl (by first | omega | (simp only [List.length_set]; omega)) List.length_set.symm (zdf rowC (fun r => r.v) (fun _ => rfl) _ ({ rs.getD (((gs.getD j arc0).t).toNat) row0 with v := v7 }) rfl) rfl (zcb (zcv (zay (hvQ rfl (vaQ rfl rfl rfl) (enQ 1 rfl ?_)))))
  have hs2 : (rs.set (((gs.getD j arc0).t).toNat) { rs.getD (((gs.getD j arc0).t).toNat) row0 with v := v7 }).flatMap rowC = (rs.set (((gs.getD j arc0).t).toNat) (ARow.mk v7 ((rs.getD (((gs.getD j arc0).t).toNat) row0).ar ++ [gs.getD j arc0]))).flatMap rowC := set_flat _ _ _ _ _ rfl
  have hs3 : (rs.set (((gs.getD j arc0).t).toNat) { rs.getD (((gs.getD j arc0).t).toNat) row0 with v := v7 }).length = (rs.set (((gs.getD j arc0).t).toNat) (ARow.mk v7 ((rs.getD (((gs.getD j arc0).t).toNat) row0).ar ++ [gs.getD j arc0]))).length := by simp only [List.length_set]
  refine zbo 6 [5, 4, 2, 0, 3, 1] rfl rfl (by decide) ?_
  refine zet [bigE ((rs.set (((gs.getD j arc0).t).toNat) (ARow.mk v7 ((rs.getD (((gs.getD j arc0).t).toNat) row0).ar ++ [gs.getD j arc0]))).map aPart), rowE 87 3 (.slice (some ⟨g6, 0, none⟩) 1 1) 1 ([(gs.getD j arc0).f, (gs.getD j arc0).t, (gs.getD j arc0).d].map (Value.int .i64)), boxE b5 #[.int .i64 ((gs.getD j arc0).f), .int .i64 ((gs.getD j arc0).t), .int .i64 ((gs.getD j arc0).d)] 87, rowE 51 1 (.slice (some ⟨g2, 0, none⟩) ((List.replicate (n).toNat row0).length) ((List.replicate (n).toNat row0).length)) ((rs.set (((gs.getD j arc0).t).toNat) { rs.getD (((gs.getD j arc0).t).toNat) row0 with v := v7 }).length) ((rs.set (((gs.getD j arc0).t).toNat) { rs.getD (((gs.getD j arc0).t).toNat) row0 with v := v7 }).flatMap rowC), boxE b1 #[.int .i64 n, v] 53] (fun w hm => by have h2 := conv_unfocus (p' := aPart (ARow.mk v7 ((rs.getD (((gs.getD j arc0).t).toNat) row0).ar ++ [gs.getD j arc0]))) (ps := rs.map aPart) (j := (((gs.getD j arc0).t).toNat)) (by rw [List.length_map, hri.1]; omega) w hm; rw [← List.map_set] at h2; exact h2) ?_
  refine zet [bigE ((rs.set (((gs.getD j arc0).t).toNat) (ARow.mk v7 ((rs.getD (((gs.getD j arc0).t).toNat) row0).ar ++ [gs.getD j arc0]))).map aPart), rowE 87 3 (.slice (some ⟨g6, 0, none⟩) 1 1) 1 ([(gs.getD j arc0).f, (gs.getD j arc0).t, (gs.getD j arc0).d].map (Value.int .i64)), boxE b5 #[.int .i64 ((gs.getD j arc0).f), .int .i64 ((gs.getD j arc0).t), .int .i64 ((gs.getD j arc0).d)] 87, rowE 51 1 (.slice (some ⟨g2, 0, none⟩) ((List.replicate (n).toNat row0).length) ((List.replicate (n).toNat row0).length)) ((rs.set (((gs.getD j arc0).t).toNat) (ARow.mk v7 ((rs.getD (((gs.getD j arc0).t).toNat) row0).ar ++ [gs.getD j arc0]))).length) ((rs.set (((gs.getD j arc0).t).toNat) (ARow.mk v7 ((rs.getD (((gs.getD j arc0).t).toNat) row0).ar ++ [gs.getD j arc0]))).flatMap rowC), boxE b1 #[.int .i64 n, v] 53] (fun w hm => by rw [← hs2, ← hs3]; exact hm) ?_
  exact zbv (j + 1) (rs.set (((gs.getD j arc0).t).toNat) (ARow.mk v7 ((rs.getD (((gs.getD j arc0).t).toNat) row0).ar ++ [gs.getD j arc0]))) ⟨by omega, into_step hg (by omega) hri⟩ (by omega) (saQ rfl) (slQ [0, 2, 0] rfl)
 refine ntQ (fcQ rfl ?_)
 refine zaz (zdr ?_)
 refine zaf (zax (zbc 2 rfl ?_))
 refine zav (zbo 3 [2, 1, 0] rfl rfl (by decide) ?_)
 refine zet [intoE (.slice (some ⟨g2, 0, none⟩) ((List.replicate (n).toNat row0).length) ((List.replicate (n).toNat row0).length)) rs, boxE b1 #[.int .i64 n, v] 53] (conv_big (ps := [bigE (rs.map aPart), rowE 51 1 (.slice (some ⟨g2, 0, none⟩) ((List.replicate (n).toNat row0).length) ((List.replicate (n).toNat row0).length)) rs.length (rs.flatMap rowC)])) ?_
 have hjn : j = gs.length := by omega
 exact zdc (post := [intoE (.slice (some ⟨g2, 0, none⟩) ((List.replicate (n).toNat row0).length) ((List.replicate (n).toNat row0).length)) rs]) rfl rfl (slQ [0] rfl) ⟨rs, rfl, by rw [hjn, List.take_length] at hri; exact hri⟩
theorem delaysFrom_ret (n : Int) (gs : List Arc) (rs : List ARow) (v : Value) (s : Int) (lg : Bool) (w : World) (hg : GOk n gs) (hv : RdsInto w v rs) (hri : IntoOk gs n rs) :
   Calls Try.prog 71 #[v, .int .i64 s, .bool lg] w (Ret w (fun v' post => post = [rowE 3 1 v' (delL lg gs s rs.length).length ((delL lg gs s rs.length).map (Value.int .i64))])) := by
 obtain ⟨hn0, hn1, hgl, -⟩ := id hg
 have hrep : (List.replicate rs.length (0 : Int)).length = rs.length := List.length_replicate
 have hrl := hri.1
 have hlen2 : ∀ k, k < rs.length → (rs.getD k row0).ar.length ≤ 2000 := fun k hk => by rw [hri.2 k hk]; have := into_len gs k; omega
 refine zbf (N := 87) (args := [v, .int .i64 s, .bool lg]) Try.func71 rfl rfl (zbc 1 rfl (zac (reQ 1 rfl (hvQ rfl (lnQ rfl rfl rfl (zaa hv.row)) ?_))))
 refine zdu rfl (zei (z := .int .i64 0) (s := 1) (bytes := 8) (n := (List.replicate rs.length (0 : Int)).length) (cs := ((List.replicate rs.length (0 : Int)).map (Value.int .i64))) rfl Try.underlying26 rfl (by decide) rfl rfl (by first | (rw [List.length_replicate]; done) | (rw [List.length_replicate]; omega)) (by first | (rw [List.length_replicate]; done) | (rw [List.length_replicate]; omega)) (by rw [List.length_replicate]; omega) (zez _)) ?_
 intro g1
 refine zbb 1 rfl (zac (zac (reQ 1 rfl (hvQ rfl (lnQ rfl rfl rfl (zah 0 rfl)) (zbb 1 rfl (zaw ?_))))))
 refine lkQ2 (α := Nat) (β := List Int) [0, 1, 2, 6, 7, 16] rfl (fun k zs => [rowE 3 1 (.slice (some ⟨g1, 0, none⟩) ((List.replicate rs.length (0 : Int)).length) ((List.replicate rs.length (0 : Int)).length)) zs.length (zs.map (Value.int .i64))]) (fun k zs => [(17, .int .i64 (k : Int))]) (fun k zs => k ≤ rs.length ∧ zs = delL lg gs s k ++ List.replicate (rs.length - k) 0) (fun k zs => rs.length - k) 0 _ ⟨by omega, by simp [delL]⟩ (saQ rfl) (pfQ rfl) ?_
 intro k zs hi2
 obtain ⟨hk, hz⟩ := hi2
 have hzl : zs.length = rs.length := by rw [hz, List.length_append, del_len, List.length_replicate]; omega
 refine srQ ?_
 refine zbh rfl rfl rfl rfl rfl rfl (fun h3 => ?_) (fun h3 => ?_)
 ·
  refine ntQ (tcQ rfl (zcp (sbQ (srQ (enQ 2 rfl ?_)))))
  refine zax (zac (reQ 2 rfl (hvQ rfl (riQ 1 rfl rfl rfl rfl (zah 0 rfl)) ?_)))
  refine zcw (i := 0) (n' := (zs.set k (-1)).length) (xs' := ((zs.set k (-1)).map (Value.int .i64))) rfl rfl rfl rfl rfl rfl rfl rfl (by first | omega | (simp only [List.length_set]; omega)) List.length_set.symm (zdb _ _ _) rfl (ntQ (zac (zac (reQ 2 rfl ?_))))
  refine zcu rfl rfl rfl rfl rfl rfl (fun h4 => ?_) (fun h4 => ?_)
  ·
   refine ntQ (zao rfl (zac (reQ 2 rfl (hvQ rfl (riQ 1 rfl rfl rfl rfl (zah 0 rfl) (by omega) (by first | omega | (simp only [List.length_set]; omega))) ?_))))
   refine zcw (i := 0) (n' := ((zs.set k (-1)).set k 0).length) (xs' := (((zs.set k (-1)).set k 0).map (Value.int .i64))) rfl rfl rfl rfl rfl rfl rfl rfl (by first | omega | (simp only [List.length_set]; omega)) List.length_set.symm (zdb _ _ _) rfl (ntQ ?_)
   refine zaz (zeg ?_)
   refine zaf (zax (zay (hvQ rfl (vaQ rfl rfl rfl) (enQ 1 rfl ?_))))
   exact zbv (k + 1) ((zs.set k (-1)).set k 0) ⟨by omega, by first | (rw [hz, List.set_set]; exact del_next lg gs s k _ (by omega) (Dl_start lg gs s k (by omega)).symm) | (rw [hy]; exact del_next lg gs s k _ (by omega) (by rw [Dl_def, if_neg (by omega), hb, show m = (rs.getD k row0).ar.length by omega, List.take_length, hri.2 k (by omega)]))⟩ (by omega) (saQ rfl) (pfQ rfl)
  refine ntQ (zaq rfl (zcp (zac (reQ 2 rfl ?_))))
  have hl2 := hlen2 k (by omega)
  refine hvQ rfl (riQ 1 rfl rfl rfl rfl (zaa hv.row)) (hvQ rfl (zat (u := (rs.getD k row0).v) rfl rfl rfl (zaa hv.row) (zbn rowC (fun r => r.v) (fun _ => rfl) rs row0 (show k < _ by omega))) ?_)
  refine hvQ rfl (lnQ rfl rfl rfl (zaa (hv.at (by omega)))) (zbb 1 rfl (zaw ?_))
  refine lkQ3 (α := Nat) (β := Int) (γ := List Int) [0, 1, 2, 6, 7, 8, 16, 17, 18, 25, 32, 33] rfl (fun m b ys => [rowE 3 1 (.slice (some ⟨g1, 0, none⟩) ((List.replicate rs.length (0 : Int)).length) ((List.replicate rs.length (0 : Int)).length)) ys.length (ys.map (Value.int .i64))]) (fun m b ys => [(34, .int .i64 (m : Int))]) (fun m b ys => m ≤ (rs.getD k row0).ar.length ∧ b = ((rs.getD k row0).ar.take m).foldl (stepD lg (delL lg gs s k)) (-1) ∧ -1 ≤ b ∧ b ≤ 100 * (k : Int) ∧ ys = (delL lg gs s k ++ List.replicate (rs.length - k) 0).set k b) (fun m b ys => (rs.getD k row0).ar.length - m) 0 (-1) _ ⟨by omega, rfl, by omega, by omega, by rw [hz]⟩ (saQ rfl) (pfQ rfl) ?_
  intro m b ys hi5
  obtain ⟨hm, hb, hb0, hb1, hy⟩ := hi5
  have hyl : ys.length = rs.length := by rw [hy, List.length_set, List.length_append, del_len, List.length_replicate]; omega
  have hmid : ys.getD k 0 = b := by rw [hy]; exact del_mid lg gs s k _ (by omega) b
  refine srQ ?_
  refine zbh rfl rfl rfl rfl rfl rfl (fun h6 => ?_) (fun h6 => ?_)
  ·
   refine ntQ (tcQ rfl (zcp (sbQ (srQ (hvQ rfl (riQ 3 rfl rfl rfl rfl (zaa (hv.at (by omega)))) ?_)))))
   refine hvQ rfl (zcl (us := [.int .i64 ((((rs.getD k row0).ar).getD m arc0).f), .int .i64 ((((rs.getD k row0).ar).getD m arc0).t), .int .i64 ((((rs.getD k row0).ar).getD m arc0).d)]) rfl rfl rfl rfl (zaa (hv.at (by omega))) (by omega) rfl (zde arcC 3 (fun _ => rfl) ((rs.getD k row0).ar) arc0 (show m < _ by omega) rfl)) (zdt rfl (zbm (z := .agg #[.int .i64 0, .int .i64 0, .int .i64 0]) rfl rfl) ?_)
   intro b7
   refine zbr (cs' := #[.int .i64 ((((rs.getD k row0).ar).getD m arc0).f), .int .i64 ((((rs.getD k row0).ar).getD m arc0).t), .int .i64 ((((rs.getD k row0).ar).getD m arc0).d)]) (i := 0) (off := 0) (us := [.int .i64 ((((rs.getD k row0).ar).getD m arc0).f), .int .i64 ((((rs.getD k row0).ar).getD m arc0).t), .int .i64 ((((rs.getD k row0).ar).getD m arc0).d)]) rfl rfl rfl rfl rfl rfl rfl (zae rfl (zae rfl (zae rfl zbj))) rfl rfl rfl (ntQ (zfl ?_))
   have hin : (rs.getD k row0).ar = intoL gs k := hri.2 k (by omega)
   have hea : 0 ≤ ((rs.getD k row0).ar.getD m arc0).f ∧ ((rs.getD k row0).ar.getD m arc0).f < k ∧ 0 ≤ ((rs.getD k row0).ar.getD m arc0).d ∧ ((rs.getD k row0).ar.getD m arc0).d ≤ 100 := by rw [hin]; exact into_at hg (by rw [← hin]; omega)
   have hlow : ys.getD (((rs.getD k row0).ar.getD m arc0).f).toNat 0 = Dl lg gs s (((rs.getD k row0).ar.getD m arc0).f).toNat := by rw [hy]; exact del_low lg gs s k _ _ (by omega) b (by omega)
   have hlow2 : (delL lg gs s k).getD (((rs.getD k row0).ar.getD m arc0).f).toNat 0 = Dl lg gs s (((rs.getD k row0).ar.getD m arc0).f).toNat := del_at lg gs s k _ (by omega)
   have hdb := Dl_bnd hg lg s (((rs.getD k row0).ar.getD m arc0).f).toNat
   refine zan 1 rfl (hvQ rfl (fdQ 0 rfl rfl rfl) (hvQ rfl (zag rfl rfl rfl (zad 0 rfl rfl)) (hvQ rfl (riQ 1 rfl rfl rfl rfl (zah 1 rfl)) (hvQ rfl (lzQ rfl rfl rfl (zah 1 rfl)) ?_))))
   refine zbh rfl rfl rfl rfl rfl rfl (fun h8 => ?_) (fun h8 => ?_)
   ·
    refine ntQ (zao rfl ?_)
    refine zaz (zeg ?_)
    refine zaf (zax (zay (hvQ rfl (vaQ rfl rfl rfl) (enQ 1 rfl ?_))))
    exact zbi (m + 1) b ys ⟨by omega, by rw [zfz arc0 (by omega), List.foldl_append, ← hb]; show _ = stepD lg (delL lg gs s k) b ((rs.getD k row0).ar.getD m arc0); first | rw [st_skip (by rw [hlow2]; omega)] | (subst hlg; rw [st_noT (by rw [hlow2]; omega) (by omega) (by rw [hlow2]; omega)]) | (subst hlg; rw [st_noF (by rw [hlow2]; omega) (by omega) (by rw [hlow2]; omega)]), by omega, by omega, hy⟩ (by omega) (saQ rfl) (slQ [1] rfl)
   refine ntQ (zaq rfl (zcp (zac ?_)))
   refine zbk 8 [[], [], [1], [0, 2], [3], [], [5], [4, 6]] [44, 45, 46, 47, 48, 49, 50, 51] [.slice (some ⟨g1, 0, none⟩) ((List.replicate rs.length (0 : Int)).length) ((List.replicate rs.length (0 : Int)).length), .pointer (some ⟨b7, 0 + 0, none⟩), .int .i64 ((((rs.getD k row0).ar).getD m arc0).f), elP (.slice (some ⟨g1, 0, none⟩) ((List.replicate rs.length (0 : Int)).length) ((List.replicate rs.length (0 : Int)).length)) (((((rs.getD k row0).ar).getD m arc0).f).toNat * 1), .int .i64 (ys.getD (((((rs.getD k row0).ar).getD m arc0).f).toNat) 0), .pointer (some ⟨b7, 0 + 2, none⟩), .int .i64 ((((rs.getD k row0).ar).getD m arc0).d), .int .i64 ((ys.getD (((((rs.getD k row0).ar).getD m arc0).f).toNat) 0) + ((((rs.getD k row0).ar).getD m arc0).d))] (by kernel_rfl) rfl ?_ ?_
   ·
    exact ⟨iaQ rfl (zaj rfl) rfl, iaQ rfl (fdQ 0 rfl rfl rfl) rfl, iaQ rfl (zag rfl rfl rfl (zad 0 rfl rfl)) rfl, iaQ rfl (riQ 1 rfl rfl rfl rfl (zah 1 rfl)) rfl, iaQ rfl (lzQ rfl rfl rfl (zah 1 rfl)) rfl, iaQ rfl (fdQ 2 rfl rfl rfl) rfl, iaQ rfl (zag rfl rfl rfl (zad 0 rfl rfl)) rfl, iaQ rfl (vaQ rfl rfl rfl) rfl, trivial⟩
   simp only [List.drop_succ_cons, List.drop_zero]
   refine zbb 1 rfl (zac (reQ 2 rfl (hvQ rfl (riQ 1 rfl rfl rfl rfl (zah 1 rfl)) (hvQ rfl (liQ rfl rfl rfl (zah 1 rfl)) ?_))))
   refine zbh rfl rfl rfl rfl rfl rfl (fun h9 => ?_) (fun h9 => ?_)
   ·
    refine zbb 23 rfl (zao rfl (zay ?_))
    refine zan 3 rfl (hvQ rfl (riQ 1 rfl rfl rfl rfl (zah 1 rfl)) ?_)
    refine zcw (i := 1) (n' := (ys.set k ((ys.getD (((((rs.getD k row0).ar).getD m arc0).f).toNat) 0) + ((((rs.getD k row0).ar).getD m arc0).d))).length) (xs' := ((ys.set k ((ys.getD (((((rs.getD k row0).ar).getD m arc0).f).toNat) 0) + ((((rs.getD k row0).ar).getD m arc0).d))).map (Value.int .i64))) rfl rfl rfl rfl rfl rfl rfl rfl (by first | omega | (simp only [List.length_set]; omega)) List.length_set.symm (zdb _ _ _) rfl (zcb (zcv (zay (hvQ rfl (vaQ rfl rfl rfl) (enQ 1 rfl ?_)))))
    exact zbi (m + 1) (Dl lg gs s (((rs.getD k row0).ar.getD m arc0).f).toNat + ((rs.getD k row0).ar.getD m arc0).d) (ys.set k ((ys.getD (((((rs.getD k row0).ar).getD m arc0).f).toNat) 0) + ((((rs.getD k row0).ar).getD m arc0).d))) ⟨by omega, by rw [zfz arc0 (by omega), List.foldl_append, ← hb]; show _ = stepD lg (delL lg gs s k) b ((rs.getD k row0).ar.getD m arc0); rw [st_set (by rw [hlow2]; omega) (by rw [hlow2]; first | exact .inl (by omega) | exact .inr (.inl ⟨by assumption, by omega⟩) | exact .inr (.inr ⟨by assumption, by omega⟩)), hlow2], by omega, by omega, by rw [hlow, hy, List.set_set]⟩ (by omega) (saQ rfl) (slQ [1] rfl)
   refine zan 2 rfl (zbl (fun h10 => ?_) (fun h10 => ?_))
   ·
    have hlg := h10
    refine zan 4 rfl (hvQ rfl (riQ 1 rfl rfl rfl rfl (zah 1 rfl)) (hvQ rfl (liQ rfl rfl rfl (zah 1 rfl)) ?_))
    refine zfa rfl rfl rfl rfl rfl rfl (fun h11 => ?_) (fun h11 => ?_)
    ·
     refine zbb 14 rfl (zao rfl (reQ 3 rfl (hvQ rfl (riQ 1 rfl rfl rfl rfl (zah 1 rfl)) ?_)))
     refine zcw (i := 1) (n' := (ys.set k ((ys.getD (((((rs.getD k row0).ar).getD m arc0).f).toNat) 0) + ((((rs.getD k row0).ar).getD m arc0).d))).length) (xs' := ((ys.set k ((ys.getD (((((rs.getD k row0).ar).getD m arc0).f).toNat) 0) + ((((rs.getD k row0).ar).getD m arc0).d))).map (Value.int .i64))) rfl rfl rfl rfl rfl rfl rfl rfl (by first | omega | (simp only [List.length_set]; omega)) List.length_set.symm (zdb _ _ _) rfl (zcb (zcv (zay (hvQ rfl (vaQ rfl rfl rfl) (enQ 1 rfl ?_)))))
     exact zbi (m + 1) (Dl lg gs s (((rs.getD k row0).ar.getD m arc0).f).toNat + ((rs.getD k row0).ar.getD m arc0).d) (ys.set k ((ys.getD (((((rs.getD k row0).ar).getD m arc0).f).toNat) 0) + ((((rs.getD k row0).ar).getD m arc0).d))) ⟨by omega, by rw [zfz arc0 (by omega), List.foldl_append, ← hb]; show _ = stepD lg (delL lg gs s k) b ((rs.getD k row0).ar.getD m arc0); rw [st_set (by rw [hlow2]; omega) (by rw [hlow2]; first | exact .inl (by omega) | exact .inr (.inl ⟨by assumption, by omega⟩) | exact .inr (.inr ⟨by assumption, by omega⟩)), hlow2], by omega, by omega, by rw [hlow, hy, List.set_set]⟩ (by omega) (saQ rfl) (slQ [1] rfl)
    refine zan 4 rfl (zbl (fun h12 => ?_) (fun h12 => absurd ((h10).symm.trans h12) (by decide)))
    have hlg := h12
    refine zbb 10 rfl (fsQ rfl (zcv (zay (hvQ rfl (vaQ rfl rfl rfl) ?_))))
    refine enQ 1 rfl ?_
    exact zbi (m + 1) b ys ⟨by omega, by rw [zfz arc0 (by omega), List.foldl_append, ← hb]; show _ = stepD lg (delL lg gs s k) b ((rs.getD k row0).ar.getD m arc0); first | rw [st_skip (by rw [hlow2]; omega)] | (subst hlg; rw [st_noT (by rw [hlow2]; omega) (by omega) (by rw [hlow2]; omega)]) | (subst hlg; rw [st_noF (by rw [hlow2]; omega) (by omega) (by rw [hlow2]; omega)]), by omega, by omega, hy⟩ (by omega) (saQ rfl) (slQ [1] rfl)
   have hlg := h10
   refine zan 11 rfl (zbl (fun h13 => absurd ((h10).symm.trans h13) (by decide)) (fun h13 => ?_))
   have hlg := h13
   refine zan 5 rfl (hvQ rfl (riQ 1 rfl rfl rfl rfl (zah 1 rfl)) (hvQ rfl (liQ rfl rfl rfl (zah 1 rfl)) ?_))
   refine zbh rfl rfl rfl rfl rfl rfl (fun h14 => ?_) (fun h14 => ?_)
   ·
    refine zbb 2 rfl (zao rfl (reQ 3 rfl (hvQ rfl (riQ 1 rfl rfl rfl rfl (zah 1 rfl)) ?_)))
    refine zcw (i := 1) (n' := (ys.set k ((ys.getD (((((rs.getD k row0).ar).getD m arc0).f).toNat) 0) + ((((rs.getD k row0).ar).getD m arc0).d))).length) (xs' := ((ys.set k ((ys.getD (((((rs.getD k row0).ar).getD m arc0).f).toNat) 0) + ((((rs.getD k row0).ar).getD m arc0).d))).map (Value.int .i64))) rfl rfl rfl rfl rfl rfl rfl rfl (by first | omega | (simp only [List.length_set]; omega)) List.length_set.symm (zdb _ _ _) rfl (zcb (zcv (zay (hvQ rfl (vaQ rfl rfl rfl) (enQ 1 rfl ?_)))))
    exact zbi (m + 1) (Dl lg gs s (((rs.getD k row0).ar.getD m arc0).f).toNat + ((rs.getD k row0).ar.getD m arc0).d) (ys.set k ((ys.getD (((((rs.getD k row0).ar).getD m arc0).f).toNat) 0) + ((((rs.getD k row0).ar).getD m arc0).d))) ⟨by omega, by rw [zfz arc0 (by omega), List.foldl_append, ← hb]; show _ = stepD lg (delL lg gs s k) b ((rs.getD k row0).ar.getD m arc0); rw [st_set (by rw [hlow2]; omega) (by rw [hlow2]; first | exact .inl (by omega) | exact .inr (.inl ⟨by assumption, by omega⟩) | exact .inr (.inr ⟨by assumption, by omega⟩)), hlow2], by omega, by omega, by rw [hlow, hy, List.set_set]⟩ (by omega) (saQ rfl) (slQ [1] rfl)
   refine zbb 2 rfl (fsQ rfl (zcv (zay (hvQ rfl (vaQ rfl rfl rfl) (enQ 1 rfl ?_)))))
   exact zbi (m + 1) b ys ⟨by omega, by rw [zfz arc0 (by omega), List.foldl_append, ← hb]; show _ = stepD lg (delL lg gs s k) b ((rs.getD k row0).ar.getD m arc0); first | rw [st_skip (by rw [hlow2]; omega)] | (subst hlg; rw [st_noT (by rw [hlow2]; omega) (by omega) (by rw [hlow2]; omega)]) | (subst hlg; rw [st_noF (by rw [hlow2]; omega) (by omega) (by rw [hlow2]; omega)]), by omega, by omega, hy⟩ (by omega) (saQ rfl) (slQ [1] rfl)
  refine ntQ (fcQ rfl ?_)
  refine zaz (zdr ?_)
  refine zaf (zcv (zay (hvQ rfl (vaQ rfl rfl rfl) (enQ 1 rfl ?_))))
  exact zbv (k + 1) ys ⟨by omega, by first | (rw [hz, List.set_set]; exact del_next lg gs s k _ (by omega) (Dl_start lg gs s k (by omega)).symm) | (rw [hy]; exact del_next lg gs s k _ (by omega) (by rw [Dl_def, if_neg (by omega), hb, show m = (rs.getD k row0).ar.length by omega, List.take_length, hri.2 k (by omega)]))⟩ (by omega) (saQ rfl) (pfQ rfl)
 refine ntQ (fcQ rfl ?_)
 refine zaz (zdr ?_)
 refine zaf (zax (zbc 2 rfl ?_))
 refine zav ?_
 have hke : k = rs.length := by omega
 exact zdc (post := [rowE 3 1 (.slice (some ⟨g1, 0, none⟩) ((List.replicate rs.length (0 : Int)).length) ((List.replicate rs.length (0 : Int)).length)) zs.length (zs.map (Value.int .i64))]) rfl rfl (pfQ rfl) (by rw [hz, hke, Nat.sub_self]; simp)
open Go.RowKit
structure Pnt where
  n : Int
  s : Int
abbrev pnt0 : Pnt := ⟨0, 0⟩
def pntC (p : Pnt) : List Value := [.int .i64 p.n, .int .i64 p.s]
structure Exc where
  f : Int
  t : Int
  c : Int
abbrev exc0 : Exc := ⟨0, 0, 0⟩
def excC (e : Exc) : List Value := [.int .i64 e.f, .int .i64 e.t, .int .i64 e.c]
def PtsOk (n : Int) (ps : List Pnt) : Prop := ∀ i, i < ps.length → (0 ≤ (ps.getD i pnt0).n ∧ (ps.getD i pnt0).n < n) ∧ 0 ≤ (ps.getD i pnt0).s ∧ (ps.getD i pnt0).s ≤ 50
def ExsOk (es : List Exc) : Prop := ∀ i, i < es.length → 0 ≤ (es.getD i exc0).f ∧ 0 ≤ (es.getD i exc0).t ∧ 0 ≤ (es.getD i exc0).c ∧ (es.getD i exc0).c ≤ 8
open Go.RowKit
def mx (a b : Int) : Int := if a < b then b else a
theorem mx_le (a b : Int) : a ≤ mx a b ∧ b ≤ mx a b ∧ (mx a b = a ∨ mx a b = b) := by unfold mx; split <;> omega
def lutS (x : Td) (o : List Int) (r : List Bl) (i : Nat) : Nat → Int × Bool
  | 0 => (0, false)
  | j + 1 => if (r.getD ((x.n.ls.getD i lt0).xs.getD j 0).toNat bl0).b = true then (mx (lutS x o r i j).1 (o.getD ((x.n.ls.getD i lt0).xs.getD j 0).toNat 0 + (x.dl.getD i ir0).xs.getD j 0), true) else lutS x o r i j
def stp (x : Td) (o : List Int) (r : List Bl) (m : Nat) : Int × Bool :=
  if m = 0 then (0, false) else if (m : Int) ≤ x.n.ins then (0, true) else if (m : Int) < x.n.fst then (x.ks.getD ((m : Int) - 1 - x.n.ins).toNat 0, true) else lutS x o r ((m : Int) - x.n.fst).toNat (x.n.ls.getD ((m : Int) - x.n.fst).toNat lt0).xs.length
def sL (x : Td) : Nat → List Int × List Bl
  | 0 => ([], [])
  | m + 1 => ((sL x m).1 ++ [(stp x (sL x m).1 (sL x m).2 m).1], (sL x m).2 ++ [⟨(stp x (sL x m).1 (sL x m).2 m).2⟩])
theorem sL_succ (x : Td) (m : Nat) : sL x (m + 1) = ((sL x m).1 ++ [(stp x (sL x m).1 (sL x m).2 m).1], (sL x m).2 ++ [⟨(stp x (sL x m).1 (sL x m).2 m).2⟩]) := rfl
theorem sL_len (x : Td) : ∀ m, (sL x m).1.length = m ∧ (sL x m).2.length = m
  | 0 => ⟨rfl, rfl⟩
  | m + 1 => by have := sL_len x m; unfold sL; simp [this.1, this.2]
theorem sL_pre (x : Td) : ∀ m k, k < m → (sL x m).1.getD k 0 = (stp x (sL x k).1 (sL x k).2 k).1 ∧ ((sL x m).2.getD k bl0).b = (stp x (sL x k).1 (sL x k).2 k).2
  | 0, k, h => by omega
  | m + 1, k, h => by
    obtain ⟨l1, l2⟩ := sL_len x m
    rw [sL_succ]
    by_cases e : k < m
    · rw [zdl (by omega), zdl (by omega)]; exact sL_pre x m k e
    · obtain rfl : k = m := by omega
      constructor
      · show ((sL x k).1 ++ [_]).getD k 0 = _; rw [zdk (by omega), l1, Nat.sub_self]; rfl
      · show (((sL x k).2 ++ [_]).getD k bl0).b = _; rw [zdk (by omega), l2, Nat.sub_self]; rfl
def MaxV (ps : List Pt) (D : Int → Nat → Int) (k : Nat) (v : Int) : Prop := (∀ p ∈ ps, 0 ≤ D p.n k → p.s + D p.n k ≤ v) ∧ 0 ≤ v ∧ (v = 0 ∨ ∃ p ∈ ps, 0 ≤ D p.n k ∧ v = p.s + D p.n k)
theorem fold_maxS {out : List Int} : ∀ (l : List Arc) (b : Int), (∀ a ∈ l, 0 ≤ a.d) → -1 ≤ b →
    (b ≤ l.foldl (stepD true out) b) ∧ (∀ a ∈ l, 0 ≤ out.getD a.f.toNat 0 → out.getD a.f.toNat 0 + a.d ≤ l.foldl (stepD true out) b) ∧ (l.foldl (stepD true out) b = b ∨ ∃ a ∈ l, 0 ≤ out.getD a.f.toNat 0 ∧ l.foldl (stepD true out) b = out.getD a.f.toNat 0 + a.d)
  | [], b, _, _ => And.intro (Int.le_refl _) (And.intro (fun a ha => absurd ha List.not_mem_nil) (Or.inl rfl))
  | a :: l, b, hd, hb => by
    have hda : 0 ≤ a.d := hd a List.mem_cons_self
    have hs : stepD true out b a = if out.getD a.f.toNat 0 < 0 then b else if b < out.getD a.f.toNat 0 + a.d then out.getD a.f.toNat 0 + a.d else b := by
      unfold stepD
      by_cases h1 : out.getD a.f.toNat 0 < 0
      · rw [if_pos h1, if_pos h1]
      · rw [if_neg h1, if_neg h1]
        by_cases h2 : b < out.getD a.f.toNat 0 + a.d
        · rw [if_pos (.inr (.inl ⟨rfl, h2⟩)), if_pos h2]
        · rw [if_neg h2, if_neg (by rintro (h | ⟨-, h⟩ | ⟨h, -⟩); omega; exact h2 h; cases h)]
    have hb2 : b ≤ stepD true out b a ∧ -1 ≤ stepD true out b a := by rw [hs]; constructor <;> (split <;> (try split) <;> omega)
    obtain ⟨i1, i2, i3⟩ := fold_maxS (out := out) l (stepD true out b a) (fun c hc => hd c (List.mem_cons_of_mem _ hc)) hb2.2
    rw [List.foldl_cons]
    refine ⟨by omega, fun c hc h0 => ?_, ?_⟩
    · rcases List.mem_cons.1 hc with rfl | hc
      · have : out.getD c.f.toNat 0 + c.d ≤ stepD true out b c := by rw [hs, if_neg (by omega)]; split <;> omega
        omega
      · exact i2 c hc h0
    · rcases i3 with e | ⟨c, hc, h0, e⟩
      · by_cases h1 : out.getD a.f.toNat 0 < 0
        · left; rw [e, hs, if_pos h1]
        · by_cases h2 : b < out.getD a.f.toNat 0 + a.d
          · right; exact ⟨a, List.mem_cons_self, by omega, by rw [e, hs, if_neg h1, if_pos h2]⟩
          · left; rw [e, hs, if_neg h1, if_neg h2]
      · right; exact ⟨c, List.mem_cons_of_mem _ hc, h0, e⟩
theorem into_app (u v : List Arc) (k : Nat) : intoL (u ++ v) k = intoL u k ++ intoL v k := List.filter_append ..
theorem into_none {u : List Arc} {k : Nat} (h : ∀ a ∈ u, a.t ≠ (k : Int)) : intoL u k = [] := by
  unfold intoL; rw [List.filter_eq_nil_iff]; intro a ha; simpa using h a ha
theorem into_same {u : List Arc} {k : Nat} (h : ∀ a ∈ u, a.t = (k : Int)) : intoL u k = u := by
  unfold intoL; rw [List.filter_eq_self]; intro a ha; simpa using h a ha
def blkI (x : Td) (i : Nat) : List Arc := (List.range (x.n.ls.getD i lt0).xs.length).map (fun j => ⟨(x.n.ls.getD i lt0).xs.getD j 0, x.n.fst + i, (x.dl.getD i ir0).xs.getD j 0⟩)
theorem blk_t {x : Td} {i : Nat} {a : Arc} (h : a ∈ blkI x i) : a.t = x.n.fst + i := by
  unfold blkI at h; obtain ⟨j, -, rfl⟩ := List.mem_map.1 h; rfl
theorem into_arcL (x : Td) (h0 : 0 ≤ x.n.fst) (i : Nat) : ∀ m, intoL (arcL x m) (x.n.fst + i).toNat = if i < m then blkI x i else []
  | 0 => rfl
  | m + 1 => by
    have e : (((x.n.fst + i).toNat : Nat) : Int) = x.n.fst + i := by omega
    show intoL (arcL x m ++ blkI x m) _ = _
    rw [into_app, into_arcL x h0 i m]
    by_cases h1 : i = m
    · subst h1
      rw [if_neg (by omega), if_pos (by omega), into_same (fun a ha => by rw [e]; exact blk_t ha), List.nil_append]
    · rw [into_none (u := blkI x m) (fun a ha => by rw [e, blk_t ha]; omega), List.append_nil]
      by_cases h2 : i < m
      · rw [if_pos h2, if_pos (by omega)]
      · rw [if_neg h2, if_neg (by omega)]
theorem arcL_t {x : Td} : ∀ {m : Nat} {a : Arc}, a ∈ arcL x m → x.n.fst ≤ a.t ∧ a.t < x.n.fst + m
  | 0, a, h => by cases h
  | m + 1, a, h => by
    rcases List.mem_append.1 (show a ∈ arcL x m ++ blkI x m from h) with h | h
    · have := arcL_t h; omega
    · have := blk_t h; omega
theorem into_arcS (x : Td) {k : Nat} (hk : (k : Int) < x.n.cnt) : ∀ m, intoL (arcS x m) k = intoL (arcL x x.n.ls.length) k
  | 0 => rfl
  | m + 1 => by
    unfold arcS
    rw [into_app, into_arcS x hk m, into_none (u := List.map _ _) (fun a ha => by
      obtain ⟨j, -, rfl⟩ := List.mem_map.1 ha
      show x.n.cnt + (nS x m : Int) + j ≠ k; omega), List.append_nil]
theorem lau_mem {x : Td} {K : Nat} {p : Pt} : p ∈ lauB x K ↔ (∃ q : Nat, q < x.n.ins.toNat ∧ p = ⟨1 + q, 0⟩) ∨ (∃ q : Nat, q < K ∧ p = ⟨1 + x.n.ins + q, x.ks.getD q 0⟩) := by
  unfold lauB lauA
  rw [List.mem_append, List.mem_map, List.mem_map]
  constructor
  · rintro (⟨q, hq, rfl⟩ | ⟨q, hq, rfl⟩)
    · exact .inl ⟨q, List.mem_range.1 hq, rfl⟩
    · exact .inr ⟨q, List.mem_range.1 hq, rfl⟩
  · rintro (⟨q, hq, rfl⟩ | ⟨q, hq, rfl⟩)
    · exact .inl ⟨q, List.mem_range.2 hq, rfl⟩
    · exact .inr ⟨q, List.mem_range.2 hq, rfl⟩
abbrev gsX (x : Td) : List Arc := arcS x x.n.ss.length
abbrev psX (x : Td) : List Pt := lauB x x.ks.length
abbrev DX (x : Td) : Int → Nat → Int := fun s k => Dl true (gsX x) s k
theorem ps_rng {x : Td} (h : TdOk x) {p : Pt} (hp : p ∈ psX x) : 1 ≤ p.n ∧ p.n < x.n.fst ∧ 0 ≤ p.s := by
  have hb := h.bnd
  have hf : x.n.fst = 1 + x.n.ins + x.n.ss.length := rfl
  have h0 := hb.i
  rcases lau_mem.1 hp with ⟨q, hq, rfl⟩ | ⟨q, hq, rfl⟩
  · exact ⟨by show (1 : Int) ≤ 1 + q; omega, by show (1 : Int) + q < _; omega, Int.le_refl _⟩
  · have := h.k.2 q hq
    have := hb.k
    exact ⟨by show (1 : Int) ≤ 1 + x.n.ins + q; omega, by show 1 + x.n.ins + (q : Int) < _; omega, by show 0 ≤ x.ks.getD q 0; omega⟩
theorem leaf_D {x : Td} (h : TdOk x) (s : Int) {k : Nat} (hk : (k : Int) < x.n.fst) : DX x s k = if (k : Int) = s then 0 else -1 := by
  have hb := h.bnd.i
  have hf : x.n.fst = 1 + x.n.ins + x.n.ss.length := rfl
  have hc : x.n.cnt = x.n.fst + x.n.ls.length := rfl
  show Dl true (gsX x) s k = _
  rw [Dl_def, into_arcS x (by omega), into_none (fun a ha => by have := arcL_t ha; omega)]; rfl
theorem gok_x {x : Td} (h : TdOk x) : GOk (x.n.cnt + nS x x.n.ss.length) (gsX x) := by
  have hb := h.bnd
  have hi := hb.i
  have hf : x.n.fst = 1 + x.n.ins + x.n.ss.length := rfl
  have hc : x.n.cnt = x.n.fst + x.n.ls.length := rfl
  have h1 := nS_le h.n x.n.ss.length (Nat.le_refl _)
  have h2 := arcL_le h.n x.n.ls.length (Nat.le_refl _)
  have hs := hb.s
  have hl := hb.l
  have blk : ∀ m, m ≤ x.n.ls.length → ∀ a ∈ arcL x m, ArcOk x.n.cnt a := by
    intro m
    induction m with
    | zero => intro _ a ha; cases ha
    | succ m ih =>
      intro hm a ha
      rcases List.mem_append.1 (show a ∈ arcL x m ++ blkI x m from ha) with ha | ha
      · exact ih (by omega) a ha
      · unfold blkI at ha
        obtain ⟨j, hj, rfl⟩ := List.mem_map.1 ha
        have hj' := List.mem_range.1 hj
        have a1 := (h.n.lt m (by omega)).1.2 j hj'
        have a2 := (h.dl m (by omega)).2 j (by have := (h.dl m (by omega)).1; omega)
        exact ⟨⟨a1.1, a1.2⟩, by show x.n.fst + (m : Int) < _; omega, a2.1, a2.2⟩
  have seq : ∀ m, m ≤ x.n.ss.length → ∀ a ∈ arcS x m, ArcOk (x.n.cnt + nS x m) a := by
    intro m
    induction m with
    | zero => intro _ a ha; have := blk _ (Nat.le_refl _) a ha; exact ⟨this.1, by have := this.2.1; show a.t < x.n.cnt + ((0 : Nat) : Int); omega, this.2.2⟩
    | succ m ih =>
      intro hm a ha
      unfold arcS at ha
      rcases List.mem_append.1 ha with ha | ha
      · have := ih (by omega) a ha
        exact ⟨this.1, by have := this.2.1; show a.t < x.n.cnt + ((nS x m + (x.n.ss.getD m sq0).xs.length : Nat) : Int); omega, this.2.2⟩
      · obtain ⟨j, hj, rfl⟩ := List.mem_map.1 ha
        have hj' := List.mem_range.1 hj
        have a1 := (h.n.sq m (by omega)).2 j hj'
        have a2 := (h.ds m (by omega)).2 j (by have := (h.ds m (by omega)).1; omega)
        exact ⟨⟨a1.1, by show (x.n.ss.getD m sq0).xs.getD j 0 < x.n.cnt + (nS x m : Int) + j; omega⟩, by show x.n.cnt + (nS x m : Int) + j < x.n.cnt + ((nS x m + (x.n.ss.getD m sq0).xs.length : Nat) : Int); omega, a2.1, a2.2⟩
  exact ⟨by omega, by omega, by rw [arcS_len]; omega, seq _ (Nat.le_refl _)⟩
theorem lutS_max (x : Td) (o : List Int) (r : List Bl) (i : Nat) (hd : ∀ j, j < (x.n.ls.getD i lt0).xs.length → 0 ≤ (x.dl.getD i ir0).xs.getD j 0) (ho : ∀ q, 0 ≤ o.getD q 0) : ∀ k, k ≤ (x.n.ls.getD i lt0).xs.length →
    (∀ j, j < k → (r.getD ((x.n.ls.getD i lt0).xs.getD j 0).toNat bl0).b = true → o.getD ((x.n.ls.getD i lt0).xs.getD j 0).toNat 0 + (x.dl.getD i ir0).xs.getD j 0 ≤ (lutS x o r i k).1) ∧ 0 ≤ (lutS x o r i k).1 ∧
    ((lutS x o r i k).1 = 0 ∨ ∃ j, j < k ∧ (r.getD ((x.n.ls.getD i lt0).xs.getD j 0).toNat bl0).b = true ∧ (lutS x o r i k).1 = o.getD ((x.n.ls.getD i lt0).xs.getD j 0).toNat 0 + (x.dl.getD i ir0).xs.getD j 0) ∧
    ((lutS x o r i k).2 = true ↔ ∃ j, j < k ∧ (r.getD ((x.n.ls.getD i lt0).xs.getD j 0).toNat bl0).b = true)
  | 0, _ => ⟨fun j hj => absurd hj (by omega), Int.le_refl _, Or.inl rfl, Iff.intro (fun h => absurd h Bool.false_ne_true) (fun ⟨j, hj, _⟩ => absurd hj (by omega))⟩
  | k + 1, hk => by
    obtain ⟨a, b, c, d⟩ := lutS_max x o r i hd ho k (by omega)
    unfold lutS
    by_cases hr : (r.getD ((x.n.ls.getD i lt0).xs.getD k 0).toNat bl0).b = true
    · rw [if_pos hr]
      obtain ⟨m1, m2, m3⟩ := mx_le (lutS x o r i k).1 (o.getD ((x.n.ls.getD i lt0).xs.getD k 0).toNat 0 + (x.dl.getD i ir0).xs.getD k 0)
      have h1 := hd k (by omega)
      have h2 := ho ((x.n.ls.getD i lt0).xs.getD k 0).toNat
      refine ⟨fun j hj hrj => ?_, by show 0 ≤ mx _ _; omega, ?_, ⟨fun _ => ⟨k, by omega, hr⟩, fun _ => rfl⟩⟩
      · show _ ≤ mx _ _
        by_cases e : j = k
        · subst e; exact m2
        · have := a j (by omega) hrj; omega
      · show mx _ _ = 0 ∨ ∃ j, _ ∧ _ ∧ mx _ _ = _
        rcases m3 with e | e
        · rcases c with c | ⟨j, hj, hrj, c⟩
          · left; rw [e]; exact c
          · right; exact ⟨j, by omega, hrj, by rw [e]; exact c⟩
        · right; exact ⟨k, by omega, hr, e⟩
    · rw [if_neg hr]
      refine ⟨fun j hj hrj => ?_, b, ?_, ?_⟩
      · by_cases e : j = k
        · subst e; exact absurd hrj hr
        · exact a j (by omega) hrj
      · rcases c with c | ⟨j, hj, hrj, c⟩
        · left; exact c
        · right; exact ⟨j, by omega, hrj, c⟩
      · rw [d]
        constructor
        · rintro ⟨j, hj, hrj⟩; exact ⟨j, by omega, hrj⟩
        · rintro ⟨j, hj, hrj⟩
          by_cases e : j = k
          · subst e; exact absurd hrj hr
          · exact ⟨j, by omega, hrj⟩
theorem settle_max {x : Td} (h : TdOk x) : ∀ (N k : Nat), k < N → (k : Int) < x.n.cnt → MaxV (psX x) (DX x) k (stp x (sL x k).1 (sL x k).2 k).1 ∧ ((stp x (sL x k).1 (sL x k).2 k).2 = true ↔ ∃ p ∈ psX x, 0 ≤ DX x p.n k)
  | 0, k, hN, _ => by omega
  | N + 1, k, hN, hk => by
    have hb := h.bnd
    have hi := hb.i
    have hf : x.n.fst = 1 + x.n.ins + x.n.ss.length := rfl
    have hc : x.n.cnt = x.n.fst + x.n.ls.length := rfl
    by_cases hleaf : (k : Int) < x.n.fst
    · have hD : ∀ s, DX x s k = if (k : Int) = s then 0 else -1 := fun s => leaf_D h s hleaf
      have hpk : ∀ p ∈ psX x, 0 ≤ DX x p.n k → p.n = k ∧ DX x p.n k = 0 := fun p hp h0 => by
        rw [hD] at h0 ⊢
        by_cases e : (k : Int) = p.n
        · rw [if_pos e]; exact ⟨e.symm, rfl⟩
        · rw [if_neg e] at h0; omega
      unfold stp
      by_cases h0 : k = 0
      · rw [if_pos h0]
        have hno : ∀ p ∈ psX x, ¬ 0 ≤ DX x p.n k := fun p hp h9 => by have := (hpk p hp h9).1; have := (ps_rng h hp).1; omega
        exact ⟨⟨fun p hp h9 => absurd h9 (hno p hp), Int.le_refl _, .inl rfl⟩, ⟨fun h9 => absurd h9 Bool.false_ne_true, fun ⟨p, hp, h9⟩ => absurd h9 (hno p hp)⟩⟩
      · rw [if_neg h0]
        by_cases h1 : (k : Int) ≤ x.n.ins
        · rw [if_pos h1]
          have hmem : (⟨k, 0⟩ : Pt) ∈ psX x := lau_mem.2 (.inl ⟨k - 1, by omega, by rw [show (1 : Int) + ((k - 1 : Nat) : Int) = k by omega]⟩)
          have hdk : 0 ≤ DX x (k : Int) k := by rw [hD, if_pos rfl]; exact Int.le_refl _
          refine ⟨⟨fun p hp h9 => ?_, Int.le_refl _, .inl rfl⟩, ⟨fun _ => ⟨_, hmem, hdk⟩, fun _ => rfl⟩⟩
          obtain ⟨e1, e2⟩ := hpk p hp h9
          rw [e2]
          rcases lau_mem.1 hp with ⟨q, hq, rfl⟩ | ⟨q, hq, rfl⟩
          · exact Int.le_refl _
          · exfalso; have e3 : 1 + x.n.ins + (q : Int) = k := e1; omega
        · rw [if_neg h1, if_pos hleaf]
          have hq0 : ((k : Int) - 1 - x.n.ins).toNat < x.ks.length := by have := hb.k; omega
          have hmem : (⟨k, x.ks.getD ((k : Int) - 1 - x.n.ins).toNat 0⟩ : Pt) ∈ psX x := lau_mem.2 (.inr ⟨((k : Int) - 1 - x.n.ins).toNat, hq0, by rw [show 1 + x.n.ins + ((((k : Int) - 1 - x.n.ins).toNat : Nat) : Int) = k by omega]⟩)
          have hdk : DX x (k : Int) k = 0 := by rw [hD, if_pos rfl]
          have hs0 := (h.k.2 _ hq0).1
          refine ⟨⟨fun p hp h9 => ?_, hs0, .inr ⟨_, hmem, by show 0 ≤ DX x (k : Int) k; omega, by show _ = _ + DX x (k : Int) k; rw [hdk]; exact (Int.add_zero _).symm⟩⟩, ⟨fun _ => ⟨_, hmem, by show 0 ≤ DX x (k : Int) k; omega⟩, fun _ => rfl⟩⟩
          obtain ⟨e1, e2⟩ := hpk p hp h9
          rw [e2]
          rcases lau_mem.1 hp with ⟨q, hq, rfl⟩ | ⟨q, hq, rfl⟩
          · exfalso; have e3 : 1 + (q : Int) = k := e1; omega
          · have e3 : 1 + x.n.ins + (q : Int) = k := e1
            show x.ks.getD q 0 + 0 ≤ _
            rw [show ((k : Int) - 1 - x.n.ins).toNat = q by omega]; omega
    · obtain ⟨i, hik⟩ : ∃ i : Nat, (k : Int) = x.n.fst + i := ⟨((k : Int) - x.n.fst).toNat, by omega⟩
      have hil : i < x.n.ls.length := by omega
      have hki : k = (x.n.fst + i).toNat := by omega
      have hlt := h.n.lt i hil
      have hdl := h.dl i hil
      have hX : ∀ j, j < (x.n.ls.getD i lt0).xs.length → 0 ≤ (x.n.ls.getD i lt0).xs.getD j 0 ∧ (x.n.ls.getD i lt0).xs.getD j 0 < x.n.fst + i := fun j hj => hlt.1.2 j hj
      have hd : ∀ j, j < (x.n.ls.getD i lt0).xs.length → 0 ≤ (x.dl.getD i ir0).xs.getD j 0 := fun j hj => (hdl.2 j (by have := hdl.1; omega)).1
      have IH : ∀ j, j < (x.n.ls.getD i lt0).xs.length → MaxV (psX x) (DX x) ((x.n.ls.getD i lt0).xs.getD j 0).toNat ((sL x k).1.getD ((x.n.ls.getD i lt0).xs.getD j 0).toNat 0) ∧ (((sL x k).2.getD ((x.n.ls.getD i lt0).xs.getD j 0).toNat bl0).b = true ↔ ∃ p ∈ psX x, 0 ≤ DX x p.n ((x.n.ls.getD i lt0).xs.getD j 0).toNat) := fun j hj => by
        have := hX j hj
        obtain ⟨e1, e2⟩ := sL_pre x k ((x.n.ls.getD i lt0).xs.getD j 0).toNat (by omega)
        rw [e1, e2]
        exact settle_max h N _ (by omega) (by omega)
      have ho : ∀ q, 0 ≤ (sL x k).1.getD q 0 := fun q => by
        by_cases hq : q < k
        · rw [(sL_pre x k q hq).1]; exact (settle_max h N q (by omega) (by omega)).1.2.1
        · rw [List.getD_eq_getElem?_getD, List.getElem?_eq_none (by have := (sL_len x k).1; omega)]; exact Int.le_refl _
      have hst : stp x (sL x k).1 (sL x k).2 k = lutS x (sL x k).1 (sL x k).2 i (x.n.ls.getD i lt0).xs.length := by
        unfold stp
        rw [if_neg (by omega), if_neg (by omega), if_neg hleaf, show ((k : Int) - x.n.fst).toNat = i by omega]
      obtain ⟨a, b, c, d⟩ := lutS_max x (sL x k).1 (sL x k).2 i hd ho _ (Nat.le_refl _)
      rw [hst]
      -- a point's delay at the table
      have hDk : ∀ p ∈ psX x, (∀ j, j < (x.n.ls.getD i lt0).xs.length → 0 ≤ DX x p.n ((x.n.ls.getD i lt0).xs.getD j 0).toNat → DX x p.n ((x.n.ls.getD i lt0).xs.getD j 0).toNat + (x.dl.getD i ir0).xs.getD j 0 ≤ DX x p.n k) ∧
          (0 ≤ DX x p.n k → ∃ j, j < (x.n.ls.getD i lt0).xs.length ∧ 0 ≤ DX x p.n ((x.n.ls.getD i lt0).xs.getD j 0).toNat ∧ DX x p.n k = DX x p.n ((x.n.ls.getD i lt0).xs.getD j 0).toNat + (x.dl.getD i ir0).xs.getD j 0) := fun p hp => by
        have hpr := ps_rng h hp
        have hE : DX x p.n k = (blkI x i).foldl (stepD true (delL true (gsX x) p.n k)) (-1) := by
          show Dl true (gsX x) p.n k = _
          rw [Dl_def, if_neg (by omega), into_arcS x hk, hki, into_arcL x (by omega) i, if_pos hil]
        have hat : ∀ j, j < (x.n.ls.getD i lt0).xs.length → (delL true (gsX x) p.n k).getD ((x.n.ls.getD i lt0).xs.getD j 0).toNat 0 = DX x p.n ((x.n.ls.getD i lt0).xs.getD j 0).toNat := fun j hj => by
          have := hX j hj; exact del_at true (gsX x) p.n k _ (by omega)
        obtain ⟨f1, f2, f3⟩ := fold_maxS (out := delL true (gsX x) p.n k) (blkI x i) (-1) (fun q hq => by unfold blkI at hq; obtain ⟨j, hj, rfl⟩ := List.mem_map.1 hq; exact hd j (List.mem_range.1 hj)) (Int.le_refl _)
        rw [← hE] at f1 f2 f3
        refine ⟨fun j hj h9 => ?_, fun h9 => ?_⟩
        · have := f2 ⟨(x.n.ls.getD i lt0).xs.getD j 0, x.n.fst + i, (x.dl.getD i ir0).xs.getD j 0⟩ (by unfold blkI; exact List.mem_map.2 ⟨j, List.mem_range.2 hj, rfl⟩) (by rw [hat j hj]; exact h9)
          rw [hat j hj] at this; exact this
        · rcases f3 with e | ⟨q, hq, h8, e⟩
          · omega
          · unfold blkI at hq
            obtain ⟨j, hj, rfl⟩ := List.mem_map.1 hq
            have hj' := List.mem_range.1 hj
            exact ⟨j, hj', by rw [← hat j hj']; exact h8, by rw [← hat j hj']; exact e⟩
      have up : ∀ p ∈ psX x, 0 ≤ DX x p.n k → p.s + DX x p.n k ≤ (lutS x (sL x k).1 (sL x k).2 i (x.n.ls.getD i lt0).xs.length).1 := fun p hp h9 => by
        obtain ⟨j, hj, h8, e⟩ := (hDk p hp).2 h9
        have h7 := (IH j hj).1.1 p hp h8
        have h6 := a j hj ((IH j hj).2.2 ⟨p, hp, h8⟩)
        rw [e]; omega
      refine ⟨⟨up, b, ?_⟩, ?_⟩
      · rcases c with c | ⟨j, hj, hrj, c⟩
        · left; exact c
        · right
          obtain ⟨p0, hp0, hd0⟩ := (IH j hj).2.1 hrj
          obtain ⟨p, hp, h8, e⟩ : ∃ p ∈ psX x, 0 ≤ DX x p.n ((x.n.ls.getD i lt0).xs.getD j 0).toNat ∧ (sL x k).1.getD ((x.n.ls.getD i lt0).xs.getD j 0).toNat 0 = p.s + DX x p.n ((x.n.ls.getD i lt0).xs.getD j 0).toNat := by
            rcases (IH j hj).1.2.2 with e | e
            · have h7 := (IH j hj).1.1 p0 hp0 hd0
              have h6 := (ps_rng h hp0).2.2
              exact ⟨p0, hp0, hd0, by omega⟩
            · exact e
          have h5 := (hDk p hp).1 j hj h8
          have h4 := hd j hj
          have h3 := up p hp (by omega)
          exact ⟨p, hp, by omega, by omega⟩
      · rw [d]
        constructor
        · rintro ⟨j, hj, hrj⟩
          obtain ⟨p, hp, h8⟩ := (IH j hj).2.1 hrj
          have h5 := (hDk p hp).1 j hj h8
          have h4 := hd j hj
          exact ⟨p, hp, by omega⟩
        · rintro ⟨p, hp, h9⟩
          obtain ⟨j, hj, h8, -⟩ := (hDk p hp).2 h9
          exact ⟨j, hj, (IH j hj).2.2 ⟨p, hp, h8⟩⟩
theorem o_bnd {x : Td} (h : TdOk x) {m : Nat} (hm : (m : Int) ≤ x.n.cnt) {q : Nat} (hq : q < m) : 0 ≤ (sL x m).1.getD q 0 ∧ (sL x m).1.getD q 0 ≤ 100000 := by
  have hb := h.bnd
  have hi := hb.i
  have hs := hb.s
  have hl := hb.l
  have hc : x.n.cnt = 1 + x.n.ins + x.n.ss.length + x.n.ls.length := rfl
  rw [(sL_pre x m q hq).1]
  obtain ⟨a, b, c⟩ := (settle_max h (q + 1) q (by omega) (by omega)).1
  refine ⟨b, ?_⟩
  rcases c with c | ⟨p, hp, h0, c⟩
  · omega
  · have h1 := (Dl_rng (gok_x h) true p.n (q + 1) q (by omega)).2
    have h2 : p.s ≤ 50 := by
      rcases lau_mem.1 hp with ⟨t, ht, rfl⟩ | ⟨t, ht, rfl⟩
      · show (0 : Int) ≤ 50; decide
      · exact (h.k.2 t ht).2
    have h3 : DX x p.n q ≤ 100 * (q : Int) := h1
    omega
abbrev ovX (x : Td) : List Int := valT x.n x.ao x.oi
abbrev nvX (x : Td) : List Int := valT x.n x.bs x.ni
def atW (o : Int) (wv : List Int) (t : Int) : Int := if t < 0 then o else wv.getD t.toNat 0
def lin (x : Td) (ws : List (List Int)) (i : Nat) (t : Int) (j : Nat) : Int :=
  atW ((ovX x).getD ((x.n.ls.getD i lt0).xs.getD j 0).toNat 0) (ws.getD ((x.n.ls.getD i lt0).xs.getD j 0).toNat []) (t - (x.dl.getD i ir0).xs.getD j 0)
def wvV (x : Td) (ws : List (List Int)) (k : Nat) (t : Int) : Int :=
  if (k : Int) < x.n.fst then (if 0 ≤ (k : Int) - 1 - x.n.ins ∧ t < x.ks.getD ((k : Int) - 1 - x.n.ins).toNat 0 then (ovX x).getD k 0 else (nvX x).getD k 0)
  else lutV (x.n.ls.getD ((k : Int) - x.n.fst).toNat lt0) (lin x ws ((k : Int) - x.n.fst).toNat t)
def rowW (x : Td) (ws : List (List Int)) (k h : Nat) : List Int := (List.range h).map (fun t : Nat => wvV x ws k (t : Int))
def wvsL (x : Td) (h : Nat) : Nat → List (List Int)
  | 0 => []
  | k + 1 => wvsL x h k ++ [rowW x (wvsL x h k) k (h + 1)]
theorem wvs_succ (x : Td) (h k : Nat) : wvsL x h (k + 1) = wvsL x h k ++ [rowW x (wvsL x h k) k (h + 1)] := rfl
theorem rowW_len (x : Td) (ws : List (List Int)) (k h : Nat) : (rowW x ws k h).length = h := by simp [rowW]
theorem rowW_succ (x : Td) (ws : List (List Int)) (k h : Nat) : rowW x ws k h ++ [wvV x ws k (h : Int)] = rowW x ws k (h + 1) := by unfold rowW; rw [List.range_succ, List.map_append]; rfl
theorem rowW_at (x : Td) (ws : List (List Int)) {k h t : Nat} (ht : t < h) : (rowW x ws k h).getD t 0 = wvV x ws k (t : Int) := by simp [rowW, ht]
theorem wvs_len (x : Td) (h : Nat) : ∀ k, (wvsL x h k).length = k
  | 0 => rfl
  | k + 1 => by unfold wvsL; rw [List.length_append, wvs_len x h k]; rfl
theorem wvs_at (x : Td) (h : Nat) : ∀ k q, q < k → (wvsL x h k).getD q [] = rowW x (wvsL x h q) q (h + 1)
  | 0, _, hq => absurd hq (by omega)
  | k + 1, q, hq => by
    rw [wvs_succ]
    by_cases e : q = k
    · subst e
      rw [zdk (by rw [wvs_len]; omega), wvs_len, Nat.sub_self]; rfl
    · rw [zdl (by rw [wvs_len]; omega)]; exact wvs_at x h k q (by omega)
theorem wvs_rl (x : Td) (h : Nat) {k q : Nat} (hq : q < k) : ((wvsL x h k).getD q []).length = h + 1 := by rw [wvs_at x h k q hq, rowW_len]
theorem zgp (x : Td) (h : Nat) {k q t : Nat} (hq : q < k) (ht : t ≤ h) : ((wvsL x h k).getD q []).getD t 0 = wvV x (wvsL x h q) q (t : Int) := by rw [wvs_at x h k q hq]; exact rowW_at x _ (by omega)
theorem vl_pre (n : Ln) (st : List Int) (inp : Int) {q : Nat} (hq : q < 1 + n.ins.toNat + st.length) : ∀ i, (vlL n st inp i).getD q 0 = (pb_o n st inp st.length).getD q 0
  | 0 => rfl
  | i + 1 => by unfold vlL; rw [zdl (by rw [zev]; omega)]; exact vl_pre n st inp hq i
theorem val_zero (n : Ln) (st : List Int) (inp : Int) : (valT n st inp).getD 0 0 = 0 := by
  rw [vl_pre n st inp (by omega)]; unfold pb_o pa_o; rfl
theorem val_in (n : Ln) (st : List Int) (inp : Int) {k : Nat} (h0 : 1 ≤ k) (h1 : k ≤ n.ins.toNat) : (valT n st inp).getD k 0 = inp / 2 ^ (k - 1) % 2 := by
  rw [vl_pre n st inp (by omega)]; unfold pb_o
  rw [zdl (by rw [pa_len]; omega)]; unfold pa_o
  rw [zdk (by simp; omega)]
  simp only [List.length_singleton]
  have : ((List.range n.ins.toNat).map (fun k => inp / 2 ^ k % 2)).getD (k - 1) 0 = inp / 2 ^ (k - 1) % 2 := by simp [show k - 1 < n.ins.toNat by omega]
  exact this
theorem val_seq (n : Ln) (st : List Int) (inp : Int) {s : Nat} (h : s < st.length) : (valT n st inp).getD (1 + n.ins.toNat + s) 0 = st.getD s 0 % 2 := by
  rw [vl_pre n st inp (by omega)]; unfold pb_o
  rw [zdk (by rw [pa_len]; omega), pa_len, List.take_length, show 1 + n.ins.toNat + s - (1 + n.ins.toNat) = s by omega]
  exact getD_mapv (· % 2) st s 0
theorem wv_zero (x : Td) (ws : List (List Int)) (t : Int) (hi : 0 ≤ x.n.ins) : wvV x ws 0 t = 0 := by
  have hf : x.n.fst = 1 + x.n.ins + x.n.ss.length := rfl
  unfold wvV; rw [if_pos (by omega), if_neg (by omega)]; exact val_zero _ _ _
theorem wv_in (x : Td) (ws : List (List Int)) (t : Int) {k : Nat} (h0 : 1 ≤ k) (h1 : (k : Int) ≤ x.n.ins) : wvV x ws k t = x.ni / 2 ^ ((k : Int) - 1).toNat % 2 := by
  have hf : x.n.fst = 1 + x.n.ins + x.n.ss.length := rfl
  unfold wvV; rw [if_pos (by omega), if_neg (by omega), show ((k : Int) - 1).toNat = k - 1 by omega]; exact val_in _ _ _ h0 (by omega)
theorem wv_old (x : Td) (ws : List (List Int)) (t : Int) {k : Nat} (hi : 0 ≤ x.n.ins) (ha : x.ao.length = x.n.ss.length) (h0 : x.n.ins < (k : Int)) (h1 : (k : Int) < x.n.fst) (ht : t < x.ks.getD ((k : Int) - 1 - x.n.ins).toNat 0) : wvV x ws k t = x.ao.getD ((k : Int) - 1 - x.n.ins).toNat 0 % 2 := by
  have hf : x.n.fst = 1 + x.n.ins + x.n.ss.length := rfl
  unfold wvV; rw [if_pos h1, if_pos ⟨by omega, ht⟩]
  have := val_seq x.n x.ao x.oi (s := ((k : Int) - 1 - x.n.ins).toNat) (by omega)
  rw [show 1 + x.n.ins.toNat + ((k : Int) - 1 - x.n.ins).toNat = k by omega] at this; exact this
theorem wv_new (x : Td) (ws : List (List Int)) (t : Int) {k : Nat} (hi : 0 ≤ x.n.ins) (hb : x.bs.length = x.n.ss.length) (h0 : x.n.ins < (k : Int)) (h1 : (k : Int) < x.n.fst) (ht : ¬ t < x.ks.getD ((k : Int) - 1 - x.n.ins).toNat 0) : wvV x ws k t = x.bs.getD ((k : Int) - 1 - x.n.ins).toNat 0 % 2 := by
  have hf : x.n.fst = 1 + x.n.ins + x.n.ss.length := rfl
  unfold wvV; rw [if_pos h1, if_neg (fun h => ht h.2)]
  have := val_seq x.n x.bs x.ni (s := ((k : Int) - 1 - x.n.ins).toNat) (by omega)
  rw [show 1 + x.n.ins.toNat + ((k : Int) - 1 - x.n.ins).toNat = k by omega] at this; exact this
theorem wv_lut (x : Td) (ws : List (List Int)) (t : Int) {k i : Nat} (h : (k : Int) - x.n.fst = (i : Int)) : wvV x ws k t = lutV (x.n.ls.getD i lt0) (lin x ws i t) := by
  unfold wvV; rw [if_neg (by omega), show ((k : Int) - x.n.fst).toNat = i by omega]
theorem wv01 {x : Td} (h : TdOk x) (ws : List (List Int)) (k : Nat) (t : Int) : wvV x ws k t = 0 ∨ wvV x ws k t = 1 := by
  have hb := h.bnd
  have hi := hb.i
  have ha := hb.a
  have hb2 := hb.b
  have hf : x.n.fst = 1 + x.n.ins + x.n.ss.length := rfl
  unfold wvV
  split
  · split
    · exact vl01 _ _ _ _ k (by rw [zev]; omega)
    · exact vl01 _ _ _ _ k (by rw [zev]; omega)
  · exact lut01 _ _
theorem at01 {x : Td} (h : TdOk x) {hz k q : Nat} (hq : q < k) (hk : (q : Int) < x.n.cnt) {t : Int} (ht : t ≤ hz) : atW ((ovX x).getD q 0) ((wvsL x hz k).getD q []) t = 0 ∨ atW ((ovX x).getD q 0) ((wvsL x hz k).getD q []) t = 1 := by
  have hb := h.bnd
  have hi := hb.i
  have ha := hb.a
  have hc : x.n.cnt = 1 + x.n.ins + x.n.ss.length + x.n.ls.length := rfl
  unfold atW
  split
  · exact vl01 _ _ _ _ q (by rw [zev]; omega)
  · rw [zgp x hz hq (by omega)]; exact wv01 h _ _ _
theorem lin01 {x : Td} (h : TdOk x) {hz i : Nat} (hi : i < x.n.ls.length) {k : Nat} (hk : (k : Int) - x.n.fst = i) {t : Int} (ht : t ≤ hz) (j : Nat) (hj : j < (x.n.ls.getD i lt0).xs.length) : lin x (wvsL x hz k) i t j = 0 ∨ lin x (wvsL x hz k) i t j = 1 := by
  have h1 := (h.n.lt i hi).1.2 j hj
  have h2 := (h.dl i hi).2 j (by have := (h.dl i hi).1; omega)
  have hc : x.n.cnt = 1 + x.n.ins + x.n.ss.length + x.n.ls.length := rfl
  have hf : x.n.fst = 1 + x.n.ins + x.n.ss.length := rfl
  exact at01 h (by omega) (by omega) (by omega)
theorem wvs_hor {x : Td} (h : TdOk x) {a b : Nat} : ∀ N q : Nat, q < N → (q : Int) < x.n.cnt → ∀ t : Nat, t ≤ a → t ≤ b → wvV x (wvsL x a q) q (t : Int) = wvV x (wvsL x b q) q (t : Int)
  | 0, _, hq, _, _, _, _ => absurd hq (by omega)
  | N + 1, q, hq, hc, t, ha, hb => by
    have hcc : x.n.cnt = 1 + x.n.ins + x.n.ss.length + x.n.ls.length := rfl
    have hf : x.n.fst = 1 + x.n.ins + x.n.ss.length := rfl
    have hi0 := h.bnd.i
    by_cases hl : (q : Int) < x.n.fst
    · unfold wvV; rw [if_pos hl, if_pos hl]
    · obtain ⟨i, hi⟩ : ∃ i : Nat, (q : Int) - x.n.fst = (i : Int) := ⟨((q : Int) - x.n.fst).toNat, by omega⟩
      have hil : i < x.n.ls.length := by omega
      rw [wv_lut x _ _ hi, wv_lut x _ _ hi]
      unfold lutV
      rw [pk_ext (c := lin x (wvsL x b q) i t) _ (fun j hj => ?_)]
      have h1 := (h.n.lt i hil).1.2 j hj
      have h2 := (h.dl i hil).2 j (by have := (h.dl i hil).1; omega)
      unfold lin atW
      split
      · rfl
      · rw [zgp x a (by omega) (by omega), zgp x b (by omega) (by omega)]
        exact wvs_hor h N _ (by omega) (by omega) _ (by omega) (by omega)
theorem atW_hor {x : Td} (h : TdOk x) {a b k q : Nat} (hq : q < k) (hc : (q : Int) < x.n.cnt) {t : Int} (ha : t ≤ a) (hb : t ≤ b) (o : Int) : atW o ((wvsL x a k).getD q []) t = atW o ((wvsL x b k).getD q []) t := by
  unfold atW
  split
  · rfl
  · rw [zgp x a hq (by omega), zgp x b hq (by omega)]
    exact wvs_hor h (q + 1) q (by omega) hc _ (by omega) (by omega)
def smpV (x : Td) (ws : List (List Int)) (e : Int) (i j : Nat) : Int :=
  atW ((ovX x).getD ((x.n.ss.getD i sq0).xs.getD j 0).toNat 0) (ws.getD ((x.n.ss.getD i sq0).xs.getD j 0).toNat []) (e + x.ks.getD i 0 - (x.ds.getD i ir0).xs.getD j 0)
def smpI (x : Td) (ws : List (List Int)) (e : Int) (i j : Nat) : List Int := (List.range j).map (smpV x ws e i)
def smpL (x : Td) (ws : List (List Int)) (e : Int) : Nat → List Int
  | 0 => []
  | i + 1 => smpL x ws e i ++ smpI x ws e i (x.n.ss.getD i sq0).xs.length
theorem smpI_succ (x : Td) (ws : List (List Int)) (e : Int) (i j : Nat) : smpI x ws e i (j + 1) = smpI x ws e i j ++ [smpV x ws e i j] := by unfold smpI; rw [List.range_succ, List.map_append]; rfl
theorem smp_hor {x : Td} (h : TdOk x) {a b : Nat} {e : Int} (ha : e + 50 ≤ a) (hb : e + 50 ≤ b) : ∀ i, i ≤ x.n.ss.length → smpL x (wvsL x a x.n.cnt.toNat) e i = smpL x (wvsL x b x.n.cnt.toNat) e i
  | 0, _ => rfl
  | i + 1, hi => by
    unfold smpL
    rw [smp_hor h ha hb i (by omega)]
    congr 1
    unfold smpI
    refine List.map_congr_left (fun j hj => ?_)
    have hj := List.mem_range.1 hj
    have h1 := (h.n.sq i (by omega)).2 j hj
    have h2 := (h.ds i (by omega)).2 j (by have := (h.ds i (by omega)).1; omega)
    have h3 := h.k.2 i (by have := h.k.1; omega)
    exact atW_hor h (by omega) (by omega) (by omega) (by omega) _
noncomputable def smpR (x : Td) (e : Int) : List Int := if pB (TdOk x) = true then (if 0 ≤ e ∧ e ≤ 1000 then smpL x (wvsL x 1100 x.n.cnt.toNat) e x.n.ss.length else []) else []
theorem smpR_ok {x : Td} (h : TdOk x) {e : Int} (h0 : 0 ≤ e ∧ e ≤ 1000) {a : Nat} (ha : e + 50 ≤ a) : smpR x e = smpL x (wvsL x a x.n.cnt.toNat) e x.n.ss.length := by
  unfold smpR; rw [if_pos (zef h), if_pos h0]; exact smp_hor h (by omega) ha _ (Nat.le_refl _)
theorem smpR_no {x : Td} {e : Int} (h : ¬ TdOk x ∨ ¬ (0 ≤ e ∧ e ≤ 1000)) : smpR x e = [] := by
  unfold smpR
  rcases h with h | h
  · rw [zdh h]; rfl
  · rw [if_neg h]; split <;> rfl
theorem conv_setPart {w0 : World} {ps l : List HP} {j : Nat} {p' : HP} (h : j < ps.length) : Conv w0 (p' :: bigE ps :: l) (bigE (ps.set j p') :: l) := fun w hm => by
  have h1 : Mem w0 (bigE ps :: p' :: l) w := hm.perm (.swap _ _ _)
  have h2 := conv_focus (j := j) (p := ps[j]) (List.getElem?_eq_getElem h) w h1
  have h3 : Mem w0 (bigE (ps.eraseIdx j) :: p' :: l) w := h2.sub (List.sublist_cons_self _ _)
  exact conv_unfocus h w (h3.perm (.swap _ _ _))
theorem conv_irSet {w0 : World} {l : List HP} {es : List IR} {j : Nat} {e' : IR} (h : j < es.length) : Conv w0 (irPart e' :: bigE (es.map irPart) :: l) (bigE ((es.set j e').map irPart) :: l) := fun w hm => by
  rw [List.map_set]; exact conv_setPart (by rw [List.length_map]; exact h) w hm
theorem zfp {w0 : World} {l : List HP} {es : List IR} {j : Nat} (h : j < es.length) : Conv w0 (bigE (es.map irPart) :: l) (irPart (es.getD j ir0) :: bigE ((es.map irPart).eraseIdx j) :: l) :=
  conv_focus (by rw [List.getElem?_map, getD_at h (d := ir0)]; rfl)
theorem zfb {w0 : World} {l : List HP} {es : List IR} {j : Nat} {e' : IR} (h : j < es.length) : Conv w0 (irPart e' :: bigE ((es.map irPart).eraseIdx j) :: l) (bigE ((es.set j e').map irPart) :: l) := fun w hm => by
  rw [List.map_set]; exact conv_unfocus (by rw [List.length_map]; exact h) w hm
theorem Mem.irNil {w0 w : World} {l : List HP} (h : Mem w0 l w) (n : Nat) : Mem w0 (bigE ((List.replicate n ir0).map irPart) :: l) w := by
  refine Mem.big ?_
  rw [List.map_replicate]
  exact h.bigNil _ _ n
theorem rdsIr_sep {w0 w : World} {l : List HP} {v : Value} {es : List IR} (hm : Mem w0 l w) (i j : Nat) (hi : l[i]? = some (bigE (es.map irPart))) (hj : l[j]? = some (rowE 26 1 v es.length (es.flatMap irC))) : RdsIr w v es :=
  ⟨zbp (hm.holds _ (zby hj)), fun r hr => zbp ((hm.holds _ (zby hi)).1 (irPart r) (List.mem_map.2 ⟨r, hr, rfl⟩)).2⟩
theorem rv_buildM {P : Program} {N : Nat} {w0 : World} {l : List HP} {env : List (Nat × Value)} {o : Oper} {t : TypeId} {ps : Array (Nat × Operand)} {vs : List (Nat × Value)} {cs : Array Value} (ho : o.op = .build t ps)
    (hp : ps.toList.mapM (fun p => (ev env p.2).map fun v => (p.1, v)) = some vs) (hb : ∀ w, Mem w0 l w → P.built t vs = some cs) : RunV P N w0 l env o (.agg cs) := fun a w st => zda ho hp (hb w st.mem) a w st
structure WOk (x : Td) (h m C : Nat) (es : List IR) : Prop where
  len : es.length = C
  row : ∀ q, q < m → (es.getD q ir0).xs = (wvsL x h m).getD q []
theorem w_start (x : Td) (h C : Nat) : WOk x h 0 C (List.replicate C ir0) := ⟨by simp, fun q hq => absurd hq (by omega)⟩
theorem WOk.set {x : Td} {h m C : Nat} {es : List IR} (k : WOk x h m C es) (e : IR) : WOk x h m C (es.set m e) := ⟨by rw [List.length_set]; exact k.len, fun q hq => by rw [set_neG (by omega)]; exact k.row q hq⟩
theorem WOk.next {x : Td} {h m C : Nat} {es : List IR} (k : WOk x h m C es) (hr : (es.getD m ir0).xs = rowW x (wvsL x h m) m (h + 1)) : WOk x h (m + 1) C es := ⟨k.len, fun q hq => by
  by_cases e : q = m
  · subst e; rw [hr, wvs_at x h _ _ (by omega)]
  · rw [k.row q (by omega), wvs_at x h _ _ (by omega), wvs_at x h _ _ (by omega)]⟩
theorem rowW_zero (x : Td) (ws : List (List Int)) (k h : Nat) : List.replicate (h + 1) (0 : Int) = fzT (h + 1) (rowW x ws k 0) := fz_nil _
theorem rowW_set {x : Td} {ws : List (List Int)} {k h t : Nat} (ht : t ≤ h) {v : Int} (hv : v = wvV x ws k (t : Int)) : (fzT (h + 1) (rowW x ws k t)).set t v = fzT (h + 1) (rowW x ws k (t + 1)) := by
  rw [fz_set (by rw [rowW_len]) (by rw [rowW_len]; omega), hv, rowW_succ]
theorem fzT_lenW (x : Td) (ws : List (List Int)) {k h t : Nat} (ht : t ≤ h + 1) : (fzT (h + 1) (rowW x ws k t)).length = h + 1 := fz_len (by rw [rowW_len]; exact ht)
theorem fzT_allW (x : Td) (ws : List (List Int)) (k h : Nat) : fzT (h + 1) (rowW x ws k (h + 1)) = rowW x ws k (h + 1) := fz_all (rowW_len _ _ _ _)
structure Wv where
  bv : Value
  av : Value
  vs : List Int
  es : List IR
structure RdsWv (w : World) (b : Nat) (g : Wv) : Prop where
  c0 : w.cell? ⟨b, 0, none⟩ = some g.bv
  c1 : w.cell? ⟨b, 1, none⟩ = some g.av
  vs : RdsW w g.bv 1 g.vs.length (g.vs.map (Value.int .i64))
  es : RdsIr w g.av g.es
theorem RdsWv.lt {w : World} {b : Nat} {g : Wv} (h : RdsWv w b g) : b < w.heap.size := World.block_lt_of_cell? _ _ h.c0
theorem wavesAt_ans (b : Nat) (g : Wv) (k t : Int) (w : World) (hg : RdsWv w b g) (hk : 0 ≤ k ∧ k < g.vs.length) (he : g.es.length = g.vs.length) (ht : t < (g.es.getD k.toNat ir0).xs.length) :
   Calls Try.prog 54 #[.pointer (some ⟨b, 0, none⟩), .int .i64 k, .int .i64 t] w (Ans w (.int .i64 (atW (g.vs.getD k.toNat 0) (g.es.getD k.toNat ir0).xs t))) := by
 refine zbf (N := 26) (args := [.pointer (some ⟨b, 0, none⟩), .int .i64 k, .int .i64 t]) Try.func54 rfl rfl (zbc 1 rfl (zac (zac (reQ 1 rfl ?_))))
 refine zbh rfl rfl rfl rfl rfl rfl (fun h1 => ?_) (fun h1 => ?_)
 ·
  refine ntQ (zao rfl (zac (reQ 1 rfl (hvQ rfl (zem rfl rfl) (hvQ rfl (fdQ 0 rfl rfl rfl) ?_)))))
  refine hvQ rfl (zag rfl rfl rfl (fun w hm => (hm.bel.cell (p := ⟨b, 0 + 0, none⟩) hg.lt).trans hg.c0)) (zan 1 rfl (hvQ rfl (riQ 1 rfl rfl rfl rfl (zaa hg.vs)) (hvQ rfl (lzQ rfl rfl rfl (zaa hg.vs)) (zbb 1 rfl ?_))))
  refine zav (zap ?_)
  exact zbg rfl rfl (by unfold atW; first | rw [if_pos (by omega)] | rw [if_neg (by omega)])
 refine ntQ (zaq rfl (zcp (zac (reQ 1 rfl (hvQ rfl (zem rfl rfl) (hvQ rfl (fdQ 1 rfl rfl rfl) ?_))))))
 refine hvQ rfl (zag rfl rfl rfl (fun w hm => (hm.bel.cell (p := ⟨b, 0 + 1, none⟩) hg.lt).trans hg.c1)) (zan 1 rfl (hvQ rfl (riQ 1 rfl rfl rfl rfl (zaa hg.es.row)) ?_))
 refine hvQ rfl (zat (u := (g.es.getD k.toNat ir0).v) rfl rfl rfl (zaa hg.es.row) (zbn irC (fun r => r.v) (fun _ => rfl) g.es ir0 (show (k).toNat < _ by omega))) (zan 1 rfl (hvQ rfl (riQ 1 rfl rfl rfl rfl (zaa (hg.es.at (d := ir0) (k := k.toNat) (by omega)))) (hvQ rfl (zat (u := .int .i64 (((g.es.getD k.toNat ir0).xs).getD ((t).toNat) 0)) rfl rfl rfl (zaa (hg.es.at (d := ir0) (k := k.toNat) (by omega))) (zdi (show _ < ((g.es.getD k.toNat ir0).xs).length by omega))) (zbb 1 rfl ?_))))
 exact zav (zbg rfl rfl (by unfold atW; first | rw [if_pos (by omega)] | rw [if_neg (by omega)]))
theorem wavesAt_lin {x : Td} {h m C i j b : Nat} {u v : Value} {es : List IR} {K d t : Int} (w : World) (c0 : w.cell? ⟨b, 0, none⟩ = some u) (c1 : w.cell? ⟨b, 1, none⟩ = some v) (hu : RdsW w u 1 (ovX x).length ((ovX x).map (Value.int .i64))) (hv : RdsIr w v es) (hw : WOk x h m C es)
    (hk : (x.n.ls.getD i lt0).xs.getD j 0 = K) (hd : (x.dl.getD i ir0).xs.getD j 0 = d) (hr : 0 ≤ K ∧ K < m) (hC : C = (ovX x).length) (hm : m < C) (ht : t - d ≤ h) :
    Calls Try.prog 54 #[.pointer (some ⟨b, 0, none⟩), .int .i64 K, .int .i64 (t - d)] w (Ans w (.int .i64 (lin x (wvsL x h m) i t j))) := by
  have hq := hw.row K.toNat (by omega)
  have hl : (es.getD K.toNat ir0).xs.length = h + 1 := by rw [hq]; exact wvs_rl x h (by omega)
  have h9 := wavesAt_ans b ⟨u, v, ovX x, es⟩ K (t - d) w ⟨c0, c1, hu, hv⟩ (show 0 ≤ K ∧ K < ((ovX x).length : Int) from by omega) (show es.length = (ovX x).length from by rw [hw.len]; exact hC) (show t - d < ((es.getD K.toNat ir0).xs.length : Int) from by omega)
  have e : atW ((ovX x).getD K.toNat 0) (es.getD K.toNat ir0).xs (t - d) = lin x (wvsL x h m) i t j := by unfold lin; rw [hq, hk, hd]
  rw [← e]; exact h9
theorem built_waves (x0 : Value) (x1 : Value) (h0 : x0.oneCell' = true) (h1 : x1.oneCell' = true) : Try.prog.built 82 [(0, x0), (1, x1)] = some #[x0, x1] := by
  (cases x0 <;> first | (exact absurd h0 Bool.false_ne_true) | (cases x1 <;> first | (exact absurd h1 Bool.false_ne_true) | kernel_rfl))
theorem hq_oneW {N : Nat} {w0 : World} {l : List HP} {env : List (Nat × Value)} {Q : Post} {ex : Exit} {i e s n : Nat} {v : Value} {xs : List Value} (hi : l[i]? = some (rowE e s v n xs)) (k : v.oneCell' = true → HQ N w0 l env ex Q) : HQ N w0 l env ex Q := fun a w st => k (zbp (st.mem.holds _ (zby hi))).one a w st
theorem flat_same {es : List IR} {m : Nat} {xs : List Int} : (es.set m (IR.mk (es.getD m ir0).v xs)).flatMap irC = es.flatMap irC := by
  have e : ∀ zs : List IR, zs.flatMap irC = zs.map IR.v := fun zs => by induction zs with
    | nil => rfl
    | cons a bs ih => rw [List.flatMap_cons, List.map_cons, ih]; rfl
  rw [e, e, List.map_set]
  refine List.ext_getElem (by simp) (fun q h1 h2 => ?_)
  rw [List.getElem_set]
  split
  · subst_vars
    rw [List.getElem_map, List.getD_eq_getElem?_getD, List.getElem?_eq_getElem (by simpa using h2)]; rfl
  · rfl
end Go.Proofs.Ytakjndmlanpadaa
