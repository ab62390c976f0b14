/- Texts of the law FnConnsComplete, part 2: what it uses. -/
import Derived.Test.YteikplehipifkaaCnc1
set_option linter.unusedVariables false
set_option linter.unusedSimpArgs false
set_option maxHeartbeats 4000000
set_option maxRecDepth 100000
namespace Go.Proofs.Yteikplehipifkaa
open Go.RowKit Go.ChangeShapes
open Go.RowKit
theorem zix (n : Int) (w : World) (hn : 0 ≤ n ∧ n ≤ 4) :
   Calls Try.prog 124 #[.int .i64 n] w (Ans w (.int .i64 (qT n - 1))) := by
 have hp := zwg hn
 have hq := zwe hn
 refine zbf (N := 7) (args := [.int .i64 n]) Try.func124 rfl rfl (zac (zay (zap 1 rfl (zbu (zaw (zac (zay (zap 1 rfl (hvQ rfl (zgv (k := .u64) (kk := .i64) (r := (pT n : Int)) rfl rfl rfl rfl (by omega) (wruT hn)) (hvQ rfl (zgv (k := .i64) (kk := .u64) (r := qT n) rfl rfl rfl rfl (by omega) (wrqT (by omega))) (hvQ rfl (vsQ rfl rfl rfl) (zap 1 rfl ?_))))))))))))
 refine ntQ ?_
 exact zau (zbb rfl rfl rfl)
theorem zmb (n b : Int) (w : World)  :
   Calls Try.prog 78 #[.agg #[.int .i64 n, .int .i64 b]] w (Ans w (.bool (pB (TabP n b)))) := by
 refine zbf (N := 17) (args := [.agg #[.int .i64 n, .int .i64 b]]) Try.func78 rfl rfl (srQ ?_)
 refine zdj rfl (zch rfl rfl) ?_
 intro b1
 refine zaz 1 rfl (srQ (hvQ rfl (fdQ 0 rfl rfl rfl) (hvQ rfl (zad rfl rfl rfl (zaa 0 rfl rfl)) ?_)))
 refine zds rfl (zaq rfl rfl (fun w hm => zav (zgb (zdy _ _ _ w)))) (zca (fun h2 => ?_) (fun h2 => ?_))
 ·
  obtain ⟨h2a, h2b⟩ := (zdc _ _ _).1 h2
  refine zap 1 rfl (hvQ rfl (fdQ 1 rfl rfl rfl) ?_)
  have hpT := zwg (n := n) (by omega)
  have hqT := zwe (n := n) (by omega)
  refine hvQ rfl (zad rfl rfl rfl (zaa 0 rfl rfl)) (hvQ rfl (fdQ 0 rfl rfl rfl) (hvQ rfl (zad rfl rfl rfl (zaa 0 rfl rfl)) (hvQ rfl (rv_conv rfl Try.underlying3 Try.underlying139 rfl (IntWalk.u64_in _ (by omega))) (hvQ rfl (zgv (k := .u64) (kk := .u64) (r := (pT n : Int)) rfl rfl rfl rfl (by omega) (wruT (by omega))) (hvQ rfl (zgv (k := .i64) (kk := .u64) (r := qT n) rfl rfl rfl rfl (by omega) (wrqT (by omega))) (hvQ rfl (vsQ rfl rfl rfl) ?_))))))
  refine zds rfl (zaq rfl rfl (fun w hm => zav (zgb (zdy _ _ _ w)))) (zca (fun h3 => ?_) (fun h3 => ?_))
  ·
   obtain ⟨h3a, h3b⟩ := (zdc _ _ _).1 h3
   refine zaz 2 rfl ?_
   exact zau (zbb rfl rfl (congrArg _ (zdu ⟨by omega, by omega, by omega⟩).symm))
  have h3a := zea h3
  refine zaz 2 rfl ?_
  exact zau (zbb rfl rfl (congrArg _ (zdp (fun hp => by first | (obtain ⟨p1, p2, p3⟩ := hp; omega))).symm))
 have h2a := zea h2
 refine zaz 12 rfl ?_
 exact zau (zbb rfl rfl (congrArg _ (zdp (fun hp => by first | (obtain ⟨p1, p2, p3⟩ := hp; omega))).symm))
theorem zgl (n b : Int) (w : World)  :
   Calls Try.prog 110 #[.agg #[.int .i64 n, .int .i64 b]] w (Ans w (.bool (pB (TabP n b)))) := by
 refine zbf (N := 19) (args := [.agg #[.int .i64 n, .int .i64 b]]) Try.func110 rfl rfl (srQ ?_)
 refine zdj rfl (zch rfl rfl) ?_
 intro b1
 refine zaz 1 rfl (zac ?_)
 rcases Bool.eq_false_or_eq_true (inR n 0 4) with hb2 | hb2
 ·
  obtain ⟨hb2a, hb2b⟩ := (zdc _ _ _).1 hb2
  rcases Bool.eq_false_or_eq_true (decide (0 ≤ b)) with hb3 | hb3
  ·
   have hb3p : 0 ≤ b := of_decide_eq_true hb3
   rcases Bool.eq_false_or_eq_true (decide (b ≤ qT n - 1)) with hb4 | hb4
   ·
    have hb4p : b ≤ qT n - 1 := of_decide_eq_true hb4
    refine zby 16 [[], [0], [1], [2], [3], [3, 4], [3, 5], [3, 6], [7], [8], [8, 9], [8], [8, 11], [8, 12], [8, 10, 13], [8, 14]] [3, 4, 5, 6, 7, 8, 9, 10, 11, 12, 13, 14, 15, 16, 17, 18] [.pointer (some ⟨b1, 0 + 0, none⟩), .int .i64 n, .bool true, .bool true, .pointer (some ⟨b1, 0 + 1, none⟩), .int .i64 b, .bool true, .bool true, .bool true, .pointer (some ⟨b1, 0 + 1, none⟩), .int .i64 b, .pointer (some ⟨b1, 0 + 0, none⟩), .int .i64 n, .int .i64 (qT n - 1), .bool true, .bool true] (by kernel_rfl) rfl ?_ ?_
    ·
     exact ⟨iaQ rfl (fdQ 0 rfl rfl rfl) rfl, iaQ rfl (zad rfl rfl rfl (zaa 0 rfl rfl)) rfl, .inl ⟨rfl, zfr (zaq rfl rfl (fun w hm => zav (zem n 0 4 w))) hb2⟩, iaQ rfl (zas rfl) rfl, iaQ rfl (fdQ 1 rfl rfl rfl) rfl, iaQ rfl (zad rfl rfl rfl (zaa 0 rfl rfl)) rfl, .inl ⟨rfl, zek (zde rfl rfl rfl rfl) hb3⟩, iaQ rfl (zas rfl) rfl, iaQ rfl (zas rfl) rfl, iaQ rfl (fdQ 1 rfl rfl rfl) rfl, iaQ rfl (zad rfl rfl rfl (zaa 0 rfl rfl)) rfl, iaQ rfl (fdQ 0 rfl rfl rfl) rfl, iaQ rfl (zad rfl rfl rfl (zaa 0 rfl rfl)) rfl, .inl ⟨rfl, zaq rfl rfl (fun w hm => zav (zix n w (by omega)))⟩, .inl ⟨rfl, zek (zde rfl rfl rfl rfl) hb4⟩, iaQ rfl (zas rfl) rfl, trivial⟩
    simp only [List.drop_succ_cons, List.drop_zero]
    refine zaz 1 rfl ?_
    exact zau (zbb rfl rfl (congrArg _ (zdu ⟨by omega, by omega, by omega⟩).symm))
   have hb4p : ¬ (b ≤ qT n - 1) := of_decide_eq_false hb4
   refine zby 16 [[], [0], [1], [2], [3], [3, 4], [3, 5], [3, 6], [7], [8], [8, 9], [8], [8, 11], [8, 12], [8, 10, 13], [8, 14]] [3, 4, 5, 6, 7, 8, 9, 10, 11, 12, 13, 14, 15, 16, 17, 18] [.pointer (some ⟨b1, 0 + 0, none⟩), .int .i64 n, .bool true, .bool true, .pointer (some ⟨b1, 0 + 1, none⟩), .int .i64 b, .bool true, .bool true, .bool true, .pointer (some ⟨b1, 0 + 1, none⟩), .int .i64 b, .pointer (some ⟨b1, 0 + 0, none⟩), .int .i64 n, .int .i64 (qT n - 1), .bool false, .bool false] (by kernel_rfl) rfl ?_ ?_
   ·
    exact ⟨iaQ rfl (fdQ 0 rfl rfl rfl) rfl, iaQ rfl (zad rfl rfl rfl (zaa 0 rfl rfl)) rfl, .inl ⟨rfl, zfr (zaq rfl rfl (fun w hm => zav (zem n 0 4 w))) hb2⟩, iaQ rfl (zas rfl) rfl, iaQ rfl (fdQ 1 rfl rfl rfl) rfl, iaQ rfl (zad rfl rfl rfl (zaa 0 rfl rfl)) rfl, .inl ⟨rfl, zek (zde rfl rfl rfl rfl) hb3⟩, iaQ rfl (zas rfl) rfl, iaQ rfl (zas rfl) rfl, iaQ rfl (fdQ 1 rfl rfl rfl) rfl, iaQ rfl (zad rfl rfl rfl (zaa 0 rfl rfl)) rfl, iaQ rfl (fdQ 0 rfl rfl rfl) rfl, iaQ rfl (zad rfl rfl rfl (zaa 0 rfl rfl)) rfl, .inl ⟨rfl, zaq rfl rfl (fun w hm => zav (zix n w (by omega)))⟩, .inl ⟨rfl, zek (zde rfl rfl rfl rfl) hb4⟩, iaQ rfl (zas rfl) rfl, trivial⟩
   simp only [List.drop_succ_cons, List.drop_zero]
   refine zaz 1 rfl ?_
   exact zau (zbb rfl rfl (congrArg _ (zdp (fun hp => by first | (obtain ⟨p1, p2, p3⟩ := hp; omega))).symm))
  have hb3p : ¬ (0 ≤ b) := of_decide_eq_false hb3
  refine zby 16 [[], [0], [1], [2], [3], [3, 4], [3, 5], [3, 6], [7], [8], [8], [8], [8], [8], [8], [8, 14]] [3, 4, 5, 6, 7, 8, 9, 10, 11, 12, 13, 14, 15, 16, 17, 18] [.pointer (some ⟨b1, 0 + 0, none⟩), .int .i64 n, .bool true, .bool true, .pointer (some ⟨b1, 0 + 1, none⟩), .int .i64 b, .bool false, .bool false, .bool false, undef, undef, undef, undef, undef, undef, .bool false] (by kernel_rfl) rfl ?_ ?_
  ·
   exact ⟨iaQ rfl (fdQ 0 rfl rfl rfl) rfl, iaQ rfl (zad rfl rfl rfl (zaa 0 rfl rfl)) rfl, .inl ⟨rfl, zfr (zaq rfl rfl (fun w hm => zav (zem n 0 4 w))) hb2⟩, iaQ rfl (zas rfl) rfl, iaQ rfl (fdQ 1 rfl rfl rfl) rfl, iaQ rfl (zad rfl rfl rfl (zaa 0 rfl rfl)) rfl, .inl ⟨rfl, zek (zde rfl rfl rfl rfl) hb3⟩, iaQ rfl (zas rfl) rfl, iaQ rfl (zas rfl) rfl, .inr ⟨rfl, rfl⟩, .inr ⟨rfl, rfl⟩, .inr ⟨rfl, rfl⟩, .inr ⟨rfl, rfl⟩, .inr ⟨rfl, rfl⟩, .inr ⟨rfl, rfl⟩, iaQ rfl (zas rfl) rfl, trivial⟩
  simp only [List.drop_succ_cons, List.drop_zero]
  refine zaz 1 rfl ?_
  exact zau (zbb rfl rfl (congrArg _ (zdp (fun hp => by first | (obtain ⟨p1, p2, p3⟩ := hp; omega))).symm))
 have hb2a := zea hb2
 refine zby 16 [[], [0], [1], [2], [3], [3], [3], [3, 6], [7], [8], [8], [8], [8], [8], [8], [8, 14]] [3, 4, 5, 6, 7, 8, 9, 10, 11, 12, 13, 14, 15, 16, 17, 18] [.pointer (some ⟨b1, 0 + 0, none⟩), .int .i64 n, .bool false, .bool false, undef, undef, undef, .bool false, .bool false, undef, undef, undef, undef, undef, undef, .bool false] (by kernel_rfl) rfl ?_ ?_
 ·
  exact ⟨iaQ rfl (fdQ 0 rfl rfl rfl) rfl, iaQ rfl (zad rfl rfl rfl (zaa 0 rfl rfl)) rfl, .inl ⟨rfl, zfr (zaq rfl rfl (fun w hm => zav (zem n 0 4 w))) hb2⟩, iaQ rfl (zas rfl) rfl, .inr ⟨rfl, rfl⟩, .inr ⟨rfl, rfl⟩, .inr ⟨rfl, rfl⟩, iaQ rfl (zas rfl) rfl, iaQ rfl (zas rfl) rfl, .inr ⟨rfl, rfl⟩, .inr ⟨rfl, rfl⟩, .inr ⟨rfl, rfl⟩, .inr ⟨rfl, rfl⟩, .inr ⟨rfl, rfl⟩, .inr ⟨rfl, rfl⟩, iaQ rfl (zas rfl) rfl, trivial⟩
 simp only [List.drop_succ_cons, List.drop_zero]
 refine zaz 1 rfl ?_
 exact zau (zbb rfl rfl (congrArg _ (zdp (fun hp => by first | (obtain ⟨p1, p2, p3⟩ := hp; omega))).symm))
theorem zvv {x : Nat} {b : Int} (h : TabP (x : Int) b) : x ≤ 4 := by have := h.1.2; omega
theorem zfl (n : Ln) (w : World) (hr : RdsLn w n) :
   Calls Try.prog 69 #[.agg #[.int .i64 n.ins, n.sv, n.lv, n.ov]] w (Ans w (.bool (pB (LnOk n)))) := by
 have hso := sml hr.ou
 have hss := hr.sq.small
 have hsl := hr.lt.small
 have hcnt : n.cnt = 1 + n.ins + n.ss.length + n.ls.length := rfl
 have hfst : n.fst = 1 + n.ins + n.ss.length := rfl
 refine zbf (N := 99) (args := [.agg #[.int .i64 n.ins, n.sv, n.lv, n.ov]]) Try.func69 rfl rfl (srQ ?_)
 refine zdj rfl (zch rfl rfl) ?_
 intro b1
 refine zaz 1 rfl (srQ (hvQ rfl (zao (cs := [.int .i64 n.ins, n.sv, n.lv, n.ov]) rfl rfl rfl rfl rfl (zaj 0 rfl 0 rfl)) ?_))
 refine zds rfl (zaq rfl rfl (fun w hm => zav (zgs n w (hr.below hm.bel)))) (zaz 1 rfl (zac (zac (reQ 1 rfl ?_))))
 refine zbp rfl rfl rfl rfl rfl rfl (fun h2 => ?_) (fun h2 => ?_)
 ·
  refine zaz 7 rfl (zak rfl (zac (reQ 1 rfl (?_))))
  refine ntQ ?_
  refine zau (zai ?_)
  exact zbb rfl rfl (congrArg _ (zdp (fun hp => by first | exact zeq hp.sz ‹_› | exact absurd hp.ou (by rw [← hnc]; assumption) | exact absurd (hp.sq k (by omega)).1 ‹_› | (have h9 := hp.sq k (by omega); rw [← hnc] at h9; exact absurd h9.2 ‹_›) | (rcases (hp.sq k (by omega)).1.kind with ⟨a, b, c⟩ | ⟨a, b, c⟩ <;> omega) | (have h8 := (hp.lt i (by omega)).1.1; omega) | exact absurd (hp.lt i (by omega)).1.2 ‹_› | exact absurd (hp.lt i (by omega)).2 ‹_›)).symm)
 refine zap 1 rfl ?_
 have hsz := lnN_sz (by assumption)
 have hnc := zip hsz
 obtain ⟨si, s2, s3, s4⟩ := id hsz
 refine hvQ rfl (fdQ 3 rfl rfl rfl) (hvQ rfl (zad rfl rfl rfl (zaa 0 rfl rfl)) (zap 1 rfl ?_))
 refine zds rfl (zaq rfl rfl (fun w hm => zav (zer n.os (lnN n) _ w ((zab ((hr).ou)) w hm) (by omega)))) (zca (fun h3 => ?_) (fun h3 => ?_))
 ·
  have h3p := zja h3
  refine zaz 2 rfl (zal rfl (zcq (zac (zbd 1 rfl ?_))))
  refine zax ?_
  refine zka (α := Nat) [0, 1, 2, 3, 18] rfl (fun k => [boxE b1 #[.int .i64 n.ins, n.sv, n.lv, n.ov] 30]) (fun k => [(4, .int .i64 (k : Int))]) (fun k => k ≤ n.ss.length ∧ ∀ i, i < k → SqOk (n.ss.getD i sq0) ∧ BelowP (n.ss.getD i sq0).xs n.cnt) (fun k => n.ss.length - k) 0 ⟨Nat.zero_le _, fun i hi => absurd hi (by omega)⟩ (saQ rfl) (pfQ rfl) ?_
  intro k hi4
  obtain ⟨hk, hqs⟩ := hi4
  refine zac (zac (reQ 1 rfl (hvQ rfl (fdQ 1 rfl rfl rfl) (hvQ rfl (zad rfl rfl rfl (zaa 0 rfl rfl)) (hvQ rfl (lnQ rfl rfl rfl (zab ((hr).sq.row))) ?_)))))
  refine zbj rfl rfl rfl rfl rfl rfl (fun h5 => ?_) (fun h5 => ?_)
  ·
   refine ntQ (zak rfl (zcq (sbQ (srQ (hvQ rfl (fdQ 1 rfl rfl rfl) (hvQ rfl (zad rfl rfl rfl (zaa 0 rfl rfl)) (zap 1 rfl (hvQ rfl (riQ 3 rfl rfl rfl rfl (zab ((hr).sq.row))) ?_))))))))
   refine hvQ rfl (zbt (us := [.int .i64 ((n.ss.getD k sq0).kd), .int .i64 ((n.ss.getD k sq0).it), (n.ss.getD k sq0).iv]) rfl rfl rfl rfl (zab ((hr).sq.row)) (by omega) rfl (zcp sqC 3 (fun _ => rfl) n.ss sq0 (show k < _ by omega) rfl)) (zdj rfl (zbx (z := .agg #[.int .i64 0, .int .i64 0, .slice none 0 0]) rfl rfl) ?_)
   intro b6
   refine zcc (cs' := #[.int .i64 ((n.ss.getD k sq0).kd), .int .i64 ((n.ss.getD k sq0).it), (n.ss.getD k sq0).iv]) (i := 0) (off := 0) (us := [.int .i64 ((n.ss.getD k sq0).kd), .int .i64 ((n.ss.getD k sq0).it), (n.ss.getD k sq0).iv]) rfl rfl rfl rfl rfl rfl rfl (zah rfl (zah rfl (zah (hr.sq.at (d := sq0) (k := k) (by omega)).one zbr))) rfl rfl rfl (ntQ (srQ (hvQ rfl (fdQ 0 rfl rfl rfl) (hvQ rfl (zad rfl rfl rfl (zaa 0 rfl rfl)) ?_))))
   refine zbp rfl rfl rfl rfl rfl rfl (fun h7 => ?_) (fun h7 => ?_)
   ·
    refine zap 1 rfl (hvQ rfl (fdQ 1 rfl rfl rfl) (hvQ rfl (zad rfl rfl rfl (zaa 0 rfl rfl)) ?_))
    refine zds rfl (zaq rfl rfl (fun w hm => zav (zem ((n.ss.getD k sq0).it) 0 1 w))) (zca (fun h8 => ?_) (fun h8 => ?_))
    ·
     obtain ⟨h8a, h8b⟩ := (zdc _ _ _).1 h8
     refine zap 2 rfl (hvQ rfl (fdQ 2 rfl rfl rfl) (hvQ rfl (zad rfl rfl rfl (zaa 0 rfl rfl)) (hvQ rfl (lnQ rfl rfl rfl (zab ((hr).sq.at (d := sq0) (k := k) (by omega)))) ?_)))
     refine zbp rfl rfl rfl rfl rfl rfl (fun h9 => ?_) (fun h9 => ?_)
     ·
      refine zap 19 rfl (hvQ rfl (fdQ 2 rfl rfl rfl) (hvQ rfl (zad rfl rfl rfl (zaa 0 rfl rfl)) (zap 1 rfl ?_)))
      refine zds rfl (zaq rfl rfl (fun w hm => zav (zer ((n.ss.getD k sq0).xs) (lnN n) _ w ((zab ((hr).sq.at (d := sq0) (k := k) (by omega))) w hm) (by omega)))) (zca (fun h10 => ?_) (fun h10 => ?_))
      ·
       have h10p := zja h10
       refine zaz 2 rfl (fsQ rfl (zcv (reQ 1 rfl (hvQ rfl (vaQ rfl rfl rfl) (enQ 1 rfl ?_)))))
       exact zcr (k + 1) ⟨by omega, fun i hi => by by_cases e : i = k; (subst e; exact ⟨by first | assumption | exact ⟨by omega⟩, by rw [← hnc]; assumption⟩); exact hqs i (by omega)⟩ (by omega) (saQ rfl) (slQ [1] rfl)
      have h10p := zgt h10
      refine zaz 2 rfl (zak rfl (zbd 1 rfl ?_))
      refine zau (zan ?_)
      refine zge ?_
      refine zan (zai ?_)
      exact zbb rfl rfl (congrArg _ (zdp (fun hp => by first | exact zeq hp.sz ‹_› | exact absurd hp.ou (by rw [← hnc]; assumption) | exact absurd (hp.sq k (by omega)).1 ‹_› | (have h9 := hp.sq k (by omega); rw [← hnc] at h9; exact absurd h9.2 ‹_›) | (rcases (hp.sq k (by omega)).1.kind with ⟨a, b, c⟩ | ⟨a, b, c⟩ <;> omega) | (have h8 := (hp.lt i (by omega)).1.1; omega) | exact absurd (hp.lt i (by omega)).1.2 ‹_› | exact absurd (hp.lt i (by omega)).2 ‹_›)).symm)
     refine zap 2 rfl (hvQ rfl (fdQ 0 rfl rfl rfl) (hvQ rfl (zad rfl rfl rfl (zaa 0 rfl rfl)) ?_))
     refine zbp rfl rfl rfl rfl rfl rfl (fun h11 => ?_) (fun h11 => ?_)
     ·
      refine zap 1 rfl (hvQ rfl (fdQ 1 rfl rfl rfl) (hvQ rfl (zad rfl rfl rfl (zaa 0 rfl rfl)) ?_))
      refine zds rfl (zaq rfl rfl (fun w hm => zav (zem ((n.ss.getD k sq0).it) 0 31 w))) (zca (fun h12 => ?_) (fun h12 => ?_))
      ·
       obtain ⟨h12a, h12b⟩ := (zdc _ _ _).1 h12
       refine zap 2 rfl (hvQ rfl (fdQ 2 rfl rfl rfl) (hvQ rfl (zad rfl rfl rfl (zaa 0 rfl rfl)) (hvQ rfl (lnQ rfl rfl rfl (zab ((hr).sq.at (d := sq0) (k := k) (by omega)))) ?_)))
       refine zbp rfl rfl rfl rfl rfl rfl (fun h13 => ?_) (fun h13 => ?_)
       ·
        refine zap 4 rfl (hvQ rfl (fdQ 2 rfl rfl rfl) (hvQ rfl (zad rfl rfl rfl (zaa 0 rfl rfl)) (zap 1 rfl ?_)))
        refine zds rfl (zaq rfl rfl (fun w hm => zav (zer ((n.ss.getD k sq0).xs) (lnN n) _ w ((zab ((hr).sq.at (d := sq0) (k := k) (by omega))) w hm) (by omega)))) (zca (fun h14 => ?_) (fun h14 => ?_))
        ·
         have h14p := zja h14
         refine zaz 2 rfl (fsQ rfl (zcv (reQ 1 rfl (hvQ rfl (vaQ rfl rfl rfl) (enQ 1 rfl ?_)))))
         exact zcr (k + 1) ⟨by omega, fun i hi => by by_cases e : i = k; (subst e; exact ⟨by first | assumption | exact ⟨by omega⟩, by rw [← hnc]; assumption⟩); exact hqs i (by omega)⟩ (by omega) (saQ rfl) (slQ [1] rfl)
        have h14p := zgt h14
        refine zaz 2 rfl (zak rfl (zbd 1 rfl ?_))
        refine zau (zan ?_)
        refine zge ?_
        refine zan (zai ?_)
        exact zbb rfl rfl (congrArg _ (zdp (fun hp => by first | exact zeq hp.sz ‹_› | exact absurd hp.ou (by rw [← hnc]; assumption) | exact absurd (hp.sq k (by omega)).1 ‹_› | (have h9 := hp.sq k (by omega); rw [← hnc] at h9; exact absurd h9.2 ‹_›) | (rcases (hp.sq k (by omega)).1.kind with ⟨a, b, c⟩ | ⟨a, b, c⟩ <;> omega) | (have h8 := (hp.lt i (by omega)).1.1; omega) | exact absurd (hp.lt i (by omega)).1.2 ‹_› | exact absurd (hp.lt i (by omega)).2 ‹_›)).symm)
       refine zaz 10 rfl (zak rfl (zac (reQ 1 rfl (?_))))
       refine ntQ ?_
       refine zau (zan ?_)
       refine zge ?_
       refine zan (zai ?_)
       exact zbb rfl rfl (congrArg _ (zdp (fun hp => by first | exact zeq hp.sz ‹_› | exact absurd hp.ou (by rw [← hnc]; assumption) | exact absurd (hp.sq k (by omega)).1 ‹_› | (have h9 := hp.sq k (by omega); rw [← hnc] at h9; exact absurd h9.2 ‹_›) | (rcases (hp.sq k (by omega)).1.kind with ⟨a, b, c⟩ | ⟨a, b, c⟩ <;> omega) | (have h8 := (hp.lt i (by omega)).1.1; omega) | exact absurd (hp.lt i (by omega)).1.2 ‹_› | exact absurd (hp.lt i (by omega)).2 ‹_›)).symm)
      have h12a := zea h12
      refine zaz 16 rfl ?_
      refine zak rfl (zbd 1 rfl ?_)
      refine zau (zan ?_)
      refine zge ?_
      refine zan (zai ?_)
      exact zbb rfl rfl (congrArg _ (zdp (fun hp => by first | exact zeq hp.sz ‹_› | exact absurd hp.ou (by rw [← hnc]; assumption) | exact absurd (hp.sq k (by omega)).1 ‹_› | (have h9 := hp.sq k (by omega); rw [← hnc] at h9; exact absurd h9.2 ‹_›) | (rcases (hp.sq k (by omega)).1.kind with ⟨a, b, c⟩ | ⟨a, b, c⟩ <;> omega) | (have h8 := (hp.lt i (by omega)).1.1; omega) | exact absurd (hp.lt i (by omega)).1.2 ‹_› | exact absurd (hp.lt i (by omega)).2 ‹_›)).symm)
     refine zaz 20 rfl (zak rfl (zbd 1 rfl ?_))
     refine zau (zan ?_)
     refine zge ?_
     refine zan (zai ?_)
     exact zbb rfl rfl (congrArg _ (zdp (fun hp => by first | exact zeq hp.sz ‹_› | exact absurd hp.ou (by rw [← hnc]; assumption) | exact absurd (hp.sq k (by omega)).1 ‹_› | (have h9 := hp.sq k (by omega); rw [← hnc] at h9; exact absurd h9.2 ‹_›) | (rcases (hp.sq k (by omega)).1.kind with ⟨a, b, c⟩ | ⟨a, b, c⟩ <;> omega) | (have h8 := (hp.lt i (by omega)).1.1; omega) | exact absurd (hp.lt i (by omega)).1.2 ‹_› | exact absurd (hp.lt i (by omega)).2 ‹_›)).symm)
    have h8a := zea h8
    refine zap 8 rfl (hvQ rfl (fdQ 0 rfl rfl rfl) (hvQ rfl (zad rfl rfl rfl (zaa 0 rfl rfl)) ?_))
    refine zbp rfl rfl rfl rfl rfl rfl (fun h15 => ?_) (fun h15 => ?_)
    ·
     refine zap 1 rfl (hvQ rfl (fdQ 1 rfl rfl rfl) (hvQ rfl (zad rfl rfl rfl (zaa 0 rfl rfl)) ?_))
     refine zds rfl (zaq rfl rfl (fun w hm => zav (zem ((n.ss.getD k sq0).it) 0 31 w))) (zca (fun h16 => ?_) (fun h16 => ?_))
     ·
      obtain ⟨h16a, h16b⟩ := (zdc _ _ _).1 h16
      refine zap 2 rfl (hvQ rfl (fdQ 2 rfl rfl rfl) (hvQ rfl (zad rfl rfl rfl (zaa 0 rfl rfl)) (hvQ rfl (lnQ rfl rfl rfl (zab ((hr).sq.at (d := sq0) (k := k) (by omega)))) ?_)))
      refine zbp rfl rfl rfl rfl rfl rfl (fun h17 => ?_) (fun h17 => ?_)
      ·
       refine zap 4 rfl (hvQ rfl (fdQ 2 rfl rfl rfl) (hvQ rfl (zad rfl rfl rfl (zaa 0 rfl rfl)) (zap 1 rfl ?_)))
       refine zds rfl (zaq rfl rfl (fun w hm => zav (zer ((n.ss.getD k sq0).xs) (lnN n) _ w ((zab ((hr).sq.at (d := sq0) (k := k) (by omega))) w hm) (by omega)))) (zca (fun h18 => ?_) (fun h18 => ?_))
       ·
        have h18p := zja h18
        refine zaz 2 rfl (fsQ rfl (zcv (reQ 1 rfl (hvQ rfl (vaQ rfl rfl rfl) (enQ 1 rfl ?_)))))
        exact zcr (k + 1) ⟨by omega, fun i hi => by by_cases e : i = k; (subst e; exact ⟨by first | assumption | exact ⟨by omega⟩, by rw [← hnc]; assumption⟩); exact hqs i (by omega)⟩ (by omega) (saQ rfl) (slQ [1] rfl)
       have h18p := zgt h18
       refine zaz 2 rfl (zak rfl (zbd 1 rfl ?_))
       refine zau (zan ?_)
       refine zge ?_
       refine zan (zai ?_)
       exact zbb rfl rfl (congrArg _ (zdp (fun hp => by first | exact zeq hp.sz ‹_› | exact absurd hp.ou (by rw [← hnc]; assumption) | exact absurd (hp.sq k (by omega)).1 ‹_› | (have h9 := hp.sq k (by omega); rw [← hnc] at h9; exact absurd h9.2 ‹_›) | (rcases (hp.sq k (by omega)).1.kind with ⟨a, b, c⟩ | ⟨a, b, c⟩ <;> omega) | (have h8 := (hp.lt i (by omega)).1.1; omega) | exact absurd (hp.lt i (by omega)).1.2 ‹_› | exact absurd (hp.lt i (by omega)).2 ‹_›)).symm)
      refine zaz 10 rfl (zak rfl (zac (reQ 1 rfl (?_))))
      refine ntQ ?_
      refine zau (zan ?_)
      refine zge ?_
      refine zan (zai ?_)
      exact zbb rfl rfl (congrArg _ (zdp (fun hp => by first | exact zeq hp.sz ‹_› | exact absurd hp.ou (by rw [← hnc]; assumption) | exact absurd (hp.sq k (by omega)).1 ‹_› | (have h9 := hp.sq k (by omega); rw [← hnc] at h9; exact absurd h9.2 ‹_›) | (rcases (hp.sq k (by omega)).1.kind with ⟨a, b, c⟩ | ⟨a, b, c⟩ <;> omega) | (have h8 := (hp.lt i (by omega)).1.1; omega) | exact absurd (hp.lt i (by omega)).1.2 ‹_› | exact absurd (hp.lt i (by omega)).2 ‹_›)).symm)
     have h16a := zea h16
     refine zaz 16 rfl ?_
     refine zak rfl (zbd 1 rfl ?_)
     refine zau (zan ?_)
     refine zge ?_
     refine zan (zai ?_)
     exact zbb rfl rfl (congrArg _ (zdp (fun hp => by first | exact zeq hp.sz ‹_› | exact absurd hp.ou (by rw [← hnc]; assumption) | exact absurd (hp.sq k (by omega)).1 ‹_› | (have h9 := hp.sq k (by omega); rw [← hnc] at h9; exact absurd h9.2 ‹_›) | (rcases (hp.sq k (by omega)).1.kind with ⟨a, b, c⟩ | ⟨a, b, c⟩ <;> omega) | (have h8 := (hp.lt i (by omega)).1.1; omega) | exact absurd (hp.lt i (by omega)).1.2 ‹_› | exact absurd (hp.lt i (by omega)).2 ‹_›)).symm)
    refine zaz 20 rfl (zak rfl (zbd 1 rfl ?_))
    refine zau (zan ?_)
    refine zge ?_
    refine zan (zai ?_)
    exact zbb rfl rfl (congrArg _ (zdp (fun hp => by first | exact zeq hp.sz ‹_› | exact absurd hp.ou (by rw [← hnc]; assumption) | exact absurd (hp.sq k (by omega)).1 ‹_› | (have h9 := hp.sq k (by omega); rw [← hnc] at h9; exact absurd h9.2 ‹_›) | (rcases (hp.sq k (by omega)).1.kind with ⟨a, b, c⟩ | ⟨a, b, c⟩ <;> omega) | (have h8 := (hp.lt i (by omega)).1.1; omega) | exact absurd (hp.lt i (by omega)).1.2 ‹_› | exact absurd (hp.lt i (by omega)).2 ‹_›)).symm)
   refine zap 12 rfl (hvQ rfl (fdQ 0 rfl rfl rfl) (hvQ rfl (zad rfl rfl rfl (zaa 0 rfl rfl)) ?_))
   refine zbp rfl rfl rfl rfl rfl rfl (fun h19 => ?_) (fun h19 => ?_)
   ·
    refine zap 1 rfl (hvQ rfl (fdQ 1 rfl rfl rfl) (hvQ rfl (zad rfl rfl rfl (zaa 0 rfl rfl)) ?_))
    refine zds rfl (zaq rfl rfl (fun w hm => zav (zem ((n.ss.getD k sq0).it) 0 31 w))) (zca (fun h20 => ?_) (fun h20 => ?_))
    ·
     obtain ⟨h20a, h20b⟩ := (zdc _ _ _).1 h20
     refine zap 2 rfl (hvQ rfl (fdQ 2 rfl rfl rfl) (hvQ rfl (zad rfl rfl rfl (zaa 0 rfl rfl)) (hvQ rfl (lnQ rfl rfl rfl (zab ((hr).sq.at (d := sq0) (k := k) (by omega)))) ?_)))
     refine zbp rfl rfl rfl rfl rfl rfl (fun h21 => ?_) (fun h21 => ?_)
     ·
      refine zap 4 rfl (hvQ rfl (fdQ 2 rfl rfl rfl) (hvQ rfl (zad rfl rfl rfl (zaa 0 rfl rfl)) (zap 1 rfl ?_)))
      refine zds rfl (zaq rfl rfl (fun w hm => zav (zer ((n.ss.getD k sq0).xs) (lnN n) _ w ((zab ((hr).sq.at (d := sq0) (k := k) (by omega))) w hm) (by omega)))) (zca (fun h22 => ?_) (fun h22 => ?_))
      ·
       have h22p := zja h22
       refine zaz 2 rfl (fsQ rfl (zcv (reQ 1 rfl (hvQ rfl (vaQ rfl rfl rfl) (enQ 1 rfl ?_)))))
       exact zcr (k + 1) ⟨by omega, fun i hi => by by_cases e : i = k; (subst e; exact ⟨by first | assumption | exact ⟨by omega⟩, by rw [← hnc]; assumption⟩); exact hqs i (by omega)⟩ (by omega) (saQ rfl) (slQ [1] rfl)
      have h22p := zgt h22
      refine zaz 2 rfl (zak rfl (zbd 1 rfl ?_))
      refine zau (zan ?_)
      refine zge ?_
      refine zan (zai ?_)
      exact zbb rfl rfl (congrArg _ (zdp (fun hp => by first | exact zeq hp.sz ‹_› | exact absurd hp.ou (by rw [← hnc]; assumption) | exact absurd (hp.sq k (by omega)).1 ‹_› | (have h9 := hp.sq k (by omega); rw [← hnc] at h9; exact absurd h9.2 ‹_›) | (rcases (hp.sq k (by omega)).1.kind with ⟨a, b, c⟩ | ⟨a, b, c⟩ <;> omega) | (have h8 := (hp.lt i (by omega)).1.1; omega) | exact absurd (hp.lt i (by omega)).1.2 ‹_› | exact absurd (hp.lt i (by omega)).2 ‹_›)).symm)
     refine zaz 10 rfl (zak rfl (zac (reQ 1 rfl (?_))))
     refine ntQ ?_
     refine zau (zan ?_)
     refine zge ?_
     refine zan (zai ?_)
     exact zbb rfl rfl (congrArg _ (zdp (fun hp => by first | exact zeq hp.sz ‹_› | exact absurd hp.ou (by rw [← hnc]; assumption) | exact absurd (hp.sq k (by omega)).1 ‹_› | (have h9 := hp.sq k (by omega); rw [← hnc] at h9; exact absurd h9.2 ‹_›) | (rcases (hp.sq k (by omega)).1.kind with ⟨a, b, c⟩ | ⟨a, b, c⟩ <;> omega) | (have h8 := (hp.lt i (by omega)).1.1; omega) | exact absurd (hp.lt i (by omega)).1.2 ‹_› | exact absurd (hp.lt i (by omega)).2 ‹_›)).symm)
    have h20a := zea h20
    refine zaz 16 rfl ?_
    refine zak rfl (zbd 1 rfl ?_)
    refine zau (zan ?_)
    refine zge ?_
    refine zan (zai ?_)
    exact zbb rfl rfl (congrArg _ (zdp (fun hp => by first | exact zeq hp.sz ‹_› | exact absurd hp.ou (by rw [← hnc]; assumption) | exact absurd (hp.sq k (by omega)).1 ‹_› | (have h9 := hp.sq k (by omega); rw [← hnc] at h9; exact absurd h9.2 ‹_›) | (rcases (hp.sq k (by omega)).1.kind with ⟨a, b, c⟩ | ⟨a, b, c⟩ <;> omega) | (have h8 := (hp.lt i (by omega)).1.1; omega) | exact absurd (hp.lt i (by omega)).1.2 ‹_› | exact absurd (hp.lt i (by omega)).2 ‹_›)).symm)
   refine zaz 20 rfl (zak rfl (zbd 1 rfl ?_))
   refine zau (zan ?_)
   refine zge ?_
   refine zan (zai ?_)
   exact zbb rfl rfl (congrArg _ (zdp (fun hp => by first | exact zeq hp.sz ‹_› | exact absurd hp.ou (by rw [← hnc]; assumption) | exact absurd (hp.sq k (by omega)).1 ‹_› | (have h9 := hp.sq k (by omega); rw [← hnc] at h9; exact absurd h9.2 ‹_›) | (rcases (hp.sq k (by omega)).1.kind with ⟨a, b, c⟩ | ⟨a, b, c⟩ <;> omega) | (have h8 := (hp.lt i (by omega)).1.1; omega) | exact absurd (hp.lt i (by omega)).1.2 ‹_› | exact absurd (hp.lt i (by omega)).2 ‹_›)).symm)
  refine ntQ (zal rfl ?_)
  refine zba (zdq ?_)
  refine zag (zaw (zac (zbd 1 rfl (zax ?_))))
  refine zka (α := Nat) [0, 1, 2, 3, 18, 23] rfl (fun i => [boxE b1 #[.int .i64 n.ins, n.sv, n.lv, n.ov] 30]) (fun i => [(6, .int .i64 (i : Int))]) (fun i => i ≤ n.ls.length ∧ ∀ j, j < i → LutP (n.fst + j) (n.ls.getD j lt0)) (fun i => n.ls.length - i) 0 ⟨Nat.zero_le _, fun i hi => absurd hi (by omega)⟩ (saQ rfl) (pfQ rfl) ?_
  intro i hi23
  obtain ⟨hi, hql⟩ := hi23
  refine zac (zac (reQ 1 rfl (hvQ rfl (fdQ 2 rfl rfl rfl) (hvQ rfl (zad rfl rfl rfl (zaa 0 rfl rfl)) (hvQ rfl (lnQ rfl rfl rfl (zab ((hr).lt.row))) ?_)))))
  refine zbj rfl rfl rfl rfl rfl rfl (fun h24 => ?_) (fun h24 => ?_)
  ·
   refine ntQ (zak rfl (zcq (sbQ (srQ (hvQ rfl (fdQ 2 rfl rfl rfl) (hvQ rfl (zad rfl rfl rfl (zaa 0 rfl rfl)) (zap 1 rfl (hvQ rfl (riQ 2 rfl rfl rfl rfl (zab ((hr).lt.row))) ?_))))))))
   refine hvQ rfl (zbt (us := [(n.ls.getD i lt0).iv, .int .i64 ((n.ls.getD i lt0).ma)]) rfl rfl rfl rfl (zab ((hr).lt.row)) (by omega) rfl (zcp ltC 2 (fun _ => rfl) n.ls lt0 (show i < _ by omega) rfl)) (zdj rfl (zbx (z := .agg #[.slice none 0 0, .int .i64 0]) rfl rfl) ?_)
   intro b25
   refine zcc (cs' := #[(n.ls.getD i lt0).iv, .int .i64 ((n.ls.getD i lt0).ma)]) (i := 0) (off := 0) (us := [(n.ls.getD i lt0).iv, .int .i64 ((n.ls.getD i lt0).ma)]) rfl rfl rfl rfl rfl rfl rfl (zah (hr.lt.at (d := lt0) (k := i) (by omega)).one (zah rfl zbr)) rfl rfl rfl (ntQ (zac ?_))
   rcases Bool.eq_false_or_eq_true (pB (TabP (((n.ls.getD i lt0).xs).length : Int) ((n.ls.getD i lt0).ma))) with hb26 | hb26
   ·
    have hb26p := zja hb26
    rcases Bool.eq_false_or_eq_true (pB (BelowP ((n.ls.getD i lt0).xs) (n.fst + (i : Int)))) with hb27 | hb27
    ·
     have hb27p := zja hb27
     refine zby 18 [[], [0], [1], [], [3], [2, 4], [5], [6], [7], [8], [8, 9], [8], [8, 11], [8], [8, 12, 13], [8, 10, 14], [8, 15], [8, 16]] [81, 82, 83, 84, 85, 86, 87, 88, 89, 90, 91, 92, 93, 94, 95, 96, 97, 98] [.pointer (some ⟨b25, 0 + 0, none⟩), (n.ls.getD i lt0).iv, .int .i64 (((n.ls.getD i lt0).xs).length : Int), .pointer (some ⟨b25, 0 + 1, none⟩), .int .i64 ((n.ls.getD i lt0).ma), .agg #[.int .i64 (((n.ls.getD i lt0).xs).length : Int), .int .i64 ((n.ls.getD i lt0).ma)], .bool true, .bool false, .bool false, .pointer (some ⟨b25, 0 + 0, none⟩), (n.ls.getD i lt0).iv, .agg #[.int .i64 n.ins, n.sv, n.lv, n.ov], .int .i64 n.fst, .int .i64 (i : Int), .int .i64 (n.fst + (i : Int)), .bool true, .bool false, .bool false] (by kernel_rfl) rfl ?_ ?_
     ·
      exact ⟨iaQ rfl (fdQ 0 rfl rfl rfl) rfl, iaQ rfl (zad rfl rfl rfl (zaa 0 rfl rfl)) rfl, iaQ rfl (lnQ rfl rfl rfl (zab ((hr).lt.at (d := lt0) (k := i) (by omega)))) rfl, iaQ rfl (fdQ 1 rfl rfl rfl) rfl, iaQ rfl (zad rfl rfl rfl (zaa 0 rfl rfl)) rfl, iaQ rfl (zcw (cs := #[.int .i64 (((n.ls.getD i lt0).xs).length : Int), .int .i64 ((n.ls.getD i lt0).ma)]) rfl rfl rfl) rfl, .inl ⟨rfl, zfr (zaq (by kernel_rfl) rfl (fun w hm => zav (zgl (((n.ls.getD i lt0).xs).length : Int) ((n.ls.getD i lt0).ma) w))) hb26⟩, iaQ rfl (zas rfl) rfl, iaQ rfl (zas rfl) rfl, iaQ rfl (fdQ 0 rfl rfl rfl) rfl, iaQ rfl (zad rfl rfl rfl (zaa 0 rfl rfl)) rfl, iaQ rfl (zao (cs := [.int .i64 n.ins, n.sv, n.lv, n.ov]) rfl rfl rfl rfl rfl (zaj 1 rfl 0 rfl)) rfl, .inl ⟨rfl, zaq rfl rfl (fun w hm => zav (zej n w (hr.below hm.bel) hsz))⟩, iaQ rfl (zas rfl) rfl, iaQ rfl (vaQ rfl rfl rfl) rfl, .inl ⟨rfl, zfr (zaq (by kernel_rfl) rfl (fun w hm => zav (zer ((n.ls.getD i lt0).xs) (n.fst + (i : Int)) _ w ((zab ((hr).lt.at (d := lt0) (k := i) (by omega))) w hm) (by omega)))) hb27⟩, iaQ rfl (zas rfl) rfl, iaQ rfl (zas rfl) rfl, trivial⟩
     simp only [List.drop_succ_cons, List.drop_zero]
     refine ntQ (fsQ rfl (zcv (reQ 1 rfl (hvQ rfl (vaQ rfl rfl rfl) (enQ 1 rfl ?_)))))
     exact zcr (i + 1) ⟨by omega, fun j hj => by by_cases e : j = i; (subst e; exact ⟨⟨by first | omega | exact zvv (by assumption), by assumption⟩, by assumption⟩); exact hql j (by omega)⟩ (by omega) (saQ rfl) (slQ [1] rfl)
    have hb27p := zgt hb27
    refine zby 18 [[], [0], [1], [], [3], [2, 4], [5], [6], [7], [8], [8, 9], [8], [8, 11], [8], [8, 12, 13], [8, 10, 14], [8, 15], [8, 16]] [81, 82, 83, 84, 85, 86, 87, 88, 89, 90, 91, 92, 93, 94, 95, 96, 97, 98] [.pointer (some ⟨b25, 0 + 0, none⟩), (n.ls.getD i lt0).iv, .int .i64 (((n.ls.getD i lt0).xs).length : Int), .pointer (some ⟨b25, 0 + 1, none⟩), .int .i64 ((n.ls.getD i lt0).ma), .agg #[.int .i64 (((n.ls.getD i lt0).xs).length : Int), .int .i64 ((n.ls.getD i lt0).ma)], .bool true, .bool false, .bool false, .pointer (some ⟨b25, 0 + 0, none⟩), (n.ls.getD i lt0).iv, .agg #[.int .i64 n.ins, n.sv, n.lv, n.ov], .int .i64 n.fst, .int .i64 (i : Int), .int .i64 (n.fst + (i : Int)), .bool false, .bool true, .bool true] (by kernel_rfl) rfl ?_ ?_
    ·
     exact ⟨iaQ rfl (fdQ 0 rfl rfl rfl) rfl, iaQ rfl (zad rfl rfl rfl (zaa 0 rfl rfl)) rfl, iaQ rfl (lnQ rfl rfl rfl (zab ((hr).lt.at (d := lt0) (k := i) (by omega)))) rfl, iaQ rfl (fdQ 1 rfl rfl rfl) rfl, iaQ rfl (zad rfl rfl rfl (zaa 0 rfl rfl)) rfl, iaQ rfl (zcw (cs := #[.int .i64 (((n.ls.getD i lt0).xs).length : Int), .int .i64 ((n.ls.getD i lt0).ma)]) rfl rfl rfl) rfl, .inl ⟨rfl, zfr (zaq (by kernel_rfl) rfl (fun w hm => zav (zgl (((n.ls.getD i lt0).xs).length : Int) ((n.ls.getD i lt0).ma) w))) hb26⟩, iaQ rfl (zas rfl) rfl, iaQ rfl (zas rfl) rfl, iaQ rfl (fdQ 0 rfl rfl rfl) rfl, iaQ rfl (zad rfl rfl rfl (zaa 0 rfl rfl)) rfl, iaQ rfl (zao (cs := [.int .i64 n.ins, n.sv, n.lv, n.ov]) rfl rfl rfl rfl rfl (zaj 1 rfl 0 rfl)) rfl, .inl ⟨rfl, zaq rfl rfl (fun w hm => zav (zej n w (hr.below hm.bel) hsz))⟩, iaQ rfl (zas rfl) rfl, iaQ rfl (vaQ rfl rfl rfl) rfl, .inl ⟨rfl, zfr (zaq (by kernel_rfl) rfl (fun w hm => zav (zer ((n.ls.getD i lt0).xs) (n.fst + (i : Int)) _ w ((zab ((hr).lt.at (d := lt0) (k := i) (by omega))) w hm) (by omega)))) hb27⟩, iaQ rfl (zas rfl) rfl, iaQ rfl (zas rfl) rfl, trivial⟩
    simp only [List.drop_succ_cons, List.drop_zero]
    refine ntQ (zak rfl (zbd 1 rfl ?_))
    refine zau (zan ?_)
    refine zge ?_
    refine zan (zai ?_)
    exact zbb rfl rfl (congrArg _ (zdp (fun hp => by first | exact zeq hp.sz ‹_› | exact absurd hp.ou (by rw [← hnc]; assumption) | exact absurd (hp.sq k (by omega)).1 ‹_› | (have h9 := hp.sq k (by omega); rw [← hnc] at h9; exact absurd h9.2 ‹_›) | (rcases (hp.sq k (by omega)).1.kind with ⟨a, b, c⟩ | ⟨a, b, c⟩ <;> omega) | (have h8 := (hp.lt i (by omega)).1.1; omega) | exact absurd (hp.lt i (by omega)).1.2 ‹_› | exact absurd (hp.lt i (by omega)).2 ‹_›)).symm)
   have hb26p := zgt hb26
   refine zby 18 [[], [0], [1], [], [3], [2, 4], [5], [6], [7], [8], [8], [8], [8], [8], [8], [8], [8], [8, 16]] [81, 82, 83, 84, 85, 86, 87, 88, 89, 90, 91, 92, 93, 94, 95, 96, 97, 98] [.pointer (some ⟨b25, 0 + 0, none⟩), (n.ls.getD i lt0).iv, .int .i64 (((n.ls.getD i lt0).xs).length : Int), .pointer (some ⟨b25, 0 + 1, none⟩), .int .i64 ((n.ls.getD i lt0).ma), .agg #[.int .i64 (((n.ls.getD i lt0).xs).length : Int), .int .i64 ((n.ls.getD i lt0).ma)], .bool false, .bool true, .bool true, undef, undef, undef, undef, undef, undef, undef, undef, .bool true] (by kernel_rfl) rfl ?_ ?_
   ·
    exact ⟨iaQ rfl (fdQ 0 rfl rfl rfl) rfl, iaQ rfl (zad rfl rfl rfl (zaa 0 rfl rfl)) rfl, iaQ rfl (lnQ rfl rfl rfl (zab ((hr).lt.at (d := lt0) (k := i) (by omega)))) rfl, iaQ rfl (fdQ 1 rfl rfl rfl) rfl, iaQ rfl (zad rfl rfl rfl (zaa 0 rfl rfl)) rfl, iaQ rfl (zcw (cs := #[.int .i64 (((n.ls.getD i lt0).xs).length : Int), .int .i64 ((n.ls.getD i lt0).ma)]) rfl rfl rfl) rfl, .inl ⟨rfl, zfr (zaq (by kernel_rfl) rfl (fun w hm => zav (zgl (((n.ls.getD i lt0).xs).length : Int) ((n.ls.getD i lt0).ma) w))) hb26⟩, iaQ rfl (zas rfl) rfl, iaQ rfl (zas rfl) rfl, .inr ⟨rfl, rfl⟩, .inr ⟨rfl, rfl⟩, .inr ⟨rfl, rfl⟩, .inr ⟨rfl, rfl⟩, .inr ⟨rfl, rfl⟩, .inr ⟨rfl, rfl⟩, .inr ⟨rfl, rfl⟩, .inr ⟨rfl, rfl⟩, iaQ rfl (zas rfl) rfl, trivial⟩
   simp only [List.drop_succ_cons, List.drop_zero]
   refine ntQ (zak rfl (zbd 1 rfl ?_))
   refine zau (zan ?_)
   refine zge ?_
   refine zan (zai ?_)
   exact zbb rfl rfl (congrArg _ (zdp (fun hp => by first | exact zeq hp.sz ‹_› | exact absurd hp.ou (by rw [← hnc]; assumption) | exact absurd (hp.sq k (by omega)).1 ‹_› | (have h9 := hp.sq k (by omega); rw [← hnc] at h9; exact absurd h9.2 ‹_›) | (rcases (hp.sq k (by omega)).1.kind with ⟨a, b, c⟩ | ⟨a, b, c⟩ <;> omega) | (have h8 := (hp.lt i (by omega)).1.1; omega) | exact absurd (hp.lt i (by omega)).1.2 ‹_› | exact absurd (hp.lt i (by omega)).2 ‹_›)).symm)
  refine ntQ (zal rfl ?_)
  refine zba (zdq ?_)
  refine zag (zaw (zbd 1 rfl ?_))
  exact zau (zbb rfl rfl (congrArg _ (zdu ⟨hsz, by rw [← hnc]; assumption, fun q hq => hqs q (by omega), fun q hq => hql q (by omega)⟩).symm))
 have h3p := zgt h3
 refine zaz 2 rfl (zak rfl (zbd 1 rfl ?_))
 refine zau (zai ?_)
 exact zbb rfl rfl (congrArg _ (zdp (fun hp => by first | exact zeq hp.sz ‹_› | exact absurd hp.ou (by rw [← hnc]; assumption) | exact absurd (hp.sq k (by omega)).1 ‹_› | (have h9 := hp.sq k (by omega); rw [← hnc] at h9; exact absurd h9.2 ‹_›) | (rcases (hp.sq k (by omega)).1.kind with ⟨a, b, c⟩ | ⟨a, b, c⟩ <;> omega) | (have h8 := (hp.lt i (by omega)).1.1; omega) | exact absurd (hp.lt i (by omega)).1.2 ‹_› | exact absurd (hp.lt i (by omega)).2 ‹_›)).symm)
def insI : List Int → Int → List Int
  | [], x => [x]
  | y :: ys, x => if y < x then y :: insI ys x else if y = x then y :: ys else x :: y :: ys
theorem zma (xs : List Int) (x : Int) (k : Nat) (hk : k ≤ xs.length) (h1 : ∀ j, j < k → xs.getD j 0 < x) (h2 : k < xs.length → x < xs.getD k 0) : insI xs x = xs.take k ++ [x] ++ xs.drop k := by
  induction xs generalizing k with
  | nil => simp at hk; subst hk; rfl
  | cons y ys ih =>
    cases k with
    | zero =>
      have := h2 (by simp)
      simp at this
      simp only [insI, List.take_zero, List.nil_append, List.drop_zero, List.singleton_append]
      rw [if_neg (by omega), if_neg (by omega)]
    | succ k =>
      have := h1 0 (by omega)
      simp at this
      simp only [insI]
      rw [if_pos this, ih k (by simpa using hk) (fun j hj => by have := h1 (j + 1) (by omega); simpa using this) (fun hlt => by have := h2 (by simpa using hlt); simpa using this)]
      simp
theorem zqm (xs : List Int) (x : Int) (k : Nat) (hk : k < xs.length) (h1 : ∀ j, j < k → xs.getD j 0 < x) (h2 : xs.getD k 0 = x) : insI xs x = xs := by
  induction xs generalizing k with
  | nil => simp at hk
  | cons y ys ih =>
    cases k with
    | zero =>
      simp at h2
      simp only [insI]
      rw [if_neg (by omega), if_pos h2]
    | succ k =>
      have := h1 0 (by omega)
      simp at this
      simp only [insI]
      rw [if_pos this, ih k (by simpa using hk) (fun j hj => by have := h1 (j + 1) (by omega); simpa using this) (by simpa using h2)]
theorem zly (v : Value) (xs : List Int) (x : Int) (w : World) (hv : RdsW w v 1 xs.length (xs.map (Value.int .i64))) (hn : xs.length ≤ 1000000) :
   Calls Try.prog 68 #[v, .int .i64 x] w (Ret w fun v' post => (v' = v ∧ post = [] ∧ insI xs x = xs) ∨ (post = [rowE 3 1 v' (insI xs x).length ((insI xs x).map (Value.int .i64))])) := by
 refine zbf (N := 48) (args := [v, .int .i64 x]) Try.func68 rfl rfl (zbd 1 rfl (zbd 1 rfl (zac ?_)))
 refine zax ?_
 refine zka (α := Int) [0, 1, 4] rfl (fun k => []) (fun k => [(5, .int .i64 k)]) (fun k => 0 ≤ k ∧ k ≤ xs.length ∧ ∀ j, j < k.toNat → xs.getD j 0 < x) (fun k => ((xs.length : Int) - k).toNat) 0 ⟨by omega, by omega, fun j hj => absurd hj (by omega)⟩ (saQ rfl) (.slnil) ?_
 intro k hi1
 obtain ⟨hk0, hk1, hk2⟩ := hi1
 refine zac (zac (reQ 2 rfl (hvQ rfl (lnQ rfl rfl rfl (zab hv)) ?_)))
 refine zbj rfl rfl rfl rfl rfl rfl (fun h2 => ?_) (fun h2 => ?_)
 ·
  refine zap 3 rfl (hvQ rfl (riQ 1 rfl rfl rfl rfl (zab hv)) (hvQ rfl (lzQ rfl rfl rfl (zab hv)) (zap 1 rfl ?_)))
  refine zbj rfl rfl rfl rfl rfl rfl (fun h3 => ?_) (fun h3 => ?_)
  ·
   refine zaz 1 rfl (zak rfl (zcq (zax (reQ 1 rfl (hvQ rfl (vaQ rfl rfl rfl) (enQ 1 rfl ?_))))))
   exact zcs (zcr (k + 1) ⟨by omega, by omega, fun j hj => by by_cases hjk : j = k.toNat; (subst hjk; assumption); exact hk2 j (by omega)⟩ (by omega) (saQ rfl) (.slnil))
  refine zaz 1 rfl (zal rfl ?_)
  refine zba (zdq ?_)
  refine zag (zaw (zac (zac (reQ 2 rfl (hvQ rfl (lnQ rfl rfl rfl (zab hv)) ?_)))))
  refine zbj rfl rfl rfl rfl rfl rfl (fun h4 => ?_) (fun h4 => ?_)
  ·
   refine zap 3 rfl (hvQ rfl (riQ 1 rfl rfl rfl rfl (zab hv)) (hvQ rfl (lzQ rfl rfl rfl (zab hv)) (zap 1 rfl ?_)))
   refine zbp rfl rfl rfl rfl rfl rfl (fun h5 => ?_) (fun h5 => ?_)
   ·
    refine zaz 1 rfl (zak rfl (zbd 2 rfl ?_))
    refine zau (zai ?_)
    exact zck rfl rfl (List.nil_sublist _) (Or.inl ⟨rfl, rfl, zqm xs x k.toNat (by omega) hk2 (by omega)⟩)
   refine zaz 1 rfl (zal rfl (zcq (srQ ?_)))
   refine zdk rfl (zbz (s := 1) rfl Try.underlying28 rfl) ?_
   intro g6
   refine zap 2 rfl (hvQ rfl (zpu rfl Try.underlying28 rfl rfl rfl (zab hv) (by omega) (by omega)) ?_)
   refine zcd (i := 0) (z := .int .i64 0) (bytes := 8) (n' := (xs.take (k).toNat).length) (xs' := ((xs.take (k).toNat).map (Value.int .i64))) rfl rfl rfl rfl Try.underlying28 (by kernel_rfl) rfl rfl rfl rfl (zpy (zab hv) (by omega)) (zbm _) (by first | omega | (simp; done) | (simp; omega)) (Nat.zero_add _) (List.nil_append _) (fun _ => rfl) ?_
   intro v7
   refine zaz 1 rfl (zac (reQ 2 rfl ?_))
   refine zdk rfl (zat (z := .int .i64 0) (s := 1) (cs := ([x].map (Value.int .i64))) rfl Try.underlying28 rfl (by decide) rfl (by kernel_rfl) rfl) ?_
   intro g8
   refine zcd (i := 1) (z := .int .i64 0) (bytes := 8) rfl rfl rfl rfl Try.underlying28 (by kernel_rfl) rfl rfl rfl rfl (zae 0 rfl) (zbm _) (by first | omega | (simp; done) | (simp; omega)) (zbv (xs.take (k).toNat) ([x])) (zcm (xs.take (k).toNat) ([x])) (fun _ => rfl) ?_
   intro v9
   refine zaz 1 rfl (zac (reQ 3 rfl (hvQ rfl (zpt rfl Try.underlying28 rfl rfl rfl (zab hv) (by omega) (by omega)) ?_)))
   refine zcd (i := 1) (z := .int .i64 0) (bytes := 8) rfl rfl rfl rfl Try.underlying28 (by kernel_rfl) rfl rfl rfl rfl (zpx (zab hv) (by omega)) (zbm _) (by first | omega | (simp; done) | (simp; omega)) (zbv ((xs.take (k).toNat) ++ ([x])) (xs.drop (k).toNat)) (zcm ((xs.take (k).toNat) ++ ([x])) (xs.drop (k).toNat)) (fun _ => rfl) ?_
   intro v10
   refine zaz 1 rfl ?_
   refine zau ?_
   have e := zma xs x k.toNat (by omega) hk2 (by omega)
   exact zck (post := [rowE 3 1 v10 ((((xs.take (k).toNat) ++ ([x])) ++ (xs.drop (k).toNat)).length) ((((xs.take (k).toNat) ++ ([x])) ++ (xs.drop (k).toNat)).map (Value.int .i64))]) rfl rfl (slQ [1] rfl) (Or.inr (by rw [e]))
  refine zaz 8 rfl (zal rfl (zcq (srQ ?_)))
  refine zdk rfl (zbz (s := 1) rfl Try.underlying28 rfl) ?_
  intro g11
  refine zap 2 rfl (hvQ rfl (zpu rfl Try.underlying28 rfl rfl rfl (zab hv) (by omega) (by omega)) ?_)
  refine zcd (i := 0) (z := .int .i64 0) (bytes := 8) (n' := (xs.take (k).toNat).length) (xs' := ((xs.take (k).toNat).map (Value.int .i64))) rfl rfl rfl rfl Try.underlying28 (by kernel_rfl) rfl rfl rfl rfl (zpy (zab hv) (by omega)) (zbm _) (by first | omega | (simp; done) | (simp; omega)) (Nat.zero_add _) (List.nil_append _) (fun _ => rfl) ?_
  intro v12
  refine zaz 1 rfl (zac (reQ 2 rfl ?_))
  refine zdk rfl (zat (z := .int .i64 0) (s := 1) (cs := ([x].map (Value.int .i64))) rfl Try.underlying28 rfl (by decide) rfl (by kernel_rfl) rfl) ?_
  intro g13
  refine zcd (i := 1) (z := .int .i64 0) (bytes := 8) rfl rfl rfl rfl Try.underlying28 (by kernel_rfl) rfl rfl rfl rfl (zae 0 rfl) (zbm _) (by first | omega | (simp; done) | (simp; omega)) (zbv (xs.take (k).toNat) ([x])) (zcm (xs.take (k).toNat) ([x])) (fun _ => rfl) ?_
  intro v14
  refine zaz 1 rfl (zac (reQ 3 rfl (hvQ rfl (zpt rfl Try.underlying28 rfl rfl rfl (zab hv) (by omega) (by omega)) ?_)))
  refine zcd (i := 1) (z := .int .i64 0) (bytes := 8) rfl rfl rfl rfl Try.underlying28 (by kernel_rfl) rfl rfl rfl rfl (zpx (zab hv) (by omega)) (zbm _) (by first | omega | (simp; done) | (simp; omega)) (zbv ((xs.take (k).toNat) ++ ([x])) (xs.drop (k).toNat)) (zcm ((xs.take (k).toNat) ++ ([x])) (xs.drop (k).toNat)) (fun _ => rfl) ?_
  intro v15
  refine zaz 1 rfl ?_
  refine zau ?_
  have e := zma xs x k.toNat (by omega) hk2 (by omega)
  exact zck (post := [rowE 3 1 v15 ((((xs.take (k).toNat) ++ ([x])) ++ (xs.drop (k).toNat)).length) ((((xs.take (k).toNat) ++ ([x])) ++ (xs.drop (k).toNat)).map (Value.int .i64))]) rfl rfl (slQ [1] rfl) (Or.inr (by rw [e]))
 refine zaz 8 rfl (zal rfl ?_)
 refine zba (zdq ?_)
 refine zag (zaw (zac (zac (reQ 2 rfl (hvQ rfl (lnQ rfl rfl rfl (zab hv)) ?_)))))
 refine zbj rfl rfl rfl rfl rfl rfl (fun h16 => ?_) (fun h16 => ?_)
 ·
  refine zap 3 rfl (hvQ rfl (riQ 1 rfl rfl rfl rfl (zab hv)) (hvQ rfl (lzQ rfl rfl rfl (zab hv)) (zap 1 rfl ?_)))
  refine zbp rfl rfl rfl rfl rfl rfl (fun h17 => ?_) (fun h17 => ?_)
  ·
   refine zaz 1 rfl (zak rfl (zbd 2 rfl ?_))
   refine zau (zai ?_)
   exact zck rfl rfl (List.nil_sublist _) (Or.inl ⟨rfl, rfl, zqm xs x k.toNat (by omega) hk2 (by omega)⟩)
  refine zaz 1 rfl (zal rfl (zcq (srQ ?_)))
  refine zdk rfl (zbz (s := 1) rfl Try.underlying28 rfl) ?_
  intro g18
  refine zap 2 rfl (hvQ rfl (zpu rfl Try.underlying28 rfl rfl rfl (zab hv) (by omega) (by omega)) ?_)
  refine zcd (i := 0) (z := .int .i64 0) (bytes := 8) (n' := (xs.take (k).toNat).length) (xs' := ((xs.take (k).toNat).map (Value.int .i64))) rfl rfl rfl rfl Try.underlying28 (by kernel_rfl) rfl rfl rfl rfl (zpy (zab hv) (by omega)) (zbm _) (by first | omega | (simp; done) | (simp; omega)) (Nat.zero_add _) (List.nil_append _) (fun _ => rfl) ?_
  intro v19
  refine zaz 1 rfl (zac (reQ 2 rfl ?_))
  refine zdk rfl (zat (z := .int .i64 0) (s := 1) (cs := ([x].map (Value.int .i64))) rfl Try.underlying28 rfl (by decide) rfl (by kernel_rfl) rfl) ?_
  intro g20
  refine zcd (i := 1) (z := .int .i64 0) (bytes := 8) rfl rfl rfl rfl Try.underlying28 (by kernel_rfl) rfl rfl rfl rfl (zae 0 rfl) (zbm _) (by first | omega | (simp; done) | (simp; omega)) (zbv (xs.take (k).toNat) ([x])) (zcm (xs.take (k).toNat) ([x])) (fun _ => rfl) ?_
  intro v21
  refine zaz 1 rfl (zac (reQ 3 rfl (hvQ rfl (zpt rfl Try.underlying28 rfl rfl rfl (zab hv) (by omega) (by omega)) ?_)))
  refine zcd (i := 1) (z := .int .i64 0) (bytes := 8) rfl rfl rfl rfl Try.underlying28 (by kernel_rfl) rfl rfl rfl rfl (zpx (zab hv) (by omega)) (zbm _) (by first | omega | (simp; done) | (simp; omega)) (zbv ((xs.take (k).toNat) ++ ([x])) (xs.drop (k).toNat)) (zcm ((xs.take (k).toNat) ++ ([x])) (xs.drop (k).toNat)) (fun _ => rfl) ?_
  intro v22
  refine zaz 1 rfl ?_
  refine zau ?_
  have e := zma xs x k.toNat (by omega) hk2 (by omega)
  exact zck (post := [rowE 3 1 v22 ((((xs.take (k).toNat) ++ ([x])) ++ (xs.drop (k).toNat)).length) ((((xs.take (k).toNat) ++ ([x])) ++ (xs.drop (k).toNat)).map (Value.int .i64))]) rfl rfl (slQ [1] rfl) (Or.inr (by rw [e]))
 refine zaz 8 rfl (zal rfl (zcq (srQ ?_)))
 refine zdk rfl (zbz (s := 1) rfl Try.underlying28 rfl) ?_
 intro g23
 refine zap 2 rfl (hvQ rfl (zpu rfl Try.underlying28 rfl rfl rfl (zab hv) (by omega) (by omega)) ?_)
 refine zcd (i := 0) (z := .int .i64 0) (bytes := 8) (n' := (xs.take (k).toNat).length) (xs' := ((xs.take (k).toNat).map (Value.int .i64))) rfl rfl rfl rfl Try.underlying28 (by kernel_rfl) rfl rfl rfl rfl (zpy (zab hv) (by omega)) (zbm _) (by first | omega | (simp; done) | (simp; omega)) (Nat.zero_add _) (List.nil_append _) (fun _ => rfl) ?_
 intro v24
 refine zaz 1 rfl (zac (reQ 2 rfl ?_))
 refine zdk rfl (zat (z := .int .i64 0) (s := 1) (cs := ([x].map (Value.int .i64))) rfl Try.underlying28 rfl (by decide) rfl (by kernel_rfl) rfl) ?_
 intro g25
 refine zcd (i := 1) (z := .int .i64 0) (bytes := 8) rfl rfl rfl rfl Try.underlying28 (by kernel_rfl) rfl rfl rfl rfl (zae 0 rfl) (zbm _) (by first | omega | (simp; done) | (simp; omega)) (zbv (xs.take (k).toNat) ([x])) (zcm (xs.take (k).toNat) ([x])) (fun _ => rfl) ?_
 intro v26
 refine zaz 1 rfl (zac (reQ 3 rfl (hvQ rfl (zpt rfl Try.underlying28 rfl rfl rfl (zab hv) (by omega) (by omega)) ?_)))
 refine zcd (i := 1) (z := .int .i64 0) (bytes := 8) rfl rfl rfl rfl Try.underlying28 (by kernel_rfl) rfl rfl rfl rfl (zpx (zab hv) (by omega)) (zbm _) (by first | omega | (simp; done) | (simp; omega)) (zbv ((xs.take (k).toNat) ++ ([x])) (xs.drop (k).toNat)) (zcm ((xs.take (k).toNat) ++ ([x])) (xs.drop (k).toNat)) (fun _ => rfl) ?_
 intro v27
 refine zaz 1 rfl ?_
 refine zau ?_
 have e := zma xs x k.toNat (by omega) hk2 (by omega)
 exact zck (post := [rowE 3 1 v27 ((((xs.take (k).toNat) ++ ([x])) ++ (xs.drop (k).toNat)).length) ((((xs.take (k).toNat) ++ ([x])) ++ (xs.drop (k).toNat)).map (Value.int .i64))]) rfl rfl (slQ [1] rfl) (Or.inr (by rw [e]))
def kindI (d : Dev) (t : Int) : Int := if (t % d.W = 0 ∨ t % d.W = d.W - 1) ∨ (t / d.W = 0 ∨ t / d.W = d.H - 1) then 0 else if t % d.W = d.R then 2 else 1
theorem k1_o {d : Dev} {t : Int} (h : t % d.W = 0) : 0 = kindI d t := by simp [kindI, h]
theorem k2_o {d : Dev} {t : Int} (h : t % d.W = d.W - 1) : 0 = kindI d t := by simp [kindI, h]
theorem k3_o {d : Dev} {t : Int} (h : t / d.W = 0) : 0 = kindI d t := by simp [kindI, h]
theorem k4 {d : Dev} {t : Int} (h : (((t % d.W == 0) = true ∨ (t % d.W == d.W - 1) = true) ∨ (t / d.W == 0) = true) ∨ (t / d.W == d.H - 1) = true) : 0 = kindI d t := by
  simp only [beq_iff_eq] at h
  rw [kindI, if_pos (by rcases h with ((h | h) | h) | h <;> simp [h])]
theorem k5 {d : Dev} {t : Int} (h : (((t % d.W == 0) = false ∧ (t % d.W == d.W - 1) = false) ∧ (t / d.W == 0) = false) ∧ (t / d.W == d.H - 1) = false) (h2 : (t % d.W == d.R) = true) : 2 = kindI d t := by
  simp only [beq_eq_false_iff_ne, beq_iff_eq] at h h2
  rw [kindI, if_neg (by simp [h]), if_pos h2]
theorem k6 {d : Dev} {t : Int} (h : (((t % d.W == 0) = false ∧ (t % d.W == d.W - 1) = false) ∧ (t / d.W == 0) = false) ∧ (t / d.W == d.H - 1) = false) (h2 : (t % d.W == d.R) = false) : 1 = kindI d t := by
  simp only [beq_eq_false_iff_ne] at h h2
  rw [kindI, if_neg (by simp [h]), if_neg h2]
def tOk (d : Dev) (t : Int) : Bool := devB d && inR t 0 (d.W * d.H - 1)
theorem zoc (d : Dev) (t : Int) : tOk d t = true ↔ devB d = true ∧ 0 ≤ t ∧ t ≤ d.W * d.H - 1 := by unfold tOk; rw [Bool.and_eq_true, zdc]
theorem area_le {d : Dev} (h : devB d = true) : 9 ≤ d.W * d.H ∧ d.W * d.H ≤ 36 := by
  obtain ⟨⟨a1, a2⟩, ⟨b1, b2⟩, -, -⟩ := (zjj d).1 h
  have h1 : 3 * 3 ≤ d.W * d.H := Int.mul_le_mul a1 b1 (by omega) (by omega)
  have h2 : d.W * d.H ≤ 6 * 6 := Int.mul_le_mul a2 b2 (by omega) (by omega)
  omega
def tileKindI (d : Dev) (t : Int) : Int := if tOk d t = true then kindI d t else -1
abbrev DevS (w0 : World) (B : Nat) (d : Dev) (w' : World) : Prop := w'.cell? ⟨B, 0, none⟩ = some (.int .i64 d.W) ∧ w'.cell? ⟨B, 1, none⟩ = some (.int .i64 d.H) ∧ w'.cell? ⟨B, 2, none⟩ = some (.int .i64 d.T) ∧ w'.cell? ⟨B, 3, none⟩ = some (.int .i64 d.R) ∧ Below (B + 1) w0 w'
theorem zih {w0 : World} {B : Nat} {d : Dev} {X Y : World} (h : DevS w0 B d X) (hb : Below X.heap.size X Y) : DevS w0 B d Y := by
  have hlt : B < X.heap.size := World.block_lt_of_cell? _ _ h.1
  exact ⟨(hb.cell (p := ⟨B, 0, none⟩) hlt).trans h.1, (hb.cell (p := ⟨B, 1, none⟩) hlt).trans h.2.1, (hb.cell (p := ⟨B, 2, none⟩) hlt).trans h.2.2.1, (hb.cell (p := ⟨B, 3, none⟩) hlt).trans h.2.2.2.1, h.2.2.2.2.trans (hb.mono hlt)⟩
theorem zhi (w : World) (d : Dev) : DevS (w.alloc (.cells #[.int .i64 d.W, .int .i64 d.H, .int .i64 d.T, .int .i64 d.R] 25)) w.heap.size d (w.alloc (.cells #[.int .i64 d.W, .int .i64 d.H, .int .i64 d.T, .int .i64 d.R] 25)) :=
  ⟨World.cell?_alloc_at _ _ _ _ rfl, World.cell?_alloc_at _ _ _ _ rfl, World.cell?_alloc_at _ _ _ _ rfl, World.cell?_alloc_at _ _ _ _ rfl, Below.refl _ _⟩
theorem zji {w : World} {d : Dev} {o : Obj} {Y : World} (h : DevS (w.alloc o) w.heap.size d Y) : Below w.heap.size w Y := (zgk (Below.refl _ _) _).trans (h.2.2.2.2.mono (by omega))
open Go.RowKit
open Go.RowKit
open Go.RowKit
def cutR (P : List Int) (x : Int) : Nat := P.length - (P.reverse.takeWhile (fun y => decide (x < y))).length
def insR (P : List Int) (x : Int) : List Int := P.take (cutR P x) ++ x :: P.drop (cutR P x)
def sortR (xs : List Int) : List Int := xs.foldl insR []
theorem tw_app (a b : List Int) (f : Int → Bool) (h : ∀ y ∈ a, f y = true) (h2 : b = [] ∨ f (b.headD 0) = false) : ((a ++ b).takeWhile f).length = a.length := by
  induction a with
  | nil =>
    rcases h2 with rfl | h2
    · rfl
    · cases b with
      | nil => rfl
      | cons y ys => simp at h2; simp [h2]
  | cons y ys ih =>
    have := h y (by simp)
    simp only [List.cons_append, List.takeWhile_cons, this, if_true, List.length_cons]
    rw [ih (fun z hz => h z (by simp [hz]))]
theorem cutR_at (P : List Int) (x : Int) (k : Nat) (hk : k ≤ P.length) (h1 : ∀ j, k ≤ j → j < P.length → x < P.getD j 0) (h2 : k = 0 ∨ P.getD (k - 1) 0 ≤ x) : cutR P x = k := by
  unfold cutR
  have e : P.reverse = (P.drop k).reverse ++ (P.take k).reverse := by rw [← List.reverse_append, List.take_append_drop]
  rw [e, tw_app]
  · simp; omega
  · intro y hy
    rw [List.mem_reverse] at hy
    obtain ⟨j, hj, rfl⟩ := List.mem_iff_getElem.1 hy
    rw [List.length_drop] at hj
    have := h1 (k + j) (by omega) (by omega)
    rw [List.getD_eq_getElem?_getD, List.getElem?_eq_getElem (by omega)] at this
    simpa using this
  · rcases h2 with rfl | h2
    · left; simp
    · by_cases h0 : k = 0
      · subst h0; left; simp
      · right
        have hlt : k - 1 < P.length := by omega
        rw [List.headD_eq_head?_getD, List.head?_reverse, List.getLast?_eq_getElem?, List.length_take, Nat.min_eq_left hk, List.getElem?_take, if_pos (by omega), ← List.getD_eq_getElem?_getD]
        simpa using h2
theorem ztl (P : List Int) (x : Int) (k : Nat) (hk : k ≤ P.length) (h1 : ∀ j, k ≤ j → j < P.length → x < P.getD j 0) (h2 : k = 0 ∨ P.getD (k - 1) 0 ≤ x) : insR P x = P.take k ++ x :: P.drop k := by
  unfold insR; rw [cutR_at P x k hk h1 h2]
theorem zuy (P : List Int) (x : Int) : (insR P x).length = P.length + 1 := by
  unfold insR; rw [List.length_append, List.length_cons, List.length_take, List.length_drop]
  have : cutR P x ≤ P.length := by unfold cutR; omega
  omega
theorem zrm (xs : List Int) (x : Int) : sortR (xs ++ [x]) = insR (sortR xs) x := by unfold sortR; rw [List.foldl_append]; rfl
theorem zqr : ∀ (xs acc : List Int), (xs.foldl insR acc).length = acc.length + xs.length
  | [], acc => by simp
  | x :: xs, acc => by rw [List.foldl_cons, zqr xs, zuy, List.length_cons]; omega
theorem zgf (xs : List Int) : (sortR xs).length = xs.length := by unfold sortR; rw [zqr]; simp
def midS (P : List Int) (x : Int) (rest : List Int) (k : Nat) : List Int := P.take k ++ x :: P.drop k ++ rest
theorem midS_at (P : List Int) (x : Int) (rest : List Int) (k : Nat) (hk : k ≤ P.length) : (midS P x rest k).getD k 0 = x := by
  unfold midS
  rw [List.append_assoc, List.getD_eq_getElem?_getD, List.getElem?_append_right (by simp; omega)]
  simp [Nat.min_eq_left hk]
theorem zoo (P : List Int) (x : Int) (rest : List Int) (k : Nat) (hk : k ≤ P.length) (h0 : 0 < k) : (midS P x rest k).getD (k - 1) 0 = P.getD (k - 1) 0 := by
  unfold midS
  rw [List.append_assoc, List.getD_eq_getElem?_getD, List.getElem?_append_left (by simp; omega), List.getElem?_take, if_pos (by omega), ← List.getD_eq_getElem?_getD]
theorem ztb (P : List Int) (x : Int) (rest : List Int) (k : Nat) (hk : k + 1 ≤ P.length) : ((midS P x rest (k + 1)).set (k + 1) (P.getD k 0)).set k x = midS P x rest k := by
  have hlt : k < P.length := by omega
  have e : P.getD k 0 = P[k] := by rw [List.getD_eq_getElem?_getD, List.getElem?_eq_getElem hlt]; rfl
  unfold midS
  have e1 : P.take (k + 1) = P.take k ++ [P[k]] := List.take_succ_eq_append_getElem hlt
  have e2 : P.drop k = P[k] :: P.drop (k + 1) := List.drop_eq_getElem_cons hlt
  have hl : (P.take k).length = k := by simp; omega
  rw [e, e1, e2]
  simp only [List.append_assoc, List.cons_append, List.nil_append]
  rw [List.set_append_right _ _ (by omega), hl, show k + 1 - k = 1 by omega, List.set_cons_succ, List.set_cons_zero, List.set_append_right _ _ (by omega), hl, Nat.sub_self, List.set_cons_zero]
theorem zrq (xs : List Int) (i : Nat) (hi : i < xs.length) : sortR (xs.take i) ++ xs.drop i = midS (sortR (xs.take i)) (xs.getD i 0) (xs.drop (i + 1)) i := by
  have hl : (sortR (xs.take i)).length = i := by rw [zgf]; simp; omega
  have e : xs.getD i 0 = xs[i] := by rw [List.getD_eq_getElem?_getD, List.getElem?_eq_getElem hi]; rfl
  unfold midS
  rw [e, List.take_of_length_le (show (sortR (xs.take i)).length ≤ i by omega), List.drop_eq_nil_of_le (show (sortR (xs.take i)).length ≤ i by omega), List.drop_eq_getElem_cons hi]; simp
theorem zqh (xs : List Int) (i k : Nat) (hi : i < xs.length) (hk : k ≤ i) (h1 : ∀ j, k ≤ j → j < i → xs.getD i 0 < (sortR (xs.take i)).getD j 0) (h2 : k = 0 ∨ (sortR (xs.take i)).getD (k - 1) 0 ≤ xs.getD i 0) :
    midS (sortR (xs.take i)) (xs.getD i 0) (xs.drop (i + 1)) k = sortR (xs.take (i + 1)) ++ xs.drop (i + 1) := by
  have hl : (sortR (xs.take i)).length = i := by rw [zgf]; simp; omega
  have e : xs.getD i 0 = xs[i] := by rw [List.getD_eq_getElem?_getD, List.getElem?_eq_getElem hi]; rfl
  rw [List.take_succ_eq_append_getElem hi, zrm, ← e, ztl _ _ k (by omega) (fun j a b => h1 j a (by omega)) h2]
  rfl
theorem zrl (xs : List Int) : xs = sortR (xs.take (0 + 1)) ++ xs.drop (0 + 1) := by
  cases xs with
  | nil => rfl
  | cons x xs => rfl
theorem zow (v : Value) (xs : List Int) (w : World) (hv : RdsW w v 1 xs.length (xs.map (Value.int .i64))) (hn : xs.length ≤ 1000000) :
   Calls Try.prog 113 #[v] w (Ret w (fun v' post => post = [rowE 3 1 v' (sortR xs).length ((sortR xs).map (Value.int .i64))])) := by
 refine zbf (N := 51) (args := [v]) Try.func113 rfl rfl ?_
 refine zmf _ [0] rfl (zac (zay (zap 1 rfl (zdo [2, 0] rfl (zbu (zaw (zac (zay ?_))))))))
 refine zwr rfl rfl rfl (zbz (s := 1) rfl Try.underlying28 (by kernel_rfl)) ?_
 intro g1
 refine zap 1 rfl ?_
 refine zcd (i := 0) (z := .int .i64 0) (bytes := 8) (n' := xs.length) (xs' := (xs.map (Value.int .i64))) rfl rfl rfl rfl Try.underlying28 (by kernel_rfl) (by kernel_rfl) rfl rfl rfl (zab hv) (zbm _) (by first | omega | (simp; done) | (simp; omega)) ((Nat.zero_add _)) ((List.nil_append _)) (fun _ => rfl) ?_
 intro v2
 refine zap 1 rfl (zdo [3, 2, 0] rfl (zbu (zaw (zac (zac (zay (zap 1 rfl (zdo [4, 3, 2, 0] rfl (zbu (zaw (zax ?_)))))))))))
 refine zid (α := Nat) (β := List Int) (fun i zs => [rowE 3 1 v2 zs.length (zs.map (Value.int .i64))]) (fun i zs => [(0, v), (2, .slice none 0 0), (3, v2), (4, .int .i64 ((i : Int) + 1))]) (fun i zs => i ≤ xs.length ∧ zs.length = xs.length ∧ zs = sortR (xs.take (i + 1)) ++ xs.drop (i + 1)) (fun i zs => xs.length - i) 0 xs ⟨by omega, rfl, zrl xs⟩ (zam [4, 3, 2, 0] rfl) ((.cons_cons _ .slnil)) ?_
 intro i zs hi3
 obtain ⟨hi, hzl, hz⟩ := hi3
 refine zac (zac (zay (zap 2 rfl (zik rfl rfl rfl (zwc rfl Try.underlying28 rfl (zae 0 rfl)) ?_))))
 refine zbj rfl rfl rfl rfl rfl rfl (fun h4 => ?_) (fun h4 => ?_)
 ·
  refine zdo [13, 4, 3, 2, 0] rfl (zbu (zaw (zak rfl (zfe (zaw (zac (zax (zac (zay (zap 2 rfl (zdo [13, 5, 4, 3, 2, 0] rfl (zbu (zaw ?_)))))))))))))
  refine zax ?_
  refine zid (α := Nat) (β := List Int) (fun k ys => [rowE 3 1 v2 ys.length (ys.map (Value.int .i64))]) (fun k ys => [(0, v), (2, .slice none 0 0), (3, v2), (4, .int .i64 ((i : Int) + 1)), (5, .int .i64 (k : Int)), (13, .bool true)]) (fun k ys => k ≤ i + 1 ∧ ys.length = xs.length ∧ ys = midS (sortR (xs.take (i + 1))) (xs.getD (i + 1) 0) (xs.drop (i + 1 + 1)) k ∧ ∀ j, k ≤ j → j < i + 1 → xs.getD (i + 1) 0 < (sortR (xs.take (i + 1))).getD j 0) (fun k ys => k) (i + 1) zs ⟨by omega, hzl, by rw [hz]; exact zrq xs (i + 1) (by omega), fun j a b => absurd a (by omega)⟩ (zam [13, 5, 4, 3, 2, 0] rfl) ((.cons_cons _ .slnil)) ?_
  intro k ys hi5
  obtain ⟨hk, hyl, hy, hy1⟩ := hi5
  have hsl : (sortR (xs.take (i + 1))).length = i + 1 := by rw [zgf]; simp; omega
  have hm1 := hy ▸ midS_at (sortR (xs.take (i + 1))) (xs.getD (i + 1) 0) (xs.drop (i + 1 + 1)) k (by omega)
  have hk1 : ((k : Int) - 1).toNat = k - 1 := by omega
  have hm2 : 0 < k → ys.getD ((k : Int) - 1).toNat 0 = (sortR (xs.take (i + 1))).getD (k - 1) 0 := fun h => by rw [hk1, hy]; exact zoo (sortR (xs.take (i + 1))) (xs.getD (i + 1) 0) (xs.drop (i + 1 + 1)) k (by omega) h
  refine zac (zac ?_)
  rcases Bool.eq_false_or_eq_true (decide (0 < (k : Int))) with hb6 | hb6
  ·
   have hb6p : 0 < (k : Int) := of_decide_eq_true hb6
   rcases Bool.eq_false_or_eq_true (decide (ys.getD k 0 < ys.getD (((k : Int) - 1).toNat) 0)) with hb7 | hb7
   ·
    have hb7p : ys.getD k 0 < ys.getD (((k : Int) - 1).toNat) 0 := of_decide_eq_true hb7
    refine zby 14 [[], [0], [1], [2], [2], [2, 3, 4], [2, 5], [2], [2], [2, 8], [2, 7, 9], [2, 10], [2, 6, 11], [2, 12]] [17, 18, 19, 20, 21, 22, 23, 24, 25, 26, 27, 28, 29, 30] [.int .i64 (k : Int), .bool true, .bool true, v2, .int .i64 (k : Int), elP v2 (((k : Int)).toNat * 1), .int .i64 (ys.getD k 0), v2, .int .i64 (k : Int), .int .i64 ((k : Int) - 1), elP v2 (((k : Int) - 1).toNat * 1), .int .i64 (ys.getD (((k : Int) - 1).toNat) 0), .bool true, .bool true] (by kernel_rfl) rfl ?_ ?_
    ·
     refine ⟨?_, ?_, ?_, ?_, ?_, ?_, ?_, ?_, ?_, ?_, ?_, ?_, ?_, ?_, trivial⟩
     · exact .inl ⟨rfl, zfq (zas rfl) rfl⟩
     · exact .inl ⟨rfl, zek (zde rfl rfl rfl rfl) hb6⟩
     iterate 3 (exact .inl ⟨rfl, zfq (zas rfl) rfl⟩)
     · exact .inl ⟨rfl, zfq (zfo (s := 1) rfl Try.underlying28 (by kernel_rfl) rfl rfl (zae 0 rfl) (by omega) (by omega)) rfl⟩
     · exact .inl ⟨rfl, zfq (zar (u := .int .i64 (ys.getD k 0)) rfl (by kernel_rfl) rfl (zae 0 rfl) (zbn (show _ < ys.length by omega))) rfl⟩
     · exact .inl ⟨rfl, zfq (zas rfl) rfl⟩
     · exact .inl ⟨rfl, zfq (zas rfl) rfl⟩
     · exact .inl ⟨rfl, zfq (zkr rfl rfl rfl (by constructor <;> omega)) rfl⟩
     · exact .inl ⟨rfl, zfq (zfo (s := 1) rfl Try.underlying28 (by kernel_rfl) rfl rfl (zae 0 rfl) (by omega) (by omega)) rfl⟩
     · exact .inl ⟨rfl, zfq (zar (u := .int .i64 (ys.getD (((k : Int) - 1).toNat) 0)) rfl (by kernel_rfl) rfl (zae 0 rfl) (zbn (show _ < ys.length by omega))) rfl⟩
     · exact .inl ⟨rfl, zek (zde rfl rfl rfl rfl) hb7⟩
     exact .inl ⟨rfl, zfq (zas rfl) rfl⟩
    refine zdo [30, 13, 5, 4, 3, 2, 0] rfl ?_
    simp only [List.drop_succ_cons, List.drop_zero]
    refine zdo [30, 13, 5, 4, 3, 2, 0] rfl (zbu (zaw (zak rfl (zfe (zaw (zac (zax (zac (zay (zap 2 rfl (zik rfl rfl rfl (zfo (s := 1) rfl Try.underlying28 (by kernel_rfl) rfl rfl (zae 0 rfl) (by omega) (by omega)) (zik rfl rfl rfl (zar (u := .int .i64 (ys.getD k 0)) rfl (by kernel_rfl) rfl (zae 0 rfl) (zbn (show _ < ys.length by omega))) (zap 1 rfl ?_)))))))))))))
    refine zdo [30, 13, 6, 5, 4, 3, 2, 0] rfl (zbu (zaw (zac (zay (zap 4 rfl (zik rfl rfl rfl (zkr rfl rfl rfl (by constructor <;> omega)) (zik rfl rfl rfl (zfo (s := 1) rfl Try.underlying28 (by kernel_rfl) rfl rfl (zae 0 rfl) (by omega) (by omega)) (zik rfl rfl rfl (zar (u := .int .i64 (ys.getD (((k : Int) - 1).toNat) 0)) rfl (by kernel_rfl) rfl (zae 0 rfl) (zbn (show _ < ys.length by omega))) (zik rfl rfl rfl (zfo (s := 1) rfl Try.underlying28 (by kernel_rfl) rfl rfl (zae 0 rfl) (by omega) (by omega)) ?_)))))))))
    refine zda (i := 0) (n' := (ys.set k (ys.getD (((k : Int) - 1).toNat) 0)).length) (xs' := ((ys.set k (ys.getD (((k : Int) - 1).toNat) 0)).map (Value.int .i64))) rfl rfl rfl (by kernel_rfl) rfl rfl rfl rfl (by first | omega | (simp only [List.length_set]; omega)) List.length_set.symm (zdd _ _ _) rfl ?_
    refine zdo [30, 13, 6, 5, 4, 3, 2, 0] rfl (zbu (zaw (zay (zap 2 rfl (zik rfl rfl rfl (zkr rfl rfl rfl (by constructor <;> omega)) (zap 1 rfl (zik rfl rfl rfl (zfo (s := 1) rfl Try.underlying28 (by kernel_rfl) rfl rfl (zae 0 rfl) (by omega) (by first | omega | (simp only [List.length_set]; omega))) ?_)))))))
    refine zda (i := 0) (n' := ((ys.set k (ys.getD (((k : Int) - 1).toNat) 0)).set (((k : Int) - 1).toNat) (ys.getD k 0)).length) (xs' := (((ys.set k (ys.getD (((k : Int) - 1).toNat) 0)).set (((k : Int) - 1).toNat) (ys.getD k 0)).map (Value.int .i64))) rfl rfl rfl (by kernel_rfl) rfl rfl rfl rfl (by first | omega | (simp only [List.length_set]; omega)) List.length_set.symm (zdd _ _ _) rfl ?_
    refine zdo [30, 13, 6, 5, 4, 3, 2, 0] rfl (zbu (zcs (zaw (zay (zap 1 rfl (zik rfl rfl rfl (zkr rfl rfl rfl (by constructor <;> omega)) (zap 1 rfl (zdo [30, 13, 6, 5, 4, 3, 2, 0] rfl (zbu ?_)))))))))
    exact zbq (k - 1) _ ⟨by omega, by simpa using hyl, by rw [hm2 (by omega), hm1, hk1]; obtain ⟨k, rfl⟩ : ∃ q, k = q + 1 := ⟨k - 1, by omega⟩; rw [hy]; exact ztb _ _ _ k (by omega), fun j a b => by by_cases hjk : k ≤ j; (exact hy1 j hjk b); (obtain rfl : j = k - 1 := by omega); omega⟩ (by omega) (sk 0 rfl (sk 2 rfl (sk 3 rfl (sk 4 rfl (sk 5 (by rw [show ((k - 1 : Nat) : Int) = (k : Int) - 1 by omega]; rfl) (sk 13 rfl (zaf _))))))) ((.cons_cons _ .slnil))
   have hb7p : ¬ (ys.getD k 0 < ys.getD (((k : Int) - 1).toNat) 0) := of_decide_eq_false hb7
   refine zby 14 [[], [0], [1], [2], [2], [2, 3, 4], [2, 5], [2], [2], [2, 8], [2, 7, 9], [2, 10], [2, 6, 11], [2, 12]] [17, 18, 19, 20, 21, 22, 23, 24, 25, 26, 27, 28, 29, 30] [.int .i64 (k : Int), .bool true, .bool true, v2, .int .i64 (k : Int), elP v2 (((k : Int)).toNat * 1), .int .i64 (ys.getD k 0), v2, .int .i64 (k : Int), .int .i64 ((k : Int) - 1), elP v2 (((k : Int) - 1).toNat * 1), .int .i64 (ys.getD (((k : Int) - 1).toNat) 0), .bool false, .bool false] (by kernel_rfl) rfl ?_ ?_
   ·
    refine ⟨?_, ?_, ?_, ?_, ?_, ?_, ?_, ?_, ?_, ?_, ?_, ?_, ?_, ?_, trivial⟩
    · exact .inl ⟨rfl, zfq (zas rfl) rfl⟩
    · exact .inl ⟨rfl, zek (zde rfl rfl rfl rfl) hb6⟩
    iterate 3 (exact .inl ⟨rfl, zfq (zas rfl) rfl⟩)
    · exact .inl ⟨rfl, zfq (zfo (s := 1) rfl Try.underlying28 (by kernel_rfl) rfl rfl (zae 0 rfl) (by omega) (by omega)) rfl⟩
    · exact .inl ⟨rfl, zfq (zar (u := .int .i64 (ys.getD k 0)) rfl (by kernel_rfl) rfl (zae 0 rfl) (zbn (show _ < ys.length by omega))) rfl⟩
    · exact .inl ⟨rfl, zfq (zas rfl) rfl⟩
    · exact .inl ⟨rfl, zfq (zas rfl) rfl⟩
    · exact .inl ⟨rfl, zfq (zkr rfl rfl rfl (by constructor <;> omega)) rfl⟩
    · exact .inl ⟨rfl, zfq (zfo (s := 1) rfl Try.underlying28 (by kernel_rfl) rfl rfl (zae 0 rfl) (by omega) (by omega)) rfl⟩
    · exact .inl ⟨rfl, zfq (zar (u := .int .i64 (ys.getD (((k : Int) - 1).toNat) 0)) rfl (by kernel_rfl) rfl (zae 0 rfl) (zbn (show _ < ys.length by omega))) rfl⟩
    · exact .inl ⟨rfl, zek (zde rfl rfl rfl rfl) hb7⟩
    exact .inl ⟨rfl, zfq (zas rfl) rfl⟩
   refine zdo [30, 13, 5, 4, 3, 2, 0] rfl ?_
   simp only [List.drop_succ_cons, List.drop_zero]
   refine zdo [30, 13, 5, 4, 3, 2, 0] rfl (zbu (zaw (zal rfl ?_)))
   refine zba ?_
   refine zdg (zdg ?_)
   refine zag ?_
   refine zcs (zaw (zay (zap 1 rfl (zik rfl rfl rfl (zjo rfl rfl rfl (by constructor <;> omega)) (zap 1 rfl (zdo [30, 13, 5, 4, 3, 2, 0] rfl (zbu ?_)))))))
   exact zbq (i + 1) ys ⟨by omega, by omega, by rw [hy]; exact zqh xs (i + 1) k (by omega) (by omega) hy1 (by first | (left; omega) | (right; omega))⟩ (by omega) (zam [4, 3, 2, 0] rfl) ((.cons_cons _ .slnil))
  have hb6p : ¬ (0 < (k : Int)) := of_decide_eq_false hb6
  refine zby 14 [[], [0], [1], [2], [2], [2], [2], [2], [2], [2], [2], [2], [2], [2, 12]] [17, 18, 19, 20, 21, 22, 23, 24, 25, 26, 27, 28, 29, 30] [.int .i64 (k : Int), .bool false, .bool false, undef, undef, undef, undef, undef, undef, undef, undef, undef, undef, .bool false] (by kernel_rfl) rfl ?_ ?_
  ·
   refine ⟨?_, ?_, ?_, ?_, ?_, ?_, ?_, ?_, ?_, ?_, ?_, ?_, ?_, ?_, trivial⟩
   · exact .inl ⟨rfl, zfq (zas rfl) rfl⟩
   · exact .inl ⟨rfl, zek (zde rfl rfl rfl rfl) hb6⟩
   · exact .inl ⟨rfl, zfq (zas rfl) rfl⟩
   iterate 10 (exact .inr ⟨rfl, rfl⟩)
   exact .inl ⟨rfl, zfq (zas rfl) rfl⟩
  refine zdo [30, 13, 5, 4, 3, 2, 0] rfl ?_
  simp only [List.drop_succ_cons, List.drop_zero]
  refine zdo [30, 13, 5, 4, 3, 2, 0] rfl (zbu (zaw (zal rfl ?_)))
  refine zba ?_
  refine zdg (zdg ?_)
  refine zag ?_
  refine zcs (zaw (zay (zap 1 rfl (zik rfl rfl rfl (zjo rfl rfl rfl (by constructor <;> omega)) (zap 1 rfl (zdo [30, 13, 5, 4, 3, 2, 0] rfl (zbu ?_)))))))
  exact zbq (i + 1) ys ⟨by omega, by omega, by rw [hy]; exact zqh xs (i + 1) k (by omega) (by omega) hy1 (by first | (left; omega) | (right; omega))⟩ (by omega) (zam [4, 3, 2, 0] rfl) ((.cons_cons _ .slnil))
 refine zdo [13, 4, 3, 2, 0] rfl (zbu (zaw (zal rfl ?_)))
 refine zba ?_
 refine zdg (zdg ?_)
 refine zag ?_
 refine zaw (zac (zay (zap 2 rfl (zdo [13, 4, 3, 2, 0] rfl (zbu (zaw ?_))))))
 refine zau ?_
 exact zck (post := [rowE 3 1 v2 zs.length (zs.map (Value.int .i64))]) rfl rfl ((.cons_cons _ .slnil)) (by rw [hz, List.take_of_length_le (by omega), List.drop_eq_nil_of_le (by omega), List.append_nil])
def blkOf (v : Value) : Nat := match v with | .pointer (some ⟨b, _, _⟩) => b | _ => 0
def xr (a : Int) : Int := if a % 2 = 0 then a + 1 else a - 1
theorem xr_ok {a m : Int} (h : LtOk a m) : LtOk (xr a) m := by unfold LtOk xr at *; split <;> omega
def withG (n : Nt) (gs : List An) : Nt := { n with gs := gs }
structure AddOk (n : Nt) (gs gs' : List An) (x : Int) (k : Nat) (f : (Int → Int) → Int) : Prop where
  ext : ∃ t, gs' = gs ++ t ∧ t.length ≤ k
  ok : NtOk (withG n gs')
  lit : LtOk x (n.fst + gs'.length)
  val : ∀ (st : List Int) (inp : Int), st.length = n.ss.length → bitL (valsL (withG n gs') st inp) x = f (bitL (valsL (withG n gs) st inp))
abbrev fAnd (a b : Int) : (Int → Int) → Int := fun ev => ev a * ev b
open Go.RowKit
theorem zpa {N : Nat} {w0 : World} {l : List HP} {env : List (Nat × Value)} {Q : Post} {ex : Exit} {i e s n : Nat} {v : Value} {xs : List Value} (hi : l[i]? = some (rowE e s v n xs)) (k : v.oneCell' = true → HQ N w0 l env ex Q) : HQ N w0 l env ex Q := fun a w st => k (zcf (st.mem.holds _ (zcn hi))).one a w st
def AnsOk (f : Int) (gs : List An) : Prop := ∀ k, k < gs.length → LtOk (gs.getD k an0).a (f + k) ∧ LtOk (gs.getD k an0).b (f + k)
theorem zug {f : Int} {gs : List An} {a b : Int} (h : AnsOk f gs) (ha : LtOk a (f + gs.length)) (hb : LtOk b (f + gs.length)) : AnsOk f (gs ++ [An.mk a b]) := fun k hk => by
  rw [List.length_append, List.length_singleton] at hk
  by_cases hc : k < gs.length
  · rw [zen hc]; exact h k hc
  · rw [zeo (by omega), show k - gs.length = 0 by omega, show k = gs.length by omega]; exact ⟨ha, hb⟩
def SqsOk (m : Int) (ss : List Sq) : Prop := ∀ s ∈ ss, SqOk s ∧ ∀ x ∈ s.xs, LtOk x m
theorem zsj {m : Int} {ss : List Sq} {s : Sq} (h : SqsOk m ss) (h1 : SqOk s) (h2 : ∀ x ∈ s.xs, LtOk x m) : SqsOk m (ss ++ [s]) := fun r hr => by
  rcases List.mem_append.1 hr with hr | hr
  · exact h r hr
  · rw [List.mem_singleton] at hr; subst hr; exact ⟨h1, h2⟩
def OsOk (m : Int) (os : List Int) : Prop := ∀ x ∈ os, LtOk x m
theorem os_app {m : Int} {os : List Int} {x : Int} (h : OsOk m os) (hx : LtOk x m) : OsOk m (os ++ [x]) := fun r hr => by
  rcases List.mem_append.1 hr with hr | hr
  · exact h r hr
  · rw [List.mem_singleton] at hr; subst hr; exact hx
theorem zlb {w0 : World} {ps l : List HP} {p : HP} : Conv w0 (bigE ps :: p :: l) (bigE (ps ++ [p]) :: l) := fun w hm => by
  have h1 : Mem w0 (ps ++ (p :: l)) w := hm.unbig
  have h2 : Mem w0 ((ps ++ [p]) ++ l) w := by simpa using h1
  exact h2.big
theorem nt_mk {ins m f : Int} {sv av ov : Value} {ss : List Sq} {gs : List An} {os : List Int} (h0 : 0 ≤ ins) (h1 : ins ≤ 20) (h2 : ss.length ≤ 12) (h3 : gs.length ≤ 300) (h4 : os.length ≤ 16) (h5 : SqsOk m ss) (h6 : AnsOk f gs) (h7 : OsOk m os)
    (hf : f = 1 + ins + ss.length) (hm : m = 1 + ins + ss.length + gs.length) : NtOk (Nt.mk ins sv av ov ss gs os) := by
  subst hf hm
  exact ⟨h0, h1, h2, h3, h4, fun s hs => (h5 s hs).1, fun s hs => (h5 s hs).2, h6, h7⟩
theorem znh (g : Nat) (a : Option Addr) (len cap : Nat) (z : List Int) (q1 q2 q3 : Int) (w0 : World) (l : List HP) (w : World) (hm0 : Mem w0 (curE g a len cap :: l) w) (hb : BRow .u8 w0 a len cap z) (hq1 : 1 ≤ q1 ∧ q1 ≤ 6) (hq2 : 0 ≤ q2 ∧ q2 ≤ 4) (hq3 : 0 ≤ q3 ∧ q3 ≤ 30) :
   Calls Try.prog 59 #[.pointer (some ⟨g, 0, none⟩), .int .i64 q1, .int .i64 q2, .int .i64 q3] w (fun e_ w_ => ∃ v_ p_, e_ = .returned v_ ∧ (fun u_ p_ => ∃ n : Nt, u_ = n.agg ∧ p_ = bigE [curE g a len cap, ntE n] ∧ (n.sv.oneCell' = true ∧ n.av.oneCell' = true ∧ n.ov.oneCell' = true) ∧ NtOk n ∧ n.ins ≤ q1 ∧ (n.ss.length : Int) ≤ q2 ∧ (n.gs.length : Int) ≤ q3) v_ p_ ∧ Mem w0 (p_ :: l) w_) := by
 refine zgj (N := 131) (args := [.pointer (some ⟨g, 0, none⟩), .int .i64 q1, .int .i64 q2, .int .i64 q3]) Try.func59 rfl rfl hm0 (srQ ?_)
 refine zdj rfl (zbx (z := .agg #[.int .i64 0, .slice none 0 0, .slice none 0 0, .slice none 0 0]) rfl rfl) ?_
 intro b1
 refine ntQ (zac (reQ 2 rfl ?_))
 refine zdt (R := (fun u_ p_ => (∃ x_ : Int, u_ = .int .i64 x_ ∧ 0 ≤ x_ ∧ x_ < q1) ∧ p_ = curE g a len cap)) 1 rfl rfl rfl rfl rfl (fun l' w hm => zdh g a len cap z q1 _ _ _ hm hb (by constructor <;> omega)) ?_
 intro v2 p3 hR4
 obtain ⟨⟨xhR4, rfl, xhR40, xhR41⟩, rfl⟩ := hR4
 refine zev (l' := (boxE b1 #[.int .i64 0, .slice none 0 0, .slice none 0 0, .slice none 0 0] 86 :: curE g a len cap :: l)) rfl ?_
 refine hvQ rfl (vaQ rfl rfl rfl) (hvQ rfl (zcw (cs := #[.int .i64 (1 + xhR4), .slice none 0 0, .slice none 0 0, .slice none 0 0]) rfl rfl rfl) ?_)
 refine zdj rfl (zbx (z := .agg #[.int .i64 0, .slice none 0 0, .slice none 0 0, .slice none 0 0]) rfl rfl) ?_
 intro b5
 refine zcc (cs' := #[.int .i64 (1 + xhR4), .slice none 0 0, .slice none 0 0, .slice none 0 0]) (i := 0) (off := 0) (us := [.int .i64 (1 + xhR4), .slice none 0 0, .slice none 0 0, .slice none 0 0]) rfl rfl rfl rfl rfl rfl rfl (zah rfl (zah rfl (zah rfl (zah rfl zbr)))) rfl rfl rfl (ntQ (zac (reQ 2 rfl (hvQ rfl (vaQ rfl rfl rfl) ?_))))
 refine zdt (R := (fun u_ p_ => (∃ x_ : Int, u_ = .int .i64 x_ ∧ 0 ≤ x_ ∧ x_ < q2 + 1) ∧ p_ = curE g a len cap)) 2 rfl rfl rfl rfl rfl (fun l' w hm => zdh g a len cap z (q2 + 1) _ _ _ hm hb (by constructor <;> omega)) ?_
 intro v6 p7 hR8
 obtain ⟨⟨xhR8, rfl, xhR80, xhR81⟩, rfl⟩ := hR8
 refine zev (l' := (boxE b5 #[.int .i64 (1 + xhR4), .slice none 0 0, .slice none 0 0, .slice none 0 0] 86 :: boxE b1 #[.int .i64 0, .slice none 0 0, .slice none 0 0, .slice none 0 0] 86 :: curE g a len cap :: l)) rfl ?_
 refine zaz 1 rfl (zac (reQ 2 rfl (hvQ rfl (vaQ rfl rfl rfl) ?_)))
 refine zdt (R := (fun u_ p_ => (∃ x_ : Int, u_ = .int .i64 x_ ∧ 0 ≤ x_ ∧ x_ < q3 + 1) ∧ p_ = curE g a len cap)) 2 rfl rfl rfl rfl rfl (fun l' w hm => zdh g a len cap z (q3 + 1) _ _ _ hm hb (by constructor <;> omega)) ?_
 intro v9 p10 hR11
 obtain ⟨⟨xhR11, rfl, xhR110, xhR111⟩, rfl⟩ := hR11
 refine zev (l' := (boxE b5 #[.int .i64 (1 + xhR4), .slice none 0 0, .slice none 0 0, .slice none 0 0] 86 :: boxE b1 #[.int .i64 0, .slice none 0 0, .slice none 0 0, .slice none 0 0] 86 :: curE g a len cap :: l)) rfl ?_
 refine zaz 1 rfl (srQ (hvQ rfl (fdQ 0 rfl rfl rfl) (hvQ rfl (zad rfl rfl rfl (zaa 0 rfl rfl)) (hvQ rfl (vaQ rfl rfl rfl) (zap 1 rfl (hvQ rfl (vaQ rfl rfl rfl) (enQ 1 rfl ?_)))))))
 refine zaw (zac (zbd 1 rfl (zax ?_)))
 refine zep (rowE 3 1 (.slice none 0 0) 0 ([]) :: boxE b5 #[.int .i64 (1 + xhR4), .slice none 0 0, .slice none 0 0, .slice none 0 0] 86 :: boxE b1 #[.int .i64 0, .slice none 0 0, .slice none 0 0, .slice none 0 0] 86 :: curE g a len cap :: l) (fun w hm => hm.nilRow 3 1) ?_
 refine zep (rowE 126 2 (.slice none 0 0) 0 ([]) :: rowE 3 1 (.slice none 0 0) 0 ([]) :: boxE b5 #[.int .i64 (1 + xhR4), .slice none 0 0, .slice none 0 0, .slice none 0 0] 86 :: boxE b1 #[.int .i64 0, .slice none 0 0, .slice none 0 0, .slice none 0 0] 86 :: curE g a len cap :: l) (fun w hm => hm.nilRow 126 2) ?_
 refine zep (rowE 66 3 (.slice none 0 0) 0 ([]) :: rowE 126 2 (.slice none 0 0) 0 ([]) :: rowE 3 1 (.slice none 0 0) 0 ([]) :: boxE b5 #[.int .i64 (1 + xhR4), .slice none 0 0, .slice none 0 0, .slice none 0 0] 86 :: boxE b1 #[.int .i64 0, .slice none 0 0, .slice none 0 0, .slice none 0 0] 86 :: curE g a len cap :: l) (fun w hm => hm.nilRow 66 3) ?_
 refine zep _ zfh ?_
 refine zgn (α := Nat) (β := Value) (γ := List An) [0, 1, 2, 3, 8, 9, 10, 11, 12] rfl (fun i u gs => (bigE ([] : List HP) :: rowE 66 3 (.slice none 0 0) 0 ([]) :: rowE 126 2 u gs.length (gs.flatMap anC) :: rowE 3 1 (.slice none 0 0) 0 ([]) :: boxE b5 #[.int .i64 (1 + xhR4), .slice none 0 0, u, .slice none 0 0] 86 :: boxE b1 #[.int .i64 0, .slice none 0 0, .slice none 0 0, .slice none 0 0] 86 :: curE g a len cap :: l)) (fun i u gs => [(13, .int .i64 (i : Int))]) (fun i u gs => (i : Int) ≤ xhR11 ∧ gs.length = i ∧ AnsOk ((1 + (1 + xhR4)) + xhR8) gs) (fun i u gs => (xhR11).toNat - i) 0 _ [] ⟨by omega, rfl, fun k hk => absurd hk (by simp)⟩ (saQ rfl) (.refl _) ?_
 intro i u gs hi12
 obtain ⟨hi, hgl, hgo⟩ := hi12
 refine zac (zac (reQ 2 rfl ?_))
 refine zbj rfl rfl rfl rfl rfl rfl (fun h13 => ?_) (fun h13 => ?_)
 ·
  refine ntQ (zak rfl (zcq (sbQ (zac (reQ 2 rfl (hvQ rfl (vaQ rfl rfl rfl) (hvQ rfl (zew rfl rfl rfl (by constructor <;> omega)) (zap 1 rfl ?_))))))))
  refine ntQ (zac (reQ 1 rfl (hvQ rfl (vsQ rfl rfl rfl) (zap 2 rfl (hvQ rfl (vsQ rfl rfl rfl) (hvQ rfl (zpv rfl rfl rfl) ?_))))))
  refine zdt (R := (fun u_ p_ => (∃ x_ : Int, u_ = .int .i64 x_ ∧ 0 ≤ x_ ∧ x_ < min ((2 * (((1 + (1 + xhR4)) + xhR8) + (i : Int))) - 1) 14) ∧ p_ = curE g a len cap)) 6 rfl rfl rfl rfl rfl (fun l' w hm => zdh g a len cap z (min ((2 * (((1 + (1 + xhR4)) + xhR8) + (i : Int))) - 1) 14) _ _ _ hm hb (by constructor <;> omega)) ?_
  intro v14 p15 hR16
  obtain ⟨⟨xhR16, rfl, xhR160, xhR161⟩, rfl⟩ := hR16
  refine zev (l' := (bigE ([] : List HP) :: rowE 66 3 (.slice none 0 0) 0 ([]) :: rowE 126 2 u gs.length (gs.flatMap anC) :: rowE 3 1 (.slice none 0 0) 0 ([]) :: boxE b5 #[.int .i64 (1 + xhR4), .slice none 0 0, u, .slice none 0 0] 86 :: boxE b1 #[.int .i64 0, .slice none 0 0, .slice none 0 0, .slice none 0 0] 86 :: curE g a len cap :: l)) rfl ?_
  refine hvQ rfl (vsQ rfl rfl rfl) (zaz 1 rfl ?_)
  refine zhq 7 [5, 4, 3, 2, 1, 0, 6] rfl rfl (by decide) ?_
  refine zif (l := (bigE ([] : List HP) :: rowE 66 3 (.slice none 0 0) 0 ([]) :: rowE 126 2 u gs.length (gs.flatMap anC) :: rowE 3 1 (.slice none 0 0) 0 ([]) :: boxE b5 #[.int .i64 (1 + xhR4), .slice none 0 0, u, .slice none 0 0] 86 :: boxE b1 #[.int .i64 0, .slice none 0 0, .slice none 0 0, .slice none 0 0] 86 :: l)) rfl 8 [0, 1, 2, 3, 4, 5, 6, 7] (List.take 8 _) (List.drop 8 _) [[], [0], [], [], [], [3, 4], [2, 5], [5, 6]] [54, 55, 56, 57, 58, 59, 60, 61] (fun i_ vs_ v_ p_ => match i_ with | 0 => v_ = .pointer (some ⟨b5, 0 + 2, none⟩) ∧ p_ = [] | 1 => v_ = u ∧ p_ = [] | 2 => v_ = .int .i64 (((2 * (((1 + (1 + xhR4)) + xhR8) + (i : Int))) - 1) - xhR16) ∧ p_ = [] | 3 => v_ = .pointer (some ⟨g, 0, none⟩) ∧ p_ = [] | 4 => v_ = .int .i64 (2 * (((1 + (1 + xhR4)) + xhR8) + (i : Int))) ∧ p_ = [] | 5 => (∃ pm_, p_ = [pm_] ∧ (fun u_ p_ => (∃ x_ : Int, u_ = .int .i64 x_ ∧ 0 ≤ x_ ∧ x_ < 2 * (((1 + (1 + xhR4)) + xhR8) + (i : Int))) ∧ p_ = curE g a len cap) v_ pm_) | 6 => v_ = .agg #[.int .i64 (((2 * (((1 + (1 + xhR4)) + xhR8) + (i : Int))) - 1) - xhR16), .int .i64 (intOf_o (List.getD vs_ 1 undef))] ∧ p_ = [] | 7 => IsRow 126 2 1 ([((2 * (((1 + (1 + xhR4)) + xhR8) + (i : Int))) - 1) - xhR16, (intOf_o (List.getD vs_ 0 undef))].map (Value.int .i64)) v_ p_ | _ => True) [[], [0], [], [], [], [3, 4], [2, 5], [5, 6]] [none, none, none, none, none, some 11, none, none] [curE g a len cap] [0, 1, 2, 3, 4, 5, 6, 7] 11 (List.take_append_drop 8 _).symm (by kernel_rfl) (by kernel_rfl) (by kernel_rfl) rfl rfl ?_ ?_
  ·
   refine ⟨?_, ?_, ?_, ?_, ?_, ?_, ?_, ?_, trivial⟩
   ·
    intro vf pf hmu hR
    refine dqQ [] [] rfl (zcg (zam [9] rfl) ?_)
    exact zbg (fdQ 2 rfl rfl rfl)
   ·
    intro vf pf hmu hR
    have e0 := hR 0 (by decide)
    refine dqQ [0] [0] rfl (zbo (sk 54 (congrArg some e0.1) (zaf _)) (List.sublist_append_right _ _) ?_)
    exact zbg (zad rfl rfl rfl (zaa 4 rfl rfl))
   ·
    intro vf pf hmu hR
    refine dqQ [] [] rfl (zcg (zam [15] rfl) ?_)
    exact zbg (zas rfl)
   ·
    intro vf pf hmu hR
    refine dqQ [] [] rfl (zcg (zam [0] rfl) ?_)
    exact zbg (zas rfl)
   ·
    intro vf pf hmu hR
    refine dqQ [] [] rfl (zcg (zam [14] rfl) ?_)
    exact zbg (zas rfl)
   ·
    intro vf pf hmu hR
    have e3 := hR 3 (by decide)
    have e4 := hR 4 (by decide)
    refine Or.inl ⟨rfl, ?_⟩
    show RunM _ _ _ (pf 11) (([3, 4] : List Nat).flatMap pf ++ _) (envOf _ vf [3, 4] ++ _) _ _
    rw [hmu]
    exact zee (sk 57 (congrArg some e3.1) (sk 58 (congrArg some e4.1) (zaf _))) (by simp only [e3.2, e4.2, fS] <;> rfl) (zff (R := (fun u_ p_ => (∃ x_ : Int, u_ = .int .i64 x_ ∧ 0 ≤ x_ ∧ x_ < 2 * (((1 + (1 + xhR4)) + xhR8) + (i : Int))) ∧ p_ = curE g a len cap)) rfl rfl (fun L w hX hm => zdh g a len cap z (2 * (((1 + (1 + xhR4)) + xhR8) + (i : Int))) _ _ _ hm hb (by constructor <;> omega)))
   ·
    intro vf pf hmu hR
    have e2 := hR 2 (by decide)
    have e5 : (∃ pm_, (pf 5) = [pm_] ∧ (fun u_ p_ => (∃ x_ : Int, u_ = .int .i64 x_ ∧ 0 ≤ x_ ∧ x_ < 2 * (((1 + (1 + xhR4)) + xhR8) + (i : Int))) ∧ p_ = curE g a len cap) (vf 5) pm_) := hR 5 (by decide)
    obtain ⟨p18, pE5, hR19⟩ := e5
    obtain ⟨v17, vE5⟩ : ∃ x, vf 5 = x := ⟨_, rfl⟩
    rw [vE5] at hR19
    obtain ⟨⟨xhR19, rfl, xhR190, xhR191⟩, rfl⟩ := hR19
    refine dqQ [2, 5] [2, 5] rfl (zci (sk 56 (congrArg some e2.1) (sk 59 (congrArg some vE5) (zaf _))) (by simp only [pE5, vE5, e2.2, fS] <;> rfl) ?_)
    exact zcy (zbg (zcw (cs := #[.int .i64 (((2 * (((1 + (1 + xhR4)) + xhR8) + (i : Int))) - 1) - xhR16), .int .i64 xhR19]) rfl rfl rfl)) (fun _ _ h => ⟨h.1.trans (by show _ = (.agg #[.int .i64 (((2 * (((1 + (1 + xhR4)) + xhR8) + (i : Int))) - 1) - xhR16), .int .i64 (intOf_o (vf 5))] : Value); first | (rw [vE5]; done) | (rw [vE5]; rfl)), h.2⟩)
   intro vf pf hmu hR
   have e5 : (∃ pm_, (pf 5) = [pm_] ∧ (fun u_ p_ => (∃ x_ : Int, u_ = .int .i64 x_ ∧ 0 ≤ x_ ∧ x_ < 2 * (((1 + (1 + xhR4)) + xhR8) + (i : Int))) ∧ p_ = curE g a len cap) (vf 5) pm_) := hR 5 (by decide)
   obtain ⟨p18, pE5, hR19⟩ := e5
   obtain ⟨v17, vE5⟩ : ∃ x, vf 5 = x := ⟨_, rfl⟩
   rw [vE5] at hR19
   obtain ⟨⟨xhR19, rfl, xhR190, xhR191⟩, rfl⟩ := hR19
   have e6 : (vf 6) = .agg #[.int .i64 (((2 * (((1 + (1 + xhR4)) + xhR8) + (i : Int))) - 1) - xhR16), .int .i64 (intOf_o (vf 5))] ∧ (pf 6) = [] := hR 6 (by decide)
   rw [vE5] at e6
   refine dqQ [5, 6] [5, 6] rfl (zci (sk 60 (congrArg some e6.1) (zaf _)) (by simp only [pE5, vE5, e6.2, fS] <;> rfl) ?_)
   exact zcy (zat (z := .agg #[.int .i64 0, .int .i64 0]) (s := 2) (cs := ([((2 * (((1 + (1 + xhR4)) + xhR8) + (i : Int))) - 1) - xhR16, xhR19].map (Value.int .i64))) rfl Try.underlying84 rfl (by decide) rfl (by kernel_rfl) rfl) (fun v_ p_ h => by show IsRow 126 2 1 ([((2 * (((1 + (1 + xhR4)) + xhR8) + (i : Int))) - 1) - xhR16, (intOf_o (vf 5))].map (Value.int .i64)) v_ p_; rw [vE5]; exact h)
  intro vf pf hmu hR
  have e1 := hR 1 (by decide)
  have e5 : (∃ pm_, (pf 5) = [pm_] ∧ (fun u_ p_ => (∃ x_ : Int, u_ = .int .i64 x_ ∧ 0 ≤ x_ ∧ x_ < 2 * (((1 + (1 + xhR4)) + xhR8) + (i : Int))) ∧ p_ = curE g a len cap) (vf 5) pm_) := hR 5 (by decide)
  obtain ⟨p18, pE5, hR19⟩ := e5
  obtain ⟨v17, vE5⟩ : ∃ x, vf 5 = x := ⟨_, rfl⟩
  rw [vE5] at hR19
  obtain ⟨⟨xhR19, rfl, xhR190, xhR191⟩, rfl⟩ := hR19
  have e7 : IsRow 126 2 1 ([((2 * (((1 + (1 + xhR4)) + xhR8) + (i : Int))) - 1) - xhR16, (intOf_o (vf 5))].map (Value.int .i64)) (vf 7) (pf 7) := hR 7 (by decide)
  rw [vE5] at e7
  obtain ⟨g20, vE7, pE7⟩ := e7
  have q0 := hR 0 (by decide)
  have q1 := hR 1 (by decide)
  have q2 := hR 2 (by decide)
  have q3 := hR 3 (by decide)
  have q4 := hR 4 (by decide)
  have q6 := hR 6 (by decide)
  refine zco (zbk [39, 15, 14, 13, 12, 11, 10, 9, 8, 3, 2, 1, 0] _ (sk 55 (congrArg some e1.1) (sk 61 (congrArg some vE7) (zaf _))) rfl) (by simp only [pE5, vE5, pE7, vE7, q0.2, q1.2, q2.2, q3.2, q4.2, q6.2, fS] <;> rfl) ?_
  simp only [List.drop_succ_cons, List.drop_zero]
  refine zcd (i := 4) (z := .agg #[.int .i64 0, .int .i64 0]) (bytes := 16) rfl rfl rfl rfl Try.underlying84 (by kernel_rfl) rfl rfl rfl rfl (zae 1 rfl) (zbm _) (by first | omega | (simp only [List.length_append, List.length_cons, List.length_nil]; omega)) (zbv gs [(An.mk (((2 * (((1 + (1 + xhR4)) + xhR8) + (i : Int))) - 1) - xhR16) xhR19)]) (zcx anC gs (An.mk (((2 * (((1 + (1 + xhR4)) + xhR8) + (i : Int))) - 1) - xhR16) xhR19) _ rfl) (fun _ => rfl) ?_
  intro v21
  refine hvQ rfl (fdQ 2 rfl rfl rfl) (zdn (i := 4) rfl (fun ho22 => ?_))
  refine zez (i := 6) (cs' := #[.int .i64 (1 + xhR4), .slice none 0 0, v21, .slice none 0 0]) rfl rfl rfl rfl rfl rfl ho22 rfl rfl rfl rfl (zbu (zcv (reQ 1 rfl (hvQ rfl (vaQ rfl rfl rfl) (enQ 1 rfl ?_)))))
  refine zbw 8 [0, 7, 6, 5, 4, 3, 2] rfl rfl (by decide) ?_
  exact zbi (i + 1) v21 (gs ++ [(An.mk (((2 * (((1 + (1 + xhR4)) + xhR8) + (i : Int))) - 1) - xhR16) xhR19)]) ⟨by omega, by simp; omega, zug hgo (by unfold LtOk; omega) (by unfold LtOk; omega)⟩ (by omega) (saQ rfl) (.refl _)
 refine ntQ (zal rfl ?_)
 refine zba (zdq ?_)
 refine zag (zaw (zac (reQ 2 rfl (hvQ rfl (vaQ rfl rfl rfl) (hvQ rfl (zew rfl rfl rfl (by constructor <;> omega)) (zaz 1 rfl (zac (zac (reQ 1 rfl ?_)))))))))
 refine ntQ (zax ?_)
 refine zgn (α := Nat) (β := Value) (γ := List Sq) [0, 1, 2, 3, 8, 9, 10, 11, 12, 16, 39] rfl (fun i uq ss => (bigE (ss.map sqPart) :: rowE 66 3 uq ss.length (ss.flatMap sqC) :: rowE 126 2 u gs.length (gs.flatMap anC) :: rowE 3 1 (.slice none 0 0) 0 ([]) :: boxE b5 #[.int .i64 (1 + xhR4), uq, u, .slice none 0 0] 86 :: boxE b1 #[.int .i64 0, .slice none 0 0, .slice none 0 0, .slice none 0 0] 86 :: curE g a len cap :: l)) (fun i uq ss => [(17, .int .i64 (i : Int))]) (fun i uq ss => (i : Int) ≤ xhR8 ∧ ss.length = i ∧ SqsOk (((1 + (1 + xhR4)) + xhR8) + xhR11) ss) (fun i uq ss => (xhR8).toNat - i) 0 _ [] ⟨by omega, rfl, fun k hk => absurd hk (by simp)⟩ (saQ rfl) (.refl _) ?_
 intro i uq ss hi23
 obtain ⟨hi2, hsl, hso⟩ := hi23
 refine zac (zac (reQ 2 rfl ?_))
 refine zbj rfl rfl rfl rfl rfl rfl (fun h24 => ?_) (fun h24 => ?_)
 ·
  refine ntQ (zak rfl (zcq (sbQ (zac (reQ 1 rfl ?_)))))
  refine zdt (R := (fun u_ p_ => (∃ b : Bool, u_ = .bool b) ∧ p_ = curE g a len cap)) 6 rfl rfl rfl rfl rfl (fun l' w hm => zut hm hb (6) (by omega) (by omega)) ?_
  intro v25 p26 hR27
  obtain ⟨⟨xhR27, rfl⟩, rfl⟩ := hR27
  refine zev (l' := (bigE (ss.map sqPart) :: rowE 66 3 uq ss.length (ss.flatMap sqC) :: rowE 126 2 u gs.length (gs.flatMap anC) :: rowE 3 1 (.slice none 0 0) 0 ([]) :: boxE b5 #[.int .i64 (1 + xhR4), uq, u, .slice none 0 0] 86 :: boxE b1 #[.int .i64 0, .slice none 0 0, .slice none 0 0, .slice none 0 0] 86 :: curE g a len cap :: l)) rfl ?_
  refine zca (fun h28 => ?_) (fun h28 => ?_)
  ·
   refine ntQ (zak rfl ?_)
   refine zhq 7 [5, 4, 3, 2, 1, 0, 6] rfl rfl (by decide) ?_
   refine zif (l := (bigE (ss.map sqPart) :: rowE 66 3 uq ss.length (ss.flatMap sqC) :: rowE 126 2 u gs.length (gs.flatMap anC) :: rowE 3 1 (.slice none 0 0) 0 ([]) :: boxE b5 #[.int .i64 (1 + xhR4), uq, u, .slice none 0 0] 86 :: boxE b1 #[.int .i64 0, .slice none 0 0, .slice none 0 0, .slice none 0 0] 86 :: l)) rfl 19 [0, 1, 2, 3, 4, 5, 6, 7, 8, 9, 10, 11, 12, 13, 14, 15, 16, 17, 18] (List.take 19 _) (List.drop 19 _) [[], [0], [], [2], [], [], [3, 4, 5], [], [], [6, 7, 8], [], [], [9, 10, 11], [], [], [12, 13, 14], [6, 9, 12, 15], [3, 6, 9, 12, 15, 16], [3, 6, 9, 12, 15, 16, 17]] [75, 76, 77, 78, 79, 80, 81, 82, 83, 84, 85, 86, 87, 88, 89, 90, 91, 92, 93] (fun i_ vs_ v_ p_ => match i_ with | 0 => v_ = .pointer (some ⟨b5, 0 + 1, none⟩) ∧ p_ = [] | 1 => v_ = uq ∧ p_ = [] | 2 => v_ = .pointer (some ⟨g, 0, none⟩) ∧ p_ = [] | 3 => (∃ pm_, p_ = [pm_] ∧ (fun u_ p_ => (∃ x_ : Int, u_ = .int .i64 x_ ∧ 0 ≤ x_ ∧ x_ < 32) ∧ p_ = curE g a len cap) v_ pm_) | 4 => v_ = .pointer (some ⟨g, 0, none⟩) ∧ p_ = [] | 5 => v_ = .int .i64 (2 * (((1 + (1 + xhR4)) + xhR8) + xhR11)) ∧ p_ = [] | 6 => (∃ pm_, p_ = [pm_] ∧ (fun u_ p_ => (∃ x_ : Int, u_ = .int .i64 x_ ∧ 0 ≤ x_ ∧ x_ < 2 * (((1 + (1 + xhR4)) + xhR8) + xhR11)) ∧ p_ = curE g a len cap) v_ pm_) | 7 => v_ = .pointer (some ⟨g, 0, none⟩) ∧ p_ = [] | 8 => v_ = .int .i64 (2 * (((1 + (1 + xhR4)) + xhR8) + xhR11)) ∧ p_ = [] | 9 => (∃ pm_, p_ = [pm_] ∧ (fun u_ p_ => (∃ x_ : Int, u_ = .int .i64 x_ ∧ 0 ≤ x_ ∧ x_ < 2 * (((1 + (1 + xhR4)) + xhR8) + xhR11)) ∧ p_ = curE g a len cap) v_ pm_) | 10 => v_ = .pointer (some ⟨g, 0, none⟩) ∧ p_ = [] | 11 => v_ = .int .i64 (2 * (((1 + (1 + xhR4)) + xhR8) + xhR11)) ∧ p_ = [] | 12 => (∃ pm_, p_ = [pm_] ∧ (fun u_ p_ => (∃ x_ : Int, u_ = .int .i64 x_ ∧ 0 ≤ x_ ∧ x_ < 2 * (((1 + (1 + xhR4)) + xhR8) + xhR11)) ∧ p_ = curE g a len cap) v_ pm_) | 13 => v_ = .pointer (some ⟨g, 0, none⟩) ∧ p_ = [] | 14 => v_ = .int .i64 (2 * (((1 + (1 + xhR4)) + xhR8) + xhR11)) ∧ p_ = [] | 15 => (∃ pm_, p_ = [pm_] ∧ (fun u_ p_ => (∃ x_ : Int, u_ = .int .i64 x_ ∧ 0 ≤ x_ ∧ x_ < 2 * (((1 + (1 + xhR4)) + xhR8) + xhR11)) ∧ p_ = curE g a len cap) v_ pm_) | 16 => IsRow 3 1 4 ([(intOf_o (List.getD vs_ 0 undef)), (intOf_o (List.getD vs_ 1 undef)), (intOf_o (List.getD vs_ 2 undef)), (intOf_o (List.getD vs_ 3 undef))].map (Value.int .i64)) v_ p_ | 17 => v_ = .agg #[.int .i64 1, .int .i64 (intOf_o (List.getD vs_ 0 undef)), (List.getD vs_ 5 undef)] ∧ p_ = [] | 18 => IsRow 66 3 1 ([.int .i64 1, .int .i64 (intOf_o (List.getD vs_ 0 undef)), (List.getD vs_ 5 undef)]) v_ p_ | _ => True) [[], [0], [], [2], [], [], [4, 5], [], [], [7, 8], [], [], [10, 11], [], [], [13, 14], [15], [15, 16], [15, 16, 17]] [none, none, none, some 22, none, none, some 3, none, none, some 6, none, none, some 9, none, none, some 12, none, none, none] [curE g a len cap] [0, 1, 2, 4, 5, 7, 8, 10, 11, 13, 14, 15, 16, 17, 18] 22 (List.take_append_drop 19 _).symm (by kernel_rfl) (by kernel_rfl) (by kernel_rfl) rfl rfl ?_ ?_
   ·
    refine ⟨?_, ?_, ?_, ?_, ?_, ?_, ?_, ?_, ?_, ?_, ?_, ?_, ?_, ?_, ?_, ?_, ?_, ?_, ?_, trivial⟩
    ·
     intro vf pf hmu hR
     refine dqQ [] [] rfl (zcg (zam [9] rfl) ?_)
     exact zbg (fdQ 1 rfl rfl rfl)
    ·
     intro vf pf hmu hR
     have e0 := hR 0 (by decide)
     refine dqQ [0] [0] rfl (zbo (sk 75 (congrArg some e0.1) (zaf _)) (List.sublist_append_right _ _) ?_)
     exact zbg (zad rfl rfl rfl (zaa 4 rfl rfl))
    ·
     intro vf pf hmu hR
     refine dqQ [] [] rfl (zcg (zam [0] rfl) ?_)
     exact zbg (zas rfl)
    ·
     intro vf pf hmu hR
     have e2 := hR 2 (by decide)
     refine Or.inl ⟨rfl, ?_⟩
     show RunM _ _ _ (pf 22) (([2] : List Nat).flatMap pf ++ _) (envOf _ vf [2] ++ _) _ _
     rw [hmu]
     exact zee (sk 77 (congrArg some e2.1) (zaf _)) (by simp only [e2.2, fS] <;> rfl) (zff (R := (fun u_ p_ => (∃ x_ : Int, u_ = .int .i64 x_ ∧ 0 ≤ x_ ∧ x_ < 32) ∧ p_ = curE g a len cap)) rfl rfl (fun L w hX hm => zdh g a len cap z 32 _ _ _ hm hb (by constructor <;> omega)))
    ·
     intro vf pf hmu hR
     refine dqQ [] [] rfl (zcg (zam [0] rfl) ?_)
     exact zbg (zas rfl)
    ·
     intro vf pf hmu hR
     refine dqQ [] [] rfl (zcg (zam [16] rfl) ?_)
     exact zbg (zas rfl)
    ·
     intro vf pf hmu hR
     have e3 : (∃ pm_, (pf 3) = [pm_] ∧ (fun u_ p_ => (∃ x_ : Int, u_ = .int .i64 x_ ∧ 0 ≤ x_ ∧ x_ < 32) ∧ p_ = curE g a len cap) (vf 3) pm_) := hR 3 (by decide)
     obtain ⟨p30, pE3, hR31⟩ := e3
     obtain ⟨v29, vE3⟩ : ∃ x, vf 3 = x := ⟨_, rfl⟩
     rw [vE3] at hR31
     obtain ⟨⟨xhR31, rfl, xhR310, xhR311⟩, rfl⟩ := hR31
     have e4 := hR 4 (by decide)
     have e5 := hR 5 (by decide)
     refine Or.inl ⟨rfl, ?_⟩
     show RunM _ _ _ (pf 3) (([4, 5] : List Nat).flatMap pf ++ _) (envOf _ vf [3, 4, 5] ++ _) _ _
     rw [pE3]
     exact zee (sk 79 (congrArg some e4.1) (sk 80 (congrArg some e5.1) (zaf _))) (by simp only [e4.2, e5.2, fS] <;> rfl) (zff (R := (fun u_ p_ => (∃ x_ : Int, u_ = .int .i64 x_ ∧ 0 ≤ x_ ∧ x_ < 2 * (((1 + (1 + xhR4)) + xhR8) + xhR11)) ∧ p_ = curE g a len cap)) rfl rfl (fun L w hX hm => zdh g a len cap z (2 * (((1 + (1 + xhR4)) + xhR8) + xhR11)) _ _ _ hm hb (by constructor <;> omega)))
    ·
     intro vf pf hmu hR
     refine dqQ [] [] rfl (zcg (zam [0] rfl) ?_)
     exact zbg (zas rfl)
    ·
     intro vf pf hmu hR
     refine dqQ [] [] rfl (zcg (zam [16] rfl) ?_)
     exact zbg (zas rfl)
    ·
     intro vf pf hmu hR
     have e6 : (∃ pm_, (pf 6) = [pm_] ∧ (fun u_ p_ => (∃ x_ : Int, u_ = .int .i64 x_ ∧ 0 ≤ x_ ∧ x_ < 2 * (((1 + (1 + xhR4)) + xhR8) + xhR11)) ∧ p_ = curE g a len cap) (vf 6) pm_) := hR 6 (by decide)
     obtain ⟨p33, pE6, hR34⟩ := e6
     obtain ⟨v32, vE6⟩ : ∃ x, vf 6 = x := ⟨_, rfl⟩
     rw [vE6] at hR34
     obtain ⟨⟨xhR34, rfl, xhR340, xhR341⟩, rfl⟩ := hR34
     have e7 := hR 7 (by decide)
     have e8 := hR 8 (by decide)
     refine Or.inl ⟨rfl, ?_⟩
     show RunM _ _ _ (pf 6) (([7, 8] : List Nat).flatMap pf ++ _) (envOf _ vf [6, 7, 8] ++ _) _ _
     rw [pE6]
     exact zee (sk 82 (congrArg some e7.1) (sk 83 (congrArg some e8.1) (zaf _))) (by simp only [e7.2, e8.2, fS] <;> rfl) (zff (R := (fun u_ p_ => (∃ x_ : Int, u_ = .int .i64 x_ ∧ 0 ≤ x_ ∧ x_ < 2 * (((1 + (1 + xhR4)) + xhR8) + xhR11)) ∧ p_ = curE g a len cap)) rfl rfl (fun L w hX hm => zdh g a len cap z (2 * (((1 + (1 + xhR4)) + xhR8) + xhR11)) _ _ _ hm hb (by constructor <;> omega)))
    ·
     intro vf pf hmu hR
     refine dqQ [] [] rfl (zcg (zam [0] rfl) ?_)
     exact zbg (zas rfl)
    ·
     intro vf pf hmu hR
     refine dqQ [] [] rfl (zcg (zam [16] rfl) ?_)
     exact zbg (zas rfl)
    ·
     intro vf pf hmu hR
     have e9 : (∃ pm_, (pf 9) = [pm_] ∧ (fun u_ p_ => (∃ x_ : Int, u_ = .int .i64 x_ ∧ 0 ≤ x_ ∧ x_ < 2 * (((1 + (1 + xhR4)) + xhR8) + xhR11)) ∧ p_ = curE g a len cap) (vf 9) pm_) := hR 9 (by decide)
     obtain ⟨p36, pE9, hR37⟩ := e9
     obtain ⟨v35, vE9⟩ : ∃ x, vf 9 = x := ⟨_, rfl⟩
     rw [vE9] at hR37
     obtain ⟨⟨xhR37, rfl, xhR370, xhR371⟩, rfl⟩ := hR37
     have e10 := hR 10 (by decide)
     have e11 := hR 11 (by decide)
     refine Or.inl ⟨rfl, ?_⟩
     show RunM _ _ _ (pf 9) (([10, 11] : List Nat).flatMap pf ++ _) (envOf _ vf [9, 10, 11] ++ _) _ _
     rw [pE9]
     exact zee (sk 85 (congrArg some e10.1) (sk 86 (congrArg some e11.1) (zaf _))) (by simp only [e10.2, e11.2, fS] <;> rfl) (zff (R := (fun u_ p_ => (∃ x_ : Int, u_ = .int .i64 x_ ∧ 0 ≤ x_ ∧ x_ < 2 * (((1 + (1 + xhR4)) + xhR8) + xhR11)) ∧ p_ = curE g a len cap)) rfl rfl (fun L w hX hm => zdh g a len cap z (2 * (((1 + (1 + xhR4)) + xhR8) + xhR11)) _ _ _ hm hb (by constructor <;> omega)))
    ·
     intro vf pf hmu hR
     refine dqQ [] [] rfl (zcg (zam [0] rfl) ?_)
     exact zbg (zas rfl)
    ·
     intro vf pf hmu hR
     refine dqQ [] [] rfl (zcg (zam [16] rfl) ?_)
     exact zbg (zas rfl)
    ·
     intro vf pf hmu hR
     have e12 : (∃ pm_, (pf 12) = [pm_] ∧ (fun u_ p_ => (∃ x_ : Int, u_ = .int .i64 x_ ∧ 0 ≤ x_ ∧ x_ < 2 * (((1 + (1 + xhR4)) + xhR8) + xhR11)) ∧ p_ = curE g a len cap) (vf 12) pm_) := hR 12 (by decide)
     obtain ⟨p39, pE12, hR40⟩ := e12
     obtain ⟨v38, vE12⟩ : ∃ x, vf 12 = x := ⟨_, rfl⟩
     rw [vE12] at hR40
     obtain ⟨⟨xhR40, rfl, xhR400, xhR401⟩, rfl⟩ := hR40
     have e13 := hR 13 (by decide)
     have e14 := hR 14 (by decide)
     refine Or.inl ⟨rfl, ?_⟩
     show RunM _ _ _ (pf 12) (([13, 14] : List Nat).flatMap pf ++ _) (envOf _ vf [12, 13, 14] ++ _) _ _
     rw [pE12]
     exact zee (sk 88 (congrArg some e13.1) (sk 89 (congrArg some e14.1) (zaf _))) (by simp only [e13.2, e14.2, fS] <;> rfl) (zff (R := (fun u_ p_ => (∃ x_ : Int, u_ = .int .i64 x_ ∧ 0 ≤ x_ ∧ x_ < 2 * (((1 + (1 + xhR4)) + xhR8) + xhR11)) ∧ p_ = curE g a len cap)) rfl rfl (fun L w hX hm => zdh g a len cap z (2 * (((1 + (1 + xhR4)) + xhR8) + xhR11)) _ _ _ hm hb (by constructor <;> omega)))
    ·
     intro vf pf hmu hR
     have e6 : (∃ pm_, (pf 6) = [pm_] ∧ (fun u_ p_ => (∃ x_ : Int, u_ = .int .i64 x_ ∧ 0 ≤ x_ ∧ x_ < 2 * (((1 + (1 + xhR4)) + xhR8) + xhR11)) ∧ p_ = curE g a len cap) (vf 6) pm_) := hR 6 (by decide)
     obtain ⟨p33, pE6, hR34⟩ := e6
     obtain ⟨v32, vE6⟩ : ∃ x, vf 6 = x := ⟨_, rfl⟩
     rw [vE6] at hR34
     obtain ⟨⟨xhR34, rfl, xhR340, xhR341⟩, rfl⟩ := hR34
     have e9 : (∃ pm_, (pf 9) = [pm_] ∧ (fun u_ p_ => (∃ x_ : Int, u_ = .int .i64 x_ ∧ 0 ≤ x_ ∧ x_ < 2 * (((1 + (1 + xhR4)) + xhR8) + xhR11)) ∧ p_ = curE g a len cap) (vf 9) pm_) := hR 9 (by decide)
     obtain ⟨p36, pE9, hR37⟩ := e9
     obtain ⟨v35, vE9⟩ : ∃ x, vf 9 = x := ⟨_, rfl⟩
     rw [vE9] at hR37
     obtain ⟨⟨xhR37, rfl, xhR370, xhR371⟩, rfl⟩ := hR37
     have e12 : (∃ pm_, (pf 12) = [pm_] ∧ (fun u_ p_ => (∃ x_ : Int, u_ = .int .i64 x_ ∧ 0 ≤ x_ ∧ x_ < 2 * (((1 + (1 + xhR4)) + xhR8) + xhR11)) ∧ p_ = curE g a len cap) (vf 12) pm_) := hR 12 (by decide)
     obtain ⟨p39, pE12, hR40⟩ := e12
     obtain ⟨v38, vE12⟩ : ∃ x, vf 12 = x := ⟨_, rfl⟩
     rw [vE12] at hR40
     obtain ⟨⟨xhR40, rfl, xhR400, xhR401⟩, rfl⟩ := hR40
     have e15 : (∃ pm_, (pf 15) = [pm_] ∧ (fun u_ p_ => (∃ x_ : Int, u_ = .int .i64 x_ ∧ 0 ≤ x_ ∧ x_ < 2 * (((1 + (1 + xhR4)) + xhR8) + xhR11)) ∧ p_ = curE g a len cap) (vf 15) pm_) := hR 15 (by decide)
     obtain ⟨p42, pE15, hR43⟩ := e15
     obtain ⟨v41, vE15⟩ : ∃ x, vf 15 = x := ⟨_, rfl⟩
     rw [vE15] at hR43
     obtain ⟨⟨xhR43, rfl, xhR430, xhR431⟩, rfl⟩ := hR43
     refine dqQ [15] [6, 9, 12, 15] rfl (zci (sk 81 (congrArg some vE6) (sk 84 (congrArg some vE9) (sk 87 (congrArg some vE12) (sk 90 (congrArg some vE15) (zaf _))))) (by simp only [pE15, vE15, fS] <;> rfl) ?_)
     exact zcy (zat (z := .int .i64 0) (s := 1) (cs := ([xhR34, xhR37, xhR40, xhR43].map (Value.int .i64))) rfl Try.underlying28 rfl (by decide) rfl (by kernel_rfl) rfl) (fun v_ p_ h => by show IsRow 3 1 4 ([(intOf_o (vf 6)), (intOf_o (vf 9)), (intOf_o (vf 12)), (intOf_o (vf 15))].map (Value.int .i64)) v_ p_; rw [vE6, vE9, vE12, vE15]; exact h)
    ·
     intro vf pf hmu hR
     have e3 : (∃ pm_, (pf 3) = [pm_] ∧ (fun u_ p_ => (∃ x_ : Int, u_ = .int .i64 x_ ∧ 0 ≤ x_ ∧ x_ < 32) ∧ p_ = curE g a len cap) (vf 3) pm_) := hR 3 (by decide)
     obtain ⟨p30, pE3, hR31⟩ := e3
     obtain ⟨v29, vE3⟩ : ∃ x, vf 3 = x := ⟨_, rfl⟩
     rw [vE3] at hR31
     obtain ⟨⟨xhR31, rfl, xhR310, xhR311⟩, rfl⟩ := hR31
     have e6 : (∃ pm_, (pf 6) = [pm_] ∧ (fun u_ p_ => (∃ x_ : Int, u_ = .int .i64 x_ ∧ 0 ≤ x_ ∧ x_ < 2 * (((1 + (1 + xhR4)) + xhR8) + xhR11)) ∧ p_ = curE g a len cap) (vf 6) pm_) := hR 6 (by decide)
     obtain ⟨p33, pE6, hR34⟩ := e6
     obtain ⟨v32, vE6⟩ : ∃ x, vf 6 = x := ⟨_, rfl⟩
     rw [vE6] at hR34
     obtain ⟨⟨xhR34, rfl, xhR340, xhR341⟩, rfl⟩ := hR34
     have e9 : (∃ pm_, (pf 9) = [pm_] ∧ (fun u_ p_ => (∃ x_ : Int, u_ = .int .i64 x_ ∧ 0 ≤ x_ ∧ x_ < 2 * (((1 + (1 + xhR4)) + xhR8) + xhR11)) ∧ p_ = curE g a len cap) (vf 9) pm_) := hR 9 (by decide)
     obtain ⟨p36, pE9, hR37⟩ := e9
     obtain ⟨v35, vE9⟩ : ∃ x, vf 9 = x := ⟨_, rfl⟩
     rw [vE9] at hR37
     obtain ⟨⟨xhR37, rfl, xhR370, xhR371⟩, rfl⟩ := hR37
     have e12 : (∃ pm_, (pf 12) = [pm_] ∧ (fun u_ p_ => (∃ x_ : Int, u_ = .int .i64 x_ ∧ 0 ≤ x_ ∧ x_ < 2 * (((1 + (1 + xhR4)) + xhR8) + xhR11)) ∧ p_ = curE g a len cap) (vf 12) pm_) := hR 12 (by decide)
     obtain ⟨p39, pE12, hR40⟩ := e12
     obtain ⟨v38, vE12⟩ : ∃ x, vf 12 = x := ⟨_, rfl⟩
     rw [vE12] at hR40
     obtain ⟨⟨xhR40, rfl, xhR400, xhR401⟩, rfl⟩ := hR40
     have e15 : (∃ pm_, (pf 15) = [pm_] ∧ (fun u_ p_ => (∃ x_ : Int, u_ = .int .i64 x_ ∧ 0 ≤ x_ ∧ x_ < 2 * (((1 + (1 + xhR4)) + xhR8) + xhR11)) ∧ p_ = curE g a len cap) (vf 15) pm_) := hR 15 (by decide)
     obtain ⟨p42, pE15, hR43⟩ := e15
     obtain ⟨v41, vE15⟩ : ∃ x, vf 15 = x := ⟨_, rfl⟩
     rw [vE15] at hR43
     obtain ⟨⟨xhR43, rfl, xhR430, xhR431⟩, rfl⟩ := hR43
     have e16 : IsRow 3 1 4 ([(intOf_o (vf 6)), (intOf_o (vf 9)), (intOf_o (vf 12)), (intOf_o (vf 15))].map (Value.int .i64)) (vf 16) (pf 16) := hR 16 (by decide)
     rw [vE6, vE9, vE12, vE15] at e16
     obtain ⟨g44, vE16, pE16⟩ := e16
     refine dqQ [15, 16] [3, 6, 9, 12, 15, 16] rfl (zci (sk 78 (congrArg some vE3) (sk 91 (congrArg some vE16) (zaf _))) (by simp only [pE15, vE15, pE16, vE16, fS] <;> rfl) ?_)
     exact zcy (zbg (zcw (cs := #[.int .i64 1, .int .i64 xhR31, .slice (some ⟨g44, 0, none⟩) 4 4]) rfl rfl rfl)) (fun _ _ h => ⟨h.1.trans (by show _ = (.agg #[.int .i64 1, .int .i64 (intOf_o (vf 3)), (vf 16)] : Value); first | (rw [vE3, vE16]; done) | (rw [vE3, vE16]; rfl)), h.2⟩)
    intro vf pf hmu hR
    have e3 : (∃ pm_, (pf 3) = [pm_] ∧ (fun u_ p_ => (∃ x_ : Int, u_ = .int .i64 x_ ∧ 0 ≤ x_ ∧ x_ < 32) ∧ p_ = curE g a len cap) (vf 3) pm_) := hR 3 (by decide)
    obtain ⟨p30, pE3, hR31⟩ := e3
    obtain ⟨v29, vE3⟩ : ∃ x, vf 3 = x := ⟨_, rfl⟩
    rw [vE3] at hR31
    obtain ⟨⟨xhR31, rfl, xhR310, xhR311⟩, rfl⟩ := hR31
    have e6 : (∃ pm_, (pf 6) = [pm_] ∧ (fun u_ p_ => (∃ x_ : Int, u_ = .int .i64 x_ ∧ 0 ≤ x_ ∧ x_ < 2 * (((1 + (1 + xhR4)) + xhR8) + xhR11)) ∧ p_ = curE g a len cap) (vf 6) pm_) := hR 6 (by decide)
    obtain ⟨p33, pE6, hR34⟩ := e6
    obtain ⟨v32, vE6⟩ : ∃ x, vf 6 = x := ⟨_, rfl⟩
    rw [vE6] at hR34
    obtain ⟨⟨xhR34, rfl, xhR340, xhR341⟩, rfl⟩ := hR34
    have e9 : (∃ pm_, (pf 9) = [pm_] ∧ (fun u_ p_ => (∃ x_ : Int, u_ = .int .i64 x_ ∧ 0 ≤ x_ ∧ x_ < 2 * (((1 + (1 + xhR4)) + xhR8) + xhR11)) ∧ p_ = curE g a len cap) (vf 9) pm_) := hR 9 (by decide)
    obtain ⟨p36, pE9, hR37⟩ := e9
    obtain ⟨v35, vE9⟩ : ∃ x, vf 9 = x := ⟨_, rfl⟩
    rw [vE9] at hR37
    obtain ⟨⟨xhR37, rfl, xhR370, xhR371⟩, rfl⟩ := hR37
    have e12 : (∃ pm_, (pf 12) = [pm_] ∧ (fun u_ p_ => (∃ x_ : Int, u_ = .int .i64 x_ ∧ 0 ≤ x_ ∧ x_ < 2 * (((1 + (1 + xhR4)) + xhR8) + xhR11)) ∧ p_ = curE g a len cap) (vf 12) pm_) := hR 12 (by decide)
    obtain ⟨p39, pE12, hR40⟩ := e12
    obtain ⟨v38, vE12⟩ : ∃ x, vf 12 = x := ⟨_, rfl⟩
    rw [vE12] at hR40
    obtain ⟨⟨xhR40, rfl, xhR400, xhR401⟩, rfl⟩ := hR40
    have e15 : (∃ pm_, (pf 15) = [pm_] ∧ (fun u_ p_ => (∃ x_ : Int, u_ = .int .i64 x_ ∧ 0 ≤ x_ ∧ x_ < 2 * (((1 + (1 + xhR4)) + xhR8) + xhR11)) ∧ p_ = curE g a len cap) (vf 15) pm_) := hR 15 (by decide)
    obtain ⟨p42, pE15, hR43⟩ := e15
    obtain ⟨v41, vE15⟩ : ∃ x, vf 15 = x := ⟨_, rfl⟩
    rw [vE15] at hR43
    obtain ⟨⟨xhR43, rfl, xhR430, xhR431⟩, rfl⟩ := hR43
    have e16 : IsRow 3 1 4 ([(intOf_o (vf 6)), (intOf_o (vf 9)), (intOf_o (vf 12)), (intOf_o (vf 15))].map (Value.int .i64)) (vf 16) (pf 16) := hR 16 (by decide)
    rw [vE6, vE9, vE12, vE15] at e16
    obtain ⟨g44, vE16, pE16⟩ := e16
    have e17 : (vf 17) = .agg #[.int .i64 1, .int .i64 (intOf_o (vf 3)), (vf 16)] ∧ (pf 17) = [] := hR 17 (by decide)
    rw [vE3, vE16] at e17
    refine dqQ [15, 16, 17] [3, 6, 9, 12, 15, 16, 17] rfl (zci (sk 92 (congrArg some e17.1) (zaf _)) (by simp only [pE15, vE15, pE16, vE16, e17.2, fS] <;> rfl) ?_)
    exact zcy (zat (z := .agg #[.int .i64 0, .int .i64 0, .slice none 0 0]) (s := 3) (cs := [.int .i64 1, .int .i64 xhR31, .slice (some ⟨g44, 0, none⟩) 4 4]) rfl Try.underlying26 rfl (by decide) rfl (by kernel_rfl) rfl) (fun v_ p_ h => by show IsRow 66 3 1 ([.int .i64 1, .int .i64 (intOf_o (vf 3)), (vf 16)]) v_ p_; rw [vE3, vE16]; exact h)
   intro vf pf hmu hR
   have e1 := hR 1 (by decide)
   have e3 : (∃ pm_, (pf 3) = [pm_] ∧ (fun u_ p_ => (∃ x_ : Int, u_ = .int .i64 x_ ∧ 0 ≤ x_ ∧ x_ < 32) ∧ p_ = curE g a len cap) (vf 3) pm_) := hR 3 (by decide)
   obtain ⟨p30, pE3, hR31⟩ := e3
   obtain ⟨v29, vE3⟩ : ∃ x, vf 3 = x := ⟨_, rfl⟩
   rw [vE3] at hR31
   obtain ⟨⟨xhR31, rfl, xhR310, xhR311⟩, rfl⟩ := hR31
   have e6 : (∃ pm_, (pf 6) = [pm_] ∧ (fun u_ p_ => (∃ x_ : Int, u_ = .int .i64 x_ ∧ 0 ≤ x_ ∧ x_ < 2 * (((1 + (1 + xhR4)) + xhR8) + xhR11)) ∧ p_ = curE g a len cap) (vf 6) pm_) := hR 6 (by decide)
   obtain ⟨p33, pE6, hR34⟩ := e6
   obtain ⟨v32, vE6⟩ : ∃ x, vf 6 = x := ⟨_, rfl⟩
   rw [vE6] at hR34
   obtain ⟨⟨xhR34, rfl, xhR340, xhR341⟩, rfl⟩ := hR34
   have e9 : (∃ pm_, (pf 9) = [pm_] ∧ (fun u_ p_ => (∃ x_ : Int, u_ = .int .i64 x_ ∧ 0 ≤ x_ ∧ x_ < 2 * (((1 + (1 + xhR4)) + xhR8) + xhR11)) ∧ p_ = curE g a len cap) (vf 9) pm_) := hR 9 (by decide)
   obtain ⟨p36, pE9, hR37⟩ := e9
   obtain ⟨v35, vE9⟩ : ∃ x, vf 9 = x := ⟨_, rfl⟩
   rw [vE9] at hR37
   obtain ⟨⟨xhR37, rfl, xhR370, xhR371⟩, rfl⟩ := hR37
   have e12 : (∃ pm_, (pf 12) = [pm_] ∧ (fun u_ p_ => (∃ x_ : Int, u_ = .int .i64 x_ ∧ 0 ≤ x_ ∧ x_ < 2 * (((1 + (1 + xhR4)) + xhR8) + xhR11)) ∧ p_ = curE g a len cap) (vf 12) pm_) := hR 12 (by decide)
   obtain ⟨p39, pE12, hR40⟩ := e12
   obtain ⟨v38, vE12⟩ : ∃ x, vf 12 = x := ⟨_, rfl⟩
   rw [vE12] at hR40
   obtain ⟨⟨xhR40, rfl, xhR400, xhR401⟩, rfl⟩ := hR40
   have e15 : (∃ pm_, (pf 15) = [pm_] ∧ (fun u_ p_ => (∃ x_ : Int, u_ = .int .i64 x_ ∧ 0 ≤ x_ ∧ x_ < 2 * (((1 + (1 + xhR4)) + xhR8) + xhR11)) ∧ p_ = curE g a len cap) (vf 15) pm_) := hR 15 (by decide)
   obtain ⟨p42, pE15, hR43⟩ := e15
   obtain ⟨v41, vE15⟩ : ∃ x, vf 15 = x := ⟨_, rfl⟩
   rw [vE15] at hR43
   obtain ⟨⟨xhR43, rfl, xhR430, xhR431⟩, rfl⟩ := hR43
   have e16 : IsRow 3 1 4 ([(intOf_o (vf 6)), (intOf_o (vf 9)), (intOf_o (vf 12)), (intOf_o (vf 15))].map (Value.int .i64)) (vf 16) (pf 16) := hR 16 (by decide)
   rw [vE6, vE9, vE12, vE15] at e16
   obtain ⟨g44, vE16, pE16⟩ := e16
   have e18 : IsRow 66 3 1 ([.int .i64 1, .int .i64 (intOf_o (vf 3)), (vf 16)]) (vf 18) (pf 18) := hR 18 (by decide)
   rw [vE3, vE16] at e18
   obtain ⟨g45, vE18, pE18⟩ := e18
   have q0 := hR 0 (by decide)
   have q1 := hR 1 (by decide)
   have q2 := hR 2 (by decide)
   have q4 := hR 4 (by decide)
   have q5 := hR 5 (by decide)
   have q7 := hR 7 (by decide)
   have q8 := hR 8 (by decide)
   have q10 := hR 10 (by decide)
   have q11 := hR 11 (by decide)
   have q13 := hR 13 (by decide)
   have q14 := hR 14 (by decide)
   have q17 := hR 17 (by decide)
   refine zco (zbk [74, 70, 39, 17, 16, 12, 11, 10, 9, 8, 3, 2, 1, 0] _ (sk 76 (congrArg some e1.1) (sk 93 (congrArg some vE18) (zaf _))) rfl) (by simp only [pE15, vE15, pE16, vE16, pE18, vE18, q0.2, q1.2, q2.2, q4.2, q5.2, q7.2, q8.2, q10.2, q11.2, q13.2, q14.2, q17.2, fS] <;> rfl) ?_
   simp only [List.drop_succ_cons, List.drop_zero]
   refine zcd (i := 4) (z := .agg #[.int .i64 0, .int .i64 0, .slice none 0 0]) (bytes := 40) rfl rfl rfl rfl Try.underlying26 (by kernel_rfl) rfl rfl rfl rfl (zae 2 rfl) (by simp [Value.oneCell']) (by first | omega | (simp only [List.length_append, List.length_cons, List.length_nil]; omega)) (zbv ss [(Sq.mk 1 xhR31 (.slice (some ⟨g44, 0, none⟩) 4 4) ([xhR34, xhR37, xhR40, xhR43]))]) (zcx sqC ss (Sq.mk 1 xhR31 (.slice (some ⟨g44, 0, none⟩) 4 4) ([xhR34, xhR37, xhR40, xhR43])) _ rfl) (fun _ => rfl) ?_
   intro v46
   refine hvQ rfl (fdQ 1 rfl rfl rfl) (zdn (i := 4) rfl (fun ho47 => ?_))
   refine zez (i := 7) (cs' := #[.int .i64 (1 + xhR4), v46, u, .slice none 0 0]) rfl rfl rfl rfl rfl rfl ho47 rfl rfl rfl rfl (zbu (zcv (reQ 1 rfl (hvQ rfl (vaQ rfl rfl rfl) (enQ 1 rfl ?_)))))
   refine zbw 9 [8, 7, 6, 5, 4, 2, 0, 1, 3] rfl rfl (by decide) ?_
   refine zgp (bigE ((ss ++ [(Sq.mk 1 xhR31 (.slice (some ⟨g44, 0, none⟩) 4 4) ([xhR34, xhR37, xhR40, xhR43]))]).map sqPart) :: curE g a len cap :: rowE 66 3 (.slice (some ⟨g45, 0, none⟩) 1 1) 1 ([.int .i64 1, .int .i64 xhR31, .slice (some ⟨g44, 0, none⟩) 4 4]) :: rowE 66 3 v46 ((ss ++ [(Sq.mk 1 xhR31 (.slice (some ⟨g44, 0, none⟩) 4 4) ([xhR34, xhR37, xhR40, xhR43]))]).length) ((ss ++ [(Sq.mk 1 xhR31 (.slice (some ⟨g44, 0, none⟩) 4 4) ([xhR34, xhR37, xhR40, xhR43]))]).flatMap sqC) :: rowE 126 2 u gs.length (gs.flatMap anC) :: rowE 3 1 (.slice none 0 0) 0 ([]) :: boxE b5 #[.int .i64 (1 + xhR4), v46, u, .slice none 0 0] 86 :: boxE b1 #[.int .i64 0, .slice none 0 0, .slice none 0 0, .slice none 0 0] 86 :: l) (fun w hm => by rw [List.map_append]; exact zlb w hm) ?_
   refine zbw 8 [1, 7, 6, 5, 4, 3, 0] rfl rfl (by decide) ?_
   exact zbi (i + 1) v46 (ss ++ [(Sq.mk 1 xhR31 (.slice (some ⟨g44, 0, none⟩) 4 4) ([xhR34, xhR37, xhR40, xhR43]))]) ⟨by omega, by simp; omega, zsj hso ⟨.inr ⟨rfl, by dsimp only; omega, rfl⟩⟩ (fun x hx => by simp only [List.mem_cons, List.not_mem_nil, or_false] at hx; unfold LtOk; omega)⟩ (by omega) (saQ rfl) (.refl _)
  refine ntQ (zal rfl ?_)
  refine zhq 7 [5, 4, 3, 2, 1, 0, 6] rfl rfl (by decide) ?_
  refine zif (l := (bigE (ss.map sqPart) :: rowE 66 3 uq ss.length (ss.flatMap sqC) :: rowE 126 2 u gs.length (gs.flatMap anC) :: rowE 3 1 (.slice none 0 0) 0 ([]) :: boxE b5 #[.int .i64 (1 + xhR4), uq, u, .slice none 0 0] 86 :: boxE b1 #[.int .i64 0, .slice none 0 0, .slice none 0 0, .slice none 0 0] 86 :: l)) rfl 14 [0, 1, 2, 3, 4, 5, 6, 7, 8, 9, 10, 11, 12, 13] (List.take 14 _) (List.drop 14 _) [[], [0], [], [2], [], [4], [], [], [7], [3, 6, 8], [5, 9], [9, 10], [3, 9, 11], [3, 9, 11, 12]] [96, 97, 98, 99, 100, 101, 102, 103, 104, 105, 106, 107, 108, 109] (fun i_ vs_ v_ p_ => match i_ with | 0 => v_ = .pointer (some ⟨b5, 0 + 1, none⟩) ∧ p_ = [] | 1 => v_ = uq ∧ p_ = [] | 2 => v_ = .pointer (some ⟨g, 0, none⟩) ∧ p_ = [] | 3 => (∃ pm_, p_ = [pm_] ∧ (fun u_ p_ => (∃ x_ : Int, u_ = .int .i64 x_ ∧ 0 ≤ x_ ∧ x_ < 2) ∧ p_ = curE g a len cap) v_ pm_) | 4 => v_ = .int .i64 (2 * (((1 + (1 + xhR4)) + xhR8) + xhR11)) ∧ p_ = [] | 5 => v_ = .int .i64 ((2 * (((1 + (1 + xhR4)) + xhR8) + xhR11)) - 1) ∧ p_ = [] | 6 => v_ = .pointer (some ⟨g, 0, none⟩) ∧ p_ = [] | 7 => v_ = .int .i64 (2 * (((1 + (1 + xhR4)) + xhR8) + xhR11)) ∧ p_ = [] | 8 => v_ = .int .i64 (min (2 * (((1 + (1 + xhR4)) + xhR8) + xhR11)) 12) ∧ p_ = [] | 9 => (∃ pm_, p_ = [pm_] ∧ (fun u_ p_ => (∃ x_ : Int, u_ = .int .i64 x_ ∧ 0 ≤ x_ ∧ x_ < min (2 * (((1 + (1 + xhR4)) + xhR8) + xhR11)) 12) ∧ p_ = curE g a len cap) v_ pm_) | 10 => v_ = .int .i64 (((2 * (((1 + (1 + xhR4)) + xhR8) + xhR11)) - 1) - (intOf_o (List.getD vs_ 1 undef))) ∧ p_ = [] | 11 => IsRow 3 1 1 ([((2 * (((1 + (1 + xhR4)) + xhR8) + xhR11)) - 1) - (intOf_o (List.getD vs_ 0 undef))].map (Value.int .i64)) v_ p_ | 12 => v_ = .agg #[.int .i64 0, .int .i64 (intOf_o (List.getD vs_ 0 undef)), (List.getD vs_ 2 undef)] ∧ p_ = [] | 13 => IsRow 66 3 1 ([.int .i64 0, .int .i64 (intOf_o (List.getD vs_ 0 undef)), (List.getD vs_ 2 undef)]) v_ p_ | _ => True) [[], [0], [], [2], [], [4], [], [], [7], [6, 8], [5, 9], [9, 10], [9, 11], [9, 11, 12]] [none, none, none, some 17, none, none, none, none, none, some 3, none, none, none, none] [curE g a len cap] [0, 1, 2, 4, 5, 6, 7, 8, 9, 10, 11, 12, 13] 17 (List.take_append_drop 14 _).symm (by kernel_rfl) (by kernel_rfl) (by kernel_rfl) rfl rfl ?_ ?_
  ·
   refine ⟨?_, ?_, ?_, ?_, ?_, ?_, ?_, ?_, ?_, ?_, ?_, ?_, ?_, ?_, trivial⟩
   ·
    intro vf pf hmu hR
    refine dqQ [] [] rfl (zcg (zam [9] rfl) ?_)
    exact zbg (fdQ 1 rfl rfl rfl)
   ·
    intro vf pf hmu hR
    have e0 := hR 0 (by decide)
    refine dqQ [0] [0] rfl (zbo (sk 96 (congrArg some e0.1) (zaf _)) (List.sublist_append_right _ _) ?_)
    exact zbg (zad rfl rfl rfl (zaa 4 rfl rfl))
   ·
    intro vf pf hmu hR
    refine dqQ [] [] rfl (zcg (zam [0] rfl) ?_)
    exact zbg (zas rfl)
   ·
    intro vf pf hmu hR
    have e2 := hR 2 (by decide)
    refine Or.inl ⟨rfl, ?_⟩
    show RunM _ _ _ (pf 17) (([2] : List Nat).flatMap pf ++ _) (envOf _ vf [2] ++ _) _ _
    rw [hmu]
    exact zee (sk 98 (congrArg some e2.1) (zaf _)) (by simp only [e2.2, fS] <;> rfl) (zff (R := (fun u_ p_ => (∃ x_ : Int, u_ = .int .i64 x_ ∧ 0 ≤ x_ ∧ x_ < 2) ∧ p_ = curE g a len cap)) rfl rfl (fun L w hX hm => zdh g a len cap z 2 _ _ _ hm hb (by constructor <;> omega)))
   ·
    intro vf pf hmu hR
    refine dqQ [] [] rfl (zcg (zam [16] rfl) ?_)
    exact zbg (zas rfl)
   ·
    intro vf pf hmu hR
    have e4 := hR 4 (by decide)
    refine dqQ [4] [4] rfl (zcg (sk 100 (congrArg some e4.1) (zaf _)) ?_)
    exact zbg (vsQ rfl rfl rfl)
   ·
    intro vf pf hmu hR
    refine dqQ [] [] rfl (zcg (zam [0] rfl) ?_)
    exact zbg (zas rfl)
   ·
    intro vf pf hmu hR
    refine dqQ [] [] rfl (zcg (zam [16] rfl) ?_)
    exact zbg (zas rfl)
   ·
    intro vf pf hmu hR
    have e7 := hR 7 (by decide)
    refine dqQ [7] [7] rfl (zcg (sk 103 (congrArg some e7.1) (zaf _)) ?_)
    exact zbg (zpv rfl rfl rfl)
   ·
    intro vf pf hmu hR
    have e3 : (∃ pm_, (pf 3) = [pm_] ∧ (fun u_ p_ => (∃ x_ : Int, u_ = .int .i64 x_ ∧ 0 ≤ x_ ∧ x_ < 2) ∧ p_ = curE g a len cap) (vf 3) pm_) := hR 3 (by decide)
    obtain ⟨p49, pE3, hR50⟩ := e3
    obtain ⟨v48, vE3⟩ : ∃ x, vf 3 = x := ⟨_, rfl⟩
    rw [vE3] at hR50
    obtain ⟨⟨xhR50, rfl, xhR500, xhR501⟩, rfl⟩ := hR50
    have e6 := hR 6 (by decide)
    have e8 := hR 8 (by decide)
    refine Or.inl ⟨rfl, ?_⟩
    show RunM _ _ _ (pf 3) (([6, 8] : List Nat).flatMap pf ++ _) (envOf _ vf [3, 6, 8] ++ _) _ _
    rw [pE3]
    exact zee (sk 102 (congrArg some e6.1) (sk 104 (congrArg some e8.1) (zaf _))) (by simp only [e6.2, e8.2, fS] <;> rfl) (zff (R := (fun u_ p_ => (∃ x_ : Int, u_ = .int .i64 x_ ∧ 0 ≤ x_ ∧ x_ < min (2 * (((1 + (1 + xhR4)) + xhR8) + xhR11)) 12) ∧ p_ = curE g a len cap)) rfl rfl (fun L w hX hm => zdh g a len cap z (min (2 * (((1 + (1 + xhR4)) + xhR8) + xhR11)) 12) _ _ _ hm hb (by constructor <;> omega)))
   ·
    intro vf pf hmu hR
    have e5 := hR 5 (by decide)
    have e9 : (∃ pm_, (pf 9) = [pm_] ∧ (fun u_ p_ => (∃ x_ : Int, u_ = .int .i64 x_ ∧ 0 ≤ x_ ∧ x_ < min (2 * (((1 + (1 + xhR4)) + xhR8) + xhR11)) 12) ∧ p_ = curE g a len cap) (vf 9) pm_) := hR 9 (by decide)
    obtain ⟨p52, pE9, hR53⟩ := e9
    obtain ⟨v51, vE9⟩ : ∃ x, vf 9 = x := ⟨_, rfl⟩
    rw [vE9] at hR53
    obtain ⟨⟨xhR53, rfl, xhR530, xhR531⟩, rfl⟩ := hR53
    refine dqQ [5, 9] [5, 9] rfl (zci (sk 101 (congrArg some e5.1) (sk 105 (congrArg some vE9) (zaf _))) (by simp only [pE9, vE9, e5.2, fS] <;> rfl) ?_)
    exact zcy (zbg (vsQ rfl rfl rfl)) (fun _ _ h => ⟨h.1.trans (by show _ = (.int .i64 (((2 * (((1 + (1 + xhR4)) + xhR8) + xhR11)) - 1) - (intOf_o (vf 9))) : Value); first | (rw [vE9]; done) | (rw [vE9]; rfl)), h.2⟩)
   ·
    intro vf pf hmu hR
    have e9 : (∃ pm_, (pf 9) = [pm_] ∧ (fun u_ p_ => (∃ x_ : Int, u_ = .int .i64 x_ ∧ 0 ≤ x_ ∧ x_ < min (2 * (((1 + (1 + xhR4)) + xhR8) + xhR11)) 12) ∧ p_ = curE g a len cap) (vf 9) pm_) := hR 9 (by decide)
    obtain ⟨p52, pE9, hR53⟩ := e9
    obtain ⟨v51, vE9⟩ : ∃ x, vf 9 = x := ⟨_, rfl⟩
    rw [vE9] at hR53
    obtain ⟨⟨xhR53, rfl, xhR530, xhR531⟩, rfl⟩ := hR53
    have e10 : (vf 10) = .int .i64 (((2 * (((1 + (1 + xhR4)) + xhR8) + xhR11)) - 1) - (intOf_o (vf 9))) ∧ (pf 10) = [] := hR 10 (by decide)
    rw [vE9] at e10
    refine dqQ [9, 10] [9, 10] rfl (zci (sk 106 (congrArg some e10.1) (zaf _)) (by simp only [pE9, vE9, e10.2, fS] <;> rfl) ?_)
    exact zcy (zat (z := .int .i64 0) (s := 1) (cs := ([((2 * (((1 + (1 + xhR4)) + xhR8) + xhR11)) - 1) - xhR53].map (Value.int .i64))) rfl Try.underlying28 rfl (by decide) rfl (by kernel_rfl) rfl) (fun v_ p_ h => by show IsRow 3 1 1 ([((2 * (((1 + (1 + xhR4)) + xhR8) + xhR11)) - 1) - (intOf_o (vf 9))].map (Value.int .i64)) v_ p_; rw [vE9]; exact h)
   ·
    intro vf pf hmu hR
    have e3 : (∃ pm_, (pf 3) = [pm_] ∧ (fun u_ p_ => (∃ x_ : Int, u_ = .int .i64 x_ ∧ 0 ≤ x_ ∧ x_ < 2) ∧ p_ = curE g a len cap) (vf 3) pm_) := hR 3 (by decide)
    obtain ⟨p49, pE3, hR50⟩ := e3
    obtain ⟨v48, vE3⟩ : ∃ x, vf 3 = x := ⟨_, rfl⟩
    rw [vE3] at hR50
    obtain ⟨⟨xhR50, rfl, xhR500, xhR501⟩, rfl⟩ := hR50
    have e9 : (∃ pm_, (pf 9) = [pm_] ∧ (fun u_ p_ => (∃ x_ : Int, u_ = .int .i64 x_ ∧ 0 ≤ x_ ∧ x_ < min (2 * (((1 + (1 + xhR4)) + xhR8) + xhR11)) 12) ∧ p_ = curE g a len cap) (vf 9) pm_) := hR 9 (by decide)
    obtain ⟨p52, pE9, hR53⟩ := e9
    obtain ⟨v51, vE9⟩ : ∃ x, vf 9 = x := ⟨_, rfl⟩
    rw [vE9] at hR53
    obtain ⟨⟨xhR53, rfl, xhR530, xhR531⟩, rfl⟩ := hR53
    have e11 : IsRow 3 1 1 ([((2 * (((1 + (1 + xhR4)) + xhR8) + xhR11)) - 1) - (intOf_o (vf 9))].map (Value.int .i64)) (vf 11) (pf 11) := hR 11 (by decide)
    rw [vE9] at e11
    obtain ⟨g54, vE11, pE11⟩ := e11
    refine dqQ [9, 11] [3, 9, 11] rfl (zci (sk 99 (congrArg some vE3) (sk 107 (congrArg some vE11) (zaf _))) (by simp only [pE9, vE9, pE11, vE11, fS] <;> rfl) ?_)
    exact zcy (zbg (zcw (cs := #[.int .i64 0, .int .i64 xhR50, .slice (some ⟨g54, 0, none⟩) 1 1]) rfl rfl rfl)) (fun _ _ h => ⟨h.1.trans (by show _ = (.agg #[.int .i64 0, .int .i64 (intOf_o (vf 3)), (vf 11)] : Value); first | (rw [vE3, vE11]; done) | (rw [vE3, vE11]; rfl)), h.2⟩)
   intro vf pf hmu hR
   have e3 : (∃ pm_, (pf 3) = [pm_] ∧ (fun u_ p_ => (∃ x_ : Int, u_ = .int .i64 x_ ∧ 0 ≤ x_ ∧ x_ < 2) ∧ p_ = curE g a len cap) (vf 3) pm_) := hR 3 (by decide)
   obtain ⟨p49, pE3, hR50⟩ := e3
   obtain ⟨v48, vE3⟩ : ∃ x, vf 3 = x := ⟨_, rfl⟩
   rw [vE3] at hR50
   obtain ⟨⟨xhR50, rfl, xhR500, xhR501⟩, rfl⟩ := hR50
   have e9 : (∃ pm_, (pf 9) = [pm_] ∧ (fun u_ p_ => (∃ x_ : Int, u_ = .int .i64 x_ ∧ 0 ≤ x_ ∧ x_ < min (2 * (((1 + (1 + xhR4)) + xhR8) + xhR11)) 12) ∧ p_ = curE g a len cap) (vf 9) pm_) := hR 9 (by decide)
   obtain ⟨p52, pE9, hR53⟩ := e9
   obtain ⟨v51, vE9⟩ : ∃ x, vf 9 = x := ⟨_, rfl⟩
   rw [vE9] at hR53
   obtain ⟨⟨xhR53, rfl, xhR530, xhR531⟩, rfl⟩ := hR53
   have e11 : IsRow 3 1 1 ([((2 * (((1 + (1 + xhR4)) + xhR8) + xhR11)) - 1) - (intOf_o (vf 9))].map (Value.int .i64)) (vf 11) (pf 11) := hR 11 (by decide)
   rw [vE9] at e11
   obtain ⟨g54, vE11, pE11⟩ := e11
   have e12 : (vf 12) = .agg #[.int .i64 0, .int .i64 (intOf_o (vf 3)), (vf 11)] ∧ (pf 12) = [] := hR 12 (by decide)
   rw [vE3, vE11] at e12
   refine dqQ [9, 11, 12] [3, 9, 11, 12] rfl (zci (sk 108 (congrArg some e12.1) (zaf _)) (by simp only [pE9, vE9, pE11, vE11, e12.2, fS] <;> rfl) ?_)
   exact zcy (zat (z := .agg #[.int .i64 0, .int .i64 0, .slice none 0 0]) (s := 3) (cs := [.int .i64 0, .int .i64 xhR50, .slice (some ⟨g54, 0, none⟩) 1 1]) rfl Try.underlying26 rfl (by decide) rfl (by kernel_rfl) rfl) (fun v_ p_ h => by show IsRow 66 3 1 ([.int .i64 0, .int .i64 (intOf_o (vf 3)), (vf 11)]) v_ p_; rw [vE3, vE11]; exact h)
  intro vf pf hmu hR
  have e1 := hR 1 (by decide)
  have e3 : (∃ pm_, (pf 3) = [pm_] ∧ (fun u_ p_ => (∃ x_ : Int, u_ = .int .i64 x_ ∧ 0 ≤ x_ ∧ x_ < 2) ∧ p_ = curE g a len cap) (vf 3) pm_) := hR 3 (by decide)
  obtain ⟨p49, pE3, hR50⟩ := e3
  obtain ⟨v48, vE3⟩ : ∃ x, vf 3 = x := ⟨_, rfl⟩
  rw [vE3] at hR50
  obtain ⟨⟨xhR50, rfl, xhR500, xhR501⟩, rfl⟩ := hR50
  have e9 : (∃ pm_, (pf 9) = [pm_] ∧ (fun u_ p_ => (∃ x_ : Int, u_ = .int .i64 x_ ∧ 0 ≤ x_ ∧ x_ < min (2 * (((1 + (1 + xhR4)) + xhR8) + xhR11)) 12) ∧ p_ = curE g a len cap) (vf 9) pm_) := hR 9 (by decide)
  obtain ⟨p52, pE9, hR53⟩ := e9
  obtain ⟨v51, vE9⟩ : ∃ x, vf 9 = x := ⟨_, rfl⟩
  rw [vE9] at hR53
  obtain ⟨⟨xhR53, rfl, xhR530, xhR531⟩, rfl⟩ := hR53
  have e11 : IsRow 3 1 1 ([((2 * (((1 + (1 + xhR4)) + xhR8) + xhR11)) - 1) - (intOf_o (vf 9))].map (Value.int .i64)) (vf 11) (pf 11) := hR 11 (by decide)
  rw [vE9] at e11
  obtain ⟨g54, vE11, pE11⟩ := e11
  have e13 : IsRow 66 3 1 ([.int .i64 0, .int .i64 (intOf_o (vf 3)), (vf 11)]) (vf 13) (pf 13) := hR 13 (by decide)
  rw [vE3, vE11] at e13
  obtain ⟨g55, vE13, pE13⟩ := e13
  have q0 := hR 0 (by decide)
  have q1 := hR 1 (by decide)
  have q2 := hR 2 (by decide)
  have q4 := hR 4 (by decide)
  have q5 := hR 5 (by decide)
  have q6 := hR 6 (by decide)
  have q7 := hR 7 (by decide)
  have q8 := hR 8 (by decide)
  have q10 := hR 10 (by decide)
  have q12 := hR 12 (by decide)
  refine zco (zbk [74, 70, 39, 17, 16, 12, 11, 10, 9, 8, 3, 2, 1, 0] _ (sk 97 (congrArg some e1.1) (sk 109 (congrArg some vE13) (zaf _))) rfl) (by simp only [pE9, vE9, pE11, vE11, pE13, vE13, q0.2, q1.2, q2.2, q4.2, q5.2, q6.2, q7.2, q8.2, q10.2, q12.2, fS] <;> rfl) ?_
  simp only [List.drop_succ_cons, List.drop_zero]
  refine zcd (i := 4) (z := .agg #[.int .i64 0, .int .i64 0, .slice none 0 0]) (bytes := 40) rfl rfl rfl rfl Try.underlying26 (by kernel_rfl) rfl rfl rfl rfl (zae 2 rfl) (by simp [Value.oneCell']) (by first | omega | (simp only [List.length_append, List.length_cons, List.length_nil]; omega)) (zbv ss [(Sq.mk 0 xhR50 (.slice (some ⟨g54, 0, none⟩) 1 1) ([((2 * (((1 + (1 + xhR4)) + xhR8) + xhR11)) - 1) - xhR53]))]) (zcx sqC ss (Sq.mk 0 xhR50 (.slice (some ⟨g54, 0, none⟩) 1 1) ([((2 * (((1 + (1 + xhR4)) + xhR8) + xhR11)) - 1) - xhR53])) _ rfl) (fun _ => rfl) ?_
  intro v56
  refine hvQ rfl (fdQ 1 rfl rfl rfl) (zdn (i := 4) rfl (fun ho57 => ?_))
  refine zez (i := 7) (cs' := #[.int .i64 (1 + xhR4), v56, u, .slice none 0 0]) rfl rfl rfl rfl rfl rfl ho57 rfl rfl rfl rfl (zbu (zcv (reQ 1 rfl (hvQ rfl (vaQ rfl rfl rfl) (enQ 1 rfl ?_)))))
  refine zbw 9 [8, 7, 6, 5, 4, 2, 0, 1, 3] rfl rfl (by decide) ?_
  refine zgp (bigE ((ss ++ [(Sq.mk 0 xhR50 (.slice (some ⟨g54, 0, none⟩) 1 1) ([((2 * (((1 + (1 + xhR4)) + xhR8) + xhR11)) - 1) - xhR53]))]).map sqPart) :: curE g a len cap :: rowE 66 3 (.slice (some ⟨g55, 0, none⟩) 1 1) 1 ([.int .i64 0, .int .i64 xhR50, .slice (some ⟨g54, 0, none⟩) 1 1]) :: rowE 66 3 v56 ((ss ++ [(Sq.mk 0 xhR50 (.slice (some ⟨g54, 0, none⟩) 1 1) ([((2 * (((1 + (1 + xhR4)) + xhR8) + xhR11)) - 1) - xhR53]))]).length) ((ss ++ [(Sq.mk 0 xhR50 (.slice (some ⟨g54, 0, none⟩) 1 1) ([((2 * (((1 + (1 + xhR4)) + xhR8) + xhR11)) - 1) - xhR53]))]).flatMap sqC) :: rowE 126 2 u gs.length (gs.flatMap anC) :: rowE 3 1 (.slice none 0 0) 0 ([]) :: boxE b5 #[.int .i64 (1 + xhR4), v56, u, .slice none 0 0] 86 :: boxE b1 #[.int .i64 0, .slice none 0 0, .slice none 0 0, .slice none 0 0] 86 :: l) (fun w hm => by rw [List.map_append]; exact zlb w hm) ?_
  refine zbw 8 [1, 7, 6, 5, 4, 3, 0] rfl rfl (by decide) ?_
  exact zbi (i + 1) v56 (ss ++ [(Sq.mk 0 xhR50 (.slice (some ⟨g54, 0, none⟩) 1 1) ([((2 * (((1 + (1 + xhR4)) + xhR8) + xhR11)) - 1) - xhR53]))]) ⟨by omega, by simp; omega, zsj hso ⟨.inl ⟨rfl, by dsimp only; omega, rfl⟩⟩ (fun x hx => by simp only [List.mem_cons, List.not_mem_nil, or_false] at hx; unfold LtOk; omega)⟩ (by omega) (saQ rfl) (.refl _)
 refine ntQ (zal rfl ?_)
 refine zba (zdq ?_)
 refine zag (zaw (zac (zac (reQ 1 rfl ?_))))
 refine zdt (R := (fun u_ p_ => (∃ x_ : Int, u_ = .int .i64 x_ ∧ 0 ≤ x_ ∧ x_ < 4) ∧ p_ = curE g a len cap)) 6 rfl rfl rfl rfl rfl (fun l' w hm => zdh g a len cap z 4 _ _ _ hm hb (by constructor <;> omega)) ?_
 intro v58 p59 hR60
 obtain ⟨⟨xhR60, rfl, xhR600, xhR601⟩, rfl⟩ := hR60
 refine zev (l' := (bigE (ss.map sqPart) :: rowE 66 3 uq ss.length (ss.flatMap sqC) :: rowE 126 2 u gs.length (gs.flatMap anC) :: rowE 3 1 (.slice none 0 0) 0 ([]) :: boxE b5 #[.int .i64 (1 + xhR4), uq, u, .slice none 0 0] 86 :: boxE b1 #[.int .i64 0, .slice none 0 0, .slice none 0 0, .slice none 0 0] 86 :: curE g a len cap :: l)) rfl ?_
 refine zaz 1 rfl (zax ?_)
 refine zgn (α := Int) (β := Value) (γ := List Int) [0, 1, 2, 3, 8, 9, 10, 11, 12, 16, 39, 70] rfl (fun k uo os => (bigE (ss.map sqPart) :: rowE 66 3 uq ss.length (ss.flatMap sqC) :: rowE 126 2 u gs.length (gs.flatMap anC) :: rowE 3 1 uo os.length (os.map (Value.int .i64)) :: boxE b5 #[.int .i64 (1 + xhR4), uq, u, uo] 86 :: boxE b1 #[.int .i64 0, .slice none 0 0, .slice none 0 0, .slice none 0 0] 86 :: curE g a len cap :: l)) (fun k uo os => [(18, .int .i64 k)]) (fun k uo os => (-1 ≤ k ∧ k ≤ 3) ∧ (os.length : Int) + k ≤ 3 ∧ OsOk (((1 + (1 + xhR4)) + xhR8) + xhR11) os) (fun k uo os => (k + 1).toNat) _ _ [] ⟨by omega, by simp; omega, fun x hx => absurd hx (by simp)⟩ (saQ rfl) (.refl _) ?_
 intro k uo os hi61
 obtain ⟨hk0, hol, hoo⟩ := hi61
 refine zac (zac (reQ 1 rfl ?_))
 refine zdi rfl rfl rfl rfl rfl rfl (fun h62 => ?_) (fun h62 => ?_)
 ·
  refine ntQ (zak rfl (zcq (sbQ ?_)))
  refine zhq 7 [5, 4, 3, 2, 1, 0, 6] rfl rfl (by decide) ?_
  refine zif (l := (bigE (ss.map sqPart) :: rowE 66 3 uq ss.length (ss.flatMap sqC) :: rowE 126 2 u gs.length (gs.flatMap anC) :: rowE 3 1 uo os.length (os.map (Value.int .i64)) :: boxE b5 #[.int .i64 (1 + xhR4), uq, u, uo] 86 :: boxE b1 #[.int .i64 0, .slice none 0 0, .slice none 0 0, .slice none 0 0] 86 :: l)) rfl 10 [0, 1, 2, 3, 4, 5, 6, 7, 8, 9] (List.take 10 _) (List.drop 10 _) [[], [0], [], [2], [], [], [5], [4, 6], [3, 7], [7, 8]] [118, 119, 120, 121, 122, 123, 124, 125, 126, 127] (fun i_ vs_ v_ p_ => match i_ with | 0 => v_ = .pointer (some ⟨b5, 0 + 3, none⟩) ∧ p_ = [] | 1 => v_ = uo ∧ p_ = [] | 2 => v_ = .int .i64 (2 * (((1 + (1 + xhR4)) + xhR8) + xhR11)) ∧ p_ = [] | 3 => v_ = .int .i64 ((2 * (((1 + (1 + xhR4)) + xhR8) + xhR11)) - 1) ∧ p_ = [] | 4 => v_ = .pointer (some ⟨g, 0, none⟩) ∧ p_ = [] | 5 => v_ = .int .i64 (2 * (((1 + (1 + xhR4)) + xhR8) + xhR11)) ∧ p_ = [] | 6 => v_ = .int .i64 (min (2 * (((1 + (1 + xhR4)) + xhR8) + xhR11)) 12) ∧ p_ = [] | 7 => (∃ pm_, p_ = [pm_] ∧ (fun u_ p_ => (∃ x_ : Int, u_ = .int .i64 x_ ∧ 0 ≤ x_ ∧ x_ < min (2 * (((1 + (1 + xhR4)) + xhR8) + xhR11)) 12) ∧ p_ = curE g a len cap) v_ pm_) | 8 => v_ = .int .i64 (((2 * (((1 + (1 + xhR4)) + xhR8) + xhR11)) - 1) - (intOf_o (List.getD vs_ 1 undef))) ∧ p_ = [] | 9 => IsRow 3 1 1 ([((2 * (((1 + (1 + xhR4)) + xhR8) + xhR11)) - 1) - (intOf_o (List.getD vs_ 0 undef))].map (Value.int .i64)) v_ p_ | _ => True) [[], [0], [], [2], [], [], [5], [4, 6], [3, 7], [7, 8]] [none, none, none, none, none, none, none, some 13, none, none] [curE g a len cap] [0, 1, 2, 3, 4, 5, 6, 7, 8, 9] 13 (List.take_append_drop 10 _).symm (by kernel_rfl) (by kernel_rfl) (by kernel_rfl) rfl rfl ?_ ?_
  ·
   refine ⟨?_, ?_, ?_, ?_, ?_, ?_, ?_, ?_, ?_, ?_, trivial⟩
   ·
    intro vf pf hmu hR
    refine dqQ [] [] rfl (zcg (zam [9] rfl) ?_)
    exact zbg (fdQ 3 rfl rfl rfl)
   ·
    intro vf pf hmu hR
    have e0 := hR 0 (by decide)
    refine dqQ [0] [0] rfl (zbo (sk 118 (congrArg some e0.1) (zaf _)) (List.sublist_append_right _ _) ?_)
    exact zbg (zad rfl rfl rfl (zaa 4 rfl rfl))
   ·
    intro vf pf hmu hR
    refine dqQ [] [] rfl (zcg (zam [16] rfl) ?_)
    exact zbg (zas rfl)
   ·
    intro vf pf hmu hR
    have e2 := hR 2 (by decide)
    refine dqQ [2] [2] rfl (zcg (sk 120 (congrArg some e2.1) (zaf _)) ?_)
    exact zbg (vsQ rfl rfl rfl)
   ·
    intro vf pf hmu hR
    refine dqQ [] [] rfl (zcg (zam [0] rfl) ?_)
    exact zbg (zas rfl)
   ·
    intro vf pf hmu hR
    refine dqQ [] [] rfl (zcg (zam [16] rfl) ?_)
    exact zbg (zas rfl)
   ·
    intro vf pf hmu hR
    have e5 := hR 5 (by decide)
    refine dqQ [5] [5] rfl (zcg (sk 123 (congrArg some e5.1) (zaf _)) ?_)
    exact zbg (zpv rfl rfl rfl)
   ·
    intro vf pf hmu hR
    have e4 := hR 4 (by decide)
    have e6 := hR 6 (by decide)
    refine Or.inl ⟨rfl, ?_⟩
    show RunM _ _ _ (pf 13) (([4, 6] : List Nat).flatMap pf ++ _) (envOf _ vf [4, 6] ++ _) _ _
    rw [hmu]
    exact zee (sk 122 (congrArg some e4.1) (sk 124 (congrArg some e6.1) (zaf _))) (by simp only [e4.2, e6.2, fS] <;> rfl) (zff (R := (fun u_ p_ => (∃ x_ : Int, u_ = .int .i64 x_ ∧ 0 ≤ x_ ∧ x_ < min (2 * (((1 + (1 + xhR4)) + xhR8) + xhR11)) 12) ∧ p_ = curE g a len cap)) rfl rfl (fun L w hX hm => zdh g a len cap z (min (2 * (((1 + (1 + xhR4)) + xhR8) + xhR11)) 12) _ _ _ hm hb (by constructor <;> omega)))
   ·
    intro vf pf hmu hR
    have e3 := hR 3 (by decide)
    have e7 : (∃ pm_, (pf 7) = [pm_] ∧ (fun u_ p_ => (∃ x_ : Int, u_ = .int .i64 x_ ∧ 0 ≤ x_ ∧ x_ < min (2 * (((1 + (1 + xhR4)) + xhR8) + xhR11)) 12) ∧ p_ = curE g a len cap) (vf 7) pm_) := hR 7 (by decide)
    obtain ⟨p64, pE7, hR65⟩ := e7
    obtain ⟨v63, vE7⟩ : ∃ x, vf 7 = x := ⟨_, rfl⟩
    rw [vE7] at hR65
    obtain ⟨⟨xhR65, rfl, xhR650, xhR651⟩, rfl⟩ := hR65
    refine dqQ [3, 7] [3, 7] rfl (zci (sk 121 (congrArg some e3.1) (sk 125 (congrArg some vE7) (zaf _))) (by simp only [pE7, vE7, e3.2, fS] <;> rfl) ?_)
    exact zcy (zbg (vsQ rfl rfl rfl)) (fun _ _ h => ⟨h.1.trans (by show _ = (.int .i64 (((2 * (((1 + (1 + xhR4)) + xhR8) + xhR11)) - 1) - (intOf_o (vf 7))) : Value); first | (rw [vE7]; done) | (rw [vE7]; rfl)), h.2⟩)
   intro vf pf hmu hR
   have e7 : (∃ pm_, (pf 7) = [pm_] ∧ (fun u_ p_ => (∃ x_ : Int, u_ = .int .i64 x_ ∧ 0 ≤ x_ ∧ x_ < min (2 * (((1 + (1 + xhR4)) + xhR8) + xhR11)) 12) ∧ p_ = curE g a len cap) (vf 7) pm_) := hR 7 (by decide)
   obtain ⟨p64, pE7, hR65⟩ := e7
   obtain ⟨v63, vE7⟩ : ∃ x, vf 7 = x := ⟨_, rfl⟩
   rw [vE7] at hR65
   obtain ⟨⟨xhR65, rfl, xhR650, xhR651⟩, rfl⟩ := hR65
   have e8 : (vf 8) = .int .i64 (((2 * (((1 + (1 + xhR4)) + xhR8) + xhR11)) - 1) - (intOf_o (vf 7))) ∧ (pf 8) = [] := hR 8 (by decide)
   rw [vE7] at e8
   refine dqQ [7, 8] [7, 8] rfl (zci (sk 126 (congrArg some e8.1) (zaf _)) (by simp only [pE7, vE7, e8.2, fS] <;> rfl) ?_)
   exact zcy (zat (z := .int .i64 0) (s := 1) (cs := ([((2 * (((1 + (1 + xhR4)) + xhR8) + xhR11)) - 1) - xhR65].map (Value.int .i64))) rfl Try.underlying28 rfl (by decide) rfl (by kernel_rfl) rfl) (fun v_ p_ h => by show IsRow 3 1 1 ([((2 * (((1 + (1 + xhR4)) + xhR8) + xhR11)) - 1) - (intOf_o (vf 7))].map (Value.int .i64)) v_ p_; rw [vE7]; exact h)
  intro vf pf hmu hR
  have e1 := hR 1 (by decide)
  have e7 : (∃ pm_, (pf 7) = [pm_] ∧ (fun u_ p_ => (∃ x_ : Int, u_ = .int .i64 x_ ∧ 0 ≤ x_ ∧ x_ < min (2 * (((1 + (1 + xhR4)) + xhR8) + xhR11)) 12) ∧ p_ = curE g a len cap) (vf 7) pm_) := hR 7 (by decide)
  obtain ⟨p64, pE7, hR65⟩ := e7
  obtain ⟨v63, vE7⟩ : ∃ x, vf 7 = x := ⟨_, rfl⟩
  rw [vE7] at hR65
  obtain ⟨⟨xhR65, rfl, xhR650, xhR651⟩, rfl⟩ := hR65
  have e9 : IsRow 3 1 1 ([((2 * (((1 + (1 + xhR4)) + xhR8) + xhR11)) - 1) - (intOf_o (vf 7))].map (Value.int .i64)) (vf 9) (pf 9) := hR 9 (by decide)
  rw [vE7] at e9
  obtain ⟨g66, vE9, pE9⟩ := e9
  have q0 := hR 0 (by decide)
  have q1 := hR 1 (by decide)
  have q2 := hR 2 (by decide)
  have q3 := hR 3 (by decide)
  have q4 := hR 4 (by decide)
  have q5 := hR 5 (by decide)
  have q6 := hR 6 (by decide)
  have q8 := hR 8 (by decide)
  refine zco (zbk [115, 70, 39, 18, 16, 12, 11, 10, 9, 8, 3, 2, 1, 0] _ (sk 119 (congrArg some e1.1) (sk 127 (congrArg some vE9) (zaf _))) rfl) (by simp only [pE7, vE7, pE9, vE9, q0.2, q1.2, q2.2, q3.2, q4.2, q5.2, q6.2, q8.2, fS] <;> rfl) ?_
  simp only [List.drop_succ_cons, List.drop_zero]
  refine zcd (i := 5) (z := .int .i64 0) (bytes := 8) rfl rfl rfl rfl Try.underlying28 (by kernel_rfl) rfl rfl rfl rfl (zae 1 rfl) (zbm _) (by first | omega | (simp; done) | (simp; omega)) (zbv os ([((2 * (((1 + (1 + xhR4)) + xhR8) + xhR11)) - 1) - xhR65])) (zcm os ([((2 * (((1 + (1 + xhR4)) + xhR8) + xhR11)) - 1) - xhR65])) (fun _ => rfl) ?_
  intro v67
  refine hvQ rfl (fdQ 3 rfl rfl rfl) (zdn (i := 5) rfl (fun ho68 => ?_))
  refine zez (i := 6) (cs' := #[.int .i64 (1 + xhR4), uq, u, v67]) rfl rfl rfl rfl rfl rfl ho68 rfl rfl rfl rfl (zbu (zcv (reQ 1 rfl (hvQ rfl (vsQ rfl rfl rfl) (enQ 1 rfl ?_)))))
  refine zbw 8 [0, 7, 6, 5, 4, 3, 2] rfl rfl (by decide) ?_
  exact zbi (k - 1) v67 (os ++ ([((2 * (((1 + (1 + xhR4)) + xhR8) + xhR11)) - 1) - xhR65])) ⟨by omega, by simp; omega, os_app hoo (by unfold LtOk; omega)⟩ (by omega) (saQ rfl) (.refl _)
 refine ntQ (zal rfl ?_)
 refine zba (zdq ?_)
 refine zag (zaw (srQ (hvQ rfl (zao (cs := [.int .i64 (1 + xhR4), uq, u, uo]) rfl rfl rfl rfl rfl (zaj 4 rfl 0 rfl)) ?_)))
 refine zdn (i := 3) rfl (fun ho69 => ?_)
 refine zdn (i := 2) rfl (fun ho70 => ?_)
 refine zdn (i := 1) rfl (fun ho71 => ?_)
 refine zcc (cs' := #[.int .i64 (1 + xhR4), uq, u, uo]) (i := 5) (off := 0) (us := [.int .i64 (1 + xhR4), uq, u, uo]) rfl rfl rfl rfl rfl rfl rfl (zah rfl (zah ho71 (zah ho70 (zah ho69 zbr)))) rfl rfl rfl (ntQ ?_)
 refine zau (zpa (i := 1) rfl (fun oQ => ?_))
 refine zpa (i := 2) rfl (fun oA => ?_)
 refine zpa (i := 3) rfl (fun oO => ?_)
 refine zbw 7 [5, 6, 3, 2, 1, 0] rfl rfl (by decide) ?_
 refine zgp (bigE [curE g a len cap, ntE (Nt.mk (1 + xhR4) uq u uo ss gs os)] :: boxE b1 #[.int .i64 (1 + xhR4), uq, u, uo] 86 :: l) (fun w hm => by
     have h1 : Mem _ ([bigE (ss.map sqPart), rowE 66 3 uq ss.length (ss.flatMap sqC)] ++ (rowE 126 2 u gs.length (gs.flatMap anC) :: rowE 3 1 uo os.length (os.map (Value.int .i64)) :: curE g a len cap :: boxE b1 #[.int .i64 (1 + xhR4), uq, u, uo] 86 :: l)) w := hm
     have h2 : Mem _ ([sqsE uq ss, rowE 126 2 u gs.length (gs.flatMap anC), rowE 3 1 uo os.length (os.map (Value.int .i64))] ++ (curE g a len cap :: boxE b1 #[.int .i64 (1 + xhR4), uq, u, uo] 86 :: l)) w := h1.big
     have h3 : Mem _ (ntE (Nt.mk (1 + xhR4) uq u uo ss gs os) :: curE g a len cap :: boxE b1 #[.int .i64 (1 + xhR4), uq, u, uo] 86 :: l) w := Mem.big h2
     exact Mem.big (ps := [curE g a len cap, ntE (Nt.mk (1 + xhR4) uq u uo ss gs os)]) (h3.perm (.swap _ _ _))) ?_
 exact zgz (rs := [.cell 8 86]) (vs := [.agg #[.int .i64 (1 + xhR4), uq, u, uo]]) rfl ⟨⟨b1, 0, [.int .i64 (1 + xhR4), uq, u, uo], rfl, rfl, by kernel_rfl, by kernel_rfl, zaj 1 rfl 0 rfl⟩, trivial⟩ rfl (fun w hm => ⟨_, bigE [curE g a len cap, ntE (Nt.mk (1 + xhR4) uq u uo ss gs os)], rfl, ⟨Nt.mk (1 + xhR4) uq u uo ss gs os, rfl, rfl, ⟨oQ, oA, oO⟩, nt_mk (by omega) (by omega) (by omega) (by omega) (by omega) hso hgo hoo (by omega) (by omega), by dsimp only; omega, by dsimp only; omega, by dsimp only; omega⟩, hm.sub (.cons_cons _ (.cons _ (.refl _)))⟩)
open Go.RowKit
theorem and01 {a b : Int} (ha : a = 0 ∨ a = 1) (hb : b = 0 ∨ b = 1) : bits .and .i64 a b = a * b := by
  rcases ha with e | e <;> rcases hb with e' | e' <;> rw [e, e'] <;> decide
theorem xor01 {a l : Int} (ha : a = 0 ∨ a = 1) : bits .xor .i64 a (l % 2) = if l % 2 = 0 then a else 1 - a := by
  rcases (show l % 2 = 0 ∨ l % 2 = 1 by omega) with e | e <;> rcases ha with e' | e' <;> rw [e, e'] <;> decide
theorem mul_01 {a b : Int} (ha : a = 0 ∨ a = 1) (hb : b = 0 ∨ b = 1) : a * b = 0 ∨ a * b = 1 := by
  rcases ha with e | e <;> rcases hb with e' | e' <;> rw [e, e'] <;> decide
theorem zhg (x lo hi : Int) (w : World)  :
   Calls Try.prog 86 #[.int .i64 x, .int .i64 lo, .int .i64 hi] w (Ans w (.bool (inR x lo hi))) := by
 refine zbf (N := 15) (args := [.int .i64 x, .int .i64 lo, .int .i64 hi]) Try.func86 rfl rfl (zbd 1 rfl (zac (reQ 2 rfl ?_)))
 refine zdi rfl rfl rfl rfl rfl rfl (fun h1 => ?_) (fun h1 => ?_)
 ·
  refine zap 3 rfl (zhn rfl rfl rfl rfl rfl rfl (fun h2 => ?_) (fun h2 => ?_))
  ·
   refine zaz 2 rfl ?_
   exact zau (zbb rfl rfl (congrArg _ (((zdc _ _ _).2 (by omega)).symm)))
  refine zaz 2 rfl ?_
  exact zau (zbb rfl rfl (congrArg _ ((Bool.eq_false_iff.2 (fun h => by have := (zdc _ _ _).1 h; omega)).symm)))
 refine zaz 6 rfl ?_
 exact zau (zbb rfl rfl (congrArg _ ((Bool.eq_false_iff.2 (fun h => by have := (zdc _ _ _).1 h; omega)).symm)))
theorem zcb (n : Nt) (w : World) (hr : RdsNt w n) (hn : NtOk n) :
   Calls Try.prog 97 #[.agg #[.int .i64 n.ins, n.sv, n.av, n.ov]] w (Ans w (.int .i64 n.cnt)) := by
 have hi0 := hn.i0
 have hi1 := hn.i1
 have hs1 := hn.s1
 have ha1 := hn.a1
 have ho1 := hn.o1
 have hcnt : n.cnt = 1 + n.ins + n.ss.length + n.gs.length := rfl
 have hfst : n.fst = 1 + n.ins + n.ss.length := rfl
 refine zbf (N := 36) (args := [.agg #[.int .i64 n.ins, n.sv, n.av, n.ov]]) Try.func97 rfl rfl (srQ ?_)
 refine zdj rfl (zch rfl rfl) ?_
 intro b1
 refine zaz 1 rfl (zeh (hvQ rfl (fdQ 0 rfl rfl rfl) (hvQ rfl (zad rfl rfl rfl (zaa 0 rfl rfl)) ?_)))
 refine zds rfl (zaq rfl rfl (fun w hm => zav (zhg n.ins 0 20 w))) (zca (fun h2 => ?_) (fun h2 => absurd ((((zdc _ _ _).2 (by omega))).symm.trans h2) (by decide)))
 refine zap 2 rfl (hvQ rfl (fdQ 1 rfl rfl rfl) (hvQ rfl (zad rfl rfl rfl (zaa 0 rfl rfl)) (hvQ rfl (lnQ rfl rfl rfl (zab hr.sq)) ?_)))
 refine zet rfl rfl rfl rfl rfl rfl (fun h3 => absurd h3 (by omega)) (fun h3 => ?_)
 refine zap 2 rfl (hvQ rfl (fdQ 2 rfl rfl rfl) (hvQ rfl (zad rfl rfl rfl (zaa 0 rfl rfl)) (hvQ rfl (lnQ rfl rfl rfl (zab hr.an)) ?_)))
 refine zet rfl rfl rfl rfl rfl rfl (fun h4 => absurd h4 (by omega)) (fun h4 => ?_)
 refine zap 2 rfl (hvQ rfl (fdQ 3 rfl rfl rfl) (hvQ rfl (zad rfl rfl rfl (zaa 0 rfl rfl)) (hvQ rfl (lnQ rfl rfl rfl (zab hr.ou)) ?_)))
 refine zet rfl rfl rfl rfl rfl rfl (fun h5 => absurd h5 (by omega)) (fun h5 => ?_)
 refine zaz 1 rfl (zal rfl (zcq (srQ (hvQ rfl (fdQ 0 rfl rfl rfl) (hvQ rfl (zad rfl rfl rfl (zaa 0 rfl rfl)) (hvQ rfl (vaQ rfl rfl rfl) (hvQ rfl (fdQ 1 rfl rfl rfl) (hvQ rfl (zad rfl rfl rfl (zaa 0 rfl rfl)) ?_))))))))
 refine hvQ rfl (lnQ rfl rfl rfl (zab hr.sq)) (hvQ rfl (vaQ rfl rfl rfl) (hvQ rfl (fdQ 2 rfl rfl rfl) (hvQ rfl (zad rfl rfl rfl (zaa 0 rfl rfl)) (hvQ rfl (lnQ rfl rfl rfl (zab hr.an)) (hvQ rfl (vaQ rfl rfl rfl) (zaz 1 rfl ?_))))))
 exact zau (zbb rfl rfl rfl)
theorem zcl (n : Nt) (w : World) (hr : RdsNt w n) (hn : NtOk n) :
   Calls Try.prog 98 #[.agg #[.int .i64 n.ins, n.sv, n.av, n.ov]] w (Ans w (.int .i64 n.fst)) := by
 have hi0 := hn.i0
 have hi1 := hn.i1
 have hs1 := hn.s1
 have ha1 := hn.a1
 have ho1 := hn.o1
 have hcnt : n.cnt = 1 + n.ins + n.ss.length + n.gs.length := rfl
 have hfst : n.fst = 1 + n.ins + n.ss.length := rfl
 refine zbf (N := 10) (args := [.agg #[.int .i64 n.ins, n.sv, n.av, n.ov]]) Try.func98 rfl rfl (srQ ?_)
 refine zdj rfl (zch rfl rfl) ?_
 intro b1
 refine zaz 1 rfl (srQ (hvQ rfl (fdQ 0 rfl rfl rfl) (hvQ rfl (zad rfl rfl rfl (zaa 0 rfl rfl)) (hvQ rfl (vaQ rfl rfl rfl) (hvQ rfl (fdQ 1 rfl rfl rfl) (hvQ rfl (zad rfl rfl rfl (zaa 0 rfl rfl)) (hvQ rfl (lnQ rfl rfl rfl (zab hr.sq)) (hvQ rfl (vaQ rfl rfl rfl) (zap 1 rfl ?_)))))))))
 refine ntQ ?_
 exact zau (zbb rfl rfl rfl)
theorem zgh (x m : Int) (w : World) (hx : LtOk x m) (hm : m ≤ 100000) :
   Calls Try.prog 117 #[.int .i64 x, .int .i64 m] w (Ans w (.bool true)) := by
 unfold LtOk at hx
 refine zbf (N := 13) (args := [.int .i64 x, .int .i64 m]) Try.func117 rfl rfl (zbd 1 rfl (zac (reQ 1 rfl ?_)))
 refine zdi rfl rfl rfl rfl rfl rfl (fun h1 => ?_) (fun h1 => absurd h1 (by omega))
 refine zap 2 rfl (hvQ rfl (zeu rfl rfl rfl (by refine ⟨?_, ?_, ?_⟩ <;> omega)) ?_)
 refine zap 1 rfl (zbj rfl rfl rfl rfl rfl rfl (fun h2 => ?_) (fun h2 => absurd h2 (by omega)))
 refine zaz 2 rfl ?_
 exact zau (zbb rfl rfl rfl)
theorem zgx (n : Nt) (w : World) (hr : RdsNt w n) (hn : NtOk n) :
   Calls Try.prog 99 #[.agg #[.int .i64 n.ins, n.sv, n.av, n.ov]] w (Ret w (fun v' post => post = [rowE 3 1 v' (rtsL n n.ss.length).length ((rtsL n n.ss.length).map (Value.int .i64))])) := by
 have hi0 := hn.i0
 have hi1 := hn.i1
 have hs1 := hn.s1
 have ha1 := hn.a1
 have ho1 := hn.o1
 have hcnt : n.cnt = 1 + n.ins + n.ss.length + n.gs.length := rfl
 have hfst : n.fst = 1 + n.ins + n.ss.length := rfl
 refine zbf (N := 25) (args := [.agg #[.int .i64 n.ins, n.sv, n.av, n.ov]]) Try.func99 rfl rfl (srQ ?_)
 refine zdj rfl (zch rfl rfl) ?_
 intro b1
 refine zaz 1 rfl (srQ ?_)
 refine zdk rfl (zbz (s := 1) rfl Try.underlying28 rfl) ?_
 intro g2
 refine hvQ rfl (fdQ 3 rfl rfl rfl) (hvQ rfl (zad rfl rfl rfl (zaa 1 rfl rfl)) ?_)
 refine zcd (i := 0) (z := .int .i64 0) (bytes := 8) (n' := n.os.length) (xs' := (n.os.map (Value.int .i64))) rfl rfl rfl rfl Try.underlying28 (by kernel_rfl) rfl rfl rfl rfl (zab hr.ou) (zbm _) (by first | omega | (simp; done) | (simp; omega)) (Nat.zero_add _) (List.nil_append _) (fun _ => rfl) ?_
 intro v3
 refine zaz 1 rfl (zac (zbd 1 rfl (zax ?_)))
 refine zgn (α := Nat) (β := Value) (γ := List Int) [0, 1, 2] rfl (fun k u zs => [rowE 3 1 u zs.length (zs.map (Value.int .i64)), boxE b1 #[.int .i64 n.ins, n.sv, n.av, n.ov] 86]) (fun k u zs => [(3, u), (4, .int .i64 (k : Int))]) (fun k u zs => k ≤ n.ss.length ∧ zs = rtsL n k) (fun k u zs => n.ss.length - k) 0 _ n.os ⟨by omega, by simp [rtsL]⟩ (saQ rfl) (pfQ rfl) ?_
 intro k u zs hi4
 obtain ⟨hk, hz⟩ := hi4
 have hzl : zs.length ≤ 16 + 4 * k := by rw [hz]; exact zio hn k hk
 refine zac (zac (reQ 1 rfl (hvQ rfl (fdQ 1 rfl rfl rfl) (hvQ rfl (zad rfl rfl rfl (zaa 1 rfl rfl)) (hvQ rfl (lnQ rfl rfl rfl (zab hr.sq)) ?_)))))
 refine zbj rfl rfl rfl rfl rfl rfl (fun h5 => ?_) (fun h5 => ?_)
 ·
  refine ntQ (zak rfl (zcq (sbQ (reQ 1 rfl (hvQ rfl (fdQ 1 rfl rfl rfl) ?_)))))
  have hx4 := (hn.sq _ (zbl (d := sq0) (show k < n.ss.length by omega))).len
  refine hvQ rfl (zad rfl rfl rfl (zaa 1 rfl rfl)) (zap 1 rfl (hvQ rfl (riQ 3 rfl rfl rfl rfl (zab hr.sq)) (hvQ rfl (zbe (k0 := 2) rfl rfl rfl (zab hr.sq) (by omega)) ?_)))
  refine hvQ rfl (zar (u := (n.ss.getD k sq0).iv) rfl rfl rfl (zab hr.sq) ((zce sqC 3 (fun _ => rfl) n.ss sq0 (show k < _ by omega) (by decide)).trans rfl)) (zcd (i := 0) (z := .int .i64 0) (bytes := 8) rfl rfl rfl rfl Try.underlying28 (by kernel_rfl) rfl rfl rfl rfl (fun w hm => (hr.at (k := k) (by omega)).below hm.bel) (zbm _) (by first | omega | (simp; done) | (simp; omega)) (zbv zs ((n.ss.getD k sq0).xs)) (zcm zs ((n.ss.getD k sq0).xs)) (fun _ => rfl) ?_)
  intro v6
  refine enQ 1 rfl (zcv (reQ 1 rfl (hvQ rfl (vaQ rfl rfl rfl) (enQ 1 rfl ?_))))
  exact zbi (k + 1) v6 (zs ++ ((n.ss.getD k sq0).xs)) ⟨by omega, by rw [hz, zpw n (by omega)]⟩ (by omega) (saQ rfl) (pfQ rfl)
 refine ntQ (zal rfl ?_)
 refine zba (zdq ?_)
 refine zag (zaw (zbd 2 rfl ?_))
 exact zau (zck (post := [rowE 3 1 u zs.length (zs.map (Value.int .i64))]) rfl rfl (slQ [0] rfl) (by rw [hz, show k = n.ss.length by omega]))
theorem zdz (n : Nt) (w : World) (hr : RdsNt w n) (hn : NtOk n) :
   Calls Try.prog 92 #[.agg #[.int .i64 n.ins, n.sv, n.av, n.ov]] w (Ans w (.bool true)) := by
 have hi0 := hn.i0
 have hi1 := hn.i1
 have hs1 := hn.s1
 have ha1 := hn.a1
 have ho1 := hn.o1
 have hcnt : n.cnt = 1 + n.ins + n.ss.length + n.gs.length := rfl
 have hfst : n.fst = 1 + n.ins + n.ss.length := rfl
 refine zbf (N := 104) (args := [.agg #[.int .i64 n.ins, n.sv, n.av, n.ov]]) Try.func92 rfl rfl (srQ ?_)
 refine zdj rfl (zch rfl rfl) ?_
 intro b1
 refine zaz 1 rfl (srQ (hvQ rfl (zao (cs := [.int .i64 n.ins, n.sv, n.av, n.ov]) rfl rfl rfl rfl rfl (zaj 0 rfl 0 rfl)) ?_))
 refine zds rfl (zaq rfl rfl (fun w hm => zav (zcb n w (hr.below hm.bel) hn))) (zaz 1 rfl (zac (zac (reQ 1 rfl ?_))))
 refine zbp rfl rfl rfl rfl rfl rfl (fun h2 => absurd h2 (by omega)) (fun h2 => ?_)
 refine ntQ (zal rfl (zcq (zac (zbd 1 rfl (zax ?_)))))
 refine zka (α := Nat) [0, 1, 2, 3, 12] rfl (fun k => [boxE b1 #[.int .i64 n.ins, n.sv, n.av, n.ov] 86]) (fun k => [(4, .int .i64 (k : Int))]) (fun k => k ≤ n.ss.length) (fun k => n.ss.length - k) 0 (Nat.zero_le _) (saQ rfl) (pfQ rfl) ?_
 intro k hi3
 have hk := hi3
 refine zac (zac (reQ 1 rfl (hvQ rfl (fdQ 1 rfl rfl rfl) (hvQ rfl (zad rfl rfl rfl (zaa 0 rfl rfl)) (hvQ rfl (lnQ rfl rfl rfl (zab hr.sq)) ?_)))))
 refine zbj rfl rfl rfl rfl rfl rfl (fun h4 => ?_) (fun h4 => ?_)
 ·
  refine ntQ (zak rfl (zcq (sbQ (srQ ?_))))
  have hqk := (hn.sq _ (zbl (d := sq0) (show k < n.ss.length by omega))).kind
  refine hvQ rfl (fdQ 1 rfl rfl rfl) (hvQ rfl (zad rfl rfl rfl (zaa 0 rfl rfl)) (zap 1 rfl (hvQ rfl (riQ 3 rfl rfl rfl rfl (zab hr.sq)) ?_)))
  refine hvQ rfl (zbt (us := [.int .i64 ((n.ss.getD k sq0).kd), .int .i64 ((n.ss.getD k sq0).it), (n.ss.getD k sq0).iv]) rfl rfl rfl rfl (zab hr.sq) (by omega) rfl (zcp sqC 3 (fun _ => rfl) n.ss sq0 (show k < _ by omega) rfl)) (zdj rfl (zbx (z := .agg #[.int .i64 0, .int .i64 0, .slice none 0 0]) rfl rfl) ?_)
  intro b5
  refine zcc (cs' := #[.int .i64 ((n.ss.getD k sq0).kd), .int .i64 ((n.ss.getD k sq0).it), (n.ss.getD k sq0).iv]) (i := 0) (off := 0) (us := [.int .i64 ((n.ss.getD k sq0).kd), .int .i64 ((n.ss.getD k sq0).it), (n.ss.getD k sq0).iv]) rfl rfl rfl rfl rfl rfl rfl (zah rfl (zah rfl (zah (hr.at (k := k) (by omega)).one zbr))) rfl rfl rfl (ntQ (srQ (hvQ rfl (fdQ 0 rfl rfl rfl) (hvQ rfl (zad rfl rfl rfl (zaa 0 rfl rfl)) ?_))))
  refine zbp rfl rfl rfl rfl rfl rfl (fun h6 => ?_) (fun h6 => ?_)
  ·
   refine zap 1 rfl (hvQ rfl (fdQ 1 rfl rfl rfl) (hvQ rfl (zad rfl rfl rfl (zaa 0 rfl rfl)) ?_))
   refine zds rfl (zaq rfl rfl (fun w hm => zav (zhg ((n.ss.getD k sq0).it) 0 1 w))) (zca (fun h7 => ?_) (fun h7 => absurd ((((zdc _ _ _).2 (by omega))).symm.trans h7) (by decide)))
   refine zap 2 rfl (hvQ rfl (fdQ 2 rfl rfl rfl) (hvQ rfl (zad rfl rfl rfl (zaa 0 rfl rfl)) ?_))
   refine hvQ rfl (lnQ rfl rfl rfl (fun w hm => (hr.at (k := k) (by omega)).below hm.bel)) (zbp rfl rfl rfl rfl rfl rfl (fun h8 => ?_) (fun h8 => ?_))
   ·
    refine zaz 18 rfl (fsQ rfl (zcv (reQ 1 rfl (hvQ rfl (vaQ rfl rfl rfl) (enQ 1 rfl ?_)))))
    exact zcr (k + 1) (by omega) (by omega) (saQ rfl) (slQ [1] rfl)
   refine zap 2 rfl (hvQ rfl (fdQ 0 rfl rfl rfl) (hvQ rfl (zad rfl rfl rfl (zaa 0 rfl rfl)) ?_))
   refine zbp rfl rfl rfl rfl rfl rfl (fun h9 => ?_) (fun h9 => ?_)
   ·
    refine zap 1 rfl (hvQ rfl (fdQ 1 rfl rfl rfl) (hvQ rfl (zad rfl rfl rfl (zaa 0 rfl rfl)) ?_))
    refine zds rfl (zaq rfl rfl (fun w hm => zav (zhg ((n.ss.getD k sq0).it) 0 31 w))) (zca (fun h10 => ?_) (fun h10 => absurd ((((zdc _ _ _).2 (by omega))).symm.trans h10) (by decide)))
    refine zap 2 rfl (hvQ rfl (fdQ 2 rfl rfl rfl) (hvQ rfl (zad rfl rfl rfl (zaa 0 rfl rfl)) ?_))
    refine hvQ rfl (lnQ rfl rfl rfl (fun w hm => (hr.at (k := k) (by omega)).below hm.bel)) (zbp rfl rfl rfl rfl rfl rfl (fun h11 => ?_) (fun h11 => ?_))
    ·
     refine zaz 3 rfl (fsQ rfl (zcv (reQ 1 rfl (hvQ rfl (vaQ rfl rfl rfl) (enQ 1 rfl ?_)))))
     exact zcr (k + 1) (by omega) (by omega) (saQ rfl) (slQ [1] rfl)
    refine zaz 3 rfl (zak rfl (zbd 1 rfl ?_))
    refine zau (zan ?_)
    refine zge ?_
    refine zan (zai ?_)
    exfalso
    omega
   refine zaz 13 rfl (zak rfl ?_)
   refine zbd 1 rfl ?_
   refine zau (zan ?_)
   refine zge ?_
   refine zan (zai ?_)
   exfalso
   omega
  refine zap 12 rfl (hvQ rfl (fdQ 0 rfl rfl rfl) (hvQ rfl (zad rfl rfl rfl (zaa 0 rfl rfl)) ?_))
  refine zbp rfl rfl rfl rfl rfl rfl (fun h12 => ?_) (fun h12 => ?_)
  ·
   refine zap 1 rfl (hvQ rfl (fdQ 1 rfl rfl rfl) (hvQ rfl (zad rfl rfl rfl (zaa 0 rfl rfl)) ?_))
   refine zds rfl (zaq rfl rfl (fun w hm => zav (zhg ((n.ss.getD k sq0).it) 0 31 w))) (zca (fun h13 => ?_) (fun h13 => absurd ((((zdc _ _ _).2 (by omega))).symm.trans h13) (by decide)))
   refine zap 2 rfl (hvQ rfl (fdQ 2 rfl rfl rfl) (hvQ rfl (zad rfl rfl rfl (zaa 0 rfl rfl)) ?_))
   refine hvQ rfl (lnQ rfl rfl rfl (fun w hm => (hr.at (k := k) (by omega)).below hm.bel)) (zbp rfl rfl rfl rfl rfl rfl (fun h14 => ?_) (fun h14 => ?_))
   ·
    refine zaz 3 rfl (fsQ rfl (zcv (reQ 1 rfl (hvQ rfl (vaQ rfl rfl rfl) (enQ 1 rfl ?_)))))
    exact zcr (k + 1) (by omega) (by omega) (saQ rfl) (slQ [1] rfl)
   refine zaz 3 rfl (zak rfl (zbd 1 rfl ?_))
   refine zau (zan ?_)
   refine zge ?_
   refine zan (zai ?_)
   exfalso
   omega
  refine zaz 13 rfl (zak rfl ?_)
  refine zbd 1 rfl ?_
  refine zau (zan ?_)
  refine zge ?_
  refine zan (zai ?_)
  exfalso
  omega
 refine ntQ (zal rfl ?_)
 refine zba (zdq ?_)
 refine zag (zaw (srQ (hvQ rfl (zao (cs := [.int .i64 n.ins, n.sv, n.av, n.ov]) rfl rfl rfl rfl rfl (zaj 0 rfl 0 rfl)) ?_)))
 refine zfg rfl rfl rfl (zaq rfl rfl (fun w hm => zgx n w (hr.below hm.bel) hn)) ?_
 intro v15 p16 hR17
 subst hR17
 refine zaz 1 rfl (zac (zbd 1 rfl (zax ?_)))
 refine zka (α := Nat) [0, 1, 2, 3, 6, 12, 17] rfl (fun q => [rowE 3 1 v15 ((rtsL n n.ss.length).length) ((rtsL n n.ss.length).map (Value.int .i64)), boxE b1 #[.int .i64 n.ins, n.sv, n.av, n.ov] 86]) (fun q => [(7, .int .i64 (q : Int))]) (fun q => q ≤ (rtsL n n.ss.length).length) (fun q => (rtsL n n.ss.length).length - q) 0 (Nat.zero_le _) (saQ rfl) (pfQ rfl) ?_
 intro q hi18
 have hq := hi18
 refine zeh ?_
 have hzl := zio hn n.ss.length (Nat.le_refl _)
 refine zap 2 rfl (hvQ rfl (lnQ rfl rfl rfl (zae 0 rfl)) ?_)
 refine zbj rfl rfl rfl rfl rfl rfl (fun h19 => ?_) (fun h19 => ?_)
 ·
  refine ntQ (zak rfl (zcq (sbQ (srQ ?_))))
  have hlk := zsr hn (i := q) (by omega)
  have hzl := zio hn n.ss.length (Nat.le_refl _)
  refine zap 2 rfl (hvQ rfl (riQ 1 rfl rfl rfl rfl (zae 0 rfl)) (hvQ rfl (zar (u := .int .i64 ((rtsL n n.ss.length).getD q 0)) rfl rfl rfl (zae 0 rfl) (zbn (show _ < (rtsL n n.ss.length).length by omega))) (zap 1 rfl ?_)))
  refine zds rfl (zaq rfl rfl (fun w hm => zav (zgh ((rtsL n n.ss.length).getD q 0) n.cnt w (by first | assumption | (unfold LtOk; omega)) (by omega)))) (zaz 1 rfl (fsQ rfl (zcv (reQ 1 rfl (hvQ rfl (vaQ rfl rfl rfl) (enQ 1 rfl ?_))))))
  exact zcr (q + 1) (by omega) (by omega) (saQ rfl) (pfQ rfl)
 refine ntQ (zal rfl ?_)
 refine zba (zdq ?_)
 refine zag (zaw (zac (zbd 1 rfl (zax ?_))))
 refine zka (α := Nat) [0, 1, 2, 3, 6, 12, 17, 61] rfl (fun j => [rowE 3 1 v15 ((rtsL n n.ss.length).length) ((rtsL n n.ss.length).map (Value.int .i64)), boxE b1 #[.int .i64 n.ins, n.sv, n.av, n.ov] 86]) (fun j => [(8, .int .i64 (j : Int))]) (fun j => j ≤ n.gs.length) (fun j => n.gs.length - j) 0 (Nat.zero_le _) (saQ rfl) (pfQ rfl) ?_
 intro j hi20
 have hj := hi20
 refine zac (zac (reQ 1 rfl (hvQ rfl (fdQ 2 rfl rfl rfl) (hvQ rfl (zad rfl rfl rfl (zaa 1 rfl rfl)) (hvQ rfl (lnQ rfl rfl rfl (zab hr.an)) ?_)))))
 refine zbj rfl rfl rfl rfl rfl rfl (fun h21 => ?_) (fun h21 => ?_)
 ·
  refine ntQ (zak rfl (zcq (sbQ (zac ?_))))
  have hlj := hn.an j (by omega)
  obtain ⟨hlj1, hlj2⟩ := hlj
  refine zby 26 [[], [0], [], [1, 2], [3], [4], [], [6], [], [7, 8], [5, 9], [10], [11], [12], [12, 13], [12], [12, 14, 15], [12, 16], [12, 17], [12], [12, 19], [12], [12, 20, 21], [12, 18, 22], [12, 23], [12, 24]] [78, 79, 80, 81, 82, 83, 84, 85, 86, 87, 88, 89, 90, 91, 92, 93, 94, 95, 96, 97, 98, 99, 100, 101, 102, 103] [.pointer (some ⟨b1, 0 + 2, none⟩), n.av, .int .i64 (j : Int), elP n.av (((j : Int)).toNat * 2), elP n.av (((j : Int)).toNat * 2 + 0), .int .i64 ((n.gs.getD j an0).a), .agg #[.int .i64 n.ins, n.sv, n.av, n.ov], .int .i64 n.fst, .int .i64 (j : Int), .int .i64 (n.fst + (j : Int)), .bool true, .bool false, .bool false, .pointer (some ⟨b1, 0 + 2, none⟩), n.av, .int .i64 (j : Int), elP n.av (((j : Int)).toNat * 2), elP n.av (((j : Int)).toNat * 2 + 1), .int .i64 ((n.gs.getD j an0).b), .agg #[.int .i64 n.ins, n.sv, n.av, n.ov], .int .i64 n.fst, .int .i64 (j : Int), .int .i64 (n.fst + (j : Int)), .bool true, .bool false, .bool false] (by kernel_rfl) rfl ?_ ?_
  ·
   exact ⟨iaQ rfl (fdQ 2 rfl rfl rfl) rfl, iaQ rfl (zad rfl rfl rfl (zaa 1 rfl rfl)) rfl, iaQ rfl (zas rfl) rfl, iaQ rfl (riQ 2 rfl rfl rfl rfl (zab hr.an)) rfl, iaQ rfl (zbe (k0 := 0) rfl rfl rfl (zab hr.an) (by omega)) rfl, iaQ rfl (zar (u := .int .i64 ((n.gs.getD j an0).a)) rfl rfl rfl (zab hr.an) ((zce anC 2 (fun _ => rfl) n.gs an0 (show j < _ by omega) (by decide)).trans rfl)) rfl, iaQ rfl (zao (cs := [.int .i64 n.ins, n.sv, n.av, n.ov]) rfl rfl rfl rfl rfl (zaj 1 rfl 0 rfl)) rfl, .inl ⟨rfl, zaq rfl rfl (fun w hm => zav (zcl n w (hr.below hm.bel) hn))⟩, iaQ rfl (zas rfl) rfl, iaQ rfl (vaQ rfl rfl rfl) rfl, .inl ⟨rfl, zaq (by kernel_rfl) rfl (fun w hm => zav (zgh ((n.gs.getD j an0).a) (n.fst + (j : Int)) w (by first | assumption | (unfold LtOk; omega)) (by omega)))⟩, iaQ rfl (zas rfl) rfl, iaQ rfl (zas rfl) rfl, iaQ rfl (fdQ 2 rfl rfl rfl) rfl, iaQ rfl (zad rfl rfl rfl (zaa 1 rfl rfl)) rfl, iaQ rfl (zas rfl) rfl, iaQ rfl (riQ 2 rfl rfl rfl rfl (zab hr.an)) rfl, iaQ rfl (zbe (k0 := 1) rfl rfl rfl (zab hr.an) (by omega)) rfl, iaQ rfl (zar (u := .int .i64 ((n.gs.getD j an0).b)) rfl rfl rfl (zab hr.an) ((zce anC 2 (fun _ => rfl) n.gs an0 (show j < _ by omega) (by decide)).trans rfl)) rfl, iaQ rfl (zao (cs := [.int .i64 n.ins, n.sv, n.av, n.ov]) rfl rfl rfl rfl rfl (zaj 1 rfl 0 rfl)) rfl, .inl ⟨rfl, zaq rfl rfl (fun w hm => zav (zcl n w (hr.below hm.bel) hn))⟩, iaQ rfl (zas rfl) rfl, iaQ rfl (vaQ rfl rfl rfl) rfl, .inl ⟨rfl, zaq (by kernel_rfl) rfl (fun w hm => zav (zgh ((n.gs.getD j an0).b) (n.fst + (j : Int)) w (by first | assumption | (unfold LtOk; omega)) (by omega)))⟩, iaQ rfl (zas rfl) rfl, iaQ rfl (zas rfl) rfl, trivial⟩
  simp only [List.drop_succ_cons, List.drop_zero]
  refine ntQ (fsQ rfl (zcv (reQ 1 rfl (hvQ rfl (vaQ rfl rfl rfl) (enQ 1 rfl ?_)))))
  exact zcr (j + 1) (by omega) (by omega) (saQ rfl) (pfQ rfl)
 refine ntQ (zal rfl ?_)
 refine zba (zdq ?_)
 refine zag (zaw (zbd 1 rfl ?_))
 exact zau (zbb rfl rfl rfl)
theorem zkx (xs : List Int) (l : Int) (v : Value) (w : World) (hv : RdsW w v 1 xs.length (xs.map (Value.int .i64))) (hl : 0 ≤ l ∧ l < 2 * xs.length) (h01 : xs.getD (l / 2).toNat 0 = 0 ∨ xs.getD (l / 2).toNat 0 = 1) (hlen : xs.length ≤ 100000) :
   Calls Try.prog 123 #[v, .int .i64 l] w (Ans w (.int .i64 (bitL xs l))) := by
 refine zbf (N := 13) (args := [v, .int .i64 l]) Try.func123 rfl rfl (zbd 1 rfl (zac (reQ 2 rfl ?_)))
 refine hvQ rfl (zeu rfl rfl rfl (by refine ⟨?_, ?_, ?_⟩ <;> omega)) ?_
 refine hvQ rfl (riQ 1 rfl rfl rfl rfl (zab hv)) (hvQ rfl (lzQ rfl rfl rfl (zab hv)) (zap 1 rfl (hvQ rfl (zfu rfl (by decide) rfl rfl (r := l % 2) (Bit.and_one _ (by omega) (by omega))) (hvQ rfl (zfu rfl (by decide) rfl rfl (r := bitL xs l) (xor01 h01)) (zaz 1 rfl ?_)))))
 exact zau (zbb rfl rfl rfl)
def tauOk4 (os : List Oper) (m K : Nat) (dps qd : List (List Nat)) (tau : List (Option Nat)) (fl : List Nat) : Bool :=
  (List.range m).all (fun i => (qd.getD i []).all (fun j => ((dps.getD i []).contains j || (Nat.ble os.length j && Nat.blt j (os.length + K))) && (List.range m).all (fun k => tau.getD k none != some j || (k != i && ((msk ((List.range os.length).map (depsOf os)) []).getD k 0).testBit i))) && decide ((qd.getD i []).Nodup)) &&
  (List.range m).all (fun i => match tau.getD i none with | none => true | some h => ((Nat.ble os.length h && Nat.blt h (os.length + K)) || (dps.getD i []).contains h) && (List.range m).all (fun k => k == i || tau.getD k none != some h)) &&
  fl.all (fun j => (Nat.blt j m || (Nat.ble os.length j && Nat.blt j (os.length + K))) && (List.range m).all (fun k => tau.getD k none != some j)) && decide fl.Nodup
section
variable {P : Program} {N : Nat} {w0 : World} {l : List HP} {env : List (Nat × Value)} {Q : Post} {os : List Oper} {m : Nat} {dps : List (List Nat)} {dsts : List (Option Nat)} {R : Nat → List Value → Value → List HP → Prop}
structure Mid4 (N : Nat) (w0 : World) (l : List HP) (env : List (Nat × Value)) (os : List Oper) (m : Nat) (dps : List (List Nat)) (dsts : List (Option Nat)) (R : Nat → List Value → Value → List HP → Prop) (tau : List (Option Nat)) (P0 : List (List HP)) (listed : Array Bool) (ord held : List Nat) (vf : Nat → Value) (pf : Nat → List HP) (a : Act) (w : World) : Prop where
  size : listed.size = os.length
  iff : ∀ i, i < os.length → (listed.getD i true = true ↔ i ∈ ord)
  low : ∀ i ∈ ord, i < m
  closed : ∀ i ∈ ord, ∀ j ∈ depsOf os i, j ∈ ord
  nodup : ord.Nodup
  dcl : ∀ i ∈ ord, ∀ j ∈ dps.getD i [], j ∈ ord
  rel : ∀ i ∈ ord, R i ((dps.getD i []).map vf) (vf i) (pf i)
  hn : held.Nodup
  hin : ∀ i ∈ held, i ∈ ord ∨ (os.length ≤ i ∧ i < os.length + P0.length)
  hall : ∀ i, (i ∈ ord ∨ (os.length ≤ i ∧ i < os.length + P0.length)) → (∀ j ∈ ord, tau.getD j none ≠ some i) → i ∈ held
  hP : ∀ k, k < P0.length → pf (os.length + k) = P0.getD k []
  mem : Mem w0 (held.flatMap pf ++ l) w
  asize : a.tmps.size = N
  defers : a.defers = []
  env : ∀ d v, lk env d = some v → a.tmps[d]? = some v
  slots : ∀ i ∈ ord, ∀ d, dsts[i]? = some (some d) → a.tmps[d]? = some (vf i)
theorem Mid4.st {tau P0 listed ord held vf pf a w} (h : Mid4 N w0 l env os m dps dsts R tau P0 listed ord held vf pf a w) (hm : m ≤ dsts.length) {is : List Nat} (hs : ∀ j ∈ is, j ∈ ord) {L : List HP} (hM : Mem w0 L w) : St N w0 L (envOf3 dsts vf is ++ env) a w := by
  refine ⟨hM, h.asize, h.defers, fun d v hd => ?_⟩
  rcases zhx _ _ _ _ hd with h1 | h1
  · unfold envOf3 at h1
    rw [List.mem_filterMap] at h1
    obtain ⟨i, hi, he⟩ := h1
    rw [Option.map_eq_some_iff] at he
    obtain ⟨d', hd', he⟩ := he
    simp only [Prod.mk.injEq] at he
    obtain ⟨rfl, rfl⟩ := he
    have : dsts[i]? = some (some d') := by
      rw [List.getD_eq_getElem?_getD] at hd'
      cases hx : dsts[i]? with
      | none => rw [hx] at hd'; cases hd'
      | some y => rw [hx] at hd'; exact congrArg some hd'
    exact h.slots i (hs i hi) _ this
  · exact h.env d v h1
theorem ztp {id : Nat} (hmix : P.follows .mixedOrders = true) (m : Nat) (dps : List (List Nat)) (dsts : List (Option Nat)) (R : Nat → List Value → Value → List HP → Prop) (qd : List (List Nat)) (tau : List (Option Nat)) (P0 : List (List HP)) (fl : List Nat) (hok : drawOk3 os m dps dsts = true) (htau : tauOk4 os m P0.length dps qd tau fl = true) (hfresh : dsts.all (fun d => match d with | some d => (lk env d).isNone | none => true) = true) (hN : dsts.all (fun d => match d with | some d => Nat.blt d N | none => true) = true)
    (due : ∀ i o, os[i]? = some o → i < m → ∀ vf pf, (∀ k, k < P0.length → pf (os.length + k) = P0.getD k []) → (∀ j ∈ dps.getD i [], R j ((dps.getD j []).map vf) (vf j) (pf j)) → Obl2 P os.toArray N w0 (tau.getD i none) pf ((qd.getD i []).flatMap pf ++ l) (envOf3 dsts vf (dps.getD i []) ++ env) o (R i ((dps.getD i []).map vf)))
    (fin : ∀ vf pf, (∀ k, k < P0.length → pf (os.length + k) = P0.getD k []) → (∀ i, i < m → R i ((dps.getD i []).map vf) (vf i) (pf i)) → HL P N os.toArray w0 (fl.flatMap pf ++ l) (envOf3 dsts vf (List.range m) ++ env) (os.drop m) Q) : HC P N w0 (P0.flatten ++ l) env (.region id os.toArray true) Q := by
  intro a w st
  refine wp_region_any hmix ?_
  simp only [drawOk3, Bool.and_eq_true, Nat.ble_eq, List.all_eq_true, List.mem_range, Bool.or_eq_true, Nat.blt_eq, beq_iff_eq, decide_eq_true_eq, Array.all_eq_true', bne_iff_ne] at hok
  obtain ⟨⟨⟨⟨⟨⟨hml, hback⟩, hcov⟩, hready⟩, hdst⟩, hdn⟩, hdp⟩ := hok
  simp only [tauOk4, Bool.and_eq_true, List.all_eq_true, List.mem_range, Bool.or_eq_true, Nat.blt_eq, Nat.ble_eq, beq_iff_eq, bne_iff_ne, decide_eq_true_eq, List.contains_iff_mem] at htau
  obtain ⟨⟨⟨hqd, hth⟩, hfl⟩, hfn⟩ := htau
  have hml' : m ≤ dsts.length := by have := congrArg List.length hdst; simp at this; omega
  have hlen : dsts.length = m := by have := congrArg List.length hdst; simp at this; omega
  have hrdy : ∀ k, m ≤ k → k < os.length → Region.ready .any os.toArray (preT os.length k) = [k] := fun k h1 h2 => by
    have := hready (k - m) (by omega)
    rw [show m + (k - m) = k by omega] at this
    exact this
  have hmsk : ∀ i j, ((msk ((List.range os.length).map (depsOf os)) []).getD i 0).testBit j = true → Dep os i j := zjy os _ _ (fun t ds ht d hd => by
    rw [List.getElem?_map] at ht
    by_cases h : t < os.length
    · rw [List.getElem?_range h] at ht; simp at ht; subst ht; simpa using hd
    · rw [List.getElem?_eq_none (by simp; omega)] at ht; cases ht) (fun i j h => by simp at h)
  have dstAt : ∀ i, i < m → ∀ o, os[i]? = some o → o.dst = dsts.getD i none := fun i hi o ho => by
    have h1 : ((os.take m).map (·.dst))[i]? = some o.dst := by rw [List.getElem?_map, List.getElem?_take, if_pos hi, ho]; rfl
    rw [hdst] at h1
    rw [List.getD_eq_getElem?_getD, h1]; rfl
  -- what may come up
  have key : ∀ (f : Nat) (listed : Array Bool) (ord held : List Nat) (vf : Nat → Value) (pf : Nat → List HP) (a : Act) (w : World), f + ord.length = os.length → Mid4 N w0 l env os m dps dsts R tau P0 listed ord held vf pf a w → wpAny P .any os.toArray Q f listed a w := by
    intro f
    induction f with
    | zero =>
      intro listed ord held vf pf a w hf h
      -- all are listed: m = the length
      have hall : ∀ i, i < os.length → i ∈ ord := by
        intro i hi
        have hsub : ord.Perm (List.range os.length) ∨ True := .inr trivial
        obtain ⟨r, hr⟩ := zef ord (List.range os.length) h.nodup (fun j hj => by have := h.low j hj; simp; omega)
        have hl := hr.length_eq
        simp at hl
        have : r = [] := List.length_eq_zero_iff.1 (by omega)
        subst this
        have := hr.mem_iff.1 (List.mem_range.2 hi)
        simpa using this
      have hm2 : m = os.length := by
        by_cases hc : m < os.length
        · have := h.low m (hall m hc); omega
        · omega
      have hp : listed = preT os.length m := by
        apply Array.ext
        · rw [h.size, zei _ _ hml]
        · intro i h1 h2
          have hi : i < os.length := by rw [h.size] at h1; exact h1
          have e1 := (h.iff i hi).2 (hall i hi)
          have e2 := zfc os.length m i hml hi
          rw [Array.getD_eq_getD_getElem?, Array.getElem?_eq_getElem h1] at e1
          rw [Array.getD_eq_getD_getElem?, Array.getElem?_eq_getElem h2] at e2
          simp only [Option.getD_some] at e1 e2
          rw [e1, e2]; simp; omega
      rw [hp]
      refine zfn hrdy 0 m (Nat.le_refl _) (by omega) a w ?_
      exact fin vf pf h.hP (fun i hi => h.rel i (hall i (by omega))) a w (h.st hml' (fun j hj => hall j (by rw [List.mem_range] at hj; omega)) (h.mem.pick hfn (fun j hj => h.hall j ((hfl j hj).1.imp (fun hlt => hall j (by omega)) (fun x => x)) (fun k hk => (hfl j hj).2 k (h.low k hk)))))
    | succ f ih =>
      intro listed ord held vf pf a w hf h
      by_cases hall : ∀ i, i < m → i ∈ ord
      · -- the tail's turn
        have hp : listed = preT os.length m := by
          apply Array.ext
          · rw [h.size, zei _ _ hml]
          · intro i h1 h2
            have hi : i < os.length := by rw [h.size] at h1; exact h1
            have e1 := h.iff i hi
            have e2 := zfc os.length m i hml hi
            rw [Array.getD_eq_getD_getElem?, Array.getElem?_eq_getElem h1] at e1
            rw [Array.getD_eq_getD_getElem?, Array.getElem?_eq_getElem h2] at e2
            simp only [Option.getD_some] at e1 e2
            rw [e2, Bool.eq_iff_iff, e1, decide_eq_true_eq]
            exact ⟨fun hx => h.low i hx, fun hx => hall i hx⟩
        have hord : ord.length = m := by
          obtain ⟨r, hr⟩ := zef ord (List.range m) h.nodup (fun j hj => by have := h.low j hj; simpa using this)
          obtain ⟨r', hr'⟩ := zef (List.range m) ord List.nodup_range (fun j hj => hall j (by simpa using hj))
          have h1 := hr.length_eq
          have h2 := hr'.length_eq
          simp at h1 h2
          omega
        rw [hp]
        refine zfn hrdy (f + 1) m (Nat.le_refl _) (by omega) a w ?_
        exact fin vf pf h.hP (fun i hi => h.rel i (hall i hi)) a w (h.st hml' (fun j hj => hall j (by simpa using hj)) (h.mem.pick hfn (fun j hj => h.hall j ((hfl j hj).1.imp (fun hlt => hall j hlt) (fun x => x)) (fun k hk => (hfl j hj).2 k (h.low k hk)))))
      · -- some quiet one is not done yet
        have hsome : ∃ i, i < m ∧ i ∉ ord := by
          by_cases hx : ∃ i, i < m ∧ i ∉ ord
          · exact hx
          · exact absurd (fun i hi => Decidable.byContradiction fun hn => hx ⟨i, hi, hn⟩) hall
        have mem_rdy : ∀ i, i ∈ Region.ready .any os.toArray listed ↔ i < os.length ∧ i ∉ ord ∧ ∀ j ∈ depsOf os i, j ∈ ord := by
          intro i
          unfold Region.ready
          rw [List.mem_filter, List.mem_range]
          simp only [List.size_toArray]
          constructor
          · rintro ⟨hi, hb⟩
            rw [Bool.and_eq_true] at hb
            have hno : i ∉ ord := fun hx => by rw [(h.iff i hi).2 hx] at hb; simp at hb
            refine ⟨hi, hno, fun j hj => ?_⟩
            have ho : os.toArray[i]? = some os[i] := by simp [hi]
            rw [ho] at hb
            simp only [Option.map_some, Option.getD_some, Array.all_eq_true'] at hb
            unfold depsOf at hj
            rw [List.getElem?_eq_getElem hi] at hj
            simp only [List.mem_map, List.mem_filter] at hj
            obtain ⟨e, ⟨he, hbd⟩, rfl⟩ := hj
            have hb2 := hb.2 e (by simpa using he)
            rw [hbd] at hb2
            simp at hb2
            have hlt := hback i hi e.on (by unfold depsOf; rw [List.getElem?_eq_getElem hi]; exact List.mem_map.2 ⟨e, List.mem_filter.2 ⟨he, hbd⟩, rfl⟩)
            refine (h.iff e.on (by omega)).1 ?_
            have hs : e.on < listed.size := by rw [h.size]; omega
            rw [Array.getD_eq_getD_getElem?, Array.getElem?_eq_getElem hs] 
            simp only [Option.getD_some]
            rw [Array.getElem?_eq_getElem hs] at hb2
            simpa using hb2
          · rintro ⟨hi, hno, hd⟩
            refine ⟨hi, ?_⟩
            have ho : os.toArray[i]? = some os[i] := by simp [hi]
            rw [ho]
            simp only [Option.map_some, Option.getD_some, Bool.and_eq_true, Array.all_eq_true']
            refine ⟨?_, fun e he => ?_⟩
            · cases hb : listed.getD i true with
              | true => exact absurd ((h.iff i hi).1 hb) hno
              | false => rfl
            · rw [Bool.or_eq_true]
              by_cases hbd : Region.binds .any e = true
              rotate_left
              · left; simpa using hbd
              right
              have hon : e.on ∈ depsOf os i := by unfold depsOf; rw [List.getElem?_eq_getElem hi]; exact List.mem_map.2 ⟨e, List.mem_filter.2 ⟨by simpa using he, hbd⟩, rfl⟩
              have hlt := hback i hi e.on hon
              have := (h.iff e.on (by omega)).2 (hd e.on hon)
              have hs : e.on < listed.size := by rw [h.size]; omega
              rw [Array.getD_eq_getD_getElem?, Array.getElem?_eq_getElem hs] at this
              simp only [Option.getD_some] at this
              rw [Array.getD_eq_getD_getElem?, Array.getElem?_eq_getElem hs]
              simpa using this
        have hdep : ∀ k j, Dep os k j → (∀ d ∈ depsOf os k, d ∈ ord) → j ∈ ord := by
          intro k j hd
          induction hd with
          | one hj => intro hx; exact hx _ hj
          | more hk _ ih2 => intro hx; exact ih2 (fun d hd => h.closed _ (hx _ hk) d hd)
        have hlow : ∀ i ∈ Region.ready .any os.toArray listed, i < m := by
          intro i hi
          obtain ⟨h1, h2, h3⟩ := (mem_rdy i).1 hi
          by_cases hc : i < m
          · exact hc
          · exfalso
            obtain ⟨q, hq, hqn⟩ := hsome
            rcases hcov i h1 with h4 | h4
            · exact hc h4
            · exact hqn (hdep i q (hmsk i q (h4 q hq)) h3)
        refine ⟨fun h0 => ?_, fun i hi => ?_⟩
        · -- the least one that is not done may come up
          exfalso
          obtain ⟨q, hq, hqn⟩ := hsome
          obtain ⟨p, hp, hmin⟩ := exists_least (p := fun i => i < m ∧ i ∉ ord) ⟨q, hq, hqn⟩
          have : p ∈ Region.ready .any os.toArray listed := by
            rw [mem_rdy]
            refine ⟨by omega, hp.2, fun j hj => ?_⟩
            have hlt := hback p (by omega) j hj
            apply Decidable.byContradiction
            intro hn
            have := hmin j ⟨by omega, hn⟩
            omega
          rw [h0] at this
          cases this
        · have him := hlow i hi
          obtain ⟨h1, h2, h3⟩ := (mem_rdy i).1 hi
          have ho : os[i]? = some os[i] := List.getElem?_eq_getElem h1
          have hdps := hdp i him
          have hsub : ∀ j ∈ dps.getD i [], j ∈ ord := fun j hj => hdep i j (hmsk i j (hdps.1 j hj)) h3
          have hqi := hqd i him
          have hqheld : ∀ j ∈ qd.getD i [], j ∈ held := fun j hj => h.hall j ((hqi.1 j hj).1.imp (hsub j) (fun x => x)) (fun k hk => by
            rcases (hqi.1 j hj).2 k (h.low k hk) with h5 | ⟨-, h6⟩
            · exact h5
            · exact absurd (hdep k i (hmsk k i h6) (h.closed k hk)) h2)
          have hobl := due i os[i] ho him vf pf h.hP (fun j hj => h.rel j (hsub j hj))
          have hdd := dstAt i him _ ho
          have hdlt : ∀ d, dsts.getD i none = some d → d < N := fun d hd => by
            have := List.all_eq_true.1 hN (some d) (by rw [← hd, List.getD_eq_getElem?_getD, List.getElem?_eq_getElem (by omega)]; exact List.getElem_mem _)
            simpa [Nat.blt_eq] using this
          have hdnone : ∀ d, dsts.getD i none = some d → lk env d = none := fun d hd => by
            have := List.all_eq_true.1 hfresh (some d) (by rw [← hd, List.getD_eq_getElem?_getD, List.getElem?_eq_getElem (by omega)]; exact List.getElem_mem _)
            simpa using this
          have hne : ∀ j ∈ ord, j ≠ i := fun j hj e => h2 (e ▸ hj)
          have hneh : ∀ j ∈ held, j ≠ i := fun j hj e => by
            rcases h.hin j hj with h5 | h5
            · exact hne j h5 e
            · omega
          have next : ∀ (held' : List Nat) v post w', held'.Nodup → (∀ k ∈ held', k ∈ i :: ord ∨ (os.length ≤ k ∧ k < os.length + P0.length)) → (∀ k, (k ∈ i :: ord ∨ (os.length ≤ k ∧ k < os.length + P0.length)) → (∀ j ∈ i :: ord, tau.getD j none ≠ some k) → k ∈ held') → R i ((dps.getD i []).map vf) v post →
              Mem w0 (held'.flatMap (fun k => if k = i then post else pf k) ++ l) w' → wpAny P .any os.toArray Q f (listed.setIfInBounds i true) (a.put (dsts.getD i none) v) w' := by
            intro held' v post w' hh1 hh2 hh3 hv hm
            refine ih (listed.setIfInBounds i true) (i :: ord) held' (fun k => if k = i then v else vf k) (fun k => if k = i then post else pf k) _ w' (by simp; omega) ⟨?_, ?_, ?_, ?_, ?_, ?_, ?_, hh1, hh2, hh3, ?_, hm, ?_, ?_, ?_, ?_⟩
            · simp [h.size]
            · intro k hk
              by_cases hki : k = i
              · subst hki
                have hs : k < listed.size := by rw [h.size]; exact hk
                simp [Array.getD_eq_getD_getElem?, hs]
              · rw [getD_set_ne true (fun e => hki e.symm), h.iff k hk]
                simp [hki]
            · intro k hk; rcases List.mem_cons.1 hk with rfl | hk; exact him; exact h.low k hk
            · intro k hk j hj
              rcases List.mem_cons.1 hk with rfl | hk
              · exact List.mem_cons_of_mem _ (h3 j hj)
              · exact List.mem_cons_of_mem _ (h.closed k hk j hj)
            · exact List.nodup_cons.2 ⟨h2, h.nodup⟩
            · intro k hk j hj
              rcases List.mem_cons.1 hk with rfl | hk
              · exact List.mem_cons_of_mem _ (hsub j hj)
              · exact List.mem_cons_of_mem _ (h.dcl k hk j hj)
            · intro k hk
              rcases List.mem_cons.1 hk with rfl | hk
              · have e : (dps.getD k []).map (fun j => if j = k then v else vf j) = (dps.getD k []).map vf := List.map_congr_left fun j hj => if_neg (hne j (hsub j hj))
                rw [e, if_pos rfl, if_pos rfl]; exact hv
              · have e : (dps.getD k []).map (fun j => if j = i then v else vf j) = (dps.getD k []).map vf := List.map_congr_left fun j hj => if_neg (hne j (h.dcl k hk j hj))
                rw [e, if_neg (hne k hk), if_neg (hne k hk)]; exact h.rel k hk
            · intro k hk; rw [if_neg (by omega)]; exact h.hP k hk
            · cases hdi : dsts.getD i none <;> simp [Act.put, h.asize]
            · cases hdi : dsts.getD i none <;> exact h.defers
            · intro d u hd
              cases hdi : dsts.getD i none with
              | none => exact h.env d u hd
              | some d0 =>
                have hdne : d0 ≠ d := fun e => by rw [← e, hdnone _ hdi] at hd; cases hd
                simp only [Act.put]
                rw [Array.getElem?_setIfInBounds_ne hdne]
                exact h.env d u hd
            · intro k hk d hd
              cases hdi : dsts.getD i none with
              | none =>
                rcases List.mem_cons.1 hk with rfl | hk
                · rw [List.getD_eq_getElem?_getD, hd] at hdi; cases hdi
                · show a.tmps[d]? = _
                  rw [if_neg (hne k hk)]; exact h.slots k hk d hd
              | some d0 =>
                have hlt : d0 < a.tmps.size := by rw [h.asize]; exact hdlt _ hdi
                rcases List.mem_cons.1 hk with rfl | hk
                · have : d = d0 := by rw [List.getD_eq_getElem?_getD, hd] at hdi; exact Option.some.inj hdi
                  subst this
                  simp only [Act.put, if_true]
                  simp only [Array.getElem?_setIfInBounds_self_of_lt hlt]
                · have hdne : d0 ≠ d := by
                    intro e
                    have hk2 : k < dsts.length := (List.getElem?_eq_some_iff.1 hd).1
                    have hdk : dsts.getD k none = some d := by rw [List.getD_eq_getElem?_getD, hd]; rfl
                    rcases hdn i him k (by omega) with (hx | hx) | hx
                    · exact hne k hk hx.symm
                    · rw [hdi] at hx; cases hx
                    · exact hx (by rw [hdi, hdk, e])
                  simp only [Act.put]
                  rw [Array.getElem?_setIfInBounds_ne hdne, if_neg (hne k hk)]
                  exact h.slots k hk d hd
          unfold wpOp
          have hoa : os.toArray[i]? = some os[i] := by simp [h1]
          rw [hoa]
          simp only
          have hpost : ∀ (hs : List Nat) (post : List HP), (∀ k ∈ hs, k ≠ i) → (i :: hs).flatMap (fun k => if k = i then post else pf k) = post ++ hs.flatMap pf := fun hs post hx => by
            rw [List.flatMap_cons, if_pos rfl]
            congr 1
            rw [List.flatMap_def, List.flatMap_def]
            congr 1
            exact List.map_congr_left fun k hk => if_neg (hx k hk)
          cases ht : tau.getD i none with
          | none =>
            rw [ht] at hobl
            have hst := h.st hml' hsub (h.mem.pick hqi.2 hqheld)
            have next1 : ∀ v post w', R i ((dps.getD i []).map vf) v post → Mem w post w' → wpAny P .any os.toArray Q f (listed.setIfInBounds i true) (a.put (dsts.getD i none) v) w' := fun v post w' hv hm => by
              refine next (i :: held) v post w' (List.nodup_cons.2 ⟨fun hx => hneh i hx rfl, h.hn⟩) (fun k hk => ?_) (fun k hk hk2 => ?_) hv ?_
              · rcases List.mem_cons.1 hk with rfl | hk
                · exact .inl List.mem_cons_self
                · exact (h.hin k hk).imp (List.mem_cons_of_mem _) (fun x => x)
              · by_cases hki : k = i
                · rw [hki]; exact List.mem_cons_self
                · refine List.mem_cons_of_mem _ (h.hall k (hk.imp (fun hx => by rcases List.mem_cons.1 hx with hx | hx; exact absurd hx hki; exact hx) (fun x => x)) (fun j hj => hk2 j (List.mem_cons_of_mem _ hj)))
              · rw [hpost held post hneh, List.append_assoc]; exact h.mem.app hm
            rcases hobl with ⟨hw, hq⟩ | ⟨hw, hq⟩
            · rw [if_pos (hst.wanted hw)]
              refine .inl (hq a w hst Q _ fun v post w' hv hm => ?_)
              rw [hdd]
              exact next1 v post w' hv hm
            · rw [if_neg (by rw [hst.wanted hw]; decide), hdd]
              exact next1 undef [] w hq (Mem.refl w)
          | some hh =>
            rw [ht] at hobl
            have hth2 := hth i him
            rw [ht] at hth2
            simp only [Bool.and_eq_true, Bool.or_eq_true, Nat.ble_eq, Nat.blt_eq, beq_iff_eq, List.all_eq_true, List.mem_range, bne_iff_ne, List.contains_iff_mem] at hth2
            have hheld : hh ∈ held := h.hall hh (hth2.1.symm.imp (fun hx => hsub hh hx) (fun x => x)) (fun k hk => (hth2.2 k (h.low k hk)).resolve_left (hne k hk))
            have hperm := List.perm_cons_erase hheld
            have hmem : Mem w0 (pf hh ++ ((held.erase hh).flatMap pf ++ l)) w := by
              have := h.mem.perm ((hperm.flatMap_right pf).append_right l)
              rwa [List.flatMap_cons, List.append_assoc] at this
            have hnin : hh ∉ qd.getD i [] := fun hx => by
              rcases (hqi.1 hh hx).2 i him with h5 | ⟨h5, -⟩
              · exact h5 ht
              · exact h5 rfl
            have hconv : ∀ w, Mem w0 ((held.erase hh).flatMap pf ++ l) w → Mem w0 ((qd.getD i []).flatMap pf ++ l) w := fun w hm => hm.pick hqi.2 (fun j hj => (List.mem_erase_of_ne (fun (e : j = hh) => hnin (by rw [← e]; exact hj))).2 (hqheld j hj))
            have hst := h.st hml' hsub hmem
            have hneh2 : ∀ k ∈ held.erase hh, k ≠ i := fun k hk => hneh k (List.mem_of_mem_erase hk)
            have next2 : ∀ v post w', R i ((dps.getD i []).map vf) v post → Mem w0 (post ++ ((held.erase hh).flatMap pf ++ l)) w' → wpAny P .any os.toArray Q f (listed.setIfInBounds i true) (a.put (dsts.getD i none) v) w' := fun v post w' hv hm => by
              refine next (i :: held.erase hh) v post w' (List.nodup_cons.2 ⟨fun hx => hneh2 i hx rfl, h.hn.erase hh⟩) (fun k hk => ?_) (fun k hk hk2 => ?_) hv ?_
              · rcases List.mem_cons.1 hk with rfl | hk
                · exact .inl List.mem_cons_self
                · exact (h.hin k (List.mem_of_mem_erase hk)).imp (List.mem_cons_of_mem _) (fun x => x)
              · by_cases hki : k = i
                · rw [hki]; exact List.mem_cons_self
                · have hkh : k ≠ hh := fun e => hk2 i List.mem_cons_self (by rw [ht, e])
                  exact List.mem_cons_of_mem _ ((List.mem_erase_of_ne hkh).2 (h.hall k (hk.imp (fun hx => by rcases List.mem_cons.1 hx with hx | hx; exact absurd hx hki; exact hx) (fun x => x)) (fun j hj => hk2 j (List.mem_cons_of_mem _ hj))))
              · rw [hpost _ post hneh2, List.append_assoc]; exact hm
            rcases hobl with ⟨hw, hq⟩ | ⟨hw, hq⟩
            · rw [if_pos (hst.wanted hw)]
              refine .inl (hq _ hconv a w hst Q _ fun v post w' hv hm => ?_)
              rw [hdd]
              exact next2 v post w' hv hm
            · rw [if_neg (by rw [hst.wanted hw]; decide), hdd]
              exact next2 undef (pf hh) w hq hmem
  refine key os.length (Array.replicate os.length false) [] ((List.range P0.length).map (os.length + ·)) (fun _ => undef) (fun k => if os.length ≤ k then P0.getD (k - os.length) [] else []) a _ (by simp) ⟨by simp, ?_, by simp, by simp, by simp, by simp, by simp, ?_, ?_, ?_, ?_, ?_, st.size, st.defers, st.env, by simp⟩
  · intro i hi; simp [hi]
  · exact zjw _ _
  · intro i hi
    simp only [List.mem_map, List.mem_range] at hi
    obtain ⟨k, hk, rfl⟩ := hi
    exact .inr ⟨by omega, by omega⟩
  · rintro i (hi | ⟨h1, h2⟩) _
    · cases hi
    · simp only [List.mem_map, List.mem_range]; exact ⟨i - os.length, by omega, by omega⟩
  · intro k hk; rw [if_pos (by omega), Nat.add_sub_cancel_left]
  · have e : ((List.range P0.length).map (os.length + ·)).flatMap (fun k => if os.length ≤ k then P0.getD (k - os.length) [] else []) = P0.flatten := by
      rw [List.flatMap_map]
      have : (fun a : Nat => (if os.length ≤ os.length + a then P0.getD (os.length + a - os.length) [] else [])) = fun a => P0.getD a [] := by
        funext a; rw [if_pos (by omega), Nat.add_sub_cancel_left]
      rw [List.flatMap_def]
      rw [show (List.map (fun a : Nat => (if os.length ≤ os.length + a then P0.getD (os.length + a - os.length) [] else [])) (List.range P0.length)) = P0 from by rw [this]; exact zkv P0]
    rw [e]; exact st.mem.drawn _
def Dues4 (P : Program) (ops : Array Oper) (N : Nat) (w0 : World) (l : List HP) (env : List (Nat × Value)) (P0 : List (List HP)) (mu : Nat) (dsts : List (Option Nat)) (all qall : List (List Nat)) (tau : List (Option Nat)) (R : Nat → List Value → Value → List HP → Prop) : Nat → List (List Nat) → List Oper → Prop
  | _, _, [] => True
  | k, dss, o :: os => (∀ (vf : Nat → Value) (pf : Nat → List HP), (∀ k, k < P0.length → pf (mu + k) = P0.getD k []) → (∀ j ∈ all.getD k [], R j ((all.getD j []).map vf) (vf j) (pf j)) → Obl2 P ops N w0 (tau.getD k none) pf ((qall.getD k []).flatMap pf ++ l) (envOf3 dsts vf (all.getD k []) ++ env) o (R k ((all.getD k []).map vf))) ∧ Dues4 P ops N w0 l env P0 mu dsts all qall tau R (k + 1) dss os
theorem zqu {P : Program} {ops : Array Oper} {N : Nat} {w0 : World} {l : List HP} {env : List (Nat × Value)} {P0 : List (List HP)} {mu : Nat} {dsts : List (Option Nat)} {all qall : List (List Nat)} {tau : List (Option Nat)} {R : Nat → List Value → Value → List HP → Prop} : ∀ (os : List Oper) (dss : List (List Nat)) (k : Nat), Dues4 P ops N w0 l env P0 mu dsts all qall tau R k dss os → ∀ i o, os[i]? = some o → ∀ vf pf, (∀ k, k < P0.length → pf (mu + k) = P0.getD k []) → (∀ j ∈ all.getD (k + i) [], R j ((all.getD j []).map vf) (vf j) (pf j)) → Obl2 P ops N w0 (tau.getD (k + i) none) pf ((qall.getD (k + i) []).flatMap pf ++ l) (envOf3 dsts vf (all.getD (k + i) []) ++ env) o (R (k + i) ((all.getD (k + i) []).map vf))
  | [], _, _, _, i, o, ho, _, _, _, _ => by simp at ho
  | o' :: os, dss, k, h, 0, o, ho, vf, pf, hP, hR => by simp at ho; subst ho; exact h.1 vf pf hP hR
  | o' :: os, dss, k, h, i + 1, o, ho, vf, pf, hP, hR => by
    have e : k + 1 + i = k + (i + 1) := by omega
    have := zqu os dss (k + 1) h.2 i o (by simpa using ho) vf pf hP (by rw [e]; exact hR)
    rwa [e] at this
theorem zie {id : Nat} (hmix : P.follows .mixedOrders = true) (m : Nat) (qs : List Nat) (quiet tail : List Oper) (dps : List (List Nat)) (dsts : List (Option Nat)) (R : Nat → List Value → Value → List HP → Prop) (qd : List (List Nat)) (tau : List (Option Nat)) (P0 : List (List HP)) (fl : List Nat) (mu : Nat)
    (hos : os = quiet ++ tail) (hq : (Nat.beq quiet.length m && (List.range m == qs) && Nat.beq os.length mu) = true) (hok : drawOk3 os m dps dsts = true) (htau : tauOk4 os m P0.length dps qd tau fl = true) (hfresh : dsts.all (fun d => match d with | some d => (lk env d).isNone | none => true) = true) (hN : dsts.all (fun d => match d with | some d => Nat.blt d N | none => true) = true)
    (due : Dues4 P os.toArray N w0 l env P0 mu dsts dps qd tau R 0 [] quiet)
    (fin : ∀ vf pf, (∀ k, k < P0.length → pf (mu + k) = P0.getD k []) → (∀ i, i < m → R i ((dps.getD i []).map vf) (vf i) (pf i)) → HL P N os.toArray w0 (fl.flatMap pf ++ l) (envOf3 dsts vf qs ++ env) tail Q) : HC P N w0 (P0.flatten ++ l) env (.region id os.toArray true) Q := by
  simp only [Bool.and_eq_true, Nat.beq_eq, beq_iff_eq] at hq
  obtain ⟨⟨hq1, hq2⟩, hq3⟩ := hq
  refine ztp hmix m dps dsts R qd tau P0 fl hok htau hfresh hN (fun i o ho hi vf pf hP hR => ?_) (fun vf pf hP hR => ?_)
  · have ho' : quiet[i]? = some o := by rw [hos, List.getElem?_append_left (by omega)] at ho; exact ho
    have := zqu quiet [] 0 due i o ho' vf pf (by rw [← hq3]; exact hP) (by rw [Nat.zero_add]; exact hR)
    rwa [Nat.zero_add] at this
  rw [hq2, hos, List.drop_left' hq1, ← hos]; exact fin vf pf (by rw [← hq3]; exact hP) hR
end
open Go.RowKit
def eqA (a b c d : Int) : Bool := a == c && b == d
theorem Bit.xor_par (m : Nat) : (m ^^^ 1) % 2 = (m + 1) % 2 := by
  have h : (m ^^^ 1) / 2 ^ 0 % 2 = (m / 2 ^ 0 % 2) ^^^ (1 / 2 ^ 0 % 2) := Bit.bit_xor m 1 0
  simp only [Nat.pow_zero, Nat.div_one] at h
  rw [h]
  rcases Nat.mod_two_eq_zero_or_one m with e | e <;> rw [e] <;> simp <;> omega
theorem zvx {a : Int} (h0 : 0 ≤ a) (h1 : a < 4294967296) : bits .xor .i64 a 1 = xr a := by
  rw [Bit.xor_int a 1 h0 h1 (by decide) (by decide)]
  unfold xr
  have h2 : (a.toNat ^^^ (1 : Int).toNat) / 2 = a.toNat / 2 := by
    show (a.toNat ^^^ 1) / 2 = a.toNat / 2
    have := Nat.xor_div_two (a := a.toNat) (b := 1)
    rw [this]; simp
  have h3 : (a.toNat ^^^ (1 : Int).toNat) % 2 = (a.toNat + 1) % 2 := by
    show (a.toNat ^^^ 1) % 2 = (a.toNat + 1) % 2
    have e := Bit.xor_par a.toNat
    exact e
  split <;> omega
section
variable {N : Nat} {w0 : World} {l : List HP} {env : List (Nat × Value)} {o : Oper}
theorem zsp {x y : Operand} {a b c d : Int} (ho : o.op = .binOp .eql 126 x y 126) (hx : ev env x = some (.agg #[.int .i64 a, .int .i64 b])) (hy : ev env y = some (.agg #[.int .i64 c, .int .i64 d])) :
    RunV Try.prog N w0 l env o (.bool (eqA a b c d)) := fun a1 w st => by
  have hg : (eqGuard .eql 126 x y (.agg #[.int .i64 a, .int .i64 b]) (.agg #[.int .i64 c, .int .i64 d])).run Try.prog w = .ok () w := run_eqGuard_agg _ _ _ _ _ _ _ (by kernel_rfl)
  have h2 : (binOp .eql 126 (.agg #[.int .i64 a, .int .i64 b]) (.agg #[.int .i64 c, .int .i64 d])).run Try.prog w = .ok (.bool (eqA a b c d)) w := by
    rw [run_eql_struct, run_equalIn_struct _ _ _ _ _ (by kernel_rfl) (by kernel_rfl)]
    have e0 : (Try.prog.fieldsOf 126).toList = [(Try.prog.fieldsOf 126)[0]!, (Try.prog.fieldsOf 126)[1]!] := by kernel_rfl
    have n0 : ((Try.prog.fieldsOf 126)[0]!).name = "A" := by kernel_rfl
    have n1 : ((Try.prog.fieldsOf 126)[1]!).name = "B" := by kernel_rfl
    have t0 : ((Try.prog.fieldsOf 126)[0]!).type = 3 := by kernel_rfl
    have t1 : ((Try.prog.fieldsOf 126)[1]!).type = 3 := by kernel_rfl
    have o0 : ((Try.prog.fieldsOf 126)[0]!).offset = 0 := by kernel_rfl
    have o1 : ((Try.prog.fieldsOf 126)[1]!).offset = 1 := by kernel_rfl
    rw [e0]
    generalize (Try.prog.fieldsOf 126)[0]! = f0 at *
    generalize (Try.prog.fieldsOf 126)[1]! = f1 at *
    have m0 : f0.name ≠ "_" := by rw [n0]; decide
    have m1 : f1.name ≠ "_" := by rw [n1]; decide
    have hk : Try.prog.plainKey 3 = true := by kernel_rfl
    have q : ∀ (u v : Int) (w : World), (Op.equalIn 9999 3 (.int .i64 u) (.int .i64 v)).run Try.prog w = .ok (u == v) w := fun u v w => run_equalIn_int w 9998 3 .i64 .i64 u v Try.underlying3
    have pa : ∀ w : World, (part f0.type #[Value.int .i64 a, .int .i64 b] f0.offset).run Try.prog w = .ok (.int .i64 a) w := fun w => by rw [t0, o0]; exact run_part_plain w hk rfl
    have pb : ∀ w : World, (part f1.type #[Value.int .i64 a, .int .i64 b] f1.offset).run Try.prog w = .ok (.int .i64 b) w := fun w => by rw [t1, o1]; exact run_part_plain w hk rfl
    have pc : ∀ w : World, (part f0.type #[Value.int .i64 c, .int .i64 d] f0.offset).run Try.prog w = .ok (.int .i64 c) w := fun w => by rw [t0, o0]; exact run_part_plain w hk rfl
    have pd : ∀ w : World, (part f1.type #[Value.int .i64 c, .int .i64 d] f1.offset).run Try.prog w = .ok (.int .i64 d) w := fun w => by rw [t1, o1]; exact run_part_plain w hk rfl
    have q0 : ∀ (u v : Int) (w : World), (Op.equalIn 9999 f0.type (.int .i64 u) (.int .i64 v)).run Try.prog w = .ok (u == v) w := by rw [t0]; exact q
    have q1 : ∀ (u v : Int) (w : World), (Op.equalIn 9999 f1.type (.int .i64 u) (.int .i64 v)).run Try.prog w = .ok (u == v) w := by rw [t1]; exact q
    simp only [Op.eqFields, m0, m1, ne_eq, not_false_eq_true, if_true, Sem.run_bind, pa, pb, pc, pd, q0, q1, Result.andThen_ok, Sem.run_ite, Sem.run_pure]
    unfold eqA
    cases (a == c) <;> cases (b == d) <;> simp
  simp [execOp, ho, st.eval hx, st.eval hy, hg, h2]
end
def sqv (s : Sq) : Int × Int × List Int := (s.kd, s.it, s.xs)
def sqk (s : Sq) : Int × Int × Nat := (s.kd, s.it, s.xs.length)
structure NtRest (w : World) (n : Nt) : Prop where
  xs : ∀ s ∈ n.ss, RdsW w s.iv 1 s.xs.length (s.xs.map (Value.int .i64))
  an : RdsW w n.av 2 n.gs.length (n.gs.flatMap anC)
  ou : RdsW w n.ov 1 n.os.length (n.os.map (Value.int .i64))
theorem NtRest.rds {w : World} {n : Nt} (h : NtRest w n) (hs : RdsW w n.sv 3 n.ss.length (n.ss.flatMap sqC)) : RdsNt w n := ⟨hs, h.xs, h.an, h.ou⟩
def RdsSqs (w : World) (ss : List Sq) : Prop := ∀ s ∈ ss, RdsW w s.iv 1 s.xs.length (s.xs.map (Value.int .i64))
theorem RdsSqs.nil (w : World) : RdsSqs w [] := fun s hs => by cases hs
theorem RdsSqs.at {w : World} {ss : List Sq} (h : RdsSqs w ss) {k : Nat} (hk : k < ss.length) : RdsW w (ss.getD k sq0).iv 1 (ss.getD k sq0).xs.length ((ss.getD k sq0).xs.map (Value.int .i64)) := h _ (zbl hk)
theorem RdsSqs.app {w : World} {ss : List Sq} {s : Sq} (h : RdsSqs w ss) (hs : RdsW w s.iv 1 s.xs.length (s.xs.map (Value.int .i64))) : RdsSqs w (ss ++ [s]) := fun r hr => by
  rcases List.mem_append.1 hr with hr | hr
  · exact h r hr
  · rw [List.mem_singleton] at hr; subst hr; exact hs
theorem RdsSqs.set {w : World} {ss : List Sq} {k : Nat} {s : Sq} (h : RdsSqs w ss) (hs : RdsW w s.iv 1 s.xs.length (s.xs.map (Value.int .i64))) : RdsSqs w (ss.set k s) := fun r hr => by
  rcases List.mem_or_eq_of_mem_set hr with hr | rfl
  · exact h r hr
  · exact hs
theorem zod {ss zs : List Sq} (h : zs.map sqv = ss.map sqv) : zs.length = ss.length := by simpa using congrArg List.length h
theorem zoe {ss zs : List Sq} (h : zs.map sqk = ss.map sqk) : zs.length = ss.length := by simpa using congrArg List.length h
theorem zoq {α β : Type} {f : α → β} {xs ys : List α} {d : α} (h : xs.map f = ys.map f) {k : Nat} (hk : k < ys.length) : f (xs.getD k d) = f (ys.getD k d) := by
  have hl : xs.length = ys.length := by simpa using congrArg List.length h
  have h1 : (xs.map f)[k]? = (ys.map f)[k]? := by rw [h]
  rw [List.getElem?_map, List.getElem?_map, List.getElem?_eq_getElem (by omega), List.getElem?_eq_getElem hk] at h1
  rw [List.getD_eq_getElem?_getD, List.getD_eq_getElem?_getD, List.getElem?_eq_getElem (by omega), List.getElem?_eq_getElem hk]
  simpa using h1
theorem zls {α β : Type} {f : α → β} {xs ys : List α} (h : xs.map f = ys.map f) {s : α} (hs : s ∈ xs) : ∃ r ∈ ys, f r = f s := by
  have h1 : f s ∈ ys.map f := h ▸ List.mem_map.2 ⟨s, hs, rfl⟩
  exact List.mem_map.1 h1
def mpL (tos : List Int) (l : Int) : Int := if l % 2 = 0 then tos.getD (l / 2).toNat 0 else xr (tos.getD (l / 2).toNat 0)
theorem zse {tos : List Int} {l : Int} (h0 : 0 ≤ tos.getD (l / 2).toNat 0) (h1 : tos.getD (l / 2).toNat 0 < 4294967296) : bits .xor .i64 (tos.getD (l / 2).toNat 0) (l % 2) = mpL tos l := by
  unfold mpL
  rcases (show l % 2 = 0 ∨ l % 2 = 1 by omega) with e | e
  · rw [e, if_pos rfl]
    have hz : ∀ a : Int, 0 ≤ a → a < 4294967296 → bits .xor .i64 a 0 = a := fun a h0 h1 => by
      have := Bit.xor_int a 0 h0 (by omega) (by omega) (by omega)
      rw [this]; simp; omega
    exact hz _ h0 h1
  · rw [e, if_neg (by decide)]; exact zvx h0 h1
def MapOk (tos : List Int) (c m : Int) : Prop := (tos.length : Int) = c ∧ ∀ k, k < tos.length → LtOk (tos.getD k 0) m
theorem MapOk.lit {tos : List Int} {c m : Int} (h : MapOk tos c m) {l : Int} (hl : LtOk l c) : LtOk (tos.getD (l / 2).toNat 0) m ∧ LtOk (mpL tos l) m := by
  have h1 := h.1
  unfold LtOk at hl
  have h2 := h.2 (l / 2).toNat (by omega)
  refine ⟨h2, ?_⟩
  unfold mpL; split
  · exact h2
  · exact xr_ok h2
theorem MapOk.up {tos : List Int} {c m m' : Int} (h : MapOk tos c m) (hm : m ≤ m') : MapOk tos c m' := ⟨h.1, fun k hk => ⟨(h.2 k hk).1, by have := (h.2 k hk).2; omega⟩⟩
theorem MapOk.app {tos : List Int} {c m x : Int} (h : MapOk tos c m) (hx : LtOk x m) : MapOk (tos ++ [x]) (c + 1) m := ⟨by rw [List.length_append, List.length_singleton]; have := h.1; omega, fun k hk => by
  rw [List.length_append, List.length_singleton] at hk
  by_cases c : k < tos.length
  · rw [zen c]; exact h.2 k c
  · rw [zeo (by omega), show k - tos.length = 0 by omega]; exact hx⟩
def mpS (tos lits : List Int) : List Int := lits.map (mpL tos)
theorem zqe {tos : List Int} {c m : Int} (h : MapOk tos c m) {lits : List Int} (hl : ∀ x ∈ lits, LtOk x c) : ∀ x ∈ mpS tos lits, LtOk x m := fun x hx => by
  obtain ⟨l, h1, rfl⟩ := List.mem_map.1 hx
  exact (h.lit (hl l h1)).2
def evs2 (k : Nat) : List Int := (List.range k).map fun i : Nat => 2 * (i : Int)
theorem ztu (k : Nat) : evs2 k ++ [2 * (k : Int)] = evs2 (k + 1) := by unfold evs2; rw [List.range_succ, List.map_append]; rfl
theorem zmh (k : Nat) : (evs2 k).length = k := by simp [evs2]
theorem ztv {k : Nat} {m : Int} (h : (k : Int) ≤ m) : MapOk (evs2 k) k m := ⟨by rw [zmh], fun j hj => by
  rw [zmh] at hj
  have e : (evs2 k).getD j 0 = 2 * (j : Int) := by
    unfold evs2
    rw [List.getD_eq_getElem?_getD, List.getElem?_map, List.getElem?_range hj]; rfl
  rw [e]; unfold LtOk; omega⟩
structure Skel (n n2 : Nt) : Prop where
  ins : n2.ins = n.ins
  ss : n2.ss.map sqk = n.ss.map sqk
theorem Skel.fst {n n2 : Nt} (h : Skel n n2) : n2.fst = n.fst := by show 1 + n2.ins + (n2.ss.length : Int) = 1 + n.ins + n.ss.length; rw [h.ins, zoe h.ss]
theorem Skel.len {n n2 : Nt} (h : Skel n n2) : n2.ss.length = n.ss.length := zoe h.ss
theorem Skel.sq {n n2 : Nt} (h : Skel n n2) (hn : ∀ s ∈ n.ss, SqOk s) : ∀ s ∈ n2.ss, SqOk s := fun s hs => by
  obtain ⟨r, hr, he⟩ := zls h.ss hs
  simp only [sqk, Prod.mk.injEq] at he
  exact ⟨by rw [← he.1, ← he.2.1, ← he.2.2]; exact (hn r hr).kind⟩
theorem Skel.trans {a b c : Nt} (h : Skel a b) (h' : Skel b c) : Skel a c := ⟨h'.ins.trans h.ins, h'.ss.trans h.ss⟩
theorem zil {zs ss : List Sq} (h : zs.map sqv = ss.map sqv) : zs.map sqk = ss.map sqk := by
  have e : sqk = (fun p : Int × Int × List Int => (p.1, p.2.1, p.2.2.length)) ∘ sqv := rfl
  rw [e, ← List.map_map, ← List.map_map, h]
structure Grew (n n2 : Nt) (x : Int) : Prop where
  sk : Skel n n2
  ok : NtOk n2
  l0 : n.gs.length ≤ n2.gs.length
  l1 : n2.gs.length ≤ n.gs.length + 1
  lit : LtOk x n2.cnt
theorem Grew.cnt {n n2 : Nt} {x : Int} (h : Grew n n2 x) : n.cnt ≤ n2.cnt := by show n.fst + (n.gs.length : Int) ≤ n2.fst + n2.gs.length; have := h.l0; rw [h.sk.fst]; omega
theorem zla {α : Type} (f : α → List Value) (xs : List α) (h : ∀ r u, u ∈ f r → u.oneCell' = true) : ∀ q ∈ xs.flatMap f, q.oneCell' = true := fun q hq => by
  obtain ⟨r, -, h2⟩ := List.mem_flatMap.1 hq
  exact h r q h2
structure CopyOf (n n2 : Nt) : Prop where
  ins : n2.ins = n.ins
  gs : n2.gs = n.gs
  os : n2.os = n.os
  ss : n2.ss.map sqv = n.ss.map sqv
theorem CopyOf.sk {n n2 : Nt} (h : CopyOf n n2) : Skel n n2 := ⟨h.ins, zil h.ss⟩
theorem CopyOf.cnt {n n2 : Nt} (h : CopyOf n n2) : n2.cnt = n.cnt := by show n2.fst + (n2.gs.length : Int) = n.fst + n.gs.length; rw [h.sk.fst, h.gs]
theorem CopyOf.ok {n n2 : Nt} (h : CopyOf n n2) (hn : NtOk n) : NtOk n2 :=
  ⟨by rw [h.ins]; exact hn.i0, by rw [h.ins]; exact hn.i1, by rw [h.sk.len]; exact hn.s1, by rw [h.gs]; exact hn.a1, by rw [h.os]; exact hn.o1, h.sk.sq hn.sq, fun s hs => by
    obtain ⟨r, hr, he⟩ := zls h.ss hs
    simp only [sqv, Prod.mk.injEq] at he
    rw [← he.2.2, h.cnt]; exact hn.xs r hr, by rw [h.gs, h.sk.fst]; exact hn.an, by rw [h.os, h.cnt]; exact hn.ou⟩
theorem CopyOf.same {n n2 : Nt} (h : CopyOf n n2) (hn : NtOk n) {x : Int} (hx : LtOk x n.cnt) : Grew n n2 x := ⟨h.sk, h.ok hn, by rw [h.gs]; exact Nat.le_refl _, by rw [h.gs]; omega, by rw [h.cnt]; exact hx⟩
theorem NtOk.add {n : Nt} (hn : NtOk n) {a b : Int} (ha : LtOk a n.cnt) (hb : LtOk b n.cnt) (hl : n.gs.length < 300) (v : Value) : NtOk { n with av := v, gs := n.gs ++ [An.mk a b] } := by
  have hc : ({ n with av := v, gs := n.gs ++ [An.mk a b] } : Nt).cnt = n.cnt + 1 := by show 1 + n.ins + (n.ss.length : Int) + ((n.gs ++ [An.mk a b]).length : Int) = 1 + n.ins + n.ss.length + n.gs.length + 1; rw [List.length_append, List.length_singleton]; omega
  have up : ∀ x, LtOk x n.cnt → LtOk x (n.cnt + 1) := fun x h => ⟨h.1, by have := h.2; omega⟩
  refine ⟨hn.i0, hn.i1, hn.s1, by show (n.gs ++ [An.mk a b]).length ≤ 300; rw [List.length_append, List.length_singleton]; omega, hn.o1, hn.sq, fun s hs x hx => by rw [hc]; exact up _ (hn.xs s hs x hx), fun k hk => ?_, fun x hx => by rw [hc]; exact up _ (hn.ou x hx)⟩
  show LtOk ((n.gs ++ [An.mk a b]).getD k an0).a (n.fst + k) ∧ LtOk ((n.gs ++ [An.mk a b]).getD k an0).b (n.fst + k)
  have hk' : k < n.gs.length + 1 := by have : k < (n.gs ++ [An.mk a b]).length := hk; rwa [List.length_append, List.length_singleton] at this
  by_cases c : k < n.gs.length
  · rw [zen c]; exact hn.an k c
  · rw [zeo (by omega), show k - n.gs.length = 0 by omega, show k = n.gs.length by omega]; exact ⟨ha, hb⟩
theorem CopyOf.put {n n2 : Nt} (h : CopyOf n n2) (hn : NtOk n) {a b : Int} (ha : LtOk a n.cnt) (hb : LtOk b n.cnt) (hl : n.gs.length < 300) (v : Value) : Grew n { n2 with av := v, gs := n2.gs ++ [An.mk (min a b) (if a < b then b else a)] } (2 * n.cnt) := by
  have h2 := h.ok hn
  have hm : LtOk (min a b) n.cnt ∧ LtOk (if a < b then b else a) n.cnt := by unfold LtOk at *; omega
  refine ⟨⟨h.ins, zil h.ss⟩, h2.add (by rw [h.cnt]; exact hm.1) (by rw [h.cnt]; exact hm.2) (by rw [h.gs]; exact hl) v, ?_, ?_, ?_⟩
  · show n.gs.length ≤ (n2.gs ++ _).length; rw [List.length_append, h.gs]; omega
  · show (n2.gs ++ _).length ≤ n.gs.length + 1; rw [List.length_append, List.length_singleton, h.gs]; exact Nat.le_refl _
  · have hc : ({ n2 with av := v, gs := n2.gs ++ [An.mk (min a b) (if a < b then b else a)] } : Nt).cnt = n.cnt + 1 := by
      show n2.fst + ((n2.gs ++ _).length : Int) = n.fst + n.gs.length + 1; rw [List.length_append, List.length_singleton, h.gs, h.sk.fst]; omega
    rw [hc]
    have hc0 : 0 ≤ n.cnt := by have := hn.i0; show 0 ≤ 1 + n.ins + (n.ss.length : Int) + n.gs.length; omega
    unfold LtOk; omega
theorem zuc {n : Nt} (hn : NtOk n) : 1 ≤ n.fst ∧ n.fst ≤ 33 ∧ n.fst ≤ n.cnt ∧ n.cnt ≤ 333 ∧ n.cnt = n.fst + n.gs.length ∧ n.fst = 1 + n.ins + n.ss.length := by
  have := hn.i0; have := hn.i1; have := hn.s1; have := hn.a1
  have e : n.cnt = n.fst + n.gs.length := by unfold Nt.cnt Nt.fst; omega
  have e2 : n.fst = 1 + n.ins + n.ss.length := rfl
  omega
theorem sqk_set {ss : List Sq} {k : Nat} {s : Sq} (h : sqk s = sqk (ss.getD k sq0)) (hk : k < ss.length) : (ss.set k s).map sqk = ss.map sqk := by
  rw [List.map_set, h]
  have : (ss.map sqk)[k]? = some (sqk (ss.getD k sq0)) := by rw [List.getElem?_map, List.getD_eq_getElem?_getD, List.getElem?_eq_getElem hk]; rfl
  exact zhz this
theorem zlc (x0 : Int) (x1 : Int) (x2 : Value) (h2 : x2.oneCell' = true) : Try.prog.built 66 [(0, .int .i64 x0), (1, .int .i64 x1), (2, x2)] = some #[.int .i64 x0, .int .i64 x1, x2] := by
  (cases x2 <;> first | (exact absurd h2 Bool.false_ne_true) | kernel_rfl)
theorem zrw (x0 : Int) (x1 : Value) (x2 : Value) (x3 : Value) (h1 : x1.oneCell' = true) (h2 : x2.oneCell' = true) (h3 : x3.oneCell' = true) : Try.prog.built 86 [(0, .int .i64 x0), (1, x1), (2, x2), (3, x3)] = some #[.int .i64 x0, x1, x2, x3] := by
  (cases x1 <;> first | (exact absurd h1 Bool.false_ne_true) | (cases x2 <;> first | (exact absurd h2 Bool.false_ne_true) | (cases x3 <;> first | (exact absurd h3 Bool.false_ne_true) | kernel_rfl)))
theorem zft {P : Program} {N : Nat} {w0 : World} {l : List HP} {env : List (Nat × Value)} {o : Oper} {t : TypeId} {ps : Array (Nat × Operand)} {vs : List (Nat × Value)} {cs : Array Value} (ho : o.op = .build t ps)
    (hp : ps.toList.mapM (fun p => (ev env p.2).map fun v => (p.1, v)) = some vs) (hb : ∀ w, Mem w0 l w → P.built t vs = some cs) : RunV P N w0 l env o (.agg cs) := fun a w st => zcw ho hp (hb w st.mem) a w st
theorem zgy (ss : List Sq) (v : Value) (w : World) (hv : RdsW w v 3 ss.length (ss.flatMap sqC)) (hx : RdsSqs w ss) (hl : ss.length ≤ 12) (h4 : ∀ s ∈ ss, s.xs.length ≤ 4) :
   Calls Try.prog 118 #[v] w (Ret w (fun u_ p_ => ∃ (ps : List HP) (zs : List Sq), p_ = [rowE 66 3 u_ zs.length (zs.flatMap sqC), bigE ps] ∧ (∀ w, (bigE ps).holds w → RdsSqs w zs) ∧ zs.map sqv = ss.map sqv)) := by
 refine zbf (N := 34) (args := [v]) Try.func118 rfl rfl (zbd 1 rfl (srQ ?_))
 refine zdk rfl (zbz (s := 3) rfl Try.underlying26 rfl) ?_
 intro g1
 refine zaz 1 rfl (zac (zbd 1 rfl (zax ?_)))
 refine zep _ zfh ?_
 refine zrs (α := Nat) (β := List Sq) (γ := Value) (δ := List HP) [0, 2] rfl (fun i zs gu ps => [bigE ps, rowE 66 3 gu zs.length (zs.flatMap sqC)]) (fun i zs gu ps => [(3, gu), (4, .int .i64 (i : Int))]) (fun i zs gu ps => i ≤ ss.length ∧ zs.map sqv = (ss.take i).map sqv ∧ ∀ w, (bigE ps).holds w → RdsSqs w zs) (fun i zs gu ps => ss.length - i) 0 [] _ _ ⟨by omega, by simp, fun w _ => RdsSqs.nil w⟩ (saQ rfl) (pfQ rfl) ?_
 intro i zs gu ps hi2
 obtain ⟨hi, hz, hps⟩ := hi2
 have hzl : zs.length = i := by have h9 := zod hz; rw [List.length_take] at h9; omega
 refine zac (zac (reQ 2 rfl (hvQ rfl (lnQ rfl rfl rfl (zab hv)) ?_)))
 refine zbj rfl rfl rfl rfl rfl rfl (fun h3 => ?_) (fun h3 => ?_)
 ·
  refine ntQ (zak rfl (zcq (sbQ ?_)))
  have h44 := h4 _ (zbl (d := sq0) (show i < ss.length by omega))
  refine zie (l := [bigE ps, rowE 66 3 gu zs.length (zs.flatMap sqC)]) rfl 20 [0, 1, 2, 3, 4, 5, 6, 7, 8, 9, 10, 11, 12, 13, 14, 15, 16, 17, 18, 19] (List.take 20 _) (List.drop 20 _) [[], [], [], [1, 2], [3], [4], [], [], [6, 7], [8], [9], [], [], [], [12, 13], [14], [15], [11, 16], [5, 10, 17], [17, 18]] [some 12, some 13, some 14, some 15, some 16, some 17, some 18, some 19, some 20, some 21, some 22, some 23, some 24, some 25, some 26, some 27, some 28, some 29, some 30, some 31] (fun i_ vs_ v_ p_ => match i_ with | 0 => v_ = gu ∧ p_ = [] | 1 => v_ = v ∧ p_ = [] | 2 => v_ = .int .i64 (i : Int) ∧ p_ = [] | 3 => v_ = elP v (((i : Int)).toNat * 3) ∧ p_ = [] | 4 => v_ = elP v (((i : Int)).toNat * 3 + 0) ∧ p_ = [] | 5 => v_ = .int .i64 ((ss.getD i sq0).kd) ∧ p_ = [] | 6 => v_ = v ∧ p_ = [] | 7 => v_ = .int .i64 (i : Int) ∧ p_ = [] | 8 => v_ = elP v (((i : Int)).toNat * 3) ∧ p_ = [] | 9 => v_ = elP v (((i : Int)).toNat * 3 + 1) ∧ p_ = [] | 10 => v_ = .int .i64 ((ss.getD i sq0).it) ∧ p_ = [] | 11 => IsRow 3 1 0 ([]) v_ p_ | 12 => v_ = v ∧ p_ = [] | 13 => v_ = .int .i64 (i : Int) ∧ p_ = [] | 14 => v_ = elP v (((i : Int)).toNat * 3) ∧ p_ = [] | 15 => v_ = elP v (((i : Int)).toNat * 3 + 2) ∧ p_ = [] | 16 => v_ = (ss.getD i sq0).iv ∧ p_ = [] | 17 => (∃ pm_, p_ = [pm_] ∧ (fun u_ p_ => p_ = rowE 3 1 u_ (((ss.getD i sq0).xs).length) (((ss.getD i sq0).xs).map (Value.int .i64))) v_ pm_) | 18 => v_ = .agg #[.int .i64 ((ss.getD i sq0).kd), .int .i64 ((ss.getD i sq0).it), (List.getD vs_ 2 undef)] ∧ p_ = [] | 19 => IsRow 66 3 1 ([.int .i64 ((ss.getD i sq0).kd), .int .i64 ((ss.getD i sq0).it), (List.getD vs_ 0 undef)]) v_ p_ | _ => True) [[], [], [], [1, 2], [3], [4], [], [], [6, 7], [8], [9], [], [], [], [12, 13], [14], [15], [16], [5, 10, 17], [17, 18]] [none, none, none, none, none, none, none, none, none, none, none, none, none, none, none, none, none, some 11, none, none] [] [0, 1, 2, 3, 4, 5, 6, 7, 8, 9, 10, 12, 13, 14, 15, 16, 17, 18, 19] 22 (List.take_append_drop 20 _).symm (by kernel_rfl) (by kernel_rfl) (by kernel_rfl) rfl rfl ?_ ?_
  ·
   refine ⟨?_, ?_, ?_, ?_, ?_, ?_, ?_, ?_, ?_, ?_, ?_, ?_, ?_, ?_, ?_, ?_, ?_, ?_, ?_, ?_, trivial⟩
   ·
    intro vf pf hmu hR
    refine zeg [] [] rfl (zcg (zam [3] rfl) ?_)
    exact zbg (zas rfl)
   ·
    intro vf pf hmu hR
    refine zeg [] [] rfl (zcg (zam [0] rfl) ?_)
    exact zbg (zas rfl)
   ·
    intro vf pf hmu hR
    refine zeg [] [] rfl (zcg (zam [4] rfl) ?_)
    exact zbg (zas rfl)
   ·
    intro vf pf hmu hR
    have e1 := hR 1 (by decide)
    have e2 := hR 2 (by decide)
    refine zeg [1, 2] [1, 2] rfl (zbo (sk 13 (congrArg some e1.1) (sk 14 (congrArg some e2.1) (zaf _))) (List.sublist_append_right _ _) ?_)
    exact zbg (riQ 3 rfl rfl rfl rfl (zab hv))
   ·
    intro vf pf hmu hR
    have e3 := hR 3 (by decide)
    refine zeg [3] [3] rfl (zbo (sk 15 (congrArg some e3.1) (zaf _)) (List.sublist_append_right _ _) ?_)
    exact zbg (zbe (k0 := 0) rfl rfl rfl (zab hv) (by omega))
   ·
    intro vf pf hmu hR
    have e4 := hR 4 (by decide)
    refine zeg [4] [4] rfl (zbo (sk 16 (congrArg some e4.1) (zaf _)) (List.sublist_append_right _ _) ?_)
    exact zbg (zar (u := .int .i64 ((ss.getD i sq0).kd)) rfl rfl rfl (zab hv) ((zce sqC 3 (fun _ => rfl) ss sq0 (show i < _ by omega) (by decide)).trans rfl))
   ·
    intro vf pf hmu hR
    refine zeg [] [] rfl (zcg (zam [0] rfl) ?_)
    exact zbg (zas rfl)
   ·
    intro vf pf hmu hR
    refine zeg [] [] rfl (zcg (zam [4] rfl) ?_)
    exact zbg (zas rfl)
   ·
    intro vf pf hmu hR
    have e6 := hR 6 (by decide)
    have e7 := hR 7 (by decide)
    refine zeg [6, 7] [6, 7] rfl (zbo (sk 18 (congrArg some e6.1) (sk 19 (congrArg some e7.1) (zaf _))) (List.sublist_append_right _ _) ?_)
    exact zbg (riQ 3 rfl rfl rfl rfl (zab hv))
   ·
    intro vf pf hmu hR
    have e8 := hR 8 (by decide)
    refine zeg [8] [8] rfl (zbo (sk 20 (congrArg some e8.1) (zaf _)) (List.sublist_append_right _ _) ?_)
    exact zbg (zbe (k0 := 1) rfl rfl rfl (zab hv) (by omega))
   ·
    intro vf pf hmu hR
    have e9 := hR 9 (by decide)
    refine zeg [9] [9] rfl (zbo (sk 21 (congrArg some e9.1) (zaf _)) (List.sublist_append_right _ _) ?_)
    exact zbg (zar (u := .int .i64 ((ss.getD i sq0).it)) rfl rfl rfl (zab hv) ((zce sqC 3 (fun _ => rfl) ss sq0 (show i < _ by omega) (by decide)).trans rfl))
   ·
    intro vf pf hmu hR
    refine zeg [] [] rfl (zbo (zaf _) (List.sublist_append_right _ _) ?_)
    exact zbz (s := 1) rfl Try.underlying28 rfl
   ·
    intro vf pf hmu hR
    refine zeg [] [] rfl (zcg (zam [0] rfl) ?_)
    exact zbg (zas rfl)
   ·
    intro vf pf hmu hR
    refine zeg [] [] rfl (zcg (zam [4] rfl) ?_)
    exact zbg (zas rfl)
   ·
    intro vf pf hmu hR
    have e12 := hR 12 (by decide)
    have e13 := hR 13 (by decide)
    refine zeg [12, 13] [12, 13] rfl (zbo (sk 24 (congrArg some e12.1) (sk 25 (congrArg some e13.1) (zaf _))) (List.sublist_append_right _ _) ?_)
    exact zbg (riQ 3 rfl rfl rfl rfl (zab hv))
   ·
    intro vf pf hmu hR
    have e14 := hR 14 (by decide)
    refine zeg [14] [14] rfl (zbo (sk 26 (congrArg some e14.1) (zaf _)) (List.sublist_append_right _ _) ?_)
    exact zbg (zbe (k0 := 2) rfl rfl rfl (zab hv) (by omega))
   ·
    intro vf pf hmu hR
    have e15 := hR 15 (by decide)
    refine zeg [15] [15] rfl (zbo (sk 27 (congrArg some e15.1) (zaf _)) (List.sublist_append_right _ _) ?_)
    exact zbg (zar (u := (ss.getD i sq0).iv) rfl rfl rfl (zab hv) ((zce sqC 3 (fun _ => rfl) ss sq0 (show i < _ by omega) (by decide)).trans rfl))
   ·
    intro vf pf hmu hR
    have e11 : IsRow 3 1 0 ([]) (vf 11) (pf 11) := hR 11 (by decide)
    obtain ⟨g4, vE11, pE11⟩ := e11
    have e16 := hR 16 (by decide)
    refine Or.inl ⟨rfl, ?_⟩
    show RunM _ _ _ (pf 11) (([16] : List Nat).flatMap pf ++ _) (envOf3 _ vf [11, 16] ++ _) _ _
    rw [pE11]; rw [vE11]
    exact zee (sk 23 (congrArg some vE11) (sk 28 (congrArg some e16.1) (zaf _))) (by simp only [e16.2, fS] <;> rfl) (zjs (d := 0) (z := .int .i64 0) (bytes := 8) (n' := ((ss.getD i sq0).xs).length) (xs' := (((ss.getD i sq0).xs).map (Value.int .i64))) rfl Try.underlying28 rfl rfl rfl rfl (zab (hx.at (k := i) (by omega))) (zbm _) (by first | omega | (simp; done) | (simp; omega)) (Nat.zero_add _) (List.nil_append _))
   ·
    intro vf pf hmu hR
    have e5 := hR 5 (by decide)
    have e10 := hR 10 (by decide)
    have e17 : (∃ pm_, (pf 17) = [pm_] ∧ (fun u_ p_ => p_ = rowE 3 1 u_ (((ss.getD i sq0).xs).length) (((ss.getD i sq0).xs).map (Value.int .i64))) (vf 17) pm_) := hR 17 (by decide)
    obtain ⟨p6, pE17, hR7⟩ := e17
    obtain ⟨v5, vE17⟩ : ∃ x, vf 17 = x := ⟨_, rfl⟩
    rw [vE17] at hR7
    subst hR7
    refine zeg [5, 10, 17] [5, 10, 17] rfl (zci (sk 17 (congrArg some e5.1) (sk 22 (congrArg some e10.1) (sk 29 (congrArg some vE17) (zaf _)))) (by simp only [pE17, vE17, e5.2, e10.2, fS] <;> rfl) ?_)
    exact zcy (zbg (zft (cs := #[.int .i64 ((ss.getD i sq0).kd), .int .i64 ((ss.getD i sq0).it), v5]) rfl rfl (fun w hm => zlc ((ss.getD i sq0).kd) ((ss.getD i sq0).it) v5 ((zae 0 rfl w hm).one)))) (fun _ _ h => ⟨h.1.trans (by show _ = (.agg #[.int .i64 ((ss.getD i sq0).kd), .int .i64 ((ss.getD i sq0).it), (vf 17)] : Value); first | (rw [vE17]; done) | (rw [vE17]; rfl)), h.2⟩)
   intro vf pf hmu hR
   have e17 : (∃ pm_, (pf 17) = [pm_] ∧ (fun u_ p_ => p_ = rowE 3 1 u_ (((ss.getD i sq0).xs).length) (((ss.getD i sq0).xs).map (Value.int .i64))) (vf 17) pm_) := hR 17 (by decide)
   obtain ⟨p6, pE17, hR7⟩ := e17
   obtain ⟨v5, vE17⟩ : ∃ x, vf 17 = x := ⟨_, rfl⟩
   rw [vE17] at hR7
   subst hR7
   have e18 : (vf 18) = .agg #[.int .i64 ((ss.getD i sq0).kd), .int .i64 ((ss.getD i sq0).it), (vf 17)] ∧ (pf 18) = [] := hR 18 (by decide)
   rw [vE17] at e18
   refine zeg [17, 18] [17, 18] rfl (zci (sk 30 (congrArg some e18.1) (zaf _)) (by simp only [pE17, vE17, e18.2, fS] <;> rfl) ?_)
   exact zcy (zat (z := .agg #[.int .i64 0, .int .i64 0, .slice none 0 0]) (s := 3) (cs := [.int .i64 ((ss.getD i sq0).kd), .int .i64 ((ss.getD i sq0).it), v5]) rfl Try.underlying26 rfl (by decide) rfl (by kernel_rfl) rfl) (fun v_ p_ h => by show IsRow 66 3 1 ([.int .i64 ((ss.getD i sq0).kd), .int .i64 ((ss.getD i sq0).it), (vf 17)]) v_ p_; rw [vE17]; exact h)
  intro vf pf hmu hR
  have e0 := hR 0 (by decide)
  have e11 : IsRow 3 1 0 ([]) (vf 11) (pf 11) := hR 11 (by decide)
  obtain ⟨g4, vE11, pE11⟩ := e11
  have e17 : (∃ pm_, (pf 17) = [pm_] ∧ (fun u_ p_ => p_ = rowE 3 1 u_ (((ss.getD i sq0).xs).length) (((ss.getD i sq0).xs).map (Value.int .i64))) (vf 17) pm_) := hR 17 (by decide)
  obtain ⟨p6, pE17, hR7⟩ := e17
  obtain ⟨v5, vE17⟩ : ∃ x, vf 17 = x := ⟨_, rfl⟩
  rw [vE17] at hR7
  subst hR7
  have e19 : IsRow 66 3 1 ([.int .i64 ((ss.getD i sq0).kd), .int .i64 ((ss.getD i sq0).it), (vf 17)]) (vf 19) (pf 19) := hR 19 (by decide)
  rw [vE17] at e19
  obtain ⟨g8, vE19, pE19⟩ := e19
  have q0 := hR 0 (by decide)
  have q1 := hR 1 (by decide)
  have q2 := hR 2 (by decide)
  have q3 := hR 3 (by decide)
  have q4 := hR 4 (by decide)
  have q5 := hR 5 (by decide)
  have q6 := hR 6 (by decide)
  have q7 := hR 7 (by decide)
  have q8 := hR 8 (by decide)
  have q9 := hR 9 (by decide)
  have q10 := hR 10 (by decide)
  have q12 := hR 12 (by decide)
  have q13 := hR 13 (by decide)
  have q14 := hR 14 (by decide)
  have q15 := hR 15 (by decide)
  have q16 := hR 16 (by decide)
  have q18 := hR 18 (by decide)
  refine zco (zbk [9, 4, 3, 2, 0] _ (sk 12 (congrArg some e0.1) (sk 31 (congrArg some vE19) (zaf _))) rfl) (by simp only [pE17, vE17, pE19, vE19, q0.2, q1.2, q2.2, q3.2, q4.2, q5.2, q6.2, q7.2, q8.2, q9.2, q10.2, q12.2, q13.2, q14.2, q15.2, q16.2, q18.2, fS] <;> rfl) ?_
  simp only [List.drop_succ_cons, List.drop_zero]
  refine zdn (i := 0) rfl (fun ho9 => ?_)
  refine zcd (i := 3) (z := .agg #[.int .i64 0, .int .i64 0, .slice none 0 0]) (bytes := 40) rfl rfl rfl rfl Try.underlying26 (by kernel_rfl) rfl rfl rfl rfl (zae 1 rfl) (zah rfl (zah rfl (zah ho9 zbr))) (by first | omega | (simp only [List.length_append, List.length_cons, List.length_nil]; omega)) (zbv zs [(Sq.mk ((ss.getD i sq0).kd) ((ss.getD i sq0).it) v5 (ss.getD i sq0).xs)]) (zcx sqC zs (Sq.mk ((ss.getD i sq0).kd) ((ss.getD i sq0).it) v5 (ss.getD i sq0).xs) _ rfl) (fun _ => rfl) ?_
  intro v10
  refine enQ 1 rfl (zcv (reQ 1 rfl (hvQ rfl (vaQ rfl rfl rfl) (enQ 1 rfl ?_))))
  refine zbw 4 [3, 0, 2] rfl rfl (by decide) ?_
  refine zcz 2 rfl ?_
  exact zct (i + 1) (zs ++ [(Sq.mk ((ss.getD i sq0).kd) ((ss.getD i sq0).it) v5 (ss.getD i sq0).xs)]) v10 [bigE ps, rowE 3 1 v5 (((ss.getD i sq0).xs).length) (((ss.getD i sq0).xs).map (Value.int .i64))] ⟨by omega, by rw [List.map_append, hz, zdb sq0 (show i < ss.length by omega), List.map_append]; rfl, fun w hw => (hps w (zbh hw List.mem_cons_self)).app (zcf (zbh hw (List.mem_cons_of_mem _ List.mem_cons_self)))⟩ (by omega) (saQ rfl) (pfQ rfl)
 refine ntQ (zal rfl ?_)
 refine zba (zdq ?_)
 refine zag (zaw (zbd 2 rfl ?_))
 refine zau (zbw 2 [0, 1] rfl rfl (by decide) ?_)
 exact zck (post := [rowE 66 3 gu zs.length (zs.flatMap sqC), bigE ps]) rfl rfl (.refl _) ⟨_, zs, rfl, hps, by rw [hz, List.take_of_length_le (by omega)]⟩
theorem zox (n : Nt) (w : World) (hr : RdsNt w n) (hn : NtOk n) :
   Calls Try.prog 119 #[.agg #[.int .i64 n.ins, n.sv, n.av, n.ov]] w (Ret w (fun u_ p_ => ∃ (ps : List HP) (m : Nt), u_ = m.agg ∧ p_ = [rowE 66 3 m.sv m.ss.length (m.ss.flatMap sqC), rowE 126 2 m.av m.gs.length (m.gs.flatMap anC), bigE ps] ∧ (∀ w, (bigE ps).holds w → RdsSqs w m.ss ∧ RdsW w m.ov 1 m.os.length (m.os.map (Value.int .i64))) ∧ (m.sv.oneCell' = true ∧ m.ov.oneCell' = true) ∧ CopyOf n m)) := by
 have hi0 := hn.i0
 have hi1 := hn.i1
 have hs1 := hn.s1
 have ha1 := hn.a1
 have ho1 := hn.o1
 have hcnt : n.cnt = 1 + n.ins + n.ss.length + n.gs.length := rfl
 have hfst : n.fst = 1 + n.ins + n.ss.length := rfl
 refine zbf (N := 17) (args := [.agg #[.int .i64 n.ins, n.sv, n.av, n.ov]]) Try.func119 rfl rfl (srQ ?_)
 refine zdj rfl (zch rfl rfl) ?_
 intro b1
 refine zdj rfl (zbx (z := .agg #[.int .i64 0, .slice none 0 0, .slice none 0 0, .slice none 0 0]) rfl rfl) ?_
 intro b2
 refine ntQ (zac ?_)
 refine zie (l := [boxE b2 #[.int .i64 0, .slice none 0 0, .slice none 0 0, .slice none 0 0] 86, boxE b1 #[.int .i64 n.ins, n.sv, n.av, n.ov] 86]) rfl 13 [0, 1, 2, 3, 4, 5, 6, 7, 8, 9, 10, 11, 12] (List.take 13 _) (List.drop 13 _) [[], [0], [], [2], [3], [], [], [6], [5, 7], [], [], [10], [9, 11]] [some 3, some 4, some 5, some 6, some 7, some 8, some 9, some 10, some 11, some 12, some 13, some 14, some 15] (fun i_ vs_ v_ p_ => match i_ with | 0 => v_ = .pointer (some ⟨b1, 0 + 0, none⟩) ∧ p_ = [] | 1 => v_ = .int .i64 n.ins ∧ p_ = [] | 2 => v_ = .pointer (some ⟨b1, 0 + 1, none⟩) ∧ p_ = [] | 3 => v_ = n.sv ∧ p_ = [] | 4 => (fun u_ p_ => ∃ (ps : List HP) (zs : List Sq), p_ = [rowE 66 3 u_ zs.length (zs.flatMap sqC), bigE ps] ∧ (∀ w, (bigE ps).holds w → RdsSqs w zs) ∧ zs.map sqv = n.ss.map sqv) v_ p_ | 5 => IsRow 126 2 0 ([]) v_ p_ | 6 => v_ = .pointer (some ⟨b1, 0 + 2, none⟩) ∧ p_ = [] | 7 => v_ = n.av ∧ p_ = [] | 8 => (∃ pm_, p_ = [pm_] ∧ (fun u_ p_ => p_ = rowE 126 2 u_ n.gs.length (n.gs.flatMap anC)) v_ pm_) | 9 => IsRow 3 1 0 ([]) v_ p_ | 10 => v_ = .pointer (some ⟨b1, 0 + 3, none⟩) ∧ p_ = [] | 11 => v_ = n.ov ∧ p_ = [] | 12 => (∃ pm_, p_ = [pm_] ∧ (fun u_ p_ => p_ = rowE 3 1 u_ n.os.length (n.os.map (Value.int .i64))) v_ pm_) | _ => True) [[], [0], [], [2], [3], [], [], [6], [7], [], [], [10], [11]] [none, none, none, none, none, none, none, none, some 5, none, none, none, some 9] [] [0, 1, 2, 3, 4, 6, 7, 8, 10, 11, 12] 15 (List.take_append_drop 13 _).symm (by kernel_rfl) (by kernel_rfl) (by kernel_rfl) rfl rfl ?_ ?_
 ·
  refine ⟨?_, ?_, ?_, ?_, ?_, ?_, ?_, ?_, ?_, ?_, ?_, ?_, ?_, trivial⟩
  ·
   intro vf pf hmu hR
   refine zeg [] [] rfl (zcg (zam [1] rfl) ?_)
   exact zbg (fdQ 0 rfl rfl rfl)
  ·
   intro vf pf hmu hR
   have e0 := hR 0 (by decide)
   refine zeg [0] [0] rfl (zbo (sk 3 (congrArg some e0.1) (zaf _)) (List.sublist_append_right _ _) ?_)
   exact zbg (zad rfl rfl rfl (zaa 1 rfl rfl))
  ·
   intro vf pf hmu hR
   refine zeg [] [] rfl (zcg (zam [1] rfl) ?_)
   exact zbg (fdQ 1 rfl rfl rfl)
  ·
   intro vf pf hmu hR
   have e2 := hR 2 (by decide)
   refine zeg [2] [2] rfl (zbo (sk 5 (congrArg some e2.1) (zaf _)) (List.sublist_append_right _ _) ?_)
   exact zbg (zad rfl rfl rfl (zaa 1 rfl rfl))
  ·
   intro vf pf hmu hR
   have e3 := hR 3 (by decide)
   refine zeg [3] [3] rfl (zbo (sk 6 (congrArg some e3.1) (zaf _)) (List.sublist_append_right _ _) ?_)
   exact zaq rfl rfl (fun w hm => zgy n.ss _ w (hr.sq.below hm.bel) (fun s hs => (hr.xs s hs).below hm.bel) hn.s1 (fun s hs => (hn.sq s hs).len))
  ·
   intro vf pf hmu hR
   refine zeg [] [] rfl (zbo (zaf _) (List.sublist_append_right _ _) ?_)
   exact zbz (s := 2) rfl Try.underlying84 rfl
  ·
   intro vf pf hmu hR
   refine zeg [] [] rfl (zcg (zam [1] rfl) ?_)
   exact zbg (fdQ 2 rfl rfl rfl)
  ·
   intro vf pf hmu hR
   have e6 := hR 6 (by decide)
   refine zeg [6] [6] rfl (zbo (sk 9 (congrArg some e6.1) (zaf _)) (List.sublist_append_right _ _) ?_)
   exact zbg (zad rfl rfl rfl (zaa 1 rfl rfl))
  ·
   intro vf pf hmu hR
   have e5 : IsRow 126 2 0 ([]) (vf 5) (pf 5) := hR 5 (by decide)
   obtain ⟨g6, vE5, pE5⟩ := e5
   have e7 := hR 7 (by decide)
   refine Or.inl ⟨rfl, ?_⟩
   show RunM _ _ _ (pf 5) (([7] : List Nat).flatMap pf ++ _) (envOf3 _ vf [5, 7] ++ _) _ _
   rw [pE5]; rw [vE5]
   exact zee (sk 8 (congrArg some vE5) (sk 10 (congrArg some e7.1) (zaf _))) (by simp only [e7.2, fS] <;> rfl) (zjs (d := 0) (z := .agg #[.int .i64 0, .int .i64 0]) (bytes := 16) (n' := n.gs.length) (xs' := (n.gs.flatMap anC)) rfl Try.underlying84 rfl rfl rfl rfl (zab hr.an) (zla anC n.gs (fun r u hu => by simp [anC] at hu; first | (subst hu; rfl) | (rcases hu with rfl | rfl <;> rfl))) (by first | omega | (simp only [List.length_take, List.length_drop]; omega)) (Nat.zero_add _) (List.nil_append _))
  ·
   intro vf pf hmu hR
   refine zeg [] [] rfl (zbo (zaf _) (List.sublist_append_right _ _) ?_)
   exact zbz (s := 1) rfl Try.underlying28 rfl
  ·
   intro vf pf hmu hR
   refine zeg [] [] rfl (zcg (zam [1] rfl) ?_)
   exact zbg (fdQ 3 rfl rfl rfl)
  ·
   intro vf pf hmu hR
   have e10 := hR 10 (by decide)
   refine zeg [10] [10] rfl (zbo (sk 13 (congrArg some e10.1) (zaf _)) (List.sublist_append_right _ _) ?_)
   exact zbg (zad rfl rfl rfl (zaa 1 rfl rfl))
  intro vf pf hmu hR
  have e9 : IsRow 3 1 0 ([]) (vf 9) (pf 9) := hR 9 (by decide)
  obtain ⟨g10, vE9, pE9⟩ := e9
  have e11 := hR 11 (by decide)
  refine Or.inl ⟨rfl, ?_⟩
  show RunM _ _ _ (pf 9) (([11] : List Nat).flatMap pf ++ _) (envOf3 _ vf [9, 11] ++ _) _ _
  rw [pE9]; rw [vE9]
  exact zee (sk 12 (congrArg some vE9) (sk 14 (congrArg some e11.1) (zaf _))) (by simp only [e11.2, fS] <;> rfl) (zjs (d := 0) (z := .int .i64 0) (bytes := 8) (n' := n.os.length) (xs' := (n.os.map (Value.int .i64))) rfl Try.underlying28 rfl rfl rfl rfl (zab hr.ou) (zbm _) (by first | omega | (simp; done) | (simp; omega)) (Nat.zero_add _) (List.nil_append _))
 intro vf pf hmu hR
 have e1 := hR 1 (by decide)
 have e4 : (fun u_ p_ => ∃ (ps : List HP) (zs : List Sq), p_ = [rowE 66 3 u_ zs.length (zs.flatMap sqC), bigE ps] ∧ (∀ w, (bigE ps).holds w → RdsSqs w zs) ∧ zs.map sqv = n.ss.map sqv) (vf 4) (pf 4) := hR 4 (by decide)
 obtain ⟨v3, vE4⟩ : ∃ x, vf 4 = x := ⟨_, rfl⟩
 obtain ⟨p4, pE4⟩ : ∃ x, pf 4 = x := ⟨_, rfl⟩
 have hR5 := e4
 rw [vE4, pE4] at hR5
 obtain ⟨ps, zs, rfl, hps, hzs⟩ := hR5
 have e5 : IsRow 126 2 0 ([]) (vf 5) (pf 5) := hR 5 (by decide)
 obtain ⟨g6, vE5, pE5⟩ := e5
 have e8 : (∃ pm_, (pf 8) = [pm_] ∧ (fun u_ p_ => p_ = rowE 126 2 u_ n.gs.length (n.gs.flatMap anC)) (vf 8) pm_) := hR 8 (by decide)
 obtain ⟨p8, pE8, hR9⟩ := e8
 obtain ⟨v7, vE8⟩ : ∃ x, vf 8 = x := ⟨_, rfl⟩
 rw [vE8] at hR9
 subst hR9
 have e9 : IsRow 3 1 0 ([]) (vf 9) (pf 9) := hR 9 (by decide)
 obtain ⟨g10, vE9, pE9⟩ := e9
 have e12 : (∃ pm_, (pf 12) = [pm_] ∧ (fun u_ p_ => p_ = rowE 3 1 u_ n.os.length (n.os.map (Value.int .i64))) (vf 12) pm_) := hR 12 (by decide)
 obtain ⟨p12, pE12, hR13⟩ := e12
 obtain ⟨v11, vE12⟩ : ∃ x, vf 12 = x := ⟨_, rfl⟩
 rw [vE12] at hR13
 subst hR13
 have q0 := hR 0 (by decide)
 have q1 := hR 1 (by decide)
 have q2 := hR 2 (by decide)
 have q3 := hR 3 (by decide)
 have q6 := hR 6 (by decide)
 have q7 := hR 7 (by decide)
 have q10 := hR 10 (by decide)
 have q11 := hR 11 (by decide)
 refine zco (zbk [2, 1, 0] _ (sk 4 (congrArg some e1.1) (sk 7 (congrArg some vE4) (sk 11 (congrArg some vE8) (sk 15 (congrArg some vE12) (zaf _))))) rfl) (by simp only [pE4, vE4, pE8, vE8, pE12, vE12, q0.2, q1.2, q2.2, q3.2, q6.2, q7.2, q10.2, q11.2, fS] <;> rfl) ?_
 simp only [List.drop_succ_cons, List.drop_zero]
 refine hvQ rfl (zft (cs := #[.int .i64 n.ins, v3, v7, v11]) rfl rfl (fun w hm => zrw n.ins v3 v7 v11 ((zae 0 rfl w hm).one) ((zae 2 rfl w hm).one) ((zae 3 rfl w hm).one))) (zdn (i := 3) rfl (fun ho14 => ?_))
 refine zdn (i := 2) rfl (fun ho15 => ?_)
 refine zdn (i := 0) rfl (fun ho16 => ?_)
 refine zcc (cs' := #[.int .i64 n.ins, v3, v7, v11]) (i := 4) (off := 0) (us := [.int .i64 n.ins, v3, v7, v11]) rfl rfl rfl rfl rfl rfl rfl (zah rfl (zah ho16 (zah ho15 (zah ho14 zbr)))) rfl rfl rfl (ntQ ?_)
 refine zau (zed (fun w hm => (zae 0 rfl w hm).one) (fun ho1 => ?_))
 refine zed (fun w hm => (zae 3 rfl w hm).one) (fun ho2 => ?_)
 refine zbw 6 [4, 2, 0, 3, 1] rfl rfl (by decide) ?_
 refine zcz 2 rfl ?_
 refine zbw 4 [3, 0, 2, 1] rfl rfl (by decide) ?_
 exact zdm (rs := [.cell 2 86]) (vs := [.agg #[.int .i64 n.ins, v3, v7, v11]]) (post := [rowE 66 3 v3 zs.length (zs.flatMap sqC), rowE 126 2 v7 n.gs.length (n.gs.flatMap anC), bigE [bigE ps, rowE 3 1 v11 n.os.length (n.os.map (Value.int .i64))]]) rfl ⟨⟨b2, 0, [.int .i64 n.ins, v3, v7, v11], rfl, rfl, by kernel_rfl, by kernel_rfl, zaj 3 rfl 0 rfl⟩, trivial⟩ rfl (slQ [0, 0, 0] rfl) ⟨_, (Nt.mk n.ins v3 v7 v11 zs n.gs n.os), rfl, rfl, fun w hw => ⟨hps w (zbh hw List.mem_cons_self), zcf (zbh hw (List.mem_cons_of_mem _ List.mem_cons_self))⟩, ⟨ho1, ho2⟩, ⟨rfl, rfl, rfl, hzs⟩⟩
theorem zpo (n : Nt) (x y : Int) (w : World) (hr : RdsNt w n) (hn : NtOk n) (hx : LtOk x n.cnt) (hy : LtOk y n.cnt) (hl : n.gs.length < 300) :
   Calls Try.prog 94 #[.agg #[.int .i64 n.ins, n.sv, n.av, n.ov], .int .i64 x, .int .i64 y] w (Ret w (fun u_ p_ => ∃ (ps : List HP) (m : Nt) (x : Int), u_ = .tuple #[m.agg, .int .i64 x] ∧ p_ = [rowE 66 3 m.sv m.ss.length (m.ss.flatMap sqC), bigE ps] ∧ (∀ w, (bigE ps).holds w → NtRest w m) ∧ (m.sv.oneCell' = true ∧ m.av.oneCell' = true ∧ m.ov.oneCell' = true) ∧ Grew n m x)) := by
 have hi0 := hn.i0
 have hi1 := hn.i1
 have hs1 := hn.s1
 have ha1 := hn.a1
 have ho1 := hn.o1
 have hcnt : n.cnt = 1 + n.ins + n.ss.length + n.gs.length := rfl
 have hfst : n.fst = 1 + n.ins + n.ss.length := rfl
 obtain ⟨hx0, hx1⟩ := id hx
 obtain ⟨hy0, hy1⟩ := id hy
 refine zbf (N := 99) (args := [.agg #[.int .i64 n.ins, n.sv, n.av, n.ov], .int .i64 x, .int .i64 y]) Try.func94 rfl rfl (srQ ?_)
 refine zdj rfl (zch rfl rfl) ?_
 intro b1
 refine zdj rfl (zbx (z := .agg #[.int .i64 0, .slice none 0 0, .slice none 0 0, .slice none 0 0]) rfl rfl) ?_
 intro b2
 refine zaz 1 rfl (srQ (hvQ rfl (zao (cs := [.int .i64 n.ins, n.sv, n.av, n.ov]) rfl rfl rfl rfl rfl (zaj 1 rfl 0 rfl)) ?_))
 refine zfg rfl rfl rfl (zaq rfl rfl (fun w hm => zox n w (hr.below hm.bel) hn)) ?_
 intro v3 p4 hR5
 obtain ⟨ps, m, rfl, rfl, hps, ⟨o1m, o3m⟩, hcp⟩ := hR5
 have hmg : m.gs.length = n.gs.length := by rw [hcp.gs]
 refine zdj rfl (zbx (z := .agg #[.int .i64 0, .slice none 0 0, .slice none 0 0, .slice none 0 0]) rfl rfl) ?_
 intro b6
 refine zdn (i := 2) rfl (fun ho7 => ?_)
 refine zcc (cs' := #[.int .i64 m.ins, m.sv, m.av, m.ov]) (i := 0) (off := 0) (us := [.int .i64 m.ins, m.sv, m.av, m.ov]) rfl rfl rfl rfl rfl rfl rfl (zah rfl (zah o1m (zah ho7 (zah o3m zbr)))) rfl rfl rfl (ntQ (srQ (hvQ rfl (zao (cs := [.int .i64 n.ins, n.sv, n.av, n.ov]) rfl rfl rfl rfl rfl (zaj 5 rfl 0 rfl)) ?_)))
 refine zds rfl (zaq rfl rfl (fun w hm => zav (zcb n w (hr.below hm.bel) hn))) (zaz 1 rfl (zeh (hvQ rfl (zao (cs := [.int .i64 n.ins, n.sv, n.av, n.ov]) rfl rfl rfl rfl rfl (zaj 5 rfl 0 rfl)) ?_)))
 refine zds rfl (zaq rfl rfl (fun w hm => zav (zdz n w (hr.below hm.bel) hn))) (zap 4 rfl ?_)
 refine zds rfl (zaq rfl rfl (fun w hm => zav (zgh x n.cnt w hx (by omega)))) (zap 5 rfl ?_)
 refine zds rfl (zaq rfl rfl (fun w hm => zav (zgh y n.cnt w hy (by omega)))) (zaz 2 rfl (zal rfl (zcq (zac (zac (reQ 1 rfl ?_))))))
 refine zbp rfl rfl rfl rfl rfl rfl (fun h8 => ?_) (fun h8 => ?_)
 ·
  refine zaz 10 rfl (zak rfl (srQ (hvQ rfl (zao (cs := [.int .i64 m.ins, m.sv, m.av, m.ov]) rfl rfl rfl rfl rfl (zaj 0 rfl 0 rfl)) ?_)))
  refine zcc (cs' := #[.int .i64 m.ins, m.sv, m.av, m.ov]) (i := 4) (off := 0) (us := [.int .i64 m.ins, m.sv, m.av, m.ov]) rfl rfl rfl rfl rfl rfl rfl (zah rfl (zah o1m (zah ho7 (zah o3m zbr)))) rfl rfl rfl (zaz 1 rfl ?_)
  refine zau (zai ?_)
  refine zed (fun w hm => (zae 2 rfl w hm).one) (fun ho2 => ?_)
  refine zbw 6 [4, 1, 2, 3] rfl rfl (by decide) ?_
  refine zcz 2 rfl ?_
  refine zbw 3 [2, 0, 1] rfl rfl (by decide) ?_
  exact zdm (rs := [.cell 6 86, .tmp 7]) (vs := [.agg #[.int .i64 m.ins, m.sv, m.av, m.ov], .int .i64 0]) (post := [rowE 66 3 m.sv m.ss.length (m.ss.flatMap sqC), bigE [bigE ps, rowE 126 2 m.av m.gs.length (m.gs.flatMap anC)]]) rfl ⟨⟨b2, 0, [.int .i64 m.ins, m.sv, m.av, m.ov], rfl, rfl, by kernel_rfl, by kernel_rfl, zaj 2 rfl 0 rfl⟩, rfl, trivial⟩ rfl (slQ [0, 0] rfl) ⟨_, m, _, rfl, rfl, fun w hw => ⟨(hps w (zbh hw List.mem_cons_self)).1, zcf (zbh hw (List.mem_cons_of_mem _ List.mem_cons_self)), (hps w (zbh hw List.mem_cons_self)).2⟩, ⟨o1m, ho2, o3m⟩, hcp.same hn (by unfold LtOk; omega)⟩
 refine zap 2 rfl (zbp rfl rfl rfl rfl rfl rfl (fun h9 => ?_) (fun h9 => ?_))
 ·
  refine zaz 7 rfl (zak rfl (srQ (hvQ rfl (zao (cs := [.int .i64 m.ins, m.sv, m.av, m.ov]) rfl rfl rfl rfl rfl (zaj 0 rfl 0 rfl)) ?_)))
  refine zcc (cs' := #[.int .i64 m.ins, m.sv, m.av, m.ov]) (i := 4) (off := 0) (us := [.int .i64 m.ins, m.sv, m.av, m.ov]) rfl rfl rfl rfl rfl rfl rfl (zah rfl (zah o1m (zah ho7 (zah o3m zbr)))) rfl rfl rfl (zaz 1 rfl ?_)
  refine zau (zai ?_)
  refine zed (fun w hm => (zae 2 rfl w hm).one) (fun ho2 => ?_)
  refine zbw 6 [4, 1, 2, 3] rfl rfl (by decide) ?_
  refine zcz 2 rfl ?_
  refine zbw 3 [2, 0, 1] rfl rfl (by decide) ?_
  exact zdm (rs := [.cell 6 86, .tmp 7]) (vs := [.agg #[.int .i64 m.ins, m.sv, m.av, m.ov], .int .i64 0]) (post := [rowE 66 3 m.sv m.ss.length (m.ss.flatMap sqC), bigE [bigE ps, rowE 126 2 m.av m.gs.length (m.gs.flatMap anC)]]) rfl ⟨⟨b2, 0, [.int .i64 m.ins, m.sv, m.av, m.ov], rfl, rfl, by kernel_rfl, by kernel_rfl, zaj 2 rfl 0 rfl⟩, rfl, trivial⟩ rfl (slQ [0, 0] rfl) ⟨_, m, _, rfl, rfl, fun w hw => ⟨(hps w (zbh hw List.mem_cons_self)).1, zcf (zbh hw (List.mem_cons_of_mem _ List.mem_cons_self)), (hps w (zbh hw List.mem_cons_self)).2⟩, ⟨o1m, ho2, o3m⟩, hcp.same hn (by unfold LtOk; omega)⟩
 refine zap 4 rfl (hvQ rfl (zfu rfl (by decide) rfl rfl (r := xr y) (zvx hy0 (by omega))) ?_)
 refine zbp rfl rfl rfl rfl rfl rfl (fun h10 => ?_) (fun h10 => ?_)
 ·
  refine zaz 1 rfl (zak rfl (srQ (hvQ rfl (zao (cs := [.int .i64 m.ins, m.sv, m.av, m.ov]) rfl rfl rfl rfl rfl (zaj 0 rfl 0 rfl)) ?_)))
  refine zcc (cs' := #[.int .i64 m.ins, m.sv, m.av, m.ov]) (i := 4) (off := 0) (us := [.int .i64 m.ins, m.sv, m.av, m.ov]) rfl rfl rfl rfl rfl rfl rfl (zah rfl (zah o1m (zah ho7 (zah o3m zbr)))) rfl rfl rfl (zaz 1 rfl ?_)
  refine zau (zai ?_)
  refine zed (fun w hm => (zae 2 rfl w hm).one) (fun ho2 => ?_)
  refine zbw 6 [4, 1, 2, 3] rfl rfl (by decide) ?_
  refine zcz 2 rfl ?_
  refine zbw 3 [2, 0, 1] rfl rfl (by decide) ?_
  exact zdm (rs := [.cell 6 86, .tmp 7]) (vs := [.agg #[.int .i64 m.ins, m.sv, m.av, m.ov], .int .i64 0]) (post := [rowE 66 3 m.sv m.ss.length (m.ss.flatMap sqC), bigE [bigE ps, rowE 126 2 m.av m.gs.length (m.gs.flatMap anC)]]) rfl ⟨⟨b2, 0, [.int .i64 m.ins, m.sv, m.av, m.ov], rfl, rfl, by kernel_rfl, by kernel_rfl, zaj 2 rfl 0 rfl⟩, rfl, trivial⟩ rfl (slQ [0, 0] rfl) ⟨_, m, _, rfl, rfl, fun w hw => ⟨(hps w (zbh hw List.mem_cons_self)).1, zcf (zbh hw (List.mem_cons_of_mem _ List.mem_cons_self)), (hps w (zbh hw List.mem_cons_self)).2⟩, ⟨o1m, ho2, o3m⟩, hcp.same hn (by unfold LtOk; omega)⟩
 refine zaz 1 rfl (zal rfl (zcq (zac (zac (reQ 1 rfl ?_)))))
 refine zbp rfl rfl rfl rfl rfl rfl (fun h11 => ?_) (fun h11 => ?_)
 ·
  refine zaz 5 rfl (zak rfl (srQ (hvQ rfl (zao (cs := [.int .i64 m.ins, m.sv, m.av, m.ov]) rfl rfl rfl rfl rfl (zaj 0 rfl 0 rfl)) (zap 1 rfl ?_))))
  refine zcc (cs' := #[.int .i64 m.ins, m.sv, m.av, m.ov]) (i := 4) (off := 0) (us := [.int .i64 m.ins, m.sv, m.av, m.ov]) rfl rfl rfl rfl rfl rfl rfl (zah rfl (zah o1m (zah ho7 (zah o3m zbr)))) rfl rfl rfl (zaz 1 rfl ?_)
  refine zau (zai ?_)
  refine zed (fun w hm => (zae 2 rfl w hm).one) (fun ho2 => ?_)
  refine zbw 6 [4, 1, 2, 3] rfl rfl (by decide) ?_
  refine zcz 2 rfl ?_
  refine zbw 3 [2, 0, 1] rfl rfl (by decide) ?_
  exact zdm (rs := [.cell 6 86, .tmp 7]) (vs := [.agg #[.int .i64 m.ins, m.sv, m.av, m.ov], .int .i64 y]) (post := [rowE 66 3 m.sv m.ss.length (m.ss.flatMap sqC), bigE [bigE ps, rowE 126 2 m.av m.gs.length (m.gs.flatMap anC)]]) rfl ⟨⟨b2, 0, [.int .i64 m.ins, m.sv, m.av, m.ov], rfl, rfl, by kernel_rfl, by kernel_rfl, zaj 2 rfl 0 rfl⟩, rfl, trivial⟩ rfl (slQ [0, 0] rfl) ⟨_, m, _, rfl, rfl, fun w hw => ⟨(hps w (zbh hw List.mem_cons_self)).1, zcf (zbh hw (List.mem_cons_of_mem _ List.mem_cons_self)), (hps w (zbh hw List.mem_cons_self)).2⟩, ⟨o1m, ho2, o3m⟩, hcp.same hn hy⟩
 refine zap 3 rfl (zbp rfl rfl rfl rfl rfl rfl (fun h12 => ?_) (fun h12 => ?_))
 ·
  refine zaz 1 rfl (zak rfl (srQ (hvQ rfl (zao (cs := [.int .i64 m.ins, m.sv, m.av, m.ov]) rfl rfl rfl rfl rfl (zaj 0 rfl 0 rfl)) (zap 1 rfl ?_))))
  refine zcc (cs' := #[.int .i64 m.ins, m.sv, m.av, m.ov]) (i := 4) (off := 0) (us := [.int .i64 m.ins, m.sv, m.av, m.ov]) rfl rfl rfl rfl rfl rfl rfl (zah rfl (zah o1m (zah ho7 (zah o3m zbr)))) rfl rfl rfl (zaz 1 rfl ?_)
  refine zau (zai ?_)
  refine zed (fun w hm => (zae 2 rfl w hm).one) (fun ho2 => ?_)
  refine zbw 6 [4, 1, 2, 3] rfl rfl (by decide) ?_
  refine zcz 2 rfl ?_
  refine zbw 3 [2, 0, 1] rfl rfl (by decide) ?_
  exact zdm (rs := [.cell 6 86, .tmp 7]) (vs := [.agg #[.int .i64 m.ins, m.sv, m.av, m.ov], .int .i64 y]) (post := [rowE 66 3 m.sv m.ss.length (m.ss.flatMap sqC), bigE [bigE ps, rowE 126 2 m.av m.gs.length (m.gs.flatMap anC)]]) rfl ⟨⟨b2, 0, [.int .i64 m.ins, m.sv, m.av, m.ov], rfl, rfl, by kernel_rfl, by kernel_rfl, zaj 2 rfl 0 rfl⟩, rfl, trivial⟩ rfl (slQ [0, 0] rfl) ⟨_, m, _, rfl, rfl, fun w hw => ⟨(hps w (zbh hw List.mem_cons_self)).1, zcf (zbh hw (List.mem_cons_of_mem _ List.mem_cons_self)), (hps w (zbh hw List.mem_cons_self)).2⟩, ⟨o1m, ho2, o3m⟩, hcp.same hn hy⟩
 refine zaz 1 rfl (zal rfl (zcq (zac (zac (reQ 1 rfl ?_)))))
 refine zbp rfl rfl rfl rfl rfl rfl (fun h13 => ?_) (fun h13 => ?_)
 ·
  refine ntQ (zak rfl (srQ (hvQ rfl (zao (cs := [.int .i64 m.ins, m.sv, m.av, m.ov]) rfl rfl rfl rfl rfl (zaj 0 rfl 0 rfl)) (zap 1 rfl ?_))))
  refine zcc (cs' := #[.int .i64 m.ins, m.sv, m.av, m.ov]) (i := 4) (off := 0) (us := [.int .i64 m.ins, m.sv, m.av, m.ov]) rfl rfl rfl rfl rfl rfl rfl (zah rfl (zah o1m (zah ho7 (zah o3m zbr)))) rfl rfl rfl (zaz 1 rfl ?_)
  refine zau (zai ?_)
  refine zed (fun w hm => (zae 2 rfl w hm).one) (fun ho2 => ?_)
  refine zbw 6 [4, 1, 2, 3] rfl rfl (by decide) ?_
  refine zcz 2 rfl ?_
  refine zbw 3 [2, 0, 1] rfl rfl (by decide) ?_
  exact zdm (rs := [.cell 6 86, .tmp 7]) (vs := [.agg #[.int .i64 m.ins, m.sv, m.av, m.ov], .int .i64 x]) (post := [rowE 66 3 m.sv m.ss.length (m.ss.flatMap sqC), bigE [bigE ps, rowE 126 2 m.av m.gs.length (m.gs.flatMap anC)]]) rfl ⟨⟨b2, 0, [.int .i64 m.ins, m.sv, m.av, m.ov], rfl, rfl, by kernel_rfl, by kernel_rfl, zaj 2 rfl 0 rfl⟩, rfl, trivial⟩ rfl (slQ [0, 0] rfl) ⟨_, m, _, rfl, rfl, fun w hw => ⟨(hps w (zbh hw List.mem_cons_self)).1, zcf (zbh hw (List.mem_cons_of_mem _ List.mem_cons_self)), (hps w (zbh hw List.mem_cons_self)).2⟩, ⟨o1m, ho2, o3m⟩, hcp.same hn hx⟩
 refine ntQ (zal rfl (zcq (zac (reQ 2 rfl (hvQ rfl (zpv rfl rfl rfl) (zap 2 rfl (hvQ rfl (zwb rfl rfl rfl) (hvQ rfl (zcw (cs := #[.int .i64 (min x y), .int .i64 (if x < y then y else x)]) rfl rfl rfl) ?_))))))))
 refine zdj rfl (zbx (z := .agg #[.int .i64 0, .int .i64 0]) rfl rfl) ?_
 intro b14
 refine zcc (cs' := #[.int .i64 (min x y), .int .i64 (if x < y then y else x)]) (i := 0) (off := 0) (us := [.int .i64 (min x y), .int .i64 (if x < y then y else x)]) rfl rfl rfl rfl rfl rfl rfl (zah rfl (zah rfl zbr)) rfl rfl rfl (ntQ (zac (zbd 1 rfl (zax ?_))))
 refine zka (α := Nat) [0, 1, 2, 3, 6, 7, 8, 9, 10, 30, 43, 51, 55] rfl (fun i => [boxE b14 #[.int .i64 (min x y), .int .i64 (if x < y then y else x)] 126, boxE b6 #[.int .i64 m.ins, m.sv, m.av, m.ov] 86, rowE 66 3 m.sv m.ss.length (m.ss.flatMap sqC), rowE 126 2 m.av m.gs.length (m.gs.flatMap anC), bigE ps, boxE b2 #[.int .i64 0, .slice none 0 0, .slice none 0 0, .slice none 0 0] 86, boxE b1 #[.int .i64 n.ins, n.sv, n.av, n.ov] 86]) (fun i => [(11, .int .i64 (i : Int))]) (fun i => i ≤ n.gs.length) (fun i => n.gs.length - i) 0 (Nat.zero_le _) (saQ rfl) (pfQ rfl) ?_
 intro i hi15
 have hi := hi15
 refine zac (zac (reQ 1 rfl (hvQ rfl (fdQ 2 rfl rfl rfl) (hvQ rfl (zad rfl rfl rfl (zaa 6 rfl rfl)) (hvQ rfl (lnQ rfl rfl rfl (zab hr.an)) ?_)))))
 refine zbj rfl rfl rfl rfl rfl rfl (fun h16 => ?_) (fun h16 => ?_)
 ·
  refine ntQ (zak rfl (zcq (sbQ (zac ?_))))
  rcases Bool.eq_false_or_eq_true (eqA ((n.gs.getD i an0).a) ((n.gs.getD i an0).b) (min x y) (if x < y then y else x)) with hb17 | hb17
  ·
   refine zby 7 [[], [0], [], [1, 2], [3], [], [4, 5]] [72, 73, 74, 75, 76, 77, 78] [.pointer (some ⟨b1, 0 + 2, none⟩), n.av, .int .i64 (i : Int), elP n.av (((i : Int)).toNat * 2), .agg #[.int .i64 ((n.gs.getD i an0).a), .int .i64 ((n.gs.getD i an0).b)], .agg #[.int .i64 (min x y), .int .i64 (if x < y then y else x)], .bool true] (by kernel_rfl) rfl ?_ ?_
   ·
    exact ⟨iaQ rfl (fdQ 2 rfl rfl rfl) rfl, iaQ rfl (zad rfl rfl rfl (zaa 6 rfl rfl)) rfl, iaQ rfl (zas rfl) rfl, iaQ rfl (riQ 2 rfl rfl rfl rfl (zab hr.an)) rfl, iaQ rfl (zbt (us := [.int .i64 ((n.gs.getD i an0).a), .int .i64 ((n.gs.getD i an0).b)]) rfl rfl rfl rfl (zab hr.an) (by omega) rfl (zcp anC 2 (fun _ => rfl) n.gs an0 (show i < _ by omega) rfl)) rfl, iaQ rfl (zao (cs := [.int .i64 (min x y), .int .i64 (if x < y then y else x)]) rfl rfl rfl rfl rfl (zaj 0 rfl 0 rfl)) rfl, .inl ⟨rfl, zek (zsp rfl rfl rfl) hb17⟩, trivial⟩
   simp only [List.drop_succ_cons, List.drop_zero]
   refine ntQ (zak rfl (zac ?_))
   refine zhq 7 [6, 4, 3, 2, 1, 0, 5] rfl rfl (by decide) ?_
   refine zvd (l := [boxE b14 #[.int .i64 (min x y), .int .i64 (if x < y then y else x)] 126, boxE b6 #[.int .i64 m.ins, m.sv, m.av, m.ov] 86, rowE 66 3 m.sv m.ss.length (m.ss.flatMap sqC), rowE 126 2 m.av m.gs.length (m.gs.flatMap anC), bigE ps, boxE b1 #[.int .i64 n.ins, n.sv, n.av, n.ov] 86]) rfl 7 [0, 1, 2, 3, 4, 5, 6] (List.take 7 _) (List.drop 7 _) [[], [], [1], [], [2, 3], [4], [0]] [some 79, some 80, some 81, some 82, some 83, some 84, none] (fun i_ vs_ v_ p_ => match i_ with | 0 => v_ = .agg #[.int .i64 m.ins, m.sv, m.av, m.ov] ∧ p_ = [] | 1 => v_ = .agg #[.int .i64 n.ins, n.sv, n.av, n.ov] ∧ p_ = [] | 2 => v_ = .int .i64 n.fst ∧ p_ = [] | 3 => v_ = .int .i64 (i : Int) ∧ p_ = [] | 4 => v_ = .int .i64 (n.fst + (i : Int)) ∧ p_ = [] | 5 => v_ = .int .i64 (2 * (n.fst + (i : Int))) ∧ p_ = [] | 6 => p_ = [boxE b2 #[.int .i64 m.ins, m.sv, m.av, m.ov] 86] | _ => True) [[], [], [1], [], [2, 3], [4], [0]] [none, none, none, none, none, none, some 8] [[boxE b2 #[.int .i64 0, .slice none 0 0, .slice none 0 0, .slice none 0 0] 86]] [0, 1, 2, 3, 4, 5, 6] 8 (List.take_append_drop 7 _).symm (by kernel_rfl) (by kernel_rfl) (by kernel_rfl) rfl rfl ?_ ?_
   ·
    refine ⟨?_, ?_, ?_, ?_, ?_, ?_, ?_, trivial⟩
    ·
     intro vf pf hmu hR
     refine zeg [] [] rfl (zbo (zam [8] rfl) (List.sublist_append_right _ _) ?_)
     exact zbg (zao (cs := [.int .i64 m.ins, m.sv, m.av, m.ov]) rfl rfl rfl rfl rfl (zaj 1 rfl 0 rfl))
    ·
     intro vf pf hmu hR
     refine zeg [] [] rfl (zbo (zam [3] rfl) (List.sublist_append_right _ _) ?_)
     exact zbg (zao (cs := [.int .i64 n.ins, n.sv, n.av, n.ov]) rfl rfl rfl rfl rfl (zaj 5 rfl 0 rfl))
    ·
     intro vf pf hmu hR
     have e1 := hR 1 (by decide)
     refine zeg [1] [1] rfl (zbo (sk 80 (congrArg some e1.1) (zaf _)) (List.sublist_append_right _ _) ?_)
     exact (zaq rfl rfl (fun w hm => zav (zcl n w (hr.below hm.bel) hn)))
    ·
     intro vf pf hmu hR
     refine zeg [] [] rfl (zcg (zam [11] rfl) ?_)
     exact zbg (zas rfl)
    ·
     intro vf pf hmu hR
     have e2 := hR 2 (by decide)
     have e3 := hR 3 (by decide)
     refine zeg [2, 3] [2, 3] rfl (zcg (sk 81 (congrArg some e2.1) (sk 82 (congrArg some e3.1) (zaf _))) ?_)
     exact zbg (vaQ rfl rfl rfl)
    ·
     intro vf pf hmu hR
     have e4 := hR 4 (by decide)
     refine zeg [4] [4] rfl (zcg (sk 83 (congrArg some e4.1) (zaf _)) ?_)
     exact zbg (zew rfl rfl rfl (by constructor <;> omega))
    intro vf pf hmu hR
    have e0 := hR 0 (by decide)
    refine Or.inl ⟨rfl, ?_⟩
    show RunM _ _ _ (pf 8) (([0] : List Nat).flatMap pf ++ _) (envOf3 _ vf [0] ++ _) _ _
    have hmu0 : pf 8 = [boxE b2 #[.int .i64 0, .slice none 0 0, .slice none 0 0, .slice none 0 0] 86] := hmu 0 (show 0 < 1 by omega)
    rw [hmu0]
    exact zee (sk 6 rfl (sk 79 (congrArg some e0.1) (zaf _))) (by simp only [e0.2, fS] <;> rfl) (zjr (zfi (us := [.int .i64 m.ins, m.sv, m.av, m.ov]) (off := 0) 0 rfl rfl rfl rfl rfl rfl (zah rfl (zah o1m (zah ho7 (zah o3m zbr)))) rfl rfl) (fun v_ p_ h => by show p_ = [boxE b2 #[.int .i64 m.ins, m.sv, m.av, m.ov] 86]; exact h))
   intro vf pf hmu hR
   have e5 := hR 5 (by decide)
   have e6 : (pf 6) = [boxE b2 #[.int .i64 m.ins, m.sv, m.av, m.ov] 86] := hR 6 (by decide)
   have pE6 := e6
   have q0 := hR 0 (by decide)
   have q1 := hR 1 (by decide)
   have q2 := hR 2 (by decide)
   have q3 := hR 3 (by decide)
   have q4 := hR 4 (by decide)
   have q5 := hR 5 (by decide)
   refine zco (zbk [78, 69, 55, 51, 43, 30, 11, 10, 9, 8, 7, 6, 3, 2, 1, 0] _ (sk 84 (congrArg some e5.1) (zaf _)) rfl) (by simp only [pE6, q0.2, q1.2, q2.2, q3.2, q4.2, q5.2, fS] <;> rfl) ?_
   simp only [List.drop_succ_cons, List.drop_zero]
   refine zaz 1 rfl ?_
   refine zau (zan ?_)
   refine zge ?_
   refine zan (zai ?_)
   refine zed (fun w hm => (zae 4 rfl w hm).one) (fun ho2 => ?_)
   refine zbw 7 [3, 0, 4, 5] rfl rfl (by decide) ?_
   refine zcz 2 rfl ?_
   refine zbw 3 [1, 0, 2] rfl rfl (by decide) ?_
   exact zdm (rs := [.cell 6 86, .tmp 7]) (vs := [.agg #[.int .i64 m.ins, m.sv, m.av, m.ov], .int .i64 (2 * (n.fst + (i : Int)))]) (post := [rowE 66 3 m.sv m.ss.length (m.ss.flatMap sqC), bigE [bigE ps, rowE 126 2 m.av m.gs.length (m.gs.flatMap anC)]]) rfl ⟨⟨b2, 0, [.int .i64 m.ins, m.sv, m.av, m.ov], rfl, rfl, by kernel_rfl, by kernel_rfl, zaj 2 rfl 0 rfl⟩, rfl, trivial⟩ rfl (slQ [0, 0] rfl) ⟨_, m, _, rfl, rfl, fun w hw => ⟨(hps w (zbh hw List.mem_cons_self)).1, zcf (zbh hw (List.mem_cons_of_mem _ List.mem_cons_self)), (hps w (zbh hw List.mem_cons_self)).2⟩, ⟨o1m, ho2, o3m⟩, hcp.same hn (by unfold LtOk; omega)⟩
  refine zby 7 [[], [0], [], [1, 2], [3], [], [4, 5]] [72, 73, 74, 75, 76, 77, 78] [.pointer (some ⟨b1, 0 + 2, none⟩), n.av, .int .i64 (i : Int), elP n.av (((i : Int)).toNat * 2), .agg #[.int .i64 ((n.gs.getD i an0).a), .int .i64 ((n.gs.getD i an0).b)], .agg #[.int .i64 (min x y), .int .i64 (if x < y then y else x)], .bool false] (by kernel_rfl) rfl ?_ ?_
  ·
   exact ⟨iaQ rfl (fdQ 2 rfl rfl rfl) rfl, iaQ rfl (zad rfl rfl rfl (zaa 6 rfl rfl)) rfl, iaQ rfl (zas rfl) rfl, iaQ rfl (riQ 2 rfl rfl rfl rfl (zab hr.an)) rfl, iaQ rfl (zbt (us := [.int .i64 ((n.gs.getD i an0).a), .int .i64 ((n.gs.getD i an0).b)]) rfl rfl rfl rfl (zab hr.an) (by omega) rfl (zcp anC 2 (fun _ => rfl) n.gs an0 (show i < _ by omega) rfl)) rfl, iaQ rfl (zao (cs := [.int .i64 (min x y), .int .i64 (if x < y then y else x)]) rfl rfl rfl rfl rfl (zaj 0 rfl 0 rfl)) rfl, .inl ⟨rfl, zek (zsp rfl rfl rfl) hb17⟩, trivial⟩
  simp only [List.drop_succ_cons, List.drop_zero]
  refine ntQ (fsQ rfl (zcv (reQ 1 rfl (hvQ rfl (vaQ rfl rfl rfl) (enQ 1 rfl ?_)))))
  exact zcr (i + 1) (by omega) (by omega) (saQ rfl) (pfQ rfl)
 refine ntQ (zal rfl ?_)
 refine zba (zdq ?_)
 refine zag (zaw (zeh (hvQ rfl (fdQ 2 rfl rfl rfl) (hvQ rfl (zad rfl rfl rfl (zaa 6 rfl rfl)) (hvQ rfl (lnQ rfl rfl rfl (zab hr.an)) ?_)))))
 refine zbp rfl rfl rfl rfl rfl rfl (fun h18 => absurd h18 (by omega)) (fun h18 => ?_)
 refine ntQ (zal rfl (zcq (srQ (hvQ rfl (fdQ 2 rfl rfl rfl) (hvQ rfl (zad rfl rfl rfl (zaa 1 rfl rfl)) (hvQ rfl (zao (cs := [.int .i64 (min x y), .int .i64 (if x < y then y else x)]) rfl rfl rfl rfl rfl (zaj 0 rfl 0 rfl)) ?_))))))
 refine zdk rfl (zat (z := .agg #[.int .i64 0, .int .i64 0]) (s := 2) (cs := ([min x y, (if x < y then y else x)].map (Value.int .i64))) rfl Try.underlying84 rfl (by decide) rfl (by kernel_rfl) rfl) ?_
 intro g19
 refine zcd (i := 4) (z := .agg #[.int .i64 0, .int .i64 0]) (bytes := 16) rfl rfl rfl rfl Try.underlying84 (by kernel_rfl) rfl rfl rfl rfl (zae 0 rfl) (zbm _) (by first | omega | (simp only [List.length_append, List.length_cons, List.length_nil]; omega)) (zbv m.gs [(An.mk (min x y) (if x < y then y else x))]) (zcx anC m.gs (An.mk (min x y) (if x < y then y else x)) _ rfl) (fun _ => rfl) ?_
 intro v20
 refine hvQ rfl (fdQ 2 rfl rfl rfl) (zdn (i := 4) rfl (fun ho21 => ?_))
 refine zez (i := 2) (cs' := #[.int .i64 m.ins, m.sv, v20, m.ov]) rfl rfl rfl rfl rfl rfl ho21 rfl rfl rfl rfl (ntQ (srQ (hvQ rfl (zao (cs := [.int .i64 m.ins, m.sv, v20, m.ov]) rfl rfl rfl rfl rfl (zaj 2 rfl 0 rfl)) (zap 1 rfl (hvQ rfl (zew rfl rfl rfl (by constructor <;> omega)) ?_)))))
 refine zcc (cs' := #[.int .i64 m.ins, m.sv, v20, m.ov]) (i := 6) (off := 0) (us := [.int .i64 m.ins, m.sv, v20, m.ov]) rfl rfl rfl rfl rfl rfl rfl (zah rfl (zah o1m (zah ho21 (zah o3m zbr)))) rfl rfl rfl (zaz 1 rfl ?_)
 refine zau (zed (fun w hm => (zae 4 rfl w hm).one) (fun ho2 => ?_))
 refine zbw 8 [6, 3, 4, 5] rfl rfl (by decide) ?_
 refine zcz 2 rfl ?_
 refine zbw 3 [2, 0, 1] rfl rfl (by decide) ?_
 exact zdm (rs := [.cell 6 86, .tmp 7]) (vs := [.agg #[.int .i64 m.ins, m.sv, v20, m.ov], .int .i64 (2 * n.cnt)]) (post := [rowE 66 3 m.sv m.ss.length (m.ss.flatMap sqC), bigE [bigE ps, rowE 126 2 v20 ((m.gs ++ [(An.mk (min x y) (if x < y then y else x))]).length) ((m.gs ++ [(An.mk (min x y) (if x < y then y else x))]).flatMap anC)]]) rfl ⟨⟨b2, 0, [.int .i64 m.ins, m.sv, v20, m.ov], rfl, rfl, by kernel_rfl, by kernel_rfl, zaj 2 rfl 0 rfl⟩, rfl, trivial⟩ rfl (slQ [0, 0] rfl) ⟨_, { m with av := v20, gs := m.gs ++ [(An.mk (min x y) (if x < y then y else x))] }, _, rfl, rfl, fun w hw => ⟨(hps w (zbh hw List.mem_cons_self)).1, zcf (zbh hw (List.mem_cons_of_mem _ List.mem_cons_self)), (hps w (zbh hw List.mem_cons_self)).2⟩, ⟨o1m, ho2, o3m⟩, (by rw [show (2 * n.cnt) = 2 * n.cnt by omega]; exact hcp.put hn hx hy (by omega) _)⟩
theorem zgg (tos lits : List Int) (c m : Int) (u v : Value) (w : World) (hu : RdsW w u 1 tos.length (tos.map (Value.int .i64))) (hv : RdsW w v 1 lits.length (lits.map (Value.int .i64))) (hmk : MapOk tos c m) (hm9 : m ≤ 100000) (hc9 : c ≤ 100000) (hlits : ∀ x ∈ lits, LtOk x c) (hl : lits.length ≤ 1000) :
   Calls Try.prog 120 #[u, v] w (Ret w (fun v' post => post = [rowE 3 1 v' ((mpS tos lits)).length (((mpS tos lits)).map (Value.int .i64))])) := by
 refine zbf (N := 32) (args := [u, v]) Try.func120 rfl rfl (zbd 1 rfl (srQ ?_))
 refine zdk rfl (zbz (s := 1) rfl Try.underlying28 rfl) ?_
 intro g1
 refine zaz 1 rfl (zac (zbd 1 rfl (zax ?_)))
 refine zgn (α := Nat) (β := Value) (γ := List Int) [0, 1, 4] rfl (fun i gu zs => [rowE 3 1 gu zs.length (zs.map (Value.int .i64))]) (fun i gu zs => [(5, gu), (6, .int .i64 (i : Int))]) (fun i gu zs => i ≤ lits.length ∧ zs = mpS tos (lits.take i)) (fun i gu zs => lits.length - i) 0 _ [] ⟨by omega, rfl⟩ (saQ rfl) (pfQ rfl) ?_
 intro i gu zs hi2
 obtain ⟨hi, hz⟩ := hi2
 have hzl : zs.length = i := by rw [hz]; unfold mpS; rw [List.length_map, List.length_take]; omega
 refine zac (zac (reQ 2 rfl (hvQ rfl (lnQ rfl rfl rfl (zab hv)) ?_)))
 refine zbj rfl rfl rfl rfl rfl rfl (fun h3 => ?_) (fun h3 => ?_)
 ·
  refine ntQ (zak rfl (zcq (sbQ ?_)))
  have hlt := hlits _ (zbl (d := (0 : Int)) (show i < lits.length by omega))
  have htk := (hmk.lit hlt).1
  have hmk1 := hmk.1
  unfold LtOk at hlt htk
  refine zdf rfl 16 [0, 1, 2, 3, 4, 5, 6, 7, 8, 9, 10, 11, 12, 13, 14, 15] (List.take 16 _) (List.drop 16 _) [[], [], [], [], [2, 3], [4], [5], [1, 6], [7], [], [], [9, 10], [11], [12], [8, 13], [14]] [14, 15, 16, 17, 18, 19, 20, 21, 22, 23, 24, 25, 26, 27, 28, 29] (fun i_ vs_ v_ p_ => match i_ with | 0 => v_ = gu ∧ p_ = [] | 1 => v_ = u ∧ p_ = [] | 2 => v_ = v ∧ p_ = [] | 3 => v_ = .int .i64 (i : Int) ∧ p_ = [] | 4 => v_ = elP v (((i : Int)).toNat * 1) ∧ p_ = [] | 5 => v_ = .int .i64 (lits.getD i 0) ∧ p_ = [] | 6 => v_ = .int .i64 ((lits.getD i 0) / 2) ∧ p_ = [] | 7 => v_ = elP u (((lits.getD i 0) / 2).toNat * 1) ∧ p_ = [] | 8 => v_ = .int .i64 (tos.getD (((lits.getD i 0) / 2).toNat) 0) ∧ p_ = [] | 9 => v_ = v ∧ p_ = [] | 10 => v_ = .int .i64 (i : Int) ∧ p_ = [] | 11 => v_ = elP v (((i : Int)).toNat * 1) ∧ p_ = [] | 12 => v_ = .int .i64 (lits.getD i 0) ∧ p_ = [] | 13 => v_ = .int .i64 ((lits.getD i 0) % 2) ∧ p_ = [] | 14 => v_ = .int .i64 (mpL tos (lits.getD i 0)) ∧ p_ = [] | 15 => IsRow 3 1 1 ([mpL tos (lits.getD i 0)].map (Value.int .i64)) v_ p_ | _ => True) (List.take_append_drop 16 _).symm (by kernel_rfl) (by kernel_rfl) rfl rfl ?_ ?_
  ·
   refine ⟨?_, ?_, ?_, ?_, ?_, ?_, ?_, ?_, ?_, ?_, ?_, ?_, ?_, ?_, ?_, ?_, trivial⟩
   ·
    intro vf pf hR
    exact ovQ rfl (zam [5] rfl) (zbg (zas rfl))
   ·
    intro vf pf hR
    exact ovQ rfl (zam [0] rfl) (zbg (zas rfl))
   ·
    intro vf pf hR
    exact ovQ rfl (zam [1] rfl) (zbg (zas rfl))
   ·
    intro vf pf hR
    exact ovQ rfl (zam [6] rfl) (zbg (zas rfl))
   ·
    intro vf pf hR
    have e2 := hR 2 (by decide)
    have e3 := hR 3 (by decide)
    exact olQ rfl (sk 16 (congrArg some e2.1) (sk 17 (congrArg some e3.1) (zaf _))) (zbg (riQ 1 rfl rfl rfl rfl (zab hv)))
   ·
    intro vf pf hR
    have e4 := hR 4 (by decide)
    exact olQ rfl (sk 18 (congrArg some e4.1) (zaf _)) (zbg (liQ rfl rfl rfl (zab hv)))
   ·
    intro vf pf hR
    have e5 := hR 5 (by decide)
    exact ovQ rfl (sk 19 (congrArg some e5.1) (zaf _)) (zbg (zeu rfl rfl rfl (by refine ⟨?_, ?_, ?_⟩ <;> omega)))
   ·
    intro vf pf hR
    have e1 := hR 1 (by decide)
    have e6 := hR 6 (by decide)
    exact olQ rfl (sk 15 (congrArg some e1.1) (sk 20 (congrArg some e6.1) (zaf _))) (zbg (riQ 1 rfl rfl rfl rfl (zab hu)))
   ·
    intro vf pf hR
    have e7 := hR 7 (by decide)
    exact olQ rfl (sk 21 (congrArg some e7.1) (zaf _)) (zbg (lzQ rfl rfl rfl (zab hu)))
   ·
    intro vf pf hR
    exact ovQ rfl (zam [1] rfl) (zbg (zas rfl))
   ·
    intro vf pf hR
    exact ovQ rfl (zam [6] rfl) (zbg (zas rfl))
   ·
    intro vf pf hR
    have e9 := hR 9 (by decide)
    have e10 := hR 10 (by decide)
    exact olQ rfl (sk 23 (congrArg some e9.1) (sk 24 (congrArg some e10.1) (zaf _))) (zbg (riQ 1 rfl rfl rfl rfl (zab hv)))
   ·
    intro vf pf hR
    have e11 := hR 11 (by decide)
    exact olQ rfl (sk 25 (congrArg some e11.1) (zaf _)) (zbg (liQ rfl rfl rfl (zab hv)))
   ·
    intro vf pf hR
    have e12 := hR 12 (by decide)
    exact ovQ rfl (sk 26 (congrArg some e12.1) (zaf _)) (zbg (zfu rfl (by decide) rfl rfl (r := (lits.getD i 0) % 2) (Bit.and_one _ (by omega) (by omega))))
   ·
    intro vf pf hR
    have e8 := hR 8 (by decide)
    have e13 := hR 13 (by decide)
    exact ovQ rfl (sk 22 (congrArg some e8.1) (sk 27 (congrArg some e13.1) (zaf _))) (zbg (zfu rfl (by decide) rfl rfl (r := mpL tos (lits.getD i 0)) (zse (by omega) (by omega))))
   intro vf pf hR
   have e14 := hR 14 (by decide)
   exact olQ rfl (sk 28 (congrArg some e14.1) (zaf _)) (zat (z := .int .i64 0) (s := 1) (cs := ([mpL tos (lits.getD i 0)].map (Value.int .i64))) rfl Try.underlying28 rfl (by decide) rfl (by kernel_rfl) rfl)
  intro vf pf hR
  have e0 := hR 0 (by decide)
  have e15 : IsRow 3 1 1 ([mpL tos (lits.getD i 0)].map (Value.int .i64)) (vf 15) (pf 15) := hR 15 (by decide)
  obtain ⟨g4, vE15, pE15⟩ := e15
  have q0 := hR 0 (by decide)
  have q1 := hR 1 (by decide)
  have q2 := hR 2 (by decide)
  have q3 := hR 3 (by decide)
  have q4 := hR 4 (by decide)
  have q5 := hR 5 (by decide)
  have q6 := hR 6 (by decide)
  have q7 := hR 7 (by decide)
  have q8 := hR 8 (by decide)
  have q9 := hR 9 (by decide)
  have q10 := hR 10 (by decide)
  have q11 := hR 11 (by decide)
  have q12 := hR 12 (by decide)
  have q13 := hR 13 (by decide)
  have q14 := hR 14 (by decide)
  refine zco (zbk [11, 6, 5, 4, 1, 0] _ (sk 14 (congrArg some e0.1) (sk 29 (congrArg some vE15) (zaf _))) rfl) (by simp only [pE15, vE15, q0.2, q1.2, q2.2, q3.2, q4.2, q5.2, q6.2, q7.2, q8.2, q9.2, q10.2, q11.2, q12.2, q13.2, q14.2, fS] <;> rfl) ?_
  simp only [List.drop_succ_cons, List.drop_zero]
  refine zcd (i := 1) (z := .int .i64 0) (bytes := 8) rfl rfl rfl rfl Try.underlying28 (by kernel_rfl) rfl rfl rfl rfl (zae 0 rfl) (zbm _) (by first | omega | (simp; done) | (simp; omega)) (zbv zs ([mpL tos (lits.getD i 0)])) (zcm zs ([mpL tos (lits.getD i 0)])) (fun _ => rfl) ?_
  intro v5
  refine enQ 1 rfl (zcv (reQ 1 rfl (hvQ rfl (vaQ rfl rfl rfl) (enQ 1 rfl ?_))))
  exact zbi (i + 1) v5 (zs ++ ([mpL tos (lits.getD i 0)])) ⟨by omega, by rw [hz]; unfold mpS; rw [zdb 0 (show i < lits.length by omega), List.map_append]; rfl⟩ (by omega) (saQ rfl) (slQ [1] rfl)
 refine ntQ (zal rfl ?_)
 refine zba (zdq ?_)
 refine zag (zaw (zbd 2 rfl ?_))
 exact zau (zck (post := [rowE 3 1 gu zs.length (zs.map (Value.int .i64))]) rfl rfl (pfQ rfl) (by rw [hz, List.take_of_length_le (by omega)]))
theorem zwq {N : Nat} {w0 : World} {l l' : List HP} {env : List (Nat × Value)} {Q : Post} {e : Exit} (h : l = l') (k : HQ N w0 l' env e Q) : HQ N w0 l env e Q := h ▸ k
def MkLe (bs : List Bl) (M : Int) : Prop := ∀ k : Nat, (bs.getD k bl0).b = true → (k : Int) ≤ M
theorem MkLe.set {bs : List Bl} {M : Int} (h : MkLe bs M) {j : Nat} {b : Bl} (hj : (j : Int) ≤ M) : MkLe (bs.set j b) M := fun k hk => by
  by_cases e : j = k
  · subst e; exact hj
  · rw [List.getD_eq_getElem?_getD, List.getElem?_set_ne e, ← List.getD_eq_getElem?_getD] at hk; exact h k hk
theorem MkLe.start (n : Nat) {j : Nat} {b : Bl} : MkLe ((List.replicate n bl0).set j b) j := fun k hk => by
  by_cases e : j = k
  · subst e; exact Int.le_refl _
  · rw [List.getD_eq_getElem?_getD, List.getElem?_set_ne e, List.getElem?_replicate] at hk
    split at hk <;> exact absurd hk (by decide)
theorem MkLe.startI (n : Nat) {node : Int} {b : Bl} (h0 : 0 ≤ node) : MkLe ((List.replicate n bl0).set node.toNat b) node := by
  have h9 := MkLe.start n (j := node.toNat) (b := b)
  rwa [Int.toNat_of_nonneg h0] at h9
def mkStep (n : Nt) (bs : List Bl) (i : Nat) : List Bl := if (bs.getD (n.fst + (i : Int)).toNat bl0).b = true then (bs.set ((n.gs.getD i an0).a / 2).toNat ⟨true⟩).set ((n.gs.getD i an0).b / 2).toNat ⟨true⟩ else bs
def mkD (n : Nt) (bs : List Bl) : Nat → List Bl
  | 0 => bs
  | d + 1 => mkStep n (mkD n bs d) (n.gs.length - 1 - d)
theorem zrp (n : Nt) (bs : List Bl) (i : Nat) : (mkStep n bs i).length = bs.length := by unfold mkStep; split <;> simp
theorem zlr (n : Nt) (bs : List Bl) : ∀ d, (mkD n bs d).length = bs.length
  | 0 => rfl
  | d + 1 => by unfold mkD; rw [zrp, zlr n bs d]
theorem zwi {n : Nt} (hn : NtOk n) {bs : List Bl} {M : Int} (h : MkLe bs M) : ∀ d, d ≤ n.gs.length → MkLe (mkD n bs d) M
  | 0, _ => h
  | d + 1, hd => by
    have ih := zwi hn h d (by omega)
    unfold mkD mkStep
    split
    · rename_i hb
      have h1 := ih _ hb
      have ha := hn.an (n.gs.length - 1 - d) (by omega)
      unfold LtOk at ha
      have hf : 0 ≤ n.fst := by have := hn.i0; unfold Nt.fst; omega
      exact (ih.set (by omega)).set (by omega)
    · exact ih
theorem zqg {n : Nt} {bs : List Bl} {kk : Nat} (h0 : 0 < kk) (h1 : kk ≤ n.gs.length) : mkD n bs (n.gs.length - (kk - 1)) = mkStep n (mkD n bs (n.gs.length - kk)) (kk - 1) := by
  rw [show n.gs.length - (kk - 1) = (n.gs.length - kk) + 1 by omega]
  show mkStep n _ (n.gs.length - 1 - (n.gs.length - kk)) = _
  rw [show n.gs.length - 1 - (n.gs.length - kk) = kk - 1 by omega]
theorem zro {n : Nt} {bs : List Bl} {i : Nat} {j a b : Nat} (hj : (n.fst + (i : Int)).toNat = j) (hb : (bs.getD j bl0).b = true) (ha : ((n.gs.getD i an0).a / 2).toNat = a) (hb2 : ((n.gs.getD i an0).b / 2).toNat = b) : (bs.set a ⟨true⟩).set b ⟨true⟩ = mkStep n bs i := by
  unfold mkStep; rw [hj, if_pos hb, ha, hb2]
theorem zta {n : Nt} {bs : List Bl} {i : Nat} {j : Nat} (hj : (n.fst + (i : Int)).toNat = j) (hb : (bs.getD j bl0).b = false) : bs = mkStep n bs i := by
  unfold mkStep; rw [hj, if_neg (by rw [hb]; decide)]
def mkdL (bs : List Bl) (k : Nat) : List Int := ((List.range k).filter fun i : Nat => (bs.getD i bl0).b).map fun i : Nat => (i : Int)
theorem zuu {bs : List Bl} {k : Nat} (h : (bs.getD k bl0).b = true) : mkdL bs k ++ [(k : Int)] = mkdL bs (k + 1) := by
  unfold mkdL; rw [List.range_succ, List.filter_append, List.map_append, List.filter_cons_of_pos (p := fun i : Nat => (bs.getD i bl0).b) h]; rfl
theorem mkdL_no {bs : List Bl} {k : Nat} (h : (bs.getD k bl0).b = false) : mkdL bs k = mkdL bs (k + 1) := by
  unfold mkdL; rw [List.range_succ, List.filter_append, List.map_append, List.filter_cons_of_neg (p := fun i : Nat => (bs.getD i bl0).b) (by simpa using h)]; simp
theorem zqf (bs : List Bl) (k : Nat) : (mkdL bs k).length ≤ k := by
  unfold mkdL; rw [List.length_map]; have := List.length_filter_le (fun i => (bs.getD i bl0).b) (List.range k); simpa using this
theorem zuv {bs : List Bl} {k : Nat} {x : Int} (h : x ∈ mkdL bs k) : ∃ i : Nat, x = (i : Int) ∧ i < k ∧ (bs.getD i bl0).b = true := by
  unfold mkdL at h
  simp only [List.mem_map, List.mem_filter, List.mem_range] at h
  obtain ⟨i, ⟨h1, h2⟩, rfl⟩ := h
  exact ⟨i, rfl, h1, h2⟩
def coneS (n : Nt) (node : Int) : List Int := mkdL (mkD n ((List.replicate n.cnt.toNat bl0).set node.toNat ⟨true⟩) n.gs.length) n.cnt.toNat
theorem znr {n : Nt} (hn : NtOk n) {node : Int} (h0 : 0 ≤ node) : ∀ x ∈ coneS n node, 0 ≤ x ∧ x ≤ node := fun x hx => by
  obtain ⟨i, rfl, h1, h2⟩ := zuv hx
  have := zwi hn (MkLe.startI n.cnt.toNat (b := ⟨true⟩) h0) n.gs.length (Nat.le_refl _) i h2
  omega
theorem zns (n : Nt) (node : Int) (hc : 0 ≤ n.cnt) : ((coneS n node).length : Int) ≤ n.cnt := by
  have := zqf (mkD n ((List.replicate n.cnt.toNat bl0).set node.toNat ⟨true⟩) n.gs.length) n.cnt.toNat
  unfold coneS; omega
structure SInv (s0 : List Sq) (i : Nat) (c : Int) (zs : List Sq) : Prop where
  sk : zs.map sqk = s0.map sqk
  ok : ∀ j, j < i → ∀ x ∈ (zs.getD j sq0).xs, LtOk x c
theorem SInv.start (s0 : List Sq) (c : Int) : SInv s0 0 c s0 := ⟨rfl, fun j hj => absurd hj (by omega)⟩
theorem SInv.len {s0 : List Sq} {i : Nat} {c : Int} {zs : List Sq} (h : SInv s0 i c zs) : zs.length = s0.length := zoe h.sk
theorem SInv.step {s0 : List Sq} {i : Nat} {c : Int} {zs : List Sq} (h : SInv s0 i c zs) (hi : i < s0.length) {e : Sq} (he : sqk e = sqk (zs.getD i sq0)) (hx : ∀ x ∈ e.xs, LtOk x c) : SInv s0 (i + 1) c (zs.set i e) := by
  have hl := h.len
  refine ⟨by rw [sqk_set he (by omega)]; exact h.sk, fun j hj => ?_⟩
  by_cases c : i = j
  · subst c; rw [zeb (by omega)]; exact hx
  · rw [List.getD_eq_getElem?_getD, List.getElem?_set_ne c, ← List.getD_eq_getElem?_getD]; exact h.ok j (by omega)
theorem SInv.x4 {s0 : List Sq} {i : Nat} {c : Int} {zs : List Sq} (h : SInv s0 i c zs) (h0 : ∀ s ∈ s0, s.xs.length ≤ 4) {k : Nat} (hk : k < s0.length) : (zs.getD k sq0).xs.length ≤ 4 := by
  have e := zoq (d := sq0) h.sk hk
  simp only [sqk, Prod.mk.injEq] at e
  rw [e.2.2]; exact h0 _ (zbl hk)
theorem SInv.same {s0 : List Sq} {i : Nat} {c : Int} {zs : List Sq} (h : SInv s0 i c zs) {k : Nat} (hk : k < s0.length) : (zs.getD k sq0).xs.length = (s0.getD k sq0).xs.length := by
  have e := zoq (d := sq0) h.sk hk
  simp only [sqk, Prod.mk.injEq] at e
  exact e.2.2
theorem sqv_x4 {zs ss : List Sq} (h : zs.map sqv = ss.map sqv) (h0 : ∀ s ∈ ss, s.xs.length ≤ 4) : ∀ s ∈ zs, s.xs.length ≤ 4 := fun s hs => by
  obtain ⟨r, hr, he⟩ := zls h hs
  simp only [sqv, Prod.mk.injEq] at he
  rw [← he.2.2]; exact h0 r hr
theorem SInv.all {s0 : List Sq} {i : Nat} {c : Int} {zs : List Sq} (h : SInv s0 i c zs) (hi : i = s0.length) : ∀ s ∈ zs, ∀ x ∈ s.xs, LtOk x c := fun s hs => by
  obtain ⟨j, hj, rfl⟩ := List.mem_iff_getElem.1 hs
  have := h.ok j (by have := h.len; omega)
  rwa [List.getD_eq_getElem?_getD, List.getElem?_eq_getElem hj, Option.getD_some] at this
theorem zjz (tos lits : List Int) : (mpS tos lits).length = lits.length := by unfold mpS; rw [List.length_map]
theorem zsd {k : Nat} {c : Int} (hc : 0 < c) : ∀ x ∈ List.replicate k (0 : Int), LtOk x c := fun x hx => by rw [List.eq_of_mem_replicate hx]; unfold LtOk; omega
theorem zlk {n m : Nt} (h : Skel n m) (hm : NtOk m) {zs : List Sq} {gs : List An} {os : List Int} {sv av ov : Value} (hz : zs.map sqk = m.ss.map sqk) (hg : AnsOk n.fst gs) (hgl : gs.length ≤ 300) (hx : ∀ s ∈ zs, ∀ x ∈ s.xs, LtOk x (n.fst + gs.length)) (ho : ∀ x ∈ os, LtOk x (n.fst + gs.length)) (hol : os.length ≤ 16) :
    NtOk (Nt.mk m.ins sv av ov zs gs os) ∧ Skel n (Nt.mk m.ins sv av ov zs gs os) := by
  have hs : Skel n (Nt.mk m.ins sv av ov zs gs os) := ⟨h.ins, hz.trans h.ss⟩
  have hs2 : Skel m (Nt.mk m.ins sv av ov zs gs os) := ⟨rfl, hz⟩
  have hf := hs.fst
  have hc : (Nt.mk m.ins sv av ov zs gs os).cnt = n.fst + gs.length := by show (Nt.mk m.ins sv av ov zs gs os).fst + (gs.length : Int) = _; rw [hf]
  exact ⟨⟨hm.i0, hm.i1, by rw [hs2.len]; exact hm.s1, hgl, hol, hs2.sq hm.sq, fun s hs x hxx => by rw [hc]; exact hx s hs x hxx, fun k hk => by rw [hf]; exact hg k hk, fun x hxx => by rw [hc]; exact ho x hxx⟩, hs⟩
open Go.RowKit
def tInH (v : Value) : Int := match v with | .tuple #[.agg #[.int .i64 i, _, _, _], _] => i | _ => 0
def tSvH (v : Value) : Value := match v with | .tuple #[.agg #[_, x, _, _], _] => x | _ => undef
def tAvH (v : Value) : Value := match v with | .tuple #[.agg #[_, _, x, _], _] => x | _ => undef
def tOvH (v : Value) : Value := match v with | .tuple #[.agg #[_, _, _, x], _] => x | _ => undef
def tXH (v : Value) : Int := match v with | .tuple #[_, .int .i64 i] => i | _ => 0
theorem zkb (n : Nt) (bs : List Bl) (v : Value) (w : World) (hr : RdsNt w n) (hn : NtOk n) (hv : RdsW w v 1 bs.length (bs.flatMap blC)) (hbl : (bs.length : Int) = n.cnt) :
   Calls Try.prog 129 #[.agg #[.int .i64 n.ins, n.sv, n.av, n.ov], v] w (Ret w (fun u_ p_ => p_ = [rowE 4 1 u_ (mkD n bs n.gs.length).length ((mkD n bs n.gs.length).flatMap blC)])) := by
 have hi0 := hn.i0
 have hi1 := hn.i1
 have hs1 := hn.s1
 have ha1 := hn.a1
 have ho1 := hn.o1
 have hcnt : n.cnt = 1 + n.ins + n.ss.length + n.gs.length := rfl
 have hfst : n.fst = 1 + n.ins + n.ss.length := rfl
 refine zbf (N := 44) (args := [.agg #[.int .i64 n.ins, n.sv, n.av, n.ov], v]) Try.func129 rfl rfl (srQ ?_)
 refine zdj rfl (zch rfl rfl) ?_
 intro b1
 refine zaz 1 rfl (srQ ?_)
 refine zdk rfl (zbz (s := 1) rfl Try.underlying130 rfl) ?_
 intro g2
 refine zap 1 rfl (zcd (i := 0) (z := .bool false) (bytes := 1) (n' := bs.length) (xs' := (bs.flatMap blC)) rfl rfl rfl rfl Try.underlying130 (by kernel_rfl) rfl rfl rfl rfl (zab hv) (zla blC bs (fun r u hu => by simp [blC] at hu; first | (subst hu; rfl) | (rcases hu with rfl | rfl <;> rfl))) (by first | omega | (simp only [List.length_take, List.length_drop]; omega)) (Nat.zero_add _) (List.nil_append _) (fun _ => rfl) ?_)
 intro v3
 refine zaz 1 rfl (zeh (hvQ rfl (fdQ 2 rfl rfl rfl) (hvQ rfl (zad rfl rfl rfl (zaa 1 rfl rfl)) (hvQ rfl (lnQ rfl rfl rfl (zab hr.an)) (hvQ rfl (vsQ rfl rfl rfl) (enQ 1 rfl ?_))))))
 refine zaw (zax ?_)
 refine zmd (α := Nat) (β := Value) (γ := List Bl) (fun kk gu zs => [rowE 4 1 gu zs.length (zs.flatMap blC), boxE b1 #[.int .i64 n.ins, n.sv, n.av, n.ov] 86]) (fun kk gu zs => [(0, .agg #[.int .i64 n.ins, n.sv, n.av, n.ov]), (1, v), (2, .pointer (some ⟨b1, 0, none⟩)), (4, .slice none 0 0), (5, gu), (6, .int .i64 ((kk : Int) - 1))]) (fun kk gu zs => kk ≤ n.gs.length ∧ zs = mkD n bs (n.gs.length - kk)) (fun kk gu zs => kk) n.gs.length _ bs ⟨Nat.le_refl _, by rw [Nat.sub_self]; rfl⟩ (saQ rfl) (pfQ rfl) ?_
 intro kk gu zs hi4
 obtain ⟨hkk, hz⟩ := hi4
 have hzl : zs.length = bs.length := by rw [hz, zlr]
 refine zac (zac (reQ 1 rfl ?_))
 refine zdi rfl rfl rfl rfl rfl rfl (fun h5 => ?_) (fun h5 => ?_)
 ·
  refine ntQ (zak rfl (zcq (sbQ (zac (reQ 1 rfl (hvQ rfl (zao (cs := [.int .i64 n.ins, n.sv, n.av, n.ov]) rfl rfl rfl rfl rfl (zaj 1 rfl 0 rfl)) ?_))))))
  refine zds rfl (zaq rfl rfl (fun w hm => zav (zcl n w (hr.below hm.bel) hn))) (zap 1 rfl (hvQ rfl (vaQ rfl rfl rfl) (hvQ rfl (riQ 1 rfl rfl rfl rfl (zae 0 rfl)) ?_)))
  refine hvQ rfl (zar (u := .bool ((zs.getD ((n.fst + ((kk : Int) - 1)).toNat) bl0).b)) rfl rfl rfl (zae 0 rfl) (zcu blC (fun r => .bool r.b) (fun _ => rfl) zs bl0 (show (n.fst + ((kk : Int) - 1)).toNat < _ by omega))) (zca (fun h6 => ?_) (fun h6 => ?_))
  ·
   have hmk := h6
   refine ntQ (zak rfl (srQ ?_))
   have ha := hn.an ((kk : Int) - 1).toNat (by omega)
   unfold LtOk at ha
   refine zap 1 rfl (hvQ rfl (fdQ 2 rfl rfl rfl) (hvQ rfl (zad rfl rfl rfl (zaa 1 rfl rfl)) (zap 1 rfl (hvQ rfl (riQ 2 rfl rfl rfl rfl (zab hr.an)) (hvQ rfl (zbe (k0 := 0) rfl rfl rfl (zab hr.an) (by omega)) ?_)))))
   refine hvQ rfl (zar (u := .int .i64 ((n.gs.getD ((((kk : Int) - 1)).toNat) an0).a)) rfl rfl rfl (zab hr.an) ((zce anC 2 (fun _ => rfl) n.gs an0 (show (((kk : Int) - 1)).toNat < _ by omega) (by decide)).trans rfl)) (hvQ rfl (zeu rfl rfl rfl (by refine ⟨?_, ?_, ?_⟩ <;> omega)) ?_)
   refine hvQ rfl (riQ 1 rfl rfl rfl rfl (zae 0 rfl)) (zda (i := 0) (n' := (zs.set ((((n.gs.getD ((((kk : Int) - 1)).toNat) an0).a) / 2).toNat) { zs.getD ((((n.gs.getD ((((kk : Int) - 1)).toNat) an0).a) / 2).toNat) bl0 with b := true }).length) rfl rfl rfl rfl rfl rfl rfl rfl (by first | omega | (simp only [List.length_set]; omega)) List.length_set.symm (zdl blC (fun r => .bool r.b) (fun _ => rfl) _ ({ zs.getD ((((n.gs.getD ((((kk : Int) - 1)).toNat) an0).a) / 2).toNat) bl0 with b := true }) rfl) rfl ?_)
   refine ntQ (reQ 1 rfl (hvQ rfl (fdQ 2 rfl rfl rfl) (hvQ rfl (zad rfl rfl rfl (zaa 1 rfl rfl)) (zap 1 rfl (hvQ rfl (riQ 2 rfl rfl rfl rfl (zab hr.an)) (hvQ rfl (zbe (k0 := 1) rfl rfl rfl (zab hr.an) (by omega)) ?_))))))
   refine hvQ rfl (zar (u := .int .i64 ((n.gs.getD ((((kk : Int) - 1)).toNat) an0).b)) rfl rfl rfl (zab hr.an) ((zce anC 2 (fun _ => rfl) n.gs an0 (show (((kk : Int) - 1)).toNat < _ by omega) (by decide)).trans rfl)) (hvQ rfl (zeu rfl rfl rfl (by refine ⟨?_, ?_, ?_⟩ <;> omega)) ?_)
   refine hvQ rfl (riQ 1 rfl rfl rfl rfl (zae 0 rfl) (by omega) (by first | omega | (simp only [List.length_set]; omega))) (zda (i := 0) (n' := ((zs.set ((((n.gs.getD ((((kk : Int) - 1)).toNat) an0).a) / 2).toNat) { zs.getD ((((n.gs.getD ((((kk : Int) - 1)).toNat) an0).a) / 2).toNat) bl0 with b := true }).set ((((n.gs.getD ((((kk : Int) - 1)).toNat) an0).b) / 2).toNat) { (zs.set ((((n.gs.getD ((((kk : Int) - 1)).toNat) an0).a) / 2).toNat) { zs.getD ((((n.gs.getD ((((kk : Int) - 1)).toNat) an0).a) / 2).toNat) bl0 with b := true }).getD ((((n.gs.getD ((((kk : Int) - 1)).toNat) an0).b) / 2).toNat) bl0 with b := true }).length) rfl rfl rfl rfl rfl rfl rfl rfl (by first | omega | (simp only [List.length_set]; omega)) List.length_set.symm (zdl blC (fun r => .bool r.b) (fun _ => rfl) _ ({ (zs.set ((((n.gs.getD ((((kk : Int) - 1)).toNat) an0).a) / 2).toNat) { zs.getD ((((n.gs.getD ((((kk : Int) - 1)).toNat) an0).a) / 2).toNat) bl0 with b := true }).getD ((((n.gs.getD ((((kk : Int) - 1)).toNat) an0).b) / 2).toNat) bl0 with b := true }) rfl) rfl ?_)
   refine zbu (zcv (reQ 1 rfl (hvQ rfl (vsQ rfl rfl rfl) (enQ 1 rfl ?_))))
   have hkn : ((kk : Int) - 1).toNat = kk - 1 := by omega
   have hz2 : (zs.set ((((n.gs.getD ((((kk : Int) - 1)).toNat) an0).a) / 2).toNat) { zs.getD ((((n.gs.getD ((((kk : Int) - 1)).toNat) an0).a) / 2).toNat) bl0 with b := true }).set ((((n.gs.getD ((((kk : Int) - 1)).toNat) an0).b) / 2).toNat) { (zs.set ((((n.gs.getD ((((kk : Int) - 1)).toNat) an0).a) / 2).toNat) { zs.getD ((((n.gs.getD ((((kk : Int) - 1)).toNat) an0).a) / 2).toNat) bl0 with b := true }).getD ((((n.gs.getD ((((kk : Int) - 1)).toNat) an0).b) / 2).toNat) bl0 with b := true } = mkD n bs (n.gs.length - (kk - 1)) := by rw [zqg (by omega) hkk]; exact (hz ▸ zro (i := kk - 1) (by omega) hmk (by rw [hkn]) (by rw [hkn]))
   exact zbi (kk - 1) gu ((zs.set ((((n.gs.getD ((((kk : Int) - 1)).toNat) an0).a) / 2).toNat) { zs.getD ((((n.gs.getD ((((kk : Int) - 1)).toNat) an0).a) / 2).toNat) bl0 with b := true }).set ((((n.gs.getD ((((kk : Int) - 1)).toNat) an0).b) / 2).toNat) { (zs.set ((((n.gs.getD ((((kk : Int) - 1)).toNat) an0).a) / 2).toNat) { zs.getD ((((n.gs.getD ((((kk : Int) - 1)).toNat) an0).a) / 2).toNat) bl0 with b := true }).getD ((((n.gs.getD ((((kk : Int) - 1)).toNat) an0).b) / 2).toNat) bl0 with b := true }) ⟨by omega, hz2⟩ (by omega) (zbk [5, 4, 2, 1, 0] _ (sk 6 (congrArg (fun x => some (Value.int .i64 x)) (by omega)) (zaf _)) rfl) (pfQ rfl)
  have hmk := h6
  refine ntQ (fsQ rfl (zcv (reQ 1 rfl (hvQ rfl (vsQ rfl rfl rfl) (enQ 1 rfl ?_)))))
  have hkn : ((kk : Int) - 1).toNat = kk - 1 := by omega
  have hz2 : zs = mkD n bs (n.gs.length - (kk - 1)) := by rw [zqg (by omega) hkk]; exact (hz ▸ zta (i := kk - 1) (by omega) hmk)
  exact zbi (kk - 1) gu zs ⟨by omega, hz2⟩ (by omega) (zbk [5, 4, 2, 1, 0] _ (sk 6 (congrArg (fun x => some (Value.int .i64 x)) (by omega)) (zaf _)) rfl) (pfQ rfl)
 refine ntQ (zal rfl ?_)
 refine zba (zdq ?_)
 refine zag (zaw (zbd 2 rfl ?_))
 exact zau (zck (post := [rowE 4 1 gu zs.length (zs.flatMap blC)]) rfl rfl (slQ [0] rfl) (by rw [hz, show n.gs.length - kk = n.gs.length by omega]))
theorem zpm (n : Nt) (w : World) (hr : RdsNt w n) (hn : NtOk n) :
   Calls Try.prog 128 #[.agg #[.int .i64 n.ins, n.sv, n.av, n.ov]] w (Ret w (fun u_ p_ => ∃ bs' : List Bl, p_ = [rowE 4 1 u_ bs'.length (bs'.flatMap blC)] ∧ bs'.length = n.cnt.toNat)) := by
 have hi0 := hn.i0
 have hi1 := hn.i1
 have hs1 := hn.s1
 have ha1 := hn.a1
 have ho1 := hn.o1
 have hcnt : n.cnt = 1 + n.ins + n.ss.length + n.gs.length := rfl
 have hfst : n.fst = 1 + n.ins + n.ss.length := rfl
 refine zbf (N := 31) (args := [.agg #[.int .i64 n.ins, n.sv, n.av, n.ov]]) Try.func128 rfl rfl (srQ ?_)
 refine zdj rfl (zch rfl rfl) ?_
 intro b1
 refine zaz 1 rfl (zeh (hvQ rfl (zao (cs := [.int .i64 n.ins, n.sv, n.av, n.ov]) rfl rfl rfl rfl rfl (zaj 0 rfl 0 rfl)) ?_))
 refine zds rfl (zaq rfl rfl (fun w hm => zav (zdz n w (hr.below hm.bel) hn))) (zaz 1 rfl (zal rfl (zcq (srQ (hvQ rfl (zao (cs := [.int .i64 n.ins, n.sv, n.av, n.ov]) rfl rfl rfl rfl rfl (zaj 0 rfl 0 rfl)) ?_)))))
 refine zds rfl (zaq rfl rfl (fun w hm => zav (zcb n w (hr.below hm.bel) hn))) (zdk rfl (zdw (z := .bool false) (s := 1) (bytes := 1) (n := (List.replicate (n.cnt).toNat bl0).length) (cs := ((List.replicate (n.cnt).toNat bl0).flatMap blC)) rfl Try.underlying130 rfl (by decide) rfl rfl (by first | (rw [List.length_replicate]; done) | (rw [List.length_replicate]; omega)) (by first | (rw [List.length_replicate]; done) | (rw [List.length_replicate]; omega)) (by rw [List.length_replicate]; omega) (zex blC 1 (fun _ => rfl) bl0 _ rfl (n.cnt).toNat)) ?_)
 intro g2
 refine zaz 1 rfl (srQ (hvQ rfl (zao (cs := [.int .i64 n.ins, n.sv, n.av, n.ov]) rfl rfl rfl rfl rfl (zaj 1 rfl 0 rfl)) ?_))
 refine zfg rfl rfl rfl (zaq rfl rfl (fun w hm => zgx n w (hr.below hm.bel) hn)) ?_
 intro v3 p4 hR5
 subst hR5
 refine zaz 1 rfl (zac (zbd 1 rfl (zax ?_)))
 refine zhy (α := Nat) (β := List Bl) [0, 1, 2, 3, 4, 8] rfl (fun q zs => [rowE 3 1 v3 ((rtsL n n.ss.length).length) ((rtsL n n.ss.length).map (Value.int .i64)), rowE 4 1 (.slice (some ⟨g2, 0, none⟩) ((List.replicate (n.cnt).toNat bl0).length) ((List.replicate (n.cnt).toNat bl0).length)) zs.length (zs.flatMap blC), boxE b1 #[.int .i64 n.ins, n.sv, n.av, n.ov] 86]) (fun q zs => [(5, .int .i64 (q : Int))]) (fun q zs => q ≤ (rtsL n n.ss.length).length ∧ zs.length = n.cnt.toNat) (fun q zs => (rtsL n n.ss.length).length - q) 0 _ ⟨Nat.zero_le _, by rw [List.length_replicate]⟩ (saQ rfl) (pfQ rfl) ?_
 intro q zs hi6
 obtain ⟨hq, hzl⟩ := hi6
 refine zac (zac (reQ 2 rfl ?_))
 have hzl9 := zio hn n.ss.length (Nat.le_refl _)
 refine hvQ rfl (lnQ rfl rfl rfl (zae 0 rfl)) (zbj rfl rfl rfl rfl rfl rfl (fun h7 => ?_) (fun h7 => ?_))
 ·
  refine ntQ (zak rfl (zcq (sbQ (zay ?_))))
  have hlk := zsr hn (i := q) (by omega)
  unfold LtOk at hlk
  refine zap 3 rfl (hvQ rfl (riQ 1 rfl rfl rfl rfl (zae 0 rfl)) (hvQ rfl (zar (u := .int .i64 ((rtsL n n.ss.length).getD q 0)) rfl rfl rfl (zae 0 rfl) (zbn (show _ < (rtsL n n.ss.length).length by omega))) ?_))
  refine hvQ rfl (zeu rfl rfl rfl (by refine ⟨?_, ?_, ?_⟩ <;> omega)) ?_
  refine hvQ rfl (riQ 1 rfl rfl rfl rfl (zae 1 rfl)) (zda (i := 1) (n' := (zs.set ((((rtsL n n.ss.length).getD q 0) / 2).toNat) { zs.getD ((((rtsL n n.ss.length).getD q 0) / 2).toNat) bl0 with b := true }).length) rfl rfl rfl rfl rfl rfl rfl rfl (by first | omega | (simp only [List.length_set]; omega)) List.length_set.symm (zdl blC (fun r => .bool r.b) (fun _ => rfl) _ ({ zs.getD ((((rtsL n n.ss.length).getD q 0) / 2).toNat) bl0 with b := true }) rfl) rfl ?_)
  refine zbu (zcv (reQ 1 rfl (hvQ rfl (vaQ rfl rfl rfl) (enQ 1 rfl ?_))))
  exact zbq (q + 1) (zs.set ((((rtsL n n.ss.length).getD q 0) / 2).toNat) { zs.getD ((((rtsL n n.ss.length).getD q 0) / 2).toNat) bl0 with b := true }) ⟨by omega, by rw [List.length_set]; exact hzl⟩ (by omega) (saQ rfl) (pfQ rfl)
 refine ntQ (zal rfl ?_)
 refine zba (zdq ?_)
 refine zag (zaw (srQ (hvQ rfl (zao (cs := [.int .i64 n.ins, n.sv, n.av, n.ov]) rfl rfl rfl rfl rfl (zaj 2 rfl 0 rfl)) (zap 1 rfl ?_))))
 refine zfg rfl rfl rfl (zaq rfl rfl (fun w hm => zkb n zs _ w (hr.below hm.bel) hn ((zae 1 rfl) w hm) (by first | omega | (simp only [List.length_set, List.length_replicate]; omega)))) ?_
 intro v8 p9 hR10
 subst hR10
 have hb2 : (mkD n zs n.gs.length).length = n.cnt.toNat := by rw [zlr]; first | omega | (simp only [List.length_set, List.length_replicate]; done)
 refine zaz 1 rfl ?_
 exact zau (zck (post := [rowE 4 1 v8 ((mkD n zs n.gs.length).length) ((mkD n zs n.gs.length).flatMap blC)]) rfl rfl (slQ [0] rfl) ⟨_, rfl, hb2⟩)
theorem zrk (n : Nt) (node : Int) (w : World) (hr : RdsNt w n) (hn : NtOk n) (hnd : 0 ≤ node ∧ node < n.cnt) :
   Calls Try.prog 125 #[.agg #[.int .i64 n.ins, n.sv, n.av, n.ov], .int .i64 node] w (Ret w (fun u_ p_ => p_ = [rowE 3 1 u_ (coneS n node).length ((coneS n node).map (Value.int .i64))])) := by
 have hi0 := hn.i0
 have hi1 := hn.i1
 have hs1 := hn.s1
 have ha1 := hn.a1
 have ho1 := hn.o1
 have hcnt : n.cnt = 1 + n.ins + n.ss.length + n.gs.length := rfl
 have hfst : n.fst = 1 + n.ins + n.ss.length := rfl
 refine zbf (N := 47) (args := [.agg #[.int .i64 n.ins, n.sv, n.av, n.ov], .int .i64 node]) Try.func125 rfl rfl (srQ ?_)
 refine zdj rfl (zch rfl rfl) ?_
 intro b1
 refine zaz 1 rfl (srQ ?_)
 refine zdk rfl (zbz (s := 1) rfl Try.underlying28 rfl) ?_
 intro g2
 refine zaz 1 rfl (zeh (hvQ rfl (zao (cs := [.int .i64 n.ins, n.sv, n.av, n.ov]) rfl rfl rfl rfl rfl (zaj 1 rfl 0 rfl)) ?_))
 refine zds rfl (zaq rfl rfl (fun w hm => zav (zdz n w (hr.below hm.bel) hn))) (zap 3 rfl ?_)
 refine zbj rfl rfl rfl rfl rfl rfl (fun h3 => absurd h3 (by omega)) (fun h3 => ?_)
 refine zap 3 rfl (hvQ rfl (zao (cs := [.int .i64 n.ins, n.sv, n.av, n.ov]) rfl rfl rfl rfl rfl (zaj 1 rfl 0 rfl)) ?_)
 refine zds rfl (zaq rfl rfl (fun w hm => zav (zcb n w (hr.below hm.bel) hn))) (zdi rfl rfl rfl rfl rfl rfl (fun h4 => absurd h4 (by omega)) (fun h4 => ?_))
 refine zaz 1 rfl (zal rfl (zcq (srQ (hvQ rfl (zao (cs := [.int .i64 n.ins, n.sv, n.av, n.ov]) rfl rfl rfl rfl rfl (zaj 1 rfl 0 rfl)) ?_))))
 refine zds rfl (zaq rfl rfl (fun w hm => zav (zcb n w (hr.below hm.bel) hn))) (zdk rfl (zdw (z := .bool false) (s := 1) (bytes := 1) (n := (List.replicate (n.cnt).toNat bl0).length) (cs := ((List.replicate (n.cnt).toNat bl0).flatMap blC)) rfl Try.underlying130 rfl (by decide) rfl rfl (by first | (rw [List.length_replicate]; done) | (rw [List.length_replicate]; omega)) (by first | (rw [List.length_replicate]; done) | (rw [List.length_replicate]; omega)) (by rw [List.length_replicate]; omega) (zex blC 1 (fun _ => rfl) bl0 _ rfl (n.cnt).toNat)) ?_)
 intro g5
 refine zaz 1 rfl (srQ ?_)
 have hrl : (List.replicate n.cnt.toNat bl0).length = n.cnt.toNat := List.length_replicate
 refine zap 2 rfl (hvQ rfl (riQ 1 rfl rfl rfl rfl (zae 0 rfl)) ?_)
 refine zda (i := 0) (n' := ((List.replicate (n.cnt).toNat bl0).set ((node).toNat) { (List.replicate (n.cnt).toNat bl0).getD ((node).toNat) bl0 with b := true }).length) rfl rfl rfl rfl rfl rfl rfl rfl (by first | omega | (simp only [List.length_set]; omega)) List.length_set.symm (zdl blC (fun r => .bool r.b) (fun _ => rfl) _ ({ (List.replicate (n.cnt).toNat bl0).getD ((node).toNat) bl0 with b := true }) rfl) rfl (ntQ (srQ (hvQ rfl (zao (cs := [.int .i64 n.ins, n.sv, n.av, n.ov]) rfl rfl rfl rfl rfl (zaj 2 rfl 0 rfl)) (zap 1 rfl ?_))))
 refine zfg rfl rfl rfl (zaq rfl rfl (fun w hm => zkb n ((List.replicate (n.cnt).toNat bl0).set ((node).toNat) { (List.replicate (n.cnt).toNat bl0).getD ((node).toNat) bl0 with b := true }) _ w (hr.below hm.bel) hn ((zae 0 rfl) w hm) (by first | omega | (simp only [List.length_set, List.length_replicate]; omega)))) ?_
 intro v6 p7 hR8
 subst hR8
 have hb2 : (mkD n ((List.replicate (n.cnt).toNat bl0).set ((node).toNat) { (List.replicate (n.cnt).toNat bl0).getD ((node).toNat) bl0 with b := true }) n.gs.length).length = n.cnt.toNat := by rw [zlr]; first | omega | (simp only [List.length_set, List.length_replicate]; done)
 refine zaz 1 rfl (zac (zbd 1 rfl (zax ?_)))
 refine zgn (α := Nat) (β := Value) (γ := List Int) [0, 1, 2, 4, 6, 21] rfl (fun k gu xs => [rowE 4 1 v6 ((mkD n ((List.replicate (n.cnt).toNat bl0).set ((node).toNat) { (List.replicate (n.cnt).toNat bl0).getD ((node).toNat) bl0 with b := true }) n.gs.length).length) ((mkD n ((List.replicate (n.cnt).toNat bl0).set ((node).toNat) { (List.replicate (n.cnt).toNat bl0).getD ((node).toNat) bl0 with b := true }) n.gs.length).flatMap blC), rowE 4 1 (.slice (some ⟨g5, 0, none⟩) ((List.replicate (n.cnt).toNat bl0).length) ((List.replicate (n.cnt).toNat bl0).length)) (((List.replicate (n.cnt).toNat bl0).set ((node).toNat) { (List.replicate (n.cnt).toNat bl0).getD ((node).toNat) bl0 with b := true }).length) (((List.replicate (n.cnt).toNat bl0).set ((node).toNat) { (List.replicate (n.cnt).toNat bl0).getD ((node).toNat) bl0 with b := true }).flatMap blC), rowE 3 1 gu xs.length (xs.map (Value.int .i64)), boxE b1 #[.int .i64 n.ins, n.sv, n.av, n.ov] 86]) (fun k gu xs => [(5, gu), (7, .int .i64 (k : Int))]) (fun k gu xs => k ≤ n.cnt.toNat ∧ xs = mkdL (mkD n ((List.replicate (n.cnt).toNat bl0).set ((node).toNat) { (List.replicate (n.cnt).toNat bl0).getD ((node).toNat) bl0 with b := true }) n.gs.length) k) (fun k gu xs => n.cnt.toNat - k) 0 _ [] ⟨Nat.zero_le _, rfl⟩ (saQ rfl) (pfQ rfl) ?_
 intro k gu xs hi9
 obtain ⟨hk, hz⟩ := hi9
 have hxl : xs.length ≤ k := by rw [hz]; exact zqf _ _
 refine zac (zac (reQ 2 rfl (hvQ rfl (lnQ rfl rfl rfl (zae 0 rfl)) ?_)))
 refine zbj rfl rfl rfl rfl rfl rfl (fun h10 => ?_) (fun h10 => ?_)
 ·
  refine ntQ (zak rfl (zcq (sbQ (zac (reQ 2 rfl (hvQ rfl (riQ 1 rfl rfl rfl rfl (zae 0 rfl) (by omega) (by first | omega | (simp only [List.length_set]; omega))) ?_))))))
  refine hvQ rfl (zar (u := .bool (((mkD n ((List.replicate (n.cnt).toNat bl0).set ((node).toNat) { (List.replicate (n.cnt).toNat bl0).getD ((node).toNat) bl0 with b := true }) n.gs.length).getD k bl0).b)) rfl rfl rfl (zae 0 rfl) (zcu blC (fun r => .bool r.b) (fun _ => rfl) (mkD n ((List.replicate (n.cnt).toNat bl0).set ((node).toNat) { (List.replicate (n.cnt).toNat bl0).getD ((node).toNat) bl0 with b := true }) n.gs.length) bl0 (show k < _ by first | omega | (simp only [List.length_set]; omega)))) (zca (fun h11 => ?_) (fun h11 => ?_))
  ·
   have hmk := h11
   refine ntQ (zak rfl (reQ 2 rfl ?_))
   refine zdk rfl (zat (z := .int .i64 0) (s := 1) (cs := ([(k : Int)].map (Value.int .i64))) rfl Try.underlying28 rfl (by decide) rfl (by kernel_rfl) rfl) ?_
   intro g12
   refine zcd (i := 3) (z := .int .i64 0) (bytes := 8) rfl rfl rfl rfl Try.underlying28 (by kernel_rfl) rfl rfl rfl rfl (zae 0 rfl) (zbm _) (by first | omega | (simp; done) | (simp; omega)) (zbv xs ([(k : Int)])) (zcm xs ([(k : Int)])) (fun _ => rfl) ?_
   intro v13
   refine enQ 1 rfl (zcv (reQ 1 rfl (hvQ rfl (vaQ rfl rfl rfl) (enQ 1 rfl ?_))))
   exact zbi (k + 1) v13 (xs ++ ([(k : Int)])) ⟨by omega, by rw [hz]; exact zuu hmk⟩ (by omega) (saQ rfl) (slQ [1, 0, 0, 0] rfl)
  have hmk := h11
  refine ntQ (fsQ rfl (zcv (reQ 1 rfl (hvQ rfl (vaQ rfl rfl rfl) (enQ 1 rfl ?_)))))
  exact zbi (k + 1) gu xs ⟨by omega, by rw [hz]; exact mkdL_no hmk⟩ (by omega) (saQ rfl) (pfQ rfl)
 refine ntQ (zal rfl ?_)
 refine zba (zdq ?_)
 refine zag (zaw (zbd 2 rfl ?_))
 exact zau (zck (post := [rowE 3 1 gu xs.length (xs.map (Value.int .i64))]) rfl rfl (slQ [2] rfl) (by rw [hz, show k = n.cnt.toNat by omega]; rfl))
theorem zpj (x0 : Int) (x1 : Value) (h1 : x1.oneCell' = true) : Try.prog.built 86 [(0, .int .i64 x0), (1, x1)] = some #[.int .i64 x0, x1, .slice none 0 0, .slice none 0 0] := by
  (cases x1 <;> first | (exact absurd h1 Bool.false_ne_true) | kernel_rfl)
end Go.Proofs.Yteikplehipifkaa
