/- Texts of the law FnConnsComplete, part 4: what it uses. -/
import Derived.Test.YteikplehipifkaaCnc3
set_option linter.unusedVariables false
set_option linter.unusedSimpArgs false
set_option maxHeartbeats 4000000
set_option maxRecDepth 100000
namespace Go.Proofs.Yteikplehipifkaa
open Go.RowKit Go.ChangeShapes
open Go.RowKit
theorem ziy (n : Ln) (b : Bk) (w : World) (hr : RdsLn w n) (hok : LnOk n) (hbe : RdsW w b.bv 2 b.es.length (b.es.flatMap leC)) (hbl : b.es.length ≤ 100) :
   Calls Try.prog 10 #[.agg #[.int .i64 n.ins, n.sv, n.lv, n.ov], .agg #[.int .i64 b.kd, .int .i64 b.it, b.bv]] w (Ret w (fun v' post => post = [rowE 3 1 v' ((pinN n b)).length (((pinN n b)).map (Value.int .i64))])) := by
 have hso := sml hr.ou
 have hss := hr.sq.small
 have hsl := hr.lt.small
 have hcnt : n.cnt = 1 + n.ins + n.ss.length + n.ls.length := rfl
 have hfst : n.fst = 1 + n.ins + n.ss.length := rfl
 obtain ⟨⟨si0, si1⟩, s2, s3, s4⟩ := hok.sz
 have hb1 := hbe.one
 refine zbf (N := 39) (args := [.agg #[.int .i64 n.ins, n.sv, n.lv, n.ov], .agg #[.int .i64 b.kd, .int .i64 b.it, b.bv]]) Try.func10 rfl rfl (srQ ?_)
 refine zdj rfl (zch rfl rfl) ?_
 intro b1
 refine zdj rfl (zch rfl rfl) ?_
 intro b2
 refine zaz 1 rfl (zeh (hvQ rfl (zao (cs := [.int .i64 n.ins, n.sv, n.lv, n.ov]) rfl rfl rfl rfl rfl (zaj 1 rfl 0 rfl)) (hvQ rfl (zao (cs := [.int .i64 b.kd, .int .i64 b.it, b.bv]) rfl rfl rfl rfl rfl (zaj 0 rfl 0 rfl)) ?_)))
 refine zds rfl (zaq rfl rfl (fun w hm => zav (zgw n b w (hr.below hm.bel) hok (hbe.below hm.bel) hbl))) (zca (fun h3 => ?_) (fun h3 => ?_))
 ·
  have h3p := zja h3
  refine zaz 1 rfl (zal rfl (zcq (zeh (hvQ rfl (fdQ 0 rfl rfl rfl) (hvQ rfl (zad rfl rfl rfl (zaa 0 rfl rfl)) (zbu ?_))))))
  refine zaw (zax (srQ ?_))
  refine zbp rfl rfl rfl rfl rfl rfl (fun h4 => ?_) (fun h4 => ?_)
  ·
   refine zaz 1 rfl (zak rfl (srQ ?_))
   refine zdk rfl (zbz (s := 1) rfl Try.underlying28 rfl) ?_
   intro g5
   refine zaz 1 rfl ?_
   refine zau (zan ?_)
   exact zai (zck (post := [rowE 3 1 (.slice (some ⟨g5, 0, none⟩) 0 0) 0 ([])]) rfl rfl (slQ [0] rfl) (by unfold pinN; first | (rw [if_pos (show ¬ BkIn n b by assumption)] <;> rfl) | (rw [if_neg (not_not_intro (show BkIn n b by assumption)), if_pos (by omega)] <;> rfl) | (rw [if_neg (not_not_intro (show BkIn n b by assumption)), if_neg (by omega), if_pos (by omega)] <;> rfl) | (rw [if_neg (not_not_intro (show BkIn n b by assumption)), if_neg (by omega), if_neg (by omega), if_pos (by omega)] <;> rfl) | (rw [if_neg (not_not_intro (show BkIn n b by assumption)), if_neg (by omega), if_neg (by omega), if_neg (by omega)] <;> rfl)))
  refine zaz 1 rfl (zal rfl (srQ ?_))
  refine zbp rfl rfl rfl rfl rfl rfl (fun h6 => ?_) (fun h6 => ?_)
  ·
   refine zaz 1 rfl (zak rfl (srQ ?_))
   have hbi : BkIn n b := by assumption
   have hrg : (b.kd = 0 → 0 ≤ b.it ∧ b.it < n.ins) ∧ (b.kd = 1 → 0 ≤ b.it ∧ b.it < n.os.length) ∧ (b.kd = 2 → 0 ≤ b.it ∧ b.it < n.ss.length) := by rcases hbi with ⟨p1, p2, p3⟩ | ⟨p1, p2, p3⟩ | ⟨p1, p2, p3⟩ | ⟨p1, p2⟩ <;> omega
   refine hvQ rfl (fdQ 3 rfl rfl rfl) (hvQ rfl (zad rfl rfl rfl (zaa 1 rfl rfl)) (hvQ rfl (fdQ 1 rfl rfl rfl) (hvQ rfl (zad rfl rfl rfl (zaa 0 rfl rfl)) (hvQ rfl (riQ 1 rfl rfl rfl rfl (zab ((hr).ou))) (hvQ rfl (lzQ rfl rfl rfl (zab ((hr).ou))) ?_)))))
   refine zdk rfl (zat (z := .int .i64 0) (s := 1) (cs := ([n.os.getD ((b.it).toNat) 0].map (Value.int .i64))) rfl Try.underlying28 rfl (by decide) rfl (by kernel_rfl) rfl) ?_
   intro g7
   refine zaz 1 rfl ?_
   refine zau (zan ?_)
   exact zai (zck (post := [rowE 3 1 (.slice (some ⟨g7, 0, none⟩) 1 1) 1 ([n.os.getD ((b.it).toNat) 0].map (Value.int .i64))]) rfl rfl (slQ [0] rfl) (by unfold pinN; first | (rw [if_pos (show ¬ BkIn n b by assumption)] <;> rfl) | (rw [if_neg (not_not_intro (show BkIn n b by assumption)), if_pos (by omega)] <;> rfl) | (rw [if_neg (not_not_intro (show BkIn n b by assumption)), if_neg (by omega), if_pos (by omega)] <;> rfl) | (rw [if_neg (not_not_intro (show BkIn n b by assumption)), if_neg (by omega), if_neg (by omega), if_pos (by omega)] <;> rfl) | (rw [if_neg (not_not_intro (show BkIn n b by assumption)), if_neg (by omega), if_neg (by omega), if_neg (by omega)] <;> rfl)))
  refine zaz 1 rfl (zal rfl (srQ ?_))
  refine zbp rfl rfl rfl rfl rfl rfl (fun h8 => ?_) (fun h8 => ?_)
  ·
   refine zaz 1 rfl (zak rfl (srQ ?_))
   have hbi : BkIn n b := by assumption
   have hrg : (b.kd = 0 → 0 ≤ b.it ∧ b.it < n.ins) ∧ (b.kd = 1 → 0 ≤ b.it ∧ b.it < n.os.length) ∧ (b.kd = 2 → 0 ≤ b.it ∧ b.it < n.ss.length) := by rcases hbi with ⟨p1, p2, p3⟩ | ⟨p1, p2, p3⟩ | ⟨p1, p2, p3⟩ | ⟨p1, p2⟩ <;> omega
   have hsq9 := (hok.sq b.it.toNat (by omega)).1.len
   refine zdk rfl (zbz (s := 1) rfl Try.underlying28 rfl) ?_
   intro g9
   refine hvQ rfl (fdQ 1 rfl rfl rfl) (hvQ rfl (zad rfl rfl rfl (zaa 2 rfl rfl)) (hvQ rfl (fdQ 1 rfl rfl rfl) (hvQ rfl (zad rfl rfl rfl (zaa 1 rfl rfl)) (hvQ rfl (riQ 3 rfl rfl rfl rfl (zab ((hr).sq.row))) (hvQ rfl (zbe (k0 := 2) rfl rfl rfl (zab ((hr).sq.row)) (by omega)) ?_)))))
   refine hvQ rfl (zar (u := (n.ss.getD ((b.it).toNat) sq0).iv) rfl rfl rfl (zab ((hr).sq.row)) ((zce sqC 3 (fun _ => rfl) n.ss sq0 (show (b.it).toNat < _ by omega) (by decide)).trans rfl)) (zcd (i := 0) (z := .int .i64 0) (bytes := 8) (n' := ((n.ss.getD ((b.it).toNat) sq0).xs).length) (xs' := (((n.ss.getD ((b.it).toNat) sq0).xs).map (Value.int .i64))) rfl rfl rfl rfl Try.underlying28 (by kernel_rfl) rfl rfl rfl rfl (zab (hr.sq.at (d := sq0) (k := ((b.it).toNat)) (by omega))) (zbm _) (by first | omega | (simp; done) | (simp; omega)) (Nat.zero_add _) (List.nil_append _) (fun _ => rfl) ?_)
   intro v10
   refine zaz 1 rfl ?_
   refine zau (zan ?_)
   exact zai (zck (post := [rowE 3 1 v10 (((n.ss.getD ((b.it).toNat) sq0).xs).length) (((n.ss.getD ((b.it).toNat) sq0).xs).map (Value.int .i64))]) rfl rfl (slQ [0] rfl) (by unfold pinN; first | (rw [if_pos (show ¬ BkIn n b by assumption)] <;> rfl) | (rw [if_neg (not_not_intro (show BkIn n b by assumption)), if_pos (by omega)] <;> rfl) | (rw [if_neg (not_not_intro (show BkIn n b by assumption)), if_neg (by omega), if_pos (by omega)] <;> rfl) | (rw [if_neg (not_not_intro (show BkIn n b by assumption)), if_neg (by omega), if_neg (by omega), if_pos (by omega)] <;> rfl) | (rw [if_neg (not_not_intro (show BkIn n b by assumption)), if_neg (by omega), if_neg (by omega), if_neg (by omega)] <;> rfl)))
  refine zaz 1 rfl (fsQ rfl (zcv (srQ ?_)))
  have hbi : BkIn n b := by assumption
  have hin9 : ∀ k, k < b.es.length → LeIn n (b.es.getD k le0) := by rcases hbi with ⟨p1, p2, p3⟩ | ⟨p1, p2, p3⟩ | ⟨p1, p2, p3⟩ | ⟨p1, p2⟩ <;> first | omega | exact fun q hq => (p2 q hq).1
  refine hvQ rfl (zao (cs := [.int .i64 n.ins, n.sv, n.lv, n.ov]) rfl rfl rfl rfl rfl (zaj 1 rfl 0 rfl)) (hvQ rfl (fdQ 2 rfl rfl rfl) (hvQ rfl (zad rfl rfl rfl (zaa 0 rfl rfl)) ?_))
  refine zfg rfl rfl rfl (zaq rfl rfl (fun w hm => zgo n b.es _ w (hr.below hm.bel) hok (hbe.below hm.bel) hbl hin9)) ?_
  intro v11 p12 hR13
  subst hR13
  refine zaz 1 rfl ?_
  exact zau (zck (post := [rowE 3 1 v11 ((pinsK n b.es).length) ((pinsK n b.es).map (Value.int .i64))]) rfl rfl (slQ [0] rfl) (by unfold pinN; first | (rw [if_pos (show ¬ BkIn n b by assumption)] <;> rfl) | (rw [if_neg (not_not_intro (show BkIn n b by assumption)), if_pos (by omega)] <;> rfl) | (rw [if_neg (not_not_intro (show BkIn n b by assumption)), if_neg (by omega), if_pos (by omega)] <;> rfl) | (rw [if_neg (not_not_intro (show BkIn n b by assumption)), if_neg (by omega), if_neg (by omega), if_pos (by omega)] <;> rfl) | (rw [if_neg (not_not_intro (show BkIn n b by assumption)), if_neg (by omega), if_neg (by omega), if_neg (by omega)] <;> rfl)))
 have h3p := zgt h3
 refine zaz 1 rfl (zak rfl (srQ ?_))
 refine zdk rfl (zbz (s := 1) rfl Try.underlying28 rfl) ?_
 intro g14
 refine zaz 1 rfl ?_
 refine zau (zai ?_)
 exact zck (post := [rowE 3 1 (.slice (some ⟨g14, 0, none⟩) 0 0) 0 ([])]) rfl rfl (slQ [0] rfl) (by unfold pinN; first | (rw [if_pos (show ¬ BkIn n b by assumption)] <;> rfl) | (rw [if_neg (not_not_intro (show BkIn n b by assumption)), if_pos (by omega)] <;> rfl) | (rw [if_neg (not_not_intro (show BkIn n b by assumption)), if_neg (by omega), if_pos (by omega)] <;> rfl) | (rw [if_neg (not_not_intro (show BkIn n b by assumption)), if_neg (by omega), if_neg (by omega), if_pos (by omega)] <;> rfl) | (rw [if_neg (not_not_intro (show BkIn n b by assumption)), if_neg (by omega), if_neg (by omega), if_neg (by omega)] <;> rfl))
theorem znw (n : Ln) (b : Bk) (w : World) (hr : RdsLn w n) (hok : LnOk n) (hbe : RdsW w b.bv 2 b.es.length (b.es.flatMap leC)) (hbl : b.es.length ≤ 100) :
   Calls Try.prog 38 #[.agg #[.int .i64 n.ins, n.sv, n.lv, n.ov], .agg #[.int .i64 b.kd, .int .i64 b.it, b.bv]] w (Ret w (fun v' post => post = [rowE 3 1 v' ((outNd n b)).length (((outNd n b)).map (Value.int .i64))])) := by
 have hso := sml hr.ou
 have hss := hr.sq.small
 have hsl := hr.lt.small
 have hcnt : n.cnt = 1 + n.ins + n.ss.length + n.ls.length := rfl
 have hfst : n.fst = 1 + n.ins + n.ss.length := rfl
 obtain ⟨⟨si0, si1⟩, s2, s3, s4⟩ := hok.sz
 have hb1 := hbe.one
 refine zbf (N := 51) (args := [.agg #[.int .i64 n.ins, n.sv, n.lv, n.ov], .agg #[.int .i64 b.kd, .int .i64 b.it, b.bv]]) Try.func38 rfl rfl (srQ ?_)
 refine zdj rfl (zch rfl rfl) ?_
 intro b1
 refine zdj rfl (zch rfl rfl) ?_
 intro b2
 refine zaz 1 rfl (srQ ?_)
 refine zdk rfl (zbz (s := 1) rfl Try.underlying28 rfl) ?_
 intro g3
 refine zaz 1 rfl (zeh (hvQ rfl (zao (cs := [.int .i64 n.ins, n.sv, n.lv, n.ov]) rfl rfl rfl rfl rfl (zaj 2 rfl 0 rfl)) (hvQ rfl (zao (cs := [.int .i64 b.kd, .int .i64 b.it, b.bv]) rfl rfl rfl rfl rfl (zaj 1 rfl 0 rfl)) ?_)))
 refine zds rfl (zaq rfl rfl (fun w hm => zav (zgw n b w (hr.below hm.bel) hok (hbe.below hm.bel) hbl))) (zca (fun h4 => ?_) (fun h4 => ?_))
 ·
  have h4p := zja h4
  refine zaz 1 rfl (zal rfl (zcq (zeh (hvQ rfl (fdQ 0 rfl rfl rfl) (hvQ rfl (zad rfl rfl rfl (zaa 1 rfl rfl)) (zbu ?_))))))
  refine zaw (zax (srQ ?_))
  refine zbp rfl rfl rfl rfl rfl rfl (fun h5 => ?_) (fun h5 => ?_)
  ·
   refine zaz 1 rfl (zak rfl (srQ ?_))
   have hbi : BkIn n b := by assumption
   have hrg : (b.kd = 0 → 0 ≤ b.it ∧ b.it < n.ins) ∧ (b.kd = 1 → 0 ≤ b.it ∧ b.it < n.os.length) ∧ (b.kd = 2 → 0 ≤ b.it ∧ b.it < n.ss.length) := by rcases hbi with ⟨p1, p2, p3⟩ | ⟨p1, p2, p3⟩ | ⟨p1, p2, p3⟩ | ⟨p1, p2⟩ <;> omega
   refine hvQ rfl (fdQ 1 rfl rfl rfl) (hvQ rfl (zad rfl rfl rfl (zaa 1 rfl rfl)) (hvQ rfl (vaQ rfl rfl rfl) ?_))
   refine zdk rfl (zat (z := .int .i64 0) (s := 1) (cs := ([1 + b.it].map (Value.int .i64))) rfl Try.underlying28 rfl (by decide) rfl (by kernel_rfl) rfl) ?_
   intro g6
   refine zaz 1 rfl ?_
   refine zau (zan ?_)
   exact zai (zck (post := [rowE 3 1 (.slice (some ⟨g6, 0, none⟩) 1 1) 1 ([1 + b.it].map (Value.int .i64))]) rfl rfl (slQ [0] rfl) (by unfold outNd; first | (rw [if_pos (show ¬ BkIn n b by assumption)] <;> rfl) | (rw [if_neg (not_not_intro (show BkIn n b by assumption)), if_pos (by omega)] <;> rfl) | (rw [if_neg (not_not_intro (show BkIn n b by assumption)), if_neg (by omega), if_pos (by omega)] <;> rfl) | (rw [if_neg (not_not_intro (show BkIn n b by assumption)), if_neg (by omega), if_neg (by omega), if_pos (by omega)] <;> rfl) | (rw [if_neg (not_not_intro (show BkIn n b by assumption)), if_neg (by omega), if_neg (by omega), if_neg (by omega)] <;> rfl)))
  refine zaz 1 rfl (zal rfl (srQ ?_))
  refine zbp rfl rfl rfl rfl rfl rfl (fun h7 => ?_) (fun h7 => ?_)
  ·
   refine zaz 1 rfl (zak rfl (zbd 2 rfl ?_))
   refine zau (zan ?_)
   exact zai (zck (post := [rowE 3 1 (.slice (some ⟨g3, 0, none⟩) 0 0) 0 ([])]) rfl rfl (slQ [0] rfl) (by unfold outNd; first | (rw [if_pos (show ¬ BkIn n b by assumption)] <;> rfl) | (rw [if_neg (not_not_intro (show BkIn n b by assumption)), if_pos (by omega)] <;> rfl) | (rw [if_neg (not_not_intro (show BkIn n b by assumption)), if_neg (by omega), if_pos (by omega)] <;> rfl) | (rw [if_neg (not_not_intro (show BkIn n b by assumption)), if_neg (by omega), if_neg (by omega), if_pos (by omega)] <;> rfl) | (rw [if_neg (not_not_intro (show BkIn n b by assumption)), if_neg (by omega), if_neg (by omega), if_neg (by omega)] <;> rfl)))
  refine zaz 1 rfl (zal rfl (srQ ?_))
  refine zbp rfl rfl rfl rfl rfl rfl (fun h8 => ?_) (fun h8 => ?_)
  ·
   refine zaz 1 rfl (zak rfl (srQ ?_))
   have hbi : BkIn n b := by assumption
   have hrg : (b.kd = 0 → 0 ≤ b.it ∧ b.it < n.ins) ∧ (b.kd = 1 → 0 ≤ b.it ∧ b.it < n.os.length) ∧ (b.kd = 2 → 0 ≤ b.it ∧ b.it < n.ss.length) := by rcases hbi with ⟨p1, p2, p3⟩ | ⟨p1, p2, p3⟩ | ⟨p1, p2, p3⟩ | ⟨p1, p2⟩ <;> omega
   refine hvQ rfl (fdQ 0 rfl rfl rfl) (hvQ rfl (zad rfl rfl rfl (zaa 2 rfl rfl)) (hvQ rfl (vaQ rfl rfl rfl) (hvQ rfl (fdQ 1 rfl rfl rfl) (hvQ rfl (zad rfl rfl rfl (zaa 1 rfl rfl)) (hvQ rfl (vaQ rfl rfl rfl) ?_)))))
   refine zdk rfl (zat (z := .int .i64 0) (s := 1) (cs := ([(1 + n.ins) + b.it].map (Value.int .i64))) rfl Try.underlying28 rfl (by decide) rfl (by kernel_rfl) rfl) ?_
   intro g9
   refine zaz 1 rfl ?_
   refine zau (zan ?_)
   exact zai (zck (post := [rowE 3 1 (.slice (some ⟨g9, 0, none⟩) 1 1) 1 ([(1 + n.ins) + b.it].map (Value.int .i64))]) rfl rfl (slQ [0] rfl) (by unfold outNd; first | (rw [if_pos (show ¬ BkIn n b by assumption)] <;> rfl) | (rw [if_neg (not_not_intro (show BkIn n b by assumption)), if_pos (by omega)] <;> rfl) | (rw [if_neg (not_not_intro (show BkIn n b by assumption)), if_neg (by omega), if_pos (by omega)] <;> rfl) | (rw [if_neg (not_not_intro (show BkIn n b by assumption)), if_neg (by omega), if_neg (by omega), if_pos (by omega)] <;> rfl) | (rw [if_neg (not_not_intro (show BkIn n b by assumption)), if_neg (by omega), if_neg (by omega), if_neg (by omega)] <;> rfl)))
  refine zaz 1 rfl (fsQ rfl (zcv (zeh ?_)))
  have hbi : BkIn n b := by assumption
  have hin9 : ∀ k, k < b.es.length → LeIn n (b.es.getD k le0) := by rcases hbi with ⟨p1, p2, p3⟩ | ⟨p1, p2, p3⟩ | ⟨p1, p2, p3⟩ | ⟨p1, p2⟩ <;> first | omega | exact fun q hq => (p2 q hq).1
  refine zaz 1 rfl (zax ?_)
  refine zhy (α := Nat) (β := Value) [0, 1, 2, 3, 4, 11, 14, 15, 21, 24] rfl (fun k gv => [rowE 3 1 gv ((outL n b.es k).length) ((outL n b.es k).map (Value.int .i64)), boxE b2 #[.int .i64 b.kd, .int .i64 b.it, b.bv] 39, boxE b1 #[.int .i64 n.ins, n.sv, n.lv, n.ov] 30]) (fun k gv => [(5, gv), (6, .int .i64 (k : Int))]) (fun k gv => k ≤ b.es.length) (fun k gv => b.es.length - k) 0 _ (Nat.zero_le _) (saQ rfl) (pfQ rfl) ?_
  intro k gv hi10
  have hk := hi10
  have hol := zhd n b.es k
  refine zac (zac (reQ 1 rfl (hvQ rfl (fdQ 2 rfl rfl rfl) (hvQ rfl (zad rfl rfl rfl (zaa 1 rfl rfl)) (hvQ rfl (lnQ rfl rfl rfl (zab hbe)) ?_)))))
  refine zbj rfl rfl rfl rfl rfl rfl (fun h11 => ?_) (fun h11 => ?_)
  ·
   refine ntQ (zak rfl (zcq (sbQ ?_)))
   have hle9 := hin9 k (by omega)
   refine zdf rfl 9 [0, 1, 2, 3, 4, 5, 6, 7, 8] (List.take 9 _) (List.drop 9 _) [[], [], [], [2], [], [3, 4], [5], [1, 6], [7]] [40, 41, 42, 43, 44, 45, 46, 47, 48] (fun i_ vs_ v_ p_ => match i_ with | 0 => v_ = gv ∧ p_ = [] | 1 => v_ = .agg #[.int .i64 n.ins, n.sv, n.lv, n.ov] ∧ p_ = [] | 2 => v_ = .pointer (some ⟨b2, 0 + 2, none⟩) ∧ p_ = [] | 3 => v_ = b.bv ∧ p_ = [] | 4 => v_ = .int .i64 (k : Int) ∧ p_ = [] | 5 => v_ = elP b.bv (((k : Int)).toNat * 2) ∧ p_ = [] | 6 => v_ = .agg #[.int .i64 ((b.es.getD k le0).u), .int .i64 ((b.es.getD k le0).f)] ∧ p_ = [] | 7 => v_ = .int .i64 (outK n (b.es.getD k le0)) ∧ p_ = [] | 8 => IsRow 3 1 1 ([outK n (b.es.getD k le0)].map (Value.int .i64)) v_ p_ | _ => True) (List.take_append_drop 9 _).symm (by kernel_rfl) (by kernel_rfl) rfl rfl ?_ ?_
   ·
    refine ⟨?_, ?_, ?_, ?_, ?_, ?_, ?_, ?_, ?_, trivial⟩
    ·
     intro vf pf hR
     exact ovQ rfl (zam [5] rfl) (zbg (zas rfl))
    ·
     intro vf pf hR
     exact olQ rfl (zam [2] rfl) (zbg (zao (cs := [.int .i64 n.ins, n.sv, n.lv, n.ov]) rfl rfl rfl rfl rfl (zaj 2 rfl 0 rfl)))
    ·
     intro vf pf hR
     exact ovQ rfl (zam [3] rfl) (zbg (fdQ 2 rfl rfl rfl))
    ·
     intro vf pf hR
     have e2 := hR 2 (by decide)
     exact olQ rfl (sk 42 (congrArg some e2.1) (zaf _)) (zbg (zad rfl rfl rfl (zaa 1 rfl rfl)))
    ·
     intro vf pf hR
     exact ovQ rfl (zam [6] rfl) (zbg (zas rfl))
    ·
     intro vf pf hR
     have e3 := hR 3 (by decide)
     have e4 := hR 4 (by decide)
     exact olQ rfl (sk 43 (congrArg some e3.1) (sk 44 (congrArg some e4.1) (zaf _))) (zbg (riQ 2 rfl rfl rfl rfl (zab hbe)))
    ·
     intro vf pf hR
     have e5 := hR 5 (by decide)
     exact olQ rfl (sk 45 (congrArg some e5.1) (zaf _)) (zbg (zbt (us := [.int .i64 ((b.es.getD k le0).u), .int .i64 ((b.es.getD k le0).f)]) rfl rfl rfl rfl (zab hbe) (by omega) rfl (zcp leC 2 (fun _ => rfl) b.es le0 (show k < _ by omega) rfl)))
    ·
     intro vf pf hR
     have e1 := hR 1 (by decide)
     have e6 := hR 6 (by decide)
     exact olQ rfl (sk 41 (congrArg some e1.1) (sk 46 (congrArg some e6.1) (zaf _))) (zaq rfl rfl (fun w hm => zav (zhf n (b.es.getD k le0) w (hr.below hm.bel) hok hle9)))
    intro vf pf hR
    have e7 := hR 7 (by decide)
    exact olQ rfl (sk 47 (congrArg some e7.1) (zaf _)) (zat (z := .int .i64 0) (s := 1) (cs := ([outK n (b.es.getD k le0)].map (Value.int .i64))) rfl Try.underlying28 rfl (by decide) rfl (by kernel_rfl) rfl)
   intro vf pf hR
   have e0 := hR 0 (by decide)
   have e8 : IsRow 3 1 1 ([outK n (b.es.getD k le0)].map (Value.int .i64)) (vf 8) (pf 8) := hR 8 (by decide)
   obtain ⟨g12, vE8, pE8⟩ := e8
   have q0 := hR 0 (by decide)
   have q1 := hR 1 (by decide)
   have q2 := hR 2 (by decide)
   have q3 := hR 3 (by decide)
   have q4 := hR 4 (by decide)
   have q5 := hR 5 (by decide)
   have q6 := hR 6 (by decide)
   have q7 := hR 7 (by decide)
   refine zco (zbk [37, 24, 21, 15, 14, 11, 6, 5, 4, 3, 2, 1, 0] _ (sk 40 (congrArg some e0.1) (sk 48 (congrArg some vE8) (zaf _))) rfl) (by simp only [pE8, vE8, q0.2, q1.2, q2.2, q3.2, q4.2, q5.2, q6.2, q7.2, fS] <;> rfl) ?_
   simp only [List.drop_succ_cons, List.drop_zero]
   refine zcd (i := 1) (z := .int .i64 0) (bytes := 8) rfl rfl rfl rfl Try.underlying28 (by kernel_rfl) rfl rfl rfl rfl (zae 0 rfl) (zbm _) (by first | omega | (simp; done) | (simp; omega)) (zbv (outL n b.es k) ([outK n (b.es.getD k le0)])) (zcm (outL n b.es k) ([outK n (b.es.getD k le0)])) (fun _ => rfl) ?_
   intro v13
   refine enQ 1 rfl (zcv (reQ 1 rfl (hvQ rfl (vaQ rfl rfl rfl) ?_)))
   have hbi : BkIn n b := by assumption
   have hin9 : ∀ k, k < b.es.length → LeIn n (b.es.getD k le0) := by rcases hbi with ⟨p1, p2, p3⟩ | ⟨p1, p2, p3⟩ | ⟨p1, p2, p3⟩ | ⟨p1, p2⟩ <;> first | omega | exact fun q hq => (p2 q hq).1
   refine enQ 1 rfl ?_
   exact zbq (k + 1) v13 (by omega) (by omega) (saQ rfl) (slQ [1, 0, 0] rfl)
  refine ntQ (zal rfl ?_)
  refine zba (zdq ?_)
  refine zag (zaw (zbd 2 rfl ?_))
  refine zau ?_
  have hke : k = b.es.length := by omega
  exact zck (post := [rowE 3 1 gv ((outL n b.es k).length) ((outL n b.es k).map (Value.int .i64))]) rfl rfl (slQ [0] rfl) (by rw [hke]; unfold outNd; rw [if_neg (not_not_intro (show BkIn n b by assumption)), if_neg (by omega), if_neg (by omega), if_neg (by omega)])
 have h4p := zgt h4
 refine zaz 1 rfl (zak rfl (zbd 2 rfl ?_))
 refine zau (zai ?_)
 exact zck (post := [rowE 3 1 (.slice (some ⟨g3, 0, none⟩) 0 0) 0 ([])]) rfl rfl (slQ [0] rfl) (by unfold outNd; first | (rw [if_pos (show ¬ BkIn n b by assumption)] <;> rfl) | (rw [if_neg (not_not_intro (show BkIn n b by assumption)), if_pos (by omega)] <;> rfl) | (rw [if_neg (not_not_intro (show BkIn n b by assumption)), if_neg (by omega), if_pos (by omega)] <;> rfl) | (rw [if_neg (not_not_intro (show BkIn n b by assumption)), if_neg (by omega), if_neg (by omega), if_pos (by omega)] <;> rfl) | (rw [if_neg (not_not_intro (show BkIn n b by assumption)), if_neg (by omega), if_neg (by omega), if_neg (by omega)] <;> rfl))
theorem zpn (n : Ln) (b : Bk) (w : World) (hr : RdsLn w n) (hok : LnOk n) (hbe : RdsW w b.bv 2 b.es.length (b.es.flatMap leC)) (hbl : b.es.length ≤ 100) :
   Calls Try.prog 80 #[.agg #[.int .i64 n.ins, n.sv, n.lv, n.ov], .agg #[.int .i64 b.kd, .int .i64 b.it, b.bv]] w (Ans w (.bool (pB (BlP n b)))) := by
 have hso := sml hr.ou
 have hss := hr.sq.small
 have hsl := hr.lt.small
 have hcnt : n.cnt = 1 + n.ins + n.ss.length + n.ls.length := rfl
 have hfst : n.fst = 1 + n.ins + n.ss.length := rfl
 obtain ⟨⟨si0, si1⟩, s2, s3, s4⟩ := hok.sz
 have hb1 := hbe.one
 refine zbf (N := 48) (args := [.agg #[.int .i64 n.ins, n.sv, n.lv, n.ov], .agg #[.int .i64 b.kd, .int .i64 b.it, b.bv]]) Try.func80 rfl rfl (srQ ?_)
 refine zdj rfl (zch rfl rfl) ?_
 intro b1
 refine zdj rfl (zch rfl rfl) ?_
 intro b2
 refine zaz 1 rfl (zeh (hvQ rfl (zao (cs := [.int .i64 n.ins, n.sv, n.lv, n.ov]) rfl rfl rfl rfl rfl (zaj 1 rfl 0 rfl)) (hvQ rfl (zao (cs := [.int .i64 b.kd, .int .i64 b.it, b.bv]) rfl rfl rfl rfl rfl (zaj 0 rfl 0 rfl)) ?_)))
 refine zds rfl (zaq rfl rfl (fun w hm => zav (zgw n b w (hr.below hm.bel) hok (hbe.below hm.bel) hbl))) (zca (fun h3 => ?_) (fun h3 => ?_))
 ·
  have h3p := zja h3
  refine zaz 1 rfl (zal rfl (zcq (zeh (hvQ rfl (fdQ 0 rfl rfl rfl) (hvQ rfl (zad rfl rfl rfl (zaa 0 rfl rfl)) ?_)))))
  refine zbp rfl rfl rfl rfl rfl rfl (fun h4 => ?_) (fun h4 => ?_)
  ·
   refine ntQ (zak rfl (srQ ?_))
   have hbi : BkIn n b := by assumption
   have hin9 : ∀ k, k < b.es.length → LeIn n (b.es.getD k le0) := by rcases hbi with ⟨p1, p2, p3⟩ | ⟨p1, p2, p3⟩ | ⟨p1, p2, p3⟩ | ⟨p1, p2⟩ <;> first | omega | exact fun q hq => (p2 q hq).1
   refine hvQ rfl (fdQ 1 rfl rfl rfl) (hvQ rfl (zad rfl rfl rfl (zaa 0 rfl rfl)) ?_)
   refine zbp rfl rfl rfl rfl rfl rfl (fun h5 => ?_) (fun h5 => ?_)
   ·
    refine zap 1 rfl (hvQ rfl (fdQ 2 rfl rfl rfl) (hvQ rfl (zad rfl rfl rfl (zaa 0 rfl rfl)) (hvQ rfl (lnQ rfl rfl rfl (zab hbe)) ?_)))
    refine zds rfl (zaq rfl rfl (fun w hm => zav (zem (b.es.length : Int) 1 2 w))) (zca (fun h6 => ?_) (fun h6 => ?_))
    ·
     obtain ⟨h6a, h6b⟩ := (zdc _ _ _).1 h6
     refine zap 2 rfl (hvQ rfl (zao (cs := [.int .i64 n.ins, n.sv, n.lv, n.ov]) rfl rfl rfl rfl rfl (zaj 1 rfl 0 rfl)) (hvQ rfl (fdQ 2 rfl rfl rfl) (hvQ rfl (zad rfl rfl rfl (zaa 0 rfl rfl)) ?_)))
     refine zfg rfl rfl rfl (zaq rfl rfl (fun w hm => zgo n b.es _ w (hr.below hm.bel) hok (hbe.below hm.bel) hbl hin9)) ?_
     intro v7 p8 hR9
     subst hR9
     refine hvQ rfl (lnQ rfl rfl rfl (zae 0 rfl)) (zhn rfl rfl rfl rfl rfl rfl (fun h10 => ?_) (fun h10 => ?_))
     ·
      refine zaz 2 rfl ?_
      refine zau (zai ?_)
      exact zbb rfl rfl (congrArg _ (zdu ⟨by assumption, fun _ => by first | omega | exact ⟨by omega, ⟨by omega, by omega⟩, by omega⟩, fun _ => by first | omega | exact ⟨by omega, fun _ => by omega⟩⟩).symm)
     refine zaz 2 rfl ?_
     refine zau (zai ?_)
     exact zbb rfl rfl (congrArg _ (zdp (fun hp => by obtain ⟨p1, p2, p3⟩ := hp; first | exact absurd p1 (by assumption) | (have := p2 (by omega); omega) | (have q3 := p3 (by omega); have := q3.2; omega))).symm)
    have h6a := zea h6
    refine zaz 10 rfl ?_
    refine zau (zai ?_)
    exact zbb rfl rfl (congrArg _ (zdp (fun hp => by obtain ⟨p1, p2, p3⟩ := hp; first | exact absurd p1 (by assumption) | (have := p2 (by omega); omega) | (have q3 := p3 (by omega); have := q3.2; omega))).symm)
   refine zap 15 rfl (?_)
   refine ntQ ?_
   refine zau (zai ?_)
   exact zbb rfl rfl (congrArg _ (zdp (fun hp => by obtain ⟨p1, p2, p3⟩ := hp; first | exact absurd p1 (by assumption) | (have := p2 (by omega); omega) | (have q3 := p3 (by omega); have := q3.2; omega))).symm)
  refine ntQ (zal rfl (zcq (srQ ?_)))
  have hbi : BkIn n b := by assumption
  have hrg : (b.kd = 0 → 0 ≤ b.it ∧ b.it < n.ins) ∧ (b.kd = 1 → 0 ≤ b.it ∧ b.it < n.os.length) ∧ (b.kd = 2 → 0 ≤ b.it ∧ b.it < n.ss.length) := by rcases hbi with ⟨p1, p2, p3⟩ | ⟨p1, p2, p3⟩ | ⟨p1, p2, p3⟩ | ⟨p1, p2⟩ <;> omega
  have hsq9 : b.kd = 2 → SqOk (n.ss.getD b.it.toNat sq0) := fun h => (hok.sq b.it.toNat (by omega)).1
  refine hvQ rfl (fdQ 2 rfl rfl rfl) (hvQ rfl (zad rfl rfl rfl (zaa 0 rfl rfl)) (hvQ rfl (lnQ rfl rfl rfl (zab hbe)) ?_))
  refine zbp rfl rfl rfl rfl rfl rfl (fun h11 => ?_) (fun h11 => ?_)
  ·
   refine zap 1 rfl (hvQ rfl (fdQ 0 rfl rfl rfl) (hvQ rfl (zad rfl rfl rfl (zaa 0 rfl rfl)) ?_))
   refine zfj rfl rfl rfl rfl rfl rfl (fun h12 => ?_) (fun h12 => ?_)
   ·
    refine zaz 12 rfl ?_
    exact zau (zbb rfl rfl (congrArg _ (zdu ⟨by assumption, fun _ => by first | omega | exact ⟨by omega, ⟨by omega, by omega⟩, by omega⟩, fun _ => by first | omega | exact ⟨by omega, fun _ => by omega⟩⟩).symm))
   refine zap 1 rfl (hvQ rfl (fdQ 1 rfl rfl rfl) (hvQ rfl (zad rfl rfl rfl (zaa 1 rfl rfl)) (hvQ rfl (fdQ 1 rfl rfl rfl) (hvQ rfl (zad rfl rfl rfl (zaa 0 rfl rfl)) (hvQ rfl (riQ 3 rfl rfl rfl rfl (zab ((hr).sq.row))) (hvQ rfl (zbe (k0 := 0) rfl rfl rfl (zab ((hr).sq.row)) (by omega)) ?_))))))
   refine hvQ rfl (zar (u := .int .i64 ((n.ss.getD ((b.it).toNat) sq0).kd)) rfl rfl rfl (zab ((hr).sq.row)) ((zce sqC 3 (fun _ => rfl) n.ss sq0 (show (b.it).toNat < _ by omega) (by decide)).trans rfl)) (zbp rfl rfl rfl rfl rfl rfl (fun h13 => ?_) (fun h13 => ?_))
   ·
    refine zaz 3 rfl ?_
    exact zau (zbb rfl rfl (congrArg _ (zdu ⟨by assumption, fun _ => by first | omega | exact ⟨by omega, ⟨by omega, by omega⟩, by omega⟩, fun _ => by first | omega | exact ⟨by omega, fun _ => by omega⟩⟩).symm))
   refine zaz 3 rfl ?_
   exact zau (zbb rfl rfl (congrArg _ (zdp (fun hp => by obtain ⟨p1, p2, p3⟩ := hp; first | exact absurd p1 (by assumption) | (have := p2 (by omega); omega) | (have q3 := p3 (by omega); have := q3.2; omega))).symm))
  refine zaz 16 rfl ?_
  exact zau (zbb rfl rfl (congrArg _ (zdp (fun hp => by obtain ⟨p1, p2, p3⟩ := hp; first | exact absurd p1 (by assumption) | (have := p2 (by omega); omega) | (have q3 := p3 (by omega); have := q3.2; omega))).symm))
 have h3p := zgt h3
 refine zaz 1 rfl (zak rfl (zbd 1 rfl ?_))
 refine zau (zai ?_)
 exact zbb rfl rfl (congrArg _ (zdp (fun hp => by obtain ⟨p1, p2, p3⟩ := hp; first | exact absurd p1 (by assumption) | (have := p2 (by omega); omega) | (have q3 := p3 (by omega); have := q3.2; omega))).symm)
theorem zky (b : Bool) (w : World)  :
   Calls Try.prog 127 #[.bool b] w (Ans w (.int .i64 (if b = true then 1 else 0))) := by
 refine zbf (N := 4) (args := [.bool b]) Try.func127 rfl rfl (zbd 1 rfl (zac (zac (reQ 1 rfl ?_))))
 refine zca (fun h1 => ?_) (fun h1 => ?_)
 ·
  refine ntQ (zak rfl (zbd 1 rfl ?_))
  refine zau (zai ?_)
  exact zbb rfl rfl (by first | rfl | (cases b <;> first | rfl | (exfalso; simp_all; done)))
 refine ntQ (zal rfl (zcq (zbd 1 rfl ?_)))
 exact zau (zbb rfl rfl (by first | rfl | (cases b <;> first | rfl | (exfalso; simp_all; done))))
theorem zlw (n : Ln) (a b : Le) (w : World) (hr : RdsLn w n) (hok : LnOk n) (ha : LeIn n a) (hb : LeIn n b) :
   Calls Try.prog 107 #[.agg #[.int .i64 n.ins, n.sv, n.lv, n.ov], .agg #[.int .i64 a.u, .int .i64 a.f], .agg #[.int .i64 b.u, .int .i64 b.f]] w (Ans w (.int .i64 (comK n a b))) := by
 have hso := sml hr.ou
 have hss := hr.sq.small
 have hsl := hr.lt.small
 have hcnt : n.cnt = 1 + n.ins + n.ss.length + n.ls.length := rfl
 have hfst : n.fst = 1 + n.ins + n.ss.length := rfl
 obtain ⟨⟨si0, si1⟩, s2, s3, s4⟩ := hok.sz
 have hia := zir hok ha
 have hib := zir hok hb
 have hxl := zll (insK n a ++ [outK n a]) []
 rw [List.length_append, List.length_singleton] at hxl
 refine zbf (N := 46) (args := [.agg #[.int .i64 n.ins, n.sv, n.lv, n.ov], .agg #[.int .i64 a.u, .int .i64 a.f], .agg #[.int .i64 b.u, .int .i64 b.f]]) Try.func107 rfl rfl (srQ ?_)
 refine zdj rfl (zch rfl rfl) ?_
 intro b1
 refine zdj rfl (zch rfl rfl) ?_
 intro b2
 refine zdj rfl (zch rfl rfl) ?_
 intro b3
 refine zaz 1 rfl (zac ?_)
 refine zdf rfl 7 [0, 1, 2, 3, 4, 5, 6] (List.take 7 _) (List.drop 7 _) [[], [], [0, 1], [], [], [3, 4], [5]] [11, 12, 13, 14, 15, 16, 17] (fun i_ vs_ v_ p_ => match i_ with | 0 => v_ = .agg #[.int .i64 n.ins, n.sv, n.lv, n.ov] ∧ p_ = [] | 1 => v_ = .agg #[.int .i64 a.u, .int .i64 a.f] ∧ p_ = [] | 2 => (fun v' post => post = [rowE 3 1 v' ((insK n a)).length (((insK n a)).map (Value.int .i64))]) v_ p_ | 3 => v_ = .agg #[.int .i64 n.ins, n.sv, n.lv, n.ov] ∧ p_ = [] | 4 => v_ = .agg #[.int .i64 a.u, .int .i64 a.f] ∧ p_ = [] | 5 => v_ = .int .i64 (outK n a) ∧ p_ = [] | 6 => IsRow 3 1 1 ([outK n a].map (Value.int .i64)) v_ p_ | _ => True) (List.take_append_drop 7 _).symm (by kernel_rfl) (by kernel_rfl) rfl rfl ?_ ?_
 ·
  refine ⟨?_, ?_, ?_, ?_, ?_, ?_, ?_, trivial⟩
  ·
   intro vf pf hR
   exact olQ rfl (zam [3] rfl) (zbg (zao (cs := [.int .i64 n.ins, n.sv, n.lv, n.ov]) rfl rfl rfl rfl rfl (zaj 2 rfl 0 rfl)))
  ·
   intro vf pf hR
   exact olQ rfl (zam [4] rfl) (zbg (zao (cs := [.int .i64 a.u, .int .i64 a.f]) rfl rfl rfl rfl rfl (zaj 1 rfl 0 rfl)))
  ·
   intro vf pf hR
   have e0 := hR 0 (by decide)
   have e1 := hR 1 (by decide)
   exact olQ rfl (sk 11 (congrArg some e0.1) (sk 12 (congrArg some e1.1) (zaf _))) (zaq rfl rfl (fun w hm => ziq n a w (hr.below hm.bel) hok ha))
  ·
   intro vf pf hR
   exact olQ rfl (zam [3] rfl) (zbg (zao (cs := [.int .i64 n.ins, n.sv, n.lv, n.ov]) rfl rfl rfl rfl rfl (zaj 2 rfl 0 rfl)))
  ·
   intro vf pf hR
   exact olQ rfl (zam [4] rfl) (zbg (zao (cs := [.int .i64 a.u, .int .i64 a.f]) rfl rfl rfl rfl rfl (zaj 1 rfl 0 rfl)))
  ·
   intro vf pf hR
   have e3 := hR 3 (by decide)
   have e4 := hR 4 (by decide)
   exact olQ rfl (sk 14 (congrArg some e3.1) (sk 15 (congrArg some e4.1) (zaf _))) (zaq rfl rfl (fun w hm => zav (zhf n a w (hr.below hm.bel) hok ha)))
  intro vf pf hR
  have e5 := hR 5 (by decide)
  exact olQ rfl (sk 16 (congrArg some e5.1) (zaf _)) (zat (z := .int .i64 0) (s := 1) (cs := ([outK n a].map (Value.int .i64))) rfl Try.underlying28 rfl (by decide) rfl (by kernel_rfl) rfl)
 intro vf pf hR
 have e2 : (fun v' post => post = [rowE 3 1 v' ((insK n a)).length (((insK n a)).map (Value.int .i64))]) (vf 2) (pf 2) := hR 2 (by decide)
 obtain ⟨v4, vE2⟩ : ∃ x, vf 2 = x := ⟨_, rfl⟩
 obtain ⟨p5, pE2⟩ : ∃ x, pf 2 = x := ⟨_, rfl⟩
 have hR6 := e2
 rw [vE2, pE2] at hR6
 subst hR6
 have e6 : IsRow 3 1 1 ([outK n a].map (Value.int .i64)) (vf 6) (pf 6) := hR 6 (by decide)
 obtain ⟨g7, vE6, pE6⟩ := e6
 have q0 := hR 0 (by decide)
 have q1 := hR 1 (by decide)
 have q3 := hR 3 (by decide)
 have q4 := hR 4 (by decide)
 have q5 := hR 5 (by decide)
 refine zco (zbk [6, 5, 4, 3, 2, 1, 0] _ (sk 13 (congrArg some vE2) (sk 17 (congrArg some vE6) (zaf _))) rfl) (by simp only [pE2, vE2, pE6, vE6, q0.2, q1.2, q3.2, q4.2, q5.2, fS] <;> rfl) ?_
 simp only [List.drop_succ_cons, List.drop_zero]
 refine zcd (i := 0) (z := .int .i64 0) (bytes := 8) rfl rfl rfl rfl Try.underlying28 (by kernel_rfl) rfl rfl rfl rfl (zae 1 rfl) (zbm _) (by first | omega | (simp; done) | (simp; omega)) (zbv (insK n a) ([outK n a])) (zcm (insK n a) ([outK n a])) (fun _ => rfl) ?_
 intro v8
 refine zaz 1 rfl (zac ?_)
 refine zdf rfl 7 [0, 1, 2, 3, 4, 5, 6] (List.take 7 _) (List.drop 7 _) [[], [], [0, 1], [], [], [3, 4], [5]] [19, 20, 21, 22, 23, 24, 25] (fun i_ vs_ v_ p_ => match i_ with | 0 => v_ = .agg #[.int .i64 n.ins, n.sv, n.lv, n.ov] ∧ p_ = [] | 1 => v_ = .agg #[.int .i64 b.u, .int .i64 b.f] ∧ p_ = [] | 2 => (fun v' post => post = [rowE 3 1 v' ((insK n b)).length (((insK n b)).map (Value.int .i64))]) v_ p_ | 3 => v_ = .agg #[.int .i64 n.ins, n.sv, n.lv, n.ov] ∧ p_ = [] | 4 => v_ = .agg #[.int .i64 b.u, .int .i64 b.f] ∧ p_ = [] | 5 => v_ = .int .i64 (outK n b) ∧ p_ = [] | 6 => IsRow 3 1 1 ([outK n b].map (Value.int .i64)) v_ p_ | _ => True) (List.take_append_drop 7 _).symm (by kernel_rfl) (by kernel_rfl) rfl rfl ?_ ?_
 ·
  refine ⟨?_, ?_, ?_, ?_, ?_, ?_, ?_, trivial⟩
  ·
   intro vf pf hR
   exact olQ rfl (zam [3] rfl) (zbg (zao (cs := [.int .i64 n.ins, n.sv, n.lv, n.ov]) rfl rfl rfl rfl rfl (zaj 4 rfl 0 rfl)))
  ·
   intro vf pf hR
   exact olQ rfl (zam [5] rfl) (zbg (zao (cs := [.int .i64 b.u, .int .i64 b.f]) rfl rfl rfl rfl rfl (zaj 2 rfl 0 rfl)))
  ·
   intro vf pf hR
   have e0 := hR 0 (by decide)
   have e1 := hR 1 (by decide)
   exact olQ rfl (sk 19 (congrArg some e0.1) (sk 20 (congrArg some e1.1) (zaf _))) (zaq rfl rfl (fun w hm => ziq n b w (hr.below hm.bel) hok hb))
  ·
   intro vf pf hR
   exact olQ rfl (zam [3] rfl) (zbg (zao (cs := [.int .i64 n.ins, n.sv, n.lv, n.ov]) rfl rfl rfl rfl rfl (zaj 4 rfl 0 rfl)))
  ·
   intro vf pf hR
   exact olQ rfl (zam [5] rfl) (zbg (zao (cs := [.int .i64 b.u, .int .i64 b.f]) rfl rfl rfl rfl rfl (zaj 2 rfl 0 rfl)))
  ·
   intro vf pf hR
   have e3 := hR 3 (by decide)
   have e4 := hR 4 (by decide)
   exact olQ rfl (sk 22 (congrArg some e3.1) (sk 23 (congrArg some e4.1) (zaf _))) (zaq rfl rfl (fun w hm => zav (zhf n b w (hr.below hm.bel) hok hb)))
  intro vf pf hR
  have e5 := hR 5 (by decide)
  exact olQ rfl (sk 24 (congrArg some e5.1) (zaf _)) (zat (z := .int .i64 0) (s := 1) (cs := ([outK n b].map (Value.int .i64))) rfl Try.underlying28 rfl (by decide) rfl (by kernel_rfl) rfl)
 intro vf pf hR
 have e2 : (fun v' post => post = [rowE 3 1 v' ((insK n b)).length (((insK n b)).map (Value.int .i64))]) (vf 2) (pf 2) := hR 2 (by decide)
 obtain ⟨v9, vE2⟩ : ∃ x, vf 2 = x := ⟨_, rfl⟩
 obtain ⟨p10, pE2⟩ : ∃ x, pf 2 = x := ⟨_, rfl⟩
 have hR11 := e2
 rw [vE2, pE2] at hR11
 subst hR11
 have e6 : IsRow 3 1 1 ([outK n b].map (Value.int .i64)) (vf 6) (pf 6) := hR 6 (by decide)
 obtain ⟨g12, vE6, pE6⟩ := e6
 have q0 := hR 0 (by decide)
 have q1 := hR 1 (by decide)
 have q3 := hR 3 (by decide)
 have q4 := hR 4 (by decide)
 have q5 := hR 5 (by decide)
 refine zco (zbk [7, 6, 5, 4, 3, 2, 1, 0] _ (sk 21 (congrArg some vE2) (sk 25 (congrArg some vE6) (zaf _))) rfl) (by simp only [pE2, vE2, pE6, vE6, q0.2, q1.2, q3.2, q4.2, q5.2, fS] <;> rfl) ?_
 simp only [List.drop_succ_cons, List.drop_zero]
 refine zcd (i := 0) (z := .int .i64 0) (bytes := 8) rfl rfl rfl rfl Try.underlying28 (by kernel_rfl) rfl rfl rfl rfl (zae 1 rfl) (zbm _) (by first | omega | (simp; done) | (simp; omega)) (zbv (insK n b) ([outK n b])) (zcm (insK n b) ([outK n b])) (fun _ => rfl) ?_
 intro v13
 refine zaz 1 rfl (zac (reQ 1 rfl ?_))
 refine zdk rfl (zbz (s := 1) rfl Try.underlying28 rfl) ?_
 intro g14
 refine zfg rfl rfl rfl (zaq rfl rfl (fun w hm => zhe ((insK n a) ++ ([outK n a])) [] _ _ w ((zae 3 rfl) w hm) ⟨_, _, rfl, rfl, ⟨by decide, by decide⟩, fun h => absurd h (by decide)⟩ (by simp only [List.length_append, List.length_singleton]; omega) (by decide))) ?_
 intro v15 p16 hR17
 subst hR17
 refine zaz 1 rfl (zbd 1 rfl (zac (zac (reQ 1 rfl ?_))))
 refine ntQ (zax ?_)
 refine zhy (α := Nat) (β := Int) [0, 1, 2, 3, 4, 5, 6, 7, 8] rfl (fun i c => [rowE 3 1 v15 ((setK ((insK n a) ++ ([outK n a])) []).length) ((setK ((insK n a) ++ ([outK n a])) []).map (Value.int .i64)), rowE 3 1 (.slice (some ⟨g14, 0, none⟩) 0 0) 0 ([]), rowE 3 1 v13 (((insK n b) ++ ([outK n b])).length) (((insK n b) ++ ([outK n b])).map (Value.int .i64)), rowE 3 1 (.slice (some ⟨g12, 0, none⟩) 1 1) 1 ([outK n b].map (Value.int .i64)), rowE 3 1 v8 (((insK n a) ++ ([outK n a])).length) (((insK n a) ++ ([outK n a])).map (Value.int .i64)), rowE 3 1 (.slice (some ⟨g7, 0, none⟩) 1 1) 1 ([outK n a].map (Value.int .i64)), boxE b3 #[.int .i64 b.u, .int .i64 b.f] 70, boxE b2 #[.int .i64 a.u, .int .i64 a.f] 70, boxE b1 #[.int .i64 n.ins, n.sv, n.lv, n.ov] 30]) (fun i c => [(9, .int .i64 c), (10, .int .i64 (i : Int))]) (fun i c => i ≤ (setK (insK n a ++ [outK n a]) []).length ∧ c = comL (setK (insK n a ++ [outK n a]) []) (insK n b ++ [outK n b]) i) (fun i c => (setK (insK n a ++ [outK n a]) []).length - i) 0 0 ⟨Nat.zero_le _, rfl⟩ (saQ rfl) (pfQ rfl) ?_
 intro i c hi18
 obtain ⟨hi, hc⟩ := hi18
 have hcr := zrc (setK (insK n a ++ [outK n a]) []) (insK n b ++ [outK n b]) i
 refine zac (zac (reQ 2 rfl (hvQ rfl (lnQ rfl rfl rfl (zae 0 rfl)) ?_)))
 refine zbj rfl rfl rfl rfl rfl rfl (fun h19 => ?_) (fun h19 => ?_)
 ·
  refine ntQ (zak rfl (zcq (sbQ (reQ 4 rfl (hvQ rfl (riQ 1 rfl rfl rfl rfl (zae 0 rfl)) (hvQ rfl (zar (u := .int .i64 ((setK ((insK n a) ++ ([outK n a])) []).getD i 0)) rfl rfl rfl (zae 0 rfl) (zbn (show _ < (setK ((insK n a) ++ ([outK n a])) []).length by omega))) ?_))))))
  refine zds rfl (zaq rfl rfl (fun w hm => zav (zdx ((insK n b) ++ ([outK n b])) ((setK ((insK n a) ++ ([outK n a])) []).getD i 0) _ w ((zae 2 rfl) w hm) (by first | omega | (simp only [List.length_append, List.length_singleton]; omega))))) (zca (fun h20 => ?_) (fun h20 => ?_))
  ·
   refine zds rfl (zaq rfl rfl (fun w hm => zav (show Calls _ _ _ w (Ans w (.int .i64 1)) from zky true w))) (hvQ rfl (vaQ rfl rfl rfl) (enQ 1 rfl (zcv (reQ 1 rfl (hvQ rfl (vaQ rfl rfl rfl) (enQ 1 rfl ?_))))))
   exact zbq (i + 1) _ ⟨by omega, by rw [hc]; show _ = comL (setK (insK n a ++ [outK n a]) []) (insK n b ++ [outK n b]) i + (if _ then _ else _); first | rfl | (rw [if_pos (by assumption)]; done) | (rw [if_neg (by rw [Bool.not_eq_true]; assumption)]; done)⟩ (by omega) (saQ rfl) (pfQ rfl)
  refine zds rfl (zaq rfl rfl (fun w hm => zav (show Calls _ _ _ w (Ans w (.int .i64 0)) from zky false w))) (hvQ rfl (vaQ rfl rfl rfl) (enQ 1 rfl (zcv (reQ 1 rfl (hvQ rfl (vaQ rfl rfl rfl) (enQ 1 rfl ?_))))))
  exact zbq (i + 1) _ ⟨by omega, by rw [hc]; show _ = comL (setK (insK n a ++ [outK n a]) []) (insK n b ++ [outK n b]) i + (if _ then _ else _); first | rfl | (rw [if_pos (by assumption)]; done) | (rw [if_neg (by rw [Bool.not_eq_true]; assumption)]; done)⟩ (by omega) (saQ rfl) (pfQ rfl)
 refine ntQ (zal rfl ?_)
 refine zba (zdq ?_)
 refine zag (zaw (zbd 2 rfl ?_))
 exact zau (zbb rfl rfl (by rw [hc, show i = (setK (insK n a ++ [outK n a]) []).length by omega]; rfl))
theorem zsb (n : Ln) (bs : List Bk) (v : Value) (w : World) (hr : RdsLn w n) (hok : LnOk n) (hbk : RdsBk w v bs) (hel : ∀ k, k < bs.length → (bs.getD k bk0).es.length ≤ 100) :
   Calls Try.prog 37 #[.agg #[.int .i64 n.ins, n.sv, n.lv, n.ov], v] w (Ret w (fun u_ p_ => ∃ b : Bool, u_ = .bool b ∧ p_ = [] ∧ (b = true → bs.length ≤ 64 ∧ ∀ k, k < bs.length → BlP n (bs.getD k bk0)))) := by
 have hso := sml hr.ou
 have hss := hr.sq.small
 have hsl := hr.lt.small
 have hcnt : n.cnt = 1 + n.ins + n.ss.length + n.ls.length := rfl
 have hfst : n.fst = 1 + n.ins + n.ss.length := rfl
 obtain ⟨⟨si0, si1⟩, s2, s3, s4⟩ := hok.sz
 have hbs9 := sml hbk.row
 refine zbf (N := 141) (args := [.agg #[.int .i64 n.ins, n.sv, n.lv, n.ov], v]) Try.func37 rfl rfl (srQ ?_)
 refine zdj rfl (zch rfl rfl) ?_
 intro b1
 refine zaz 1 rfl (zeh (hvQ rfl (zao (cs := [.int .i64 n.ins, n.sv, n.lv, n.ov]) rfl rfl rfl rfl rfl (zaj 0 rfl 0 rfl)) ?_))
 refine zds rfl (zaq rfl rfl (fun w hm => zav (by have h9 := zfl n w (hr.below hm.bel); rw [zdu hok] at h9; exact h9))) (zap 3 rfl (hvQ rfl (lnQ rfl rfl rfl (zab hbk.row)) ?_))
 refine zet rfl rfl rfl rfl rfl rfl (fun h2 => ?_) (fun h2 => ?_)
 ·
  refine zaz 1 rfl (zak rfl (zbd 1 rfl ?_))
  refine zau (zai ?_)
  exact zdm (rs := [.tmp 4]) (vs := [.bool false]) (post := []) rfl ⟨rfl, trivial⟩ rfl (slQ [] rfl) ⟨_, rfl, rfl, fun h => by cases h⟩
 refine zaz 1 rfl (zal rfl (zcq (srQ (hvQ rfl (fdQ 0 rfl rfl rfl) (hvQ rfl (zad rfl rfl rfl (zaa 0 rfl rfl)) ?_)))))
 refine zdk rfl (zdw (z := .int .i64 0) (s := 1) (bytes := 8) (n := (List.replicate (n.ins).toNat (0 : Int)).length) (cs := ((List.replicate (n.ins).toNat (0 : Int)).map (Value.int .i64))) rfl Try.underlying28 rfl (by decide) rfl rfl (by first | (rw [List.length_replicate]; done) | (rw [List.length_replicate]; omega)) (by first | (rw [List.length_replicate]; done) | (rw [List.length_replicate]; omega)) (by rw [List.length_replicate]; omega) (zec _)) ?_
 intro g3
 refine zaz 1 rfl (srQ (hvQ rfl (fdQ 3 rfl rfl rfl) (hvQ rfl (zad rfl rfl rfl (zaa 1 rfl rfl)) (hvQ rfl (lnQ rfl rfl rfl (zab ((hr).ou))) ?_))))
 refine zdk rfl (zdw (z := .int .i64 0) (s := 1) (bytes := 8) (n := (List.replicate n.os.length (0 : Int)).length) (cs := ((List.replicate n.os.length (0 : Int)).map (Value.int .i64))) rfl Try.underlying28 rfl (by decide) rfl rfl (by first | (rw [List.length_replicate]; done) | (rw [List.length_replicate]; omega)) (by first | (rw [List.length_replicate]; done) | (rw [List.length_replicate]; omega)) (by rw [List.length_replicate]; omega) (zec _)) ?_
 intro g4
 refine zaz 1 rfl (srQ (hvQ rfl (fdQ 1 rfl rfl rfl) (hvQ rfl (zad rfl rfl rfl (zaa 2 rfl rfl)) (hvQ rfl (lnQ rfl rfl rfl (zab ((hr).sq.row))) ?_))))
 refine zdk rfl (zdw (z := .int .i64 0) (s := 1) (bytes := 8) (n := (List.replicate n.ss.length (0 : Int)).length) (cs := ((List.replicate n.ss.length (0 : Int)).map (Value.int .i64))) rfl Try.underlying28 rfl (by decide) rfl rfl (by first | (rw [List.length_replicate]; done) | (rw [List.length_replicate]; omega)) (by first | (rw [List.length_replicate]; done) | (rw [List.length_replicate]; omega)) (by rw [List.length_replicate]; omega) (zec _)) ?_
 intro g5
 refine zaz 1 rfl (srQ (hvQ rfl (fdQ 2 rfl rfl rfl) (hvQ rfl (zad rfl rfl rfl (zaa 3 rfl rfl)) (hvQ rfl (lnQ rfl rfl rfl (zab ((hr).lt.row))) ?_))))
 refine zdk rfl (zdw (z := .int .i64 0) (s := 1) (bytes := 8) (n := (List.replicate n.ls.length (0 : Int)).length) (cs := ((List.replicate n.ls.length (0 : Int)).map (Value.int .i64))) rfl Try.underlying28 rfl (by decide) rfl rfl (by first | (rw [List.length_replicate]; done) | (rw [List.length_replicate]; omega)) (by first | (rw [List.length_replicate]; done) | (rw [List.length_replicate]; omega)) (by rw [List.length_replicate]; omega) (zec _)) ?_
 intro g6
 refine zaz 1 rfl (zac (zbd 1 rfl (zax ?_)))
 refine zhy (α := Nat) (β := List Int × List Int × List Int × List Int) [0, 1, 2, 4, 5, 6, 7, 8, 21] rfl (fun i Z => [rowE 3 1 (.slice (some ⟨g6, 0, none⟩) ((List.replicate n.ls.length (0 : Int)).length) ((List.replicate n.ls.length (0 : Int)).length)) Z.2.2.2.length (Z.2.2.2.map (Value.int .i64)), rowE 3 1 (.slice (some ⟨g5, 0, none⟩) ((List.replicate n.ss.length (0 : Int)).length) ((List.replicate n.ss.length (0 : Int)).length)) Z.2.2.1.length (Z.2.2.1.map (Value.int .i64)), rowE 3 1 (.slice (some ⟨g4, 0, none⟩) ((List.replicate n.os.length (0 : Int)).length) ((List.replicate n.os.length (0 : Int)).length)) Z.2.1.length (Z.2.1.map (Value.int .i64)), rowE 3 1 (.slice (some ⟨g3, 0, none⟩) ((List.replicate (n.ins).toNat (0 : Int)).length) ((List.replicate (n.ins).toNat (0 : Int)).length)) Z.1.length (Z.1.map (Value.int .i64)), boxE b1 #[.int .i64 n.ins, n.sv, n.lv, n.ov] 30]) (fun i Z => [(9, .int .i64 (i : Int))]) (fun i Z => i ≤ bs.length ∧ (∀ q, q < i → BlP n (bs.getD q bk0)) ∧ Z.1.length = n.ins.toNat ∧ Z.2.1.length = n.os.length ∧ Z.2.2.1.length = n.ss.length ∧ Z.2.2.2.length = n.ls.length ∧ CntB Z.1 (10 * i) ∧ CntB Z.2.1 (10 * i) ∧ CntB Z.2.2.1 (10 * i) ∧ CntB Z.2.2.2 (10 * i)) (fun i Z => bs.length - i) 0 (List.replicate n.ins.toNat 0, List.replicate n.os.length 0, List.replicate n.ss.length 0, List.replicate n.ls.length 0) ⟨Nat.zero_le _, fun q hq => absurd hq (by omega), List.length_replicate, List.length_replicate, List.length_replicate, List.length_replicate, zfd _ _, zfd _ _, zfd _ _, zfd _ _⟩ (saQ rfl) (pfQ rfl) ?_
 intro i Z hi7
 obtain ⟨hi, hall, hz1, hz2, hz3, hz4, hc1, hc2, hc3, hc4⟩ := hi7
 refine zac (zac (reQ 2 rfl (hvQ rfl (lnQ rfl rfl rfl (zab hbk.row)) ?_)))
 refine zbj rfl rfl rfl rfl rfl rfl (fun h8 => ?_) (fun h8 => ?_)
 ·
  refine ntQ (zak rfl (zcq (sbQ (zac (reQ 2 rfl (hvQ rfl (riQ 3 rfl rfl rfl rfl (zab hbk.row)) ?_))))))
  refine hvQ rfl (zbt (us := [.int .i64 ((bs.getD i bk0).kd), .int .i64 ((bs.getD i bk0).it), (bs.getD i bk0).bv]) rfl rfl rfl rfl (zab hbk.row) (by omega) rfl (zcp bkC 3 (fun _ => rfl) bs bk0 (show i < _ by omega) rfl)) (zdj rfl (zbx (z := .agg #[.int .i64 0, .int .i64 0, .slice none 0 0]) rfl rfl) ?_)
  intro b9
  refine zcc (cs' := #[.int .i64 ((bs.getD i bk0).kd), .int .i64 ((bs.getD i bk0).it), (bs.getD i bk0).bv]) (i := 0) (off := 0) (us := [.int .i64 ((bs.getD i bk0).kd), .int .i64 ((bs.getD i bk0).it), (bs.getD i bk0).bv]) rfl rfl rfl rfl rfl rfl rfl (zah rfl (zah rfl (zah (hbk.at (k := i) (by omega)).one zbr))) rfl rfl rfl (ntQ (zeh (hvQ rfl (zao (cs := [.int .i64 n.ins, n.sv, n.lv, n.ov]) rfl rfl rfl rfl rfl (zaj 5 rfl 0 rfl)) (hvQ rfl (zao (cs := [.int .i64 ((bs.getD i bk0).kd), .int .i64 ((bs.getD i bk0).it), (bs.getD i bk0).bv]) rfl rfl rfl rfl rfl (zaj 0 rfl 0 rfl)) ?_))))
  refine zds rfl (zaq rfl rfl (fun w hm => zav (zpn n (bs.getD i bk0) w (hr.below hm.bel) hok ((hbk.at (k := i) (by omega)).below hm.bel) (hel i (by omega))))) (zca (fun h10 => ?_) (fun h10 => ?_))
  ·
   have h10p := zja h10
   refine zaz 1 rfl (zal rfl (zcq ?_))
   refine zqo (α := List Int × List Int × List Int) (fun Q => [boxE b9 #[.int .i64 ((bs.getD i bk0).kd), .int .i64 ((bs.getD i bk0).it), (bs.getD i bk0).bv] 39, rowE 3 1 (.slice (some ⟨g6, 0, none⟩) ((List.replicate n.ls.length (0 : Int)).length) ((List.replicate n.ls.length (0 : Int)).length)) Z.2.2.2.length (Z.2.2.2.map (Value.int .i64)), rowE 3 1 (.slice (some ⟨g5, 0, none⟩) ((List.replicate n.ss.length (0 : Int)).length) ((List.replicate n.ss.length (0 : Int)).length)) Q.2.2.length (Q.2.2.map (Value.int .i64)), rowE 3 1 (.slice (some ⟨g4, 0, none⟩) ((List.replicate n.os.length (0 : Int)).length) ((List.replicate n.os.length (0 : Int)).length)) Q.2.1.length (Q.2.1.map (Value.int .i64)), rowE 3 1 (.slice (some ⟨g3, 0, none⟩) ((List.replicate (n.ins).toNat (0 : Int)).length) ((List.replicate (n.ins).toNat (0 : Int)).length)) Q.1.length (Q.1.map (Value.int .i64)), boxE b1 #[.int .i64 n.ins, n.sv, n.lv, n.ov] 30]) (fun Q => [(0, .agg #[.int .i64 n.ins, n.sv, n.lv, n.ov]), (1, v), (2, .pointer (some ⟨b1, 0, none⟩)), (4, .bool false), (5, .slice (some ⟨g3, 0, none⟩) ((List.replicate (n.ins).toNat (0 : Int)).length) ((List.replicate (n.ins).toNat (0 : Int)).length)), (6, .slice (some ⟨g4, 0, none⟩) ((List.replicate n.os.length (0 : Int)).length) ((List.replicate n.os.length (0 : Int)).length)), (7, .slice (some ⟨g5, 0, none⟩) ((List.replicate n.ss.length (0 : Int)).length) ((List.replicate n.ss.length (0 : Int)).length)), (8, .slice (some ⟨g6, 0, none⟩) ((List.replicate n.ls.length (0 : Int)).length) ((List.replicate n.ls.length (0 : Int)).length)), (9, .int .i64 (i : Int)), (10, .pointer (some ⟨b9, 0, none⟩)), (21, .bool false), (40, .bool true), (50, .bool false)]) (fun Q => Q.1.length = n.ins.toNat ∧ Q.2.1.length = n.os.length ∧ Q.2.2.length = n.ss.length ∧ CntB Q.1 (10 * i + 1) ∧ CntB Q.2.1 (10 * i + 1) ∧ CntB Q.2.2 (10 * i + 1)) ?_ ?_
   ·
    refine srQ ?_
    have hbp : BlP n (bs.getD i bk0) := by assumption
    obtain ⟨hg0, hg1, hg2, hg3, hg4⟩ := hbp.rng
    have hq0 := hc1 (bs.getD i bk0).it.toNat
    have hq1 := hc2 (bs.getD i bk0).it.toNat
    have hq2 := hc3 (bs.getD i bk0).it.toNat
    refine hvQ rfl (fdQ 0 rfl rfl rfl) (hvQ rfl (zad rfl rfl rfl (zaa 0 rfl rfl)) (ntQ (zax (srQ ?_))))
    refine zbp rfl rfl rfl rfl rfl rfl (fun h11 => ?_) (fun h11 => ?_)
    ·
     refine zaz 1 rfl (zak rfl (reQ 1 rfl (hvQ rfl (fdQ 1 rfl rfl rfl) (hvQ rfl (zad rfl rfl rfl (zaa 0 rfl rfl)) (hvQ rfl (riQ 1 rfl rfl rfl rfl (zae 4 rfl)) (hvQ rfl (lzQ rfl rfl rfl (zae 4 rfl)) (hvQ rfl (vaQ rfl rfl rfl) (hvQ rfl (riQ 1 rfl rfl rfl rfl (zae 4 rfl)) ?_))))))))
     refine zda (i := 4) (n' := (Z.1.set (((bs.getD i bk0).it).toNat) ((Z.1.getD (((bs.getD i bk0).it).toNat) 0) + 1)).length) (xs' := ((Z.1.set (((bs.getD i bk0).it).toNat) ((Z.1.getD (((bs.getD i bk0).it).toNat) 0) + 1)).map (Value.int .i64))) rfl rfl rfl rfl rfl rfl rfl rfl (by first | omega | (simp only [List.length_set]; omega)) List.length_set.symm (zdd _ _ _) rfl (zbu (zcs ?_))
     exact zfz ((Z.1.set (((bs.getD i bk0).it).toNat) ((Z.1.getD (((bs.getD i bk0).it).toNat) 0) + 1)), Z.2.1, Z.2.2.1) ⟨by first | assumption | (rw [List.length_set]; assumption), by first | assumption | (rw [List.length_set]; assumption), by first | assumption | (rw [List.length_set]; assumption), by first | assumption | exact zbc (by assumption) (by omega) | exact zbc (zbs (by assumption)) (by omega), by first | assumption | exact zbc (by assumption) (by omega) | exact zbc (zbs (by assumption)) (by omega), by first | assumption | exact zbc (by assumption) (by omega) | exact zbc (zbs (by assumption)) (by omega)⟩ (saQ rfl) (pfQ rfl)
    refine zaz 1 rfl (zal rfl (srQ ?_))
    refine zbp rfl rfl rfl rfl rfl rfl (fun h12 => ?_) (fun h12 => ?_)
    ·
     refine zaz 1 rfl (zak rfl (reQ 1 rfl (hvQ rfl (fdQ 1 rfl rfl rfl) (hvQ rfl (zad rfl rfl rfl (zaa 0 rfl rfl)) (hvQ rfl (riQ 1 rfl rfl rfl rfl (zae 3 rfl)) (hvQ rfl (lzQ rfl rfl rfl (zae 3 rfl)) (hvQ rfl (vaQ rfl rfl rfl) (hvQ rfl (riQ 1 rfl rfl rfl rfl (zae 3 rfl)) ?_))))))))
     refine zda (i := 3) (n' := (Z.2.1.set (((bs.getD i bk0).it).toNat) ((Z.2.1.getD (((bs.getD i bk0).it).toNat) 0) + 1)).length) (xs' := ((Z.2.1.set (((bs.getD i bk0).it).toNat) ((Z.2.1.getD (((bs.getD i bk0).it).toNat) 0) + 1)).map (Value.int .i64))) rfl rfl rfl rfl rfl rfl rfl rfl (by first | omega | (simp only [List.length_set]; omega)) List.length_set.symm (zdd _ _ _) rfl (zbu (zcs ?_))
     exact zfz (Z.1, (Z.2.1.set (((bs.getD i bk0).it).toNat) ((Z.2.1.getD (((bs.getD i bk0).it).toNat) 0) + 1)), Z.2.2.1) ⟨by first | assumption | (rw [List.length_set]; assumption), by first | assumption | (rw [List.length_set]; assumption), by first | assumption | (rw [List.length_set]; assumption), by first | assumption | exact zbc (by assumption) (by omega) | exact zbc (zbs (by assumption)) (by omega), by first | assumption | exact zbc (by assumption) (by omega) | exact zbc (zbs (by assumption)) (by omega), by first | assumption | exact zbc (by assumption) (by omega) | exact zbc (zbs (by assumption)) (by omega)⟩ (saQ rfl) (pfQ rfl)
    refine zaz 1 rfl (zal rfl (srQ ?_))
    refine zbp rfl rfl rfl rfl rfl rfl (fun h13 => ?_) (fun h13 => ?_)
    ·
     refine zaz 1 rfl (zak rfl (reQ 1 rfl (hvQ rfl (fdQ 1 rfl rfl rfl) (hvQ rfl (zad rfl rfl rfl (zaa 0 rfl rfl)) (hvQ rfl (riQ 1 rfl rfl rfl rfl (zae 2 rfl)) (hvQ rfl (lzQ rfl rfl rfl (zae 2 rfl)) (hvQ rfl (vaQ rfl rfl rfl) (hvQ rfl (riQ 1 rfl rfl rfl rfl (zae 2 rfl)) ?_))))))))
     refine zda (i := 2) (n' := (Z.2.2.1.set (((bs.getD i bk0).it).toNat) ((Z.2.2.1.getD (((bs.getD i bk0).it).toNat) 0) + 1)).length) (xs' := ((Z.2.2.1.set (((bs.getD i bk0).it).toNat) ((Z.2.2.1.getD (((bs.getD i bk0).it).toNat) 0) + 1)).map (Value.int .i64))) rfl rfl rfl rfl rfl rfl rfl rfl (by first | omega | (simp only [List.length_set]; omega)) List.length_set.symm (zdd _ _ _) rfl (zbu (zcs ?_))
     exact zfz (Z.1, Z.2.1, (Z.2.2.1.set (((bs.getD i bk0).it).toNat) ((Z.2.2.1.getD (((bs.getD i bk0).it).toNat) 0) + 1))) ⟨by first | assumption | (rw [List.length_set]; assumption), by first | assumption | (rw [List.length_set]; assumption), by first | assumption | (rw [List.length_set]; assumption), by first | assumption | exact zbc (by assumption) (by omega) | exact zbc (zbs (by assumption)) (by omega), by first | assumption | exact zbc (by assumption) (by omega) | exact zbc (zbs (by assumption)) (by omega), by first | assumption | exact zbc (by assumption) (by omega) | exact zbc (zbs (by assumption)) (by omega)⟩ (saQ rfl) (pfQ rfl)
    refine zaz 1 rfl (fsQ rfl (zcs ?_))
    exact zfz (Z.1, Z.2.1, Z.2.2.1) ⟨by first | assumption | (rw [List.length_set]; assumption), by first | assumption | (rw [List.length_set]; assumption), by first | assumption | (rw [List.length_set]; assumption), by first | assumption | exact zbc (by assumption) (by omega) | exact zbc (zbs (by assumption)) (by omega), by first | assumption | exact zbc (by assumption) (by omega) | exact zbc (zbs (by assumption)) (by omega), by first | assumption | exact zbc (by assumption) (by omega) | exact zbc (zbs (by assumption)) (by omega)⟩ (saQ rfl) (pfQ rfl)
   intro Q hm14
   obtain ⟨hQ1, hQ2, hQ3, hQ4, hQ5, hQ6⟩ := hm14
   have hbp : BlP n (bs.getD i bk0) := by assumption
   obtain ⟨hg0, hg1, hg2, hg3, hg4⟩ := hbp.rng
   refine zbd 1 rfl (zax ?_)
   refine zhy (α := Nat) (β := List Int × List Int) [0, 1, 2, 4, 5, 6, 7, 8, 9, 10, 21, 40, 50] rfl (fun k Y => [boxE b9 #[.int .i64 ((bs.getD i bk0).kd), .int .i64 ((bs.getD i bk0).it), (bs.getD i bk0).bv] 39, rowE 3 1 (.slice (some ⟨g6, 0, none⟩) ((List.replicate n.ls.length (0 : Int)).length) ((List.replicate n.ls.length (0 : Int)).length)) Y.2.length (Y.2.map (Value.int .i64)), rowE 3 1 (.slice (some ⟨g5, 0, none⟩) ((List.replicate n.ss.length (0 : Int)).length) ((List.replicate n.ss.length (0 : Int)).length)) Y.1.length (Y.1.map (Value.int .i64)), rowE 3 1 (.slice (some ⟨g4, 0, none⟩) ((List.replicate n.os.length (0 : Int)).length) ((List.replicate n.os.length (0 : Int)).length)) Q.2.1.length (Q.2.1.map (Value.int .i64)), rowE 3 1 (.slice (some ⟨g3, 0, none⟩) ((List.replicate (n.ins).toNat (0 : Int)).length) ((List.replicate (n.ins).toNat (0 : Int)).length)) Q.1.length (Q.1.map (Value.int .i64)), boxE b1 #[.int .i64 n.ins, n.sv, n.lv, n.ov] 30]) (fun k Y => [(11, .int .i64 (k : Int))]) (fun k Y => k ≤ (bs.getD i bk0).es.length ∧ Y.1.length = n.ss.length ∧ Y.2.length = n.ls.length ∧ CntB Y.1 (10 * i + 2 + k) ∧ CntB Y.2 (10 * i + 2 + k)) (fun k Y => (bs.getD i bk0).es.length - k) 0 (Q.2.2, Z.2.2.2) ⟨Nat.zero_le _, by first | assumption | (rw [List.length_set]; assumption), by first | assumption | (rw [List.length_set]; assumption), by first | assumption | exact zbc (by assumption) (by omega) | exact zbc (zbs (by assumption)) (by omega), by first | assumption | exact zbc (by assumption) (by omega) | exact zbc (zbs (by assumption)) (by omega)⟩ (saQ rfl) (pfQ rfl) ?_
   intro k Y hi15
   obtain ⟨hk, hy1, hy2, hd1, hd2⟩ := hi15
   refine zac (zac (reQ 1 rfl (hvQ rfl (fdQ 2 rfl rfl rfl) (hvQ rfl (zad rfl rfl rfl (zaa 0 rfl rfl)) (hvQ rfl (lnQ rfl rfl rfl (zab (hbk.at (k := i) (by omega)))) ?_)))))
   refine zbj rfl rfl rfl rfl rfl rfl (fun h16 => ?_) (fun h16 => ?_)
   ·
    refine ntQ (zak rfl (zcq (sbQ (zeh ?_))))
    have hg5 := hg4 k (by omega)
    obtain ⟨⟨ga, gb⟩, ⟨gc, gd⟩, ge⟩ := hg5
    have hr1 := hd1 ((bs.getD i bk0).es.getD k le0).f.toNat
    have hr2 := hd2 ((bs.getD i bk0).es.getD k le0).u.toNat
    refine hvQ rfl (fdQ 2 rfl rfl rfl) (hvQ rfl (zad rfl rfl rfl (zaa 0 rfl rfl)) (zap 1 rfl (hvQ rfl (riQ 2 rfl rfl rfl rfl (zab (hbk.at (k := i) (by omega)))) (hvQ rfl (zbe (k0 := 0) rfl rfl rfl (zab (hbk.at (k := i) (by omega))) (by omega)) ?_))))
    refine hvQ rfl (zar (u := .int .i64 ((((bs.getD i bk0).es).getD k le0).u)) rfl rfl rfl (zab (hbk.at (k := i) (by omega))) ((zce leC 2 (fun _ => rfl) ((bs.getD i bk0).es) le0 (show k < _ by omega) (by decide)).trans rfl)) (zdi rfl rfl rfl rfl rfl rfl (fun h17 => ?_) (fun h17 => ?_))
    ·
     refine ntQ (zak rfl (reQ 1 rfl (hvQ rfl (fdQ 2 rfl rfl rfl) (hvQ rfl (zad rfl rfl rfl (zaa 0 rfl rfl)) (zap 1 rfl (hvQ rfl (riQ 2 rfl rfl rfl rfl (zab (hbk.at (k := i) (by omega)))) (hvQ rfl (zbe (k0 := 0) rfl rfl rfl (zab (hbk.at (k := i) (by omega))) (by omega)) ?_)))))))
     refine hvQ rfl (zar (u := .int .i64 ((((bs.getD i bk0).es).getD k le0).u)) rfl rfl rfl (zab (hbk.at (k := i) (by omega))) ((zce leC 2 (fun _ => rfl) ((bs.getD i bk0).es) le0 (show k < _ by omega) (by decide)).trans rfl)) (hvQ rfl (riQ 1 rfl rfl rfl rfl (zae 1 rfl)) (hvQ rfl (lzQ rfl rfl rfl (zae 1 rfl)) (hvQ rfl (vaQ rfl rfl rfl) (hvQ rfl (riQ 1 rfl rfl rfl rfl (zae 1 rfl)) ?_))))
     refine zda (i := 1) (n' := (Y.2.set (((((bs.getD i bk0).es).getD k le0).u).toNat) ((Y.2.getD (((((bs.getD i bk0).es).getD k le0).u).toNat) 0) + 1)).length) (xs' := ((Y.2.set (((((bs.getD i bk0).es).getD k le0).u).toNat) ((Y.2.getD (((((bs.getD i bk0).es).getD k le0).u).toNat) 0) + 1)).map (Value.int .i64))) rfl rfl rfl rfl rfl rfl rfl rfl (by first | omega | (simp only [List.length_set]; omega)) List.length_set.symm (zdd _ _ _) rfl (ntQ (srQ (hvQ rfl (fdQ 2 rfl rfl rfl) (hvQ rfl (zad rfl rfl rfl (zaa 0 rfl rfl)) (zap 1 rfl (hvQ rfl (riQ 2 rfl rfl rfl rfl (zab (hbk.at (k := i) (by omega)))) (hvQ rfl (zbe (k0 := 1) rfl rfl rfl (zab (hbk.at (k := i) (by omega))) (by omega)) ?_)))))))
     refine hvQ rfl (zar (u := .int .i64 ((((bs.getD i bk0).es).getD k le0).f)) rfl rfl rfl (zab (hbk.at (k := i) (by omega))) ((zce leC 2 (fun _ => rfl) ((bs.getD i bk0).es) le0 (show k < _ by omega) (by decide)).trans rfl)) (zdi rfl rfl rfl rfl rfl rfl (fun h18 => ?_) (fun h18 => ?_))
     ·
      refine ntQ (zak rfl (reQ 1 rfl (hvQ rfl (fdQ 2 rfl rfl rfl) (hvQ rfl (zad rfl rfl rfl (zaa 0 rfl rfl)) (zap 1 rfl (hvQ rfl (riQ 2 rfl rfl rfl rfl (zab (hbk.at (k := i) (by omega)))) (hvQ rfl (zbe (k0 := 1) rfl rfl rfl (zab (hbk.at (k := i) (by omega))) (by omega)) ?_)))))))
      refine hvQ rfl (zar (u := .int .i64 ((((bs.getD i bk0).es).getD k le0).f)) rfl rfl rfl (zab (hbk.at (k := i) (by omega))) ((zce leC 2 (fun _ => rfl) ((bs.getD i bk0).es) le0 (show k < _ by omega) (by decide)).trans rfl)) (hvQ rfl (riQ 1 rfl rfl rfl rfl (zae 2 rfl)) (hvQ rfl (lzQ rfl rfl rfl (zae 2 rfl)) (hvQ rfl (vaQ rfl rfl rfl) (hvQ rfl (riQ 1 rfl rfl rfl rfl (zae 2 rfl)) ?_))))
      refine zda (i := 2) (n' := (Y.1.set (((((bs.getD i bk0).es).getD k le0).f).toNat) ((Y.1.getD (((((bs.getD i bk0).es).getD k le0).f).toNat) 0) + 1)).length) (xs' := ((Y.1.set (((((bs.getD i bk0).es).getD k le0).f).toNat) ((Y.1.getD (((((bs.getD i bk0).es).getD k le0).f).toNat) 0) + 1)).map (Value.int .i64))) rfl rfl rfl rfl rfl rfl rfl rfl (by first | omega | (simp only [List.length_set]; omega)) List.length_set.symm (zdd _ _ _) rfl (zbu (zcv (reQ 1 rfl (hvQ rfl (vaQ rfl rfl rfl) (enQ 1 rfl ?_)))))
      exact zbq (k + 1) ((Y.1.set (((((bs.getD i bk0).es).getD k le0).f).toNat) ((Y.1.getD (((((bs.getD i bk0).es).getD k le0).f).toNat) 0) + 1)), (Y.2.set (((((bs.getD i bk0).es).getD k le0).u).toNat) ((Y.2.getD (((((bs.getD i bk0).es).getD k le0).u).toNat) 0) + 1))) ⟨by omega, by first | assumption | (rw [List.length_set]; assumption), by first | assumption | (rw [List.length_set]; assumption), by first | assumption | exact zbc (by assumption) (by omega) | exact zbc (zbs (by assumption)) (by omega), by first | assumption | exact zbc (by assumption) (by omega) | exact zbc (zbs (by assumption)) (by omega)⟩ (by omega) (saQ rfl) (pfQ rfl)
     refine ntQ (fsQ rfl (zcv (reQ 1 rfl (hvQ rfl (vaQ rfl rfl rfl) (enQ 1 rfl ?_)))))
     exact zbq (k + 1) (Y.1, (Y.2.set (((((bs.getD i bk0).es).getD k le0).u).toNat) ((Y.2.getD (((((bs.getD i bk0).es).getD k le0).u).toNat) 0) + 1))) ⟨by omega, by first | assumption | (rw [List.length_set]; assumption), by first | assumption | (rw [List.length_set]; assumption), by first | assumption | exact zbc (by assumption) (by omega) | exact zbc (zbs (by assumption)) (by omega), by first | assumption | exact zbc (by assumption) (by omega) | exact zbc (zbs (by assumption)) (by omega)⟩ (by omega) (saQ rfl) (pfQ rfl)
    refine ntQ (zal rfl (zcq (srQ (hvQ rfl (fdQ 2 rfl rfl rfl) (hvQ rfl (zad rfl rfl rfl (zaa 0 rfl rfl)) (zap 1 rfl (hvQ rfl (riQ 2 rfl rfl rfl rfl (zab (hbk.at (k := i) (by omega)))) (hvQ rfl (zbe (k0 := 1) rfl rfl rfl (zab (hbk.at (k := i) (by omega))) (by omega)) ?_))))))))
    refine hvQ rfl (zar (u := .int .i64 ((((bs.getD i bk0).es).getD k le0).f)) rfl rfl rfl (zab (hbk.at (k := i) (by omega))) ((zce leC 2 (fun _ => rfl) ((bs.getD i bk0).es) le0 (show k < _ by omega) (by decide)).trans rfl)) (zdi rfl rfl rfl rfl rfl rfl (fun h19 => ?_) (fun h19 => ?_))
    ·
     refine ntQ (zak rfl (reQ 1 rfl (hvQ rfl (fdQ 2 rfl rfl rfl) (hvQ rfl (zad rfl rfl rfl (zaa 0 rfl rfl)) (zap 1 rfl (hvQ rfl (riQ 2 rfl rfl rfl rfl (zab (hbk.at (k := i) (by omega)))) (hvQ rfl (zbe (k0 := 1) rfl rfl rfl (zab (hbk.at (k := i) (by omega))) (by omega)) ?_)))))))
     refine hvQ rfl (zar (u := .int .i64 ((((bs.getD i bk0).es).getD k le0).f)) rfl rfl rfl (zab (hbk.at (k := i) (by omega))) ((zce leC 2 (fun _ => rfl) ((bs.getD i bk0).es) le0 (show k < _ by omega) (by decide)).trans rfl)) (hvQ rfl (riQ 1 rfl rfl rfl rfl (zae 2 rfl)) (hvQ rfl (lzQ rfl rfl rfl (zae 2 rfl)) (hvQ rfl (vaQ rfl rfl rfl) (hvQ rfl (riQ 1 rfl rfl rfl rfl (zae 2 rfl)) ?_))))
     refine zda (i := 2) (n' := (Y.1.set (((((bs.getD i bk0).es).getD k le0).f).toNat) ((Y.1.getD (((((bs.getD i bk0).es).getD k le0).f).toNat) 0) + 1)).length) (xs' := ((Y.1.set (((((bs.getD i bk0).es).getD k le0).f).toNat) ((Y.1.getD (((((bs.getD i bk0).es).getD k le0).f).toNat) 0) + 1)).map (Value.int .i64))) rfl rfl rfl rfl rfl rfl rfl rfl (by first | omega | (simp only [List.length_set]; omega)) List.length_set.symm (zdd _ _ _) rfl (zbu (zcv (reQ 1 rfl (hvQ rfl (vaQ rfl rfl rfl) (enQ 1 rfl ?_)))))
     exact zbq (k + 1) ((Y.1.set (((((bs.getD i bk0).es).getD k le0).f).toNat) ((Y.1.getD (((((bs.getD i bk0).es).getD k le0).f).toNat) 0) + 1)), Y.2) ⟨by omega, by first | assumption | (rw [List.length_set]; assumption), by first | assumption | (rw [List.length_set]; assumption), by first | assumption | exact zbc (by assumption) (by omega) | exact zbc (zbs (by assumption)) (by omega), by first | assumption | exact zbc (by assumption) (by omega) | exact zbc (zbs (by assumption)) (by omega)⟩ (by omega) (saQ rfl) (pfQ rfl)
    refine ntQ (fsQ rfl (zcv (reQ 1 rfl (hvQ rfl (vaQ rfl rfl rfl) (enQ 1 rfl ?_)))))
    exact zbq (k + 1) (Y.1, Y.2) ⟨by omega, by first | assumption | (rw [List.length_set]; assumption), by first | assumption | (rw [List.length_set]; assumption), by first | assumption | exact zbc (by assumption) (by omega) | exact zbc (zbs (by assumption)) (by omega), by first | assumption | exact zbc (by assumption) (by omega) | exact zbc (zbs (by assumption)) (by omega)⟩ (by omega) (saQ rfl) (pfQ rfl)
   refine ntQ (zal rfl ?_)
   refine zba (zdq ?_)
   refine zag (zcv (reQ 1 rfl (hvQ rfl (vaQ rfl rfl rfl) (enQ 1 rfl ?_))))
   exact zbq (i + 1) (Q.1, Q.2.1, Y.1, Y.2) ⟨by omega, fun q hq => by by_cases e : q = i; (subst e; assumption); exact hall q (by omega), by first | assumption | (rw [List.length_set]; assumption), by first | assumption | (rw [List.length_set]; assumption), by first | assumption | (rw [List.length_set]; assumption), by first | assumption | (rw [List.length_set]; assumption), by first | assumption | exact zbc (by assumption) (by omega) | exact zbc (zbs (by assumption)) (by omega), by first | assumption | exact zbc (by assumption) (by omega) | exact zbc (zbs (by assumption)) (by omega), by first | assumption | exact zbc (by assumption) (by omega) | exact zbc (zbs (by assumption)) (by omega), by first | assumption | exact zbc (by assumption) (by omega) | exact zbc (zbs (by assumption)) (by omega)⟩ (by omega) (saQ rfl) (slQ [1, 0, 0, 0, 0] rfl)
  have h10p := zgt h10
  refine zaz 1 rfl (zak rfl (zbd 1 rfl ?_))
  refine zau (zai ?_)
  refine zan (zge ?_)
  refine zan (zai ?_)
  exact zdm (rs := [.tmp 4]) (vs := [.bool false]) (post := []) rfl ⟨rfl, trivial⟩ rfl (slQ [] rfl) ⟨_, rfl, rfl, fun h => by cases h⟩
 refine ntQ (zal rfl ?_)
 refine zba (zdq ?_)
 refine zag (zaw (zac (reQ 2 rfl ?_)))
 refine zcd (i := 3) (z := .int .i64 0) (bytes := 8) rfl rfl rfl rfl Try.underlying28 (by kernel_rfl) rfl rfl rfl rfl (zae 2 rfl) (zbm _) (by first | omega | (simp only [List.length_append]; omega)) (zbv Z.1 Z.2.1) (zcm Z.1 Z.2.1) (fun _ => rfl) ?_
 intro v20
 refine zap 1 rfl (zcd (i := 3) (z := .int .i64 0) (bytes := 8) rfl rfl rfl rfl Try.underlying28 (by kernel_rfl) rfl rfl rfl rfl (zae 1 rfl) (zbm _) (by first | omega | (simp only [List.length_append]; omega)) (zbv (Z.1 ++ Z.2.1) Z.2.2.1) (zcm (Z.1 ++ Z.2.1) Z.2.2.1) (fun _ => rfl) ?_)
 intro v21
 refine zap 1 rfl (zcd (i := 3) (z := .int .i64 0) (bytes := 8) rfl rfl rfl rfl Try.underlying28 (by kernel_rfl) rfl rfl rfl rfl (zae 0 rfl) (zbm _) (by first | omega | (simp only [List.length_append]; omega)) (zbv ((Z.1 ++ Z.2.1) ++ Z.2.2.1) Z.2.2.2) (zcm ((Z.1 ++ Z.2.1) ++ Z.2.2.1) Z.2.2.2) (fun _ => rfl) ?_)
 intro v22
 refine zaz 1 rfl (zac (zbd 1 rfl (zax ?_)))
 refine zka (α := Nat) [0, 1, 2, 4, 5, 6, 7, 8, 12, 21, 40] rfl (fun j => [rowE 3 1 (.slice (some ⟨g6, 0, none⟩) ((List.replicate n.ls.length (0 : Int)).length) ((List.replicate n.ls.length (0 : Int)).length)) Z.2.2.2.length (Z.2.2.2.map (Value.int .i64)), rowE 3 1 (.slice (some ⟨g5, 0, none⟩) ((List.replicate n.ss.length (0 : Int)).length) ((List.replicate n.ss.length (0 : Int)).length)) Z.2.2.1.length (Z.2.2.1.map (Value.int .i64)), rowE 3 1 (.slice (some ⟨g4, 0, none⟩) ((List.replicate n.os.length (0 : Int)).length) ((List.replicate n.os.length (0 : Int)).length)) Z.2.1.length (Z.2.1.map (Value.int .i64)), rowE 3 1 v22 ((((Z.1 ++ Z.2.1) ++ Z.2.2.1) ++ Z.2.2.2).length) ((((Z.1 ++ Z.2.1) ++ Z.2.2.1) ++ Z.2.2.2).map (Value.int .i64)), boxE b1 #[.int .i64 n.ins, n.sv, n.lv, n.ov] 30]) (fun j => [(13, .int .i64 (j : Int))]) (fun j => j ≤ (((Z.1 ++ Z.2.1) ++ Z.2.2.1) ++ Z.2.2.2).length) (fun j => (((Z.1 ++ Z.2.1) ++ Z.2.2.1) ++ Z.2.2.2).length - j) 0 (Nat.zero_le _) (saQ rfl) (pfQ rfl) ?_
 intro j hi23
 have hj := hi23
 have hal : (((Z.1 ++ Z.2.1) ++ Z.2.2.1) ++ Z.2.2.2).length ≤ 1000 := by simp only [List.length_append]; omega
 refine zac (zac (reQ 2 rfl (hvQ rfl (lnQ rfl rfl rfl (zae 3 rfl)) ?_)))
 refine zbj rfl rfl rfl rfl rfl rfl (fun h24 => ?_) (fun h24 => ?_)
 ·
  refine ntQ (zak rfl (zcq (sbQ (zac (reQ 2 rfl (hvQ rfl (riQ 1 rfl rfl rfl rfl (zae 3 rfl)) (hvQ rfl (zar (u := .int .i64 ((((Z.1 ++ Z.2.1) ++ Z.2.2.1) ++ Z.2.2.2).getD j 0)) rfl rfl rfl (zae 3 rfl) (zbn (show _ < (((Z.1 ++ Z.2.1) ++ Z.2.2.1) ++ Z.2.2.2).length by omega))) ?_)))))))
  refine zfj rfl rfl rfl rfl rfl rfl (fun h25 => ?_) (fun h25 => ?_)
  ·
   refine ntQ (zak rfl (zbd 1 rfl ?_))
   refine zau (zan ?_)
   refine zge ?_
   refine zan (zai ?_)
   exact zdm (rs := [.tmp 4]) (vs := [.bool false]) (post := []) rfl ⟨rfl, trivial⟩ rfl (slQ [] rfl) ⟨_, rfl, rfl, fun h => by cases h⟩
  refine ntQ (fsQ rfl (zcv (reQ 1 rfl (hvQ rfl (vaQ rfl rfl rfl) (enQ 1 rfl ?_)))))
  exact zcr (j + 1) (by omega) (by omega) (saQ rfl) (pfQ rfl)
 refine ntQ (zal rfl ?_)
 refine zba (zdq ?_)
 refine zag (zaw (zbd 1 rfl ?_))
 exact zau (zdm (rs := [.tmp 4]) (vs := [.bool true]) (post := []) rfl ⟨rfl, trivial⟩ rfl (slQ [] rfl) ⟨_, rfl, rfl, fun _ => ⟨by omega, fun q hq => hall q (by omega)⟩⟩)
theorem k4' {d : Dev} {t : Int} (h : (((t % d.W == 0) = true ∨ (t / d.W == 0) = true) ∨ (t % d.W == d.W - 1) = true) ∨ (t / d.W == d.H - 1) = true) : 0 = kindI d t := by
  rcases h with ((h | h) | h) | h
  · exact k4 (.inl (.inl (.inl h)))
  · exact k4 (.inl (.inr h))
  · exact k4 (.inl (.inl (.inr h)))
  · exact k4 (.inr h)
theorem k5' {d : Dev} {t : Int} (h : (((t % d.W == 0) = false ∧ (t / d.W == 0) = false) ∧ (t % d.W == d.W - 1) = false) ∧ (t / d.W == d.H - 1) = false) (h2 : (t % d.W == d.R) = true) : 2 = kindI d t :=
  k5 ⟨⟨⟨h.1.1.1, h.1.2⟩, h.1.1.2⟩, h.2⟩ h2
theorem k6' {d : Dev} {t : Int} (h : (((t % d.W == 0) = false ∧ (t / d.W == 0) = false) ∧ (t % d.W == d.W - 1) = false) ∧ (t / d.W == d.H - 1) = false) (h2 : (t % d.W == d.R) = false) : 1 = kindI d t :=
  k6 ⟨⟨⟨h.1.1.1, h.1.2⟩, h.1.1.2⟩, h.2⟩ h2
theorem ziz (d : Dev) (t : Int) (w : World) :
    Calls Try.prog 45 #[.agg #[.int .i64 d.W, .int .i64 d.H, .int .i64 d.T, .int .i64 d.R], .int .i64 t] w fun e w' => e = .returned (.int .i64 (tileKindI d t)) ∧ Below w.heap.size w w' := by
  rcases Bool.eq_false_or_eq_true (devB d) with hv | hv
  rotate_left
  · have hf := Lib.hid (show tileKindI d t = -1 from if_neg (by simp [tOk, hv]))
    have hS0 := zhi w d
    have HS0 := Lib.hid hS0
    go_enter Try.func45, Try.ntmps45
    go_wp2_with fail
    refine (zel d _).mono ?_
    rintro e w1 ⟨rfl, hb1⟩
    have hS1 := zih HS0.out hb1
    have HS1 := Lib.hid hS1
    clear hS0
    obtain ⟨c0, c1, c2, c3, -⟩ := hS1
    clear hb1
    have hz1 : w.heap.size < w1.heap.size := World.block_lt_of_cell? _ _ c0
    go_wp2
    go_ret
    exact ⟨zkt hf.out.symm, zji HS1.out⟩
  obtain ⟨m1, m2⟩ := area_le hv
  obtain ⟨⟨a1, a2⟩, ⟨b1, b2⟩, -, -⟩ := (zjj d).1 hv
  by_cases h0 : t < 0
  · have hf := Lib.hid (show tileKindI d t = -1 from if_neg (by rw [zoc]; omega))
    have hS0 := zhi w d
    have HS0 := Lib.hid hS0
    go_enter Try.func45, Try.ntmps45
    go_wp2_with fail
    refine (zel d _).mono ?_
    rintro e w1 ⟨rfl, hb1⟩
    have hS1 := zih HS0.out hb1
    have HS1 := Lib.hid hS1
    clear hS0
    obtain ⟨c0, c1, c2, c3, -⟩ := hS1
    clear hb1
    have hz1 : w.heap.size < w1.heap.size := World.block_lt_of_cell? _ _ c0
    go_wp2
    go_ret
    exact ⟨zkt hf.out.symm, zji HS1.out⟩
  by_cases h1 : d.W * d.H ≤ t
  · have hf := Lib.hid (show tileKindI d t = -1 from if_neg (by rw [zoc]; omega))
    have hS0 := zhi w d
    have HS0 := Lib.hid hS0
    go_enter Try.func45, Try.ntmps45
    go_wp2_with fail
    refine (zel d _).mono ?_
    rintro e w1 ⟨rfl, hb1⟩
    have hS1 := zih HS0.out hb1
    have HS1 := Lib.hid hS1
    clear hS0
    obtain ⟨c0, c1, c2, c3, -⟩ := hS1
    clear hb1
    have hz1 : w.heap.size < w1.heap.size := World.block_lt_of_cell? _ _ c0
    go_wp2
    go_ret
    exact ⟨zkt hf.out.symm, zji HS1.out⟩
  · have hf := Lib.hid (show tileKindI d t = kindI d t from if_pos ((zoc d t).2 ⟨hv, by omega, by omega⟩))
    have o1 := @k1_o d t
    have o2 := @k2_o d t
    have o3 := @k3_o d t
    have z : t ≤ 35 := by omega
    have hS0 := zhi w d
    have HS0 := Lib.hid hS0
    go_enter Try.func45, Try.ntmps45
    go_wp2_with fail
    refine (zel d _).mono ?_
    rintro e w1 ⟨rfl, hb1⟩
    have hS1 := zih HS0.out hb1
    have HS1 := Lib.hid hS1
    clear hS0
    obtain ⟨c0, c1, c2, c3, -⟩ := hS1
    clear hb1
    have hz1 : w.heap.size < w1.heap.size := World.block_lt_of_cell? _ _ c0
    clear o1 o2 o3
    go_wp2
    all_goals go_ret
    all_goals refine ⟨zkt ?_, zji HS1.out⟩
    all_goals rw [hf.out]
    all_goals first | exact k1_o (by assumption) | exact k2_o (by assumption) | exact k3_o (by assumption) | exact k4' (by assumption) | exact k5' (by assumption) (by assumption) | exact k6' (by assumption) (by assumption)
open Go.RowKit
def btI (k : Int) : Int := if k = 0 ∨ k = 1 then 0 else if k = 2 then 2 else if k = 3 then 1 else -1
def tlL (d : Dev) (k : Int) : Nat → List Int
  | 0 => []
  | t + 1 => if tileKindI d (t : Int) = k then tlL d k t ++ [(t : Int)] else tlL d k t
def tilesK (d : Dev) (k : Int) : List Int := tlL d k (d.W * d.H).toNat
theorem zsi (d : Dev) (k : Int) : ∀ t, (tlL d k t).length ≤ t
  | 0 => Nat.le_refl _
  | t + 1 => by have := zsi d k t; unfold tlL; split <;> first | (rw [List.length_append, List.length_singleton]; omega) | omega
theorem zlf (d : Dev) (k : Int) : ∀ t x, x ∈ tlL d k t ↔ (0 ≤ x ∧ x < (t : Int)) ∧ tileKindI d x = k
  | 0, x => by constructor <;> intro h; (cases h); (omega)
  | t + 1, x => by
    unfold tlL
    split
    · rename_i hk
      rw [List.mem_append, zlf d k t x, List.mem_singleton]
      constructor
      · rintro (⟨h1, h2⟩ | rfl)
        · exact ⟨by omega, h2⟩
        · exact ⟨by omega, hk⟩
      · rintro ⟨h1, h2⟩
        by_cases e : x = (t : Int)
        · exact .inr e
        · exact .inl ⟨by omega, h2⟩
    · rename_i hk
      rw [zlf d k t x]
      constructor
      · rintro ⟨h1, h2⟩; exact ⟨by omega, h2⟩
      · rintro ⟨h1, h2⟩
        refine ⟨⟨h1.1, ?_⟩, h2⟩
        have : x ≠ (t : Int) := fun e => hk (by rw [← e]; exact h2)
        omega
theorem zjl (d : Dev) (k : Int) : ∀ t, (tlL d k t).Nodup
  | 0 => List.nodup_nil
  | t + 1 => by
    unfold tlL
    split
    · rw [List.nodup_append]
      refine ⟨zjl d k t, by simp, fun a ha b hb => ?_⟩
      rw [List.mem_singleton] at hb
      have := ((zlf d k t a).1 ha).1
      omega
    · exact zjl d k t
theorem zmj {d : Dev} (h : devB d = true) : 9 ≤ d.W * d.H ∧ d.W * d.H ≤ 36 := by
  obtain ⟨⟨a, b⟩, ⟨c, e⟩, -⟩ := (zjj d).1 h
  have h1 : 3 * 3 ≤ d.W * d.H := Int.mul_le_mul a c (by omega) (by omega)
  have h2 : d.W * d.H ≤ 6 * 6 := Int.mul_le_mul b e (by omega) (by omega)
  omega
theorem zim (k : Int) (w : World)  :
   Calls Try.prog 20 #[.int .i64 k] w (Ans w (.int .i64 (btI k))) := by
 refine zbf (N := 11) (args := [.int .i64 k]) Try.func20 rfl rfl (zbd 1 rfl (zac (zbd 1 rfl ?_)))
 refine zax (zeh ?_)
 refine zbp rfl rfl rfl rfl rfl rfl (fun h1 => ?_) (fun h1 => ?_)
 ·
  refine zaz 1 rfl (zak rfl (zcq (zak rfl (zbd 1 rfl ?_))))
  refine zau (zan ?_)
  exact zai (zbb rfl rfl (by unfold btI; first | rw [if_pos (by omega)] | rw [if_neg (by omega), if_pos (by omega)] | rw [if_neg (by omega), if_neg (by omega), if_pos (by omega)] | rw [if_neg (by omega), if_neg (by omega), if_neg (by omega)]))
 refine zaz 1 rfl (zal rfl (zay ?_))
 refine zbp rfl rfl rfl rfl rfl rfl (fun h2 => ?_) (fun h2 => ?_)
 ·
  refine zaz 1 rfl (zak rfl (zbd 1 rfl ?_))
  refine zau (zan ?_)
  exact zai (zbb rfl rfl (by unfold btI; first | rw [if_pos (by omega)] | rw [if_neg (by omega), if_pos (by omega)] | rw [if_neg (by omega), if_neg (by omega), if_pos (by omega)] | rw [if_neg (by omega), if_neg (by omega), if_neg (by omega)]))
 refine zaz 1 rfl (zal rfl (srQ ?_))
 refine zbp rfl rfl rfl rfl rfl rfl (fun h3 => ?_) (fun h3 => ?_)
 ·
  refine zaz 1 rfl (zak rfl (zbd 1 rfl ?_))
  refine zau (zan ?_)
  exact zai (zbb rfl rfl (by unfold btI; first | rw [if_pos (by omega)] | rw [if_neg (by omega), if_pos (by omega)] | rw [if_neg (by omega), if_neg (by omega), if_pos (by omega)] | rw [if_neg (by omega), if_neg (by omega), if_neg (by omega)]))
 refine zaz 1 rfl (zal rfl (srQ ?_))
 refine zbp rfl rfl rfl rfl rfl rfl (fun h4 => ?_) (fun h4 => ?_)
 ·
  refine zaz 1 rfl (zak rfl (zbd 1 rfl ?_))
  refine zau (zan ?_)
  exact zai (zbb rfl rfl (by unfold btI; first | rw [if_pos (by omega)] | rw [if_neg (by omega), if_pos (by omega)] | rw [if_neg (by omega), if_neg (by omega), if_pos (by omega)] | rw [if_neg (by omega), if_neg (by omega), if_neg (by omega)]))
 refine zaz 1 rfl (fsQ rfl (zcv (zbd 1 rfl ?_)))
 exact zau (zbb rfl rfl (by unfold btI; first | rw [if_pos (by omega)] | rw [if_neg (by omega), if_pos (by omega)] | rw [if_neg (by omega), if_neg (by omega), if_pos (by omega)] | rw [if_neg (by omega), if_neg (by omega), if_neg (by omega)]))
theorem znf (bs : List Bk) (v : Value) (w : World) (hbk : RdsBk w v bs) (hbl : bs.length ≤ 1000) :
   Calls Try.prog 65 #[v] w (Ret w (fun v' post => post = [rowE 3 1 v' ((bs.map Bk.kd)).length (((bs.map Bk.kd)).map (Value.int .i64))])) := by
 have hbs9 := sml hbk.row
 refine zbf (N := 21) (args := [v]) Try.func65 rfl rfl (zbd 1 rfl (srQ ?_))
 refine zdk rfl (zbz (s := 1) rfl Try.underlying28 rfl) ?_
 intro g1
 refine zaz 1 rfl (zac (zbd 1 rfl (zax ?_)))
 refine zgn (α := Nat) (β := Value) (γ := List Int) [0, 2] rfl (fun i gu zs => [rowE 3 1 gu zs.length (zs.map (Value.int .i64))]) (fun i gu zs => [(3, gu), (4, .int .i64 (i : Int))]) (fun i gu zs => i ≤ bs.length ∧ zs = (bs.take i).map Bk.kd) (fun i gu zs => bs.length - i) 0 _ [] ⟨Nat.zero_le _, rfl⟩ (saQ rfl) (pfQ rfl) ?_
 intro i gu zs hi2
 obtain ⟨hi, hz⟩ := hi2
 have hzl : zs.length = i := by rw [hz, List.length_map, List.length_take]; omega
 refine zac (zac (reQ 2 rfl (hvQ rfl (lnQ rfl rfl rfl (zab hbk.row)) ?_)))
 refine zbj rfl rfl rfl rfl rfl rfl (fun h3 => ?_) (fun h3 => ?_)
 ·
  refine ntQ (zak rfl (zcq (sbQ (reQ 3 rfl (hvQ rfl (riQ 3 rfl rfl rfl rfl (zab hbk.row)) (hvQ rfl (zbe (k0 := 0) rfl rfl rfl (zab hbk.row) (by omega)) ?_))))))
  refine hvQ rfl (zar (u := .int .i64 ((bs.getD i bk0).kd)) rfl rfl rfl (zab hbk.row) ((zce bkC 3 (fun _ => rfl) bs bk0 (show i < _ by omega) (by decide)).trans rfl)) (zdk rfl (zat (z := .int .i64 0) (s := 1) (cs := ([(bs.getD i bk0).kd].map (Value.int .i64))) rfl Try.underlying28 rfl (by decide) rfl (by kernel_rfl) rfl) ?_)
  intro g4
  refine zcd (i := 1) (z := .int .i64 0) (bytes := 8) rfl rfl rfl rfl Try.underlying28 (by kernel_rfl) rfl rfl rfl rfl (zae 0 rfl) (zbm _) (by first | omega | (simp; done) | (simp; omega)) (zbv zs ([(bs.getD i bk0).kd])) (zcm zs ([(bs.getD i bk0).kd])) (fun _ => rfl) ?_
  intro v5
  refine enQ 1 rfl (zcv (reQ 1 rfl (hvQ rfl (vaQ rfl rfl rfl) (enQ 1 rfl ?_))))
  exact zbi (i + 1) v5 (zs ++ ([(bs.getD i bk0).kd])) ⟨by omega, by rw [hz, zdb bk0 (show i < bs.length by omega), List.map_append]; rfl⟩ (by omega) (saQ rfl) (slQ [1] rfl)
 refine ntQ (zal rfl ?_)
 refine zba (zdq ?_)
 refine zag (zaw (zbd 2 rfl ?_))
 exact zau (zck (post := [rowE 3 1 gu zs.length (zs.map (Value.int .i64))]) rfl rfl (pfQ rfl) (by rw [hz, List.take_of_length_le (by omega)]))
theorem zjm (d : Dev) (k : Int) (w : World) (hdv : devB d = true) :
   Calls Try.prog 19 #[.agg #[.int .i64 d.W, .int .i64 d.H, .int .i64 d.T, .int .i64 d.R], .int .i64 k] w (Ret w (fun v' post => post = [rowE 3 1 v' ((tilesK d k)).length (((tilesK d k)).map (Value.int .i64))])) := by
 obtain ⟨har1, har2⟩ := zmj hdv
 refine zbf (N := 31) (args := [.agg #[.int .i64 d.W, .int .i64 d.H, .int .i64 d.T, .int .i64 d.R], .int .i64 k]) Try.func19 rfl rfl (srQ ?_)
 refine zdj rfl (zch rfl rfl) ?_
 intro b1
 refine zaz 1 rfl (srQ ?_)
 refine zdk rfl (zbz (s := 1) rfl Try.underlying28 rfl) ?_
 intro g2
 refine zaz 1 rfl (zeh (hvQ rfl (zao (cs := [.int .i64 d.W, .int .i64 d.H, .int .i64 d.T, .int .i64 d.R]) rfl rfl rfl rfl rfl (zaj 1 rfl 0 rfl)) ?_))
 refine zds rfl (zaq rfl rfl (fun w hm => zav (by have h9 := zel d w; rw [hdv] at h9; exact h9))) (zaz 1 rfl (zal rfl (zcq (zac (zbd 1 rfl ?_)))))
 refine zax ?_
 refine zgn (α := Nat) (β := Value) (γ := List Int) [0, 1, 2, 4, 10] rfl (fun t gu zs => [rowE 3 1 gu zs.length (zs.map (Value.int .i64)), boxE b1 #[.int .i64 d.W, .int .i64 d.H, .int .i64 d.T, .int .i64 d.R] 25]) (fun t gu zs => [(5, gu), (6, .int .i64 (t : Int))]) (fun t gu zs => (t : Int) ≤ d.W * d.H ∧ zs = tlL d k t) (fun t gu zs => (d.W * d.H).toNat - t) 0 _ [] ⟨by omega, rfl⟩ (saQ rfl) (pfQ rfl) ?_
 intro t gu zs hi3
 obtain ⟨ht, hz⟩ := hi3
 have hzl : zs.length ≤ t := by rw [hz]; exact zsi d k t
 refine zac (zac (reQ 1 rfl (hvQ rfl (fdQ 0 rfl rfl rfl) (hvQ rfl (zad rfl rfl rfl (zaa 1 rfl rfl)) (hvQ rfl (fdQ 1 rfl rfl rfl) (hvQ rfl (zad rfl rfl rfl (zaa 1 rfl rfl)) (hvQ rfl (zew rfl rfl rfl (by constructor <;> omega)) ?_)))))))
 refine zbj rfl rfl rfl rfl rfl rfl (fun h4 => ?_) (fun h4 => ?_)
 ·
  refine ntQ (zak rfl (zcq (sbQ (srQ (hvQ rfl (zao (cs := [.int .i64 d.W, .int .i64 d.H, .int .i64 d.T, .int .i64 d.R]) rfl rfl rfl rfl rfl (zaj 1 rfl 0 rfl)) (zap 1 rfl ?_))))))
  refine zds rfl (zaq rfl rfl (fun w hm => zav (ziz d (t : Int) w))) (zap 1 rfl ?_)
  refine zbp rfl rfl rfl rfl rfl rfl (fun h5 => ?_) (fun h5 => ?_)
  ·
   refine ntQ (zak rfl (reQ 2 rfl ?_))
   refine zdk rfl (zat (z := .int .i64 0) (s := 1) (cs := ([(t : Int)].map (Value.int .i64))) rfl Try.underlying28 rfl (by decide) rfl (by kernel_rfl) rfl) ?_
   intro g6
   refine zcd (i := 1) (z := .int .i64 0) (bytes := 8) rfl rfl rfl rfl Try.underlying28 (by kernel_rfl) rfl rfl rfl rfl (zae 0 rfl) (zbm _) (by first | omega | (simp; done) | (simp; omega)) (zbv zs ([(t : Int)])) (zcm zs ([(t : Int)])) (fun _ => rfl) ?_
   intro v7
   refine enQ 1 rfl (zcv (reQ 1 rfl (hvQ rfl (vaQ rfl rfl rfl) (enQ 1 rfl ?_))))
   exact zbi (t + 1) v7 (zs ++ ([(t : Int)])) ⟨by omega, by rw [hz]; show _ = (if _ then _ else _); first | rw [if_pos (by omega)] | rw [if_neg (by omega)]⟩ (by omega) (saQ rfl) (slQ [1, 0] rfl)
  refine ntQ (fsQ rfl (zcv (reQ 1 rfl (hvQ rfl (vaQ rfl rfl rfl) (enQ 1 rfl ?_)))))
  exact zbi (t + 1) gu zs ⟨by omega, by rw [hz]; show _ = (if _ then _ else _); first | rw [if_pos (by omega)] | rw [if_neg (by omega)]⟩ (by omega) (saQ rfl) (pfQ rfl)
 refine ntQ (zal rfl ?_)
 refine zba (zdq ?_)
 refine zag (zaw (zbd 2 rfl ?_))
 exact zau (zck (post := [rowE 3 1 gu zs.length (zs.map (Value.int .i64))]) rfl rfl (slQ [0] rfl) (by rw [hz, show t = (d.W * d.H).toNat by omega]; rfl))
theorem zlh : ∀ (us ns : List Int), us.Nodup → (∀ x ∈ us, x ∈ ns) → us.length ≤ ns.length
  | [], _, _, _ => Nat.zero_le _
  | u :: us, ns, hn, hs => by
    rw [List.nodup_cons] at hn
    have hu : u ∈ ns := hs u List.mem_cons_self
    have := zlh us (ns.erase u) hn.2 fun x hx => by
      have hne : x ≠ u := fun e => hn.1 (e ▸ hx)
      exact (List.mem_erase_of_ne hne).2 (hs x (List.mem_cons_of_mem _ hx))
    rw [List.length_erase_of_mem hu] at this
    have hp := List.length_pos_of_mem hu
    rw [List.length_cons]; omega
theorem ztt (P Q : Int → Bool) : ∀ (a b : List Int), a.length = b.length → (∀ i, i < a.length → P (a.getD i 0) = Q (b.getD i 0)) → (a.filter P).length = (b.filter Q).length
  | [], [], _, _ => rfl
  | [], _ :: _, h, _ => by cases h
  | _ :: _, [], h, _ => by cases h
  | x :: a, y :: b, h, hp => by
    have h0 : P x = Q y := hp 0 (by rw [List.length_cons]; omega)
    have ih := ztt P Q a b (by rw [List.length_cons, List.length_cons] at h; omega) fun i hi => hp (i + 1) (by rw [List.length_cons]; omega)
    rw [List.filter_cons, List.filter_cons, h0]
    split
    · rw [List.length_cons, List.length_cons, ih]
    · exact ih
structure PlP (d : Dev) (ks zs : List Int) : Prop where
  kd : ∀ q, q < zs.length → tileKindI d (zs.getD q 0) = btI (ks.getD q 0)
  rg : ∀ q, q < zs.length → 0 ≤ zs.getD q 0 ∧ zs.getD q 0 < d.W * d.H
  nd : zs.Nodup
  le : zs.length ≤ ks.length
def Fits (d : Dev) (ks : List Int) : Prop := ∀ c : Int, (ks.filter (fun k => btI k == c)).length ≤ (tilesK d c).length
theorem PlP.nil (d : Dev) (ks : List Int) : PlP d ks [] := ⟨fun q hq => absurd hq (by simp), fun q hq => absurd hq (by simp), List.nodup_nil, Nat.zero_le _⟩
theorem zfs {d : Dev} (hd : devB d = true) {c x : Int} : x ∈ tilesK d c ↔ (0 ≤ x ∧ x < d.W * d.H) ∧ tileKindI d x = c := by
  have := zmj hd
  unfold tilesK; rw [zlf]; rw [show (((d.W * d.H).toNat : Nat) : Int) = d.W * d.H by omega]
theorem PlP.app {d : Dev} (hd : devB d = true) {ks zs : List Int} (h : PlP d ks zs) (hl : zs.length < ks.length) {x : Int} (hx : x ∈ tilesK d (btI (ks.getD zs.length 0))) (hn : x ∉ zs) : PlP d ks (zs ++ [x]) := by
  obtain ⟨hx1, hx2⟩ := (zfs hd).1 hx
  refine ⟨fun q hq => ?_, fun q hq => ?_, ?_, by rw [List.length_append, List.length_singleton]; omega⟩
  · rw [List.length_append, List.length_singleton] at hq
    by_cases e : q < zs.length
    · rw [zen e]; exact h.kd q e
    · obtain rfl : q = zs.length := by omega
      rw [zeo (Nat.le_refl _), Nat.sub_self]; exact hx2
  · rw [List.length_append, List.length_singleton] at hq
    by_cases e : q < zs.length
    · rw [zen e]; exact h.rg q e
    · obtain rfl : q = zs.length := by omega
      rw [zeo (Nat.le_refl _), Nat.sub_self]; exact hx1
  · rw [List.nodup_append]
    refine ⟨h.nd, by simp, fun a ha b hb => ?_⟩
    rw [List.mem_singleton] at hb; subst hb
    exact fun e => hn (e ▸ ha)
theorem PlP.count {d : Dev} {ks zs : List Int} (h : PlP d ks zs) (c : Int) : ((ks.take zs.length).filter (fun k => btI k == c)).length = (zs.filter (fun x => tileKindI d x == c)).length := by
  have hl := h.le
  have hlen : (ks.take zs.length).length = zs.length := by rw [List.length_take]; omega
  refine ztt _ _ _ _ hlen fun i hi => ?_
  rw [hlen] at hi
  rw [show (ks.take zs.length).getD i 0 = ks.getD i 0 by rw [List.getD_eq_getElem?_getD, List.getElem?_take_of_lt hi, ← List.getD_eq_getElem?_getD], h.kd i hi]
theorem PlP.mem_rg {d : Dev} {ks zs : List Int} (h : PlP d ks zs) {x : Int} (hx : x ∈ zs) : 0 ≤ x ∧ x < d.W * d.H := by
  obtain ⟨q, hq, rfl⟩ := List.mem_iff_getElem.1 hx
  have := h.rg q hq
  rwa [List.getD_eq_getElem?_getD, List.getElem?_eq_getElem hq] at this
theorem PlP.fits {d : Dev} (hd : devB d = true) {ks zs : List Int} (h : PlP d ks zs) (hl : zs.length = ks.length) : Fits d ks := fun c => by
  have hc := h.count c
  rw [hl, List.take_length] at hc
  rw [hc]
  refine zlh _ _ (h.nd.filter _) fun x hx => ?_
  rw [List.mem_filter] at hx
  exact (zfs hd).2 ⟨h.mem_rg hx.1, by simpa using hx.2⟩
theorem PlP.short {d : Dev} (hd : devB d = true) {ks zs : List Int} (h : PlP d ks zs) (hl : zs.length < ks.length) (hall : ∀ x ∈ tilesK d (btI (ks.getD zs.length 0)), x ∈ zs) : ¬ Fits d ks := fun hf => by
  have h1 := hf (btI (ks.getD zs.length 0))
  have h2 := h.count (btI (ks.getD zs.length 0))
  have h3 := zlh (tilesK d (btI (ks.getD zs.length 0))) (zs.filter (fun x => tileKindI d x == btI (ks.getD zs.length 0))) (zjl _ _ _) fun x hx => by
    rw [List.mem_filter]; exact ⟨hall x hx, by simpa using ((zfs hd).1 hx).2⟩
  have h4 : ((ks.take (zs.length + 1)).filter (fun k => btI k == btI (ks.getD zs.length 0))).length = ((ks.take zs.length).filter (fun k => btI k == btI (ks.getD zs.length 0))).length + 1 := by
    rw [zdb 0 hl, List.filter_append, List.length_append]; simp
  have h5 := ((List.take_sublist (zs.length + 1) ks).filter (fun k => btI k == btI (ks.getD zs.length 0))).length_le
  omega
theorem zvu {n s : Int} (hn : 0 < n) {P : Int → Prop} (h : ∀ q : Int, 0 ≤ q → q < n → P ((s + q) % n)) : ∀ i : Int, 0 ≤ i → i < n → P i := fun i h0 h1 => by
  have := h ((i - s) % n) (Int.emod_nonneg _ (by omega)) (Int.emod_lt_of_pos _ hn)
  rwa [Int.add_emod_emod, show s + (i - s) = i by omega, Int.emod_eq_of_lt h0 h1] at this
theorem zpp {T zs : List Int} {s : Int} (h : ∀ q : Nat, q < T.length → T.getD ((s + (q : Int)) % (T.length : Int)).toNat 0 ∈ zs) : ∀ x ∈ T, x ∈ zs := fun x hx => by
  obtain ⟨i, hi, rfl⟩ := List.mem_iff_getElem.1 hx
  have := zvu (n := (T.length : Int)) (s := s) (by omega) (P := fun i => T.getD i.toNat 0 ∈ zs) (fun q h0 h1 => by
    have := h q.toNat (by omega)
    rwa [Int.toNat_of_nonneg h0] at this) (i : Int) (by omega) (by omega)
  rwa [Int.toNat_natCast, List.getD_eq_getElem?_getD, List.getElem?_eq_getElem hi] at this
def lenN (v : Value) : Nat := match v with | .slice _ n _ => n | _ => 0
theorem zht {w : World} {v : Value} {s n : Nat} {cs : List Value} (h : RdsW w v s n cs) : lenN v = n := by obtain ⟨a, c, rfl, -⟩ := h; rfl
theorem rd_lenN {w0 : World} {l : List HP} {v : Value} {s n : Nat} {cs : List Value} (h : Rd w0 l v s n cs) : Rd w0 l v s (lenN v) cs := fun w hm => by have h9 := h w hm; rw [zht h9]; exact h9
def UsP (zs : List Int) (us : List Bl) : Prop := ∀ t : Nat, t < us.length → ((us.getD t bl0).b = true ↔ (t : Int) ∈ zs)
theorem UsP.nil (n : Nat) : UsP [] (List.replicate n bl0) := fun t ht => by
  rw [List.length_replicate] at ht
  rw [List.getD_eq_getElem?_getD, List.getElem?_eq_getElem (by rw [List.length_replicate]; exact ht)]
  simp
theorem UsP.app {zs : List Int} {us : List Bl} (h : UsP zs us) {x : Int} (hx : 0 ≤ x) {y : Bl} (hy : y.b = true) : UsP (zs ++ [x]) (us.set x.toNat y) := fun t ht => by
  rw [List.length_set] at ht
  rw [List.getD_eq_getElem?_getD, List.getElem?_set, List.mem_append, List.mem_singleton]
  by_cases e : x.toNat = t
  · subst e
    rw [if_pos rfl, if_pos ht]
    exact ⟨fun _ => .inr (by omega), fun _ => hy⟩
  · rw [if_neg e, ← List.getD_eq_getElem?_getD, h t ht]
    exact ⟨.inl, fun q => q.resolve_right (by omega)⟩
theorem zry (g : Nat) (a : Option Addr) (len cap : Nat) (z : List Int) (n : Int) (w0 : World) (l : List HP) (w : World) (hm0 : Mem w0 (curE g a len cap :: l) w) (hn : n ≤ 0) :
   Calls Try.prog 57 #[.pointer (some ⟨g, 0, none⟩), .int .i64 n] w (fun e_ w_ => ∃ v_ p_, e_ = .returned v_ ∧ (fun u_ p_ => u_ = .int .i64 0 ∧ p_ = curE g a len cap) v_ p_ ∧ Mem w0 (p_ :: l) w_) := by
 refine zgj (N := 37) (args := [.pointer (some ⟨g, 0, none⟩), .int .i64 n]) Try.func57 rfl rfl hm0 (zbd 1 rfl (zac (zac (reQ 1 rfl ?_))))
 refine zhn rfl rfl rfl rfl rfl rfl (fun h1 => ?_) (fun h1 => absurd h1 (by omega))
 refine ntQ (zak rfl (zbd 1 rfl ?_))
 refine zau (zai ?_)
 exact zkf (p' := curE g a len cap) rfl rfl (.refl _) ⟨rfl, rfl⟩
theorem zrx (g : Nat) (a : Option Addr) (len cap : Nat) (z : List Int) (n : Int) (w0 : World) (l : List HP) (w : World) (hm0 : Mem w0 (curE g a len cap :: l) w) (hb : BRow .u8 w0 a len cap z) (hn : n ≤ 4294967296) :
   Calls Try.prog 57 #[.pointer (some ⟨g, 0, none⟩), .int .i64 n] w (fun e_ w_ => ∃ v_ p_, e_ = .returned v_ ∧ (fun u_ p_ => (∃ x : Int, u_ = .int .i64 x ∧ 0 ≤ x ∧ (1 ≤ n → x < n)) ∧ p_ = curE g a len cap) v_ p_ ∧ Mem w0 (p_ :: l) w_) := by
  by_cases h : 1 ≤ n
  · refine (zdh g a len cap z n w0 l w hm0 hb ⟨h, hn⟩).mono ?_
    rintro e w' ⟨v, p, he, ⟨⟨x, hx, h0, h1⟩, hp⟩, hm⟩
    exact ⟨v, p, he, ⟨⟨x, hx, h0, fun _ => h1⟩, hp⟩, hm⟩
  · refine (zry g a len cap z n w0 l w hm0 (by omega)).mono ?_
    rintro e w' ⟨v, p, he, ⟨hx, hp⟩, hm⟩
    exact ⟨v, p, he, ⟨⟨0, hx, Int.le_refl _, fun h9 => absurd h9 h⟩, hp⟩, hm⟩
theorem zlv (g : Nat) (a : Option Addr) (len cap : Nat) (z : List Int) (d : Dev) (ks : List Int) (kv : Value) (w0 : World) (l : List HP) (w : World) (hm0 : Mem w0 (curE g a len cap :: l) w) (hb : BRow .u8 w0 a len cap z) (hdv : devB d = true) (hkv : Rd w0 l kv 1 ks.length (ks.map (Value.int .i64))) (hkl : ks.length ≤ 64) :
   Calls Try.prog 64 #[.pointer (some ⟨g, 0, none⟩), .agg #[.int .i64 d.W, .int .i64 d.H, .int .i64 d.T, .int .i64 d.R], kv] w (fun e_ w_ => ∃ v_ p_, e_ = .returned v_ ∧ (fun u_ p_ => ∃ zs : List Int, p_ = bigE [curE g a len cap, rowE 3 1 u_ zs.length (zs.map (Value.int .i64))] ∧ (lenN u_ = zs.length ∧ u_.oneCell' = true) ∧ ((Fits d ks ∧ zs.length = ks.length ∧ PlP d ks zs) ∨ (¬ Fits d ks ∧ zs = []))) v_ p_ ∧ Mem w0 (p_ :: l) w_) := by
 obtain ⟨har1, har2⟩ := zmj hdv
 refine zgj (N := 75) (args := [.pointer (some ⟨g, 0, none⟩), .agg #[.int .i64 d.W, .int .i64 d.H, .int .i64 d.T, .int .i64 d.R], kv]) Try.func64 rfl rfl hm0 (srQ ?_)
 refine zdj rfl (zch rfl rfl) ?_
 intro b1
 refine zaz 1 rfl (srQ ?_)
 refine zdk rfl (zbz (s := 1) rfl Try.underlying28 rfl) ?_
 intro g2
 refine zaz 1 rfl (srQ (hvQ rfl (fdQ 0 rfl rfl rfl) (hvQ rfl (zad rfl rfl rfl (zaa 1 rfl rfl)) (hvQ rfl (fdQ 1 rfl rfl rfl) (hvQ rfl (zad rfl rfl rfl (zaa 1 rfl rfl)) (hvQ rfl (zew rfl rfl rfl (by constructor <;> omega)) ?_))))))
 refine zdk rfl (zdw (z := .bool false) (s := 1) (bytes := 1) (n := (List.replicate (d.W * d.H).toNat bl0).length) (cs := ((List.replicate (d.W * d.H).toNat bl0).flatMap blC)) rfl Try.underlying130 rfl (by decide) rfl rfl (by first | (rw [List.length_replicate]; done) | (rw [List.length_replicate]; omega)) (by first | (rw [List.length_replicate]; done) | (rw [List.length_replicate]; omega)) (by rw [List.length_replicate]; omega) (zex blC 1 (fun _ => rfl) bl0 _ rfl (d.W * d.H).toNat)) ?_
 intro g3
 refine zaz 1 rfl (zac (zbd 1 rfl (zax ?_)))
 refine zgn (α := Nat) (β := Value × List Int) (γ := List Bl) [0, 1, 2, 4, 6, 8] rfl (fun b U us => (rowE 4 1 (.slice (some ⟨g3, 0, none⟩) ((List.replicate (d.W * d.H).toNat bl0).length) ((List.replicate (d.W * d.H).toNat bl0).length)) us.length (us.flatMap blC) :: rowE 3 1 U.1 U.2.length (U.2.map (Value.int .i64)) :: boxE b1 #[.int .i64 d.W, .int .i64 d.H, .int .i64 d.T, .int .i64 d.R] 25 :: curE g a len cap :: l)) (fun b U us => [(7, U.1), (9, .int .i64 (b : Int))]) (fun b U us => b ≤ ks.length ∧ U.2.length = b ∧ PlP d ks U.2 ∧ us.length = (d.W * d.H).toNat ∧ UsP U.2 us) (fun b U us => ks.length - b) 0 (_, []) (List.replicate (d.W * d.H).toNat bl0) ⟨Nat.zero_le _, rfl, PlP.nil _ _, List.length_replicate, UsP.nil _⟩ (saQ rfl) (.refl _) ?_
 intro b U us hi4
 obtain ⟨hbl, hzl, hpl, hul, hup⟩ := hi4
 refine zac (zac (reQ 2 rfl ?_))
 refine hvQ rfl (lnQ rfl rfl rfl (fun w hm => hkv w (hm.sub (.cons _ (.cons _ (.cons _ (.cons _ (.refl _)))))))) (zbj rfl rfl rfl rfl rfl rfl (fun h5 => ?_) (fun h5 => ?_))
 ·
  refine ntQ (zak rfl (zcq (sbQ (zac ?_))))
  refine zdf rfl 7 [0, 1, 2, 3, 4, 5, 6] (List.take 7 _) (List.drop 7 _) [[], [], [], [1, 2], [3], [4], [0, 5]] [29, 30, 31, 32, 33, 34, 35] (fun i_ vs_ v_ p_ => match i_ with | 0 => v_ = .agg #[.int .i64 d.W, .int .i64 d.H, .int .i64 d.T, .int .i64 d.R] ∧ p_ = [] | 1 => v_ = kv ∧ p_ = [] | 2 => v_ = .int .i64 (b : Int) ∧ p_ = [] | 3 => v_ = elP kv (((b : Int)).toNat * 1) ∧ p_ = [] | 4 => v_ = .int .i64 (ks.getD b 0) ∧ p_ = [] | 5 => v_ = .int .i64 (btI (ks.getD b 0)) ∧ p_ = [] | 6 => (fun v' post => post = [rowE 3 1 v' ((tilesK d (btI (ks.getD b 0)))).length (((tilesK d (btI (ks.getD b 0)))).map (Value.int .i64))]) v_ p_ | _ => True) (List.take_append_drop 7 _).symm (by kernel_rfl) (by kernel_rfl) rfl rfl ?_ ?_
  ·
   refine ⟨?_, ?_, ?_, ?_, ?_, ?_, ?_, trivial⟩
   ·
    intro vf pf hR
    exact olQ rfl (zam [4] rfl) (zbg (zao (cs := [.int .i64 d.W, .int .i64 d.H, .int .i64 d.T, .int .i64 d.R]) rfl rfl rfl rfl rfl (zaj 2 rfl 0 rfl)))
   ·
    intro vf pf hR
    exact ovQ rfl (zam [2] rfl) (zbg (zas rfl))
   ·
    intro vf pf hR
    exact ovQ rfl (zam [9] rfl) (zbg (zas rfl))
   ·
    intro vf pf hR
    have e1 := hR 1 (by decide)
    have e2 := hR 2 (by decide)
    exact olQ rfl (sk 30 (congrArg some e1.1) (sk 31 (congrArg some e2.1) (zaf _))) (zbg (riQ 1 rfl rfl rfl rfl (fun w hm => hkv w (hm.sub (.cons _ (.cons _ (.cons _ (.cons _ (.refl _)))))))))
   ·
    intro vf pf hR
    have e3 := hR 3 (by decide)
    exact olQ rfl (sk 32 (congrArg some e3.1) (zaf _)) (zbg (liQ rfl rfl rfl (fun w hm => hkv w (hm.sub (.cons _ (.cons _ (.cons _ (.cons _ (.refl _)))))))))
   ·
    intro vf pf hR
    have e4 := hR 4 (by decide)
    exact olQ rfl (sk 33 (congrArg some e4.1) (zaf _)) (zaq rfl rfl (fun w hm => zav (zim (ks.getD b 0) w)))
   intro vf pf hR
   have e0 := hR 0 (by decide)
   have e5 := hR 5 (by decide)
   exact olQ rfl (sk 29 (congrArg some e0.1) (sk 34 (congrArg some e5.1) (zaf _))) (zaq rfl rfl (fun w hm => zjm d (btI (ks.getD b 0)) w hdv))
  intro vf pf hR
  have e6 : (fun v' post => post = [rowE 3 1 v' ((tilesK d (btI (ks.getD b 0)))).length (((tilesK d (btI (ks.getD b 0)))).map (Value.int .i64))]) (vf 6) (pf 6) := hR 6 (by decide)
  obtain ⟨v6, vE6⟩ : ∃ x, vf 6 = x := ⟨_, rfl⟩
  obtain ⟨p7, pE6⟩ : ∃ x, pf 6 = x := ⟨_, rfl⟩
  have hR8 := e6
  rw [vE6, pE6] at hR8
  subst hR8
  have q0 := hR 0 (by decide)
  have q1 := hR 1 (by decide)
  have q2 := hR 2 (by decide)
  have q3 := hR 3 (by decide)
  have q4 := hR 4 (by decide)
  have q5 := hR 5 (by decide)
  refine zco (zbk [26, 9, 8, 7, 6, 4, 2, 1, 0] _ (sk 35 (congrArg some vE6) (zaf _)) rfl) (by simp only [pE6, vE6, q0.2, q1.2, q2.2, q3.2, q4.2, q5.2, fS] <;> rfl) ?_
  simp only [List.drop_succ_cons, List.drop_zero]
  refine zaz 1 rfl (srQ ?_)
  have htl := zsi d (btI (ks.getD b 0)) (d.W * d.H).toNat
  have htl9 : (tilesK d (btI (ks.getD b 0))).length ≤ (d.W * d.H).toNat := htl
  refine zaz 1 rfl (zac (reQ 1 rfl (hvQ rfl (lnQ rfl rfl rfl (zae 0 rfl)) (zaz 1 rfl (srQ ?_)))))
  refine zap 2 rfl (zdt (R := (fun u_ p_ => (∃ x : Int, u_ = .int .i64 x ∧ 0 ≤ x ∧ (1 ≤ (((tilesK d (btI (ks.getD b 0))).length : Int) : Int) → x < (((tilesK d (btI (ks.getD b 0))).length : Int) : Int))) ∧ p_ = curE g a len cap)) 4 rfl rfl rfl rfl rfl (fun l' w hm => zrx g a len cap z ((tilesK d (btI (ks.getD b 0))).length : Int) _ _ _ hm hb (by omega)) ?_)
  intro v9 p10 hR11
  obtain ⟨⟨xhR11, rfl, xhR110, xhR111⟩, rfl⟩ := hR11
  refine zev (l' := (rowE 3 1 v6 ((tilesK d (btI (ks.getD b 0))).length) ((tilesK d (btI (ks.getD b 0))).map (Value.int .i64)) :: rowE 4 1 (.slice (some ⟨g3, 0, none⟩) ((List.replicate (d.W * d.H).toNat bl0).length) ((List.replicate (d.W * d.H).toNat bl0).length)) us.length (us.flatMap blC) :: rowE 3 1 U.1 U.2.length (U.2.map (Value.int .i64)) :: boxE b1 #[.int .i64 d.W, .int .i64 d.H, .int .i64 d.T, .int .i64 d.R] 25 :: curE g a len cap :: l)) rfl ?_
  refine zaz 1 rfl (zac (zbd 1 rfl (zax ?_)))
  refine zhy (α := Nat) (β := Int) [0, 1, 2, 4, 6, 7, 8, 9, 10, 12, 13, 26] rfl (fun k at_ => (rowE 3 1 v6 ((tilesK d (btI (ks.getD b 0))).length) ((tilesK d (btI (ks.getD b 0))).map (Value.int .i64)) :: rowE 4 1 (.slice (some ⟨g3, 0, none⟩) ((List.replicate (d.W * d.H).toNat bl0).length) ((List.replicate (d.W * d.H).toNat bl0).length)) us.length (us.flatMap blC) :: rowE 3 1 U.1 U.2.length (U.2.map (Value.int .i64)) :: boxE b1 #[.int .i64 d.W, .int .i64 d.H, .int .i64 d.T, .int .i64 d.R] 25 :: curE g a len cap :: l)) (fun k at_ => [(11, .int .i64 at_), (14, .int .i64 (k : Int))]) (fun k at_ => k ≤ (tilesK d (btI (ks.getD b 0))).length ∧ ((at_ = -1 ∧ ∀ q : Nat, q < k → (tilesK d (btI (ks.getD b 0))).getD ((xhR11 + (q : Int)) % ((tilesK d (btI (ks.getD b 0))).length : Int)).toNat 0 ∈ U.2) ∨ (0 ≤ at_ ∧ at_ ∈ (tilesK d (btI (ks.getD b 0))) ∧ at_ ∉ U.2))) (fun k at_ => (tilesK d (btI (ks.getD b 0))).length - k) 0 _ ⟨Nat.zero_le _, .inl ⟨rfl, fun q hq => absurd hq (by omega)⟩⟩ (saQ rfl) (.refl _) ?_
  intro k at_ hi12
  obtain ⟨hk, hat⟩ := hi12
  refine zac (zac (reQ 2 rfl ?_))
  refine zbj rfl rfl rfl rfl rfl rfl (fun h13 => ?_) (fun h13 => ?_)
  ·
   refine zap 2 rfl (zbj rfl rfl rfl rfl rfl rfl (fun h14 => ?_) (fun h14 => ?_))
   ·
    refine zaz 1 rfl (zak rfl (zcq (sbQ (srQ ?_))))
    have hmo := Int.emod_nonneg (xhR11 + (k : Int)) (show ((tilesK d (btI (ks.getD b 0))).length : Int) ≠ 0 by omega)
    have hmo2 := Int.emod_lt_of_pos (xhR11 + (k : Int)) (show 0 < ((tilesK d (btI (ks.getD b 0))).length : Int) by omega)
    have hat9 := hat.resolve_right (fun h9 => by omega)
    refine zap 1 rfl (zap 2 rfl (hvQ rfl (vaQ rfl rfl rfl) (zap 1 rfl (hvQ rfl (zhl rfl rfl rfl (by constructor <;> omega)) (hvQ rfl (riQ 1 rfl rfl rfl rfl (zae 0 rfl)) (hvQ rfl (zar (u := .int .i64 ((tilesK d (btI (ks.getD b 0))).getD (((xhR11 + (k : Int)) % ((tilesK d (btI (ks.getD b 0))).length : Int)).toNat) 0)) rfl rfl rfl (zae 0 rfl) (zbn (show _ < (tilesK d (btI (ks.getD b 0))).length by omega))) (zaz 1 rfl (srQ ?_))))))))
    have htm : ((tilesK d (btI (ks.getD b 0))).getD ((xhR11 + (k : Int)) % ((tilesK d (btI (ks.getD b 0))).length : Int)).toNat 0) ∈ (tilesK d (btI (ks.getD b 0))) := zey (by omega)
    have htr := (zfs hdv).1 htm
    have hus := hup ((tilesK d (btI (ks.getD b 0))).getD ((xhR11 + (k : Int)) % ((tilesK d (btI (ks.getD b 0))).length : Int)).toNat 0).toNat (by omega)
    refine zap 2 rfl (hvQ rfl (riQ 1 rfl rfl rfl rfl (zae 1 rfl)) ?_)
    refine hvQ rfl (zar (u := .bool ((us.getD (((tilesK d (btI (ks.getD b 0))).getD (((xhR11 + (k : Int)) % ((tilesK d (btI (ks.getD b 0))).length : Int)).toNat) 0).toNat) bl0).b)) rfl rfl rfl (zae 1 rfl) (zcu blC (fun r => .bool r.b) (fun _ => rfl) us bl0 (show ((tilesK d (btI (ks.getD b 0))).getD (((xhR11 + (k : Int)) % ((tilesK d (btI (ks.getD b 0))).length : Int)).toNat) 0).toNat < _ by omega))) (zca (fun h15 => ?_) (fun h15 => ?_))
    ·
     refine zaz 1 rfl (fsQ rfl (zcv (reQ 1 rfl (hvQ rfl (vaQ rfl rfl rfl) (enQ 1 rfl ?_)))))
     exact zbq (k + 1) _ ⟨by omega, by first | exact .inr ⟨htr.1.1, htm, fun h9 => by have h8 := hus.2 (by rw [Int.toNat_of_nonneg htr.1.1]; exact h9); simp_all⟩ | (refine .inl ⟨hat9.1, fun q hq => ?_⟩; by_cases e : q = k; (subst e; have h8 := hus.1 (by assumption); rwa [Int.toNat_of_nonneg htr.1.1] at h8); exact hat9.2 q (by omega))⟩ (by omega) (saQ rfl) (.refl _)
    refine zaz 1 rfl (zak rfl (zay (enQ 2 rfl (zcv (reQ 1 rfl (hvQ rfl (vaQ rfl rfl rfl) ?_))))))
    refine enQ 1 rfl ?_
    exact zbq (k + 1) _ ⟨by omega, by first | exact .inr ⟨htr.1.1, htm, fun h9 => by have h8 := hus.2 (by rw [Int.toNat_of_nonneg htr.1.1]; exact h9); simp_all⟩ | (refine .inl ⟨hat9.1, fun q hq => ?_⟩; by_cases e : q = k; (subst e; have h8 := hus.1 (by assumption); rwa [Int.toNat_of_nonneg htr.1.1] at h8); exact hat9.2 q (by omega))⟩ (by omega) (saQ rfl) (.refl _)
   refine zaz 1 rfl (zal rfl ?_)
   refine zba (zdq ?_)
   refine zag (zaw (zac (zac (reQ 1 rfl ?_))))
   refine zbj rfl rfl rfl rfl rfl rfl (fun h16 => ?_) (fun h16 => ?_)
   ·
    refine ntQ (zak rfl (srQ ?_))
    refine zdk rfl (zbz (s := 1) rfl Try.underlying28 rfl) ?_
    intro g17
    refine zaz 1 rfl ?_
    refine zau (zai ?_)
    refine zan (zge ?_)
    refine zan (zai ?_)
    have hat7 := hat.resolve_right (fun h9 => by omega)
    refine zed (fun w hm => (⟨zht (zae 0 rfl w hm), (zae 0 rfl w hm).one⟩ : lenN _ = _ ∧ _)) (fun hlo => ?_)
    refine zbw 6 [4, 3, 2, 1, 0, 5] rfl rfl (by decide) ?_
    refine zcz 2 rfl ?_
    exact zgz (rs := [.tmp 6]) (vs := [.slice (some ⟨g17, 0, none⟩) 0 0]) rfl ⟨rfl, trivial⟩ rfl (fun w hm => ⟨_, bigE [curE g a len cap, rowE 3 1 (.slice (some ⟨g17, 0, none⟩) 0 0) 0 ([])], rfl, ⟨[], rfl, hlo, .inr ⟨hpl.short hdv (by omega) (by rw [hzl]; exact zpp (s := xhR11) (fun q hq => hat7.2 q (by omega))), rfl⟩⟩, hm.sub (.cons_cons _ (.cons _ (.cons _ (.cons _ (.cons _ (.refl _))))))⟩)
   refine ntQ (zal rfl (zcq (srQ ?_)))
   have hat8 := hat.resolve_left (fun h9 => by omega)
   obtain ⟨ha0, ha1, ha2⟩ := hat8
   have har9 := (zfs hdv).1 ha1
   have hpl9 := hpl.app hdv (by omega) (by rw [hzl]; exact ha1) ha2
   have hup9 := hup.app (y := { us.getD at_.toNat bl0 with b := true }) ha0 rfl
   refine zap 2 rfl (hvQ rfl (riQ 1 rfl rfl rfl rfl (zae 1 rfl)) ?_)
   refine zda (i := 1) (n' := (us.set ((at_).toNat) { us.getD ((at_).toNat) bl0 with b := true }).length) rfl rfl rfl rfl rfl rfl rfl rfl (by first | omega | (simp only [List.length_set]; omega)) List.length_set.symm (zdl blC (fun r => .bool r.b) (fun _ => rfl) _ ({ us.getD ((at_).toNat) bl0 with b := true }) rfl) rfl (ntQ (reQ 2 rfl ?_))
   refine zdk rfl (zat (z := .int .i64 0) (s := 1) (cs := ([at_].map (Value.int .i64))) rfl Try.underlying28 rfl (by decide) rfl (by kernel_rfl) rfl) ?_
   intro g18
   refine zcd (i := 3) (z := .int .i64 0) (bytes := 8) rfl rfl rfl rfl Try.underlying28 (by kernel_rfl) rfl rfl rfl rfl (zae 0 rfl) (zbm _) (by first | omega | (simp; done) | (simp; omega)) (zbv U.2 ([at_])) (zcm U.2 ([at_])) (fun _ => rfl) ?_
   intro v19
   refine enQ 1 rfl (zcv (reQ 1 rfl (hvQ rfl (vaQ rfl rfl rfl) (enQ 1 rfl ?_))))
   exact zbi (b + 1) (v19, U.2 ++ ([at_])) (us.set ((at_).toNat) { us.getD ((at_).toNat) bl0 with b := true }) ⟨by omega, by show List.length (_ ++ [_]) = b + 1; rw [List.length_append, List.length_singleton]; omega, hpl9, by rw [List.length_set]; exact hul, hup9⟩ (by omega) (saQ rfl) (.cons _ (.cons _ (.refl _)))
  refine zaz 4 rfl (zal rfl ?_)
  refine zba (zdq ?_)
  refine zag (zaw (zac (zac (reQ 1 rfl ?_))))
  refine zbj rfl rfl rfl rfl rfl rfl (fun h20 => ?_) (fun h20 => ?_)
  ·
   refine ntQ (zak rfl (srQ ?_))
   refine zdk rfl (zbz (s := 1) rfl Try.underlying28 rfl) ?_
   intro g21
   refine zaz 1 rfl ?_
   refine zau (zai ?_)
   refine zan (zge ?_)
   refine zan (zai ?_)
   have hat7 := hat.resolve_right (fun h9 => by omega)
   refine zed (fun w hm => (⟨zht (zae 0 rfl w hm), (zae 0 rfl w hm).one⟩ : lenN _ = _ ∧ _)) (fun hlo => ?_)
   refine zbw 6 [4, 3, 2, 1, 0, 5] rfl rfl (by decide) ?_
   refine zcz 2 rfl ?_
   exact zgz (rs := [.tmp 6]) (vs := [.slice (some ⟨g21, 0, none⟩) 0 0]) rfl ⟨rfl, trivial⟩ rfl (fun w hm => ⟨_, bigE [curE g a len cap, rowE 3 1 (.slice (some ⟨g21, 0, none⟩) 0 0) 0 ([])], rfl, ⟨[], rfl, hlo, .inr ⟨hpl.short hdv (by omega) (by rw [hzl]; exact zpp (s := xhR11) (fun q hq => hat7.2 q (by omega))), rfl⟩⟩, hm.sub (.cons_cons _ (.cons _ (.cons _ (.cons _ (.cons _ (.refl _))))))⟩)
  refine ntQ (zal rfl (zcq (srQ ?_)))
  have hat8 := hat.resolve_left (fun h9 => by omega)
  obtain ⟨ha0, ha1, ha2⟩ := hat8
  have har9 := (zfs hdv).1 ha1
  have hpl9 := hpl.app hdv (by omega) (by rw [hzl]; exact ha1) ha2
  have hup9 := hup.app (y := { us.getD at_.toNat bl0 with b := true }) ha0 rfl
  refine zap 2 rfl (hvQ rfl (riQ 1 rfl rfl rfl rfl (zae 1 rfl)) ?_)
  refine zda (i := 1) (n' := (us.set ((at_).toNat) { us.getD ((at_).toNat) bl0 with b := true }).length) rfl rfl rfl rfl rfl rfl rfl rfl (by first | omega | (simp only [List.length_set]; omega)) List.length_set.symm (zdl blC (fun r => .bool r.b) (fun _ => rfl) _ ({ us.getD ((at_).toNat) bl0 with b := true }) rfl) rfl (ntQ (reQ 2 rfl ?_))
  refine zdk rfl (zat (z := .int .i64 0) (s := 1) (cs := ([at_].map (Value.int .i64))) rfl Try.underlying28 rfl (by decide) rfl (by kernel_rfl) rfl) ?_
  intro g22
  refine zcd (i := 3) (z := .int .i64 0) (bytes := 8) rfl rfl rfl rfl Try.underlying28 (by kernel_rfl) rfl rfl rfl rfl (zae 0 rfl) (zbm _) (by first | omega | (simp; done) | (simp; omega)) (zbv U.2 ([at_])) (zcm U.2 ([at_])) (fun _ => rfl) ?_
  intro v23
  refine enQ 1 rfl (zcv (reQ 1 rfl (hvQ rfl (vaQ rfl rfl rfl) (enQ 1 rfl ?_))))
  exact zbi (b + 1) (v23, U.2 ++ ([at_])) (us.set ((at_).toNat) { us.getD ((at_).toNat) bl0 with b := true }) ⟨by omega, by show List.length (_ ++ [_]) = b + 1; rw [List.length_append, List.length_singleton]; omega, hpl9, by rw [List.length_set]; exact hul, hup9⟩ (by omega) (saQ rfl) (.cons _ (.cons _ (.refl _)))
 refine ntQ (zal rfl ?_)
 refine zba (zdq ?_)
 refine zag (zaw (zbd 2 rfl ?_))
 refine zau (zed (fun w hm => (⟨zht (zae 1 rfl w hm), (zae 1 rfl w hm).one⟩ : lenN _ = _ ∧ _)) (fun hlo => ?_))
 refine zbw 4 [2, 0, 1, 3] rfl rfl (by decide) ?_
 refine zcz 2 rfl ?_
 exact zgz (rs := [.tmp 6]) (vs := [U.1]) rfl ⟨rfl, trivial⟩ rfl (fun w hm => ⟨_, bigE [curE g a len cap, rowE 3 1 U.1 U.2.length (U.2.map (Value.int .i64))], rfl, ⟨_, rfl, hlo, .inl ⟨hpl.fits hdv (by omega), by omega, hpl⟩⟩, hm.sub (.cons_cons _ (.cons _ (.cons _ (.refl _))))⟩)
theorem zlo {n : Ln} (hok : LnOk n) {b : Bk} (h : BlP n b) : (pinN n b).length ≤ 5 := by
  unfold pinN
  rw [if_neg (not_not_intro h.1)]
  split
  · exact Nat.zero_le _
  · split
    · exact Nat.le_trans (Nat.le_refl 1) (by decide)
    · split
      · rename_i h0 h1 h2
        have := (hok.sq b.it.toNat (by have := h.rng.2.2.1 h2; omega)).1.len
        omega
      · rename_i h0 h1 h2
        have : b.kd = 3 := by rcases h.1 with ⟨p, -⟩ | ⟨p, -⟩ | ⟨p, -⟩ | ⟨p, -⟩ <;> first | exact p | exact absurd p (by assumption)
        exact (h.2.1 this).2.2
theorem zjv {n : Ln} {b : Bk} (h : BlP n b) : (outNd n b).length ≤ 2 := by
  unfold outNd
  rw [if_neg (not_not_intro h.1)]
  split
  · exact Nat.le_trans (Nat.le_refl 1) (by decide)
  · split
    · exact Nat.zero_le _
    · split
      · exact Nat.le_trans (Nat.le_refl 1) (by decide)
      · rw [zhd]; exact h.rng.2.2.2.1
structure Pn where
  b : Int
  p : Int
abbrev pn0 : Pn := ⟨0, 0⟩
def pnC (k : Pn) : List Value := [.int .i64 k.b, .int .i64 k.p]
structure Cn where
  nd : Int
  sb : Int
  sp : Int
  kv : Value
  ks : List Pn
abbrev cn0 : Cn := ⟨0, 0, 0, .slice none 0 0, []⟩
def cnC (c : Cn) : List Value := [.int .i64 c.nd, .int .i64 c.sb, .int .i64 c.sp, c.kv]
def KsR (w : World) (cs : List Cn) : Prop := ∀ c ∈ cs, RdsW w c.kv 2 c.ks.length (c.ks.flatMap pnC)
structure RdsCn (w : World) (v : Value) (cs : List Cn) : Prop where
  row : RdsW w v 4 cs.length (cs.flatMap cnC)
  ks : KsR w cs
theorem RdsCn.at {w : World} {v : Value} {cs : List Cn} (h : RdsCn w v cs) {k : Nat} (hk : k < cs.length) : RdsW w (cs.getD k cn0).kv 2 (cs.getD k cn0).ks.length ((cs.getD k cn0).ks.flatMap pnC) := h.ks _ (zbl hk)
def PnIn (B : Nat) (ks : List Pn) : Prop := ∀ k ∈ ks, (0 ≤ k.b ∧ k.b < (B : Int)) ∧ 0 ≤ k.p ∧ k.p ≤ 4
def CnIn (B : Nat) (cs : List Cn) : Prop := ∀ c ∈ cs, ((0 ≤ c.sb ∧ c.sb < (B : Int)) ∧ 0 ≤ c.sp ∧ c.sp ≤ 4) ∧ (1 ≤ c.ks.length ∧ c.ks.length ≤ 5 * B) ∧ PnIn B c.ks
def CnM (M : Nat) (cs : List Cn) : Prop := ∀ c ∈ cs, c.ks.length ≤ M
theorem CnM.nil (M : Nat) : CnM M [] := fun k hk => by cases hk
theorem CnM.app {M : Nat} {cs : List Cn} (h : CnM M cs) {c : Cn} (h1 : c.ks.length ≤ M) : CnM M (cs ++ [c]) := fun x hx => by
  rcases List.mem_append.1 hx with hx | hx
  · exact h x hx
  · rw [List.mem_singleton] at hx; subst hx; exact h1
theorem KsR.nil (w : World) : KsR w [] := fun c hc => by cases hc
theorem KsR.app {w : World} {cs : List Cn} (h : KsR w cs) {c : Cn} (hc : RdsW w c.kv 2 c.ks.length (c.ks.flatMap pnC)) : KsR w (cs ++ [c]) := fun x hx => by
  rcases List.mem_append.1 hx with hx | hx
  · exact h x hx
  · rw [List.mem_singleton] at hx; subst hx; exact hc
theorem ztk {a b c : Int} (h1 : b ≤ a) (h2 : a ≤ c) (w : World) : Calls Try.prog 86 #[.int .i64 a, .int .i64 b, .int .i64 c] w (Ans w (.bool true)) := by
  rw [← zuz h1 h2]; exact zgb (zgi _ _ _ w)
structure Tab where
  N : Int
  B : Int
def pn (n : Int) : Nat := 2 ^ n.toNat
def qn (n : Int) : Int := 2 ^ (2 ^ n.toNat)
theorem five {n : Int} (h : 0 ≤ n ∧ n ≤ 4) : n = 0 ∨ n = 1 ∨ n = 2 ∨ n = 3 ∨ n = 4 := by omega
theorem zsu {n : Int} (h : 0 ≤ n ∧ n ≤ 4) : 1 ≤ pn n ∧ pn n ≤ 16 := by
  rcases five h with rfl | rfl | rfl | rfl | rfl <;> decide
theorem zst {n : Int} (h : 0 ≤ n ∧ n ≤ 4) : 2 ≤ qn n ∧ qn n ≤ 65536 := by
  rcases five h with rfl | rfl | rfl | rfl | rfl <;> decide
theorem wr1 {n : Int} (h : 0 ≤ n ∧ n ≤ 4) : IntKind.i64.wrap (1 * 2 ^ n.toNat) = (pn n : Int) := by
  rcases five h with rfl | rfl | rfl | rfl | rfl <;> exact IntWalk.i64_in _ (by decide)
theorem wru {n : Int} (h : 0 ≤ n ∧ n ≤ 4) : IntKind.u64.wrap (1 * 2 ^ n.toNat) = (pn n : Int) := by
  rcases five h with rfl | rfl | rfl | rfl | rfl <;> exact IntWalk.u64_in _ (by decide)
theorem wr2 {n : Int} (h : 0 ≤ n ∧ n ≤ 4) : IntKind.i64.wrap (1 * 2 ^ ((pn n : Int)).toNat) = qn n := by
  rcases five h with rfl | rfl | rfl | rfl | rfl <;> exact IntWalk.i64_in _ (by decide)
def TabOk (t : Tab) : Prop := (0 ≤ t.N ∧ t.N ≤ 4) ∧ 0 ≤ t.B ∧ t.B ≤ qn t.N - 1
theorem andB {x : Int} (k : Nat) (h : 0 ≤ x ∧ x ≤ 65535) : bits .and .i64 (x / 2 ^ k) 1 = x / 2 ^ k % 2 := by
  have h1 : (0 : Int) ≤ x / 2 ^ k := Int.ediv_nonneg h.1 (Int.le_of_lt (Int.pow_pos (by decide)))
  have h2 : x / 2 ^ k ≤ x := Int.ediv_le_self _ h.1
  exact Bit.and_one _ h1 (by omega)
open Go.RowKit
theorem zkc (n : Int) (w : World) (hn : 0 ≤ n ∧ n ≤ 4) :
   Calls Try.prog 124 #[.int .i64 n] w (Ans w (.int .i64 (qn n - 1))) := by
 have hp := zsu hn
 have hq := zst hn
 refine zbf (N := 7) (args := [.int .i64 n]) Try.func124 rfl rfl (zac (zay (zap 1 rfl (zbu (zaw (zac (zay (zap 1 rfl (hvQ rfl (zgv (k := .u64) (kk := .i64) (r := (pn n : Int)) rfl rfl rfl rfl (by omega) (wru hn)) (hvQ rfl (zgv (k := .i64) (kk := .u64) (r := qn n) rfl rfl rfl rfl (by omega) (wr2 hn)) (hvQ rfl (vsQ rfl rfl rfl) (zap 1 rfl ?_))))))))))))
 refine ntQ ?_
 exact zau (zbb rfl rfl rfl)
theorem zjn (t : Tab) (w : World) (ht : TabOk t) :
   Calls Try.prog 110 #[.agg #[.int .i64 t.N, .int .i64 t.B]] w (Ans w (.bool true)) := by
 obtain ⟨hn, hB0, hB1⟩ := ht
 have hp := zsu hn
 have hq := zst hn
 refine zbf (N := 19) (args := [.agg #[.int .i64 t.N, .int .i64 t.B]]) Try.func110 rfl rfl (srQ ?_)
 refine zdj rfl (zch rfl rfl) ?_
 intro b1
 refine zaz 1 rfl (zac ?_)
 have hb2 : (decide (0 ≤ t.B)) = true := decide_eq_true (by omega)
 have hb3 : (decide (t.B ≤ qn t.N - 1)) = true := decide_eq_true (by omega)
 refine zby 16 [[], [0], [1], [2], [3], [3, 4], [3, 5], [3, 6], [7], [8], [8, 9], [8], [8, 11], [8, 12], [8, 10, 13], [8, 14]] [3, 4, 5, 6, 7, 8, 9, 10, 11, 12, 13, 14, 15, 16, 17, 18] [.pointer (some ⟨b1, 0 + 0, none⟩), .int .i64 t.N, .bool true, .bool true, .pointer (some ⟨b1, 0 + 1, none⟩), .int .i64 t.B, .bool true, .bool true, .bool true, .pointer (some ⟨b1, 0 + 1, none⟩), .int .i64 t.B, .pointer (some ⟨b1, 0 + 0, none⟩), .int .i64 t.N, .int .i64 (qn t.N - 1), .bool true, .bool true] (by kernel_rfl) rfl ?_ ?_
 ·
  exact ⟨iaQ rfl (fdQ 0 rfl rfl rfl) rfl, iaQ rfl (zad rfl rfl rfl (zaa 0 rfl rfl)) rfl, .inl ⟨rfl, zaq rfl rfl (fun w hm => zav (ztk (by omega) (by omega) w))⟩, iaQ rfl (zas rfl) rfl, iaQ rfl (fdQ 1 rfl rfl rfl) rfl, iaQ rfl (zad rfl rfl rfl (zaa 0 rfl rfl)) rfl, .inl ⟨rfl, zek (zde rfl rfl rfl rfl) hb2⟩, iaQ rfl (zas rfl) rfl, iaQ rfl (zas rfl) rfl, iaQ rfl (fdQ 1 rfl rfl rfl) rfl, iaQ rfl (zad rfl rfl rfl (zaa 0 rfl rfl)) rfl, iaQ rfl (fdQ 0 rfl rfl rfl) rfl, iaQ rfl (zad rfl rfl rfl (zaa 0 rfl rfl)) rfl, .inl ⟨rfl, zaq rfl rfl (fun w hm => zav (zkc _ w hn))⟩, .inl ⟨rfl, zek (zde rfl rfl rfl rfl) hb3⟩, iaQ rfl (zas rfl) rfl, trivial⟩
 simp only [List.drop_succ_cons, List.drop_zero]
 refine zaz 1 rfl ?_
 exact zau (zbb rfl rfl rfl)
open Go.RowKit
open Go.RowKit
theorem znv (n x : Int) (w : World) (hn : 0 ≤ n ∧ n ≤ 4) (ha : 0 ≤ x ∧ x ≤ qn n - 1) :
   Calls Try.prog 102 #[.agg #[.int .i64 n, .int .i64 x]] w (Ret w (fun v' post => post = [] ∧ ∃ t : Tab, TabOk t ∧ t.N = n ∧ v' = .agg #[.int .i64 t.N, .int .i64 t.B])) := by
 have hq := zst hn
 refine zbf (N := 16) (args := [.agg #[.int .i64 n, .int .i64 x]]) Try.func102 rfl rfl (srQ ?_)
 refine zdj rfl (zch rfl rfl) ?_
 intro b1
 refine zdj rfl (zbx (z := .agg #[.int .i64 0, .int .i64 0]) rfl rfl) ?_
 intro b2
 refine ntQ (zeh (hvQ rfl (zao (cs := [.int .i64 n, .int .i64 x]) rfl rfl rfl rfl rfl (zaj 1 rfl 0 rfl)) ?_))
 refine zds rfl (zaq rfl rfl (fun w hm => zav (zjn ⟨n, x⟩ w ⟨(by show 0 ≤ n ∧ n ≤ 4; omega), (by show 0 ≤ x ∧ x ≤ qn (n) - 1; omega)⟩))) (zaz 1 rfl (zal rfl (zcq (zac ?_))))
 refine zby 9 [[], [0], [], [2], [3], [], [5], [4, 6], [1, 7]] [7, 8, 9, 10, 11, 12, 13, 14, 15] [.pointer (some ⟨b1, 0 + 0, none⟩), .int .i64 n, .pointer (some ⟨b1, 0 + 0, none⟩), .int .i64 n, .int .i64 (qn n - 1), .pointer (some ⟨b1, 0 + 1, none⟩), .int .i64 x, .int .i64 ((qn n - 1) - x), .agg #[.int .i64 n, .int .i64 ((qn n - 1) - x)]] (by kernel_rfl) rfl ?_ ?_
 ·
  exact ⟨iaQ rfl (fdQ 0 rfl rfl rfl) rfl, iaQ rfl (zad rfl rfl rfl (zaa 1 rfl rfl)) rfl, iaQ rfl (fdQ 0 rfl rfl rfl) rfl, iaQ rfl (zad rfl rfl rfl (zaa 1 rfl rfl)) rfl, .inl ⟨rfl, zaq rfl rfl (fun w hm => zav (zkc _ w (by omega)))⟩, iaQ rfl (fdQ 1 rfl rfl rfl) rfl, iaQ rfl (zad rfl rfl rfl (zaa 1 rfl rfl)) rfl, iaQ rfl (vsQ rfl rfl rfl) rfl, iaQ rfl (zcw (cs := #[.int .i64 n, .int .i64 ((qn n - 1) - x)]) rfl rfl rfl) rfl, trivial⟩
 simp only [List.drop_succ_cons, List.drop_zero]
 refine zcc (cs' := #[.int .i64 n, .int .i64 ((qn n - 1) - x)]) (i := 0) (off := 0) (us := [.int .i64 n, .int .i64 ((qn n - 1) - x)]) rfl rfl rfl rfl rfl rfl rfl (zah rfl (zah rfl zbr)) rfl rfl rfl (ntQ ?_)
 exact zau (zdm (rs := [.cell 2 110]) (vs := [.agg #[.int .i64 n, .int .i64 ((qn n - 1) - x)]]) (post := []) rfl ⟨⟨b2, 0, [.int .i64 n, .int .i64 ((qn n - 1) - x)], rfl, rfl, by kernel_rfl, by kernel_rfl, zaj 0 rfl 0 rfl⟩, trivial⟩ rfl (slQ [] rfl) ⟨rfl, ⟨n, (qn n - 1) - x⟩, ⟨hn, by constructor <;> dsimp only <;> omega⟩, rfl, rfl⟩)
def opn (n : Nt) (cut : List Int) : Nat → List Bl → Bool
  | 0, _ => true
  | k + 1, bs => if (bs.getD (k + 1) bl0).b = false ∨ hasB cut ((k + 1 : Nat) : Int) = true then opn n cut k bs
    else if ((k + 1 : Nat) : Int) < n.fst then false
    else opn n cut k ((bs.set ((n.gs.getD (((k + 1 : Nat) : Int) - n.fst).toNat an0).a / 2).toNat ⟨true⟩).set ((n.gs.getD (((k + 1 : Nat) : Int) - n.fst).toNat an0).b / 2).toNat ⟨true⟩)
theorem zqc {n : Nt} {cut : List Int} {k : Nat} {bs : List Bl} (hk : 0 < k) (h : (bs.getD k bl0).b = false ∨ hasB cut (k : Int) = true) : opn n cut k bs = opn n cut (k - 1) bs := by
  obtain ⟨j, rfl⟩ : ∃ j, k = j + 1 := ⟨k - 1, by omega⟩
  rw [opn, if_pos h]; rfl
theorem opn_no {n : Nt} {cut : List Int} {k : Nat} {bs : List Bl} (hk : 0 < k) (h1 : (bs.getD k bl0).b = true) (h2 : hasB cut (k : Int) = false) (h3 : (k : Int) < n.fst) : opn n cut k bs = false := by
  obtain ⟨j, rfl⟩ : ∃ j, k = j + 1 := ⟨k - 1, by omega⟩
  rw [opn, if_neg (by rw [h1, h2]; decide), if_pos h3]
theorem zus {n : Nt} {cut : List Int} {k : Nat} {bs : List Bl} (hk : 0 < k) (h1 : (bs.getD k bl0).b = true) (h2 : hasB cut (k : Int) = false) (h3 : n.fst ≤ (k : Int)) :
    opn n cut k bs = opn n cut (k - 1) ((bs.set ((n.gs.getD ((k : Int) - n.fst).toNat an0).a / 2).toNat ⟨true⟩).set ((n.gs.getD ((k : Int) - n.fst).toNat an0).b / 2).toNat ⟨true⟩) := by
  obtain ⟨j, rfl⟩ : ∃ j, k = j + 1 := ⟨k - 1, by omega⟩
  rw [opn, if_neg (by rw [h1, h2]; decide), if_neg (by omega)]; rfl
abbrev opn0 (n : Nt) (node : Int) : List Bl := (List.replicate n.cnt.toNat bl0).set node.toNat ⟨true⟩
def ElP (n : Nt) (node : Int) (cut : List Int) (i : Nat) : Prop := hasB (coneS n node) (cut.getD i 0) = true ∧ (0 < i → cut.getD (i - 1) 0 < cut.getD i 0)
structure CutP (n : Nt) (node : Int) (cut : List Int) : Prop where
  len : cut.length ≤ 4
  el : ∀ i, i < cut.length → ElP n node cut i
  op : opn n cut node.toNat (opn0 n node) = true
theorem zws {n : Nt} {node : Int} {cut : List Int} {i : Nat} (h : hasB (coneS n node) (cut.getD i 0) = false ∨ (0 < i ∧ cut.getD i 0 ≤ cut.getD ((i : Int) - 1).toNat 0)) : ¬ ElP n node cut i := fun he => by
  rcases h with h | ⟨h0, h⟩
  · rw [he.1] at h; cases h
  · have := he.2 h0
    rw [show ((i : Int) - 1).toNat = i - 1 by omega] at h
    omega
theorem ztw {n : Nt} {node : Int} {cut : List Int} {i : Nat} (h : hasB (coneS n node) (cut.getD i 0) = true) (h1 : (i : Int) ≤ 0 ∨ cut.getD ((i : Int) - 1).toNat 0 < cut.getD i 0) : ElP n node cut i := ⟨h, fun h0 => by
  rcases h1 with h1 | h1
  · omega
  · rwa [show ((i : Int) - 1).toNat = i - 1 by omega] at h1⟩
theorem CutP.rng {n : Nt} (hn : NtOk n) {node : Int} (h0 : 0 ≤ node) {cut : List Int} (h : CutP n node cut) {i : Nat} (hi : i < cut.length) : 0 ≤ cut.getD i 0 ∧ cut.getD i 0 ≤ node := znr hn h0 _ (zki.1 (h.el i hi).1)
structure MapP (n : Nt) (rs : List CRow) : Prop where
  len : rs.length = n.gs.length
  cut : ∀ i, i < rs.length → CutP n (n.fst + (i : Int)) (rs.getD i crow0).xs ∧ hasB (rs.getD i crow0).xs (n.fst + (i : Int)) = false
theorem MapP.below {n : Nt} (hn : NtOk n) {rs : List CRow} (h : MapP n rs) {i : Nat} (hi : i < rs.length) {k : Nat} (hk : k < (rs.getD i crow0).xs.length) : 0 ≤ (rs.getD i crow0).xs.getD k 0 ∧ (rs.getD i crow0).xs.getD k 0 < n.fst + (i : Int) := by
  have hc := h.cut i hi
  have hf : 0 ≤ n.fst := by have := hn.i0; unfold Nt.fst; omega
  have h1 := hc.1.rng hn (by omega) hk
  have hne : (rs.getD i crow0).xs.getD k 0 ≠ n.fst + (i : Int) := fun e => by
    have := zqq hk e
    rw [hc.2] at this; cases this
  omega
theorem zuf {v : List Int} (h : B01 v) {k : Nat} {x : Int} (hx : x = 0 ∨ x = 1) : B01 (v.set k x) := fun j hj => by
  rw [List.length_set] at hj
  by_cases e : k = j
  · subst e; rw [zeb hj]; exact hx
  · rw [List.getD_eq_getElem?_getD, List.getElem?_set_ne e, ← List.getD_eq_getElem?_getD]; exact h j hj
theorem b01_rep (n : Nat) : B01 (List.replicate n 0) := fun k hk => by rw [List.length_replicate] at hk; rw [zig hk]; exact .inl rfl
theorem pow16 {k : Nat} (h : k ≤ 16) : (0 : Int) < 2 ^ k ∧ (2 : Int) ^ k ≤ 65536 := by
  have h1 : (2 : Nat) ^ k ≤ 2 ^ 16 := Nat.pow_le_pow_right (by decide) h
  have h2 : ((2 ^ k : Nat) : Int) = (2 : Int) ^ k := by push_cast; rfl
  have h3 : 0 < (2 : Nat) ^ k := Nat.pow_pos (by decide)
  have h4 : (2 : Nat) ^ 16 = 65536 := by decide
  rw [← h2]; omega
theorem zum {b : Int} {k : Nat} (hb : b = 0 ∨ b = 1) (hk : k ≤ 16) : IntKind.i64.wrap (b * 2 ^ ((k : Int)).toNat) = b * 2 ^ k := by
  have hp := pow16 hk
  rw [Int.toNat_natCast]
  exact IntWalk.i64_in _ (by rcases hb with e | e <;> rw [e] <;> omega)
theorem znt {b x : Int} {i : Nat} (hb : 0 ≤ b ∧ b < 2 ^ i) (hx : x = 0 ∨ x = 1) : 0 ≤ b + x * 2 ^ i ∧ b + x * 2 ^ i < 2 ^ (i + 1) := by
  have hp : (0 : Int) < 2 ^ i := Int.pow_pos (by decide)
  rw [Int.pow_succ]
  rcases hx with e | e <;> rw [e] <;> omega
theorem zvn {m b : Int} (hm : 0 ≤ m ∧ m ≤ 4) {i : Nat} (hi : i = pn m) (hb : 0 ≤ b ∧ b < 2 ^ i) : TabOk (Tab.mk m b) := by
  subst hi
  refine ⟨hm, hb.1, ?_⟩
  show b ≤ 2 ^ (2 ^ m.toNat) - 1
  have := hb.2
  unfold pn at this
  omega
theorem zhk (n : Nt) (node : Int) (cut : List Int) (cv : Value) (w : World) (hr : RdsNt w n) (hn : NtOk n) (hcr : RdsW w cv 1 cut.length (cut.map (Value.int .i64))) (hnd : 0 ≤ node ∧ node < n.cnt) (hcl9 : cut.length ≤ 100000) :
   Calls Try.prog 122 #[.agg #[.int .i64 n.ins, n.sv, n.av, n.ov], .int .i64 node, cv] w (Ans w (.bool (pBe (CutP n node cut)))) := by
 have hi0 := hn.i0
 have hi1 := hn.i1
 have hs1 := hn.s1
 have ha1 := hn.a1
 have ho1 := hn.o1
 have hcnt : n.cnt = 1 + n.ins + n.ss.length + n.gs.length := rfl
 have hfst : n.fst = 1 + n.ins + n.ss.length := rfl
 refine zbf (N := 105) (args := [.agg #[.int .i64 n.ins, n.sv, n.av, n.ov], .int .i64 node, cv]) Try.func122 rfl rfl (srQ ?_)
 refine zdj rfl (zch rfl rfl) ?_
 intro b1
 refine zaz 1 rfl (zeh (hvQ rfl (zao (cs := [.int .i64 n.ins, n.sv, n.av, n.ov]) rfl rfl rfl rfl rfl (zaj 0 rfl 0 rfl)) ?_))
 refine zds rfl (zaq rfl rfl (fun w hm => zav (zdz n w (hr.below hm.bel) hn))) (zap 3 rfl ?_)
 refine zbj rfl rfl rfl rfl rfl rfl (fun h2 => absurd h2 (by omega)) (fun h2 => ?_)
 refine zap 3 rfl (hvQ rfl (zao (cs := [.int .i64 n.ins, n.sv, n.av, n.ov]) rfl rfl rfl rfl rfl (zaj 0 rfl 0 rfl)) ?_)
 refine zds rfl (zaq rfl rfl (fun w hm => zav (zcb n w (hr.below hm.bel) hn))) (zdi rfl rfl rfl rfl rfl rfl (fun h3 => absurd h3 (by omega)) (fun h3 => ?_))
 refine zap 3 rfl (hvQ rfl (lnQ rfl rfl rfl (zab hcr)) ?_)
 refine zet rfl rfl rfl rfl rfl rfl (fun h4 => ?_) (fun h4 => ?_)
 ·
  refine zaz 1 rfl (zak rfl (zbd 1 rfl ?_))
  refine zau (zai ?_)
  exact zbb rfl rfl (congrArg Value.bool (zju (p := CutP n node cut) (fun h => by have h9 := h.len; omega)).symm)
 refine zaz 1 rfl (zal rfl (zcq (srQ (hvQ rfl (zao (cs := [.int .i64 n.ins, n.sv, n.av, n.ov]) rfl rfl rfl rfl rfl (zaj 0 rfl 0 rfl)) (zap 1 rfl ?_)))))
 refine zfg rfl rfl rfl (zaq rfl rfl (fun w hm => zrk n node w (hr.below hm.bel) hn hnd)) ?_
 intro v5 p6 hR7
 subst hR7
 have hcl := zns n node (by omega)
 refine zaz 1 rfl (zac (zbd 1 rfl (zax ?_)))
 refine zqp (α := Nat) (fun j => [rowE 3 1 v5 ((coneS n node).length) ((coneS n node).map (Value.int .i64)), boxE b1 #[.int .i64 n.ins, n.sv, n.av, n.ov] 86]) (fun j => [(0, .agg #[.int .i64 n.ins, n.sv, n.av, n.ov]), (1, .int .i64 node), (2, cv), (3, .pointer (some ⟨b1, 0, none⟩)), (6, .bool false), (7, v5), (8, .int .i64 (j : Int)), (29, .bool false)]) (fun j => j ≤ cut.length ∧ ∀ i, i < j → ElP n node cut i) (fun j => cut.length - j) 0 ⟨Nat.zero_le _, fun i hi => absurd hi (by omega)⟩ (saQ rfl) (pfQ rfl) ?_
 intro j hi8
 obtain ⟨hj, hel⟩ := hi8
 refine zac (zac (reQ 2 rfl (hvQ rfl (lnQ rfl rfl rfl (zab hcr)) ?_)))
 refine zbj rfl rfl rfl rfl rfl rfl (fun h9 => ?_) (fun h9 => ?_)
 ·
  refine ntQ (zak rfl (zcq (sbQ (zac ?_))))
  rcases Bool.eq_false_or_eq_true (hasB (coneS n node) (cut.getD j 0)) with hb10 | hb10
  ·
   rcases Bool.eq_false_or_eq_true (decide (0 < (j : Int))) with hb11 | hb11
   ·
    have hb11p : 0 < (j : Int) := of_decide_eq_true hb11
    rcases Bool.eq_false_or_eq_true (decide (cut.getD j 0 ≤ cut.getD (((j : Int) - 1).toNat) 0)) with hb12 | hb12
    ·
     have hb12p : cut.getD j 0 ≤ cut.getD (((j : Int) - 1).toNat) 0 := of_decide_eq_true hb12
     refine zby 23 [[], [], [], [1, 2], [3], [0, 4], [5], [6], [7], [7, 8], [7, 9], [10], [10], [10, 11, 12], [10, 13], [10], [10], [10, 16], [10, 15, 17], [10, 18], [10, 14, 19], [7, 10, 20], [7, 21]] [39, 40, 41, 42, 43, 44, 45, 46, 47, 48, 49, 50, 51, 52, 53, 54, 55, 56, 57, 58, 59, 60, 61] [v5, cv, .int .i64 (j : Int), elP cv (((j : Int)).toNat * 1), .int .i64 (cut.getD j 0), .bool true, .bool false, .bool false, .int .i64 (j : Int), .bool true, .bool true, cv, .int .i64 (j : Int), elP cv (((j : Int)).toNat * 1), .int .i64 (cut.getD j 0), cv, .int .i64 (j : Int), .int .i64 ((j : Int) - 1), elP cv (((j : Int) - 1).toNat * 1), .int .i64 (cut.getD (((j : Int) - 1).toNat) 0), .bool true, .bool true, .bool true] (by kernel_rfl) rfl ?_ ?_
     ·
      exact ⟨iaQ rfl (zas rfl) rfl, iaQ rfl (zas rfl) rfl, iaQ rfl (zas rfl) rfl, iaQ rfl (riQ 1 rfl rfl rfl rfl (zab hcr)) rfl, iaQ rfl (liQ rfl rfl rfl (zab hcr)) rfl, .inl ⟨rfl, zfr (zaq rfl rfl (fun w hm => zav (zdx (coneS n node) (cut.getD j 0) _ w ((zae 0 rfl) w hm) (by omega)))) hb10⟩, iaQ rfl (zas rfl) rfl, iaQ rfl (zas rfl) rfl, iaQ rfl (zas rfl) rfl, .inl ⟨rfl, zek (zde rfl rfl rfl rfl) hb11⟩, iaQ rfl (zas rfl) rfl, iaQ rfl (zas rfl) rfl, iaQ rfl (zas rfl) rfl, iaQ rfl (riQ 1 rfl rfl rfl rfl (zab hcr)) rfl, iaQ rfl (liQ rfl rfl rfl (zab hcr)) rfl, iaQ rfl (zas rfl) rfl, iaQ rfl (zas rfl) rfl, iaQ rfl (vsQ rfl rfl rfl) rfl, iaQ rfl (riQ 1 rfl rfl rfl rfl (zab hcr)) rfl, iaQ rfl (lzQ rfl rfl rfl (zab hcr)) rfl, .inl ⟨rfl, zek (zde rfl rfl rfl rfl) hb12⟩, iaQ rfl (zas rfl) rfl, iaQ rfl (zas rfl) rfl, trivial⟩
     simp only [List.drop_succ_cons, List.drop_zero]
     refine ntQ (zak rfl (zbd 1 rfl ?_))
     refine zau (zan ?_)
     refine zge ?_
     refine zan (zai ?_)
     exact zbb rfl rfl (congrArg Value.bool (zju (p := CutP n node cut) (fun h => zws (by first | exact .inl (by assumption) | exact .inr ⟨by omega, by omega⟩) (h.el j (by omega)))).symm)
    have hb12p : ¬ (cut.getD j 0 ≤ cut.getD (((j : Int) - 1).toNat) 0) := of_decide_eq_false hb12
    refine zby 23 [[], [], [], [1, 2], [3], [0, 4], [5], [6], [7], [7, 8], [7, 9], [10], [10], [10, 11, 12], [10, 13], [10], [10], [10, 16], [10, 15, 17], [10, 18], [10, 14, 19], [7, 10, 20], [7, 21]] [39, 40, 41, 42, 43, 44, 45, 46, 47, 48, 49, 50, 51, 52, 53, 54, 55, 56, 57, 58, 59, 60, 61] [v5, cv, .int .i64 (j : Int), elP cv (((j : Int)).toNat * 1), .int .i64 (cut.getD j 0), .bool true, .bool false, .bool false, .int .i64 (j : Int), .bool true, .bool true, cv, .int .i64 (j : Int), elP cv (((j : Int)).toNat * 1), .int .i64 (cut.getD j 0), cv, .int .i64 (j : Int), .int .i64 ((j : Int) - 1), elP cv (((j : Int) - 1).toNat * 1), .int .i64 (cut.getD (((j : Int) - 1).toNat) 0), .bool false, .bool false, .bool false] (by kernel_rfl) rfl ?_ ?_
    ·
     exact ⟨iaQ rfl (zas rfl) rfl, iaQ rfl (zas rfl) rfl, iaQ rfl (zas rfl) rfl, iaQ rfl (riQ 1 rfl rfl rfl rfl (zab hcr)) rfl, iaQ rfl (liQ rfl rfl rfl (zab hcr)) rfl, .inl ⟨rfl, zfr (zaq rfl rfl (fun w hm => zav (zdx (coneS n node) (cut.getD j 0) _ w ((zae 0 rfl) w hm) (by omega)))) hb10⟩, iaQ rfl (zas rfl) rfl, iaQ rfl (zas rfl) rfl, iaQ rfl (zas rfl) rfl, .inl ⟨rfl, zek (zde rfl rfl rfl rfl) hb11⟩, iaQ rfl (zas rfl) rfl, iaQ rfl (zas rfl) rfl, iaQ rfl (zas rfl) rfl, iaQ rfl (riQ 1 rfl rfl rfl rfl (zab hcr)) rfl, iaQ rfl (liQ rfl rfl rfl (zab hcr)) rfl, iaQ rfl (zas rfl) rfl, iaQ rfl (zas rfl) rfl, iaQ rfl (vsQ rfl rfl rfl) rfl, iaQ rfl (riQ 1 rfl rfl rfl rfl (zab hcr)) rfl, iaQ rfl (lzQ rfl rfl rfl (zab hcr)) rfl, .inl ⟨rfl, zek (zde rfl rfl rfl rfl) hb12⟩, iaQ rfl (zas rfl) rfl, iaQ rfl (zas rfl) rfl, trivial⟩
    simp only [List.drop_succ_cons, List.drop_zero]
    refine ntQ (fsQ rfl (zcv (reQ 1 rfl (hvQ rfl (vaQ rfl rfl rfl) (enQ 1 rfl ?_)))))
    exact zcr (j + 1) ⟨by omega, fun i hi => by by_cases e : i = j; (subst e; exact ztw (by assumption) (by first | exact .inl (by omega) | exact .inr (by omega))); exact hel i (by omega)⟩ (by omega) (saQ rfl) (pfQ rfl)
   have hb11p : ¬ (0 < (j : Int)) := of_decide_eq_false hb11
   refine zby 23 [[], [], [], [1, 2], [3], [0, 4], [5], [6], [7], [7, 8], [7, 9], [10], [10], [10], [10], [10], [10], [10], [10], [10], [10], [7, 10, 20], [7, 21]] [39, 40, 41, 42, 43, 44, 45, 46, 47, 48, 49, 50, 51, 52, 53, 54, 55, 56, 57, 58, 59, 60, 61] [v5, cv, .int .i64 (j : Int), elP cv (((j : Int)).toNat * 1), .int .i64 (cut.getD j 0), .bool true, .bool false, .bool false, .int .i64 (j : Int), .bool false, .bool false, undef, undef, undef, undef, undef, undef, undef, undef, undef, undef, .bool false, .bool false] (by kernel_rfl) rfl ?_ ?_
   ·
    exact ⟨iaQ rfl (zas rfl) rfl, iaQ rfl (zas rfl) rfl, iaQ rfl (zas rfl) rfl, iaQ rfl (riQ 1 rfl rfl rfl rfl (zab hcr)) rfl, iaQ rfl (liQ rfl rfl rfl (zab hcr)) rfl, .inl ⟨rfl, zfr (zaq rfl rfl (fun w hm => zav (zdx (coneS n node) (cut.getD j 0) _ w ((zae 0 rfl) w hm) (by omega)))) hb10⟩, iaQ rfl (zas rfl) rfl, iaQ rfl (zas rfl) rfl, iaQ rfl (zas rfl) rfl, .inl ⟨rfl, zek (zde rfl rfl rfl rfl) hb11⟩, iaQ rfl (zas rfl) rfl, .inr ⟨rfl, rfl⟩, .inr ⟨rfl, rfl⟩, .inr ⟨rfl, rfl⟩, .inr ⟨rfl, rfl⟩, .inr ⟨rfl, rfl⟩, .inr ⟨rfl, rfl⟩, .inr ⟨rfl, rfl⟩, .inr ⟨rfl, rfl⟩, .inr ⟨rfl, rfl⟩, .inr ⟨rfl, rfl⟩, iaQ rfl (zas rfl) rfl, iaQ rfl (zas rfl) rfl, trivial⟩
   simp only [List.drop_succ_cons, List.drop_zero]
   refine ntQ (fsQ rfl (zcv (reQ 1 rfl (hvQ rfl (vaQ rfl rfl rfl) (enQ 1 rfl ?_)))))
   exact zcr (j + 1) ⟨by omega, fun i hi => by by_cases e : i = j; (subst e; exact ztw (by assumption) (by first | exact .inl (by omega) | exact .inr (by omega))); exact hel i (by omega)⟩ (by omega) (saQ rfl) (pfQ rfl)
  refine zby 23 [[], [], [], [1, 2], [3], [0, 4], [5], [6], [7], [7], [7], [10], [10], [10], [10], [10], [10], [10], [10], [10], [10], [7], [7, 21]] [39, 40, 41, 42, 43, 44, 45, 46, 47, 48, 49, 50, 51, 52, 53, 54, 55, 56, 57, 58, 59, 60, 61] [v5, cv, .int .i64 (j : Int), elP cv (((j : Int)).toNat * 1), .int .i64 (cut.getD j 0), .bool false, .bool true, .bool true, undef, undef, undef, undef, undef, undef, undef, undef, undef, undef, undef, undef, undef, undef, .bool true] (by kernel_rfl) rfl ?_ ?_
  ·
   exact ⟨iaQ rfl (zas rfl) rfl, iaQ rfl (zas rfl) rfl, iaQ rfl (zas rfl) rfl, iaQ rfl (riQ 1 rfl rfl rfl rfl (zab hcr)) rfl, iaQ rfl (liQ rfl rfl rfl (zab hcr)) rfl, .inl ⟨rfl, zfr (zaq rfl rfl (fun w hm => zav (zdx (coneS n node) (cut.getD j 0) _ w ((zae 0 rfl) w hm) (by omega)))) hb10⟩, iaQ rfl (zas rfl) rfl, iaQ rfl (zas rfl) rfl, .inr ⟨rfl, rfl⟩, .inr ⟨rfl, rfl⟩, .inr ⟨rfl, rfl⟩, .inr ⟨rfl, rfl⟩, .inr ⟨rfl, rfl⟩, .inr ⟨rfl, rfl⟩, .inr ⟨rfl, rfl⟩, .inr ⟨rfl, rfl⟩, .inr ⟨rfl, rfl⟩, .inr ⟨rfl, rfl⟩, .inr ⟨rfl, rfl⟩, .inr ⟨rfl, rfl⟩, .inr ⟨rfl, rfl⟩, .inr ⟨rfl, rfl⟩, iaQ rfl (zas rfl) rfl, trivial⟩
  simp only [List.drop_succ_cons, List.drop_zero]
  refine ntQ (zak rfl (zbd 1 rfl ?_))
  refine zau (zan ?_)
  refine zge ?_
  refine zan (zai ?_)
  exact zbb rfl rfl (congrArg Value.bool (zju (p := CutP n node cut) (fun h => zws (by first | exact .inl (by assumption) | exact .inr ⟨by omega, by omega⟩) (h.el j (by omega)))).symm)
 refine ntQ (zal rfl ?_)
 refine zba (zdq ?_)
 refine zag (zaw (srQ (hvQ rfl (zao (cs := [.int .i64 n.ins, n.sv, n.av, n.ov]) rfl rfl rfl rfl rfl (zaj 1 rfl 0 rfl)) ?_)))
 refine zds rfl (zaq rfl rfl (fun w hm => zav (zcb n w (hr.below hm.bel) hn))) (zdk rfl (zdw (z := .bool false) (s := 1) (bytes := 1) (n := (List.replicate (n.cnt).toNat bl0).length) (cs := ((List.replicate (n.cnt).toNat bl0).flatMap blC)) rfl Try.underlying130 rfl (by decide) rfl rfl (by first | (rw [List.length_replicate]; done) | (rw [List.length_replicate]; omega)) (by first | (rw [List.length_replicate]; done) | (rw [List.length_replicate]; omega)) (by rw [List.length_replicate]; omega) (zex blC 1 (fun _ => rfl) bl0 _ rfl (n.cnt).toNat)) ?_)
 intro g13
 refine zaz 1 rfl (zac (reQ 2 rfl ?_))
 have hrl : (List.replicate n.cnt.toNat bl0).length = n.cnt.toNat := List.length_replicate
 refine hvQ rfl (riQ 1 rfl rfl rfl rfl (zae 0 rfl)) (zda (i := 0) (n' := ((List.replicate (n.cnt).toNat bl0).set ((node).toNat) { (List.replicate (n.cnt).toNat bl0).getD ((node).toNat) bl0 with b := true }).length) rfl rfl rfl rfl rfl rfl rfl rfl (by first | omega | (simp only [List.length_set]; omega)) List.length_set.symm (zdl blC (fun r => .bool r.b) (fun _ => rfl) _ ({ (List.replicate (n.cnt).toNat bl0).getD ((node).toNat) bl0 with b := true }) rfl) rfl ?_)
 refine ntQ (zac (zbd 2 rfl (zax ?_)))
 refine zid (α := Nat) (β := List Bl) (fun k bs => [rowE 4 1 (.slice (some ⟨g13, 0, none⟩) ((List.replicate (n.cnt).toNat bl0).length) ((List.replicate (n.cnt).toNat bl0).length)) bs.length (bs.flatMap blC), rowE 3 1 v5 ((coneS n node).length) ((coneS n node).map (Value.int .i64)), boxE b1 #[.int .i64 n.ins, n.sv, n.av, n.ov] 86]) (fun k bs => [(0, .agg #[.int .i64 n.ins, n.sv, n.av, n.ov]), (1, .int .i64 node), (2, cv), (3, .pointer (some ⟨b1, 0, none⟩)), (6, .bool false), (7, v5), (9, .slice (some ⟨g13, 0, none⟩) ((List.replicate (n.cnt).toNat bl0).length) ((List.replicate (n.cnt).toNat bl0).length)), (10, .int .i64 (k : Int)), (29, .bool false), (36, .bool false)]) (fun k bs => (k : Int) ≤ node ∧ opn n cut node.toNat (opn0 n node) = opn n cut k bs ∧ bs.length = n.cnt.toNat) (fun k bs => k) node.toNat _ ⟨by omega, rfl, by rw [List.length_set, List.length_replicate]⟩ (zbk [9, 7, 6, 3, 2, 1, 0] _ (sk 10 (congrArg (fun x => some (Value.int .i64 x)) (by omega)) (zam [36, 29] rfl)) rfl) (pfQ rfl) ?_
 intro k bs hi14
 obtain ⟨hk, hop, hbl⟩ := hi14
 refine zac (zac (reQ 1 rfl ?_))
 refine zet rfl rfl rfl rfl rfl rfl (fun h15 => ?_) (fun h15 => ?_)
 ·
  refine ntQ (zak rfl (zcq (sbQ (zac (zac (reQ 2 rfl (hvQ rfl (riQ 1 rfl rfl rfl rfl (zae 0 rfl)) ?_)))))))
  refine hvQ rfl (zar (u := .bool ((bs.getD k bl0).b)) rfl rfl rfl (zae 0 rfl) (zcu blC (fun r => .bool r.b) (fun _ => rfl) bs bl0 (show k < _ by omega))) (zca (fun h16 => ?_) (fun h16 => ?_))
  ·
   have hmk := h16
   refine zap 4 rfl (zds rfl (zaq rfl rfl (fun w hm => zav (zdx cut (k : Int) _ w ((zab hcr) w hm) (by omega)))) ?_)
   refine zca (fun h17 => ?_) (fun h17 => ?_)
   ·
    refine zaz 1 rfl (zak rfl ?_)
    refine zba (zdg ?_)
    refine zag (zaw (reQ 1 rfl (hvQ rfl (vsQ rfl rfl rfl) (enQ 1 rfl ?_))))
    exact zbq (k - 1) bs ⟨by omega, hop.trans (zqc (by omega) (by first | exact .inl hmk | exact .inr (by assumption))), by first | omega | (simp only [List.length_set]; omega)⟩ (by omega) (zbk [9, 7, 6, 3, 2, 1, 0] _ (sk 10 (congrArg (fun x => some (Value.int .i64 x)) (by omega)) (zam [36, 29] rfl)) rfl) (pfQ rfl)
   refine zaz 1 rfl (zal rfl (zcq (zac (zac (reQ 1 rfl (hvQ rfl (zao (cs := [.int .i64 n.ins, n.sv, n.av, n.ov]) rfl rfl rfl rfl rfl (zaj 2 rfl 0 rfl)) ?_))))))
   refine zds rfl (zaq rfl rfl (fun w hm => zav (zcl n w (hr.below hm.bel) hn))) (zbj rfl rfl rfl rfl rfl rfl (fun h18 => ?_) (fun h18 => ?_))
   ·
    refine ntQ (zak rfl (zbd 1 rfl ?_))
    refine zau (zai ?_)
    refine zan (zge ?_)
    refine zan (zai ?_)
    exact zbb rfl rfl (congrArg Value.bool (zju (p := CutP n node cut) (fun h => by have h9 := h.op; rw [hop, opn_no (by omega) hmk (by assumption) (by omega)] at h9; cases h9)).symm)
   refine ntQ (zal rfl (zcq (zac ?_)))
   have hani := hn.an ((k : Int) - n.fst).toNat (by omega)
   unfold LtOk at hani
   refine zdf rfl 9 [0, 1, 2, 3, 4, 5, 6, 7, 8] (List.take 9 _) (List.drop 9 _) [[], [0], [], [], [3], [2, 4], [1, 5], [6], []] [87, 88, 89, 90, 91, 92, 93, 94, 11] (fun i_ vs_ v_ p_ => match i_ with | 0 => v_ = .pointer (some ⟨b1, 0 + 2, none⟩) ∧ p_ = [] | 1 => v_ = n.av ∧ p_ = [] | 2 => v_ = .int .i64 (k : Int) ∧ p_ = [] | 3 => v_ = .agg #[.int .i64 n.ins, n.sv, n.av, n.ov] ∧ p_ = [] | 4 => v_ = .int .i64 n.fst ∧ p_ = [] | 5 => v_ = .int .i64 ((k : Int) - n.fst) ∧ p_ = [] | 6 => v_ = elP n.av (((k : Int) - n.fst).toNat * 2) ∧ p_ = [] | 7 => v_ = .agg #[.int .i64 ((n.gs.getD (((k : Int) - n.fst).toNat) an0).a), .int .i64 ((n.gs.getD (((k : Int) - n.fst).toNat) an0).b)] ∧ p_ = [] | 8 => IsBox #[.int .i64 0, .int .i64 0] 126 v_ p_ | _ => True) (List.take_append_drop 9 _).symm (by kernel_rfl) (by kernel_rfl) rfl rfl ?_ ?_
   ·
    refine ⟨?_, ?_, ?_, ?_, ?_, ?_, ?_, ?_, ?_, trivial⟩
    ·
     intro vf pf hR
     exact ovQ rfl (zam [3] rfl) (zbg (fdQ 2 rfl rfl rfl))
    ·
     intro vf pf hR
     have e0 := hR 0 (by decide)
     exact olQ rfl (sk 87 (congrArg some e0.1) (zaf _)) (zbg (zad rfl rfl rfl (zaa 2 rfl rfl)))
    ·
     intro vf pf hR
     exact ovQ rfl (zam [10] rfl) (zbg (zas rfl))
    ·
     intro vf pf hR
     exact olQ rfl (zam [3] rfl) (zbg (zao (cs := [.int .i64 n.ins, n.sv, n.av, n.ov]) rfl rfl rfl rfl rfl (zaj 2 rfl 0 rfl)))
    ·
     intro vf pf hR
     have e3 := hR 3 (by decide)
     exact olQ rfl (sk 90 (congrArg some e3.1) (zaf _)) (zaq rfl rfl (fun w hm => zav (zcl n w (hr.below hm.bel) hn)))
    ·
     intro vf pf hR
     have e2 := hR 2 (by decide)
     have e4 := hR 4 (by decide)
     exact ovQ rfl (sk 89 (congrArg some e2.1) (sk 91 (congrArg some e4.1) (zaf _))) (zbg (vsQ rfl rfl rfl))
    ·
     intro vf pf hR
     have e1 := hR 1 (by decide)
     have e5 := hR 5 (by decide)
     exact olQ rfl (sk 88 (congrArg some e1.1) (sk 92 (congrArg some e5.1) (zaf _))) (zbg (riQ 2 rfl rfl rfl rfl (zab hr.an)))
    ·
     intro vf pf hR
     have e6 := hR 6 (by decide)
     exact olQ rfl (sk 93 (congrArg some e6.1) (zaf _)) (zbg (zbt (us := [.int .i64 ((n.gs.getD (((k : Int) - n.fst).toNat) an0).a), .int .i64 ((n.gs.getD (((k : Int) - n.fst).toNat) an0).b)]) rfl rfl rfl rfl (zab hr.an) (by omega) rfl (zcp anC 2 (fun _ => rfl) n.gs an0 (show ((k : Int) - n.fst).toNat < _ by omega) rfl)))
    intro vf pf hR
    exact olQ rfl (zaf _) (zbx (z := .agg #[.int .i64 0, .int .i64 0]) rfl rfl)
   intro vf pf hR
   have e7 := hR 7 (by decide)
   have e8 : IsBox #[.int .i64 0, .int .i64 0] 126 (vf 8) (pf 8) := hR 8 (by decide)
   obtain ⟨b19, vE8, pE8⟩ := e8
   have q0 := hR 0 (by decide)
   have q1 := hR 1 (by decide)
   have q2 := hR 2 (by decide)
   have q3 := hR 3 (by decide)
   have q4 := hR 4 (by decide)
   have q5 := hR 5 (by decide)
   have q6 := hR 6 (by decide)
   have q7 := hR 7 (by decide)
   refine zco (zbk [10, 9, 7, 6, 3, 2, 1, 0] _ (sk 11 (congrArg some vE8) (zbk [86, 82, 70, 36, 29] _ (sk 94 (congrArg some e7.1) (zaf _)) rfl)) rfl) (by simp only [pE8, vE8, q0.2, q1.2, q2.2, q3.2, q4.2, q5.2, q6.2, q7.2, fS] <;> rfl) ?_
   simp only [List.drop_succ_cons, List.drop_zero]
   refine zcc (cs' := #[.int .i64 ((n.gs.getD (((k : Int) - n.fst).toNat) an0).a), .int .i64 ((n.gs.getD (((k : Int) - n.fst).toNat) an0).b)]) (i := 0) (off := 0) (us := [.int .i64 ((n.gs.getD (((k : Int) - n.fst).toNat) an0).a), .int .i64 ((n.gs.getD (((k : Int) - n.fst).toNat) an0).b)]) rfl rfl rfl rfl rfl rfl rfl (zah rfl (zah rfl zbr)) rfl rfl rfl (ntQ (zac (reQ 1 rfl (hvQ rfl (fdQ 0 rfl rfl rfl) (hvQ rfl (zad rfl rfl rfl (zaa 0 rfl rfl)) ?_)))))
   refine hvQ rfl (zeu rfl rfl rfl (by refine ⟨?_, ?_, ?_⟩ <;> omega)) ?_
   refine hvQ rfl (riQ 1 rfl rfl rfl rfl (zae 1 rfl)) (zda (i := 1) (n' := (bs.set ((((n.gs.getD (((k : Int) - n.fst).toNat) an0).a) / 2).toNat) { bs.getD ((((n.gs.getD (((k : Int) - n.fst).toNat) an0).a) / 2).toNat) bl0 with b := true }).length) rfl rfl rfl rfl rfl rfl rfl rfl (by first | omega | (simp only [List.length_set]; omega)) List.length_set.symm (zdl blC (fun r => .bool r.b) (fun _ => rfl) _ ({ bs.getD ((((n.gs.getD (((k : Int) - n.fst).toNat) an0).a) / 2).toNat) bl0 with b := true }) rfl) rfl ?_)
   refine ntQ (reQ 1 rfl (hvQ rfl (fdQ 1 rfl rfl rfl) (hvQ rfl (zad rfl rfl rfl (zaa 0 rfl rfl)) ?_)))
   refine hvQ rfl (zeu rfl rfl rfl (by refine ⟨?_, ?_, ?_⟩ <;> omega)) ?_
   refine hvQ rfl (riQ 1 rfl rfl rfl rfl (zae 1 rfl) (by omega) (by first | omega | (simp only [List.length_set]; omega))) (zda (i := 1) (n' := ((bs.set ((((n.gs.getD (((k : Int) - n.fst).toNat) an0).a) / 2).toNat) { bs.getD ((((n.gs.getD (((k : Int) - n.fst).toNat) an0).a) / 2).toNat) bl0 with b := true }).set ((((n.gs.getD (((k : Int) - n.fst).toNat) an0).b) / 2).toNat) { (bs.set ((((n.gs.getD (((k : Int) - n.fst).toNat) an0).a) / 2).toNat) { bs.getD ((((n.gs.getD (((k : Int) - n.fst).toNat) an0).a) / 2).toNat) bl0 with b := true }).getD ((((n.gs.getD (((k : Int) - n.fst).toNat) an0).b) / 2).toNat) bl0 with b := true }).length) rfl rfl rfl rfl rfl rfl rfl rfl (by first | omega | (simp only [List.length_set]; omega)) List.length_set.symm (zdl blC (fun r => .bool r.b) (fun _ => rfl) _ ({ (bs.set ((((n.gs.getD (((k : Int) - n.fst).toNat) an0).a) / 2).toNat) { bs.getD ((((n.gs.getD (((k : Int) - n.fst).toNat) an0).a) / 2).toNat) bl0 with b := true }).getD ((((n.gs.getD (((k : Int) - n.fst).toNat) an0).b) / 2).toNat) bl0 with b := true }) rfl) rfl ?_)
   refine zbu (zcv (reQ 1 rfl (hvQ rfl (vsQ rfl rfl rfl) (enQ 1 rfl ?_))))
   exact zbq (k - 1) ((bs.set ((((n.gs.getD (((k : Int) - n.fst).toNat) an0).a) / 2).toNat) { bs.getD ((((n.gs.getD (((k : Int) - n.fst).toNat) an0).a) / 2).toNat) bl0 with b := true }).set ((((n.gs.getD (((k : Int) - n.fst).toNat) an0).b) / 2).toNat) { (bs.set ((((n.gs.getD (((k : Int) - n.fst).toNat) an0).a) / 2).toNat) { bs.getD ((((n.gs.getD (((k : Int) - n.fst).toNat) an0).a) / 2).toNat) bl0 with b := true }).getD ((((n.gs.getD (((k : Int) - n.fst).toNat) an0).b) / 2).toNat) bl0 with b := true }) ⟨by omega, hop.trans (zus (by omega) hmk (by assumption) (by omega)), by first | omega | (simp only [List.length_set]; omega)⟩ (by omega) (zbk [9, 7, 6, 3, 2, 1, 0] _ (sk 10 (congrArg (fun x => some (Value.int .i64 x)) (by omega)) (zam [36, 29] rfl)) rfl) (slQ [1, 0, 0] rfl)
  have hmk := h16
  refine zaz 6 rfl (zak rfl ?_)
  refine zba (zdg ?_)
  refine zag (zaw (reQ 1 rfl (hvQ rfl (vsQ rfl rfl rfl) (enQ 1 rfl ?_))))
  exact zbq (k - 1) bs ⟨by omega, hop.trans (zqc (by omega) (by first | exact .inl hmk | exact .inr (by assumption))), by first | omega | (simp only [List.length_set]; omega)⟩ (by omega) (zbk [9, 7, 6, 3, 2, 1, 0] _ (sk 10 (congrArg (fun x => some (Value.int .i64 x)) (by omega)) (zam [36, 29] rfl)) rfl) (pfQ rfl)
 refine ntQ (zal rfl ?_)
 refine zba (zdq ?_)
 refine zag (zaw (zbd 1 rfl ?_))
 exact zau (zbb rfl rfl (congrArg Value.bool (zjt (p := CutP n node cut) ⟨by omega, fun i hi => hel i (by omega), by rw [hop, show k = 0 by omega]; rfl⟩).symm))
theorem zmp (n : Nt) (rs : List CRow) (v : Value) (w : World) (hr : RdsNt w n) (hn : NtOk n) (hv : RdsCl w v rs) (h400 : ∀ r ∈ rs, r.xs.length ≤ 400) :
   Calls Try.prog 96 #[.agg #[.int .i64 n.ins, n.sv, n.av, n.ov], v] w (Ans w (.bool (pBe (MapP n rs)))) := by
 have hi0 := hn.i0
 have hi1 := hn.i1
 have hs1 := hn.s1
 have ha1 := hn.a1
 have ho1 := hn.o1
 have hcnt : n.cnt = 1 + n.ins + n.ss.length + n.gs.length := rfl
 have hfst : n.fst = 1 + n.ins + n.ss.length := rfl
 refine zbf (N := 45) (args := [.agg #[.int .i64 n.ins, n.sv, n.av, n.ov], v]) Try.func96 rfl rfl (srQ ?_)
 refine zdj rfl (zch rfl rfl) ?_
 intro b1
 refine zaz 1 rfl (zeh (hvQ rfl (zao (cs := [.int .i64 n.ins, n.sv, n.av, n.ov]) rfl rfl rfl rfl rfl (zaj 0 rfl 0 rfl)) ?_))
 refine zds rfl (zaq rfl rfl (fun w hm => zav (zdz n w (hr.below hm.bel) hn))) (zap 3 rfl (hvQ rfl (lnQ rfl rfl rfl (zab hv.row)) (hvQ rfl (fdQ 2 rfl rfl rfl) (hvQ rfl (zad rfl rfl rfl (zaa 0 rfl rfl)) (hvQ rfl (lnQ rfl rfl rfl (zab hr.an)) ?_)))))
 refine zfj rfl rfl rfl rfl rfl rfl (fun h2 => ?_) (fun h2 => ?_)
 ·
  refine zaz 1 rfl (zak rfl (zbd 1 rfl ?_))
  refine zau (zai ?_)
  exact zbb rfl rfl (congrArg Value.bool (zju (p := MapP n rs) (fun h => by have h9 := h.len; omega)).symm)
 refine zaz 1 rfl (zal rfl (zcq (zac (zbd 1 rfl ?_))))
 refine zax ?_
 refine zka (α := Nat) [0, 1, 2, 4, 16] rfl (fun i => [boxE b1 #[.int .i64 n.ins, n.sv, n.av, n.ov] 86]) (fun i => [(5, .int .i64 (i : Int))]) (fun i => i ≤ rs.length ∧ ∀ j, j < i → CutP n (n.fst + (j : Int)) (rs.getD j crow0).xs ∧ hasB (rs.getD j crow0).xs (n.fst + (j : Int)) = false) (fun i => rs.length - i) 0 ⟨Nat.zero_le _, fun i hi => absurd hi (by omega)⟩ (saQ rfl) (pfQ rfl) ?_
 intro i hi3
 obtain ⟨hi, hel⟩ := hi3
 refine zac (zac (reQ 2 rfl (hvQ rfl (lnQ rfl rfl rfl (zab hv.row)) ?_)))
 refine zbj rfl rfl rfl rfl rfl rfl (fun h4 => ?_) (fun h4 => ?_)
 ·
  refine ntQ (zak rfl (zcq (sbQ (zac ?_))))
  have h4i := h400 _ (zey (es := rs) (i := i) (d := crow0) (by omega))
  rcases Bool.eq_false_or_eq_true (pBe (CutP n (n.fst + (i : Int)) (rs.getD i crow0).xs)) with hb5 | hb5
  ·
   have h4i := h400 _ (zey (es := rs) (i := i) (d := crow0) (by omega))
   rcases Bool.eq_false_or_eq_true (hasB ((rs.getD i crow0).xs) (n.fst + (i : Int))) with hb6 | hb6
   ·
    have h4i := h400 _ (zey (es := rs) (i := i) (d := crow0) (by omega))
    refine zby 22 [[], [], [1], [], [2, 3], [], [], [5, 6], [7], [0, 4, 8], [9], [10], [11], [11], [11, 12, 13], [11, 14], [11], [11, 16], [11], [11, 17, 18], [11, 15, 19], [11, 20]] [23, 24, 25, 26, 27, 28, 29, 30, 31, 32, 33, 34, 35, 36, 37, 38, 39, 40, 41, 42, 43, 44] [.agg #[.int .i64 n.ins, n.sv, n.av, n.ov], .agg #[.int .i64 n.ins, n.sv, n.av, n.ov], .int .i64 n.fst, .int .i64 (i : Int), .int .i64 (n.fst + (i : Int)), v, .int .i64 (i : Int), elP v (((i : Int)).toNat * 1), (rs.getD i crow0).v, .bool true, .bool false, .bool false, v, .int .i64 (i : Int), elP v (((i : Int)).toNat * 1), (rs.getD i crow0).v, .agg #[.int .i64 n.ins, n.sv, n.av, n.ov], .int .i64 n.fst, .int .i64 (i : Int), .int .i64 (n.fst + (i : Int)), .bool true, .bool true] (by kernel_rfl) rfl ?_ ?_
    ·
     exact ⟨iaQ rfl (zao (cs := [.int .i64 n.ins, n.sv, n.av, n.ov]) rfl rfl rfl rfl rfl (zaj 0 rfl 0 rfl)) rfl, iaQ rfl (zao (cs := [.int .i64 n.ins, n.sv, n.av, n.ov]) rfl rfl rfl rfl rfl (zaj 0 rfl 0 rfl)) rfl, .inl ⟨rfl, zaq rfl rfl (fun w hm => zav (zcl n w (hr.below hm.bel) hn))⟩, iaQ rfl (zas rfl) rfl, iaQ rfl (vaQ rfl rfl rfl) rfl, iaQ rfl (zas rfl) rfl, iaQ rfl (zas rfl) rfl, iaQ rfl (riQ 1 rfl rfl rfl rfl (zab hv.row)) rfl, iaQ rfl (zar (u := (rs.getD i crow0).v) rfl rfl rfl (zab hv.row) (zcu crowC (fun r => r.v) (fun _ => rfl) rs crow0 (show i < _ by omega))) rfl, .inl ⟨rfl, zfr (zaq (by kernel_rfl) rfl (fun w hm => zav (zhk n (n.fst + (i : Int)) (rs.getD i crow0).xs _ w (hr.below hm.bel) hn ((hv.at (k := i) (by omega)).below hm.bel) (by omega) (by omega)))) hb5⟩, iaQ rfl (zas rfl) rfl, iaQ rfl (zas rfl) rfl, iaQ rfl (zas rfl) rfl, iaQ rfl (zas rfl) rfl, iaQ rfl (riQ 1 rfl rfl rfl rfl (zab hv.row)) rfl, iaQ rfl (zar (u := (rs.getD i crow0).v) rfl rfl rfl (zab hv.row) (zcu crowC (fun r => r.v) (fun _ => rfl) rs crow0 (show i < _ by omega))) rfl, iaQ rfl (zao (cs := [.int .i64 n.ins, n.sv, n.av, n.ov]) rfl rfl rfl rfl rfl (zaj 0 rfl 0 rfl)) rfl, .inl ⟨rfl, zaq rfl rfl (fun w hm => zav (zcl n w (hr.below hm.bel) hn))⟩, iaQ rfl (zas rfl) rfl, iaQ rfl (vaQ rfl rfl rfl) rfl, .inl ⟨rfl, zfr (zaq (by kernel_rfl) rfl (fun w hm => zav (zdx ((rs.getD i crow0).xs) (n.fst + (i : Int)) _ w ((zab (hv.at (k := i) (by omega))) w hm) (by omega)))) hb6⟩, iaQ rfl (zas rfl) rfl, trivial⟩
    simp only [List.drop_succ_cons, List.drop_zero]
    refine ntQ (zak rfl (zbd 1 rfl ?_))
    refine zau (zan ?_)
    refine zge ?_
    refine zan (zai ?_)
    exact zbb rfl rfl (congrArg Value.bool (zju (p := MapP n rs) (fun h => by have h9 := h.cut i (by omega); first | (exact absurd (zjt h9.1) (by rw [show pBe (CutP n (n.fst + (i : Int)) (rs.getD i crow0).xs) = false by assumption]; decide)) | (exact absurd h9.2 (by rw [show hasB (rs.getD i crow0).xs (n.fst + (i : Int)) = true by assumption]; decide)))).symm)
   have h4i := h400 _ (zey (es := rs) (i := i) (d := crow0) (by omega))
   refine zby 22 [[], [], [1], [], [2, 3], [], [], [5, 6], [7], [0, 4, 8], [9], [10], [11], [11], [11, 12, 13], [11, 14], [11], [11, 16], [11], [11, 17, 18], [11, 15, 19], [11, 20]] [23, 24, 25, 26, 27, 28, 29, 30, 31, 32, 33, 34, 35, 36, 37, 38, 39, 40, 41, 42, 43, 44] [.agg #[.int .i64 n.ins, n.sv, n.av, n.ov], .agg #[.int .i64 n.ins, n.sv, n.av, n.ov], .int .i64 n.fst, .int .i64 (i : Int), .int .i64 (n.fst + (i : Int)), v, .int .i64 (i : Int), elP v (((i : Int)).toNat * 1), (rs.getD i crow0).v, .bool true, .bool false, .bool false, v, .int .i64 (i : Int), elP v (((i : Int)).toNat * 1), (rs.getD i crow0).v, .agg #[.int .i64 n.ins, n.sv, n.av, n.ov], .int .i64 n.fst, .int .i64 (i : Int), .int .i64 (n.fst + (i : Int)), .bool false, .bool false] (by kernel_rfl) rfl ?_ ?_
   ·
    exact ⟨iaQ rfl (zao (cs := [.int .i64 n.ins, n.sv, n.av, n.ov]) rfl rfl rfl rfl rfl (zaj 0 rfl 0 rfl)) rfl, iaQ rfl (zao (cs := [.int .i64 n.ins, n.sv, n.av, n.ov]) rfl rfl rfl rfl rfl (zaj 0 rfl 0 rfl)) rfl, .inl ⟨rfl, zaq rfl rfl (fun w hm => zav (zcl n w (hr.below hm.bel) hn))⟩, iaQ rfl (zas rfl) rfl, iaQ rfl (vaQ rfl rfl rfl) rfl, iaQ rfl (zas rfl) rfl, iaQ rfl (zas rfl) rfl, iaQ rfl (riQ 1 rfl rfl rfl rfl (zab hv.row)) rfl, iaQ rfl (zar (u := (rs.getD i crow0).v) rfl rfl rfl (zab hv.row) (zcu crowC (fun r => r.v) (fun _ => rfl) rs crow0 (show i < _ by omega))) rfl, .inl ⟨rfl, zfr (zaq (by kernel_rfl) rfl (fun w hm => zav (zhk n (n.fst + (i : Int)) (rs.getD i crow0).xs _ w (hr.below hm.bel) hn ((hv.at (k := i) (by omega)).below hm.bel) (by omega) (by omega)))) hb5⟩, iaQ rfl (zas rfl) rfl, iaQ rfl (zas rfl) rfl, iaQ rfl (zas rfl) rfl, iaQ rfl (zas rfl) rfl, iaQ rfl (riQ 1 rfl rfl rfl rfl (zab hv.row)) rfl, iaQ rfl (zar (u := (rs.getD i crow0).v) rfl rfl rfl (zab hv.row) (zcu crowC (fun r => r.v) (fun _ => rfl) rs crow0 (show i < _ by omega))) rfl, iaQ rfl (zao (cs := [.int .i64 n.ins, n.sv, n.av, n.ov]) rfl rfl rfl rfl rfl (zaj 0 rfl 0 rfl)) rfl, .inl ⟨rfl, zaq rfl rfl (fun w hm => zav (zcl n w (hr.below hm.bel) hn))⟩, iaQ rfl (zas rfl) rfl, iaQ rfl (vaQ rfl rfl rfl) rfl, .inl ⟨rfl, zfr (zaq (by kernel_rfl) rfl (fun w hm => zav (zdx ((rs.getD i crow0).xs) (n.fst + (i : Int)) _ w ((zab (hv.at (k := i) (by omega))) w hm) (by omega)))) hb6⟩, iaQ rfl (zas rfl) rfl, trivial⟩
   simp only [List.drop_succ_cons, List.drop_zero]
   refine ntQ (fsQ rfl (zcv (reQ 1 rfl (hvQ rfl (vaQ rfl rfl rfl) (enQ 1 rfl ?_)))))
   exact zcr (i + 1) ⟨by omega, fun j hj => by by_cases e : j = i; (subst e; exact ⟨zwh (by assumption), by assumption⟩); exact hel j (by omega)⟩ (by omega) (saQ rfl) (pfQ rfl)
  have h4i := h400 _ (zey (es := rs) (i := i) (d := crow0) (by omega))
  refine zby 22 [[], [], [1], [], [2, 3], [], [], [5, 6], [7], [0, 4, 8], [9], [10], [11], [11], [11], [11], [11], [11], [11], [11], [11], [11, 20]] [23, 24, 25, 26, 27, 28, 29, 30, 31, 32, 33, 34, 35, 36, 37, 38, 39, 40, 41, 42, 43, 44] [.agg #[.int .i64 n.ins, n.sv, n.av, n.ov], .agg #[.int .i64 n.ins, n.sv, n.av, n.ov], .int .i64 n.fst, .int .i64 (i : Int), .int .i64 (n.fst + (i : Int)), v, .int .i64 (i : Int), elP v (((i : Int)).toNat * 1), (rs.getD i crow0).v, .bool false, .bool true, .bool true, undef, undef, undef, undef, undef, undef, undef, undef, undef, .bool true] (by kernel_rfl) rfl ?_ ?_
  ·
   exact ⟨iaQ rfl (zao (cs := [.int .i64 n.ins, n.sv, n.av, n.ov]) rfl rfl rfl rfl rfl (zaj 0 rfl 0 rfl)) rfl, iaQ rfl (zao (cs := [.int .i64 n.ins, n.sv, n.av, n.ov]) rfl rfl rfl rfl rfl (zaj 0 rfl 0 rfl)) rfl, .inl ⟨rfl, zaq rfl rfl (fun w hm => zav (zcl n w (hr.below hm.bel) hn))⟩, iaQ rfl (zas rfl) rfl, iaQ rfl (vaQ rfl rfl rfl) rfl, iaQ rfl (zas rfl) rfl, iaQ rfl (zas rfl) rfl, iaQ rfl (riQ 1 rfl rfl rfl rfl (zab hv.row)) rfl, iaQ rfl (zar (u := (rs.getD i crow0).v) rfl rfl rfl (zab hv.row) (zcu crowC (fun r => r.v) (fun _ => rfl) rs crow0 (show i < _ by omega))) rfl, .inl ⟨rfl, zfr (zaq (by kernel_rfl) rfl (fun w hm => zav (zhk n (n.fst + (i : Int)) (rs.getD i crow0).xs _ w (hr.below hm.bel) hn ((hv.at (k := i) (by omega)).below hm.bel) (by omega) (by omega)))) hb5⟩, iaQ rfl (zas rfl) rfl, iaQ rfl (zas rfl) rfl, .inr ⟨rfl, rfl⟩, .inr ⟨rfl, rfl⟩, .inr ⟨rfl, rfl⟩, .inr ⟨rfl, rfl⟩, .inr ⟨rfl, rfl⟩, .inr ⟨rfl, rfl⟩, .inr ⟨rfl, rfl⟩, .inr ⟨rfl, rfl⟩, .inr ⟨rfl, rfl⟩, iaQ rfl (zas rfl) rfl, trivial⟩
  simp only [List.drop_succ_cons, List.drop_zero]
  refine ntQ (zak rfl (zbd 1 rfl ?_))
  refine zau (zan ?_)
  refine zge ?_
  refine zan (zai ?_)
  exact zbb rfl rfl (congrArg Value.bool (zju (p := MapP n rs) (fun h => by have h9 := h.cut i (by omega); first | (exact absurd (zjt h9.1) (by rw [show pBe (CutP n (n.fst + (i : Int)) (rs.getD i crow0).xs) = false by assumption]; decide)) | (exact absurd h9.2 (by rw [show hasB (rs.getD i crow0).xs (n.fst + (i : Int)) = true by assumption]; decide)))).symm)
 refine ntQ (zal rfl ?_)
 refine zba (zdq ?_)
 refine zag (zaw (zbd 1 rfl ?_))
 exact zau (zbb rfl rfl (congrArg Value.bool (zjt (p := MapP n rs) ⟨by omega, fun j hj => hel j (by omega)⟩).symm))
theorem zij (n : Nt) (node : Int) (cut : List Int) (cv : Value) (w : World) (hr : RdsNt w n) (hn : NtOk n) (hcr : RdsW w cv 1 cut.length (cut.map (Value.int .i64))) (hnd : 0 ≤ node ∧ node < n.cnt) (hcp : CutP n node cut) :
   Calls Try.prog 100 #[.agg #[.int .i64 n.ins, n.sv, n.av, n.ov], .int .i64 node, cv] w (Ret w (fun u_ p_ => ∃ b : Int, u_ = .agg #[.int .i64 (cut.length : Int), .int .i64 b] ∧ p_ = [] ∧ TabOk (Tab.mk (cut.length : Int) b))) := by
 have hi0 := hn.i0
 have hi1 := hn.i1
 have hs1 := hn.s1
 have ha1 := hn.a1
 have ho1 := hn.o1
 have hcnt : n.cnt = 1 + n.ins + n.ss.length + n.gs.length := rfl
 have hfst : n.fst = 1 + n.ins + n.ss.length := rfl
 have hcl4 := hcp.len
 have hpn := zsu (n := (cut.length : Int)) (by omega)
 refine zbf (N := 96) (args := [.agg #[.int .i64 n.ins, n.sv, n.av, n.ov], .int .i64 node, cv]) Try.func100 rfl rfl (srQ ?_)
 refine zdj rfl (zch rfl rfl) ?_
 intro b1
 refine zdj rfl (zbx (z := .agg #[.int .i64 0, .int .i64 0]) rfl rfl) ?_
 intro b2
 refine ntQ (zeh (hvQ rfl (zao (cs := [.int .i64 n.ins, n.sv, n.av, n.ov]) rfl rfl rfl rfl rfl (zaj 1 rfl 0 rfl)) (zap 2 rfl ?_)))
 refine zds rfl (zaq rfl rfl (fun w hm => zav (by have h9 := zhk n node cut cv w (hr.below hm.bel) hn (hcr.below hm.bel) hnd (by omega); rw [zjt hcp] at h9; exact h9))) (zap 1 rfl (zbu (zaw (zal rfl (zfe (zaw (zac (zay (zap 1 rfl (hvQ rfl (lnQ rfl rfl rfl (zab hcr)) (hvQ rfl (zcw (cs := #[.int .i64 (cut.length : Int), .int .i64 0]) rfl rfl rfl) ?_)))))))))))
 refine zdj rfl (zbx (z := .agg #[.int .i64 0, .int .i64 0]) rfl rfl) ?_
 intro b3
 refine zcc (cs' := #[.int .i64 (cut.length : Int), .int .i64 0]) (i := 0) (off := 0) (us := [.int .i64 (cut.length : Int), .int .i64 0]) rfl rfl rfl rfl rfl rfl rfl (zah rfl (zah rfl zbr)) rfl rfl rfl (ntQ (zac (zbd 1 rfl (zax ?_))))
 refine zhy (α := Nat) (β := Int) [0, 1, 2, 3, 6, 7, 18] rfl (fun i b => [boxE b3 #[.int .i64 (cut.length : Int), .int .i64 b] 110, boxE b2 #[.int .i64 0, .int .i64 0] 110, boxE b1 #[.int .i64 n.ins, n.sv, n.av, n.ov] 86]) (fun i b => [(8, .int .i64 (i : Int))]) (fun i b => i ≤ pn (cut.length : Int) ∧ 0 ≤ b ∧ b < 2 ^ i) (fun i b => pn (cut.length : Int) - i) 0 0 ⟨Nat.zero_le _, Int.le_refl _, by decide⟩ (saQ rfl) (pfQ rfl) ?_
 intro i b hi4
 obtain ⟨hi, hb0, hb1⟩ := hi4
 have hp16 := pow16 (k := i) (by omega)
 refine zac (zac (zay (zap 2 rfl (hvQ rfl (lnQ rfl rfl rfl (zab hcr)) (hvQ rfl (zgv (k := .i64) (kk := .i64) (r := (pn (cut.length : Int) : Int)) rfl rfl rfl rfl (by omega) (wr1 (by omega))) ?_)))))
 refine zbj rfl rfl rfl rfl rfl rfl (fun h5 => ?_) (fun h5 => ?_)
 ·
  refine ntQ (zak rfl (zcq (sbQ (srQ (hvQ rfl (zao (cs := [.int .i64 n.ins, n.sv, n.av, n.ov]) rfl rfl rfl rfl rfl (zaj 2 rfl 0 rfl)) ?_)))))
  refine zds rfl (zaq rfl rfl (fun w hm => zav (zcb n w (hr.below hm.bel) hn))) (zdk rfl (zdw (z := .int .i64 0) (s := 1) (bytes := 8) (n := (List.replicate (n.cnt).toNat (0 : Int)).length) (cs := ((List.replicate (n.cnt).toNat (0 : Int)).map (Value.int .i64))) rfl Try.underlying28 rfl (by decide) rfl rfl (by first | (rw [List.length_replicate]; done) | (rw [List.length_replicate]; omega)) (by first | (rw [List.length_replicate]; done) | (rw [List.length_replicate]; omega)) (by rw [List.length_replicate]; omega) (zec _)) ?_)
  intro g6
  refine zaz 1 rfl (zac (zbd 1 rfl (zax ?_)))
  refine zhy (α := Nat) (β := List Int) [0, 1, 2, 3, 6, 7, 8, 9, 18, 27] rfl (fun k vs => [rowE 3 1 (.slice (some ⟨g6, 0, none⟩) ((List.replicate (n.cnt).toNat (0 : Int)).length) ((List.replicate (n.cnt).toNat (0 : Int)).length)) vs.length (vs.map (Value.int .i64)), boxE b3 #[.int .i64 (cut.length : Int), .int .i64 b] 110, boxE b2 #[.int .i64 0, .int .i64 0] 110, boxE b1 #[.int .i64 n.ins, n.sv, n.av, n.ov] 86]) (fun k vs => [(10, .int .i64 (k : Int))]) (fun k vs => (k : Int) ≤ node + 1 ∧ vs.length = n.cnt.toNat ∧ B01 vs) (fun k vs => node.toNat + 1 - k) 0 _ ⟨by omega, by rw [List.length_replicate], b01_rep _⟩ (saQ rfl) (pfQ rfl) ?_
  intro k vs hi7
  obtain ⟨hk, hvl, hv01⟩ := hi7
  refine zac (zac (reQ 2 rfl ?_))
  refine zhn rfl rfl rfl rfl rfl rfl (fun h8 => ?_) (fun h8 => ?_)
  ·
   refine ntQ (zak rfl (zcq (sbQ (zbd 1 rfl ?_))))
   refine zac (zbd 1 rfl (zax ?_))
   refine zgn (α := Nat) (β := List Int) (γ := Bool) [0, 1, 2, 3, 6, 7, 8, 9, 10, 18, 27, 35] rfl (fun j vs2 sb => [rowE 3 1 (.slice (some ⟨g6, 0, none⟩) ((List.replicate (n.cnt).toNat (0 : Int)).length) ((List.replicate (n.cnt).toNat (0 : Int)).length)) vs2.length (vs2.map (Value.int .i64)), boxE b3 #[.int .i64 (cut.length : Int), .int .i64 b] 110, boxE b2 #[.int .i64 0, .int .i64 0] 110, boxE b1 #[.int .i64 n.ins, n.sv, n.av, n.ov] 86]) (fun j vs2 sb => [(11, .bool sb), (12, .int .i64 (j : Int))]) (fun j vs2 sb => j ≤ cut.length ∧ vs2.length = n.cnt.toNat ∧ B01 vs2) (fun j vs2 sb => cut.length - j) 0 vs false ⟨Nat.zero_le _, hvl, hv01⟩ (saQ rfl) (pfQ rfl) ?_
   intro j vs2 sb hi9
   obtain ⟨hj, hvl2, hv02⟩ := hi9
   refine zac (zac (reQ 2 rfl (hvQ rfl (lnQ rfl rfl rfl (zab hcr)) ?_)))
   refine zbj rfl rfl rfl rfl rfl rfl (fun h10 => ?_) (fun h10 => ?_)
   ·
    refine ntQ (zak rfl (zcq (sbQ (zac (reQ 2 rfl (hvQ rfl (riQ 1 rfl rfl rfl rfl (zab hcr)) (hvQ rfl (liQ rfl rfl rfl (zab hcr)) (zap 1 rfl ?_))))))))
    refine zbp rfl rfl rfl rfl rfl rfl (fun h11 => ?_) (fun h11 => ?_)
    ·
     refine (zbu (zaw (zak rfl (zac (zay (zap 4 rfl (hvQ rfl (rv_shr rfl rfl rfl (by omega)) (hvQ rfl (zfu rfl (by decide) rfl rfl (r := ((i : Int) / 2 ^ ((j : Int)).toNat % 2)) (andB _ (by omega))) (hvQ rfl (riQ 1 rfl rfl rfl rfl (zae 0 rfl)) ?_)))))))))
     refine zda (i := 0) (n' := (vs2.set k ((i : Int) / 2 ^ ((j : Int)).toNat % 2)).length) (xs' := ((vs2.set k ((i : Int) / 2 ^ ((j : Int)).toNat % 2)).map (Value.int .i64))) rfl rfl rfl rfl rfl rfl rfl rfl (by first | omega | (simp only [List.length_set]; omega)) List.length_set.symm (zdd _ _ _) rfl (ntQ (zay (enQ 1 rfl (zcv (reQ 1 rfl (hvQ rfl (vaQ rfl rfl rfl) (zap 1 rfl (?_))))))))
     exact zbu (zbi (j + 1) (vs2.set k ((i : Int) / 2 ^ ((j : Int)).toNat % 2)) true ⟨by omega, by rw [List.length_set]; exact hvl2, zuf hv02 (by omega)⟩ (by omega) (saQ rfl) (pfQ rfl))
    refine ntQ (fsQ rfl (zcv (reQ 1 rfl (hvQ rfl (vaQ rfl rfl rfl) (enQ 1 rfl ?_)))))
    exact zbi (j + 1) vs2 sb ⟨by omega, hvl2, hv02⟩ (by omega) (saQ rfl) (pfQ rfl)
   refine ntQ (zal rfl ?_)
   refine zba (zdq ?_)
   refine zag (zaw (zac (reQ 1 rfl ?_)))
   refine zca (fun h12 => ?_) (fun h12 => ?_)
   ·
    refine zaz 7 rfl (fsQ rfl (zcv (reQ 1 rfl ?_)))
    refine hvQ rfl (vaQ rfl rfl rfl) (enQ 1 rfl ?_)
    exact zbq (k + 1) vs2 ⟨by omega, hvl2, hv02⟩ (by omega) (saQ rfl) (pfQ rfl)
   refine zap 3 rfl (hvQ rfl (zao (cs := [.int .i64 n.ins, n.sv, n.av, n.ov]) rfl rfl rfl rfl rfl (zaj 3 rfl 0 rfl)) ?_)
   refine zds rfl (zaq rfl rfl (fun w hm => zav (zcl n w (hr.below hm.bel) hn))) (zdi rfl rfl rfl rfl rfl rfl (fun h13 => ?_) (fun h13 => ?_))
   ·
    refine zaz 1 rfl (zak rfl (zac ?_))
    have hani := hn.an ((k : Int) - n.fst).toNat (by omega)
    unfold LtOk at hani
    refine zdf rfl 9 [0, 1, 2, 3, 4, 5, 6, 7, 8] (List.take 9 _) (List.drop 9 _) [[], [0], [], [], [3], [2, 4], [1, 5], [6], []] [65, 66, 67, 68, 69, 70, 71, 72, 13] (fun i_ vs_ v_ p_ => match i_ with | 0 => v_ = .pointer (some ⟨b1, 0 + 2, none⟩) ∧ p_ = [] | 1 => v_ = n.av ∧ p_ = [] | 2 => v_ = .int .i64 (k : Int) ∧ p_ = [] | 3 => v_ = .agg #[.int .i64 n.ins, n.sv, n.av, n.ov] ∧ p_ = [] | 4 => v_ = .int .i64 n.fst ∧ p_ = [] | 5 => v_ = .int .i64 ((k : Int) - n.fst) ∧ p_ = [] | 6 => v_ = elP n.av (((k : Int) - n.fst).toNat * 2) ∧ p_ = [] | 7 => v_ = .agg #[.int .i64 ((n.gs.getD (((k : Int) - n.fst).toNat) an0).a), .int .i64 ((n.gs.getD (((k : Int) - n.fst).toNat) an0).b)] ∧ p_ = [] | 8 => IsBox #[.int .i64 0, .int .i64 0] 126 v_ p_ | _ => True) (List.take_append_drop 9 _).symm (by kernel_rfl) (by kernel_rfl) rfl rfl ?_ ?_
    ·
     refine ⟨?_, ?_, ?_, ?_, ?_, ?_, ?_, ?_, ?_, trivial⟩
     ·
      intro vf pf hR
      exact ovQ rfl (zam [3] rfl) (zbg (fdQ 2 rfl rfl rfl))
     ·
      intro vf pf hR
      have e0 := hR 0 (by decide)
      exact olQ rfl (sk 65 (congrArg some e0.1) (zaf _)) (zbg (zad rfl rfl rfl (zaa 3 rfl rfl)))
     ·
      intro vf pf hR
      exact ovQ rfl (zam [10] rfl) (zbg (zas rfl))
     ·
      intro vf pf hR
      exact olQ rfl (zam [3] rfl) (zbg (zao (cs := [.int .i64 n.ins, n.sv, n.av, n.ov]) rfl rfl rfl rfl rfl (zaj 3 rfl 0 rfl)))
     ·
      intro vf pf hR
      have e3 := hR 3 (by decide)
      exact olQ rfl (sk 68 (congrArg some e3.1) (zaf _)) (zaq rfl rfl (fun w hm => zav (zcl n w (hr.below hm.bel) hn)))
     ·
      intro vf pf hR
      have e2 := hR 2 (by decide)
      have e4 := hR 4 (by decide)
      exact ovQ rfl (sk 67 (congrArg some e2.1) (sk 69 (congrArg some e4.1) (zaf _))) (zbg (vsQ rfl rfl rfl))
     ·
      intro vf pf hR
      have e1 := hR 1 (by decide)
      have e5 := hR 5 (by decide)
      exact olQ rfl (sk 66 (congrArg some e1.1) (sk 70 (congrArg some e5.1) (zaf _))) (zbg (riQ 2 rfl rfl rfl rfl (zab hr.an)))
     ·
      intro vf pf hR
      have e6 := hR 6 (by decide)
      exact olQ rfl (sk 71 (congrArg some e6.1) (zaf _)) (zbg (zbt (us := [.int .i64 ((n.gs.getD (((k : Int) - n.fst).toNat) an0).a), .int .i64 ((n.gs.getD (((k : Int) - n.fst).toNat) an0).b)]) rfl rfl rfl rfl (zab hr.an) (by omega) rfl (zcp anC 2 (fun _ => rfl) n.gs an0 (show ((k : Int) - n.fst).toNat < _ by omega) rfl)))
     intro vf pf hR
     exact olQ rfl (zaf _) (zbx (z := .agg #[.int .i64 0, .int .i64 0]) rfl rfl)
    intro vf pf hR
    have e7 := hR 7 (by decide)
    have e8 : IsBox #[.int .i64 0, .int .i64 0] 126 (vf 8) (pf 8) := hR 8 (by decide)
    obtain ⟨b14, vE8, pE8⟩ := e8
    have q0 := hR 0 (by decide)
    have q1 := hR 1 (by decide)
    have q2 := hR 2 (by decide)
    have q3 := hR 3 (by decide)
    have q4 := hR 4 (by decide)
    have q5 := hR 5 (by decide)
    have q6 := hR 6 (by decide)
    have q7 := hR 7 (by decide)
    refine zco (zbk [12, 11, 10, 9, 8, 7, 6, 3, 2, 1, 0] _ (sk 13 (congrArg some vE8) (zbk [64, 41, 35, 27, 18] _ (sk 72 (congrArg some e7.1) (zaf _)) rfl)) rfl) (by simp only [pE8, vE8, q0.2, q1.2, q2.2, q3.2, q4.2, q5.2, q6.2, q7.2, fS] <;> rfl) ?_
    simp only [List.drop_succ_cons, List.drop_zero]
    refine zcc (cs' := #[.int .i64 ((n.gs.getD (((k : Int) - n.fst).toNat) an0).a), .int .i64 ((n.gs.getD (((k : Int) - n.fst).toNat) an0).b)]) (i := 0) (off := 0) (us := [.int .i64 ((n.gs.getD (((k : Int) - n.fst).toNat) an0).a), .int .i64 ((n.gs.getD (((k : Int) - n.fst).toNat) an0).b)]) rfl rfl rfl rfl rfl rfl rfl (zah rfl (zah rfl zbr)) rfl rfl rfl (ntQ ?_)
    refine zby 12 [[], [], [], [], [3], [2, 4], [], [], [7], [6, 8], [5, 9], [0, 1]] [73, 74, 75, 76, 77, 78, 79, 80, 81, 82, 83, 84] [.slice (some ⟨g6, 0, none⟩) ((List.replicate (n.cnt).toNat (0 : Int)).length) ((List.replicate (n.cnt).toNat (0 : Int)).length), .int .i64 (k : Int), .slice (some ⟨g6, 0, none⟩) ((List.replicate (n.cnt).toNat (0 : Int)).length) ((List.replicate (n.cnt).toNat (0 : Int)).length), .pointer (some ⟨b14, 0 + 0, none⟩), .int .i64 ((n.gs.getD (((k : Int) - n.fst).toNat) an0).a), .int .i64 (bitL vs2 ((n.gs.getD (((k : Int) - n.fst).toNat) an0).a)), .slice (some ⟨g6, 0, none⟩) ((List.replicate (n.cnt).toNat (0 : Int)).length) ((List.replicate (n.cnt).toNat (0 : Int)).length), .pointer (some ⟨b14, 0 + 1, none⟩), .int .i64 ((n.gs.getD (((k : Int) - n.fst).toNat) an0).b), .int .i64 (bitL vs2 ((n.gs.getD (((k : Int) - n.fst).toNat) an0).b)), .int .i64 ((bitL vs2 ((n.gs.getD (((k : Int) - n.fst).toNat) an0).a)) * (bitL vs2 ((n.gs.getD (((k : Int) - n.fst).toNat) an0).b))), elP (.slice (some ⟨g6, 0, none⟩) ((List.replicate (n.cnt).toNat (0 : Int)).length) ((List.replicate (n.cnt).toNat (0 : Int)).length)) (((k : Int)).toNat * 1)] (by kernel_rfl) rfl ?_ ?_
    ·
     exact ⟨iaQ rfl (zas rfl) rfl, iaQ rfl (zas rfl) rfl, iaQ rfl (zas rfl) rfl, iaQ rfl (fdQ 0 rfl rfl rfl) rfl, iaQ rfl (zad rfl rfl rfl (zaa 0 rfl rfl)) rfl, .inl ⟨rfl, zaq (by kernel_rfl) rfl (fun w hm => zav (zkx vs2 ((n.gs.getD (((k : Int) - n.fst).toNat) an0).a) _ w ((zae 1 rfl) w hm) (by omega) (hv02 _ (by omega)) (by omega)))⟩, iaQ rfl (zas rfl) rfl, iaQ rfl (fdQ 1 rfl rfl rfl) rfl, iaQ rfl (zad rfl rfl rfl (zaa 0 rfl rfl)) rfl, .inl ⟨rfl, zaq (by kernel_rfl) rfl (fun w hm => zav (zkx vs2 ((n.gs.getD (((k : Int) - n.fst).toNat) an0).b) _ w ((zae 1 rfl) w hm) (by omega) (hv02 _ (by omega)) (by omega)))⟩, iaQ rfl (zfu rfl (by decide) rfl rfl (r := (bitL vs2 ((n.gs.getD (((k : Int) - n.fst).toNat) an0).a)) * (bitL vs2 ((n.gs.getD (((k : Int) - n.fst).toNat) an0).b))) (and01 (zvo hv02 (by omega) (by omega)) (zvo hv02 (by omega) (by omega)))) rfl, iaQ rfl (riQ 1 rfl rfl rfl rfl (zae 1 rfl)) rfl, trivial⟩
    simp only [List.drop_succ_cons, List.drop_zero]
    refine zda (i := 1) (n' := (vs2.set k ((bitL vs2 ((n.gs.getD (((k : Int) - n.fst).toNat) an0).a)) * (bitL vs2 ((n.gs.getD (((k : Int) - n.fst).toNat) an0).b)))).length) (xs' := ((vs2.set k ((bitL vs2 ((n.gs.getD (((k : Int) - n.fst).toNat) an0).a)) * (bitL vs2 ((n.gs.getD (((k : Int) - n.fst).toNat) an0).b)))).map (Value.int .i64))) rfl rfl rfl rfl rfl rfl rfl rfl (by first | omega | (simp only [List.length_set]; omega)) List.length_set.symm (zdd _ _ _) rfl (zbu (zcv (reQ 1 rfl (hvQ rfl (vaQ rfl rfl rfl) (enQ 1 rfl ?_)))))
    exact zbq (k + 1) (vs2.set k ((bitL vs2 ((n.gs.getD (((k : Int) - n.fst).toNat) an0).a)) * (bitL vs2 ((n.gs.getD (((k : Int) - n.fst).toNat) an0).b)))) ⟨by omega, by rw [List.length_set]; exact hvl2, zuf hv02 (mul_01 (zvo hv02 (by omega) (by omega)) (zvo hv02 (by omega) (by omega)))⟩ (by omega) (saQ rfl) (slQ [1, 0, 0, 0] rfl)
   refine zaz 1 rfl (fsQ rfl (zcv (reQ 1 rfl (hvQ rfl (vaQ rfl rfl rfl) (enQ 1 rfl ?_)))))
   exact zbq (k + 1) vs2 ⟨by omega, hvl2, hv02⟩ (by omega) (saQ rfl) (pfQ rfl)
  refine ntQ (zal rfl ?_)
  refine zba (zdq ?_)
  refine zag (zaw ?_)
  have hvb := hv01 (node).toNat (by omega)
  refine zby 10 [[], [0], [], [], [2, 3], [4], [], [5, 6], [1, 7], []] [85, 86, 87, 88, 89, 90, 91, 92, 93, 94] [.pointer (some ⟨b3, 0 + 1, none⟩), .int .i64 b, .slice (some ⟨g6, 0, none⟩) ((List.replicate (n.cnt).toNat (0 : Int)).length) ((List.replicate (n.cnt).toNat (0 : Int)).length), .int .i64 node, elP (.slice (some ⟨g6, 0, none⟩) ((List.replicate (n.cnt).toNat (0 : Int)).length) ((List.replicate (n.cnt).toNat (0 : Int)).length)) ((node).toNat * 1), .int .i64 (vs.getD ((node).toNat) 0), .int .i64 (i : Int), .int .i64 ((vs.getD (node).toNat 0) * 2 ^ i), .int .i64 (b + ((vs.getD (node).toNat 0) * 2 ^ i)), .pointer (some ⟨b3, 0 + 1, none⟩)] (by kernel_rfl) rfl ?_ ?_
  ·
   exact ⟨iaQ rfl (fdQ 1 rfl rfl rfl) rfl, iaQ rfl (zad rfl rfl rfl (zaa 1 rfl rfl)) rfl, iaQ rfl (zas rfl) rfl, iaQ rfl (zas rfl) rfl, iaQ rfl (riQ 1 rfl rfl rfl rfl (zae 0 rfl)) rfl, iaQ rfl (lzQ rfl rfl rfl (zae 0 rfl)) rfl, iaQ rfl (zas rfl) rfl, iaQ rfl (zgv (k := .i64) (kk := .i64) (r := (vs.getD (node).toNat 0) * 2 ^ i) rfl rfl rfl rfl (by omega) (zum hvb (by omega))) rfl, iaQ rfl (zjo rfl rfl rfl (by rcases hvb with e9 | e9 <;> rw [e9] <;> constructor <;> omega)) rfl, iaQ rfl (fdQ 1 rfl rfl rfl) rfl, trivial⟩
  simp only [List.drop_succ_cons, List.drop_zero]
  refine zez (i := 1) (cs' := #[.int .i64 (cut.length : Int), .int .i64 (b + ((vs.getD (node).toNat 0) * 2 ^ i))]) rfl rfl rfl rfl rfl rfl rfl rfl rfl rfl rfl (zbu (zcv (reQ 1 rfl (hvQ rfl (vaQ rfl rfl rfl) (enQ 1 rfl ?_)))))
  exact zbq (i + 1) (b + ((vs.getD (node).toNat 0) * 2 ^ i)) ⟨by omega, (znt ⟨hb0, hb1⟩ hvb).1, (znt ⟨hb0, hb1⟩ hvb).2⟩ (by omega) (saQ rfl) (slQ [1, 0, 0] rfl)
 refine ntQ (zal rfl ?_)
 refine zba (zdq ?_)
 refine zag (zaw (zac (zay (hvQ rfl (zao (cs := [.int .i64 (cut.length : Int), .int .i64 b]) rfl rfl rfl rfl rfl (zaj 0 rfl 0 rfl)) ?_))))
 refine zcc (cs' := #[.int .i64 (cut.length : Int), .int .i64 b]) (i := 1) (off := 0) (us := [.int .i64 (cut.length : Int), .int .i64 b]) rfl rfl rfl rfl rfl rfl rfl (zah rfl (zah rfl zbr)) rfl rfl rfl (ntQ ?_)
 exact zau (zdm (rs := [.cell 6 110]) (vs := [.agg #[.int .i64 (cut.length : Int), .int .i64 b]]) (post := []) rfl ⟨⟨b2, 0, [.int .i64 (cut.length : Int), .int .i64 b], rfl, rfl, by kernel_rfl, by kernel_rfl, zaj 1 rfl 0 rfl⟩, trivial⟩ rfl (slQ [] rfl) ⟨b, rfl, rfl, zvn (by omega) (by omega) ⟨hb0, hb1⟩⟩)
def ndL (to xs : List Int) : List Int := xs.map fun x => to.getD x.toNat 0
theorem zjx (to xs : List Int) : (ndL to xs).length = xs.length := by simp [ndL]
theorem ndL_at {to xs : List Int} {j : Nat} (h : j < xs.length) : (ndL to xs).getD j 0 = to.getD (xs.getD j 0).toNat 0 := by
  unfold ndL; rw [List.getD_eq_getElem?_getD, List.getElem?_map, List.getElem?_eq_getElem h, List.getD_eq_getElem?_getD (l := xs), List.getElem?_eq_getElem h]; rfl
def rtN (to no : List Int) (l : Int) : Int := if l % 2 = 0 then to.getD (l / 2).toNat 0 else no.getD (l / 2).toNat 0
def rtL (to no ls : List Int) : List Int := ls.map (rtN to no)
theorem zok (to no xs : List Int) : (rtL to no xs).length = xs.length := by simp [rtL]
theorem zlm {to no : List Int} {l : Int} (h : l % 2 = 0) : rtN to no l = to.getD (l / 2).toNat 0 := if_pos h
theorem zoj {to no : List Int} {l : Int} (h : ¬ l % 2 = 0) : rtN to no l = no.getD (l / 2).toNat 0 := if_neg h
abbrev On (bs : List Bl) (k : Int) : Prop := (bs.getD k.toNat bl0).b = true
theorem zna {bs : List Bl} {k : Int} {j : Nat} (h : On bs k) : On (bs.set j ⟨true⟩) k := by
  unfold On at *
  by_cases e : j = k.toNat
  · subst e
    by_cases hl : k.toNat < bs.length
    · rw [zeb hl]
    · rw [List.set_eq_of_length_le (by omega)]; exact h
  · rw [List.getD_eq_getElem?_getD, List.getElem?_set_ne e, ← List.getD_eq_getElem?_getD]; exact h
theorem zqd {bs : List Bl} {k : Int} {j : Nat} (hj : j = k.toNat) (h : j < bs.length) : On (bs.set j ⟨true⟩) k := by
  subst hj; unfold On; rw [zeb h]
theorem on_old {bs : List Bl} {k : Int} {j : Nat} (hj : j ≠ k.toNat) (h : On (bs.set j ⟨true⟩) k) : On bs k := by
  unfold On at *
  rwa [List.getD_eq_getElem?_getD, List.getElem?_set_ne hj, ← List.getD_eq_getElem?_getD] at h
def RtU (pos neg : List Bl) (l : Int) : Prop := (l % 2 = 0 → On pos (l / 2)) ∧ (¬ l % 2 = 0 → On neg (l / 2))
theorem RtU.pos {pos neg : List Bl} {l : Int} (h : RtU pos neg l) (j : Nat) : RtU (pos.set j ⟨true⟩) neg l := ⟨fun e => zna (h.1 e), h.2⟩
theorem RtU.neg {pos neg : List Bl} {l : Int} (h : RtU pos neg l) (j : Nat) : RtU pos (neg.set j ⟨true⟩) l := ⟨h.1, fun e => zna (h.2 e)⟩
def RtsU (pos neg : List Bl) (R : List Int) (k : Nat) : Prop := ∀ j, j < k → RtU pos neg (R.getD j 0)
theorem RtsU.even {pos neg : List Bl} {R : List Int} {k : Nat} (h : RtsU pos neg R k) {j : Nat} (hj : j = (R.getD k 0 / 2).toNat) (hl : j < pos.length) (he : R.getD k 0 % 2 = 0) : RtsU (pos.set j ⟨true⟩) neg R (k + 1) := fun q hq => by
  by_cases e : q = k
  · subst e; exact ⟨fun _ => zqd hj hl, fun h9 => absurd he h9⟩
  · exact (h q (by omega)).pos j
theorem RtsU.odd {pos neg : List Bl} {R : List Int} {k : Nat} (h : RtsU pos neg R k) {j : Nat} (hj : j = (R.getD k 0 / 2).toNat) (hl : j < neg.length) (he : ¬ R.getD k 0 % 2 = 0) : RtsU pos (neg.set j ⟨true⟩) R (k + 1) := fun q hq => by
  by_cases e : q = k
  · subst e; exact ⟨fun h9 => absurd h9 he, fun _ => zqd hj hl⟩
  · exact (h q (by omega)).neg j
theorem RtsU.set {pos neg : List Bl} {R : List Int} {k : Nat} (h : RtsU pos neg R k) (j : Nat) : RtsU (pos.set j ⟨true⟩) neg R k := fun q hq => (h q hq).pos j
def UseP (f : Int) (rs : List CRow) (pos neg : List Bl) (q : Nat) : Prop := (On pos (f + q) ∨ On neg (f + q)) → ∀ k, k < (rs.getD q crow0).xs.length → On pos ((rs.getD q crow0).xs.getD k 0)
theorem UseP.set {f : Int} {rs : List CRow} {pos neg : List Bl} {q : Nat} (h : UseP f rs pos neg q) {j : Nat} (hj : j ≠ (f + q).toNat) : UseP f rs (pos.set j ⟨true⟩) neg q := fun h9 k hk => zna (h (h9.imp (on_old hj) id) k hk)
def TosOk (pos : List Bl) (f : Int) (L : Nat) (tos : List Int) : Prop := ∀ j, j < tos.length → ((j : Int) < f ∨ On pos j) → 0 ≤ tos.getD j 0 ∧ tos.getD j 0 < f + L
theorem TosOk.nil (pos : List Bl) (f : Int) : TosOk pos f 0 [] := fun j hj => absurd hj (by simp)
theorem TosOk.app {pos : List Bl} {f x : Int} {L L' : Nat} {tos : List Int} (h : TosOk pos f L tos) (hl : L ≤ L') (hx : ((tos.length : Int) < f ∨ On pos tos.length) → 0 ≤ x ∧ x < f + L') : TosOk pos f L' (tos ++ [x]) := fun j hj hp => by
  rw [List.length_append, List.length_singleton] at hj
  by_cases e : j < tos.length
  · rw [zen e]; have := h j e hp; omega
  · have e2 : j = tos.length := by omega
    subst e2
    rw [zeo (Nat.le_refl _), Nat.sub_self]; exact hx hp
theorem TosOk.up {pos : List Bl} {f : Int} {L L' : Nat} {tos : List Int} (h : TosOk pos f L tos) (hl : L ≤ L') : TosOk pos f L' tos := fun j hj hp => by have := h j hj hp; omega
def NosOk (neg : List Bl) (f : Int) (L k : Nat) (nos : List Int) : Prop := ∀ j, j < k → On neg j → 0 ≤ nos.getD j 0 ∧ nos.getD j 0 < f + L
theorem NosOk.skip {neg : List Bl} {f : Int} {L k : Nat} {nos : List Int} (h : NosOk neg f L k nos) (hn : (neg.getD k bl0).b = false) : NosOk neg f L (k + 1) nos := fun j hj ho => by
  by_cases e : j = k
  · subst e; unfold On at ho; rw [Int.toNat_natCast, hn] at ho; cases ho
  · exact h j (by omega) ho
theorem NosOk.put {neg : List Bl} {f x : Int} {L L' k : Nat} {nos : List Int} (h : NosOk neg f L k nos) (hk : k < nos.length) (hl : L ≤ L') (hx : 0 ≤ x ∧ x < f + L') : NosOk neg f L' (k + 1) (nos.set k x) := fun j hj ho => by
  by_cases e : j = k
  · subst e; rw [zeb hk]; exact hx
  · rw [List.getD_eq_getElem?_getD, List.getElem?_set_ne (by omega), ← List.getD_eq_getElem?_getD]
    have := h j (by omega) ho; omega
def LutsOk (f : Int) (ls : List Lt) : Prop := ∀ i, i < ls.length → LutP (f + i) (ls.getD i lt0)
theorem LutsOk.nil (f : Int) : LutsOk f [] := fun i hi => absurd hi (by simp)
theorem LutsOk.app {f : Int} {ls : List Lt} {x : Lt} (h : LutsOk f ls) (hx : LutP (f + ls.length) x) : LutsOk f (ls ++ [x]) := fun j hj => by
  rw [List.length_append, List.length_singleton] at hj
  by_cases e : j < ls.length
  · rw [zen e]; exact h j e
  · have e2 : j = ls.length := by omega
    subst e2
    rw [zeo (Nat.le_refl _), Nat.sub_self]; exact hx
theorem tabP_of {t : Tab} (h : TabOk t) {n : Int} (hn : t.N = n) : TabP n t.B := by subst hn; exact h
theorem LutP.one {f k : Int} {v : Value} (h0 : 0 ≤ k) (h1 : k < f) : LutP f (Lt.mk v [k] 1) := ⟨⟨by simp, fun j hj => by
  have : j = 0 := by simp at hj; omega
  subst this; exact ⟨h0, h1⟩⟩, by show TabP 1 1; unfold TabP; decide⟩
theorem LutP.none {f : Int} {v : Value} : LutP f (Lt.mk v [] 1) := ⟨⟨by simp, fun j hj => absurd hj (by simp)⟩, by show TabP 0 1; unfold TabP; decide⟩
theorem zre {pos : List Bl} {f : Int} {L : Nat} {tos xs : List Int} (h : TosOk pos f L tos) (hx : ∀ k, k < xs.length → 0 ≤ xs.getD k 0 ∧ xs.getD k 0 < tos.length) (ho : ∀ k, k < xs.length → On pos (xs.getD k 0)) : BelowP (ndL tos xs) (f + L) := fun j hj => by
  rw [zjx] at hj
  rw [ndL_at hj]
  have h1 := hx j hj
  have h2 := ho j hj
  exact h _ (by omega) (.inr (by unfold On at *; rwa [Int.toNat_natCast]))
theorem ndL_app {tos xs : List Int} {x : Int} (hx : ∀ k, k < xs.length → 0 ≤ xs.getD k 0 ∧ xs.getD k 0 < tos.length) : ndL (tos ++ [x]) xs = ndL tos xs := by
  unfold ndL
  refine List.map_congr_left fun y hy => ?_
  obtain ⟨i, hi, rfl⟩ := List.mem_iff_getElem.1 hy
  have := hx i hi
  rw [List.getD_eq_getElem?_getD, List.getElem?_eq_getElem hi] at this
  exact zen (by simp only [Option.getD_some] at this; omega)
theorem ztd {t : Tab} {f : Int} {v : Value} {xs : List Int} (ht : TabOk t) (hn : t.N = xs.length) (h4 : xs.length ≤ 4) (hb : BelowP xs f) : LutP f (Lt.mk v xs t.B) := ⟨⟨h4, hb⟩, tabP_of ht hn⟩
theorem zrd {pos neg : List Bl} {f c : Int} {L : Nat} {tos nos ls : List Int} (h : TosOk pos f L tos) (h2 : NosOk neg f L nos.length nos) (hl : (tos.length : Int) = c) (hl2 : (nos.length : Int) = c) (hx : ∀ l ∈ ls, LtOk l c ∧ RtU pos neg l) : BelowP (rtL tos nos ls) (f + L) := fun j hj => by
  rw [zok] at hj
  have h9 := hx _ (zbl (d := (0 : Int)) hj)
  have e : (rtL tos nos ls).getD j 0 = rtN tos nos (ls.getD j 0) := by
    unfold rtL; rw [List.getD_eq_getElem?_getD, List.getElem?_map, List.getElem?_eq_getElem hj, List.getD_eq_getElem?_getD (l := ls), List.getElem?_eq_getElem hj]; rfl
  rw [e]
  obtain ⟨h91, h92⟩ := h9
  unfold LtOk at h91
  by_cases he : ls.getD j 0 % 2 = 0
  · rw [zlm he]
    have := h92.1 he
    exact h _ (by omega) (.inr (by unfold On at *; rwa [Int.toNat_natCast]))
  · rw [zoj he]
    have := h92.2 he
    exact h2 _ (by omega) (by unfold On at *; rwa [Int.toNat_natCast])
theorem RtsU.all {pos neg : List Bl} {R : List Int} (h : RtsU pos neg R R.length) : ∀ l ∈ R, RtU pos neg l := fun l hl => by
  obtain ⟨i, hi, rfl⟩ := List.mem_iff_getElem.1 hl
  have := h i hi
  rwa [List.getD_eq_getElem?_getD, List.getElem?_eq_getElem hi] at this
theorem rts_os {n : Nt} {l : Int} (h : l ∈ n.os) : l ∈ rtsL n n.ss.length := by unfold rtsL; exact List.mem_append.2 (.inl h)
theorem rts_sq {n : Nt} {s : Sq} (hs : s ∈ n.ss) {l : Int} (h : l ∈ s.xs) : l ∈ rtsL n n.ss.length := by
  unfold rtsL; rw [List.take_length]; exact List.mem_append.2 (.inr (List.mem_flatMap.2 ⟨s, hs, h⟩))
def RdsLuts (w : World) (ls : List Lt) : Prop := ∀ r ∈ ls, RdsW w r.iv 1 r.xs.length (r.xs.map (Value.int .i64))
theorem RdsLuts.nil (w : World) : RdsLuts w [] := fun r hr => by cases hr
theorem RdsLuts.app {w : World} {ls : List Lt} {r : Lt} (h : RdsLuts w ls) (hr : RdsW w r.iv 1 r.xs.length (r.xs.map (Value.int .i64))) : RdsLuts w (ls ++ [r]) := fun q hq => by
  rcases List.mem_append.1 hq with hq | hq
  · exact h q hq
  · rw [List.mem_singleton] at hq; subst hq; exact hr
def SqsN (c : Int) (ss : List Sq) : Prop := ∀ k, k < ss.length → SqOk (ss.getD k sq0) ∧ BelowP (ss.getD k sq0).xs c
theorem SqsN.nil (c : Int) : SqsN c [] := fun i hi => absurd hi (by simp)
theorem SqsN.app {c : Int} {ss : List Sq} {x : Sq} (h : SqsN c ss) (h1 : SqOk x) (h2 : BelowP x.xs c) : SqsN c (ss ++ [x]) := fun j hj => by
  rw [List.length_append, List.length_singleton] at hj
  by_cases e : j < ss.length
  · rw [zen e]; exact h j e
  · have e2 : j = ss.length := by omega
    subst e2
    rw [zeo (Nat.le_refl _), Nat.sub_self]; exact ⟨h1, h2⟩
theorem zul {s : Sq} (h : SqOk s) {xs : List Int} (hl : xs.length = s.xs.length) (v : Value) : SqOk (Sq.mk s.kd s.it v xs) := ⟨by rw [show (Sq.mk s.kd s.it v xs).xs.length = s.xs.length from hl]; exact h.kind⟩
def ln00 : Ln := Ln.mk 0 (.slice none 0 0) (.slice none 0 0) (.slice none 0 0) [] [] []
theorem ln00_ok : LnOk ln00 := ⟨⟨by decide, by decide, by decide, by decide⟩, fun j hj => absurd hj (by simp [ln00]), fun j hj => absurd hj (by simp [ln00]), fun j hj => absurd hj (by simp [ln00])⟩
theorem ln_mk {n : Nt} {sv lv ov : Value} {ss : List Sq} {ls : List Lt} {os : List Int} (hn : NtOk n) (hs : ss.length = n.ss.length) (hl : ls.length ≤ 400) (ho : os.length ≤ 16) (h1 : BelowP os (n.fst + ls.length)) (h2 : SqsN (n.fst + ls.length) ss) (h3 : LutsOk n.fst ls) : LnOk (Ln.mk n.ins sv lv ov ss ls os) := by
  have e1 : (Ln.mk n.ins sv lv ov ss ls os).cnt = n.fst + ls.length := by show 1 + n.ins + (ss.length : Int) + ls.length = 1 + n.ins + (n.ss.length : Int) + ls.length; rw [hs]
  have e2 : (Ln.mk n.ins sv lv ov ss ls os).fst = n.fst := by show 1 + n.ins + (ss.length : Int) = 1 + n.ins + (n.ss.length : Int); rw [hs]
  exact ⟨⟨⟨hn.i0, hn.i1⟩, by rw [hs]; exact hn.s1, hl, ho⟩, by rw [e1]; exact h1, fun k hk => by rw [e1]; exact h2 k hk, fun i hi => by rw [e2]; exact h3 i hi⟩
theorem zld (x0 : Value) (x1 : Int) (h0 : x0.oneCell' = true) : Try.prog.built 107 [(0, x0), (1, .int .i64 x1)] = some #[x0, .int .i64 x1] := by
  (cases x0 <;> first | (exact absurd h0 Bool.false_ne_true) | kernel_rfl)
theorem ziv (to xs : List Int) (u v : Value) (w : World) (hu : RdsW w u 1 to.length (to.map (Value.int .i64))) (hv : RdsW w v 1 xs.length (xs.map (Value.int .i64))) (hx : ∀ k, k < xs.length → 0 ≤ xs.getD k 0 ∧ xs.getD k 0 < to.length) (hl : xs.length ≤ 1000) :
   Calls Try.prog 101 #[u, v] w (Ret w (fun v' post => post = [rowE 3 1 v' ((ndL to xs)).length (((ndL to xs)).map (Value.int .i64))])) := by
 have hsu := sml hu
 refine zbf (N := 25) (args := [u, v]) Try.func101 rfl rfl (zbd 1 rfl (srQ ?_))
 refine zdk rfl (zbz (s := 1) rfl Try.underlying28 rfl) ?_
 intro g1
 refine zaz 1 rfl (zac (zbd 1 rfl (zax ?_)))
 refine zgn (α := Nat) (β := Value) (γ := List Int) [0, 1, 4] rfl (fun i gu zs => [rowE 3 1 gu zs.length (zs.map (Value.int .i64))]) (fun i gu zs => [(5, gu), (6, .int .i64 (i : Int))]) (fun i gu zs => i ≤ xs.length ∧ zs = ndL to (xs.take i)) (fun i gu zs => xs.length - i) 0 _ [] ⟨by omega, rfl⟩ (saQ rfl) (pfQ rfl) ?_
 intro i gu zs hi2
 obtain ⟨hi, hz⟩ := hi2
 have hzl : zs.length = i := by rw [hz]; unfold ndL; rw [List.length_map, List.length_take]; omega
 refine zac (zac (reQ 2 rfl (hvQ rfl (lnQ rfl rfl rfl (zab hv)) ?_)))
 refine zbj rfl rfl rfl rfl rfl rfl (fun h3 => ?_) (fun h3 => ?_)
 ·
  refine ntQ (zak rfl (zcq (sbQ (zay ?_))))
  have hxi := hx i (by omega)
  refine zap 4 rfl (hvQ rfl (riQ 1 rfl rfl rfl rfl (zab hv)) (hvQ rfl (liQ rfl rfl rfl (zab hv)) (hvQ rfl (riQ 1 rfl rfl rfl rfl (zab hu)) (hvQ rfl (lzQ rfl rfl rfl (zab hu)) ?_))))
  refine zdk rfl (zat (z := .int .i64 0) (s := 1) (cs := ([to.getD ((xs.getD i 0).toNat) 0].map (Value.int .i64))) rfl Try.underlying28 rfl (by decide) rfl (by kernel_rfl) rfl) ?_
  intro g4
  refine zcd (i := 1) (z := .int .i64 0) (bytes := 8) rfl rfl rfl rfl Try.underlying28 (by kernel_rfl) rfl rfl rfl rfl (zae 0 rfl) (zbm _) (by first | omega | (simp; done) | (simp; omega)) (zbv zs ([to.getD ((xs.getD i 0).toNat) 0])) (zcm zs ([to.getD ((xs.getD i 0).toNat) 0])) (fun _ => rfl) ?_
  intro v5
  refine enQ 1 rfl (zcv (reQ 1 rfl (hvQ rfl (vaQ rfl rfl rfl) (enQ 1 rfl ?_))))
  exact zbi (i + 1) v5 (zs ++ ([to.getD ((xs.getD i 0).toNat) 0])) ⟨by omega, by rw [hz]; unfold ndL; rw [zdb 0 (show i < xs.length by omega), List.map_append]; rfl⟩ (by omega) (saQ rfl) (slQ [1] rfl)
 refine ntQ (zal rfl ?_)
 refine zba (zdq ?_)
 refine zag (zaw (zbd 2 rfl ?_))
 exact zau (zck (post := [rowE 3 1 gu zs.length (zs.map (Value.int .i64))]) rfl rfl (pfQ rfl) (by rw [hz, List.take_of_length_le (by omega)]))
theorem ziu (to no xs : List Int) (u t v : Value) (w : World) (hu : RdsW w u 1 to.length (to.map (Value.int .i64))) (ht : RdsW w t 1 no.length (no.map (Value.int .i64))) (hv : RdsW w v 1 xs.length (xs.map (Value.int .i64))) (hx : ∀ k, k < xs.length → 0 ≤ xs.getD k 0 ∧ xs.getD k 0 < 2 * to.length) (hl : xs.length ≤ 1000) (hto : to.length ≤ 1000 ∧ no.length = to.length) :
   Calls Try.prog 103 #[u, t, v] w (Ret w (fun v' post => post = [rowE 3 1 v' ((rtL to no xs)).length (((rtL to no xs)).map (Value.int .i64))])) := by
 refine zbf (N := 45) (args := [u, t, v]) Try.func103 rfl rfl (zbd 1 rfl (srQ ?_))
 refine zdk rfl (zbz (s := 1) rfl Try.underlying28 rfl) ?_
 intro g1
 refine zaz 1 rfl (zac (zbd 1 rfl (zax ?_)))
 refine zgn (α := Nat) (β := Value) (γ := List Int) [0, 1, 2, 6] rfl (fun i gu zs => [rowE 3 1 gu zs.length (zs.map (Value.int .i64))]) (fun i gu zs => [(7, gu), (8, .int .i64 (i : Int))]) (fun i gu zs => i ≤ xs.length ∧ zs = rtL to no (xs.take i)) (fun i gu zs => xs.length - i) 0 _ [] ⟨by omega, rfl⟩ (saQ rfl) (pfQ rfl) ?_
 intro i gu zs hi2
 obtain ⟨hi, hz⟩ := hi2
 have hzl : zs.length = i := by rw [hz]; unfold rtL; rw [List.length_map, List.length_take]; omega
 refine zac (zac (reQ 2 rfl (hvQ rfl (lnQ rfl rfl rfl (zab hv)) ?_)))
 refine zbj rfl rfl rfl rfl rfl rfl (fun h3 => ?_) (fun h3 => ?_)
 ·
  refine ntQ (zak rfl (zcq (sbQ (srQ ?_))))
  have hxi := hx i (by omega)
  refine zap 2 rfl (hvQ rfl (riQ 1 rfl rfl rfl rfl (zab hv)) (hvQ rfl (liQ rfl rfl rfl (zab hv)) (hvQ rfl (zhl rfl rfl rfl (by constructor <;> omega)) ?_)))
  refine zbp rfl rfl rfl rfl rfl rfl (fun h4 => ?_) (fun h4 => ?_)
  ·
   refine ntQ (zak rfl (reQ 4 rfl (hvQ rfl (riQ 1 rfl rfl rfl rfl (zab hv)) (hvQ rfl (liQ rfl rfl rfl (zab hv)) ?_))))
   refine hvQ rfl (zeu rfl rfl rfl (by refine ⟨?_, ?_, ?_⟩ <;> omega)) ?_
   refine hvQ rfl (riQ 1 rfl rfl rfl rfl (zab hu)) (hvQ rfl (lzQ rfl rfl rfl (zab hu)) ?_)
   refine zdk rfl (zat (z := .int .i64 0) (s := 1) (cs := ([to.getD (((xs.getD i 0) / 2).toNat) 0].map (Value.int .i64))) rfl Try.underlying28 rfl (by decide) rfl (by kernel_rfl) rfl) ?_
   intro g5
   refine zcd (i := 1) (z := .int .i64 0) (bytes := 8) rfl rfl rfl rfl Try.underlying28 (by kernel_rfl) rfl rfl rfl rfl (zae 0 rfl) (zbm _) (by first | omega | (simp; done) | (simp; omega)) (zbv zs ([to.getD (((xs.getD i 0) / 2).toNat) 0])) (zcm zs ([to.getD (((xs.getD i 0) / 2).toNat) 0])) (fun _ => rfl) ?_
   intro v6
   refine enQ 1 rfl (zcv (reQ 1 rfl (hvQ rfl (vaQ rfl rfl rfl) (enQ 1 rfl ?_))))
   exact zbi (i + 1) v6 (zs ++ ([to.getD (((xs.getD i 0) / 2).toNat) 0])) ⟨by omega, by rw [hz]; unfold rtL; rw [zdb 0 (show i < xs.length by omega), List.map_append]; first | (rw [← zlm (to := to) (no := no) (by assumption)]; rfl) | (rw [← zoj (to := to) (no := no) (by assumption)]; rfl)⟩ (by omega) (saQ rfl) (slQ [1] rfl)
  refine ntQ (zal rfl (reQ 4 rfl (hvQ rfl (riQ 1 rfl rfl rfl rfl (zab hv)) (hvQ rfl (liQ rfl rfl rfl (zab hv)) ?_))))
  refine hvQ rfl (zeu rfl rfl rfl (by refine ⟨?_, ?_, ?_⟩ <;> omega)) ?_
  refine hvQ rfl (riQ 1 rfl rfl rfl rfl (zab ht)) (hvQ rfl (lzQ rfl rfl rfl (zab ht)) ?_)
  refine zdk rfl (zat (z := .int .i64 0) (s := 1) (cs := ([no.getD (((xs.getD i 0) / 2).toNat) 0].map (Value.int .i64))) rfl Try.underlying28 rfl (by decide) rfl (by kernel_rfl) rfl) ?_
  intro g7
  refine zcd (i := 1) (z := .int .i64 0) (bytes := 8) rfl rfl rfl rfl Try.underlying28 (by kernel_rfl) rfl rfl rfl rfl (zae 0 rfl) (zbm _) (by first | omega | (simp; done) | (simp; omega)) (zbv zs ([no.getD (((xs.getD i 0) / 2).toNat) 0])) (zcm zs ([no.getD (((xs.getD i 0) / 2).toNat) 0])) (fun _ => rfl) ?_
  intro v8
  refine enQ 1 rfl (zcv (reQ 1 rfl (hvQ rfl (vaQ rfl rfl rfl) (enQ 1 rfl ?_))))
  exact zbi (i + 1) v8 (zs ++ ([no.getD (((xs.getD i 0) / 2).toNat) 0])) ⟨by omega, by rw [hz]; unfold rtL; rw [zdb 0 (show i < xs.length by omega), List.map_append]; first | (rw [← zlm (to := to) (no := no) (by assumption)]; rfl) | (rw [← zoj (to := to) (no := no) (by assumption)]; rfl)⟩ (by omega) (saQ rfl) (slQ [1] rfl)
 refine ntQ (zal rfl ?_)
 refine zba (zdq ?_)
 refine zag (zaw (zbd 2 rfl ?_))
 exact zau (zck (post := [rowE 3 1 gu zs.length (zs.map (Value.int .i64))]) rfl rfl (pfQ rfl) (by rw [hz, List.take_of_length_le (by omega)]))
theorem zrz (n : Nt) (rs : List CRow) (v : Value) (w : World) (hr : RdsNt w n) (hn : NtOk n) (hv : RdsCl w v rs) (h400 : ∀ r ∈ rs, r.xs.length ≤ 400) (hg100 : n.gs.length ≤ 100) :
   Calls Try.prog 61 #[.agg #[.int .i64 n.ins, n.sv, n.av, n.ov], v] w (Ret w (fun u_ p_ => ∃ (ps : List HP) (m : Ln) (b : Bool), u_ = .tuple #[m.agg, .bool b] ∧ p_ = [bigE ps] ∧ (∀ w, (bigE ps).holds w → RdsLn w m) ∧ (m.sv.oneCell' = true ∧ m.lv.oneCell' = true ∧ m.ov.oneCell' = true) ∧ LnOk m)) := by
 have hi0 := hn.i0
 have hi1 := hn.i1
 have hs1 := hn.s1
 have ha1 := hn.a1
 have ho1 := hn.o1
 have hcnt : n.cnt = 1 + n.ins + n.ss.length + n.gs.length := rfl
 have hfst : n.fst = 1 + n.ins + n.ss.length := rfl
 have hrt := zio hn n.ss.length (Nat.le_refl _)
 refine zbf (N := 259) (args := [.agg #[.int .i64 n.ins, n.sv, n.av, n.ov], v]) Try.func61 rfl rfl (srQ ?_)
 refine zdj rfl (zch rfl rfl) ?_
 intro b1
 refine zdj rfl (zbx (z := .agg #[.int .i64 0, .slice none 0 0, .slice none 0 0, .slice none 0 0]) rfl rfl) ?_
 intro b2
 refine zaz 1 rfl (zeh (hvQ rfl (zao (cs := [.int .i64 n.ins, n.sv, n.av, n.ov]) rfl rfl rfl rfl rfl (zaj 1 rfl 0 rfl)) (zap 1 rfl ?_)))
 refine zds rfl (zaq rfl rfl (fun w hm => zav (zmp n rs _ w (hr.below hm.bel) hn (hv.below hm.bel) h400))) (zca (fun h3 => ?_) (fun h3 => ?_))
 ·
  have hmp := zwh h3
  have hmpl := hmp.len
  refine zaz 1 rfl (zal rfl (zcq (srQ (hvQ rfl (zao (cs := [.int .i64 n.ins, n.sv, n.av, n.ov]) rfl rfl rfl rfl rfl (zaj 1 rfl 0 rfl)) ?_))))
  refine zds rfl (zaq rfl rfl (fun w hm => zav (zcb n w (hr.below hm.bel) hn))) (zaz 1 rfl (srQ (hvQ rfl (zao (cs := [.int .i64 n.ins, n.sv, n.av, n.ov]) rfl rfl rfl rfl rfl (zaj 1 rfl 0 rfl)) ?_)))
  refine zds rfl (zaq rfl rfl (fun w hm => zav (zcl n w (hr.below hm.bel) hn))) (zaz 1 rfl (zac (reQ 1 rfl ?_)))
  refine zdk rfl (zdw (z := .bool false) (s := 1) (bytes := 1) (n := (List.replicate (n.cnt).toNat bl0).length) (cs := ((List.replicate (n.cnt).toNat bl0).flatMap blC)) rfl Try.underlying130 rfl (by decide) rfl rfl (by first | (rw [List.length_replicate]; done) | (rw [List.length_replicate]; omega)) (by first | (rw [List.length_replicate]; done) | (rw [List.length_replicate]; omega)) (by rw [List.length_replicate]; omega) (zex blC 1 (fun _ => rfl) bl0 _ rfl (n.cnt).toNat)) ?_
  intro g4
  refine zaz 1 rfl (zac (reQ 1 rfl ?_))
  refine zdk rfl (zdw (z := .bool false) (s := 1) (bytes := 1) (n := (List.replicate (n.cnt).toNat bl0).length) (cs := ((List.replicate (n.cnt).toNat bl0).flatMap blC)) rfl Try.underlying130 rfl (by decide) rfl rfl (by first | (rw [List.length_replicate]; done) | (rw [List.length_replicate]; omega)) (by first | (rw [List.length_replicate]; done) | (rw [List.length_replicate]; omega)) (by rw [List.length_replicate]; omega) (zex blC 1 (fun _ => rfl) bl0 _ rfl (n.cnt).toNat)) ?_
  intro g5
  refine zaz 1 rfl (srQ (hvQ rfl (zao (cs := [.int .i64 n.ins, n.sv, n.av, n.ov]) rfl rfl rfl rfl rfl (zaj 3 rfl 0 rfl)) ?_))
  refine zfg rfl rfl rfl (zaq rfl rfl (fun w hm => zgx n w (hr.below hm.bel) hn)) ?_
  intro v6 p7 hR8
  subst hR8
  refine zaz 1 rfl (zac (zbd 1 rfl (zax ?_)))
  refine zgn (α := Nat) (β := List Bl) (γ := List Bl) [0, 1, 2, 4, 5, 6, 7, 8, 9, 10, 27] rfl (fun i ps ng => [rowE 3 1 v6 ((rtsL n n.ss.length).length) ((rtsL n n.ss.length).map (Value.int .i64)), rowE 4 1 (.slice (some ⟨g5, 0, none⟩) ((List.replicate (n.cnt).toNat bl0).length) ((List.replicate (n.cnt).toNat bl0).length)) ng.length (ng.flatMap blC), rowE 4 1 (.slice (some ⟨g4, 0, none⟩) ((List.replicate (n.cnt).toNat bl0).length) ((List.replicate (n.cnt).toNat bl0).length)) ps.length (ps.flatMap blC), boxE b2 #[.int .i64 0, .slice none 0 0, .slice none 0 0, .slice none 0 0] 30, boxE b1 #[.int .i64 n.ins, n.sv, n.av, n.ov] 86]) (fun i ps ng => [(11, .int .i64 (i : Int))]) (fun i ps ng => i ≤ (rtsL n n.ss.length).length ∧ ps.length = n.cnt.toNat ∧ ng.length = n.cnt.toNat ∧ RtsU ps ng (rtsL n n.ss.length) i) (fun i ps ng => (rtsL n n.ss.length).length - i) 0 _ _ ⟨Nat.zero_le _, by rw [List.length_replicate], by rw [List.length_replicate], fun j hj => absurd hj (Nat.not_lt_zero _)⟩ (saQ rfl) (pfQ rfl) ?_
  intro i ps ng hi9
  obtain ⟨hi, hpl, hnl, hru⟩ := hi9
  refine zac (zac (reQ 2 rfl (hvQ rfl (lnQ rfl rfl rfl (zae 0 rfl)) ?_)))
  refine zbj rfl rfl rfl rfl rfl rfl (fun h10 => ?_) (fun h10 => ?_)
  ·
   refine ntQ (zak rfl (zcq (sbQ (srQ ?_))))
   have hlk := zsr hn (i := i) (by omega)
   unfold LtOk at hlk
   refine zap 2 rfl (hvQ rfl (riQ 1 rfl rfl rfl rfl (zae 0 rfl)) (hvQ rfl (zar (u := .int .i64 ((rtsL n n.ss.length).getD i 0)) rfl rfl rfl (zae 0 rfl) (zbn (show _ < (rtsL n n.ss.length).length by omega))) (hvQ rfl (zhl rfl rfl rfl (by constructor <;> omega)) ?_)))
   refine zbp rfl rfl rfl rfl rfl rfl (fun h11 => ?_) (fun h11 => ?_)
   ·
    refine ntQ (zak rfl (reQ 3 rfl (hvQ rfl (riQ 1 rfl rfl rfl rfl (zae 0 rfl)) (hvQ rfl (zar (u := .int .i64 ((rtsL n n.ss.length).getD i 0)) rfl rfl rfl (zae 0 rfl) (zbn (show _ < (rtsL n n.ss.length).length by omega))) ?_))))
    refine hvQ rfl (zeu rfl rfl rfl (by refine ⟨?_, ?_, ?_⟩ <;> omega)) ?_
    refine hvQ rfl (riQ 1 rfl rfl rfl rfl (zae 2 rfl)) (zda (i := 2) (n' := (ps.set ((((rtsL n n.ss.length).getD i 0) / 2).toNat) { ps.getD ((((rtsL n n.ss.length).getD i 0) / 2).toNat) bl0 with b := true }).length) rfl rfl rfl rfl rfl rfl rfl rfl (by first | omega | (simp only [List.length_set]; omega)) List.length_set.symm (zdl blC (fun r => .bool r.b) (fun _ => rfl) _ ({ ps.getD ((((rtsL n n.ss.length).getD i 0) / 2).toNat) bl0 with b := true }) rfl) rfl ?_)
    refine zbu (zcv (reQ 1 rfl (hvQ rfl (vaQ rfl rfl rfl) (enQ 1 rfl ?_))))
    exact zbi (i + 1) (ps.set ((((rtsL n n.ss.length).getD i 0) / 2).toNat) { ps.getD ((((rtsL n n.ss.length).getD i 0) / 2).toNat) bl0 with b := true }) ng ⟨by omega, by rw [List.length_set]; exact hpl, hnl, hru.even rfl (by omega) (by assumption)⟩ (by omega) (saQ rfl) (pfQ rfl)
   refine ntQ (zal rfl (reQ 3 rfl (hvQ rfl (riQ 1 rfl rfl rfl rfl (zae 0 rfl)) (hvQ rfl (zar (u := .int .i64 ((rtsL n n.ss.length).getD i 0)) rfl rfl rfl (zae 0 rfl) (zbn (show _ < (rtsL n n.ss.length).length by omega))) ?_))))
   refine hvQ rfl (zeu rfl rfl rfl (by refine ⟨?_, ?_, ?_⟩ <;> omega)) ?_
   refine hvQ rfl (riQ 1 rfl rfl rfl rfl (zae 1 rfl)) (zda (i := 1) (n' := (ng.set ((((rtsL n n.ss.length).getD i 0) / 2).toNat) { ng.getD ((((rtsL n n.ss.length).getD i 0) / 2).toNat) bl0 with b := true }).length) rfl rfl rfl rfl rfl rfl rfl rfl (by first | omega | (simp only [List.length_set]; omega)) List.length_set.symm (zdl blC (fun r => .bool r.b) (fun _ => rfl) _ ({ ng.getD ((((rtsL n n.ss.length).getD i 0) / 2).toNat) bl0 with b := true }) rfl) rfl ?_)
   refine zbu (zcv (reQ 1 rfl (hvQ rfl (vaQ rfl rfl rfl) (enQ 1 rfl ?_))))
   exact zbi (i + 1) ps (ng.set ((((rtsL n n.ss.length).getD i 0) / 2).toNat) { ng.getD ((((rtsL n n.ss.length).getD i 0) / 2).toNat) bl0 with b := true }) ⟨by omega, hpl, by rw [List.length_set]; exact hnl, hru.odd rfl (by omega) (by assumption)⟩ (by omega) (saQ rfl) (pfQ rfl)
  refine ntQ (zal rfl ?_)
  refine zba (zdq ?_)
  refine zag (zaw (zac (zac (reQ 1 rfl (hvQ rfl (lnQ rfl rfl rfl (zab hv.row)) (hvQ rfl (vsQ rfl rfl rfl) (zaz 1 rfl (zax ?_))))))))
  refine zhy (α := Int) (β := List Bl) [0, 1, 2, 4, 5, 6, 7, 8, 9, 10, 27, 42] rfl (fun c9 p2 => [rowE 3 1 v6 ((rtsL n n.ss.length).length) ((rtsL n n.ss.length).map (Value.int .i64)), rowE 4 1 (.slice (some ⟨g5, 0, none⟩) ((List.replicate (n.cnt).toNat bl0).length) ((List.replicate (n.cnt).toNat bl0).length)) ng.length (ng.flatMap blC), rowE 4 1 (.slice (some ⟨g4, 0, none⟩) ((List.replicate (n.cnt).toNat bl0).length) ((List.replicate (n.cnt).toNat bl0).length)) p2.length (p2.flatMap blC), boxE b2 #[.int .i64 0, .slice none 0 0, .slice none 0 0, .slice none 0 0] 30, boxE b1 #[.int .i64 n.ins, n.sv, n.av, n.ov] 86]) (fun c9 p2 => [(12, .int .i64 c9)]) (fun c9 p2 => -1 ≤ c9 ∧ c9 < (rs.length : Int) ∧ p2.length = n.cnt.toNat ∧ RtsU p2 ng (rtsL n n.ss.length) (rtsL n n.ss.length).length ∧ ∀ q : Nat, c9 < q → q < rs.length → UseP n.fst rs p2 ng q) (fun c9 p2 => (c9 + 1).toNat) _ _ ⟨by omega, by omega, hpl, (by rw [show i = (rtsL n n.ss.length).length by omega] at hru; exact hru), fun q h1 h2 => absurd h1 (by omega)⟩ (saQ rfl) (pfQ rfl) ?_
  intro c9 p2 hi12
  obtain ⟨hc0, hc1, hpl2, hru2, hus2⟩ := hi12
  refine zac (zac (reQ 1 rfl ?_))
  refine zdi rfl rfl rfl rfl rfl rfl (fun h13 => ?_) (fun h13 => ?_)
  ·
   refine ntQ (zak rfl (zcq (sbQ (zbd 1 rfl ?_))))
   refine zax ?_
   refine zhy (α := Nat) (β := List Bl) [0, 1, 2, 4, 5, 6, 7, 8, 9, 10, 12, 27, 42, 69] rfl (fun k9 p3 => [rowE 3 1 v6 ((rtsL n n.ss.length).length) ((rtsL n n.ss.length).map (Value.int .i64)), rowE 4 1 (.slice (some ⟨g5, 0, none⟩) ((List.replicate (n.cnt).toNat bl0).length) ((List.replicate (n.cnt).toNat bl0).length)) ng.length (ng.flatMap blC), rowE 4 1 (.slice (some ⟨g4, 0, none⟩) ((List.replicate (n.cnt).toNat bl0).length) ((List.replicate (n.cnt).toNat bl0).length)) p3.length (p3.flatMap blC), boxE b2 #[.int .i64 0, .slice none 0 0, .slice none 0 0, .slice none 0 0] 30, boxE b1 #[.int .i64 n.ins, n.sv, n.av, n.ov] 86]) (fun k9 p3 => [(13, .int .i64 (k9 : Int))]) (fun k9 p3 => k9 ≤ (rs.getD ((c9).toNat) crow0).xs.length ∧ p3.length = n.cnt.toNat ∧ RtsU p3 ng (rtsL n n.ss.length) (rtsL n n.ss.length).length ∧ (∀ q : Nat, c9 < q → q < rs.length → UseP n.fst rs p3 ng q) ∧ ∀ j, j < k9 → On p3 ((rs.getD ((c9).toNat) crow0).xs.getD j 0)) (fun k9 p3 => (rs.getD ((c9).toNat) crow0).xs.length - k9) 0 _ ⟨Nat.zero_le _, hpl2, hru2, hus2, fun j hj => absurd hj (Nat.not_lt_zero _)⟩ (saQ rfl) (pfQ rfl) ?_
   intro k9 p3 hi14
   obtain ⟨hk9, hpl3, hru3, hus3, hon⟩ := hi14
   have hx4 := h400 _ (zey (es := rs) (i := c9.toNat) (d := crow0) (by omega))
   refine zac (zac (reQ 3 rfl (hvQ rfl (riQ 1 rfl rfl rfl rfl (zab hv.row)) ?_)))
   refine hvQ rfl (zar (u := (rs.getD ((c9).toNat) crow0).v) rfl rfl rfl (zab hv.row) (zcu crowC (fun r => r.v) (fun _ => rfl) rs crow0 (show (c9).toNat < _ by omega))) (hvQ rfl (lnQ rfl rfl rfl (zab (hv.at (k := ((c9).toNat)) (by omega)))) ?_)
   refine zbj rfl rfl rfl rfl rfl rfl (fun h15 => ?_) (fun h15 => ?_)
   ·
    refine zap 4 rfl (hvQ rfl (vaQ rfl rfl rfl) (hvQ rfl (riQ 1 rfl rfl rfl rfl (zae 2 rfl)) ?_))
    refine hvQ rfl (zar (u := .bool ((p3.getD ((n.fst + c9).toNat) bl0).b)) rfl rfl rfl (zae 2 rfl) (zcu blC (fun r => .bool r.b) (fun _ => rfl) p3 bl0 (show (n.fst + c9).toNat < _ by omega))) (zca (fun h16 => ?_) (fun h16 => ?_))
    ·
     refine zaz 9 rfl (zak rfl (zcq (sbQ (zay ?_))))
     have hbk := hmp.below hn (i := c9.toNat) (by omega) (k := k9) (by omega)
     refine zap 3 rfl (hvQ rfl (riQ 1 rfl rfl rfl rfl (zab hv.row)) ?_)
     refine hvQ rfl (zar (u := (rs.getD ((c9).toNat) crow0).v) rfl rfl rfl (zab hv.row) (zcu crowC (fun r => r.v) (fun _ => rfl) rs crow0 (show (c9).toNat < _ by omega))) (zap 1 rfl (hvQ rfl (riQ 1 rfl rfl rfl rfl (zab (hv.at (k := ((c9).toNat)) (by omega)))) (hvQ rfl (zar (u := .int .i64 (((rs.getD ((c9).toNat) crow0).xs).getD k9 0)) rfl rfl rfl (zab (hv.at (k := ((c9).toNat)) (by omega))) (zbn (show _ < ((rs.getD ((c9).toNat) crow0).xs).length by omega))) (hvQ rfl (riQ 1 rfl rfl rfl rfl (zae 2 rfl)) ?_))))
     refine zda (i := 2) (n' := (p3.set ((((rs.getD ((c9).toNat) crow0).xs).getD k9 0).toNat) { p3.getD ((((rs.getD ((c9).toNat) crow0).xs).getD k9 0).toNat) bl0 with b := true }).length) rfl rfl rfl rfl rfl rfl rfl rfl (by first | omega | (simp only [List.length_set]; omega)) List.length_set.symm (zdl blC (fun r => .bool r.b) (fun _ => rfl) _ ({ p3.getD ((((rs.getD ((c9).toNat) crow0).xs).getD k9 0).toNat) bl0 with b := true }) rfl) rfl (zbu (zcv (reQ 1 rfl (hvQ rfl (vaQ rfl rfl rfl) (enQ 1 rfl ?_)))))
     exact zbq (k9 + 1) (p3.set ((((rs.getD ((c9).toNat) crow0).xs).getD k9 0).toNat) { p3.getD ((((rs.getD ((c9).toNat) crow0).xs).getD k9 0).toNat) bl0 with b := true }) ⟨by omega, by rw [List.length_set]; exact hpl3, hru3.set _, fun q h1 h2 => (hus3 q h1 h2).set (by omega), fun j hj => by by_cases e : j = k9; (subst e; exact zqd rfl (by omega)); exact zna (hon j (by omega))⟩ (by omega) (saQ rfl) (pfQ rfl)
    refine zap 4 rfl (hvQ rfl (vaQ rfl rfl rfl) (hvQ rfl (riQ 1 rfl rfl rfl rfl (zae 1 rfl)) ?_))
    refine hvQ rfl (zar (u := .bool ((ng.getD ((n.fst + c9).toNat) bl0).b)) rfl rfl rfl (zae 1 rfl) (zcu blC (fun r => .bool r.b) (fun _ => rfl) ng bl0 (show (n.fst + c9).toNat < _ by omega))) (zca (fun h17 => ?_) (fun h17 => ?_))
    ·
     refine zaz 2 rfl (zak rfl (zcq (sbQ (zay ?_))))
     have hbk := hmp.below hn (i := c9.toNat) (by omega) (k := k9) (by omega)
     refine zap 3 rfl (hvQ rfl (riQ 1 rfl rfl rfl rfl (zab hv.row)) ?_)
     refine hvQ rfl (zar (u := (rs.getD ((c9).toNat) crow0).v) rfl rfl rfl (zab hv.row) (zcu crowC (fun r => r.v) (fun _ => rfl) rs crow0 (show (c9).toNat < _ by omega))) (zap 1 rfl (hvQ rfl (riQ 1 rfl rfl rfl rfl (zab (hv.at (k := ((c9).toNat)) (by omega)))) (hvQ rfl (zar (u := .int .i64 (((rs.getD ((c9).toNat) crow0).xs).getD k9 0)) rfl rfl rfl (zab (hv.at (k := ((c9).toNat)) (by omega))) (zbn (show _ < ((rs.getD ((c9).toNat) crow0).xs).length by omega))) (hvQ rfl (riQ 1 rfl rfl rfl rfl (zae 2 rfl)) ?_))))
     refine zda (i := 2) (n' := (p3.set ((((rs.getD ((c9).toNat) crow0).xs).getD k9 0).toNat) { p3.getD ((((rs.getD ((c9).toNat) crow0).xs).getD k9 0).toNat) bl0 with b := true }).length) rfl rfl rfl rfl rfl rfl rfl rfl (by first | omega | (simp only [List.length_set]; omega)) List.length_set.symm (zdl blC (fun r => .bool r.b) (fun _ => rfl) _ ({ p3.getD ((((rs.getD ((c9).toNat) crow0).xs).getD k9 0).toNat) bl0 with b := true }) rfl) rfl (zbu (zcv (reQ 1 rfl (hvQ rfl (vaQ rfl rfl rfl) (enQ 1 rfl ?_)))))
     exact zbq (k9 + 1) (p3.set ((((rs.getD ((c9).toNat) crow0).xs).getD k9 0).toNat) { p3.getD ((((rs.getD ((c9).toNat) crow0).xs).getD k9 0).toNat) bl0 with b := true }) ⟨by omega, by rw [List.length_set]; exact hpl3, hru3.set _, fun q h1 h2 => (hus3 q h1 h2).set (by omega), fun j hj => by by_cases e : j = k9; (subst e; exact zqd rfl (by omega)); exact zna (hon j (by omega))⟩ (by omega) (saQ rfl) (pfQ rfl)
    refine zaz 2 rfl (zal rfl ?_)
    refine zba (zdq ?_)
    refine zag (zcv (reQ 1 rfl (hvQ rfl (vsQ rfl rfl rfl) (enQ 1 rfl ?_))))
    exact zbq (c9 - 1) p3 ⟨by omega, by omega, hpl3, hru3, fun q h1 h2 => by by_cases e : q = c9.toNat; (subst e; intro h9; first | (exact fun k hk => hon k (by omega)) | (exfalso; revert h9; intro h9; exact absurd h9 (by intro h9; rw [show (Int.toNat c9 : Int) = c9 by omega] at h9; unfold On at h9; rcases h9 with h9 | h9; (rw [show (p3.getD (n.fst + c9).toNat bl0).b = false by assumption] at h9; cases h9); (rw [show (ng.getD (n.fst + c9).toNat bl0).b = false by assumption] at h9; cases h9)))); exact hus3 q (by omega) h2⟩ (by omega) (saQ rfl) (pfQ rfl)
   refine zaz 16 rfl (zal rfl ?_)
   refine zba (zdq ?_)
   refine zag (zcv (reQ 1 rfl (hvQ rfl (vsQ rfl rfl rfl) (enQ 1 rfl ?_))))
   exact zbq (c9 - 1) p3 ⟨by omega, by omega, hpl3, hru3, fun q h1 h2 => by by_cases e : q = c9.toNat; (subst e; intro h9; first | (exact fun k hk => hon k (by omega)) | (exfalso; revert h9; intro h9; exact absurd h9 (by intro h9; rw [show (Int.toNat c9 : Int) = c9 by omega] at h9; unfold On at h9; rcases h9 with h9 | h9; (rw [show (p3.getD (n.fst + c9).toNat bl0).b = false by assumption] at h9; cases h9); (rw [show (ng.getD (n.fst + c9).toNat bl0).b = false by assumption] at h9; cases h9)))); exact hus3 q (by omega) h2⟩ (by omega) (saQ rfl) (pfQ rfl)
  refine ntQ (zal rfl ?_)
  refine zba (zdq ?_)
  refine zag (zaw (srQ (hvQ rfl (fdQ 0 rfl rfl rfl) (hvQ rfl (zad rfl rfl rfl (zaa 4 rfl rfl)) (hvQ rfl (zcw (cs := #[.int .i64 n.ins, .slice none 0 0, .slice none 0 0, .slice none 0 0]) rfl rfl rfl) ?_)))))
  refine zdj rfl (zbx (z := .agg #[.int .i64 0, .slice none 0 0, .slice none 0 0, .slice none 0 0]) rfl rfl) ?_
  intro b18
  refine zcc (cs' := #[.int .i64 n.ins, .slice none 0 0, .slice none 0 0, .slice none 0 0]) (i := 0) (off := 0) (us := [.int .i64 n.ins, .slice none 0 0, .slice none 0 0, .slice none 0 0]) rfl rfl rfl rfl rfl rfl rfl (zah rfl (zah rfl (zah rfl (zah rfl zbr)))) rfl rfl rfl (ntQ (srQ ?_))
  refine zdk rfl (zbz (s := 1) rfl Try.underlying28 rfl) ?_
  intro g19
  refine zaz 1 rfl (zac (reQ 1 rfl ?_))
  refine zdk rfl (zdw (z := .int .i64 0) (s := 1) (bytes := 8) (n := (List.replicate (n.cnt).toNat (0 : Int)).length) (cs := ((List.replicate (n.cnt).toNat (0 : Int)).map (Value.int .i64))) rfl Try.underlying28 rfl (by decide) rfl rfl (by first | (rw [List.length_replicate]; done) | (rw [List.length_replicate]; omega)) (by first | (rw [List.length_replicate]; done) | (rw [List.length_replicate]; omega)) (by rw [List.length_replicate]; omega) (zec _)) ?_
  intro g20
  refine zaz 1 rfl (zac (zbd 1 rfl (zax ?_)))
  refine zgn (α := Nat) (β := Value) (γ := List Int) [0, 1, 2, 4, 5, 6, 7, 8, 9, 10, 14, 16, 27, 42, 69] rfl (fun k1 u1 to1 => [rowE 3 1 (.slice (some ⟨g20, 0, none⟩) ((List.replicate (n.cnt).toNat (0 : Int)).length) ((List.replicate (n.cnt).toNat (0 : Int)).length)) ((List.replicate (n.cnt).toNat (0 : Int)).length) ((List.replicate (n.cnt).toNat (0 : Int)).map (Value.int .i64)), rowE 3 1 u1 to1.length (to1.map (Value.int .i64)), boxE b18 #[.int .i64 n.ins, .slice none 0 0, .slice none 0 0, .slice none 0 0] 30, rowE 3 1 v6 ((rtsL n n.ss.length).length) ((rtsL n n.ss.length).map (Value.int .i64)), rowE 4 1 (.slice (some ⟨g5, 0, none⟩) ((List.replicate (n.cnt).toNat bl0).length) ((List.replicate (n.cnt).toNat bl0).length)) ng.length (ng.flatMap blC), rowE 4 1 (.slice (some ⟨g4, 0, none⟩) ((List.replicate (n.cnt).toNat bl0).length) ((List.replicate (n.cnt).toNat bl0).length)) p2.length (p2.flatMap blC), boxE b2 #[.int .i64 0, .slice none 0 0, .slice none 0 0, .slice none 0 0] 30, boxE b1 #[.int .i64 n.ins, n.sv, n.av, n.ov] 86]) (fun k1 u1 to1 => [(15, u1), (17, .int .i64 (k1 : Int))]) (fun k1 u1 to1 => (k1 : Int) ≤ n.fst ∧ to1.length = k1 ∧ TosOk p2 n.fst 0 to1) (fun k1 u1 to1 => n.fst.toNat - k1) 0 _ [] ⟨by omega, rfl, TosOk.nil _ _⟩ (saQ rfl) (pfQ rfl) ?_
  intro k1 u1 to1 hi21
  obtain ⟨hk1, htl1, hto1⟩ := hi21
  refine zac (zac (reQ 2 rfl ?_))
  refine zbj rfl rfl rfl rfl rfl rfl (fun h22 => ?_) (fun h22 => ?_)
  ·
   refine ntQ (zak rfl (zcq (sbQ (reQ 2 rfl ?_))))
   refine zdk rfl (zat (z := .int .i64 0) (s := 1) (cs := ([(k1 : Int)].map (Value.int .i64))) rfl Try.underlying28 rfl (by decide) rfl (by kernel_rfl) rfl) ?_
   intro g23
   refine zcd (i := 2) (z := .int .i64 0) (bytes := 8) rfl rfl rfl rfl Try.underlying28 (by kernel_rfl) rfl rfl rfl rfl (zae 0 rfl) (zbm _) (by first | omega | (simp; done) | (simp; omega)) (zbv to1 ([(k1 : Int)])) (zcm to1 ([(k1 : Int)])) (fun _ => rfl) ?_
   intro v24
   refine enQ 1 rfl (zcv (reQ 1 rfl (hvQ rfl (vaQ rfl rfl rfl) (enQ 1 rfl ?_))))
   exact zbi (k1 + 1) v24 (to1 ++ ([(k1 : Int)])) ⟨by omega, by rw [List.length_append, List.length_singleton]; omega, hto1.app (Nat.le_refl _) (fun _ => by omega)⟩ (by omega) (saQ rfl) (slQ [1, 0, 0, 0, 0, 0, 0, 0] rfl)
  refine ntQ (zal rfl ?_)
  refine zba (zdq ?_)
  refine zag (zaw (zac (zbd 1 rfl (zax ?_))))
  refine zep [rowE 107 2 (.slice none 0 0) (([] : List Lt).length) (([] : List Lt).flatMap ltC), rowE 3 1 (.slice (some ⟨g20, 0, none⟩) ((List.replicate (n.cnt).toNat (0 : Int)).length) ((List.replicate (n.cnt).toNat (0 : Int)).length)) ((List.replicate (n.cnt).toNat (0 : Int)).length) ((List.replicate (n.cnt).toNat (0 : Int)).map (Value.int .i64)), rowE 3 1 u1 to1.length (to1.map (Value.int .i64)), boxE b18 #[.int .i64 n.ins, .slice none 0 0, .slice none 0 0, .slice none 0 0] 30, rowE 3 1 v6 ((rtsL n n.ss.length).length) ((rtsL n n.ss.length).map (Value.int .i64)), rowE 4 1 (.slice (some ⟨g5, 0, none⟩) ((List.replicate (n.cnt).toNat bl0).length) ((List.replicate (n.cnt).toNat bl0).length)) ng.length (ng.flatMap blC), rowE 4 1 (.slice (some ⟨g4, 0, none⟩) ((List.replicate (n.cnt).toNat bl0).length) ((List.replicate (n.cnt).toNat bl0).length)) p2.length (p2.flatMap blC), boxE b2 #[.int .i64 0, .slice none 0 0, .slice none 0 0, .slice none 0 0] 30, boxE b1 #[.int .i64 n.ins, n.sv, n.av, n.ov] 86] (fun w hm => hm.nilRow 107 2) ?_
  refine zep [rowE 66 3 (.slice none 0 0) (([] : List Sq).length) (([] : List Sq).flatMap sqC), rowE 107 2 (.slice none 0 0) (([] : List Lt).length) (([] : List Lt).flatMap ltC), rowE 3 1 (.slice (some ⟨g20, 0, none⟩) ((List.replicate (n.cnt).toNat (0 : Int)).length) ((List.replicate (n.cnt).toNat (0 : Int)).length)) ((List.replicate (n.cnt).toNat (0 : Int)).length) ((List.replicate (n.cnt).toNat (0 : Int)).map (Value.int .i64)), rowE 3 1 u1 to1.length (to1.map (Value.int .i64)), boxE b18 #[.int .i64 n.ins, .slice none 0 0, .slice none 0 0, .slice none 0 0] 30, rowE 3 1 v6 ((rtsL n n.ss.length).length) ((rtsL n n.ss.length).map (Value.int .i64)), rowE 4 1 (.slice (some ⟨g5, 0, none⟩) ((List.replicate (n.cnt).toNat bl0).length) ((List.replicate (n.cnt).toNat bl0).length)) ng.length (ng.flatMap blC), rowE 4 1 (.slice (some ⟨g4, 0, none⟩) ((List.replicate (n.cnt).toNat bl0).length) ((List.replicate (n.cnt).toNat bl0).length)) p2.length (p2.flatMap blC), boxE b2 #[.int .i64 0, .slice none 0 0, .slice none 0 0, .slice none 0 0] 30, boxE b1 #[.int .i64 n.ins, n.sv, n.av, n.ov] 86] (fun w hm => hm.nilRow 66 3) ?_
  refine zep _ zfh ?_
  refine zrs (α := Nat) (β := List Int) (γ := List Lt) (δ := (Value × Value) × List HP) [0, 1, 2, 4, 5, 6, 7, 8, 9, 10, 14, 16, 27, 42, 69, 114] rfl (fun j2 to2 ls zt9 => [bigE zt9.2, rowE 66 3 (.slice none 0 0) (([] : List Sq).length) (([] : List Sq).flatMap sqC), rowE 107 2 zt9.1.2 ls.length (ls.flatMap ltC), rowE 3 1 (.slice (some ⟨g20, 0, none⟩) ((List.replicate (n.cnt).toNat (0 : Int)).length) ((List.replicate (n.cnt).toNat (0 : Int)).length)) ((List.replicate (n.cnt).toNat (0 : Int)).length) ((List.replicate (n.cnt).toNat (0 : Int)).map (Value.int .i64)), rowE 3 1 zt9.1.1 to2.length (to2.map (Value.int .i64)), boxE b18 #[.int .i64 n.ins, .slice none 0 0, zt9.1.2, .slice none 0 0] 30, rowE 4 1 (.slice (some ⟨g5, 0, none⟩) ((List.replicate (n.cnt).toNat bl0).length) ((List.replicate (n.cnt).toNat bl0).length)) ng.length (ng.flatMap blC), rowE 4 1 (.slice (some ⟨g4, 0, none⟩) ((List.replicate (n.cnt).toNat bl0).length) ((List.replicate (n.cnt).toNat bl0).length)) p2.length (p2.flatMap blC), boxE b2 #[.int .i64 0, .slice none 0 0, .slice none 0 0, .slice none 0 0] 30, boxE b1 #[.int .i64 n.ins, n.sv, n.av, n.ov] 86]) (fun j2 to2 ls zt9 => [(15, zt9.1.1), (18, .int .i64 (j2 : Int))]) (fun j2 to2 ls zt9 => j2 ≤ rs.length ∧ (to2.length : Int) = n.fst + (j2 : Int) ∧ ls.length ≤ j2 ∧ LutsOk n.fst ls ∧ TosOk p2 n.fst ls.length to2 ∧ ∀ w, (bigE zt9.2).holds w → RdsLuts w ls) (fun j2 to2 ls zt9 => rs.length - j2) 0 _ [] ((_, _), []) ⟨Nat.zero_le _, by omega, Nat.le_refl _, LutsOk.nil _, hto1, fun w _ => RdsLuts.nil w⟩ (saQ rfl) (slQ [0, 0, 0, 0, 0, 0, 1, 0, 0, 0] rfl) ?_
  intro j2 to2 ls zt9 hi25
  obtain ⟨hj2, htl2, hll, hlo, hto2, hbs⟩ := hi25
  refine zac (zac (reQ 2 rfl (hvQ rfl (lnQ rfl rfl rfl (zab hv.row)) ?_)))
  refine zbj rfl rfl rfl rfl rfl rfl (fun h26 => ?_) (fun h26 => ?_)
  ·
   refine ntQ (zak rfl (zcq (sbQ (zac (reQ 2 rfl (hvQ rfl (fdQ 2 rfl rfl rfl) (hvQ rfl (zad rfl rfl rfl (zaa 5 rfl rfl)) (hvQ rfl (lnQ rfl rfl rfl (zae 2 rfl)) ?_))))))))
   refine hvQ rfl (vaQ rfl rfl rfl) (zdk rfl (zat (z := .int .i64 0) (s := 1) (cs := ([n.fst + (ls.length : Int)].map (Value.int .i64))) rfl Try.underlying28 rfl (by decide) rfl (by kernel_rfl) rfl) ?_)
   intro g27
   refine zcd (i := 5) (z := .int .i64 0) (bytes := 8) rfl rfl rfl rfl Try.underlying28 (by kernel_rfl) rfl rfl rfl rfl (zae 0 rfl) (zbm _) (by first | omega | (simp; done) | (simp; omega)) (zbv to2 ([n.fst + (ls.length : Int)])) (zcm to2 ([n.fst + (ls.length : Int)])) (fun _ => rfl) ?_
   intro v28
   refine zaz 1 rfl (srQ ?_)
   have hcp := (hmp.cut j2 (by omega)).1
   have hcl4 := hcp.len
   have hbl9 : ∀ k, k < (rs.getD j2 crow0).xs.length → 0 ≤ (rs.getD j2 crow0).xs.getD k 0 ∧ (rs.getD j2 crow0).xs.getD k 0 < to2.length := fun k hk => by have := hmp.below hn (i := j2) (by omega) hk; omega
   refine zap 3 rfl (hvQ rfl (vaQ rfl rfl rfl) (hvQ rfl (riQ 1 rfl rfl rfl rfl (zae 8 rfl)) ?_))
   refine hvQ rfl (zar (u := .bool ((p2.getD ((n.fst + (j2 : Int)).toNat) bl0).b)) rfl rfl rfl (zae 8 rfl) (zcu blC (fun r => .bool r.b) (fun _ => rfl) p2 bl0 (show (n.fst + (j2 : Int)).toNat < _ by omega))) (zca (fun h29 => ?_) (fun h29 => ?_))
   ·
    refine ntQ (zak rfl (zac ?_))
    have huse := hus2 j2 (by omega) (by omega) (.inl (by assumption))
    refine zdf rfl 10 [0, 1, 2, 3, 4, 5, 6, 7, 8, 9] (List.take 10 _) (List.drop 10 _) [[], [], [], [1, 2], [], [], [4, 5], [6], [0, 3, 7], []] [141, 142, 143, 144, 145, 146, 147, 148, 149, 19] (fun i_ vs_ v_ p_ => match i_ with | 0 => v_ = .agg #[.int .i64 n.ins, n.sv, n.av, n.ov] ∧ p_ = [] | 1 => v_ = .int .i64 n.fst ∧ p_ = [] | 2 => v_ = .int .i64 (j2 : Int) ∧ p_ = [] | 3 => v_ = .int .i64 (n.fst + (j2 : Int)) ∧ p_ = [] | 4 => v_ = v ∧ p_ = [] | 5 => v_ = .int .i64 (j2 : Int) ∧ p_ = [] | 6 => v_ = elP v (((j2 : Int)).toNat * 1) ∧ p_ = [] | 7 => v_ = (rs.getD j2 crow0).v ∧ p_ = [] | 8 => (fun u_ p_ => ∃ b : Int, u_ = .agg #[.int .i64 (((rs.getD j2 crow0).xs).length : Int), .int .i64 b] ∧ p_ = [] ∧ TabOk (Tab.mk (((rs.getD j2 crow0).xs).length : Int) b)) v_ p_ | 9 => IsBox #[.int .i64 0, .int .i64 0] 110 v_ p_ | _ => True) (List.take_append_drop 10 _).symm (by kernel_rfl) (by kernel_rfl) rfl rfl ?_ ?_
    ·
     refine ⟨?_, ?_, ?_, ?_, ?_, ?_, ?_, ?_, ?_, ?_, trivial⟩
     ·
      intro vf pf hR
      exact olQ rfl (zam [2] rfl) (zbg (zao (cs := [.int .i64 n.ins, n.sv, n.av, n.ov]) rfl rfl rfl rfl rfl (zaj 10 rfl 0 rfl)))
     ·
      intro vf pf hR
      exact ovQ rfl (zam [7] rfl) (zbg (zas rfl))
     ·
      intro vf pf hR
      exact ovQ rfl (zam [18] rfl) (zbg (zas rfl))
     ·
      intro vf pf hR
      have e1 := hR 1 (by decide)
      have e2 := hR 2 (by decide)
      exact ovQ rfl (sk 142 (congrArg some e1.1) (sk 143 (congrArg some e2.1) (zaf _))) (zbg (vaQ rfl rfl rfl))
     ·
      intro vf pf hR
      exact ovQ rfl (zam [1] rfl) (zbg (zas rfl))
     ·
      intro vf pf hR
      exact ovQ rfl (zam [18] rfl) (zbg (zas rfl))
     ·
      intro vf pf hR
      have e4 := hR 4 (by decide)
      have e5 := hR 5 (by decide)
      exact olQ rfl (sk 145 (congrArg some e4.1) (sk 146 (congrArg some e5.1) (zaf _))) (zbg (riQ 1 rfl rfl rfl rfl (zab hv.row)))
     ·
      intro vf pf hR
      have e6 := hR 6 (by decide)
      exact olQ rfl (sk 147 (congrArg some e6.1) (zaf _)) (zbg (zar (u := (rs.getD j2 crow0).v) rfl rfl rfl (zab hv.row) (zcu crowC (fun r => r.v) (fun _ => rfl) rs crow0 (show j2 < _ by omega))))
     ·
      intro vf pf hR
      have e0 := hR 0 (by decide)
      have e3 := hR 3 (by decide)
      have e7 := hR 7 (by decide)
      exact olQ rfl (sk 141 (congrArg some e0.1) (sk 144 (congrArg some e3.1) (sk 148 (congrArg some e7.1) (zaf _)))) (zaq rfl rfl (fun w hm => zij n (n.fst + (j2 : Int)) ((rs.getD j2 crow0).xs) _ w (hr.below hm.bel) hn ((zab (hv.at (k := j2) (by omega))) w hm) (by omega) hcp))
     intro vf pf hR
     exact olQ rfl (zaf _) (zbx (z := .agg #[.int .i64 0, .int .i64 0]) rfl rfl)
    intro vf pf hR
    have e8 : (fun u_ p_ => ∃ b : Int, u_ = .agg #[.int .i64 (((rs.getD j2 crow0).xs).length : Int), .int .i64 b] ∧ p_ = [] ∧ TabOk (Tab.mk (((rs.getD j2 crow0).xs).length : Int) b)) (vf 8) (pf 8) := hR 8 (by decide)
    obtain ⟨v30, vE8⟩ : ∃ x, vf 8 = x := ⟨_, rfl⟩
    obtain ⟨p31, pE8⟩ : ∃ x, pf 8 = x := ⟨_, rfl⟩
    have hR32 := e8
    rw [vE8, pE8] at hR32
    obtain ⟨bq, rfl, rfl, hbq⟩ := hR32
    have e9 : IsBox #[.int .i64 0, .int .i64 0] 110 (vf 9) (pf 9) := hR 9 (by decide)
    obtain ⟨b33, vE9, pE9⟩ := e9
    have q0 := hR 0 (by decide)
    have q1 := hR 1 (by decide)
    have q2 := hR 2 (by decide)
    have q3 := hR 3 (by decide)
    have q4 := hR 4 (by decide)
    have q5 := hR 5 (by decide)
    have q6 := hR 6 (by decide)
    have q7 := hR 7 (by decide)
    refine zco (zbk [18, 16, 15, 14, 10, 9, 8, 7, 6, 5, 4, 2, 1, 0] _ (sk 19 (congrArg some vE9) (zbk [140, 124, 114, 69, 42, 27] _ (sk 149 (congrArg some vE8) (zaf _)) rfl)) rfl) (by simp only [pE8, vE8, pE9, vE9, q0.2, q1.2, q2.2, q3.2, q4.2, q5.2, q6.2, q7.2, fS] <;> rfl) ?_
    simp only [List.drop_succ_cons, List.drop_zero]
    refine zcc (cs' := #[.int .i64 (((rs.getD j2 crow0).xs).length : Int), .int .i64 bq]) (i := 0) (off := 0) (us := [.int .i64 (((rs.getD j2 crow0).xs).length : Int), .int .i64 bq]) rfl rfl rfl rfl rfl rfl rfl (zah rfl (zah rfl zbr)) rfl rfl rfl (ntQ ?_)
    refine zdf rfl 12 [0, 1, 2, 3, 4, 5, 6, 7, 8, 9, 10, 11] (List.take 12 _) (List.drop 12 _) [[], [0], [], [], [], [3, 4], [5], [2, 6], [], [8], [7, 9], [7, 10]] [150, 151, 152, 153, 154, 155, 156, 157, 158, 159, 160, 161] (fun i_ vs_ v_ p_ => match i_ with | 0 => v_ = .pointer (some ⟨b18, 0 + 2, none⟩) ∧ p_ = [] | 1 => v_ = zt9.1.2 ∧ p_ = [] | 2 => v_ = v28 ∧ p_ = [] | 3 => v_ = v ∧ p_ = [] | 4 => v_ = .int .i64 (j2 : Int) ∧ p_ = [] | 5 => v_ = elP v (((j2 : Int)).toNat * 1) ∧ p_ = [] | 6 => v_ = (rs.getD j2 crow0).v ∧ p_ = [] | 7 => (fun v' post => post = [rowE 3 1 v' ((ndL (to2 ++ ([n.fst + (ls.length : Int)])) ((rs.getD j2 crow0).xs))).length (((ndL (to2 ++ ([n.fst + (ls.length : Int)])) ((rs.getD j2 crow0).xs))).map (Value.int .i64))]) v_ p_ | 8 => v_ = .pointer (some ⟨b33, 0 + 1, none⟩) ∧ p_ = [] | 9 => v_ = .int .i64 bq ∧ p_ = [] | 10 => v_ = .agg #[(List.getD vs_ 0 undef), .int .i64 bq] ∧ p_ = [] | 11 => IsRow 107 2 1 ([(List.getD vs_ 0 undef), .int .i64 bq]) v_ p_ | _ => True) (List.take_append_drop 12 _).symm (by kernel_rfl) (by kernel_rfl) rfl rfl ?_ ?_
    ·
     refine ⟨?_, ?_, ?_, ?_, ?_, ?_, ?_, ?_, ?_, ?_, ?_, ?_, trivial⟩
     ·
      intro vf pf hR
      exact ovQ rfl (zam [14] rfl) (zbg (fdQ 2 rfl rfl rfl))
     ·
      intro vf pf hR
      have e0 := hR 0 (by decide)
      exact olQ rfl (sk 150 (congrArg some e0.1) (zaf _)) (zbg (zad rfl rfl rfl (zaa 7 rfl rfl)))
     ·
      intro vf pf hR
      exact ovQ rfl (zam [15] rfl) (zbg (zas rfl))
     ·
      intro vf pf hR
      exact ovQ rfl (zam [1] rfl) (zbg (zas rfl))
     ·
      intro vf pf hR
      exact ovQ rfl (zam [18] rfl) (zbg (zas rfl))
     ·
      intro vf pf hR
      have e3 := hR 3 (by decide)
      have e4 := hR 4 (by decide)
      exact olQ rfl (sk 153 (congrArg some e3.1) (sk 154 (congrArg some e4.1) (zaf _))) (zbg (riQ 1 rfl rfl rfl rfl (zab hv.row)))
     ·
      intro vf pf hR
      have e5 := hR 5 (by decide)
      exact olQ rfl (sk 155 (congrArg some e5.1) (zaf _)) (zbg (zar (u := (rs.getD j2 crow0).v) rfl rfl rfl (zab hv.row) (zcu crowC (fun r => r.v) (fun _ => rfl) rs crow0 (show j2 < _ by omega))))
     ·
      intro vf pf hR
      have e2 := hR 2 (by decide)
      have e6 := hR 6 (by decide)
      exact olQ rfl (sk 152 (congrArg some e2.1) (sk 156 (congrArg some e6.1) (zaf _))) (zaq rfl rfl (fun w hm => ziv (to2 ++ ([n.fst + (ls.length : Int)])) ((rs.getD j2 crow0).xs) _ _ w ((zae 6 rfl) w hm) ((zab (hv.at (k := j2) (by omega))) w hm) (fun k hk => by have := hbl9 k hk; rw [List.length_append]; omega) (by omega)))
     ·
      intro vf pf hR
      exact ovQ rfl (zam [19] rfl) (zbg (fdQ 1 rfl rfl rfl))
     ·
      intro vf pf hR
      have e8 := hR 8 (by decide)
      exact olQ rfl (sk 158 (congrArg some e8.1) (zaf _)) (zbg (zad rfl rfl rfl (zaa 0 rfl rfl)))
     ·
      intro vf pf hR
      have e7 : (fun v' post => post = [rowE 3 1 v' ((ndL (to2 ++ ([n.fst + (ls.length : Int)])) ((rs.getD j2 crow0).xs))).length (((ndL (to2 ++ ([n.fst + (ls.length : Int)])) ((rs.getD j2 crow0).xs))).map (Value.int .i64))]) (vf 7) (pf 7) := hR 7 (by decide)
      obtain ⟨v34, vE7⟩ : ∃ x, vf 7 = x := ⟨_, rfl⟩
      obtain ⟨p35, pE7⟩ : ∃ x, pf 7 = x := ⟨_, rfl⟩
      have hR36 := e7
      rw [vE7, pE7] at hR36
      subst hR36
      have e9 := hR 9 (by decide)
      refine Or.inl ⟨rfl, ?_⟩
      exact zci (sk 157 (congrArg some vE7) (sk 159 (congrArg some e9.1) (zaf _))) (by simp only [pE7, vE7, e9.2, fS] <;> rfl) (zcy (zbg (zft (cs := #[v34, .int .i64 bq]) rfl rfl (fun w hm => zld v34 bq ((zae 0 rfl w hm).one)))) (fun _ _ h => ⟨h.1.trans (by show _ = (.agg #[(vf 7), .int .i64 bq] : Value); first | (rw [vE7]; done) | (rw [vE7]; rfl)), h.2⟩))
     intro vf pf hR
     have e7 : (fun v' post => post = [rowE 3 1 v' ((ndL (to2 ++ ([n.fst + (ls.length : Int)])) ((rs.getD j2 crow0).xs))).length (((ndL (to2 ++ ([n.fst + (ls.length : Int)])) ((rs.getD j2 crow0).xs))).map (Value.int .i64))]) (vf 7) (pf 7) := hR 7 (by decide)
     obtain ⟨v34, vE7⟩ : ∃ x, vf 7 = x := ⟨_, rfl⟩
     obtain ⟨p35, pE7⟩ : ∃ x, pf 7 = x := ⟨_, rfl⟩
     have hR36 := e7
     rw [vE7, pE7] at hR36
     subst hR36
     have e10 : (vf 10) = .agg #[(vf 7), .int .i64 bq] ∧ (pf 10) = [] := hR 10 (by decide)
     rw [vE7] at e10
     refine Or.inl ⟨rfl, ?_⟩
     exact zci (sk 160 (congrArg some e10.1) (zaf _)) (by simp only [pE7, vE7, e10.2, fS] <;> rfl) (zcy (zat (z := .agg #[.slice none 0 0, .int .i64 0]) (s := 2) (cs := [v34, .int .i64 bq]) rfl Try.underlying27 rfl (by decide) rfl (by kernel_rfl) rfl) (fun v_ p_ h => by show IsRow 107 2 1 ([(vf 7), .int .i64 bq]) v_ p_; rw [vE7]; exact h))
    intro vf pf hR
    have e1 := hR 1 (by decide)
    have e7 : (fun v' post => post = [rowE 3 1 v' ((ndL (to2 ++ ([n.fst + (ls.length : Int)])) ((rs.getD j2 crow0).xs))).length (((ndL (to2 ++ ([n.fst + (ls.length : Int)])) ((rs.getD j2 crow0).xs))).map (Value.int .i64))]) (vf 7) (pf 7) := hR 7 (by decide)
    obtain ⟨v34, vE7⟩ : ∃ x, vf 7 = x := ⟨_, rfl⟩
    obtain ⟨p35, pE7⟩ : ∃ x, pf 7 = x := ⟨_, rfl⟩
    have hR36 := e7
    rw [vE7, pE7] at hR36
    subst hR36
    have e11 : IsRow 107 2 1 ([(vf 7), .int .i64 bq]) (vf 11) (pf 11) := hR 11 (by decide)
    rw [vE7] at e11
    obtain ⟨g37, vE11, pE11⟩ := e11
    have q0 := hR 0 (by decide)
    have q1 := hR 1 (by decide)
    have q2 := hR 2 (by decide)
    have q3 := hR 3 (by decide)
    have q4 := hR 4 (by decide)
    have q5 := hR 5 (by decide)
    have q6 := hR 6 (by decide)
    have q8 := hR 8 (by decide)
    have q9 := hR 9 (by decide)
    have q10 := hR 10 (by decide)
    refine zco (zbk [140, 124, 114, 69, 42, 27, 19, 18, 16, 15, 14, 10, 9, 8, 7, 6, 5, 4, 2, 1, 0] _ (sk 151 (congrArg some e1.1) (sk 161 (congrArg some vE11) (zaf _))) rfl) (by simp only [pE7, vE7, pE11, vE11, q0.2, q1.2, q2.2, q3.2, q4.2, q5.2, q6.2, q8.2, q9.2, q10.2, fS] <;> rfl) ?_
    simp only [List.drop_succ_cons, List.drop_zero]
    refine zdn (i := 0) rfl (fun ho38 => ?_)
    refine zcd (i := 6) (z := .agg #[.slice none 0 0, .int .i64 0]) (bytes := 32) rfl rfl rfl rfl Try.underlying27 (by kernel_rfl) rfl rfl rfl rfl (zae 1 rfl) (zah ho38 (zah rfl zbr)) (by first | omega | (simp only [List.length_append, List.length_cons, List.length_nil]; omega)) (zbv ls [(Lt.mk v34 (ndL (to2 ++ ([n.fst + (ls.length : Int)])) ((rs.getD j2 crow0).xs)) bq)]) (zcx ltC ls (Lt.mk v34 (ndL (to2 ++ ([n.fst + (ls.length : Int)])) ((rs.getD j2 crow0).xs)) bq) _ rfl) (fun _ => rfl) ?_
    intro v39
    refine hvQ rfl (fdQ 2 rfl rfl rfl) (zdn (i := 6) rfl (fun ho40 => ?_))
    refine zez (i := 9) (cs' := #[.int .i64 n.ins, .slice none 0 0, v39, .slice none 0 0]) rfl rfl rfl rfl rfl rfl ho40 rfl rfl rfl rfl (zbu (zcv (reQ 1 rfl (hvQ rfl (vaQ rfl rfl rfl) (enQ 1 rfl ?_)))))
    refine zbw 14 [13, 12, 11, 10, 9, 8, 7, 6, 5, 0, 4] rfl rfl (by decide) ?_
    refine zcz 2 rfl ?_
    exact zct (j2 + 1) (to2 ++ ([n.fst + (ls.length : Int)])) (ls ++ [(Lt.mk v34 (ndL (to2 ++ ([n.fst + (ls.length : Int)])) ((rs.getD j2 crow0).xs)) bq)]) ((v28, v39), [bigE zt9.2, rowE 3 1 v34 ((ndL (to2 ++ ([n.fst + (ls.length : Int)])) ((rs.getD j2 crow0).xs)).length) ((ndL (to2 ++ ([n.fst + (ls.length : Int)])) ((rs.getD j2 crow0).xs)).map (Value.int .i64))]) ⟨by omega, by rw [List.length_append, List.length_singleton]; omega, by rw [List.length_append, List.length_singleton]; omega, hlo.app (ztd hbq (by show (_ : Int) = _; rw [zjx]) (by rw [zjx]; exact hcp.len) (by rw [ndL_app hbl9]; exact zre hto2 hbl9 huse)), (by rw [List.length_append, List.length_singleton]; exact hto2.app (Nat.le_succ _) (fun _ => by omega)), fun w hw => (hbs w (zbh hw List.mem_cons_self)).app (zcf (zbh hw (List.mem_cons_of_mem _ List.mem_cons_self)))⟩ (by omega) (saQ rfl) (pfQ rfl)
   refine ntQ (fsQ rfl (zcv (reQ 1 rfl (hvQ rfl (vaQ rfl rfl rfl) (enQ 1 rfl ?_)))))
   exact zct (j2 + 1) (to2 ++ ([n.fst + (ls.length : Int)])) ls ((v28, zt9.1.2), zt9.2) ⟨by omega, by rw [List.length_append, List.length_singleton]; omega, by omega, hlo, hto2.app (Nat.le_refl _) (fun h9 => by rcases h9 with h9 | h9; (omega); (unfold On at h9; rw [show ((to2.length : Int)) = n.fst + (j2 : Int) by omega] at h9; rw [show (p2.getD (n.fst + (j2 : Int)).toNat bl0).b = false by assumption] at h9; cases h9)), hbs⟩ (by omega) (saQ rfl) (slQ [1, 0, 0, 0, 0, 0, 0, 0, 0, 0] rfl)
  refine ntQ (zal rfl ?_)
  refine zba (zdq ?_)
  refine zag (zaw (zac (zbd 1 rfl (zax ?_))))
  refine zrs (α := Nat) (β := List Int) (γ := List Lt) (δ := Value × List HP) [0, 1, 2, 4, 5, 6, 7, 8, 9, 10, 14, 15, 16, 27, 42, 69, 114, 124] rfl (fun k3 nos ls2 yt9 => [bigE yt9.2, rowE 66 3 (.slice none 0 0) (([] : List Sq).length) (([] : List Sq).flatMap sqC), rowE 107 2 yt9.1 ls2.length (ls2.flatMap ltC), rowE 3 1 (.slice (some ⟨g20, 0, none⟩) ((List.replicate (n.cnt).toNat (0 : Int)).length) ((List.replicate (n.cnt).toNat (0 : Int)).length)) nos.length (nos.map (Value.int .i64)), rowE 3 1 zt9.1.1 to2.length (to2.map (Value.int .i64)), boxE b18 #[.int .i64 n.ins, .slice none 0 0, yt9.1, .slice none 0 0] 30, rowE 4 1 (.slice (some ⟨g5, 0, none⟩) ((List.replicate (n.cnt).toNat bl0).length) ((List.replicate (n.cnt).toNat bl0).length)) ng.length (ng.flatMap blC), rowE 4 1 (.slice (some ⟨g4, 0, none⟩) ((List.replicate (n.cnt).toNat bl0).length) ((List.replicate (n.cnt).toNat bl0).length)) p2.length (p2.flatMap blC), boxE b2 #[.int .i64 0, .slice none 0 0, .slice none 0 0, .slice none 0 0] 30, boxE b1 #[.int .i64 n.ins, n.sv, n.av, n.ov] 86]) (fun k3 nos ls2 yt9 => [(20, .int .i64 (k3 : Int))]) (fun k3 nos ls2 yt9 => (k3 : Int) ≤ n.cnt ∧ nos.length = n.cnt.toNat ∧ ls2.length ≤ rs.length + k3 ∧ LutsOk n.fst ls2 ∧ TosOk p2 n.fst ls2.length to2 ∧ NosOk ng n.fst ls2.length k3 nos ∧ ∀ w, (bigE yt9.2).holds w → RdsLuts w ls2) (fun k3 nos ls2 yt9 => n.cnt.toNat - k3) 0 _ _ (_, _) ⟨by omega, by rw [List.length_replicate], by omega, hlo, hto2, fun j hj => absurd hj (Nat.not_lt_zero _), hbs⟩ (saQ rfl) (pfQ rfl) ?_
  intro k3 nos ls2 yt9 hi41
  obtain ⟨hk3, hnol, hll2, hlo2, hto3, hno, hbs2⟩ := hi41
  refine zac (zac (reQ 2 rfl ?_))
  refine zbj rfl rfl rfl rfl rfl rfl (fun h42 => ?_) (fun h42 => ?_)
  ·
   refine ntQ (zak rfl (zcq (sbQ (zac (zac (reQ 2 rfl (hvQ rfl (riQ 1 rfl rfl rfl rfl (zae 6 rfl)) ?_)))))))
   refine hvQ rfl (zar (u := .bool ((ng.getD k3 bl0).b)) rfl rfl rfl (zae 6 rfl) (zcu blC (fun r => .bool r.b) (fun _ => rfl) ng bl0 (show k3 < _ by omega))) (zca (fun h43 => ?_) (fun h43 => ?_))
   ·
    refine zaz 1 rfl (zal rfl (zcq (zac (reQ 3 rfl (hvQ rfl (fdQ 2 rfl rfl rfl) (hvQ rfl (zad rfl rfl rfl (zaa 5 rfl rfl)) (hvQ rfl (lnQ rfl rfl rfl (zae 2 rfl)) (hvQ rfl (vaQ rfl rfl rfl) ?_))))))))
    refine hvQ rfl (riQ 1 rfl rfl rfl rfl (zae 3 rfl)) (zda (i := 3) (n' := (nos.set k3 (n.fst + (ls2.length : Int))).length) (xs' := ((nos.set k3 (n.fst + (ls2.length : Int))).map (Value.int .i64))) rfl rfl rfl rfl rfl rfl rfl rfl (by first | omega | (simp only [List.length_set]; omega)) List.length_set.symm (zdd _ _ _) rfl ?_)
    refine ntQ (srQ (hvQ rfl (zcw (cs := #[.slice none 0 0, .int .i64 1]) rfl rfl rfl) ?_))
    refine zdj rfl (zbx (z := .agg #[.slice none 0 0, .int .i64 0]) rfl rfl) ?_
    intro b44
    refine zcc (cs' := #[.slice none 0 0, .int .i64 1]) (i := 0) (off := 0) (us := [.slice none 0 0, .int .i64 1]) rfl rfl rfl rfl rfl rfl rfl (zah rfl (zah rfl zbr)) rfl rfl rfl (ntQ (zac (zac (reQ 2 rfl ?_))))
    refine zdi rfl rfl rfl rfl rfl rfl (fun h45 => ?_) (fun h45 => ?_)
    ·
     refine ntQ (zak rfl (zac ?_))
     have hcp : CutP n (k3 : Int) (rs.getD (((k3 : Int) - n.fst).toNat) crow0).xs := by have h9 := (hmp.cut (((k3 : Int) - n.fst).toNat) (by omega)).1; rwa [show n.fst + ((((k3 : Int) - n.fst).toNat) : Int) = (k3 : Int) by omega] at h9
     have hcl4 := hcp.len
     have hbl9 : ∀ k, k < (rs.getD (((k3 : Int) - n.fst).toNat) crow0).xs.length → 0 ≤ (rs.getD (((k3 : Int) - n.fst).toNat) crow0).xs.getD k 0 ∧ (rs.getD (((k3 : Int) - n.fst).toNat) crow0).xs.getD k 0 < to2.length := fun k hk => by have := hmp.below hn (i := (((k3 : Int) - n.fst).toNat)) (by omega) hk; omega
     have huse := hus2 (((k3 : Int) - n.fst).toNat) (by omega) (by omega) (.inr (by rw [show n.fst + ((((k3 : Int) - n.fst).toNat) : Int) = (k3 : Int) by omega]; unfold On; rw [Int.toNat_natCast]; assumption))
     refine zdf rfl 11 [0, 1, 2, 3, 4, 5, 6, 7, 8, 9, 10] (List.take 11 _) (List.drop 11 _) [[], [], [], [], [], [3, 4], [2, 5], [6], [0, 1, 7], [8], []] [186, 187, 188, 189, 190, 191, 192, 193, 194, 195, 22] (fun i_ vs_ v_ p_ => match i_ with | 0 => v_ = .agg #[.int .i64 n.ins, n.sv, n.av, n.ov] ∧ p_ = [] | 1 => v_ = .int .i64 (k3 : Int) ∧ p_ = [] | 2 => v_ = v ∧ p_ = [] | 3 => v_ = .int .i64 (k3 : Int) ∧ p_ = [] | 4 => v_ = .int .i64 n.fst ∧ p_ = [] | 5 => v_ = .int .i64 ((k3 : Int) - n.fst) ∧ p_ = [] | 6 => v_ = elP v (((k3 : Int) - n.fst).toNat * 1) ∧ p_ = [] | 7 => v_ = (rs.getD (((k3 : Int) - n.fst).toNat) crow0).v ∧ p_ = [] | 8 => (fun u_ p_ => ∃ b : Int, u_ = .agg #[.int .i64 (((rs.getD (((k3 : Int) - n.fst).toNat) crow0).xs).length : Int), .int .i64 b] ∧ p_ = [] ∧ TabOk (Tab.mk (((rs.getD (((k3 : Int) - n.fst).toNat) crow0).xs).length : Int) b)) v_ p_ | 9 => (fun u_ p_ => p_ = [] ∧ ∃ t : Tab, TabOk t ∧ t.N = (((rs.getD (((k3 : Int) - n.fst).toNat) crow0).xs).length : Int) ∧ u_ = .agg #[.int .i64 t.N, .int .i64 t.B]) v_ p_ | 10 => IsBox #[.int .i64 0, .int .i64 0] 110 v_ p_ | _ => True) (List.take_append_drop 11 _).symm (by kernel_rfl) (by kernel_rfl) rfl rfl ?_ ?_
     ·
      refine ⟨?_, ?_, ?_, ?_, ?_, ?_, ?_, ?_, ?_, ?_, ?_, trivial⟩
      ·
       intro vf pf hR
       exact olQ rfl (zam [2] rfl) (zbg (zao (cs := [.int .i64 n.ins, n.sv, n.av, n.ov]) rfl rfl rfl rfl rfl (zaj 10 rfl 0 rfl)))
      ·
       intro vf pf hR
       exact ovQ rfl (zam [20] rfl) (zbg (zas rfl))
      ·
       intro vf pf hR
       exact ovQ rfl (zam [1] rfl) (zbg (zas rfl))
      ·
       intro vf pf hR
       exact ovQ rfl (zam [20] rfl) (zbg (zas rfl))
      ·
       intro vf pf hR
       exact ovQ rfl (zam [7] rfl) (zbg (zas rfl))
      ·
       intro vf pf hR
       have e3 := hR 3 (by decide)
       have e4 := hR 4 (by decide)
       exact ovQ rfl (sk 189 (congrArg some e3.1) (sk 190 (congrArg some e4.1) (zaf _))) (zbg (vsQ rfl rfl rfl))
      ·
       intro vf pf hR
       have e2 := hR 2 (by decide)
       have e5 := hR 5 (by decide)
       exact olQ rfl (sk 188 (congrArg some e2.1) (sk 191 (congrArg some e5.1) (zaf _))) (zbg (riQ 1 rfl rfl rfl rfl (zab hv.row)))
      ·
       intro vf pf hR
       have e6 := hR 6 (by decide)
       exact olQ rfl (sk 192 (congrArg some e6.1) (zaf _)) (zbg (zar (u := (rs.getD (((k3 : Int) - n.fst).toNat) crow0).v) rfl rfl rfl (zab hv.row) (zcu crowC (fun r => r.v) (fun _ => rfl) rs crow0 (show ((k3 : Int) - n.fst).toNat < _ by omega))))
      ·
       intro vf pf hR
       have e0 := hR 0 (by decide)
       have e1 := hR 1 (by decide)
       have e7 := hR 7 (by decide)
       exact olQ rfl (sk 186 (congrArg some e0.1) (sk 187 (congrArg some e1.1) (sk 193 (congrArg some e7.1) (zaf _)))) (zaq rfl rfl (fun w hm => zij n (k3 : Int) ((rs.getD (((k3 : Int) - n.fst).toNat) crow0).xs) _ w (hr.below hm.bel) hn ((zab (hv.at (k := (((k3 : Int) - n.fst).toNat)) (by omega))) w hm) (by omega) hcp))
      ·
       intro vf pf hR
       have e8 : (fun u_ p_ => ∃ b : Int, u_ = .agg #[.int .i64 (((rs.getD (((k3 : Int) - n.fst).toNat) crow0).xs).length : Int), .int .i64 b] ∧ p_ = [] ∧ TabOk (Tab.mk (((rs.getD (((k3 : Int) - n.fst).toNat) crow0).xs).length : Int) b)) (vf 8) (pf 8) := hR 8 (by decide)
       obtain ⟨v46, vE8⟩ : ∃ x, vf 8 = x := ⟨_, rfl⟩
       obtain ⟨p47, pE8⟩ : ∃ x, pf 8 = x := ⟨_, rfl⟩
       have hR48 := e8
       rw [vE8, pE8] at hR48
       obtain ⟨bq, rfl, rfl, hbq⟩ := hR48
       exact olQ rfl (sk 194 (congrArg some vE8) (zaf _)) (zaq rfl rfl (fun w hm => znv (((rs.getD (((k3 : Int) - n.fst).toNat) crow0).xs).length : Int) bq w hbq.1 hbq.2))
      intro vf pf hR
      exact olQ rfl (zaf _) (zbx (z := .agg #[.int .i64 0, .int .i64 0]) rfl rfl)
     intro vf pf hR
     have e8 : (fun u_ p_ => ∃ b : Int, u_ = .agg #[.int .i64 (((rs.getD (((k3 : Int) - n.fst).toNat) crow0).xs).length : Int), .int .i64 b] ∧ p_ = [] ∧ TabOk (Tab.mk (((rs.getD (((k3 : Int) - n.fst).toNat) crow0).xs).length : Int) b)) (vf 8) (pf 8) := hR 8 (by decide)
     obtain ⟨v46, vE8⟩ : ∃ x, vf 8 = x := ⟨_, rfl⟩
     obtain ⟨p47, pE8⟩ : ∃ x, pf 8 = x := ⟨_, rfl⟩
     have hR48 := e8
     rw [vE8, pE8] at hR48
     obtain ⟨bq, rfl, rfl, hbq⟩ := hR48
     have e9 : (fun u_ p_ => p_ = [] ∧ ∃ t : Tab, TabOk t ∧ t.N = (((rs.getD (((k3 : Int) - n.fst).toNat) crow0).xs).length : Int) ∧ u_ = .agg #[.int .i64 t.N, .int .i64 t.B]) (vf 9) (pf 9) := hR 9 (by decide)
     obtain ⟨v49, vE9⟩ : ∃ x, vf 9 = x := ⟨_, rfl⟩
     obtain ⟨p50, pE9⟩ : ∃ x, pf 9 = x := ⟨_, rfl⟩
     have hR51 := e9
     rw [vE9, pE9] at hR51
     obtain ⟨rfl, tq, htq, htn, rfl⟩ := hR51
     have e10 : IsBox #[.int .i64 0, .int .i64 0] 110 (vf 10) (pf 10) := hR 10 (by decide)
     obtain ⟨b52, vE10, pE10⟩ := e10
     have q0 := hR 0 (by decide)
     have q1 := hR 1 (by decide)
     have q2 := hR 2 (by decide)
     have q3 := hR 3 (by decide)
     have q4 := hR 4 (by decide)
     have q5 := hR 5 (by decide)
     have q6 := hR 6 (by decide)
     have q7 := hR 7 (by decide)
     refine zco (zbk [21, 20, 16, 15, 14, 10, 9, 8, 7, 6, 5, 4, 2, 1, 0] _ (sk 22 (congrArg some vE10) (zbk [185, 173, 166, 124, 114, 69, 42, 27] _ (sk 195 (congrArg some vE9) (zaf _)) rfl)) rfl) (by simp only [pE8, vE8, pE9, vE9, pE10, vE10, q0.2, q1.2, q2.2, q3.2, q4.2, q5.2, q6.2, q7.2, fS] <;> rfl) ?_
     simp only [List.drop_succ_cons, List.drop_zero]
     refine zcc (cs' := #[.int .i64 tq.N, .int .i64 tq.B]) (i := 0) (off := 0) (us := [.int .i64 tq.N, .int .i64 tq.B]) rfl rfl rfl rfl rfl rfl rfl (zah rfl (zah rfl zbr)) rfl rfl rfl (ntQ ?_)
     refine zdf rfl 11 [0, 1, 2, 3, 4, 5, 6, 7, 8, 9, 10] (List.take 11 _) (List.drop 11 _) [[], [], [], [], [2, 3], [1, 4], [5], [0, 6], [], [8], [7, 9]] [196, 197, 198, 199, 200, 201, 202, 203, 204, 205, 206] (fun i_ vs_ v_ p_ => match i_ with | 0 => v_ = zt9.1.1 ∧ p_ = [] | 1 => v_ = v ∧ p_ = [] | 2 => v_ = .int .i64 (k3 : Int) ∧ p_ = [] | 3 => v_ = .int .i64 n.fst ∧ p_ = [] | 4 => v_ = .int .i64 ((k3 : Int) - n.fst) ∧ p_ = [] | 5 => v_ = elP v (((k3 : Int) - n.fst).toNat * 1) ∧ p_ = [] | 6 => v_ = (rs.getD (((k3 : Int) - n.fst).toNat) crow0).v ∧ p_ = [] | 7 => (fun v' post => post = [rowE 3 1 v' ((ndL to2 ((rs.getD (((k3 : Int) - n.fst).toNat) crow0).xs))).length (((ndL to2 ((rs.getD (((k3 : Int) - n.fst).toNat) crow0).xs))).map (Value.int .i64))]) v_ p_ | 8 => v_ = .pointer (some ⟨b52, 0 + 1, none⟩) ∧ p_ = [] | 9 => v_ = .int .i64 tq.B ∧ p_ = [] | 10 => v_ = .agg #[(List.getD vs_ 0 undef), .int .i64 tq.B] ∧ p_ = [] | _ => True) (List.take_append_drop 11 _).symm (by kernel_rfl) (by kernel_rfl) rfl rfl ?_ ?_
     ·
      refine ⟨?_, ?_, ?_, ?_, ?_, ?_, ?_, ?_, ?_, ?_, ?_, trivial⟩
      ·
       intro vf pf hR
       exact ovQ rfl (zam [15] rfl) (zbg (zas rfl))
      ·
       intro vf pf hR
       exact ovQ rfl (zam [1] rfl) (zbg (zas rfl))
      ·
       intro vf pf hR
       exact ovQ rfl (zam [20] rfl) (zbg (zas rfl))
      ·
       intro vf pf hR
       exact ovQ rfl (zam [7] rfl) (zbg (zas rfl))
      ·
       intro vf pf hR
       have e2 := hR 2 (by decide)
       have e3 := hR 3 (by decide)
       exact ovQ rfl (sk 198 (congrArg some e2.1) (sk 199 (congrArg some e3.1) (zaf _))) (zbg (vsQ rfl rfl rfl))
      ·
       intro vf pf hR
       have e1 := hR 1 (by decide)
       have e4 := hR 4 (by decide)
       exact olQ rfl (sk 197 (congrArg some e1.1) (sk 200 (congrArg some e4.1) (zaf _))) (zbg (riQ 1 rfl rfl rfl rfl (zab hv.row)))
      ·
       intro vf pf hR
       have e5 := hR 5 (by decide)
       exact olQ rfl (sk 201 (congrArg some e5.1) (zaf _)) (zbg (zar (u := (rs.getD (((k3 : Int) - n.fst).toNat) crow0).v) rfl rfl rfl (zab hv.row) (zcu crowC (fun r => r.v) (fun _ => rfl) rs crow0 (show ((k3 : Int) - n.fst).toNat < _ by omega))))
      ·
       intro vf pf hR
       have e0 := hR 0 (by decide)
       have e6 := hR 6 (by decide)
       exact olQ rfl (sk 196 (congrArg some e0.1) (sk 202 (congrArg some e6.1) (zaf _))) (zaq rfl rfl (fun w hm => ziv to2 ((rs.getD (((k3 : Int) - n.fst).toNat) crow0).xs) _ _ w ((zae 6 rfl) w hm) ((zab (hv.at (k := (((k3 : Int) - n.fst).toNat)) (by omega))) w hm) hbl9 (by omega)))
      ·
       intro vf pf hR
       exact ovQ rfl (zam [22] rfl) (zbg (fdQ 1 rfl rfl rfl))
      ·
       intro vf pf hR
       have e8 := hR 8 (by decide)
       exact olQ rfl (sk 204 (congrArg some e8.1) (zaf _)) (zbg (zad rfl rfl rfl (zaa 0 rfl rfl)))
      intro vf pf hR
      have e7 : (fun v' post => post = [rowE 3 1 v' ((ndL to2 ((rs.getD (((k3 : Int) - n.fst).toNat) crow0).xs))).length (((ndL to2 ((rs.getD (((k3 : Int) - n.fst).toNat) crow0).xs))).map (Value.int .i64))]) (vf 7) (pf 7) := hR 7 (by decide)
      obtain ⟨v53, vE7⟩ : ∃ x, vf 7 = x := ⟨_, rfl⟩
      obtain ⟨p54, pE7⟩ : ∃ x, pf 7 = x := ⟨_, rfl⟩
      have hR55 := e7
      rw [vE7, pE7] at hR55
      subst hR55
      have e9 := hR 9 (by decide)
      refine Or.inl ⟨rfl, ?_⟩
      exact zci (sk 203 (congrArg some vE7) (sk 205 (congrArg some e9.1) (zaf _))) (by simp only [pE7, vE7, e9.2, fS] <;> rfl) (zcy (zbg (zft (cs := #[v53, .int .i64 tq.B]) rfl rfl (fun w hm => zld v53 tq.B ((zae 0 rfl w hm).one)))) (fun _ _ h => ⟨h.1.trans (by show _ = (.agg #[(vf 7), .int .i64 tq.B] : Value); first | (rw [vE7]; done) | (rw [vE7]; rfl)), h.2⟩))
     intro vf pf hR
     have e7 : (fun v' post => post = [rowE 3 1 v' ((ndL to2 ((rs.getD (((k3 : Int) - n.fst).toNat) crow0).xs))).length (((ndL to2 ((rs.getD (((k3 : Int) - n.fst).toNat) crow0).xs))).map (Value.int .i64))]) (vf 7) (pf 7) := hR 7 (by decide)
     obtain ⟨v53, vE7⟩ : ∃ x, vf 7 = x := ⟨_, rfl⟩
     obtain ⟨p54, pE7⟩ : ∃ x, pf 7 = x := ⟨_, rfl⟩
     have hR55 := e7
     rw [vE7, pE7] at hR55
     subst hR55
     have e10 : (vf 10) = .agg #[(vf 7), .int .i64 tq.B] ∧ (pf 10) = [] := hR 10 (by decide)
     rw [vE7] at e10
     have q0 := hR 0 (by decide)
     have q1 := hR 1 (by decide)
     have q2 := hR 2 (by decide)
     have q3 := hR 3 (by decide)
     have q4 := hR 4 (by decide)
     have q5 := hR 5 (by decide)
     have q6 := hR 6 (by decide)
     have q8 := hR 8 (by decide)
     have q9 := hR 9 (by decide)
     have q10 := hR 10 (by decide)
     refine zco (zbk [185, 173, 166, 124, 114, 69, 42, 27, 22, 21, 20, 16, 15, 14, 10, 9, 8, 7, 6, 5, 4, 2, 1, 0] _ (sk 206 (congrArg some e10.1) (zaf _)) rfl) (by simp only [pE7, vE7, q0.2, q1.2, q2.2, q3.2, q4.2, q5.2, q6.2, q8.2, q9.2, q10.2, fS] <;> rfl) ?_
     simp only [List.drop_succ_cons, List.drop_zero]
     refine zdn (i := 0) rfl (fun ho56 => ?_)
     refine zcc (cs' := #[v53, .int .i64 tq.B]) (i := 2) (off := 0) (us := [v53, .int .i64 tq.B]) rfl rfl rfl rfl rfl rfl rfl (zah ho56 (zah rfl zbr)) rfl rfl rfl (ntQ (zay (hvQ rfl (fdQ 2 rfl rfl rfl) (hvQ rfl (zad rfl rfl rfl (zaa 8 rfl rfl)) (hvQ rfl (zao (cs := [v53, .int .i64 tq.B]) rfl rfl rfl rfl rfl (zaj 2 rfl 0 rfl)) ?_)))))
     refine zdk rfl (zat (z := .agg #[.slice none 0 0, .int .i64 0]) (s := 2) (cs := [v53, .int .i64 tq.B]) rfl Try.underlying27 rfl (by decide) rfl (by kernel_rfl) rfl) ?_
     intro g57
     refine zcd (i := 6) (z := .agg #[.slice none 0 0, .int .i64 0]) (bytes := 32) rfl rfl rfl rfl Try.underlying27 (by kernel_rfl) rfl rfl rfl rfl (zae 0 rfl) (zah ho56 (zah rfl zbr)) (by first | omega | (simp only [List.length_append, List.length_cons, List.length_nil]; omega)) (zbv ls2 [(Lt.mk v53 (ndL to2 ((rs.getD (((k3 : Int) - n.fst).toNat) crow0).xs)) tq.B)]) (zcx ltC ls2 (Lt.mk v53 (ndL to2 ((rs.getD (((k3 : Int) - n.fst).toNat) crow0).xs)) tq.B) _ rfl) (fun _ => rfl) ?_
     intro v58
     refine hvQ rfl (fdQ 2 rfl rfl rfl) (zdn (i := 6) rfl (fun ho59 => ?_))
     refine zez (i := 9) (cs' := #[.int .i64 n.ins, .slice none 0 0, v58, .slice none 0 0]) rfl rfl rfl rfl rfl rfl ho59 rfl rfl rfl rfl (zbu (zcv (reQ 1 rfl (hvQ rfl (vaQ rfl rfl rfl) (enQ 1 rfl ?_)))))
     refine zbw 14 [13, 12, 11, 10, 9, 8, 7, 6, 5, 1, 4] rfl rfl (by decide) ?_
     refine zcz 2 rfl ?_
     exact zct (k3 + 1) (nos.set k3 (n.fst + (ls2.length : Int))) (ls2 ++ [(Lt.mk v53 (ndL to2 ((rs.getD (((k3 : Int) - n.fst).toNat) crow0).xs)) tq.B)]) (v58, [bigE yt9.2, rowE 3 1 v53 ((ndL to2 ((rs.getD (((k3 : Int) - n.fst).toNat) crow0).xs)).length) ((ndL to2 ((rs.getD (((k3 : Int) - n.fst).toNat) crow0).xs)).map (Value.int .i64))]) ⟨by omega, by rw [List.length_set]; exact hnol, by rw [List.length_append, List.length_singleton]; omega, hlo2.app (ztd htq (by rw [htn, zjx]) (by rw [zjx]; exact hcp.len) (zre hto3 hbl9 huse)), (by rw [List.length_append, List.length_singleton]; exact hto3.up (Nat.le_succ _)), (by rw [List.length_append, List.length_singleton]; exact hno.put (by omega) (Nat.le_succ _) ⟨by omega, by omega⟩), fun w hw => (hbs2 w (zbh hw List.mem_cons_self)).app (zcf (zbh hw (List.mem_cons_of_mem _ List.mem_cons_self)))⟩ (by omega) (saQ rfl) (pfQ rfl)
    refine ntQ (zal rfl (zac (reQ 1 rfl ?_)))
    refine zet rfl rfl rfl rfl rfl rfl (fun h60 => ?_) (fun h60 => ?_)
    ·
     refine ntQ (zak rfl (reQ 1 rfl ?_))
     refine zdk rfl (zat (z := .int .i64 0) (s := 1) (cs := ([(k3 : Int)].map (Value.int .i64))) rfl Try.underlying28 rfl (by decide) rfl (by kernel_rfl) rfl) ?_
     intro g61
     refine hvQ rfl (fdQ 0 rfl rfl rfl) (zez (i := 1) (cs' := #[.slice (some ⟨g61, 0, none⟩) 1 1, .int .i64 1]) rfl rfl rfl rfl rfl rfl rfl rfl rfl rfl rfl ?_)
     refine ntQ (zay (hvQ rfl (fdQ 2 rfl rfl rfl) (hvQ rfl (zad rfl rfl rfl (zaa 7 rfl rfl)) (hvQ rfl (zao (cs := [.slice (some ⟨g61, 0, none⟩) 1 1, .int .i64 1]) rfl rfl rfl rfl rfl (zaj 1 rfl 0 rfl)) ?_))))
     refine zdk rfl (zat (z := .agg #[.slice none 0 0, .int .i64 0]) (s := 2) (cs := [.slice (some ⟨g61, 0, none⟩) 1 1, .int .i64 1]) rfl Try.underlying27 rfl (by decide) rfl (by kernel_rfl) rfl) ?_
     intro g62
     refine zcd (i := 5) (z := .agg #[.slice none 0 0, .int .i64 0]) (bytes := 32) rfl rfl rfl rfl Try.underlying27 (by kernel_rfl) rfl rfl rfl rfl (zae 0 rfl) (by simp [Value.oneCell']) (by first | omega | (simp only [List.length_append, List.length_cons, List.length_nil]; omega)) (zbv ls2 [(Lt.mk (.slice (some ⟨g61, 0, none⟩) 1 1) ([(k3 : Int)]) 1)]) (zcx ltC ls2 (Lt.mk (.slice (some ⟨g61, 0, none⟩) 1 1) ([(k3 : Int)]) 1) _ rfl) (fun _ => rfl) ?_
     intro v63
     refine hvQ rfl (fdQ 2 rfl rfl rfl) (zdn (i := 5) rfl (fun ho64 => ?_))
     refine zez (i := 8) (cs' := #[.int .i64 n.ins, .slice none 0 0, v63, .slice none 0 0]) rfl rfl rfl rfl rfl rfl ho64 rfl rfl rfl rfl (zbu (zcv (reQ 1 rfl (hvQ rfl (vaQ rfl rfl rfl) (enQ 1 rfl ?_)))))
     refine zbw 13 [12, 11, 10, 9, 8, 7, 6, 5, 4, 1, 3] rfl rfl (by decide) ?_
     refine zcz 2 rfl ?_
     exact zct (k3 + 1) (nos.set k3 (n.fst + (ls2.length : Int))) (ls2 ++ [(Lt.mk (.slice (some ⟨g61, 0, none⟩) 1 1) ([(k3 : Int)]) 1)]) (v63, [bigE yt9.2, rowE 3 1 (.slice (some ⟨g61, 0, none⟩) 1 1) 1 ([(k3 : Int)].map (Value.int .i64))]) ⟨by omega, by rw [List.length_set]; exact hnol, by rw [List.length_append, List.length_singleton]; omega, hlo2.app (LutP.one (by omega) (by omega)), (by rw [List.length_append, List.length_singleton]; exact hto3.up (Nat.le_succ _)), (by rw [List.length_append, List.length_singleton]; exact hno.put (by omega) (Nat.le_succ _) ⟨by omega, by omega⟩), fun w hw => (hbs2 w (zbh hw List.mem_cons_self)).app (zcf (zbh hw (List.mem_cons_of_mem _ List.mem_cons_self)))⟩ (by omega) (saQ rfl) (pfQ rfl)
    refine ntQ (zal rfl (zcq (zay (hvQ rfl (fdQ 2 rfl rfl rfl) (hvQ rfl (zad rfl rfl rfl (zaa 6 rfl rfl)) (hvQ rfl (zao (cs := [.slice none 0 0, .int .i64 1]) rfl rfl rfl rfl rfl (zaj 0 rfl 0 rfl)) ?_))))))
    refine zdk rfl (zat (z := .agg #[.slice none 0 0, .int .i64 0]) (s := 2) (cs := [.slice none 0 0, .int .i64 1]) rfl Try.underlying27 rfl (by decide) rfl (by kernel_rfl) rfl) ?_
    intro g65
    refine zcd (i := 4) (z := .agg #[.slice none 0 0, .int .i64 0]) (bytes := 32) rfl rfl rfl rfl Try.underlying27 (by kernel_rfl) rfl rfl rfl rfl (zae 0 rfl) (by simp [Value.oneCell']) (by first | omega | (simp only [List.length_append, List.length_cons, List.length_nil]; omega)) (zbv ls2 [(Lt.mk (.slice none 0 0) ([]) 1)]) (zcx ltC ls2 (Lt.mk (.slice none 0 0) ([]) 1) _ rfl) (fun _ => rfl) ?_
    intro v66
    refine hvQ rfl (fdQ 2 rfl rfl rfl) (zdn (i := 4) rfl (fun ho67 => ?_))
    refine zez (i := 7) (cs' := #[.int .i64 n.ins, .slice none 0 0, v66, .slice none 0 0]) rfl rfl rfl rfl rfl rfl ho67 rfl rfl rfl rfl (zbu (zcv (reQ 1 rfl (hvQ rfl (vaQ rfl rfl rfl) (enQ 1 rfl ?_)))))
    refine zbw 12 [11, 10, 9, 8, 7, 6, 5, 4, 3, 2] rfl rfl (by decide) ?_
    refine zcz 1 rfl ?_
    exact zct (k3 + 1) (nos.set k3 (n.fst + (ls2.length : Int))) (ls2 ++ [(Lt.mk (.slice none 0 0) ([]) 1)]) (v66, [bigE yt9.2]) ⟨by omega, by rw [List.length_set]; exact hnol, by rw [List.length_append, List.length_singleton]; omega, hlo2.app (LutP.none), (by rw [List.length_append, List.length_singleton]; exact hto3.up (Nat.le_succ _)), (by rw [List.length_append, List.length_singleton]; exact hno.put (by omega) (Nat.le_succ _) ⟨by omega, by omega⟩), fun w hw => (hbs2 w (zbh hw List.mem_cons_self)).app (zku (w0 := w) (l := []) w (Mem.refl w))⟩ (by omega) (saQ rfl) (pfQ rfl)
   refine zaz 1 rfl (zak rfl ?_)
   refine zba (zdg ?_)
   refine zag (zaw (reQ 1 rfl (hvQ rfl (vaQ rfl rfl rfl) (enQ 1 rfl ?_))))
   exact zct (k3 + 1) nos ls2 (yt9.1, yt9.2) ⟨by omega, hnol, by omega, hlo2, hto3, hno.skip (by assumption), hbs2⟩ (by omega) (saQ rfl) (pfQ rfl)
  refine ntQ (zal rfl ?_)
  refine zba (zdq ?_)
  refine zag (zaw (zac (zbd 1 rfl (zax ?_))))
  refine zrs (α := Nat) (β := Value) (γ := List Sq) (δ := List HP) [0, 1, 2, 4, 5, 6, 7, 8, 9, 10, 14, 15, 16, 27, 42, 69, 114, 124, 166] rfl (fun j4 u5 ss bs3 => [bigE bs3, rowE 66 3 u5 ss.length (ss.flatMap sqC), rowE 107 2 yt9.1 ls2.length (ls2.flatMap ltC), rowE 3 1 (.slice (some ⟨g20, 0, none⟩) ((List.replicate (n.cnt).toNat (0 : Int)).length) ((List.replicate (n.cnt).toNat (0 : Int)).length)) nos.length (nos.map (Value.int .i64)), rowE 3 1 zt9.1.1 to2.length (to2.map (Value.int .i64)), boxE b18 #[.int .i64 n.ins, u5, yt9.1, .slice none 0 0] 30, rowE 4 1 (.slice (some ⟨g5, 0, none⟩) ((List.replicate (n.cnt).toNat bl0).length) ((List.replicate (n.cnt).toNat bl0).length)) ng.length (ng.flatMap blC), rowE 4 1 (.slice (some ⟨g4, 0, none⟩) ((List.replicate (n.cnt).toNat bl0).length) ((List.replicate (n.cnt).toNat bl0).length)) p2.length (p2.flatMap blC), boxE b2 #[.int .i64 0, .slice none 0 0, .slice none 0 0, .slice none 0 0] 30, boxE b1 #[.int .i64 n.ins, n.sv, n.av, n.ov] 86]) (fun j4 u5 ss bs3 => [(23, .int .i64 (j4 : Int))]) (fun j4 u5 ss bs3 => j4 ≤ n.ss.length ∧ ss.length = j4 ∧ SqsN (n.fst + (ls2.length : Int)) ss ∧ ∀ w, (bigE bs3).holds w → RdsLuts w ls2 ∧ RdsSqs w ss) (fun j4 u5 ss bs3 => n.ss.length - j4) 0 _ [] _ ⟨Nat.zero_le _, rfl, SqsN.nil _, fun w hw => ⟨hbs2 w hw, RdsSqs.nil w⟩⟩ (saQ rfl) (pfQ rfl) ?_
  intro j4 u5 ss bs3 hi68
  obtain ⟨hj4, hsl4, hsn, hbs3⟩ := hi68
  have hnoF : NosOk ng n.fst ls2.length nos.length nos := by rw [show nos.length = k3 by omega]; exact hno
  refine zac (zac (reQ 1 rfl (hvQ rfl (fdQ 1 rfl rfl rfl) (hvQ rfl (zad rfl rfl rfl (zaa 9 rfl rfl)) (hvQ rfl (lnQ rfl rfl rfl (zab hr.sq)) ?_)))))
  refine zbj rfl rfl rfl rfl rfl rfl (fun h69 => ?_) (fun h69 => ?_)
  ·
   refine ntQ (zak rfl (zcq (sbQ ?_)))
   refine zdf rfl 25 [0, 1, 2, 3, 4, 5, 6, 7, 8, 9, 10, 11, 12, 13, 14, 15, 16, 17, 18, 19, 20, 21, 22, 23, 24] (List.take 25 _) (List.drop 25 _) [[], [0], [], [2], [], [3, 4], [5], [6], [], [8], [], [9, 10], [11], [12], [], [], [], [16], [], [17, 18], [19], [20], [14, 15, 21], [7, 13, 22], [22, 23]] [225, 226, 227, 228, 229, 230, 231, 232, 233, 234, 235, 236, 237, 238, 239, 240, 241, 242, 243, 244, 245, 246, 247, 248, 249] (fun i_ vs_ v_ p_ => match i_ with | 0 => v_ = .pointer (some ⟨b18, 0 + 1, none⟩) ∧ p_ = [] | 1 => v_ = u5 ∧ p_ = [] | 2 => v_ = .pointer (some ⟨b1, 0 + 1, none⟩) ∧ p_ = [] | 3 => v_ = n.sv ∧ p_ = [] | 4 => v_ = .int .i64 (j4 : Int) ∧ p_ = [] | 5 => v_ = elP n.sv (((j4 : Int)).toNat * 3) ∧ p_ = [] | 6 => v_ = elP n.sv (((j4 : Int)).toNat * 3 + 0) ∧ p_ = [] | 7 => v_ = .int .i64 ((n.ss.getD j4 sq0).kd) ∧ p_ = [] | 8 => v_ = .pointer (some ⟨b1, 0 + 1, none⟩) ∧ p_ = [] | 9 => v_ = n.sv ∧ p_ = [] | 10 => v_ = .int .i64 (j4 : Int) ∧ p_ = [] | 11 => v_ = elP n.sv (((j4 : Int)).toNat * 3) ∧ p_ = [] | 12 => v_ = elP n.sv (((j4 : Int)).toNat * 3 + 1) ∧ p_ = [] | 13 => v_ = .int .i64 ((n.ss.getD j4 sq0).it) ∧ p_ = [] | 14 => v_ = zt9.1.1 ∧ p_ = [] | 15 => v_ = .slice (some ⟨g20, 0, none⟩) ((List.replicate (n.cnt).toNat (0 : Int)).length) ((List.replicate (n.cnt).toNat (0 : Int)).length) ∧ p_ = [] | 16 => v_ = .pointer (some ⟨b1, 0 + 1, none⟩) ∧ p_ = [] | 17 => v_ = n.sv ∧ p_ = [] | 18 => v_ = .int .i64 (j4 : Int) ∧ p_ = [] | 19 => v_ = elP n.sv (((j4 : Int)).toNat * 3) ∧ p_ = [] | 20 => v_ = elP n.sv (((j4 : Int)).toNat * 3 + 2) ∧ p_ = [] | 21 => v_ = (n.ss.getD j4 sq0).iv ∧ p_ = [] | 22 => (fun v' post => post = [rowE 3 1 v' ((rtL to2 nos ((n.ss.getD j4 sq0).xs))).length (((rtL to2 nos ((n.ss.getD j4 sq0).xs))).map (Value.int .i64))]) v_ p_ | 23 => v_ = .agg #[.int .i64 ((n.ss.getD j4 sq0).kd), .int .i64 ((n.ss.getD j4 sq0).it), (List.getD vs_ 2 undef)] ∧ p_ = [] | 24 => IsRow 66 3 1 ([.int .i64 ((n.ss.getD j4 sq0).kd), .int .i64 ((n.ss.getD j4 sq0).it), (List.getD vs_ 0 undef)]) v_ p_ | _ => True) (List.take_append_drop 25 _).symm (by kernel_rfl) (by kernel_rfl) rfl rfl ?_ ?_
   ·
    refine ⟨?_, ?_, ?_, ?_, ?_, ?_, ?_, ?_, ?_, ?_, ?_, ?_, ?_, ?_, ?_, ?_, ?_, ?_, ?_, ?_, ?_, ?_, ?_, ?_, ?_, trivial⟩
    ·
     intro vf pf hR
     exact ovQ rfl (zam [14] rfl) (zbg (fdQ 1 rfl rfl rfl))
    ·
     intro vf pf hR
     have e0 := hR 0 (by decide)
     exact olQ rfl (sk 225 (congrArg some e0.1) (zaf _)) (zbg (zad rfl rfl rfl (zaa 5 rfl rfl)))
    ·
     intro vf pf hR
     exact ovQ rfl (zam [2] rfl) (zbg (fdQ 1 rfl rfl rfl))
    ·
     intro vf pf hR
     have e2 := hR 2 (by decide)
     exact olQ rfl (sk 227 (congrArg some e2.1) (zaf _)) (zbg (zad rfl rfl rfl (zaa 9 rfl rfl)))
    ·
     intro vf pf hR
     exact ovQ rfl (zam [23] rfl) (zbg (zas rfl))
    ·
     intro vf pf hR
     have e3 := hR 3 (by decide)
     have e4 := hR 4 (by decide)
     exact olQ rfl (sk 228 (congrArg some e3.1) (sk 229 (congrArg some e4.1) (zaf _))) (zbg (riQ 3 rfl rfl rfl rfl (zab hr.sq)))
    ·
     intro vf pf hR
     have e5 := hR 5 (by decide)
     exact olQ rfl (sk 230 (congrArg some e5.1) (zaf _)) (zbg (zbe (k0 := 0) rfl rfl rfl (zab hr.sq) (by omega)))
    ·
     intro vf pf hR
     have e6 := hR 6 (by decide)
     exact olQ rfl (sk 231 (congrArg some e6.1) (zaf _)) (zbg (zar (u := .int .i64 ((n.ss.getD j4 sq0).kd)) rfl rfl rfl (zab hr.sq) ((zce sqC 3 (fun _ => rfl) n.ss sq0 (show j4 < _ by omega) (by decide)).trans rfl)))
    ·
     intro vf pf hR
     exact ovQ rfl (zam [2] rfl) (zbg (fdQ 1 rfl rfl rfl))
    ·
     intro vf pf hR
     have e8 := hR 8 (by decide)
     exact olQ rfl (sk 233 (congrArg some e8.1) (zaf _)) (zbg (zad rfl rfl rfl (zaa 9 rfl rfl)))
    ·
     intro vf pf hR
     exact ovQ rfl (zam [23] rfl) (zbg (zas rfl))
    ·
     intro vf pf hR
     have e9 := hR 9 (by decide)
     have e10 := hR 10 (by decide)
     exact olQ rfl (sk 234 (congrArg some e9.1) (sk 235 (congrArg some e10.1) (zaf _))) (zbg (riQ 3 rfl rfl rfl rfl (zab hr.sq)))
    ·
     intro vf pf hR
     have e11 := hR 11 (by decide)
     exact olQ rfl (sk 236 (congrArg some e11.1) (zaf _)) (zbg (zbe (k0 := 1) rfl rfl rfl (zab hr.sq) (by omega)))
    ·
     intro vf pf hR
     have e12 := hR 12 (by decide)
     exact olQ rfl (sk 237 (congrArg some e12.1) (zaf _)) (zbg (zar (u := .int .i64 ((n.ss.getD j4 sq0).it)) rfl rfl rfl (zab hr.sq) ((zce sqC 3 (fun _ => rfl) n.ss sq0 (show j4 < _ by omega) (by decide)).trans rfl)))
    ·
     intro vf pf hR
     exact ovQ rfl (zam [15] rfl) (zbg (zas rfl))
    ·
     intro vf pf hR
     exact ovQ rfl (zam [16] rfl) (zbg (zas rfl))
    ·
     intro vf pf hR
     exact ovQ rfl (zam [2] rfl) (zbg (fdQ 1 rfl rfl rfl))
    ·
     intro vf pf hR
     have e16 := hR 16 (by decide)
     exact olQ rfl (sk 241 (congrArg some e16.1) (zaf _)) (zbg (zad rfl rfl rfl (zaa 9 rfl rfl)))
    ·
     intro vf pf hR
     exact ovQ rfl (zam [23] rfl) (zbg (zas rfl))
    ·
     intro vf pf hR
     have e17 := hR 17 (by decide)
     have e18 := hR 18 (by decide)
     exact olQ rfl (sk 242 (congrArg some e17.1) (sk 243 (congrArg some e18.1) (zaf _))) (zbg (riQ 3 rfl rfl rfl rfl (zab hr.sq)))
    ·
     intro vf pf hR
     have e19 := hR 19 (by decide)
     exact olQ rfl (sk 244 (congrArg some e19.1) (zaf _)) (zbg (zbe (k0 := 2) rfl rfl rfl (zab hr.sq) (by omega)))
    ·
     intro vf pf hR
     have e20 := hR 20 (by decide)
     exact olQ rfl (sk 245 (congrArg some e20.1) (zaf _)) (zbg (zar (u := (n.ss.getD j4 sq0).iv) rfl rfl rfl (zab hr.sq) ((zce sqC 3 (fun _ => rfl) n.ss sq0 (show j4 < _ by omega) (by decide)).trans rfl)))
    ·
     intro vf pf hR
     have e14 := hR 14 (by decide)
     have e15 := hR 15 (by decide)
     have e21 := hR 21 (by decide)
     exact olQ rfl (sk 239 (congrArg some e14.1) (sk 240 (congrArg some e15.1) (sk 246 (congrArg some e21.1) (zaf _)))) (zaq rfl rfl (fun w hm => ziu to2 nos ((n.ss.getD j4 sq0).xs) _ _ _ w ((zae 4 rfl) w hm) ((zae 3 rfl) w hm) ((zab (hr.at (k := j4) (by omega))) w hm) (fun k hk => by have h9 := hn.xs _ (zbl (d := sq0) (show j4 < n.ss.length by omega)) _ (zbl (d := (0 : Int)) hk); unfold LtOk at h9; omega) (by have h8 := (hn.sq _ (zbl (d := sq0) (show j4 < n.ss.length by omega))).len; omega) (by omega)))
    ·
     intro vf pf hR
     have e7 := hR 7 (by decide)
     have e13 := hR 13 (by decide)
     have e22 : (fun v' post => post = [rowE 3 1 v' ((rtL to2 nos ((n.ss.getD j4 sq0).xs))).length (((rtL to2 nos ((n.ss.getD j4 sq0).xs))).map (Value.int .i64))]) (vf 22) (pf 22) := hR 22 (by decide)
     obtain ⟨v70, vE22⟩ : ∃ x, vf 22 = x := ⟨_, rfl⟩
     obtain ⟨p71, pE22⟩ : ∃ x, pf 22 = x := ⟨_, rfl⟩
     have hR72 := e22
     rw [vE22, pE22] at hR72
     subst hR72
     refine Or.inl ⟨rfl, ?_⟩
     exact zci (sk 232 (congrArg some e7.1) (sk 238 (congrArg some e13.1) (sk 247 (congrArg some vE22) (zaf _)))) (by simp only [pE22, vE22, e7.2, e13.2, fS] <;> rfl) (zcy (zbg (zft (cs := #[.int .i64 ((n.ss.getD j4 sq0).kd), .int .i64 ((n.ss.getD j4 sq0).it), v70]) rfl rfl (fun w hm => zlc ((n.ss.getD j4 sq0).kd) ((n.ss.getD j4 sq0).it) v70 ((zae 0 rfl w hm).one)))) (fun _ _ h => ⟨h.1.trans (by show _ = (.agg #[.int .i64 ((n.ss.getD j4 sq0).kd), .int .i64 ((n.ss.getD j4 sq0).it), (vf 22)] : Value); first | (rw [vE22]; done) | (rw [vE22]; rfl)), h.2⟩))
    intro vf pf hR
    have e22 : (fun v' post => post = [rowE 3 1 v' ((rtL to2 nos ((n.ss.getD j4 sq0).xs))).length (((rtL to2 nos ((n.ss.getD j4 sq0).xs))).map (Value.int .i64))]) (vf 22) (pf 22) := hR 22 (by decide)
    obtain ⟨v70, vE22⟩ : ∃ x, vf 22 = x := ⟨_, rfl⟩
    obtain ⟨p71, pE22⟩ : ∃ x, pf 22 = x := ⟨_, rfl⟩
    have hR72 := e22
    rw [vE22, pE22] at hR72
    subst hR72
    have e23 : (vf 23) = .agg #[.int .i64 ((n.ss.getD j4 sq0).kd), .int .i64 ((n.ss.getD j4 sq0).it), (vf 22)] ∧ (pf 23) = [] := hR 23 (by decide)
    rw [vE22] at e23
    refine Or.inl ⟨rfl, ?_⟩
    exact zci (sk 248 (congrArg some e23.1) (zaf _)) (by simp only [pE22, vE22, e23.2, fS] <;> rfl) (zcy (zat (z := .agg #[.int .i64 0, .int .i64 0, .slice none 0 0]) (s := 3) (cs := [.int .i64 ((n.ss.getD j4 sq0).kd), .int .i64 ((n.ss.getD j4 sq0).it), v70]) rfl Try.underlying26 rfl (by decide) rfl (by kernel_rfl) rfl) (fun v_ p_ h => by show IsRow 66 3 1 ([.int .i64 ((n.ss.getD j4 sq0).kd), .int .i64 ((n.ss.getD j4 sq0).it), (vf 22)]) v_ p_; rw [vE22]; exact h))
   intro vf pf hR
   have e1 := hR 1 (by decide)
   have e22 : (fun v' post => post = [rowE 3 1 v' ((rtL to2 nos ((n.ss.getD j4 sq0).xs))).length (((rtL to2 nos ((n.ss.getD j4 sq0).xs))).map (Value.int .i64))]) (vf 22) (pf 22) := hR 22 (by decide)
   obtain ⟨v70, vE22⟩ : ∃ x, vf 22 = x := ⟨_, rfl⟩
   obtain ⟨p71, pE22⟩ : ∃ x, pf 22 = x := ⟨_, rfl⟩
   have hR72 := e22
   rw [vE22, pE22] at hR72
   subst hR72
   have e24 : IsRow 66 3 1 ([.int .i64 ((n.ss.getD j4 sq0).kd), .int .i64 ((n.ss.getD j4 sq0).it), (vf 22)]) (vf 24) (pf 24) := hR 24 (by decide)
   rw [vE22] at e24
   obtain ⟨g73, vE24, pE24⟩ := e24
   have q0 := hR 0 (by decide)
   have q1 := hR 1 (by decide)
   have q2 := hR 2 (by decide)
   have q3 := hR 3 (by decide)
   have q4 := hR 4 (by decide)
   have q5 := hR 5 (by decide)
   have q6 := hR 6 (by decide)
   have q7 := hR 7 (by decide)
   have q8 := hR 8 (by decide)
   have q9 := hR 9 (by decide)
   have q10 := hR 10 (by decide)
   have q11 := hR 11 (by decide)
   have q12 := hR 12 (by decide)
   have q13 := hR 13 (by decide)
   have q14 := hR 14 (by decide)
   have q15 := hR 15 (by decide)
   have q16 := hR 16 (by decide)
   have q17 := hR 17 (by decide)
   have q18 := hR 18 (by decide)
   have q19 := hR 19 (by decide)
   have q20 := hR 20 (by decide)
   have q21 := hR 21 (by decide)
   have q23 := hR 23 (by decide)
   refine zco (zbk [222, 166, 124, 114, 69, 42, 27, 23, 16, 15, 14, 10, 9, 8, 7, 6, 5, 4, 2, 1, 0] _ (sk 226 (congrArg some e1.1) (sk 249 (congrArg some vE24) (zaf _))) rfl) (by simp only [pE22, vE22, pE24, vE24, q0.2, q1.2, q2.2, q3.2, q4.2, q5.2, q6.2, q7.2, q8.2, q9.2, q10.2, q11.2, q12.2, q13.2, q14.2, q15.2, q16.2, q17.2, q18.2, q19.2, q20.2, q21.2, q23.2, fS] <;> rfl) ?_
   simp only [List.drop_succ_cons, List.drop_zero]
   refine zdn (i := 0) rfl (fun ho74 => ?_)
   refine zcd (i := 3) (z := .agg #[.int .i64 0, .int .i64 0, .slice none 0 0]) (bytes := 40) rfl rfl rfl rfl Try.underlying26 (by kernel_rfl) rfl rfl rfl rfl (zae 1 rfl) (zah rfl (zah rfl (zah ho74 zbr))) (by first | omega | (simp only [List.length_append, List.length_cons, List.length_nil]; omega)) (zbv ss [(Sq.mk ((n.ss.getD j4 sq0).kd) ((n.ss.getD j4 sq0).it) v70 (rtL to2 nos ((n.ss.getD j4 sq0).xs)))]) (zcx sqC ss (Sq.mk ((n.ss.getD j4 sq0).kd) ((n.ss.getD j4 sq0).it) v70 (rtL to2 nos ((n.ss.getD j4 sq0).xs))) _ rfl) (fun _ => rfl) ?_
   intro v75
   refine hvQ rfl (fdQ 1 rfl rfl rfl) (zdn (i := 3) rfl (fun ho76 => ?_))
   refine zez (i := 7) (cs' := #[.int .i64 n.ins, v75, yt9.1, .slice none 0 0]) rfl rfl rfl rfl rfl rfl ho76 rfl rfl rfl rfl (zbu (zcv (reQ 1 rfl (hvQ rfl (vaQ rfl rfl rfl) (enQ 1 rfl ?_)))))
   refine zbw 12 [11, 10, 9, 8, 7, 6, 5, 4, 3, 0, 2] rfl rfl (by decide) ?_
   refine zcz 2 rfl ?_
   exact zct (j4 + 1) v75 (ss ++ [(Sq.mk ((n.ss.getD j4 sq0).kd) ((n.ss.getD j4 sq0).it) v70 (rtL to2 nos ((n.ss.getD j4 sq0).xs)))]) [bigE bs3, rowE 3 1 v70 ((rtL to2 nos ((n.ss.getD j4 sq0).xs)).length) ((rtL to2 nos ((n.ss.getD j4 sq0).xs)).map (Value.int .i64))] ⟨by omega, by rw [List.length_append, List.length_singleton]; omega, hsn.app (zul (hn.sq _ (zbl (d := sq0) (by omega))) (zok _ _ _) _) (zrd hto3 hnoF (c := n.cnt) (by omega) (by omega) (fun l hl => ⟨hn.xs _ (zbl (d := sq0) (by omega)) l hl, hru2.all l (rts_sq (zbl (d := sq0) (by omega)) hl)⟩)), fun w hw => ⟨(hbs3 w (zbh hw List.mem_cons_self)).1, (hbs3 w (zbh hw List.mem_cons_self)).2.app (zcf (zbh hw (List.mem_cons_of_mem _ List.mem_cons_self)))⟩⟩ (by omega) (saQ rfl) (pfQ rfl)
  refine ntQ (zal rfl ?_)
  refine zba (zdq ?_)
  refine zag (zaw (zac (reQ 2 rfl (hvQ rfl (fdQ 3 rfl rfl rfl) (hvQ rfl (zad rfl rfl rfl (zaa 9 rfl rfl)) ?_)))))
  refine zfg rfl rfl rfl (zaq rfl rfl (fun w hm => ziu to2 nos n.os _ _ _ w ((zae 4 rfl) w hm) ((zae 3 rfl) w hm) ((zab hr.ou) w hm) (fun k hk => by have h9 := hn.ou _ (zbl (d := (0 : Int)) hk); unfold LtOk at h9; omega) (by omega) (by omega))) ?_
  intro v77 p78 hR79
  subst hR79
  refine hvQ rfl (fdQ 3 rfl rfl rfl) (zdn (i := 0) rfl (fun ho80 => ?_))
  refine zez (i := 6) (cs' := #[.int .i64 n.ins, u5, yt9.1, v77]) rfl rfl rfl rfl rfl rfl ho80 rfl rfl rfl rfl (ntQ (srQ (hvQ rfl (zao (cs := [.int .i64 n.ins, u5, yt9.1, v77]) rfl rfl rfl rfl rfl (zaj 6 rfl 0 rfl)) ?_)))
  refine zdn (i := 3) rfl (fun ho81 => ?_)
  refine zdn (i := 2) rfl (fun ho82 => ?_)
  refine zcc (cs' := #[.int .i64 n.ins, u5, yt9.1, v77]) (i := 9) (off := 0) (us := [.int .i64 n.ins, u5, yt9.1, v77]) rfl rfl rfl rfl rfl rfl rfl (zah rfl (zah ho82 (zah ho81 (zah ho80 zbr)))) rfl rfl rfl (zaz 1 rfl ?_)
  refine zau (zed (fun w hm => (zae 2 rfl w hm).one) (fun ho1 => ?_))
  refine zed (fun w hm => (zae 3 rfl w hm).one) (fun ho2 => ?_)
  refine zed (fun w hm => (zae 0 rfl w hm).one) (fun ho3 => ?_)
  refine zbw 11 [9, 1, 0, 3, 2] rfl rfl (by decide) ?_
  refine zcz 4 rfl ?_
  exact zdm (rs := [.cell 4 30, .tmp 5]) (vs := [.agg #[.int .i64 n.ins, u5, yt9.1, v77], .bool true]) (post := [bigE [rowE 66 3 u5 ss.length (ss.flatMap sqC), rowE 107 2 yt9.1 ls2.length (ls2.flatMap ltC), rowE 3 1 v77 ((rtL to2 nos n.os).length) ((rtL to2 nos n.os).map (Value.int .i64)), bigE bs3]]) rfl ⟨⟨b2, 0, [.int .i64 n.ins, u5, yt9.1, v77], rfl, rfl, by kernel_rfl, by kernel_rfl, zaj 1 rfl 0 rfl⟩, rfl, trivial⟩ rfl (slQ [0] rfl) ⟨_, (Ln.mk n.ins u5 yt9.1 v77 ss ls2 (rtL to2 nos n.os)), true, rfl, rfl, fun w hw => ⟨⟨zcf (zbh hw List.mem_cons_self), (hbs3 w (zbh hw (List.mem_cons_of_mem _ (List.mem_cons_of_mem _ (List.mem_cons_of_mem _ List.mem_cons_self))))).2⟩, ⟨zcf (zbh hw (List.mem_cons_of_mem _ List.mem_cons_self)), (hbs3 w (zbh hw (List.mem_cons_of_mem _ (List.mem_cons_of_mem _ (List.mem_cons_of_mem _ List.mem_cons_self))))).1⟩, zcf (zbh hw (List.mem_cons_of_mem _ (List.mem_cons_of_mem _ List.mem_cons_self)))⟩, ⟨ho1, ho2, ho3⟩, ln_mk hn (by omega) (by omega) (by rw [zok]; exact hn.o1) (zrd hto3 hnoF (c := n.cnt) (by omega) (by omega) (fun l hl => ⟨hn.ou l hl, hru2.all l (rts_os hl)⟩)) hsn hlo2⟩
 refine zaz 1 rfl (zak rfl (srQ (hvQ rfl (zcw (cs := #[.int .i64 0, .slice none 0 0, .slice none 0 0, .slice none 0 0]) rfl rfl rfl) ?_)))
 refine zcc (cs' := #[.int .i64 0, .slice none 0 0, .slice none 0 0, .slice none 0 0]) (i := 0) (off := 0) (us := [.int .i64 0, .slice none 0 0, .slice none 0 0, .slice none 0 0]) rfl rfl rfl rfl rfl rfl rfl (zah rfl (zah rfl (zah rfl (zah rfl zbr)))) rfl rfl rfl (zaz 1 rfl ?_)
 refine zau (zai ?_)
 refine zbw 2 [1, 0] rfl rfl (by decide) ?_
 refine zgp _ zfh ?_
 exact zdm (rs := [.cell 4 30, .tmp 5]) (vs := [.agg #[.int .i64 0, .slice none 0 0, .slice none 0 0, .slice none 0 0], .bool false]) (post := [bigE ([] : List HP)]) rfl ⟨⟨b2, 0, [.int .i64 0, .slice none 0 0, .slice none 0 0, .slice none 0 0], rfl, rfl, by kernel_rfl, by kernel_rfl, zaj 1 rfl 0 rfl⟩, rfl, trivial⟩ rfl (slQ [0] rfl) ⟨_, ln00, false, rfl, rfl, fun w hw => ⟨⟨zku (w0 := w) (l := []) w (Mem.refl w), fun r hr => by cases hr⟩, ⟨zku (w0 := w) (l := []) w (Mem.refl w), fun r hr => by cases hr⟩, zku (w0 := w) (l := []) w (Mem.refl w)⟩, ⟨rfl, rfl, rfl⟩, ln00_ok⟩
open Go.RowKit
theorem zso (iv sv av ov : Value) : NtOk (Nt.mk 2 sv av ov [Sq.mk 0 1 iv [9]] [An.mk 2 6] [8, 7]) := by
  have hc : (Nt.mk 2 sv av ov [Sq.mk 0 1 iv [9]] [An.mk 2 6] [8, 7]).cnt = 5 := rfl
  have hf : (Nt.mk 2 sv av ov [Sq.mk 0 1 iv [9]] [An.mk 2 6] [8, 7]).fst = 4 := rfl
  refine ⟨(show (0 : Int) ≤ 2 by decide), (show (2 : Int) ≤ 20 by decide), by simp, by simp, by simp, fun s hs => ?_, fun s hs x hx => ?_, fun k hk => ?_, fun x hx => ?_⟩
  · obtain rfl : s = Sq.mk 0 1 iv [9] := List.mem_singleton.1 hs
    exact ⟨.inl ⟨rfl, ⟨(show (0 : Int) ≤ 1 by decide), (show (1 : Int) ≤ 1 by decide)⟩, rfl⟩⟩
  · obtain rfl : s = Sq.mk 0 1 iv [9] := List.mem_singleton.1 hs
    obtain rfl : x = 9 := List.mem_singleton.1 hx
    rw [hc]; exact ⟨by decide, by decide⟩
  · have : k = 0 := by have : k < 1 := hk; omega
    subst this
    rw [hf]; exact ⟨⟨(show (0 : Int) ≤ 2 by decide), (show (2 : Int) < 2 * (4 + ((0 : Nat) : Int)) by decide)⟩, ⟨(show (0 : Int) ≤ 6 by decide), (show (6 : Int) < 2 * (4 + ((0 : Nat) : Int)) by decide)⟩⟩
  · rw [hc]
    rcases List.mem_cons.1 hx with rfl | hx
    · exact ⟨by decide, by decide⟩
    · obtain rfl : x = 7 := List.mem_singleton.1 hx
      exact ⟨by decide, by decide⟩
theorem zmn  (w : World)  :
   Calls Try.prog 60 #[] w (Ret w (fun u_ p_ => ∃ (ps : List HP) (m : Nt), u_ = m.agg ∧ p_ = [bigE ps] ∧ (∀ w, (bigE ps).holds w → RdsNt w m) ∧ (m.sv.oneCell' = true ∧ m.av.oneCell' = true ∧ m.ov.oneCell' = true) ∧ NtOk m ∧ m.gs.length ≤ 30)) := by
 refine zbf (N := 8) (args := []) Try.func60 rfl rfl (zmf _ [] rfl (srQ ?_))
 refine zdj rfl (zbx (z := .agg #[.int .i64 0, .slice none 0 0, .slice none 0 0, .slice none 0 0]) rfl rfl) ?_
 intro b1
 refine ntQ (srQ ?_)
 refine zdk rfl (zat (z := .int .i64 0) (s := 1) (cs := ([9].map (Value.int .i64))) rfl Try.underlying28 rfl (by decide) rfl (by kernel_rfl) rfl) ?_
 intro g2
 refine hvQ rfl (zcw (cs := #[.int .i64 0, .int .i64 1, .slice (some ⟨g2, 0, none⟩) 1 1]) rfl rfl rfl) (zdk rfl (zat (z := .agg #[.int .i64 0, .int .i64 0, .slice none 0 0]) (s := 3) (cs := [.int .i64 0, .int .i64 1, .slice (some ⟨g2, 0, none⟩) 1 1]) rfl Try.underlying26 rfl (by decide) rfl (by kernel_rfl) rfl) ?_)
 intro g3
 refine hvQ rfl (zcw (cs := #[.int .i64 2, .int .i64 6]) rfl rfl rfl) (zdk rfl (zat (z := .agg #[.int .i64 0, .int .i64 0]) (s := 2) (cs := ([2, 6].map (Value.int .i64))) rfl Try.underlying84 rfl (by decide) rfl (by kernel_rfl) rfl) ?_)
 intro g4
 refine zdk rfl (zat (z := .int .i64 0) (s := 1) (cs := ([8, 7].map (Value.int .i64))) rfl Try.underlying28 rfl (by decide) rfl (by kernel_rfl) rfl) ?_
 intro g5
 refine hvQ rfl (zcw (cs := #[.int .i64 2, .slice (some ⟨g3, 0, none⟩) 1 1, .slice (some ⟨g4, 0, none⟩) 1 1, .slice (some ⟨g5, 0, none⟩) 2 2]) rfl rfl rfl) (zcc (cs' := #[.int .i64 2, .slice (some ⟨g3, 0, none⟩) 1 1, .slice (some ⟨g4, 0, none⟩) 1 1, .slice (some ⟨g5, 0, none⟩) 2 2]) (i := 4) (off := 0) (us := [.int .i64 2, .slice (some ⟨g3, 0, none⟩) 1 1, .slice (some ⟨g4, 0, none⟩) 1 1, .slice (some ⟨g5, 0, none⟩) 2 2]) rfl rfl rfl rfl rfl rfl rfl (zah rfl (zah rfl (zah rfl (zah rfl zbr)))) rfl rfl rfl ?_)
 refine ntQ ?_
 refine zau (zbw 5 [4, 0, 1, 3, 2] rfl rfl (by decide) ?_)
 refine zcz 4 rfl ?_
 exact zdm (rs := [.cell 0 86]) (vs := [.agg #[.int .i64 2, .slice (some ⟨g3, 0, none⟩) 1 1, .slice (some ⟨g4, 0, none⟩) 1 1, .slice (some ⟨g5, 0, none⟩) 2 2]]) (post := [bigE [rowE 66 3 (.slice (some ⟨g3, 0, none⟩) 1 1) 1 ([.int .i64 0, .int .i64 1, .slice (some ⟨g2, 0, none⟩) 1 1]), rowE 3 1 (.slice (some ⟨g2, 0, none⟩) 1 1) 1 ([9].map (Value.int .i64)), rowE 126 2 (.slice (some ⟨g4, 0, none⟩) 1 1) 1 ([2, 6].map (Value.int .i64)), rowE 3 1 (.slice (some ⟨g5, 0, none⟩) 2 2) 2 ([8, 7].map (Value.int .i64))]]) rfl ⟨⟨b1, 0, [.int .i64 2, .slice (some ⟨g3, 0, none⟩) 1 1, .slice (some ⟨g4, 0, none⟩) 1 1, .slice (some ⟨g5, 0, none⟩) 2 2], rfl, rfl, by kernel_rfl, by kernel_rfl, zaj 1 rfl 0 rfl⟩, trivial⟩ rfl (slQ [0] rfl) ⟨_, Nt.mk 2 (.slice (some ⟨g3, 0, none⟩) 1 1) (.slice (some ⟨g4, 0, none⟩) 1 1) (.slice (some ⟨g5, 0, none⟩) 2 2) [Sq.mk 0 1 (.slice (some ⟨g2, 0, none⟩) 1 1) [9]] [An.mk 2 6] [8, 7], rfl, rfl, fun w hw => ⟨zcf (zbh hw List.mem_cons_self), (fun q hq => by obtain rfl := List.mem_singleton.1 hq; exact zcf (zbh hw (List.mem_cons_of_mem _ List.mem_cons_self))), zcf (zbh hw (List.mem_cons_of_mem _ (List.mem_cons_of_mem _ List.mem_cons_self))), zcf (zbh hw (List.mem_cons_of_mem _ (List.mem_cons_of_mem _ (List.mem_cons_of_mem _ List.mem_cons_self))))⟩, ⟨rfl, rfl, rfl⟩, zso _ _ _ _, by simp⟩
def tL0 (v : Value) : Int := match v with | .tuple #[.agg #[.int _ i, _, _, _], _] => i | _ => 0
def tLk (k : Nat) (v : Value) : Value := match v with | .tuple #[.agg xs, _] => xs.getD k undef | _ => undef
def tLb (v : Value) : Bool := match v with | .tuple #[_, .bool b] => b | _ => false
theorem ln_nil : LnOk (Ln.mk 0 (.slice none 0 0) (.slice none 0 0) (.slice none 0 0) [] [] []) := ⟨⟨⟨(show (0 : Int) ≤ 0 by decide), (show (0 : Int) ≤ 20 by decide)⟩, Nat.zero_le _, Nat.zero_le _, Nat.zero_le _⟩, fun j hj => absurd hj (by simp), fun k hk => absurd hk (by simp), fun k hk => absurd hk (by simp)⟩
theorem zon (w : World) (s : Nat) : RdsW w (.slice none 0 0) s 0 [] := ⟨_, _, rfl, (by simp), ⟨by decide, by decide⟩, fun h => absurd h (by decide)⟩
theorem zrr (w : World) : RdsLn w (Ln.mk 0 (.slice none 0 0) (.slice none 0 0) (.slice none 0 0) [] [] []) := ⟨⟨zon w 3, fun r hr => by cases hr⟩, ⟨zon w 2, fun r hr => by cases hr⟩, zon w 1⟩
theorem zkm {a b c : Int} (ha : 0 ≤ a ∧ a < 2) (hb : 0 ≤ b ∧ b < 2) (hc : 0 ≤ c ∧ c < 3) : devB (Dev.mk (4 + a) (4 + b) (2 + c) 1) = true := (zjj _).2 ⟨⟨by show 3 ≤ 4 + a; omega, by show 4 + a ≤ 6; omega⟩, ⟨by show 3 ≤ 4 + b; omega, by show 4 + b ≤ 6; omega⟩, ⟨by show 1 ≤ 2 + c; omega, by show 2 + c ≤ 4; omega⟩, .inr ⟨(show (1 : Int) ≤ 1 by decide), by show (1 : Int) ≤ 4 + a - 2; omega⟩⟩
theorem zqt (d : Dev) : Fits d [] := fun c => Nat.zero_le _
theorem zkz (xs : List Int) (x : Int) : (insI xs x).length ≤ xs.length + 1 := by
  induction xs with
  | nil => simp [insI]
  | cons y ys ih => simp only [insI]; split <;> (try split) <;> simp <;> omega
theorem zfx (v : Value) (xs : List Int) (x : Int) (hn : xs.length ≤ 1000000) {w0 : World} {l : List HP} (w : World) (hm : Mem w0 (rowE 3 1 v xs.length (xs.map (Value.int .i64)) :: l) w) :
    Calls Try.prog 68 #[v, .int .i64 x] w fun e w' => ∃ v' p', e = .returned v' ∧ p' = rowE 3 1 v' (insI xs x).length ((insI xs x).map (Value.int .i64)) ∧ Mem w0 (p' :: l) w' :=
  (zly v xs x w (zcf (hm.holds (rowE 3 1 v xs.length (xs.map (Value.int .i64))) List.mem_cons_self)) hn).mono fun e w' h => by
    obtain ⟨v', post, rfl, hR, hp⟩ := h
    rcases hR with ⟨rfl, rfl, he⟩ | rfl
    · exact ⟨v', _, rfl, rfl, by rw [he]; exact hm.step hp.bel⟩
    · exact ⟨v', _, rfl, rfl, (hm.app hp).sub (.cons_cons _ (.cons _ (.refl _)))⟩
theorem zlz (xs : List Int) (x y : Int) : y ∈ insI xs x ↔ y = x ∨ y ∈ xs := by
  induction xs with
  | nil => simp [insI]
  | cons z zs ih =>
    simp only [insI]
    split
    · rw [List.mem_cons, ih, List.mem_cons]
      constructor
      · rintro (h | h | h)
        · exact .inr (.inl h)
        · exact .inl h
        · exact .inr (.inr h)
      · rintro (h | h | h)
        · exact .inr (.inl h)
        · exact .inl h
        · exact .inr (.inr h)
    · split
      · rename_i h; subst h; simp
      · simp
theorem zke (xs : List Int) (x : Int) (h : xs.Pairwise (· < ·)) : (insI xs x).Pairwise (· < ·) := by
  induction xs with
  | nil => simp [insI]
  | cons z zs ih =>
    rw [List.pairwise_cons] at h
    simp only [insI]
    split
    · rw [List.pairwise_cons]
      refine ⟨fun y hy => ?_, ih h.2⟩
      rcases (zlz _ _ _).1 hy with rfl | hy
      · assumption
      · exact h.1 y hy
    · split
      · exact List.pairwise_cons.2 h
      · rw [List.pairwise_cons]
        refine ⟨fun y hy => ?_, List.pairwise_cons.2 h⟩
        rcases List.mem_cons.1 hy with rfl | hy
        · omega
        · have := h.1 y hy; omega
theorem zhp : ∀ (a b : List Int), a.Pairwise (· < ·) → b.Pairwise (· < ·) → (∀ x, x ∈ a ↔ x ∈ b) → a = b
  | [], [], _, _, _ => rfl
  | [], y :: b, _, _, h => by have := (h y).2 (by simp); simp at this
  | x :: a, [], _, _, h => by have := (h x).1 (by simp); simp at this
  | x :: a, y :: b, ha, hb, h => by
    rw [List.pairwise_cons] at ha hb
    have hxy : x = y := by
      rcases List.mem_cons.1 ((h x).1 (by simp)) with e | e
      · exact e
      · rcases List.mem_cons.1 ((h y).2 (by simp)) with e2 | e2
        · exact e2.symm
        · have h1 := hb.1 x e
          have h2 := ha.1 y e2
          omega
    subst hxy
    congr 1
    refine zhp a b ha.2 hb.2 fun z => ?_
    constructor
    · intro hz
      have h1 := ha.1 z hz
      rcases List.mem_cons.1 ((h z).1 (by simp [hz])) with e | e
      · omega
      · exact e
    · intro hz
      have h1 := hb.1 z hz
      rcases List.mem_cons.1 ((h z).2 (by simp [hz])) with e | e
      · omega
      · exact e
theorem zru (P : List Int) (x : Int) : (insR P x).Perm (x :: P) := by
  unfold insR
  refine (List.perm_middle).trans ?_
  rw [List.take_append_drop]
theorem zof (xs : List Int) : (sortR xs).Perm xs := by
  have : ∀ (xs acc : List Int), (xs.foldl insR acc).Perm (xs ++ acc) := by
    intro xs
    induction xs with
    | nil => intro acc; exact .refl _
    | cons x xs ih =>
      intro acc
      rw [List.foldl_cons]
      exact (ih _).trans (((zru acc x).append_left xs).trans List.perm_middle)
  simpa [sortR] using this xs []
theorem znj (P : List Int) (x : Int) (h : P.Pairwise (· ≤ ·)) : (insR P x).Pairwise (· ≤ ·) := by
  have hc : ∃ k, k ≤ P.length ∧ (∀ j, k ≤ j → j < P.length → x < P.getD j 0) ∧ (k = 0 ∨ P.getD (k - 1) 0 ≤ x) := by
    have : ∀ n, n ≤ P.length → (∀ j, n ≤ j → j < P.length → x < P.getD j 0) → ∃ k, k ≤ P.length ∧ (∀ j, k ≤ j → j < P.length → x < P.getD j 0) ∧ (k = 0 ∨ P.getD (k - 1) 0 ≤ x) := by
      intro n
      induction n with
      | zero => intro hn h1; exact ⟨0, hn, h1, .inl rfl⟩
      | succ n ih =>
        intro hn h1
        by_cases hx : P.getD n 0 ≤ x
        · exact ⟨n + 1, hn, h1, .inr hx⟩
        · refine ih (by omega) fun j hj hl => ?_
          by_cases e : j = n
          · subst e; omega
          · exact h1 j (by omega) hl
    exact this P.length (Nat.le_refl _) (fun j h1 h2 => by omega)
  obtain ⟨k, hk, h1, h2⟩ := hc
  rw [ztl P x k hk h1 h2]
  have hlt : ∀ i j, i < j → j < P.length → P.getD i 0 ≤ P.getD j 0 := by
    intro i j hij hj
    have := List.pairwise_iff_getElem.1 h i j (by omega) hj hij
    rw [List.getD_eq_getElem?_getD, List.getElem?_eq_getElem (by omega), List.getD_eq_getElem?_getD, List.getElem?_eq_getElem hj]; exact this
  rw [List.pairwise_append]
  refine ⟨h.sublist (List.take_sublist _ _), List.pairwise_cons.2 ⟨fun y hy => ?_, h.sublist (List.drop_sublist _ _)⟩, fun y hy z hz => ?_⟩
  · obtain ⟨j, hj, rfl⟩ := List.mem_iff_getElem.1 hy
    rw [List.length_drop] at hj
    have := h1 (k + j) (by omega) (by omega)
    rw [List.getD_eq_getElem?_getD, List.getElem?_eq_getElem (by omega)] at this
    have e : (P.drop k)[j]'(by simpa using hj) = P[k + j]'(by omega) := by simp
    rw [e]; simp at this; omega
  · obtain ⟨j, hj, rfl⟩ := List.mem_iff_getElem.1 hy
    have hj' : j < k ∧ j < P.length := by rw [List.length_take] at hj; omega
    have ey : (P.take k)[j] = P.getD j 0 := by rw [List.getElem_take, List.getD_eq_getElem?_getD, List.getElem?_eq_getElem hj'.2]; rfl
    have hyx : P.getD j 0 ≤ x := by
      rcases h2 with rfl | h2
      · omega
      · by_cases e : j = k - 1
        · subst e; exact h2
        · have := hlt j (k - 1) (by omega) (by omega); omega
    rw [ey]
    rcases List.mem_cons.1 hz with rfl | hz
    · exact hyx
    · obtain ⟨i, hi, rfl⟩ := List.mem_iff_getElem.1 hz
      rw [List.length_drop] at hi
      have := h1 (k + i) (by omega) (by omega)
      rw [List.getD_eq_getElem?_getD, List.getElem?_eq_getElem (by omega)] at this
      have e : (P.drop k)[i]'(by simpa using hi) = P[k + i]'(by omega) := by simp
      rw [e]; simp at this; omega
theorem zlj (xs : List Int) : (sortR xs).Pairwise (· ≤ ·) := by
  have : ∀ (xs acc : List Int), acc.Pairwise (· ≤ ·) → (xs.foldl insR acc).Pairwise (· ≤ ·) := by
    intro xs
    induction xs with
    | nil => intro acc h; exact h
    | cons x xs ih => intro acc h; exact ih _ (znj acc x h)
  exact this xs [] .nil
theorem zwj {α : Type} {xs : List α} {x : α} (d : α) (h : x ∈ xs) : ∃ k, k < xs.length ∧ xs.getD k d = x := by
  obtain ⟨k, hk, e⟩ := List.mem_iff_getElem.1 h
  exact ⟨k, hk, by rw [List.getD_eq_getElem?_getD, List.getElem?_eq_getElem hk]; exact e⟩
theorem zkh {xs : List Int} {x : Int} : hasB xs x = true ↔ x ∈ xs := by unfold hasB; exact List.contains_iff_mem
end Go.Proofs.Yteikplehipifkaa
