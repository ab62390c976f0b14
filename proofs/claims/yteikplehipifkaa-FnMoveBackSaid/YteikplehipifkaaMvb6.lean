/- Texts of the law FnMoveBack, part 6: what it uses. -/
import Derived.Test.YteikplehipifkaaMvb5
set_option linter.unusedVariables false
set_option linter.unusedSimpArgs false
set_option maxHeartbeats 4000000
set_option maxRecDepth 100000
namespace Go.Proofs.Yteikplehipifkaa
open Go.RowKit Go.ChangeShapes
open Go.RowKit
theorem TryMove_ret (d : Dev) (ks zs : List Int) (b : Nat) (t : Int) (kv zv : Value) (w : World) (hdv : devB d = true) (hkk : RdsW w kv 1 ks.length (ks.map (Value.int .i64))) (hzv : RdsW w zv 1 zs.length (zs.map (Value.int .i64))) (hkl : ks.length ≤ 64) (hzl : zs.length = ks.length) (hzp : PlP d ks zs) (hb : b < zs.length) (ht : 0 ≤ t ∧ t < d.W * d.H) (htk : tileKindI d t = btI (ks.getD b 0)) :
   Calls Try.prog 21 #[.agg #[.int .i64 d.W, .int .i64 d.H, .int .i64 d.T, .int .i64 d.R], kv, zv, .int .i64 (b : Int), .int .i64 t] w (Ret w (fun u_ p_ => ∃ v : Value, u_ = .tuple #[v, .bool true] ∧ p_ = [rowE 3 1 v (mvL zs b t).length ((mvL zs b t).map (Value.int .i64))])) := by
 refine zbh (N := 42) (args := [.agg #[.int .i64 d.W, .int .i64 d.H, .int .i64 d.T, .int .i64 d.R], kv, zv, .int .i64 (b : Int), .int .i64 t]) Try.func21 rfl rfl (srQ ?_)
 refine zdr rfl (zck rfl rfl) ?_
 intro b1
 refine zaz 2 rfl (zaa (zaa ?_))
 have hb2 : ((tileKindI d t) != (btI (ks.getD b 0))) = false := Bool.eq_false_iff.2 (fun h => bne_iff_ne.1 h (by omega))
 refine zbp 24 [[], [], [], [0, 1, 2], [3], [4], [5], [5], [5, 7], [5, 8], [5, 6, 9], [5, 10], [5, 11], [12], [13], [13], [13, 14, 15], [13], [13], [13, 17, 18], [13, 19], [13, 20], [13, 16, 21], [13, 22]] [12, 13, 14, 15, 16, 17, 18, 19, 20, 21, 22, 23, 24, 25, 26, 27, 28, 29, 30, 31, 32, 33, 34, 35] [.agg #[.int .i64 d.W, .int .i64 d.H, .int .i64 d.T, .int .i64 d.R], kv, zv, .bool true, .bool false, .bool false, .int .i64 (b : Int), kv, .int .i64 (ks.length : Int), .int .i64 ((ks.length : Int) - 1), .bool true, .bool false, .bool false, .bool false, .agg #[.int .i64 d.W, .int .i64 d.H, .int .i64 d.T, .int .i64 d.R], .int .i64 t, .int .i64 (tileKindI d t), kv, .int .i64 (b : Int), elP kv (((b : Int)).toNat * 1), .int .i64 (ks.getD b 0), .int .i64 (btI (ks.getD b 0)), .bool false, .bool false] (by kernel_rfl) rfl ?_ ?_
 ·
  exact ⟨iaQ rfl (zap (cs := [.int .i64 d.W, .int .i64 d.H, .int .i64 d.T, .int .i64 d.R]) rfl rfl rfl rfl rfl (zaj 0 rfl 0 rfl)) rfl, iaQ rfl (zar rfl) rfl, iaQ rfl (zar rfl) rfl, .inl ⟨rfl, zao rfl rfl (fun w hm => zau (PlaceOk_yes d ks zs _ _ w hdv (hkk.below hm.bel) (hzv.below hm.bel) hkl hzl hzp))⟩, iaQ rfl (zar rfl) rfl, iaQ rfl (zar rfl) rfl, iaQ rfl (zar rfl) rfl, iaQ rfl (zar rfl) rfl, iaQ rfl (lnQ rfl rfl rfl (zab hkk)) rfl, iaQ rfl (vsQ rfl rfl rfl) rfl, .inl ⟨rfl, zao (by kernel_rfl) rfl (fun w hm => zau (ans_of (by have h9 := zdt (b : Int) 0 ((ks.length : Int) - 1) w; rw [(zdc _ _ _).2 (by omega)] at h9; exact h9)))⟩, iaQ rfl (zar rfl) rfl, iaQ rfl (zar rfl) rfl, iaQ rfl (zar rfl) rfl, iaQ rfl (zap (cs := [.int .i64 d.W, .int .i64 d.H, .int .i64 d.T, .int .i64 d.R]) rfl rfl rfl rfl rfl (zaj 0 rfl 0 rfl)) rfl, iaQ rfl (zar rfl) rfl, .inl ⟨rfl, zao rfl rfl (fun w hm => zau (implTileKind_any d t w))⟩, iaQ rfl (zar rfl) rfl, iaQ rfl (zar rfl) rfl, iaQ rfl (riQ 1 rfl rfl rfl rfl (zab hkk)) rfl, iaQ rfl (liQ rfl rfl rfl (zab hkk)) rfl, .inl ⟨rfl, zao rfl rfl (fun w hm => zau (zgr (ks.getD b 0) w))⟩, .inl ⟨rfl, zed (zda rfl rfl rfl rfl) hb2⟩, iaQ rfl (zar rfl) rfl, trivial⟩
 simp only [List.drop_succ_cons, List.drop_zero]
 refine ntQ (zal rfl (zcl (zaa (reQ 3 rfl ?_))))
 refine zga rfl rfl rfl (zao rfl rfl (fun w hm => tryMove_ret zs b t _ w (hzv.below hm.bel) (by omega) hb)) ?_
 intro v3 p4 hR5
 subst hR5
 refine zaz 2 rfl ?_
 exact zav (zdi (rs := [.tmp 10, .tmp 11]) (vs := [v3, .bool true]) (post := [rowE 3 1 v3 ((mvL zs b t).length) ((mvL zs b t).map (Value.int .i64))]) rfl ⟨rfl, rfl, trivial⟩ rfl (slQ [0] rfl) ⟨_, rfl, rfl⟩)
open Go.RowKit
def tMv (v : Value) : Value := match v with | .tuple #[x, _] => x | _ => undef
theorem getI_at9 {xs : List Int} {b : Nat} (h : b < xs.length) : getI xs (b : Int) = xs.getD b 0 := by unfold getI; rw [if_pos ⟨by omega, by omega⟩, Int.toNat_natCast]
theorem tryBack {d : Dev} {ks zs : List Int} {b : Nat} {t : Int} {kv pv : Value} (w : World) (hdv : devB d = true) (hkk : RdsW w kv 1 ks.length (ks.map (Value.int .i64))) (hpv : RdsW w pv 1 (mvL zs b t).length ((mvL zs b t).map (Value.int .i64))) (hkl : ks.length ≤ 64) (hzl : zs.length = ks.length) (hzp : PlP d ks zs) (hb : b < zs.length) (ht : 0 ≤ t ∧ t < d.W * d.H) (htk : tileKindI d t = btI (ks.getD b 0)) :
    Calls Try.prog 21 #[.agg #[.int .i64 d.W, .int .i64 d.H, .int .i64 d.T, .int .i64 d.R], kv, pv, .int .i64 (b : Int), .int .i64 (zs.getD b 0)] w (Ret w (fun u_ p_ => ∃ v : Value, u_ = .tuple #[v, .bool true] ∧ p_ = [rowE 3 1 v zs.length (zs.map (Value.int .i64))])) := by
  have h := TryMove_ret d ks (mvL zs b t) b (zs.getD b 0) kv pv w hdv hkk hpv hkl (by rw [zfj]; exact hzl) (hzp.move hb ht htk) (by rw [zfj]; exact hb) (hzp.rg b hb) (hzp.kd b hb)
  rw [mv_back hzp hb t] at h
  exact h
theorem lawsGet9_ans (xs : List Int) (x : Int) (v : Value) (w : World) (hv : RdsW w v 1 xs.length (xs.map (Value.int .i64))) (hlen : xs.length ≤ 1000000000) :
   Calls Try.prog 12 #[v, .int .i64 x] w (Ans w (.int .i64 (getI xs x))) := by
 refine zbh (N := 17) (args := [v, .int .i64 x]) Try.func12 rfl rfl (zbc 1 rfl (zaa (zaa (reQ 1 rfl ?_))))
 refine zbk rfl rfl rfl rfl rfl rfl (fun h1 => ?_) (fun h1 => ?_)
 ·
  refine zaz 6 rfl (zak rfl (zbc 1 rfl ?_))
  refine zav (zan ?_)
  exact zbe rfl rfl (by unfold getI; rw [if_neg (by omega)])
 refine zam 3 rfl (hvQ rfl (lnQ rfl rfl rfl (zab hv)) ?_)
 refine zdm rfl rfl rfl rfl rfl rfl (fun h2 => ?_) (fun h2 => ?_)
 ·
  refine zaz 1 rfl (zak rfl (zbc 1 rfl ?_))
  refine zav (zan ?_)
  exact zbe rfl rfl (by unfold getI; rw [if_neg (by omega)])
 refine zaz 1 rfl (zal rfl (zcl (zaa (reQ 2 rfl (hvQ rfl (riQ 1 rfl rfl rfl rfl (zab hv)) (hvQ rfl (lzQ rfl rfl rfl (zab hv)) (zam 1 rfl (?_))))))))
 refine ntQ ?_
 exact zav (zbe rfl rfl (by unfold getI; rw [if_pos (by omega)]))
theorem sameInts9_ans (xs ys : List Int) (u v : Value) (w : World) (hu : RdsW w u 1 xs.length (xs.map (Value.int .i64))) (hv : RdsW w v 1 ys.length (ys.map (Value.int .i64))) (hlen : xs.length ≤ 1000000000000) :
   Calls Try.prog 22 #[u, v] w (Ans w (.bool (decide (xs = ys)))) := by
 refine zbh (N := 26) (args := [u, v]) Try.func22 rfl rfl (zbc 1 rfl (zaa (zaa (reQ 1 rfl (hvQ rfl (lnQ rfl rfl rfl (zab hu)) (zam 1 rfl (hvQ rfl (lnQ rfl rfl rfl (zab hv)) ?_)))))))
 refine hl_neq rfl rfl rfl rfl rfl rfl (fun h1 => ?_) (fun h1 => ?_)
 ·
  refine ntQ (zak rfl (zbc 1 rfl ?_))
  refine zav (zan ?_)
  exact zbe rfl rfl (congrArg _ (decide_eq_false (fun he => by subst he; first | omega | contradiction | simp_all)).symm)
 refine ntQ (zal rfl (zcl (zaa (zbc 1 rfl (zax ?_)))))
 refine lkQ1 (α := Nat) [0, 1, 4, 10] rfl (fun j => []) (fun j => [(5, .int .i64 (j : Int))]) (fun j => j ≤ xs.length ∧ ∀ i, i < j → xs.getD i 0 = ys.getD i 0) (fun j => xs.length - j) 0 ⟨by omega, fun i hi => absurd hi (by omega)⟩ (saQ rfl) (.slnil) ?_
 intro j hi2
 obtain ⟨hk1, hk2⟩ := hi2
 refine zaa (zaa (reQ 2 rfl (hvQ rfl (lnQ rfl rfl rfl (zab hu)) ?_)))
 refine zbk rfl rfl rfl rfl rfl rfl (fun h3 => ?_) (fun h3 => ?_)
 ·
  refine ntQ (zak rfl (zcl (sbQ (zaa ?_))))
  rcases Bool.eq_false_or_eq_true ((xs.getD j 0) != (ys.getD j 0)) with hb4 | hb4
  ·
   have hb4p : xs.getD j 0 ≠ ys.getD j 0 := bne_iff_ne.1 hb4
   refine zbp 9 [[], [], [0, 1], [2], [], [], [4, 5], [6], [3, 7]] [17, 18, 19, 20, 21, 22, 23, 24, 25] [u, .int .i64 (j : Int), elP u (((j : Int)).toNat * 1), .int .i64 (xs.getD j 0), v, .int .i64 (j : Int), elP v (((j : Int)).toNat * 1), .int .i64 (ys.getD j 0), .bool true] (by kernel_rfl) rfl ?_ ?_
   ·
    exact ⟨iaQ rfl (zar rfl) rfl, iaQ rfl (zar rfl) rfl, iaQ rfl (riQ 1 rfl rfl rfl rfl (zab hu)) rfl, iaQ rfl (liQ rfl rfl rfl (zab hu)) rfl, iaQ rfl (zar rfl) rfl, iaQ rfl (zar rfl) rfl, iaQ rfl (riQ 1 rfl rfl rfl rfl (zab hv)) rfl, iaQ rfl (liQ rfl rfl rfl (zab hv)) rfl, .inl ⟨rfl, zed (zda rfl rfl rfl rfl) hb4⟩, trivial⟩
   simp only [List.drop_succ_cons, List.drop_zero]
   refine ntQ (zak rfl (zbc 1 rfl ?_))
   refine zav (zaq ?_)
   refine zgl ?_
   refine zaq (zan ?_)
   exact zbe rfl rfl (congrArg _ (decide_eq_false (fun he => by subst he; first | omega | contradiction | simp_all)).symm)
  have hb4p : xs.getD j 0 = ys.getD j 0 := (bne_eq_false_iff_eq.1 hb4)
  refine zbp 9 [[], [], [0, 1], [2], [], [], [4, 5], [6], [3, 7]] [17, 18, 19, 20, 21, 22, 23, 24, 25] [u, .int .i64 (j : Int), elP u (((j : Int)).toNat * 1), .int .i64 (xs.getD j 0), v, .int .i64 (j : Int), elP v (((j : Int)).toNat * 1), .int .i64 (ys.getD j 0), .bool false] (by kernel_rfl) rfl ?_ ?_
  ·
   exact ⟨iaQ rfl (zar rfl) rfl, iaQ rfl (zar rfl) rfl, iaQ rfl (riQ 1 rfl rfl rfl rfl (zab hu)) rfl, iaQ rfl (liQ rfl rfl rfl (zab hu)) rfl, iaQ rfl (zar rfl) rfl, iaQ rfl (zar rfl) rfl, iaQ rfl (riQ 1 rfl rfl rfl rfl (zab hv)) rfl, iaQ rfl (liQ rfl rfl rfl (zab hv)) rfl, .inl ⟨rfl, zed (zda rfl rfl rfl rfl) hb4⟩, trivial⟩
  simp only [List.drop_succ_cons, List.drop_zero]
  refine ntQ (fsQ rfl (zcs (reQ 1 rfl (hvQ rfl (vaQ rfl rfl rfl) (enQ 1 rfl ?_)))))
  exact zcp (j + 1) ⟨by omega, fun i hi => by by_cases hij : i = j; (subst hij; simpa using (by assumption)); exact hk2 i (by omega)⟩ (by omega) (saQ rfl) (.slnil)
 refine ntQ (zal rfl ?_)
 refine zbb (zdv ?_)
 refine zah (zaw (zbc 1 rfl ?_))
 exact zav (zbe rfl rfl (congrArg _ (decide_eq_true (ext0 (by omega) (fun i hi => hk2 i (by omega)))).symm))
theorem walk_FnMoveBack (a0 : Option Addr) (len0 cap0 : Nat) (z0 : List Int) (w : World) (hbr : BRow .u8 w a0 len0 cap0 z0) :
   Calls Try.prog 4 #[.slice a0 len0 cap0] w (Ans w (.bool true)) := by
 refine zbh (N := 104) (args := [.slice a0 len0 cap0]) Try.func4 rfl rfl (zbc 1 rfl (zaa (zaa (reQ 1 rfl ?_))))
 refine zdu rfl (zao rfl rfl (fun w hm => zau (ans_of (big_any a0 len0 cap0 w (hbr.len_le))))) (zcc (fun h1 => ?_) (fun h1 => ?_))
 ·
  have h1p := of_decide_eq_true h1
  refine ntQ (zak rfl (zbc 1 rfl ?_))
  refine zav (zan ?_)
  exact zbe rfl rfl rfl
 have h1p := of_decide_eq_false h1
 refine ntQ (zal rfl (zcl (zaa (reQ 1 rfl ?_))))
 refine zga rfl rfl rfl (zao rfl rfl (fun w hm => DrawPlaced_ret _ _ _ z0 w (hbr.below hm.bel) (by omega))) ?_
 intro v2 p3 hR4
 obtain ⟨d, dp, ks, zs, cs, kv, cv, zv, rfl, rfl, hdp, ⟨oK, oC, oZ⟩, hdv, hkl, hkr, hzl, hzp, hci, hcl⟩ := hR4
 refine zam 5 rfl (zdr rfl (zca (z := .agg #[.int .i64 0, .int .i64 0, .int .i64 0, .int .i64 0]) rfl rfl) ?_)
 intro b5
 refine zcf (cs' := #[.int .i64 d.W, .int .i64 d.H, .int .i64 d.T, .int .i64 d.R]) (i := 0) (off := 0) (us := [.int .i64 d.W, .int .i64 d.H, .int .i64 d.T, .int .i64 d.R]) rfl rfl rfl rfl rfl rfl rfl (zag rfl (zag rfl (zag rfl (zag rfl zbq)))) rfl rfl rfl (zaz 3 rfl (zaa (zaa (reQ 1 rfl ?_))))
 refine hvQ rfl (lnQ rfl rfl rfl (fun w hm => (hdp w (hm.holds _ (zcz (i := 1) rfl))).1)) (zcb rfl rfl rfl rfl rfl rfl (fun h6 => ?_) (fun h6 => ?_))
 ·
  refine ntQ (zak rfl (srQ (hvQ rfl (zap (cs := [.int .i64 d.W, .int .i64 d.H, .int .i64 d.T, .int .i64 d.R]) rfl rfl rfl rfl rfl (zaj 0 rfl 0 rfl)) (zam 2 rfl ?_))))
  refine zdu rfl (zao rfl rfl (fun w hm => zau (PlaceOk_yes d ks zs _ _ w hdv (hdp w (hm.holds _ (zcz (i := 1) rfl))).1 ((fun w hm => (hdp w (hm.holds _ (zcz (i := 1) rfl))).2.2) w hm) hkl hzl hzp))) (zaz 1 rfl ?_)
  refine zav (zan ?_)
  exact zbe rfl rfl rfl
 refine ntQ (zal rfl (zcl (zaa (reQ 1 rfl ?_))))
 refine zdu rfl (zao rfl rfl (fun w hm => zau (at_ans hbr 0 (by omega) w hm))) (zam 1 rfl ?_)
 refine hvQ rfl (lnQ rfl rfl rfl (fun w hm => (hdp w (hm.holds _ (zcz (i := 1) rfl))).1)) (hvQ rfl (zgd rfl rfl rfl (by constructor <;> omega)) ?_)
 have hm1 := Int.emod_nonneg (cod z0 len0 0 : Int) (show (ks.length : Int) ≠ 0 by omega)
 have hm2 := Int.emod_lt_of_pos (cod z0 len0 0 : Int) (show 0 < (ks.length : Int) by omega)
 obtain ⟨b, hbE⟩ : ∃ x : Nat, (cod z0 len0 0 : Int) % (ks.length : Int) = (x : Int) := ⟨((cod z0 len0 0 : Int) % (ks.length : Int)).toNat, by omega⟩
 rw [hbE]
 have hb : b < zs.length := by omega
 have hzk := (zep hdv).2 ⟨hzp.rg b hb, hzp.kd b hb⟩
 have hTl := List.length_pos_of_mem hzk
 refine zaz 1 rfl (zaa ?_)
 refine zdg rfl 7 [0, 1, 2, 3, 4, 5, 6] (List.take 7 _) (List.drop 7 _) [[], [], [], [1, 2], [3], [4], [0, 5]] [35, 36, 37, 38, 39, 40, 41] (fun i_ vs_ v_ p_ => match i_ with | 0 => v_ = .agg #[.int .i64 d.W, .int .i64 d.H, .int .i64 d.T, .int .i64 d.R] ∧ p_ = [] | 1 => v_ = kv ∧ p_ = [] | 2 => v_ = .int .i64 (b : Int) ∧ p_ = [] | 3 => v_ = elP kv (((b : Int)).toNat * 1) ∧ p_ = [] | 4 => v_ = .int .i64 (ks.getD b 0) ∧ p_ = [] | 5 => v_ = .int .i64 (btI (ks.getD b 0)) ∧ p_ = [] | 6 => (fun v' post => post = [rowE 3 1 v' ((tilesK d (btI (ks.getD b 0)))).length (((tilesK d (btI (ks.getD b 0)))).map (Value.int .i64))]) v_ p_ | _ => True) (List.take_append_drop 7 _).symm (by kernel_rfl) (by kernel_rfl) rfl rfl ?_ ?_
 ·
  refine ⟨?_, ?_, ?_, ?_, ?_, ?_, ?_, trivial⟩
  ·
   intro vf pf hR
   exact olQ rfl (zai [3] rfl) (zbg (zap (cs := [.int .i64 d.W, .int .i64 d.H, .int .i64 d.T, .int .i64 d.R]) rfl rfl rfl rfl rfl (zaj 0 rfl 0 rfl)))
  ·
   intro vf pf hR
   exact ovQ rfl (zai [4] rfl) (zbg (zar rfl))
  ·
   intro vf pf hR
   exact ovQ rfl (zai [7] rfl) (zbg (zar rfl))
  ·
   intro vf pf hR
   have e1 := hR 1 (by decide)
   have e2 := hR 2 (by decide)
   exact olQ rfl (sk 36 (congrArg some e1.1) (sk 37 (congrArg some e2.1) (zae _))) (zbg (riQ 1 rfl rfl rfl rfl (fun w hm => (hdp w (hm.holds _ (zcz (i := 1) rfl))).1)))
  ·
   intro vf pf hR
   have e3 := hR 3 (by decide)
   exact olQ rfl (sk 38 (congrArg some e3.1) (zae _)) (zbg (liQ rfl rfl rfl (fun w hm => (hdp w (hm.holds _ (zcz (i := 1) rfl))).1)))
  ·
   intro vf pf hR
   have e4 := hR 4 (by decide)
   exact olQ rfl (sk 39 (congrArg some e4.1) (zae _)) (zao rfl rfl (fun w hm => zau (zgn (ks.getD b 0) w)))
  intro vf pf hR
  have e0 := hR 0 (by decide)
  have e5 := hR 5 (by decide)
  exact olQ rfl (sk 35 (congrArg some e0.1) (sk 40 (congrArg some e5.1) (zae _))) (zao rfl rfl (fun w hm => zgc d (btI (ks.getD b 0)) w hdv))
 intro vf pf hR
 have e6 : (fun v' post => post = [rowE 3 1 v' ((tilesK d (btI (ks.getD b 0)))).length (((tilesK d (btI (ks.getD b 0)))).map (Value.int .i64))]) (vf 6) (pf 6) := hR 6 (by decide)
 obtain ⟨v7, vE6⟩ : ∃ x, vf 6 = x := ⟨_, rfl⟩
 obtain ⟨p8, pE6⟩ : ∃ x, pf 6 = x := ⟨_, rfl⟩
 have hR9 := e6
 rw [vE6, pE6] at hR9
 subst hR9
 have q0 := hR 0 (by decide)
 have q1 := hR 1 (by decide)
 have q2 := hR 2 (by decide)
 have q3 := hR 3 (by decide)
 have q4 := hR 4 (by decide)
 have q5 := hR 5 (by decide)
 refine zcj (zbi [25, 15, 7, 6, 5, 4, 3, 2, 0] _ (sk 41 (congrArg some vE6) (zae _)) rfl) (by simp only [pE6, vE6, q0.2, q1.2, q2.2, q3.2, q4.2, q5.2, fS] <;> rfl) ?_
 simp only [List.drop_succ_cons, List.drop_zero]
 refine zaz 1 rfl (srQ ?_)
 have hm3 := Int.emod_nonneg (cod z0 len0 1 : Int) (show ((tilesK d (btI (ks.getD b 0))).length : Int) ≠ 0 by omega)
 have hm4 := Int.emod_lt_of_pos (cod z0 len0 1 : Int) (show 0 < ((tilesK d (btI (ks.getD b 0))).length : Int) by omega)
 have htl9 : (tilesK d (btI (ks.getD b 0))).length ≤ (d.W * d.H).toNat := tlL_le d _ _
 have har := zgj hdv
 refine zam 2 rfl (zdu rfl (zao rfl rfl (fun w hm => zau (at_ans hbr 1 (by omega) w hm))) ?_)
 refine zam 1 rfl (hvQ rfl (lnQ rfl rfl rfl (zad 0 rfl)) (hvQ rfl (zgd rfl rfl rfl (by constructor <;> omega)) (hvQ rfl (riQ 1 rfl rfl rfl rfl (zad 0 rfl)) (hvQ rfl (zas (u := .int .i64 ((tilesK d (btI (ks.getD b 0))).getD (((cod z0 len0 1 : Int) % ((tilesK d (btI (ks.getD b 0))).length : Int)).toNat) 0)) rfl rfl rfl (zad 0 rfl) (zbw (show _ < (tilesK d (btI (ks.getD b 0))).length by omega))) ?_))))
 obtain ⟨t, htE⟩ : ∃ x, (tilesK d (btI (ks.getD b 0))).getD (((cod z0 len0 1 : Int) % ((tilesK d (btI (ks.getD b 0))).length : Int)).toNat) 0 = x := ⟨_, rfl⟩
 rw [htE]
 have htm : t ∈ (tilesK d (btI (ks.getD b 0))) := by rw [← htE]; exact zel (by omega)
 obtain ⟨htr1, htr2⟩ := (zep hdv).1 htm
 have hpp := hzp.move hb htr1 htr2
 have hgt : (mvL zs b t).getD b 0 = t := by rw [mvL_at hb hb, if_pos rfl]
 refine zaz 1 rfl (srQ (hvQ rfl (zap (cs := [.int .i64 d.W, .int .i64 d.H, .int .i64 d.T, .int .i64 d.R]) rfl rfl rfl rfl rfl (zaj 1 rfl 0 rfl)) (zam 4 rfl ?_)))
 refine zga rfl rfl rfl (zao rfl rfl (fun w hm => TryMove_ret d ks zs b t _ _ w hdv (hdp w (hm.holds _ (zcz (i := 2) rfl))).1 ((fun w hm => (hdp w (hm.holds _ (zcz (i := 2) rfl))).2.2) w hm) hkl hzl hzp hb htr1 htr2)) ?_
 intro v10 p11 hR12
 obtain ⟨pv, rfl, rfl⟩ := hR12
 refine zaz 5 rfl (zaa (zaa (reQ 3 rfl (hvQ rfl (zap (cs := [.int .i64 d.W, .int .i64 d.H, .int .i64 d.T, .int .i64 d.R]) rfl rfl rfl rfl rfl (zaj 2 rfl 0 rfl)) (zam 2 rfl ?_)))))
 refine zdu rfl (zao rfl rfl (fun w hm => zau (PlaceOk_yes d ks (mvL zs b t) _ _ w hdv (hdp w (hm.holds _ (zcz (i := 3) rfl))).1 ((zad 0 rfl) w hm) hkl (by rw [zfj]; exact hzl) hpp))) (zam 5 rfl ?_)
 refine zdu rfl (zao rfl rfl (fun w hm => zau (by have h9 := lawsGet9_ans (mvL zs b t) (b : Int) _ w ((zad 0 rfl) w hm) (by rw [zfj]; omega); rw [getI_at9 (by rw [zfj]; exact hb)] at h9; exact h9))) (zam 1 rfl ?_)
 refine hl_neq rfl rfl rfl rfl rfl rfl (fun h13 => absurd h13 (by omega)) (fun h13 => ?_)
 refine zaz 1 rfl (zal rfl (zcl (zaa ?_)))
 refine zdg rfl 13 [0, 1, 2, 3, 4, 5, 6, 7, 8, 9, 10, 11, 12] (List.take 13 _) (List.drop 13 _) [[], [], [], [], [], [], [4, 5], [6], [0, 1, 2, 3, 7], [8], [8, 9], [8, 9], [8, 10]] [76, 77, 78, 79, 80, 81, 82, 83, 84, 75, 85, 86, 12] (fun i_ vs_ v_ p_ => match i_ with | 0 => v_ = .agg #[.int .i64 d.W, .int .i64 d.H, .int .i64 d.T, .int .i64 d.R] ∧ p_ = [] | 1 => v_ = kv ∧ p_ = [] | 2 => v_ = pv ∧ p_ = [] | 3 => v_ = .int .i64 (b : Int) ∧ p_ = [] | 4 => v_ = zv ∧ p_ = [] | 5 => v_ = .int .i64 (b : Int) ∧ p_ = [] | 6 => v_ = elP zv (((b : Int)).toNat * 1) ∧ p_ = [] | 7 => v_ = .int .i64 (zs.getD b 0) ∧ p_ = [] | 8 => (fun u_ p_ => ∃ v : Value, u_ = .tuple #[v, .bool true] ∧ p_ = [rowE 3 1 v zs.length (zs.map (Value.int .i64))]) v_ p_ | 9 => v_ = .tuple #[(tMv (List.getD vs_ 0 undef)), .bool true] ∧ p_ = [] | 10 => v_ = (tMv (List.getD vs_ 0 undef)) ∧ p_ = [] | 11 => v_ = .bool true ∧ p_ = [] | 12 => v_ = (tMv (List.getD vs_ 0 undef)) ∧ p_ = [] | _ => True) (List.take_append_drop 13 _).symm (by kernel_rfl) (by kernel_rfl) rfl rfl ?_ ?_
 ·
  refine ⟨?_, ?_, ?_, ?_, ?_, ?_, ?_, ?_, ?_, ?_, ?_, ?_, ?_, trivial⟩
  ·
   intro vf pf hR
   exact olQ rfl (zai [3] rfl) (zbg (zap (cs := [.int .i64 d.W, .int .i64 d.H, .int .i64 d.T, .int .i64 d.R]) rfl rfl rfl rfl rfl (zaj 2 rfl 0 rfl)))
  ·
   intro vf pf hR
   exact ovQ rfl (zai [4] rfl) (zbg (zar rfl))
  ·
   intro vf pf hR
   exact ovQ rfl (zai [10] rfl) (zbg (zar rfl))
  ·
   intro vf pf hR
   exact ovQ rfl (zai [7] rfl) (zbg (zar rfl))
  ·
   intro vf pf hR
   exact ovQ rfl (zai [6] rfl) (zbg (zar rfl))
  ·
   intro vf pf hR
   exact ovQ rfl (zai [7] rfl) (zbg (zar rfl))
  ·
   intro vf pf hR
   have e4 := hR 4 (by decide)
   have e5 := hR 5 (by decide)
   exact olQ rfl (sk 80 (congrArg some e4.1) (sk 81 (congrArg some e5.1) (zae _))) (zbg (riQ 1 rfl rfl rfl rfl (fun w hm => (hdp w (hm.holds _ (zcz (i := 3) rfl))).2.2)))
  ·
   intro vf pf hR
   have e6 := hR 6 (by decide)
   exact olQ rfl (sk 82 (congrArg some e6.1) (zae _)) (zbg (liQ rfl rfl rfl (fun w hm => (hdp w (hm.holds _ (zcz (i := 3) rfl))).2.2)))
  ·
   intro vf pf hR
   have e0 := hR 0 (by decide)
   have e1 := hR 1 (by decide)
   have e2 := hR 2 (by decide)
   have e3 := hR 3 (by decide)
   have e7 := hR 7 (by decide)
   exact olQ rfl (sk 76 (congrArg some e0.1) (sk 77 (congrArg some e1.1) (sk 78 (congrArg some e2.1) (sk 79 (congrArg some e3.1) (sk 83 (congrArg some e7.1) (zae _)))))) (zao rfl rfl (fun w hm => tryBack w hdv (hdp w (hm.holds _ (zcz (i := 3) rfl))).1 ((zad 0 rfl) w hm) hkl hzl hzp hb htr1 htr2))
  ·
   intro vf pf hR
   have e8 : (fun u_ p_ => ∃ v : Value, u_ = .tuple #[v, .bool true] ∧ p_ = [rowE 3 1 v zs.length (zs.map (Value.int .i64))]) (vf 8) (pf 8) := hR 8 (by decide)
   obtain ⟨v14, vE8⟩ : ∃ x, vf 8 = x := ⟨_, rfl⟩
   obtain ⟨p15, pE8⟩ : ∃ x, pf 8 = x := ⟨_, rfl⟩
   have hR16 := e8
   rw [vE8, pE8] at hR16
   obtain ⟨qv, rfl, rfl⟩ := hR16
   refine Or.inl ⟨rfl, ?_⟩
   exact zce (sk 84 (congrArg some vE8) (zae _)) (by simp only [pE8, vE8, fS] <;> rfl) (zcq (zbg (zar rfl)) (fun _ _ h => ⟨h.1.trans (by show _ = (.tuple #[(tMv (vf 8)), .bool true] : Value); first | (rw [vE8]; done) | (rw [vE8]; rfl)), h.2⟩))
  ·
   intro vf pf hR
   have e8 : (fun u_ p_ => ∃ v : Value, u_ = .tuple #[v, .bool true] ∧ p_ = [rowE 3 1 v zs.length (zs.map (Value.int .i64))]) (vf 8) (pf 8) := hR 8 (by decide)
   obtain ⟨v14, vE8⟩ : ∃ x, vf 8 = x := ⟨_, rfl⟩
   obtain ⟨p15, pE8⟩ : ∃ x, pf 8 = x := ⟨_, rfl⟩
   have hR16 := e8
   rw [vE8, pE8] at hR16
   obtain ⟨qv, rfl, rfl⟩ := hR16
   have e9 : (vf 9) = .tuple #[(tMv (vf 8)), .bool true] ∧ (pf 9) = [] := hR 9 (by decide)
   rw [vE8] at e9
   refine Or.inl ⟨rfl, ?_⟩
   exact zce (sk 75 (congrArg some e9.1) (zae _)) (by simp only [pE8, vE8, e9.2, fS] <;> rfl) (zcq (zbg (zar rfl)) (fun _ _ h => ⟨h.1.trans (by show _ = ((tMv (vf 8)) : Value); first | (rw [vE8]; done) | (rw [vE8]; rfl)), h.2⟩))
  ·
   intro vf pf hR
   have e8 : (fun u_ p_ => ∃ v : Value, u_ = .tuple #[v, .bool true] ∧ p_ = [rowE 3 1 v zs.length (zs.map (Value.int .i64))]) (vf 8) (pf 8) := hR 8 (by decide)
   obtain ⟨v14, vE8⟩ : ∃ x, vf 8 = x := ⟨_, rfl⟩
   obtain ⟨p15, pE8⟩ : ∃ x, pf 8 = x := ⟨_, rfl⟩
   have hR16 := e8
   rw [vE8, pE8] at hR16
   obtain ⟨qv, rfl, rfl⟩ := hR16
   have e9 : (vf 9) = .tuple #[(tMv (vf 8)), .bool true] ∧ (pf 9) = [] := hR 9 (by decide)
   rw [vE8] at e9
   refine Or.inl ⟨rfl, ?_⟩
   exact zce (sk 75 (congrArg some e9.1) (zae _)) (by simp only [pE8, vE8, e9.2, fS] <;> rfl) (zbg (zar rfl))
  intro vf pf hR
  have e8 : (fun u_ p_ => ∃ v : Value, u_ = .tuple #[v, .bool true] ∧ p_ = [rowE 3 1 v zs.length (zs.map (Value.int .i64))]) (vf 8) (pf 8) := hR 8 (by decide)
  obtain ⟨v14, vE8⟩ : ∃ x, vf 8 = x := ⟨_, rfl⟩
  obtain ⟨p15, pE8⟩ : ∃ x, pf 8 = x := ⟨_, rfl⟩
  have hR16 := e8
  rw [vE8, pE8] at hR16
  obtain ⟨qv, rfl, rfl⟩ := hR16
  have e10 : (vf 10) = (tMv (vf 8)) ∧ (pf 10) = [] := hR 10 (by decide)
  rw [vE8] at e10
  refine Or.inl ⟨rfl, ?_⟩
  exact zce (sk 85 (congrArg some e10.1) (zae _)) (by simp only [pE8, vE8, e10.2, fS] <;> rfl) (zcq (zbg (zar rfl)) (fun _ _ h => ⟨h.1.trans (by show _ = ((tMv (vf 8)) : Value); first | (rw [vE8]; done) | (rw [vE8]; rfl)), h.2⟩))
 intro vf pf hR
 have e8 : (fun u_ p_ => ∃ v : Value, u_ = .tuple #[v, .bool true] ∧ p_ = [rowE 3 1 v zs.length (zs.map (Value.int .i64))]) (vf 8) (pf 8) := hR 8 (by decide)
 obtain ⟨v14, vE8⟩ : ∃ x, vf 8 = x := ⟨_, rfl⟩
 obtain ⟨p15, pE8⟩ : ∃ x, pf 8 = x := ⟨_, rfl⟩
 have hR16 := e8
 rw [vE8, pE8] at hR16
 obtain ⟨qv, rfl, rfl⟩ := hR16
 have e11 := hR 11 (by decide)
 have e12 : (vf 12) = (tMv (vf 8)) ∧ (pf 12) = [] := hR 12 (by decide)
 rw [vE8] at e12
 have q0 := hR 0 (by decide)
 have q1 := hR 1 (by decide)
 have q2 := hR 2 (by decide)
 have q3 := hR 3 (by decide)
 have q4 := hR 4 (by decide)
 have q5 := hR 5 (by decide)
 have q6 := hR 6 (by decide)
 have q7 := hR 7 (by decide)
 have q9 := hR 9 (by decide)
 have q10 := hR 10 (by decide)
 have q11 := hR 11 (by decide)
 have q12 := hR 12 (by decide)
 refine zcj (zbi [11, 10, 9, 8, 7, 6, 5, 4, 3, 2, 0] _ (sk 12 (congrArg some e12.1) (zbi [74, 25, 15] _ (sk 86 (congrArg some e11.1) (zae _)) rfl)) rfl) (by simp only [pE8, vE8, q0.2, q1.2, q2.2, q3.2, q4.2, q5.2, q6.2, q7.2, q9.2, q10.2, q11.2, q12.2, fS] <;> rfl) ?_
 simp only [List.drop_succ_cons, List.drop_zero]
 refine zaz 1 rfl (zaa ?_)
 have hb17 : ((costK d zs cs) == (costK d zs cs)) = true := beq_iff_eq.2 (by omega)
 refine zbp 17 [[], [0], [1], [1], [1, 2, 3], [1, 4], [5], [6], [6], [6], [6, 7, 8, 9], [6], [6], [6], [6, 11, 12, 13], [6, 10, 14], [6, 15]] [87, 88, 89, 90, 91, 92, 93, 94, 95, 96, 97, 98, 99, 100, 101, 102, 103] [.bool true, .bool true, qv, zv, .bool true, .bool true, .bool true, .agg #[.int .i64 d.W, .int .i64 d.H, .int .i64 d.T, .int .i64 d.R], qv, cv, .int .i64 (costK d zs cs), .agg #[.int .i64 d.W, .int .i64 d.H, .int .i64 d.T, .int .i64 d.R], zv, cv, .int .i64 (costK d zs cs), .bool true, .bool true] (by kernel_rfl) rfl ?_ ?_
 ·
  exact ⟨iaQ rfl (zar rfl) rfl, iaQ rfl (zar rfl) rfl, iaQ rfl (zar rfl) rfl, iaQ rfl (zar rfl) rfl, .inl ⟨rfl, zao (by kernel_rfl) rfl (fun w hm => zau (by have h9 := sameInts9_ans zs zs _ _ w ((zad 0 rfl) w hm) ((fun w hm => (hdp w (hm.holds _ (zcz (i := 4) rfl))).2.2) w hm) (by omega); rw [decide_eq_true (rfl : zs = zs)] at h9; exact h9))⟩, iaQ rfl (zar rfl) rfl, iaQ rfl (zar rfl) rfl, iaQ rfl (zap (cs := [.int .i64 d.W, .int .i64 d.H, .int .i64 d.T, .int .i64 d.R]) rfl rfl rfl rfl rfl (zaj 3 rfl 0 rfl)) rfl, iaQ rfl (zar rfl) rfl, iaQ rfl (zar rfl) rfl, .inl ⟨rfl, zao rfl rfl (fun w hm => zau (implPlaceCost_ans d zs cs _ _ w hdv ((zad 0 rfl) w hm) (by omega) hzp.zsIn (hdp w (hm.holds _ (zcz (i := 4) rfl))).2.1 (by rw [hzl]; exact hci)))⟩, iaQ rfl (zap (cs := [.int .i64 d.W, .int .i64 d.H, .int .i64 d.T, .int .i64 d.R]) rfl rfl rfl rfl rfl (zaj 3 rfl 0 rfl)) rfl, iaQ rfl (zar rfl) rfl, iaQ rfl (zar rfl) rfl, .inl ⟨rfl, zao rfl rfl (fun w hm => zau (specPlaceCost_ans d zs cs _ _ w hdv ((fun w hm => (hdp w (hm.holds _ (zcz (i := 4) rfl))).2.2) w hm) (by omega) hzp.zsIn (hdp w (hm.holds _ (zcz (i := 4) rfl))).2.1 (by rw [hzl]; exact hci)))⟩, .inl ⟨rfl, zed (zda rfl rfl rfl rfl) hb17⟩, iaQ rfl (zar rfl) rfl, trivial⟩
 simp only [List.drop_succ_cons, List.drop_zero]
 refine zaz 1 rfl ?_
 exact zav (zbe rfl rfl rfl)
end Go.Proofs.Yteikplehipifkaa
