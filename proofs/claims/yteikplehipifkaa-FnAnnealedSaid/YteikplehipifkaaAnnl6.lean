/- Texts of the law FnAnnealed, part 6: what it uses. -/
import Derived.Test.YteikplehipifkaaAnnl5
set_option linter.unusedVariables false
set_option linter.unusedSimpArgs false
set_option maxHeartbeats 4000000
set_option maxRecDepth 100000
namespace Go.Proofs.Yteikplehipifkaa
open Go.RowKit Go.ChangeShapes
open Go.RowKit
theorem tl_pos {d : Dev} (hd : devB d = true) {ks zs : List Int} (h : PlP d ks zs) {b : Nat} (hb : b < zs.length) : 0 < (tilesK d (btI (ks.getD b 0))).length := List.length_pos_of_mem ((zer hd).2 ⟨h.rg b hb, h.kd b hb⟩)
theorem anZ_ok {d : Dev} (hd : devB d = true) {ks : List Int} (hk : ks.length ≠ 0) {cs : List Cn} {s : AnX} (h : AnI d ks cs s) : PlP d ks (anZ d ks s) ∧ (anZ d ks s).length = ks.length := by
  have hb := anB_lt hk (nxR s.sd)
  rw [← h.ln] at hb
  have hp := tl_pos hd h.pn hb
  have hp2 : 0 < (anL d ks (nxR s.sd)).length := hp
  have hm1 := Int.emod_nonneg (nxR (nxR s.sd) / 256) (show ((anL d ks (nxR s.sd)).length : Int) ≠ 0 by omega)
  have hm2 := Int.emod_lt_of_pos (nxR (nxR s.sd) / 256) (show 0 < ((anL d ks (nxR s.sd)).length : Int) by omega)
  have hm := zem (es := anL d ks (nxR s.sd)) (d := 0) (show (nxR (nxR s.sd) / 256 % ((anL d ks (nxR s.sd)).length : Int)).toNat < (anL d ks (nxR s.sd)).length by omega)
  obtain ⟨h1, h2⟩ := (zer hd).1 hm
  exact ⟨h.pn.move hb h1 h2, (mvL_len _ _ _).trans h.ln⟩
theorem anP_ok {d : Dev} (hd : devB d = true) {ks : List Int} (hk : ks.length ≠ 0) {cs : List Cn} {s : AnX} (h : AnI d ks cs s) : PlP d ks (anP d ks cs s).1 ∧ (anP d ks cs s).1.length = ks.length ∧ (anP d ks cs s).2 = costK d (anP d ks cs s).1 cs := by
  have hz := anZ_ok hd hk h
  unfold anP; split
  · exact ⟨hz.1, hz.2, rfl⟩
  · exact ⟨h.pn, h.ln, h.co⟩
theorem anQ_ok {d : Dev} (hd : devB d = true) {ks : List Int} (hk : ks.length ≠ 0) {cs : List Cn} {s : AnX} (h : AnI d ks cs s) : PlP d ks (anQ d ks cs s).1 ∧ (anQ d ks cs s).1.length = ks.length ∧ (anQ d ks cs s).2 = costK d (anQ d ks cs s).1 cs := by
  have hz := anP_ok hd hk h
  unfold anQ; split
  · exact hz
  · exact ⟨h.pb, h.lb, h.le⟩
theorem anStep_ok {d : Dev} (hd : devB d = true) {ks : List Int} (hk : ks.length ≠ 0) {cs : List Cn} {s : AnX} (h : AnI d ks cs s) : AnI d ks cs (anStep d ks cs s) := by
  obtain ⟨a1, a2, a3⟩ := anP_ok hd hk h
  obtain ⟨b1, b2, b3⟩ := anQ_ok hd hk h
  have h9 := h.ht
  exact ⟨nxR_rng _, a1, a2, a3, b1, b2, b3, by show 0 ≤ s.heat * 97 / 100 ∧ s.heat * 97 / 100 ≤ 1200; omega⟩
theorem anStep_eq {d : Dev} {ks : List Int} {cs : List Cn} {s : AnX} {zs bz : List Int} {c l : Int} (h1 : (zs, c) = anP d ks cs s) (h2 : (bz, l) = if c < s.le then (zs, c) else (s.best, s.le)) : AnX.mk (nxR (nxR (nxR s.sd))) zs c bz l (s.heat * 97 / 100) = anStep d ks cs s := by
  unfold anStep anQ
  rw [← h1]
  show AnX.mk _ zs c bz l _ = AnX.mk _ zs c (if c < s.le then (zs, c) else (s.best, s.le)).1 (if c < s.le then (zs, c) else (s.best, s.le)).2 _
  rw [← h2]
theorem anS_ok {d : Dev} {ks zs : List Int} {cs : List Cn} {sd : Int} (h0 : 0 ≤ sd ∧ sd < 2147483648) (hp : PlP d ks zs) (hl : zs.length = ks.length) : AnI d ks cs (anS d cs zs sd) := ⟨h0, hp, hl, rfl, hp, hl, rfl, (by decide : (0 : Int) ≤ 1200 ∧ (1200 : Int) ≤ 1200)⟩
theorem anT_ok {d : Dev} (hd : devB d = true) {ks : List Int} (hk : ks.length ≠ 0) {cs : List Cn} {s : AnX} (h : AnI d ks cs s) : ∀ i, AnI d ks cs (anT d ks cs s i)
  | 0 => h
  | i + 1 => anStep_ok hd hk (anT_ok hd hk h i)
theorem anQ_le (d : Dev) (ks : List Int) (cs : List Cn) (s : AnX) : (anQ d ks cs s).2 ≤ s.le := by
  unfold anQ; split
  · rename_i h; exact Int.le_of_lt h
  · exact Int.le_refl _
theorem anT_le (d : Dev) (ks : List Int) (cs : List Cn) (s : AnX) (i : Nat) : ∀ k, (anT d ks cs s (i + k)).le ≤ (anT d ks cs s i).le
  | 0 => Int.le_refl _
  | k + 1 => Int.le_trans (anQ_le d ks cs (anT d ks cs s (i + k))) (anT_le d ks cs s i k)
theorem anR_ok {d : Dev} (hd : devB d = true) {ks zs : List Int} {cs : List Cn} {sd : Int} (h0 : 0 ≤ sd ∧ sd < 2147483648) (hp : PlP d ks zs) (hl : zs.length = ks.length) (m : Nat) : PlP d ks (anR d ks cs zs sd m) ∧ (anR d ks cs zs sd m).length = ks.length := by
  have h := anS_ok (cs := cs) h0 hp hl
  unfold anR
  by_cases hk : ks.length = 0
  · rw [if_pos hk]; exact ⟨h.pb, h.lb⟩
  · rw [if_neg hk]; have := anT_ok hd hk h m; exact ⟨this.pb, this.lb⟩
theorem anR_le {d : Dev} (hd : devB d = true) {ks zs : List Int} {cs : List Cn} {sd : Int} (h0 : 0 ≤ sd ∧ sd < 2147483648) (hp : PlP d ks zs) (hl : zs.length = ks.length) (m j : Nat) : costK d (anR d ks cs zs sd m) cs ≤ costK d zs cs ∧ costK d (anR d ks cs zs sd (m + j)) cs ≤ costK d (anR d ks cs zs sd m) cs := by
  have h := anS_ok (cs := cs) h0 hp hl
  unfold anR
  by_cases hk : ks.length = 0
  · rw [if_pos hk, if_pos hk]; exact ⟨Int.le_refl _, Int.le_refl _⟩
  · rw [if_neg hk, if_neg hk, ← (anT_ok hd hk h m).le, ← (anT_ok hd hk h (m + j)).le]
    refine ⟨?_, anT_le _ _ _ _ _ _⟩
    have := anT_le d ks cs (anS d cs zs sd) 0 m
    rwa [Nat.zero_add] at this
open Go.RowKit
theorem implTilesOf_ret (d : Dev) (k : Int) (w : World) (hdv : devB d = true) :
   Calls Try.prog 54 #[.agg #[.int .i64 d.W, .int .i64 d.H, .int .i64 d.T, .int .i64 d.R], .int .i64 k] w (Ret w (fun v' post => post = [rowE 3 1 v' ((tilesK d k)).length (((tilesK d k)).map (Value.int .i64))])) := by
 obtain ⟨har1, har2⟩ := zfp hdv
 refine zbh (N := 29) (args := [.agg #[.int .i64 d.W, .int .i64 d.H, .int .i64 d.T, .int .i64 d.R], .int .i64 k]) Try.func54 rfl rfl (srQ ?_)
 refine zds rfl (zck rfl rfl) ?_
 intro b1
 refine zay 1 rfl (zfc (hvQ rfl (zao (cs := [.int .i64 d.W, .int .i64 d.H, .int .i64 d.T, .int .i64 d.R]) rfl rfl rfl rfl rfl (zai 0 rfl 0 rfl)) ?_))
 refine zdo rfl (zan rfl rfl (fun w hm => zau (by have h9 := zeq d w; rw [hdv] at h9; exact h9))) (zay 1 rfl (zam rfl (zcm (srQ ?_))))
 refine hl_nilRow 3 1 (zay 1 rfl (zaa (zbc 1 rfl (zax ?_))))
 refine lkQ3 (α := Nat) (β := Value) (γ := List Int) [0, 1, 2, 4, 9] rfl (fun t gu zs => [rowE 3 1 gu zs.length (zs.map (Value.int .i64)), boxE b1 #[.int .i64 d.W, .int .i64 d.H, .int .i64 d.T, .int .i64 d.R] 25]) (fun t gu zs => [(5, gu), (6, .int .i64 (t : Int))]) (fun t gu zs => (t : Int) ≤ d.W * d.H ∧ zs = tlL d k t) (fun t gu zs => (d.W * d.H).toNat - t) 0 _ [] ⟨by omega, rfl⟩ (saQ rfl) (pfQ rfl) ?_
 intro t gu zs hi3
 obtain ⟨ht, hz⟩ := hi3
 have hzl : zs.length ≤ t := by rw [hz]; exact tlL_le d k t
 refine zaa (zaa (reQ 1 rfl (hvQ rfl (fdQ 0 rfl rfl rfl) (hvQ rfl (zaf rfl rfl rfl (zab 1 rfl rfl)) (hvQ rfl (fdQ 1 rfl rfl rfl) (hvQ rfl (zaf rfl rfl rfl (zab 1 rfl rfl)) (hvQ rfl (zeh rfl rfl rfl (by constructor <;> omega)) ?_)))))))
 refine zbk rfl rfl rfl rfl rfl rfl (fun h4 => ?_) (fun h4 => ?_)
 ·
  refine ntQ (zak rfl (zcm (sbQ (srQ ?_))))
  have htk9 : tileKindI d (t : Int) = kindI d (t : Int) := if_pos ((zgm d _).2 ⟨hdv, by omega, by omega⟩)
  refine hvQ rfl (zao (cs := [.int .i64 d.W, .int .i64 d.H, .int .i64 d.T, .int .i64 d.R]) rfl rfl rfl rfl rfl (zai 1 rfl 0 rfl)) (zal 1 rfl ?_)
  refine zdo rfl (zan rfl rfl (fun w hm => zau (by have h9 := zgt d (t : Int) hdv (by omega) (by omega) w; rw [← htk9] at h9; exact h9))) (zal 1 rfl ?_)
  refine zcb rfl rfl rfl rfl rfl rfl (fun h5 => ?_) (fun h5 => ?_)
  ·
   refine ntQ (zak rfl (reQ 2 rfl ?_))
   refine zdl rfl (zat (z := .int .i64 0) (s := 1) (cs := ([(t : Int)].map (Value.int .i64))) rfl Try.underlying28 rfl (by decide) rfl (by kernel_rfl) rfl) ?_
   intro g6
   refine zch (i := 1) (z := .int .i64 0) (bytes := 8) rfl rfl rfl rfl Try.underlying28 (by kernel_rfl) rfl rfl rfl rfl (zad 0 rfl) (zbs _) (by first | omega | (simp; done) | (simp; omega)) (zby zs ([(t : Int)])) (zcl zs ([(t : Int)])) (fun _ => rfl) ?_
   intro v7
   refine enQ 1 rfl (zcr (reQ 1 rfl (hvQ rfl (vaQ rfl rfl rfl) (enQ 1 rfl ?_))))
   exact zbj (t + 1) v7 (zs ++ ([(t : Int)])) ⟨by omega, by rw [hz]; show _ = (if _ then _ else _); first | rw [if_pos (by omega)] | rw [if_neg (by omega)]⟩ (by omega) (saQ rfl) (slQ [1, 0] rfl)
  refine ntQ (fsQ rfl (zcr (reQ 1 rfl (hvQ rfl (vaQ rfl rfl rfl) (enQ 1 rfl ?_)))))
  exact zbj (t + 1) gu zs ⟨by omega, by rw [hz]; show _ = (if _ then _ else _); first | rw [if_pos (by omega)] | rw [if_neg (by omega)]⟩ (by omega) (saQ rfl) (pfQ rfl)
 refine ntQ (zam rfl ?_)
 refine zbb (zdt ?_)
 refine zah (zaw (zbc 2 rfl ?_))
 exact zav (zcp (post := [rowE 3 1 gu zs.length (zs.map (Value.int .i64))]) rfl rfl (slQ [0] rfl) (by rw [hz, show t = (d.W * d.H).toNat by omega]; rfl))
theorem zgo (x : Int) (w : World) (hx : 0 ≤ x ∧ x < 2147483648) :
   Calls Try.prog 53 #[.int .i64 x] w (Ans w (.int .i64 (nxR x))) := by
 refine zbh (N := 10) (args := [.int .i64 x]) Try.func53 rfl rfl (zbc 1 rfl (zaa (reQ 1 rfl (hvQ rfl (zfm rfl (by decide) rfl rfl (r := x % 2147483648) (and31 _ (by omega) (by omega))) (enQ 1 rfl ?_)))))
 refine zaw (zaa (reQ 1 rfl (hvQ rfl (zeh rfl rfl rfl (by constructor <;> omega)) (hvQ rfl (vaQ rfl rfl rfl) (hvQ rfl (zfm rfl (by decide) rfl rfl (r := ((1103515245 * (x % 2147483648)) + 12345) % 2147483648) (and31 _ (by omega) (by omega))) (zay 1 rfl ?_))))))
 exact zav (zbf rfl rfl rfl)
theorem Anneal_ret (d : Dev) (ks zs : List Int) (cs : List Cn) (sd : Int) (m : Nat) (kv zv cv : Value) (w : World) (hdv : devB d = true) (hkk : RdsW w kv 1 ks.length (ks.map (Value.int .i64))) (hzv : RdsW w zv 1 zs.length (zs.map (Value.int .i64))) (hcn : RdsCn w cv cs) (hkl : ks.length ≤ 64) (hzl : zs.length = ks.length) (hzp : PlP d ks zs) (hci : CnIn ks.length cs) (hco : CoP cs) (hsd : 0 ≤ sd ∧ sd < 2147483648) (hm200 : m ≤ 200) :
   Calls Try.prog 25 #[.agg #[.int .i64 d.W, .int .i64 d.H, .int .i64 d.T, .int .i64 d.R], kv, cv, zv, .int .i64 sd, .int .i64 (m : Int)] w (Ret w (fun v' post => post = [rowE 3 1 v' ((anR d ks cs zs sd m)).length (((anR d ks cs zs sd m)).map (Value.int .i64))])) := by
 have hc0 := cost_rng hdv hzp.zsIn (by rw [hzl]; exact hci) hco
 refine zbh (N := 120) (args := [.agg #[.int .i64 d.W, .int .i64 d.H, .int .i64 d.T, .int .i64 d.R], kv, cv, zv, .int .i64 sd, .int .i64 (m : Int)]) Try.func25 rfl rfl (srQ ?_)
 refine zds rfl (zck rfl rfl) ?_
 intro b1
 refine zay 1 rfl (srQ (hvQ rfl (zao (cs := [.int .i64 d.W, .int .i64 d.H, .int .i64 d.T, .int .i64 d.R]) rfl rfl rfl rfl rfl (zai 0 rfl 0 rfl)) (zal 2 rfl ?_)))
 refine zdo rfl (zan rfl rfl (fun w hm => zau (zez d zs cs _ _ w hdv ((zac hzv) w hm) (by have h9 := hzl; omega) hzp.zsIn (hcn.below hm.bel) (by rw [hzl]; exact hci)))) (zay 1 rfl (zfc (hvQ rfl (zao (cs := [.int .i64 d.W, .int .i64 d.H, .int .i64 d.T, .int .i64 d.R]) rfl rfl rfl rfl rfl (zai 0 rfl 0 rfl)) (zal 2 rfl ?_))))
 refine zdo rfl (zan rfl rfl (fun w hm => zau (PlaceOk_yes d ks zs _ _ w hdv (hkk.below hm.bel) (hzv.below hm.bel) hkl hzl hzp))) (zal 3 rfl ?_)
 refine zbk rfl rfl rfl rfl rfl rfl (fun h2 => absurd h2 (by omega)) (fun h2 => ?_)
 refine zal 3 rfl (zdo rfl (zan rfl rfl (fun w hm => zau (ans_of (by have h9 := zdv (m : Int) 0 200 w; rw [(zdb _ _ _).2 (by omega)] at h9; exact h9)))) ?_)
 refine zay 2 rfl (zam rfl (zcm (zaa (reQ 1 rfl ?_))))
 refine zfu rfl rfl rfl (zan rfl rfl (fun w hm => zgd zs _ w ((zac hzv) w hm) (by have h9 := hzl; omega))) ?_
 intro v3 p4 hR5
 subst hR5
 refine zay 1 rfl (zaa (reQ 1 rfl ?_))
 refine zfu rfl rfl rfl (zan rfl rfl (fun w hm => zgd zs _ w ((zac hzv) w hm) (by have h9 := hzl; omega))) ?_
 intro v6 p7 hR8
 subst hR8
 refine zay 3 rfl (zbc 1 rfl (zaa (zaa (reQ 1 rfl ?_))))
 refine ntQ (zax ?_)
 refine lkQ4 (α := Nat) (β := AnX) (γ := Value) (δ := Value) [0, 1, 2, 3, 5, 6, 12, 42] rfl (fun i s N B => [rowE 3 1 B s.best.length (s.best.map (Value.int .i64)), rowE 3 1 N s.now.length (s.now.map (Value.int .i64)), boxE b1 #[.int .i64 d.W, .int .i64 d.H, .int .i64 d.T, .int .i64 d.R] 25]) (fun i s N B => [(4, .int .i64 s.sd), (13, .int .i64 s.co), (14, N), (15, B), (16, .int .i64 s.le), (17, .int .i64 s.heat), (18, .int .i64 (i : Int))]) (fun i s N B => i ≤ m ∧ (ks.length = 0 → i = 0) ∧ s = anT d ks cs (anS d cs zs sd) i ∧ AnI d ks cs s) (fun i s N B => m - i) 0 (anS d cs zs sd) _ _ ⟨Nat.zero_le _, fun _ => rfl, rfl, anS_ok hsd hzp hzl⟩ (saQ rfl) (pfQ rfl) ?_
 intro i s N B hi9
 obtain ⟨hi, hik, hs, hI⟩ := hi9
 have hs1 := hI.sd
 have hht := hI.ht
 have hln := hI.ln
 have hR1 := nxR_rng s.sd
 have hR2 := nxR_rng (nxR s.sd)
 have hR3 := nxR_rng (nxR (nxR s.sd))
 refine zaa (zaa (reQ 2 rfl ?_))
 refine zbk rfl rfl rfl rfl rfl rfl (fun h10 => ?_) (fun h10 => ?_)
 ·
  refine zal 2 rfl (hvQ rfl (lnQ rfl rfl rfl (zac hkk)) ?_)
  refine zfb rfl rfl rfl rfl rfl rfl (fun h11 => ?_) (fun h11 => ?_)
  ·
   refine zay 1 rfl (zak rfl (zcm (sbQ (zaa (reQ 1 rfl ?_)))))
   refine zdo rfl (zan rfl rfl (fun w hm => zau (zgo s.sd w (by first | exact nxR_rng _ | omega)))) (zay 1 rfl (srQ ?_))
   have hk0 : ks.length ≠ 0 := by omega
   have hm1 := Int.emod_nonneg ((nxR s.sd) / 256) (show (ks.length : Int) ≠ 0 by omega)
   have hm2 := Int.emod_lt_of_pos ((nxR s.sd) / 256) (show 0 < (ks.length : Int) by omega)
   refine zal 1 rfl (hvQ rfl (zed rfl rfl rfl (by refine ⟨?_, ?_, ?_⟩ <;> omega)) ?_)
   refine zal 1 rfl (hvQ rfl (lnQ rfl rfl rfl (zac hkk)) (hvQ rfl (zfq rfl rfl rfl (by constructor <;> omega)) ?_))
   obtain ⟨b, hbE⟩ : ∃ x : Nat, ((nxR s.sd) / 256) % (ks.length : Int) = (x : Int) := ⟨(((nxR s.sd) / 256) % (ks.length : Int)).toNat, by omega⟩
   rw [hbE]
   have hbk : b < ks.length := by omega
   have hbn : b < s.now.length := by omega
   have hab : anB ks (nxR s.sd) = b := by unfold anB; omega
   have hTl := tl_pos hdv hI.pn hbn
   have htl9 : (tilesK d (btI (ks.getD b 0))).length ≤ (d.W * d.H).toNat := tlL_le d _ _
   have har := zfp hdv
   refine zay 1 rfl (zaa ?_)
   refine zdi rfl 7 [0, 1, 2, 3, 4, 5, 6] (List.take 7 _) (List.drop 7 _) [[], [], [], [1, 2], [3], [4], [0, 5]] [65, 66, 67, 68, 69, 70, 71] (fun i_ vs_ v_ p_ => match i_ with | 0 => v_ = .agg #[.int .i64 d.W, .int .i64 d.H, .int .i64 d.T, .int .i64 d.R] ∧ p_ = [] | 1 => v_ = kv ∧ p_ = [] | 2 => v_ = .int .i64 (b : Int) ∧ p_ = [] | 3 => v_ = elP kv (((b : Int)).toNat * 1) ∧ p_ = [] | 4 => v_ = .int .i64 (ks.getD b 0) ∧ p_ = [] | 5 => v_ = .int .i64 (btI (ks.getD b 0)) ∧ p_ = [] | 6 => (fun v' post => post = [rowE 3 1 v' ((tilesK d (btI (ks.getD b 0)))).length (((tilesK d (btI (ks.getD b 0)))).map (Value.int .i64))]) v_ p_ | _ => True) (List.take_append_drop 7 _).symm (by kernel_rfl) (by kernel_rfl) rfl rfl ?_ ?_
   ·
    refine ⟨?_, ?_, ?_, ?_, ?_, ?_, ?_, trivial⟩
    ·
     intro vf pf hR
     exact olQ rfl (zaj [6] rfl) (zbg (zao (cs := [.int .i64 d.W, .int .i64 d.H, .int .i64 d.T, .int .i64 d.R]) rfl rfl rfl rfl rfl (zai 2 rfl 0 rfl)))
    ·
     intro vf pf hR
     exact ovQ rfl (zaj [1] rfl) (zbg (zas rfl))
    ·
     intro vf pf hR
     exact ovQ rfl (zaj [19] rfl) (zbg (zas rfl))
    ·
     intro vf pf hR
     have e1 := hR 1 (by decide)
     have e2 := hR 2 (by decide)
     exact olQ rfl (sk 66 (congrArg some e1.1) (sk 67 (congrArg some e2.1) (zae _))) (zbg (riQ 1 rfl rfl rfl rfl (zac hkk)))
    ·
     intro vf pf hR
     have e3 := hR 3 (by decide)
     exact olQ rfl (sk 68 (congrArg some e3.1) (zae _)) (zbg (liQ rfl rfl rfl (zac hkk)))
    ·
     intro vf pf hR
     have e4 := hR 4 (by decide)
     exact olQ rfl (sk 69 (congrArg some e4.1) (zae _)) (zan rfl rfl (fun w hm => zau (zgu (ks.getD b 0) w)))
    intro vf pf hR
    have e0 := hR 0 (by decide)
    have e5 := hR 5 (by decide)
    exact olQ rfl (sk 65 (congrArg some e0.1) (sk 70 (congrArg some e5.1) (zae _))) (zan rfl rfl (fun w hm => implTilesOf_ret d (btI (ks.getD b 0)) w hdv))
   intro vf pf hR
   have e6 : (fun v' post => post = [rowE 3 1 v' ((tilesK d (btI (ks.getD b 0)))).length (((tilesK d (btI (ks.getD b 0)))).map (Value.int .i64))]) (vf 6) (pf 6) := hR 6 (by decide)
   obtain ⟨v12, vE6⟩ : ∃ x, vf 6 = x := ⟨_, rfl⟩
   obtain ⟨p13, pE6⟩ : ∃ x, pf 6 = x := ⟨_, rfl⟩
   have hR14 := e6
   rw [vE6, pE6] at hR14
   subst hR14
   have q0 := hR 0 (by decide)
   have q1 := hR 1 (by decide)
   have q2 := hR 2 (by decide)
   have q3 := hR 3 (by decide)
   have q4 := hR 4 (by decide)
   have q5 := hR 5 (by decide)
   refine zcj (zbi [55, 42, 19, 18, 17, 16, 15, 14, 13, 12, 6, 5, 4, 3, 2, 1, 0] _ (sk 71 (congrArg some vE6) (zae _)) rfl) (by simp only [pE6, vE6, q0.2, q1.2, q2.2, q3.2, q4.2, q5.2, fS] <;> rfl) ?_
   simp only [List.drop_succ_cons, List.drop_zero]
   refine zay 1 rfl (zaa (reQ 1 rfl ?_))
   refine zdo rfl (zan rfl rfl (fun w hm => zau (zgo (nxR s.sd) w (by first | exact nxR_rng _ | omega)))) (zay 1 rfl (srQ ?_))
   have hm3 := Int.emod_nonneg ((nxR (nxR s.sd)) / 256) (show ((tilesK d (btI (ks.getD b 0))).length : Int) ≠ 0 by omega)
   have hm4 := Int.emod_lt_of_pos ((nxR (nxR s.sd)) / 256) (show 0 < ((tilesK d (btI (ks.getD b 0))).length : Int) by omega)
   refine zal 2 rfl (hvQ rfl (zed rfl rfl rfl (by refine ⟨?_, ?_, ?_⟩ <;> omega)) ?_)
   refine zal 1 rfl (hvQ rfl (lnQ rfl rfl rfl (zad 0 rfl)) (hvQ rfl (zfq rfl rfl rfl (by constructor <;> omega)) (hvQ rfl (riQ 1 rfl rfl rfl rfl (zad 0 rfl)) (hvQ rfl (zar (u := .int .i64 ((tilesK d (btI (ks.getD b 0))).getD ((((nxR (nxR s.sd)) / 256) % ((tilesK d (btI (ks.getD b 0))).length : Int)).toNat) 0)) rfl rfl rfl (zad 0 rfl) (zbw (show _ < (tilesK d (btI (ks.getD b 0))).length by omega))) (zay 1 rfl (srQ ?_))))))
   obtain ⟨t, htE⟩ : ∃ x, (tilesK d (btI (ks.getD b 0))).getD ((((nxR (nxR s.sd)) / 256) % ((tilesK d (btI (ks.getD b 0))).length : Int)).toNat) 0 = x := ⟨_, rfl⟩
   rw [htE]
   have hnz : anZ d ks s = (mvL s.now b t) := by unfold anZ anL; rw [hab, htE]
   have hmz := anZ_ok hdv hk0 hI
   rw [hnz] at hmz
   refine zal 1 rfl (zdo rfl (zan rfl rfl (fun w hm => zau (zgo (nxR (nxR s.sd)) w (by first | exact nxR_rng _ | omega)))) ?_)
   refine zay 1 rfl (zaa (reQ 1 rfl ?_))
   refine hvQ rfl (zed rfl rfl rfl (by refine ⟨?_, ?_, ?_⟩ <;> omega)) ?_
   refine hvQ rfl (zfq rfl rfl rfl (by constructor <;> omega)) (zay 1 rfl (zaa (reQ 3 rfl ?_)))
   refine zfu rfl rfl rfl (zan rfl rfl (fun w hm => tryMove_ret s.now b t _ w ((zad 2 rfl) w hm) (by have h9 := hI.ln; omega) hbn)) ?_
   intro v15 p16 hR17
   subst hR17
   refine zay 1 rfl (srQ (hvQ rfl (zao (cs := [.int .i64 d.W, .int .i64 d.H, .int .i64 d.T, .int .i64 d.R]) rfl rfl rfl rfl rfl (zai 4 rfl 0 rfl)) (zal 2 rfl ?_)))
   refine zdo rfl (zan rfl rfl (fun w hm => zau (zez d (mvL s.now b t) cs _ _ w hdv ((zad 0 rfl) w hm) (by have h9 := hmz.2; omega) hmz.1.zsIn (hcn.below hm.bel) (by rw [hmz.2]; exact hci)))) (zay 1 rfl ?_)
   refine zgc (α := Value × List Int) (β := Int) (fun J co => [rowE 3 1 B s.best.length (s.best.map (Value.int .i64)), rowE 3 1 J.1 J.2.length (J.2.map (Value.int .i64)), boxE b1 #[.int .i64 d.W, .int .i64 d.H, .int .i64 d.T, .int .i64 d.R] 25]) (fun J co => [(0, .agg #[.int .i64 d.W, .int .i64 d.H, .int .i64 d.T, .int .i64 d.R]), (1, kv), (2, cv), (3, zv), (4, .int .i64 (nxR (nxR (nxR s.sd)))), (5, .int .i64 (m : Int)), (6, .pointer (some ⟨b1, 0, none⟩)), (12, .slice none 0 0), (13, .int .i64 co), (14, J.1), (15, B), (16, .int .i64 s.le), (17, .int .i64 s.heat), (18, .int .i64 (i : Int)), (19, .int .i64 (b : Int)), (20, v12), (21, .int .i64 t), (22, .int .i64 (((nxR (nxR (nxR s.sd))) / 256) % 100)), (23, v15), (24, .int .i64 (costK d (mvL s.now b t) cs)), (42, .bool false), (55, .bool true)]) (fun J co => (J.2, co) = anP d ks cs s) ?_ ?_
   ·
    refine srQ ?_
    have hcr := cost_rng hdv hmz.1.zsIn (by rw [hmz.2]; exact hci) hco
    have hcr2 := cost_rng hdv hI.pn.zsIn (by rw [hI.ln]; exact hci) hco
    rw [← hI.co] at hcr2
    have hu0 : 0 ≤ ((nxR (nxR (nxR s.sd))) / 256) % 100 ∧ ((nxR (nxR (nxR s.sd))) / 256) % 100 ≤ 99 := by omega
    have hhu : 0 ≤ s.heat * (((nxR (nxR (nxR s.sd))) / 256) % 100) ∧ s.heat * (((nxR (nxR (nxR s.sd))) / 256) % 100) ≤ 1200 * 99 := ⟨Int.mul_nonneg (by omega) (by omega), Int.mul_le_mul (by omega) (by omega) (by omega) (by omega)⟩
    refine zal 2 rfl (zgv rfl rfl rfl rfl rfl rfl (fun h18 => ?_) (fun h18 => ?_))
    ·
     refine zay 10 rfl (zak rfl (reQ 4 rfl (?_)))
     refine zbq (zbm 5 [4, 0, 2] rfl rfl (by decide) ?_)
     exact zdd (v15, (mvL s.now b t)) (costK d (mvL s.now b t) cs) (by unfold anP; rw [hnz]; first | rw [if_pos (.inl (by omega))] | rw [if_pos (.inr (by omega))]) (saQ rfl) (pfQ rfl)
    refine zal 3 rfl (hvQ rfl (vsQ rfl rfl rfl) (hvQ rfl (zeh rfl rfl rfl (by constructor <;> omega)) (zal 2 rfl (hvQ rfl (zeh rfl rfl rfl (by constructor <;> omega)) ?_))))
    refine zgv rfl rfl rfl rfl rfl rfl (fun h19 => ?_) (fun h19 => ?_)
    ·
     refine zay 1 rfl (zak rfl (zbd (enQ 4 rfl ?_)))
     refine zbm 5 [4, 0, 2] rfl rfl (by decide) ?_
     exact zdd (v15, (mvL s.now b t)) (costK d (mvL s.now b t) cs) (by unfold anP; rw [hnz]; first | rw [if_pos (.inl (by omega))] | rw [if_pos (.inr (by omega))]) (saQ rfl) (pfQ rfl)
    refine zay 1 rfl (fsQ rfl ?_)
    exact zdd (N, s.now) (s.co) (by unfold anP; rw [hnz]; rw [if_neg (by rintro (h9 | h9) <;> omega)]) (saQ rfl) (slQ [2, 0, 0] rfl)
   intro J co hm20
   have hJ := hm20
   have hJp0 := anP_ok hdv hk0 hI
   rw [← hJ] at hJp0
   have hJp : PlP d ks J.2 ∧ J.2.length = ks.length ∧ co = costK d J.2 cs := hJp0
   refine zgc (α := Value × List Int) (β := Int) (fun K le_ => [rowE 3 1 K.1 K.2.length (K.2.map (Value.int .i64)), rowE 3 1 J.1 J.2.length (J.2.map (Value.int .i64)), boxE b1 #[.int .i64 d.W, .int .i64 d.H, .int .i64 d.T, .int .i64 d.R] 25]) (fun K le_ => [(0, .agg #[.int .i64 d.W, .int .i64 d.H, .int .i64 d.T, .int .i64 d.R]), (1, kv), (2, cv), (3, zv), (4, .int .i64 (nxR (nxR (nxR s.sd)))), (5, .int .i64 (m : Int)), (6, .pointer (some ⟨b1, 0, none⟩)), (12, .slice none 0 0), (13, .int .i64 co), (14, J.1), (15, K.1), (16, .int .i64 le_), (17, .int .i64 s.heat), (18, .int .i64 (i : Int)), (19, .int .i64 (b : Int)), (20, v12), (21, .int .i64 t), (22, .int .i64 (((nxR (nxR (nxR s.sd))) / 256) % 100)), (23, v15), (24, .int .i64 (costK d (mvL s.now b t) cs)), (42, .bool false), (55, .bool true)]) (fun K le_ => (K.2, le_) = (if co < s.le then (J.2, co) else (s.best, s.le))) ?_ ?_
   ·
    refine zaa (reQ 2 rfl ?_)
    refine zbk rfl rfl rfl rfl rfl rfl (fun h21 => ?_) (fun h21 => ?_)
    ·
     refine ntQ (zak rfl (reQ 1 rfl ?_))
     refine zfu rfl rfl rfl (zan rfl rfl (fun w hm => zgd J.2 _ w ((zad 1 rfl) w hm) (by have h9 := hJp.2.1; omega))) ?_
     intro v22 p23 hR24
     subst hR24
     refine enQ 3 rfl ?_
     exact zdd (v22, J.2) (co) (by first | rw [if_pos (by omega)] | rw [if_neg (by omega)]) (saQ rfl) (slQ [0, 1, 0] rfl)
    refine ntQ (fsQ rfl ?_)
    exact zdd (B, s.best) (s.le) (by first | rw [if_pos (by omega)] | rw [if_neg (by omega)]) (saQ rfl) (pfQ rfl)
   intro K le_ hm25
   have hK := hm25
   refine reQ 1 rfl (hvQ rfl (zeh rfl rfl rfl (by constructor <;> omega)) ?_)
   refine hvQ rfl (zed rfl rfl rfl (by refine ⟨?_, ?_, ?_⟩ <;> omega)) ?_
   refine enQ 1 rfl (zcr (reQ 1 rfl (hvQ rfl (vaQ rfl rfl rfl) (enQ 1 rfl ?_))))
   exact zcn (i + 1) (AnX.mk (nxR (nxR (nxR s.sd))) J.2 co K.2 le_ (s.heat * 97 / 100)) J.1 K.1 ⟨by omega, fun h9 => absurd h9 hk0, by rw [anStep_eq hJ hK, hs]; rfl, by rw [anStep_eq hJ hK]; exact anStep_ok hdv hk0 hI⟩ (by omega) (saQ rfl) (pfQ rfl)
  refine zay 1 rfl (zam rfl ?_)
  refine zbb (zdt ?_)
  refine zah (zaw (zbc 2 rfl ?_))
  exact zav (zcp (post := [rowE 3 1 B s.best.length (s.best.map (Value.int .i64))]) rfl rfl (slQ [0] rfl) (by rw [hs]; unfold anR; split <;> first | (rw [hik (by assumption)]) | (rw [show i = m by omega])))
 refine zay 5 rfl (zam rfl ?_)
 refine zbb (zdt ?_)
 refine zah (zaw (zbc 2 rfl ?_))
 exact zav (zcp (post := [rowE 3 1 B s.best.length (s.best.map (Value.int .i64))]) rfl rfl (slQ [0] rfl) (by rw [hs]; unfold anR; split <;> first | (rw [hik (by assumption)]) | (rw [show i = m by omega])))
theorem walk_FnAnnealed (a0 : Option Addr) (len0 cap0 : Nat) (z0 : List Int) (w : World) (hbr : BRow .u8 w a0 len0 cap0 z0) :
   Calls Try.prog 5 #[.slice a0 len0 cap0] w (Ans w (.bool true)) := by
 have hcd0 := cod_le hbr 0
 have hcd1 := cod_le hbr 1
 have hcd2 := cod_le hbr 2
 refine zbh (N := 79) (args := [.slice a0 len0 cap0]) Try.func5 rfl rfl (zbc 1 rfl (zaa (zaa (reQ 1 rfl ?_))))
 refine zdo rfl (zan rfl rfl (fun w hm => zau (ans_of (big_any a0 len0 cap0 w (hbr.len_le))))) (zcc (fun h1 => ?_) (fun h1 => ?_))
 ·
  have h1p := of_decide_eq_true h1
  refine ntQ (zak rfl (zbc 1 rfl ?_))
  refine zav (zap ?_)
  exact zbf rfl rfl rfl
 have h1p := of_decide_eq_false h1
 refine ntQ (zam rfl (zcm (zaa (reQ 1 rfl ?_))))
 refine zfu rfl rfl rfl (zan rfl rfl (fun w hm => DrawPlaced_ret _ _ _ z0 w (hbr.below hm.bel) (by omega))) ?_
 intro v2 p3 hR4
 obtain ⟨d, dp, ks, zs, cs, kv, cv, zv, rfl, rfl, hdp, ⟨oK, oC, oZ⟩, hdv, hkl, hkr, hzl, hzp, hci, hcl, hco⟩ := hR4
 refine zal 5 rfl (zds rfl (zca (z := .agg #[.int .i64 0, .int .i64 0, .int .i64 0, .int .i64 0]) rfl rfl) ?_)
 intro b5
 refine zce (cs' := #[.int .i64 d.W, .int .i64 d.H, .int .i64 d.T, .int .i64 d.R]) (i := 0) (off := 0) (us := [.int .i64 d.W, .int .i64 d.H, .int .i64 d.T, .int .i64 d.R]) rfl rfl rfl rfl rfl rfl rfl (zag rfl (zag rfl (zag rfl (zag rfl zbp)))) rfl rfl rfl (zay 3 rfl (zaa (reQ 1 rfl ?_)))
 refine zdo rfl (zan rfl rfl (fun w hm => zau (at_ans hbr 0 (by omega) w hm))) (hvQ rfl (zeh rfl rfl rfl (by constructor <;> omega)) (zal 1 rfl ?_))
 refine zdo rfl (zan rfl rfl (fun w hm => zau (at_ans hbr 1 (by omega) w hm))) (hvQ rfl (vaQ rfl rfl rfl) ?_)
 obtain ⟨sd, hsdE⟩ : ∃ x : Int, ((cod z0 len0 0 : Int) * 1000) + (cod z0 len0 1 : Int) = x := ⟨_, rfl⟩
 rw [hsdE]
 have hsd : 0 ≤ sd ∧ sd < 2147483648 := by omega
 have hA1 := fun m => anR_ok (cs := cs) hdv hsd hzp hzl m
 have hA2 := fun m => anR_le (cs := cs) hdv hsd hzp hzl m 5
 have hA0 := fun m => cost_rng hdv (hA1 m).1.zsIn (by rw [(hA1 m).2]; exact hci) hco
 refine zay 1 rfl (zaa (reQ 1 rfl ?_))
 refine zdo rfl (zan rfl rfl (fun w hm => zau (at_ans hbr 2 (by omega) w hm))) (hvQ rfl (zfq rfl rfl rfl (by constructor <;> omega)) ?_)
 obtain ⟨m, hmE⟩ : ∃ x : Nat, (cod z0 len0 2 : Int) % 30 = (x : Int) := ⟨((cod z0 len0 2 : Int) % 30).toNat, by omega⟩
 rw [hmE]
 have hm30 : m < 30 := by omega
 refine zay 1 rfl (srQ (hvQ rfl (zao (cs := [.int .i64 d.W, .int .i64 d.H, .int .i64 d.T, .int .i64 d.R]) rfl rfl rfl rfl rfl (zai 0 rfl 0 rfl)) (zal 5 rfl ?_)))
 refine zfu rfl rfl rfl (zan rfl rfl (fun w hm => Anneal_ret d ks zs cs sd m _ _ _ w hdv (hdp w (hm.holds _ (zda (i := 1) rfl))).1 (hdp w (hm.holds _ (zda (i := 1) rfl))).2.2 (hdp w (hm.holds _ (zda (i := 1) rfl))).2.1 hkl hzl hzp hci hco hsd (by omega))) ?_
 intro v6 p7 hR8
 subst hR8
 refine zay 1 rfl (srQ (hvQ rfl (zao (cs := [.int .i64 d.W, .int .i64 d.H, .int .i64 d.T, .int .i64 d.R]) rfl rfl rfl rfl rfl (zai 1 rfl 0 rfl)) (zal 5 rfl (hvQ rfl (vaQ rfl rfl rfl) ?_))))
 refine zfu rfl rfl rfl (zan rfl rfl (fun w hm => (by have h9 := Anneal_ret d ks zs cs sd (m + 5) _ _ _ w hdv (hdp w (hm.holds _ (zda (i := 2) rfl))).1 (hdp w (hm.holds _ (zda (i := 2) rfl))).2.2 (hdp w (hm.holds _ (zda (i := 2) rfl))).2.1 hkl hzl hzp hci hco hsd (by omega); rwa [show ((m + 5 : Nat) : Int) = (m : Int) + 5 from by omega] at h9))) ?_
 intro v9 p10 hR11
 subst hR11
 refine zay 1 rfl (srQ (hvQ rfl (zao (cs := [.int .i64 d.W, .int .i64 d.H, .int .i64 d.T, .int .i64 d.R]) rfl rfl rfl rfl rfl (zai 2 rfl 0 rfl)) (zal 2 rfl ?_)))
 refine zdo rfl (zan rfl rfl (fun w hm => zau (zez d (anR d ks cs zs sd m) cs _ _ w hdv ((zad 1 rfl) w hm) (by have h9 := (hA1 m).2; omega) (hA1 m).1.zsIn (hdp w (hm.holds _ (zda (i := 3) rfl))).2.1 (by rw [(hA1 m).2]; exact hci)))) (zay 1 rfl (srQ (hvQ rfl (zao (cs := [.int .i64 d.W, .int .i64 d.H, .int .i64 d.T, .int .i64 d.R]) rfl rfl rfl rfl rfl (zai 2 rfl 0 rfl)) (zal 2 rfl ?_))))
 refine zdo rfl (zan rfl rfl (fun w hm => zau (PlaceOk_yes d ks (anR d ks cs zs sd m) _ _ w hdv (hdp w (hm.holds _ (zda (i := 3) rfl))).1 ((zad 1 rfl) w hm) hkl (hA1 m).2 (hA1 m).1))) (zal 1 rfl (hvQ rfl (zao (cs := [.int .i64 d.W, .int .i64 d.H, .int .i64 d.T, .int .i64 d.R]) rfl rfl rfl rfl rfl (zai 2 rfl 0 rfl)) (zal 2 rfl ?_)))
 refine zdo rfl (zan rfl rfl (fun w hm => zau (PlaceOk_yes d ks (anR d ks cs zs sd (m + 5)) _ _ w hdv (hdp w (hm.holds _ (zda (i := 3) rfl))).1 ((zad 0 rfl) w hm) hkl (hA1 (m + 5)).2 (hA1 (m + 5)).1))) (zal 3 rfl ?_)
 refine zdn rfl rfl rfl rfl rfl rfl (fun h12 => ?_) (fun h12 => ?_)
 ·
  refine zal 3 rfl (hvQ rfl (zao (cs := [.int .i64 d.W, .int .i64 d.H, .int .i64 d.T, .int .i64 d.R]) rfl rfl rfl rfl rfl (zai 2 rfl 0 rfl)) (zal 2 rfl ?_))
  refine zdo rfl (zan rfl rfl (fun w hm => zau (specPlaceCost_ans d zs cs _ _ w hdv ((fun w hm => (hdp w (hm.holds _ (zda (i := 3) rfl))).2.2) w hm) (by omega) hzp.zsIn (hdp w (hm.holds _ (zda (i := 3) rfl))).2.1 (by rw [hzl]; exact hci)))) (zgv rfl rfl rfl rfl rfl rfl (fun h13 => ?_) (fun h13 => ?_))
  ·
   refine zal 2 rfl (hvQ rfl (zao (cs := [.int .i64 d.W, .int .i64 d.H, .int .i64 d.T, .int .i64 d.R]) rfl rfl rfl rfl rfl (zai 2 rfl 0 rfl)) (zal 2 rfl ?_))
   refine zdo rfl (zan rfl rfl (fun w hm => zau (zez d (anR d ks cs zs sd (m + 5)) cs _ _ w hdv ((zad 0 rfl) w hm) (by have h9 := (hA1 (m + 5)).2; omega) (hA1 (m + 5)).1.zsIn (hdp w (hm.holds _ (zda (i := 3) rfl))).2.1 (by rw [(hA1 (m + 5)).2]; exact hci)))) (zal 1 rfl ?_)
   refine zgv rfl rfl rfl rfl rfl rfl (fun h14 => ?_) (fun h14 => ?_)
   ·
    refine zay 2 rfl ?_
    exact zav (zbf rfl rfl rfl)
   refine zay 2 rfl ?_
   refine zav ?_
   exfalso
   have h1 := hA0 m
   have h2 := hA2 m
   omega
  refine zay 10 rfl ?_
  refine zav ?_
  exfalso
  have h1 := hA0 m
  have h2 := hA2 m
  omega
 refine enQ 18 rfl ?_
 refine zaw (zav ?_)
 exfalso
 have h1 := hA0 m
 have h2 := hA2 m
 omega
end Go.Proofs.Yteikplehipifkaa
