/- Texts of the law FnFlatAgain, part 6: what it uses. -/
import Derived.Test.YtodiifjigjnalaaFga5
set_option linter.unusedVariables false
set_option linter.unusedSimpArgs false
set_option maxHeartbeats 4000000
set_option maxRecDepth 100000
namespace Go.Proofs.Ytodiifjigjnalaa
open Go.RowKit Go.ChangeShapes
open Go.RowKit
theorem l06Waits_ans (os : List Oq) (tk : List Bl) (v u : Value) (w : World) (hv : RdsW w v 3 os.length (os.flatMap oqC)) (hu : RdsW w u 1 tk.length (tk.flatMap blC)) (hb : ∀ i, i < os.length → ((os.getD i oq0).k = 2 ∨ (os.getD i oq0).k = 3) → 0 ≤ (os.getD i oq0).a ∧ (os.getD i oq0).a < tk.length) :
   Calls Try.prog 154 #[v, u] w (Ans w (.bool (pB (WtP os tk)))) := by
 have hv9 := sml hv
 refine zca (N := 36) (args := [v, u]) Try.func154 rfl rfl (zbg 1 rfl (zag (zbg 1 rfl ?_)))
 refine zaz ?_
 refine lkQ1 (α := Nat) [0, 1, 4] rfl (fun i => []) (fun i => [(5, .int .i64 (i : Int))]) (fun i => i ≤ os.length ∧ ∀ q, q < i → ¬ (((os.getD q oq0).k = 2 ∨ (os.getD q oq0).k = 3) ∧ (tk.getD (os.getD q oq0).a.toNat bl0).b = true)) (fun i => os.length - i) 0 ⟨Nat.zero_le _, fun q hq => absurd hq (by omega)⟩ (saQ rfl) (.slnil) ?_
 intro i hi1
 obtain ⟨hi, hall⟩ := hi1
 refine zag (zag (reQ 2 rfl (hvQ rfl (lnQ rfl rfl rfl (zaf hv)) ?_)))
 refine zbq rfl rfl rfl rfl rfl rfl (fun h2 => ?_) (fun h2 => ?_)
 ·
  refine ntQ (zah rfl (zcv (sbQ (srQ ?_))))
  have hai := hb i (by omega)
  refine zam 2 rfl (hvQ rfl (riQ 3 rfl rfl rfl rfl (zaf hv)) (hvQ rfl (zaq (k0 := 0) rfl rfl rfl (zaf hv) (by omega)) ?_))
  refine hvQ rfl (zan (u := .int .i64 ((os.getD i oq0).k)) rfl rfl rfl (zaf hv) ((zbd oqC 3 (fun _ => rfl) os oq0 (show i < _ by omega) (by decide)).trans rfl)) (zbu rfl rfl rfl rfl rfl rfl (fun h3 => ?_) (fun h3 => ?_))
  ·
   refine zam 12 rfl (hvQ rfl (riQ 3 rfl rfl rfl rfl (zaf hv)) (hvQ rfl (zaq (k0 := 1) rfl rfl rfl (zaf hv) (by omega)) ?_))
   refine hvQ rfl (zan (u := .int .i64 ((os.getD i oq0).a)) rfl rfl rfl (zaf hv) ((zbd oqC 3 (fun _ => rfl) os oq0 (show i < _ by omega) (by decide)).trans rfl)) (hvQ rfl (riQ 1 rfl rfl rfl rfl (zaf hu)) ?_)
   refine hvQ rfl (zan (u := .bool ((tk.getD (((os.getD i oq0).a).toNat) bl0).b)) rfl rfl rfl (zaf hu) (flat_one blC (fun r => .bool r.b) (fun _ => rfl) tk bl0 (show ((os.getD i oq0).a).toNat < _ by omega))) (zbm (fun h4 => ?_) (fun h4 => ?_))
   ·
    refine zay 1 rfl (zah rfl (zbg 1 rfl ?_))
    refine zao (zad ?_)
    refine zdv ?_
    refine zad (zae ?_)
    exact zav rfl rfl (congrArg _ (zdi ⟨i, by omega, by omega, by assumption⟩).symm)
   refine zay 1 rfl (fsQ rfl (zdh (reQ 1 rfl (hvQ rfl (vaQ rfl rfl rfl) (enQ 1 rfl ?_)))))
   exact zbs (i + 1) ⟨by omega, fun q hq => by by_cases e : q = i; (subst e; exact fun h9 => by first | (have h8 := h9.1; omega) | exact absurd h9.2 (by rw [Bool.not_eq_true]; assumption)); exact hall q (by omega)⟩ (by omega) (saQ rfl) (.slnil)
  refine zam 3 rfl (hvQ rfl (riQ 3 rfl rfl rfl rfl (zaf hv)) (hvQ rfl (zaq (k0 := 0) rfl rfl rfl (zaf hv) (by omega)) ?_))
  refine hvQ rfl (zan (u := .int .i64 ((os.getD i oq0).k)) rfl rfl rfl (zaf hv) ((zbd oqC 3 (fun _ => rfl) os oq0 (show i < _ by omega) (by decide)).trans rfl)) (zbu rfl rfl rfl rfl rfl rfl (fun h5 => ?_) (fun h5 => ?_))
  ·
   refine zam 5 rfl (hvQ rfl (riQ 3 rfl rfl rfl rfl (zaf hv)) (hvQ rfl (zaq (k0 := 1) rfl rfl rfl (zaf hv) (by omega)) ?_))
   refine hvQ rfl (zan (u := .int .i64 ((os.getD i oq0).a)) rfl rfl rfl (zaf hv) ((zbd oqC 3 (fun _ => rfl) os oq0 (show i < _ by omega) (by decide)).trans rfl)) (hvQ rfl (riQ 1 rfl rfl rfl rfl (zaf hu)) ?_)
   refine hvQ rfl (zan (u := .bool ((tk.getD (((os.getD i oq0).a).toNat) bl0).b)) rfl rfl rfl (zaf hu) (flat_one blC (fun r => .bool r.b) (fun _ => rfl) tk bl0 (show ((os.getD i oq0).a).toNat < _ by omega))) (zbm (fun h6 => ?_) (fun h6 => ?_))
   ·
    refine zay 1 rfl (zah rfl (zbg 1 rfl ?_))
    refine zao (zad ?_)
    refine zdv ?_
    refine zad (zae ?_)
    exact zav rfl rfl (congrArg _ (zdi ⟨i, by omega, by omega, by assumption⟩).symm)
   refine zay 1 rfl (fsQ rfl (zdh (reQ 1 rfl (hvQ rfl (vaQ rfl rfl rfl) (enQ 1 rfl ?_)))))
   exact zbs (i + 1) ⟨by omega, fun q hq => by by_cases e : q = i; (subst e; exact fun h9 => by first | (have h8 := h9.1; omega) | exact absurd h9.2 (by rw [Bool.not_eq_true]; assumption)); exact hall q (by omega)⟩ (by omega) (saQ rfl) (.slnil)
  refine zay 11 rfl (fsQ rfl (zdh ?_))
  refine reQ 1 rfl (hvQ rfl (vaQ rfl rfl rfl) (enQ 1 rfl ?_))
  exact zbs (i + 1) ⟨by omega, fun q hq => by by_cases e : q = i; (subst e; exact fun h9 => by first | (have h8 := h9.1; omega) | exact absurd h9.2 (by rw [Bool.not_eq_true]; assumption)); exact hall q (by omega)⟩ (by omega) (saQ rfl) (.slnil)
 refine ntQ (zap rfl ?_)
 refine zbj (zeb ?_)
 refine zal (zba (zbg 1 rfl ?_))
 exact zao (zav rfl rfl (congrArg _ (zbv (fun hp => by first | (obtain ⟨q, h1, h2⟩ := hp; exact hall q (by omega) h2))).symm))
theorem specEvalOrder_ret (m : Md) (w : World) (hr : RdsMd w m) :
   Calls Try.prog 117 #[.agg #[m.sv, m.av, m.iv, m.mv]] w (Ret w (fun u_ p_ => ∃ v, u_ = .tuple #[v, .bool (pB (EoP m))] ∧ p_ = [])) := by
 have hs9 := sml hr.s
 have hg9 := sml hr.g
 have hx9 := sml hr.x
 refine zca (N := 108) (args := [.agg #[m.sv, m.av, m.iv, m.mv]]) Try.func117 rfl rfl (srQ ?_)
 refine zdn rfl (zdm rfl rfl) ?_
 intro b1
 refine zay 2 rfl (srQ ?_)
 refine zea rfl (zee (s := 1) rfl Try.underlying48 rfl) ?_
 intro g2
 refine zay 1 rfl (zfi (hvQ rfl (fdQ 2 rfl rfl rfl) (hvQ rfl (zac rfl rfl rfl (zaa 1 rfl rfl)) (hvQ rfl (lnQ rfl rfl rfl (zaf ((hr).x))) ?_))))
 refine zdr rfl rfl rfl rfl rfl rfl (fun h3 => ?_) (fun h3 => ?_)
 ·
  refine zay 7 rfl (zah rfl (zag (reQ 3 rfl (?_))))
  refine ntQ ?_
  refine zao (zae ?_)
  have hE : ¬ EoP m := fun hp => by first | (have := hp.1; omega) | exact absurd hp.2.1 (by assumption) | exact opn_stop hdes ho hin (fun e => by have h9 : zs.length = 0 := (by rw [e]; rfl); omega) (fun q hq => by rcases hnx with ⟨e8, h8⟩ | ⟨r, e8, h8⟩; (exact h8 q (by omega)); (exfalso; omega)) (hp.2.2.sub hzs)
  exact zei (rs := [.tmp 2, .tmp 3]) (vs := [.slice (some ⟨g2, 0, none⟩) 0 0, .bool false]) (post := []) rfl ⟨rfl, rfl, trivial⟩ rfl (slQ [] rfl) ⟨_, by rw [zbv hE]; rfl, rfl⟩
 refine zam 1 rfl (hvQ rfl (zax (cs := [m.sv, m.av, m.iv, m.mv]) rfl rfl rfl rfl rfl (zat 1 rfl 0 rfl)) ?_)
 refine zea rfl (zak (z := .agg #[.slice none 0 0, .slice none 0 0, .slice none 0 0, .slice none 0 0]) (s := 4) (cs := [m.sv, m.av, m.iv, m.mv]) rfl Try.underlying24 rfl (by decide) rfl (by kernel_rfl) rfl) ?_
 intro g4
 refine hvQ rfl (zbk (cs := #[.slice (some ⟨g4, 0, none⟩) 1 1]) rfl rfl rfl) (zem rfl (zaw rfl rfl (fun w hm => zbf (specDesignOk_ans [m] (.slice (some ⟨g4, 0, none⟩) 1 1) w ⟨zaj 0 rfl w hm, fun m9 h9 => by obtain rfl := List.mem_singleton.1 h9; exact hr.below hm.bel⟩))) ?_)
 refine zbm (fun h5 => ?_) (fun h5 => ?_)
 ·
  have h5p := zes h5
  refine zay 2 rfl (zap rfl (zcv (srQ ?_)))
  have hdes : DesP [m] := by assumption
  have hgs : ∀ i, i < m.gs.length → AsP m (m.gs.getD i as0) := fun i hi => hdes.gs1 hi
  obtain ⟨hl1, hl2, hl3, hl4⟩ := hdes.len1
  refine hvQ rfl (fdQ 0 rfl rfl rfl) (hvQ rfl (zac rfl rfl rfl (zaa 2 rfl rfl)) (hvQ rfl (lnQ rfl rfl rfl (zaf ((hr).s))) ?_))
  refine zea rfl (rq_make (z := .bool false) (s := 1) (bytes := 1) (n := (List.replicate m.ss.length bl0).length) (cs := ((List.replicate m.ss.length bl0).flatMap blC)) rfl Try.underlying103 rfl (by decide) rfl rfl (by first | (rw [List.length_replicate]; done) | (rw [List.length_replicate]; omega)) (by first | (rw [List.length_replicate]; done) | (rw [List.length_replicate]; omega)) (by rw [List.length_replicate]; omega) (made_flat blC 1 (fun _ => rfl) bl0 _ rfl m.ss.length)) ?_
  intro g6
  refine zay 1 rfl (zbg 1 rfl (zag (zag (reQ 1 rfl ?_))))
  refine ntQ (zaz ?_)
  refine lkQ3 (α := Nat) (β := List Bl) (γ := Int) [0, 1, 2, 3, 4, 5, 21] rfl (fun i tk c => [rowE 4 1 (.slice (some ⟨g6, 0, none⟩) ((List.replicate m.ss.length bl0).length) ((List.replicate m.ss.length bl0).length)) tk.length (tk.flatMap blC), rowE 35 4 (.slice (some ⟨g4, 0, none⟩) 1 1) 1 ([m.sv, m.av, m.iv, m.mv]), rowE 3 1 (.slice (some ⟨g2, 0, none⟩) 0 0) 0 ([]), boxE b1 #[m.sv, m.av, m.iv, m.mv] 35]) (fun i tk c => [(6, .int .i64 c), (7, .int .i64 (i : Int))]) (fun i tk c => i ≤ m.gs.length ∧ OpnP m (todoA m i) tk ∧ c = ((todoA m i).length : Int)) (fun i tk c => m.gs.length - i) 0 (List.replicate m.ss.length bl0) 0 ⟨Nat.zero_le _, OpnP.nil, rfl⟩ (saQ rfl) (pfQ rfl) ?_
  intro i tk c hi7
  obtain ⟨hi, ho, hc⟩ := hi7
  have hol := ho.1
  have htl := todoA_le m i
  refine zag (zag (reQ 1 rfl (hvQ rfl (fdQ 1 rfl rfl rfl) (hvQ rfl (zac rfl rfl rfl (zaa 3 rfl rfl)) (hvQ rfl (lnQ rfl rfl rfl (zaf ((hr).g))) ?_)))))
  refine zbq rfl rfl rfl rfl rfl rfl (fun h8 => ?_) (fun h8 => ?_)
  ·
   refine ntQ (zah rfl (zcv (sbQ (zag ?_))))
   have ht := (hgs i (by omega)).tgt
   rcases Bool.eq_false_or_eq_true (((m.ss.getD (((m.gs.getD i as0).t).toNat) sg0).k) != 3) with hb9 | hb9
   ·
    have hb9p : (m.ss.getD (((m.gs.getD i as0).t).toNat) sg0).k ≠ 3 := bne_iff_ne.1 hb9
    have ht := (hgs i (by omega)).tgt
    refine zbz 12 [[], [0], [], [2], [], [3, 4], [5], [6], [1, 7], [8], [9], [10]] [34, 35, 36, 37, 38, 39, 40, 41, 42, 43, 44, 45] [.pointer (some ⟨b1, 0 + 0, none⟩), m.sv, .pointer (some ⟨b1, 0 + 1, none⟩), m.av, .int .i64 (i : Int), elP m.av (((i : Int)).toNat * 2), elP m.av (((i : Int)).toNat * 2 + 0), .int .i64 ((m.gs.getD i as0).t), elP m.sv (((m.gs.getD i as0).t).toNat * 3), elP m.sv (((m.gs.getD i as0).t).toNat * 3 + 0), .int .i64 ((m.ss.getD (((m.gs.getD i as0).t).toNat) sg0).k), .bool true] (by kernel_rfl) rfl ?_ ?_
    ·
     exact ⟨iaQ rfl (fdQ 0 rfl rfl rfl) rfl, iaQ rfl (zac rfl rfl rfl (zaa 3 rfl rfl)) rfl, iaQ rfl (fdQ 1 rfl rfl rfl) rfl, iaQ rfl (zac rfl rfl rfl (zaa 3 rfl rfl)) rfl, iaQ rfl (zau rfl) rfl, iaQ rfl (riQ 2 rfl rfl rfl rfl (zaf ((hr).g))) rfl, iaQ rfl (zaq (k0 := 0) rfl rfl rfl (zaf ((hr).g)) (by omega)) rfl, iaQ rfl (zan (u := .int .i64 ((m.gs.getD i as0).t)) rfl rfl rfl (zaf ((hr).g)) ((zbd asC 2 (fun _ => rfl) m.gs as0 (show i < _ by omega) (by decide)).trans rfl)) rfl, iaQ rfl (riQ 3 rfl rfl rfl rfl (zaf ((hr).s))) rfl, iaQ rfl (zaq (k0 := 0) rfl rfl rfl (zaf ((hr).s)) (by omega)) rfl, iaQ rfl (zan (u := .int .i64 ((m.ss.getD (((m.gs.getD i as0).t).toNat) sg0).k)) rfl rfl rfl (zaf ((hr).s)) ((zbd sgC 3 (fun _ => rfl) m.ss sg0 (show ((m.gs.getD i as0).t).toNat < _ by omega) (by decide)).trans rfl)) rfl, .inl ⟨rfl, zdl (zcf rfl rfl rfl rfl) hb9⟩, trivial⟩
    simp only [List.drop_succ_cons, List.drop_zero]
    refine ntQ (zah rfl (zag (reQ 1 rfl (hvQ rfl (fdQ 1 rfl rfl rfl) (hvQ rfl (zac rfl rfl rfl (zaa 3 rfl rfl)) (zam 1 rfl (hvQ rfl (riQ 2 rfl rfl rfl rfl (zaf ((hr).g))) (hvQ rfl (zaq (k0 := 0) rfl rfl rfl (zaf ((hr).g)) (by omega)) ?_))))))))
    refine hvQ rfl (zan (u := .int .i64 ((m.gs.getD i as0).t)) rfl rfl rfl (zaf ((hr).g)) ((zbd asC 2 (fun _ => rfl) m.gs as0 (show i < _ by omega) (by decide)).trans rfl)) (hvQ rfl (riQ 1 rfl rfl rfl rfl (zaj 0 rfl)) ?_)
    refine hl_stE (i := 0) (n' := (tk.set (((m.gs.getD i as0).t).toNat) { tk.getD (((m.gs.getD i as0).t).toNat) bl0 with b := true }).length) rfl rfl rfl rfl rfl rfl rfl rfl (by first | omega | (simp only [List.length_set]; omega)) List.length_set.symm (flat_set1 blC (fun r => .bool r.b) (fun _ => rfl) _ ({ tk.getD (((m.gs.getD i as0).t).toNat) bl0 with b := true }) rfl) rfl (ntQ (reQ 1 rfl (hvQ rfl (vaQ rfl rfl rfl) (enQ 1 rfl (zdh (reQ 1 rfl (hvQ rfl (vaQ rfl rfl rfl) ?_)))))))
    refine enQ 1 rfl ?_
    exact zcq (i + 1) (tk.set (((m.gs.getD i as0).t).toNat) { tk.getD (((m.gs.getD i as0).t).toNat) bl0 with b := true }) (c + 1) ⟨by omega, (by rw [← todoA_yes (by omega)]; exact ho.add ht.1), (by rw [← todoA_yes (by omega), List.length_append]; simp only [List.length_singleton]; omega)⟩ (by omega) (saQ rfl) (pfQ rfl)
   have hb9p : (m.ss.getD (((m.gs.getD i as0).t).toNat) sg0).k = 3 := (bne_eq_false_iff_eq.1 hb9)
   have ht := (hgs i (by omega)).tgt
   refine zbz 12 [[], [0], [], [2], [], [3, 4], [5], [6], [1, 7], [8], [9], [10]] [34, 35, 36, 37, 38, 39, 40, 41, 42, 43, 44, 45] [.pointer (some ⟨b1, 0 + 0, none⟩), m.sv, .pointer (some ⟨b1, 0 + 1, none⟩), m.av, .int .i64 (i : Int), elP m.av (((i : Int)).toNat * 2), elP m.av (((i : Int)).toNat * 2 + 0), .int .i64 ((m.gs.getD i as0).t), elP m.sv (((m.gs.getD i as0).t).toNat * 3), elP m.sv (((m.gs.getD i as0).t).toNat * 3 + 0), .int .i64 ((m.ss.getD (((m.gs.getD i as0).t).toNat) sg0).k), .bool false] (by kernel_rfl) rfl ?_ ?_
   ·
    exact ⟨iaQ rfl (fdQ 0 rfl rfl rfl) rfl, iaQ rfl (zac rfl rfl rfl (zaa 3 rfl rfl)) rfl, iaQ rfl (fdQ 1 rfl rfl rfl) rfl, iaQ rfl (zac rfl rfl rfl (zaa 3 rfl rfl)) rfl, iaQ rfl (zau rfl) rfl, iaQ rfl (riQ 2 rfl rfl rfl rfl (zaf ((hr).g))) rfl, iaQ rfl (zaq (k0 := 0) rfl rfl rfl (zaf ((hr).g)) (by omega)) rfl, iaQ rfl (zan (u := .int .i64 ((m.gs.getD i as0).t)) rfl rfl rfl (zaf ((hr).g)) ((zbd asC 2 (fun _ => rfl) m.gs as0 (show i < _ by omega) (by decide)).trans rfl)) rfl, iaQ rfl (riQ 3 rfl rfl rfl rfl (zaf ((hr).s))) rfl, iaQ rfl (zaq (k0 := 0) rfl rfl rfl (zaf ((hr).s)) (by omega)) rfl, iaQ rfl (zan (u := .int .i64 ((m.ss.getD (((m.gs.getD i as0).t).toNat) sg0).k)) rfl rfl rfl (zaf ((hr).s)) ((zbd sgC 3 (fun _ => rfl) m.ss sg0 (show ((m.gs.getD i as0).t).toNat < _ by omega) (by decide)).trans rfl)) rfl, .inl ⟨rfl, zdl (zcf rfl rfl rfl rfl) hb9⟩, trivial⟩
   simp only [List.drop_succ_cons, List.drop_zero]
   refine ntQ (fsQ rfl (zdh (reQ 1 rfl (hvQ rfl (vaQ rfl rfl rfl) (enQ 1 rfl ?_)))))
   exact zcq (i + 1) tk c ⟨by omega, (by rw [← todoA_no (by omega)]; exact ho), (by rw [← todoA_no (by omega)]; exact hc)⟩ (by omega) (saQ rfl) (pfQ rfl)
  refine ntQ (zap rfl ?_)
  refine zbj (zeb ?_)
  refine zal (zba (sbQ ?_))
  refine hc_loop5 (α := List Int) (β := List Bl) (γ := Int) (δ := Value) (fun zs tk c go ys => [rowE 4 1 (.slice (some ⟨g6, 0, none⟩) ((List.replicate m.ss.length bl0).length) ((List.replicate m.ss.length bl0).length)) tk.length (tk.flatMap blC), rowE 35 4 (.slice (some ⟨g4, 0, none⟩) 1 1) 1 ([m.sv, m.av, m.iv, m.mv]), rowE 3 1 go ys.length (ys.map (Value.int .i64)), boxE b1 #[m.sv, m.av, m.iv, m.mv] 35]) (fun zs tk c go ys => [(0, .agg #[m.sv, m.av, m.iv, m.mv]), (1, .pointer (some ⟨b1, 0, none⟩)), (2, .slice none 0 0), (3, .bool false), (4, go), (5, .slice (some ⟨g6, 0, none⟩) ((List.replicate m.ss.length bl0).length) ((List.replicate m.ss.length bl0).length)), (6, .int .i64 c), (21, .bool false), (31, .bool false)]) (fun zs tk c go ys => (∀ x ∈ zs, x ∈ (todoA m m.gs.length)) ∧ (Can m zs → Can m (todoA m m.gs.length)) ∧ zs.Nodup ∧ OpnP m zs tk ∧ c = (zs.length : Int) ∧ ys.length + zs.length ≤ 30) (fun zs tk c go ys => zs.length) (todoA m m.gs.length) tk c _ [] (by have e9 : i = m.gs.length := (by omega); rw [e9] at ho hc htl; exact ⟨fun x hx => hx, fun h => h, todoA_nodup m _, ho, hc, by simp only [List.length_nil]; omega⟩) (zar [31, 21, 6, 5, 4, 3, 2, 1, 0] rfl) (pfQ rfl) ?_
  intro zs tk c go ys hi10
  obtain ⟨hzs, hbk, hnd, ho, hc, hln⟩ := hi10
  have hol := ho.1
  have hin : ∀ x ∈ zs, 0 ≤ x ∧ x < m.gs.length := fun x hx => by obtain ⟨j, h1, -, rfl⟩ := todoA_mem.1 (hzs x hx); omega
  refine zag (zag (reQ 1 rfl ?_))
  refine zdr rfl rfl rfl rfl rfl rfl (fun h11 => ?_) (fun h11 => ?_)
  ·
   refine ntQ (zah rfl (zcv (zaz (zbg 1 rfl (zag ?_)))))
   refine zbg 1 rfl (zaz ?_)
   refine lkQ2 (α := Nat) (β := Int) [0, 1, 2, 3, 4, 5, 6, 21, 31, 57] rfl (fun k nx => [rowE 4 1 (.slice (some ⟨g6, 0, none⟩) ((List.replicate m.ss.length bl0).length) ((List.replicate m.ss.length bl0).length)) tk.length (tk.flatMap blC), rowE 35 4 (.slice (some ⟨g4, 0, none⟩) 1 1) 1 ([m.sv, m.av, m.iv, m.mv]), rowE 3 1 go ys.length (ys.map (Value.int .i64)), boxE b1 #[m.sv, m.av, m.iv, m.mv] 35]) (fun k nx => [(8, .int .i64 nx), (9, .int .i64 (k : Int))]) (fun k nx => k ≤ m.gs.length ∧ ((nx = -1 ∧ ∀ q, q < k → ¬ ((tk.getD (m.gs.getD q as0).t.toNat bl0).b = true ∧ ¬ WtP (m.gs.getD q as0).os tk)) ∨ (∃ r : Nat, nx = (r : Int) ∧ r < m.gs.length ∧ ((tk.getD (m.gs.getD r as0).t.toNat bl0).b = true ∧ ¬ WtP (m.gs.getD r as0).os tk)))) (fun k nx => m.gs.length - k) 0 (-1) ⟨Nat.zero_le _, .inl ⟨rfl, fun q hq => absurd hq (by omega)⟩⟩ (saQ rfl) (pfQ rfl) ?_
   intro k nx hi12
   obtain ⟨hk, hnx⟩ := hi12
   have hnl : -1 ≤ nx ∧ nx < 31 := by rcases hnx with ⟨e8, -⟩ | ⟨r, e8, h8, -⟩ <;> omega
   refine zag (zag (reQ 1 rfl (hvQ rfl (fdQ 1 rfl rfl rfl) (hvQ rfl (zac rfl rfl rfl (zaa 3 rfl rfl)) (hvQ rfl (lnQ rfl rfl rfl (zaf ((hr).g))) ?_)))))
   refine zbq rfl rfl rfl rfl rfl rfl (fun h13 => ?_) (fun h13 => ?_)
   ·
    refine zam 2 rfl (zbq rfl rfl rfl rfl rfl rfl (fun h14 => ?_) (fun h14 => ?_))
    ·
     refine zay 1 rfl (zah rfl (zcv (sbQ (srQ ?_))))
     have htk := (hgs k (by omega)).tgt
     refine zam 1 rfl (hvQ rfl (fdQ 1 rfl rfl rfl) (hvQ rfl (zac rfl rfl rfl (zaa 3 rfl rfl)) (zam 1 rfl (hvQ rfl (riQ 2 rfl rfl rfl rfl (zaf ((hr).g))) (hvQ rfl (zaq (k0 := 0) rfl rfl rfl (zaf ((hr).g)) (by omega)) ?_)))))
     refine hvQ rfl (zan (u := .int .i64 ((m.gs.getD k as0).t)) rfl rfl rfl (zaf ((hr).g)) ((zbd asC 2 (fun _ => rfl) m.gs as0 (show k < _ by omega) (by decide)).trans rfl)) (hvQ rfl (riQ 1 rfl rfl rfl rfl (zaj 0 rfl)) ?_)
     refine hvQ rfl (zan (u := .bool ((tk.getD (((m.gs.getD k as0).t).toNat) bl0).b)) rfl rfl rfl (zaj 0 rfl) (flat_one blC (fun r => .bool r.b) (fun _ => rfl) tk bl0 (show ((m.gs.getD k as0).t).toNat < _ by omega))) (zbm (fun h15 => ?_) (fun h15 => ?_))
     ·
      refine zam 1 rfl (hvQ rfl (fdQ 1 rfl rfl rfl) (hvQ rfl (zac rfl rfl rfl (zaa 3 rfl rfl)) (zam 1 rfl (hvQ rfl (riQ 2 rfl rfl rfl rfl (zaf ((hr).g))) (hvQ rfl (zaq (k0 := 1) rfl rfl rfl (zaf ((hr).g)) (by omega)) ?_)))))
      refine hvQ rfl (zan (u := (m.gs.getD k as0).ov) rfl rfl rfl (zaf ((hr).g)) ((zbd asC 2 (fun _ => rfl) m.gs as0 (show k < _ by omega) (by decide)).trans rfl)) (zam 1 rfl ?_)
      refine zem rfl (zaw rfl rfl (fun w hm => zbf (l06Waits_ans (m.gs.getD k as0).os tk _ _ w ((hr.o.at (by omega)).below hm.bel) (zaj 0 rfl w hm) (fun i hi hk9 => by have h9 := rds_rng (hgs k (by omega)).2 hi hk9; rw [hol]; exact h9)))) (zbm (fun h16 => ?_) (fun h16 => ?_))
      ·
       have h16p := zes h16
       refine zay 2 rfl (fsQ rfl (zdh (reQ 1 rfl (hvQ rfl (vaQ rfl rfl rfl) (enQ 1 rfl ?_)))))
       exact zdd (k + 1) nx ⟨by omega, (by rcases hnx with ⟨e8, h8⟩ | ⟨r, e8, -⟩; (exact .inl ⟨e8, fun q hq => by by_cases e : q = k; (subst e; exact fun h9 => by first | exact absurd h9.1 (by rw [Bool.not_eq_true]; assumption) | exact absurd (by assumption) h9.2); exact h8 q (by omega)⟩); (exfalso; omega))⟩ (by omega) (saQ rfl) (pfQ rfl)
      have h16p := zdt h16
      refine zay 2 rfl (zah rfl (zas (enQ 2 rfl (zdh (reQ 1 rfl (hvQ rfl (vaQ rfl rfl rfl) ?_))))))
      refine enQ 1 rfl ?_
      exact zdd (k + 1) (k : Int) ⟨by omega, .inr ⟨k, rfl, by omega, by assumption, by assumption⟩⟩ (by omega) (saQ rfl) (pfQ rfl)
     refine zay 11 rfl (zap rfl ?_)
     refine hc_skip (zdh (reQ 1 rfl (hvQ rfl (vaQ rfl rfl rfl) (enQ 1 rfl ?_))))
     exact zdd (k + 1) nx ⟨by omega, (by rcases hnx with ⟨e8, h8⟩ | ⟨r, e8, -⟩; (exact .inl ⟨e8, fun q hq => by by_cases e : q = k; (subst e; exact fun h9 => by first | exact absurd h9.1 (by rw [Bool.not_eq_true]; assumption) | exact absurd (by assumption) h9.2); exact h8 q (by omega)⟩); (exfalso; omega))⟩ (by omega) (saQ rfl) (pfQ rfl)
    refine zay 1 rfl (zap rfl ?_)
    refine zbj (zeb ?_)
    refine zal (zba (zag (zag (reQ 1 rfl ?_))))
    refine zbq rfl rfl rfl rfl rfl rfl (fun h17 => ?_) (fun h17 => ?_)
    ·
     refine ntQ (zah rfl (srQ ?_))
     refine zea rfl (zee (s := 1) rfl Try.underlying48 rfl) ?_
     intro g18
     refine zay 2 rfl ?_
     refine zao (zae ?_)
     refine zad (zae ?_)
     refine zad (zae ?_)
     have hE : ¬ EoP m := fun hp => by first | (have := hp.1; omega) | exact absurd hp.2.1 (by assumption) | exact opn_stop hdes ho hin (fun e => by have h9 : zs.length = 0 := (by rw [e]; rfl); omega) (fun q hq => by rcases hnx with ⟨e8, h8⟩ | ⟨r, e8, h8⟩; (exact h8 q (by omega)); (exfalso; omega)) (hp.2.2.sub hzs)
     exact zei (rs := [.tmp 2, .tmp 3]) (vs := [.slice (some ⟨g18, 0, none⟩) 0 0, .bool false]) (post := []) rfl ⟨rfl, rfl, trivial⟩ rfl (slQ [] rfl) ⟨_, by rw [zbv hE]; rfl, rfl⟩
    refine ntQ (zap rfl (zcv (srQ ?_)))
    obtain ⟨r, hnr, hr1, hr2, hr3⟩ := hnx.resolve_left (fun h9 => by have := h9.1; omega)
    have hnn : r = nx.toNat := by omega
    rw [hnn] at hr1 hr2 hr3
    have hnz : (nx.toNat : Int) = nx := by omega
    have hxin : nx ∈ zs := by have h9 := opn_in hdes ho hin hr1 hr2; rwa [hnz] at h9
    have hxp := List.length_pos_of_mem hxin
    have htx := (hgs _ hr1).tgt
    refine zam 2 rfl (zea rfl (zak (z := .int .i64 0) (s := 1) (cs := ([nx].map (Value.int .i64))) rfl Try.underlying48 rfl (by decide) rfl (by kernel_rfl) rfl) ?_)
    intro g19
    refine zcs (i := 3) (z := .int .i64 0) (bytes := 8) rfl rfl rfl rfl Try.underlying48 (by kernel_rfl) rfl rfl rfl rfl (zaj 0 rfl) (zbx _) (by first | omega | (simp; done) | (simp; omega)) (zcc ys ([nx])) (zcw ys ([nx])) (fun _ => rfl) ?_
    intro v20
    refine zay 1 rfl (zag (reQ 1 rfl (hvQ rfl (fdQ 1 rfl rfl rfl) (hvQ rfl (zac rfl rfl rfl (zaa 4 rfl rfl)) (zam 1 rfl (hvQ rfl (riQ 2 rfl rfl rfl rfl (zaf ((hr).g))) (hvQ rfl (zaq (k0 := 0) rfl rfl rfl (zaf ((hr).g)) (by omega)) ?_)))))))
    refine hvQ rfl (zan (u := .int .i64 ((m.gs.getD ((nx).toNat) as0).t)) rfl rfl rfl (zaf ((hr).g)) ((zbd asC 2 (fun _ => rfl) m.gs as0 (show (nx).toNat < _ by omega) (by decide)).trans rfl)) (hvQ rfl (riQ 1 rfl rfl rfl rfl (zaj 1 rfl)) ?_)
    refine hl_stE (i := 1) (n' := (tk.set (((m.gs.getD ((nx).toNat) as0).t).toNat) { tk.getD (((m.gs.getD ((nx).toNat) as0).t).toNat) bl0 with b := false }).length) rfl rfl rfl rfl rfl rfl rfl rfl (by first | omega | (simp only [List.length_set]; omega)) List.length_set.symm (flat_set1 blC (fun r => .bool r.b) (fun _ => rfl) _ ({ tk.getD (((m.gs.getD ((nx).toNat) as0).t).toNat) bl0 with b := false }) rfl) rfl (ntQ (reQ 1 rfl (hvQ rfl (vsQ rfl rfl rfl) (enQ 1 rfl (zcr ?_)))))
    exact zen (zs.erase nx) (tk.set (((m.gs.getD ((nx).toNat) as0).t).toNat) { tk.getD (((m.gs.getD ((nx).toNat) as0).t).toNat) bl0 with b := false }) (c - 1) _ (ys ++ ([nx])) ⟨fun x hx => hzs x (List.mem_of_mem_erase hx), fun h => hbk (Can.backE hxin hnd ((wt_free ho (hgs _ hr1).2).1 hr3) h), hnd.erase _, (by have h9 := ho.del hdes hin hnd hr1; rwa [hnz] at h9), (by rw [List.length_erase_of_mem hxin]; omega), (by rw [List.length_erase_of_mem hxin, List.length_append]; simp only [List.length_singleton]; omega)⟩ (by rw [List.length_erase_of_mem hxin]; omega) (zar [31, 21, 6, 5, 4, 3, 2, 1, 0] rfl) (slQ [1, 0, 0, 0] rfl)
   refine zay 4 rfl (zap rfl ?_)
   refine zbj (zeb ?_)
   refine zal (zba (zag (zag (reQ 1 rfl ?_))))
   refine zbq rfl rfl rfl rfl rfl rfl (fun h21 => ?_) (fun h21 => ?_)
   ·
    refine ntQ (zah rfl (srQ ?_))
    refine zea rfl (zee (s := 1) rfl Try.underlying48 rfl) ?_
    intro g22
    refine zay 2 rfl ?_
    refine zao (zae ?_)
    refine zad (zae ?_)
    refine zad (zae ?_)
    have hE : ¬ EoP m := fun hp => by first | (have := hp.1; omega) | exact absurd hp.2.1 (by assumption) | exact opn_stop hdes ho hin (fun e => by have h9 : zs.length = 0 := (by rw [e]; rfl); omega) (fun q hq => by rcases hnx with ⟨e8, h8⟩ | ⟨r, e8, h8⟩; (exact h8 q (by omega)); (exfalso; omega)) (hp.2.2.sub hzs)
    exact zei (rs := [.tmp 2, .tmp 3]) (vs := [.slice (some ⟨g22, 0, none⟩) 0 0, .bool false]) (post := []) rfl ⟨rfl, rfl, trivial⟩ rfl (slQ [] rfl) ⟨_, by rw [zbv hE]; rfl, rfl⟩
   refine ntQ (zap rfl (zcv (srQ ?_)))
   obtain ⟨r, hnr, hr1, hr2, hr3⟩ := hnx.resolve_left (fun h9 => by have := h9.1; omega)
   have hnn : r = nx.toNat := by omega
   rw [hnn] at hr1 hr2 hr3
   have hnz : (nx.toNat : Int) = nx := by omega
   have hxin : nx ∈ zs := by have h9 := opn_in hdes ho hin hr1 hr2; rwa [hnz] at h9
   have hxp := List.length_pos_of_mem hxin
   have htx := (hgs _ hr1).tgt
   refine zam 2 rfl (zea rfl (zak (z := .int .i64 0) (s := 1) (cs := ([nx].map (Value.int .i64))) rfl Try.underlying48 rfl (by decide) rfl (by kernel_rfl) rfl) ?_)
   intro g23
   refine zcs (i := 3) (z := .int .i64 0) (bytes := 8) rfl rfl rfl rfl Try.underlying48 (by kernel_rfl) rfl rfl rfl rfl (zaj 0 rfl) (zbx _) (by first | omega | (simp; done) | (simp; omega)) (zcc ys ([nx])) (zcw ys ([nx])) (fun _ => rfl) ?_
   intro v24
   refine zay 1 rfl (zag (reQ 1 rfl (hvQ rfl (fdQ 1 rfl rfl rfl) (hvQ rfl (zac rfl rfl rfl (zaa 4 rfl rfl)) (zam 1 rfl (hvQ rfl (riQ 2 rfl rfl rfl rfl (zaf ((hr).g))) (hvQ rfl (zaq (k0 := 0) rfl rfl rfl (zaf ((hr).g)) (by omega)) ?_)))))))
   refine hvQ rfl (zan (u := .int .i64 ((m.gs.getD ((nx).toNat) as0).t)) rfl rfl rfl (zaf ((hr).g)) ((zbd asC 2 (fun _ => rfl) m.gs as0 (show (nx).toNat < _ by omega) (by decide)).trans rfl)) (hvQ rfl (riQ 1 rfl rfl rfl rfl (zaj 1 rfl)) ?_)
   refine hl_stE (i := 1) (n' := (tk.set (((m.gs.getD ((nx).toNat) as0).t).toNat) { tk.getD (((m.gs.getD ((nx).toNat) as0).t).toNat) bl0 with b := false }).length) rfl rfl rfl rfl rfl rfl rfl rfl (by first | omega | (simp only [List.length_set]; omega)) List.length_set.symm (flat_set1 blC (fun r => .bool r.b) (fun _ => rfl) _ ({ tk.getD (((m.gs.getD ((nx).toNat) as0).t).toNat) bl0 with b := false }) rfl) rfl (ntQ (reQ 1 rfl (hvQ rfl (vsQ rfl rfl rfl) (enQ 1 rfl (zcr ?_)))))
   exact zen (zs.erase nx) (tk.set (((m.gs.getD ((nx).toNat) as0).t).toNat) { tk.getD (((m.gs.getD ((nx).toNat) as0).t).toNat) bl0 with b := false }) (c - 1) _ (ys ++ ([nx])) ⟨fun x hx => hzs x (List.mem_of_mem_erase hx), fun h => hbk (Can.backE hxin hnd ((wt_free ho (hgs _ hr1).2).1 hr3) h), hnd.erase _, (by have h9 := ho.del hdes hin hnd hr1; rwa [hnz] at h9), (by rw [List.length_erase_of_mem hxin]; omega), (by rw [List.length_erase_of_mem hxin, List.length_append]; simp only [List.length_singleton]; omega)⟩ (by rw [List.length_erase_of_mem hxin]; omega) (zar [31, 21, 6, 5, 4, 3, 2, 1, 0] rfl) (slQ [1, 0, 0, 0] rfl)
  refine ntQ (zap rfl ?_)
  refine zbj (zeb ?_)
  refine zal (zba (zbg 3 rfl ?_))
  refine zao ?_
  have hz0 : zs = [] := List.eq_nil_of_length_eq_zero (by omega)
  have hE : EoP m := ⟨by omega, hdes, hbk (by rw [hz0]; exact Can.nil m)⟩
  exact zei (rs := [.tmp 2, .tmp 3]) (vs := [go, .bool true]) (post := []) rfl ⟨rfl, rfl, trivial⟩ rfl (slQ [] rfl) ⟨_, by rw [zdi hE]; rfl, rfl⟩
 have h5p := zdt h5
 refine zay 2 rfl (zah rfl (zbg 3 rfl ?_))
 refine zao (zae ?_)
 have hE : ¬ EoP m := fun hp => by first | (have := hp.1; omega) | exact absurd hp.2.1 (by assumption) | exact opn_stop hdes ho hin (fun e => by have h9 : zs.length = 0 := (by rw [e]; rfl); omega) (fun q hq => by rcases hnx with ⟨e8, h8⟩ | ⟨r, e8, h8⟩; (exact h8 q (by omega)); (exfalso; omega)) (hp.2.2.sub hzs)
 exact zei (rs := [.tmp 2, .tmp 3]) (vs := [.slice (some ⟨g2, 0, none⟩) 0 0, .bool false]) (post := []) rfl ⟨rfl, rfl, trivial⟩ rfl (slQ [] rfl) ⟨_, by rw [zbv hE]; rfl, rfl⟩
theorem specFlatOk_ans (m : Md) (w : World) (hr : RdsMd w m) :
   Calls Try.prog 71 #[.agg #[m.sv, m.av, m.iv, m.mv]] w (Ans w (.bool (pB (FlP m)))) := by
 have hs9 := sml hr.s
 have hg9 := sml hr.g
 have hx9 := sml hr.x
 have hm9 := sml hr.m
 have ho9 : ∀ k, k < m.gs.length → (m.gs.getD k as0).os.length ≤ 9223372036854775807 := fun k hk => by have := sml (hr.o.at hk); omega
 refine zca (N := 134) (args := [.agg #[m.sv, m.av, m.iv, m.mv]]) Try.func71 rfl rfl (srQ ?_)
 refine zdn rfl (zdm rfl rfl) ?_
 intro b1
 refine zay 1 rfl (srQ (hvQ rfl (zax (cs := [m.sv, m.av, m.iv, m.mv]) rfl rfl rfl rfl rfl (zat 0 rfl 0 rfl)) ?_))
 refine hl_q rfl rfl rfl (zaw rfl rfl (fun w hm => specEvalOrder_ret m w (hr.below hm.bel))) ?_
 intro v2 p3 hR4
 obtain ⟨ov, rfl, rfl⟩ := hR4
 refine zam 3 rfl (zbm (fun h5 => ?_) (fun h5 => ?_))
 ·
  have h5p := zes h5
  refine zay 2 rfl (zag (zbg 2 rfl (zap rfl (zcv ?_))))
  refine zfi ?_
  have hE : EoP m := by assumption
  have hdes := hE.2.1
  obtain ⟨hl1, hl2, hl3, hl4⟩ := hdes.len1
  have hz3 := sumZ_rng hdes 3
  refine zay 1 rfl (zaz ?_)
  refine lkQ1 (α := Nat) [0, 1, 2, 4, 17] rfl (fun i => [boxE b1 #[m.sv, m.av, m.iv, m.mv] 35]) (fun i => [(5, .int .i64 (i : Int))]) (fun i => i ≤ m.ss.length ∧ ∀ q, q < i → (m.ss.getD q sg0).w ≠ 0) (fun i => m.ss.length - i) 0 ⟨Nat.zero_le _, fun q hq => absurd hq (by omega)⟩ (saQ rfl) (pfQ rfl) ?_
  intro i hi6
  obtain ⟨hi, hwd⟩ := hi6
  refine zag (zag (reQ 1 rfl (hvQ rfl (fdQ 0 rfl rfl rfl) (hvQ rfl (zac rfl rfl rfl (zaa 0 rfl rfl)) (hvQ rfl (lnQ rfl rfl rfl (zaf ((hr).s))) ?_)))))
  refine zbq rfl rfl rfl rfl rfl rfl (fun h7 => ?_) (fun h7 => ?_)
  ·
   refine ntQ (zah rfl (zcv (sbQ (srQ (hvQ rfl (fdQ 0 rfl rfl rfl) (hvQ rfl (zac rfl rfl rfl (zaa 0 rfl rfl)) (zam 1 rfl (hvQ rfl (riQ 3 rfl rfl rfl rfl (zaf ((hr).s))) ?_))))))))
   refine hvQ rfl (zaq (k0 := 1) rfl rfl rfl (zaf ((hr).s)) (by omega)) (hvQ rfl (zan (u := .int .i64 ((m.ss.getD i sg0).w)) rfl rfl rfl (zaf ((hr).s)) ((zbd sgC 3 (fun _ => rfl) m.ss sg0 (show i < _ by omega) (by decide)).trans rfl)) ?_)
   refine zbu rfl rfl rfl rfl rfl rfl (fun h8 => ?_) (fun h8 => ?_)
   ·
    refine ntQ (zah rfl (zbg 1 rfl ?_))
    refine zao (zad ?_)
    refine zdv ?_
    refine zad (zae ?_)
    exact zav rfl rfl (congrArg _ (zbv (fun hp => by first | (exact absurd hp.eo (by assumption)) | (exact absurd (by omega) (hp.wid i (by omega))) | (exact hp.par k (by omega) ⟨q9, by omega, by omega⟩) | (have h9 := hp.mem j (by omega); unfold MwP at h9; omega) | (have h9 := hp.ins; omega) | (have h9 := hp.outs; omega) | (have h9 := hp.bits; rw [show m.ms.length = j by omega] at h9; omega))).symm)
   refine ntQ (fsQ rfl (zdh (reQ 1 rfl (hvQ rfl (vaQ rfl rfl rfl) ?_))))
   have hE : EoP m := by assumption
   have hdes := hE.2.1
   obtain ⟨hl1, hl2, hl3, hl4⟩ := hdes.len1
   have hz3 := sumZ_rng hdes 3
   refine enQ 1 rfl ?_
   exact zbs (i + 1) ⟨by omega, fun q hq => by by_cases e : q = i; (subst e; omega); exact hwd q (by omega)⟩ (by omega) (saQ rfl) (pfQ rfl)
  refine ntQ (zap rfl ?_)
  refine zbj (zeb ?_)
  refine zal (zba (zag (zbg 1 rfl (zaz ?_))))
  refine lkQ1 (α := Nat) [0, 1, 2, 4, 17, 22] rfl (fun k => [boxE b1 #[m.sv, m.av, m.iv, m.mv] 35]) (fun k => [(6, .int .i64 (k : Int))]) (fun k => k ≤ m.gs.length ∧ ∀ q, q < k → ¬ HpP (m.gs.getD q as0).os) (fun k => m.gs.length - k) 0 ⟨Nat.zero_le _, fun q hq => absurd hq (by omega)⟩ (saQ rfl) (pfQ rfl) ?_
  intro k hi9
  obtain ⟨hk, hpr⟩ := hi9
  refine zag (zag (reQ 1 rfl (hvQ rfl (fdQ 1 rfl rfl rfl) (hvQ rfl (zac rfl rfl rfl (zaa 0 rfl rfl)) (hvQ rfl (lnQ rfl rfl rfl (zaf ((hr).g))) ?_)))))
  refine zbq rfl rfl rfl rfl rfl rfl (fun h10 => ?_) (fun h10 => ?_)
  ·
   refine ntQ (zah rfl (zcv (sbQ (srQ ?_))))
   have hol9 := ho9 k (by omega)
   refine zay 1 rfl (zaz ?_)
   refine lkQ1 (α := Nat) [0, 1, 2, 4, 6, 17, 22, 36] rfl (fun q9 => [boxE b1 #[m.sv, m.av, m.iv, m.mv] 35]) (fun q9 => [(7, .int .i64 (q9 : Int))]) (fun q9 => q9 ≤ (m.gs.getD k as0).os.length ∧ ∀ q, q < q9 → ((m.gs.getD k as0).os.getD q oq0).k ≠ 1) (fun q9 => (m.gs.getD k as0).os.length - q9) 0 ⟨Nat.zero_le _, fun q hq => absurd hq (by omega)⟩ (saQ rfl) (pfQ rfl) ?_
   intro q9 hi11
   obtain ⟨hq9, hrr⟩ := hi11
   refine zag (zag (reQ 1 rfl (hvQ rfl (fdQ 1 rfl rfl rfl) (hvQ rfl (zac rfl rfl rfl (zaa 0 rfl rfl)) (zam 1 rfl (hvQ rfl (riQ 2 rfl rfl rfl rfl (zaf ((hr).g))) (hvQ rfl (zaq (k0 := 1) rfl rfl rfl (zaf ((hr).g)) (by omega)) ?_)))))))
   refine hvQ rfl (zan (u := (m.gs.getD k as0).ov) rfl rfl rfl (zaf ((hr).g)) ((zbd asC 2 (fun _ => rfl) m.gs as0 (show k < _ by omega) (by decide)).trans rfl)) (hvQ rfl (lnQ rfl rfl rfl (zaf (hr.o.at (k := k) (by omega)))) ?_)
   refine zbq rfl rfl rfl rfl rfl rfl (fun h12 => ?_) (fun h12 => ?_)
   ·
    refine ntQ (zah rfl (zcv (sbQ (srQ (hvQ rfl (fdQ 1 rfl rfl rfl) (hvQ rfl (zac rfl rfl rfl (zaa 0 rfl rfl)) (zam 1 rfl (hvQ rfl (riQ 2 rfl rfl rfl rfl (zaf ((hr).g))) ?_))))))))
    refine hvQ rfl (zaq (k0 := 1) rfl rfl rfl (zaf ((hr).g)) (by omega)) (hvQ rfl (zan (u := (m.gs.getD k as0).ov) rfl rfl rfl (zaf ((hr).g)) ((zbd asC 2 (fun _ => rfl) m.gs as0 (show k < _ by omega) (by decide)).trans rfl)) ?_)
    refine zam 1 rfl (hvQ rfl (riQ 3 rfl rfl rfl rfl (zaf (hr.o.at (k := k) (by omega)))) (hvQ rfl (zaq (k0 := 0) rfl rfl rfl (zaf (hr.o.at (k := k) (by omega))) (by omega)) ?_))
    refine hvQ rfl (zan (u := .int .i64 ((((m.gs.getD k as0).os).getD q9 oq0).k)) rfl rfl rfl (zaf (hr.o.at (k := k) (by omega))) ((zbd oqC 3 (fun _ => rfl) ((m.gs.getD k as0).os) oq0 (show q9 < _ by omega) (by decide)).trans rfl)) (zbu rfl rfl rfl rfl rfl rfl (fun h13 => ?_) (fun h13 => ?_))
    ·
     refine ntQ (zah rfl (zbg 1 rfl ?_))
     refine zao (zad ?_)
     refine zdv ?_
     refine zad (zad ?_)
     refine zdv ?_
     refine zad (zae ?_)
     exact zav rfl rfl (congrArg _ (zbv (fun hp => by first | (exact absurd hp.eo (by assumption)) | (exact absurd (by omega) (hp.wid i (by omega))) | (exact hp.par k (by omega) ⟨q9, by omega, by omega⟩) | (have h9 := hp.mem j (by omega); unfold MwP at h9; omega) | (have h9 := hp.ins; omega) | (have h9 := hp.outs; omega) | (have h9 := hp.bits; rw [show m.ms.length = j by omega] at h9; omega))).symm)
    refine ntQ (fsQ rfl (zdh (reQ 1 rfl (hvQ rfl (vaQ rfl rfl rfl) ?_))))
    have hol9 := ho9 k (by omega)
    refine enQ 1 rfl ?_
    exact zbs (q9 + 1) ⟨by omega, fun q hq => by by_cases e : q = q9; (subst e; omega); exact hrr q (by omega)⟩ (by omega) (saQ rfl) (pfQ rfl)
   refine ntQ (zap rfl ?_)
   refine zbj (zeb ?_)
   refine zal (zdh (reQ 1 rfl (hvQ rfl (vaQ rfl rfl rfl) (enQ 1 rfl ?_))))
   exact zbs (k + 1) ⟨by omega, fun q hq => by by_cases e : q = k; (subst e; exact fun hp9 => by obtain ⟨r9, g1, g2⟩ := hp9; exact hrr r9 (by omega) g2); exact hpr q (by omega)⟩ (by omega) (saQ rfl) (pfQ rfl)
  refine ntQ (zap rfl ?_)
  refine zbj (zeb ?_)
  refine zal (zba (srQ (hvQ rfl (zax (cs := [m.sv, m.av, m.iv, m.mv]) rfl rfl rfl rfl rfl (zat 0 rfl 0 rfl)) ?_)))
  refine hl_q rfl rfl rfl (zaw rfl rfl (fun w hm => zet m 3 w (hr.below hm.bel))) ?_
  intro v14 p15 hR16
  subst hR16
  refine zem rfl (zaw rfl rfl (fun w hm => zbf (l06Sum_ans (pwK m 3) v14 w (zaj 0 rfl w hm) (pwK_rng hdes _) (pwK_le _ _)))) (zay 1 rfl (zag (zbg 1 rfl (zaz ?_))))
  refine lkQ2 (α := Nat) (β := Int) [0, 1, 2, 4, 17, 22, 36] rfl (fun j c => [rowE 3 1 v14 ((pwK m 3).length) ((pwK m 3).map (Value.int .i64)), boxE b1 #[m.sv, m.av, m.iv, m.mv] 35]) (fun j c => [(8, .int .i64 c), (9, .int .i64 (j : Int))]) (fun j c => j ≤ m.ms.length ∧ c = sumZ (pwK m 3) + moA m j ∧ ∀ q, q < j → MwP m (m.ms.getD q mm0)) (fun j c => m.ms.length - j) 0 _ ⟨Nat.zero_le _, (by show _ = _ + (0 : Int); omega), fun q hq => absurd hq (by omega)⟩ (saQ rfl) (pfQ rfl) ?_
  intro j c hi17
  obtain ⟨hj, hcs, hmw⟩ := hi17
  have hmo := moA_rng hdes j hj
  refine zag (zag (reQ 1 rfl (hvQ rfl (fdQ 3 rfl rfl rfl) (hvQ rfl (zac rfl rfl rfl (zaa 1 rfl rfl)) (hvQ rfl (lnQ rfl rfl rfl (zaf ((hr).m))) ?_)))))
  refine zbq rfl rfl rfl rfl rfl rfl (fun h18 => ?_) (fun h18 => ?_)
  ·
   refine ntQ (zah rfl (zcv (sbQ (srQ ?_))))
   have hmm := memI hdes (show j < m.ms.length by omega)
   refine hvQ rfl (fdQ 3 rfl rfl rfl) (hvQ rfl (zac rfl rfl rfl (zaa 1 rfl rfl)) (zam 1 rfl (hvQ rfl (riQ 4 rfl rfl rfl rfl (zaf ((hr).m))) ?_)))
   refine hvQ rfl (zbb (us := [.int .i64 ((m.ms.getD j mm0).a), .int .i64 ((m.ms.getD j mm0).d), .int .i64 ((m.ms.getD j mm0).w), .int .i64 ((m.ms.getD j mm0).o)]) rfl rfl rfl rfl (zaf ((hr).m)) (by omega) rfl (zbr mmC 4 (fun _ => rfl) m.ms mm0 (show j < _ by omega) rfl)) (zdn rfl (zbl (z := .agg #[.int .i64 0, .int .i64 0, .int .i64 0, .int .i64 0]) rfl rfl) ?_)
   intro b19
   refine zbh (cs' := #[.int .i64 ((m.ms.getD j mm0).a), .int .i64 ((m.ms.getD j mm0).d), .int .i64 ((m.ms.getD j mm0).w), .int .i64 ((m.ms.getD j mm0).o)]) (i := 0) (off := 0) (us := [.int .i64 ((m.ms.getD j mm0).a), .int .i64 ((m.ms.getD j mm0).d), .int .i64 ((m.ms.getD j mm0).w), .int .i64 ((m.ms.getD j mm0).o)]) rfl rfl rfl rfl rfl rfl rfl (zab rfl (zab rfl (zab rfl (zab rfl zbc)))) rfl rfl rfl (ntQ (zag (zag ?_)))
   rcases Bool.eq_false_or_eq_true (((m.ss.getD (((m.ms.getD j mm0).a).toNat) sg0).w) != 2) with hb20 | hb20
   ·
    have hb20p : (m.ss.getD (((m.ms.getD j mm0).a).toNat) sg0).w ≠ 2 := bne_iff_ne.1 hb20
    refine zbz 35 [[], [0], [], [2], [1, 3], [4], [5], [6], [7], [8], [8], [8], [8], [8], [8], [8], [8], [8, 16], [17], [18], [18], [18], [18], [18], [18], [18], [18], [18], [18], [18], [18], [18], [18], [18], [18, 33]] [76, 77, 78, 79, 80, 81, 82, 83, 84, 85, 86, 87, 88, 89, 90, 91, 92, 93, 94, 95, 96, 97, 98, 99, 100, 101, 102, 103, 104, 105, 106, 107, 108, 109, 110] [.pointer (some ⟨b1, 0 + 0, none⟩), m.sv, .pointer (some ⟨b19, 0 + 0, none⟩), .int .i64 ((m.ms.getD j mm0).a), elP m.sv (((m.ms.getD j mm0).a).toNat * 3), elP m.sv (((m.ms.getD j mm0).a).toNat * 3 + 1), .int .i64 ((m.ss.getD (((m.ms.getD j mm0).a).toNat) sg0).w), .bool true, .bool true, undef, undef, undef, undef, undef, undef, undef, undef, .bool true, .bool true, undef, undef, undef, undef, undef, undef, undef, undef, undef, undef, undef, undef, undef, undef, undef, .bool true] (by kernel_rfl) rfl ?_ ?_
    ·
     exact ⟨iaQ rfl (fdQ 0 rfl rfl rfl) rfl, iaQ rfl (zac rfl rfl rfl (zaa 2 rfl rfl)) rfl, iaQ rfl (fdQ 0 rfl rfl rfl) rfl, iaQ rfl (zac rfl rfl rfl (zaa 0 rfl rfl)) rfl, iaQ rfl (riQ 3 rfl rfl rfl rfl (zaf ((hr).s))) rfl, iaQ rfl (zaq (k0 := 1) rfl rfl rfl (zaf ((hr).s)) (by omega)) rfl, iaQ rfl (zan (u := .int .i64 ((m.ss.getD (((m.ms.getD j mm0).a).toNat) sg0).w)) rfl rfl rfl (zaf ((hr).s)) ((zbd sgC 3 (fun _ => rfl) m.ss sg0 (show ((m.ms.getD j mm0).a).toNat < _ by omega) (by decide)).trans rfl)) rfl, .inl ⟨rfl, zdl (zcf rfl rfl rfl rfl) hb20⟩, iaQ rfl (zau rfl) rfl, .inr ⟨rfl, rfl⟩, .inr ⟨rfl, rfl⟩, .inr ⟨rfl, rfl⟩, .inr ⟨rfl, rfl⟩, .inr ⟨rfl, rfl⟩, .inr ⟨rfl, rfl⟩, .inr ⟨rfl, rfl⟩, .inr ⟨rfl, rfl⟩, iaQ rfl (zau rfl) rfl, iaQ rfl (zau rfl) rfl, .inr ⟨rfl, rfl⟩, .inr ⟨rfl, rfl⟩, .inr ⟨rfl, rfl⟩, .inr ⟨rfl, rfl⟩, .inr ⟨rfl, rfl⟩, .inr ⟨rfl, rfl⟩, .inr ⟨rfl, rfl⟩, .inr ⟨rfl, rfl⟩, .inr ⟨rfl, rfl⟩, .inr ⟨rfl, rfl⟩, .inr ⟨rfl, rfl⟩, .inr ⟨rfl, rfl⟩, .inr ⟨rfl, rfl⟩, .inr ⟨rfl, rfl⟩, .inr ⟨rfl, rfl⟩, iaQ rfl (zau rfl) rfl, trivial⟩
    simp only [List.drop_succ_cons, List.drop_zero]
    refine ntQ (zah rfl (zbg 1 rfl ?_))
    refine zao (zae ?_)
    refine zad (zdv ?_)
    refine zad (zae ?_)
    exact zav rfl rfl (congrArg _ (zbv (fun hp => by first | (exact absurd hp.eo (by assumption)) | (exact absurd (by omega) (hp.wid i (by omega))) | (exact hp.par k (by omega) ⟨q9, by omega, by omega⟩) | (have h9 := hp.mem j (by omega); unfold MwP at h9; omega) | (have h9 := hp.ins; omega) | (have h9 := hp.outs; omega) | (have h9 := hp.bits; rw [show m.ms.length = j by omega] at h9; omega))).symm)
   have hb20p : (m.ss.getD (((m.ms.getD j mm0).a).toNat) sg0).w = 2 := (bne_eq_false_iff_eq.1 hb20)
   rcases Bool.eq_false_or_eq_true (((m.ss.getD (((m.ms.getD j mm0).w).toNat) sg0).w) != 1) with hb21 | hb21
   ·
    have hb21p : (m.ss.getD (((m.ms.getD j mm0).w).toNat) sg0).w ≠ 1 := bne_iff_ne.1 hb21
    refine zbz 35 [[], [0], [], [2], [1, 3], [4], [5], [6], [7], [8], [8, 9], [8], [8, 11], [8, 10, 12], [8, 13], [8, 14], [8, 15], [8, 16], [17], [18], [18], [18], [18], [18], [18], [18], [18], [18], [18], [18], [18], [18], [18], [18], [18, 33]] [76, 77, 78, 79, 80, 81, 82, 83, 84, 85, 86, 87, 88, 89, 90, 91, 92, 93, 94, 95, 96, 97, 98, 99, 100, 101, 102, 103, 104, 105, 106, 107, 108, 109, 110] [.pointer (some ⟨b1, 0 + 0, none⟩), m.sv, .pointer (some ⟨b19, 0 + 0, none⟩), .int .i64 ((m.ms.getD j mm0).a), elP m.sv (((m.ms.getD j mm0).a).toNat * 3), elP m.sv (((m.ms.getD j mm0).a).toNat * 3 + 1), .int .i64 ((m.ss.getD (((m.ms.getD j mm0).a).toNat) sg0).w), .bool false, .bool false, .pointer (some ⟨b1, 0 + 0, none⟩), m.sv, .pointer (some ⟨b19, 0 + 2, none⟩), .int .i64 ((m.ms.getD j mm0).w), elP m.sv (((m.ms.getD j mm0).w).toNat * 3), elP m.sv (((m.ms.getD j mm0).w).toNat * 3 + 1), .int .i64 ((m.ss.getD (((m.ms.getD j mm0).w).toNat) sg0).w), .bool true, .bool true, .bool true, undef, undef, undef, undef, undef, undef, undef, undef, undef, undef, undef, undef, undef, undef, undef, .bool true] (by kernel_rfl) rfl ?_ ?_
    ·
     exact ⟨iaQ rfl (fdQ 0 rfl rfl rfl) rfl, iaQ rfl (zac rfl rfl rfl (zaa 2 rfl rfl)) rfl, iaQ rfl (fdQ 0 rfl rfl rfl) rfl, iaQ rfl (zac rfl rfl rfl (zaa 0 rfl rfl)) rfl, iaQ rfl (riQ 3 rfl rfl rfl rfl (zaf ((hr).s))) rfl, iaQ rfl (zaq (k0 := 1) rfl rfl rfl (zaf ((hr).s)) (by omega)) rfl, iaQ rfl (zan (u := .int .i64 ((m.ss.getD (((m.ms.getD j mm0).a).toNat) sg0).w)) rfl rfl rfl (zaf ((hr).s)) ((zbd sgC 3 (fun _ => rfl) m.ss sg0 (show ((m.ms.getD j mm0).a).toNat < _ by omega) (by decide)).trans rfl)) rfl, .inl ⟨rfl, zdl (zcf rfl rfl rfl rfl) hb20⟩, iaQ rfl (zau rfl) rfl, iaQ rfl (fdQ 0 rfl rfl rfl) rfl, iaQ rfl (zac rfl rfl rfl (zaa 2 rfl rfl)) rfl, iaQ rfl (fdQ 2 rfl rfl rfl) rfl, iaQ rfl (zac rfl rfl rfl (zaa 0 rfl rfl)) rfl, iaQ rfl (riQ 3 rfl rfl rfl rfl (zaf ((hr).s))) rfl, iaQ rfl (zaq (k0 := 1) rfl rfl rfl (zaf ((hr).s)) (by omega)) rfl, iaQ rfl (zan (u := .int .i64 ((m.ss.getD (((m.ms.getD j mm0).w).toNat) sg0).w)) rfl rfl rfl (zaf ((hr).s)) ((zbd sgC 3 (fun _ => rfl) m.ss sg0 (show ((m.ms.getD j mm0).w).toNat < _ by omega) (by decide)).trans rfl)) rfl, .inl ⟨rfl, zdl (zcf rfl rfl rfl rfl) hb21⟩, iaQ rfl (zau rfl) rfl, iaQ rfl (zau rfl) rfl, .inr ⟨rfl, rfl⟩, .inr ⟨rfl, rfl⟩, .inr ⟨rfl, rfl⟩, .inr ⟨rfl, rfl⟩, .inr ⟨rfl, rfl⟩, .inr ⟨rfl, rfl⟩, .inr ⟨rfl, rfl⟩, .inr ⟨rfl, rfl⟩, .inr ⟨rfl, rfl⟩, .inr ⟨rfl, rfl⟩, .inr ⟨rfl, rfl⟩, .inr ⟨rfl, rfl⟩, .inr ⟨rfl, rfl⟩, .inr ⟨rfl, rfl⟩, .inr ⟨rfl, rfl⟩, iaQ rfl (zau rfl) rfl, trivial⟩
    simp only [List.drop_succ_cons, List.drop_zero]
    refine ntQ (zah rfl (zbg 1 rfl ?_))
    refine zao (zae ?_)
    refine zad (zdv ?_)
    refine zad (zae ?_)
    exact zav rfl rfl (congrArg _ (zbv (fun hp => by first | (exact absurd hp.eo (by assumption)) | (exact absurd (by omega) (hp.wid i (by omega))) | (exact hp.par k (by omega) ⟨q9, by omega, by omega⟩) | (have h9 := hp.mem j (by omega); unfold MwP at h9; omega) | (have h9 := hp.ins; omega) | (have h9 := hp.outs; omega) | (have h9 := hp.bits; rw [show m.ms.length = j by omega] at h9; omega))).symm)
   have hb21p : (m.ss.getD (((m.ms.getD j mm0).w).toNat) sg0).w = 1 := (bne_eq_false_iff_eq.1 hb21)
   rcases Bool.eq_false_or_eq_true (((m.ss.getD (((m.ms.getD j mm0).d).toNat) sg0).w) != ((m.ss.getD (((m.ms.getD j mm0).o).toNat) sg0).w)) with hb22 | hb22
   ·
    have hb22p : (m.ss.getD (((m.ms.getD j mm0).d).toNat) sg0).w ≠ (m.ss.getD (((m.ms.getD j mm0).o).toNat) sg0).w := bne_iff_ne.1 hb22
    refine zbz 35 [[], [0], [], [2], [1, 3], [4], [5], [6], [7], [8], [8, 9], [8], [8, 11], [8, 10, 12], [8, 13], [8, 14], [8, 15], [8, 16], [17], [18], [18, 19], [18], [18, 21], [18, 20, 22], [18, 23], [18, 24], [18], [18, 26], [18], [18, 28], [18, 27, 29], [18, 30], [18, 31], [18, 25, 32], [18, 33]] [76, 77, 78, 79, 80, 81, 82, 83, 84, 85, 86, 87, 88, 89, 90, 91, 92, 93, 94, 95, 96, 97, 98, 99, 100, 101, 102, 103, 104, 105, 106, 107, 108, 109, 110] [.pointer (some ⟨b1, 0 + 0, none⟩), m.sv, .pointer (some ⟨b19, 0 + 0, none⟩), .int .i64 ((m.ms.getD j mm0).a), elP m.sv (((m.ms.getD j mm0).a).toNat * 3), elP m.sv (((m.ms.getD j mm0).a).toNat * 3 + 1), .int .i64 ((m.ss.getD (((m.ms.getD j mm0).a).toNat) sg0).w), .bool false, .bool false, .pointer (some ⟨b1, 0 + 0, none⟩), m.sv, .pointer (some ⟨b19, 0 + 2, none⟩), .int .i64 ((m.ms.getD j mm0).w), elP m.sv (((m.ms.getD j mm0).w).toNat * 3), elP m.sv (((m.ms.getD j mm0).w).toNat * 3 + 1), .int .i64 ((m.ss.getD (((m.ms.getD j mm0).w).toNat) sg0).w), .bool false, .bool false, .bool false, .pointer (some ⟨b1, 0 + 0, none⟩), m.sv, .pointer (some ⟨b19, 0 + 1, none⟩), .int .i64 ((m.ms.getD j mm0).d), elP m.sv (((m.ms.getD j mm0).d).toNat * 3), elP m.sv (((m.ms.getD j mm0).d).toNat * 3 + 1), .int .i64 ((m.ss.getD (((m.ms.getD j mm0).d).toNat) sg0).w), .pointer (some ⟨b1, 0 + 0, none⟩), m.sv, .pointer (some ⟨b19, 0 + 3, none⟩), .int .i64 ((m.ms.getD j mm0).o), elP m.sv (((m.ms.getD j mm0).o).toNat * 3), elP m.sv (((m.ms.getD j mm0).o).toNat * 3 + 1), .int .i64 ((m.ss.getD (((m.ms.getD j mm0).o).toNat) sg0).w), .bool true, .bool true] (by kernel_rfl) rfl ?_ ?_
    ·
     exact ⟨iaQ rfl (fdQ 0 rfl rfl rfl) rfl, iaQ rfl (zac rfl rfl rfl (zaa 2 rfl rfl)) rfl, iaQ rfl (fdQ 0 rfl rfl rfl) rfl, iaQ rfl (zac rfl rfl rfl (zaa 0 rfl rfl)) rfl, iaQ rfl (riQ 3 rfl rfl rfl rfl (zaf ((hr).s))) rfl, iaQ rfl (zaq (k0 := 1) rfl rfl rfl (zaf ((hr).s)) (by omega)) rfl, iaQ rfl (zan (u := .int .i64 ((m.ss.getD (((m.ms.getD j mm0).a).toNat) sg0).w)) rfl rfl rfl (zaf ((hr).s)) ((zbd sgC 3 (fun _ => rfl) m.ss sg0 (show ((m.ms.getD j mm0).a).toNat < _ by omega) (by decide)).trans rfl)) rfl, .inl ⟨rfl, zdl (zcf rfl rfl rfl rfl) hb20⟩, iaQ rfl (zau rfl) rfl, iaQ rfl (fdQ 0 rfl rfl rfl) rfl, iaQ rfl (zac rfl rfl rfl (zaa 2 rfl rfl)) rfl, iaQ rfl (fdQ 2 rfl rfl rfl) rfl, iaQ rfl (zac rfl rfl rfl (zaa 0 rfl rfl)) rfl, iaQ rfl (riQ 3 rfl rfl rfl rfl (zaf ((hr).s))) rfl, iaQ rfl (zaq (k0 := 1) rfl rfl rfl (zaf ((hr).s)) (by omega)) rfl, iaQ rfl (zan (u := .int .i64 ((m.ss.getD (((m.ms.getD j mm0).w).toNat) sg0).w)) rfl rfl rfl (zaf ((hr).s)) ((zbd sgC 3 (fun _ => rfl) m.ss sg0 (show ((m.ms.getD j mm0).w).toNat < _ by omega) (by decide)).trans rfl)) rfl, .inl ⟨rfl, zdl (zcf rfl rfl rfl rfl) hb21⟩, iaQ rfl (zau rfl) rfl, iaQ rfl (zau rfl) rfl, iaQ rfl (fdQ 0 rfl rfl rfl) rfl, iaQ rfl (zac rfl rfl rfl (zaa 2 rfl rfl)) rfl, iaQ rfl (fdQ 1 rfl rfl rfl) rfl, iaQ rfl (zac rfl rfl rfl (zaa 0 rfl rfl)) rfl, iaQ rfl (riQ 3 rfl rfl rfl rfl (zaf ((hr).s))) rfl, iaQ rfl (zaq (k0 := 1) rfl rfl rfl (zaf ((hr).s)) (by omega)) rfl, iaQ rfl (zan (u := .int .i64 ((m.ss.getD (((m.ms.getD j mm0).d).toNat) sg0).w)) rfl rfl rfl (zaf ((hr).s)) ((zbd sgC 3 (fun _ => rfl) m.ss sg0 (show ((m.ms.getD j mm0).d).toNat < _ by omega) (by decide)).trans rfl)) rfl, iaQ rfl (fdQ 0 rfl rfl rfl) rfl, iaQ rfl (zac rfl rfl rfl (zaa 2 rfl rfl)) rfl, iaQ rfl (fdQ 3 rfl rfl rfl) rfl, iaQ rfl (zac rfl rfl rfl (zaa 0 rfl rfl)) rfl, iaQ rfl (riQ 3 rfl rfl rfl rfl (zaf ((hr).s))) rfl, iaQ rfl (zaq (k0 := 1) rfl rfl rfl (zaf ((hr).s)) (by omega)) rfl, iaQ rfl (zan (u := .int .i64 ((m.ss.getD (((m.ms.getD j mm0).o).toNat) sg0).w)) rfl rfl rfl (zaf ((hr).s)) ((zbd sgC 3 (fun _ => rfl) m.ss sg0 (show ((m.ms.getD j mm0).o).toNat < _ by omega) (by decide)).trans rfl)) rfl, .inl ⟨rfl, zdl (zcf rfl rfl rfl rfl) hb22⟩, iaQ rfl (zau rfl) rfl, trivial⟩
    simp only [List.drop_succ_cons, List.drop_zero]
    refine ntQ (zah rfl (zbg 1 rfl ?_))
    refine zao (zae ?_)
    refine zad (zdv ?_)
    refine zad (zae ?_)
    exact zav rfl rfl (congrArg _ (zbv (fun hp => by first | (exact absurd hp.eo (by assumption)) | (exact absurd (by omega) (hp.wid i (by omega))) | (exact hp.par k (by omega) ⟨q9, by omega, by omega⟩) | (have h9 := hp.mem j (by omega); unfold MwP at h9; omega) | (have h9 := hp.ins; omega) | (have h9 := hp.outs; omega) | (have h9 := hp.bits; rw [show m.ms.length = j by omega] at h9; omega))).symm)
   have hb22p : (m.ss.getD (((m.ms.getD j mm0).d).toNat) sg0).w = (m.ss.getD (((m.ms.getD j mm0).o).toNat) sg0).w := (bne_eq_false_iff_eq.1 hb22)
   refine zbz 35 [[], [0], [], [2], [1, 3], [4], [5], [6], [7], [8], [8, 9], [8], [8, 11], [8, 10, 12], [8, 13], [8, 14], [8, 15], [8, 16], [17], [18], [18, 19], [18], [18, 21], [18, 20, 22], [18, 23], [18, 24], [18], [18, 26], [18], [18, 28], [18, 27, 29], [18, 30], [18, 31], [18, 25, 32], [18, 33]] [76, 77, 78, 79, 80, 81, 82, 83, 84, 85, 86, 87, 88, 89, 90, 91, 92, 93, 94, 95, 96, 97, 98, 99, 100, 101, 102, 103, 104, 105, 106, 107, 108, 109, 110] [.pointer (some ⟨b1, 0 + 0, none⟩), m.sv, .pointer (some ⟨b19, 0 + 0, none⟩), .int .i64 ((m.ms.getD j mm0).a), elP m.sv (((m.ms.getD j mm0).a).toNat * 3), elP m.sv (((m.ms.getD j mm0).a).toNat * 3 + 1), .int .i64 ((m.ss.getD (((m.ms.getD j mm0).a).toNat) sg0).w), .bool false, .bool false, .pointer (some ⟨b1, 0 + 0, none⟩), m.sv, .pointer (some ⟨b19, 0 + 2, none⟩), .int .i64 ((m.ms.getD j mm0).w), elP m.sv (((m.ms.getD j mm0).w).toNat * 3), elP m.sv (((m.ms.getD j mm0).w).toNat * 3 + 1), .int .i64 ((m.ss.getD (((m.ms.getD j mm0).w).toNat) sg0).w), .bool false, .bool false, .bool false, .pointer (some ⟨b1, 0 + 0, none⟩), m.sv, .pointer (some ⟨b19, 0 + 1, none⟩), .int .i64 ((m.ms.getD j mm0).d), elP m.sv (((m.ms.getD j mm0).d).toNat * 3), elP m.sv (((m.ms.getD j mm0).d).toNat * 3 + 1), .int .i64 ((m.ss.getD (((m.ms.getD j mm0).d).toNat) sg0).w), .pointer (some ⟨b1, 0 + 0, none⟩), m.sv, .pointer (some ⟨b19, 0 + 3, none⟩), .int .i64 ((m.ms.getD j mm0).o), elP m.sv (((m.ms.getD j mm0).o).toNat * 3), elP m.sv (((m.ms.getD j mm0).o).toNat * 3 + 1), .int .i64 ((m.ss.getD (((m.ms.getD j mm0).o).toNat) sg0).w), .bool false, .bool false] (by kernel_rfl) rfl ?_ ?_
   ·
    exact ⟨iaQ rfl (fdQ 0 rfl rfl rfl) rfl, iaQ rfl (zac rfl rfl rfl (zaa 2 rfl rfl)) rfl, iaQ rfl (fdQ 0 rfl rfl rfl) rfl, iaQ rfl (zac rfl rfl rfl (zaa 0 rfl rfl)) rfl, iaQ rfl (riQ 3 rfl rfl rfl rfl (zaf ((hr).s))) rfl, iaQ rfl (zaq (k0 := 1) rfl rfl rfl (zaf ((hr).s)) (by omega)) rfl, iaQ rfl (zan (u := .int .i64 ((m.ss.getD (((m.ms.getD j mm0).a).toNat) sg0).w)) rfl rfl rfl (zaf ((hr).s)) ((zbd sgC 3 (fun _ => rfl) m.ss sg0 (show ((m.ms.getD j mm0).a).toNat < _ by omega) (by decide)).trans rfl)) rfl, .inl ⟨rfl, zdl (zcf rfl rfl rfl rfl) hb20⟩, iaQ rfl (zau rfl) rfl, iaQ rfl (fdQ 0 rfl rfl rfl) rfl, iaQ rfl (zac rfl rfl rfl (zaa 2 rfl rfl)) rfl, iaQ rfl (fdQ 2 rfl rfl rfl) rfl, iaQ rfl (zac rfl rfl rfl (zaa 0 rfl rfl)) rfl, iaQ rfl (riQ 3 rfl rfl rfl rfl (zaf ((hr).s))) rfl, iaQ rfl (zaq (k0 := 1) rfl rfl rfl (zaf ((hr).s)) (by omega)) rfl, iaQ rfl (zan (u := .int .i64 ((m.ss.getD (((m.ms.getD j mm0).w).toNat) sg0).w)) rfl rfl rfl (zaf ((hr).s)) ((zbd sgC 3 (fun _ => rfl) m.ss sg0 (show ((m.ms.getD j mm0).w).toNat < _ by omega) (by decide)).trans rfl)) rfl, .inl ⟨rfl, zdl (zcf rfl rfl rfl rfl) hb21⟩, iaQ rfl (zau rfl) rfl, iaQ rfl (zau rfl) rfl, iaQ rfl (fdQ 0 rfl rfl rfl) rfl, iaQ rfl (zac rfl rfl rfl (zaa 2 rfl rfl)) rfl, iaQ rfl (fdQ 1 rfl rfl rfl) rfl, iaQ rfl (zac rfl rfl rfl (zaa 0 rfl rfl)) rfl, iaQ rfl (riQ 3 rfl rfl rfl rfl (zaf ((hr).s))) rfl, iaQ rfl (zaq (k0 := 1) rfl rfl rfl (zaf ((hr).s)) (by omega)) rfl, iaQ rfl (zan (u := .int .i64 ((m.ss.getD (((m.ms.getD j mm0).d).toNat) sg0).w)) rfl rfl rfl (zaf ((hr).s)) ((zbd sgC 3 (fun _ => rfl) m.ss sg0 (show ((m.ms.getD j mm0).d).toNat < _ by omega) (by decide)).trans rfl)) rfl, iaQ rfl (fdQ 0 rfl rfl rfl) rfl, iaQ rfl (zac rfl rfl rfl (zaa 2 rfl rfl)) rfl, iaQ rfl (fdQ 3 rfl rfl rfl) rfl, iaQ rfl (zac rfl rfl rfl (zaa 0 rfl rfl)) rfl, iaQ rfl (riQ 3 rfl rfl rfl rfl (zaf ((hr).s))) rfl, iaQ rfl (zaq (k0 := 1) rfl rfl rfl (zaf ((hr).s)) (by omega)) rfl, iaQ rfl (zan (u := .int .i64 ((m.ss.getD (((m.ms.getD j mm0).o).toNat) sg0).w)) rfl rfl rfl (zaf ((hr).s)) ((zbd sgC 3 (fun _ => rfl) m.ss sg0 (show ((m.ms.getD j mm0).o).toNat < _ by omega) (by decide)).trans rfl)) rfl, .inl ⟨rfl, zdl (zcf rfl rfl rfl rfl) hb22⟩, iaQ rfl (zau rfl) rfl, trivial⟩
   simp only [List.drop_succ_cons, List.drop_zero]
   refine ntQ (zap rfl (zcv (reQ 1 rfl (hvQ rfl (fdQ 0 rfl rfl rfl) (hvQ rfl (zac rfl rfl rfl (zaa 2 rfl rfl)) (hvQ rfl (fdQ 3 rfl rfl rfl) (hvQ rfl (zac rfl rfl rfl (zaa 0 rfl rfl)) (hvQ rfl (riQ 3 rfl rfl rfl rfl (zaf ((hr).s))) (hvQ rfl (zaq (k0 := 1) rfl rfl rfl (zaf ((hr).s)) (by omega)) ?_)))))))))
   refine hvQ rfl (zan (u := .int .i64 ((m.ss.getD (((m.ms.getD j mm0).o).toNat) sg0).w)) rfl rfl rfl (zaf ((hr).s)) ((zbd sgC 3 (fun _ => rfl) m.ss sg0 (show ((m.ms.getD j mm0).o).toNat < _ by omega) (by decide)).trans rfl)) (hvQ rfl (vaQ rfl rfl rfl) (enQ 1 rfl (zdh (reQ 1 rfl (hvQ rfl (vaQ rfl rfl rfl) (enQ 1 rfl ?_))))))
   exact zdd (j + 1) (c + ((m.ss.getD (((m.ms.getD j mm0).o).toNat) sg0).w)) ⟨by omega, (by show _ = _ + (moA m j + _); omega), fun q hq => by by_cases e : q = j; (subst e; exact ⟨by omega, by omega, by omega⟩); exact hmw q (by omega)⟩ (by omega) (saQ rfl) (slQ [1, 0] rfl)
  refine ntQ (zap rfl ?_)
  refine zbj (zeb ?_)
  refine zal (zba (srQ (hvQ rfl (zax (cs := [m.sv, m.av, m.iv, m.mv]) rfl rfl rfl rfl rfl (zat 1 rfl 0 rfl)) ?_)))
  refine hl_q rfl rfl rfl (zaw rfl rfl (fun w hm => zet m 0 w (hr.below hm.bel))) ?_
  intro v23 p24 hR25
  subst hR25
  refine zem rfl (zaw rfl rfl (fun w hm => zbf (l06Sum_ans (pwK m 0) v23 w (zaj 0 rfl w hm) (pwK_rng hdes _) (pwK_le _ _)))) (hl_leq rfl rfl rfl rfl rfl rfl (fun h26 => ?_) (fun h26 => ?_))
  ·
   refine zam 1 rfl (hvQ rfl (zax (cs := [m.sv, m.av, m.iv, m.mv]) rfl rfl rfl rfl rfl (zat 2 rfl 0 rfl)) ?_)
   refine hl_q rfl rfl rfl (zaw rfl rfl (fun w hm => zet m 1 w (hr.below hm.bel))) ?_
   intro v27 p28 hR29
   subst hR29
   refine zem rfl (zaw rfl rfl (fun w hm => zbf (l06Sum_ans (pwK m 1) v27 w (zaj 0 rfl w hm) (pwK_rng hdes _) (pwK_le _ _)))) (hl_leq rfl rfl rfl rfl rfl rfl (fun h30 => ?_) (fun h30 => ?_))
   ·
    refine zam 3 rfl (hl_leq rfl rfl rfl rfl rfl rfl (fun h31 => ?_) (fun h31 => ?_))
    ·
     refine zay 2 rfl ?_
     exact zao (zav rfl rfl (congrArg _ (zdi ⟨hE, fun s hs => hwd s (by omega), fun i hi => hpr i (by omega), fun i hi => hmw i (by omega), by omega, by omega, by rw [show m.ms.length = j by omega]; omega⟩).symm))
    refine zay 2 rfl ?_
    exact zao (zav rfl rfl (congrArg _ (zbv (fun hp => by first | (exact absurd hp.eo (by assumption)) | (exact absurd (by omega) (hp.wid i (by omega))) | (exact hp.par k (by omega) ⟨q9, by omega, by omega⟩) | (have h9 := hp.mem j (by omega); unfold MwP at h9; omega) | (have h9 := hp.ins; omega) | (have h9 := hp.outs; omega) | (have h9 := hp.bits; rw [show m.ms.length = j by omega] at h9; omega))).symm))
   refine zay 6 rfl ?_
   exact zao (zav rfl rfl (congrArg _ (zbv (fun hp => by first | (exact absurd hp.eo (by assumption)) | (exact absurd (by omega) (hp.wid i (by omega))) | (exact hp.par k (by omega) ⟨q9, by omega, by omega⟩) | (have h9 := hp.mem j (by omega); unfold MwP at h9; omega) | (have h9 := hp.ins; omega) | (have h9 := hp.outs; omega) | (have h9 := hp.bits; rw [show m.ms.length = j by omega] at h9; omega))).symm))
  refine zay 11 rfl ?_
  exact zao (zav rfl rfl (congrArg _ (zbv (fun hp => by first | (exact absurd hp.eo (by assumption)) | (exact absurd (by omega) (hp.wid i (by omega))) | (exact hp.par k (by omega) ⟨q9, by omega, by omega⟩) | (have h9 := hp.mem j (by omega); unfold MwP at h9; omega) | (have h9 := hp.ins; omega) | (have h9 := hp.outs; omega) | (have h9 := hp.bits; rw [show m.ms.length = j by omega] at h9; omega))).symm))
 have h5p := zdt h5
 refine zay 2 rfl (zag (zbg 2 rfl (zah rfl (srQ ?_))))
 refine zay 1 rfl ?_
 refine zao (zae ?_)
 exact zav rfl rfl (congrArg _ (zbv (fun hp => by first | (exact absurd hp.eo (by assumption)) | (exact absurd (by omega) (hp.wid i (by omega))) | (exact hp.par k (by omega) ⟨q9, by omega, by omega⟩) | (have h9 := hp.mem j (by omega); unfold MwP at h9; omega) | (have h9 := hp.ins; omega) | (have h9 := hp.outs; omega) | (have h9 := hp.bits; rw [show m.ms.length = j by omega] at h9; omega))).symm)
open Go.RowKit
instance (n : Int) (o : Oq) : Decidable (OqP n o) := by unfold OqP; infer_instance
theorem specFlatten_ret (D : List Md) (p : Int) (v : Value) (w : World) (hd : RdsDs w v D) :
   Calls Try.prog 27 #[.agg #[v], .int .i64 p] w (Ret w (fun u_ p_ => ∃ (m : Md) (ok : Bool) (ps : List HP), u_ = .tuple #[m.agg, .bool ok] ∧ p_ = [bigE ps] ∧ (∀ w, (bigE ps).holds w → RdsMd w m) ∧ MdOne m ∧ FlP m ∧ (ok = true → ∃ F, FlzP D p F ∧ MdF m F) ∧ (ok = false → m = md0 ∧ ∀ (F : Fz) (m' : Md), FlzP D p F → MdF m' F → ¬ FlP m'))) := by
 have hd9 := sml hd.row
 refine zca (N := 38) (args := [.agg #[v], .int .i64 p]) Try.func27 rfl rfl (srQ ?_)
 refine zdn rfl (zdm rfl rfl) ?_
 intro b1
 refine zdn rfl (zbl (z := .agg #[.slice none 0 0, .slice none 0 0, .slice none 0 0, .slice none 0 0]) rfl rfl) ?_
 intro b2
 refine zay 1 rfl (zfi (hvQ rfl (zax (cs := [v]) rfl rfl rfl rfl rfl (zat 1 rfl 0 rfl)) ?_))
 refine zem rfl (zaw rfl rfl (fun w hm => zbf (specDesignOk_ans D v w (hd.below hm.bel)))) (zbm (fun h3 => ?_) (fun h3 => ?_))
 ·
  have h3p := zes h3
  refine zam 3 rfl (zem rfl (zaw rfl rfl (fun w hm => zbf (zfz p 1 4 w))) ?_)
  refine zbm (fun h4 => ?_) (fun h4 => ?_)
  ·
   obtain ⟨h4a, h4b⟩ := (zdc _ _ _).1 h4
   refine zay 2 rfl (zap rfl (zcv (srQ ?_)))
   have hdes : DesP D := by assumption
   have hdl := hdes.1
   refine zfd [bigE (flQ (.slice none 0 0) (.slice none 0 0) (.slice none 0 0) [] [] [] []), boxE b2 #[.slice none 0 0, .slice none 0 0, .slice none 0 0, .slice none 0 0] 35, boxE b1 #[v] 26] (fun w hm => flat_nil hm) ?_
   refine hvQ rfl (zax (cs := [v]) rfl rfl rfl rfl rfl (zat 2 rfl 0 rfl)) (hvQ rfl (fdQ 0 rfl rfl rfl) (hvQ rfl (zac rfl rfl rfl (zaa 2 rfl rfl)) (hvQ rfl (lnQ rfl rfl rfl (zaf hd.row)) (hvQ rfl (vsQ rfl rfl rfl) ?_))))
   rw [show (D.length : Int) - 1 = ((D.length - 1 : Nat) : Int) by omega]
   refine zam 1 rfl (zea rfl (zee (s := 1) rfl Try.underlying48 rfl) ?_)
   intro g5
   refine hvQ rfl (zbk (cs := #[.slice none 0 0, .slice none 0 0, .slice none 0 0, .slice none 0 0]) rfl rfl rfl) (zds (R := (fun u_ p_ => AddR (addF D D.length (D.length - 1) p false [] fz0) u_ p_)) 1 rfl rfl rfl rfl rfl (fun L w hX hm => l06Add_ind D v hdes _ D.length (D.length - 1) p false [] fz0 [] (.slice (some ⟨g5, 0, none⟩) 0 0) (.slice none 0 0) (.slice none 0 0) (.slice none 0 0) [] _ _ (by omega) (by omega) ⟨by decide, by decide, by decide⟩ (fun h => by cases h) rfl (fun w _ => OpsR.nil w) (fun w h => hd.below (hX w h).bel) (fun w h => (zaj (l := [rowE 3 1 (.slice (some ⟨g5, 0, none⟩) 0 0) 0 ([]), boxE b2 #[.slice none 0 0, .slice none 0 0, .slice none 0 0, .slice none 0 0] 35, boxE b1 #[v] 26]) 0 rfl) w (hX w h)) hm) ?_)
   intro v6 p7 hR8
   obtain ⟨ahR8, bhR8, dhR8, okhR8, qshR8, rfl, rfl, honhR8, hgohR8, hnohR8⟩ := hR8
   refine zcl (l' := [rowE 3 1 (.slice (some ⟨g5, 0, none⟩) 0 0) 0 ([]), bigE qshR8, boxE b2 #[.slice none 0 0, .slice none 0 0, .slice none 0 0, .slice none 0 0] 35, boxE b1 #[v] 26]) rfl ?_
   refine zam 3 rfl (zbm (fun h9 => ?_) (fun h9 => ?_))
   ·
    refine zdn rfl (zbl (z := .agg #[.slice none 0 0, .slice none 0 0, .slice none 0 0, .slice none 0 0]) rfl rfl) ?_
    intro b10
    refine zbh (cs' := #[ahR8, bhR8, .slice none 0 0, dhR8]) (i := 0) (off := 0) (us := [ahR8, bhR8, .slice none 0 0, dhR8]) rfl rfl rfl rfl rfl rfl rfl (zab honhR8.1 (zab honhR8.2.1 (zab rfl (zab honhR8.2.2 zbc)))) rfl rfl rfl (zay 1 rfl (zfi ?_))
    obtain ⟨G2, hG2, gs4, ps4, rfl, hp4, hG4⟩ := hgohR8 (by assumption)
    refine zfo 5 [4, 3, 1, 0, 2] rfl rfl (by decide) ?_
    refine zfd [rowE 38 3 ahR8 G2.ss.length (G2.ss.flatMap sgC), rowE 89 2 bhR8 gs4.length (gs4.flatMap asC), rowE 94 4 dhR8 G2.ms.length (G2.ms.flatMap mmC), bigE ps4, boxE b10 #[ahR8, bhR8, .slice none 0 0, dhR8] 35, rowE 3 1 (.slice (some ⟨g5, 0, none⟩) 0 0) 0 ([]), boxE b2 #[.slice none 0 0, .slice none 0 0, .slice none 0 0, .slice none 0 0] 35, boxE b1 #[v] 26] zdb ?_
    have hMF : MdF (Md.mk ahR8 bhR8 (.slice none 0 0) dhR8 G2.ss gs4 [] G2.ms) G2 := ⟨rfl, hG4, rfl, rfl⟩
    refine zam 3 rfl (hvQ rfl (zax (cs := [ahR8, bhR8, .slice none 0 0, dhR8]) rfl rfl rfl rfl rfl (zat 4 rfl 0 rfl)) ?_)
    refine zem rfl (zaw rfl rfl (fun w hm => zbf (specFlatOk_ans (Md.mk ahR8 bhR8 (.slice none 0 0) dhR8 G2.ss gs4 [] G2.ms) w ⟨zaj 0 rfl w hm, zaj 1 rfl w hm, hp4 w (hm.holds _ (zcj (i := 3) rfl)), nilW w 3, PtsR.nil w, zaj 2 rfl w hm⟩))) (zbm (fun h11 => ?_) (fun h11 => ?_))
    ·
     have h11p := zes h11
     refine zay 2 rfl (zap rfl (zcv (srQ (hvQ rfl (zax (cs := [ahR8, bhR8, .slice none 0 0, dhR8]) rfl rfl rfl rfl rfl (zat 4 rfl 0 rfl)) ?_))))
     refine zbh (cs' := #[ahR8, bhR8, .slice none 0 0, dhR8]) (i := 6) (off := 0) (us := [ahR8, bhR8, .slice none 0 0, dhR8]) rfl rfl rfl rfl rfl rfl rfl (zab honhR8.1 (zab honhR8.2.1 (zab rfl (zab honhR8.2.2 zbc)))) rfl rfl rfl (zay 1 rfl ?_)
     refine zao (zbn 8 [7, 6, 5, 4, 3, 2, 1, 0] rfl rfl (by decide) ?_)
     refine zcd 4 rfl ?_
     exact zei (rs := [.cell 4 35, .tmp 5]) (vs := [.agg #[ahR8, bhR8, .slice none 0 0, dhR8], .bool true]) (post := [bigE [rowE 38 3 ahR8 G2.ss.length (G2.ss.flatMap sgC), rowE 89 2 bhR8 gs4.length (gs4.flatMap asC), rowE 94 4 dhR8 G2.ms.length (G2.ms.flatMap mmC), bigE ps4]]) rfl ⟨⟨b2, 0, [ahR8, bhR8, .slice none 0 0, dhR8], rfl, rfl, by kernel_rfl, by kernel_rfl, zat 3 rfl 0 rfl⟩, rfl, trivial⟩ rfl (slQ [0] rfl) ⟨(Md.mk ahR8 bhR8 (.slice none 0 0) dhR8 G2.ss gs4 [] G2.ms), true, _, rfl, rfl, fun w hw => ⟨zdk (zbi hw List.mem_cons_self), zdk (zbi hw (List.mem_cons_of_mem _ List.mem_cons_self)), hp4 w (zbi hw (List.mem_cons_of_mem _ (List.mem_cons_of_mem _ (List.mem_cons_of_mem _ List.mem_cons_self)))), nilW w 3, PtsR.nil w, zdk (zbi hw (List.mem_cons_of_mem _ (List.mem_cons_of_mem _ List.mem_cons_self)))⟩, ⟨honhR8.1, honhR8.2.1, rfl, honhR8.2.2⟩, by assumption, fun _ => ⟨G2, ⟨hdes, by omega, hG2⟩, hMF⟩, (fun h => by cases h)⟩
    have h11p := zdt h11
    refine zay 2 rfl (zah rfl (srQ (hvQ rfl (zbk (cs := #[.slice none 0 0, .slice none 0 0, .slice none 0 0, .slice none 0 0]) rfl rfl rfl) ?_)))
    refine zbh (cs' := #[.slice none 0 0, .slice none 0 0, .slice none 0 0, .slice none 0 0]) (i := 6) (off := 0) (us := [.slice none 0 0, .slice none 0 0, .slice none 0 0, .slice none 0 0]) rfl rfl rfl rfl rfl rfl rfl (zab rfl (zab rfl (zab rfl (zab rfl zbc)))) rfl rfl rfl (zay 1 rfl ?_)
    refine zao (zae ?_)
    refine zco [bigE [], rowE 38 3 ahR8 G2.ss.length (G2.ss.flatMap sgC), rowE 89 2 bhR8 gs4.length (gs4.flatMap asC), rowE 94 4 dhR8 G2.ms.length (G2.ms.flatMap mmC), bigE ps4, boxE b10 #[ahR8, bhR8, .slice none 0 0, dhR8] 35, rowE 3 1 (.slice (some ⟨g5, 0, none⟩) 0 0) 0 ([]), boxE b2 #[.slice none 0 0, .slice none 0 0, .slice none 0 0, .slice none 0 0] 35, boxE b1 #[v] 26] zdj ?_
    exact zei (rs := [.cell 4 35, .tmp 5]) (vs := [.agg #[.slice none 0 0, .slice none 0 0, .slice none 0 0, .slice none 0 0], .bool false]) (post := [bigE []]) rfl ⟨⟨b2, 0, [.slice none 0 0, .slice none 0 0, .slice none 0 0, .slice none 0 0], rfl, rfl, by kernel_rfl, by kernel_rfl, zat 7 rfl 0 rfl⟩, rfl, trivial⟩ rfl (slQ [0] rfl) ⟨md0, false, _, rfl, rfl, fun w _ => RdsMd.zero w, md0_one, FlP.zero, (fun h => by cases h), fun _ => ⟨rfl, fun F m' h9 hq9 hfl9 => by first | exact absurd h9.1 (by assumption) | (have h8 := h9.2.1; omega) | exact absurd ((hnohR8 (by assumption)).symm.trans h9.2.2) (fun h => by cases h) | (have h8 := Option.some.inj (hG2.symm.trans h9.2.2); subst h8; exact absurd ((hq9.same hMF).fl hfl9) (by assumption))⟩⟩
   refine zdn rfl (zbl (z := .agg #[.slice none 0 0, .slice none 0 0, .slice none 0 0, .slice none 0 0]) rfl rfl) ?_
   intro b12
   refine zbh (cs' := #[ahR8, bhR8, .slice none 0 0, dhR8]) (i := 0) (off := 0) (us := [ahR8, bhR8, .slice none 0 0, dhR8]) rfl rfl rfl rfl rfl rfl rfl (zab honhR8.1 (zab honhR8.2.1 (zab rfl (zab honhR8.2.2 zbc)))) rfl rfl rfl (zay 1 rfl (zfi (enQ 7 rfl ?_)))
   refine zba (zah rfl (srQ (hvQ rfl (zbk (cs := #[.slice none 0 0, .slice none 0 0, .slice none 0 0, .slice none 0 0]) rfl rfl rfl) ?_)))
   refine zbh (cs' := #[.slice none 0 0, .slice none 0 0, .slice none 0 0, .slice none 0 0]) (i := 3) (off := 0) (us := [.slice none 0 0, .slice none 0 0, .slice none 0 0, .slice none 0 0]) rfl rfl rfl rfl rfl rfl rfl (zab rfl (zab rfl (zab rfl (zab rfl zbc)))) rfl rfl rfl (zay 1 rfl ?_)
   refine zao (zae ?_)
   refine zco [bigE [], boxE b12 #[ahR8, bhR8, .slice none 0 0, dhR8] 35, rowE 3 1 (.slice (some ⟨g5, 0, none⟩) 0 0) 0 ([]), bigE qshR8, boxE b2 #[.slice none 0 0, .slice none 0 0, .slice none 0 0, .slice none 0 0] 35, boxE b1 #[v] 26] zdj ?_
   exact zei (rs := [.cell 4 35, .tmp 5]) (vs := [.agg #[.slice none 0 0, .slice none 0 0, .slice none 0 0, .slice none 0 0], .bool false]) (post := [bigE []]) rfl ⟨⟨b2, 0, [.slice none 0 0, .slice none 0 0, .slice none 0 0, .slice none 0 0], rfl, rfl, by kernel_rfl, by kernel_rfl, zat 4 rfl 0 rfl⟩, rfl, trivial⟩ rfl (slQ [0] rfl) ⟨md0, false, _, rfl, rfl, fun w _ => RdsMd.zero w, md0_one, FlP.zero, (fun h => by cases h), fun _ => ⟨rfl, fun F m' h9 hq9 hfl9 => by first | exact absurd h9.1 (by assumption) | (have h8 := h9.2.1; omega) | exact absurd ((hnohR8 (by assumption)).symm.trans h9.2.2) (fun h => by cases h) | (have h8 := Option.some.inj (hG2.symm.trans h9.2.2); subst h8; exact absurd ((hq9.same hMF).fl hfl9) (by assumption))⟩⟩
  have h4a := zcy h4
  refine zay 2 rfl (zah rfl (srQ (hvQ rfl (zbk (cs := #[.slice none 0 0, .slice none 0 0, .slice none 0 0, .slice none 0 0]) rfl rfl rfl) ?_)))
  refine zbh (cs' := #[.slice none 0 0, .slice none 0 0, .slice none 0 0, .slice none 0 0]) (i := 0) (off := 0) (us := [.slice none 0 0, .slice none 0 0, .slice none 0 0, .slice none 0 0]) rfl rfl rfl rfl rfl rfl rfl (zab rfl (zab rfl (zab rfl (zab rfl zbc)))) rfl rfl rfl (zay 1 rfl ?_)
  refine zao (zae ?_)
  refine zco [bigE [], boxE b2 #[.slice none 0 0, .slice none 0 0, .slice none 0 0, .slice none 0 0] 35, boxE b1 #[v] 26] zdj ?_
  exact zei (rs := [.cell 4 35, .tmp 5]) (vs := [.agg #[.slice none 0 0, .slice none 0 0, .slice none 0 0, .slice none 0 0], .bool false]) (post := [bigE []]) rfl ⟨⟨b2, 0, [.slice none 0 0, .slice none 0 0, .slice none 0 0, .slice none 0 0], rfl, rfl, by kernel_rfl, by kernel_rfl, zat 1 rfl 0 rfl⟩, rfl, trivial⟩ rfl (slQ [0] rfl) ⟨md0, false, _, rfl, rfl, fun w _ => RdsMd.zero w, md0_one, FlP.zero, (fun h => by cases h), fun _ => ⟨rfl, fun F m' h9 hq9 hfl9 => by first | exact absurd h9.1 (by assumption) | (have h8 := h9.2.1; omega) | exact absurd ((hnohR8 (by assumption)).symm.trans h9.2.2) (fun h => by cases h) | (have h8 := Option.some.inj (hG2.symm.trans h9.2.2); subst h8; exact absurd ((hq9.same hMF).fl hfl9) (by assumption))⟩⟩
 have h3p := zdt h3
 refine zay 6 rfl (zah rfl (srQ (hvQ rfl (zbk (cs := #[.slice none 0 0, .slice none 0 0, .slice none 0 0, .slice none 0 0]) rfl rfl rfl) ?_)))
 refine zbh (cs' := #[.slice none 0 0, .slice none 0 0, .slice none 0 0, .slice none 0 0]) (i := 0) (off := 0) (us := [.slice none 0 0, .slice none 0 0, .slice none 0 0, .slice none 0 0]) rfl rfl rfl rfl rfl rfl rfl (zab rfl (zab rfl (zab rfl (zab rfl zbc)))) rfl rfl rfl (zay 1 rfl ?_)
 refine zao (zae ?_)
 refine zco [bigE [], boxE b2 #[.slice none 0 0, .slice none 0 0, .slice none 0 0, .slice none 0 0] 35, boxE b1 #[v] 26] zdj ?_
 exact zei (rs := [.cell 4 35, .tmp 5]) (vs := [.agg #[.slice none 0 0, .slice none 0 0, .slice none 0 0, .slice none 0 0], .bool false]) (post := [bigE []]) rfl ⟨⟨b2, 0, [.slice none 0 0, .slice none 0 0, .slice none 0 0, .slice none 0 0], rfl, rfl, by kernel_rfl, by kernel_rfl, zat 1 rfl 0 rfl⟩, rfl, trivial⟩ rfl (slQ [0] rfl) ⟨md0, false, _, rfl, rfl, fun w _ => RdsMd.zero w, md0_one, FlP.zero, (fun h => by cases h), fun _ => ⟨rfl, fun F m' h9 hq9 hfl9 => by first | exact absurd h9.1 (by assumption) | (have h8 := h9.2.1; omega) | exact absurd ((hnohR8 (by assumption)).symm.trans h9.2.2) (fun h => by cases h) | (have h8 := Option.some.inj (hG2.symm.trans h9.2.2); subst h8; exact absurd ((hq9.same hMF).fl hfl9) (by assumption))⟩⟩
def FarX (a b : List Int) (n : Nat) : Prop := ∀ k, k < n → ∃ c : Int, a.getD k 0 = b.getD k 0 + 16 * c
structure FarR (qs bs : List CRow) (n : Nat) : Prop where
  len : qs.length = n
  row : ∀ t, t < n → (qs.getD t crow0).xs.length = (bs.getD t crow0).xs.length ∧ FarX (qs.getD t crow0).xs (bs.getD t crow0).xs (bs.getD t crow0).xs.length
def blkOf (v : Value) : Nat := match v with | .pointer (some ⟨b, _, _⟩) => b | _ => 0
theorem rv_neSg {N : Nat} {w0 : World} {l : List HP} {env : List (Nat × Value)} {o : Oper} {x y : Operand} {a b c : Int} (ho : o.op = .binOp .neq 38 x y 38) (hx : ev env x = some (.agg #[.int .i64 a, .int .i64 b, .int .i64 c])) (hy : ev env y = some (.agg #[.int .i64 a, .int .i64 b, .int .i64 c])) :
    RunV Try.prog N w0 l env o (.bool false) := fun a1 w st => by
  have hg : (eqGuard .neq 38 x y (.agg #[.int .i64 a, .int .i64 b, .int .i64 c]) (.agg #[.int .i64 a, .int .i64 b, .int .i64 c])).run Try.prog w = .ok () w := run_eqGuard_agg _ _ _ _ _ _ _ (by kernel_rfl)
  have h2 : (binOp .neq 38 (.agg #[.int .i64 a, .int .i64 b, .int .i64 c]) (.agg #[.int .i64 a, .int .i64 b, .int .i64 c])).run Try.prog w = .ok (.bool false) w := by
    rw [run_neq_struct, run_equalIn_struct _ _ _ _ _ (by kernel_rfl) (by kernel_rfl)]
    have e0 : (Try.prog.fieldsOf 38).toList = [(Try.prog.fieldsOf 38)[0]!, (Try.prog.fieldsOf 38)[1]!, (Try.prog.fieldsOf 38)[2]!] := by kernel_rfl
    have n0 : ((Try.prog.fieldsOf 38)[0]!).name = "Kind" := by kernel_rfl
    have n1 : ((Try.prog.fieldsOf 38)[1]!).name = "Width" := by kernel_rfl
    have n2 : ((Try.prog.fieldsOf 38)[2]!).name = "Init" := by kernel_rfl
    have t0 : ((Try.prog.fieldsOf 38)[0]!).type = 3 := by kernel_rfl
    have t1 : ((Try.prog.fieldsOf 38)[1]!).type = 3 := by kernel_rfl
    have t2 : ((Try.prog.fieldsOf 38)[2]!).type = 3 := by kernel_rfl
    have o0 : ((Try.prog.fieldsOf 38)[0]!).offset = 0 := by kernel_rfl
    have o1 : ((Try.prog.fieldsOf 38)[1]!).offset = 1 := by kernel_rfl
    have o2 : ((Try.prog.fieldsOf 38)[2]!).offset = 2 := by kernel_rfl
    rw [e0]
    generalize (Try.prog.fieldsOf 38)[0]! = f0 at *
    generalize (Try.prog.fieldsOf 38)[1]! = f1 at *
    generalize (Try.prog.fieldsOf 38)[2]! = f2 at *
    have m0 : f0.name ≠ "_" := by rw [n0]; decide
    have m1 : f1.name ≠ "_" := by rw [n1]; decide
    have m2 : f2.name ≠ "_" := by rw [n2]; decide
    have hk : Try.prog.plainKey 3 = true := by kernel_rfl
    have q : ∀ (u v : Int) (w : World), (Op.equalIn 9999 3 (.int .i64 u) (.int .i64 v)).run Try.prog w = .ok (u == v) w := fun u v w => run_equalIn_int w 9998 3 .i64 .i64 u v Try.underlying3
    have p0 : ∀ w : World, (part f0.type #[Value.int .i64 a, .int .i64 b, .int .i64 c] f0.offset).run Try.prog w = .ok (.int .i64 a) w := fun w => by rw [t0, o0]; exact run_part_plain w hk rfl
    have p1 : ∀ w : World, (part f1.type #[Value.int .i64 a, .int .i64 b, .int .i64 c] f1.offset).run Try.prog w = .ok (.int .i64 b) w := fun w => by rw [t1, o1]; exact run_part_plain w hk rfl
    have p2 : ∀ w : World, (part f2.type #[Value.int .i64 a, .int .i64 b, .int .i64 c] f2.offset).run Try.prog w = .ok (.int .i64 c) w := fun w => by rw [t2, o2]; exact run_part_plain w hk rfl
    have q0 : ∀ (u v : Int) (w : World), (Op.equalIn 9999 f0.type (.int .i64 u) (.int .i64 v)).run Try.prog w = .ok (u == v) w := by rw [t0]; exact q
    have q1 : ∀ (u v : Int) (w : World), (Op.equalIn 9999 f1.type (.int .i64 u) (.int .i64 v)).run Try.prog w = .ok (u == v) w := by rw [t1]; exact q
    have q2 : ∀ (u v : Int) (w : World), (Op.equalIn 9999 f2.type (.int .i64 u) (.int .i64 v)).run Try.prog w = .ok (u == v) w := by rw [t2]; exact q
    simp only [Op.eqFields, m0, m1, m2, ne_eq, not_false_eq_true, if_true, Sem.run_bind, p0, p1, p2, q0, q1, q2, Result.andThen_ok, Sem.run_ite, Sem.run_pure]
    simp
  simp [execOp, ho, st.eval hx, st.eval hy, hg, h2]
theorem rv_neOq {N : Nat} {w0 : World} {l : List HP} {env : List (Nat × Value)} {o : Oper} {x y : Operand} {a b c : Int} (ho : o.op = .binOp .neq 97 x y 97) (hx : ev env x = some (.agg #[.int .i64 a, .int .i64 b, .int .i64 c])) (hy : ev env y = some (.agg #[.int .i64 a, .int .i64 b, .int .i64 c])) :
    RunV Try.prog N w0 l env o (.bool false) := fun a1 w st => by
  have hg : (eqGuard .neq 97 x y (.agg #[.int .i64 a, .int .i64 b, .int .i64 c]) (.agg #[.int .i64 a, .int .i64 b, .int .i64 c])).run Try.prog w = .ok () w := run_eqGuard_agg _ _ _ _ _ _ _ (by kernel_rfl)
  have h2 : (binOp .neq 97 (.agg #[.int .i64 a, .int .i64 b, .int .i64 c]) (.agg #[.int .i64 a, .int .i64 b, .int .i64 c])).run Try.prog w = .ok (.bool false) w := by
    rw [run_neq_struct, run_equalIn_struct _ _ _ _ _ (by kernel_rfl) (by kernel_rfl)]
    have e0 : (Try.prog.fieldsOf 97).toList = [(Try.prog.fieldsOf 97)[0]!, (Try.prog.fieldsOf 97)[1]!, (Try.prog.fieldsOf 97)[2]!] := by kernel_rfl
    have n0 : ((Try.prog.fieldsOf 97)[0]!).name = "Kind" := by kernel_rfl
    have n1 : ((Try.prog.fieldsOf 97)[1]!).name = "A" := by kernel_rfl
    have n2 : ((Try.prog.fieldsOf 97)[2]!).name = "B" := by kernel_rfl
    have t0 : ((Try.prog.fieldsOf 97)[0]!).type = 3 := by kernel_rfl
    have t1 : ((Try.prog.fieldsOf 97)[1]!).type = 3 := by kernel_rfl
    have t2 : ((Try.prog.fieldsOf 97)[2]!).type = 3 := by kernel_rfl
    have o0 : ((Try.prog.fieldsOf 97)[0]!).offset = 0 := by kernel_rfl
    have o1 : ((Try.prog.fieldsOf 97)[1]!).offset = 1 := by kernel_rfl
    have o2 : ((Try.prog.fieldsOf 97)[2]!).offset = 2 := by kernel_rfl
    rw [e0]
    generalize (Try.prog.fieldsOf 97)[0]! = f0 at *
    generalize (Try.prog.fieldsOf 97)[1]! = f1 at *
    generalize (Try.prog.fieldsOf 97)[2]! = f2 at *
    have m0 : f0.name ≠ "_" := by rw [n0]; decide
    have m1 : f1.name ≠ "_" := by rw [n1]; decide
    have m2 : f2.name ≠ "_" := by rw [n2]; decide
    have hk : Try.prog.plainKey 3 = true := by kernel_rfl
    have q : ∀ (u v : Int) (w : World), (Op.equalIn 9999 3 (.int .i64 u) (.int .i64 v)).run Try.prog w = .ok (u == v) w := fun u v w => run_equalIn_int w 9998 3 .i64 .i64 u v Try.underlying3
    have p0 : ∀ w : World, (part f0.type #[Value.int .i64 a, .int .i64 b, .int .i64 c] f0.offset).run Try.prog w = .ok (.int .i64 a) w := fun w => by rw [t0, o0]; exact run_part_plain w hk rfl
    have p1 : ∀ w : World, (part f1.type #[Value.int .i64 a, .int .i64 b, .int .i64 c] f1.offset).run Try.prog w = .ok (.int .i64 b) w := fun w => by rw [t1, o1]; exact run_part_plain w hk rfl
    have p2 : ∀ w : World, (part f2.type #[Value.int .i64 a, .int .i64 b, .int .i64 c] f2.offset).run Try.prog w = .ok (.int .i64 c) w := fun w => by rw [t2, o2]; exact run_part_plain w hk rfl
    have q0 : ∀ (u v : Int) (w : World), (Op.equalIn 9999 f0.type (.int .i64 u) (.int .i64 v)).run Try.prog w = .ok (u == v) w := by rw [t0]; exact q
    have q1 : ∀ (u v : Int) (w : World), (Op.equalIn 9999 f1.type (.int .i64 u) (.int .i64 v)).run Try.prog w = .ok (u == v) w := by rw [t1]; exact q
    have q2 : ∀ (u v : Int) (w : World), (Op.equalIn 9999 f2.type (.int .i64 u) (.int .i64 v)).run Try.prog w = .ok (u == v) w := by rw [t2]; exact q
    simp only [Op.eqFields, m0, m1, m2, ne_eq, not_false_eq_true, if_true, Sem.run_bind, p0, p1, p2, q0, q1, q2, Result.andThen_ok, Sem.run_ite, Sem.run_pure]
    simp
  simp [execOp, ho, st.eval hx, st.eval hy, hg, h2]
theorem rv_neMm {N : Nat} {w0 : World} {l : List HP} {env : List (Nat × Value)} {o : Oper} {x y : Operand} {a b c d : Int} (ho : o.op = .binOp .neq 94 x y 94) (hx : ev env x = some (.agg #[.int .i64 a, .int .i64 b, .int .i64 c, .int .i64 d])) (hy : ev env y = some (.agg #[.int .i64 a, .int .i64 b, .int .i64 c, .int .i64 d])) :
    RunV Try.prog N w0 l env o (.bool false) := fun a1 w st => by
  have hg : (eqGuard .neq 94 x y (.agg #[.int .i64 a, .int .i64 b, .int .i64 c, .int .i64 d]) (.agg #[.int .i64 a, .int .i64 b, .int .i64 c, .int .i64 d])).run Try.prog w = .ok () w := run_eqGuard_agg _ _ _ _ _ _ _ (by kernel_rfl)
  have h2 : (binOp .neq 94 (.agg #[.int .i64 a, .int .i64 b, .int .i64 c, .int .i64 d]) (.agg #[.int .i64 a, .int .i64 b, .int .i64 c, .int .i64 d])).run Try.prog w = .ok (.bool false) w := by
    rw [run_neq_struct, run_equalIn_struct _ _ _ _ _ (by kernel_rfl) (by kernel_rfl)]
    have e0 : (Try.prog.fieldsOf 94).toList = [(Try.prog.fieldsOf 94)[0]!, (Try.prog.fieldsOf 94)[1]!, (Try.prog.fieldsOf 94)[2]!, (Try.prog.fieldsOf 94)[3]!] := by kernel_rfl
    have n0 : ((Try.prog.fieldsOf 94)[0]!).name = "Addr" := by kernel_rfl
    have n1 : ((Try.prog.fieldsOf 94)[1]!).name = "Data" := by kernel_rfl
    have n2 : ((Try.prog.fieldsOf 94)[2]!).name = "Write" := by kernel_rfl
    have n3 : ((Try.prog.fieldsOf 94)[3]!).name = "Out" := by kernel_rfl
    have t0 : ((Try.prog.fieldsOf 94)[0]!).type = 3 := by kernel_rfl
    have t1 : ((Try.prog.fieldsOf 94)[1]!).type = 3 := by kernel_rfl
    have t2 : ((Try.prog.fieldsOf 94)[2]!).type = 3 := by kernel_rfl
    have t3 : ((Try.prog.fieldsOf 94)[3]!).type = 3 := by kernel_rfl
    have o0 : ((Try.prog.fieldsOf 94)[0]!).offset = 0 := by kernel_rfl
    have o1 : ((Try.prog.fieldsOf 94)[1]!).offset = 1 := by kernel_rfl
    have o2 : ((Try.prog.fieldsOf 94)[2]!).offset = 2 := by kernel_rfl
    have o3 : ((Try.prog.fieldsOf 94)[3]!).offset = 3 := by kernel_rfl
    rw [e0]
    generalize (Try.prog.fieldsOf 94)[0]! = f0 at *
    generalize (Try.prog.fieldsOf 94)[1]! = f1 at *
    generalize (Try.prog.fieldsOf 94)[2]! = f2 at *
    generalize (Try.prog.fieldsOf 94)[3]! = f3 at *
    have m0 : f0.name ≠ "_" := by rw [n0]; decide
    have m1 : f1.name ≠ "_" := by rw [n1]; decide
    have m2 : f2.name ≠ "_" := by rw [n2]; decide
    have m3 : f3.name ≠ "_" := by rw [n3]; decide
    have hk : Try.prog.plainKey 3 = true := by kernel_rfl
    have q : ∀ (u v : Int) (w : World), (Op.equalIn 9999 3 (.int .i64 u) (.int .i64 v)).run Try.prog w = .ok (u == v) w := fun u v w => run_equalIn_int w 9998 3 .i64 .i64 u v Try.underlying3
    have p0 : ∀ w : World, (part f0.type #[Value.int .i64 a, .int .i64 b, .int .i64 c, .int .i64 d] f0.offset).run Try.prog w = .ok (.int .i64 a) w := fun w => by rw [t0, o0]; exact run_part_plain w hk rfl
    have p1 : ∀ w : World, (part f1.type #[Value.int .i64 a, .int .i64 b, .int .i64 c, .int .i64 d] f1.offset).run Try.prog w = .ok (.int .i64 b) w := fun w => by rw [t1, o1]; exact run_part_plain w hk rfl
    have p2 : ∀ w : World, (part f2.type #[Value.int .i64 a, .int .i64 b, .int .i64 c, .int .i64 d] f2.offset).run Try.prog w = .ok (.int .i64 c) w := fun w => by rw [t2, o2]; exact run_part_plain w hk rfl
    have p3 : ∀ w : World, (part f3.type #[Value.int .i64 a, .int .i64 b, .int .i64 c, .int .i64 d] f3.offset).run Try.prog w = .ok (.int .i64 d) w := fun w => by rw [t3, o3]; exact run_part_plain w hk rfl
    have q0 : ∀ (u v : Int) (w : World), (Op.equalIn 9999 f0.type (.int .i64 u) (.int .i64 v)).run Try.prog w = .ok (u == v) w := by rw [t0]; exact q
    have q1 : ∀ (u v : Int) (w : World), (Op.equalIn 9999 f1.type (.int .i64 u) (.int .i64 v)).run Try.prog w = .ok (u == v) w := by rw [t1]; exact q
    have q2 : ∀ (u v : Int) (w : World), (Op.equalIn 9999 f2.type (.int .i64 u) (.int .i64 v)).run Try.prog w = .ok (u == v) w := by rw [t2]; exact q
    have q3 : ∀ (u v : Int) (w : World), (Op.equalIn 9999 f3.type (.int .i64 u) (.int .i64 v)).run Try.prog w = .ok (u == v) w := by rw [t3]; exact q
    simp only [Op.eqFields, m0, m1, m2, m3, ne_eq, not_false_eq_true, if_true, Sem.run_bind, p0, p1, p2, p3, q0, q1, q2, q3, Result.andThen_ok, Sem.run_ite, Sem.run_pure]
    simp
  simp [execOp, ho, st.eval hx, st.eval hy, hg, h2]
theorem built_fl (x0 : Value) (h0 : x0.oneCell' = true) : Try.prog.built 114 [(0, .agg #[x0])] = some #[x0, .slice none 0 0, .slice none 0 0, .slice none 0 0, .slice none 0 0] := by
  (cases x0 <;> first | (exact absurd h0 Bool.false_ne_true) | kernel_rfl)
theorem implFlatten_ret (D : List Md) (p : Int) (v : Value) (w : World) (hd : RdsDs w v D) :
   Calls Try.prog 28 #[.agg #[v], .int .i64 p] w (Ret w (fun u_ p_ => ∃ (m : Md) (ok : Bool) (ps : List HP), u_ = .tuple #[m.agg, .bool ok] ∧ p_ = [bigE ps] ∧ (∀ w, (bigE ps).holds w → RdsMd w m) ∧ MdOne m ∧ FlP m ∧ (ok = true → ∃ F, FlzP D p F ∧ MdF m F) ∧ (ok = false → m = md0 ∧ ∀ (F : Fz) (m' : Md), FlzP D p F → MdF m' F → ¬ FlP m'))) := by
 have hd9 := sml hd.row
 refine zca (N := 40) (args := [.agg #[v], .int .i64 p]) Try.func28 rfl rfl (srQ ?_)
 refine zdn rfl (zdm rfl rfl) ?_
 intro b1
 refine zdn rfl (zbl (z := .agg #[.slice none 0 0, .slice none 0 0, .slice none 0 0, .slice none 0 0]) rfl rfl) ?_
 intro b2
 refine zay 1 rfl (zfi (hvQ rfl (zax (cs := [v]) rfl rfl rfl rfl rfl (zat 1 rfl 0 rfl)) ?_))
 refine zem rfl (zaw rfl rfl (fun w hm => zbf (implDesignOk_ans D v w (hd.below hm.bel)))) (zbm (fun h3 => ?_) (fun h3 => ?_))
 ·
  have h3p := zes h3
  refine zam 3 rfl (zem rfl (zaw rfl rfl (fun w hm => zbf (zek (zce _ _ _ w)))) ?_)
  refine zbm (fun h4 => ?_) (fun h4 => ?_)
  ·
   obtain ⟨h4a, h4b⟩ := (zdc _ _ _).1 h4
   refine zay 2 rfl (zap rfl (zcv (srQ (hvQ rfl (zax (cs := [v]) rfl rfl rfl rfl rfl (zat 1 rfl 0 rfl)) ?_))))
   refine hvQ rfl (rv_buildMD (cs := #[v, .slice none 0 0, .slice none 0 0, .slice none 0 0, .slice none 0 0]) rfl rfl (fun w hm => built_fl v hd.row.one)) (zdn rfl (zdm rfl rfl) ?_)
   intro b5
   refine zay 1 rfl (zfi ?_)
   have hdes : DesP D := by assumption
   have hdl := hdes.1
   refine zfo 3 [2, 1, 0] rfl rfl (by decide) ?_
   refine zfd [bigE (fbQ b5 v (.slice none 0 0) (.slice none 0 0) (.slice none 0 0) [] [] [] []), boxE b2 #[.slice none 0 0, .slice none 0 0, .slice none 0 0, .slice none 0 0] 35, boxE b1 #[v] 26] (fun w hm => fb_nil hm) ?_
   refine zam 1 rfl (hvQ rfl (fdQ 0 rfl rfl rfl) (hvQ rfl (zac rfl rfl rfl (zaa 2 rfl rfl)) (hvQ rfl (lnQ rfl rfl rfl (zaf hd.row)) (hvQ rfl (vsQ rfl rfl rfl) ?_))))
   rw [show (D.length : Int) - 1 = ((D.length - 1 : Nat) : Int) by omega]
   refine zam 1 rfl (zds (R := (fun u_ p_ => AddB (addF D D.length (D.length - 1) p false [] fz0) b5 v u_ p_)) 0 rfl rfl rfl rfl rfl (fun L w hX hm => implAdd_ind D v hdes _ b5 D.length (D.length - 1) p true [] fz0 [] (.slice none 0 0) (.slice none 0 0) (.slice none 0 0) (.slice none 0 0) [] _ _ (by omega) (by omega) ⟨by decide, by decide, by decide⟩ (fun h => by cases h) rfl (fun w _ => OpsR.nil w) (fun w h => hd.below (hX w h).bel) (fun w h => nilW w 1) hm) ?_)
   intro v6 p7 hR8
   obtain ⟨okhR8, qshR8, rfl, rfl, hgohR8, hnohR8⟩ := hR8
   refine zcl (l' := [bigE qshR8, boxE b2 #[.slice none 0 0, .slice none 0 0, .slice none 0 0, .slice none 0 0] 35, boxE b1 #[v] 26]) rfl ?_
   refine zbm (fun h9 => ?_) (fun h9 => ?_)
   ·
    refine zam 1 rfl ?_
    obtain ⟨G2, a9, c9, d9, gs4, ps4, hG2, rfl, hp4, hG4⟩ := hgohR8 (by assumption)
    refine zfo 3 [2, 1, 0] rfl rfl (by decide) ?_
    refine zfd [boxE b5 #[v, a9, c9, .slice none 0 0, d9] 114, rowE 38 3 a9 G2.ss.length (G2.ss.flatMap sgC), rowE 89 2 c9 gs4.length (gs4.flatMap asC), rowE 94 4 d9 G2.ms.length (G2.ms.flatMap mmC), bigE ps4, boxE b2 #[.slice none 0 0, .slice none 0 0, .slice none 0 0, .slice none 0 0] 35, boxE b1 #[v] 26] zdb ?_
    have hMF : MdF (Md.mk a9 c9 (.slice none 0 0) d9 G2.ss gs4 [] G2.ms) G2 := ⟨rfl, hG4, rfl, rfl⟩
    refine zgb (p := a9.oneCell' = true ∧ c9.oneCell' = true ∧ d9.oneCell' = true) (fun w hm => ⟨(zaj 1 rfl w hm).one, (zaj 2 rfl w hm).one, (zaj 3 rfl w hm).one⟩) (fun hon9 => ?_)
    refine zam 2 rfl (hvQ rfl (zch rfl rfl) (hvQ rfl (fdQ 1 rfl rfl rfl) (hvQ rfl (zax (cs := [a9, c9, .slice none 0 0, d9]) rfl rfl rfl rfl rfl (zat 0 rfl 1 rfl)) ?_)))
    refine zem rfl (zaw rfl rfl (fun w hm => zbf (zfs (Md.mk a9 c9 (.slice none 0 0) d9 G2.ss gs4 [] G2.ms) w ⟨zaj 1 rfl w hm, zaj 2 rfl w hm, hp4 w (hm.holds _ (zcj (i := 4) rfl)), nilW w 3, PtsR.nil w, zaj 3 rfl w hm⟩))) (zbm (fun h10 => ?_) (fun h10 => ?_))
    ·
     have h10p := zes h10
     refine zay 2 rfl (zap rfl (zcv (zag (reQ 1 rfl (hvQ rfl (zch rfl rfl) (hvQ rfl (fdQ 1 rfl rfl rfl) (hvQ rfl (zax (cs := [a9, c9, .slice none 0 0, d9]) rfl rfl rfl rfl rfl (zat 0 rfl 1 rfl)) ?_)))))))
     refine zbh (cs' := #[a9, c9, .slice none 0 0, d9]) (i := 5) (off := 0) (us := [a9, c9, .slice none 0 0, d9]) rfl rfl rfl rfl rfl rfl rfl (zab hon9.1 (zab hon9.2.1 (zab rfl (zab hon9.2.2 zbc)))) rfl rfl rfl (zay 1 rfl ?_)
     refine zao (zbn 7 [6, 5, 0, 4, 3, 2, 1] rfl rfl (by decide) ?_)
     refine zcd 4 rfl ?_
     exact zei (rs := [.cell 4 35, .tmp 5]) (vs := [.agg #[a9, c9, .slice none 0 0, d9], .bool true]) (post := [bigE [rowE 38 3 a9 G2.ss.length (G2.ss.flatMap sgC), rowE 89 2 c9 gs4.length (gs4.flatMap asC), rowE 94 4 d9 G2.ms.length (G2.ms.flatMap mmC), bigE ps4]]) rfl ⟨⟨b2, 0, [a9, c9, .slice none 0 0, d9], rfl, rfl, by kernel_rfl, by kernel_rfl, zat 2 rfl 0 rfl⟩, rfl, trivial⟩ rfl (slQ [0] rfl) ⟨(Md.mk a9 c9 (.slice none 0 0) d9 G2.ss gs4 [] G2.ms), true, _, rfl, rfl, fun w hw => ⟨zdk (zbi hw List.mem_cons_self), zdk (zbi hw (List.mem_cons_of_mem _ List.mem_cons_self)), hp4 w (zbi hw (List.mem_cons_of_mem _ (List.mem_cons_of_mem _ (List.mem_cons_of_mem _ List.mem_cons_self)))), nilW w 3, PtsR.nil w, zdk (zbi hw (List.mem_cons_of_mem _ (List.mem_cons_of_mem _ List.mem_cons_self)))⟩, ⟨hon9.1, hon9.2.1, rfl, hon9.2.2⟩, by assumption, fun _ => ⟨G2, ⟨hdes, by omega, hG2⟩, hMF⟩, (fun h => by cases h)⟩
    have h10p := zdt h10
    refine zay 2 rfl (zah rfl (srQ (hvQ rfl (zbk (cs := #[.slice none 0 0, .slice none 0 0, .slice none 0 0, .slice none 0 0]) rfl rfl rfl) ?_)))
    refine zbh (cs' := #[.slice none 0 0, .slice none 0 0, .slice none 0 0, .slice none 0 0]) (i := 5) (off := 0) (us := [.slice none 0 0, .slice none 0 0, .slice none 0 0, .slice none 0 0]) rfl rfl rfl rfl rfl rfl rfl (zab rfl (zab rfl (zab rfl (zab rfl zbc)))) rfl rfl rfl (zay 1 rfl ?_)
    refine zao (zae ?_)
    refine zco [bigE [], boxE b5 #[v, a9, c9, .slice none 0 0, d9] 114, rowE 38 3 a9 G2.ss.length (G2.ss.flatMap sgC), rowE 89 2 c9 gs4.length (gs4.flatMap asC), rowE 94 4 d9 G2.ms.length (G2.ms.flatMap mmC), bigE ps4, boxE b2 #[.slice none 0 0, .slice none 0 0, .slice none 0 0, .slice none 0 0] 35, boxE b1 #[v] 26] zdj ?_
    exact zei (rs := [.cell 4 35, .tmp 5]) (vs := [.agg #[.slice none 0 0, .slice none 0 0, .slice none 0 0, .slice none 0 0], .bool false]) (post := [bigE []]) rfl ⟨⟨b2, 0, [.slice none 0 0, .slice none 0 0, .slice none 0 0, .slice none 0 0], rfl, rfl, by kernel_rfl, by kernel_rfl, zat 6 rfl 0 rfl⟩, rfl, trivial⟩ rfl (slQ [0] rfl) ⟨md0, false, _, rfl, rfl, fun w _ => RdsMd.zero w, md0_one, FlP.zero, (fun h => by cases h), fun _ => ⟨rfl, fun F m' h9 hq9 hfl9 => by first | exact absurd h9.1 (by assumption) | (have h8 := h9.2.1; omega) | exact absurd ((hnohR8 (by assumption)).symm.trans h9.2.2) (fun h => by cases h) | (have h8 := Option.some.inj (hG2.symm.trans h9.2.2); subst h8; exact absurd ((hq9.same hMF).fl hfl9) (by assumption))⟩⟩
   refine zay 9 rfl (zah rfl (srQ ?_))
   refine hvQ rfl (zbk (cs := #[.slice none 0 0, .slice none 0 0, .slice none 0 0, .slice none 0 0]) rfl rfl rfl) (zbh (cs' := #[.slice none 0 0, .slice none 0 0, .slice none 0 0, .slice none 0 0]) (i := 1) (off := 0) (us := [.slice none 0 0, .slice none 0 0, .slice none 0 0, .slice none 0 0]) rfl rfl rfl rfl rfl rfl rfl (zab rfl (zab rfl (zab rfl (zab rfl zbc)))) rfl rfl rfl ?_)
   refine zay 1 rfl ?_
   refine zao (zae ?_)
   refine zco [bigE [], bigE qshR8, boxE b2 #[.slice none 0 0, .slice none 0 0, .slice none 0 0, .slice none 0 0] 35, boxE b1 #[v] 26] zdj ?_
   exact zei (rs := [.cell 4 35, .tmp 5]) (vs := [.agg #[.slice none 0 0, .slice none 0 0, .slice none 0 0, .slice none 0 0], .bool false]) (post := [bigE []]) rfl ⟨⟨b2, 0, [.slice none 0 0, .slice none 0 0, .slice none 0 0, .slice none 0 0], rfl, rfl, by kernel_rfl, by kernel_rfl, zat 2 rfl 0 rfl⟩, rfl, trivial⟩ rfl (slQ [0] rfl) ⟨md0, false, _, rfl, rfl, fun w _ => RdsMd.zero w, md0_one, FlP.zero, (fun h => by cases h), fun _ => ⟨rfl, fun F m' h9 hq9 hfl9 => by first | exact absurd h9.1 (by assumption) | (have h8 := h9.2.1; omega) | exact absurd ((hnohR8 (by assumption)).symm.trans h9.2.2) (fun h => by cases h) | (have h8 := Option.some.inj (hG2.symm.trans h9.2.2); subst h8; exact absurd ((hq9.same hMF).fl hfl9) (by assumption))⟩⟩
  have h4a := zcy h4
  refine zay 2 rfl (zah rfl (srQ (hvQ rfl (zbk (cs := #[.slice none 0 0, .slice none 0 0, .slice none 0 0, .slice none 0 0]) rfl rfl rfl) ?_)))
  refine zbh (cs' := #[.slice none 0 0, .slice none 0 0, .slice none 0 0, .slice none 0 0]) (i := 0) (off := 0) (us := [.slice none 0 0, .slice none 0 0, .slice none 0 0, .slice none 0 0]) rfl rfl rfl rfl rfl rfl rfl (zab rfl (zab rfl (zab rfl (zab rfl zbc)))) rfl rfl rfl (zay 1 rfl ?_)
  refine zao (zae ?_)
  refine zco [bigE [], boxE b2 #[.slice none 0 0, .slice none 0 0, .slice none 0 0, .slice none 0 0] 35, boxE b1 #[v] 26] zdj ?_
  exact zei (rs := [.cell 4 35, .tmp 5]) (vs := [.agg #[.slice none 0 0, .slice none 0 0, .slice none 0 0, .slice none 0 0], .bool false]) (post := [bigE []]) rfl ⟨⟨b2, 0, [.slice none 0 0, .slice none 0 0, .slice none 0 0, .slice none 0 0], rfl, rfl, by kernel_rfl, by kernel_rfl, zat 1 rfl 0 rfl⟩, rfl, trivial⟩ rfl (slQ [0] rfl) ⟨md0, false, _, rfl, rfl, fun w _ => RdsMd.zero w, md0_one, FlP.zero, (fun h => by cases h), fun _ => ⟨rfl, fun F m' h9 hq9 hfl9 => by first | exact absurd h9.1 (by assumption) | (have h8 := h9.2.1; omega) | exact absurd ((hnohR8 (by assumption)).symm.trans h9.2.2) (fun h => by cases h) | (have h8 := Option.some.inj (hG2.symm.trans h9.2.2); subst h8; exact absurd ((hq9.same hMF).fl hfl9) (by assumption))⟩⟩
 have h3p := zdt h3
 refine zay 6 rfl (zah rfl (srQ (hvQ rfl (zbk (cs := #[.slice none 0 0, .slice none 0 0, .slice none 0 0, .slice none 0 0]) rfl rfl rfl) ?_)))
 refine zbh (cs' := #[.slice none 0 0, .slice none 0 0, .slice none 0 0, .slice none 0 0]) (i := 0) (off := 0) (us := [.slice none 0 0, .slice none 0 0, .slice none 0 0, .slice none 0 0]) rfl rfl rfl rfl rfl rfl rfl (zab rfl (zab rfl (zab rfl (zab rfl zbc)))) rfl rfl rfl (zay 1 rfl ?_)
 refine zao (zae ?_)
 refine zco [bigE [], boxE b2 #[.slice none 0 0, .slice none 0 0, .slice none 0 0, .slice none 0 0] 35, boxE b1 #[v] 26] zdj ?_
 exact zei (rs := [.cell 4 35, .tmp 5]) (vs := [.agg #[.slice none 0 0, .slice none 0 0, .slice none 0 0, .slice none 0 0], .bool false]) (post := [bigE []]) rfl ⟨⟨b2, 0, [.slice none 0 0, .slice none 0 0, .slice none 0 0, .slice none 0 0], rfl, rfl, by kernel_rfl, by kernel_rfl, zat 1 rfl 0 rfl⟩, rfl, trivial⟩ rfl (slQ [0] rfl) ⟨md0, false, _, rfl, rfl, fun w _ => RdsMd.zero w, md0_one, FlP.zero, (fun h => by cases h), fun _ => ⟨rfl, fun F m' h9 hq9 hfl9 => by first | exact absurd h9.1 (by assumption) | (have h8 := h9.2.1; omega) | exact absurd ((hnohR8 (by assumption)).symm.trans h9.2.2) (fun h => by cases h) | (have h8 := Option.some.inj (hG2.symm.trans h9.2.2); subst h8; exact absurd ((hq9.same hMF).fl hfl9) (by assumption))⟩⟩
theorem sameSignals_eq (xa : List Sg) (u v : Value) (w : World) (hu : RdsW w u 3 xa.length (xa.flatMap sgC)) (hv : RdsW w v 3 xa.length (xa.flatMap sgC))  :
   Calls Try.prog 75 #[u, v] w (Ans w (.bool true)) := by
 have hu9 := sml hu
 have hv9 := sml hv
 refine zca (N := 26) (args := [u, v]) Try.func75 rfl rfl (zbg 1 rfl (zag (zag (reQ 1 rfl (hvQ rfl (lnQ rfl rfl rfl (zaf hu)) (zam 1 rfl (hvQ rfl (lnQ rfl rfl rfl (zaf hv)) ?_)))))))
 refine zfq rfl rfl rfl rfl rfl rfl (fun h1 => ?_) (fun h1 => ?_)
 ·
  refine ntQ (zah rfl (zbg 1 rfl ?_))
  refine zao (zae ?_)
  exfalso; omega
 refine ntQ (zap rfl (zcv (zag (zbg 1 rfl (zaz ?_)))))
 refine lkQ1 (α := Nat) [0, 1, 4, 10] rfl (fun j => []) (fun j => [(5, .int .i64 (j : Int))]) (fun j => j ≤ xa.length) (fun j => xa.length - j) 0 (Nat.zero_le _) (saQ rfl) (.slnil) ?_
 intro j hi2
 have hj := hi2
 refine zag (zag (reQ 2 rfl (hvQ rfl (lnQ rfl rfl rfl (zaf hu)) ?_)))
 refine zbq rfl rfl rfl rfl rfl rfl (fun h3 => ?_) (fun h3 => ?_)
 ·
  refine ntQ (zah rfl (zcv (sbQ (zag ?_))))
  refine zbz 9 [[], [], [0, 1], [2], [], [], [4, 5], [6], [3, 7]] [17, 18, 19, 20, 21, 22, 23, 24, 25] [u, .int .i64 (j : Int), elP u (((j : Int)).toNat * 3), .agg #[.int .i64 ((xa.getD j sg0).k), .int .i64 ((xa.getD j sg0).w), .int .i64 ((xa.getD j sg0).i)], v, .int .i64 (j : Int), elP v (((j : Int)).toNat * 3), .agg #[.int .i64 ((xa.getD j sg0).k), .int .i64 ((xa.getD j sg0).w), .int .i64 ((xa.getD j sg0).i)], .bool false] (by kernel_rfl) rfl ?_ ?_
  ·
   exact ⟨iaQ rfl (zau rfl) rfl, iaQ rfl (zau rfl) rfl, iaQ rfl (riQ 3 rfl rfl rfl rfl (zaf hu)) rfl, iaQ rfl (zbb (us := [.int .i64 ((xa.getD j sg0).k), .int .i64 ((xa.getD j sg0).w), .int .i64 ((xa.getD j sg0).i)]) rfl rfl rfl rfl (zaf hu) (by omega) rfl (zbr sgC 3 (fun _ => rfl) xa sg0 (show j < _ by omega) rfl)) rfl, iaQ rfl (zau rfl) rfl, iaQ rfl (zau rfl) rfl, iaQ rfl (riQ 3 rfl rfl rfl rfl (zaf hv)) rfl, iaQ rfl (zbb (us := [.int .i64 ((xa.getD j sg0).k), .int .i64 ((xa.getD j sg0).w), .int .i64 ((xa.getD j sg0).i)]) rfl rfl rfl rfl (zaf hv) (by omega) rfl (zbr sgC 3 (fun _ => rfl) xa sg0 (show j < _ by omega) rfl)) rfl, iaQ rfl (rv_neSg rfl rfl rfl) rfl, trivial⟩
  simp only [List.drop_succ_cons, List.drop_zero]
  refine ntQ (fsQ rfl (zdh (reQ 1 rfl (hvQ rfl (vaQ rfl rfl rfl) (enQ 1 rfl ?_)))))
  exact zbs (j + 1) (by omega) (by omega) (saQ rfl) (.slnil)
 refine ntQ (zap rfl ?_)
 refine zbj (zeb ?_)
 refine zal (zba (zbg 1 rfl ?_))
 exact zao (zav rfl rfl rfl)
theorem sameOps_eq (xa : List Oq) (u v : Value) (w : World) (hu : RdsW w u 3 xa.length (xa.flatMap oqC)) (hv : RdsW w v 3 xa.length (xa.flatMap oqC))  :
   Calls Try.prog 119 #[u, v] w (Ans w (.bool true)) := by
 have hu9 := sml hu
 have hv9 := sml hv
 refine zca (N := 26) (args := [u, v]) Try.func119 rfl rfl (zbg 1 rfl (zag (zag (reQ 1 rfl (hvQ rfl (lnQ rfl rfl rfl (zaf hu)) (zam 1 rfl (hvQ rfl (lnQ rfl rfl rfl (zaf hv)) ?_)))))))
 refine zfq rfl rfl rfl rfl rfl rfl (fun h1 => ?_) (fun h1 => ?_)
 ·
  refine ntQ (zah rfl (zbg 1 rfl ?_))
  refine zao (zae ?_)
  exfalso; omega
 refine ntQ (zap rfl (zcv (zag (zbg 1 rfl (zaz ?_)))))
 refine lkQ1 (α := Nat) [0, 1, 4, 10] rfl (fun j => []) (fun j => [(5, .int .i64 (j : Int))]) (fun j => j ≤ xa.length) (fun j => xa.length - j) 0 (Nat.zero_le _) (saQ rfl) (.slnil) ?_
 intro j hi2
 have hj := hi2
 refine zag (zag (reQ 2 rfl (hvQ rfl (lnQ rfl rfl rfl (zaf hu)) ?_)))
 refine zbq rfl rfl rfl rfl rfl rfl (fun h3 => ?_) (fun h3 => ?_)
 ·
  refine ntQ (zah rfl (zcv (sbQ (zag ?_))))
  refine zbz 9 [[], [], [0, 1], [2], [], [], [4, 5], [6], [3, 7]] [17, 18, 19, 20, 21, 22, 23, 24, 25] [u, .int .i64 (j : Int), elP u (((j : Int)).toNat * 3), .agg #[.int .i64 ((xa.getD j oq0).k), .int .i64 ((xa.getD j oq0).a), .int .i64 ((xa.getD j oq0).b)], v, .int .i64 (j : Int), elP v (((j : Int)).toNat * 3), .agg #[.int .i64 ((xa.getD j oq0).k), .int .i64 ((xa.getD j oq0).a), .int .i64 ((xa.getD j oq0).b)], .bool false] (by kernel_rfl) rfl ?_ ?_
  ·
   exact ⟨iaQ rfl (zau rfl) rfl, iaQ rfl (zau rfl) rfl, iaQ rfl (riQ 3 rfl rfl rfl rfl (zaf hu)) rfl, iaQ rfl (zbb (us := [.int .i64 ((xa.getD j oq0).k), .int .i64 ((xa.getD j oq0).a), .int .i64 ((xa.getD j oq0).b)]) rfl rfl rfl rfl (zaf hu) (by omega) rfl (zbr oqC 3 (fun _ => rfl) xa oq0 (show j < _ by omega) rfl)) rfl, iaQ rfl (zau rfl) rfl, iaQ rfl (zau rfl) rfl, iaQ rfl (riQ 3 rfl rfl rfl rfl (zaf hv)) rfl, iaQ rfl (zbb (us := [.int .i64 ((xa.getD j oq0).k), .int .i64 ((xa.getD j oq0).a), .int .i64 ((xa.getD j oq0).b)]) rfl rfl rfl rfl (zaf hv) (by omega) rfl (zbr oqC 3 (fun _ => rfl) xa oq0 (show j < _ by omega) rfl)) rfl, iaQ rfl (rv_neOq rfl rfl rfl) rfl, trivial⟩
  simp only [List.drop_succ_cons, List.drop_zero]
  refine ntQ (fsQ rfl (zdh (reQ 1 rfl (hvQ rfl (vaQ rfl rfl rfl) (enQ 1 rfl ?_)))))
  exact zbs (j + 1) (by omega) (by omega) (saQ rfl) (.slnil)
 refine ntQ (zap rfl ?_)
 refine zbj (zeb ?_)
 refine zal (zba (zbg 1 rfl ?_))
 exact zao (zav rfl rfl rfl)
theorem sameMems_eq (xa : List Mm) (u v : Value) (w : World) (hu : RdsW w u 4 xa.length (xa.flatMap mmC)) (hv : RdsW w v 4 xa.length (xa.flatMap mmC))  :
   Calls Try.prog 78 #[u, v] w (Ans w (.bool true)) := by
 have hu9 := sml hu
 have hv9 := sml hv
 refine zca (N := 26) (args := [u, v]) Try.func78 rfl rfl (zbg 1 rfl (zag (zag (reQ 1 rfl (hvQ rfl (lnQ rfl rfl rfl (zaf hu)) (zam 1 rfl (hvQ rfl (lnQ rfl rfl rfl (zaf hv)) ?_)))))))
 refine zfq rfl rfl rfl rfl rfl rfl (fun h1 => ?_) (fun h1 => ?_)
 ·
  refine ntQ (zah rfl (zbg 1 rfl ?_))
  refine zao (zae ?_)
  exfalso; omega
 refine ntQ (zap rfl (zcv (zag (zbg 1 rfl (zaz ?_)))))
 refine lkQ1 (α := Nat) [0, 1, 4, 10] rfl (fun j => []) (fun j => [(5, .int .i64 (j : Int))]) (fun j => j ≤ xa.length) (fun j => xa.length - j) 0 (Nat.zero_le _) (saQ rfl) (.slnil) ?_
 intro j hi2
 have hj := hi2
 refine zag (zag (reQ 2 rfl (hvQ rfl (lnQ rfl rfl rfl (zaf hu)) ?_)))
 refine zbq rfl rfl rfl rfl rfl rfl (fun h3 => ?_) (fun h3 => ?_)
 ·
  refine ntQ (zah rfl (zcv (sbQ (zag ?_))))
  refine zbz 9 [[], [], [0, 1], [2], [], [], [4, 5], [6], [3, 7]] [17, 18, 19, 20, 21, 22, 23, 24, 25] [u, .int .i64 (j : Int), elP u (((j : Int)).toNat * 4), .agg #[.int .i64 ((xa.getD j mm0).a), .int .i64 ((xa.getD j mm0).d), .int .i64 ((xa.getD j mm0).w), .int .i64 ((xa.getD j mm0).o)], v, .int .i64 (j : Int), elP v (((j : Int)).toNat * 4), .agg #[.int .i64 ((xa.getD j mm0).a), .int .i64 ((xa.getD j mm0).d), .int .i64 ((xa.getD j mm0).w), .int .i64 ((xa.getD j mm0).o)], .bool false] (by kernel_rfl) rfl ?_ ?_
  ·
   exact ⟨iaQ rfl (zau rfl) rfl, iaQ rfl (zau rfl) rfl, iaQ rfl (riQ 4 rfl rfl rfl rfl (zaf hu)) rfl, iaQ rfl (zbb (us := [.int .i64 ((xa.getD j mm0).a), .int .i64 ((xa.getD j mm0).d), .int .i64 ((xa.getD j mm0).w), .int .i64 ((xa.getD j mm0).o)]) rfl rfl rfl rfl (zaf hu) (by omega) rfl (zbr mmC 4 (fun _ => rfl) xa mm0 (show j < _ by omega) rfl)) rfl, iaQ rfl (zau rfl) rfl, iaQ rfl (zau rfl) rfl, iaQ rfl (riQ 4 rfl rfl rfl rfl (zaf hv)) rfl, iaQ rfl (zbb (us := [.int .i64 ((xa.getD j mm0).a), .int .i64 ((xa.getD j mm0).d), .int .i64 ((xa.getD j mm0).w), .int .i64 ((xa.getD j mm0).o)]) rfl rfl rfl rfl (zaf hv) (by omega) rfl (zbr mmC 4 (fun _ => rfl) xa mm0 (show j < _ by omega) rfl)) rfl, iaQ rfl (rv_neMm rfl rfl rfl) rfl, trivial⟩
  simp only [List.drop_succ_cons, List.drop_zero]
  refine ntQ (fsQ rfl (zdh (reQ 1 rfl (hvQ rfl (vaQ rfl rfl rfl) (enQ 1 rfl ?_)))))
  exact zbs (j + 1) (by omega) (by omega) (saQ rfl) (.slnil)
 refine ntQ (zap rfl ?_)
 refine zbj (zeb ?_)
 refine zal (zba (zbg 1 rfl ?_))
 exact zao (zav rfl rfl rfl)
theorem sameAssigns_eq (xa xb : List As) (u v : Value) (w : World) (hu : RdsW w u 2 xa.length (xa.flatMap asC)) (hv : RdsW w v 2 xb.length (xb.flatMap asC)) (hou : OpsR w xa) (hov : OpsR w xb) (hq : xa.length = xb.length ∧ ∀ i, (xa.getD i as0).t = (xb.getD i as0).t ∧ (xa.getD i as0).os = (xb.getD i as0).os) :
   Calls Try.prog 76 #[u, v] w (Ans w (.bool true)) := by
 have hu9 := sml hu
 have hv9 := sml hv
 have hsl := hq.1
 have hat := hq.2
 refine zca (N := 42) (args := [u, v]) Try.func76 rfl rfl (zbg 1 rfl (zag (zag (reQ 1 rfl (hvQ rfl (lnQ rfl rfl rfl (zaf hu)) (zam 1 rfl (hvQ rfl (lnQ rfl rfl rfl (zaf hv)) ?_)))))))
 refine zfq rfl rfl rfl rfl rfl rfl (fun h1 => ?_) (fun h1 => ?_)
 ·
  refine ntQ (zah rfl (zbg 1 rfl ?_))
  refine zao (zae ?_)
  exfalso; first | omega | (have h9 := (hat j).1; omega)
 refine ntQ (zap rfl (zcv (zag (zbg 1 rfl (zaz ?_)))))
 refine lkQ1 (α := Nat) [0, 1, 4, 10] rfl (fun j => []) (fun j => [(5, .int .i64 (j : Int))]) (fun j => j ≤ xa.length) (fun j => xa.length - j) 0 (Nat.zero_le _) (saQ rfl) (.slnil) ?_
 intro j hi2
 have hj := hi2
 refine zag (zag (reQ 2 rfl (hvQ rfl (lnQ rfl rfl rfl (zaf hu)) ?_)))
 refine zbq rfl rfl rfl rfl rfl rfl (fun h3 => ?_) (fun h3 => ?_)
 ·
  refine ntQ (zah rfl (zcv (sbQ (zag ?_))))
  rcases Bool.eq_false_or_eq_true (((xa.getD j as0).t) != ((xb.getD j as0).t)) with hb4 | hb4
  ·
   have hb4p : (xa.getD j as0).t ≠ (xb.getD j as0).t := bne_iff_ne.1 hb4
   refine zbz 25 [[], [], [0, 1], [2], [3], [], [], [5, 6], [7], [8], [4, 9], [10], [11], [11], [11], [11], [11], [11], [11], [11], [11], [11], [11], [11], [11, 23]] [17, 18, 19, 20, 21, 22, 23, 24, 25, 26, 27, 28, 29, 30, 31, 32, 33, 34, 35, 36, 37, 38, 39, 40, 41] [u, .int .i64 (j : Int), elP u (((j : Int)).toNat * 2), elP u (((j : Int)).toNat * 2 + 0), .int .i64 ((xa.getD j as0).t), v, .int .i64 (j : Int), elP v (((j : Int)).toNat * 2), elP v (((j : Int)).toNat * 2 + 0), .int .i64 ((xb.getD j as0).t), .bool true, .bool true, undef, undef, undef, undef, undef, undef, undef, undef, undef, undef, undef, undef, .bool true] (by kernel_rfl) rfl ?_ ?_
   ·
    exact ⟨iaQ rfl (zau rfl) rfl, iaQ rfl (zau rfl) rfl, iaQ rfl (riQ 2 rfl rfl rfl rfl (zaf hu)) rfl, iaQ rfl (zaq (k0 := 0) rfl rfl rfl (zaf hu) (by omega)) rfl, iaQ rfl (zan (u := .int .i64 ((xa.getD j as0).t)) rfl rfl rfl (zaf hu) ((zbd asC 2 (fun _ => rfl) xa as0 (show j < _ by omega) (by decide)).trans rfl)) rfl, iaQ rfl (zau rfl) rfl, iaQ rfl (zau rfl) rfl, iaQ rfl (riQ 2 rfl rfl rfl rfl (zaf hv)) rfl, iaQ rfl (zaq (k0 := 0) rfl rfl rfl (zaf hv) (by omega)) rfl, iaQ rfl (zan (u := .int .i64 ((xb.getD j as0).t)) rfl rfl rfl (zaf hv) ((zbd asC 2 (fun _ => rfl) xb as0 (show j < _ by omega) (by decide)).trans rfl)) rfl, .inl ⟨rfl, zdl (zcf rfl rfl rfl rfl) hb4⟩, iaQ rfl (zau rfl) rfl, .inr ⟨rfl, rfl⟩, .inr ⟨rfl, rfl⟩, .inr ⟨rfl, rfl⟩, .inr ⟨rfl, rfl⟩, .inr ⟨rfl, rfl⟩, .inr ⟨rfl, rfl⟩, .inr ⟨rfl, rfl⟩, .inr ⟨rfl, rfl⟩, .inr ⟨rfl, rfl⟩, .inr ⟨rfl, rfl⟩, .inr ⟨rfl, rfl⟩, .inr ⟨rfl, rfl⟩, iaQ rfl (zau rfl) rfl, trivial⟩
   simp only [List.drop_succ_cons, List.drop_zero]
   refine ntQ (zah rfl (zbg 1 rfl ?_))
   refine zao (zad ?_)
   refine zdv ?_
   refine zad (zae ?_)
   exfalso; first | omega | (have h9 := (hat j).1; omega)
  have hb4p : (xa.getD j as0).t = (xb.getD j as0).t := (bne_eq_false_iff_eq.1 hb4)
  refine zbz 25 [[], [], [0, 1], [2], [3], [], [], [5, 6], [7], [8], [4, 9], [10], [11], [11], [11, 12, 13], [11, 14], [11, 15], [11], [11], [11, 17, 18], [11, 19], [11, 20], [11, 16, 21], [11, 22], [11, 23]] [17, 18, 19, 20, 21, 22, 23, 24, 25, 26, 27, 28, 29, 30, 31, 32, 33, 34, 35, 36, 37, 38, 39, 40, 41] [u, .int .i64 (j : Int), elP u (((j : Int)).toNat * 2), elP u (((j : Int)).toNat * 2 + 0), .int .i64 ((xa.getD j as0).t), v, .int .i64 (j : Int), elP v (((j : Int)).toNat * 2), elP v (((j : Int)).toNat * 2 + 0), .int .i64 ((xb.getD j as0).t), .bool false, .bool false, u, .int .i64 (j : Int), elP u (((j : Int)).toNat * 2), elP u (((j : Int)).toNat * 2 + 1), (xa.getD j as0).ov, v, .int .i64 (j : Int), elP v (((j : Int)).toNat * 2), elP v (((j : Int)).toNat * 2 + 1), (xb.getD j as0).ov, .bool true, .bool false, .bool false] (by kernel_rfl) rfl ?_ ?_
  ·
   exact ⟨iaQ rfl (zau rfl) rfl, iaQ rfl (zau rfl) rfl, iaQ rfl (riQ 2 rfl rfl rfl rfl (zaf hu)) rfl, iaQ rfl (zaq (k0 := 0) rfl rfl rfl (zaf hu) (by omega)) rfl, iaQ rfl (zan (u := .int .i64 ((xa.getD j as0).t)) rfl rfl rfl (zaf hu) ((zbd asC 2 (fun _ => rfl) xa as0 (show j < _ by omega) (by decide)).trans rfl)) rfl, iaQ rfl (zau rfl) rfl, iaQ rfl (zau rfl) rfl, iaQ rfl (riQ 2 rfl rfl rfl rfl (zaf hv)) rfl, iaQ rfl (zaq (k0 := 0) rfl rfl rfl (zaf hv) (by omega)) rfl, iaQ rfl (zan (u := .int .i64 ((xb.getD j as0).t)) rfl rfl rfl (zaf hv) ((zbd asC 2 (fun _ => rfl) xb as0 (show j < _ by omega) (by decide)).trans rfl)) rfl, .inl ⟨rfl, zdl (zcf rfl rfl rfl rfl) hb4⟩, iaQ rfl (zau rfl) rfl, iaQ rfl (zau rfl) rfl, iaQ rfl (zau rfl) rfl, iaQ rfl (riQ 2 rfl rfl rfl rfl (zaf hu)) rfl, iaQ rfl (zaq (k0 := 1) rfl rfl rfl (zaf hu) (by omega)) rfl, iaQ rfl (zan (u := (xa.getD j as0).ov) rfl rfl rfl (zaf hu) ((zbd asC 2 (fun _ => rfl) xa as0 (show j < _ by omega) (by decide)).trans rfl)) rfl, iaQ rfl (zau rfl) rfl, iaQ rfl (zau rfl) rfl, iaQ rfl (riQ 2 rfl rfl rfl rfl (zaf hv)) rfl, iaQ rfl (zaq (k0 := 1) rfl rfl rfl (zaf hv) (by omega)) rfl, iaQ rfl (zan (u := (xb.getD j as0).ov) rfl rfl rfl (zaf hv) ((zbd asC 2 (fun _ => rfl) xb as0 (show j < _ by omega) (by decide)).trans rfl)) rfl, .inl ⟨rfl, zaw rfl rfl (fun w hm => zbf (sameOps_eq (xa.getD j as0).os _ _ w ((hou _ (zbw (by omega))).below hm.bel) (by have h9 := (hov _ (zbw (d := as0) (show j < xb.length by omega))).below hm.bel; rw [← (hat j).2] at h9; exact h9)))⟩, iaQ rfl (zau rfl) rfl, iaQ rfl (zau rfl) rfl, trivial⟩
  simp only [List.drop_succ_cons, List.drop_zero]
  refine ntQ (fsQ rfl (zdh (reQ 1 rfl (hvQ rfl (vaQ rfl rfl rfl) (enQ 1 rfl ?_)))))
  exact zbs (j + 1) (by omega) (by omega) (saQ rfl) (.slnil)
 refine ntQ (zap rfl ?_)
 refine zbj (zeb ?_)
 refine zal (zba (zbg 1 rfl ?_))
 exact zao (zav rfl rfl rfl)
theorem sameInsts_nil (u v : Value) (w : World) (hu : RdsW w u 3 ([] : List Ix).length (([] : List Ix).flatMap ixC)) (hv : RdsW w v 3 ([] : List Ix).length (([] : List Ix).flatMap ixC)) :
   Calls Try.prog 77 #[u, v] w (Ans w (.bool true)) := by
 have hl0 : ([] : List Ix).length = 0 := rfl
 refine zca (N := 55) (args := [u, v]) Try.func77 rfl rfl (zbg 1 rfl (zag (zag (reQ 1 rfl (hvQ rfl (lnQ rfl rfl rfl (zaf hu)) (zam 1 rfl (hvQ rfl (lnQ rfl rfl rfl (zaf hv)) ?_)))))))
 refine zfq rfl rfl rfl rfl rfl rfl (fun h1 => absurd h1 (by omega)) (fun h1 => ?_)
 refine ntQ (zap rfl (zcv (zag (zbg 1 rfl (zaz ?_)))))
 refine lkQ1 (α := Nat) [0, 1, 4, 10] rfl (fun j => []) (fun j => [(5, .int .i64 (j : Int))]) (fun j => j = 0) (fun j => 0) 0 rfl (saQ rfl) (.slnil) ?_
 intro j hi2
 have hj := hi2
 refine zag (zag (reQ 2 rfl (hvQ rfl (lnQ rfl rfl rfl (zaf hu)) ?_)))
 refine zbq rfl rfl rfl rfl rfl rfl (fun h3 => absurd h3 (by omega)) (fun h3 => ?_)
 refine ntQ (zap rfl ?_)
 refine zbj (zeb ?_)
 refine zal (zba (zbg 1 rfl ?_))
 exact zao (zav rfl rfl rfl)
theorem sameModule_eq (a b : Md) (w : World) (hra : RdsMd w a) (hrb : RdsMd w b) (hs : SameM a b) :
   Calls Try.prog 30 #[.agg #[a.sv, a.av, a.iv, a.mv], .agg #[b.sv, b.av, b.iv, b.mv]] w (Ans w (.bool true)) := by
 refine zca (N := 31) (args := [.agg #[a.sv, a.av, a.iv, a.mv], .agg #[b.sv, b.av, b.iv, b.mv]]) Try.func30 rfl rfl (srQ ?_)
 refine zdn rfl (zdm rfl rfl) ?_
 intro b1
 refine zdn rfl (zdm rfl rfl) ?_
 intro b2
 refine zay 1 rfl (srQ (hvQ rfl (fdQ 0 rfl rfl rfl) (hvQ rfl (zac rfl rfl rfl (zaa 1 rfl rfl)) (hvQ rfl (fdQ 0 rfl rfl rfl) (hvQ rfl (zac rfl rfl rfl (zaa 0 rfl rfl)) ?_)))))
 refine zem rfl (zaw rfl rfl (fun w hm => zbf (sameSignals_eq a.ss _ _ w (hra.s.below hm.bel) (by have h9 := hrb.s.below hm.bel; rw [← hs.s] at h9; exact h9)))) (zam 1 rfl (hvQ rfl (fdQ 1 rfl rfl rfl) (hvQ rfl (zac rfl rfl rfl (zaa 1 rfl rfl)) (hvQ rfl (fdQ 1 rfl rfl rfl) (hvQ rfl (zac rfl rfl rfl (zaa 0 rfl rfl)) ?_)))))
 refine zem rfl (zaw rfl rfl (fun w hm => zbf (sameAssigns_eq a.gs b.gs _ _ w (hra.g.below hm.bel) (hrb.g.below hm.bel) (hra.o.below hm.bel) (hrb.o.below hm.bel) ⟨hs.len, hs.at⟩))) (zam 2 rfl (hvQ rfl (fdQ 2 rfl rfl rfl) (hvQ rfl (zac rfl rfl rfl (zaa 1 rfl rfl)) (hvQ rfl (fdQ 2 rfl rfl rfl) (hvQ rfl (zac rfl rfl rfl (zaa 0 rfl rfl)) ?_)))))
 refine zem rfl (zaw rfl rfl (fun w hm => zbf (sameInsts_nil _ _ w (by have h9 := hra.x.below hm.bel; rw [hs.x] at h9; exact h9) (by have h9 := hrb.x.below hm.bel; rw [hs.y] at h9; exact h9)))) (zam 2 rfl (hvQ rfl (fdQ 3 rfl rfl rfl) (hvQ rfl (zac rfl rfl rfl (zaa 1 rfl rfl)) (hvQ rfl (fdQ 3 rfl rfl rfl) (hvQ rfl (zac rfl rfl rfl (zaa 0 rfl rfl)) ?_)))))
 refine zem rfl (zaw rfl rfl (fun w hm => zbf (sameMems_eq a.ms _ _ w (hra.m.below hm.bel) (by have h9 := hrb.m.below hm.bel; rw [← hs.m] at h9; exact h9)))) (zay 2 rfl ?_)
 exact zao (zav rfl rfl rfl)
def tpF (k : Nat) (v : Value) : Value := match v with | .tuple xs => xs.getD k undef | _ => undef
def tbF (v : Value) : Bool := match v with | .tuple xs => (match xs.getD 1 undef with | .bool b => b | _ => false) | _ => false
theorem walk_FnFlatAgain (a0 : Option Addr) (len0 cap0 : Nat) (z0 : List Int) (w : World) (hbr : BRow .u8 w a0 len0 cap0 z0) :
   Calls Try.prog 6 #[.slice a0 len0 cap0] w (Ans w (.bool true)) := by
 refine zca (N := 76) (args := [.slice a0 len0 cap0]) Try.func6 rfl rfl (zbg 1 rfl (zag (zag (reQ 1 rfl ?_))))
 refine zem rfl (zaw rfl rfl (fun w hm => zbf (zek (big_any a0 len0 cap0 w (hbr.len_le))))) (zbm (fun h1 => ?_) (fun h1 => ?_))
 ·
  refine ntQ (zah rfl (zbg 1 rfl ?_))
  refine zao (zae ?_)
  exact zav rfl rfl rfl
 have hlen9 := of_decide_eq_false h1
 refine ntQ (zap rfl (zcv (zag (reQ 1 rfl ?_))))
 refine hl_q rfl rfl rfl (zaw rfl rfl (fun w hm => DrawDesign_ret a0 len0 cap0 z0 w (hbr.below hm.bel) (by omega))) ?_
 intro v2 p3 hR4
 obtain ⟨D, dv, x, dp, rfl, rfl, hdp, hdv1, hdd, hd1, hx1, hx3⟩ := hR4
 have hdes := hdd.ok hd1
 refine zam 3 rfl (zdn rfl (zbl (z := .agg #[.slice none 0 0]) rfl rfl) ?_)
 intro b5
 refine zbh (cs' := #[dv]) (i := 0) (off := 0) (us := [dv]) rfl rfl rfl rfl rfl rfl rfl (zab hdv1 zbc) rfl rfl rfl (zay 1 rfl (srQ (hvQ rfl (zax (cs := [dv]) rfl rfl rfl rfl rfl (zat 0 rfl 0 rfl)) (zam 1 rfl ?_))))
 refine hl_q rfl rfl rfl (zaw rfl rfl (fun w hm => specFlatten_ret D x dv w (hdp w (hm.holds _ (zcj (i := 1) rfl))))) ?_
 intro v6 p7 hR8
 obtain ⟨m1, om1, pm1, rfl, rfl, hpm1, hom1, hfm1, hym1, hnm1⟩ := hR8
 refine zam 3 rfl (zdn rfl (zbl (z := .agg #[.slice none 0 0, .slice none 0 0, .slice none 0 0, .slice none 0 0]) rfl rfl) ?_)
 intro b9
 refine zbh (cs' := #[m1.sv, m1.av, m1.iv, m1.mv]) (i := 0) (off := 0) (us := [m1.sv, m1.av, m1.iv, m1.mv]) rfl rfl rfl rfl rfl rfl rfl (zab hom1.1 (zab hom1.2.1 (zab hom1.2.2.1 (zab hom1.2.2.2 zbc)))) rfl rfl rfl (zay 1 rfl (srQ (hvQ rfl (zax (cs := [dv]) rfl rfl rfl rfl rfl (zat 2 rfl 0 rfl)) (zam 1 rfl ?_))))
 refine hl_q rfl rfl rfl (zaw rfl rfl (fun w hm => implFlatten_ret D x dv w (hdp w (hm.holds _ (zcj (i := 3) rfl))))) ?_
 intro v10 p11 hR12
 obtain ⟨m2, om2, pm2, rfl, rfl, hpm2, hom2, hfm2, hym2, hnm2⟩ := hR12
 refine zam 3 rfl (zdn rfl (zbl (z := .agg #[.slice none 0 0, .slice none 0 0, .slice none 0 0, .slice none 0 0]) rfl rfl) ?_)
 intro b13
 refine zbh (cs' := #[m2.sv, m2.av, m2.iv, m2.mv]) (i := 0) (off := 0) (us := [m2.sv, m2.av, m2.iv, m2.mv]) rfl rfl rfl rfl rfl rfl rfl (zab hom2.1 (zab hom2.2.1 (zab hom2.2.2.1 (zab hom2.2.2.2 zbc)))) rfl rfl rfl (zay 1 rfl (zfi ?_))
 have hsame : om2 = om1 := by
   cases h8 : om1
   · cases h7 : om2
     · rfl
     · obtain ⟨F, q1, q2⟩ := hym2 h7; exact absurd hfm2 ((hnm1 h8).2 F m2 q1 q2)
   · cases h7 : om2
     · obtain ⟨F, q1, q2⟩ := hym1 h8; exact absurd hfm1 ((hnm2 h7).2 F m1 q1 q2)
     · rfl
 refine zam 1 rfl (zbm (fun h14 => ?_) (fun h14 => ?_))
 ·
  refine zam 1 rfl (zbm (fun h15 => ?_) (fun h15 => ?_))
  ·
   refine hvQ rfl (rv_bneq (m := true) (n := true) rfl Try.underlying4 rfl rfl) (ntQ (zap rfl (zcv (zag (zag (reQ 1 rfl ?_))))))
   refine zbm (fun h16 => ?_) (fun h16 => absurd ((h15).symm.trans h16) (by decide))
   refine zay 1 rfl (zap rfl (zcv (zag ?_)))
   obtain ⟨F1, q1, q2⟩ := hym1 (by assumption)
   obtain ⟨F2, q3, q4⟩ := hym2 (hsame.trans (by assumption))
   have hss : m2.ss.length = m1.ss.length := by rw [q4.s, q2.s, q1.fn q3]
   have hcd0 := cod_le hbr 0
   refine hc_draw4 (l := [boxE b13 #[m2.sv, m2.av, m2.iv, m2.mv] 35, bigE pm2, boxE b9 #[m1.sv, m1.av, m1.iv, m1.mv] 35, bigE pm1, boxE b5 #[dv] 26, bigE dp]) rfl 13 [0, 1, 2, 3, 4, 5, 6, 7, 8, 9, 10, 11, 12] (List.take 13 _) (List.drop 13 _) [[], [0], [1], [], [3], [4], [5], [1, 2, 6], [7], [7, 8], [7, 8], [], [7, 9, 11]] [some 47, some 48, some 49, some 50, some 51, some 52, some 53, some 54, some 46, some 55, some 56, some 9, none] (fun i_ vs_ v_ p_ => match i_ with | 0 => v_ = .agg #[m2.sv, m2.av, m2.iv, m2.mv] ∧ p_ = [] | 1 => IsRow 35 4 1 ([m2.sv, m2.av, m2.iv, m2.mv]) v_ p_ | 2 => v_ = .agg #[(List.getD vs_ 0 undef)] ∧ p_ = [] | 3 => v_ = .slice a0 len0 cap0 ∧ p_ = [] | 4 => v_ = .int .i64 (cod z0 len0 0 : Int) ∧ p_ = [] | 5 => v_ = .int .i64 ((cod z0 len0 0 : Int) % 4) ∧ p_ = [] | 6 => v_ = .int .i64 (1 + ((cod z0 len0 0 : Int) % 4)) ∧ p_ = [] | 7 => (fun u_ p_ => ∃ (m : Md) (ok : Bool) (ps : List HP), u_ = .tuple #[m.agg, .bool ok] ∧ p_ = [bigE ps] ∧ (∀ w, (bigE ps).holds w → RdsMd w m) ∧ MdOne m ∧ FlP m ∧ (ok = true → ∃ F, FlzP [m2] (1 + ((cod z0 len0 0 : Int) % 4)) F ∧ MdF m F) ∧ (ok = false → m = md0 ∧ ∀ (F : Fz) (m' : Md), FlzP [m2] (1 + ((cod z0 len0 0 : Int) % 4)) F → MdF m' F → ¬ FlP m')) v_ p_ | 8 => v_ = .tuple #[.agg #[(agK 0 (tpF 0 (List.getD vs_ 0 undef))), (agK 1 (tpF 0 (List.getD vs_ 0 undef))), (agK 2 (tpF 0 (List.getD vs_ 0 undef))), (agK 3 (tpF 0 (List.getD vs_ 0 undef)))], .bool (tbF (List.getD vs_ 0 undef))] ∧ p_ = [] | 9 => v_ = .agg #[(agK 0 (tpF 0 (List.getD vs_ 0 undef))), (agK 1 (tpF 0 (List.getD vs_ 0 undef))), (agK 2 (tpF 0 (List.getD vs_ 0 undef))), (agK 3 (tpF 0 (List.getD vs_ 0 undef)))] ∧ p_ = [] | 10 => v_ = .bool (tbF (List.getD vs_ 0 undef)) ∧ p_ = [] | 11 => IsBox #[.slice none 0 0, .slice none 0 0, .slice none 0 0, .slice none 0 0] 35 v_ p_ | 12 => p_ = [boxE (blkOf (List.getD vs_ 2 undef)) #[(agK 0 (tpF 0 (List.getD vs_ 0 undef))), (agK 1 (tpF 0 (List.getD vs_ 0 undef))), (agK 2 (tpF 0 (List.getD vs_ 0 undef))), (agK 3 (tpF 0 (List.getD vs_ 0 undef)))] 35] | _ => True) [[], [0], [1], [], [3], [4], [5], [1, 2, 6], [7], [7, 8], [7, 8], [], [7, 9]] [none, none, none, none, none, none, none, none, none, none, none, none, some 11] [] [0, 1, 2, 3, 4, 5, 6, 7, 8, 9, 10, 12] 14 (List.take_append_drop 13 _).symm (by kernel_rfl) (by kernel_rfl) (by kernel_rfl) rfl rfl ?_ ?_
   ·
    refine ⟨?_, ?_, ?_, ?_, ?_, ?_, ?_, ?_, ?_, ?_, ?_, ?_, ?_, trivial⟩
    ·
     intro vf pf hmu hR
     refine zdw [] [] rfl (zbe (zar [7] rfl) (List.sublist_append_right _ _) ?_)
     exact zbt (zax (cs := [m2.sv, m2.av, m2.iv, m2.mv]) rfl rfl rfl rfl rfl (zat 0 rfl 0 rfl))
    ·
     intro vf pf hmu hR
     have e0 := hR 0 (by decide)
     refine zdw [0] [0] rfl (zbe (sk 47 (congrArg some e0.1) (zai _)) (List.sublist_append_right _ _) ?_)
     exact zak (z := .agg #[.slice none 0 0, .slice none 0 0, .slice none 0 0, .slice none 0 0]) (s := 4) (cs := [m2.sv, m2.av, m2.iv, m2.mv]) rfl Try.underlying24 rfl (by decide) rfl (by kernel_rfl) rfl
    ·
     intro vf pf hmu hR
     have e1 : IsRow 35 4 1 ([m2.sv, m2.av, m2.iv, m2.mv]) (vf 1) (pf 1) := hR 1 (by decide)
     obtain ⟨g17, vE1, pE1⟩ := e1
     refine zdw [1] [1] rfl (zcm (sk 48 (congrArg some vE1) (zai _)) (by simp only [pE1, vE1, fS] <;> rfl) ?_)
     exact zck (zbt (zbk (cs := #[.slice (some ⟨g17, 0, none⟩) 1 1]) rfl rfl rfl)) (fun _ _ h => ⟨h.1.trans (by show _ = (.agg #[(vf 1)] : Value); first | (rw [vE1]; done) | (rw [vE1]; rfl)), h.2⟩)
    ·
     intro vf pf hmu hR
     refine zdw [] [] rfl (zbo (zar [0] rfl) ?_)
     exact zbt (zau rfl)
    ·
     intro vf pf hmu hR
     have e3 := hR 3 (by decide)
     refine zdw [3] [3] rfl (zbe (sk 50 (congrArg some e3.1) (zai _)) (List.sublist_append_right _ _) ?_)
     exact (zaw rfl rfl (fun w hm => zbf (at_ans hbr 0 (by omega) w hm)))
    ·
     intro vf pf hmu hR
     have e4 := hR 4 (by decide)
     refine zdw [4] [4] rfl (zbo (sk 51 (congrArg some e4.1) (zai _)) ?_)
     exact zbt (rv_rem rfl rfl rfl (by constructor <;> omega))
    ·
     intro vf pf hmu hR
     have e5 := hR 5 (by decide)
     refine zdw [5] [5] rfl (zbo (sk 52 (congrArg some e5.1) (zai _)) ?_)
     exact zbt (vaQ rfl rfl rfl)
    ·
     intro vf pf hmu hR
     have e1 : IsRow 35 4 1 ([m2.sv, m2.av, m2.iv, m2.mv]) (vf 1) (pf 1) := hR 1 (by decide)
     obtain ⟨g17, vE1, pE1⟩ := e1
     have e2 : (vf 2) = .agg #[(vf 1)] ∧ (pf 2) = [] := hR 2 (by decide)
     rw [vE1] at e2
     have e6 := hR 6 (by decide)
     refine zdw [1, 2, 6] [1, 2, 6] rfl (zcm (sk 49 (congrArg some e2.1) (sk 53 (congrArg some e6.1) (zai _))) (by simp only [pE1, vE1, e2.2, e6.2, fS] <;> rfl) ?_)
     exact zaw rfl rfl (fun w hm => implFlatten_ret [m2] (1 + ((cod z0 len0 0 : Int) % 4)) (.slice (some ⟨g17, 0, none⟩) 1 1) w ⟨zaj 0 rfl w hm, fun m9 hm9 => by rw [List.mem_singleton] at hm9; subst hm9; exact (hpm2 w (hm.holds _ (zcj (i := 2) rfl)))⟩)
    ·
     intro vf pf hmu hR
     have e7 : (fun u_ p_ => ∃ (m : Md) (ok : Bool) (ps : List HP), u_ = .tuple #[m.agg, .bool ok] ∧ p_ = [bigE ps] ∧ (∀ w, (bigE ps).holds w → RdsMd w m) ∧ MdOne m ∧ FlP m ∧ (ok = true → ∃ F, FlzP [m2] (1 + ((cod z0 len0 0 : Int) % 4)) F ∧ MdF m F) ∧ (ok = false → m = md0 ∧ ∀ (F : Fz) (m' : Md), FlzP [m2] (1 + ((cod z0 len0 0 : Int) % 4)) F → MdF m' F → ¬ FlP m')) (vf 7) (pf 7) := hR 7 (by decide)
     obtain ⟨v18, vE7⟩ : ∃ x, vf 7 = x := ⟨_, rfl⟩
     obtain ⟨p19, pE7⟩ : ∃ x, pf 7 = x := ⟨_, rfl⟩
     have hR20 := e7
     rw [vE7, pE7] at hR20
     obtain ⟨m3, om3, pm3, rfl, rfl, hpm3, hom3, hfm3, hym3, hnm3⟩ := hR20
     refine zdw [7] [7] rfl (zcm (sk 54 (congrArg some vE7) (zai _)) (by simp only [pE7, vE7, fS] <;> rfl) ?_)
     exact zck (zbt (zau rfl)) (fun _ _ h => ⟨h.1.trans (by show _ = (.tuple #[.agg #[(agK 0 (tpF 0 (vf 7))), (agK 1 (tpF 0 (vf 7))), (agK 2 (tpF 0 (vf 7))), (agK 3 (tpF 0 (vf 7)))], .bool (tbF (vf 7))] : Value); first | (rw [vE7]; done) | (rw [vE7]; rfl)), h.2⟩)
    ·
     intro vf pf hmu hR
     have e7 : (fun u_ p_ => ∃ (m : Md) (ok : Bool) (ps : List HP), u_ = .tuple #[m.agg, .bool ok] ∧ p_ = [bigE ps] ∧ (∀ w, (bigE ps).holds w → RdsMd w m) ∧ MdOne m ∧ FlP m ∧ (ok = true → ∃ F, FlzP [m2] (1 + ((cod z0 len0 0 : Int) % 4)) F ∧ MdF m F) ∧ (ok = false → m = md0 ∧ ∀ (F : Fz) (m' : Md), FlzP [m2] (1 + ((cod z0 len0 0 : Int) % 4)) F → MdF m' F → ¬ FlP m')) (vf 7) (pf 7) := hR 7 (by decide)
     obtain ⟨v18, vE7⟩ : ∃ x, vf 7 = x := ⟨_, rfl⟩
     obtain ⟨p19, pE7⟩ : ∃ x, pf 7 = x := ⟨_, rfl⟩
     have hR20 := e7
     rw [vE7, pE7] at hR20
     obtain ⟨m3, om3, pm3, rfl, rfl, hpm3, hom3, hfm3, hym3, hnm3⟩ := hR20
     have e8 : (vf 8) = .tuple #[.agg #[(agK 0 (tpF 0 (vf 7))), (agK 1 (tpF 0 (vf 7))), (agK 2 (tpF 0 (vf 7))), (agK 3 (tpF 0 (vf 7)))], .bool (tbF (vf 7))] ∧ (pf 8) = [] := hR 8 (by decide)
     rw [vE7] at e8
     refine zdw [7, 8] [7, 8] rfl (zcm (sk 46 (congrArg some e8.1) (zai _)) (by simp only [pE7, vE7, e8.2, fS] <;> rfl) ?_)
     exact zck (zbt (zau rfl)) (fun _ _ h => ⟨h.1.trans (by show _ = (.agg #[(agK 0 (tpF 0 (vf 7))), (agK 1 (tpF 0 (vf 7))), (agK 2 (tpF 0 (vf 7))), (agK 3 (tpF 0 (vf 7)))] : Value); first | (rw [vE7]; done) | (rw [vE7]; rfl)), h.2⟩)
    ·
     intro vf pf hmu hR
     have e7 : (fun u_ p_ => ∃ (m : Md) (ok : Bool) (ps : List HP), u_ = .tuple #[m.agg, .bool ok] ∧ p_ = [bigE ps] ∧ (∀ w, (bigE ps).holds w → RdsMd w m) ∧ MdOne m ∧ FlP m ∧ (ok = true → ∃ F, FlzP [m2] (1 + ((cod z0 len0 0 : Int) % 4)) F ∧ MdF m F) ∧ (ok = false → m = md0 ∧ ∀ (F : Fz) (m' : Md), FlzP [m2] (1 + ((cod z0 len0 0 : Int) % 4)) F → MdF m' F → ¬ FlP m')) (vf 7) (pf 7) := hR 7 (by decide)
     obtain ⟨v18, vE7⟩ : ∃ x, vf 7 = x := ⟨_, rfl⟩
     obtain ⟨p19, pE7⟩ : ∃ x, pf 7 = x := ⟨_, rfl⟩
     have hR20 := e7
     rw [vE7, pE7] at hR20
     obtain ⟨m3, om3, pm3, rfl, rfl, hpm3, hom3, hfm3, hym3, hnm3⟩ := hR20
     have e8 : (vf 8) = .tuple #[.agg #[(agK 0 (tpF 0 (vf 7))), (agK 1 (tpF 0 (vf 7))), (agK 2 (tpF 0 (vf 7))), (agK 3 (tpF 0 (vf 7)))], .bool (tbF (vf 7))] ∧ (pf 8) = [] := hR 8 (by decide)
     rw [vE7] at e8
     refine zdw [7, 8] [7, 8] rfl (zcm (sk 46 (congrArg some e8.1) (zai _)) (by simp only [pE7, vE7, e8.2, fS] <;> rfl) ?_)
     exact zck (zbt (zau rfl)) (fun _ _ h => ⟨h.1.trans (by show _ = (.bool (tbF (vf 7)) : Value); first | (rw [vE7]; done) | (rw [vE7]; rfl)), h.2⟩)
    ·
     intro vf pf hmu hR
     refine zdw [] [] rfl (zbe (zai _) (List.sublist_append_right _ _) ?_)
     exact zbl (z := .agg #[.slice none 0 0, .slice none 0 0, .slice none 0 0, .slice none 0 0]) rfl rfl
    intro vf pf hmu hR
    have e7 : (fun u_ p_ => ∃ (m : Md) (ok : Bool) (ps : List HP), u_ = .tuple #[m.agg, .bool ok] ∧ p_ = [bigE ps] ∧ (∀ w, (bigE ps).holds w → RdsMd w m) ∧ MdOne m ∧ FlP m ∧ (ok = true → ∃ F, FlzP [m2] (1 + ((cod z0 len0 0 : Int) % 4)) F ∧ MdF m F) ∧ (ok = false → m = md0 ∧ ∀ (F : Fz) (m' : Md), FlzP [m2] (1 + ((cod z0 len0 0 : Int) % 4)) F → MdF m' F → ¬ FlP m')) (vf 7) (pf 7) := hR 7 (by decide)
    obtain ⟨v18, vE7⟩ : ∃ x, vf 7 = x := ⟨_, rfl⟩
    obtain ⟨p19, pE7⟩ : ∃ x, pf 7 = x := ⟨_, rfl⟩
    have hR20 := e7
    rw [vE7, pE7] at hR20
    obtain ⟨m3, om3, pm3, rfl, rfl, hpm3, hom3, hfm3, hym3, hnm3⟩ := hR20
    have e9 : (vf 9) = .agg #[(agK 0 (tpF 0 (vf 7))), (agK 1 (tpF 0 (vf 7))), (agK 2 (tpF 0 (vf 7))), (agK 3 (tpF 0 (vf 7)))] ∧ (pf 9) = [] := hR 9 (by decide)
    rw [vE7] at e9
    have e11 : IsBox #[.slice none 0 0, .slice none 0 0, .slice none 0 0, .slice none 0 0] 35 (vf 11) (pf 11) := hR 11 (by decide)
    obtain ⟨b21, vE11, pE11⟩ := e11
    refine Or.inl ⟨rfl, ?_⟩
    show RunM _ _ _ (pf 11) (([7, 9] : List Nat).flatMap pf ++ _) (envOf3 _ vf [7, 9, 11] ++ _) _ _
    rw [pE11]
    exact zda (sk 9 (congrArg some vE11) (sk 55 (congrArg some e9.1) (zai _))) (by simp only [pE7, vE7, e9.2, fS] <;> rfl) (rm_mono (rm_storeBoxN (us := [m3.sv, m3.av, m3.iv, m3.mv]) (off := 0) 0 rfl rfl rfl rfl rfl rfl (zab hom3.1 (zab hom3.2.1 (zab hom3.2.2.1 (zab hom3.2.2.2 zbc)))) rfl rfl) (fun v_ p_ h => by show p_ = [boxE (blkOf (vf 11)) #[(agK 0 (tpF 0 (vf 7))), (agK 1 (tpF 0 (vf 7))), (agK 2 (tpF 0 (vf 7))), (agK 3 (tpF 0 (vf 7)))] 35]; rw [vE7, vE11]; exact h))
   intro vf pf hmu hR
   have e1 : IsRow 35 4 1 ([m2.sv, m2.av, m2.iv, m2.mv]) (vf 1) (pf 1) := hR 1 (by decide)
   obtain ⟨g17, vE1, pE1⟩ := e1
   have e7 : (fun u_ p_ => ∃ (m : Md) (ok : Bool) (ps : List HP), u_ = .tuple #[m.agg, .bool ok] ∧ p_ = [bigE ps] ∧ (∀ w, (bigE ps).holds w → RdsMd w m) ∧ MdOne m ∧ FlP m ∧ (ok = true → ∃ F, FlzP [m2] (1 + ((cod z0 len0 0 : Int) % 4)) F ∧ MdF m F) ∧ (ok = false → m = md0 ∧ ∀ (F : Fz) (m' : Md), FlzP [m2] (1 + ((cod z0 len0 0 : Int) % 4)) F → MdF m' F → ¬ FlP m')) (vf 7) (pf 7) := hR 7 (by decide)
   obtain ⟨v18, vE7⟩ : ∃ x, vf 7 = x := ⟨_, rfl⟩
   obtain ⟨p19, pE7⟩ : ∃ x, pf 7 = x := ⟨_, rfl⟩
   have hR20 := e7
   rw [vE7, pE7] at hR20
   obtain ⟨m3, om3, pm3, rfl, rfl, hpm3, hom3, hfm3, hym3, hnm3⟩ := hR20
   have e10 : (vf 10) = .bool (tbF (vf 7)) ∧ (pf 10) = [] := hR 10 (by decide)
   rw [vE7] at e10
   have e11 : IsBox #[.slice none 0 0, .slice none 0 0, .slice none 0 0, .slice none 0 0] 35 (vf 11) (pf 11) := hR 11 (by decide)
   obtain ⟨b21, vE11, pE11⟩ := e11
   have e12 : (pf 12) = [boxE (blkOf (vf 11)) #[(agK 0 (tpF 0 (vf 7))), (agK 1 (tpF 0 (vf 7))), (agK 2 (tpF 0 (vf 7))), (agK 3 (tpF 0 (vf 7)))] 35] := hR 12 (by decide)
   rw [vE7, vE11] at e12
   have pE12 := e12
   have q0 := hR 0 (by decide)
   have q2 := hR 2 (by decide)
   have q3 := hR 3 (by decide)
   have q4 := hR 4 (by decide)
   have q5 := hR 5 (by decide)
   have q6 := hR 6 (by decide)
   have q8 := hR 8 (by decide)
   have q9 := hR 9 (by decide)
   have q10 := hR 10 (by decide)
   refine zdf (zci [8, 7, 6, 5, 4, 3, 2, 0] _ (sk 9 (congrArg some vE11) (zci [34, 32, 12] _ (sk 56 (congrArg some e10.1) (zai _)) rfl)) rfl) (by simp only [pE1, vE1, pE7, vE7, pE12, q0.2, q2.2, q3.2, q4.2, q5.2, q6.2, q8.2, q9.2, q10.2, fS] <;> rfl) ?_
   simp only [List.drop_succ_cons, List.drop_zero]
   refine zay 1 rfl (srQ ?_)
   have hom3 : om3 = true := by
     cases h7 : om3
     · exact absurd hfm2 ((hnm3 h7).2 _ m2 (flz_self hfm2 (by omega)) hfm2.self)
     · rfl
   obtain ⟨F3, q5, q6⟩ := hym3 hom3
   have hsm : SameM m2 m3 := by
     have e9 := q5.fn (flz_self hfm2 (by omega)); subst e9; exact hfm2.self.same q6
   refine hvQ rfl (zax (cs := [m2.sv, m2.av, m2.iv, m2.mv]) rfl rfl rfl rfl rfl (zat 3 rfl 0 rfl)) (zem rfl (zaw rfl rfl (fun w hm => zbf (by have h9 := zfs m2 w (hpm2 w (hm.holds _ (zcj (i := 4) rfl))); rw [zdi hfm2] at h9; exact h9))) ?_)
   refine zam 2 rfl (zbm (fun h22 => ?_) (fun h22 => absurd ((hom3).symm.trans h22) (by decide)))
   refine zam 2 rfl (hvQ rfl (zax (cs := [m2.sv, m2.av, m2.iv, m2.mv]) rfl rfl rfl rfl rfl (zat 3 rfl 0 rfl)) (hvQ rfl (zax (cs := [m3.sv, m3.av, m3.iv, m3.mv]) rfl rfl rfl rfl rfl (zat 2 rfl 0 rfl)) ?_))
   refine zem rfl (zaw rfl rfl (fun w hm => zbf (sameModule_eq m2 m3 w (hpm2 w (hm.holds _ (zcj (i := 4) rfl))) (hpm3 w (hm.holds _ (zcj (i := 1) rfl))) hsm))) (zam 2 rfl (hvQ rfl (fdQ 0 rfl rfl rfl) (hvQ rfl (zac rfl rfl rfl (zaa 3 rfl rfl)) ?_)))
   refine hvQ rfl (lnQ rfl rfl rfl (fun w hm => ((hpm2 w (hm.holds _ (zcj (i := 4) rfl)))).s)) (hvQ rfl (fdQ 0 rfl rfl rfl) (hvQ rfl (zac rfl rfl rfl (zaa 5 rfl rfl)) ?_))
   refine hvQ rfl (lnQ rfl rfl rfl (fun w hm => ((hpm1 w (hm.holds _ (zcj (i := 6) rfl)))).s)) (zbu rfl rfl rfl rfl rfl rfl (fun h23 => ?_) (fun h23 => ?_))
   ·
    refine zay 2 rfl ?_
    exact zao (zav rfl rfl rfl)
   refine zay 2 rfl ?_
   refine zao ?_
   exfalso; first | omega | exact absurd ((show om2 = true by assumption).symm.trans (hsame.trans (show om1 = false by assumption))) (by decide) | exact absurd ((show om2 = false by assumption).symm.trans (hsame.trans (show om1 = true by assumption))) (by decide)
  refine hvQ rfl (rv_bneq (m := true) (n := false) rfl Try.underlying4 rfl rfl) (ntQ (zah rfl (zbg 1 rfl ?_)))
  refine zao (zae ?_)
  exfalso; first | omega | exact absurd ((show om2 = true by assumption).symm.trans (hsame.trans (show om1 = false by assumption))) (by decide) | exact absurd ((show om2 = false by assumption).symm.trans (hsame.trans (show om1 = true by assumption))) (by decide)
 refine zam 1 rfl (zbm (fun h24 => ?_) (fun h24 => ?_))
 ·
  refine hvQ rfl (rv_bneq (m := false) (n := true) rfl Try.underlying4 rfl rfl) (ntQ (zah rfl (zbg 1 rfl ?_)))
  refine zao (zae ?_)
  exfalso; first | omega | exact absurd ((show om2 = true by assumption).symm.trans (hsame.trans (show om1 = false by assumption))) (by decide) | exact absurd ((show om2 = false by assumption).symm.trans (hsame.trans (show om1 = true by assumption))) (by decide)
 refine hvQ rfl (rv_bneq (m := false) (n := false) rfl Try.underlying4 rfl rfl) (ntQ (zap rfl (zcv (zag (zag (reQ 1 rfl ?_))))))
 refine zbm (fun h25 => absurd ((h24).symm.trans h25) (by decide)) (fun h25 => ?_)
 refine zay 1 rfl (zah rfl (srQ ?_))
 obtain ⟨e9, -⟩ := hnm2 (hsame.trans (by assumption))
 have hms : m2.ss.length = 0 := by rw [e9]; rfl
 refine hvQ rfl (fdQ 0 rfl rfl rfl) (hvQ rfl (zac rfl rfl rfl (zaa 0 rfl rfl)) ?_)
 refine hvQ rfl (lnQ rfl rfl rfl (fun w hm => ((hpm2 w (hm.holds _ (zcj (i := 1) rfl)))).s)) (zbu rfl rfl rfl rfl rfl rfl (fun h26 => ?_) (fun h26 => ?_))
 ·
  refine zam 1 rfl (hvQ rfl (zbk (cs := #[.int .i64 0, .int .i64 0, .slice none 0 0]) rfl rfl rfl) ?_)
  refine zea rfl (zak (z := .agg #[.int .i64 0, .int .i64 0, .slice none 0 0]) (s := 3) (cs := [.int .i64 0, .int .i64 0, .slice none 0 0]) rfl Try.underlying32 rfl (by decide) rfl (by kernel_rfl) rfl) ?_
  intro g27
  refine hvQ rfl (zbk (cs := #[.slice none 0 0, .slice none 0 0, .slice (some ⟨g27, 0, none⟩) 1 1, .slice none 0 0]) rfl rfl rfl) (zem rfl (zaw rfl rfl (fun w hm => zbf (by have h9 := zfs (oneX (.slice (some ⟨g27, 0, none⟩) 1 1)) w ⟨nilW w 3, nilW w 2, OpsR.nil w, zaj 0 rfl w hm, fun g9 hg9 => by (rw [List.mem_singleton.1 hg9]; exact nilW w 1), nilW w 4⟩; rw [zbv (oneX_no _)] at h9; exact h9))) ?_)
  refine zay 3 rfl ?_
  refine zao (zae ?_)
  exact zav rfl rfl rfl
 refine zay 8 rfl ?_
 refine zao (zae ?_)
 exfalso; first | omega | exact absurd ((show om2 = true by assumption).symm.trans (hsame.trans (show om1 = false by assumption))) (by decide) | exact absurd ((show om2 = false by assumption).symm.trans (hsame.trans (show om1 = true by assumption))) (by decide)
end Go.Proofs.Ytodiifjigjnalaa
