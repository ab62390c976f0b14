/- Texts of the law FnInputBits, part 6: what it uses. -/
import Derived.Test.YtodiifjigjnalaaInb5
set_option linter.unusedVariables false
set_option linter.unusedSimpArgs false
set_option maxHeartbeats 4000000
set_option maxRecDepth 100000
namespace Go.Proofs.Ytodiifjigjnalaa
open Go.RowKit Go.ChangeShapes
open Go.RowKit
def FlzP (D : List Md) (p : Int) (F : Fz) : Prop := DesP D ∧ (1 ≤ p ∧ p ≤ 4) ∧ addF D D.length (D.length - 1) p false [] fz0 = some F
theorem RdsMd.zero (w : World) : RdsMd w md0 := ⟨nilW w 3, nilW w 2, OpsR.nil w, nilW w 3, PtsR.nil w, nilW w 4⟩
theorem md0_one : MdOne md0 := ⟨rfl, rfl, rfl, rfl⟩
structure SameM (a b : Md) : Prop where
  s : a.ss = b.ss
  g : a.gs.map asV = b.gs.map asV
  x : a.xs = []
  y : b.xs = []
  m : a.ms = b.ms
theorem MdF.same {a b : Md} {F : Fz} (h : MdF a F) (k : MdF b F) : SameM a b := ⟨h.s.trans k.s.symm, h.g.trans k.g.symm, h.x, k.x, h.m.trans k.m.symm⟩
theorem SameM.len {a b : Md} (h : SameM a b) : a.gs.length = b.gs.length := by have := congrArg List.length h.g; rwa [List.length_map, List.length_map] at this
theorem SameM.at {a b : Md} (h : SameM a b) (i : Nat) : (a.gs.getD i as0).t = (b.gs.getD i as0).t ∧ (a.gs.getD i as0).os = (b.gs.getD i as0).os := by
  have h1 : asV (a.gs.getD i as0) = asV (b.gs.getD i as0) := by
    have e : ∀ L : List As, asV (L.getD i as0) = (L.map asV).getD i (asV as0) := fun L => by
      rw [List.getD_eq_getElem?_getD, List.getD_eq_getElem?_getD, List.getElem?_map]
      cases L[i]? <;> rfl
    rw [e, e, h.g]
  exact ⟨congrArg Prod.fst h1, congrArg Prod.snd h1⟩
theorem SameM.tgts {a b : Md} (h : SameM a b) : a.gs.map As.t = b.gs.map As.t := by
  have h1 := congrArg (List.map Prod.fst) h.g
  rw [List.map_map, List.map_map] at h1; exact h1
theorem SameM.knd {a b : Md} (h : SameM a b) (s : Int) : knd a s = knd b s := by unfold Go.Proofs.Ytodiifjigjnalaa.knd; rw [h.s]
theorem SameM.des {a b : Md} (h : SameM a b) (k : DesP [a]) : DesP [b] := by
  have hm := k.2 0 (by simp)
  have hl : LenP a := k.len1
  have hc : CntP [b] := ⟨by simp, fun q hq => by
    obtain rfl : q = 0 := by have : q < 1 := hq; omega
    have h1 := hl.1; have h2 := hl.2.1; have h3 := hl.2.2.2
    rw [h.s] at h1; rw [h.len] at h2; rw [h.m] at h3
    exact ⟨h1, h2, (by show b.xs.length ≤ 3; rw [h.y]; exact Nat.zero_le _), h3⟩⟩
  have nox : ∀ {n : Nat}, n < b.xs.length → False := fun hn => by rw [h.y] at hn; exact absurd hn (Nat.not_lt_zero _)
  refine ⟨⟨by simp, by simp⟩, fun q hq => ?_⟩
  obtain rfl : q = 0 := by have : q < 1 := hq; omega
  refine ⟨hq, hc, fun i hi => (nox hi).elim, fun i hi => ?_, fun i hi => ?_, fun i hi => (nox hi).elim, fun i hi => ?_, fun s hs h0 => ?_⟩
  · have h1 : i < a.ss.length := by rw [h.s]; exact hi
    have h2 := hm.sg i h1
    have h3 : SgP (a.ss.getD i sg0) := h2
    rw [h.s] at h3; exact h3
  · have h1 : i < a.gs.length := by rw [h.len]; exact hi
    obtain ⟨h2, h3⟩ : AsP a (a.gs.getD i as0) := hm.gs i h1
    rw [h.knd, (h.at i).1] at h2
    rw [h.s, (h.at i).2] at h3
    exact ⟨h2, h3⟩
  · have h1 : i < a.ms.length := by rw [h.m]; exact hi
    have h2 : MmP a (a.ms.getD i mm0) := hm.ms i h1
    unfold MmP Inn Drv at h2
    rw [h.knd, h.s, h.m] at h2; exact h2
  · have h1 : s < a.ss.length := by rw [h.s]; exact hs
    have h2 : (a.ss.getD s sg0).k ≠ 0 → (drvL [a] a).count (s : Int) = 1 := hm.dr s h1
    have e : drvL [b] b = drvL [a] a := by unfold drvL; rw [h.x, h.y, h.tgts, h.m]; rfl
    show (drvL [b] b).count _ = 1
    rw [e]; exact h2 (by rw [h.s]; exact h0)
theorem SameM.todo {a b : Md} (h : SameM a b) : ∀ i, todoA a i = todoA b i
  | 0 => rfl
  | i + 1 => by
    show todoA a i ++ (if _ then _ else _) = todoA b i ++ (if _ then _ else _)
    rw [h.todo i, h.s, (h.at i).1]
theorem SameM.can {a b : Md} (h : SameM a b) {T : List Int} (k : Can a T) : Can b T := by
  obtain ⟨f, hf⟩ := k
  exact ⟨f, fun x hx y hy hr => hf x hx y hy (by rw [(h.at _).2, (h.at _).1]; exact hr)⟩
theorem SameM.eo {a b : Md} (h : SameM a b) (k : EoP a) : EoP b := ⟨by rw [h.y]; rfl, h.des k.2.1, by rw [← h.todo, ← h.len]; exact h.can k.2.2⟩
theorem SameM.mo {a b : Md} (h : SameM a b) : ∀ i, moA a i = moA b i
  | 0 => rfl
  | i + 1 => by
    show moA a i + _ = moA b i + _
    rw [h.mo i, h.s, h.m]
theorem SameM.pw {a b : Md} (h : SameM a b) (c : Int) : pwK a c = pwK b c := by unfold pwK; rw [h.s]
theorem SameM.fl {a b : Md} (h : SameM a b) (k : FlP a) : FlP b := ⟨h.eo k.eo, fun s hs => by rw [← h.s] at hs ⊢; exact k.wid s hs, fun i hi => by rw [← h.len] at hi; rw [← (h.at i).2]; exact k.par i hi, fun i hi => by
  rw [← h.m] at hi
  have h1 := k.mem i hi
  unfold MwP at h1 ⊢
  rw [h.s, h.m] at h1; exact h1, by rw [← h.pw]; exact k.ins, by rw [← h.pw]; exact k.outs, by rw [← h.pw, ← h.m, ← h.mo]; exact k.bits⟩
theorem l06Waits_ans (os : List Oq) (tk : List Bl) (v u : Value) (w : World) (hv : RdsW w v 3 os.length (os.flatMap oqC)) (hu : RdsW w u 1 tk.length (tk.flatMap blC)) (hb : ∀ i, i < os.length → ((os.getD i oq0).k = 2 ∨ (os.getD i oq0).k = 3) → 0 ≤ (os.getD i oq0).a ∧ (os.getD i oq0).a < tk.length) :
   Calls Try.prog 154 #[v, u] w (Ans w (.bool (pB (WtP os tk)))) := by
 have hv9 := sml hv
 refine zca (N := 36) (args := [v, u]) Try.func154 rfl rfl (zbf 1 rfl (zag (zbf 1 rfl ?_)))
 refine zaz ?_
 refine lkQ1 (α := Nat) [0, 1, 4] rfl (fun i => []) (fun i => [(5, .int .i64 (i : Int))]) (fun i => i ≤ os.length ∧ ∀ q, q < i → ¬ (((os.getD q oq0).k = 2 ∨ (os.getD q oq0).k = 3) ∧ (tk.getD (os.getD q oq0).a.toNat bl0).b = true)) (fun i => os.length - i) 0 ⟨Nat.zero_le _, fun q hq => absurd hq (by omega)⟩ (saQ rfl) (.slnil) ?_
 intro i hi1
 obtain ⟨hi, hall⟩ := hi1
 refine zag (zag (reQ 2 rfl (hvQ rfl (lnQ rfl rfl rfl (zae hv)) ?_)))
 refine zbq rfl rfl rfl rfl rfl rfl (fun h2 => ?_) (fun h2 => ?_)
 ·
  refine ntQ (zai rfl (zcy (sbQ (srQ ?_))))
  have hai := hb i (by omega)
  refine zah 2 rfl (hvQ rfl (riQ 3 rfl rfl rfl rfl (zae hv)) (hvQ rfl (zau (k0 := 0) rfl rfl rfl (zae hv) (by omega)) ?_))
  refine hvQ rfl (zam (u := .int .i64 ((os.getD i oq0).k)) rfl rfl rfl (zae hv) ((zbi oqC 3 (fun _ => rfl) os oq0 (show i < _ by omega) (by decide)).trans rfl)) (zbt rfl rfl rfl rfl rfl rfl (fun h3 => ?_) (fun h3 => ?_))
  ·
   refine zah 12 rfl (hvQ rfl (riQ 3 rfl rfl rfl rfl (zae hv)) (hvQ rfl (zau (k0 := 1) rfl rfl rfl (zae hv) (by omega)) ?_))
   refine hvQ rfl (zam (u := .int .i64 ((os.getD i oq0).a)) rfl rfl rfl (zae hv) ((zbi oqC 3 (fun _ => rfl) os oq0 (show i < _ by omega) (by decide)).trans rfl)) (hvQ rfl (riQ 1 rfl rfl rfl rfl (zae hu)) ?_)
   refine hvQ rfl (zam (u := .bool ((tk.getD (((os.getD i oq0).a).toNat) bl0).b)) rfl rfl rfl (zae hu) (zer blC (fun r => .bool r.b) (fun _ => rfl) tk bl0 (show ((os.getD i oq0).a).toNat < _ by omega))) (zbs (fun h4 => ?_) (fun h4 => ?_))
   ·
    refine zbb 1 rfl (zai rfl (zbf 1 rfl ?_))
    refine zap (zac ?_)
    refine zdy ?_
    refine zac (zaf ?_)
    exact zay rfl rfl (congrArg _ (zdl ⟨i, by omega, by omega, by assumption⟩).symm)
   refine zbb 1 rfl (fsQ rfl (zde (reQ 1 rfl (hvQ rfl (vaQ rfl rfl rfl) (enQ 1 rfl ?_)))))
   exact zbw (i + 1) ⟨by omega, fun q hq => by by_cases e : q = i; (subst e; exact fun h9 => by first | (have h8 := h9.1; omega) | exact absurd h9.2 (by rw [Bool.not_eq_true]; assumption)); exact hall q (by omega)⟩ (by omega) (saQ rfl) (.slnil)
  refine zah 3 rfl (hvQ rfl (riQ 3 rfl rfl rfl rfl (zae hv)) (hvQ rfl (zau (k0 := 0) rfl rfl rfl (zae hv) (by omega)) ?_))
  refine hvQ rfl (zam (u := .int .i64 ((os.getD i oq0).k)) rfl rfl rfl (zae hv) ((zbi oqC 3 (fun _ => rfl) os oq0 (show i < _ by omega) (by decide)).trans rfl)) (zbt rfl rfl rfl rfl rfl rfl (fun h5 => ?_) (fun h5 => ?_))
  ·
   refine zah 5 rfl (hvQ rfl (riQ 3 rfl rfl rfl rfl (zae hv)) (hvQ rfl (zau (k0 := 1) rfl rfl rfl (zae hv) (by omega)) ?_))
   refine hvQ rfl (zam (u := .int .i64 ((os.getD i oq0).a)) rfl rfl rfl (zae hv) ((zbi oqC 3 (fun _ => rfl) os oq0 (show i < _ by omega) (by decide)).trans rfl)) (hvQ rfl (riQ 1 rfl rfl rfl rfl (zae hu)) ?_)
   refine hvQ rfl (zam (u := .bool ((tk.getD (((os.getD i oq0).a).toNat) bl0).b)) rfl rfl rfl (zae hu) (zer blC (fun r => .bool r.b) (fun _ => rfl) tk bl0 (show ((os.getD i oq0).a).toNat < _ by omega))) (zbs (fun h6 => ?_) (fun h6 => ?_))
   ·
    refine zbb 1 rfl (zai rfl (zbf 1 rfl ?_))
    refine zap (zac ?_)
    refine zdy ?_
    refine zac (zaf ?_)
    exact zay rfl rfl (congrArg _ (zdl ⟨i, by omega, by omega, by assumption⟩).symm)
   refine zbb 1 rfl (fsQ rfl (zde (reQ 1 rfl (hvQ rfl (vaQ rfl rfl rfl) (enQ 1 rfl ?_)))))
   exact zbw (i + 1) ⟨by omega, fun q hq => by by_cases e : q = i; (subst e; exact fun h9 => by first | (have h8 := h9.1; omega) | exact absurd h9.2 (by rw [Bool.not_eq_true]; assumption)); exact hall q (by omega)⟩ (by omega) (saQ rfl) (.slnil)
  refine zbb 11 rfl (fsQ rfl (zde ?_))
  refine reQ 1 rfl (hvQ rfl (vaQ rfl rfl rfl) (enQ 1 rfl ?_))
  exact zbw (i + 1) ⟨by omega, fun q hq => by by_cases e : q = i; (subst e; exact fun h9 => by first | (have h8 := h9.1; omega) | exact absurd h9.2 (by rw [Bool.not_eq_true]; assumption)); exact hall q (by omega)⟩ (by omega) (saQ rfl) (.slnil)
 refine ntQ (zar rfl ?_)
 refine zbl (zdx ?_)
 refine zan (zaq (zbf 1 rfl ?_))
 exact zap (zay rfl rfl (congrArg _ (zcd (fun hp => by first | (obtain ⟨q, h1, h2⟩ := hp; exact hall q (by omega) h2))).symm))
theorem specEvalOrder_ret (m : Md) (w : World) (hr : RdsMd w m) :
   Calls Try.prog 117 #[.agg #[m.sv, m.av, m.iv, m.mv]] w (Ret w (fun u_ p_ => ∃ v, u_ = .tuple #[v, .bool (pB (EoP m))] ∧ p_ = [])) := by
 have hs9 := sml hr.s
 have hg9 := sml hr.g
 have hx9 := sml hr.x
 refine zca (N := 108) (args := [.agg #[m.sv, m.av, m.iv, m.mv]]) Try.func117 rfl rfl (srQ ?_)
 refine zdm rfl (zdk rfl rfl) ?_
 intro b1
 refine zbb 2 rfl (srQ ?_)
 refine zdt rfl (zdo (s := 1) rfl Try.underlying48 rfl) ?_
 intro g2
 refine zbb 1 rfl (zfn (hvQ rfl (fdQ 2 rfl rfl rfl) (hvQ rfl (zad rfl rfl rfl (zaa 1 rfl rfl)) (hvQ rfl (lnQ rfl rfl rfl (zae ((hr).x))) ?_))))
 refine zeb rfl rfl rfl rfl rfl rfl (fun h3 => ?_) (fun h3 => ?_)
 ·
  refine zbb 7 rfl (zai rfl (zag (reQ 3 rfl (?_))))
  refine ntQ ?_
  refine zap (zaf ?_)
  have hE : ¬ EoP m := fun hp => by first | (have := hp.1; omega) | exact absurd hp.2.1 (by assumption) | exact opn_stop hdes ho hin (fun e => by have h9 : zs.length = 0 := (by rw [e]; rfl); omega) (fun q hq => by rcases hnx with ⟨e8, h8⟩ | ⟨r, e8, h8⟩; (exact h8 q (by omega)); (exfalso; omega)) (hp.2.2.sub hzs)
  exact zcx (rs := [.tmp 2, .tmp 3]) (vs := [.slice (some ⟨g2, 0, none⟩) 0 0, .bool false]) (post := []) rfl ⟨rfl, rfl, trivial⟩ rfl (slQ [] rfl) ⟨_, by rw [zcd hE]; rfl, rfl⟩
 refine zah 1 rfl (hvQ rfl (zax (cs := [m.sv, m.av, m.iv, m.mv]) rfl rfl rfl rfl rfl (zat 1 rfl 0 rfl)) ?_)
 refine zdt rfl (zal (z := .agg #[.slice none 0 0, .slice none 0 0, .slice none 0 0, .slice none 0 0]) (s := 4) (cs := [m.sv, m.av, m.iv, m.mv]) rfl Try.underlying24 rfl (by decide) rfl (by kernel_rfl) rfl) ?_
 intro g4
 refine hvQ rfl (zbh (cs := #[.slice (some ⟨g4, 0, none⟩) 1 1]) rfl rfl rfl) (zeq rfl (zaw rfl rfl (fun w hm => zbg (specDesignOk_ans [m] (.slice (some ⟨g4, 0, none⟩) 1 1) w ⟨zaj 0 rfl w hm, fun m9 h9 => by obtain rfl := List.mem_singleton.1 h9; exact hr.below hm.bel⟩))) ?_)
 refine zbs (fun h5 => ?_) (fun h5 => ?_)
 ·
  have h5p := zez h5
  refine zbb 2 rfl (zar rfl (zcy (srQ ?_)))
  have hdes : DesP [m] := by assumption
  have hgs : ∀ i, i < m.gs.length → AsP m (m.gs.getD i as0) := fun i hi => hdes.gs1 hi
  obtain ⟨hl1, hl2, hl3, hl4⟩ := hdes.len1
  refine hvQ rfl (fdQ 0 rfl rfl rfl) (hvQ rfl (zad rfl rfl rfl (zaa 2 rfl rfl)) (hvQ rfl (lnQ rfl rfl rfl (zae ((hr).s))) ?_))
  refine zdt rfl (rq_make (z := .bool false) (s := 1) (bytes := 1) (n := (List.replicate m.ss.length bl0).length) (cs := ((List.replicate m.ss.length bl0).flatMap blC)) rfl Try.underlying103 rfl (by decide) rfl rfl (by first | (rw [List.length_replicate]; done) | (rw [List.length_replicate]; omega)) (by first | (rw [List.length_replicate]; done) | (rw [List.length_replicate]; omega)) (by rw [List.length_replicate]; omega) (made_flat blC 1 (fun _ => rfl) bl0 _ rfl m.ss.length)) ?_
  intro g6
  refine zbb 1 rfl (zbf 1 rfl (zag (zag (reQ 1 rfl ?_))))
  refine ntQ (zaz ?_)
  refine lkQ3 (α := Nat) (β := List Bl) (γ := Int) [0, 1, 2, 3, 4, 5, 21] rfl (fun i tk c => [rowE 4 1 (.slice (some ⟨g6, 0, none⟩) ((List.replicate m.ss.length bl0).length) ((List.replicate m.ss.length bl0).length)) tk.length (tk.flatMap blC), rowE 35 4 (.slice (some ⟨g4, 0, none⟩) 1 1) 1 ([m.sv, m.av, m.iv, m.mv]), rowE 3 1 (.slice (some ⟨g2, 0, none⟩) 0 0) 0 ([]), boxE b1 #[m.sv, m.av, m.iv, m.mv] 35]) (fun i tk c => [(6, .int .i64 c), (7, .int .i64 (i : Int))]) (fun i tk c => i ≤ m.gs.length ∧ OpnP m (todoA m i) tk ∧ c = ((todoA m i).length : Int)) (fun i tk c => m.gs.length - i) 0 (List.replicate m.ss.length bl0) 0 ⟨Nat.zero_le _, OpnP.nil, rfl⟩ (saQ rfl) (pfQ rfl) ?_
  intro i tk c hi7
  obtain ⟨hi, ho, hc⟩ := hi7
  have hol := ho.1
  have htl := todoA_le m i
  refine zag (zag (reQ 1 rfl (hvQ rfl (fdQ 1 rfl rfl rfl) (hvQ rfl (zad rfl rfl rfl (zaa 3 rfl rfl)) (hvQ rfl (lnQ rfl rfl rfl (zae ((hr).g))) ?_)))))
  refine zbq rfl rfl rfl rfl rfl rfl (fun h8 => ?_) (fun h8 => ?_)
  ·
   refine ntQ (zai rfl (zcy (sbQ (zag ?_))))
   have ht := (hgs i (by omega)).tgt
   rcases Bool.eq_false_or_eq_true (((m.ss.getD (((m.gs.getD i as0).t).toNat) sg0).k) != 3) with hb9 | hb9
   ·
    have hb9p : (m.ss.getD (((m.gs.getD i as0).t).toNat) sg0).k ≠ 3 := bne_iff_ne.1 hb9
    have ht := (hgs i (by omega)).tgt
    refine zbu 12 [[], [0], [], [2], [], [3, 4], [5], [6], [1, 7], [8], [9], [10]] [34, 35, 36, 37, 38, 39, 40, 41, 42, 43, 44, 45] [.pointer (some ⟨b1, 0 + 0, none⟩), m.sv, .pointer (some ⟨b1, 0 + 1, none⟩), m.av, .int .i64 (i : Int), elP m.av (((i : Int)).toNat * 2), elP m.av (((i : Int)).toNat * 2 + 0), .int .i64 ((m.gs.getD i as0).t), elP m.sv (((m.gs.getD i as0).t).toNat * 3), elP m.sv (((m.gs.getD i as0).t).toNat * 3 + 0), .int .i64 ((m.ss.getD (((m.gs.getD i as0).t).toNat) sg0).k), .bool true] (by kernel_rfl) rfl ?_ ?_
    ·
     exact ⟨iaQ rfl (fdQ 0 rfl rfl rfl) rfl, iaQ rfl (zad rfl rfl rfl (zaa 3 rfl rfl)) rfl, iaQ rfl (fdQ 1 rfl rfl rfl) rfl, iaQ rfl (zad rfl rfl rfl (zaa 3 rfl rfl)) rfl, iaQ rfl (zav rfl) rfl, iaQ rfl (riQ 2 rfl rfl rfl rfl (zae ((hr).g))) rfl, iaQ rfl (zau (k0 := 0) rfl rfl rfl (zae ((hr).g)) (by omega)) rfl, iaQ rfl (zam (u := .int .i64 ((m.gs.getD i as0).t)) rfl rfl rfl (zae ((hr).g)) ((zbi asC 2 (fun _ => rfl) m.gs as0 (show i < _ by omega) (by decide)).trans rfl)) rfl, iaQ rfl (riQ 3 rfl rfl rfl rfl (zae ((hr).s))) rfl, iaQ rfl (zau (k0 := 0) rfl rfl rfl (zae ((hr).s)) (by omega)) rfl, iaQ rfl (zam (u := .int .i64 ((m.ss.getD (((m.gs.getD i as0).t).toNat) sg0).k)) rfl rfl rfl (zae ((hr).s)) ((zbi sgC 3 (fun _ => rfl) m.ss sg0 (show ((m.gs.getD i as0).t).toNat < _ by omega) (by decide)).trans rfl)) rfl, .inl ⟨rfl, zdq (zcj rfl rfl rfl rfl) hb9⟩, trivial⟩
    simp only [List.drop_succ_cons, List.drop_zero]
    refine ntQ (zai rfl (zag (reQ 1 rfl (hvQ rfl (fdQ 1 rfl rfl rfl) (hvQ rfl (zad rfl rfl rfl (zaa 3 rfl rfl)) (zah 1 rfl (hvQ rfl (riQ 2 rfl rfl rfl rfl (zae ((hr).g))) (hvQ rfl (zau (k0 := 0) rfl rfl rfl (zae ((hr).g)) (by omega)) ?_))))))))
    refine hvQ rfl (zam (u := .int .i64 ((m.gs.getD i as0).t)) rfl rfl rfl (zae ((hr).g)) ((zbi asC 2 (fun _ => rfl) m.gs as0 (show i < _ by omega) (by decide)).trans rfl)) (hvQ rfl (riQ 1 rfl rfl rfl rfl (zaj 0 rfl)) ?_)
    refine hl_stE (i := 0) (n' := (tk.set (((m.gs.getD i as0).t).toNat) { tk.getD (((m.gs.getD i as0).t).toNat) bl0 with b := true }).length) rfl rfl rfl rfl rfl rfl rfl rfl (by first | omega | (simp only [List.length_set]; omega)) List.length_set.symm (flat_set1 blC (fun r => .bool r.b) (fun _ => rfl) _ ({ tk.getD (((m.gs.getD i as0).t).toNat) bl0 with b := true }) rfl) rfl (ntQ (reQ 1 rfl (hvQ rfl (vaQ rfl rfl rfl) (enQ 1 rfl (zde (reQ 1 rfl (hvQ rfl (vaQ rfl rfl rfl) ?_)))))))
    refine enQ 1 rfl ?_
    exact zcn (i + 1) (tk.set (((m.gs.getD i as0).t).toNat) { tk.getD (((m.gs.getD i as0).t).toNat) bl0 with b := true }) (c + 1) ⟨by omega, (by rw [← todoA_yes (by omega)]; exact ho.add ht.1), (by rw [← todoA_yes (by omega), List.length_append]; simp only [List.length_singleton]; omega)⟩ (by omega) (saQ rfl) (pfQ rfl)
   have hb9p : (m.ss.getD (((m.gs.getD i as0).t).toNat) sg0).k = 3 := (bne_eq_false_iff_eq.1 hb9)
   have ht := (hgs i (by omega)).tgt
   refine zbu 12 [[], [0], [], [2], [], [3, 4], [5], [6], [1, 7], [8], [9], [10]] [34, 35, 36, 37, 38, 39, 40, 41, 42, 43, 44, 45] [.pointer (some ⟨b1, 0 + 0, none⟩), m.sv, .pointer (some ⟨b1, 0 + 1, none⟩), m.av, .int .i64 (i : Int), elP m.av (((i : Int)).toNat * 2), elP m.av (((i : Int)).toNat * 2 + 0), .int .i64 ((m.gs.getD i as0).t), elP m.sv (((m.gs.getD i as0).t).toNat * 3), elP m.sv (((m.gs.getD i as0).t).toNat * 3 + 0), .int .i64 ((m.ss.getD (((m.gs.getD i as0).t).toNat) sg0).k), .bool false] (by kernel_rfl) rfl ?_ ?_
   ·
    exact ⟨iaQ rfl (fdQ 0 rfl rfl rfl) rfl, iaQ rfl (zad rfl rfl rfl (zaa 3 rfl rfl)) rfl, iaQ rfl (fdQ 1 rfl rfl rfl) rfl, iaQ rfl (zad rfl rfl rfl (zaa 3 rfl rfl)) rfl, iaQ rfl (zav rfl) rfl, iaQ rfl (riQ 2 rfl rfl rfl rfl (zae ((hr).g))) rfl, iaQ rfl (zau (k0 := 0) rfl rfl rfl (zae ((hr).g)) (by omega)) rfl, iaQ rfl (zam (u := .int .i64 ((m.gs.getD i as0).t)) rfl rfl rfl (zae ((hr).g)) ((zbi asC 2 (fun _ => rfl) m.gs as0 (show i < _ by omega) (by decide)).trans rfl)) rfl, iaQ rfl (riQ 3 rfl rfl rfl rfl (zae ((hr).s))) rfl, iaQ rfl (zau (k0 := 0) rfl rfl rfl (zae ((hr).s)) (by omega)) rfl, iaQ rfl (zam (u := .int .i64 ((m.ss.getD (((m.gs.getD i as0).t).toNat) sg0).k)) rfl rfl rfl (zae ((hr).s)) ((zbi sgC 3 (fun _ => rfl) m.ss sg0 (show ((m.gs.getD i as0).t).toNat < _ by omega) (by decide)).trans rfl)) rfl, .inl ⟨rfl, zdq (zcj rfl rfl rfl rfl) hb9⟩, trivial⟩
   simp only [List.drop_succ_cons, List.drop_zero]
   refine ntQ (fsQ rfl (zde (reQ 1 rfl (hvQ rfl (vaQ rfl rfl rfl) (enQ 1 rfl ?_)))))
   exact zcn (i + 1) tk c ⟨by omega, (by rw [← todoA_no (by omega)]; exact ho), (by rw [← todoA_no (by omega)]; exact hc)⟩ (by omega) (saQ rfl) (pfQ rfl)
  refine ntQ (zar rfl ?_)
  refine zbl (zdx ?_)
  refine zan (zaq (sbQ ?_))
  refine hc_loop5 (α := List Int) (β := List Bl) (γ := Int) (δ := Value) (fun zs tk c go ys => [rowE 4 1 (.slice (some ⟨g6, 0, none⟩) ((List.replicate m.ss.length bl0).length) ((List.replicate m.ss.length bl0).length)) tk.length (tk.flatMap blC), rowE 35 4 (.slice (some ⟨g4, 0, none⟩) 1 1) 1 ([m.sv, m.av, m.iv, m.mv]), rowE 3 1 go ys.length (ys.map (Value.int .i64)), boxE b1 #[m.sv, m.av, m.iv, m.mv] 35]) (fun zs tk c go ys => [(0, .agg #[m.sv, m.av, m.iv, m.mv]), (1, .pointer (some ⟨b1, 0, none⟩)), (2, .slice none 0 0), (3, .bool false), (4, go), (5, .slice (some ⟨g6, 0, none⟩) ((List.replicate m.ss.length bl0).length) ((List.replicate m.ss.length bl0).length)), (6, .int .i64 c), (21, .bool false), (31, .bool false)]) (fun zs tk c go ys => (∀ x ∈ zs, x ∈ (todoA m m.gs.length)) ∧ (Can m zs → Can m (todoA m m.gs.length)) ∧ zs.Nodup ∧ OpnP m zs tk ∧ c = (zs.length : Int) ∧ ys.length + zs.length ≤ 30) (fun zs tk c go ys => zs.length) (todoA m m.gs.length) tk c _ [] (by have e9 : i = m.gs.length := (by omega); rw [e9] at ho hc htl; exact ⟨fun x hx => hx, fun h => h, todoA_nodup m _, ho, hc, by simp only [List.length_nil]; omega⟩) (zas [31, 21, 6, 5, 4, 3, 2, 1, 0] rfl) (pfQ rfl) ?_
  intro zs tk c go ys hi10
  obtain ⟨hzs, hbk, hnd, ho, hc, hln⟩ := hi10
  have hol := ho.1
  have hin : ∀ x ∈ zs, 0 ≤ x ∧ x < m.gs.length := fun x hx => by obtain ⟨j, h1, -, rfl⟩ := todoA_mem.1 (hzs x hx); omega
  refine zag (zag (reQ 1 rfl ?_))
  refine zeb rfl rfl rfl rfl rfl rfl (fun h11 => ?_) (fun h11 => ?_)
  ·
   refine ntQ (zai rfl (zcy (zaz (zbf 1 rfl (zag ?_)))))
   refine zbf 1 rfl (zaz ?_)
   refine lkQ2 (α := Nat) (β := Int) [0, 1, 2, 3, 4, 5, 6, 21, 31, 57] rfl (fun k nx => [rowE 4 1 (.slice (some ⟨g6, 0, none⟩) ((List.replicate m.ss.length bl0).length) ((List.replicate m.ss.length bl0).length)) tk.length (tk.flatMap blC), rowE 35 4 (.slice (some ⟨g4, 0, none⟩) 1 1) 1 ([m.sv, m.av, m.iv, m.mv]), rowE 3 1 go ys.length (ys.map (Value.int .i64)), boxE b1 #[m.sv, m.av, m.iv, m.mv] 35]) (fun k nx => [(8, .int .i64 nx), (9, .int .i64 (k : Int))]) (fun k nx => k ≤ m.gs.length ∧ ((nx = -1 ∧ ∀ q, q < k → ¬ ((tk.getD (m.gs.getD q as0).t.toNat bl0).b = true ∧ ¬ WtP (m.gs.getD q as0).os tk)) ∨ (∃ r : Nat, nx = (r : Int) ∧ r < m.gs.length ∧ ((tk.getD (m.gs.getD r as0).t.toNat bl0).b = true ∧ ¬ WtP (m.gs.getD r as0).os tk)))) (fun k nx => m.gs.length - k) 0 (-1) ⟨Nat.zero_le _, .inl ⟨rfl, fun q hq => absurd hq (by omega)⟩⟩ (saQ rfl) (pfQ rfl) ?_
   intro k nx hi12
   obtain ⟨hk, hnx⟩ := hi12
   have hnl : -1 ≤ nx ∧ nx < 31 := by rcases hnx with ⟨e8, -⟩ | ⟨r, e8, h8, -⟩ <;> omega
   refine zag (zag (reQ 1 rfl (hvQ rfl (fdQ 1 rfl rfl rfl) (hvQ rfl (zad rfl rfl rfl (zaa 3 rfl rfl)) (hvQ rfl (lnQ rfl rfl rfl (zae ((hr).g))) ?_)))))
   refine zbq rfl rfl rfl rfl rfl rfl (fun h13 => ?_) (fun h13 => ?_)
   ·
    refine zah 2 rfl (zbq rfl rfl rfl rfl rfl rfl (fun h14 => ?_) (fun h14 => ?_))
    ·
     refine zbb 1 rfl (zai rfl (zcy (sbQ (srQ ?_))))
     have htk := (hgs k (by omega)).tgt
     refine zah 1 rfl (hvQ rfl (fdQ 1 rfl rfl rfl) (hvQ rfl (zad rfl rfl rfl (zaa 3 rfl rfl)) (zah 1 rfl (hvQ rfl (riQ 2 rfl rfl rfl rfl (zae ((hr).g))) (hvQ rfl (zau (k0 := 0) rfl rfl rfl (zae ((hr).g)) (by omega)) ?_)))))
     refine hvQ rfl (zam (u := .int .i64 ((m.gs.getD k as0).t)) rfl rfl rfl (zae ((hr).g)) ((zbi asC 2 (fun _ => rfl) m.gs as0 (show k < _ by omega) (by decide)).trans rfl)) (hvQ rfl (riQ 1 rfl rfl rfl rfl (zaj 0 rfl)) ?_)
     refine hvQ rfl (zam (u := .bool ((tk.getD (((m.gs.getD k as0).t).toNat) bl0).b)) rfl rfl rfl (zaj 0 rfl) (zer blC (fun r => .bool r.b) (fun _ => rfl) tk bl0 (show ((m.gs.getD k as0).t).toNat < _ by omega))) (zbs (fun h15 => ?_) (fun h15 => ?_))
     ·
      refine zah 1 rfl (hvQ rfl (fdQ 1 rfl rfl rfl) (hvQ rfl (zad rfl rfl rfl (zaa 3 rfl rfl)) (zah 1 rfl (hvQ rfl (riQ 2 rfl rfl rfl rfl (zae ((hr).g))) (hvQ rfl (zau (k0 := 1) rfl rfl rfl (zae ((hr).g)) (by omega)) ?_)))))
      refine hvQ rfl (zam (u := (m.gs.getD k as0).ov) rfl rfl rfl (zae ((hr).g)) ((zbi asC 2 (fun _ => rfl) m.gs as0 (show k < _ by omega) (by decide)).trans rfl)) (zah 1 rfl ?_)
      refine zeq rfl (zaw rfl rfl (fun w hm => zbg (l06Waits_ans (m.gs.getD k as0).os tk _ _ w ((hr.o.at (by omega)).below hm.bel) (zaj 0 rfl w hm) (fun i hi hk9 => by have h9 := rds_rng (hgs k (by omega)).2 hi hk9; rw [hol]; exact h9)))) (zbs (fun h16 => ?_) (fun h16 => ?_))
      ·
       have h16p := zez h16
       refine zbb 2 rfl (fsQ rfl (zde (reQ 1 rfl (hvQ rfl (vaQ rfl rfl rfl) (enQ 1 rfl ?_)))))
       exact zcw (k + 1) nx ⟨by omega, (by rcases hnx with ⟨e8, h8⟩ | ⟨r, e8, -⟩; (exact .inl ⟨e8, fun q hq => by by_cases e : q = k; (subst e; exact fun h9 => by first | exact absurd h9.1 (by rw [Bool.not_eq_true]; assumption) | exact absurd (by assumption) h9.2); exact h8 q (by omega)⟩); (exfalso; omega))⟩ (by omega) (saQ rfl) (pfQ rfl)
      have h16p := zec h16
      refine zbb 2 rfl (zai rfl (zao (enQ 2 rfl (zde (reQ 1 rfl (hvQ rfl (vaQ rfl rfl rfl) ?_))))))
      refine enQ 1 rfl ?_
      exact zcw (k + 1) (k : Int) ⟨by omega, .inr ⟨k, rfl, by omega, by assumption, by assumption⟩⟩ (by omega) (saQ rfl) (pfQ rfl)
     refine zbb 11 rfl (zar rfl ?_)
     refine zft (zde (reQ 1 rfl (hvQ rfl (vaQ rfl rfl rfl) (enQ 1 rfl ?_))))
     exact zcw (k + 1) nx ⟨by omega, (by rcases hnx with ⟨e8, h8⟩ | ⟨r, e8, -⟩; (exact .inl ⟨e8, fun q hq => by by_cases e : q = k; (subst e; exact fun h9 => by first | exact absurd h9.1 (by rw [Bool.not_eq_true]; assumption) | exact absurd (by assumption) h9.2); exact h8 q (by omega)⟩); (exfalso; omega))⟩ (by omega) (saQ rfl) (pfQ rfl)
    refine zbb 1 rfl (zar rfl ?_)
    refine zbl (zdx ?_)
    refine zan (zaq (zag (zag (reQ 1 rfl ?_))))
    refine zbq rfl rfl rfl rfl rfl rfl (fun h17 => ?_) (fun h17 => ?_)
    ·
     refine ntQ (zai rfl (srQ ?_))
     refine zdt rfl (zdo (s := 1) rfl Try.underlying48 rfl) ?_
     intro g18
     refine zbb 2 rfl ?_
     refine zap (zaf ?_)
     refine zac (zaf ?_)
     refine zac (zaf ?_)
     have hE : ¬ EoP m := fun hp => by first | (have := hp.1; omega) | exact absurd hp.2.1 (by assumption) | exact opn_stop hdes ho hin (fun e => by have h9 : zs.length = 0 := (by rw [e]; rfl); omega) (fun q hq => by rcases hnx with ⟨e8, h8⟩ | ⟨r, e8, h8⟩; (exact h8 q (by omega)); (exfalso; omega)) (hp.2.2.sub hzs)
     exact zcx (rs := [.tmp 2, .tmp 3]) (vs := [.slice (some ⟨g18, 0, none⟩) 0 0, .bool false]) (post := []) rfl ⟨rfl, rfl, trivial⟩ rfl (slQ [] rfl) ⟨_, by rw [zcd hE]; rfl, rfl⟩
    refine ntQ (zar rfl (zcy (srQ ?_)))
    obtain ⟨r, hnr, hr1, hr2, hr3⟩ := hnx.resolve_left (fun h9 => by have := h9.1; omega)
    have hnn : r = nx.toNat := by omega
    rw [hnn] at hr1 hr2 hr3
    have hnz : (nx.toNat : Int) = nx := by omega
    have hxin : nx ∈ zs := by have h9 := opn_in hdes ho hin hr1 hr2; rwa [hnz] at h9
    have hxp := List.length_pos_of_mem hxin
    have htx := (hgs _ hr1).tgt
    refine zah 2 rfl (zdt rfl (zal (z := .int .i64 0) (s := 1) (cs := ([nx].map (Value.int .i64))) rfl Try.underlying48 rfl (by decide) rfl (by kernel_rfl) rfl) ?_)
    intro g19
    refine zcp (i := 3) (z := .int .i64 0) (bytes := 8) rfl rfl rfl rfl Try.underlying48 (by kernel_rfl) rfl rfl rfl rfl (zaj 0 rfl) (zch _) (by first | omega | (simp; done) | (simp; omega)) (zci ys ([nx])) (zcs ys ([nx])) (fun _ => rfl) ?_
    intro v20
    refine zbb 1 rfl (zag (reQ 1 rfl (hvQ rfl (fdQ 1 rfl rfl rfl) (hvQ rfl (zad rfl rfl rfl (zaa 4 rfl rfl)) (zah 1 rfl (hvQ rfl (riQ 2 rfl rfl rfl rfl (zae ((hr).g))) (hvQ rfl (zau (k0 := 0) rfl rfl rfl (zae ((hr).g)) (by omega)) ?_)))))))
    refine hvQ rfl (zam (u := .int .i64 ((m.gs.getD ((nx).toNat) as0).t)) rfl rfl rfl (zae ((hr).g)) ((zbi asC 2 (fun _ => rfl) m.gs as0 (show (nx).toNat < _ by omega) (by decide)).trans rfl)) (hvQ rfl (riQ 1 rfl rfl rfl rfl (zaj 1 rfl)) ?_)
    refine hl_stE (i := 1) (n' := (tk.set (((m.gs.getD ((nx).toNat) as0).t).toNat) { tk.getD (((m.gs.getD ((nx).toNat) as0).t).toNat) bl0 with b := false }).length) rfl rfl rfl rfl rfl rfl rfl rfl (by first | omega | (simp only [List.length_set]; omega)) List.length_set.symm (flat_set1 blC (fun r => .bool r.b) (fun _ => rfl) _ ({ tk.getD (((m.gs.getD ((nx).toNat) as0).t).toNat) bl0 with b := false }) rfl) rfl (ntQ (reQ 1 rfl (hvQ rfl (vsQ rfl rfl rfl) (enQ 1 rfl (zbp ?_)))))
    exact zex (zs.erase nx) (tk.set (((m.gs.getD ((nx).toNat) as0).t).toNat) { tk.getD (((m.gs.getD ((nx).toNat) as0).t).toNat) bl0 with b := false }) (c - 1) _ (ys ++ ([nx])) ⟨fun x hx => hzs x (List.mem_of_mem_erase hx), fun h => hbk (Can.backE hxin hnd ((wt_free ho (hgs _ hr1).2).1 hr3) h), hnd.erase _, (by have h9 := ho.del hdes hin hnd hr1; rwa [hnz] at h9), (by rw [List.length_erase_of_mem hxin]; omega), (by rw [List.length_erase_of_mem hxin, List.length_append]; simp only [List.length_singleton]; omega)⟩ (by rw [List.length_erase_of_mem hxin]; omega) (zas [31, 21, 6, 5, 4, 3, 2, 1, 0] rfl) (slQ [1, 0, 0, 0] rfl)
   refine zbb 4 rfl (zar rfl ?_)
   refine zbl (zdx ?_)
   refine zan (zaq (zag (zag (reQ 1 rfl ?_))))
   refine zbq rfl rfl rfl rfl rfl rfl (fun h21 => ?_) (fun h21 => ?_)
   ·
    refine ntQ (zai rfl (srQ ?_))
    refine zdt rfl (zdo (s := 1) rfl Try.underlying48 rfl) ?_
    intro g22
    refine zbb 2 rfl ?_
    refine zap (zaf ?_)
    refine zac (zaf ?_)
    refine zac (zaf ?_)
    have hE : ¬ EoP m := fun hp => by first | (have := hp.1; omega) | exact absurd hp.2.1 (by assumption) | exact opn_stop hdes ho hin (fun e => by have h9 : zs.length = 0 := (by rw [e]; rfl); omega) (fun q hq => by rcases hnx with ⟨e8, h8⟩ | ⟨r, e8, h8⟩; (exact h8 q (by omega)); (exfalso; omega)) (hp.2.2.sub hzs)
    exact zcx (rs := [.tmp 2, .tmp 3]) (vs := [.slice (some ⟨g22, 0, none⟩) 0 0, .bool false]) (post := []) rfl ⟨rfl, rfl, trivial⟩ rfl (slQ [] rfl) ⟨_, by rw [zcd hE]; rfl, rfl⟩
   refine ntQ (zar rfl (zcy (srQ ?_)))
   obtain ⟨r, hnr, hr1, hr2, hr3⟩ := hnx.resolve_left (fun h9 => by have := h9.1; omega)
   have hnn : r = nx.toNat := by omega
   rw [hnn] at hr1 hr2 hr3
   have hnz : (nx.toNat : Int) = nx := by omega
   have hxin : nx ∈ zs := by have h9 := opn_in hdes ho hin hr1 hr2; rwa [hnz] at h9
   have hxp := List.length_pos_of_mem hxin
   have htx := (hgs _ hr1).tgt
   refine zah 2 rfl (zdt rfl (zal (z := .int .i64 0) (s := 1) (cs := ([nx].map (Value.int .i64))) rfl Try.underlying48 rfl (by decide) rfl (by kernel_rfl) rfl) ?_)
   intro g23
   refine zcp (i := 3) (z := .int .i64 0) (bytes := 8) rfl rfl rfl rfl Try.underlying48 (by kernel_rfl) rfl rfl rfl rfl (zaj 0 rfl) (zch _) (by first | omega | (simp; done) | (simp; omega)) (zci ys ([nx])) (zcs ys ([nx])) (fun _ => rfl) ?_
   intro v24
   refine zbb 1 rfl (zag (reQ 1 rfl (hvQ rfl (fdQ 1 rfl rfl rfl) (hvQ rfl (zad rfl rfl rfl (zaa 4 rfl rfl)) (zah 1 rfl (hvQ rfl (riQ 2 rfl rfl rfl rfl (zae ((hr).g))) (hvQ rfl (zau (k0 := 0) rfl rfl rfl (zae ((hr).g)) (by omega)) ?_)))))))
   refine hvQ rfl (zam (u := .int .i64 ((m.gs.getD ((nx).toNat) as0).t)) rfl rfl rfl (zae ((hr).g)) ((zbi asC 2 (fun _ => rfl) m.gs as0 (show (nx).toNat < _ by omega) (by decide)).trans rfl)) (hvQ rfl (riQ 1 rfl rfl rfl rfl (zaj 1 rfl)) ?_)
   refine hl_stE (i := 1) (n' := (tk.set (((m.gs.getD ((nx).toNat) as0).t).toNat) { tk.getD (((m.gs.getD ((nx).toNat) as0).t).toNat) bl0 with b := false }).length) rfl rfl rfl rfl rfl rfl rfl rfl (by first | omega | (simp only [List.length_set]; omega)) List.length_set.symm (flat_set1 blC (fun r => .bool r.b) (fun _ => rfl) _ ({ tk.getD (((m.gs.getD ((nx).toNat) as0).t).toNat) bl0 with b := false }) rfl) rfl (ntQ (reQ 1 rfl (hvQ rfl (vsQ rfl rfl rfl) (enQ 1 rfl (zbp ?_)))))
   exact zex (zs.erase nx) (tk.set (((m.gs.getD ((nx).toNat) as0).t).toNat) { tk.getD (((m.gs.getD ((nx).toNat) as0).t).toNat) bl0 with b := false }) (c - 1) _ (ys ++ ([nx])) ⟨fun x hx => hzs x (List.mem_of_mem_erase hx), fun h => hbk (Can.backE hxin hnd ((wt_free ho (hgs _ hr1).2).1 hr3) h), hnd.erase _, (by have h9 := ho.del hdes hin hnd hr1; rwa [hnz] at h9), (by rw [List.length_erase_of_mem hxin]; omega), (by rw [List.length_erase_of_mem hxin, List.length_append]; simp only [List.length_singleton]; omega)⟩ (by rw [List.length_erase_of_mem hxin]; omega) (zas [31, 21, 6, 5, 4, 3, 2, 1, 0] rfl) (slQ [1, 0, 0, 0] rfl)
  refine ntQ (zar rfl ?_)
  refine zbl (zdx ?_)
  refine zan (zaq (zbf 3 rfl ?_))
  refine zap ?_
  have hz0 : zs = [] := List.eq_nil_of_length_eq_zero (by omega)
  have hE : EoP m := ⟨by omega, hdes, hbk (by rw [hz0]; exact Can.nil m)⟩
  exact zcx (rs := [.tmp 2, .tmp 3]) (vs := [go, .bool true]) (post := []) rfl ⟨rfl, rfl, trivial⟩ rfl (slQ [] rfl) ⟨_, by rw [zdl hE]; rfl, rfl⟩
 have h5p := zec h5
 refine zbb 2 rfl (zai rfl (zbf 3 rfl ?_))
 refine zap (zaf ?_)
 have hE : ¬ EoP m := fun hp => by first | (have := hp.1; omega) | exact absurd hp.2.1 (by assumption) | exact opn_stop hdes ho hin (fun e => by have h9 : zs.length = 0 := (by rw [e]; rfl); omega) (fun q hq => by rcases hnx with ⟨e8, h8⟩ | ⟨r, e8, h8⟩; (exact h8 q (by omega)); (exfalso; omega)) (hp.2.2.sub hzs)
 exact zcx (rs := [.tmp 2, .tmp 3]) (vs := [.slice (some ⟨g2, 0, none⟩) 0 0, .bool false]) (post := []) rfl ⟨rfl, rfl, trivial⟩ rfl (slQ [] rfl) ⟨_, by rw [zcd hE]; rfl, rfl⟩
theorem specFlatOk_ans (m : Md) (w : World) (hr : RdsMd w m) :
   Calls Try.prog 71 #[.agg #[m.sv, m.av, m.iv, m.mv]] w (Ans w (.bool (pB (FlP m)))) := by
 have hs9 := sml hr.s
 have hg9 := sml hr.g
 have hx9 := sml hr.x
 have hm9 := sml hr.m
 have ho9 : ∀ k, k < m.gs.length → (m.gs.getD k as0).os.length ≤ 9223372036854775807 := fun k hk => by have := sml (hr.o.at hk); omega
 refine zca (N := 134) (args := [.agg #[m.sv, m.av, m.iv, m.mv]]) Try.func71 rfl rfl (srQ ?_)
 refine zdm rfl (zdk rfl rfl) ?_
 intro b1
 refine zbb 1 rfl (srQ (hvQ rfl (zax (cs := [m.sv, m.av, m.iv, m.mv]) rfl rfl rfl rfl rfl (zat 0 rfl 0 rfl)) ?_))
 refine hl_q rfl rfl rfl (zaw rfl rfl (fun w hm => specEvalOrder_ret m w (hr.below hm.bel))) ?_
 intro v2 p3 hR4
 obtain ⟨ov, rfl, rfl⟩ := hR4
 refine zah 3 rfl (zbs (fun h5 => ?_) (fun h5 => ?_))
 ·
  have h5p := zez h5
  refine zbb 2 rfl (zag (zbf 2 rfl (zar rfl (zcy ?_))))
  refine zfn ?_
  have hE : EoP m := by assumption
  have hdes := hE.2.1
  obtain ⟨hl1, hl2, hl3, hl4⟩ := hdes.len1
  have hz3 := sumZ_rng hdes 3
  refine zbb 1 rfl (zaz ?_)
  refine lkQ1 (α := Nat) [0, 1, 2, 4, 17] rfl (fun i => [boxE b1 #[m.sv, m.av, m.iv, m.mv] 35]) (fun i => [(5, .int .i64 (i : Int))]) (fun i => i ≤ m.ss.length ∧ ∀ q, q < i → (m.ss.getD q sg0).w ≠ 0) (fun i => m.ss.length - i) 0 ⟨Nat.zero_le _, fun q hq => absurd hq (by omega)⟩ (saQ rfl) (pfQ rfl) ?_
  intro i hi6
  obtain ⟨hi, hwd⟩ := hi6
  refine zag (zag (reQ 1 rfl (hvQ rfl (fdQ 0 rfl rfl rfl) (hvQ rfl (zad rfl rfl rfl (zaa 0 rfl rfl)) (hvQ rfl (lnQ rfl rfl rfl (zae ((hr).s))) ?_)))))
  refine zbq rfl rfl rfl rfl rfl rfl (fun h7 => ?_) (fun h7 => ?_)
  ·
   refine ntQ (zai rfl (zcy (sbQ (srQ (hvQ rfl (fdQ 0 rfl rfl rfl) (hvQ rfl (zad rfl rfl rfl (zaa 0 rfl rfl)) (zah 1 rfl (hvQ rfl (riQ 3 rfl rfl rfl rfl (zae ((hr).s))) ?_))))))))
   refine hvQ rfl (zau (k0 := 1) rfl rfl rfl (zae ((hr).s)) (by omega)) (hvQ rfl (zam (u := .int .i64 ((m.ss.getD i sg0).w)) rfl rfl rfl (zae ((hr).s)) ((zbi sgC 3 (fun _ => rfl) m.ss sg0 (show i < _ by omega) (by decide)).trans rfl)) ?_)
   refine zbt rfl rfl rfl rfl rfl rfl (fun h8 => ?_) (fun h8 => ?_)
   ·
    refine ntQ (zai rfl (zbf 1 rfl ?_))
    refine zap (zac ?_)
    refine zdy ?_
    refine zac (zaf ?_)
    exact zay rfl rfl (congrArg _ (zcd (fun hp => by first | (exact absurd hp.eo (by assumption)) | (exact absurd (by omega) (hp.wid i (by omega))) | (exact hp.par k (by omega) ⟨q9, by omega, by omega⟩) | (have h9 := hp.mem j (by omega); unfold MwP at h9; omega) | (have h9 := hp.ins; omega) | (have h9 := hp.outs; omega) | (have h9 := hp.bits; rw [show m.ms.length = j by omega] at h9; omega))).symm)
   refine ntQ (fsQ rfl (zde (reQ 1 rfl (hvQ rfl (vaQ rfl rfl rfl) ?_))))
   have hE : EoP m := by assumption
   have hdes := hE.2.1
   obtain ⟨hl1, hl2, hl3, hl4⟩ := hdes.len1
   have hz3 := sumZ_rng hdes 3
   refine enQ 1 rfl ?_
   exact zbw (i + 1) ⟨by omega, fun q hq => by by_cases e : q = i; (subst e; omega); exact hwd q (by omega)⟩ (by omega) (saQ rfl) (pfQ rfl)
  refine ntQ (zar rfl ?_)
  refine zbl (zdx ?_)
  refine zan (zaq (zag (zbf 1 rfl (zaz ?_))))
  refine lkQ1 (α := Nat) [0, 1, 2, 4, 17, 22] rfl (fun k => [boxE b1 #[m.sv, m.av, m.iv, m.mv] 35]) (fun k => [(6, .int .i64 (k : Int))]) (fun k => k ≤ m.gs.length ∧ ∀ q, q < k → ¬ HpP (m.gs.getD q as0).os) (fun k => m.gs.length - k) 0 ⟨Nat.zero_le _, fun q hq => absurd hq (by omega)⟩ (saQ rfl) (pfQ rfl) ?_
  intro k hi9
  obtain ⟨hk, hpr⟩ := hi9
  refine zag (zag (reQ 1 rfl (hvQ rfl (fdQ 1 rfl rfl rfl) (hvQ rfl (zad rfl rfl rfl (zaa 0 rfl rfl)) (hvQ rfl (lnQ rfl rfl rfl (zae ((hr).g))) ?_)))))
  refine zbq rfl rfl rfl rfl rfl rfl (fun h10 => ?_) (fun h10 => ?_)
  ·
   refine ntQ (zai rfl (zcy (sbQ (srQ ?_))))
   have hol9 := ho9 k (by omega)
   refine zbb 1 rfl (zaz ?_)
   refine lkQ1 (α := Nat) [0, 1, 2, 4, 6, 17, 22, 36] rfl (fun q9 => [boxE b1 #[m.sv, m.av, m.iv, m.mv] 35]) (fun q9 => [(7, .int .i64 (q9 : Int))]) (fun q9 => q9 ≤ (m.gs.getD k as0).os.length ∧ ∀ q, q < q9 → ((m.gs.getD k as0).os.getD q oq0).k ≠ 1) (fun q9 => (m.gs.getD k as0).os.length - q9) 0 ⟨Nat.zero_le _, fun q hq => absurd hq (by omega)⟩ (saQ rfl) (pfQ rfl) ?_
   intro q9 hi11
   obtain ⟨hq9, hrr⟩ := hi11
   refine zag (zag (reQ 1 rfl (hvQ rfl (fdQ 1 rfl rfl rfl) (hvQ rfl (zad rfl rfl rfl (zaa 0 rfl rfl)) (zah 1 rfl (hvQ rfl (riQ 2 rfl rfl rfl rfl (zae ((hr).g))) (hvQ rfl (zau (k0 := 1) rfl rfl rfl (zae ((hr).g)) (by omega)) ?_)))))))
   refine hvQ rfl (zam (u := (m.gs.getD k as0).ov) rfl rfl rfl (zae ((hr).g)) ((zbi asC 2 (fun _ => rfl) m.gs as0 (show k < _ by omega) (by decide)).trans rfl)) (hvQ rfl (lnQ rfl rfl rfl (zae (hr.o.at (k := k) (by omega)))) ?_)
   refine zbq rfl rfl rfl rfl rfl rfl (fun h12 => ?_) (fun h12 => ?_)
   ·
    refine ntQ (zai rfl (zcy (sbQ (srQ (hvQ rfl (fdQ 1 rfl rfl rfl) (hvQ rfl (zad rfl rfl rfl (zaa 0 rfl rfl)) (zah 1 rfl (hvQ rfl (riQ 2 rfl rfl rfl rfl (zae ((hr).g))) ?_))))))))
    refine hvQ rfl (zau (k0 := 1) rfl rfl rfl (zae ((hr).g)) (by omega)) (hvQ rfl (zam (u := (m.gs.getD k as0).ov) rfl rfl rfl (zae ((hr).g)) ((zbi asC 2 (fun _ => rfl) m.gs as0 (show k < _ by omega) (by decide)).trans rfl)) ?_)
    refine zah 1 rfl (hvQ rfl (riQ 3 rfl rfl rfl rfl (zae (hr.o.at (k := k) (by omega)))) (hvQ rfl (zau (k0 := 0) rfl rfl rfl (zae (hr.o.at (k := k) (by omega))) (by omega)) ?_))
    refine hvQ rfl (zam (u := .int .i64 ((((m.gs.getD k as0).os).getD q9 oq0).k)) rfl rfl rfl (zae (hr.o.at (k := k) (by omega))) ((zbi oqC 3 (fun _ => rfl) ((m.gs.getD k as0).os) oq0 (show q9 < _ by omega) (by decide)).trans rfl)) (zbt rfl rfl rfl rfl rfl rfl (fun h13 => ?_) (fun h13 => ?_))
    ·
     refine ntQ (zai rfl (zbf 1 rfl ?_))
     refine zap (zac ?_)
     refine zdy ?_
     refine zac (zac ?_)
     refine zdy ?_
     refine zac (zaf ?_)
     exact zay rfl rfl (congrArg _ (zcd (fun hp => by first | (exact absurd hp.eo (by assumption)) | (exact absurd (by omega) (hp.wid i (by omega))) | (exact hp.par k (by omega) ⟨q9, by omega, by omega⟩) | (have h9 := hp.mem j (by omega); unfold MwP at h9; omega) | (have h9 := hp.ins; omega) | (have h9 := hp.outs; omega) | (have h9 := hp.bits; rw [show m.ms.length = j by omega] at h9; omega))).symm)
    refine ntQ (fsQ rfl (zde (reQ 1 rfl (hvQ rfl (vaQ rfl rfl rfl) ?_))))
    have hol9 := ho9 k (by omega)
    refine enQ 1 rfl ?_
    exact zbw (q9 + 1) ⟨by omega, fun q hq => by by_cases e : q = q9; (subst e; omega); exact hrr q (by omega)⟩ (by omega) (saQ rfl) (pfQ rfl)
   refine ntQ (zar rfl ?_)
   refine zbl (zdx ?_)
   refine zan (zde (reQ 1 rfl (hvQ rfl (vaQ rfl rfl rfl) (enQ 1 rfl ?_))))
   exact zbw (k + 1) ⟨by omega, fun q hq => by by_cases e : q = k; (subst e; exact fun hp9 => by obtain ⟨r9, g1, g2⟩ := hp9; exact hrr r9 (by omega) g2); exact hpr q (by omega)⟩ (by omega) (saQ rfl) (pfQ rfl)
  refine ntQ (zar rfl ?_)
  refine zbl (zdx ?_)
  refine zan (zaq (srQ (hvQ rfl (zax (cs := [m.sv, m.av, m.iv, m.mv]) rfl rfl rfl rfl rfl (zat 0 rfl 0 rfl)) ?_)))
  refine hl_q rfl rfl rfl (zaw rfl rfl (fun w hm => zek m 3 w (hr.below hm.bel))) ?_
  intro v14 p15 hR16
  subst hR16
  refine zeq rfl (zaw rfl rfl (fun w hm => zbg (l06Sum_ans (pwK m 3) v14 w (zaj 0 rfl w hm) (pwK_rng hdes _) (pwK_le _ _)))) (zbb 1 rfl (zag (zbf 1 rfl (zaz ?_))))
  refine lkQ2 (α := Nat) (β := Int) [0, 1, 2, 4, 17, 22, 36] rfl (fun j c => [rowE 3 1 v14 ((pwK m 3).length) ((pwK m 3).map (Value.int .i64)), boxE b1 #[m.sv, m.av, m.iv, m.mv] 35]) (fun j c => [(8, .int .i64 c), (9, .int .i64 (j : Int))]) (fun j c => j ≤ m.ms.length ∧ c = sumZ (pwK m 3) + moA m j ∧ ∀ q, q < j → MwP m (m.ms.getD q mm0)) (fun j c => m.ms.length - j) 0 _ ⟨Nat.zero_le _, (by show _ = _ + (0 : Int); omega), fun q hq => absurd hq (by omega)⟩ (saQ rfl) (pfQ rfl) ?_
  intro j c hi17
  obtain ⟨hj, hcs, hmw⟩ := hi17
  have hmo := moA_rng hdes j hj
  refine zag (zag (reQ 1 rfl (hvQ rfl (fdQ 3 rfl rfl rfl) (hvQ rfl (zad rfl rfl rfl (zaa 1 rfl rfl)) (hvQ rfl (lnQ rfl rfl rfl (zae ((hr).m))) ?_)))))
  refine zbq rfl rfl rfl rfl rfl rfl (fun h18 => ?_) (fun h18 => ?_)
  ·
   refine ntQ (zai rfl (zcy (sbQ (srQ ?_))))
   have hmm := memI hdes (show j < m.ms.length by omega)
   refine hvQ rfl (fdQ 3 rfl rfl rfl) (hvQ rfl (zad rfl rfl rfl (zaa 1 rfl rfl)) (zah 1 rfl (hvQ rfl (riQ 4 rfl rfl rfl rfl (zae ((hr).m))) ?_)))
   refine hvQ rfl (zbm (us := [.int .i64 ((m.ms.getD j mm0).a), .int .i64 ((m.ms.getD j mm0).d), .int .i64 ((m.ms.getD j mm0).w), .int .i64 ((m.ms.getD j mm0).o)]) rfl rfl rfl rfl (zae ((hr).m)) (by omega) rfl (zbz mmC 4 (fun _ => rfl) m.ms mm0 (show j < _ by omega) rfl)) (zdm rfl (zbe (z := .agg #[.int .i64 0, .int .i64 0, .int .i64 0, .int .i64 0]) rfl rfl) ?_)
   intro b19
   refine zbd (cs' := #[.int .i64 ((m.ms.getD j mm0).a), .int .i64 ((m.ms.getD j mm0).d), .int .i64 ((m.ms.getD j mm0).w), .int .i64 ((m.ms.getD j mm0).o)]) (i := 0) (off := 0) (us := [.int .i64 ((m.ms.getD j mm0).a), .int .i64 ((m.ms.getD j mm0).d), .int .i64 ((m.ms.getD j mm0).w), .int .i64 ((m.ms.getD j mm0).o)]) rfl rfl rfl rfl rfl rfl rfl (zab rfl (zab rfl (zab rfl (zab rfl zbc)))) rfl rfl rfl (ntQ (zag (zag ?_)))
   rcases Bool.eq_false_or_eq_true (((m.ss.getD (((m.ms.getD j mm0).a).toNat) sg0).w) != 2) with hb20 | hb20
   ·
    have hb20p : (m.ss.getD (((m.ms.getD j mm0).a).toNat) sg0).w ≠ 2 := bne_iff_ne.1 hb20
    refine zbu 35 [[], [0], [], [2], [1, 3], [4], [5], [6], [7], [8], [8], [8], [8], [8], [8], [8], [8], [8, 16], [17], [18], [18], [18], [18], [18], [18], [18], [18], [18], [18], [18], [18], [18], [18], [18], [18, 33]] [76, 77, 78, 79, 80, 81, 82, 83, 84, 85, 86, 87, 88, 89, 90, 91, 92, 93, 94, 95, 96, 97, 98, 99, 100, 101, 102, 103, 104, 105, 106, 107, 108, 109, 110] [.pointer (some ⟨b1, 0 + 0, none⟩), m.sv, .pointer (some ⟨b19, 0 + 0, none⟩), .int .i64 ((m.ms.getD j mm0).a), elP m.sv (((m.ms.getD j mm0).a).toNat * 3), elP m.sv (((m.ms.getD j mm0).a).toNat * 3 + 1), .int .i64 ((m.ss.getD (((m.ms.getD j mm0).a).toNat) sg0).w), .bool true, .bool true, undef, undef, undef, undef, undef, undef, undef, undef, .bool true, .bool true, undef, undef, undef, undef, undef, undef, undef, undef, undef, undef, undef, undef, undef, undef, undef, .bool true] (by kernel_rfl) rfl ?_ ?_
    ·
     exact ⟨iaQ rfl (fdQ 0 rfl rfl rfl) rfl, iaQ rfl (zad rfl rfl rfl (zaa 2 rfl rfl)) rfl, iaQ rfl (fdQ 0 rfl rfl rfl) rfl, iaQ rfl (zad rfl rfl rfl (zaa 0 rfl rfl)) rfl, iaQ rfl (riQ 3 rfl rfl rfl rfl (zae ((hr).s))) rfl, iaQ rfl (zau (k0 := 1) rfl rfl rfl (zae ((hr).s)) (by omega)) rfl, iaQ rfl (zam (u := .int .i64 ((m.ss.getD (((m.ms.getD j mm0).a).toNat) sg0).w)) rfl rfl rfl (zae ((hr).s)) ((zbi sgC 3 (fun _ => rfl) m.ss sg0 (show ((m.ms.getD j mm0).a).toNat < _ by omega) (by decide)).trans rfl)) rfl, .inl ⟨rfl, zdq (zcj rfl rfl rfl rfl) hb20⟩, iaQ rfl (zav rfl) rfl, .inr ⟨rfl, rfl⟩, .inr ⟨rfl, rfl⟩, .inr ⟨rfl, rfl⟩, .inr ⟨rfl, rfl⟩, .inr ⟨rfl, rfl⟩, .inr ⟨rfl, rfl⟩, .inr ⟨rfl, rfl⟩, .inr ⟨rfl, rfl⟩, iaQ rfl (zav rfl) rfl, iaQ rfl (zav rfl) rfl, .inr ⟨rfl, rfl⟩, .inr ⟨rfl, rfl⟩, .inr ⟨rfl, rfl⟩, .inr ⟨rfl, rfl⟩, .inr ⟨rfl, rfl⟩, .inr ⟨rfl, rfl⟩, .inr ⟨rfl, rfl⟩, .inr ⟨rfl, rfl⟩, .inr ⟨rfl, rfl⟩, .inr ⟨rfl, rfl⟩, .inr ⟨rfl, rfl⟩, .inr ⟨rfl, rfl⟩, .inr ⟨rfl, rfl⟩, .inr ⟨rfl, rfl⟩, .inr ⟨rfl, rfl⟩, iaQ rfl (zav rfl) rfl, trivial⟩
    simp only [List.drop_succ_cons, List.drop_zero]
    refine ntQ (zai rfl (zbf 1 rfl ?_))
    refine zap (zaf ?_)
    refine zac (zdy ?_)
    refine zac (zaf ?_)
    exact zay rfl rfl (congrArg _ (zcd (fun hp => by first | (exact absurd hp.eo (by assumption)) | (exact absurd (by omega) (hp.wid i (by omega))) | (exact hp.par k (by omega) ⟨q9, by omega, by omega⟩) | (have h9 := hp.mem j (by omega); unfold MwP at h9; omega) | (have h9 := hp.ins; omega) | (have h9 := hp.outs; omega) | (have h9 := hp.bits; rw [show m.ms.length = j by omega] at h9; omega))).symm)
   have hb20p : (m.ss.getD (((m.ms.getD j mm0).a).toNat) sg0).w = 2 := (bne_eq_false_iff_eq.1 hb20)
   rcases Bool.eq_false_or_eq_true (((m.ss.getD (((m.ms.getD j mm0).w).toNat) sg0).w) != 1) with hb21 | hb21
   ·
    have hb21p : (m.ss.getD (((m.ms.getD j mm0).w).toNat) sg0).w ≠ 1 := bne_iff_ne.1 hb21
    refine zbu 35 [[], [0], [], [2], [1, 3], [4], [5], [6], [7], [8], [8, 9], [8], [8, 11], [8, 10, 12], [8, 13], [8, 14], [8, 15], [8, 16], [17], [18], [18], [18], [18], [18], [18], [18], [18], [18], [18], [18], [18], [18], [18], [18], [18, 33]] [76, 77, 78, 79, 80, 81, 82, 83, 84, 85, 86, 87, 88, 89, 90, 91, 92, 93, 94, 95, 96, 97, 98, 99, 100, 101, 102, 103, 104, 105, 106, 107, 108, 109, 110] [.pointer (some ⟨b1, 0 + 0, none⟩), m.sv, .pointer (some ⟨b19, 0 + 0, none⟩), .int .i64 ((m.ms.getD j mm0).a), elP m.sv (((m.ms.getD j mm0).a).toNat * 3), elP m.sv (((m.ms.getD j mm0).a).toNat * 3 + 1), .int .i64 ((m.ss.getD (((m.ms.getD j mm0).a).toNat) sg0).w), .bool false, .bool false, .pointer (some ⟨b1, 0 + 0, none⟩), m.sv, .pointer (some ⟨b19, 0 + 2, none⟩), .int .i64 ((m.ms.getD j mm0).w), elP m.sv (((m.ms.getD j mm0).w).toNat * 3), elP m.sv (((m.ms.getD j mm0).w).toNat * 3 + 1), .int .i64 ((m.ss.getD (((m.ms.getD j mm0).w).toNat) sg0).w), .bool true, .bool true, .bool true, undef, undef, undef, undef, undef, undef, undef, undef, undef, undef, undef, undef, undef, undef, undef, .bool true] (by kernel_rfl) rfl ?_ ?_
    ·
     exact ⟨iaQ rfl (fdQ 0 rfl rfl rfl) rfl, iaQ rfl (zad rfl rfl rfl (zaa 2 rfl rfl)) rfl, iaQ rfl (fdQ 0 rfl rfl rfl) rfl, iaQ rfl (zad rfl rfl rfl (zaa 0 rfl rfl)) rfl, iaQ rfl (riQ 3 rfl rfl rfl rfl (zae ((hr).s))) rfl, iaQ rfl (zau (k0 := 1) rfl rfl rfl (zae ((hr).s)) (by omega)) rfl, iaQ rfl (zam (u := .int .i64 ((m.ss.getD (((m.ms.getD j mm0).a).toNat) sg0).w)) rfl rfl rfl (zae ((hr).s)) ((zbi sgC 3 (fun _ => rfl) m.ss sg0 (show ((m.ms.getD j mm0).a).toNat < _ by omega) (by decide)).trans rfl)) rfl, .inl ⟨rfl, zdq (zcj rfl rfl rfl rfl) hb20⟩, iaQ rfl (zav rfl) rfl, iaQ rfl (fdQ 0 rfl rfl rfl) rfl, iaQ rfl (zad rfl rfl rfl (zaa 2 rfl rfl)) rfl, iaQ rfl (fdQ 2 rfl rfl rfl) rfl, iaQ rfl (zad rfl rfl rfl (zaa 0 rfl rfl)) rfl, iaQ rfl (riQ 3 rfl rfl rfl rfl (zae ((hr).s))) rfl, iaQ rfl (zau (k0 := 1) rfl rfl rfl (zae ((hr).s)) (by omega)) rfl, iaQ rfl (zam (u := .int .i64 ((m.ss.getD (((m.ms.getD j mm0).w).toNat) sg0).w)) rfl rfl rfl (zae ((hr).s)) ((zbi sgC 3 (fun _ => rfl) m.ss sg0 (show ((m.ms.getD j mm0).w).toNat < _ by omega) (by decide)).trans rfl)) rfl, .inl ⟨rfl, zdq (zcj rfl rfl rfl rfl) hb21⟩, iaQ rfl (zav rfl) rfl, iaQ rfl (zav rfl) rfl, .inr ⟨rfl, rfl⟩, .inr ⟨rfl, rfl⟩, .inr ⟨rfl, rfl⟩, .inr ⟨rfl, rfl⟩, .inr ⟨rfl, rfl⟩, .inr ⟨rfl, rfl⟩, .inr ⟨rfl, rfl⟩, .inr ⟨rfl, rfl⟩, .inr ⟨rfl, rfl⟩, .inr ⟨rfl, rfl⟩, .inr ⟨rfl, rfl⟩, .inr ⟨rfl, rfl⟩, .inr ⟨rfl, rfl⟩, .inr ⟨rfl, rfl⟩, .inr ⟨rfl, rfl⟩, iaQ rfl (zav rfl) rfl, trivial⟩
    simp only [List.drop_succ_cons, List.drop_zero]
    refine ntQ (zai rfl (zbf 1 rfl ?_))
    refine zap (zaf ?_)
    refine zac (zdy ?_)
    refine zac (zaf ?_)
    exact zay rfl rfl (congrArg _ (zcd (fun hp => by first | (exact absurd hp.eo (by assumption)) | (exact absurd (by omega) (hp.wid i (by omega))) | (exact hp.par k (by omega) ⟨q9, by omega, by omega⟩) | (have h9 := hp.mem j (by omega); unfold MwP at h9; omega) | (have h9 := hp.ins; omega) | (have h9 := hp.outs; omega) | (have h9 := hp.bits; rw [show m.ms.length = j by omega] at h9; omega))).symm)
   have hb21p : (m.ss.getD (((m.ms.getD j mm0).w).toNat) sg0).w = 1 := (bne_eq_false_iff_eq.1 hb21)
   rcases Bool.eq_false_or_eq_true (((m.ss.getD (((m.ms.getD j mm0).d).toNat) sg0).w) != ((m.ss.getD (((m.ms.getD j mm0).o).toNat) sg0).w)) with hb22 | hb22
   ·
    have hb22p : (m.ss.getD (((m.ms.getD j mm0).d).toNat) sg0).w ≠ (m.ss.getD (((m.ms.getD j mm0).o).toNat) sg0).w := bne_iff_ne.1 hb22
    refine zbu 35 [[], [0], [], [2], [1, 3], [4], [5], [6], [7], [8], [8, 9], [8], [8, 11], [8, 10, 12], [8, 13], [8, 14], [8, 15], [8, 16], [17], [18], [18, 19], [18], [18, 21], [18, 20, 22], [18, 23], [18, 24], [18], [18, 26], [18], [18, 28], [18, 27, 29], [18, 30], [18, 31], [18, 25, 32], [18, 33]] [76, 77, 78, 79, 80, 81, 82, 83, 84, 85, 86, 87, 88, 89, 90, 91, 92, 93, 94, 95, 96, 97, 98, 99, 100, 101, 102, 103, 104, 105, 106, 107, 108, 109, 110] [.pointer (some ⟨b1, 0 + 0, none⟩), m.sv, .pointer (some ⟨b19, 0 + 0, none⟩), .int .i64 ((m.ms.getD j mm0).a), elP m.sv (((m.ms.getD j mm0).a).toNat * 3), elP m.sv (((m.ms.getD j mm0).a).toNat * 3 + 1), .int .i64 ((m.ss.getD (((m.ms.getD j mm0).a).toNat) sg0).w), .bool false, .bool false, .pointer (some ⟨b1, 0 + 0, none⟩), m.sv, .pointer (some ⟨b19, 0 + 2, none⟩), .int .i64 ((m.ms.getD j mm0).w), elP m.sv (((m.ms.getD j mm0).w).toNat * 3), elP m.sv (((m.ms.getD j mm0).w).toNat * 3 + 1), .int .i64 ((m.ss.getD (((m.ms.getD j mm0).w).toNat) sg0).w), .bool false, .bool false, .bool false, .pointer (some ⟨b1, 0 + 0, none⟩), m.sv, .pointer (some ⟨b19, 0 + 1, none⟩), .int .i64 ((m.ms.getD j mm0).d), elP m.sv (((m.ms.getD j mm0).d).toNat * 3), elP m.sv (((m.ms.getD j mm0).d).toNat * 3 + 1), .int .i64 ((m.ss.getD (((m.ms.getD j mm0).d).toNat) sg0).w), .pointer (some ⟨b1, 0 + 0, none⟩), m.sv, .pointer (some ⟨b19, 0 + 3, none⟩), .int .i64 ((m.ms.getD j mm0).o), elP m.sv (((m.ms.getD j mm0).o).toNat * 3), elP m.sv (((m.ms.getD j mm0).o).toNat * 3 + 1), .int .i64 ((m.ss.getD (((m.ms.getD j mm0).o).toNat) sg0).w), .bool true, .bool true] (by kernel_rfl) rfl ?_ ?_
    ·
     exact ⟨iaQ rfl (fdQ 0 rfl rfl rfl) rfl, iaQ rfl (zad rfl rfl rfl (zaa 2 rfl rfl)) rfl, iaQ rfl (fdQ 0 rfl rfl rfl) rfl, iaQ rfl (zad rfl rfl rfl (zaa 0 rfl rfl)) rfl, iaQ rfl (riQ 3 rfl rfl rfl rfl (zae ((hr).s))) rfl, iaQ rfl (zau (k0 := 1) rfl rfl rfl (zae ((hr).s)) (by omega)) rfl, iaQ rfl (zam (u := .int .i64 ((m.ss.getD (((m.ms.getD j mm0).a).toNat) sg0).w)) rfl rfl rfl (zae ((hr).s)) ((zbi sgC 3 (fun _ => rfl) m.ss sg0 (show ((m.ms.getD j mm0).a).toNat < _ by omega) (by decide)).trans rfl)) rfl, .inl ⟨rfl, zdq (zcj rfl rfl rfl rfl) hb20⟩, iaQ rfl (zav rfl) rfl, iaQ rfl (fdQ 0 rfl rfl rfl) rfl, iaQ rfl (zad rfl rfl rfl (zaa 2 rfl rfl)) rfl, iaQ rfl (fdQ 2 rfl rfl rfl) rfl, iaQ rfl (zad rfl rfl rfl (zaa 0 rfl rfl)) rfl, iaQ rfl (riQ 3 rfl rfl rfl rfl (zae ((hr).s))) rfl, iaQ rfl (zau (k0 := 1) rfl rfl rfl (zae ((hr).s)) (by omega)) rfl, iaQ rfl (zam (u := .int .i64 ((m.ss.getD (((m.ms.getD j mm0).w).toNat) sg0).w)) rfl rfl rfl (zae ((hr).s)) ((zbi sgC 3 (fun _ => rfl) m.ss sg0 (show ((m.ms.getD j mm0).w).toNat < _ by omega) (by decide)).trans rfl)) rfl, .inl ⟨rfl, zdq (zcj rfl rfl rfl rfl) hb21⟩, iaQ rfl (zav rfl) rfl, iaQ rfl (zav rfl) rfl, iaQ rfl (fdQ 0 rfl rfl rfl) rfl, iaQ rfl (zad rfl rfl rfl (zaa 2 rfl rfl)) rfl, iaQ rfl (fdQ 1 rfl rfl rfl) rfl, iaQ rfl (zad rfl rfl rfl (zaa 0 rfl rfl)) rfl, iaQ rfl (riQ 3 rfl rfl rfl rfl (zae ((hr).s))) rfl, iaQ rfl (zau (k0 := 1) rfl rfl rfl (zae ((hr).s)) (by omega)) rfl, iaQ rfl (zam (u := .int .i64 ((m.ss.getD (((m.ms.getD j mm0).d).toNat) sg0).w)) rfl rfl rfl (zae ((hr).s)) ((zbi sgC 3 (fun _ => rfl) m.ss sg0 (show ((m.ms.getD j mm0).d).toNat < _ by omega) (by decide)).trans rfl)) rfl, iaQ rfl (fdQ 0 rfl rfl rfl) rfl, iaQ rfl (zad rfl rfl rfl (zaa 2 rfl rfl)) rfl, iaQ rfl (fdQ 3 rfl rfl rfl) rfl, iaQ rfl (zad rfl rfl rfl (zaa 0 rfl rfl)) rfl, iaQ rfl (riQ 3 rfl rfl rfl rfl (zae ((hr).s))) rfl, iaQ rfl (zau (k0 := 1) rfl rfl rfl (zae ((hr).s)) (by omega)) rfl, iaQ rfl (zam (u := .int .i64 ((m.ss.getD (((m.ms.getD j mm0).o).toNat) sg0).w)) rfl rfl rfl (zae ((hr).s)) ((zbi sgC 3 (fun _ => rfl) m.ss sg0 (show ((m.ms.getD j mm0).o).toNat < _ by omega) (by decide)).trans rfl)) rfl, .inl ⟨rfl, zdq (zcj rfl rfl rfl rfl) hb22⟩, iaQ rfl (zav rfl) rfl, trivial⟩
    simp only [List.drop_succ_cons, List.drop_zero]
    refine ntQ (zai rfl (zbf 1 rfl ?_))
    refine zap (zaf ?_)
    refine zac (zdy ?_)
    refine zac (zaf ?_)
    exact zay rfl rfl (congrArg _ (zcd (fun hp => by first | (exact absurd hp.eo (by assumption)) | (exact absurd (by omega) (hp.wid i (by omega))) | (exact hp.par k (by omega) ⟨q9, by omega, by omega⟩) | (have h9 := hp.mem j (by omega); unfold MwP at h9; omega) | (have h9 := hp.ins; omega) | (have h9 := hp.outs; omega) | (have h9 := hp.bits; rw [show m.ms.length = j by omega] at h9; omega))).symm)
   have hb22p : (m.ss.getD (((m.ms.getD j mm0).d).toNat) sg0).w = (m.ss.getD (((m.ms.getD j mm0).o).toNat) sg0).w := (bne_eq_false_iff_eq.1 hb22)
   refine zbu 35 [[], [0], [], [2], [1, 3], [4], [5], [6], [7], [8], [8, 9], [8], [8, 11], [8, 10, 12], [8, 13], [8, 14], [8, 15], [8, 16], [17], [18], [18, 19], [18], [18, 21], [18, 20, 22], [18, 23], [18, 24], [18], [18, 26], [18], [18, 28], [18, 27, 29], [18, 30], [18, 31], [18, 25, 32], [18, 33]] [76, 77, 78, 79, 80, 81, 82, 83, 84, 85, 86, 87, 88, 89, 90, 91, 92, 93, 94, 95, 96, 97, 98, 99, 100, 101, 102, 103, 104, 105, 106, 107, 108, 109, 110] [.pointer (some ⟨b1, 0 + 0, none⟩), m.sv, .pointer (some ⟨b19, 0 + 0, none⟩), .int .i64 ((m.ms.getD j mm0).a), elP m.sv (((m.ms.getD j mm0).a).toNat * 3), elP m.sv (((m.ms.getD j mm0).a).toNat * 3 + 1), .int .i64 ((m.ss.getD (((m.ms.getD j mm0).a).toNat) sg0).w), .bool false, .bool false, .pointer (some ⟨b1, 0 + 0, none⟩), m.sv, .pointer (some ⟨b19, 0 + 2, none⟩), .int .i64 ((m.ms.getD j mm0).w), elP m.sv (((m.ms.getD j mm0).w).toNat * 3), elP m.sv (((m.ms.getD j mm0).w).toNat * 3 + 1), .int .i64 ((m.ss.getD (((m.ms.getD j mm0).w).toNat) sg0).w), .bool false, .bool false, .bool false, .pointer (some ⟨b1, 0 + 0, none⟩), m.sv, .pointer (some ⟨b19, 0 + 1, none⟩), .int .i64 ((m.ms.getD j mm0).d), elP m.sv (((m.ms.getD j mm0).d).toNat * 3), elP m.sv (((m.ms.getD j mm0).d).toNat * 3 + 1), .int .i64 ((m.ss.getD (((m.ms.getD j mm0).d).toNat) sg0).w), .pointer (some ⟨b1, 0 + 0, none⟩), m.sv, .pointer (some ⟨b19, 0 + 3, none⟩), .int .i64 ((m.ms.getD j mm0).o), elP m.sv (((m.ms.getD j mm0).o).toNat * 3), elP m.sv (((m.ms.getD j mm0).o).toNat * 3 + 1), .int .i64 ((m.ss.getD (((m.ms.getD j mm0).o).toNat) sg0).w), .bool false, .bool false] (by kernel_rfl) rfl ?_ ?_
   ·
    exact ⟨iaQ rfl (fdQ 0 rfl rfl rfl) rfl, iaQ rfl (zad rfl rfl rfl (zaa 2 rfl rfl)) rfl, iaQ rfl (fdQ 0 rfl rfl rfl) rfl, iaQ rfl (zad rfl rfl rfl (zaa 0 rfl rfl)) rfl, iaQ rfl (riQ 3 rfl rfl rfl rfl (zae ((hr).s))) rfl, iaQ rfl (zau (k0 := 1) rfl rfl rfl (zae ((hr).s)) (by omega)) rfl, iaQ rfl (zam (u := .int .i64 ((m.ss.getD (((m.ms.getD j mm0).a).toNat) sg0).w)) rfl rfl rfl (zae ((hr).s)) ((zbi sgC 3 (fun _ => rfl) m.ss sg0 (show ((m.ms.getD j mm0).a).toNat < _ by omega) (by decide)).trans rfl)) rfl, .inl ⟨rfl, zdq (zcj rfl rfl rfl rfl) hb20⟩, iaQ rfl (zav rfl) rfl, iaQ rfl (fdQ 0 rfl rfl rfl) rfl, iaQ rfl (zad rfl rfl rfl (zaa 2 rfl rfl)) rfl, iaQ rfl (fdQ 2 rfl rfl rfl) rfl, iaQ rfl (zad rfl rfl rfl (zaa 0 rfl rfl)) rfl, iaQ rfl (riQ 3 rfl rfl rfl rfl (zae ((hr).s))) rfl, iaQ rfl (zau (k0 := 1) rfl rfl rfl (zae ((hr).s)) (by omega)) rfl, iaQ rfl (zam (u := .int .i64 ((m.ss.getD (((m.ms.getD j mm0).w).toNat) sg0).w)) rfl rfl rfl (zae ((hr).s)) ((zbi sgC 3 (fun _ => rfl) m.ss sg0 (show ((m.ms.getD j mm0).w).toNat < _ by omega) (by decide)).trans rfl)) rfl, .inl ⟨rfl, zdq (zcj rfl rfl rfl rfl) hb21⟩, iaQ rfl (zav rfl) rfl, iaQ rfl (zav rfl) rfl, iaQ rfl (fdQ 0 rfl rfl rfl) rfl, iaQ rfl (zad rfl rfl rfl (zaa 2 rfl rfl)) rfl, iaQ rfl (fdQ 1 rfl rfl rfl) rfl, iaQ rfl (zad rfl rfl rfl (zaa 0 rfl rfl)) rfl, iaQ rfl (riQ 3 rfl rfl rfl rfl (zae ((hr).s))) rfl, iaQ rfl (zau (k0 := 1) rfl rfl rfl (zae ((hr).s)) (by omega)) rfl, iaQ rfl (zam (u := .int .i64 ((m.ss.getD (((m.ms.getD j mm0).d).toNat) sg0).w)) rfl rfl rfl (zae ((hr).s)) ((zbi sgC 3 (fun _ => rfl) m.ss sg0 (show ((m.ms.getD j mm0).d).toNat < _ by omega) (by decide)).trans rfl)) rfl, iaQ rfl (fdQ 0 rfl rfl rfl) rfl, iaQ rfl (zad rfl rfl rfl (zaa 2 rfl rfl)) rfl, iaQ rfl (fdQ 3 rfl rfl rfl) rfl, iaQ rfl (zad rfl rfl rfl (zaa 0 rfl rfl)) rfl, iaQ rfl (riQ 3 rfl rfl rfl rfl (zae ((hr).s))) rfl, iaQ rfl (zau (k0 := 1) rfl rfl rfl (zae ((hr).s)) (by omega)) rfl, iaQ rfl (zam (u := .int .i64 ((m.ss.getD (((m.ms.getD j mm0).o).toNat) sg0).w)) rfl rfl rfl (zae ((hr).s)) ((zbi sgC 3 (fun _ => rfl) m.ss sg0 (show ((m.ms.getD j mm0).o).toNat < _ by omega) (by decide)).trans rfl)) rfl, .inl ⟨rfl, zdq (zcj rfl rfl rfl rfl) hb22⟩, iaQ rfl (zav rfl) rfl, trivial⟩
   simp only [List.drop_succ_cons, List.drop_zero]
   refine ntQ (zar rfl (zcy (reQ 1 rfl (hvQ rfl (fdQ 0 rfl rfl rfl) (hvQ rfl (zad rfl rfl rfl (zaa 2 rfl rfl)) (hvQ rfl (fdQ 3 rfl rfl rfl) (hvQ rfl (zad rfl rfl rfl (zaa 0 rfl rfl)) (hvQ rfl (riQ 3 rfl rfl rfl rfl (zae ((hr).s))) (hvQ rfl (zau (k0 := 1) rfl rfl rfl (zae ((hr).s)) (by omega)) ?_)))))))))
   refine hvQ rfl (zam (u := .int .i64 ((m.ss.getD (((m.ms.getD j mm0).o).toNat) sg0).w)) rfl rfl rfl (zae ((hr).s)) ((zbi sgC 3 (fun _ => rfl) m.ss sg0 (show ((m.ms.getD j mm0).o).toNat < _ by omega) (by decide)).trans rfl)) (hvQ rfl (vaQ rfl rfl rfl) (enQ 1 rfl (zde (reQ 1 rfl (hvQ rfl (vaQ rfl rfl rfl) (enQ 1 rfl ?_))))))
   exact zcw (j + 1) (c + ((m.ss.getD (((m.ms.getD j mm0).o).toNat) sg0).w)) ⟨by omega, (by show _ = _ + (moA m j + _); omega), fun q hq => by by_cases e : q = j; (subst e; exact ⟨by omega, by omega, by omega⟩); exact hmw q (by omega)⟩ (by omega) (saQ rfl) (slQ [1, 0] rfl)
  refine ntQ (zar rfl ?_)
  refine zbl (zdx ?_)
  refine zan (zaq (srQ (hvQ rfl (zax (cs := [m.sv, m.av, m.iv, m.mv]) rfl rfl rfl rfl rfl (zat 1 rfl 0 rfl)) ?_)))
  refine hl_q rfl rfl rfl (zaw rfl rfl (fun w hm => zek m 0 w (hr.below hm.bel))) ?_
  intro v23 p24 hR25
  subst hR25
  refine zeq rfl (zaw rfl rfl (fun w hm => zbg (l06Sum_ans (pwK m 0) v23 w (zaj 0 rfl w hm) (pwK_rng hdes _) (pwK_le _ _)))) (hl_leq rfl rfl rfl rfl rfl rfl (fun h26 => ?_) (fun h26 => ?_))
  ·
   refine zah 1 rfl (hvQ rfl (zax (cs := [m.sv, m.av, m.iv, m.mv]) rfl rfl rfl rfl rfl (zat 2 rfl 0 rfl)) ?_)
   refine hl_q rfl rfl rfl (zaw rfl rfl (fun w hm => zek m 1 w (hr.below hm.bel))) ?_
   intro v27 p28 hR29
   subst hR29
   refine zeq rfl (zaw rfl rfl (fun w hm => zbg (l06Sum_ans (pwK m 1) v27 w (zaj 0 rfl w hm) (pwK_rng hdes _) (pwK_le _ _)))) (hl_leq rfl rfl rfl rfl rfl rfl (fun h30 => ?_) (fun h30 => ?_))
   ·
    refine zah 3 rfl (hl_leq rfl rfl rfl rfl rfl rfl (fun h31 => ?_) (fun h31 => ?_))
    ·
     refine zbb 2 rfl ?_
     exact zap (zay rfl rfl (congrArg _ (zdl ⟨hE, fun s hs => hwd s (by omega), fun i hi => hpr i (by omega), fun i hi => hmw i (by omega), by omega, by omega, by rw [show m.ms.length = j by omega]; omega⟩).symm))
    refine zbb 2 rfl ?_
    exact zap (zay rfl rfl (congrArg _ (zcd (fun hp => by first | (exact absurd hp.eo (by assumption)) | (exact absurd (by omega) (hp.wid i (by omega))) | (exact hp.par k (by omega) ⟨q9, by omega, by omega⟩) | (have h9 := hp.mem j (by omega); unfold MwP at h9; omega) | (have h9 := hp.ins; omega) | (have h9 := hp.outs; omega) | (have h9 := hp.bits; rw [show m.ms.length = j by omega] at h9; omega))).symm))
   refine zbb 6 rfl ?_
   exact zap (zay rfl rfl (congrArg _ (zcd (fun hp => by first | (exact absurd hp.eo (by assumption)) | (exact absurd (by omega) (hp.wid i (by omega))) | (exact hp.par k (by omega) ⟨q9, by omega, by omega⟩) | (have h9 := hp.mem j (by omega); unfold MwP at h9; omega) | (have h9 := hp.ins; omega) | (have h9 := hp.outs; omega) | (have h9 := hp.bits; rw [show m.ms.length = j by omega] at h9; omega))).symm))
  refine zbb 11 rfl ?_
  exact zap (zay rfl rfl (congrArg _ (zcd (fun hp => by first | (exact absurd hp.eo (by assumption)) | (exact absurd (by omega) (hp.wid i (by omega))) | (exact hp.par k (by omega) ⟨q9, by omega, by omega⟩) | (have h9 := hp.mem j (by omega); unfold MwP at h9; omega) | (have h9 := hp.ins; omega) | (have h9 := hp.outs; omega) | (have h9 := hp.bits; rw [show m.ms.length = j by omega] at h9; omega))).symm))
 have h5p := zec h5
 refine zbb 2 rfl (zag (zbf 2 rfl (zai rfl (srQ ?_))))
 refine zbb 1 rfl ?_
 refine zap (zaf ?_)
 exact zay rfl rfl (congrArg _ (zcd (fun hp => by first | (exact absurd hp.eo (by assumption)) | (exact absurd (by omega) (hp.wid i (by omega))) | (exact hp.par k (by omega) ⟨q9, by omega, by omega⟩) | (have h9 := hp.mem j (by omega); unfold MwP at h9; omega) | (have h9 := hp.ins; omega) | (have h9 := hp.outs; omega) | (have h9 := hp.bits; rw [show m.ms.length = j by omega] at h9; omega))).symm)
open Go.RowKit
instance (n : Int) (o : Oq) : Decidable (OqP n o) := by unfold OqP; infer_instance
def smpN : List Oq := [Oq.mk 12 0 0, Oq.mk 2 0 0, Oq.mk 8 0 0, Oq.mk 2 2 0, Oq.mk 0 1 0, Oq.mk 2 2 0]
theorem smpN_ok : OpsP 3 smpN := ⟨by decide, by decide, by decide⟩
theorem smpO_ok : OpsP 3 [Oq.mk 2 2 0] := ⟨by decide, by decide, by decide⟩
def smpD (s1 a1 o1 o2 s2 i2 pv : Value) : List Md := [Md.mk s1 a1 (.slice none 0 0) (.slice none 0 0) [Sg.mk 0 1 0, Sg.mk 1 0 0, Sg.mk 3 0 0] [As.mk 2 o1 smpN, As.mk 1 o2 [Oq.mk 2 2 0]] [] [], Md.mk s2 (.slice none 0 0) i2 (.slice none 0 0) [Sg.mk 0 1 0, Sg.mk 1 0 0] [] [Ix.mk 0 0 pv [0, 1]] []]
theorem smp_ok (s1 a1 o1 o2 s2 i2 pv : Value) : DesP (smpD s1 a1 o1 o2 s2 i2 pv) := by
  have hc : CntP (smpD s1 a1 o1 o2 s2 i2 pv) := ⟨by show 2 ≤ 4; decide, fun k hk => by
    have hk2 : k < 2 := hk
    rcases (by omega : k = 0 ∨ k = 1) with rfl | rfl
    · exact ⟨by show 3 ≤ 30; decide, by show 2 ≤ 30; decide, by show 0 ≤ 3; decide, by show 0 ≤ 2; decide⟩
    · exact ⟨by show 2 ≤ 30; decide, by show 0 ≤ 30; decide, by show 1 ≤ 3; decide, by show 0 ≤ 2; decide⟩⟩
  have sg : ∀ {k w : Int}, (0 ≤ k ∧ k ≤ 3) → (0 ≤ w ∧ w ≤ 4) → SgP (Sg.mk k w 0) := fun h1 h2 => sgP_mk h1 h2 ⟨by decide, by decide⟩ (fun h => absurd rfl h)
  refine ⟨⟨by show 1 ≤ 2; decide, by show 2 ≤ 4; decide⟩, fun k hk => ?_⟩
  have hk2 : k < 2 := hk
  rcases (by omega : k = 0 ∨ k = 1) with rfl | rfl
  · refine ⟨hk, hc, fun i hi => absurd (show i < 0 from hi) (by omega), fun i hi => ?_, fun i hi => ?_, fun i hi => absurd (show i < 0 from hi) (by omega), fun i hi => absurd (show i < 0 from hi) (by omega), fun s hs h0 => ?_⟩
    · have hi3 : i < 3 := hi
      rcases (by omega : i = 0 ∨ i = 1 ∨ i = 2) with rfl | rfl | rfl
      · exact sg ⟨by decide, by decide⟩ ⟨by decide, by decide⟩
      · exact sg ⟨by decide, by decide⟩ ⟨by decide, by decide⟩
      · exact sg ⟨by decide, by decide⟩ ⟨by decide, by decide⟩
    · have hi3 : i < 2 := hi
      rcases (by omega : i = 0 ∨ i = 1) with rfl | rfl
      · exact ⟨(show (1 : Int) ≤ 3 ∧ (3 : Int) ≤ 3 from ⟨by decide, by decide⟩), smpN_ok⟩
      · exact ⟨(show (1 : Int) ≤ 1 ∧ (1 : Int) ≤ 3 from ⟨by decide, by decide⟩), smpO_ok⟩
    · have hs3 : s < 3 := hs
      rcases (by omega : s = 0 ∨ s = 1 ∨ s = 2) with rfl | rfl | rfl
      · exact absurd rfl h0
      · rfl
      · rfl
  · refine ⟨hk, hc, fun i hi => ?_, fun i hi => ?_, fun i hi => absurd (show i < 0 from hi) (by omega), fun i hi => ?_, fun i hi => absurd (show i < 0 from hi) (by omega), fun s hs h0 => ?_⟩
    · obtain rfl : i = 0 := by have : i < 1 := hi; omega
      exact ⟨⟨(show (0 : Int) ≤ 0 by decide), (show (0 : Int) < ((1 : Nat) : Int) by decide)⟩, rfl⟩
    · have hi3 : i < 2 := hi
      rcases (by omega : i = 0 ∨ i = 1) with rfl | rfl
      · exact sg ⟨by decide, by decide⟩ ⟨by decide, by decide⟩
      · exact sg ⟨by decide, by decide⟩ ⟨by decide, by decide⟩
    · obtain rfl : i = 0 := by have : i < 1 := hi; omega
      refine ⟨⟨(show (0 : Int) ≤ 0 by decide), (show (0 : Int) ≤ 4 by decide)⟩, fun j hj => ?_⟩
      have hj2 : j < 2 := hj
      rcases (by omega : j = 0 ∨ j = 1) with rfl | rfl
      · exact ⟨⟨(show (0 : Int) ≤ 0 by decide), (show (0 : Int) < ((2 : Nat) : Int) by decide)⟩, fun h => absurd (show (0 : Int) = 1 from h) (by decide)⟩
      · exact ⟨⟨(show (0 : Int) ≤ 1 by decide), (show (1 : Int) < ((2 : Nat) : Int) by decide)⟩, fun _ => .inl rfl⟩
    · have hs3 : s < 2 := hs
      rcases (by omega : s = 0 ∨ s = 1) with rfl | rfl
      · exact absurd rfl h0
      · rfl
theorem specFlatten_ret (D : List Md) (p : Int) (v : Value) (w : World) (hd : RdsDs w v D) :
   Calls Try.prog 27 #[.agg #[v], .int .i64 p] w (Ret w (fun u_ p_ => ∃ (m : Md) (ok : Bool) (ps : List HP), u_ = .tuple #[m.agg, .bool ok] ∧ p_ = [bigE ps] ∧ (∀ w, (bigE ps).holds w → RdsMd w m) ∧ MdOne m ∧ FlP m ∧ (ok = true → ∃ F, FlzP D p F ∧ MdF m F) ∧ (ok = false → m = md0 ∧ ∀ (F : Fz) (m' : Md), FlzP D p F → MdF m' F → ¬ FlP m'))) := by
 have hd9 := sml hd.row
 refine zca (N := 38) (args := [.agg #[v], .int .i64 p]) Try.func27 rfl rfl (srQ ?_)
 refine zdm rfl (zdk rfl rfl) ?_
 intro b1
 refine zdm rfl (zbe (z := .agg #[.slice none 0 0, .slice none 0 0, .slice none 0 0, .slice none 0 0]) rfl rfl) ?_
 intro b2
 refine zbb 1 rfl (zfn (hvQ rfl (zax (cs := [v]) rfl rfl rfl rfl rfl (zat 1 rfl 0 rfl)) ?_))
 refine zeq rfl (zaw rfl rfl (fun w hm => zbg (specDesignOk_ans D v w (hd.below hm.bel)))) (zbs (fun h3 => ?_) (fun h3 => ?_))
 ·
  have h3p := zez h3
  refine zah 3 rfl (zeq rfl (zaw rfl rfl (fun w hm => zbg (zge p 1 4 w))) ?_)
  refine zbs (fun h4 => ?_) (fun h4 => ?_)
  ·
   obtain ⟨h4a, h4b⟩ := (zdh _ _ _).1 h4
   refine zbb 2 rfl (zar rfl (zcy (srQ ?_)))
   have hdes : DesP D := by assumption
   have hdl := hdes.1
   refine zfr [bigE (flQ (.slice none 0 0) (.slice none 0 0) (.slice none 0 0) [] [] [] []), boxE b2 #[.slice none 0 0, .slice none 0 0, .slice none 0 0, .slice none 0 0] 35, boxE b1 #[v] 26] (fun w hm => flat_nil hm) ?_
   refine hvQ rfl (zax (cs := [v]) rfl rfl rfl rfl rfl (zat 2 rfl 0 rfl)) (hvQ rfl (fdQ 0 rfl rfl rfl) (hvQ rfl (zad rfl rfl rfl (zaa 2 rfl rfl)) (hvQ rfl (lnQ rfl rfl rfl (zae hd.row)) (hvQ rfl (vsQ rfl rfl rfl) ?_))))
   rw [show (D.length : Int) - 1 = ((D.length - 1 : Nat) : Int) by omega]
   refine zah 1 rfl (zdt rfl (zdo (s := 1) rfl Try.underlying48 rfl) ?_)
   intro g5
   refine hvQ rfl (zbh (cs := #[.slice none 0 0, .slice none 0 0, .slice none 0 0, .slice none 0 0]) rfl rfl rfl) (zeg (R := (fun u_ p_ => AddR (addF D D.length (D.length - 1) p false [] fz0) u_ p_)) 1 rfl rfl rfl rfl rfl (fun L w hX hm => l06Add_ind D v hdes _ D.length (D.length - 1) p false [] fz0 [] (.slice (some ⟨g5, 0, none⟩) 0 0) (.slice none 0 0) (.slice none 0 0) (.slice none 0 0) [] _ _ (by omega) (by omega) ⟨by decide, by decide, by decide⟩ (fun h => by cases h) rfl (fun w _ => OpsR.nil w) (fun w h => hd.below (hX w h).bel) (fun w h => (zaj (l := [rowE 3 1 (.slice (some ⟨g5, 0, none⟩) 0 0) 0 ([]), boxE b2 #[.slice none 0 0, .slice none 0 0, .slice none 0 0, .slice none 0 0] 35, boxE b1 #[v] 26]) 0 rfl) w (hX w h)) hm) ?_)
   intro v6 p7 hR8
   obtain ⟨ahR8, bhR8, dhR8, okhR8, qshR8, rfl, rfl, honhR8, hgohR8, hnohR8⟩ := hR8
   refine zcr (l' := [rowE 3 1 (.slice (some ⟨g5, 0, none⟩) 0 0) 0 ([]), bigE qshR8, boxE b2 #[.slice none 0 0, .slice none 0 0, .slice none 0 0, .slice none 0 0] 35, boxE b1 #[v] 26]) rfl ?_
   refine zah 3 rfl (zbs (fun h9 => ?_) (fun h9 => ?_))
   ·
    refine zdm rfl (zbe (z := .agg #[.slice none 0 0, .slice none 0 0, .slice none 0 0, .slice none 0 0]) rfl rfl) ?_
    intro b10
    refine zbd (cs' := #[ahR8, bhR8, .slice none 0 0, dhR8]) (i := 0) (off := 0) (us := [ahR8, bhR8, .slice none 0 0, dhR8]) rfl rfl rfl rfl rfl rfl rfl (zab honhR8.1 (zab honhR8.2.1 (zab rfl (zab honhR8.2.2 zbc)))) rfl rfl rfl (zbb 1 rfl (zfn ?_))
    obtain ⟨G2, hG2, gs4, ps4, rfl, hp4, hG4⟩ := hgohR8 (by assumption)
    refine hl_pick 5 [4, 3, 1, 0, 2] rfl rfl (by decide) ?_
    refine zfr [rowE 38 3 ahR8 G2.ss.length (G2.ss.flatMap sgC), rowE 89 2 bhR8 gs4.length (gs4.flatMap asC), rowE 94 4 dhR8 G2.ms.length (G2.ms.flatMap mmC), bigE ps4, boxE b10 #[ahR8, bhR8, .slice none 0 0, dhR8] 35, rowE 3 1 (.slice (some ⟨g5, 0, none⟩) 0 0) 0 ([]), boxE b2 #[.slice none 0 0, .slice none 0 0, .slice none 0 0, .slice none 0 0] 35, boxE b1 #[v] 26] zdf ?_
    have hMF : MdF (Md.mk ahR8 bhR8 (.slice none 0 0) dhR8 G2.ss gs4 [] G2.ms) G2 := ⟨rfl, hG4, rfl, rfl⟩
    refine zah 3 rfl (hvQ rfl (zax (cs := [ahR8, bhR8, .slice none 0 0, dhR8]) rfl rfl rfl rfl rfl (zat 4 rfl 0 rfl)) ?_)
    refine zeq rfl (zaw rfl rfl (fun w hm => zbg (specFlatOk_ans (Md.mk ahR8 bhR8 (.slice none 0 0) dhR8 G2.ss gs4 [] G2.ms) w ⟨zaj 0 rfl w hm, zaj 1 rfl w hm, hp4 w (hm.holds _ (zcf (i := 3) rfl)), nilW w 3, PtsR.nil w, zaj 2 rfl w hm⟩))) (zbs (fun h11 => ?_) (fun h11 => ?_))
    ·
     have h11p := zez h11
     refine zbb 2 rfl (zar rfl (zcy (srQ (hvQ rfl (zax (cs := [ahR8, bhR8, .slice none 0 0, dhR8]) rfl rfl rfl rfl rfl (zat 4 rfl 0 rfl)) ?_))))
     refine zbd (cs' := #[ahR8, bhR8, .slice none 0 0, dhR8]) (i := 6) (off := 0) (us := [ahR8, bhR8, .slice none 0 0, dhR8]) rfl rfl rfl rfl rfl rfl rfl (zab honhR8.1 (zab honhR8.2.1 (zab rfl (zab honhR8.2.2 zbc)))) rfl rfl rfl (zbb 1 rfl ?_)
     refine zap (zbj 8 [7, 6, 5, 4, 3, 2, 1, 0] rfl rfl (by decide) ?_)
     refine zcb 4 rfl ?_
     exact zcx (rs := [.cell 4 35, .tmp 5]) (vs := [.agg #[ahR8, bhR8, .slice none 0 0, dhR8], .bool true]) (post := [bigE [rowE 38 3 ahR8 G2.ss.length (G2.ss.flatMap sgC), rowE 89 2 bhR8 gs4.length (gs4.flatMap asC), rowE 94 4 dhR8 G2.ms.length (G2.ms.flatMap mmC), bigE ps4]]) rfl ⟨⟨b2, 0, [ahR8, bhR8, .slice none 0 0, dhR8], rfl, rfl, by kernel_rfl, by kernel_rfl, zat 3 rfl 0 rfl⟩, rfl, trivial⟩ rfl (slQ [0] rfl) ⟨(Md.mk ahR8 bhR8 (.slice none 0 0) dhR8 G2.ss gs4 [] G2.ms), true, _, rfl, rfl, fun w hw => ⟨zco (zba hw List.mem_cons_self), zco (zba hw (List.mem_cons_of_mem _ List.mem_cons_self)), hp4 w (zba hw (List.mem_cons_of_mem _ (List.mem_cons_of_mem _ (List.mem_cons_of_mem _ List.mem_cons_self)))), nilW w 3, PtsR.nil w, zco (zba hw (List.mem_cons_of_mem _ (List.mem_cons_of_mem _ List.mem_cons_self)))⟩, ⟨honhR8.1, honhR8.2.1, rfl, honhR8.2.2⟩, by assumption, fun _ => ⟨G2, ⟨hdes, by omega, hG2⟩, hMF⟩, (fun h => by cases h)⟩
    have h11p := zec h11
    refine zbb 2 rfl (zai rfl (srQ (hvQ rfl (zbh (cs := #[.slice none 0 0, .slice none 0 0, .slice none 0 0, .slice none 0 0]) rfl rfl rfl) ?_)))
    refine zbd (cs' := #[.slice none 0 0, .slice none 0 0, .slice none 0 0, .slice none 0 0]) (i := 6) (off := 0) (us := [.slice none 0 0, .slice none 0 0, .slice none 0 0, .slice none 0 0]) rfl rfl rfl rfl rfl rfl rfl (zab rfl (zab rfl (zab rfl (zab rfl zbc)))) rfl rfl rfl (zbb 1 rfl ?_)
    refine zap (zaf ?_)
    refine zdi [bigE [], rowE 38 3 ahR8 G2.ss.length (G2.ss.flatMap sgC), rowE 89 2 bhR8 gs4.length (gs4.flatMap asC), rowE 94 4 dhR8 G2.ms.length (G2.ms.flatMap mmC), bigE ps4, boxE b10 #[ahR8, bhR8, .slice none 0 0, dhR8] 35, rowE 3 1 (.slice (some ⟨g5, 0, none⟩) 0 0) 0 ([]), boxE b2 #[.slice none 0 0, .slice none 0 0, .slice none 0 0, .slice none 0 0] 35, boxE b1 #[v] 26] zdu ?_
    exact zcx (rs := [.cell 4 35, .tmp 5]) (vs := [.agg #[.slice none 0 0, .slice none 0 0, .slice none 0 0, .slice none 0 0], .bool false]) (post := [bigE []]) rfl ⟨⟨b2, 0, [.slice none 0 0, .slice none 0 0, .slice none 0 0, .slice none 0 0], rfl, rfl, by kernel_rfl, by kernel_rfl, zat 7 rfl 0 rfl⟩, rfl, trivial⟩ rfl (slQ [0] rfl) ⟨md0, false, _, rfl, rfl, fun w _ => RdsMd.zero w, md0_one, FlP.zero, (fun h => by cases h), fun _ => ⟨rfl, fun F m' h9 hq9 hfl9 => by first | exact absurd h9.1 (by assumption) | (have h8 := h9.2.1; omega) | exact absurd ((hnohR8 (by assumption)).symm.trans h9.2.2) (fun h => by cases h) | (have h8 := Option.some.inj (hG2.symm.trans h9.2.2); subst h8; exact absurd ((hq9.same hMF).fl hfl9) (by assumption))⟩⟩
   refine zdm rfl (zbe (z := .agg #[.slice none 0 0, .slice none 0 0, .slice none 0 0, .slice none 0 0]) rfl rfl) ?_
   intro b12
   refine zbd (cs' := #[ahR8, bhR8, .slice none 0 0, dhR8]) (i := 0) (off := 0) (us := [ahR8, bhR8, .slice none 0 0, dhR8]) rfl rfl rfl rfl rfl rfl rfl (zab honhR8.1 (zab honhR8.2.1 (zab rfl (zab honhR8.2.2 zbc)))) rfl rfl rfl (zbb 1 rfl (zfn (enQ 7 rfl ?_)))
   refine zaq (zai rfl (srQ (hvQ rfl (zbh (cs := #[.slice none 0 0, .slice none 0 0, .slice none 0 0, .slice none 0 0]) rfl rfl rfl) ?_)))
   refine zbd (cs' := #[.slice none 0 0, .slice none 0 0, .slice none 0 0, .slice none 0 0]) (i := 3) (off := 0) (us := [.slice none 0 0, .slice none 0 0, .slice none 0 0, .slice none 0 0]) rfl rfl rfl rfl rfl rfl rfl (zab rfl (zab rfl (zab rfl (zab rfl zbc)))) rfl rfl rfl (zbb 1 rfl ?_)
   refine zap (zaf ?_)
   refine zdi [bigE [], boxE b12 #[ahR8, bhR8, .slice none 0 0, dhR8] 35, rowE 3 1 (.slice (some ⟨g5, 0, none⟩) 0 0) 0 ([]), bigE qshR8, boxE b2 #[.slice none 0 0, .slice none 0 0, .slice none 0 0, .slice none 0 0] 35, boxE b1 #[v] 26] zdu ?_
   exact zcx (rs := [.cell 4 35, .tmp 5]) (vs := [.agg #[.slice none 0 0, .slice none 0 0, .slice none 0 0, .slice none 0 0], .bool false]) (post := [bigE []]) rfl ⟨⟨b2, 0, [.slice none 0 0, .slice none 0 0, .slice none 0 0, .slice none 0 0], rfl, rfl, by kernel_rfl, by kernel_rfl, zat 4 rfl 0 rfl⟩, rfl, trivial⟩ rfl (slQ [0] rfl) ⟨md0, false, _, rfl, rfl, fun w _ => RdsMd.zero w, md0_one, FlP.zero, (fun h => by cases h), fun _ => ⟨rfl, fun F m' h9 hq9 hfl9 => by first | exact absurd h9.1 (by assumption) | (have h8 := h9.2.1; omega) | exact absurd ((hnohR8 (by assumption)).symm.trans h9.2.2) (fun h => by cases h) | (have h8 := Option.some.inj (hG2.symm.trans h9.2.2); subst h8; exact absurd ((hq9.same hMF).fl hfl9) (by assumption))⟩⟩
  have h4a := zdb h4
  refine zbb 2 rfl (zai rfl (srQ (hvQ rfl (zbh (cs := #[.slice none 0 0, .slice none 0 0, .slice none 0 0, .slice none 0 0]) rfl rfl rfl) ?_)))
  refine zbd (cs' := #[.slice none 0 0, .slice none 0 0, .slice none 0 0, .slice none 0 0]) (i := 0) (off := 0) (us := [.slice none 0 0, .slice none 0 0, .slice none 0 0, .slice none 0 0]) rfl rfl rfl rfl rfl rfl rfl (zab rfl (zab rfl (zab rfl (zab rfl zbc)))) rfl rfl rfl (zbb 1 rfl ?_)
  refine zap (zaf ?_)
  refine zdi [bigE [], boxE b2 #[.slice none 0 0, .slice none 0 0, .slice none 0 0, .slice none 0 0] 35, boxE b1 #[v] 26] zdu ?_
  exact zcx (rs := [.cell 4 35, .tmp 5]) (vs := [.agg #[.slice none 0 0, .slice none 0 0, .slice none 0 0, .slice none 0 0], .bool false]) (post := [bigE []]) rfl ⟨⟨b2, 0, [.slice none 0 0, .slice none 0 0, .slice none 0 0, .slice none 0 0], rfl, rfl, by kernel_rfl, by kernel_rfl, zat 1 rfl 0 rfl⟩, rfl, trivial⟩ rfl (slQ [0] rfl) ⟨md0, false, _, rfl, rfl, fun w _ => RdsMd.zero w, md0_one, FlP.zero, (fun h => by cases h), fun _ => ⟨rfl, fun F m' h9 hq9 hfl9 => by first | exact absurd h9.1 (by assumption) | (have h8 := h9.2.1; omega) | exact absurd ((hnohR8 (by assumption)).symm.trans h9.2.2) (fun h => by cases h) | (have h8 := Option.some.inj (hG2.symm.trans h9.2.2); subst h8; exact absurd ((hq9.same hMF).fl hfl9) (by assumption))⟩⟩
 have h3p := zec h3
 refine zbb 6 rfl (zai rfl (srQ (hvQ rfl (zbh (cs := #[.slice none 0 0, .slice none 0 0, .slice none 0 0, .slice none 0 0]) rfl rfl rfl) ?_)))
 refine zbd (cs' := #[.slice none 0 0, .slice none 0 0, .slice none 0 0, .slice none 0 0]) (i := 0) (off := 0) (us := [.slice none 0 0, .slice none 0 0, .slice none 0 0, .slice none 0 0]) rfl rfl rfl rfl rfl rfl rfl (zab rfl (zab rfl (zab rfl (zab rfl zbc)))) rfl rfl rfl (zbb 1 rfl ?_)
 refine zap (zaf ?_)
 refine zdi [bigE [], boxE b2 #[.slice none 0 0, .slice none 0 0, .slice none 0 0, .slice none 0 0] 35, boxE b1 #[v] 26] zdu ?_
 exact zcx (rs := [.cell 4 35, .tmp 5]) (vs := [.agg #[.slice none 0 0, .slice none 0 0, .slice none 0 0, .slice none 0 0], .bool false]) (post := [bigE []]) rfl ⟨⟨b2, 0, [.slice none 0 0, .slice none 0 0, .slice none 0 0, .slice none 0 0], rfl, rfl, by kernel_rfl, by kernel_rfl, zat 1 rfl 0 rfl⟩, rfl, trivial⟩ rfl (slQ [0] rfl) ⟨md0, false, _, rfl, rfl, fun w _ => RdsMd.zero w, md0_one, FlP.zero, (fun h => by cases h), fun _ => ⟨rfl, fun F m' h9 hq9 hfl9 => by first | exact absurd h9.1 (by assumption) | (have h8 := h9.2.1; omega) | exact absurd ((hnohR8 (by assumption)).symm.trans h9.2.2) (fun h => by cases h) | (have h8 := Option.some.inj (hG2.symm.trans h9.2.2); subst h8; exact absurd ((hq9.same hMF).fl hfl9) (by assumption))⟩⟩
theorem specSampleDesign_ret  (w : World)  :
   Calls Try.prog 113 #[] w (Ret w (fun u_ p_ => ∃ (D : List Md) (v : Value) (ps : List HP), u_ = .agg #[v] ∧ p_ = [bigE ps] ∧ (∀ w, (bigE ps).holds w → RdsDs w v D) ∧ v.oneCell' = true ∧ DesP D)) := by
 refine zca (N := 33) (args := []) Try.func113 rfl rfl (hc_keep _ [] rfl (srQ ?_))
 refine zdm rfl (zbe (z := .agg #[.slice none 0 0]) rfl rfl) ?_
 intro b1
 refine ntQ (srQ (hvQ rfl (zbh (cs := #[.int .i64 12, .int .i64 0, .int .i64 0]) rfl rfl rfl) (hvQ rfl (zbh (cs := #[.int .i64 2, .int .i64 0, .int .i64 0]) rfl rfl rfl) (hvQ rfl (zbh (cs := #[.int .i64 8, .int .i64 0, .int .i64 0]) rfl rfl rfl) (hvQ rfl (zbh (cs := #[.int .i64 2, .int .i64 2, .int .i64 0]) rfl rfl rfl) (hvQ rfl (zbh (cs := #[.int .i64 0, .int .i64 1, .int .i64 0]) rfl rfl rfl) (hvQ rfl (zbh (cs := #[.int .i64 2, .int .i64 2, .int .i64 0]) rfl rfl rfl) ?_)))))))
 refine zdt rfl (zal (z := .agg #[.int .i64 0, .int .i64 0, .int .i64 0]) (s := 3) (cs := ([12, 0, 0, 2, 0, 0, 8, 0, 0, 2, 2, 0, 0, 1, 0, 2, 2, 0].map (Value.int .i64))) rfl Try.underlying71 rfl (by decide) rfl (by kernel_rfl) rfl) ?_
 intro g2
 refine zbb 1 rfl (srQ (hvQ rfl (zbh (cs := #[.int .i64 0, .int .i64 1, .int .i64 0]) rfl rfl rfl) (hvQ rfl (zbh (cs := #[.int .i64 1, .int .i64 0, .int .i64 0]) rfl rfl rfl) (hvQ rfl (zbh (cs := #[.int .i64 3, .int .i64 0, .int .i64 0]) rfl rfl rfl) ?_))))
 refine zdt rfl (zal (z := .agg #[.int .i64 0, .int .i64 0, .int .i64 0]) (s := 3) (cs := ([0, 1, 0, 1, 0, 0, 3, 0, 0].map (Value.int .i64))) rfl Try.underlying30 rfl (by decide) rfl (by kernel_rfl) rfl) ?_
 intro g3
 refine zah 1 rfl (hvQ rfl (zbh (cs := #[.int .i64 2, .slice (some ⟨g2, 0, none⟩) 6 6]) rfl rfl rfl) (hvQ rfl (zbh (cs := #[.int .i64 2, .int .i64 2, .int .i64 0]) rfl rfl rfl) ?_))
 refine zdt rfl (zal (z := .agg #[.int .i64 0, .int .i64 0, .int .i64 0]) (s := 3) (cs := ([2, 2, 0].map (Value.int .i64))) rfl Try.underlying71 rfl (by decide) rfl (by kernel_rfl) rfl) ?_
 intro g4
 refine hvQ rfl (zbh (cs := #[.int .i64 1, .slice (some ⟨g4, 0, none⟩) 1 1]) rfl rfl rfl) (zdt rfl (zal (z := .agg #[.int .i64 0, .slice none 0 0]) (s := 2) (cs := [.int .i64 2, .slice (some ⟨g2, 0, none⟩) 6 6, .int .i64 1, .slice (some ⟨g4, 0, none⟩) 1 1]) rfl Try.underlying31 rfl (by decide) rfl (by kernel_rfl) rfl) ?_)
 intro g5
 refine hvQ rfl (zbh (cs := #[.slice (some ⟨g3, 0, none⟩) 3 3, .slice (some ⟨g5, 0, none⟩) 2 2, .slice none 0 0, .slice none 0 0]) rfl rfl rfl) (zdm rfl (zbe (z := .agg #[.slice none 0 0, .slice none 0 0, .slice none 0 0, .slice none 0 0]) rfl rfl) ?_)
 intro b6
 refine zbd (cs' := #[.slice (some ⟨g3, 0, none⟩) 3 3, .slice (some ⟨g5, 0, none⟩) 2 2, .slice none 0 0, .slice none 0 0]) (i := 0) (off := 0) (us := [.slice (some ⟨g3, 0, none⟩) 3 3, .slice (some ⟨g5, 0, none⟩) 2 2, .slice none 0 0, .slice none 0 0]) rfl rfl rfl rfl rfl rfl rfl (zab rfl (zab rfl (zab rfl (zab rfl zbc)))) rfl rfl rfl (ntQ (srQ (hvQ rfl (zbh (cs := #[.int .i64 0, .int .i64 1, .int .i64 0]) rfl rfl rfl) (hvQ rfl (zbh (cs := #[.int .i64 1, .int .i64 0, .int .i64 0]) rfl rfl rfl) ?_))))
 refine zdt rfl (zal (z := .agg #[.int .i64 0, .int .i64 0, .int .i64 0]) (s := 3) (cs := ([0, 1, 0, 1, 0, 0].map (Value.int .i64))) rfl Try.underlying30 rfl (by decide) rfl (by kernel_rfl) rfl) ?_
 intro g7
 refine zdt rfl (zal (z := .int .i64 0) (s := 1) (cs := ([0, 1].map (Value.int .i64))) rfl Try.underlying48 rfl (by decide) rfl (by kernel_rfl) rfl) ?_
 intro g8
 refine hvQ rfl (zbh (cs := #[.int .i64 0, .int .i64 0, .slice (some ⟨g8, 0, none⟩) 2 2]) rfl rfl rfl) (zdt rfl (zal (z := .agg #[.int .i64 0, .int .i64 0, .slice none 0 0]) (s := 3) (cs := [.int .i64 0, .int .i64 0, .slice (some ⟨g8, 0, none⟩) 2 2]) rfl Try.underlying32 rfl (by decide) rfl (by kernel_rfl) rfl) ?_)
 intro g9
 refine hvQ rfl (zbh (cs := #[.slice (some ⟨g7, 0, none⟩) 2 2, .slice none 0 0, .slice (some ⟨g9, 0, none⟩) 1 1, .slice none 0 0]) rfl rfl rfl) (zdm rfl (zbe (z := .agg #[.slice none 0 0, .slice none 0 0, .slice none 0 0, .slice none 0 0]) rfl rfl) ?_)
 intro b10
 refine zbd (cs' := #[.slice (some ⟨g7, 0, none⟩) 2 2, .slice none 0 0, .slice (some ⟨g9, 0, none⟩) 1 1, .slice none 0 0]) (i := 0) (off := 0) (us := [.slice (some ⟨g7, 0, none⟩) 2 2, .slice none 0 0, .slice (some ⟨g9, 0, none⟩) 1 1, .slice none 0 0]) rfl rfl rfl rfl rfl rfl rfl (zab rfl (zab rfl (zab rfl (zab rfl zbc)))) rfl rfl rfl (ntQ (srQ (hvQ rfl (zax (cs := [.slice (some ⟨g3, 0, none⟩) 3 3, .slice (some ⟨g5, 0, none⟩) 2 2, .slice none 0 0, .slice none 0 0]) rfl rfl rfl rfl rfl (zat 4 rfl 0 rfl)) (hvQ rfl (zax (cs := [.slice (some ⟨g7, 0, none⟩) 2 2, .slice none 0 0, .slice (some ⟨g9, 0, none⟩) 1 1, .slice none 0 0]) rfl rfl rfl rfl rfl (zat 0 rfl 0 rfl)) ?_))))
 refine zdt rfl (zal (z := .agg #[.slice none 0 0, .slice none 0 0, .slice none 0 0, .slice none 0 0]) (s := 4) (cs := [.slice (some ⟨g3, 0, none⟩) 3 3, .slice (some ⟨g5, 0, none⟩) 2 2, .slice none 0 0, .slice none 0 0, .slice (some ⟨g7, 0, none⟩) 2 2, .slice none 0 0, .slice (some ⟨g9, 0, none⟩) 1 1, .slice none 0 0]) rfl Try.underlying24 rfl (by decide) rfl (by kernel_rfl) rfl) ?_
 intro g11
 refine hvQ rfl (zbh (cs := #[.slice (some ⟨g11, 0, none⟩) 2 2]) rfl rfl rfl) (zbd (cs' := #[.slice (some ⟨g11, 0, none⟩) 2 2]) (i := 10) (off := 0) (us := [.slice (some ⟨g11, 0, none⟩) 2 2]) rfl rfl rfl rfl rfl rfl rfl (zab rfl zbc) rfl rfl rfl ?_)
 refine ntQ ?_
 refine zap (zbj 11 [10, 5, 1, 3, 2, 4, 7, 9, 6, 8, 0] rfl rfl (by decide) ?_)
 refine zcb 8 rfl ?_
 exact zcx (rs := [.cell 0 26]) (vs := [.agg #[.slice (some ⟨g11, 0, none⟩) 2 2]]) (post := [bigE [rowE 35 4 (.slice (some ⟨g11, 0, none⟩) 2 2) 2 ([.slice (some ⟨g3, 0, none⟩) 3 3, .slice (some ⟨g5, 0, none⟩) 2 2, .slice none 0 0, .slice none 0 0, .slice (some ⟨g7, 0, none⟩) 2 2, .slice none 0 0, .slice (some ⟨g9, 0, none⟩) 1 1, .slice none 0 0]), rowE 38 3 (.slice (some ⟨g3, 0, none⟩) 3 3) 3 ([0, 1, 0, 1, 0, 0, 3, 0, 0].map (Value.int .i64)), rowE 89 2 (.slice (some ⟨g5, 0, none⟩) 2 2) 2 ([.int .i64 2, .slice (some ⟨g2, 0, none⟩) 6 6, .int .i64 1, .slice (some ⟨g4, 0, none⟩) 1 1]), rowE 97 3 (.slice (some ⟨g2, 0, none⟩) 6 6) 6 ([12, 0, 0, 2, 0, 0, 8, 0, 0, 2, 2, 0, 0, 1, 0, 2, 2, 0].map (Value.int .i64)), rowE 97 3 (.slice (some ⟨g4, 0, none⟩) 1 1) 1 ([2, 2, 0].map (Value.int .i64)), rowE 38 3 (.slice (some ⟨g7, 0, none⟩) 2 2) 2 ([0, 1, 0, 1, 0, 0].map (Value.int .i64)), rowE 63 3 (.slice (some ⟨g9, 0, none⟩) 1 1) 1 ([.int .i64 0, .int .i64 0, .slice (some ⟨g8, 0, none⟩) 2 2]), rowE 3 1 (.slice (some ⟨g8, 0, none⟩) 2 2) 2 ([0, 1].map (Value.int .i64))]]) rfl ⟨⟨b1, 0, [.slice (some ⟨g11, 0, none⟩) 2 2], rfl, rfl, by kernel_rfl, by kernel_rfl, zat 3 rfl 0 rfl⟩, trivial⟩ rfl (slQ [0] rfl) ⟨smpD (.slice (some ⟨g3, 0, none⟩) 3 3) (.slice (some ⟨g5, 0, none⟩) 2 2) (.slice (some ⟨g2, 0, none⟩) 6 6) (.slice (some ⟨g4, 0, none⟩) 1 1) (.slice (some ⟨g7, 0, none⟩) 2 2) (.slice (some ⟨g9, 0, none⟩) 1 1) (.slice (some ⟨g8, 0, none⟩) 2 2), _, _, rfl, rfl, fun w hw => ⟨zco (zba hw List.mem_cons_self), fun m hm => by rcases List.mem_cons.1 hm with rfl | hm; (exact ⟨zco (zba hw (List.mem_cons_of_mem _ List.mem_cons_self)), zco (zba hw (List.mem_cons_of_mem _ (List.mem_cons_of_mem _ List.mem_cons_self))), fun g hg => by rcases List.mem_cons.1 hg with rfl | hg; (exact zco (zba hw (List.mem_cons_of_mem _ (List.mem_cons_of_mem _ (List.mem_cons_of_mem _ List.mem_cons_self))))); (obtain rfl := List.mem_singleton.1 hg; exact zco (zba hw (List.mem_cons_of_mem _ (List.mem_cons_of_mem _ (List.mem_cons_of_mem _ (List.mem_cons_of_mem _ List.mem_cons_self)))))), nilW w 3, PtsR.nil w, nilW w 4⟩); (obtain rfl := List.mem_singleton.1 hm; exact ⟨zco (zba hw (List.mem_cons_of_mem _ (List.mem_cons_of_mem _ (List.mem_cons_of_mem _ (List.mem_cons_of_mem _ (List.mem_cons_of_mem _ List.mem_cons_self)))))), nilW w 2, OpsR.nil w, zco (zba hw (List.mem_cons_of_mem _ (List.mem_cons_of_mem _ (List.mem_cons_of_mem _ (List.mem_cons_of_mem _ (List.mem_cons_of_mem _ (List.mem_cons_of_mem _ List.mem_cons_self))))))), (fun g hg => by obtain rfl := List.mem_singleton.1 hg; exact zco (zba hw (List.mem_cons_of_mem _ (List.mem_cons_of_mem _ (List.mem_cons_of_mem _ (List.mem_cons_of_mem _ (List.mem_cons_of_mem _ (List.mem_cons_of_mem _ (List.mem_cons_of_mem _ List.mem_cons_self))))))))), nilW w 4⟩)⟩, rfl, smp_ok _ _ _ _ _ _ _⟩
theorem l06Flat_mut (g : Nat) (a : Option Addr) (len cap : Nat) (z : List Int) (w0 : World) (l : List HP) (w : World) (hm0 : Mem w0 (curE g a len cap :: l) w) (hb : BRow .u8 w0 a len cap z) :
   Calls Try.prog 58 #[.pointer (some ⟨g, 0, none⟩)] w (fun e_ w_ => ∃ v_ p_, e_ = .returned v_ ∧ (fun u_ p_ => ∃ (m : Md) (ps : List HP), u_ = m.agg ∧ p_ = bigE [curE g a len cap, bigE ps] ∧ (∀ w, (bigE ps).holds w → RdsMd w m) ∧ MdOne m ∧ FlP m) v_ p_ ∧ Mem w0 (p_ :: l) w_) := by
 refine zet (N := 29) (args := [.pointer (some ⟨g, 0, none⟩)]) Try.func58 rfl rfl hm0 (srQ ?_)
 refine zdm rfl (zbe (z := .agg #[.slice none 0 0, .slice none 0 0, .slice none 0 0, .slice none 0 0]) rfl rfl) ?_
 intro b1
 refine ntQ (zag (zbf 1 rfl (zaz ?_)))
 refine lkQ1 (α := Nat) [0, 2] rfl (fun t => (boxE b1 #[.slice none 0 0, .slice none 0 0, .slice none 0 0, .slice none 0 0] 35 :: curE g a len cap :: l)) (fun t => [(3, .int .i64 (t : Int))]) (fun t => t ≤ 5) (fun t => 5 - t) 0 (by omega) (saQ rfl) (.refl _) ?_
 intro t hi2
 have ht := hi2
 refine zag (zag (reQ 1 rfl ?_))
 refine zbq rfl rfl rfl rfl rfl rfl (fun h3 => ?_) (fun h3 => ?_)
 ·
  refine ntQ (zai rfl (zcy (sbQ (zag (reQ 1 rfl ?_)))))
  refine zcl (R := (fun u_ p_ => ∃ (D : List Md) (v : Value) (ps : List HP), u_ = .agg #[v] ∧ p_ = bigE [curE g a len cap, bigE ps] ∧ (∀ w, (bigE ps).holds w → RdsDs w v D) ∧ v.oneCell' = true ∧ DdP D ∧ 1 ≤ D.length)) 1 rfl rfl rfl rfl rfl (fun l' w hm => l04Design_mut g a len cap z _ _ _ hm hb) ?_
  intro v4 p5 hR6
  obtain ⟨D, dv, dp, rfl, rfl, hdp, hdv1, hdd, hd1⟩ := hR6
  refine zcr (l' := (boxE b1 #[.slice none 0 0, .slice none 0 0, .slice none 0 0, .slice none 0 0] 35 :: bigE [curE g a len cap, bigE dp] :: l)) rfl ?_
  refine hl_pick 2 [0, 1] rfl rfl (by decide) ?_
  refine zfr (curE g a len cap :: bigE dp :: boxE b1 #[.slice none 0 0, .slice none 0 0, .slice none 0 0, .slice none 0 0] 35 :: l) zdf ?_
  refine zah 1 rfl (zcl (R := (fun u_ p_ => (∃ x_ : Int, u_ = .int .i64 x_ ∧ 0 ≤ x_ ∧ x_ < 2) ∧ p_ = curE g a len cap)) 0 rfl rfl rfl rfl rfl (fun l' w hm => zcc g a len cap z 2 _ _ _ hm hb (by constructor <;> omega)) ?_)
  intro v7 p8 hR9
  obtain ⟨⟨xhR9, rfl, xhR90, xhR91⟩, rfl⟩ := hR9
  refine zcr (l' := (curE g a len cap :: bigE dp :: boxE b1 #[.slice none 0 0, .slice none 0 0, .slice none 0 0, .slice none 0 0] 35 :: l)) rfl ?_
  refine hvQ rfl (vaQ rfl rfl rfl) (hl_q rfl rfl rfl (zaw rfl rfl (fun w hm => specFlatten_ret D (1 + xhR9) dv w (hdp w (hm.holds _ (zcf (i := 1) rfl))))) ?_)
  intro v10 p11 hR12
  obtain ⟨fmhR12, fohR12, fphR12, rfl, rfl, hfphR12, hfohR12, hffhR12, hfyhR12, hfnhR12⟩ := hR12
  refine zah 3 rfl (zbs (fun h13 => ?_) (fun h13 => ?_))
  ·
   refine zdm rfl (zbe (z := .agg #[.slice none 0 0, .slice none 0 0, .slice none 0 0, .slice none 0 0]) rfl rfl) ?_
   intro b14
   refine zbd (cs' := #[fmhR12.sv, fmhR12.av, fmhR12.iv, fmhR12.mv]) (i := 0) (off := 0) (us := [fmhR12.sv, fmhR12.av, fmhR12.iv, fmhR12.mv]) rfl rfl rfl rfl rfl rfl rfl (zab hfohR12.1 (zab hfohR12.2.1 (zab hfohR12.2.2.1 (zab hfohR12.2.2.2 zbc)))) rfl rfl rfl (zbb 1 rfl (zbf 1 rfl (zai rfl (srQ (hvQ rfl (zax (cs := [fmhR12.sv, fmhR12.av, fmhR12.iv, fmhR12.mv]) rfl rfl rfl rfl rfl (zat 0 rfl 0 rfl)) ?_)))))
   refine zbd (cs' := #[fmhR12.sv, fmhR12.av, fmhR12.iv, fmhR12.mv]) (i := 4) (off := 0) (us := [fmhR12.sv, fmhR12.av, fmhR12.iv, fmhR12.mv]) rfl rfl rfl rfl rfl rfl rfl (zab hfohR12.1 (zab hfohR12.2.1 (zab hfohR12.2.2.1 (zab hfohR12.2.2.2 zbc)))) rfl rfl rfl (ntQ ?_)
   refine zap (zac ?_)
   refine zdy ?_
   refine zac (zaf ?_)
   refine zbj 5 [4, 3, 0, 1, 2] rfl rfl (by decide) ?_
   refine zcb 2 rfl ?_
   exact zcz (rs := [.cell 2 35]) (vs := [.agg #[fmhR12.sv, fmhR12.av, fmhR12.iv, fmhR12.mv]]) rfl ⟨⟨b1, 0, [fmhR12.sv, fmhR12.av, fmhR12.iv, fmhR12.mv], rfl, rfl, by kernel_rfl, by kernel_rfl, zat 3 rfl 0 rfl⟩, trivial⟩ rfl (fun w hm => ⟨_, bigE [curE g a len cap, bigE fphR12], rfl, ⟨fmhR12, fphR12, rfl, rfl, hfphR12, hfohR12, hffhR12⟩, hm.sub (.cons_cons _ (.cons _ (.cons _ (.cons _ (.refl _)))))⟩)
  refine zdm rfl (zbe (z := .agg #[.slice none 0 0, .slice none 0 0, .slice none 0 0, .slice none 0 0]) rfl rfl) ?_
  intro b15
  refine zbd (cs' := #[fmhR12.sv, fmhR12.av, fmhR12.iv, fmhR12.mv]) (i := 0) (off := 0) (us := [fmhR12.sv, fmhR12.av, fmhR12.iv, fmhR12.mv]) rfl rfl rfl rfl rfl rfl rfl (zab hfohR12.1 (zab hfohR12.2.1 (zab hfohR12.2.2.1 (zab hfohR12.2.2.2 zbc)))) rfl rfl rfl (zbb 1 rfl (zbf 1 rfl (fsQ rfl (zde ?_))))
  refine reQ 1 rfl (hvQ rfl (vaQ rfl rfl rfl) (enQ 1 rfl ?_))
  refine zbj 5 [2, 4] rfl rfl (by decide) ?_
  exact zbw (t + 1) (by omega) (by omega) (saQ rfl) (.refl _)
 refine ntQ (zar rfl ?_)
 refine zbl (zdx ?_)
 refine zan (zaq (srQ ?_))
 refine hl_q rfl rfl rfl (zaw rfl rfl (fun w hm => specSampleDesign_ret w)) ?_
 intro v16 p17 hR18
 obtain ⟨SD, sdv, sp_, rfl, rfl, hsp, hsdv, hsdes⟩ := hR18
 refine hl_q rfl rfl rfl (zaw rfl rfl (fun w hm => specFlatten_ret SD 2 sdv w (hsp w (hm.holds _ (zcf (i := 0) rfl))))) ?_
 intro v19 p20 hR21
 obtain ⟨fmhR21, fohR21, fphR21, rfl, rfl, hfphR21, hfohR21, hffhR21, hfyhR21, hfnhR21⟩ := hR21
 refine zah 3 rfl (zbs (fun h22 => ?_) (fun h22 => ?_))
 ·
  refine zdm rfl (zbe (z := .agg #[.slice none 0 0, .slice none 0 0, .slice none 0 0, .slice none 0 0]) rfl rfl) ?_
  intro b23
  refine zbd (cs' := #[fmhR21.sv, fmhR21.av, fmhR21.iv, fmhR21.mv]) (i := 0) (off := 0) (us := [fmhR21.sv, fmhR21.av, fmhR21.iv, fmhR21.mv]) rfl rfl rfl rfl rfl rfl rfl (zab hfohR21.1 (zab hfohR21.2.1 (zab hfohR21.2.2.1 (zab hfohR21.2.2.2 zbc)))) rfl rfl rfl (zbb 1 rfl (srQ (hvQ rfl (zax (cs := [fmhR21.sv, fmhR21.av, fmhR21.iv, fmhR21.mv]) rfl rfl rfl rfl rfl (zat 0 rfl 0 rfl)) ?_)))
  refine zbd (cs' := #[fmhR21.sv, fmhR21.av, fmhR21.iv, fmhR21.mv]) (i := 3) (off := 0) (us := [fmhR21.sv, fmhR21.av, fmhR21.iv, fmhR21.mv]) rfl rfl rfl rfl rfl rfl rfl (zab hfohR21.1 (zab hfohR21.2.1 (zab hfohR21.2.2.1 (zab hfohR21.2.2.2 zbc)))) rfl rfl rfl (ntQ ?_)
  refine zap (zbj 5 [3, 2, 0, 1, 4] rfl rfl (by decide) ?_)
  refine zcb 2 rfl ?_
  exact zcz (rs := [.cell 2 35]) (vs := [.agg #[fmhR21.sv, fmhR21.av, fmhR21.iv, fmhR21.mv]]) rfl ⟨⟨b1, 0, [fmhR21.sv, fmhR21.av, fmhR21.iv, fmhR21.mv], rfl, rfl, by kernel_rfl, by kernel_rfl, zat 3 rfl 0 rfl⟩, trivial⟩ rfl (fun w hm => ⟨_, bigE [curE g a len cap, bigE fphR21], rfl, ⟨fmhR21, fphR21, rfl, rfl, hfphR21, hfohR21, hffhR21⟩, hm.sub (.cons_cons _ (.cons _ (.cons _ (.cons _ (.refl _)))))⟩)
 refine zdm rfl (zbe (z := .agg #[.slice none 0 0, .slice none 0 0, .slice none 0 0, .slice none 0 0]) rfl rfl) ?_
 intro b24
 refine zbd (cs' := #[fmhR21.sv, fmhR21.av, fmhR21.iv, fmhR21.mv]) (i := 0) (off := 0) (us := [fmhR21.sv, fmhR21.av, fmhR21.iv, fmhR21.mv]) rfl rfl rfl rfl rfl rfl rfl (zab hfohR21.1 (zab hfohR21.2.1 (zab hfohR21.2.2.1 (zab hfohR21.2.2.2 zbc)))) rfl rfl rfl (zbb 1 rfl (srQ (hvQ rfl (zax (cs := [fmhR21.sv, fmhR21.av, fmhR21.iv, fmhR21.mv]) rfl rfl rfl rfl rfl (zat 0 rfl 0 rfl)) ?_)))
 refine zbd (cs' := #[fmhR21.sv, fmhR21.av, fmhR21.iv, fmhR21.mv]) (i := 3) (off := 0) (us := [fmhR21.sv, fmhR21.av, fmhR21.iv, fmhR21.mv]) rfl rfl rfl rfl rfl rfl rfl (zab hfohR21.1 (zab hfohR21.2.1 (zab hfohR21.2.2.1 (zab hfohR21.2.2.2 zbc)))) rfl rfl rfl (ntQ ?_)
 refine zap (zbj 5 [3, 2, 0, 1, 4] rfl rfl (by decide) ?_)
 refine zcb 2 rfl ?_
 exact zcz (rs := [.cell 2 35]) (vs := [.agg #[fmhR21.sv, fmhR21.av, fmhR21.iv, fmhR21.mv]]) rfl ⟨⟨b1, 0, [fmhR21.sv, fmhR21.av, fmhR21.iv, fmhR21.mv], rfl, rfl, by kernel_rfl, by kernel_rfl, zat 3 rfl 0 rfl⟩, trivial⟩ rfl (fun w hm => ⟨_, bigE [curE g a len cap, bigE fphR21], rfl, ⟨fmhR21, fphR21, rfl, rfl, hfphR21, hfohR21, hffhR21⟩, hm.sub (.cons_cons _ (.cons _ (.cons _ (.cons _ (.refl _)))))⟩)
theorem l07Ins_mut (g : Nat) (a : Option Addr) (len cap : Nat) (z : List Int) (m : Md) (n : Int) (w0 : World) (l : List HP) (w : World) (hm0 : Mem w0 (curE g a len cap :: l) w) (hb : BRow .u8 w0 a len cap z) (hr : ∀ w, Mem w0 l w → RdsMd w m) (hmo : MdOne m) (hn : 0 ≤ n ∧ n ≤ 16) :
   Calls Try.prog 59 #[.pointer (some ⟨g, 0, none⟩), .agg #[m.sv, m.av, m.iv, m.mv], .int .i64 n] w (fun e_ w_ => ∃ v_ p_, e_ = .returned v_ ∧ (fun u_ p_ => ∃ (rs : List CRow) (ps : List HP), p_ = bigE [curE g a len cap, bigE ps] ∧ (∀ w, (bigE ps).holds w → RdsCl w u_ rs) ∧ u_.oneCell' = true ∧ (rs.length : Int) = n ∧ ∀ r ∈ rs, r.xs.length = (pwK m 0).length ∧ ∀ y ∈ r.xs, 0 ≤ y ∧ y < 16) v_ p_ ∧ Mem w0 (p_ :: l) w_) := by
 refine zet (N := 37) (args := [.pointer (some ⟨g, 0, none⟩), .agg #[m.sv, m.av, m.iv, m.mv], .int .i64 n]) Try.func59 rfl rfl hm0 (srQ ?_)
 refine zdm rfl (zdk rfl rfl) ?_
 intro b1
 refine zbb 1 rfl (srQ ?_)
 refine zdt rfl (zdo (s := 1) rfl Try.underlying44 rfl) ?_
 intro g2
 refine zbb 1 rfl (srQ (hvQ rfl (zax (cs := [m.sv, m.av, m.iv, m.mv]) rfl rfl rfl rfl rfl (zat 1 rfl 0 rfl)) ?_))
 refine hl_q rfl rfl rfl (zaw rfl rfl (fun w hm => zek m 0 w (hr w (hm.sub (.cons _ (.cons _ (.cons _ (.refl _)))))))) ?_
 intro v3 p4 hR5
 subst hR5
 refine hvQ rfl (lnQ rfl rfl rfl (zaj 0 rfl)) (zbb 1 rfl (zag (zbf 1 rfl (zaz ?_))))
 refine zes (bigE [] :: rowE 3 1 v3 ((pwK m 0).length) ((pwK m 0).map (Value.int .i64)) :: rowE 48 1 (.slice (some ⟨g2, 0, none⟩) 0 0) (([] : List CRow).length) (([] : List CRow).flatMap crowC) :: boxE b1 #[m.sv, m.av, m.iv, m.mv] 35 :: curE g a len cap :: l) zdu ?_
 refine lkQ4 (α := Nat) (β := List CRow) (γ := Value) (δ := List HP) [0, 1, 2, 4, 6, 8] rfl (fun i rs iv ps => (bigE ps :: rowE 48 1 iv rs.length (rs.flatMap crowC) :: boxE b1 #[m.sv, m.av, m.iv, m.mv] 35 :: curE g a len cap :: l)) (fun i rs iv ps => [(7, iv), (9, .int .i64 (i : Int))]) (fun i rs iv ps => (i : Int) ≤ n ∧ rs.length = i ∧ (∀ w, (bigE ps).holds w → ∀ q ∈ rs, RdsW w q.v 1 q.xs.length (q.xs.map (Value.int .i64))) ∧ ∀ r ∈ rs, r.xs.length = (pwK m 0).length ∧ ∀ y ∈ r.xs, 0 ≤ y ∧ y < 16) (fun i rs iv ps => n.toNat - i) 0 [] _ [] ⟨by omega, rfl, fun w hw q hq => (by cases hq), fun r hr9 => (by cases hr9)⟩ (saQ rfl) (.cons_cons _ (.cons _ (.refl _))) ?_
 intro i rs iv ps hi6
 obtain ⟨hi, hrl, hp, hq⟩ := hi6
 refine zag (zag (reQ 2 rfl ?_))
 refine zbq rfl rfl rfl rfl rfl rfl (fun h7 => ?_) (fun h7 => ?_)
 ·
  refine ntQ (zai rfl (zcy (sbQ (srQ ?_))))
  refine zdt rfl (zdo (s := 1) rfl Try.underlying48 rfl) ?_
  intro g8
  refine zbb 1 rfl (zag (zbf 1 rfl (zaz ?_)))
  refine lkQ3 (α := Nat) (β := List Int) (γ := Value) [0, 1, 2, 4, 6, 7, 8, 9, 18] rfl (fun j zs zv => (rowE 3 1 zv zs.length (zs.map (Value.int .i64)) :: bigE ps :: rowE 48 1 iv rs.length (rs.flatMap crowC) :: boxE b1 #[m.sv, m.av, m.iv, m.mv] 35 :: curE g a len cap :: l)) (fun j zs zv => [(10, zv), (11, .int .i64 (j : Int))]) (fun j zs zv => j ≤ (pwK m 0).length ∧ zs.length = j ∧ ∀ y ∈ zs, 0 ≤ y ∧ y < 16) (fun j zs zv => (pwK m 0).length - j) 0 [] _ ⟨by omega, rfl, fun y hy => (by cases hy)⟩ (saQ rfl) (.refl _) ?_
  intro j zs zv hi9
  obtain ⟨hj, hzl, hzr⟩ := hi9
  have hpl := pwK_le m 0
  refine zag (zag (reQ 2 rfl ?_))
  refine zbq rfl rfl rfl rfl rfl rfl (fun h10 => ?_) (fun h10 => ?_)
  ·
   refine ntQ (zai rfl (zcy (sbQ (reQ 2 rfl ?_))))
   refine zcl (R := (fun u_ p_ => (∃ x_ : Int, u_ = .int .i64 x_ ∧ 0 ≤ x_ ∧ x_ < 16) ∧ p_ = curE g a len cap)) 4 rfl rfl rfl rfl rfl (fun l' w hm => zcc g a len cap z 16 _ _ _ hm hb (by constructor <;> omega)) ?_
   intro v11 p12 hR13
   obtain ⟨⟨xhR13, rfl, xhR130, xhR131⟩, rfl⟩ := hR13
   refine zcr (l' := (rowE 3 1 zv zs.length (zs.map (Value.int .i64)) :: bigE ps :: rowE 48 1 iv rs.length (rs.flatMap crowC) :: boxE b1 #[m.sv, m.av, m.iv, m.mv] 35 :: curE g a len cap :: l)) rfl ?_
   refine zdt rfl (zal (z := .int .i64 0) (s := 1) (cs := ([xhR13].map (Value.int .i64))) rfl Try.underlying48 rfl (by decide) rfl (by kernel_rfl) rfl) ?_
   intro g14
   refine zcp (i := 1) (z := .int .i64 0) (bytes := 8) rfl rfl rfl rfl Try.underlying48 (by kernel_rfl) rfl rfl rfl rfl (zaj 0 rfl) (zch _) (by first | omega | (simp; done) | (simp; omega)) (zci zs ([xhR13])) (zcs zs ([xhR13])) (fun _ => rfl) ?_
   intro v15
   refine enQ 1 rfl (zde (reQ 1 rfl (hvQ rfl (vaQ rfl rfl rfl) (enQ 1 rfl ?_))))
   exact zcn (j + 1) (zs ++ ([xhR13])) v15 ⟨by omega, by rw [List.length_append, List.length_singleton]; omega, fun y hy => (List.mem_append.1 hy).elim (hzr y) (fun h8 => by rw [List.mem_singleton] at h8; omega)⟩ (by omega) (saQ rfl) (.cons _ (.refl _))
  refine ntQ (zar rfl ?_)
  refine zbl (zdx ?_)
  refine zan (zaq (reQ 2 rfl ?_))
  refine zdt rfl (zen rfl Try.underlying44 (by kernel_rfl) rfl (fun w hm => (zaj 0 rfl w hm).one)) ?_
  intro g16
  refine zcq (i := 1) rfl (fun ho17 => ?_)
  refine zcp (i := 3) (z := .slice none 0 0) (bytes := 24) rfl rfl rfl rfl Try.underlying44 (by kernel_rfl) rfl rfl rfl rfl (zaj 0 rfl) (zab ho17 zbc) (by first | omega | (simp only [List.length_append, List.length_cons, List.length_nil]; omega)) (zci rs [(CRow.mk zv zs)]) (zdc crowC rs (CRow.mk zv zs) _ rfl) (fun _ => rfl) ?_
  intro v18
  refine enQ 1 rfl (zde (reQ 1 rfl (hvQ rfl (vaQ rfl rfl rfl) (enQ 1 rfl ?_))))
  refine zbj 6 [5, 4, 3, 1, 2] rfl rfl (by decide) ?_
  refine zcb 2 rfl ?_
  exact zdr (i + 1) (rs ++ [(CRow.mk zv zs)]) v18 [bigE ps, rowE 3 1 zv zs.length (zs.map (Value.int .i64))] ⟨by omega, by rw [List.length_append, List.length_singleton]; omega, fun w hw => RdsCl.snoc (v := iv) (v' := iv) (hp w (zba hw List.mem_cons_self)) (zco (zba hw (List.mem_cons_of_mem _ List.mem_cons_self))), fun r hr9 => (List.mem_append.1 hr9).elim (hq r) (fun h8 => by rw [List.mem_singleton] at h8; subst h8; exact ⟨by show zs.length = _; omega, hzr⟩)⟩ (by omega) (saQ rfl) (.refl _)
 refine ntQ (zar rfl ?_)
 refine zbl (zdx ?_)
 refine zan (zaq (zbf 2 rfl ?_))
 refine zap (zey (fun w hm => (zaj 1 rfl w hm).one) (fun ho9 => ?_))
 refine zbj 4 [3, 2, 0, 1] rfl rfl (by decide) ?_
 refine zcb 2 rfl ?_
 refine zbj 3 [1, 0, 2] rfl rfl (by decide) ?_
 refine zcb 2 rfl ?_
 exact zcz (rs := [.tmp 6]) (vs := [iv]) rfl ⟨rfl, trivial⟩ rfl (fun w hm => ⟨_, bigE [curE g a len cap, bigE [rowE 48 1 iv rs.length (rs.flatMap crowC), bigE ps]], rfl, ⟨rs, _, rfl, fun w hw => ⟨zco (zba hw List.mem_cons_self), hp w (zba hw (List.mem_cons_of_mem _ List.mem_cons_self))⟩, ho9, by omega, hq⟩, hm.sub (.cons_cons _ (.cons _ (.refl _)))⟩)
theorem DrawFlat_ret (a : Option Addr) (len cap : Nat) (z : List Int) (w : World) (hb : BRow .u8 w a len cap z) (hlen : len ≤ 1048576) :
   Calls Try.prog 17 #[.slice a len cap] w (Ret w (fun u_ p_ => ∃ (m : Md) (rs : List CRow) (v : Value) (ps : List HP), u_ = .tuple #[m.agg, v] ∧ p_ = [bigE ps] ∧ (∀ w, (bigE ps).holds w → RdsMd w m ∧ RdsCl w v rs) ∧ MdOne m ∧ v.oneCell' = true ∧ FlP m ∧ InI m (rs.map CRow.xs) ∧ 1 ≤ rs.length ∧ rs.length ≤ 8 ∧ ∀ r ∈ rs, ∀ y ∈ r.xs, 0 ≤ y ∧ y < 16)) := by
 refine zca (N := 17) (args := [.slice a len cap]) Try.func17 rfl rfl (srQ ?_)
 refine zdm rfl (zbe (z := .agg #[.slice none 0 0, .slice none 0 0, .slice none 0 0, .slice none 0 0]) rfl rfl) ?_
 intro b1
 refine zbb 1 rfl (zag (reQ 1 rfl ?_))
 refine hl_q rfl rfl rfl (zaw rfl rfl (fun w hm => new_ret (hb.below hm.bel) hlen)) ?_
 intro v2 p3 hR4
 obtain ⟨ghR4, rfl, rfl⟩ := hR4
 refine zbb 1 rfl (zag (reQ 1 rfl ?_))
 refine zcl (R := (fun u_ p_ => ∃ (m : Md) (ps : List HP), u_ = m.agg ∧ p_ = bigE [curE ghR4 a len cap, bigE ps] ∧ (∀ w, (bigE ps).holds w → RdsMd w m) ∧ MdOne m ∧ FlP m)) 0 rfl rfl rfl rfl rfl (fun l' w hm => l06Flat_mut ghR4 a len cap z _ _ _ hm hb) ?_
 intro v5 p6 hR7
 obtain ⟨m, mp, rfl, rfl, hmp, hmo, hfl⟩ := hR7
 refine zcr (l' := [bigE [curE ghR4 a len cap, bigE mp], boxE b1 #[.slice none 0 0, .slice none 0 0, .slice none 0 0, .slice none 0 0] 35]) rfl ?_
 refine zdm rfl (zbe (z := .agg #[.slice none 0 0, .slice none 0 0, .slice none 0 0, .slice none 0 0]) rfl rfl) ?_
 intro b8
 refine zbd (cs' := #[m.sv, m.av, m.iv, m.mv]) (i := 0) (off := 0) (us := [m.sv, m.av, m.iv, m.mv]) rfl rfl rfl rfl rfl rfl rfl (zab hmo.1 (zab hmo.2.1 (zab hmo.2.2.1 (zab hmo.2.2.2 zbc)))) rfl rfl rfl (ntQ (zag ?_))
 refine zfu 3 [2, 0, 1] rfl rfl (by decide) ?_
 refine zes [curE ghR4 a len cap, bigE mp, boxE b8 #[m.sv, m.av, m.iv, m.mv] 35, boxE b1 #[.slice none 0 0, .slice none 0 0, .slice none 0 0, .slice none 0 0] 35] zdf ?_
 refine zeu (l := [bigE mp, boxE b8 #[m.sv, m.av, m.iv, m.mv] 35, boxE b1 #[.slice none 0 0, .slice none 0 0, .slice none 0 0, .slice none 0 0] 35]) rfl 7 [0, 1, 2, 3, 4, 5, 6] (List.take 7 _) (List.drop 7 _) [[], [], [], [], [3], [4], [1, 2, 4, 5]] [10, 11, 12, 13, 14, 15, 16] (fun i_ vs_ v_ p_ => match i_ with | 0 => v_ = .agg #[m.sv, m.av, m.iv, m.mv] ∧ p_ = [] | 1 => v_ = .pointer (some ⟨ghR4, 0, none⟩) ∧ p_ = [] | 2 => v_ = .agg #[m.sv, m.av, m.iv, m.mv] ∧ p_ = [] | 3 => v_ = .pointer (some ⟨ghR4, 0, none⟩) ∧ p_ = [] | 4 => (∃ pm_, p_ = [pm_] ∧ (fun u_ p_ => (∃ x_ : Int, u_ = .int .i64 x_ ∧ 0 ≤ x_ ∧ x_ < 8) ∧ p_ = curE ghR4 a len cap) v_ pm_) | 5 => v_ = .int .i64 (1 + (intOf_o (List.getD vs_ 0 undef))) ∧ p_ = [] | 6 => (∃ pm_, p_ = [pm_] ∧ (fun u_ p_ => ∃ (rs : List CRow) (ps : List HP), p_ = bigE [curE ghR4 a len cap, bigE ps] ∧ (∀ w, (bigE ps).holds w → RdsCl w u_ rs) ∧ u_.oneCell' = true ∧ (rs.length : Int) = 1 + (intOf_o (List.getD vs_ 2 undef)) ∧ ∀ r ∈ rs, r.xs.length = (pwK m 0).length ∧ ∀ y ∈ r.xs, 0 ≤ y ∧ y < 16) v_ pm_) | _ => True) [[], [], [], [], [3], [], [1, 2, 5]] [none, none, none, none, some 9, none, some 4] [curE ghR4 a len cap] [0, 1, 2, 3, 5, 6] 9 (List.take_append_drop 7 _).symm (by kernel_rfl) (by kernel_rfl) (by kernel_rfl) rfl rfl ?_ ?_
 ·
  refine ⟨?_, ?_, ?_, ?_, ?_, ?_, ?_, trivial⟩
  ·
   intro vf pf hmu hR
   refine dqQ [] [] rfl (zbo (zas [5] rfl) (List.sublist_append_right _ _) ?_)
   exact zbx (zax (cs := [m.sv, m.av, m.iv, m.mv]) rfl rfl rfl rfl rfl (zat 1 rfl 0 rfl))
  ·
   intro vf pf hmu hR
   refine dqQ [] [] rfl (zce (zas [4] rfl) ?_)
   exact zbx (zav rfl)
  ·
   intro vf pf hmu hR
   refine dqQ [] [] rfl (zbo (zas [5] rfl) (List.sublist_append_right _ _) ?_)
   exact zbx (zax (cs := [m.sv, m.av, m.iv, m.mv]) rfl rfl rfl rfl rfl (zat 1 rfl 0 rfl))
  ·
   intro vf pf hmu hR
   refine dqQ [] [] rfl (zce (zas [4] rfl) ?_)
   exact zbx (zav rfl)
  ·
   intro vf pf hmu hR
   have e3 := hR 3 (by decide)
   refine Or.inl ⟨rfl, ?_⟩
   show RunM _ _ _ (pf 9) (([3] : List Nat).flatMap pf ++ _) (envOf _ vf [3] ++ _) _ _
   rw [hmu]
   exact zdn (sk 13 (congrArg some e3.1) (zak _)) (by simp only [e3.2, fS] <;> rfl) (zds (R := (fun u_ p_ => (∃ x_ : Int, u_ = .int .i64 x_ ∧ 0 ≤ x_ ∧ x_ < 8) ∧ p_ = curE ghR4 a len cap)) rfl rfl (fun L w hX hm => zcc ghR4 a len cap z 8 _ _ _ hm hb (by constructor <;> omega)))
  ·
   intro vf pf hmu hR
   have e4 : (∃ pm_, (pf 4) = [pm_] ∧ (fun u_ p_ => (∃ x_ : Int, u_ = .int .i64 x_ ∧ 0 ≤ x_ ∧ x_ < 8) ∧ p_ = curE ghR4 a len cap) (vf 4) pm_) := hR 4 (by decide)
   obtain ⟨p10, pE4, hR11⟩ := e4
   obtain ⟨v9, vE4⟩ : ∃ x, vf 4 = x := ⟨_, rfl⟩
   rw [vE4] at hR11
   obtain ⟨⟨xhR11, rfl, xhR110, xhR111⟩, rfl⟩ := hR11
   refine dqQ [] [4] rfl (zce (sk 14 (congrArg some vE4) (zak _)) ?_)
   exact zct (zbx (vaQ rfl rfl rfl)) (fun _ _ h => ⟨h.1.trans (by show _ = (.int .i64 (1 + (intOf_o (vf 4))) : Value); first | (rw [vE4]; done) | (rw [vE4]; rfl)), h.2⟩)
  intro vf pf hmu hR
  have e1 := hR 1 (by decide)
  have e2 := hR 2 (by decide)
  have e4 : (∃ pm_, (pf 4) = [pm_] ∧ (fun u_ p_ => (∃ x_ : Int, u_ = .int .i64 x_ ∧ 0 ≤ x_ ∧ x_ < 8) ∧ p_ = curE ghR4 a len cap) (vf 4) pm_) := hR 4 (by decide)
  obtain ⟨p10, pE4, hR11⟩ := e4
  obtain ⟨v9, vE4⟩ : ∃ x, vf 4 = x := ⟨_, rfl⟩
  rw [vE4] at hR11
  obtain ⟨⟨xhR11, rfl, xhR110, xhR111⟩, rfl⟩ := hR11
  have e5 : (vf 5) = .int .i64 (1 + (intOf_o (vf 4))) ∧ (pf 5) = [] := hR 5 (by decide)
  rw [vE4] at e5
  refine Or.inl ⟨rfl, ?_⟩
  show RunM _ _ _ (pf 4) (([1, 2, 5] : List Nat).flatMap pf ++ _) (envOf _ vf [1, 2, 4, 5] ++ _) _ _
  rw [pE4]
  exact zdn (sk 11 (congrArg some e1.1) (sk 12 (congrArg some e2.1) (sk 15 (congrArg some e5.1) (zak _)))) (by simp only [e1.2, e2.2, e5.2, fS] <;> rfl) (rm_mono (zds (R := (fun u_ p_ => ∃ (rs : List CRow) (ps : List HP), p_ = bigE [curE ghR4 a len cap, bigE ps] ∧ (∀ w, (bigE ps).holds w → RdsCl w u_ rs) ∧ u_.oneCell' = true ∧ (rs.length : Int) = 1 + xhR11 ∧ ∀ r ∈ rs, r.xs.length = (pwK m 0).length ∧ ∀ y ∈ r.xs, 0 ≤ y ∧ y < 16)) rfl rfl (fun L w hX hm => l07Ins_mut ghR4 a len cap z m (1 + xhR11) _ _ _ hm hb (fun w9 h9 => hmp w9 ((hX w9 h9).holds _ (zcf (l := [bigE mp, boxE b8 #[m.sv, m.av, m.iv, m.mv] 35, boxE b1 #[.slice none 0 0, .slice none 0 0, .slice none 0 0, .slice none 0 0] 35]) (i := 0) rfl))) hmo (by omega))) (fun v_ p_ h => by show (∃ pm_, p_ = [pm_] ∧ (fun u_ p_ => ∃ (rs : List CRow) (ps : List HP), p_ = bigE [curE ghR4 a len cap, bigE ps] ∧ (∀ w, (bigE ps).holds w → RdsCl w u_ rs) ∧ u_.oneCell' = true ∧ (rs.length : Int) = 1 + (intOf_o (vf 4)) ∧ ∀ r ∈ rs, r.xs.length = (pwK m 0).length ∧ ∀ y ∈ r.xs, 0 ≤ y ∧ y < 16) v_ pm_); rw [vE4]; exact h))
 intro vf pf hmu hR
 have e0 := hR 0 (by decide)
 have e4 : (∃ pm_, (pf 4) = [pm_] ∧ (fun u_ p_ => (∃ x_ : Int, u_ = .int .i64 x_ ∧ 0 ≤ x_ ∧ x_ < 8) ∧ p_ = curE ghR4 a len cap) (vf 4) pm_) := hR 4 (by decide)
 obtain ⟨p10, pE4, hR11⟩ := e4
 obtain ⟨v9, vE4⟩ : ∃ x, vf 4 = x := ⟨_, rfl⟩
 rw [vE4] at hR11
 obtain ⟨⟨xhR11, rfl, xhR110, xhR111⟩, rfl⟩ := hR11
 have e6 : (∃ pm_, (pf 6) = [pm_] ∧ (fun u_ p_ => ∃ (rs : List CRow) (ps : List HP), p_ = bigE [curE ghR4 a len cap, bigE ps] ∧ (∀ w, (bigE ps).holds w → RdsCl w u_ rs) ∧ u_.oneCell' = true ∧ (rs.length : Int) = 1 + (intOf_o (vf 4)) ∧ ∀ r ∈ rs, r.xs.length = (pwK m 0).length ∧ ∀ y ∈ r.xs, 0 ≤ y ∧ y < 16) (vf 6) pm_) := hR 6 (by decide)
 rw [vE4] at e6
 obtain ⟨p13, pE6, hR14⟩ := e6
 obtain ⟨v12, vE6⟩ : ∃ x, vf 6 = x := ⟨_, rfl⟩
 rw [vE6] at hR14
 obtain ⟨rshR14, nphR14, rfl, hnphR14, hnohR14, hnlhR14, hnqhR14⟩ := hR14
 have q0 := hR 0 (by decide)
 have q1 := hR 1 (by decide)
 have q2 := hR 2 (by decide)
 have q3 := hR 3 (by decide)
 have q5 := hR 5 (by decide)
 refine zdg (zcu [5, 4, 3, 2, 0] _ (sk 10 (congrArg some e0.1) (sk 16 (congrArg some vE6) (zak _))) rfl) (by simp only [pE6, vE6, q0.2, q1.2, q2.2, q3.2, q5.2, fS] <;> rfl) ?_
 simp only [List.drop_succ_cons, List.drop_zero]
 refine zbd (cs' := #[m.sv, m.av, m.iv, m.mv]) (i := 3) (off := 0) (us := [m.sv, m.av, m.iv, m.mv]) rfl rfl rfl rfl rfl rfl rfl (zab hmo.1 (zab hmo.2.1 (zab hmo.2.2.1 (zab hmo.2.2.2 zbc)))) rfl rfl rfl (zbb 1 rfl ?_)
 refine zap (zbj 4 [3, 2, 1, 0] rfl rfl (by decide) ?_)
 refine zdi [curE ghR4 a len cap, bigE nphR14, bigE mp, boxE b8 #[m.sv, m.av, m.iv, m.mv] 35, boxE b1 #[m.sv, m.av, m.iv, m.mv] 35] zdf ?_
 refine zbj 5 [4, 3, 1, 2] rfl rfl (by decide) ?_
 refine zcb 2 rfl ?_
 try dsimp only [intOf_o] at hnlhR14
 have hrl9 : 1 ≤ rshR14.length ∧ rshR14.length ≤ 8 := by omega
 exact zcx (rs := [.cell 2 35, .tmp 3]) (vs := [.agg #[m.sv, m.av, m.iv, m.mv], v12]) (post := [bigE [bigE mp, bigE nphR14]]) rfl ⟨⟨b1, 0, [m.sv, m.av, m.iv, m.mv], rfl, rfl, by kernel_rfl, by kernel_rfl, zat 2 rfl 0 rfl⟩, rfl, trivial⟩ rfl (slQ [0] rfl) ⟨m, rshR14, v12, _, rfl, rfl, fun w hw => ⟨hmp w (zba hw List.mem_cons_self), hnphR14 w (zba hw (List.mem_cons_of_mem _ List.mem_cons_self))⟩, hmo, hnohR14, hfl, ⟨by rw [List.length_map]; omega, fun t ht => by rw [List.length_map] at ht; rw [xs_at]; exact (hnqhR14 _ (zcg ht)).1⟩, hrl9.1, hrl9.2, fun r hr9 => (hnqhR14 r hr9).2⟩
theorem zff (x : Int) (n : Nat) (hn : n ≤ 4) : bits .and .i64 x (((2 ^ n - 1 : Nat) : Int)) = IntKind.i64.wrap (((x % 18446744073709551616).toNat % 2 ^ n : Nat) : Int) := by
  have hk : 2 ^ n ≤ 16 := by rcases (by omega : n = 0 ∨ n = 1 ∨ n = 2 ∨ n = 3 ∨ n = 4) with rfl | rfl | rfl | rfl | rfl <;> decide
  show IntKind.i64.wrap ((BitVec.ofInt 64 x &&& BitVec.ofInt 64 ((2 ^ n - 1 : Nat) : Int)).toNat : Int) = _
  rw [BitVec.toNat_and, Bit.ofInt_small _ (by omega), Nat.and_two_pow_sub_one_eq_mod, BitVec.toNat_ofInt]; rfl
theorem far_mask (x c w : Int) (h0 : 0 ≤ w) (h4 : w ≤ 4) : bits .and .i64 (x + 16 * c) (wmK w) = bits .and .i64 x (wmK w) := by
  rcases (by omega : w = 0 ∨ w = 1 ∨ w = 2 ∨ w = 3 ∨ w = 4) with rfl | rfl | rfl | rfl | rfl
  · exact (zff (x + 16 * c) 0 (by omega)).trans ((congrArg (fun q : Nat => IntKind.i64.wrap (q : Int)) (by omega)).trans (zff x 0 (by omega)).symm)
  · exact (zff (x + 16 * c) 1 (by omega)).trans ((congrArg (fun q : Nat => IntKind.i64.wrap (q : Int)) (by omega)).trans (zff x 1 (by omega)).symm)
  · exact (zff (x + 16 * c) 2 (by omega)).trans ((congrArg (fun q : Nat => IntKind.i64.wrap (q : Int)) (by omega)).trans (zff x 2 (by omega)).symm)
  · exact (zff (x + 16 * c) 3 (by omega)).trans ((congrArg (fun q : Nat => IntKind.i64.wrap (q : Int)) (by omega)).trans (zff x 3 (by omega)).symm)
  · exact (zff (x + 16 * c) 4 (by omega)).trans ((congrArg (fun q : Nat => IntKind.i64.wrap (q : Int)) (by omega)).trans (zff x 4 (by omega)).symm)
def FarX (a b : List Int) (n : Nat) : Prop := ∀ k, k < n → ∃ c : Int, a.getD k 0 = b.getD k 0 + 16 * c
theorem FarX.app {a b : List Int} {n : Nat} (h : FarX a b n) (hl : a.length = n) {c : Int} : FarX (a ++ [b.getD n 0 + 16 * c]) b (n + 1) := fun k hk => by
  by_cases e : k = n
  · subst e; exact ⟨c, by rw [getD_right (by omega), hl, Nat.sub_self]; rfl⟩
  · obtain ⟨c', h1⟩ := h k (by omega)
    exact ⟨c', by rw [getD_left (by omega)]; exact h1⟩
structure FarR (qs bs : List CRow) (n : Nat) : Prop where
  len : qs.length = n
  row : ∀ t, t < n → (qs.getD t crow0).xs.length = (bs.getD t crow0).xs.length ∧ FarX (qs.getD t crow0).xs (bs.getD t crow0).xs (bs.getD t crow0).xs.length
theorem FarR.nil (bs : List CRow) : FarR [] bs 0 := ⟨rfl, fun t ht => absurd ht (by omega)⟩
theorem FarR.app {qs bs : List CRow} {n : Nat} (h : FarR qs bs n) {r : CRow} (hr : r.xs.length = (bs.getD n crow0).xs.length ∧ FarX r.xs (bs.getD n crow0).xs (bs.getD n crow0).xs.length) : FarR (qs ++ [r]) bs (n + 1) := ⟨by rw [List.length_append, h.len]; rfl, fun t ht => by
  by_cases e : t = n
  · subst e; rw [getD_right (by rw [h.len]; exact Nat.le_refl _), h.len, Nat.sub_self]; exact hr
  · rw [getD_left (by rw [h.len]; omega)]; exact h.row t (by omega)⟩
theorem FarR.inI {m : Md} {qs bs : List CRow} (h : FarR qs bs bs.length) (hI : InI m (bs.map CRow.xs)) : InI m (qs.map CRow.xs) := ⟨by rw [List.length_map, h.len]; have := hI.1; rwa [List.length_map] at this, fun t ht => by
  rw [List.length_map, h.len] at ht
  rw [xs_at, (h.row t ht).1]; exact hI.at ht⟩
theorem FarR.run {m : Md} {qs bs : List CRow} (h : FarR qs bs bs.length) (hf : FlP m) : (trK m (qs.map CRow.xs)).map (ouK m) = (trK m (bs.map CRow.xs)).map (ouK m) := by
  have key := vlT_bits hf (A := qs.map CRow.xs) (B := bs.map CRow.xs) (fun t k w hk h0 h4 => by
    rw [xs_at, xs_at]
    by_cases ht : t < bs.length
    · obtain ⟨h1, h2⟩ := h.row t ht
      by_cases hk2 : k.toNat < (bs.getD t crow0).xs.length
      · obtain ⟨c, hc⟩ := h2 k.toNat hk2
        rw [hc]; exact far_mask _ _ _ h0 h4
      · rw [List.getD_eq_getElem?_getD (l := (qs.getD t crow0).xs), List.getElem?_eq_none (by omega), List.getD_eq_getElem?_getD (l := (bs.getD t crow0).xs), List.getElem?_eq_none (by omega)]
    · have e1 : qs.getD t crow0 = crow0 := by rw [List.getD_eq_getElem?_getD, List.getElem?_eq_none (by have := h.len; omega)]; rfl
      have e2 : bs.getD t crow0 = crow0 := by rw [List.getD_eq_getElem?_getD, List.getElem?_eq_none (by omega)]; rfl
      rw [e1, e2])
  have e : trK m (qs.map CRow.xs) = trK m (bs.map CRow.xs) := by
    unfold trK; rw [List.length_map, List.length_map, h.len]
    exact List.map_congr_left (fun t _ => (key t).2)
  rw [e]
theorem extF {a b : List Int} (hl : a.length = b.length) (h : ∀ i, i < a.length → a.getD i 0 = b.getD i 0) : a = b := by
  refine List.ext_getElem hl (fun i h1 h2 => ?_)
  have := h i h1
  rwa [List.getD_eq_getElem?_getD, List.getD_eq_getElem?_getD, List.getElem?_eq_getElem h1, List.getElem?_eq_getElem h2] at this
theorem extR {a b : List CRow} (hl : a.length = b.length) (h : ∀ i, i < a.length → (a.getD i crow0).xs = (b.getD i crow0).xs) : a.map CRow.xs = b.map CRow.xs := by
  refine List.ext_getElem (by rw [List.length_map, List.length_map, hl]) (fun i h1 h2 => ?_)
  rw [List.length_map] at h1 h2
  have := h i h1
  rw [List.getD_eq_getElem?_getD, List.getD_eq_getElem?_getD, List.getElem?_eq_getElem h1, List.getElem?_eq_getElem h2] at this
  rw [List.getElem_map, List.getElem_map]; exact this
theorem sameIntsF_ans (xs ys : List Int) (u v : Value) (w : World) (hu : RdsW w u 1 xs.length (xs.map (Value.int .i64))) (hv : RdsW w v 1 ys.length (ys.map (Value.int .i64))) :
   Calls Try.prog 22 #[u, v] w (Ans w (.bool (decide (xs = ys)))) := by
 have hu9 := sml hu
 have hv9 := sml hv
 refine zca (N := 26) (args := [u, v]) Try.func22 rfl rfl (zbf 1 rfl (zag (zag (reQ 1 rfl (hvQ rfl (lnQ rfl rfl rfl (zae hu)) (zah 1 rfl (hvQ rfl (lnQ rfl rfl rfl (zae hv)) ?_)))))))
 refine zfx rfl rfl rfl rfl rfl rfl (fun h1 => ?_) (fun h1 => ?_)
 ·
  refine ntQ (zai rfl (zbf 1 rfl ?_))
  refine zap (zaf ?_)
  exact zay rfl rfl (congrArg _ (decide_eq_false (fun he => by subst he; first | omega | contradiction | simp_all)).symm)
 refine ntQ (zar rfl (zcy (zag (zbf 1 rfl (zaz ?_)))))
 refine lkQ1 (α := Nat) [0, 1, 4, 10] rfl (fun j => []) (fun j => [(5, .int .i64 (j : Int))]) (fun j => j ≤ xs.length ∧ ∀ i, i < j → xs.getD i 0 = ys.getD i 0) (fun j => xs.length - j) 0 ⟨by omega, fun i hi => absurd hi (by omega)⟩ (saQ rfl) (.slnil) ?_
 intro j hi2
 obtain ⟨hk1, hk2⟩ := hi2
 refine zag (zag (reQ 2 rfl (hvQ rfl (lnQ rfl rfl rfl (zae hu)) ?_)))
 refine zbq rfl rfl rfl rfl rfl rfl (fun h3 => ?_) (fun h3 => ?_)
 ·
  refine ntQ (zai rfl (zcy (sbQ (zag ?_))))
  rcases Bool.eq_false_or_eq_true ((xs.getD j 0) != (ys.getD j 0)) with hb4 | hb4
  ·
   have hb4p : xs.getD j 0 ≠ ys.getD j 0 := bne_iff_ne.1 hb4
   refine zbu 9 [[], [], [0, 1], [2], [], [], [4, 5], [6], [3, 7]] [17, 18, 19, 20, 21, 22, 23, 24, 25] [u, .int .i64 (j : Int), elP u (((j : Int)).toNat * 1), .int .i64 (xs.getD j 0), v, .int .i64 (j : Int), elP v (((j : Int)).toNat * 1), .int .i64 (ys.getD j 0), .bool true] (by kernel_rfl) rfl ?_ ?_
   ·
    exact ⟨iaQ rfl (zav rfl) rfl, iaQ rfl (zav rfl) rfl, iaQ rfl (riQ 1 rfl rfl rfl rfl (zae hu)) rfl, iaQ rfl (liQ rfl rfl rfl (zae hu)) rfl, iaQ rfl (zav rfl) rfl, iaQ rfl (zav rfl) rfl, iaQ rfl (riQ 1 rfl rfl rfl rfl (zae hv)) rfl, iaQ rfl (liQ rfl rfl rfl (zae hv)) rfl, .inl ⟨rfl, zdq (zcj rfl rfl rfl rfl) hb4⟩, trivial⟩
   simp only [List.drop_succ_cons, List.drop_zero]
   refine ntQ (zai rfl (zbf 1 rfl ?_))
   refine zap (zac ?_)
   refine zdy ?_
   refine zac (zaf ?_)
   exact zay rfl rfl (congrArg _ (decide_eq_false (fun he => by subst he; first | omega | contradiction | simp_all)).symm)
  have hb4p : xs.getD j 0 = ys.getD j 0 := (bne_eq_false_iff_eq.1 hb4)
  refine zbu 9 [[], [], [0, 1], [2], [], [], [4, 5], [6], [3, 7]] [17, 18, 19, 20, 21, 22, 23, 24, 25] [u, .int .i64 (j : Int), elP u (((j : Int)).toNat * 1), .int .i64 (xs.getD j 0), v, .int .i64 (j : Int), elP v (((j : Int)).toNat * 1), .int .i64 (ys.getD j 0), .bool false] (by kernel_rfl) rfl ?_ ?_
  ·
   exact ⟨iaQ rfl (zav rfl) rfl, iaQ rfl (zav rfl) rfl, iaQ rfl (riQ 1 rfl rfl rfl rfl (zae hu)) rfl, iaQ rfl (liQ rfl rfl rfl (zae hu)) rfl, iaQ rfl (zav rfl) rfl, iaQ rfl (zav rfl) rfl, iaQ rfl (riQ 1 rfl rfl rfl rfl (zae hv)) rfl, iaQ rfl (liQ rfl rfl rfl (zae hv)) rfl, .inl ⟨rfl, zdq (zcj rfl rfl rfl rfl) hb4⟩, trivial⟩
  simp only [List.drop_succ_cons, List.drop_zero]
  refine ntQ (fsQ rfl (zde (reQ 1 rfl (hvQ rfl (vaQ rfl rfl rfl) (enQ 1 rfl ?_)))))
  exact zbw (j + 1) ⟨by omega, fun i hi => by by_cases hij : i = j; (subst hij; simpa using (by assumption)); exact hk2 i (by omega)⟩ (by omega) (saQ rfl) (.slnil)
 refine ntQ (zar rfl ?_)
 refine zbl (zdx ?_)
 refine zan (zaq (zbf 1 rfl ?_))
 exact zap (zay rfl rfl (congrArg _ (decide_eq_true (extF (by omega) (fun i hi => hk2 i (by omega)))).symm))
theorem sameRowsF_ans (xa xb : List CRow) (u v : Value) (w : World) (hu : RdsCl w u xa) (hv : RdsCl w v xb) :
   Calls Try.prog 26 #[u, v] w (Ans w (.bool (decide (xa.map CRow.xs = xb.map CRow.xs)))) := by
 have hu9 := sml hu.row
 have hv9 := sml hv.row
 refine zca (N := 27) (args := [u, v]) Try.func26 rfl rfl (zbf 1 rfl (zag (zag (reQ 1 rfl (hvQ rfl (lnQ rfl rfl rfl (zae hu.row)) (zah 1 rfl (hvQ rfl (lnQ rfl rfl rfl (zae hv.row)) ?_)))))))
 refine zfx rfl rfl rfl rfl rfl rfl (fun h1 => ?_) (fun h1 => ?_)
 ·
  refine ntQ (zai rfl (zbf 1 rfl ?_))
  refine zap (zaf ?_)
  exact zay rfl rfl (congrArg _ (decide_eq_false (fun he => by first | (have h9 := congrArg List.length he; rw [List.length_map, List.length_map] at h9; omega) | (have h9 := congrArg (fun L => L.getD j []) he; simp only [xs_at] at h9; contradiction))).symm)
 refine ntQ (zar rfl (zcy (zag (zbf 1 rfl (zaz ?_)))))
 refine lkQ1 (α := Nat) [0, 1, 4, 10] rfl (fun j => []) (fun j => [(5, .int .i64 (j : Int))]) (fun j => j ≤ xa.length ∧ ∀ i, i < j → (xa.getD i crow0).xs = (xb.getD i crow0).xs) (fun j => xa.length - j) 0 ⟨by omega, fun i hi => absurd hi (by omega)⟩ (saQ rfl) (.slnil) ?_
 intro j hi2
 obtain ⟨hk1, hk2⟩ := hi2
 refine zag (zag (reQ 2 rfl (hvQ rfl (lnQ rfl rfl rfl (zae hu.row)) ?_)))
 refine zbq rfl rfl rfl rfl rfl rfl (fun h3 => ?_) (fun h3 => ?_)
 ·
  refine ntQ (zai rfl (zcy (sbQ (zag ?_))))
  rcases Bool.eq_false_or_eq_true (decide ((xa.getD j crow0).xs = (xb.getD j crow0).xs)) with hb4 | hb4
  ·
   have hb4p := of_decide_eq_true hb4
   refine zbu 10 [[], [], [0, 1], [2], [], [], [4, 5], [6], [3, 7], [8]] [17, 18, 19, 20, 21, 22, 23, 24, 25, 26] [u, .int .i64 (j : Int), elP u (((j : Int)).toNat * 1), (xa.getD j crow0).v, v, .int .i64 (j : Int), elP v (((j : Int)).toNat * 1), (xb.getD j crow0).v, .bool true, .bool false] (by kernel_rfl) rfl ?_ ?_
   ·
    exact ⟨iaQ rfl (zav rfl) rfl, iaQ rfl (zav rfl) rfl, iaQ rfl (riQ 1 rfl rfl rfl rfl (zae hu.row)) rfl, iaQ rfl (zam (u := (xa.getD j crow0).v) rfl rfl rfl (zae hu.row) (zer crowC (fun r => r.v) (fun _ => rfl) xa crow0 (show j < _ by omega))) rfl, iaQ rfl (zav rfl) rfl, iaQ rfl (zav rfl) rfl, iaQ rfl (riQ 1 rfl rfl rfl rfl (zae hv.row)) rfl, iaQ rfl (zam (u := (xb.getD j crow0).v) rfl rfl rfl (zae hv.row) (zer crowC (fun r => r.v) (fun _ => rfl) xb crow0 (show j < _ by omega))) rfl, .inl ⟨rfl, rq_cb (zaw rfl rfl (fun w hm => zbg (sameIntsF_ans ((xa.getD j crow0).xs) ((xb.getD j crow0).xs) _ _ w ((zae (hu.at (k := j) (by omega))) w hm) ((zae (hv.at (k := j) (by omega))) w hm)))) hb4⟩, iaQ rfl (zav rfl) rfl, trivial⟩
   simp only [List.drop_succ_cons, List.drop_zero]
   refine ntQ (fsQ rfl (zde (reQ 1 rfl (hvQ rfl (vaQ rfl rfl rfl) (enQ 1 rfl ?_)))))
   exact zbw (j + 1) ⟨by omega, fun i hi => by by_cases hij : i = j; (subst hij; assumption); exact hk2 i (by omega)⟩ (by omega) (saQ rfl) (.slnil)
  have hb4p := of_decide_eq_false hb4
  refine zbu 10 [[], [], [0, 1], [2], [], [], [4, 5], [6], [3, 7], [8]] [17, 18, 19, 20, 21, 22, 23, 24, 25, 26] [u, .int .i64 (j : Int), elP u (((j : Int)).toNat * 1), (xa.getD j crow0).v, v, .int .i64 (j : Int), elP v (((j : Int)).toNat * 1), (xb.getD j crow0).v, .bool false, .bool true] (by kernel_rfl) rfl ?_ ?_
  ·
   exact ⟨iaQ rfl (zav rfl) rfl, iaQ rfl (zav rfl) rfl, iaQ rfl (riQ 1 rfl rfl rfl rfl (zae hu.row)) rfl, iaQ rfl (zam (u := (xa.getD j crow0).v) rfl rfl rfl (zae hu.row) (zer crowC (fun r => r.v) (fun _ => rfl) xa crow0 (show j < _ by omega))) rfl, iaQ rfl (zav rfl) rfl, iaQ rfl (zav rfl) rfl, iaQ rfl (riQ 1 rfl rfl rfl rfl (zae hv.row)) rfl, iaQ rfl (zam (u := (xb.getD j crow0).v) rfl rfl rfl (zae hv.row) (zer crowC (fun r => r.v) (fun _ => rfl) xb crow0 (show j < _ by omega))) rfl, .inl ⟨rfl, rq_cb (zaw rfl rfl (fun w hm => zbg (sameIntsF_ans ((xa.getD j crow0).xs) ((xb.getD j crow0).xs) _ _ w ((zae (hu.at (k := j) (by omega))) w hm) ((zae (hv.at (k := j) (by omega))) w hm)))) hb4⟩, iaQ rfl (zav rfl) rfl, trivial⟩
  simp only [List.drop_succ_cons, List.drop_zero]
  refine ntQ (zai rfl (zbf 1 rfl ?_))
  refine zap (zac ?_)
  refine zdy ?_
  refine zac (zaf ?_)
  exact zay rfl rfl (congrArg _ (decide_eq_false (fun he => by first | (have h9 := congrArg List.length he; rw [List.length_map, List.length_map] at h9; omega) | (have h9 := congrArg (fun L => L.getD j []) he; simp only [xs_at] at h9; contradiction))).symm)
 refine ntQ (zar rfl ?_)
 refine zbl (zdx ?_)
 refine zan (zaq (zbf 1 rfl ?_))
 exact zap (zay rfl rfl (congrArg _ (decide_eq_true (extR (by omega) (fun i hi => hk2 i (by omega)))).symm))
theorem walk_FnInputBits (a0 : Option Addr) (len0 cap0 : Nat) (z0 : List Int) (w : World) (hbr : BRow .u8 w a0 len0 cap0 z0) :
   Calls Try.prog 5 #[.slice a0 len0 cap0] w (Ans w (.bool true)) := by
 refine zca (N := 71) (args := [.slice a0 len0 cap0]) Try.func5 rfl rfl (zbf 1 rfl (zag (zag (reQ 1 rfl ?_))))
 refine zeq rfl (zaw rfl rfl (fun w hm => zbg (zej (big_any a0 len0 cap0 w (hbr.len_le))))) (zbs (fun h1 => ?_) (fun h1 => ?_))
 ·
  refine ntQ (zai rfl (zbf 1 rfl ?_))
  refine zap (zaf ?_)
  exact zay rfl rfl rfl
 have hlen9 := of_decide_eq_false h1
 refine ntQ (zar rfl (zcy (zag (reQ 1 rfl ?_))))
 refine hl_q rfl rfl rfl (zaw rfl rfl (fun w hm => DrawFlat_ret a0 len0 cap0 z0 w (hbr.below hm.bel) (by omega))) ?_
 intro v2 p3 hR4
 obtain ⟨m, rs, nv, dp, rfl, rfl, hdp, hmo, hno, hfl, hI, hr1, hr8, hrx⟩ := hR4
 refine zah 3 rfl (zdm rfl (zbe (z := .agg #[.slice none 0 0, .slice none 0 0, .slice none 0 0, .slice none 0 0]) rfl rfl) ?_)
 intro b5
 refine zbd (cs' := #[m.sv, m.av, m.iv, m.mv]) (i := 0) (off := 0) (us := [m.sv, m.av, m.iv, m.mv]) rfl rfl rfl rfl rfl rfl rfl (zab hmo.1 (zab hmo.2.1 (zab hmo.2.2.1 (zab hmo.2.2.2 zbc)))) rfl rfl rfl (zbb 1 rfl (srQ ?_))
 refine zdt rfl (zdo (s := 1) rfl Try.underlying44 rfl) ?_
 intro g6
 refine zbb 1 rfl (zag (zbf 1 rfl (zaz ?_)))
 refine zes [bigE [], rowE 48 1 (.slice (some ⟨g6, 0, none⟩) 0 0) (([] : List CRow).length) (([] : List CRow).flatMap crowC), boxE b5 #[m.sv, m.av, m.iv, m.mv] 35, bigE dp] zdu ?_
 refine lkQ4 (α := Nat) (β := List CRow) (γ := Value) (δ := List HP) [0, 2, 3, 4, 10] rfl (fun i qs fv ps => [bigE ps, rowE 48 1 fv qs.length (qs.flatMap crowC), boxE b5 #[m.sv, m.av, m.iv, m.mv] 35, bigE dp]) (fun i qs fv ps => [(5, fv), (6, .int .i64 (i : Int))]) (fun i qs fv ps => i ≤ rs.length ∧ FarR qs rs i ∧ ∀ w, (bigE ps).holds w → ∀ q ∈ qs, RdsW w q.v 1 q.xs.length (q.xs.map (Value.int .i64))) (fun i qs fv ps => rs.length - i) 0 [] _ [] ⟨Nat.zero_le _, FarR.nil _, fun w hw q hq => (by cases hq)⟩ (saQ rfl) (pfQ rfl) ?_
 intro i qs fv ps hi7
 obtain ⟨hi, hfr, hp⟩ := hi7
 have hql := hfr.len
 refine zag (zag (reQ 2 rfl ?_))
 refine hvQ rfl (lnQ rfl rfl rfl (fun w hm => (hdp w (hm.holds _ (zcf (i := 3) rfl))).2.row)) (zbq rfl rfl rfl rfl rfl rfl (fun h8 => ?_) (fun h8 => ?_))
 ·
  refine ntQ (zai rfl (zcy (sbQ (srQ ?_))))
  refine zdt rfl (zdo (s := 1) rfl Try.underlying48 rfl) ?_
  intro g9
  refine zbb 1 rfl (zag (zbf 1 rfl (zaz ?_)))
  refine lkQ3 (α := Nat) (β := List Int) (γ := Value) [0, 2, 3, 4, 5, 6, 10, 20] rfl (fun j zs zv => [rowE 3 1 zv zs.length (zs.map (Value.int .i64)), bigE ps, rowE 48 1 fv qs.length (qs.flatMap crowC), boxE b5 #[m.sv, m.av, m.iv, m.mv] 35, bigE dp]) (fun j zs zv => [(7, zv), (8, .int .i64 (j : Int))]) (fun j zs zv => j ≤ (rs.getD i crow0).xs.length ∧ zs.length = j ∧ FarX zs (rs.getD i crow0).xs j) (fun j zs zv => (rs.getD i crow0).xs.length - j) 0 [] _ ⟨Nat.zero_le _, rfl, fun k hk => absurd hk (by omega)⟩ (saQ rfl) (pfQ rfl) ?_
  intro j zs zv hi10
  obtain ⟨hj, hzl, hfx⟩ := hi10
  have hil := hI.at (show i < rs.length by omega)
  have hpl := pwK_le m 0
  refine zag (zag (reQ 3 rfl ?_))
  refine hvQ rfl (riQ 1 rfl rfl rfl rfl (fun w hm => (hdp w (hm.holds _ (zcf (i := 4) rfl))).2.row)) (hvQ rfl (zam (u := (rs.getD i crow0).v) rfl rfl rfl (fun w hm => (hdp w (hm.holds _ (zcf (i := 4) rfl))).2.row) (zer crowC (fun r => r.v) (fun _ => rfl) rs crow0 (show i < _ by omega))) ?_)
  refine hvQ rfl (lnQ rfl rfl rfl (fun w hm => (hdp w (hm.holds _ (zcf (i := 4) rfl))).2.at (k := i) (by omega))) (zbq rfl rfl rfl rfl rfl rfl (fun h11 => ?_) (fun h11 => ?_))
  ·
   refine ntQ (zai rfl (zcy (sbQ ?_)))
   have hcd := cod_le hbr (i + j)
   have hy9 := hrx _ (zcg (d := crow0) (show i < rs.length by omega)) _ (zcg (d := (0 : Int)) (show j < (rs.getD i crow0).xs.length by omega))
   refine zfj rfl 17 [0, 1, 2, 3, 4, 5, 6, 7, 8, 9, 10, 11, 12, 13, 14, 15, 16] (List.take 17 _) (List.drop 17 _) [[], [], [], [1, 2], [3], [], [4, 5], [6], [], [], [], [9, 10], [8, 11], [12], [13], [7, 14], [15]] [33, 34, 35, 36, 37, 38, 39, 40, 41, 42, 43, 44, 45, 46, 47, 48, 49] (fun i_ vs_ v_ p_ => match i_ with | 0 => v_ = zv ∧ p_ = [] | 1 => v_ = nv ∧ p_ = [] | 2 => v_ = .int .i64 (i : Int) ∧ p_ = [] | 3 => v_ = elP nv (((i : Int)).toNat * 1) ∧ p_ = [] | 4 => v_ = (rs.getD i crow0).v ∧ p_ = [] | 5 => v_ = .int .i64 (j : Int) ∧ p_ = [] | 6 => v_ = elP ((rs.getD i crow0).v) (((j : Int)).toNat * 1) ∧ p_ = [] | 7 => v_ = .int .i64 (((rs.getD i crow0).xs).getD j 0) ∧ p_ = [] | 8 => v_ = .slice a0 len0 cap0 ∧ p_ = [] | 9 => v_ = .int .i64 (i : Int) ∧ p_ = [] | 10 => v_ = .int .i64 (j : Int) ∧ p_ = [] | 11 => v_ = .int .i64 ((i : Int) + (j : Int)) ∧ p_ = [] | 12 => v_ = .int .i64 (cod z0 len0 (i + j) : Int) ∧ p_ = [] | 13 => v_ = .int .i64 ((cod z0 len0 (i + j) : Int) - 100) ∧ p_ = [] | 14 => v_ = .int .i64 (16 * ((cod z0 len0 (i + j) : Int) - 100)) ∧ p_ = [] | 15 => v_ = .int .i64 ((((rs.getD i crow0).xs).getD j 0) + (16 * ((cod z0 len0 (i + j) : Int) - 100))) ∧ p_ = [] | 16 => IsRow 3 1 1 ([(((rs.getD i crow0).xs).getD j 0) + (16 * ((cod z0 len0 (i + j) : Int) - 100))].map (Value.int .i64)) v_ p_ | _ => True) (List.take_append_drop 17 _).symm (by kernel_rfl) (by kernel_rfl) rfl rfl ?_ ?_
   ·
    refine ⟨?_, ?_, ?_, ?_, ?_, ?_, ?_, ?_, ?_, ?_, ?_, ?_, ?_, ?_, ?_, ?_, ?_, trivial⟩
    ·
     intro vf pf hR
     exact ovQ rfl (zas [7] rfl) (zbx (zav rfl))
    ·
     intro vf pf hR
     exact ovQ rfl (zas [4] rfl) (zbx (zav rfl))
    ·
     intro vf pf hR
     exact ovQ rfl (zas [6] rfl) (zbx (zav rfl))
    ·
     intro vf pf hR
     have e1 := hR 1 (by decide)
     have e2 := hR 2 (by decide)
     exact olQ rfl (sk 34 (congrArg some e1.1) (sk 35 (congrArg some e2.1) (zak _))) (zbx (riQ 1 rfl rfl rfl rfl (fun w hm => (hdp w (hm.holds _ (zcf (i := 4) rfl))).2.row)))
    ·
     intro vf pf hR
     have e3 := hR 3 (by decide)
     exact olQ rfl (sk 36 (congrArg some e3.1) (zak _)) (zbx (zam (u := (rs.getD i crow0).v) rfl rfl rfl (fun w hm => (hdp w (hm.holds _ (zcf (i := 4) rfl))).2.row) (zer crowC (fun r => r.v) (fun _ => rfl) rs crow0 (show i < _ by omega))))
    ·
     intro vf pf hR
     exact ovQ rfl (zas [8] rfl) (zbx (zav rfl))
    ·
     intro vf pf hR
     have e4 := hR 4 (by decide)
     have e5 := hR 5 (by decide)
     exact olQ rfl (sk 37 (congrArg some e4.1) (sk 38 (congrArg some e5.1) (zak _))) (zbx (riQ 1 rfl rfl rfl rfl (fun w hm => (hdp w (hm.holds _ (zcf (i := 4) rfl))).2.at (k := i) (by omega))))
    ·
     intro vf pf hR
     have e6 := hR 6 (by decide)
     exact olQ rfl (sk 39 (congrArg some e6.1) (zak _)) (zbx (zam (u := .int .i64 (((rs.getD i crow0).xs).getD j 0)) rfl rfl rfl (fun w hm => (hdp w (hm.holds _ (zcf (i := 4) rfl))).2.at (k := i) (by omega)) (zby (show _ < ((rs.getD i crow0).xs).length by omega))))
    ·
     intro vf pf hR
     exact ovQ rfl (zas [0] rfl) (zbx (zav rfl))
    ·
     intro vf pf hR
     exact ovQ rfl (zas [6] rfl) (zbx (zav rfl))
    ·
     intro vf pf hR
     exact ovQ rfl (zas [8] rfl) (zbx (zav rfl))
    ·
     intro vf pf hR
     have e9 := hR 9 (by decide)
     have e10 := hR 10 (by decide)
     exact ovQ rfl (sk 42 (congrArg some e9.1) (sk 43 (congrArg some e10.1) (zak _))) (zbx (vaQ rfl rfl rfl))
    ·
     intro vf pf hR
     have e8 := hR 8 (by decide)
     have e11 := hR 11 (by decide)
     exact olQ rfl (sk 41 (congrArg some e8.1) (sk 44 (congrArg some e11.1) (zak _))) (zaw rfl rfl (fun w hm => zbg (at_ans hbr (i + j) (by omega) w hm)))
    ·
     intro vf pf hR
     have e12 := hR 12 (by decide)
     exact ovQ rfl (sk 45 (congrArg some e12.1) (zak _)) (zbx (vsQ rfl rfl rfl))
    ·
     intro vf pf hR
     have e13 := hR 13 (by decide)
     exact ovQ rfl (sk 46 (congrArg some e13.1) (zak _)) (zbx (rv_mul rfl rfl rfl (by constructor <;> omega)))
    ·
     intro vf pf hR
     have e7 := hR 7 (by decide)
     have e14 := hR 14 (by decide)
     exact ovQ rfl (sk 40 (congrArg some e7.1) (sk 47 (congrArg some e14.1) (zak _))) (zbx (vaQ rfl rfl rfl))
    intro vf pf hR
    have e15 := hR 15 (by decide)
    exact olQ rfl (sk 48 (congrArg some e15.1) (zak _)) (zal (z := .int .i64 0) (s := 1) (cs := ([(((rs.getD i crow0).xs).getD j 0) + (16 * ((cod z0 len0 (i + j) : Int) - 100))].map (Value.int .i64))) rfl Try.underlying48 rfl (by decide) rfl (by kernel_rfl) rfl)
   intro vf pf hR
   have e0 := hR 0 (by decide)
   have e16 : IsRow 3 1 1 ([(((rs.getD i crow0).xs).getD j 0) + (16 * ((cod z0 len0 (i + j) : Int) - 100))].map (Value.int .i64)) (vf 16) (pf 16) := hR 16 (by decide)
   obtain ⟨g12, vE16, pE16⟩ := e16
   have q0 := hR 0 (by decide)
   have q1 := hR 1 (by decide)
   have q2 := hR 2 (by decide)
   have q3 := hR 3 (by decide)
   have q4 := hR 4 (by decide)
   have q5 := hR 5 (by decide)
   have q6 := hR 6 (by decide)
   have q7 := hR 7 (by decide)
   have q8 := hR 8 (by decide)
   have q9 := hR 9 (by decide)
   have q10 := hR 10 (by decide)
   have q11 := hR 11 (by decide)
   have q12 := hR 12 (by decide)
   have q13 := hR 13 (by decide)
   have q14 := hR 14 (by decide)
   have q15 := hR 15 (by decide)
   refine zdg (zcu [30, 20, 10, 8, 7, 6, 5, 4, 3, 2, 0] _ (sk 33 (congrArg some e0.1) (sk 49 (congrArg some vE16) (zak _))) rfl) (by simp only [pE16, vE16, q0.2, q1.2, q2.2, q3.2, q4.2, q5.2, q6.2, q7.2, q8.2, q9.2, q10.2, q11.2, q12.2, q13.2, q14.2, q15.2, fS] <;> rfl) ?_
   simp only [List.drop_succ_cons, List.drop_zero]
   refine zcp (i := 1) (z := .int .i64 0) (bytes := 8) rfl rfl rfl rfl Try.underlying48 (by kernel_rfl) rfl rfl rfl rfl (zaj 0 rfl) (zch _) (by first | omega | (simp; done) | (simp; omega)) (zci zs ([(((rs.getD i crow0).xs).getD j 0) + (16 * ((cod z0 len0 (i + j) : Int) - 100))])) (zcs zs ([(((rs.getD i crow0).xs).getD j 0) + (16 * ((cod z0 len0 (i + j) : Int) - 100))])) (fun _ => rfl) ?_
   intro v13
   refine enQ 1 rfl (zde (reQ 1 rfl (hvQ rfl (vaQ rfl rfl rfl) (enQ 1 rfl ?_))))
   exact zcn (j + 1) (zs ++ ([(((rs.getD i crow0).xs).getD j 0) + (16 * ((cod z0 len0 (i + j) : Int) - 100))])) v13 ⟨by omega, by rw [List.length_append, List.length_singleton]; omega, hfx.app hzl⟩ (by omega) (saQ rfl) (slQ [1, 0, 0, 0, 0] rfl)
  refine ntQ (zar rfl ?_)
  refine zbl (zdx ?_)
  refine zan (zaq (reQ 2 rfl ?_))
  refine zdt rfl (zen rfl Try.underlying44 (by kernel_rfl) rfl (fun w hm => (zaj 0 rfl w hm).one)) ?_
  intro g14
  refine zcq (i := 1) rfl (fun ho15 => ?_)
  refine zcp (i := 3) (z := .slice none 0 0) (bytes := 24) rfl rfl rfl rfl Try.underlying44 (by kernel_rfl) rfl rfl rfl rfl (zaj 0 rfl) (zab ho15 zbc) (by first | omega | (simp only [List.length_append, List.length_cons, List.length_nil]; omega)) (zci qs [(CRow.mk zv zs)]) (zdc crowC qs (CRow.mk zv zs) _ rfl) (fun _ => rfl) ?_
  intro v16
  refine enQ 1 rfl (zde (reQ 1 rfl (hvQ rfl (vaQ rfl rfl rfl) (enQ 1 rfl ?_))))
  refine zbj 6 [5, 4, 3, 1, 2] rfl rfl (by decide) ?_
  refine zcb 2 rfl ?_
  exact zdr (i + 1) (qs ++ [(CRow.mk zv zs)]) v16 [bigE ps, rowE 3 1 zv zs.length (zs.map (Value.int .i64))] ⟨by omega, hfr.app ⟨by show zs.length = _; omega, by rw [show (rs.getD i crow0).xs.length = j by omega]; exact hfx⟩, fun w hw => RdsCl.snoc (v := nv) (v' := nv) (hp w (zba hw List.mem_cons_self)) (zco (zba hw (List.mem_cons_of_mem _ List.mem_cons_self)))⟩ (by omega) (saQ rfl) (pfQ rfl)
 refine ntQ (zar rfl ?_)
 refine zbl (zdx ?_)
 refine zan (zaq (zag ?_))
 have hfr : FarR qs rs rs.length := by rw [show i = rs.length by omega] at hfr; exact hfr
 have hIq := hfr.inI hI
 have hrun := hfr.run (m := m) hfl
 rcases Bool.eq_false_or_eq_true ((rs.length : Int) == (rs.length : Int)) with hb26 | hb26
 ·
  have hb26p : (rs.length : Int) = (rs.length : Int) := beq_iff_eq.1 hb26
  refine zfj rfl 16 [0, 1, 2, 3, 4, 5, 6, 7, 8, 9, 10, 11, 12, 13, 14, 15] (List.take 16 _) (List.drop 16 _) [[], [], [0, 1], [], [], [3, 4], [2, 5], [2, 5, 6], [7], [7], [7, 8, 9], [7, 10], [7], [7, 12], [7, 10, 11, 13], [7, 14]] [55, 56, 57, 58, 59, 60, 61, 62, 63, 64, 65, 66, 67, 68, 69, 70] (fun i_ vs_ v_ p_ => match i_ with | 0 => v_ = .agg #[m.sv, m.av, m.iv, m.mv] ∧ p_ = [] | 1 => v_ = fv ∧ p_ = [] | 2 => (fun u_ p_ => ∃ (os9 : List CRow) (ps9 : List HP), p_ = [bigE ps9] ∧ (∀ w, (bigE ps9).holds w → RdsCl w u_ os9) ∧ u_.oneCell' = true ∧ os9.map CRow.xs = (trK m (qs.map CRow.xs)).map (ouK m)) v_ p_ | 3 => v_ = .agg #[m.sv, m.av, m.iv, m.mv] ∧ p_ = [] | 4 => v_ = nv ∧ p_ = [] | 5 => (fun u_ p_ => ∃ (os9 : List CRow) (ps9 : List HP), p_ = [bigE ps9] ∧ (∀ w, (bigE ps9).holds w → RdsCl w u_ os9) ∧ u_.oneCell' = true ∧ os9.map CRow.xs = (trK m (rs.map CRow.xs)).map (ouK m)) v_ p_ | 6 => v_ = .bool true ∧ p_ = [] | 7 => v_ = .bool true ∧ p_ = [] | 8 => v_ = .agg #[m.sv, m.av, m.iv, m.mv] ∧ p_ = [] | 9 => v_ = nv ∧ p_ = [] | 10 => (fun u_ p_ => ∃ (os9 : List CRow) (ps9 : List HP), p_ = [bigE ps9] ∧ (∀ w, (bigE ps9).holds w → RdsCl w u_ os9) ∧ u_.oneCell' = true ∧ os9.map CRow.xs = (trK m (rs.map CRow.xs)).map (ouK m)) v_ p_ | 11 => v_ = .int .i64 (rs.length : Int) ∧ p_ = [] | 12 => v_ = nv ∧ p_ = [] | 13 => v_ = .int .i64 (rs.length : Int) ∧ p_ = [] | 14 => v_ = .bool true ∧ p_ = [] | 15 => v_ = .bool true ∧ p_ = [] | _ => True) (List.take_append_drop 16 _).symm (by kernel_rfl) (by kernel_rfl) rfl rfl ?_ ?_
  ·
   refine ⟨?_, ?_, ?_, ?_, ?_, ?_, ?_, ?_, ?_, ?_, ?_, ?_, ?_, ?_, ?_, ?_, trivial⟩
   ·
    intro vf pf hR
    exact olQ rfl (zas [3] rfl) (zbx (zax (cs := [m.sv, m.av, m.iv, m.mv]) rfl rfl rfl rfl rfl (zat 2 rfl 0 rfl)))
   ·
    intro vf pf hR
    exact ovQ rfl (zas [5] rfl) (zbx (zav rfl))
   ·
    intro vf pf hR
    have e0 := hR 0 (by decide)
    have e1 := hR 1 (by decide)
    exact olQ rfl (sk 55 (congrArg some e0.1) (sk 56 (congrArg some e1.1) (zak _))) (zaw rfl rfl (fun w hm => zfc m qs fv w (hdp w (hm.holds _ (zcf (i := 3) rfl))).1 hfl ⟨zaj 1 rfl w hm, (hp w (hm.holds _ (zcf (i := 0) rfl)))⟩ hIq))
   ·
    intro vf pf hR
    exact olQ rfl (zas [3] rfl) (zbx (zax (cs := [m.sv, m.av, m.iv, m.mv]) rfl rfl rfl rfl rfl (zat 2 rfl 0 rfl)))
   ·
    intro vf pf hR
    exact ovQ rfl (zas [4] rfl) (zbx (zav rfl))
   ·
    intro vf pf hR
    have e3 := hR 3 (by decide)
    have e4 := hR 4 (by decide)
    exact olQ rfl (sk 58 (congrArg some e3.1) (sk 59 (congrArg some e4.1) (zak _))) (zaw rfl rfl (fun w hm => zfc m rs nv w (hdp w (hm.holds _ (zcf (i := 3) rfl))).1 hfl (hdp w (hm.holds _ (zcf (i := 3) rfl))).2 hI))
   ·
    intro vf pf hR
    have e2 : (fun u_ p_ => ∃ (os9 : List CRow) (ps9 : List HP), p_ = [bigE ps9] ∧ (∀ w, (bigE ps9).holds w → RdsCl w u_ os9) ∧ u_.oneCell' = true ∧ os9.map CRow.xs = (trK m (qs.map CRow.xs)).map (ouK m)) (vf 2) (pf 2) := hR 2 (by decide)
    obtain ⟨v27, vE2⟩ : ∃ x, vf 2 = x := ⟨_, rfl⟩
    obtain ⟨p28, pE2⟩ : ∃ x, pf 2 = x := ⟨_, rfl⟩
    have hR29 := e2
    rw [vE2, pE2] at hR29
    obtain ⟨oshR29, pshR29, rfl, hphR29, h1hR29, hehR29⟩ := hR29
    have hlhR29 : oshR29.length = qs.length := by have h9 := congrArg List.length hehR29; simpa [trK] using h9
    have e5 : (fun u_ p_ => ∃ (os9 : List CRow) (ps9 : List HP), p_ = [bigE ps9] ∧ (∀ w, (bigE ps9).holds w → RdsCl w u_ os9) ∧ u_.oneCell' = true ∧ os9.map CRow.xs = (trK m (rs.map CRow.xs)).map (ouK m)) (vf 5) (pf 5) := hR 5 (by decide)
    obtain ⟨v30, vE5⟩ : ∃ x, vf 5 = x := ⟨_, rfl⟩
    obtain ⟨p31, pE5⟩ : ∃ x, pf 5 = x := ⟨_, rfl⟩
    have hR32 := e5
    rw [vE5, pE5] at hR32
    obtain ⟨oshR32, pshR32, rfl, hphR32, h1hR32, hehR32⟩ := hR32
    have hlhR32 : oshR32.length = rs.length := by have h9 := congrArg List.length hehR32; simpa [trK] using h9
    refine Or.inl ⟨rfl, ?_⟩
    exact zck (sk 57 (congrArg some vE2) (sk 60 (congrArg some vE5) (zak _))) (by simp only [pE2, vE2, pE5, vE5, fS] <;> rfl) (zaw rfl rfl (fun w hm => zbg (by have h9 := sameRowsF_ans _ _ _ _ w (hphR29 w (hm.holds _ (zcf (i := 0) rfl))) (hphR32 w (hm.holds _ (zcf (i := 1) rfl))); rw [decide_eq_true (hehR29.trans (hrun.trans hehR32.symm))] at h9; exact h9)))
   ·
    intro vf pf hR
    have e2 : (fun u_ p_ => ∃ (os9 : List CRow) (ps9 : List HP), p_ = [bigE ps9] ∧ (∀ w, (bigE ps9).holds w → RdsCl w u_ os9) ∧ u_.oneCell' = true ∧ os9.map CRow.xs = (trK m (qs.map CRow.xs)).map (ouK m)) (vf 2) (pf 2) := hR 2 (by decide)
    obtain ⟨v27, vE2⟩ : ∃ x, vf 2 = x := ⟨_, rfl⟩
    obtain ⟨p28, pE2⟩ : ∃ x, pf 2 = x := ⟨_, rfl⟩
    have hR29 := e2
    rw [vE2, pE2] at hR29
    obtain ⟨oshR29, pshR29, rfl, hphR29, h1hR29, hehR29⟩ := hR29
    have hlhR29 : oshR29.length = qs.length := by have h9 := congrArg List.length hehR29; simpa [trK] using h9
    have e5 : (fun u_ p_ => ∃ (os9 : List CRow) (ps9 : List HP), p_ = [bigE ps9] ∧ (∀ w, (bigE ps9).holds w → RdsCl w u_ os9) ∧ u_.oneCell' = true ∧ os9.map CRow.xs = (trK m (rs.map CRow.xs)).map (ouK m)) (vf 5) (pf 5) := hR 5 (by decide)
    obtain ⟨v30, vE5⟩ : ∃ x, vf 5 = x := ⟨_, rfl⟩
    obtain ⟨p31, pE5⟩ : ∃ x, pf 5 = x := ⟨_, rfl⟩
    have hR32 := e5
    rw [vE5, pE5] at hR32
    obtain ⟨oshR32, pshR32, rfl, hphR32, h1hR32, hehR32⟩ := hR32
    have hlhR32 : oshR32.length = rs.length := by have h9 := congrArg List.length hehR32; simpa [trK] using h9
    have e6 := hR 6 (by decide)
    refine Or.inl ⟨rfl, ?_⟩
    exact zck (sk 61 (congrArg some e6.1) (zak _)) (by simp only [pE2, vE2, pE5, vE5, e6.2, fS] <;> rfl) (zbx (zav rfl))
   ·
    intro vf pf hR
    have e7 := hR 7 (by decide)
    refine Or.inl ⟨zbv (congrArg some e7.1) rfl, ?_⟩
    exact zbo (zas [3] rfl) (List.sublist_append_right _ _) (zbx (zax (cs := [m.sv, m.av, m.iv, m.mv]) rfl rfl rfl rfl rfl (zat 2 rfl 0 rfl)))
   ·
    intro vf pf hR
    have e7 := hR 7 (by decide)
    refine Or.inl ⟨zbv (congrArg some e7.1) rfl, ?_⟩
    exact zce (zas [4] rfl) (zbx (zav rfl))
   ·
    intro vf pf hR
    have e7 := hR 7 (by decide)
    have e8 := hR 8 (by decide)
    have e9 := hR 9 (by decide)
    refine Or.inl ⟨zbv (congrArg some e7.1) rfl, ?_⟩
    exact zbo (sk 63 (congrArg some e8.1) (sk 64 (congrArg some e9.1) (zak _))) (List.sublist_append_right _ _) (zaw rfl rfl (fun w hm => zfc m rs nv w (hdp w (hm.holds _ (zcf (i := 3) rfl))).1 hfl (hdp w (hm.holds _ (zcf (i := 3) rfl))).2 hI))
   ·
    intro vf pf hR
    have e7 := hR 7 (by decide)
    have e10 : (fun u_ p_ => ∃ (os9 : List CRow) (ps9 : List HP), p_ = [bigE ps9] ∧ (∀ w, (bigE ps9).holds w → RdsCl w u_ os9) ∧ u_.oneCell' = true ∧ os9.map CRow.xs = (trK m (rs.map CRow.xs)).map (ouK m)) (vf 10) (pf 10) := hR 10 (by decide)
    obtain ⟨v33, vE10⟩ : ∃ x, vf 10 = x := ⟨_, rfl⟩
    obtain ⟨p34, pE10⟩ : ∃ x, pf 10 = x := ⟨_, rfl⟩
    have hR35 := e10
    rw [vE10, pE10] at hR35
    obtain ⟨oshR35, pshR35, rfl, hphR35, h1hR35, hehR35⟩ := hR35
    have hlhR35 : oshR35.length = rs.length := by have h9 := congrArg List.length hehR35; simpa [trK] using h9
    refine Or.inl ⟨zbv (congrArg some e7.1) rfl, ?_⟩
    exact zck (sk 65 (congrArg some vE10) (zak _)) (by simp only [pE10, vE10, e7.2, fS] <;> rfl) (zbx (lnQ rfl rfl rfl (fun w hm => by have h9 := (hphR35 w (hm.holds _ (zcf (i := 0) rfl))).row; rw [hlhR35] at h9; exact h9)))
   ·
    intro vf pf hR
    have e7 := hR 7 (by decide)
    refine Or.inl ⟨zbv (congrArg some e7.1) rfl, ?_⟩
    exact zce (zas [4] rfl) (zbx (zav rfl))
   ·
    intro vf pf hR
    have e7 := hR 7 (by decide)
    have e12 := hR 12 (by decide)
    refine Or.inl ⟨zbv (congrArg some e7.1) rfl, ?_⟩
    exact zbo (sk 67 (congrArg some e12.1) (zak _)) (List.sublist_append_right _ _) (zbx (lnQ rfl rfl rfl (fun w hm => (hdp w (hm.holds _ (zcf (i := 3) rfl))).2.row)))
   ·
    intro vf pf hR
    have e7 := hR 7 (by decide)
    have e10 : (fun u_ p_ => ∃ (os9 : List CRow) (ps9 : List HP), p_ = [bigE ps9] ∧ (∀ w, (bigE ps9).holds w → RdsCl w u_ os9) ∧ u_.oneCell' = true ∧ os9.map CRow.xs = (trK m (rs.map CRow.xs)).map (ouK m)) (vf 10) (pf 10) := hR 10 (by decide)
    obtain ⟨v33, vE10⟩ : ∃ x, vf 10 = x := ⟨_, rfl⟩
    obtain ⟨p34, pE10⟩ : ∃ x, pf 10 = x := ⟨_, rfl⟩
    have hR35 := e10
    rw [vE10, pE10] at hR35
    obtain ⟨oshR35, pshR35, rfl, hphR35, h1hR35, hehR35⟩ := hR35
    have hlhR35 : oshR35.length = rs.length := by have h9 := congrArg List.length hehR35; simpa [trK] using h9
    have e11 := hR 11 (by decide)
    have e13 := hR 13 (by decide)
    refine Or.inl ⟨zbv (congrArg some e7.1) rfl, ?_⟩
    exact zck (sk 66 (congrArg some e11.1) (sk 68 (congrArg some e13.1) (zak _))) (by simp only [pE10, vE10, e7.2, e11.2, e13.2, fS] <;> rfl) (zct (zbx (zcj rfl rfl rfl rfl)) (fun _ _ h => ⟨h.1.trans (congrArg Value.bool hb26), h.2⟩))
   intro vf pf hR
   have e7 := hR 7 (by decide)
   have e14 := hR 14 (by decide)
   exact ovQ rfl (sk 62 (congrArg some e7.1) (sk 69 (congrArg some e14.1) (zak _))) (zbx (zav rfl))
  intro vf pf hR
  have e2 : (fun u_ p_ => ∃ (os9 : List CRow) (ps9 : List HP), p_ = [bigE ps9] ∧ (∀ w, (bigE ps9).holds w → RdsCl w u_ os9) ∧ u_.oneCell' = true ∧ os9.map CRow.xs = (trK m (qs.map CRow.xs)).map (ouK m)) (vf 2) (pf 2) := hR 2 (by decide)
  obtain ⟨v27, vE2⟩ : ∃ x, vf 2 = x := ⟨_, rfl⟩
  obtain ⟨p28, pE2⟩ : ∃ x, pf 2 = x := ⟨_, rfl⟩
  have hR29 := e2
  rw [vE2, pE2] at hR29
  obtain ⟨oshR29, pshR29, rfl, hphR29, h1hR29, hehR29⟩ := hR29
  have hlhR29 : oshR29.length = qs.length := by have h9 := congrArg List.length hehR29; simpa [trK] using h9
  have e5 : (fun u_ p_ => ∃ (os9 : List CRow) (ps9 : List HP), p_ = [bigE ps9] ∧ (∀ w, (bigE ps9).holds w → RdsCl w u_ os9) ∧ u_.oneCell' = true ∧ os9.map CRow.xs = (trK m (rs.map CRow.xs)).map (ouK m)) (vf 5) (pf 5) := hR 5 (by decide)
  obtain ⟨v30, vE5⟩ : ∃ x, vf 5 = x := ⟨_, rfl⟩
  obtain ⟨p31, pE5⟩ : ∃ x, pf 5 = x := ⟨_, rfl⟩
  have hR32 := e5
  rw [vE5, pE5] at hR32
  obtain ⟨oshR32, pshR32, rfl, hphR32, h1hR32, hehR32⟩ := hR32
  have hlhR32 : oshR32.length = rs.length := by have h9 := congrArg List.length hehR32; simpa [trK] using h9
  have e10 : (fun u_ p_ => ∃ (os9 : List CRow) (ps9 : List HP), p_ = [bigE ps9] ∧ (∀ w, (bigE ps9).holds w → RdsCl w u_ os9) ∧ u_.oneCell' = true ∧ os9.map CRow.xs = (trK m (rs.map CRow.xs)).map (ouK m)) (vf 10) (pf 10) := hR 10 (by decide)
  obtain ⟨v33, vE10⟩ : ∃ x, vf 10 = x := ⟨_, rfl⟩
  obtain ⟨p34, pE10⟩ : ∃ x, pf 10 = x := ⟨_, rfl⟩
  have hR35 := e10
  rw [vE10, pE10] at hR35
  obtain ⟨oshR35, pshR35, rfl, hphR35, h1hR35, hehR35⟩ := hR35
  have hlhR35 : oshR35.length = rs.length := by have h9 := congrArg List.length hehR35; simpa [trK] using h9
  have e15 := hR 15 (by decide)
  have q0 := hR 0 (by decide)
  have q1 := hR 1 (by decide)
  have q3 := hR 3 (by decide)
  have q4 := hR 4 (by decide)
  have q6 := hR 6 (by decide)
  have q7 := hR 7 (by decide)
  have q8 := hR 8 (by decide)
  have q9 := hR 9 (by decide)
  have q11 := hR 11 (by decide)
  have q12 := hR 12 (by decide)
  have q13 := hR 13 (by decide)
  have q14 := hR 14 (by decide)
  have q15 := hR 15 (by decide)
  refine zdg (zcu [20, 10, 6, 5, 4, 3, 2, 0] _ (sk 70 (congrArg some e15.1) (zak _)) rfl) (by simp only [pE2, vE2, pE5, vE5, pE10, vE10, q0.2, q1.2, q3.2, q4.2, q6.2, q7.2, q8.2, q9.2, q11.2, q12.2, q13.2, q14.2, q15.2, fS] <;> rfl) ?_
  simp only [List.drop_succ_cons, List.drop_zero]
  refine zbb 1 rfl ?_
  exact zap (zay rfl rfl rfl)
 have hb26p : (rs.length : Int) ≠ (rs.length : Int) := beq_eq_false_iff_ne.1 hb26
 refine zfj rfl 16 [0, 1, 2, 3, 4, 5, 6, 7, 8, 9, 10, 11, 12, 13, 14, 15] (List.take 16 _) (List.drop 16 _) [[], [], [0, 1], [], [], [3, 4], [2, 5], [2, 5, 6], [7], [7], [7, 8, 9], [7, 10], [7], [7, 12], [7, 10, 11, 13], [7, 14]] [55, 56, 57, 58, 59, 60, 61, 62, 63, 64, 65, 66, 67, 68, 69, 70] (fun i_ vs_ v_ p_ => match i_ with | 0 => v_ = .agg #[m.sv, m.av, m.iv, m.mv] ∧ p_ = [] | 1 => v_ = fv ∧ p_ = [] | 2 => (fun u_ p_ => ∃ (os9 : List CRow) (ps9 : List HP), p_ = [bigE ps9] ∧ (∀ w, (bigE ps9).holds w → RdsCl w u_ os9) ∧ u_.oneCell' = true ∧ os9.map CRow.xs = (trK m (qs.map CRow.xs)).map (ouK m)) v_ p_ | 3 => v_ = .agg #[m.sv, m.av, m.iv, m.mv] ∧ p_ = [] | 4 => v_ = nv ∧ p_ = [] | 5 => (fun u_ p_ => ∃ (os9 : List CRow) (ps9 : List HP), p_ = [bigE ps9] ∧ (∀ w, (bigE ps9).holds w → RdsCl w u_ os9) ∧ u_.oneCell' = true ∧ os9.map CRow.xs = (trK m (rs.map CRow.xs)).map (ouK m)) v_ p_ | 6 => v_ = .bool true ∧ p_ = [] | 7 => v_ = .bool true ∧ p_ = [] | 8 => v_ = .agg #[m.sv, m.av, m.iv, m.mv] ∧ p_ = [] | 9 => v_ = nv ∧ p_ = [] | 10 => (fun u_ p_ => ∃ (os9 : List CRow) (ps9 : List HP), p_ = [bigE ps9] ∧ (∀ w, (bigE ps9).holds w → RdsCl w u_ os9) ∧ u_.oneCell' = true ∧ os9.map CRow.xs = (trK m (rs.map CRow.xs)).map (ouK m)) v_ p_ | 11 => v_ = .int .i64 (rs.length : Int) ∧ p_ = [] | 12 => v_ = nv ∧ p_ = [] | 13 => v_ = .int .i64 (rs.length : Int) ∧ p_ = [] | 14 => v_ = .bool false ∧ p_ = [] | 15 => v_ = .bool false ∧ p_ = [] | _ => True) (List.take_append_drop 16 _).symm (by kernel_rfl) (by kernel_rfl) rfl rfl ?_ ?_
 ·
  refine ⟨?_, ?_, ?_, ?_, ?_, ?_, ?_, ?_, ?_, ?_, ?_, ?_, ?_, ?_, ?_, ?_, trivial⟩
  ·
   intro vf pf hR
   exact olQ rfl (zas [3] rfl) (zbx (zax (cs := [m.sv, m.av, m.iv, m.mv]) rfl rfl rfl rfl rfl (zat 2 rfl 0 rfl)))
  ·
   intro vf pf hR
   exact ovQ rfl (zas [5] rfl) (zbx (zav rfl))
  ·
   intro vf pf hR
   have e0 := hR 0 (by decide)
   have e1 := hR 1 (by decide)
   exact olQ rfl (sk 55 (congrArg some e0.1) (sk 56 (congrArg some e1.1) (zak _))) (zaw rfl rfl (fun w hm => zfc m qs fv w (hdp w (hm.holds _ (zcf (i := 3) rfl))).1 hfl ⟨zaj 1 rfl w hm, (hp w (hm.holds _ (zcf (i := 0) rfl)))⟩ hIq))
  ·
   intro vf pf hR
   exact olQ rfl (zas [3] rfl) (zbx (zax (cs := [m.sv, m.av, m.iv, m.mv]) rfl rfl rfl rfl rfl (zat 2 rfl 0 rfl)))
  ·
   intro vf pf hR
   exact ovQ rfl (zas [4] rfl) (zbx (zav rfl))
  ·
   intro vf pf hR
   have e3 := hR 3 (by decide)
   have e4 := hR 4 (by decide)
   exact olQ rfl (sk 58 (congrArg some e3.1) (sk 59 (congrArg some e4.1) (zak _))) (zaw rfl rfl (fun w hm => zfc m rs nv w (hdp w (hm.holds _ (zcf (i := 3) rfl))).1 hfl (hdp w (hm.holds _ (zcf (i := 3) rfl))).2 hI))
  ·
   intro vf pf hR
   have e2 : (fun u_ p_ => ∃ (os9 : List CRow) (ps9 : List HP), p_ = [bigE ps9] ∧ (∀ w, (bigE ps9).holds w → RdsCl w u_ os9) ∧ u_.oneCell' = true ∧ os9.map CRow.xs = (trK m (qs.map CRow.xs)).map (ouK m)) (vf 2) (pf 2) := hR 2 (by decide)
   obtain ⟨v36, vE2⟩ : ∃ x, vf 2 = x := ⟨_, rfl⟩
   obtain ⟨p37, pE2⟩ : ∃ x, pf 2 = x := ⟨_, rfl⟩
   have hR38 := e2
   rw [vE2, pE2] at hR38
   obtain ⟨oshR38, pshR38, rfl, hphR38, h1hR38, hehR38⟩ := hR38
   have hlhR38 : oshR38.length = qs.length := by have h9 := congrArg List.length hehR38; simpa [trK] using h9
   have e5 : (fun u_ p_ => ∃ (os9 : List CRow) (ps9 : List HP), p_ = [bigE ps9] ∧ (∀ w, (bigE ps9).holds w → RdsCl w u_ os9) ∧ u_.oneCell' = true ∧ os9.map CRow.xs = (trK m (rs.map CRow.xs)).map (ouK m)) (vf 5) (pf 5) := hR 5 (by decide)
   obtain ⟨v39, vE5⟩ : ∃ x, vf 5 = x := ⟨_, rfl⟩
   obtain ⟨p40, pE5⟩ : ∃ x, pf 5 = x := ⟨_, rfl⟩
   have hR41 := e5
   rw [vE5, pE5] at hR41
   obtain ⟨oshR41, pshR41, rfl, hphR41, h1hR41, hehR41⟩ := hR41
   have hlhR41 : oshR41.length = rs.length := by have h9 := congrArg List.length hehR41; simpa [trK] using h9
   refine Or.inl ⟨rfl, ?_⟩
   exact zck (sk 57 (congrArg some vE2) (sk 60 (congrArg some vE5) (zak _))) (by simp only [pE2, vE2, pE5, vE5, fS] <;> rfl) (zaw rfl rfl (fun w hm => zbg (by have h9 := sameRowsF_ans _ _ _ _ w (hphR38 w (hm.holds _ (zcf (i := 0) rfl))) (hphR41 w (hm.holds _ (zcf (i := 1) rfl))); rw [decide_eq_true (hehR38.trans (hrun.trans hehR41.symm))] at h9; exact h9)))
  ·
   intro vf pf hR
   have e2 : (fun u_ p_ => ∃ (os9 : List CRow) (ps9 : List HP), p_ = [bigE ps9] ∧ (∀ w, (bigE ps9).holds w → RdsCl w u_ os9) ∧ u_.oneCell' = true ∧ os9.map CRow.xs = (trK m (qs.map CRow.xs)).map (ouK m)) (vf 2) (pf 2) := hR 2 (by decide)
   obtain ⟨v36, vE2⟩ : ∃ x, vf 2 = x := ⟨_, rfl⟩
   obtain ⟨p37, pE2⟩ : ∃ x, pf 2 = x := ⟨_, rfl⟩
   have hR38 := e2
   rw [vE2, pE2] at hR38
   obtain ⟨oshR38, pshR38, rfl, hphR38, h1hR38, hehR38⟩ := hR38
   have hlhR38 : oshR38.length = qs.length := by have h9 := congrArg List.length hehR38; simpa [trK] using h9
   have e5 : (fun u_ p_ => ∃ (os9 : List CRow) (ps9 : List HP), p_ = [bigE ps9] ∧ (∀ w, (bigE ps9).holds w → RdsCl w u_ os9) ∧ u_.oneCell' = true ∧ os9.map CRow.xs = (trK m (rs.map CRow.xs)).map (ouK m)) (vf 5) (pf 5) := hR 5 (by decide)
   obtain ⟨v39, vE5⟩ : ∃ x, vf 5 = x := ⟨_, rfl⟩
   obtain ⟨p40, pE5⟩ : ∃ x, pf 5 = x := ⟨_, rfl⟩
   have hR41 := e5
   rw [vE5, pE5] at hR41
   obtain ⟨oshR41, pshR41, rfl, hphR41, h1hR41, hehR41⟩ := hR41
   have hlhR41 : oshR41.length = rs.length := by have h9 := congrArg List.length hehR41; simpa [trK] using h9
   have e6 := hR 6 (by decide)
   refine Or.inl ⟨rfl, ?_⟩
   exact zck (sk 61 (congrArg some e6.1) (zak _)) (by simp only [pE2, vE2, pE5, vE5, e6.2, fS] <;> rfl) (zbx (zav rfl))
  ·
   intro vf pf hR
   have e7 := hR 7 (by decide)
   refine Or.inl ⟨zbv (congrArg some e7.1) rfl, ?_⟩
   exact zbo (zas [3] rfl) (List.sublist_append_right _ _) (zbx (zax (cs := [m.sv, m.av, m.iv, m.mv]) rfl rfl rfl rfl rfl (zat 2 rfl 0 rfl)))
  ·
   intro vf pf hR
   have e7 := hR 7 (by decide)
   refine Or.inl ⟨zbv (congrArg some e7.1) rfl, ?_⟩
   exact zce (zas [4] rfl) (zbx (zav rfl))
  ·
   intro vf pf hR
   have e7 := hR 7 (by decide)
   have e8 := hR 8 (by decide)
   have e9 := hR 9 (by decide)
   refine Or.inl ⟨zbv (congrArg some e7.1) rfl, ?_⟩
   exact zbo (sk 63 (congrArg some e8.1) (sk 64 (congrArg some e9.1) (zak _))) (List.sublist_append_right _ _) (zaw rfl rfl (fun w hm => zfc m rs nv w (hdp w (hm.holds _ (zcf (i := 3) rfl))).1 hfl (hdp w (hm.holds _ (zcf (i := 3) rfl))).2 hI))
  ·
   intro vf pf hR
   have e7 := hR 7 (by decide)
   have e10 : (fun u_ p_ => ∃ (os9 : List CRow) (ps9 : List HP), p_ = [bigE ps9] ∧ (∀ w, (bigE ps9).holds w → RdsCl w u_ os9) ∧ u_.oneCell' = true ∧ os9.map CRow.xs = (trK m (rs.map CRow.xs)).map (ouK m)) (vf 10) (pf 10) := hR 10 (by decide)
   obtain ⟨v42, vE10⟩ : ∃ x, vf 10 = x := ⟨_, rfl⟩
   obtain ⟨p43, pE10⟩ : ∃ x, pf 10 = x := ⟨_, rfl⟩
   have hR44 := e10
   rw [vE10, pE10] at hR44
   obtain ⟨oshR44, pshR44, rfl, hphR44, h1hR44, hehR44⟩ := hR44
   have hlhR44 : oshR44.length = rs.length := by have h9 := congrArg List.length hehR44; simpa [trK] using h9
   refine Or.inl ⟨zbv (congrArg some e7.1) rfl, ?_⟩
   exact zck (sk 65 (congrArg some vE10) (zak _)) (by simp only [pE10, vE10, e7.2, fS] <;> rfl) (zbx (lnQ rfl rfl rfl (fun w hm => by have h9 := (hphR44 w (hm.holds _ (zcf (i := 0) rfl))).row; rw [hlhR44] at h9; exact h9)))
  ·
   intro vf pf hR
   have e7 := hR 7 (by decide)
   refine Or.inl ⟨zbv (congrArg some e7.1) rfl, ?_⟩
   exact zce (zas [4] rfl) (zbx (zav rfl))
  ·
   intro vf pf hR
   have e7 := hR 7 (by decide)
   have e12 := hR 12 (by decide)
   refine Or.inl ⟨zbv (congrArg some e7.1) rfl, ?_⟩
   exact zbo (sk 67 (congrArg some e12.1) (zak _)) (List.sublist_append_right _ _) (zbx (lnQ rfl rfl rfl (fun w hm => (hdp w (hm.holds _ (zcf (i := 3) rfl))).2.row)))
  ·
   intro vf pf hR
   have e7 := hR 7 (by decide)
   have e10 : (fun u_ p_ => ∃ (os9 : List CRow) (ps9 : List HP), p_ = [bigE ps9] ∧ (∀ w, (bigE ps9).holds w → RdsCl w u_ os9) ∧ u_.oneCell' = true ∧ os9.map CRow.xs = (trK m (rs.map CRow.xs)).map (ouK m)) (vf 10) (pf 10) := hR 10 (by decide)
   obtain ⟨v42, vE10⟩ : ∃ x, vf 10 = x := ⟨_, rfl⟩
   obtain ⟨p43, pE10⟩ : ∃ x, pf 10 = x := ⟨_, rfl⟩
   have hR44 := e10
   rw [vE10, pE10] at hR44
   obtain ⟨oshR44, pshR44, rfl, hphR44, h1hR44, hehR44⟩ := hR44
   have hlhR44 : oshR44.length = rs.length := by have h9 := congrArg List.length hehR44; simpa [trK] using h9
   have e11 := hR 11 (by decide)
   have e13 := hR 13 (by decide)
   refine Or.inl ⟨zbv (congrArg some e7.1) rfl, ?_⟩
   exact zck (sk 66 (congrArg some e11.1) (sk 68 (congrArg some e13.1) (zak _))) (by simp only [pE10, vE10, e7.2, e11.2, e13.2, fS] <;> rfl) (zct (zbx (zcj rfl rfl rfl rfl)) (fun _ _ h => ⟨h.1.trans (congrArg Value.bool hb26), h.2⟩))
  intro vf pf hR
  have e7 := hR 7 (by decide)
  have e14 := hR 14 (by decide)
  exact ovQ rfl (sk 62 (congrArg some e7.1) (sk 69 (congrArg some e14.1) (zak _))) (zbx (zav rfl))
 intro vf pf hR
 have e2 : (fun u_ p_ => ∃ (os9 : List CRow) (ps9 : List HP), p_ = [bigE ps9] ∧ (∀ w, (bigE ps9).holds w → RdsCl w u_ os9) ∧ u_.oneCell' = true ∧ os9.map CRow.xs = (trK m (qs.map CRow.xs)).map (ouK m)) (vf 2) (pf 2) := hR 2 (by decide)
 obtain ⟨v36, vE2⟩ : ∃ x, vf 2 = x := ⟨_, rfl⟩
 obtain ⟨p37, pE2⟩ : ∃ x, pf 2 = x := ⟨_, rfl⟩
 have hR38 := e2
 rw [vE2, pE2] at hR38
 obtain ⟨oshR38, pshR38, rfl, hphR38, h1hR38, hehR38⟩ := hR38
 have hlhR38 : oshR38.length = qs.length := by have h9 := congrArg List.length hehR38; simpa [trK] using h9
 have e5 : (fun u_ p_ => ∃ (os9 : List CRow) (ps9 : List HP), p_ = [bigE ps9] ∧ (∀ w, (bigE ps9).holds w → RdsCl w u_ os9) ∧ u_.oneCell' = true ∧ os9.map CRow.xs = (trK m (rs.map CRow.xs)).map (ouK m)) (vf 5) (pf 5) := hR 5 (by decide)
 obtain ⟨v39, vE5⟩ : ∃ x, vf 5 = x := ⟨_, rfl⟩
 obtain ⟨p40, pE5⟩ : ∃ x, pf 5 = x := ⟨_, rfl⟩
 have hR41 := e5
 rw [vE5, pE5] at hR41
 obtain ⟨oshR41, pshR41, rfl, hphR41, h1hR41, hehR41⟩ := hR41
 have hlhR41 : oshR41.length = rs.length := by have h9 := congrArg List.length hehR41; simpa [trK] using h9
 have e10 : (fun u_ p_ => ∃ (os9 : List CRow) (ps9 : List HP), p_ = [bigE ps9] ∧ (∀ w, (bigE ps9).holds w → RdsCl w u_ os9) ∧ u_.oneCell' = true ∧ os9.map CRow.xs = (trK m (rs.map CRow.xs)).map (ouK m)) (vf 10) (pf 10) := hR 10 (by decide)
 obtain ⟨v42, vE10⟩ : ∃ x, vf 10 = x := ⟨_, rfl⟩
 obtain ⟨p43, pE10⟩ : ∃ x, pf 10 = x := ⟨_, rfl⟩
 have hR44 := e10
 rw [vE10, pE10] at hR44
 obtain ⟨oshR44, pshR44, rfl, hphR44, h1hR44, hehR44⟩ := hR44
 have hlhR44 : oshR44.length = rs.length := by have h9 := congrArg List.length hehR44; simpa [trK] using h9
 have e15 := hR 15 (by decide)
 have q0 := hR 0 (by decide)
 have q1 := hR 1 (by decide)
 have q3 := hR 3 (by decide)
 have q4 := hR 4 (by decide)
 have q6 := hR 6 (by decide)
 have q7 := hR 7 (by decide)
 have q8 := hR 8 (by decide)
 have q9 := hR 9 (by decide)
 have q11 := hR 11 (by decide)
 have q12 := hR 12 (by decide)
 have q13 := hR 13 (by decide)
 have q14 := hR 14 (by decide)
 have q15 := hR 15 (by decide)
 refine zdg (zcu [20, 10, 6, 5, 4, 3, 2, 0] _ (sk 70 (congrArg some e15.1) (zak _)) rfl) (by simp only [pE2, vE2, pE5, vE5, pE10, vE10, q0.2, q1.2, q3.2, q4.2, q6.2, q7.2, q8.2, q9.2, q11.2, q12.2, q13.2, q14.2, q15.2, fS] <;> rfl) ?_
 simp only [List.drop_succ_cons, List.drop_zero]
 refine zbb 1 rfl ?_
 refine zap ?_
 exfalso; omega
end Go.Proofs.Ytodiifjigjnalaa
