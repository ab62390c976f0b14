/- Texts of the law FnFlatAgain, part 4: what it uses. -/
import Derived.Test.YtodiifjigjnalaaFga3
set_option linter.unusedVariables false
set_option linter.unusedSimpArgs false
set_option maxHeartbeats 4000000
set_option maxRecDepth 100000
namespace Go.Proofs.Ytodiifjigjnalaa
open Go.RowKit Go.ChangeShapes
open Go.RowKit
theorem l04Design_mut (g : Nat) (a : Option Addr) (len cap : Nat) (z : List Int) (w0 : World) (l : List HP) (w : World) (hm0 : Mem w0 (curE g a len cap :: l) w) (hb : BRow .u8 w0 a len cap z) :
   Calls Try.prog 45 #[.pointer (some ⟨g, 0, none⟩)] w (fun e_ w_ => ∃ v_ p_, e_ = .returned v_ ∧ (fun u_ p_ => ∃ (D : List Md) (v : Value) (ps : List HP), u_ = .agg #[v] ∧ p_ = bigE [curE g a len cap, bigE ps] ∧ (∀ w, (bigE ps).holds w → RdsDs w v D) ∧ v.oneCell' = true ∧ DdP D ∧ 1 ≤ D.length) v_ p_ ∧ Mem w0 (p_ :: l) w_) := by
 refine zfa (N := 28) (args := [.pointer (some ⟨g, 0, none⟩)]) Try.func45 rfl rfl hm0 (srQ ?_)
 refine zdn rfl (zbl (z := .agg #[.slice none 0 0]) rfl rfl) ?_
 intro b1
 refine ntQ (srQ (hvQ rfl (zbk (cs := #[.slice none 0 0]) rfl rfl rfl) ?_))
 refine zdn rfl (zbl (z := .agg #[.slice none 0 0]) rfl rfl) ?_
 intro b2
 refine zbh (cs' := #[.slice none 0 0]) (i := 0) (off := 0) (us := [.slice none 0 0]) rfl rfl rfl rfl rfl rfl rfl (zab rfl zbc) rfl rfl rfl (ntQ (zag (reQ 1 rfl ?_)))
 refine zcg (R := (fun u_ p_ => (∃ x_ : Int, u_ = .int .i64 x_ ∧ 0 ≤ x_ ∧ x_ < 2) ∧ p_ = curE g a len cap)) 2 rfl rfl rfl rfl rfl (fun l' w hm => zby g a len cap z 2 _ _ _ hm hb (by constructor <;> omega)) ?_
 intro v3 p4 hR5
 obtain ⟨⟨xhR5, rfl, xhR50, xhR51⟩, rfl⟩ := hR5
 refine zcl (l' := (boxE b2 #[.slice none 0 0] 26 :: boxE b1 #[.slice none 0 0] 26 :: curE g a len cap :: l)) rfl ?_
 refine zam 1 rfl (zcg (R := (fun u_ p_ => (∃ x_ : Int, u_ = .int .i64 x_ ∧ 0 ≤ x_ ∧ x_ < 2) ∧ p_ = curE g a len cap)) 2 rfl rfl rfl rfl rfl (fun l' w hm => zby g a len cap z 2 _ _ _ hm hb (by constructor <;> omega)) ?_)
 intro v6 p7 hR8
 obtain ⟨⟨xhR8, rfl, xhR80, xhR81⟩, rfl⟩ := hR8
 refine zcl (l' := (boxE b2 #[.slice none 0 0] 26 :: boxE b1 #[.slice none 0 0] 26 :: curE g a len cap :: l)) rfl ?_
 refine hvQ rfl (vaQ rfl rfl rfl) (hvQ rfl (rv_mul rfl rfl rfl (by rcases (by omega : xhR5 = 0 ∨ xhR5 = 1) with e9 | e9 <;> rw [e9] <;> constructor <;> omega)) ?_)
 have hml9 : 0 ≤ xhR5 * (1 + xhR8) ∧ xhR5 * (1 + xhR8) ≤ 2 := by rcases (by omega : xhR5 = 0 ∨ xhR5 = 1) with e9 | e9 <;> rw [e9] <;> constructor <;> omega
 refine hvQ rfl (vaQ rfl rfl rfl) (zay 1 rfl (zag (zbg 1 rfl (zaz ?_))))
 refine zfe (bigE [] :: rowE 35 4 (.slice none 0 0) (([] : List Md).length) (([] : List Md).flatMap mdC) :: boxE b2 #[.slice none 0 0] 26 :: boxE b1 #[.slice none 0 0] 26 :: curE g a len cap :: l) (fun w hm => Mem.big (ps := []) (hm.nilRow 35 4)) ?_
 refine lkQ4 (α := Nat) (β := List Md) (γ := Value) (δ := List HP) [0, 2, 3, 4] rfl (fun k D v ps => (bigE ps :: rowE 35 4 v D.length (D.flatMap mdC) :: boxE b2 #[v] 26 :: boxE b1 #[.slice none 0 0] 26 :: curE g a len cap :: l)) (fun k D v ps => [(5, .int .i64 (k : Int))]) (fun k D v ps => (k : Int) ≤ 1 + (xhR5 * (1 + xhR8)) ∧ D.length = k ∧ DdP D ∧ ∀ w, (bigE ps).holds w → ∀ m ∈ D, RdsMd w m) (fun k D v ps => (1 + (xhR5 * (1 + xhR8))).toNat - k) 0 [] _ [] ⟨by omega, rfl, DdP.nil, fun w _ m hm => (by cases hm)⟩ (saQ rfl) (.refl _) ?_
 intro k D v ps hi9
 obtain ⟨hk, hdl, hdd, hp⟩ := hi9
 refine zag (zag (reQ 2 rfl ?_))
 refine zbq rfl rfl rfl rfl rfl rfl (fun h10 => ?_) (fun h10 => ?_)
 ·
  refine ntQ (zah rfl (zcv (sbQ ?_)))
  refine hc_know (p := v.oneCell' = true ∧ ∀ m ∈ D, m.sv.oneCell' = true ∧ m.av.oneCell' = true ∧ m.iv.oneCell' = true ∧ m.mv.oneCell' = true) (fun w hm => ⟨(zaj 1 rfl w hm).one, fun m9 hm9 => (hp w (hm.holds _ (zcj (i := 0) rfl)) m9 hm9).ones⟩) (fun ⟨hv9, ho9⟩ => ?_)
  refine zey 5 [3, 2, 1, 0, 4] rfl rfl (by decide) ?_
  refine zez (l := (bigE ps :: rowE 35 4 v D.length (D.flatMap mdC) :: boxE b2 #[v] 26 :: boxE b1 #[.slice none 0 0] 26 :: l)) rfl 6 [0, 1, 2, 3, 4, 5] (List.take 6 _) (List.drop 6 _) [[], [0], [], [], [2, 3], [4]] [19, 20, 21, 22, 23, 24] (fun i_ vs_ v_ p_ => match i_ with | 0 => v_ = .pointer (some ⟨b2, 0 + 0, none⟩) ∧ p_ = [] | 1 => v_ = v ∧ p_ = [] | 2 => v_ = .pointer (some ⟨g, 0, none⟩) ∧ p_ = [] | 3 => v_ = .agg #[v] ∧ p_ = [] | 4 => (∃ pm_, p_ = [pm_] ∧ (fun u_ p_ => ∃ (m : Md) (ps : List HP), u_ = m.agg ∧ p_ = bigE [curE g a len cap, bigE ps] ∧ (∀ w, (bigE ps).holds w → RdsMd w m) ∧ (m.sv.oneCell' = true ∧ m.av.oneCell' = true ∧ m.iv.oneCell' = true ∧ m.mv.oneCell' = true) ∧ DmP D m) v_ pm_) | 5 => IsRow 35 4 1 ([(agK 0 (List.getD vs_ 0 undef)), (agK 1 (List.getD vs_ 0 undef)), (agK 2 (List.getD vs_ 0 undef)), (agK 3 (List.getD vs_ 0 undef))]) v_ p_ | _ => True) [[], [0], [], [], [2, 3], [4]] [none, none, none, none, some 9, none] [curE g a len cap] [0, 1, 2, 3, 4, 5] 9 (List.take_append_drop 6 _).symm (by kernel_rfl) (by kernel_rfl) (by kernel_rfl) rfl rfl ?_ ?_
  ·
   refine ⟨?_, ?_, ?_, ?_, ?_, ?_, trivial⟩
   ·
    intro vf pf hmu hR
    refine dqQ [] [] rfl (zbo (zar [3] rfl) ?_)
    exact zbt (fdQ 0 rfl rfl rfl)
   ·
    intro vf pf hmu hR
    have e0 := hR 0 (by decide)
    refine dqQ [0] [0] rfl (zbe (sk 19 (congrArg some e0.1) (zai _)) (List.sublist_append_right _ _) ?_)
    exact zbt (zac rfl rfl rfl (zaa 2 rfl rfl))
   ·
    intro vf pf hmu hR
    refine dqQ [] [] rfl (zbo (zar [0] rfl) ?_)
    exact zbt (zau rfl)
   ·
    intro vf pf hmu hR
    refine dqQ [] [] rfl (zbe (zar [3] rfl) (List.sublist_append_right _ _) ?_)
    exact zbt (zax (cs := [v]) rfl rfl rfl rfl rfl (zat 2 rfl 0 rfl))
   ·
    intro vf pf hmu hR
    have e2 := hR 2 (by decide)
    have e3 := hR 3 (by decide)
    refine Or.inl ⟨rfl, ?_⟩
    show RunM _ _ _ (pf 9) (([2, 3] : List Nat).flatMap pf ++ _) (envOf _ vf [2, 3] ++ _) _ _
    rw [hmu]
    exact zda (sk 21 (congrArg some e2.1) (sk 22 (congrArg some e3.1) (zai _))) (by simp only [e2.2, e3.2, fS] <;> rfl) (zdp (R := (fun u_ p_ => ∃ (m : Md) (ps : List HP), u_ = m.agg ∧ p_ = bigE [curE g a len cap, bigE ps] ∧ (∀ w, (bigE ps).holds w → RdsMd w m) ∧ (m.sv.oneCell' = true ∧ m.av.oneCell' = true ∧ m.iv.oneCell' = true ∧ m.mv.oneCell' = true) ∧ DmP D m)) rfl rfl (fun L w hX hm => l04Module_mut g a len cap z D v _ _ _ hm hb (fun w9 h9 => ⟨(zaj (l := (bigE ps :: rowE 35 4 v D.length (D.flatMap mdC) :: boxE b2 #[v] 26 :: boxE b1 #[.slice none 0 0] 26 :: l)) 1 rfl) w9 (hX w9 h9), fun m9 hm9 => hp w9 ((hX w9 h9).holds _ (zcj (i := 0) rfl)) m9 hm9⟩) hdd (by omega) hv9 ho9))
   intro vf pf hmu hR
   have e4 : (∃ pm_, (pf 4) = [pm_] ∧ (fun u_ p_ => ∃ (m : Md) (ps : List HP), u_ = m.agg ∧ p_ = bigE [curE g a len cap, bigE ps] ∧ (∀ w, (bigE ps).holds w → RdsMd w m) ∧ (m.sv.oneCell' = true ∧ m.av.oneCell' = true ∧ m.iv.oneCell' = true ∧ m.mv.oneCell' = true) ∧ DmP D m) (vf 4) pm_) := hR 4 (by decide)
   obtain ⟨p12, pE4, hR13⟩ := e4
   obtain ⟨v11, vE4⟩ : ∃ x, vf 4 = x := ⟨_, rfl⟩
   rw [vE4] at hR13
   obtain ⟨mhR13, mphR13, rfl, rfl, hmphR13, hmohR13, hdmhR13⟩ := hR13
   refine dqQ [4] [4] rfl (zcm (sk 23 (congrArg some vE4) (zai _)) (by simp only [pE4, vE4, fS] <;> rfl) ?_)
   exact zck (zak (z := .agg #[.slice none 0 0, .slice none 0 0, .slice none 0 0, .slice none 0 0]) (s := 4) (cs := [mhR13.sv, mhR13.av, mhR13.iv, mhR13.mv]) rfl Try.underlying24 rfl (by decide) rfl (by kernel_rfl) rfl) (fun v_ p_ h => by show IsRow 35 4 1 ([(agK 0 (vf 4)), (agK 1 (vf 4)), (agK 2 (vf 4)), (agK 3 (vf 4))]) v_ p_; rw [vE4]; exact h)
  intro vf pf hmu hR
  have e1 := hR 1 (by decide)
  have e4 : (∃ pm_, (pf 4) = [pm_] ∧ (fun u_ p_ => ∃ (m : Md) (ps : List HP), u_ = m.agg ∧ p_ = bigE [curE g a len cap, bigE ps] ∧ (∀ w, (bigE ps).holds w → RdsMd w m) ∧ (m.sv.oneCell' = true ∧ m.av.oneCell' = true ∧ m.iv.oneCell' = true ∧ m.mv.oneCell' = true) ∧ DmP D m) (vf 4) pm_) := hR 4 (by decide)
  obtain ⟨p12, pE4, hR13⟩ := e4
  obtain ⟨v11, vE4⟩ : ∃ x, vf 4 = x := ⟨_, rfl⟩
  rw [vE4] at hR13
  obtain ⟨mhR13, mphR13, rfl, rfl, hmphR13, hmohR13, hdmhR13⟩ := hR13
  have e5 : IsRow 35 4 1 ([(agK 0 (vf 4)), (agK 1 (vf 4)), (agK 2 (vf 4)), (agK 3 (vf 4))]) (vf 5) (pf 5) := hR 5 (by decide)
  rw [vE4] at e5
  obtain ⟨g14, vE5, pE5⟩ := e5
  have q0 := hR 0 (by decide)
  have q1 := hR 1 (by decide)
  have q2 := hR 2 (by decide)
  have q3 := hR 3 (by decide)
  refine zdf (zci [16, 5, 4, 3, 2, 0] _ (sk 20 (congrArg some e1.1) (sk 24 (congrArg some vE5) (zai _))) rfl) (by simp only [pE4, vE4, pE5, vE5, q0.2, q1.2, q2.2, q3.2, fS] <;> rfl) ?_
  simp only [List.drop_succ_cons, List.drop_zero]
  refine zcs (i := 3) (z := .agg #[.slice none 0 0, .slice none 0 0, .slice none 0 0, .slice none 0 0]) (bytes := 96) rfl rfl rfl rfl Try.underlying24 (by kernel_rfl) rfl rfl rfl rfl (zaj 1 rfl) (zab hmohR13.1 (zab hmohR13.2.1 (zab hmohR13.2.2.1 (zab hmohR13.2.2.2 zbc)))) (by first | omega | (simp only [List.length_append, List.length_cons, List.length_nil]; omega)) (zcc D [mhR13]) (zcz mdC D mhR13 _ rfl) (fun _ => rfl) ?_
  intro v15
  refine hvQ rfl (fdQ 0 rfl rfl rfl) (zct (i := 3) rfl (fun ho16 => ?_))
  refine zdo (i := 4) (cs' := #[v15]) rfl rfl rfl rfl rfl rfl ho16 rfl rfl rfl rfl (zcu (zdh (reQ 1 rfl (hvQ rfl (vaQ rfl rfl rfl) (enQ 1 rfl ?_)))))
  refine zbn 6 [5, 4, 3, 2, 1, 0] rfl rfl (by decide) ?_
  refine zco (curE g a len cap :: bigE mphR13 :: rowE 35 4 (.slice (some ⟨g14, 0, none⟩) 1 1) 1 ([mhR13.sv, mhR13.av, mhR13.iv, mhR13.mv]) :: bigE ps :: rowE 35 4 v15 ((D ++ [mhR13]).length) ((D ++ [mhR13]).flatMap mdC) :: boxE b2 #[v15] 26 :: boxE b1 #[.slice none 0 0] 26 :: l) zdb ?_
  refine zbn 7 [6, 5, 4, 2, 0, 1, 3] rfl rfl (by decide) ?_
  refine zcd 2 rfl ?_
  refine zbn 6 [1, 5, 4, 3, 0] rfl rfl (by decide) ?_
  exact zdq (k + 1) (D ++ [mhR13]) v15 [bigE ps, bigE mphR13] ⟨by omega, by rw [List.length_append, List.length_singleton]; omega, hdd.app (by omega) hdmhR13, fun w hw m9 hm9 => (List.mem_append.1 hm9).elim (fun h8 => hp w (zbi hw List.mem_cons_self) m9 h8) (fun h8 => by rw [List.mem_singleton] at h8; subst h8; exact hmphR13 w (zbi hw (List.mem_cons_of_mem _ List.mem_cons_self)))⟩ (by omega) (saQ rfl) (.refl _)
 refine ntQ (zap rfl ?_)
 refine zbj (zeb ?_)
 refine zal (zba (srQ (hvQ rfl (zax (cs := [v]) rfl rfl rfl rfl rfl (zat 2 rfl 0 rfl)) ?_)))
 refine zct (i := 1) rfl (fun ho17 => ?_)
 refine zbh (cs' := #[v]) (i := 3) (off := 0) (us := [v]) rfl rfl rfl rfl rfl rfl rfl (zab ho17 zbc) rfl rfl rfl (ntQ ?_)
 refine zao (zft (fun w hm => (zaj 1 rfl w hm).one) (fun ho9 => ?_))
 refine zbn 5 [4, 3, 2, 0, 1] rfl rfl (by decide) ?_
 refine zcd 2 rfl ?_
 refine zbn 4 [2, 1, 0, 3] rfl rfl (by decide) ?_
 refine zcd 2 rfl ?_
 exact zcx (rs := [.cell 2 26]) (vs := [.agg #[v]]) rfl ⟨⟨b1, 0, [v], rfl, rfl, by kernel_rfl, by kernel_rfl, zat 2 rfl 0 rfl⟩, trivial⟩ rfl (fun w hm => ⟨_, bigE [curE g a len cap, bigE [rowE 35 4 v D.length (D.flatMap mdC), bigE ps]], rfl, ⟨D, v, [rowE 35 4 v D.length (D.flatMap mdC), bigE ps], rfl, rfl, fun w hw => ⟨zdk (zbi hw List.mem_cons_self), hp w (zbi hw (List.mem_cons_of_mem _ List.mem_cons_self))⟩, ho9, hdd, by omega⟩, hm.sub (.cons_cons _ (.cons _ (.cons _ (.refl _))))⟩)
theorem DrawDesign_ret (a : Option Addr) (len cap : Nat) (z : List Int) (w : World) (hb : BRow .u8 w a len cap z) (hlen : len ≤ 1048576) :
   Calls Try.prog 10 #[.slice a len cap] w (Ret w (fun u_ p_ => ∃ (D : List Md) (v : Value) (x : Int) (ps : List HP), u_ = .tuple #[.agg #[v], .int .i64 x] ∧ p_ = [bigE ps] ∧ (∀ w, (bigE ps).holds w → RdsDs w v D) ∧ v.oneCell' = true ∧ DdP D ∧ 1 ≤ D.length ∧ 1 ≤ x ∧ x ≤ 3)) := by
 refine zca (N := 14) (args := [.slice a len cap]) Try.func10 rfl rfl (srQ ?_)
 refine zdn rfl (zbl (z := .agg #[.slice none 0 0]) rfl rfl) ?_
 intro b1
 refine zay 1 rfl (zag (reQ 1 rfl ?_))
 refine hl_q rfl rfl rfl (zaw rfl rfl (fun w hm => new_ret (hb.below hm.bel) hlen)) ?_
 intro v2 p3 hR4
 obtain ⟨ghR4, rfl, rfl⟩ := hR4
 refine zay 1 rfl (zag (reQ 1 rfl ?_))
 refine zcg (R := (fun u_ p_ => ∃ (D : List Md) (v : Value) (ps : List HP), u_ = .agg #[v] ∧ p_ = bigE [curE ghR4 a len cap, bigE ps] ∧ (∀ w, (bigE ps).holds w → RdsDs w v D) ∧ v.oneCell' = true ∧ DdP D ∧ 1 ≤ D.length)) 0 rfl rfl rfl rfl rfl (fun l' w hm => l04Design_mut ghR4 a len cap z _ _ _ hm hb) ?_
 intro v5 p6 hR7
 obtain ⟨D, dv, dp, rfl, rfl, hdp, hdv1, hdd, hd1⟩ := hR7
 refine zcl (l' := [bigE [curE ghR4 a len cap, bigE dp], boxE b1 #[.slice none 0 0] 26]) rfl ?_
 refine zdn rfl (zbl (z := .agg #[.slice none 0 0]) rfl rfl) ?_
 intro b8
 refine zbh (cs' := #[dv]) (i := 0) (off := 0) (us := [dv]) rfl rfl rfl rfl rfl rfl rfl (zab hdv1 zbc) rfl rfl rfl (ntQ (zag ?_))
 refine zey 3 [2, 0, 1] rfl rfl (by decide) ?_
 refine zfe [curE ghR4 a len cap, bigE dp, boxE b8 #[dv] 26, boxE b1 #[.slice none 0 0] 26] zdb ?_
 refine zey 4 [2, 1, 3, 0] rfl rfl (by decide) ?_
 refine hc_draw3 (l := [bigE dp, boxE b8 #[dv] 26]) rfl 5 [0, 1, 2, 3, 4] (List.take 5 _) (List.drop 5 _) [[], [], [1], [2], [0]] [some 10, some 11, some 12, some 13, none] (fun i_ vs_ v_ p_ => match i_ with | 0 => v_ = .agg #[dv] ∧ p_ = [] | 1 => v_ = .pointer (some ⟨ghR4, 0, none⟩) ∧ p_ = [] | 2 => (∃ pm_, p_ = [pm_] ∧ (fun u_ p_ => (∃ x_ : Int, u_ = .int .i64 x_ ∧ 0 ≤ x_ ∧ x_ < 3) ∧ p_ = curE ghR4 a len cap) v_ pm_) | 3 => v_ = .int .i64 (1 + (intOf_o (List.getD vs_ 0 undef))) ∧ p_ = [] | 4 => p_ = [boxE b1 #[dv] 26] | _ => True) [[], [], [1], [2], [0]] [none, none, some 6, none, some 7] [[curE ghR4 a len cap], [boxE b1 #[.slice none 0 0] 26]] [0, 1, 2, 3, 4] 6 (List.take_append_drop 5 _).symm (by kernel_rfl) (by kernel_rfl) (by kernel_rfl) rfl rfl ?_ ?_
 ·
  refine ⟨?_, ?_, ?_, ?_, ?_, trivial⟩
  ·
   intro vf pf hmu hR
   refine zdw [] [] rfl (zbe (zar [5] rfl) (List.sublist_append_right _ _) ?_)
   exact zbt (zax (cs := [dv]) rfl rfl rfl rfl rfl (zat 1 rfl 0 rfl))
  ·
   intro vf pf hmu hR
   refine zdw [] [] rfl (zbo (zar [4] rfl) ?_)
   exact zbt (zau rfl)
  ·
   intro vf pf hmu hR
   have e1 := hR 1 (by decide)
   refine Or.inl ⟨rfl, ?_⟩
   show RunM _ _ _ (pf 6) (([1] : List Nat).flatMap pf ++ _) (envOf3 _ vf [1] ++ _) _ _
   have hmu0 : pf 6 = [curE ghR4 a len cap] := hmu 0 (show 0 < 2 by omega)
   rw [hmu0]
   exact zda (sk 11 (congrArg some e1.1) (zai _)) (by simp only [e1.2, fS] <;> rfl) (zdp (R := (fun u_ p_ => (∃ x_ : Int, u_ = .int .i64 x_ ∧ 0 ≤ x_ ∧ x_ < 3) ∧ p_ = curE ghR4 a len cap)) rfl rfl (fun L w hX hm => zby ghR4 a len cap z 3 _ _ _ hm hb (by constructor <;> omega)))
  ·
   intro vf pf hmu hR
   have e2 : (∃ pm_, (pf 2) = [pm_] ∧ (fun u_ p_ => (∃ x_ : Int, u_ = .int .i64 x_ ∧ 0 ≤ x_ ∧ x_ < 3) ∧ p_ = curE ghR4 a len cap) (vf 2) pm_) := hR 2 (by decide)
   obtain ⟨p10, pE2, hR11⟩ := e2
   obtain ⟨v9, vE2⟩ : ∃ x, vf 2 = x := ⟨_, rfl⟩
   rw [vE2] at hR11
   obtain ⟨⟨xhR11, rfl, xhR110, xhR111⟩, rfl⟩ := hR11
   refine zdw [2] [2] rfl (zcm (sk 12 (congrArg some vE2) (zai _)) (by simp only [pE2, vE2, fS] <;> rfl) ?_)
   exact zck (zbt (vaQ rfl rfl rfl)) (fun _ _ h => ⟨h.1.trans (by show _ = (.int .i64 (1 + (intOf_o (vf 2))) : Value); first | (rw [vE2]; done) | (rw [vE2]; rfl)), h.2⟩)
  intro vf pf hmu hR
  have e0 := hR 0 (by decide)
  refine Or.inl ⟨rfl, ?_⟩
  show RunM _ _ _ (pf 7) (([0] : List Nat).flatMap pf ++ _) (envOf3 _ vf [0] ++ _) _ _
  have hmu1 : pf 7 = [boxE b1 #[.slice none 0 0] 26] := hmu 1 (show 1 < 2 by omega)
  rw [hmu1]
  exact zda (sk 2 rfl (sk 10 (congrArg some e0.1) (zai _))) (by simp only [e0.2, fS] <;> rfl) (rm_mono (rm_storeBoxN (us := [dv]) (off := 0) 0 rfl rfl rfl rfl rfl rfl (zab hdv1 zbc) rfl rfl) (fun v_ p_ h => by show p_ = [boxE b1 #[dv] 26]; exact h))
 intro vf pf hmu hR
 have e2 : (∃ pm_, (pf 2) = [pm_] ∧ (fun u_ p_ => (∃ x_ : Int, u_ = .int .i64 x_ ∧ 0 ≤ x_ ∧ x_ < 3) ∧ p_ = curE ghR4 a len cap) (vf 2) pm_) := hR 2 (by decide)
 obtain ⟨p10, pE2, hR11⟩ := e2
 obtain ⟨v9, vE2⟩ : ∃ x, vf 2 = x := ⟨_, rfl⟩
 rw [vE2] at hR11
 obtain ⟨⟨xhR11, rfl, xhR110, xhR111⟩, rfl⟩ := hR11
 have e3 : (vf 3) = .int .i64 (1 + (intOf_o (vf 2))) ∧ (pf 3) = [] := hR 3 (by decide)
 rw [vE2] at e3
 have e4 : (pf 4) = [boxE b1 #[dv] 26] := hR 4 (by decide)
 have pE4 := e4
 have q0 := hR 0 (by decide)
 have q1 := hR 1 (by decide)
 have q3 := hR 3 (by decide)
 refine zdf (zci [5, 4, 3, 2, 0] _ (sk 13 (congrArg some e3.1) (zai _)) rfl) (by simp only [pE2, vE2, pE4, q0.2, q1.2, q3.2, fS] <;> rfl) ?_
 simp only [List.drop_succ_cons, List.drop_zero]
 refine zay 1 rfl ?_
 exact zao (zei (rs := [.cell 2 26, .tmp 3]) (vs := [.agg #[dv], .int .i64 (1 + xhR11)]) (post := [bigE dp]) rfl ⟨⟨b1, 0, [dv], rfl, rfl, by kernel_rfl, by kernel_rfl, zat 1 rfl 0 rfl⟩, rfl, trivial⟩ rfl (slQ [2] rfl) ⟨D, dv, 1 + xhR11, dp, rfl, rfl, hdp, hdv1, hdd, hd1, by omega, by omega⟩)
section
variable {P : Program} {N : Nat} {w0 : World} {l l' : List HP} {env env' : List (Nat × Value)} {Q : Post} {o : Oper}
theorem hl_callMF {ops : Array Oper} {rest : List Oper} {d : Nat} {f : FuncId} {x : Operand} {xs : Array Operand} {ats : Array TypeId} {vs cs : List Value} {p : HP} {R : Value → HP → Prop} {ty : TypeId} {pos : String} {af : Array Edge} {gd : Option (Nat × Bool)} (i : Nat) (hN : Nat.blt d N = true) (hw : want ops env gd = some true)
    (hgo : goesB P f = true) (hx : ev env x = some (.func (.func f) #[] cs.toArray)) (hvs : evs env xs.toList = some vs) (hi : l[i]? = some p)
    (hc : ∀ L w, (∀ w, Mem w0 L w → Mem w0 (l.eraseIdx i) w) → Mem w0 (p :: L) w → Calls P f (vs ++ cs).toArray w fun e w' => ∃ v p', e = .returned v ∧ R v p' ∧ Mem w0 (p' :: L) w') (k : ∀ v p', R v p' → HL P N ops w0 (l.set i p') ((d, v) :: env) rest Q) : HL P N ops w0 l env ({ dst := some d, op := .call { callee := .value x, args := xs, argTypes := ats }, type := ty, pos := pos, after := af, guard := gd } :: rest) Q := fun a w st => wpList_step fun K hK => by
  have h1 := zff l i p hi
  have hil : i < l.length := (List.getElem?_eq_some_iff.1 hi).1
  rw [if_pos (st.wanted hw)]
  unfold Oper.wp
  have h3 := evs_map st _ _ hvs
  have e1 : xs.map a.eval = vs.toArray := by apply Array.toList_inj.1; simpa using h3
  have h2 : (execOp a.eval { dst := some d, op := .call { callee := .value x, args := xs, argTypes := ats }, type := ty, pos := pos, after := af, guard := gd }).run P w = (callFunc f (vs ++ cs).toArray).run P w := by
    simp [execOp, resolve, Deferred.ofValue, invoke, st.eval hx, e1]
  rw [h2, run_go hgo, Oper.upon_enter]
  refine (hc (l.eraseIdx i) w (fun w h => h) (st.mem.perm h1)).mono fun e w' h => ?_
  obtain ⟨v, p', rfl, hR, hm'⟩ := h
  have h4 := zff (l.set i p') i p' (List.getElem?_set_self hil)
  rw [List.eraseIdx_set_eq] at h4
  exact hK _ _ (k v p' hR _ _ (st.put hN (hm'.perm h4.symm)))
end
theorem implArity_ans (k : Int) (w : World)  :
   Calls Try.prog 112 #[.int .i64 k] w (Ans w (.int .i64 (arI k))) := by
 refine zca (N := 15) (args := [.int .i64 k]) Try.func112 rfl rfl (zbg 1 rfl (sbQ (zag (reQ 1 rfl ?_))))
 refine zem rfl (zaw rfl rfl (fun w hm => zbf (zek (zce _ _ _ w)))) (zbm (fun h1 => ?_) (fun h1 => ?_))
 ·
  obtain ⟨h1a, h1b⟩ := (zdc _ _ _).1 h1
  refine zay 1 rfl (zah rfl (zbg 1 rfl ?_))
  refine zao (zad ?_)
  exact zae (zav rfl rfl (congrArg (Value.int .i64) (by unfold arI; (repeat' split) <;> first | rfl | (exfalso; omega))))
 have h1a := zcy h1
 refine zay 1 rfl (zap rfl (zag (reQ 1 rfl ?_)))
 refine zbu rfl rfl rfl rfl rfl rfl (fun h2 => ?_) (fun h2 => ?_)
 ·
  refine zay 1 rfl (zah rfl (zbg 1 rfl ?_))
  refine zao (zad ?_)
  exact zae (zav rfl rfl (congrArg (Value.int .i64) (by unfold arI; (repeat' split) <;> first | rfl | (exfalso; omega))))
 refine zay 1 rfl (zap rfl (zag (reQ 1 rfl ?_)))
 refine zem rfl (zaw rfl rfl (fun w hm => zbf (zek (zce _ _ _ w)))) (zbm (fun h3 => ?_) (fun h3 => ?_))
 ·
  obtain ⟨h3a, h3b⟩ := (zdc _ _ _).1 h3
  refine zay 1 rfl (zah rfl (zbg 1 rfl ?_))
  refine zao (zad ?_)
  exact zae (zav rfl rfl (congrArg (Value.int .i64) (by unfold arI; (repeat' split) <;> first | rfl | (exfalso; omega))))
 have h3a := zcy h3
 refine zay 1 rfl (zap rfl (zag (reQ 1 rfl ?_)))
 refine zbu rfl rfl rfl rfl rfl rfl (fun h4 => ?_) (fun h4 => ?_)
 ·
  refine zay 1 rfl (zah rfl (zbg 1 rfl ?_))
  refine zao (zad ?_)
  exact zae (zav rfl rfl (congrArg (Value.int .i64) (by unfold arI; (repeat' split) <;> first | rfl | (exfalso; omega))))
 refine zay 1 rfl (fsQ rfl (zdh (zbg 1 rfl ?_)))
 exact zao (zav rfl rfl (congrArg (Value.int .i64) (by unfold arI; (repeat' split) <;> first | rfl | (exfalso; omega))))
theorem opOk_ans (o : Oq) (n : Int) (w : World)  :
   Calls Try.prog 111 #[.agg #[.int .i64 o.k, .int .i64 o.a, .int .i64 o.b], .int .i64 n] w (Ans w (.bool (pB (OqP n o)))) := by
 refine zca (N := 67) (args := [.agg #[.int .i64 o.k, .int .i64 o.a, .int .i64 o.b], .int .i64 n]) Try.func111 rfl rfl (srQ ?_)
 refine zdn rfl (zdm rfl rfl) ?_
 intro b1
 refine zay 1 rfl (sbQ (srQ (hvQ rfl (fdQ 0 rfl rfl rfl) (hvQ rfl (zac rfl rfl rfl (zaa 0 rfl rfl)) ?_))))
 refine zbu rfl rfl rfl rfl rfl rfl (fun h2 => ?_) (fun h2 => ?_)
 ·
  refine zay 1 rfl (zah rfl (srQ (hvQ rfl (fdQ 1 rfl rfl rfl) (hvQ rfl (zac rfl rfl rfl (zaa 0 rfl rfl)) ?_))))
  refine zem rfl (zaw rfl rfl (fun w hm => zbf (zek (zce _ _ _ w)))) (zbm (fun h3 => ?_) (fun h3 => ?_))
  ·
   obtain ⟨h3a, h3b⟩ := (zdc _ _ _).1 h3
   refine zam 1 rfl (hvQ rfl (fdQ 2 rfl rfl rfl) (hvQ rfl (zac rfl rfl rfl (zaa 0 rfl rfl)) ?_))
   refine zbu rfl rfl rfl rfl rfl rfl (fun h4 => ?_) (fun h4 => ?_)
   ·
    refine zay 2 rfl ?_
    refine zao (zad ?_)
    exact zae (zav rfl rfl (congrArg _ (zdi (by first | exact .inl ⟨by omega, ⟨by omega, by omega⟩, by omega⟩ | exact .inr (.inl ⟨by omega, ⟨by omega, by omega⟩, by omega⟩) | exact .inr (.inr (.inl ⟨by omega, ⟨by omega, by omega⟩, by omega, by omega⟩)) | exact .inr (.inr (.inr ⟨by omega, by omega, by omega, by omega, by omega, by omega⟩)))).symm))
   refine zay 2 rfl ?_
   refine zao (zad ?_)
   exact zae (zav rfl rfl (congrArg _ (zbv (fun hp => by first | (rcases hp with ⟨p1, p2, p3⟩ | ⟨p1, p2, p3⟩ | ⟨p1, p2, p3⟩ | ⟨p1, p2, p3, p4, p5, p6⟩ <;> omega))).symm))
  have h3a := zcy h3
  refine zay 6 rfl ?_
  refine zao (zad ?_)
  exact zae (zav rfl rfl (congrArg _ (zbv (fun hp => by first | (rcases hp with ⟨p1, p2, p3⟩ | ⟨p1, p2, p3⟩ | ⟨p1, p2, p3⟩ | ⟨p1, p2, p3, p4, p5, p6⟩ <;> omega))).symm))
 refine zay 1 rfl (zap rfl (srQ (hvQ rfl (fdQ 0 rfl rfl rfl) (hvQ rfl (zac rfl rfl rfl (zaa 0 rfl rfl)) ?_))))
 refine zbu rfl rfl rfl rfl rfl rfl (fun h5 => ?_) (fun h5 => ?_)
 ·
  refine zay 1 rfl (zah rfl (srQ (hvQ rfl (fdQ 1 rfl rfl rfl) (hvQ rfl (zac rfl rfl rfl (zaa 0 rfl rfl)) ?_))))
  refine hl_geq rfl rfl rfl rfl rfl rfl (fun h6 => ?_) (fun h6 => ?_)
  ·
   refine zam 1 rfl (hvQ rfl (fdQ 1 rfl rfl rfl) (hvQ rfl (zac rfl rfl rfl (zaa 0 rfl rfl)) (zam 1 rfl ?_)))
   refine zbq rfl rfl rfl rfl rfl rfl (fun h7 => ?_) (fun h7 => ?_)
   ·
    refine zam 2 rfl (hvQ rfl (fdQ 2 rfl rfl rfl) (hvQ rfl (zac rfl rfl rfl (zaa 0 rfl rfl)) ?_))
    refine zbu rfl rfl rfl rfl rfl rfl (fun h8 => ?_) (fun h8 => ?_)
    ·
     refine zay 2 rfl ?_
     refine zao (zad ?_)
     exact zae (zav rfl rfl (congrArg _ (zdi (by first | exact .inl ⟨by omega, ⟨by omega, by omega⟩, by omega⟩ | exact .inr (.inl ⟨by omega, ⟨by omega, by omega⟩, by omega⟩) | exact .inr (.inr (.inl ⟨by omega, ⟨by omega, by omega⟩, by omega, by omega⟩)) | exact .inr (.inr (.inr ⟨by omega, by omega, by omega, by omega, by omega, by omega⟩)))).symm))
    refine zay 2 rfl ?_
    refine zao (zad ?_)
    exact zae (zav rfl rfl (congrArg _ (zbv (fun hp => by first | (rcases hp with ⟨p1, p2, p3⟩ | ⟨p1, p2, p3⟩ | ⟨p1, p2, p3⟩ | ⟨p1, p2, p3, p4, p5, p6⟩ <;> omega))).symm))
   refine zay 7 rfl ?_
   refine zao (zad ?_)
   exact zae (zav rfl rfl (congrArg _ (zbv (fun hp => by first | (rcases hp with ⟨p1, p2, p3⟩ | ⟨p1, p2, p3⟩ | ⟨p1, p2, p3⟩ | ⟨p1, p2, p3, p4, p5, p6⟩ <;> omega))).symm))
  refine zay 12 rfl ?_
  refine zao (zad ?_)
  exact zae (zav rfl rfl (congrArg _ (zbv (fun hp => by first | (rcases hp with ⟨p1, p2, p3⟩ | ⟨p1, p2, p3⟩ | ⟨p1, p2, p3⟩ | ⟨p1, p2, p3, p4, p5, p6⟩ <;> omega))).symm))
 refine zay 1 rfl (zap rfl (srQ (hvQ rfl (fdQ 0 rfl rfl rfl) (hvQ rfl (zac rfl rfl rfl (zaa 0 rfl rfl)) ?_))))
 refine zbu rfl rfl rfl rfl rfl rfl (fun h9 => ?_) (fun h9 => ?_)
 ·
  refine zay 1 rfl (zah rfl (srQ (hvQ rfl (fdQ 1 rfl rfl rfl) (hvQ rfl (zac rfl rfl rfl (zaa 0 rfl rfl)) ?_))))
  refine hl_geq rfl rfl rfl rfl rfl rfl (fun h10 => ?_) (fun h10 => ?_)
  ·
   refine zam 1 rfl (hvQ rfl (fdQ 1 rfl rfl rfl) (hvQ rfl (zac rfl rfl rfl (zaa 0 rfl rfl)) (zam 1 rfl ?_)))
   refine zbq rfl rfl rfl rfl rfl rfl (fun h11 => ?_) (fun h11 => ?_)
   ·
    refine zam 2 rfl (hvQ rfl (fdQ 2 rfl rfl rfl) (hvQ rfl (zac rfl rfl rfl (zaa 0 rfl rfl)) ?_))
    refine zem rfl (zaw rfl rfl (fun w hm => zbf (zek (zce _ _ _ w)))) (zbm (fun h12 => ?_) (fun h12 => ?_))
    ·
     obtain ⟨h12a, h12b⟩ := (zdc _ _ _).1 h12
     refine zay 2 rfl ?_
     refine zao (zad ?_)
     exact zae (zav rfl rfl (congrArg _ (zdi (by first | exact .inl ⟨by omega, ⟨by omega, by omega⟩, by omega⟩ | exact .inr (.inl ⟨by omega, ⟨by omega, by omega⟩, by omega⟩) | exact .inr (.inr (.inl ⟨by omega, ⟨by omega, by omega⟩, by omega, by omega⟩)) | exact .inr (.inr (.inr ⟨by omega, by omega, by omega, by omega, by omega, by omega⟩)))).symm))
    have h12a := zcy h12
    refine zay 2 rfl ?_
    refine zao (zad ?_)
    exact zae (zav rfl rfl (congrArg _ (zbv (fun hp => by first | (rcases hp with ⟨p1, p2, p3⟩ | ⟨p1, p2, p3⟩ | ⟨p1, p2, p3⟩ | ⟨p1, p2, p3, p4, p5, p6⟩ <;> omega))).symm))
   refine zay 7 rfl ?_
   refine zao (zad ?_)
   exact zae (zav rfl rfl (congrArg _ (zbv (fun hp => by first | (rcases hp with ⟨p1, p2, p3⟩ | ⟨p1, p2, p3⟩ | ⟨p1, p2, p3⟩ | ⟨p1, p2, p3, p4, p5, p6⟩ <;> omega))).symm))
  refine zay 12 rfl ?_
  refine zao (zad ?_)
  exact zae (zav rfl rfl (congrArg _ (zbv (fun hp => by first | (rcases hp with ⟨p1, p2, p3⟩ | ⟨p1, p2, p3⟩ | ⟨p1, p2, p3⟩ | ⟨p1, p2, p3, p4, p5, p6⟩ <;> omega))).symm))
 refine zay 1 rfl (fsQ rfl (zdh (srQ (hvQ rfl (fdQ 0 rfl rfl rfl) (hvQ rfl (zac rfl rfl rfl (zaa 0 rfl rfl)) ?_)))))
 refine zem rfl (zaw rfl rfl (fun w hm => zbf (implArity_ans o.k w))) (hl_geq rfl rfl rfl rfl rfl rfl (fun h13 => ?_) (fun h13 => ?_))
 ·
  refine zam 1 rfl (hvQ rfl (fdQ 1 rfl rfl rfl) (hvQ rfl (zac rfl rfl rfl (zaa 0 rfl rfl)) ?_))
  refine zbu rfl rfl rfl rfl rfl rfl (fun h14 => ?_) (fun h14 => ?_)
  ·
   refine zam 2 rfl (hvQ rfl (fdQ 2 rfl rfl rfl) (hvQ rfl (zac rfl rfl rfl (zaa 0 rfl rfl)) ?_))
   refine zbu rfl rfl rfl rfl rfl rfl (fun h15 => ?_) (fun h15 => ?_)
   ·
    refine zay 2 rfl ?_
    exact zao (zav rfl rfl (congrArg _ (zdi (by first | exact .inl ⟨by omega, ⟨by omega, by omega⟩, by omega⟩ | exact .inr (.inl ⟨by omega, ⟨by omega, by omega⟩, by omega⟩) | exact .inr (.inr (.inl ⟨by omega, ⟨by omega, by omega⟩, by omega, by omega⟩)) | exact .inr (.inr (.inr ⟨by omega, by omega, by omega, by omega, by omega, by omega⟩)))).symm))
   refine zay 2 rfl ?_
   exact zao (zav rfl rfl (congrArg _ (zbv (fun hp => by first | (rcases hp with ⟨p1, p2, p3⟩ | ⟨p1, p2, p3⟩ | ⟨p1, p2, p3⟩ | ⟨p1, p2, p3, p4, p5, p6⟩ <;> omega))).symm))
  refine zay 7 rfl ?_
  exact zao (zav rfl rfl (congrArg _ (zbv (fun hp => by first | (rcases hp with ⟨p1, p2, p3⟩ | ⟨p1, p2, p3⟩ | ⟨p1, p2, p3⟩ | ⟨p1, p2, p3, p4, p5, p6⟩ <;> omega))).symm))
 refine zay 11 rfl ?_
 exact zao (zav rfl rfl (congrArg _ (zbv (fun hp => by first | (rcases hp with ⟨p1, p2, p3⟩ | ⟨p1, p2, p3⟩ | ⟨p1, p2, p3⟩ | ⟨p1, p2, p3, p4, p5, p6⟩ <;> omega))).symm))
theorem implOpsOk_ans (os : List Oq) (n : Int) (v : Value) (w : World) (hv : RdsW w v 3 os.length (os.flatMap oqC)) :
   Calls Try.prog 55 #[v, .int .i64 n] w (Ans w (.bool (pB (OpsP n os)))) := by
 have hv9 := sml hv
 refine zca (N := 39) (args := [v, .int .i64 n]) Try.func55 rfl rfl (zbg 1 rfl (zag (zag (reQ 1 rfl (hvQ rfl (lnQ rfl rfl rfl (zaf hv)) ?_)))))
 refine zbu rfl rfl rfl rfl rfl rfl (fun h1 => ?_) (fun h1 => ?_)
 ·
  refine zay 5 rfl (zah rfl (zbg 1 rfl ?_))
  refine zao (zae ?_)
  exact zav rfl rfl (congrArg _ (zbv (fun hp => by first | (have := hp.len; omega) | (have := hp.pos; omega) | (have := (hp.op i (by omega)).1; omega) | (exact absurd (hp.op i (by omega)).2 (by assumption)) | (have := hp.fin; rw [show os.length = i by omega] at this; omega))).symm)
 refine zam 2 rfl (hvQ rfl (lnQ rfl rfl rfl (zaf hv)) ?_)
 refine zdr rfl rfl rfl rfl rfl rfl (fun h2 => ?_) (fun h2 => ?_)
 ·
  refine zay 1 rfl (zah rfl (zbg 1 rfl ?_))
  refine zao (zae ?_)
  exact zav rfl rfl (congrArg _ (zbv (fun hp => by first | (have := hp.len; omega) | (have := hp.pos; omega) | (have := (hp.op i (by omega)).1; omega) | (exact absurd (hp.op i (by omega)).2 (by assumption)) | (have := hp.fin; rw [show os.length = i by omega] at this; omega))).symm)
 refine zay 1 rfl (zap rfl (zcv (zbg 1 rfl (zag ?_))))
 refine zag (reQ 1 rfl (hvQ rfl (lnQ rfl rfl rfl (zaf hv)) (zay 1 rfl (zaz ?_))))
 refine lkQ2 (α := Nat) (β := Int) [0, 1, 4, 15, 16, 17] rfl (fun i c => []) (fun i c => [(5, .int .i64 c), (18, .int .i64 (i : Int))]) (fun i c => i ≤ os.length ∧ c = needK os i ∧ ∀ q, q < i → needK os q ≠ 0 ∧ OqP n (os.getD q oq0)) (fun i c => os.length - i) 0 1 ⟨Nat.zero_le _, rfl, fun q hq => absurd hq (by omega)⟩ (saQ rfl) (.slnil) ?_
 intro i c hi3
 obtain ⟨hi, hc, hall⟩ := hi3
 have hnr := needK_rng os i
 have har := arI_rng (os.getD i oq0).k
 refine srQ ?_
 refine zbq rfl rfl rfl rfl rfl rfl (fun h4 => ?_) (fun h4 => ?_)
 ·
  refine ntQ (tcQ rfl (zcv (sbQ (srQ (hvQ rfl (riQ 3 rfl rfl rfl rfl (zaf hv)) ?_)))))
  refine hvQ rfl (zbb (us := [.int .i64 ((os.getD i oq0).k), .int .i64 ((os.getD i oq0).a), .int .i64 ((os.getD i oq0).b)]) rfl rfl rfl rfl (zaf hv) (by omega) rfl (zbr oqC 3 (fun _ => rfl) os oq0 (show i < _ by omega) rfl)) (zdn rfl (zbl (z := .agg #[.int .i64 0, .int .i64 0, .int .i64 0]) rfl rfl) ?_)
  intro b5
  refine zbh (cs' := #[.int .i64 ((os.getD i oq0).k), .int .i64 ((os.getD i oq0).a), .int .i64 ((os.getD i oq0).b)]) (i := 0) (off := 0) (us := [.int .i64 ((os.getD i oq0).k), .int .i64 ((os.getD i oq0).a), .int .i64 ((os.getD i oq0).b)]) rfl rfl rfl rfl rfl rfl rfl (zab rfl (zab rfl (zab rfl zbc))) rfl rfl rfl (ntQ (zag (zag (reQ 1 rfl ?_))))
  refine zbu rfl rfl rfl rfl rfl rfl (fun h6 => ?_) (fun h6 => ?_)
  ·
   refine zay 6 rfl (zah rfl (srQ (enQ 1 rfl ?_)))
   refine zba (zao ?_)
   refine zae (zad ?_)
   refine zdv ?_
   refine zad (zae ?_)
   exact zav rfl rfl (congrArg _ (zbv (fun hp => by first | (have := hp.len; omega) | (have := hp.pos; omega) | (have := (hp.op i (by omega)).1; omega) | (exact absurd (hp.op i (by omega)).2 (by assumption)) | (have := hp.fin; rw [show os.length = i by omega] at this; omega))).symm)
  refine zam 1 rfl (hvQ rfl (zax (cs := [.int .i64 ((os.getD i oq0).k), .int .i64 ((os.getD i oq0).a), .int .i64 ((os.getD i oq0).b)]) rfl rfl rfl rfl rfl (zat 0 rfl 0 rfl)) (zam 1 rfl ?_))
  refine zem rfl (zaw rfl rfl (fun w hm => zbf (opOk_ans (os.getD i oq0) n w))) (zbm (fun h7 => ?_) (fun h7 => ?_))
  ·
   have h7p := zes h7
   refine zay 2 rfl (zap rfl (zcv (reQ 1 rfl (hvQ rfl (fdQ 0 rfl rfl rfl) (hvQ rfl (zac rfl rfl rfl (zaa 0 rfl rfl)) ?_)))))
   refine zem rfl (zaw rfl rfl (fun w hm => zbf (implArity_ans ((os.getD i oq0).k) w))) (hvQ rfl (vsQ rfl rfl rfl) (hvQ rfl (vaQ rfl rfl rfl) (enQ 1 rfl (zdh (zas (hvQ rfl (vaQ rfl rfl rfl) (enQ 1 rfl ?_)))))))
   exact zdd (i + 1) (c + ((arI ((os.getD i oq0).k)) - 1)) ⟨by omega, by show _ = needK os i + (arI (os.getD i oq0).k - 1); omega, fun q hq => by by_cases e : q = i; (subst e; exact ⟨by omega, by assumption⟩); exact hall q (by omega)⟩ (by omega) (saQ rfl) (slQ [] rfl)
  have h7p := zdt h7
  refine zay 2 rfl (zah rfl (zbg 1 rfl ?_))
  refine zao (zae ?_)
  refine zad (zdv ?_)
  refine zad (zae ?_)
  exact zav rfl rfl (congrArg _ (zbv (fun hp => by first | (have := hp.len; omega) | (have := hp.pos; omega) | (have := (hp.op i (by omega)).1; omega) | (exact absurd (hp.op i (by omega)).2 (by assumption)) | (have := hp.fin; rw [show os.length = i by omega] at this; omega))).symm)
 refine ntQ (fcQ rfl ?_)
 refine zbj (zeb ?_)
 refine zal (zba (zag (reQ 1 rfl ?_)))
 refine zbu rfl rfl rfl rfl rfl rfl (fun h8 => ?_) (fun h8 => ?_)
 ·
  refine zay 1 rfl ?_
  exact zao (zav rfl rfl (congrArg _ (zdi ⟨by omega, fun q hq => hall q (by omega), by rw [show os.length = i by omega]; omega⟩).symm))
 refine zay 1 rfl ?_
 exact zao (zav rfl rfl (congrArg _ (zbv (fun hp => by first | (have := hp.len; omega) | (have := hp.pos; omega) | (have := (hp.op i (by omega)).1; omega) | (exact absurd (hp.op i (by omega)).2 (by assumption)) | (have := hp.fin; rw [show os.length = i by omega] at this; omega))).symm))
theorem zeq (m : Md) (w : World) (hr : RdsMd w m) :
   Calls Try.prog 107 #[.agg #[m.sv, m.av, m.iv, m.mv]] w (Ret w (fun v' post => post = [rowE 3 1 v' ((ptsK m)).length (((ptsK m)).map (Value.int .i64))])) := by
 have hs9 := sml hr.s
 refine zca (N := 32) (args := [.agg #[m.sv, m.av, m.iv, m.mv]]) Try.func107 rfl rfl (srQ ?_)
 refine zdn rfl (zdm rfl rfl) ?_
 intro b1
 refine zej 3 1 (zay 1 rfl (zfi (hvQ rfl (fdQ 0 rfl rfl rfl) (hvQ rfl (zac rfl rfl rfl (zaa 1 rfl rfl)) (hvQ rfl (lnQ rfl rfl rfl (zaf ((hr).s))) ?_)))))
 refine zdr rfl rfl rfl rfl rfl rfl (fun h3 => ?_) (fun h3 => ?_)
 ·
  refine ntQ (zah rfl (srQ ?_))
  refine zej 3 1 (zay 1 rfl ?_)
  refine zao (zae ?_)
  exact zga (post := [rowE 3 1 (.slice none 0 0) 0 ([])]) rfl rfl (slQ [0] rfl) (by unfold ptsK; rw [if_neg (by omega)] <;> rfl)
 refine ntQ (zap rfl (zcv (srQ ?_)))
 refine zej 3 1 (zay 1 rfl (zfi (hvQ rfl (fdQ 0 rfl rfl rfl) (hvQ rfl (zac rfl rfl rfl (zaa 2 rfl rfl)) (hvQ rfl (lnQ rfl rfl rfl (zaf ((hr).s))) (zay 1 rfl ?_))))))
 refine zaz ?_
 refine lkQ3 (α := Nat) (β := Value) (γ := List Int) [0, 1, 2, 9, 11, 12] rfl (fun i gu zs => [rowE 3 1 gu zs.length (zs.map (Value.int .i64)), rowE 3 1 (.slice none 0 0) 0 ([]), boxE b1 #[m.sv, m.av, m.iv, m.mv] 35]) (fun i gu zs => [(3, gu), (13, .int .i64 (i : Int))]) (fun i gu zs => i ≤ m.ss.length ∧ zs = ptsA m.ss i) (fun i gu zs => m.ss.length - i) 0 _ [] ⟨Nat.zero_le _, rfl⟩ (saQ rfl) (pfQ rfl) ?_
 intro i gu zs hi6
 obtain ⟨hi, hz⟩ := hi6
 have hzl : zs.length ≤ i := by rw [hz]; exact ptsA_le _ _
 refine srQ ?_
 refine zbq rfl rfl rfl rfl rfl rfl (fun h7 => ?_) (fun h7 => ?_)
 ·
  refine ntQ (tcQ rfl (zcv (sbQ (zag (reQ 1 rfl (hvQ rfl (riQ 3 rfl rfl rfl rfl (zaf ((hr).s))) ?_))))))
  refine hvQ rfl (zbb (us := [.int .i64 ((m.ss.getD i sg0).k), .int .i64 ((m.ss.getD i sg0).w), .int .i64 ((m.ss.getD i sg0).i)]) rfl rfl rfl rfl (zaf ((hr).s)) (by omega) rfl (zbr sgC 3 (fun _ => rfl) m.ss sg0 (show i < _ by omega) rfl)) (zdn rfl (zbl (z := .agg #[.int .i64 0, .int .i64 0, .int .i64 0]) rfl rfl) ?_)
  intro b8
  refine zam 1 rfl (zbh (cs' := #[.int .i64 ((m.ss.getD i sg0).k), .int .i64 ((m.ss.getD i sg0).w), .int .i64 ((m.ss.getD i sg0).i)]) (i := 0) (off := 0) (us := [.int .i64 ((m.ss.getD i sg0).k), .int .i64 ((m.ss.getD i sg0).w), .int .i64 ((m.ss.getD i sg0).i)]) rfl rfl rfl rfl rfl rfl rfl (zab rfl (zab rfl (zab rfl zbc))) rfl rfl rfl ?_)
  refine ntQ (srQ (hvQ rfl (fdQ 0 rfl rfl rfl) (hvQ rfl (zac rfl rfl rfl (zaa 0 rfl rfl)) ?_)))
  refine zbu rfl rfl rfl rfl rfl rfl (fun h9 => ?_) (fun h9 => ?_)
  ·
   refine zay 5 rfl (zah rfl (reQ 2 rfl ?_))
   refine zea rfl (zak (z := .int .i64 0) (s := 1) (cs := ([(i : Int)].map (Value.int .i64))) rfl Try.underlying48 rfl (by decide) rfl (by kernel_rfl) rfl) ?_
   intro g10
   refine zcs (i := 2) (z := .int .i64 0) (bytes := 8) rfl rfl rfl rfl Try.underlying48 (by kernel_rfl) rfl rfl rfl rfl (zaj 0 rfl) (zbx _) (by first | omega | (simp; done) | (simp; omega)) (zcc zs ([(i : Int)])) (zcw zs ([(i : Int)])) (fun _ => rfl) ?_
   intro v11
   refine enQ 1 rfl (zdh (zas (hvQ rfl (vaQ rfl rfl rfl) (enQ 1 rfl ?_))))
   exact zcq (i + 1) v11 (zs ++ ([(i : Int)])) ⟨by omega, by rw [hz]; exact zfy (by omega)⟩ (by omega) (saQ rfl) (slQ [2, 0, 0] rfl)
  refine zam 1 rfl (hvQ rfl (fdQ 0 rfl rfl rfl) (hvQ rfl (zac rfl rfl rfl (zaa 0 rfl rfl)) ?_))
  refine zbu rfl rfl rfl rfl rfl rfl (fun h12 => ?_) (fun h12 => ?_)
  ·
   refine zay 1 rfl (zah rfl (reQ 2 rfl ?_))
   refine zea rfl (zak (z := .int .i64 0) (s := 1) (cs := ([(i : Int)].map (Value.int .i64))) rfl Try.underlying48 rfl (by decide) rfl (by kernel_rfl) rfl) ?_
   intro g13
   refine zcs (i := 2) (z := .int .i64 0) (bytes := 8) rfl rfl rfl rfl Try.underlying48 (by kernel_rfl) rfl rfl rfl rfl (zaj 0 rfl) (zbx _) (by first | omega | (simp; done) | (simp; omega)) (zcc zs ([(i : Int)])) (zcw zs ([(i : Int)])) (fun _ => rfl) ?_
   intro v14
   refine enQ 1 rfl (zdh (zas (hvQ rfl (vaQ rfl rfl rfl) (enQ 1 rfl ?_))))
   exact zcq (i + 1) v14 (zs ++ ([(i : Int)])) ⟨by omega, by rw [hz]; exact zfy (by omega)⟩ (by omega) (saQ rfl) (slQ [2, 0, 0] rfl)
  refine zay 1 rfl (fsQ rfl (zdh (zas (hvQ rfl (vaQ rfl rfl rfl) (enQ 1 rfl ?_)))))
  exact zcq (i + 1) gu zs ⟨by omega, hz.trans (ptsA_no (by omega))⟩ (by omega) (saQ rfl) (slQ [1, 0, 0] rfl)
 refine ntQ (fcQ rfl ?_)
 refine zbj (zeb ?_)
 refine zal (zba (zbg 2 rfl ?_))
 exact zao (zga (post := [rowE 3 1 gu zs.length (zs.map (Value.int .i64))]) rfl rfl (slQ [0] rfl) (by rw [hz, show i = m.ss.length by omega]; unfold ptsK; rw [if_pos (by omega)]))
theorem countsOk_ans (D : List Md) (v : Value) (w : World) (hd : RdsDs w v D) :
   Calls Try.prog 48 #[.agg #[v]] w (Ans w (.bool (pB (CntP D)))) := by
 have hd9 := sml hd.row
 have hm9 : ∀ q, q < D.length → (D.getD q md0).ss.length ≤ 9223372036854775807 := fun q hq => by have := sml (hd.at hq).s; omega
 refine zca (N := 39) (args := [.agg #[v]]) Try.func48 rfl rfl (srQ ?_)
 refine zdn rfl (zdm rfl rfl) ?_
 intro b1
 refine zay 1 rfl (zfi (hvQ rfl (fdQ 0 rfl rfl rfl) (hvQ rfl (zac rfl rfl rfl (zaa 0 rfl rfl)) (hvQ rfl (lnQ rfl rfl rfl (zaf hd.row)) ?_))))
 refine zdr rfl rfl rfl rfl rfl rfl (fun h2 => ?_) (fun h2 => ?_)
 ·
  refine ntQ (zah rfl (zbg 1 rfl ?_))
  refine zao (zae ?_)
  exact zav rfl rfl (congrArg _ (zbv (fun hp => by first | (have := hp.len; omega) | (obtain ⟨h1, h2, h3, h4⟩ := hp.md i (by omega); omega))).symm)
 refine ntQ (zap rfl (zcv (zfi (hvQ rfl (fdQ 0 rfl rfl rfl) (hvQ rfl (zac rfl rfl rfl (zaa 0 rfl rfl)) (hvQ rfl (lnQ rfl rfl rfl (zaf hd.row)) (zam 1 rfl (?_))))))))
 refine ntQ (zaz ?_)
 refine lkQ1 (α := Nat) [0, 1, 2, 8, 10, 11] rfl (fun i => [boxE b1 #[v] 26]) (fun i => [(12, .int .i64 (i : Int))]) (fun i => i ≤ D.length ∧ ∀ q, q < i → LenP (D.getD q md0)) (fun i => D.length - i) 0 ⟨Nat.zero_le _, fun q hq => absurd hq (by omega)⟩ (saQ rfl) (pfQ rfl) ?_
 intro i hi3
 obtain ⟨hi, hall⟩ := hi3
 refine srQ ?_
 refine zbq rfl rfl rfl rfl rfl rfl (fun h4 => ?_) (fun h4 => ?_)
 ·
  refine ntQ (tcQ rfl (zcv (sbQ (srQ (hvQ rfl (riQ 4 rfl rfl rfl rfl (zaf hd.row)) ?_)))))
  refine hvQ rfl (zbb (us := [(D.getD i md0).sv, (D.getD i md0).av, (D.getD i md0).iv, (D.getD i md0).mv]) rfl rfl rfl rfl (zaf hd.row) (by omega) rfl (zbr mdC 4 (fun _ => rfl) D md0 (show i < _ by omega) rfl)) (zdn rfl (zbl (z := .agg #[.slice none 0 0, .slice none 0 0, .slice none 0 0, .slice none 0 0]) rfl rfl) ?_)
  intro b5
  refine zbh (cs' := #[(D.getD i md0).sv, (D.getD i md0).av, (D.getD i md0).iv, (D.getD i md0).mv]) (i := 0) (off := 0) (us := [(D.getD i md0).sv, (D.getD i md0).av, (D.getD i md0).iv, (D.getD i md0).mv]) rfl rfl rfl rfl rfl rfl rfl (zab (hd.at (k := i) (by omega)).s.one (zab (hd.at (k := i) (by omega)).g.one (zab (hd.at (k := i) (by omega)).x.one (zab (hd.at (k := i) (by omega)).m.one zbc)))) rfl rfl rfl (ntQ (srQ (hvQ rfl (fdQ 0 rfl rfl rfl) (hvQ rfl (zac rfl rfl rfl (zaa 0 rfl rfl)) (hvQ rfl (lnQ rfl rfl rfl (zaf ((hd.at (k := i) (by omega)).s))) ?_)))))
  refine zdr rfl rfl rfl rfl rfl rfl (fun h6 => ?_) (fun h6 => ?_)
  ·
   refine zay 18 rfl (zah rfl (zbg 1 rfl ?_))
   refine zao (zad ?_)
   refine zdv ?_
   refine zad (zae ?_)
   exact zav rfl rfl (congrArg _ (zbv (fun hp => by first | (have := hp.len; omega) | (obtain ⟨h1, h2, h3, h4⟩ := hp.md i (by omega); omega))).symm)
  refine zam 1 rfl (hvQ rfl (fdQ 1 rfl rfl rfl) (hvQ rfl (zac rfl rfl rfl (zaa 0 rfl rfl)) (hvQ rfl (lnQ rfl rfl rfl (zaf ((hd.at (k := i) (by omega)).g))) ?_)))
  refine zdr rfl rfl rfl rfl rfl rfl (fun h7 => ?_) (fun h7 => ?_)
  ·
   refine zay 13 rfl ?_
   refine zah rfl (zbg 1 rfl ?_)
   refine zao (zad ?_)
   refine zdv ?_
   refine zad (zae ?_)
   exact zav rfl rfl (congrArg _ (zbv (fun hp => by first | (have := hp.len; omega) | (obtain ⟨h1, h2, h3, h4⟩ := hp.md i (by omega); omega))).symm)
  refine zam 2 rfl (hvQ rfl (fdQ 2 rfl rfl rfl) (hvQ rfl (zac rfl rfl rfl (zaa 0 rfl rfl)) (hvQ rfl (lnQ rfl rfl rfl (zaf ((hd.at (k := i) (by omega)).x))) ?_)))
  refine zdr rfl rfl rfl rfl rfl rfl (fun h8 => ?_) (fun h8 => ?_)
  ·
   refine zay 7 rfl (zah rfl (zag (reQ 1 rfl (?_))))
   refine ntQ ?_
   refine zao (zad ?_)
   refine zdv ?_
   refine zad (zae ?_)
   exact zav rfl rfl (congrArg _ (zbv (fun hp => by first | (have := hp.len; omega) | (obtain ⟨h1, h2, h3, h4⟩ := hp.md i (by omega); omega))).symm)
  refine zam 2 rfl (hvQ rfl (fdQ 3 rfl rfl rfl) (hvQ rfl (zac rfl rfl rfl (zaa 0 rfl rfl)) (hvQ rfl (lnQ rfl rfl rfl (zaf ((hd.at (k := i) (by omega)).m))) ?_)))
  refine zdr rfl rfl rfl rfl rfl rfl (fun h9 => ?_) (fun h9 => ?_)
  ·
   refine zay 1 rfl (zah rfl (zbg 1 rfl ?_))
   refine zao (zad ?_)
   refine zdv ?_
   refine zad (zae ?_)
   exact zav rfl rfl (congrArg _ (zbv (fun hp => by first | (have := hp.len; omega) | (obtain ⟨h1, h2, h3, h4⟩ := hp.md i (by omega); omega))).symm)
  refine zay 1 rfl (fsQ rfl (zdh (zas (hvQ rfl (vaQ rfl rfl rfl) (enQ 1 rfl ?_)))))
  exact zbs (i + 1) ⟨by omega, fun q hq => by by_cases e : q = i; (subst e; exact ⟨by omega, by omega, by omega, by omega⟩); exact hall q (by omega)⟩ (by omega) (saQ rfl) (slQ [1] rfl)
 refine ntQ (fcQ rfl ?_)
 refine zbj (zeb ?_)
 refine zal (zba (zbg 1 rfl ?_))
 exact zao (zav rfl rfl (congrArg _ (zdi ⟨by omega, fun q hq => hall q (by omega)⟩).symm))
theorem instsOk_ans (D : List Md) (k : Nat) (v : Value) (w : World) (hd : RdsDs w v D) (hk : k < D.length) :
   Calls Try.prog 49 #[.agg #[v], .int .i64 (k : Int)] w (Ans w (.bool (pB (InsP D k)))) := by
 have hd9 := sml hd.row
 have hm9 : ∀ q, q < D.length → (D.getD q md0).ss.length ≤ 9223372036854775807 := fun q hq => by have := sml (hd.at hq).s; omega
 have hx9 := sml (hd.at hk).x
 refine zca (N := 39) (args := [.agg #[v], .int .i64 (k : Int)]) Try.func49 rfl rfl (srQ ?_)
 refine zdn rfl (zdm rfl rfl) ?_
 intro b1
 refine zay 1 rfl (zfi (hvQ rfl (fdQ 0 rfl rfl rfl) (hvQ rfl (zac rfl rfl rfl (zaa 0 rfl rfl)) (zam 1 rfl (hvQ rfl (riQ 4 rfl rfl rfl rfl (zaf hd.row)) (hvQ rfl (zaq (k0 := 2) rfl rfl rfl (zaf hd.row) (by omega)) ?_))))))
 refine hvQ rfl (zan (u := (D.getD k md0).iv) rfl rfl rfl (zaf hd.row) ((zbd mdC 4 (fun _ => rfl) D md0 (show k < _ by omega) (by decide)).trans rfl)) (hvQ rfl (lnQ rfl rfl rfl (zaf ((hd.at (k := k) (by omega)).x))) (zay 1 rfl (zaz ?_)))
 refine lkQ1 (α := Nat) [0, 1, 2, 4, 12, 13] rfl (fun i => [boxE b1 #[v] 26]) (fun i => [(14, .int .i64 (i : Int))]) (fun i => i ≤ (D.getD k md0).xs.length ∧ ∀ q, q < i → InsOk D k q) (fun i => (D.getD k md0).xs.length - i) 0 ⟨Nat.zero_le _, fun q hq => absurd hq (by omega)⟩ (saQ rfl) (pfQ rfl) ?_
 intro i hi2
 obtain ⟨hi, hins⟩ := hi2
 refine srQ ?_
 refine zbq rfl rfl rfl rfl rfl rfl (fun h3 => ?_) (fun h3 => ?_)
 ·
  refine ntQ (tcQ rfl (zcv (sbQ (srQ (hvQ rfl (riQ 3 rfl rfl rfl rfl (zaf ((hd.at (k := k) (by omega)).x))) ?_)))))
  refine hvQ rfl (zbb (us := [.int .i64 ((((D.getD k md0).xs).getD i ix0).m), .int .i64 ((((D.getD k md0).xs).getD i ix0).p), (((D.getD k md0).xs).getD i ix0).pv]) rfl rfl rfl rfl (zaf ((hd.at (k := k) (by omega)).x)) (by omega) rfl (zbr ixC 3 (fun _ => rfl) ((D.getD k md0).xs) ix0 (show i < _ by omega) rfl)) (zdn rfl (zbl (z := .agg #[.int .i64 0, .int .i64 0, .slice none 0 0]) rfl rfl) ?_)
  intro b4
  refine zbh (cs' := #[.int .i64 ((((D.getD k md0).xs).getD i ix0).m), .int .i64 ((((D.getD k md0).xs).getD i ix0).p), (((D.getD k md0).xs).getD i ix0).pv]) (i := 0) (off := 0) (us := [.int .i64 ((((D.getD k md0).xs).getD i ix0).m), .int .i64 ((((D.getD k md0).xs).getD i ix0).p), (((D.getD k md0).xs).getD i ix0).pv]) rfl rfl rfl rfl rfl rfl rfl (zab rfl (zab rfl (zab ((hd.at (k := k) (by omega)).p.at (k := i) (by omega)).one zbc))) rfl rfl rfl (ntQ (zag ?_))
  rcases Bool.eq_false_or_eq_true (inR ((((D.getD k md0).xs).getD i ix0).m) 0 ((k : Int) - 1)) with hb5 | hb5
  ·
   obtain ⟨hb5a, hb5b⟩ := (zdc _ _ _).1 hb5
   rcases Bool.eq_false_or_eq_true ((((((D.getD k md0).xs).getD i ix0).ps).length : Int) != ((ptsK (D.getD (((((D.getD k md0).xs).getD i ix0).m).toNat) md0)).length : Int)) with hb9 | hb9
   ·
    have hb9p : (((((D.getD k md0).xs).getD i ix0).ps).length : Int) ≠ ((ptsK (D.getD (((((D.getD k md0).xs).getD i ix0).m).toNat) md0)).length : Int) := bne_iff_ne.1 hb9
    refine hc_draw rfl 20 [0, 1, 2, 3, 4, 5, 6, 7, 8, 9, 10, 11, 12, 13, 14, 15, 16, 17, 18, 19] (List.take 20 _) (List.drop 20 _) [[], [0], [], [2], [1, 3], [4], [5], [6], [6, 7], [6, 8], [6], [6, 10], [6], [6, 12], [6, 11, 13], [6, 14], [6, 15], [6, 16], [6, 9, 16, 17], [6, 18]] [18, 19, 20, 21, 22, 23, 24, 25, 26, 27, 28, 29, 30, 31, 32, 33, 34, 35, 36, 37] (fun i_ vs_ v_ p_ => match i_ with | 0 => v_ = .pointer (some ⟨b4, 0 + 0, none⟩) ∧ p_ = [] | 1 => v_ = .int .i64 ((((D.getD k md0).xs).getD i ix0).m) ∧ p_ = [] | 2 => v_ = .int .i64 (k : Int) ∧ p_ = [] | 3 => v_ = .int .i64 ((k : Int) - 1) ∧ p_ = [] | 4 => v_ = .bool true ∧ p_ = [] | 5 => v_ = .bool false ∧ p_ = [] | 6 => v_ = .bool false ∧ p_ = [] | 7 => v_ = .pointer (some ⟨b4, 0 + 2, none⟩) ∧ p_ = [] | 8 => v_ = (((D.getD k md0).xs).getD i ix0).pv ∧ p_ = [] | 9 => v_ = .int .i64 (((((D.getD k md0).xs).getD i ix0).ps).length : Int) ∧ p_ = [] | 10 => v_ = .pointer (some ⟨b1, 0 + 0, none⟩) ∧ p_ = [] | 11 => v_ = v ∧ p_ = [] | 12 => v_ = .pointer (some ⟨b4, 0 + 0, none⟩) ∧ p_ = [] | 13 => v_ = .int .i64 ((((D.getD k md0).xs).getD i ix0).m) ∧ p_ = [] | 14 => v_ = elP v (((((D.getD k md0).xs).getD i ix0).m).toNat * 4) ∧ p_ = [] | 15 => v_ = .agg #[(D.getD (((((D.getD k md0).xs).getD i ix0).m).toNat) md0).sv, (D.getD (((((D.getD k md0).xs).getD i ix0).m).toNat) md0).av, (D.getD (((((D.getD k md0).xs).getD i ix0).m).toNat) md0).iv, (D.getD (((((D.getD k md0).xs).getD i ix0).m).toNat) md0).mv] ∧ p_ = [] | 16 => (fun v' post => post = [rowE 3 1 v' ((ptsK (D.getD (((((D.getD k md0).xs).getD i ix0).m).toNat) md0))).length (((ptsK (D.getD (((((D.getD k md0).xs).getD i ix0).m).toNat) md0))).map (Value.int .i64))]) v_ p_ | 17 => v_ = .int .i64 ((ptsK (D.getD (((((D.getD k md0).xs).getD i ix0).m).toNat) md0)).length : Int) ∧ p_ = [] | 18 => v_ = .bool true ∧ p_ = [] | 19 => v_ = .bool true ∧ p_ = [] | _ => True) (List.take_append_drop 20 _).symm (by kernel_rfl) (by kernel_rfl) rfl rfl ?_ ?_
    ·
     refine ⟨?_, ?_, ?_, ?_, ?_, ?_, ?_, ?_, ?_, ?_, ?_, ?_, ?_, ?_, ?_, ?_, ?_, ?_, ?_, ?_, trivial⟩
     ·
      intro vf pf hR
      exact ovQ rfl (zar [6] rfl) (zbt (fdQ 0 rfl rfl rfl))
     ·
      intro vf pf hR
      have e0 := hR 0 (by decide)
      exact olQ rfl (sk 18 (congrArg some e0.1) (zai _)) (zbt (zac rfl rfl rfl (zaa 0 rfl rfl)))
     ·
      intro vf pf hR
      exact ovQ rfl (zar [1] rfl) (zbt (zau rfl))
     ·
      intro vf pf hR
      have e2 := hR 2 (by decide)
      exact ovQ rfl (sk 20 (congrArg some e2.1) (zai _)) (zbt (vsQ rfl rfl rfl))
     ·
      intro vf pf hR
      have e1 := hR 1 (by decide)
      have e3 := hR 3 (by decide)
      exact olQ rfl (sk 19 (congrArg some e1.1) (sk 21 (congrArg some e3.1) (zai _))) (zck (zaw rfl rfl (fun w hm => zbf (zek (zce _ _ _ w)))) (fun _ _ h => ⟨h.1.trans (congrArg Value.bool hb5), h.2⟩))
     ·
      intro vf pf hR
      have e4 := hR 4 (by decide)
      exact ovQ rfl (sk 22 (congrArg some e4.1) (zai _)) (zbt (zau rfl))
     ·
      intro vf pf hR
      have e5 := hR 5 (by decide)
      exact ovQ rfl (sk 23 (congrArg some e5.1) (zai _)) (zbt (zau rfl))
     ·
      intro vf pf hR
      have e6 := hR 6 (by decide)
      refine Or.inl ⟨zcb (congrArg some e6.1) rfl, ?_⟩
      exact zbo (zar [6] rfl) (zbt (fdQ 2 rfl rfl rfl))
     ·
      intro vf pf hR
      have e6 := hR 6 (by decide)
      have e7 := hR 7 (by decide)
      refine Or.inl ⟨zcb (congrArg some e6.1) rfl, ?_⟩
      exact zbe (sk 25 (congrArg some e7.1) (zai _)) (List.sublist_append_right _ _) (zbt (zac rfl rfl rfl (zaa 0 rfl rfl)))
     ·
      intro vf pf hR
      have e6 := hR 6 (by decide)
      have e8 := hR 8 (by decide)
      refine Or.inl ⟨zcb (congrArg some e6.1) rfl, ?_⟩
      exact zbe (sk 26 (congrArg some e8.1) (zai _)) (List.sublist_append_right _ _) (zbt (lnQ rfl rfl rfl (zaf ((hd.at (k := k) (by omega)).p.at (k := i) (by omega)))))
     ·
      intro vf pf hR
      have e6 := hR 6 (by decide)
      refine Or.inl ⟨zcb (congrArg some e6.1) rfl, ?_⟩
      exact zbo (zar [2] rfl) (zbt (fdQ 0 rfl rfl rfl))
     ·
      intro vf pf hR
      have e6 := hR 6 (by decide)
      have e10 := hR 10 (by decide)
      refine Or.inl ⟨zcb (congrArg some e6.1) rfl, ?_⟩
      exact zbe (sk 28 (congrArg some e10.1) (zai _)) (List.sublist_append_right _ _) (zbt (zac rfl rfl rfl (zaa 1 rfl rfl)))
     ·
      intro vf pf hR
      have e6 := hR 6 (by decide)
      refine Or.inl ⟨zcb (congrArg some e6.1) rfl, ?_⟩
      exact zbo (zar [6] rfl) (zbt (fdQ 0 rfl rfl rfl))
     ·
      intro vf pf hR
      have e6 := hR 6 (by decide)
      have e12 := hR 12 (by decide)
      refine Or.inl ⟨zcb (congrArg some e6.1) rfl, ?_⟩
      exact zbe (sk 30 (congrArg some e12.1) (zai _)) (List.sublist_append_right _ _) (zbt (zac rfl rfl rfl (zaa 0 rfl rfl)))
     ·
      intro vf pf hR
      have e6 := hR 6 (by decide)
      have e11 := hR 11 (by decide)
      have e13 := hR 13 (by decide)
      refine Or.inl ⟨zcb (congrArg some e6.1) rfl, ?_⟩
      exact zbe (sk 29 (congrArg some e11.1) (sk 31 (congrArg some e13.1) (zai _))) (List.sublist_append_right _ _) (zbt (riQ 4 rfl rfl rfl rfl (zaf hd.row)))
     ·
      intro vf pf hR
      have e6 := hR 6 (by decide)
      have e14 := hR 14 (by decide)
      refine Or.inl ⟨zcb (congrArg some e6.1) rfl, ?_⟩
      exact zbe (sk 32 (congrArg some e14.1) (zai _)) (List.sublist_append_right _ _) (zbt (zbb (us := [(D.getD (((((D.getD k md0).xs).getD i ix0).m).toNat) md0).sv, (D.getD (((((D.getD k md0).xs).getD i ix0).m).toNat) md0).av, (D.getD (((((D.getD k md0).xs).getD i ix0).m).toNat) md0).iv, (D.getD (((((D.getD k md0).xs).getD i ix0).m).toNat) md0).mv]) rfl rfl rfl rfl (zaf hd.row) (by omega) rfl (zbr mdC 4 (fun _ => rfl) D md0 (show ((((D.getD k md0).xs).getD i ix0).m).toNat < _ by omega) rfl)))
     ·
      intro vf pf hR
      have e6 := hR 6 (by decide)
      have e15 := hR 15 (by decide)
      refine Or.inl ⟨zcb (congrArg some e6.1) rfl, ?_⟩
      exact zbe (sk 33 (congrArg some e15.1) (zai _)) (List.sublist_append_right _ _) (zaw rfl rfl (fun w hm => zeq (D.getD (((((D.getD k md0).xs).getD i ix0).m).toNat) md0) w ((hd.at (by omega)).below hm.bel)))
     ·
      intro vf pf hR
      have e6 := hR 6 (by decide)
      have e16 : (fun v' post => post = [rowE 3 1 v' ((ptsK (D.getD (((((D.getD k md0).xs).getD i ix0).m).toNat) md0))).length (((ptsK (D.getD (((((D.getD k md0).xs).getD i ix0).m).toNat) md0))).map (Value.int .i64))]) (vf 16) (pf 16) := hR 16 (by decide)
      obtain ⟨v10, vE16⟩ : ∃ x, vf 16 = x := ⟨_, rfl⟩
      obtain ⟨p11, pE16⟩ : ∃ x, pf 16 = x := ⟨_, rfl⟩
      have hR12 := e16
      rw [vE16, pE16] at hR12
      subst hR12
      refine Or.inl ⟨zcb (congrArg some e6.1) rfl, ?_⟩
      exact zcm (sk 34 (congrArg some vE16) (zai _)) (by simp only [pE16, vE16, e6.2, fS] <;> rfl) (zbt (lnQ rfl rfl rfl (zaj 0 rfl)))
     ·
      intro vf pf hR
      have e6 := hR 6 (by decide)
      have e9 := hR 9 (by decide)
      have e16 : (fun v' post => post = [rowE 3 1 v' ((ptsK (D.getD (((((D.getD k md0).xs).getD i ix0).m).toNat) md0))).length (((ptsK (D.getD (((((D.getD k md0).xs).getD i ix0).m).toNat) md0))).map (Value.int .i64))]) (vf 16) (pf 16) := hR 16 (by decide)
      obtain ⟨v10, vE16⟩ : ∃ x, vf 16 = x := ⟨_, rfl⟩
      obtain ⟨p11, pE16⟩ : ∃ x, pf 16 = x := ⟨_, rfl⟩
      have hR12 := e16
      rw [vE16, pE16] at hR12
      subst hR12
      have e17 := hR 17 (by decide)
      refine Or.inl ⟨zcb (congrArg some e6.1) rfl, ?_⟩
      exact zcm (sk 27 (congrArg some e9.1) (sk 35 (congrArg some e17.1) (zai _))) (by simp only [pE16, vE16, e6.2, e9.2, e17.2, fS] <;> rfl) (zck (zbt (zcf rfl rfl rfl rfl)) (fun _ _ h => ⟨h.1.trans (congrArg Value.bool hb9), h.2⟩))
     intro vf pf hR
     have e6 := hR 6 (by decide)
     have e18 := hR 18 (by decide)
     exact ovQ rfl (sk 24 (congrArg some e6.1) (sk 36 (congrArg some e18.1) (zai _))) (zbt (zau rfl))
    intro vf pf hR
    have e16 : (fun v' post => post = [rowE 3 1 v' ((ptsK (D.getD (((((D.getD k md0).xs).getD i ix0).m).toNat) md0))).length (((ptsK (D.getD (((((D.getD k md0).xs).getD i ix0).m).toNat) md0))).map (Value.int .i64))]) (vf 16) (pf 16) := hR 16 (by decide)
    obtain ⟨v10, vE16⟩ : ∃ x, vf 16 = x := ⟨_, rfl⟩
    obtain ⟨p11, pE16⟩ : ∃ x, pf 16 = x := ⟨_, rfl⟩
    have hR12 := e16
    rw [vE16, pE16] at hR12
    subst hR12
    have e19 := hR 19 (by decide)
    have q0 := hR 0 (by decide)
    have q1 := hR 1 (by decide)
    have q2 := hR 2 (by decide)
    have q3 := hR 3 (by decide)
    have q4 := hR 4 (by decide)
    have q5 := hR 5 (by decide)
    have q6 := hR 6 (by decide)
    have q7 := hR 7 (by decide)
    have q8 := hR 8 (by decide)
    have q9 := hR 9 (by decide)
    have q10 := hR 10 (by decide)
    have q11 := hR 11 (by decide)
    have q12 := hR 12 (by decide)
    have q13 := hR 13 (by decide)
    have q14 := hR 14 (by decide)
    have q15 := hR 15 (by decide)
    have q17 := hR 17 (by decide)
    have q18 := hR 18 (by decide)
    have q19 := hR 19 (by decide)
    refine zdf (zci [15, 14, 13, 12, 6, 4, 2, 1, 0] _ (sk 37 (congrArg some e19.1) (zai _)) rfl) (by simp only [pE16, vE16, q0.2, q1.2, q2.2, q3.2, q4.2, q5.2, q6.2, q7.2, q8.2, q9.2, q10.2, q11.2, q12.2, q13.2, q14.2, q15.2, q17.2, q18.2, q19.2, fS] <;> rfl) ?_
    simp only [List.drop_succ_cons, List.drop_zero]
    refine ntQ (zah rfl (zbg 1 rfl ?_))
    refine zao (zad ?_)
    refine zdv ?_
    refine zad (zae ?_)
    exact zav rfl rfl (congrArg _ (zbv (fun hp => by first | (obtain ⟨⟨h1, h2⟩, h3⟩ := hp i (by omega); omega))).symm)
   have hb9p : (((((D.getD k md0).xs).getD i ix0).ps).length : Int) = ((ptsK (D.getD (((((D.getD k md0).xs).getD i ix0).m).toNat) md0)).length : Int) := (bne_eq_false_iff_eq.1 hb9)
   refine hc_draw rfl 20 [0, 1, 2, 3, 4, 5, 6, 7, 8, 9, 10, 11, 12, 13, 14, 15, 16, 17, 18, 19] (List.take 20 _) (List.drop 20 _) [[], [0], [], [2], [1, 3], [4], [5], [6], [6, 7], [6, 8], [6], [6, 10], [6], [6, 12], [6, 11, 13], [6, 14], [6, 15], [6, 16], [6, 9, 16, 17], [6, 18]] [18, 19, 20, 21, 22, 23, 24, 25, 26, 27, 28, 29, 30, 31, 32, 33, 34, 35, 36, 37] (fun i_ vs_ v_ p_ => match i_ with | 0 => v_ = .pointer (some ⟨b4, 0 + 0, none⟩) ∧ p_ = [] | 1 => v_ = .int .i64 ((((D.getD k md0).xs).getD i ix0).m) ∧ p_ = [] | 2 => v_ = .int .i64 (k : Int) ∧ p_ = [] | 3 => v_ = .int .i64 ((k : Int) - 1) ∧ p_ = [] | 4 => v_ = .bool true ∧ p_ = [] | 5 => v_ = .bool false ∧ p_ = [] | 6 => v_ = .bool false ∧ p_ = [] | 7 => v_ = .pointer (some ⟨b4, 0 + 2, none⟩) ∧ p_ = [] | 8 => v_ = (((D.getD k md0).xs).getD i ix0).pv ∧ p_ = [] | 9 => v_ = .int .i64 (((((D.getD k md0).xs).getD i ix0).ps).length : Int) ∧ p_ = [] | 10 => v_ = .pointer (some ⟨b1, 0 + 0, none⟩) ∧ p_ = [] | 11 => v_ = v ∧ p_ = [] | 12 => v_ = .pointer (some ⟨b4, 0 + 0, none⟩) ∧ p_ = [] | 13 => v_ = .int .i64 ((((D.getD k md0).xs).getD i ix0).m) ∧ p_ = [] | 14 => v_ = elP v (((((D.getD k md0).xs).getD i ix0).m).toNat * 4) ∧ p_ = [] | 15 => v_ = .agg #[(D.getD (((((D.getD k md0).xs).getD i ix0).m).toNat) md0).sv, (D.getD (((((D.getD k md0).xs).getD i ix0).m).toNat) md0).av, (D.getD (((((D.getD k md0).xs).getD i ix0).m).toNat) md0).iv, (D.getD (((((D.getD k md0).xs).getD i ix0).m).toNat) md0).mv] ∧ p_ = [] | 16 => (fun v' post => post = [rowE 3 1 v' ((ptsK (D.getD (((((D.getD k md0).xs).getD i ix0).m).toNat) md0))).length (((ptsK (D.getD (((((D.getD k md0).xs).getD i ix0).m).toNat) md0))).map (Value.int .i64))]) v_ p_ | 17 => v_ = .int .i64 ((ptsK (D.getD (((((D.getD k md0).xs).getD i ix0).m).toNat) md0)).length : Int) ∧ p_ = [] | 18 => v_ = .bool false ∧ p_ = [] | 19 => v_ = .bool false ∧ p_ = [] | _ => True) (List.take_append_drop 20 _).symm (by kernel_rfl) (by kernel_rfl) rfl rfl ?_ ?_
   ·
    refine ⟨?_, ?_, ?_, ?_, ?_, ?_, ?_, ?_, ?_, ?_, ?_, ?_, ?_, ?_, ?_, ?_, ?_, ?_, ?_, ?_, trivial⟩
    ·
     intro vf pf hR
     exact ovQ rfl (zar [6] rfl) (zbt (fdQ 0 rfl rfl rfl))
    ·
     intro vf pf hR
     have e0 := hR 0 (by decide)
     exact olQ rfl (sk 18 (congrArg some e0.1) (zai _)) (zbt (zac rfl rfl rfl (zaa 0 rfl rfl)))
    ·
     intro vf pf hR
     exact ovQ rfl (zar [1] rfl) (zbt (zau rfl))
    ·
     intro vf pf hR
     have e2 := hR 2 (by decide)
     exact ovQ rfl (sk 20 (congrArg some e2.1) (zai _)) (zbt (vsQ rfl rfl rfl))
    ·
     intro vf pf hR
     have e1 := hR 1 (by decide)
     have e3 := hR 3 (by decide)
     exact olQ rfl (sk 19 (congrArg some e1.1) (sk 21 (congrArg some e3.1) (zai _))) (zck (zaw rfl rfl (fun w hm => zbf (zek (zce _ _ _ w)))) (fun _ _ h => ⟨h.1.trans (congrArg Value.bool hb5), h.2⟩))
    ·
     intro vf pf hR
     have e4 := hR 4 (by decide)
     exact ovQ rfl (sk 22 (congrArg some e4.1) (zai _)) (zbt (zau rfl))
    ·
     intro vf pf hR
     have e5 := hR 5 (by decide)
     exact ovQ rfl (sk 23 (congrArg some e5.1) (zai _)) (zbt (zau rfl))
    ·
     intro vf pf hR
     have e6 := hR 6 (by decide)
     refine Or.inl ⟨zcb (congrArg some e6.1) rfl, ?_⟩
     exact zbo (zar [6] rfl) (zbt (fdQ 2 rfl rfl rfl))
    ·
     intro vf pf hR
     have e6 := hR 6 (by decide)
     have e7 := hR 7 (by decide)
     refine Or.inl ⟨zcb (congrArg some e6.1) rfl, ?_⟩
     exact zbe (sk 25 (congrArg some e7.1) (zai _)) (List.sublist_append_right _ _) (zbt (zac rfl rfl rfl (zaa 0 rfl rfl)))
    ·
     intro vf pf hR
     have e6 := hR 6 (by decide)
     have e8 := hR 8 (by decide)
     refine Or.inl ⟨zcb (congrArg some e6.1) rfl, ?_⟩
     exact zbe (sk 26 (congrArg some e8.1) (zai _)) (List.sublist_append_right _ _) (zbt (lnQ rfl rfl rfl (zaf ((hd.at (k := k) (by omega)).p.at (k := i) (by omega)))))
    ·
     intro vf pf hR
     have e6 := hR 6 (by decide)
     refine Or.inl ⟨zcb (congrArg some e6.1) rfl, ?_⟩
     exact zbo (zar [2] rfl) (zbt (fdQ 0 rfl rfl rfl))
    ·
     intro vf pf hR
     have e6 := hR 6 (by decide)
     have e10 := hR 10 (by decide)
     refine Or.inl ⟨zcb (congrArg some e6.1) rfl, ?_⟩
     exact zbe (sk 28 (congrArg some e10.1) (zai _)) (List.sublist_append_right _ _) (zbt (zac rfl rfl rfl (zaa 1 rfl rfl)))
    ·
     intro vf pf hR
     have e6 := hR 6 (by decide)
     refine Or.inl ⟨zcb (congrArg some e6.1) rfl, ?_⟩
     exact zbo (zar [6] rfl) (zbt (fdQ 0 rfl rfl rfl))
    ·
     intro vf pf hR
     have e6 := hR 6 (by decide)
     have e12 := hR 12 (by decide)
     refine Or.inl ⟨zcb (congrArg some e6.1) rfl, ?_⟩
     exact zbe (sk 30 (congrArg some e12.1) (zai _)) (List.sublist_append_right _ _) (zbt (zac rfl rfl rfl (zaa 0 rfl rfl)))
    ·
     intro vf pf hR
     have e6 := hR 6 (by decide)
     have e11 := hR 11 (by decide)
     have e13 := hR 13 (by decide)
     refine Or.inl ⟨zcb (congrArg some e6.1) rfl, ?_⟩
     exact zbe (sk 29 (congrArg some e11.1) (sk 31 (congrArg some e13.1) (zai _))) (List.sublist_append_right _ _) (zbt (riQ 4 rfl rfl rfl rfl (zaf hd.row)))
    ·
     intro vf pf hR
     have e6 := hR 6 (by decide)
     have e14 := hR 14 (by decide)
     refine Or.inl ⟨zcb (congrArg some e6.1) rfl, ?_⟩
     exact zbe (sk 32 (congrArg some e14.1) (zai _)) (List.sublist_append_right _ _) (zbt (zbb (us := [(D.getD (((((D.getD k md0).xs).getD i ix0).m).toNat) md0).sv, (D.getD (((((D.getD k md0).xs).getD i ix0).m).toNat) md0).av, (D.getD (((((D.getD k md0).xs).getD i ix0).m).toNat) md0).iv, (D.getD (((((D.getD k md0).xs).getD i ix0).m).toNat) md0).mv]) rfl rfl rfl rfl (zaf hd.row) (by omega) rfl (zbr mdC 4 (fun _ => rfl) D md0 (show ((((D.getD k md0).xs).getD i ix0).m).toNat < _ by omega) rfl)))
    ·
     intro vf pf hR
     have e6 := hR 6 (by decide)
     have e15 := hR 15 (by decide)
     refine Or.inl ⟨zcb (congrArg some e6.1) rfl, ?_⟩
     exact zbe (sk 33 (congrArg some e15.1) (zai _)) (List.sublist_append_right _ _) (zaw rfl rfl (fun w hm => zeq (D.getD (((((D.getD k md0).xs).getD i ix0).m).toNat) md0) w ((hd.at (by omega)).below hm.bel)))
    ·
     intro vf pf hR
     have e6 := hR 6 (by decide)
     have e16 : (fun v' post => post = [rowE 3 1 v' ((ptsK (D.getD (((((D.getD k md0).xs).getD i ix0).m).toNat) md0))).length (((ptsK (D.getD (((((D.getD k md0).xs).getD i ix0).m).toNat) md0))).map (Value.int .i64))]) (vf 16) (pf 16) := hR 16 (by decide)
     obtain ⟨v13, vE16⟩ : ∃ x, vf 16 = x := ⟨_, rfl⟩
     obtain ⟨p14, pE16⟩ : ∃ x, pf 16 = x := ⟨_, rfl⟩
     have hR15 := e16
     rw [vE16, pE16] at hR15
     subst hR15
     refine Or.inl ⟨zcb (congrArg some e6.1) rfl, ?_⟩
     exact zcm (sk 34 (congrArg some vE16) (zai _)) (by simp only [pE16, vE16, e6.2, fS] <;> rfl) (zbt (lnQ rfl rfl rfl (zaj 0 rfl)))
    ·
     intro vf pf hR
     have e6 := hR 6 (by decide)
     have e9 := hR 9 (by decide)
     have e16 : (fun v' post => post = [rowE 3 1 v' ((ptsK (D.getD (((((D.getD k md0).xs).getD i ix0).m).toNat) md0))).length (((ptsK (D.getD (((((D.getD k md0).xs).getD i ix0).m).toNat) md0))).map (Value.int .i64))]) (vf 16) (pf 16) := hR 16 (by decide)
     obtain ⟨v13, vE16⟩ : ∃ x, vf 16 = x := ⟨_, rfl⟩
     obtain ⟨p14, pE16⟩ : ∃ x, pf 16 = x := ⟨_, rfl⟩
     have hR15 := e16
     rw [vE16, pE16] at hR15
     subst hR15
     have e17 := hR 17 (by decide)
     refine Or.inl ⟨zcb (congrArg some e6.1) rfl, ?_⟩
     exact zcm (sk 27 (congrArg some e9.1) (sk 35 (congrArg some e17.1) (zai _))) (by simp only [pE16, vE16, e6.2, e9.2, e17.2, fS] <;> rfl) (zck (zbt (zcf rfl rfl rfl rfl)) (fun _ _ h => ⟨h.1.trans (congrArg Value.bool hb9), h.2⟩))
    intro vf pf hR
    have e6 := hR 6 (by decide)
    have e18 := hR 18 (by decide)
    exact ovQ rfl (sk 24 (congrArg some e6.1) (sk 36 (congrArg some e18.1) (zai _))) (zbt (zau rfl))
   intro vf pf hR
   have e16 : (fun v' post => post = [rowE 3 1 v' ((ptsK (D.getD (((((D.getD k md0).xs).getD i ix0).m).toNat) md0))).length (((ptsK (D.getD (((((D.getD k md0).xs).getD i ix0).m).toNat) md0))).map (Value.int .i64))]) (vf 16) (pf 16) := hR 16 (by decide)
   obtain ⟨v13, vE16⟩ : ∃ x, vf 16 = x := ⟨_, rfl⟩
   obtain ⟨p14, pE16⟩ : ∃ x, pf 16 = x := ⟨_, rfl⟩
   have hR15 := e16
   rw [vE16, pE16] at hR15
   subst hR15
   have e19 := hR 19 (by decide)
   have q0 := hR 0 (by decide)
   have q1 := hR 1 (by decide)
   have q2 := hR 2 (by decide)
   have q3 := hR 3 (by decide)
   have q4 := hR 4 (by decide)
   have q5 := hR 5 (by decide)
   have q6 := hR 6 (by decide)
   have q7 := hR 7 (by decide)
   have q8 := hR 8 (by decide)
   have q9 := hR 9 (by decide)
   have q10 := hR 10 (by decide)
   have q11 := hR 11 (by decide)
   have q12 := hR 12 (by decide)
   have q13 := hR 13 (by decide)
   have q14 := hR 14 (by decide)
   have q15 := hR 15 (by decide)
   have q17 := hR 17 (by decide)
   have q18 := hR 18 (by decide)
   have q19 := hR 19 (by decide)
   refine zdf (zci [15, 14, 13, 12, 6, 4, 2, 1, 0] _ (sk 37 (congrArg some e19.1) (zai _)) rfl) (by simp only [pE16, vE16, q0.2, q1.2, q2.2, q3.2, q4.2, q5.2, q6.2, q7.2, q8.2, q9.2, q10.2, q11.2, q12.2, q13.2, q14.2, q15.2, q17.2, q18.2, q19.2, fS] <;> rfl) ?_
   simp only [List.drop_succ_cons, List.drop_zero]
   refine ntQ (fsQ rfl (zdh (zas (hvQ rfl (vaQ rfl rfl rfl) (enQ 1 rfl ?_)))))
   exact zbs (i + 1) ⟨by omega, fun q hq => by by_cases e : q = i; (subst e; exact ⟨⟨by omega, by omega⟩, by omega⟩); exact hins q (by omega)⟩ (by omega) (saQ rfl) (slQ [2] rfl)
  have hb5a := zcy hb5
  refine zbz 20 [[], [0], [], [2], [1, 3], [4], [5], [6], [6], [6], [6], [6], [6], [6], [6], [6], [6], [6], [6], [6, 18]] [18, 19, 20, 21, 22, 23, 24, 25, 26, 27, 28, 29, 30, 31, 32, 33, 34, 35, 36, 37] [.pointer (some ⟨b4, 0 + 0, none⟩), .int .i64 ((((D.getD k md0).xs).getD i ix0).m), .int .i64 (k : Int), .int .i64 ((k : Int) - 1), .bool false, .bool true, .bool true, undef, undef, undef, undef, undef, undef, undef, undef, undef, undef, undef, undef, .bool true] (by kernel_rfl) rfl ?_ ?_
  ·
   exact ⟨iaQ rfl (fdQ 0 rfl rfl rfl) rfl, iaQ rfl (zac rfl rfl rfl (zaa 0 rfl rfl)) rfl, iaQ rfl (zau rfl) rfl, iaQ rfl (vsQ rfl rfl rfl) rfl, .inl ⟨rfl, rq_cb (zaw rfl rfl (fun w hm => zbf (zek (zce _ _ _ w)))) hb5⟩, iaQ rfl (zau rfl) rfl, iaQ rfl (zau rfl) rfl, .inr ⟨rfl, rfl⟩, .inr ⟨rfl, rfl⟩, .inr ⟨rfl, rfl⟩, .inr ⟨rfl, rfl⟩, .inr ⟨rfl, rfl⟩, .inr ⟨rfl, rfl⟩, .inr ⟨rfl, rfl⟩, .inr ⟨rfl, rfl⟩, .inr ⟨rfl, rfl⟩, .inr ⟨rfl, rfl⟩, .inr ⟨rfl, rfl⟩, .inr ⟨rfl, rfl⟩, iaQ rfl (zau rfl) rfl, trivial⟩
  simp only [List.drop_succ_cons, List.drop_zero]
  refine ntQ (zah rfl (zbg 1 rfl ?_))
  refine zao (zad ?_)
  refine zdv ?_
  refine zad (zae ?_)
  exact zav rfl rfl (congrArg _ (zbv (fun hp => by first | (obtain ⟨⟨h1, h2⟩, h3⟩ := hp i (by omega); omega))).symm)
 refine ntQ (fcQ rfl ?_)
 refine zbj (zeb ?_)
 refine zal (zba (zbg 1 rfl ?_))
 exact zao (zav rfl rfl (congrArg _ (zdi (fun q hq => hins q (by omega))).symm))
theorem zge (b : Nat) (v : Value) (zs : List Int) (s : Int) (w0 : World) (l : List HP) (w : World) (hm0 : Mem w0 (bigE [boxE b #[v] 48, rowE 3 1 v zs.length (zs.map (Value.int .i64))] :: l) w) (hz1 : zs.length ≤ 1000000) (hz2 : ∀ q, 0 ≤ zs.getD q 0 ∧ zs.getD q 0 ≤ 1000000) :
   Calls Try.prog 108 #[.int .i64 s, .pointer (some ⟨b, 0, none⟩)] w (fun e_ w_ => ∃ v_ p_, e_ = .returned v_ ∧ (fun u_ p_ => u_ = .tuple #[] ∧ p_ = bigE [boxE b #[v] 48, rowE 3 1 v (incZ zs s).length ((incZ zs s).map (Value.int .i64))]) v_ p_ ∧ Mem w0 (p_ :: l) w_) := by
 refine zfa (N := 14) (args := [.int .i64 s, .pointer (some ⟨b, 0, none⟩)]) Try.func108 rfl rfl hm0 (srQ ?_)
 refine zfd (boxE b #[v] 48 :: rowE 3 1 v zs.length (zs.map (Value.int .i64)) :: l) zdb ?_
 refine zam 1 rfl (hvQ rfl (zac rfl rfl rfl (zaa 0 rfl rfl)) (hvQ rfl (lnQ rfl rfl rfl (zaj 1 rfl)) (hvQ rfl (vsQ rfl rfl rfl) ?_)))
 refine zem rfl (zaw rfl rfl (fun w hm => zbf (zek (zce _ _ _ w)))) (zbm (fun h1 => ?_) (fun h1 => ?_))
 ·
  obtain ⟨h1a, h1b⟩ := (zdc _ _ _).1 h1
  refine ntQ (zah rfl (zas ?_))
  have hz3 := hz2 s.toNat
  refine hvQ rfl (zac rfl rfl rfl (zaa 0 rfl rfl)) (zam 1 rfl (hvQ rfl (riQ 1 rfl rfl rfl rfl (zaj 1 rfl)) (hvQ rfl (lzQ rfl rfl rfl (zaj 1 rfl)) (hvQ rfl (vaQ rfl rfl rfl) (hvQ rfl (riQ 1 rfl rfl rfl rfl (zaj 1 rfl)) ?_)))))
  refine hl_stE (i := 1) (n' := (zs.set ((s).toNat) ((zs.getD ((s).toNat) 0) + 1)).length) (xs' := ((zs.set ((s).toNat) ((zs.getD ((s).toNat) 0) + 1)).map (Value.int .i64))) rfl rfl rfl rfl rfl rfl rfl rfl (by first | omega | (simp only [List.length_set]; omega)) List.length_set.symm (ints_set _ _ _) rfl (zcu ?_)
  refine hq_normal (zbn 2 [1, 0] rfl rfl (by decide) ?_)
  refine zco (bigE [boxE b #[v] 48, rowE 3 1 v ((zs.set ((s).toNat) ((zs.getD ((s).toNat) 0) + 1)).length) ((zs.set ((s).toNat) ((zs.getD ((s).toNat) 0) + 1)).map (Value.int .i64))] :: l) (conv_big (ps := [boxE b #[v] 48, rowE 3 1 v ((zs.set ((s).toNat) ((zs.getD ((s).toNat) 0) + 1)).length) ((zs.set ((s).toNat) ((zs.getD ((s).toNat) 0) + 1)).map (Value.int .i64))])) ?_
  refine zcx (rs := []) (vs := []) rfl trivial rfl (fun w hm => ⟨_, _, rfl, ⟨rfl, by unfold incZ; rw [if_pos ⟨by omega, by omega⟩]⟩, hm.sub (.refl _)⟩)
 have h1a := zcy h1
 refine ntQ (fsQ rfl ?_)
 refine hq_normal (zbn 2 [1, 0] rfl rfl (by decide) ?_)
 refine zco (bigE [boxE b #[v] 48, rowE 3 1 v zs.length (zs.map (Value.int .i64))] :: l) (conv_big (ps := [boxE b #[v] 48, rowE 3 1 v zs.length (zs.map (Value.int .i64))])) ?_
 refine zcx (rs := []) (vs := []) rfl trivial rfl (fun w hm => ⟨_, _, rfl, ⟨rfl, by unfold incZ; rw [if_neg (by omega)]⟩, hm.sub (.refl _)⟩)
theorem driverCounts_ret (D : List Md) (k : Nat) (v : Value) (w : World) (hd : RdsDs w v D) (hc : CtsP D k) :
   Calls Try.prog 50 #[.agg #[v], .int .i64 (k : Int)] w (Ret w (fun v' post => post = [rowE 3 1 v' ((cntZ (D.getD k md0).ss.length (drvL D (D.getD k md0)))).length (((cntZ (D.getD k md0).ss.length (drvL D (D.getD k md0)))).map (Value.int .i64))])) := by
 have hd9 := sml hd.row
 obtain ⟨hkl, hcnt, hins⟩ := hc
 obtain ⟨hn1, hn2, hn3, hn4⟩ := hcnt.md k hkl
 have hdl := hcnt.len
 refine zca (N := 89) (args := [.agg #[v], .int .i64 (k : Int)]) Try.func50 rfl rfl (srQ ?_)
 refine zdn rfl (zdm rfl rfl) ?_
 intro b1
 refine zay 1 rfl (srQ (hvQ rfl (fdQ 0 rfl rfl rfl) (hvQ rfl (zac rfl rfl rfl (zaa 0 rfl rfl)) (zam 1 rfl (hvQ rfl (riQ 4 rfl rfl rfl rfl (zaf hd.row)) ?_)))))
 refine hvQ rfl (zbb (us := [(D.getD k md0).sv, (D.getD k md0).av, (D.getD k md0).iv, (D.getD k md0).mv]) rfl rfl rfl rfl (zaf hd.row) (by omega) rfl (zbr mdC 4 (fun _ => rfl) D md0 (show k < _ by omega) rfl)) (zdn rfl (zbl (z := .agg #[.slice none 0 0, .slice none 0 0, .slice none 0 0, .slice none 0 0]) rfl rfl) ?_)
 intro b2
 refine zbh (cs' := #[(D.getD k md0).sv, (D.getD k md0).av, (D.getD k md0).iv, (D.getD k md0).mv]) (i := 0) (off := 0) (us := [(D.getD k md0).sv, (D.getD k md0).av, (D.getD k md0).iv, (D.getD k md0).mv]) rfl rfl rfl rfl rfl rfl rfl (zab (hd.at (k := k) (by omega)).s.one (zab (hd.at (k := k) (by omega)).g.one (zab (hd.at (k := k) (by omega)).x.one (zab (hd.at (k := k) (by omega)).m.one zbc)))) rfl rfl rfl (ntQ (srQ (hvQ rfl (fdQ 0 rfl rfl rfl) (hvQ rfl (zac rfl rfl rfl (zaa 0 rfl rfl)) (hvQ rfl (lnQ rfl rfl rfl (zaf ((hd.at (k := k) (by omega)).s))) ?_)))))
 refine zea rfl (rq_make (z := .int .i64 0) (s := 1) (bytes := 8) (n := (List.replicate (((D.getD k md0).ss).length) (0 : Int)).length) (cs := ((List.replicate (((D.getD k md0).ss).length) (0 : Int)).map (Value.int .i64))) rfl Try.underlying48 rfl (by decide) rfl rfl (by first | (rw [List.length_replicate]; done) | (rw [List.length_replicate]; omega)) (by first | (rw [List.length_replicate]; done) | (rw [List.length_replicate]; omega)) (by rw [List.length_replicate]; omega) (ints_make _)) ?_
 intro g3
 refine zdn rfl (zbl (z := .slice none 0 0) rfl rfl) ?_
 intro b4
 refine zdo (i := 0) (cs' := #[.slice (some ⟨g3, 0, none⟩) ((List.replicate (((D.getD k md0).ss).length) (0 : Int)).length) ((List.replicate (((D.getD k md0).ss).length) (0 : Int)).length)]) rfl rfl rfl rfl rfl rfl rfl rfl rfl rfl rfl (ntQ (srQ (hvQ rfl (rv_makeFunc (us := []) (vs := [.pointer (some ⟨b4, 0, none⟩)]) rfl rfl rfl) (zay 1 rfl (zfi ?_)))))
 refine zfo 4 [3, 2, 1, 0] rfl rfl (by decide) ?_
 refine zfd [bigE [boxE b4 #[.slice (some ⟨g3, 0, none⟩) ((List.replicate (((D.getD k md0).ss).length) (0 : Int)).length) ((List.replicate (((D.getD k md0).ss).length) (0 : Int)).length)] 48, rowE 3 1 (.slice (some ⟨g3, 0, none⟩) ((List.replicate (((D.getD k md0).ss).length) (0 : Int)).length) ((List.replicate (((D.getD k md0).ss).length) (0 : Int)).length)) ((List.replicate (((D.getD k md0).ss).length) (0 : Int)).length) ((List.replicate (((D.getD k md0).ss).length) (0 : Int)).map (Value.int .i64))], boxE b2 #[(D.getD k md0).sv, (D.getD k md0).av, (D.getD k md0).iv, (D.getD k md0).mv] 35, boxE b1 #[v] 26] (conv_big (ps := [boxE b4 #[.slice (some ⟨g3, 0, none⟩) ((List.replicate (((D.getD k md0).ss).length) (0 : Int)).length) ((List.replicate (((D.getD k md0).ss).length) (0 : Int)).length)] 48, rowE 3 1 (.slice (some ⟨g3, 0, none⟩) ((List.replicate (((D.getD k md0).ss).length) (0 : Int)).length) ((List.replicate (((D.getD k md0).ss).length) (0 : Int)).length)) ((List.replicate (((D.getD k md0).ss).length) (0 : Int)).length) ((List.replicate (((D.getD k md0).ss).length) (0 : Int)).map (Value.int .i64))])) ?_
 rw [cntZ_nil]
 refine hvQ rfl (fdQ 1 rfl rfl rfl) (hvQ rfl (zac rfl rfl rfl (zaa 1 rfl rfl)) (hvQ rfl (lnQ rfl rfl rfl (zaf ((hd.at (k := k) (by omega)).g))) (zay 1 rfl (zaz ?_))))
 refine zfe [bigE [boxE b4 #[.slice (some ⟨g3, 0, none⟩) ((cntZ (D.getD k md0).ss.length ([] : List Int)).length) ((cntZ (D.getD k md0).ss.length ([] : List Int)).length)] 48, rowE 3 1 (.slice (some ⟨g3, 0, none⟩) ((cntZ (D.getD k md0).ss.length ([] : List Int)).length) ((cntZ (D.getD k md0).ss.length ([] : List Int)).length)) (cntZ (D.getD k md0).ss.length (((D.getD k md0).gs.take 0).map As.t)).length ((cntZ (D.getD k md0).ss.length (((D.getD k md0).gs.take 0).map As.t)).map (Value.int .i64))], boxE b2 #[(D.getD k md0).sv, (D.getD k md0).av, (D.getD k md0).iv, (D.getD k md0).mv] 35, boxE b1 #[v] 26] (fun w hm => by rw [show ((D.getD k md0).gs.take 0).map As.t = ([] : List Int) from rfl]; exact hm) ?_
 refine lkQ1 (α := Nat) [0, 1, 2, 4, 5, 6, 7, 28, 29] rfl (fun i => [bigE [boxE b4 #[.slice (some ⟨g3, 0, none⟩) ((cntZ (D.getD k md0).ss.length ([] : List Int)).length) ((cntZ (D.getD k md0).ss.length ([] : List Int)).length)] 48, rowE 3 1 (.slice (some ⟨g3, 0, none⟩) ((cntZ (D.getD k md0).ss.length ([] : List Int)).length) ((cntZ (D.getD k md0).ss.length ([] : List Int)).length)) (cntZ (D.getD k md0).ss.length (((D.getD k md0).gs.take i).map As.t)).length ((cntZ (D.getD k md0).ss.length (((D.getD k md0).gs.take i).map As.t)).map (Value.int .i64))], boxE b2 #[(D.getD k md0).sv, (D.getD k md0).av, (D.getD k md0).iv, (D.getD k md0).mv] 35, boxE b1 #[v] 26]) (fun i => [(30, .int .i64 (i : Int))]) (fun i => i ≤ (D.getD k md0).gs.length) (fun i => (D.getD k md0).gs.length - i) 0 (Nat.zero_le _) (saQ rfl) (pfQ rfl) ?_
 intro i hi5
 have hi := hi5
 refine srQ ?_
 refine zbq rfl rfl rfl rfl rfl rfl (fun h6 => ?_) (fun h6 => ?_)
 ·
  refine ntQ (tcQ rfl (zcv (sbQ (srQ (hvQ rfl (riQ 2 rfl rfl rfl rfl (zaf ((hd.at (k := k) (by omega)).g))) ?_)))))
  refine hvQ rfl (zbb (us := [.int .i64 ((((D.getD k md0).gs).getD i as0).t), (((D.getD k md0).gs).getD i as0).ov]) rfl rfl rfl rfl (zaf ((hd.at (k := k) (by omega)).g)) (by omega) rfl (zbr asC 2 (fun _ => rfl) ((D.getD k md0).gs) as0 (show i < _ by omega) rfl)) (zdn rfl (zbl (z := .agg #[.int .i64 0, .slice none 0 0]) rfl rfl) ?_)
  intro b7
  refine zbh (cs' := #[.int .i64 ((((D.getD k md0).gs).getD i as0).t), (((D.getD k md0).gs).getD i as0).ov]) (i := 0) (off := 0) (us := [.int .i64 ((((D.getD k md0).gs).getD i as0).t), (((D.getD k md0).gs).getD i as0).ov]) rfl rfl rfl rfl rfl rfl rfl (zab rfl (zab ((hd.at (k := k) (by omega)).o.at (k := i) (by omega)).one zbc)) rfl rfl rfl (ntQ (reQ 1 rfl (hvQ rfl (fdQ 0 rfl rfl rfl) (hvQ rfl (zac rfl rfl rfl (zaa 0 rfl rfl)) ?_))))
  refine hl_callMF (R := (fun u_ p_ => u_ = .tuple #[] ∧ p_ = bigE [boxE b4 #[.slice (some ⟨g3, 0, none⟩) ((cntZ (D.getD k md0).ss.length ([] : List Int)).length) ((cntZ (D.getD k md0).ss.length ([] : List Int)).length)] 48, rowE 3 1 (.slice (some ⟨g3, 0, none⟩) ((cntZ (D.getD k md0).ss.length ([] : List Int)).length) ((cntZ (D.getD k md0).ss.length ([] : List Int)).length)) (incZ (cntZ (D.getD k md0).ss.length (((D.getD k md0).gs.take i).map As.t)) ((((D.getD k md0).gs).getD i as0).t)).length ((incZ (cntZ (D.getD k md0).ss.length (((D.getD k md0).gs.take i).map As.t)) ((((D.getD k md0).gs).getD i as0).t)).map (Value.int .i64))])) 1 rfl rfl rfl rfl rfl rfl (fun L w hX hm => zge b4 (.slice (some ⟨g3, 0, none⟩) ((cntZ (D.getD k md0).ss.length ([] : List Int)).length) ((cntZ (D.getD k md0).ss.length ([] : List Int)).length)) (cntZ (D.getD k md0).ss.length (((D.getD k md0).gs.take i).map As.t)) ((((D.getD k md0).gs).getD i as0).t) _ L w hm (by rw [zeo]; omega) (fun q => by have h9 := cntZ_le (n := (D.getD k md0).ss.length) (L := ((D.getD k md0).gs.take i).map As.t) (M := 1000) (by simp only [List.length_append, List.length_map, List.length_take]; omega) q; omega)) ?_
  intro v8 p9 hR10
  obtain ⟨rfl, rfl⟩ := hR10
  rw [cntZ_inc]
  refine zcl (l' := [boxE b7 #[.int .i64 ((((D.getD k md0).gs).getD i as0).t), (((D.getD k md0).gs).getD i as0).ov] 89, bigE [boxE b4 #[.slice (some ⟨g3, 0, none⟩) ((cntZ (D.getD k md0).ss.length ([] : List Int)).length) ((cntZ (D.getD k md0).ss.length ([] : List Int)).length)] 48, rowE 3 1 (.slice (some ⟨g3, 0, none⟩) ((cntZ (D.getD k md0).ss.length ([] : List Int)).length) ((cntZ (D.getD k md0).ss.length ([] : List Int)).length)) (cntZ (D.getD k md0).ss.length (((D.getD k md0).gs.take i).map As.t ++ [(((D.getD k md0).gs).getD i as0).t])).length ((cntZ (D.getD k md0).ss.length (((D.getD k md0).gs.take i).map As.t ++ [(((D.getD k md0).gs).getD i as0).t])).map (Value.int .i64))], boxE b2 #[(D.getD k md0).sv, (D.getD k md0).av, (D.getD k md0).iv, (D.getD k md0).mv] 35, boxE b1 #[v] 26]) rfl ?_
  refine zcu (zdh (zas (hvQ rfl (vaQ rfl rfl rfl) (enQ 1 rfl ?_))))
  refine zco [boxE b7 #[.int .i64 ((((D.getD k md0).gs).getD i as0).t), (((D.getD k md0).gs).getD i as0).ov] 89, bigE [boxE b4 #[.slice (some ⟨g3, 0, none⟩) ((cntZ (D.getD k md0).ss.length ([] : List Int)).length) ((cntZ (D.getD k md0).ss.length ([] : List Int)).length)] 48, rowE 3 1 (.slice (some ⟨g3, 0, none⟩) ((cntZ (D.getD k md0).ss.length ([] : List Int)).length) ((cntZ (D.getD k md0).ss.length ([] : List Int)).length)) (cntZ (D.getD k md0).ss.length (((D.getD k md0).gs.take (i + 1)).map As.t)).length ((cntZ (D.getD k md0).ss.length (((D.getD k md0).gs.take (i + 1)).map As.t)).map (Value.int .i64))], boxE b2 #[(D.getD k md0).sv, (D.getD k md0).av, (D.getD k md0).iv, (D.getD k md0).mv] 35, boxE b1 #[v] 26] (fun w hm => by rw [show ((D.getD k md0).gs.take (i + 1)).map As.t = ((D.getD k md0).gs.take i).map As.t ++ [(((D.getD k md0).gs).getD i as0).t] from take_map As.t as0 (by omega)]; exact hm) ?_
  exact zbs (i + 1) (by omega) (by omega) (saQ rfl) (slQ [1, 0, 0] rfl)
 refine ntQ (fcQ rfl ?_)
 refine zbj (zeb ?_)
 refine zal (zba (zfi (hvQ rfl (fdQ 3 rfl rfl rfl) (hvQ rfl (zac rfl rfl rfl (zaa 1 rfl rfl)) (hvQ rfl (lnQ rfl rfl rfl (zaf ((hd.at (k := k) (by omega)).m))) (zay 1 rfl (zaz ?_)))))))
 refine zfe [bigE [boxE b4 #[.slice (some ⟨g3, 0, none⟩) ((cntZ (D.getD k md0).ss.length ([] : List Int)).length) ((cntZ (D.getD k md0).ss.length ([] : List Int)).length)] 48, rowE 3 1 (.slice (some ⟨g3, 0, none⟩) ((cntZ (D.getD k md0).ss.length ([] : List Int)).length) ((cntZ (D.getD k md0).ss.length ([] : List Int)).length)) (cntZ (D.getD k md0).ss.length ((D.getD k md0).gs.map As.t ++ ((D.getD k md0).ms.take 0).map Mm.o)).length ((cntZ (D.getD k md0).ss.length ((D.getD k md0).gs.map As.t ++ ((D.getD k md0).ms.take 0).map Mm.o)).map (Value.int .i64))], boxE b2 #[(D.getD k md0).sv, (D.getD k md0).av, (D.getD k md0).iv, (D.getD k md0).mv] 35, boxE b1 #[v] 26] (fun w hm => by rw [show (D.getD k md0).gs.map As.t ++ ((D.getD k md0).ms.take 0).map Mm.o = ((D.getD k md0).gs.take i).map As.t by rw [List.take_zero, List.map_nil, List.append_nil, show i = (D.getD k md0).gs.length by omega, List.take_length]]; exact hm) ?_
 refine lkQ1 (α := Nat) [0, 1, 2, 4, 5, 6, 7, 31, 40, 41] rfl (fun i => [bigE [boxE b4 #[.slice (some ⟨g3, 0, none⟩) ((cntZ (D.getD k md0).ss.length ([] : List Int)).length) ((cntZ (D.getD k md0).ss.length ([] : List Int)).length)] 48, rowE 3 1 (.slice (some ⟨g3, 0, none⟩) ((cntZ (D.getD k md0).ss.length ([] : List Int)).length) ((cntZ (D.getD k md0).ss.length ([] : List Int)).length)) (cntZ (D.getD k md0).ss.length ((D.getD k md0).gs.map As.t ++ ((D.getD k md0).ms.take i).map Mm.o)).length ((cntZ (D.getD k md0).ss.length ((D.getD k md0).gs.map As.t ++ ((D.getD k md0).ms.take i).map Mm.o)).map (Value.int .i64))], boxE b2 #[(D.getD k md0).sv, (D.getD k md0).av, (D.getD k md0).iv, (D.getD k md0).mv] 35, boxE b1 #[v] 26]) (fun i => [(42, .int .i64 (i : Int))]) (fun i => i ≤ (D.getD k md0).ms.length) (fun i => (D.getD k md0).ms.length - i) 0 (Nat.zero_le _) (saQ rfl) (pfQ rfl) ?_
 intro i hi11
 have hi := hi11
 refine srQ ?_
 refine zbq rfl rfl rfl rfl rfl rfl (fun h12 => ?_) (fun h12 => ?_)
 ·
  refine ntQ (tcQ rfl (zcv (sbQ (srQ (hvQ rfl (riQ 4 rfl rfl rfl rfl (zaf ((hd.at (k := k) (by omega)).m))) ?_)))))
  refine hvQ rfl (zbb (us := [.int .i64 ((((D.getD k md0).ms).getD i mm0).a), .int .i64 ((((D.getD k md0).ms).getD i mm0).d), .int .i64 ((((D.getD k md0).ms).getD i mm0).w), .int .i64 ((((D.getD k md0).ms).getD i mm0).o)]) rfl rfl rfl rfl (zaf ((hd.at (k := k) (by omega)).m)) (by omega) rfl (zbr mmC 4 (fun _ => rfl) ((D.getD k md0).ms) mm0 (show i < _ by omega) rfl)) (zdn rfl (zbl (z := .agg #[.int .i64 0, .int .i64 0, .int .i64 0, .int .i64 0]) rfl rfl) ?_)
  intro b13
  refine zbh (cs' := #[.int .i64 ((((D.getD k md0).ms).getD i mm0).a), .int .i64 ((((D.getD k md0).ms).getD i mm0).d), .int .i64 ((((D.getD k md0).ms).getD i mm0).w), .int .i64 ((((D.getD k md0).ms).getD i mm0).o)]) (i := 0) (off := 0) (us := [.int .i64 ((((D.getD k md0).ms).getD i mm0).a), .int .i64 ((((D.getD k md0).ms).getD i mm0).d), .int .i64 ((((D.getD k md0).ms).getD i mm0).w), .int .i64 ((((D.getD k md0).ms).getD i mm0).o)]) rfl rfl rfl rfl rfl rfl rfl (zab rfl (zab rfl (zab rfl (zab rfl zbc)))) rfl rfl rfl (ntQ (reQ 1 rfl (hvQ rfl (fdQ 3 rfl rfl rfl) (hvQ rfl (zac rfl rfl rfl (zaa 0 rfl rfl)) ?_))))
  refine hl_callMF (R := (fun u_ p_ => u_ = .tuple #[] ∧ p_ = bigE [boxE b4 #[.slice (some ⟨g3, 0, none⟩) ((cntZ (D.getD k md0).ss.length ([] : List Int)).length) ((cntZ (D.getD k md0).ss.length ([] : List Int)).length)] 48, rowE 3 1 (.slice (some ⟨g3, 0, none⟩) ((cntZ (D.getD k md0).ss.length ([] : List Int)).length) ((cntZ (D.getD k md0).ss.length ([] : List Int)).length)) (incZ (cntZ (D.getD k md0).ss.length ((D.getD k md0).gs.map As.t ++ ((D.getD k md0).ms.take i).map Mm.o)) ((((D.getD k md0).ms).getD i mm0).o)).length ((incZ (cntZ (D.getD k md0).ss.length ((D.getD k md0).gs.map As.t ++ ((D.getD k md0).ms.take i).map Mm.o)) ((((D.getD k md0).ms).getD i mm0).o)).map (Value.int .i64))])) 1 rfl rfl rfl rfl rfl rfl (fun L w hX hm => zge b4 (.slice (some ⟨g3, 0, none⟩) ((cntZ (D.getD k md0).ss.length ([] : List Int)).length) ((cntZ (D.getD k md0).ss.length ([] : List Int)).length)) (cntZ (D.getD k md0).ss.length ((D.getD k md0).gs.map As.t ++ ((D.getD k md0).ms.take i).map Mm.o)) ((((D.getD k md0).ms).getD i mm0).o) _ L w hm (by rw [zeo]; omega) (fun q => by have h9 := cntZ_le (n := (D.getD k md0).ss.length) (L := (D.getD k md0).gs.map As.t ++ ((D.getD k md0).ms.take i).map Mm.o) (M := 1000) (by simp only [List.length_append, List.length_map, List.length_take]; omega) q; omega)) ?_
  intro v14 p15 hR16
  obtain ⟨rfl, rfl⟩ := hR16
  rw [cntZ_inc]
  refine zcl (l' := [boxE b13 #[.int .i64 ((((D.getD k md0).ms).getD i mm0).a), .int .i64 ((((D.getD k md0).ms).getD i mm0).d), .int .i64 ((((D.getD k md0).ms).getD i mm0).w), .int .i64 ((((D.getD k md0).ms).getD i mm0).o)] 94, bigE [boxE b4 #[.slice (some ⟨g3, 0, none⟩) ((cntZ (D.getD k md0).ss.length ([] : List Int)).length) ((cntZ (D.getD k md0).ss.length ([] : List Int)).length)] 48, rowE 3 1 (.slice (some ⟨g3, 0, none⟩) ((cntZ (D.getD k md0).ss.length ([] : List Int)).length) ((cntZ (D.getD k md0).ss.length ([] : List Int)).length)) (cntZ (D.getD k md0).ss.length ((D.getD k md0).gs.map As.t ++ ((D.getD k md0).ms.take i).map Mm.o ++ [(((D.getD k md0).ms).getD i mm0).o])).length ((cntZ (D.getD k md0).ss.length ((D.getD k md0).gs.map As.t ++ ((D.getD k md0).ms.take i).map Mm.o ++ [(((D.getD k md0).ms).getD i mm0).o])).map (Value.int .i64))], boxE b2 #[(D.getD k md0).sv, (D.getD k md0).av, (D.getD k md0).iv, (D.getD k md0).mv] 35, boxE b1 #[v] 26]) rfl ?_
  refine zcu (zdh (zas (hvQ rfl (vaQ rfl rfl rfl) (enQ 1 rfl ?_))))
  refine zco [boxE b13 #[.int .i64 ((((D.getD k md0).ms).getD i mm0).a), .int .i64 ((((D.getD k md0).ms).getD i mm0).d), .int .i64 ((((D.getD k md0).ms).getD i mm0).w), .int .i64 ((((D.getD k md0).ms).getD i mm0).o)] 94, bigE [boxE b4 #[.slice (some ⟨g3, 0, none⟩) ((cntZ (D.getD k md0).ss.length ([] : List Int)).length) ((cntZ (D.getD k md0).ss.length ([] : List Int)).length)] 48, rowE 3 1 (.slice (some ⟨g3, 0, none⟩) ((cntZ (D.getD k md0).ss.length ([] : List Int)).length) ((cntZ (D.getD k md0).ss.length ([] : List Int)).length)) (cntZ (D.getD k md0).ss.length ((D.getD k md0).gs.map As.t ++ ((D.getD k md0).ms.take (i + 1)).map Mm.o)).length ((cntZ (D.getD k md0).ss.length ((D.getD k md0).gs.map As.t ++ ((D.getD k md0).ms.take (i + 1)).map Mm.o)).map (Value.int .i64))], boxE b2 #[(D.getD k md0).sv, (D.getD k md0).av, (D.getD k md0).iv, (D.getD k md0).mv] 35, boxE b1 #[v] 26] (fun w hm => by rw [show (D.getD k md0).gs.map As.t ++ ((D.getD k md0).ms.take (i + 1)).map Mm.o = (D.getD k md0).gs.map As.t ++ ((D.getD k md0).ms.take i).map Mm.o ++ [(((D.getD k md0).ms).getD i mm0).o] by rw [take_map Mm.o mm0 (by omega), List.append_assoc]]; exact hm) ?_
  exact zbs (i + 1) (by omega) (by omega) (saQ rfl) (slQ [1, 0, 0] rfl)
 refine ntQ (fcQ rfl ?_)
 refine zbj (zeb ?_)
 refine zal (zba (zfi (hvQ rfl (fdQ 2 rfl rfl rfl) (hvQ rfl (zac rfl rfl rfl (zaa 1 rfl rfl)) (hvQ rfl (lnQ rfl rfl rfl (zaf ((hd.at (k := k) (by omega)).x))) (zay 1 rfl (zaz ?_)))))))
 refine zfe [bigE [boxE b4 #[.slice (some ⟨g3, 0, none⟩) ((cntZ (D.getD k md0).ss.length ([] : List Int)).length) ((cntZ (D.getD k md0).ss.length ([] : List Int)).length)] 48, rowE 3 1 (.slice (some ⟨g3, 0, none⟩) ((cntZ (D.getD k md0).ss.length ([] : List Int)).length) ((cntZ (D.getD k md0).ss.length ([] : List Int)).length)) (cntZ (D.getD k md0).ss.length ((D.getD k md0).gs.map As.t ++ (D.getD k md0).ms.map Mm.o ++ ((D.getD k md0).xs.take 0).flatMap (xoK D))).length ((cntZ (D.getD k md0).ss.length ((D.getD k md0).gs.map As.t ++ (D.getD k md0).ms.map Mm.o ++ ((D.getD k md0).xs.take 0).flatMap (xoK D))).map (Value.int .i64))], boxE b2 #[(D.getD k md0).sv, (D.getD k md0).av, (D.getD k md0).iv, (D.getD k md0).mv] 35, boxE b1 #[v] 26] (fun w hm => by rw [show (D.getD k md0).gs.map As.t ++ (D.getD k md0).ms.map Mm.o ++ ((D.getD k md0).xs.take 0).flatMap (xoK D) = (D.getD k md0).gs.map As.t ++ ((D.getD k md0).ms.take i).map Mm.o by rw [List.take_zero, List.flatMap_nil, List.append_nil, show i = (D.getD k md0).ms.length by omega, List.take_length]]; exact hm) ?_
 refine lkQ1 (α := Nat) [0, 1, 2, 4, 5, 6, 7, 31, 43, 52, 53] rfl (fun i => [bigE [boxE b4 #[.slice (some ⟨g3, 0, none⟩) ((cntZ (D.getD k md0).ss.length ([] : List Int)).length) ((cntZ (D.getD k md0).ss.length ([] : List Int)).length)] 48, rowE 3 1 (.slice (some ⟨g3, 0, none⟩) ((cntZ (D.getD k md0).ss.length ([] : List Int)).length) ((cntZ (D.getD k md0).ss.length ([] : List Int)).length)) (cntZ (D.getD k md0).ss.length ((D.getD k md0).gs.map As.t ++ (D.getD k md0).ms.map Mm.o ++ ((D.getD k md0).xs.take i).flatMap (xoK D))).length ((cntZ (D.getD k md0).ss.length ((D.getD k md0).gs.map As.t ++ (D.getD k md0).ms.map Mm.o ++ ((D.getD k md0).xs.take i).flatMap (xoK D))).map (Value.int .i64))], boxE b2 #[(D.getD k md0).sv, (D.getD k md0).av, (D.getD k md0).iv, (D.getD k md0).mv] 35, boxE b1 #[v] 26]) (fun i => [(54, .int .i64 (i : Int))]) (fun i => i ≤ (D.getD k md0).xs.length) (fun i => (D.getD k md0).xs.length - i) 0 (Nat.zero_le _) (saQ rfl) (pfQ rfl) ?_
 intro i hi17
 have hi := hi17
 have hfx := flatX_le (D := D) (L := (D.getD k md0).xs) i hi
 refine srQ ?_
 refine zbq rfl rfl rfl rfl rfl rfl (fun h18 => ?_) (fun h18 => ?_)
 ·
  refine ntQ (tcQ rfl (zcv (sbQ (srQ (hvQ rfl (riQ 3 rfl rfl rfl rfl (zaf ((hd.at (k := k) (by omega)).x))) ?_)))))
  refine hvQ rfl (zbb (us := [.int .i64 ((((D.getD k md0).xs).getD i ix0).m), .int .i64 ((((D.getD k md0).xs).getD i ix0).p), (((D.getD k md0).xs).getD i ix0).pv]) rfl rfl rfl rfl (zaf ((hd.at (k := k) (by omega)).x)) (by omega) rfl (zbr ixC 3 (fun _ => rfl) ((D.getD k md0).xs) ix0 (show i < _ by omega) rfl)) (zdn rfl (zbl (z := .agg #[.int .i64 0, .int .i64 0, .slice none 0 0]) rfl rfl) ?_)
  intro b19
  refine zbh (cs' := #[.int .i64 ((((D.getD k md0).xs).getD i ix0).m), .int .i64 ((((D.getD k md0).xs).getD i ix0).p), (((D.getD k md0).xs).getD i ix0).pv]) (i := 0) (off := 0) (us := [.int .i64 ((((D.getD k md0).xs).getD i ix0).m), .int .i64 ((((D.getD k md0).xs).getD i ix0).p), (((D.getD k md0).xs).getD i ix0).pv]) rfl rfl rfl rfl rfl rfl rfl (zab rfl (zab rfl (zab ((hd.at (k := k) (by omega)).p.at (k := i) (by omega)).one zbc))) rfl rfl rfl (ntQ (srQ ?_))
  obtain ⟨⟨hm0, hm1⟩, hpe⟩ := hins i (by omega)
  refine hvQ rfl (fdQ 0 rfl rfl rfl) (hvQ rfl (zac rfl rfl rfl (zaa 3 rfl rfl)) (hvQ rfl (fdQ 0 rfl rfl rfl) (hvQ rfl (zac rfl rfl rfl (zaa 0 rfl rfl)) (hvQ rfl (riQ 4 rfl rfl rfl rfl (zaf hd.row)) ?_))))
  refine hvQ rfl (zbb (us := [(D.getD (((((D.getD k md0).xs).getD i ix0).m).toNat) md0).sv, (D.getD (((((D.getD k md0).xs).getD i ix0).m).toNat) md0).av, (D.getD (((((D.getD k md0).xs).getD i ix0).m).toNat) md0).iv, (D.getD (((((D.getD k md0).xs).getD i ix0).m).toNat) md0).mv]) rfl rfl rfl rfl (zaf hd.row) (by omega) rfl (zbr mdC 4 (fun _ => rfl) D md0 (show ((((D.getD k md0).xs).getD i ix0).m).toNat < _ by omega) rfl)) (zdn rfl (zbl (z := .agg #[.slice none 0 0, .slice none 0 0, .slice none 0 0, .slice none 0 0]) rfl rfl) ?_)
  intro b20
  refine zbh (cs' := #[(D.getD (((((D.getD k md0).xs).getD i ix0).m).toNat) md0).sv, (D.getD (((((D.getD k md0).xs).getD i ix0).m).toNat) md0).av, (D.getD (((((D.getD k md0).xs).getD i ix0).m).toNat) md0).iv, (D.getD (((((D.getD k md0).xs).getD i ix0).m).toNat) md0).mv]) (i := 0) (off := 0) (us := [(D.getD (((((D.getD k md0).xs).getD i ix0).m).toNat) md0).sv, (D.getD (((((D.getD k md0).xs).getD i ix0).m).toNat) md0).av, (D.getD (((((D.getD k md0).xs).getD i ix0).m).toNat) md0).iv, (D.getD (((((D.getD k md0).xs).getD i ix0).m).toNat) md0).mv]) rfl rfl rfl rfl rfl rfl rfl (zab (hd.at (k := ((((D.getD k md0).xs).getD i ix0).m).toNat) (by omega)).s.one (zab (hd.at (k := ((((D.getD k md0).xs).getD i ix0).m).toNat) (by omega)).g.one (zab (hd.at (k := ((((D.getD k md0).xs).getD i ix0).m).toNat) (by omega)).x.one (zab (hd.at (k := ((((D.getD k md0).xs).getD i ix0).m).toNat) (by omega)).m.one zbc)))) rfl rfl rfl ?_
  refine ntQ (srQ (hvQ rfl (zax (cs := [(D.getD (((((D.getD k md0).xs).getD i ix0).m).toNat) md0).sv, (D.getD (((((D.getD k md0).xs).getD i ix0).m).toNat) md0).av, (D.getD (((((D.getD k md0).xs).getD i ix0).m).toNat) md0).iv, (D.getD (((((D.getD k md0).xs).getD i ix0).m).toNat) md0).mv]) rfl rfl rfl rfl rfl (zat 0 rfl 0 rfl)) ?_))
  refine hl_q rfl rfl rfl (zaw rfl rfl (fun w hm => zeq (D.getD (((((D.getD k md0).xs).getD i ix0).m).toNat) md0) w ((hd.at (by omega)).below hm.bel))) ?_
  intro v21 p22 hR23
  subst hR23
  refine hvQ rfl (lnQ rfl rfl rfl (zaj 0 rfl)) (zay 1 rfl (zaz ?_))
  refine zfe [rowE 3 1 v21 ((ptsK (D.getD (((((D.getD k md0).xs).getD i ix0).m).toNat) md0)).length) ((ptsK (D.getD (((((D.getD k md0).xs).getD i ix0).m).toNat) md0)).map (Value.int .i64)), boxE b20 #[(D.getD (((((D.getD k md0).xs).getD i ix0).m).toNat) md0).sv, (D.getD (((((D.getD k md0).xs).getD i ix0).m).toNat) md0).av, (D.getD (((((D.getD k md0).xs).getD i ix0).m).toNat) md0).iv, (D.getD (((((D.getD k md0).xs).getD i ix0).m).toNat) md0).mv] 35, boxE b19 #[.int .i64 ((((D.getD k md0).xs).getD i ix0).m), .int .i64 ((((D.getD k md0).xs).getD i ix0).p), (((D.getD k md0).xs).getD i ix0).pv] 63, bigE [boxE b4 #[.slice (some ⟨g3, 0, none⟩) ((cntZ (D.getD k md0).ss.length ([] : List Int)).length) ((cntZ (D.getD k md0).ss.length ([] : List Int)).length)] 48, rowE 3 1 (.slice (some ⟨g3, 0, none⟩) ((cntZ (D.getD k md0).ss.length ([] : List Int)).length) ((cntZ (D.getD k md0).ss.length ([] : List Int)).length)) (cntZ (D.getD k md0).ss.length ((D.getD k md0).gs.map As.t ++ (D.getD k md0).ms.map Mm.o ++ ((D.getD k md0).xs.take i).flatMap (xoK D) ++ xoA D ((D.getD k md0).xs.getD i ix0) 0)).length ((cntZ (D.getD k md0).ss.length ((D.getD k md0).gs.map As.t ++ (D.getD k md0).ms.map Mm.o ++ ((D.getD k md0).xs.take i).flatMap (xoK D) ++ xoA D ((D.getD k md0).xs.getD i ix0) 0)).map (Value.int .i64))], boxE b2 #[(D.getD k md0).sv, (D.getD k md0).av, (D.getD k md0).iv, (D.getD k md0).mv] 35, boxE b1 #[v] 26] (fun w hm => by rw [show (D.getD k md0).gs.map As.t ++ (D.getD k md0).ms.map Mm.o ++ ((D.getD k md0).xs.take i).flatMap (xoK D) ++ xoA D ((D.getD k md0).xs.getD i ix0) 0 = (D.getD k md0).gs.map As.t ++ (D.getD k md0).ms.map Mm.o ++ ((D.getD k md0).xs.take i).flatMap (xoK D) from List.append_nil _]; exact hm) ?_
  refine lkQ1 (α := Nat) [0, 1, 2, 4, 5, 6, 7, 13, 14, 31, 43, 52, 53, 54, 55, 65, 66] rfl (fun j => [rowE 3 1 v21 ((ptsK (D.getD (((((D.getD k md0).xs).getD i ix0).m).toNat) md0)).length) ((ptsK (D.getD (((((D.getD k md0).xs).getD i ix0).m).toNat) md0)).map (Value.int .i64)), boxE b20 #[(D.getD (((((D.getD k md0).xs).getD i ix0).m).toNat) md0).sv, (D.getD (((((D.getD k md0).xs).getD i ix0).m).toNat) md0).av, (D.getD (((((D.getD k md0).xs).getD i ix0).m).toNat) md0).iv, (D.getD (((((D.getD k md0).xs).getD i ix0).m).toNat) md0).mv] 35, boxE b19 #[.int .i64 ((((D.getD k md0).xs).getD i ix0).m), .int .i64 ((((D.getD k md0).xs).getD i ix0).p), (((D.getD k md0).xs).getD i ix0).pv] 63, bigE [boxE b4 #[.slice (some ⟨g3, 0, none⟩) ((cntZ (D.getD k md0).ss.length ([] : List Int)).length) ((cntZ (D.getD k md0).ss.length ([] : List Int)).length)] 48, rowE 3 1 (.slice (some ⟨g3, 0, none⟩) ((cntZ (D.getD k md0).ss.length ([] : List Int)).length) ((cntZ (D.getD k md0).ss.length ([] : List Int)).length)) (cntZ (D.getD k md0).ss.length ((D.getD k md0).gs.map As.t ++ (D.getD k md0).ms.map Mm.o ++ ((D.getD k md0).xs.take i).flatMap (xoK D) ++ xoA D ((D.getD k md0).xs.getD i ix0) j)).length ((cntZ (D.getD k md0).ss.length ((D.getD k md0).gs.map As.t ++ (D.getD k md0).ms.map Mm.o ++ ((D.getD k md0).xs.take i).flatMap (xoK D) ++ xoA D ((D.getD k md0).xs.getD i ix0) j)).map (Value.int .i64))], boxE b2 #[(D.getD k md0).sv, (D.getD k md0).av, (D.getD k md0).iv, (D.getD k md0).mv] 35, boxE b1 #[v] 26]) (fun j => [(67, .int .i64 (j : Int))]) (fun j => j ≤ (ptsK (D.getD (((((D.getD k md0).xs).getD i ix0).m).toNat) md0)).length) (fun j => (ptsK (D.getD (((((D.getD k md0).xs).getD i ix0).m).toNat) md0)).length - j) 0 (Nat.zero_le _) (saQ rfl) (pfQ rfl) ?_
  intro j hi24
  have hj := hi24
  have hpl := zfx (D.getD (((((D.getD k md0).xs).getD i ix0).m).toNat) md0)
  have hxa := xoA_le D ((D.getD k md0).xs.getD i ix0) j
  refine srQ ?_
  refine zbq rfl rfl rfl rfl rfl rfl (fun h25 => ?_) (fun h25 => ?_)
  ·
   refine ntQ (tcQ rfl (zcv (sbQ (zag (reQ 1 rfl (hvQ rfl (riQ 1 rfl rfl rfl rfl (zaj 0 rfl)) (hvQ rfl (zan (u := .int .i64 ((ptsK (D.getD (((((D.getD k md0).xs).getD i ix0).m).toNat) md0)).getD j 0)) rfl rfl rfl (zaj 0 rfl) (zcn (show _ < (ptsK (D.getD (((((D.getD k md0).xs).getD i ix0).m).toNat) md0)).length by omega))) ?_)))))))
   refine zay 2 rfl (srQ ?_)
   have hpt := zdu (m := (D.getD (((((D.getD k md0).xs).getD i ix0).m).toNat) md0)) (j := j) (by omega)
   have hkd := zcp hpt
   refine hvQ rfl (fdQ 0 rfl rfl rfl) (hvQ rfl (zac rfl rfl rfl (zaa 1 rfl rfl)) (zam 1 rfl (hvQ rfl (riQ 3 rfl rfl rfl rfl (zaf ((hd.at (k := ((((D.getD k md0).xs).getD i ix0).m).toNat) (by omega)).s))) (hvQ rfl (zaq (k0 := 0) rfl rfl rfl (zaf ((hd.at (k := ((((D.getD k md0).xs).getD i ix0).m).toNat) (by omega)).s)) (by omega)) ?_))))
   refine hvQ rfl (zan (u := .int .i64 ((((D.getD (((((D.getD k md0).xs).getD i ix0).m).toNat) md0).ss).getD (((ptsK (D.getD (((((D.getD k md0).xs).getD i ix0).m).toNat) md0)).getD j 0).toNat) sg0).k)) rfl rfl rfl (zaf ((hd.at (k := ((((D.getD k md0).xs).getD i ix0).m).toNat) (by omega)).s)) ((zbd sgC 3 (fun _ => rfl) ((D.getD (((((D.getD k md0).xs).getD i ix0).m).toNat) md0).ss) sg0 (show ((ptsK (D.getD (((((D.getD k md0).xs).getD i ix0).m).toNat) md0)).getD j 0).toNat < _ by omega) (by decide)).trans rfl)) (zbu rfl rfl rfl rfl rfl rfl (fun h26 => ?_) (fun h26 => ?_))
   ·
    refine ntQ (zah rfl (reQ 1 rfl (hvQ rfl (fdQ 2 rfl rfl rfl) (hvQ rfl (zac rfl rfl rfl (zaa 2 rfl rfl)) (zam 1 rfl (hvQ rfl (riQ 1 rfl rfl rfl rfl (zaf ((hd.at (k := k) (by omega)).p.at (k := i) (by omega)))) (hvQ rfl (zan (u := .int .i64 (((((D.getD k md0).xs).getD i ix0).ps).getD j 0)) rfl rfl rfl (zaf ((hd.at (k := k) (by omega)).p.at (k := i) (by omega))) (zcn (show _ < ((((D.getD k md0).xs).getD i ix0).ps).length by omega))) ?_)))))))
    refine hl_callMF (R := (fun u_ p_ => u_ = .tuple #[] ∧ p_ = bigE [boxE b4 #[.slice (some ⟨g3, 0, none⟩) ((cntZ (D.getD k md0).ss.length ([] : List Int)).length) ((cntZ (D.getD k md0).ss.length ([] : List Int)).length)] 48, rowE 3 1 (.slice (some ⟨g3, 0, none⟩) ((cntZ (D.getD k md0).ss.length ([] : List Int)).length) ((cntZ (D.getD k md0).ss.length ([] : List Int)).length)) (incZ (cntZ (D.getD k md0).ss.length ((D.getD k md0).gs.map As.t ++ (D.getD k md0).ms.map Mm.o ++ ((D.getD k md0).xs.take i).flatMap (xoK D) ++ xoA D ((D.getD k md0).xs.getD i ix0) j)) (((((D.getD k md0).xs).getD i ix0).ps).getD j 0)).length ((incZ (cntZ (D.getD k md0).ss.length ((D.getD k md0).gs.map As.t ++ (D.getD k md0).ms.map Mm.o ++ ((D.getD k md0).xs.take i).flatMap (xoK D) ++ xoA D ((D.getD k md0).xs.getD i ix0) j)) (((((D.getD k md0).xs).getD i ix0).ps).getD j 0)).map (Value.int .i64))])) 3 rfl rfl rfl rfl rfl rfl (fun L w hX hm => zge b4 (.slice (some ⟨g3, 0, none⟩) ((cntZ (D.getD k md0).ss.length ([] : List Int)).length) ((cntZ (D.getD k md0).ss.length ([] : List Int)).length)) (cntZ (D.getD k md0).ss.length ((D.getD k md0).gs.map As.t ++ (D.getD k md0).ms.map Mm.o ++ ((D.getD k md0).xs.take i).flatMap (xoK D) ++ xoA D ((D.getD k md0).xs.getD i ix0) j)) (((((D.getD k md0).xs).getD i ix0).ps).getD j 0) _ L w hm (by rw [zeo]; omega) (fun q => by have h9 := cntZ_le (n := (D.getD k md0).ss.length) (L := (D.getD k md0).gs.map As.t ++ (D.getD k md0).ms.map Mm.o ++ ((D.getD k md0).xs.take i).flatMap (xoK D) ++ xoA D ((D.getD k md0).xs.getD i ix0) j) (M := 1000) (by simp only [List.length_append, List.length_map, List.length_take]; omega) q; omega)) ?_
    intro v27 p28 hR29
    obtain ⟨rfl, rfl⟩ := hR29
    rw [cntZ_inc]
    refine zcl (l' := [rowE 3 1 v21 ((ptsK (D.getD (((((D.getD k md0).xs).getD i ix0).m).toNat) md0)).length) ((ptsK (D.getD (((((D.getD k md0).xs).getD i ix0).m).toNat) md0)).map (Value.int .i64)), boxE b20 #[(D.getD (((((D.getD k md0).xs).getD i ix0).m).toNat) md0).sv, (D.getD (((((D.getD k md0).xs).getD i ix0).m).toNat) md0).av, (D.getD (((((D.getD k md0).xs).getD i ix0).m).toNat) md0).iv, (D.getD (((((D.getD k md0).xs).getD i ix0).m).toNat) md0).mv] 35, boxE b19 #[.int .i64 ((((D.getD k md0).xs).getD i ix0).m), .int .i64 ((((D.getD k md0).xs).getD i ix0).p), (((D.getD k md0).xs).getD i ix0).pv] 63, bigE [boxE b4 #[.slice (some ⟨g3, 0, none⟩) ((cntZ (D.getD k md0).ss.length ([] : List Int)).length) ((cntZ (D.getD k md0).ss.length ([] : List Int)).length)] 48, rowE 3 1 (.slice (some ⟨g3, 0, none⟩) ((cntZ (D.getD k md0).ss.length ([] : List Int)).length) ((cntZ (D.getD k md0).ss.length ([] : List Int)).length)) (cntZ (D.getD k md0).ss.length ((D.getD k md0).gs.map As.t ++ (D.getD k md0).ms.map Mm.o ++ ((D.getD k md0).xs.take i).flatMap (xoK D) ++ xoA D ((D.getD k md0).xs.getD i ix0) j ++ [((((D.getD k md0).xs).getD i ix0).ps).getD j 0])).length ((cntZ (D.getD k md0).ss.length ((D.getD k md0).gs.map As.t ++ (D.getD k md0).ms.map Mm.o ++ ((D.getD k md0).xs.take i).flatMap (xoK D) ++ xoA D ((D.getD k md0).xs.getD i ix0) j ++ [((((D.getD k md0).xs).getD i ix0).ps).getD j 0])).map (Value.int .i64))], boxE b2 #[(D.getD k md0).sv, (D.getD k md0).av, (D.getD k md0).iv, (D.getD k md0).mv] 35, boxE b1 #[v] 26]) rfl ?_
    refine zcu (zdh (zas (hvQ rfl (vaQ rfl rfl rfl) (enQ 1 rfl ?_))))
    refine zco [rowE 3 1 v21 ((ptsK (D.getD (((((D.getD k md0).xs).getD i ix0).m).toNat) md0)).length) ((ptsK (D.getD (((((D.getD k md0).xs).getD i ix0).m).toNat) md0)).map (Value.int .i64)), boxE b20 #[(D.getD (((((D.getD k md0).xs).getD i ix0).m).toNat) md0).sv, (D.getD (((((D.getD k md0).xs).getD i ix0).m).toNat) md0).av, (D.getD (((((D.getD k md0).xs).getD i ix0).m).toNat) md0).iv, (D.getD (((((D.getD k md0).xs).getD i ix0).m).toNat) md0).mv] 35, boxE b19 #[.int .i64 ((((D.getD k md0).xs).getD i ix0).m), .int .i64 ((((D.getD k md0).xs).getD i ix0).p), (((D.getD k md0).xs).getD i ix0).pv] 63, bigE [boxE b4 #[.slice (some ⟨g3, 0, none⟩) ((cntZ (D.getD k md0).ss.length ([] : List Int)).length) ((cntZ (D.getD k md0).ss.length ([] : List Int)).length)] 48, rowE 3 1 (.slice (some ⟨g3, 0, none⟩) ((cntZ (D.getD k md0).ss.length ([] : List Int)).length) ((cntZ (D.getD k md0).ss.length ([] : List Int)).length)) (cntZ (D.getD k md0).ss.length ((D.getD k md0).gs.map As.t ++ (D.getD k md0).ms.map Mm.o ++ ((D.getD k md0).xs.take i).flatMap (xoK D) ++ xoA D ((D.getD k md0).xs.getD i ix0) (j + 1))).length ((cntZ (D.getD k md0).ss.length ((D.getD k md0).gs.map As.t ++ (D.getD k md0).ms.map Mm.o ++ ((D.getD k md0).xs.take i).flatMap (xoK D) ++ xoA D ((D.getD k md0).xs.getD i ix0) (j + 1))).map (Value.int .i64))], boxE b2 #[(D.getD k md0).sv, (D.getD k md0).av, (D.getD k md0).iv, (D.getD k md0).mv] 35, boxE b1 #[v] 26] (fun w hm => by rw [show (D.getD k md0).gs.map As.t ++ (D.getD k md0).ms.map Mm.o ++ ((D.getD k md0).xs.take i).flatMap (xoK D) ++ xoA D ((D.getD k md0).xs.getD i ix0) (j + 1) = (D.getD k md0).gs.map As.t ++ (D.getD k md0).ms.map Mm.o ++ ((D.getD k md0).xs.take i).flatMap (xoK D) ++ xoA D ((D.getD k md0).xs.getD i ix0) j ++ [((((D.getD k md0).xs).getD i ix0).ps).getD j 0] by rw [xoA_yes (by omega), ← List.append_assoc]]; exact hm) ?_
    exact zbs (j + 1) (by omega) (by omega) (saQ rfl) (pfQ rfl)
   refine ntQ (fsQ rfl (zdh (zas (hvQ rfl (vaQ rfl rfl rfl) (enQ 1 rfl ?_)))))
   refine zco [rowE 3 1 v21 ((ptsK (D.getD (((((D.getD k md0).xs).getD i ix0).m).toNat) md0)).length) ((ptsK (D.getD (((((D.getD k md0).xs).getD i ix0).m).toNat) md0)).map (Value.int .i64)), boxE b20 #[(D.getD (((((D.getD k md0).xs).getD i ix0).m).toNat) md0).sv, (D.getD (((((D.getD k md0).xs).getD i ix0).m).toNat) md0).av, (D.getD (((((D.getD k md0).xs).getD i ix0).m).toNat) md0).iv, (D.getD (((((D.getD k md0).xs).getD i ix0).m).toNat) md0).mv] 35, boxE b19 #[.int .i64 ((((D.getD k md0).xs).getD i ix0).m), .int .i64 ((((D.getD k md0).xs).getD i ix0).p), (((D.getD k md0).xs).getD i ix0).pv] 63, bigE [boxE b4 #[.slice (some ⟨g3, 0, none⟩) ((cntZ (D.getD k md0).ss.length ([] : List Int)).length) ((cntZ (D.getD k md0).ss.length ([] : List Int)).length)] 48, rowE 3 1 (.slice (some ⟨g3, 0, none⟩) ((cntZ (D.getD k md0).ss.length ([] : List Int)).length) ((cntZ (D.getD k md0).ss.length ([] : List Int)).length)) (cntZ (D.getD k md0).ss.length ((D.getD k md0).gs.map As.t ++ (D.getD k md0).ms.map Mm.o ++ ((D.getD k md0).xs.take i).flatMap (xoK D) ++ xoA D ((D.getD k md0).xs.getD i ix0) (j + 1))).length ((cntZ (D.getD k md0).ss.length ((D.getD k md0).gs.map As.t ++ (D.getD k md0).ms.map Mm.o ++ ((D.getD k md0).xs.take i).flatMap (xoK D) ++ xoA D ((D.getD k md0).xs.getD i ix0) (j + 1))).map (Value.int .i64))], boxE b2 #[(D.getD k md0).sv, (D.getD k md0).av, (D.getD k md0).iv, (D.getD k md0).mv] 35, boxE b1 #[v] 26] (fun w hm => by rw [show (D.getD k md0).gs.map As.t ++ (D.getD k md0).ms.map Mm.o ++ ((D.getD k md0).xs.take i).flatMap (xoK D) ++ xoA D ((D.getD k md0).xs.getD i ix0) (j + 1) = (D.getD k md0).gs.map As.t ++ (D.getD k md0).ms.map Mm.o ++ ((D.getD k md0).xs.take i).flatMap (xoK D) ++ xoA D ((D.getD k md0).xs.getD i ix0) j by rw [xoA_no (by omega)]]; exact hm) ?_
   exact zbs (j + 1) (by omega) (by omega) (saQ rfl) (pfQ rfl)
  refine ntQ (fcQ rfl ?_)
  refine zbj (zeb ?_)
  refine zal (zdh (zas (hvQ rfl (vaQ rfl rfl rfl) (enQ 1 rfl ?_))))
  refine zco [rowE 3 1 v21 ((ptsK (D.getD (((((D.getD k md0).xs).getD i ix0).m).toNat) md0)).length) ((ptsK (D.getD (((((D.getD k md0).xs).getD i ix0).m).toNat) md0)).map (Value.int .i64)), boxE b20 #[(D.getD (((((D.getD k md0).xs).getD i ix0).m).toNat) md0).sv, (D.getD (((((D.getD k md0).xs).getD i ix0).m).toNat) md0).av, (D.getD (((((D.getD k md0).xs).getD i ix0).m).toNat) md0).iv, (D.getD (((((D.getD k md0).xs).getD i ix0).m).toNat) md0).mv] 35, boxE b19 #[.int .i64 ((((D.getD k md0).xs).getD i ix0).m), .int .i64 ((((D.getD k md0).xs).getD i ix0).p), (((D.getD k md0).xs).getD i ix0).pv] 63, bigE [boxE b4 #[.slice (some ⟨g3, 0, none⟩) ((cntZ (D.getD k md0).ss.length ([] : List Int)).length) ((cntZ (D.getD k md0).ss.length ([] : List Int)).length)] 48, rowE 3 1 (.slice (some ⟨g3, 0, none⟩) ((cntZ (D.getD k md0).ss.length ([] : List Int)).length) ((cntZ (D.getD k md0).ss.length ([] : List Int)).length)) (cntZ (D.getD k md0).ss.length ((D.getD k md0).gs.map As.t ++ (D.getD k md0).ms.map Mm.o ++ ((D.getD k md0).xs.take (i + 1)).flatMap (xoK D))).length ((cntZ (D.getD k md0).ss.length ((D.getD k md0).gs.map As.t ++ (D.getD k md0).ms.map Mm.o ++ ((D.getD k md0).xs.take (i + 1)).flatMap (xoK D))).map (Value.int .i64))], boxE b2 #[(D.getD k md0).sv, (D.getD k md0).av, (D.getD k md0).iv, (D.getD k md0).mv] 35, boxE b1 #[v] 26] (fun w hm => by rw [show (D.getD k md0).gs.map As.t ++ (D.getD k md0).ms.map Mm.o ++ ((D.getD k md0).xs.take (i + 1)).flatMap (xoK D) = (D.getD k md0).gs.map As.t ++ (D.getD k md0).ms.map Mm.o ++ ((D.getD k md0).xs.take i).flatMap (xoK D) ++ xoA D ((D.getD k md0).xs.getD i ix0) j by rw [take_flatX (xoK D) ix0 (by omega), ← List.append_assoc, show j = (ptsK (D.getD (((((D.getD k md0).xs).getD i ix0).m).toNat) md0)).length by omega]; rfl]; exact hm) ?_
  exact zbs (i + 1) (by omega) (by omega) (saQ rfl) (slQ [3, 0, 0] rfl)
 refine ntQ (fcQ rfl ?_)
 refine zbj (zeb ?_)
 refine zal (zba (srQ ?_))
 refine zfo 3 [2, 1, 0] rfl rfl (by decide) ?_
 refine zfd [boxE b4 #[.slice (some ⟨g3, 0, none⟩) ((cntZ (D.getD k md0).ss.length ([] : List Int)).length) ((cntZ (D.getD k md0).ss.length ([] : List Int)).length)] 48, rowE 3 1 (.slice (some ⟨g3, 0, none⟩) ((cntZ (D.getD k md0).ss.length ([] : List Int)).length) ((cntZ (D.getD k md0).ss.length ([] : List Int)).length)) ((cntZ (D.getD k md0).ss.length ((D.getD k md0).gs.map As.t ++ (D.getD k md0).ms.map Mm.o ++ ((D.getD k md0).xs.take i).flatMap (xoK D))).length) ((cntZ (D.getD k md0).ss.length ((D.getD k md0).gs.map As.t ++ (D.getD k md0).ms.map Mm.o ++ ((D.getD k md0).xs.take i).flatMap (xoK D))).map (Value.int .i64)), boxE b2 #[(D.getD k md0).sv, (D.getD k md0).av, (D.getD k md0).iv, (D.getD k md0).mv] 35, boxE b1 #[v] 26] zdb ?_
 refine hvQ rfl (zac rfl rfl rfl (zaa 0 rfl rfl)) (zay 1 rfl ?_)
 exact zao (zga (post := [rowE 3 1 (.slice (some ⟨g3, 0, none⟩) ((cntZ (D.getD k md0).ss.length ([] : List Int)).length) ((cntZ (D.getD k md0).ss.length ([] : List Int)).length)) ((cntZ (D.getD k md0).ss.length ((D.getD k md0).gs.map As.t ++ (D.getD k md0).ms.map Mm.o ++ ((D.getD k md0).xs.take i).flatMap (xoK D))).length) ((cntZ (D.getD k md0).ss.length ((D.getD k md0).gs.map As.t ++ (D.getD k md0).ms.map Mm.o ++ ((D.getD k md0).xs.take i).flatMap (xoK D))).map (Value.int .i64))]) rfl rfl (slQ [1] rfl) (by rw [show i = (D.getD k md0).xs.length by omega, List.take_length]; rfl))
theorem isDriven_ans (k : Int) (w : World)  :
   Calls Try.prog 54 #[.int .i64 k] w (Ans w (.bool (decide (1 ≤ k ∧ k ≤ 3)))) := by
 refine zca (N := 13) (args := [.int .i64 k]) Try.func54 rfl rfl (zbg 1 rfl (zag (reQ 1 rfl ?_)))
 refine zbu rfl rfl rfl rfl rfl rfl (fun h1 => ?_) (fun h1 => ?_)
 ·
  refine zay 9 rfl ?_
  exact zao (zav rfl rfl (congrArg _ (decide_eq_true (by omega)).symm))
 refine zam 2 rfl (zbu rfl rfl rfl rfl rfl rfl (fun h2 => ?_) (fun h2 => ?_))
 ·
  refine zay 6 rfl ?_
  exact zao (zav rfl rfl (congrArg _ (decide_eq_true (by omega)).symm))
 refine zam 3 rfl (zbu rfl rfl rfl rfl rfl rfl (fun h3 => ?_) (fun h3 => ?_))
 ·
  refine zay 2 rfl ?_
  exact zao (zav rfl rfl (congrArg _ (decide_eq_true (by omega)).symm))
 refine zay 2 rfl ?_
 exact zao (zav rfl rfl (congrArg _ (decide_eq_false (by omega)).symm))
theorem signalOk_ans (x : Sg) (w : World)  :
   Calls Try.prog 53 #[.agg #[.int .i64 x.k, .int .i64 x.w, .int .i64 x.i]] w (Ans w (.bool (pB (SgP x)))) := by
 refine zca (N := 26) (args := [.agg #[.int .i64 x.k, .int .i64 x.w, .int .i64 x.i]]) Try.func53 rfl rfl (srQ ?_)
 refine zdn rfl (zdm rfl rfl) ?_
 intro b1
 refine zay 1 rfl (zfi (hvQ rfl (fdQ 0 rfl rfl rfl) (hvQ rfl (zac rfl rfl rfl (zaa 0 rfl rfl)) ?_)))
 refine zem rfl (zaw rfl rfl (fun w hm => zbf (zek (zce _ _ _ w)))) (zbm (fun h2 => ?_) (fun h2 => ?_))
 ·
  obtain ⟨h2a, h2b⟩ := (zdc _ _ _).1 h2
  refine zam 2 rfl (hvQ rfl (fdQ 1 rfl rfl rfl) (hvQ rfl (zac rfl rfl rfl (zaa 0 rfl rfl)) ?_))
  refine zem rfl (zaw rfl rfl (fun w hm => zbf (zek (zce _ _ _ w)))) (zbm (fun h3 => ?_) (fun h3 => ?_))
  ·
   obtain ⟨h3a, h3b⟩ := (zdc _ _ _).1 h3
   refine zay 2 rfl (zap rfl (zcv (srQ (hvQ rfl (fdQ 2 rfl rfl rfl) (hvQ rfl (zac rfl rfl rfl (zaa 0 rfl rfl)) ?_)))))
   refine zbu rfl rfl rfl rfl rfl rfl (fun h4 => ?_) (fun h4 => ?_)
   ·
    refine zay 11 rfl ?_
    exact zao (zav rfl rfl (congrArg _ (zdi ⟨⟨by omega, by omega⟩, ⟨by omega, by omega⟩, ⟨by omega, by omega⟩, by omega⟩).symm))
   refine zam 1 rfl (hvQ rfl (fdQ 0 rfl rfl rfl) (hvQ rfl (zac rfl rfl rfl (zaa 0 rfl rfl)) ?_))
   refine zbu rfl rfl rfl rfl rfl rfl (fun h5 => ?_) (fun h5 => ?_)
   ·
    refine zam 1 rfl (hvQ rfl (fdQ 2 rfl rfl rfl) (hvQ rfl (zac rfl rfl rfl (zaa 0 rfl rfl)) ?_))
    refine zem rfl (zaw rfl rfl (fun w hm => zbf (zek (zce _ _ _ w)))) (zbm (fun h6 => ?_) (fun h6 => ?_))
    ·
     obtain ⟨h6a, h6b⟩ := (zdc _ _ _).1 h6
     refine zay 3 rfl ?_
     exact zao (zav rfl rfl (congrArg _ (zdi ⟨⟨by omega, by omega⟩, ⟨by omega, by omega⟩, ⟨by omega, by omega⟩, by omega⟩).symm))
    have h6a := zcy h6
    refine zay 3 rfl ?_
    exact zao (zav rfl rfl (congrArg _ (zbv (fun hp => by first | (obtain ⟨⟨h1, h2⟩, ⟨h3, h4⟩, ⟨h5, h6⟩, h7⟩ := hp; omega))).symm))
   refine zay 7 rfl ?_
   exact zao (zav rfl rfl (congrArg _ (zbv (fun hp => by first | (obtain ⟨⟨h1, h2⟩, ⟨h3, h4⟩, ⟨h5, h6⟩, h7⟩ := hp; omega))).symm))
  have h3a := zcy h3
  refine zay 2 rfl (zah rfl (zbg 1 rfl ?_))
  refine zao (zae ?_)
  exact zav rfl rfl (congrArg _ (zbv (fun hp => by first | (obtain ⟨⟨h1, h2⟩, ⟨h3, h4⟩, ⟨h5, h6⟩, h7⟩ := hp; omega))).symm)
 have h2a := zcy h2
 refine zay 7 rfl (zah rfl (srQ (enQ 1 rfl ?_)))
 refine zba (zao ?_)
 exact zae (zav rfl rfl (congrArg _ (zbv (fun hp => by first | (obtain ⟨⟨h1, h2⟩, ⟨h3, h4⟩, ⟨h5, h6⟩, h7⟩ := hp; omega))).symm))
theorem drives_ans (m : Md) (s : Int) (w : World) (hr : RdsMd w m) :
   Calls Try.prog 57 #[.agg #[m.sv, m.av, m.iv, m.mv], .int .i64 s] w (Ans w (.bool (pB (Drv m s)))) := by
 have hs9 := sml hr.s
 refine zca (N := 29) (args := [.agg #[m.sv, m.av, m.iv, m.mv], .int .i64 s]) Try.func57 rfl rfl (srQ ?_)
 refine zdn rfl (zdm rfl rfl) ?_
 intro b1
 refine zay 1 rfl (zag (reQ 1 rfl (hvQ rfl (fdQ 0 rfl rfl rfl) (hvQ rfl (zac rfl rfl rfl (zaa 0 rfl rfl)) (hvQ rfl (lnQ rfl rfl rfl (zaf ((hr).s))) (hvQ rfl (vsQ rfl rfl rfl) ?_))))))
 refine zem rfl (zaw rfl rfl (fun w hm => zbf (zek (zce _ _ _ w)))) (zbm (fun h2 => ?_) (fun h2 => ?_))
 ·
  obtain ⟨h2a, h2b⟩ := (zdc _ _ _).1 h2
  refine zam 1 rfl (hvQ rfl (fdQ 0 rfl rfl rfl) (hvQ rfl (zac rfl rfl rfl (zaa 0 rfl rfl)) (zam 1 rfl (hvQ rfl (riQ 3 rfl rfl rfl rfl (zaf ((hr).s))) (hvQ rfl (zaq (k0 := 0) rfl rfl rfl (zaf ((hr).s)) (by omega)) ?_)))))
  refine hvQ rfl (zan (u := .int .i64 ((m.ss.getD ((s).toNat) sg0).k)) rfl rfl rfl (zaf ((hr).s)) ((zbd sgC 3 (fun _ => rfl) m.ss sg0 (show (s).toNat < _ by omega) (by decide)).trans rfl)) (zbu rfl rfl rfl rfl rfl rfl (fun h3 => ?_) (fun h3 => ?_))
  ·
   refine zay 11 rfl ?_
   exact zao (zav rfl rfl (congrArg _ (zdi (by have h9 := zcp (m := m) (s := s) ⟨by omega, by omega⟩; first | exact .inl (by omega) | exact .inr (by omega))).symm))
  refine zam 1 rfl (hvQ rfl (fdQ 0 rfl rfl rfl) (hvQ rfl (zac rfl rfl rfl (zaa 0 rfl rfl)) (zam 1 rfl (hvQ rfl (riQ 3 rfl rfl rfl rfl (zaf ((hr).s))) (hvQ rfl (zaq (k0 := 0) rfl rfl rfl (zaf ((hr).s)) (by omega)) ?_)))))
  refine hvQ rfl (zan (u := .int .i64 ((m.ss.getD ((s).toNat) sg0).k)) rfl rfl rfl (zaf ((hr).s)) ((zbd sgC 3 (fun _ => rfl) m.ss sg0 (show (s).toNat < _ by omega) (by decide)).trans rfl)) (zbu rfl rfl rfl rfl rfl rfl (fun h4 => ?_) (fun h4 => ?_))
  ·
   refine zay 3 rfl ?_
   exact zao (zav rfl rfl (congrArg _ (zdi (by have h9 := zcp (m := m) (s := s) ⟨by omega, by omega⟩; first | exact .inl (by omega) | exact .inr (by omega))).symm))
  refine zay 3 rfl ?_
  exact zao (zav rfl rfl (congrArg _ (zbv (fun hp => by first | (have h8 := hp.inn; have h9 := zcp h8; obtain ⟨h6, h7⟩ := h8; rcases hp with hp | hp <;> omega))).symm))
 have h2a := zcy h2
 refine zay 19 rfl ?_
 exact zao (zav rfl rfl (congrArg _ (zbv (fun hp => by first | (have h8 := hp.inn; have h9 := zcp h8; obtain ⟨h6, h7⟩ := h8; rcases hp with hp | hp <;> omega))).symm))
theorem instOk_ans (D : List Md) (m : Md) (x : Ix) (v : Value) (w : World) (hd : RdsDs w v D) (hr : RdsMd w m) (hxp : RdsW w x.pv 1 x.ps.length (x.ps.map (Value.int .i64))) (hx0 : 0 ≤ x.m ∧ x.m < D.length) (hxl : x.ps.length = (ptsK (D.getD x.m.toNat md0)).length) :
   Calls Try.prog 56 #[.agg #[v], .agg #[m.sv, m.av, m.iv, m.mv], .agg #[.int .i64 x.m, .int .i64 x.p, x.pv]] w (Ans w (.bool (pB (IxP D m x)))) := by
 have hd9 := sml hd.row
 have hs9 := sml hr.s
 refine zca (N := 59) (args := [.agg #[v], .agg #[m.sv, m.av, m.iv, m.mv], .agg #[.int .i64 x.m, .int .i64 x.p, x.pv]]) Try.func56 rfl rfl (srQ ?_)
 refine zdn rfl (zdm rfl rfl) ?_
 intro b1
 refine zdn rfl (zdm rfl rfl) ?_
 intro b2
 refine zdn rfl (zdm rfl rfl) ?_
 intro b3
 refine zay 1 rfl (zfi (hvQ rfl (fdQ 1 rfl rfl rfl) (hvQ rfl (zac rfl rfl rfl (zaa 0 rfl rfl)) ?_)))
 refine zem rfl (zaw rfl rfl (fun w hm => zbf (zek (zce _ _ _ w)))) (zbm (fun h4 => ?_) (fun h4 => ?_))
 ·
  obtain ⟨h4a, h4b⟩ := (zdc _ _ _).1 h4
  refine zay 1 rfl (zap rfl (zcv (srQ (hvQ rfl (fdQ 0 rfl rfl rfl) (hvQ rfl (zac rfl rfl rfl (zaa 2 rfl rfl)) (hvQ rfl (fdQ 0 rfl rfl rfl) (hvQ rfl (zac rfl rfl rfl (zaa 0 rfl rfl)) (hvQ rfl (riQ 4 rfl rfl rfl rfl (zaf hd.row)) ?_))))))))
  refine hvQ rfl (zbb (us := [(D.getD ((x.m).toNat) md0).sv, (D.getD ((x.m).toNat) md0).av, (D.getD ((x.m).toNat) md0).iv, (D.getD ((x.m).toNat) md0).mv]) rfl rfl rfl rfl (zaf hd.row) (by omega) rfl (zbr mdC 4 (fun _ => rfl) D md0 (show (x.m).toNat < _ by omega) rfl)) (zdn rfl (zbl (z := .agg #[.slice none 0 0, .slice none 0 0, .slice none 0 0, .slice none 0 0]) rfl rfl) ?_)
  intro b5
  refine zbh (cs' := #[(D.getD ((x.m).toNat) md0).sv, (D.getD ((x.m).toNat) md0).av, (D.getD ((x.m).toNat) md0).iv, (D.getD ((x.m).toNat) md0).mv]) (i := 0) (off := 0) (us := [(D.getD ((x.m).toNat) md0).sv, (D.getD ((x.m).toNat) md0).av, (D.getD ((x.m).toNat) md0).iv, (D.getD ((x.m).toNat) md0).mv]) rfl rfl rfl rfl rfl rfl rfl (zab (hd.at (k := x.m.toNat) (by omega)).s.one (zab (hd.at (k := x.m.toNat) (by omega)).g.one (zab (hd.at (k := x.m.toNat) (by omega)).x.one (zab (hd.at (k := x.m.toNat) (by omega)).m.one zbc)))) rfl rfl rfl (ntQ (zfi (hvQ rfl (zax (cs := [(D.getD ((x.m).toNat) md0).sv, (D.getD ((x.m).toNat) md0).av, (D.getD ((x.m).toNat) md0).iv, (D.getD ((x.m).toNat) md0).mv]) rfl rfl rfl rfl rfl (zat 0 rfl 0 rfl)) ?_)))
  refine hl_q rfl rfl rfl (zaw rfl rfl (fun w hm => zeq (D.getD ((x.m).toNat) md0) w ((hd.at (by omega)).below hm.bel))) ?_
  intro v6 p7 hR8
  subst hR8
  refine hvQ rfl (lnQ rfl rfl rfl (zaj 0 rfl)) (zay 1 rfl (zaz ?_))
  refine lkQ1 (α := Nat) [0, 1, 2, 3, 4, 5, 6, 7, 13, 21, 22] rfl (fun j => [rowE 3 1 v6 ((ptsK (D.getD x.m.toNat md0)).length) ((ptsK (D.getD x.m.toNat md0)).map (Value.int .i64)), boxE b5 #[(D.getD ((x.m).toNat) md0).sv, (D.getD ((x.m).toNat) md0).av, (D.getD ((x.m).toNat) md0).iv, (D.getD ((x.m).toNat) md0).mv] 35, boxE b3 #[.int .i64 x.m, .int .i64 x.p, x.pv] 63, boxE b2 #[m.sv, m.av, m.iv, m.mv] 35, boxE b1 #[v] 26]) (fun j => [(23, .int .i64 (j : Int))]) (fun j => j ≤ (ptsK (D.getD x.m.toNat md0)).length ∧ ∀ r, r < j → Inn m (x.ps.getD r 0) ∧ (knd (D.getD x.m.toNat md0) ((ptsK (D.getD x.m.toNat md0)).getD r 0) = 1 → Drv m (x.ps.getD r 0))) (fun j => (ptsK (D.getD x.m.toNat md0)).length - j) 0 ⟨Nat.zero_le _, fun q hq => absurd hq (by omega)⟩ (saQ rfl) (pfQ rfl) ?_
  intro j hi9
  obtain ⟨hj, hj9⟩ := hi9
  have hpl := zfx (D.getD x.m.toNat md0)
  refine srQ ?_
  refine zbq rfl rfl rfl rfl rfl rfl (fun h10 => ?_) (fun h10 => ?_)
  ·
   refine ntQ (tcQ rfl (zcv (sbQ (zag (reQ 1 rfl (hvQ rfl (riQ 1 rfl rfl rfl rfl (zaj 0 rfl)) (hvQ rfl (zan (u := .int .i64 ((ptsK (D.getD x.m.toNat md0)).getD j 0)) rfl rfl rfl (zaj 0 rfl) (zcn (show _ < (ptsK (D.getD x.m.toNat md0)).length by omega))) ?_)))))))
   refine zay 2 rfl (zag ?_)
   have hpt := zdu (m := (D.getD x.m.toNat md0)) (j := j) (by omega)
   have hkd := zcp hpt
   rcases Bool.eq_false_or_eq_true (inR (x.ps.getD j 0) 0 ((m.ss.length : Int) - 1)) with hb11 | hb11
   ·
    obtain ⟨hb11a, hb11b⟩ := (zdc _ _ _).1 hb11
    have hpt := zdu (m := (D.getD x.m.toNat md0)) (j := j) (by omega)
    have hkd := zcp hpt
    rcases Bool.eq_false_or_eq_true (((((D.getD ((x.m).toNat) md0).ss).getD (((ptsK (D.getD x.m.toNat md0)).getD j 0).toNat) sg0).k) == 1) with hb12 | hb12
    ·
     have hb12p : (((D.getD ((x.m).toNat) md0).ss).getD (((ptsK (D.getD x.m.toNat md0)).getD j 0).toNat) sg0).k = 1 := beq_iff_eq.1 hb12
     have hpt := zdu (m := (D.getD x.m.toNat md0)) (j := j) (by omega)
     have hkd := zcp hpt
     rcases Bool.eq_false_or_eq_true (pB (Drv m (x.ps.getD j 0))) with hb13 | hb13
     ·
      have hb13p := zes hb13
      have hpt := zdu (m := (D.getD x.m.toNat md0)) (j := j) (by omega)
      have hkd := zcp hpt
      refine zbz 30 [[], [0], [], [1, 2], [3], [], [5], [6], [7], [4, 8], [9], [10], [11], [11, 12], [11], [11, 13, 14], [11, 15], [11, 16], [11, 17], [11, 18], [19], [19], [19, 21], [19], [19, 22, 23], [19, 24], [19, 20, 25], [19, 26], [11, 19, 27], [11, 28]] [28, 29, 30, 31, 32, 33, 34, 35, 36, 37, 38, 39, 40, 41, 42, 43, 44, 45, 46, 47, 48, 49, 50, 51, 52, 53, 54, 55, 56, 57] [.pointer (some ⟨b3, 0 + 2, none⟩), x.pv, .int .i64 (j : Int), elP x.pv (((j : Int)).toNat * 1), .int .i64 (x.ps.getD j 0), .pointer (some ⟨b2, 0 + 0, none⟩), m.sv, .int .i64 (m.ss.length : Int), .int .i64 ((m.ss.length : Int) - 1), .bool true, .bool false, .bool false, .pointer (some ⟨b5, 0 + 0, none⟩), (D.getD ((x.m).toNat) md0).sv, .int .i64 ((ptsK (D.getD x.m.toNat md0)).getD j 0), elP ((D.getD ((x.m).toNat) md0).sv) (((ptsK (D.getD x.m.toNat md0)).getD j 0).toNat * 3), elP ((D.getD ((x.m).toNat) md0).sv) (((ptsK (D.getD x.m.toNat md0)).getD j 0).toNat * 3 + 0), .int .i64 ((((D.getD ((x.m).toNat) md0).ss).getD (((ptsK (D.getD x.m.toNat md0)).getD j 0).toNat) sg0).k), .bool true, .bool true, .agg #[m.sv, m.av, m.iv, m.mv], .pointer (some ⟨b3, 0 + 2, none⟩), x.pv, .int .i64 (j : Int), elP x.pv (((j : Int)).toNat * 1), .int .i64 (x.ps.getD j 0), .bool true, .bool false, .bool false, .bool false] (by kernel_rfl) rfl ?_ ?_
      ·
       exact ⟨iaQ rfl (fdQ 2 rfl rfl rfl) rfl, iaQ rfl (zac rfl rfl rfl (zaa 2 rfl rfl)) rfl, iaQ rfl (zau rfl) rfl, iaQ rfl (riQ 1 rfl rfl rfl rfl (zaf hxp)) rfl, iaQ rfl (liQ rfl rfl rfl (zaf hxp)) rfl, iaQ rfl (fdQ 0 rfl rfl rfl) rfl, iaQ rfl (zac rfl rfl rfl (zaa 3 rfl rfl)) rfl, iaQ rfl (lnQ rfl rfl rfl (zaf ((hr).s))) rfl, iaQ rfl (vsQ rfl rfl rfl) rfl, .inl ⟨rfl, rq_cb (zaw rfl rfl (fun w hm => zbf (zek (zce _ _ _ w)))) hb11⟩, iaQ rfl (zau rfl) rfl, iaQ rfl (zau rfl) rfl, iaQ rfl (fdQ 0 rfl rfl rfl) rfl, iaQ rfl (zac rfl rfl rfl (zaa 1 rfl rfl)) rfl, iaQ rfl (zau rfl) rfl, iaQ rfl (riQ 3 rfl rfl rfl rfl (zaf ((hd.at (k := x.m.toNat) (by omega)).s))) rfl, iaQ rfl (zaq (k0 := 0) rfl rfl rfl (zaf ((hd.at (k := x.m.toNat) (by omega)).s)) (by omega)) rfl, iaQ rfl (zan (u := .int .i64 ((((D.getD ((x.m).toNat) md0).ss).getD (((ptsK (D.getD x.m.toNat md0)).getD j 0).toNat) sg0).k)) rfl rfl rfl (zaf ((hd.at (k := x.m.toNat) (by omega)).s)) ((zbd sgC 3 (fun _ => rfl) ((D.getD ((x.m).toNat) md0).ss) sg0 (show ((ptsK (D.getD x.m.toNat md0)).getD j 0).toNat < _ by omega) (by decide)).trans rfl)) rfl, .inl ⟨rfl, zdl (zcf rfl rfl rfl rfl) hb12⟩, iaQ rfl (zau rfl) rfl, iaQ rfl (zax (cs := [m.sv, m.av, m.iv, m.mv]) rfl rfl rfl rfl rfl (zat 3 rfl 0 rfl)) rfl, iaQ rfl (fdQ 2 rfl rfl rfl) rfl, iaQ rfl (zac rfl rfl rfl (zaa 2 rfl rfl)) rfl, iaQ rfl (zau rfl) rfl, iaQ rfl (riQ 1 rfl rfl rfl rfl (zaf hxp)) rfl, iaQ rfl (liQ rfl rfl rfl (zaf hxp)) rfl, .inl ⟨rfl, rq_cb (zaw rfl rfl (fun w hm => zbf (drives_ans m (x.ps.getD j 0) w (hr.below hm.bel)))) hb13⟩, iaQ rfl (zau rfl) rfl, iaQ rfl (zau rfl) rfl, iaQ rfl (zau rfl) rfl, trivial⟩
      simp only [List.drop_succ_cons, List.drop_zero]
      refine ntQ (fsQ rfl (zdh (zas (hvQ rfl (vaQ rfl rfl rfl) (enQ 1 rfl ?_)))))
      exact zbs (j + 1) ⟨by omega, fun r hr9 => by by_cases e : r = j; (subst e; exact ⟨⟨by omega, by omega⟩, fun _ => by first | assumption | (exfalso; omega)⟩); exact hj9 r (by omega)⟩ (by omega) (saQ rfl) (pfQ rfl)
     have hb13p := zdt hb13
     have hpt := zdu (m := (D.getD x.m.toNat md0)) (j := j) (by omega)
     have hkd := zcp hpt
     refine zbz 30 [[], [0], [], [1, 2], [3], [], [5], [6], [7], [4, 8], [9], [10], [11], [11, 12], [11], [11, 13, 14], [11, 15], [11, 16], [11, 17], [11, 18], [19], [19], [19, 21], [19], [19, 22, 23], [19, 24], [19, 20, 25], [19, 26], [11, 19, 27], [11, 28]] [28, 29, 30, 31, 32, 33, 34, 35, 36, 37, 38, 39, 40, 41, 42, 43, 44, 45, 46, 47, 48, 49, 50, 51, 52, 53, 54, 55, 56, 57] [.pointer (some ⟨b3, 0 + 2, none⟩), x.pv, .int .i64 (j : Int), elP x.pv (((j : Int)).toNat * 1), .int .i64 (x.ps.getD j 0), .pointer (some ⟨b2, 0 + 0, none⟩), m.sv, .int .i64 (m.ss.length : Int), .int .i64 ((m.ss.length : Int) - 1), .bool true, .bool false, .bool false, .pointer (some ⟨b5, 0 + 0, none⟩), (D.getD ((x.m).toNat) md0).sv, .int .i64 ((ptsK (D.getD x.m.toNat md0)).getD j 0), elP ((D.getD ((x.m).toNat) md0).sv) (((ptsK (D.getD x.m.toNat md0)).getD j 0).toNat * 3), elP ((D.getD ((x.m).toNat) md0).sv) (((ptsK (D.getD x.m.toNat md0)).getD j 0).toNat * 3 + 0), .int .i64 ((((D.getD ((x.m).toNat) md0).ss).getD (((ptsK (D.getD x.m.toNat md0)).getD j 0).toNat) sg0).k), .bool true, .bool true, .agg #[m.sv, m.av, m.iv, m.mv], .pointer (some ⟨b3, 0 + 2, none⟩), x.pv, .int .i64 (j : Int), elP x.pv (((j : Int)).toNat * 1), .int .i64 (x.ps.getD j 0), .bool false, .bool true, .bool true, .bool true] (by kernel_rfl) rfl ?_ ?_
     ·
      exact ⟨iaQ rfl (fdQ 2 rfl rfl rfl) rfl, iaQ rfl (zac rfl rfl rfl (zaa 2 rfl rfl)) rfl, iaQ rfl (zau rfl) rfl, iaQ rfl (riQ 1 rfl rfl rfl rfl (zaf hxp)) rfl, iaQ rfl (liQ rfl rfl rfl (zaf hxp)) rfl, iaQ rfl (fdQ 0 rfl rfl rfl) rfl, iaQ rfl (zac rfl rfl rfl (zaa 3 rfl rfl)) rfl, iaQ rfl (lnQ rfl rfl rfl (zaf ((hr).s))) rfl, iaQ rfl (vsQ rfl rfl rfl) rfl, .inl ⟨rfl, rq_cb (zaw rfl rfl (fun w hm => zbf (zek (zce _ _ _ w)))) hb11⟩, iaQ rfl (zau rfl) rfl, iaQ rfl (zau rfl) rfl, iaQ rfl (fdQ 0 rfl rfl rfl) rfl, iaQ rfl (zac rfl rfl rfl (zaa 1 rfl rfl)) rfl, iaQ rfl (zau rfl) rfl, iaQ rfl (riQ 3 rfl rfl rfl rfl (zaf ((hd.at (k := x.m.toNat) (by omega)).s))) rfl, iaQ rfl (zaq (k0 := 0) rfl rfl rfl (zaf ((hd.at (k := x.m.toNat) (by omega)).s)) (by omega)) rfl, iaQ rfl (zan (u := .int .i64 ((((D.getD ((x.m).toNat) md0).ss).getD (((ptsK (D.getD x.m.toNat md0)).getD j 0).toNat) sg0).k)) rfl rfl rfl (zaf ((hd.at (k := x.m.toNat) (by omega)).s)) ((zbd sgC 3 (fun _ => rfl) ((D.getD ((x.m).toNat) md0).ss) sg0 (show ((ptsK (D.getD x.m.toNat md0)).getD j 0).toNat < _ by omega) (by decide)).trans rfl)) rfl, .inl ⟨rfl, zdl (zcf rfl rfl rfl rfl) hb12⟩, iaQ rfl (zau rfl) rfl, iaQ rfl (zax (cs := [m.sv, m.av, m.iv, m.mv]) rfl rfl rfl rfl rfl (zat 3 rfl 0 rfl)) rfl, iaQ rfl (fdQ 2 rfl rfl rfl) rfl, iaQ rfl (zac rfl rfl rfl (zaa 2 rfl rfl)) rfl, iaQ rfl (zau rfl) rfl, iaQ rfl (riQ 1 rfl rfl rfl rfl (zaf hxp)) rfl, iaQ rfl (liQ rfl rfl rfl (zaf hxp)) rfl, .inl ⟨rfl, rq_cb (zaw rfl rfl (fun w hm => zbf (drives_ans m (x.ps.getD j 0) w (hr.below hm.bel)))) hb13⟩, iaQ rfl (zau rfl) rfl, iaQ rfl (zau rfl) rfl, iaQ rfl (zau rfl) rfl, trivial⟩
     simp only [List.drop_succ_cons, List.drop_zero]
     refine ntQ (zah rfl (zbg 1 rfl ?_))
     refine zao (zad ?_)
     refine zdv ?_
     refine zad (zae ?_)
     exact zav rfl rfl (congrArg _ (zbv (fun hp => by first | (have := hp.1; omega) | (obtain ⟨h8, h9⟩ := (hp.2 j (by omega)).1; omega) | (have h9 := (hp.2 j (by omega)).2 (by omega); exact absurd h9 (by assumption)))).symm)
    have hb12p : (((D.getD ((x.m).toNat) md0).ss).getD (((ptsK (D.getD x.m.toNat md0)).getD j 0).toNat) sg0).k ≠ 1 := beq_eq_false_iff_ne.1 hb12
    have hpt := zdu (m := (D.getD x.m.toNat md0)) (j := j) (by omega)
    have hkd := zcp hpt
    refine zbz 30 [[], [0], [], [1, 2], [3], [], [5], [6], [7], [4, 8], [9], [10], [11], [11, 12], [11], [11, 13, 14], [11, 15], [11, 16], [11, 17], [11, 18], [19], [19], [19], [19], [19], [19], [19], [19], [11, 19, 27], [11, 28]] [28, 29, 30, 31, 32, 33, 34, 35, 36, 37, 38, 39, 40, 41, 42, 43, 44, 45, 46, 47, 48, 49, 50, 51, 52, 53, 54, 55, 56, 57] [.pointer (some ⟨b3, 0 + 2, none⟩), x.pv, .int .i64 (j : Int), elP x.pv (((j : Int)).toNat * 1), .int .i64 (x.ps.getD j 0), .pointer (some ⟨b2, 0 + 0, none⟩), m.sv, .int .i64 (m.ss.length : Int), .int .i64 ((m.ss.length : Int) - 1), .bool true, .bool false, .bool false, .pointer (some ⟨b5, 0 + 0, none⟩), (D.getD ((x.m).toNat) md0).sv, .int .i64 ((ptsK (D.getD x.m.toNat md0)).getD j 0), elP ((D.getD ((x.m).toNat) md0).sv) (((ptsK (D.getD x.m.toNat md0)).getD j 0).toNat * 3), elP ((D.getD ((x.m).toNat) md0).sv) (((ptsK (D.getD x.m.toNat md0)).getD j 0).toNat * 3 + 0), .int .i64 ((((D.getD ((x.m).toNat) md0).ss).getD (((ptsK (D.getD x.m.toNat md0)).getD j 0).toNat) sg0).k), .bool false, .bool false, undef, undef, undef, undef, undef, undef, undef, undef, .bool false, .bool false] (by kernel_rfl) rfl ?_ ?_
    ·
     exact ⟨iaQ rfl (fdQ 2 rfl rfl rfl) rfl, iaQ rfl (zac rfl rfl rfl (zaa 2 rfl rfl)) rfl, iaQ rfl (zau rfl) rfl, iaQ rfl (riQ 1 rfl rfl rfl rfl (zaf hxp)) rfl, iaQ rfl (liQ rfl rfl rfl (zaf hxp)) rfl, iaQ rfl (fdQ 0 rfl rfl rfl) rfl, iaQ rfl (zac rfl rfl rfl (zaa 3 rfl rfl)) rfl, iaQ rfl (lnQ rfl rfl rfl (zaf ((hr).s))) rfl, iaQ rfl (vsQ rfl rfl rfl) rfl, .inl ⟨rfl, rq_cb (zaw rfl rfl (fun w hm => zbf (zek (zce _ _ _ w)))) hb11⟩, iaQ rfl (zau rfl) rfl, iaQ rfl (zau rfl) rfl, iaQ rfl (fdQ 0 rfl rfl rfl) rfl, iaQ rfl (zac rfl rfl rfl (zaa 1 rfl rfl)) rfl, iaQ rfl (zau rfl) rfl, iaQ rfl (riQ 3 rfl rfl rfl rfl (zaf ((hd.at (k := x.m.toNat) (by omega)).s))) rfl, iaQ rfl (zaq (k0 := 0) rfl rfl rfl (zaf ((hd.at (k := x.m.toNat) (by omega)).s)) (by omega)) rfl, iaQ rfl (zan (u := .int .i64 ((((D.getD ((x.m).toNat) md0).ss).getD (((ptsK (D.getD x.m.toNat md0)).getD j 0).toNat) sg0).k)) rfl rfl rfl (zaf ((hd.at (k := x.m.toNat) (by omega)).s)) ((zbd sgC 3 (fun _ => rfl) ((D.getD ((x.m).toNat) md0).ss) sg0 (show ((ptsK (D.getD x.m.toNat md0)).getD j 0).toNat < _ by omega) (by decide)).trans rfl)) rfl, .inl ⟨rfl, zdl (zcf rfl rfl rfl rfl) hb12⟩, iaQ rfl (zau rfl) rfl, .inr ⟨rfl, rfl⟩, .inr ⟨rfl, rfl⟩, .inr ⟨rfl, rfl⟩, .inr ⟨rfl, rfl⟩, .inr ⟨rfl, rfl⟩, .inr ⟨rfl, rfl⟩, .inr ⟨rfl, rfl⟩, .inr ⟨rfl, rfl⟩, iaQ rfl (zau rfl) rfl, iaQ rfl (zau rfl) rfl, trivial⟩
    simp only [List.drop_succ_cons, List.drop_zero]
    refine ntQ (fsQ rfl (zdh (zas (hvQ rfl (vaQ rfl rfl rfl) (enQ 1 rfl ?_)))))
    exact zbs (j + 1) ⟨by omega, fun r hr9 => by by_cases e : r = j; (subst e; exact ⟨⟨by omega, by omega⟩, fun _ => by first | assumption | (exfalso; omega)⟩); exact hj9 r (by omega)⟩ (by omega) (saQ rfl) (pfQ rfl)
   have hb11a := zcy hb11
   have hpt := zdu (m := (D.getD x.m.toNat md0)) (j := j) (by omega)
   have hkd := zcp hpt
   refine zbz 30 [[], [0], [], [1, 2], [3], [], [5], [6], [7], [4, 8], [9], [10], [11], [11], [11], [11], [11], [11], [11], [11], [19], [19], [19], [19], [19], [19], [19], [19], [11], [11, 28]] [28, 29, 30, 31, 32, 33, 34, 35, 36, 37, 38, 39, 40, 41, 42, 43, 44, 45, 46, 47, 48, 49, 50, 51, 52, 53, 54, 55, 56, 57] [.pointer (some ⟨b3, 0 + 2, none⟩), x.pv, .int .i64 (j : Int), elP x.pv (((j : Int)).toNat * 1), .int .i64 (x.ps.getD j 0), .pointer (some ⟨b2, 0 + 0, none⟩), m.sv, .int .i64 (m.ss.length : Int), .int .i64 ((m.ss.length : Int) - 1), .bool false, .bool true, .bool true, undef, undef, undef, undef, undef, undef, undef, undef, undef, undef, undef, undef, undef, undef, undef, undef, undef, .bool true] (by kernel_rfl) rfl ?_ ?_
   ·
    exact ⟨iaQ rfl (fdQ 2 rfl rfl rfl) rfl, iaQ rfl (zac rfl rfl rfl (zaa 2 rfl rfl)) rfl, iaQ rfl (zau rfl) rfl, iaQ rfl (riQ 1 rfl rfl rfl rfl (zaf hxp)) rfl, iaQ rfl (liQ rfl rfl rfl (zaf hxp)) rfl, iaQ rfl (fdQ 0 rfl rfl rfl) rfl, iaQ rfl (zac rfl rfl rfl (zaa 3 rfl rfl)) rfl, iaQ rfl (lnQ rfl rfl rfl (zaf ((hr).s))) rfl, iaQ rfl (vsQ rfl rfl rfl) rfl, .inl ⟨rfl, rq_cb (zaw rfl rfl (fun w hm => zbf (zek (zce _ _ _ w)))) hb11⟩, iaQ rfl (zau rfl) rfl, iaQ rfl (zau rfl) rfl, .inr ⟨rfl, rfl⟩, .inr ⟨rfl, rfl⟩, .inr ⟨rfl, rfl⟩, .inr ⟨rfl, rfl⟩, .inr ⟨rfl, rfl⟩, .inr ⟨rfl, rfl⟩, .inr ⟨rfl, rfl⟩, .inr ⟨rfl, rfl⟩, .inr ⟨rfl, rfl⟩, .inr ⟨rfl, rfl⟩, .inr ⟨rfl, rfl⟩, .inr ⟨rfl, rfl⟩, .inr ⟨rfl, rfl⟩, .inr ⟨rfl, rfl⟩, .inr ⟨rfl, rfl⟩, .inr ⟨rfl, rfl⟩, .inr ⟨rfl, rfl⟩, iaQ rfl (zau rfl) rfl, trivial⟩
   simp only [List.drop_succ_cons, List.drop_zero]
   refine ntQ (zah rfl (zbg 1 rfl ?_))
   refine zao (zad ?_)
   refine zdv ?_
   refine zad (zae ?_)
   exact zav rfl rfl (congrArg _ (zbv (fun hp => by first | (have := hp.1; omega) | (obtain ⟨h8, h9⟩ := (hp.2 j (by omega)).1; omega) | (have h9 := (hp.2 j (by omega)).2 (by omega); exact absurd h9 (by assumption)))).symm)
  refine ntQ (fcQ rfl ?_)
  refine zbj (zeb ?_)
  refine zal (zba (zbg 1 rfl ?_))
  exact zao (zav rfl rfl (congrArg _ (zdi ⟨⟨by omega, by omega⟩, fun r hr9 => hj9 r (by omega)⟩).symm))
 have h4a := zcy h4
 refine zay 1 rfl (zah rfl (zbg 1 rfl ?_))
 refine zao (zae ?_)
 exact zav rfl rfl (congrArg _ (zbv (fun hp => by first | (have := hp.1; omega) | (obtain ⟨h8, h9⟩ := (hp.2 j (by omega)).1; omega) | (have h9 := (hp.2 j (by omega)).2 (by omega); exact absurd h9 (by assumption)))).symm)
theorem implModuleOk_ans (D : List Md) (k : Nat) (v : Value) (w : World) (hd : RdsDs w v D) (hk : k < D.length) :
   Calls Try.prog 14 #[.agg #[v], .int .i64 (k : Int)] w (Ans w (.bool (pB (ModP D k)))) := by
 have hd9 := sml hd.row
 refine zca (N := 157) (args := [.agg #[v], .int .i64 (k : Int)]) Try.func14 rfl rfl (srQ ?_)
 refine zdn rfl (zdm rfl rfl) ?_
 intro b1
 refine zay 1 rfl (zag (zag (reQ 1 rfl (hvQ rfl (fdQ 0 rfl rfl rfl) (hvQ rfl (zac rfl rfl rfl (zaa 0 rfl rfl)) (hvQ rfl (lnQ rfl rfl rfl (zaf hd.row)) (hvQ rfl (vsQ rfl rfl rfl) ?_)))))))
 refine zem rfl (zaw rfl rfl (fun w hm => zbf (zek (zce _ _ _ w)))) (zbm (fun h2 => ?_) (fun h2 => ?_))
 ·
  obtain ⟨h2a, h2b⟩ := (zdc _ _ _).1 h2
  refine zam 2 rfl (hvQ rfl (zax (cs := [v]) rfl rfl rfl rfl rfl (zat 0 rfl 0 rfl)) ?_)
  refine zem rfl (zaw rfl rfl (fun w hm => zbf (countsOk_ans D v w (hd.below hm.bel)))) (zbm (fun h3 => ?_) (fun h3 => ?_))
  ·
   have h3p := zes h3
   refine zam 3 rfl (hvQ rfl (zax (cs := [v]) rfl rfl rfl rfl rfl (zat 0 rfl 0 rfl)) (zam 1 rfl ?_))
   refine zem rfl (zaw rfl rfl (fun w hm => zbf (instsOk_ans D k v w (hd.below hm.bel) (by omega)))) (zbm (fun h4 => ?_) (fun h4 => ?_))
   ·
    have h4p := zes h4
    refine zay 2 rfl (zap rfl (zcv (srQ (hvQ rfl (fdQ 0 rfl rfl rfl) (hvQ rfl (zac rfl rfl rfl (zaa 0 rfl rfl)) (zam 1 rfl (hvQ rfl (riQ 4 rfl rfl rfl rfl (zaf hd.row)) ?_)))))))
    refine hvQ rfl (zbb (us := [(D.getD k md0).sv, (D.getD k md0).av, (D.getD k md0).iv, (D.getD k md0).mv]) rfl rfl rfl rfl (zaf hd.row) (by omega) rfl (zbr mdC 4 (fun _ => rfl) D md0 (show k < _ by omega) rfl)) (zdn rfl (zbl (z := .agg #[.slice none 0 0, .slice none 0 0, .slice none 0 0, .slice none 0 0]) rfl rfl) ?_)
    intro b5
    refine zbh (cs' := #[(D.getD k md0).sv, (D.getD k md0).av, (D.getD k md0).iv, (D.getD k md0).mv]) (i := 0) (off := 0) (us := [(D.getD k md0).sv, (D.getD k md0).av, (D.getD k md0).iv, (D.getD k md0).mv]) rfl rfl rfl rfl rfl rfl rfl (zab (hd.at (k := k) (by omega)).s.one (zab (hd.at (k := k) (by omega)).g.one (zab (hd.at (k := k) (by omega)).x.one (zab (hd.at (k := k) (by omega)).m.one zbc)))) rfl rfl rfl (ntQ (srQ (hvQ rfl (fdQ 0 rfl rfl rfl) (hvQ rfl (zac rfl rfl rfl (zaa 0 rfl rfl)) (hvQ rfl (lnQ rfl rfl rfl (zaf ((hd.at (k := k) (by omega)).s))) (zay 1 rfl (zag (zag ?_))))))))
    refine zas (hvQ rfl (fdQ 0 rfl rfl rfl) (hvQ rfl (zac rfl rfl rfl (zaa 0 rfl rfl)) (hvQ rfl (lnQ rfl rfl rfl (zaf ((hd.at (k := k) (by omega)).s))) (zay 1 rfl (zaz ?_)))))
    refine lkQ1 (α := Nat) [0, 1, 2, 4, 5, 6, 34, 44, 45] rfl (fun i => [boxE b5 #[(D.getD k md0).sv, (D.getD k md0).av, (D.getD k md0).iv, (D.getD k md0).mv] 35, boxE b1 #[v] 26]) (fun i => [(46, .int .i64 (i : Int))]) (fun i => i ≤ (D.getD k md0).ss.length ∧ ∀ q, q < i → SgP ((D.getD k md0).ss.getD q sg0)) (fun i => (D.getD k md0).ss.length - i) 0 ⟨Nat.zero_le _, fun q hq => absurd hq (by omega)⟩ (saQ rfl) (pfQ rfl) ?_
    intro i hi6
    obtain ⟨hi, hsg⟩ := hi6
    have hcts : CtsP D k := ⟨by omega, by assumption, by assumption⟩
    obtain ⟨hkl, hcnt, hins⟩ := id hcts
    obtain ⟨hn1, hn2, hn3, hn4⟩ := hcnt.md k hkl
    refine srQ ?_
    refine zbq rfl rfl rfl rfl rfl rfl (fun h7 => ?_) (fun h7 => ?_)
    ·
     refine ntQ (tcQ rfl (zcv (sbQ (srQ (hvQ rfl (riQ 3 rfl rfl rfl rfl (zaf ((hd.at (k := k) (by omega)).s))) ?_)))))
     refine hvQ rfl (zbb (us := [.int .i64 ((((D.getD k md0).ss).getD i sg0).k), .int .i64 ((((D.getD k md0).ss).getD i sg0).w), .int .i64 ((((D.getD k md0).ss).getD i sg0).i)]) rfl rfl rfl rfl (zaf ((hd.at (k := k) (by omega)).s)) (by omega) rfl (zbr sgC 3 (fun _ => rfl) ((D.getD k md0).ss) sg0 (show i < _ by omega) rfl)) (zdn rfl (zbl (z := .agg #[.int .i64 0, .int .i64 0, .int .i64 0]) rfl rfl) ?_)
     intro b8
     refine zbh (cs' := #[.int .i64 ((((D.getD k md0).ss).getD i sg0).k), .int .i64 ((((D.getD k md0).ss).getD i sg0).w), .int .i64 ((((D.getD k md0).ss).getD i sg0).i)]) (i := 0) (off := 0) (us := [.int .i64 ((((D.getD k md0).ss).getD i sg0).k), .int .i64 ((((D.getD k md0).ss).getD i sg0).w), .int .i64 ((((D.getD k md0).ss).getD i sg0).i)]) rfl rfl rfl rfl rfl rfl rfl (zab rfl (zab rfl (zab rfl zbc))) rfl rfl rfl (ntQ (srQ (hvQ rfl (zax (cs := [.int .i64 ((((D.getD k md0).ss).getD i sg0).k), .int .i64 ((((D.getD k md0).ss).getD i sg0).w), .int .i64 ((((D.getD k md0).ss).getD i sg0).i)]) rfl rfl rfl rfl rfl (zat 0 rfl 0 rfl)) ?_)))
     refine zem rfl (zaw rfl rfl (fun w hm => zbf (signalOk_ans ((D.getD k md0).ss.getD i sg0) w))) (zbm (fun h9 => ?_) (fun h9 => ?_))
     ·
      have h9p := zes h9
      refine zay 1 rfl (fsQ rfl (zdh (zas (hvQ rfl (vaQ rfl rfl rfl) (enQ 1 rfl ?_)))))
      exact zbs (i + 1) ⟨by omega, fun q hq => by by_cases e : q = i; (subst e; assumption); exact hsg q (by omega)⟩ (by omega) (saQ rfl) (slQ [1, 0] rfl)
     have h9p := zdt h9
     refine zay 1 rfl (zah rfl (zbg 1 rfl ?_))
     refine zao (zad ?_)
     refine zdv ?_
     refine zad (zae ?_)
     exact zav rfl rfl (congrArg _ (zbv (fun hp => by first | (omega) | (exact absurd hp.cnt (by assumption)) | (exact absurd hp.ins (by assumption)) | (exact absurd (hp.sg i (by omega)) (by assumption)) | (have h9 := (hp.gs i (by omega)).1; have h8 : Inn _ _ := Classical.byContradiction (fun h7 => by rw [zeg h7] at h9; omega); rw [zcp h8] at h9; obtain ⟨h5, h6⟩ := h8; omega) | (exact absurd (hp.gs i (by omega)).2 (by assumption)) | (exact absurd (hp.xs i (by omega)) (by assumption)) | (obtain ⟨⟨⟨h1, h2⟩, ⟨h3, h4⟩, ⟨h5, h6⟩⟩, h7⟩ := hp.ms i (by omega); first | omega | exact absurd h7 (by assumption)) | (have h9 := hp.dr i (by omega) (by omega); omega))).symm)
    refine ntQ (fcQ rfl ?_)
    refine zbj (zeb ?_)
    refine zal (zba (zfi (hvQ rfl (fdQ 1 rfl rfl rfl) (hvQ rfl (zac rfl rfl rfl (zaa 0 rfl rfl)) (hvQ rfl (lnQ rfl rfl rfl (zaf ((hd.at (k := k) (by omega)).g))) (zay 1 rfl (zaz ?_)))))))
    refine lkQ1 (α := Nat) [0, 1, 2, 4, 5, 6, 34, 47, 55, 56] rfl (fun i => [boxE b5 #[(D.getD k md0).sv, (D.getD k md0).av, (D.getD k md0).iv, (D.getD k md0).mv] 35, boxE b1 #[v] 26]) (fun i => [(57, .int .i64 (i : Int))]) (fun i => i ≤ (D.getD k md0).gs.length ∧ ∀ q, q < i → AsP (D.getD k md0) ((D.getD k md0).gs.getD q as0)) (fun i => (D.getD k md0).gs.length - i) 0 ⟨Nat.zero_le _, fun q hq => absurd hq (by omega)⟩ (saQ rfl) (pfQ rfl) ?_
    intro i hi10
    obtain ⟨hi, hgs⟩ := hi10
    have hsgA : ∀ q, q < (D.getD k md0).ss.length → SgP ((D.getD k md0).ss.getD q sg0) := fun q hq => hsg q (by omega)
    refine srQ ?_
    refine zbq rfl rfl rfl rfl rfl rfl (fun h11 => ?_) (fun h11 => ?_)
    ·
     refine ntQ (tcQ rfl (zcv (sbQ (srQ (hvQ rfl (riQ 2 rfl rfl rfl rfl (zaf ((hd.at (k := k) (by omega)).g))) ?_)))))
     refine hvQ rfl (zbb (us := [.int .i64 ((((D.getD k md0).gs).getD i as0).t), (((D.getD k md0).gs).getD i as0).ov]) rfl rfl rfl rfl (zaf ((hd.at (k := k) (by omega)).g)) (by omega) rfl (zbr asC 2 (fun _ => rfl) ((D.getD k md0).gs) as0 (show i < _ by omega) rfl)) (zdn rfl (zbl (z := .agg #[.int .i64 0, .slice none 0 0]) rfl rfl) ?_)
     intro b12
     refine zbh (cs' := #[.int .i64 ((((D.getD k md0).gs).getD i as0).t), (((D.getD k md0).gs).getD i as0).ov]) (i := 0) (off := 0) (us := [.int .i64 ((((D.getD k md0).gs).getD i as0).t), (((D.getD k md0).gs).getD i as0).ov]) rfl rfl rfl rfl rfl rfl rfl (zab rfl (zab ((hd.at (k := k) (by omega)).o.at (k := i) (by omega)).one zbc)) rfl rfl rfl (ntQ (srQ (hvQ rfl (fdQ 0 rfl rfl rfl) (hvQ rfl (zac rfl rfl rfl (zaa 0 rfl rfl)) (zam 1 rfl (hvQ rfl (vsQ rfl rfl rfl) ?_))))))
     refine zem rfl (zaw rfl rfl (fun w hm => zbf (zek (zce _ _ _ w)))) (zbm (fun h13 => ?_) (fun h13 => ?_))
     ·
      obtain ⟨h13a, h13b⟩ := (zdc _ _ _).1 h13
      refine zam 2 rfl (hvQ rfl (fdQ 0 rfl rfl rfl) (hvQ rfl (zac rfl rfl rfl (zaa 1 rfl rfl)) (hvQ rfl (fdQ 0 rfl rfl rfl) (hvQ rfl (zac rfl rfl rfl (zaa 0 rfl rfl)) (hvQ rfl (riQ 3 rfl rfl rfl rfl (zaf ((hd.at (k := k) (by omega)).s))) (hvQ rfl (zaq (k0 := 0) rfl rfl rfl (zaf ((hd.at (k := k) (by omega)).s)) (by omega)) ?_))))))
      refine hvQ rfl (zan (u := .int .i64 ((((D.getD k md0).ss).getD (((((D.getD k md0).gs).getD i as0).t).toNat) sg0).k)) rfl rfl rfl (zaf ((hd.at (k := k) (by omega)).s)) ((zbd sgC 3 (fun _ => rfl) ((D.getD k md0).ss) sg0 (show ((((D.getD k md0).gs).getD i as0).t).toNat < _ by omega) (by decide)).trans rfl)) (zem rfl (zaw rfl rfl (fun w hm => zbf (isDriven_ans ((((D.getD k md0).ss).getD (((((D.getD k md0).gs).getD i as0).t).toNat) sg0).k) w))) ?_)
      refine zbm (fun h14 => ?_) (fun h14 => ?_)
      ·
       have h14p := of_decide_eq_true h14
       refine zam 3 rfl (hvQ rfl (fdQ 1 rfl rfl rfl) (hvQ rfl (zac rfl rfl rfl (zaa 0 rfl rfl)) (zam 1 rfl ?_)))
       refine zem rfl (zaw rfl rfl (fun w hm => zbf (implOpsOk_ans ((D.getD k md0).gs.getD i as0).os (((D.getD k md0).ss).length : Int) _ w (((hd.at (k := k) (by omega)).below hm.bel).o.at (by omega))))) (zbm (fun h15 => ?_) (fun h15 => ?_))
       ·
        have h15p := zes h15
        refine zay 2 rfl (fsQ rfl (zdh (zas (hvQ rfl (vaQ rfl rfl rfl) (enQ 1 rfl ?_)))))
        exact zbs (i + 1) ⟨by omega, fun q hq => by by_cases e : q = i; (subst e; exact ⟨by rw [zcp ⟨by omega, by omega⟩]; assumption, by assumption⟩); exact hgs q (by omega)⟩ (by omega) (saQ rfl) (slQ [1, 0] rfl)
       have h15p := zdt h15
       refine zay 2 rfl (zah rfl (zbg 1 rfl ?_))
       refine zao (zad ?_)
       refine zdv ?_
       refine zad (zae ?_)
       exact zav rfl rfl (congrArg _ (zbv (fun hp => by first | (omega) | (exact absurd hp.cnt (by assumption)) | (exact absurd hp.ins (by assumption)) | (exact absurd (hp.sg i (by omega)) (by assumption)) | (have h9 := (hp.gs i (by omega)).1; have h8 : Inn _ _ := Classical.byContradiction (fun h7 => by rw [zeg h7] at h9; omega); rw [zcp h8] at h9; obtain ⟨h5, h6⟩ := h8; omega) | (exact absurd (hp.gs i (by omega)).2 (by assumption)) | (exact absurd (hp.xs i (by omega)) (by assumption)) | (obtain ⟨⟨⟨h1, h2⟩, ⟨h3, h4⟩, ⟨h5, h6⟩⟩, h7⟩ := hp.ms i (by omega); first | omega | exact absurd h7 (by assumption)) | (have h9 := hp.dr i (by omega) (by omega); omega))).symm)
      have h14p := of_decide_eq_false h14
      refine zay 9 rfl (zah rfl (zag (reQ 1 rfl (?_))))
      refine ntQ ?_
      refine zao (zad ?_)
      refine zdv ?_
      refine zad (zae ?_)
      exact zav rfl rfl (congrArg _ (zbv (fun hp => by first | (omega) | (exact absurd hp.cnt (by assumption)) | (exact absurd hp.ins (by assumption)) | (exact absurd (hp.sg i (by omega)) (by assumption)) | (have h9 := (hp.gs i (by omega)).1; have h8 : Inn _ _ := Classical.byContradiction (fun h7 => by rw [zeg h7] at h9; omega); rw [zcp h8] at h9; obtain ⟨h5, h6⟩ := h8; omega) | (exact absurd (hp.gs i (by omega)).2 (by assumption)) | (exact absurd (hp.xs i (by omega)) (by assumption)) | (obtain ⟨⟨⟨h1, h2⟩, ⟨h3, h4⟩, ⟨h5, h6⟩⟩, h7⟩ := hp.ms i (by omega); first | omega | exact absurd h7 (by assumption)) | (have h9 := hp.dr i (by omega) (by omega); omega))).symm)
     have h13a := zcy h13
     refine zay 19 rfl (zah rfl (zbg 1 rfl ?_))
     refine zao (zad ?_)
     refine zdv ?_
     refine zad (zae ?_)
     exact zav rfl rfl (congrArg _ (zbv (fun hp => by first | (omega) | (exact absurd hp.cnt (by assumption)) | (exact absurd hp.ins (by assumption)) | (exact absurd (hp.sg i (by omega)) (by assumption)) | (have h9 := (hp.gs i (by omega)).1; have h8 : Inn _ _ := Classical.byContradiction (fun h7 => by rw [zeg h7] at h9; omega); rw [zcp h8] at h9; obtain ⟨h5, h6⟩ := h8; omega) | (exact absurd (hp.gs i (by omega)).2 (by assumption)) | (exact absurd (hp.xs i (by omega)) (by assumption)) | (obtain ⟨⟨⟨h1, h2⟩, ⟨h3, h4⟩, ⟨h5, h6⟩⟩, h7⟩ := hp.ms i (by omega); first | omega | exact absurd h7 (by assumption)) | (have h9 := hp.dr i (by omega) (by omega); omega))).symm)
    refine ntQ (fcQ rfl ?_)
    refine zbj (zeb ?_)
    refine zal (zba (zfi (hvQ rfl (fdQ 2 rfl rfl rfl) (hvQ rfl (zac rfl rfl rfl (zaa 0 rfl rfl)) (hvQ rfl (lnQ rfl rfl rfl (zaf ((hd.at (k := k) (by omega)).x))) (zay 1 rfl (zaz ?_)))))))
    refine lkQ1 (α := Nat) [0, 1, 2, 4, 5, 6, 34, 47, 58, 87, 88] rfl (fun i => [boxE b5 #[(D.getD k md0).sv, (D.getD k md0).av, (D.getD k md0).iv, (D.getD k md0).mv] 35, boxE b1 #[v] 26]) (fun i => [(89, .int .i64 (i : Int))]) (fun i => i ≤ (D.getD k md0).xs.length ∧ ∀ q, q < i → IxP D (D.getD k md0) ((D.getD k md0).xs.getD q ix0)) (fun i => (D.getD k md0).xs.length - i) 0 ⟨Nat.zero_le _, fun q hq => absurd hq (by omega)⟩ (saQ rfl) (pfQ rfl) ?_
    intro i hi16
    obtain ⟨hi, hxs⟩ := hi16
    refine srQ ?_
    refine zbq rfl rfl rfl rfl rfl rfl (fun h17 => ?_) (fun h17 => ?_)
    ·
     refine ntQ (tcQ rfl (zcv (sbQ (srQ (hvQ rfl (riQ 3 rfl rfl rfl rfl (zaf ((hd.at (k := k) (by omega)).x))) ?_)))))
     refine hvQ rfl (zbb (us := [.int .i64 ((((D.getD k md0).xs).getD i ix0).m), .int .i64 ((((D.getD k md0).xs).getD i ix0).p), (((D.getD k md0).xs).getD i ix0).pv]) rfl rfl rfl rfl (zaf ((hd.at (k := k) (by omega)).x)) (by omega) rfl (zbr ixC 3 (fun _ => rfl) ((D.getD k md0).xs) ix0 (show i < _ by omega) rfl)) (zdn rfl (zbl (z := .agg #[.int .i64 0, .int .i64 0, .slice none 0 0]) rfl rfl) ?_)
     intro b18
     refine zbh (cs' := #[.int .i64 ((((D.getD k md0).xs).getD i ix0).m), .int .i64 ((((D.getD k md0).xs).getD i ix0).p), (((D.getD k md0).xs).getD i ix0).pv]) (i := 0) (off := 0) (us := [.int .i64 ((((D.getD k md0).xs).getD i ix0).m), .int .i64 ((((D.getD k md0).xs).getD i ix0).p), (((D.getD k md0).xs).getD i ix0).pv]) rfl rfl rfl rfl rfl rfl rfl (zab rfl (zab rfl (zab ((hd.at (k := k) (by omega)).p.at (k := i) (by omega)).one zbc))) rfl rfl rfl (ntQ (srQ (hvQ rfl (zax (cs := [v]) rfl rfl rfl rfl rfl (zat 2 rfl 0 rfl)) (hvQ rfl (zax (cs := [(D.getD k md0).sv, (D.getD k md0).av, (D.getD k md0).iv, (D.getD k md0).mv]) rfl rfl rfl rfl rfl (zat 1 rfl 0 rfl)) (hvQ rfl (zax (cs := [.int .i64 ((((D.getD k md0).xs).getD i ix0).m), .int .i64 ((((D.getD k md0).xs).getD i ix0).p), (((D.getD k md0).xs).getD i ix0).pv]) rfl rfl rfl rfl rfl (zat 0 rfl 0 rfl)) ?_)))))
     refine zem rfl (zaw rfl rfl (fun w hm => zbf (instOk_ans D (D.getD k md0) ((D.getD k md0).xs.getD i ix0) v w (hd.below hm.bel) ((hd.at (k := k) (by omega)).below hm.bel) (((hd.at (k := k) (by omega)).below hm.bel).p.at (by omega)) ⟨by have := hins i (by omega); omega, by have := hins i (by omega); omega⟩ (hins i (by omega)).2))) (zbm (fun h19 => ?_) (fun h19 => ?_))
     ·
      have h19p := zes h19
      refine zay 1 rfl (fsQ rfl (zdh (zas (hvQ rfl (vaQ rfl rfl rfl) (enQ 1 rfl ?_)))))
      exact zbs (i + 1) ⟨by omega, fun q hq => by by_cases e : q = i; (subst e; assumption); exact hxs q (by omega)⟩ (by omega) (saQ rfl) (slQ [1, 0] rfl)
     have h19p := zdt h19
     refine zay 1 rfl (zah rfl (zbg 1 rfl ?_))
     refine zao (zad ?_)
     refine zdv ?_
     refine zad (zae ?_)
     exact zav rfl rfl (congrArg _ (zbv (fun hp => by first | (omega) | (exact absurd hp.cnt (by assumption)) | (exact absurd hp.ins (by assumption)) | (exact absurd (hp.sg i (by omega)) (by assumption)) | (have h9 := (hp.gs i (by omega)).1; have h8 : Inn _ _ := Classical.byContradiction (fun h7 => by rw [zeg h7] at h9; omega); rw [zcp h8] at h9; obtain ⟨h5, h6⟩ := h8; omega) | (exact absurd (hp.gs i (by omega)).2 (by assumption)) | (exact absurd (hp.xs i (by omega)) (by assumption)) | (obtain ⟨⟨⟨h1, h2⟩, ⟨h3, h4⟩, ⟨h5, h6⟩⟩, h7⟩ := hp.ms i (by omega); first | omega | exact absurd h7 (by assumption)) | (have h9 := hp.dr i (by omega) (by omega); omega))).symm)
    refine ntQ (fcQ rfl ?_)
    refine zbj (zeb ?_)
    refine zal (zba (zfi (hvQ rfl (fdQ 3 rfl rfl rfl) (hvQ rfl (zac rfl rfl rfl (zaa 0 rfl rfl)) (hvQ rfl (lnQ rfl rfl rfl (zaf ((hd.at (k := k) (by omega)).m))) (zay 1 rfl (zaz ?_)))))))
    refine lkQ1 (α := Nat) [0, 1, 2, 4, 5, 6, 34, 47, 58, 90, 100, 101] rfl (fun i => [boxE b5 #[(D.getD k md0).sv, (D.getD k md0).av, (D.getD k md0).iv, (D.getD k md0).mv] 35, boxE b1 #[v] 26]) (fun i => [(102, .int .i64 (i : Int))]) (fun i => i ≤ (D.getD k md0).ms.length ∧ ∀ q, q < i → MmP (D.getD k md0) ((D.getD k md0).ms.getD q mm0)) (fun i => (D.getD k md0).ms.length - i) 0 ⟨Nat.zero_le _, fun q hq => absurd hq (by omega)⟩ (saQ rfl) (pfQ rfl) ?_
    intro i hi20
    obtain ⟨hi, hms⟩ := hi20
    refine srQ ?_
    refine zbq rfl rfl rfl rfl rfl rfl (fun h21 => ?_) (fun h21 => ?_)
    ·
     refine ntQ (tcQ rfl (zcv (sbQ (srQ (hvQ rfl (riQ 4 rfl rfl rfl rfl (zaf ((hd.at (k := k) (by omega)).m))) ?_)))))
     refine hvQ rfl (zbb (us := [.int .i64 ((((D.getD k md0).ms).getD i mm0).a), .int .i64 ((((D.getD k md0).ms).getD i mm0).d), .int .i64 ((((D.getD k md0).ms).getD i mm0).w), .int .i64 ((((D.getD k md0).ms).getD i mm0).o)]) rfl rfl rfl rfl (zaf ((hd.at (k := k) (by omega)).m)) (by omega) rfl (zbr mmC 4 (fun _ => rfl) ((D.getD k md0).ms) mm0 (show i < _ by omega) rfl)) (zdn rfl (zbl (z := .agg #[.int .i64 0, .int .i64 0, .int .i64 0, .int .i64 0]) rfl rfl) ?_)
     intro b22
     refine zbh (cs' := #[.int .i64 ((((D.getD k md0).ms).getD i mm0).a), .int .i64 ((((D.getD k md0).ms).getD i mm0).d), .int .i64 ((((D.getD k md0).ms).getD i mm0).w), .int .i64 ((((D.getD k md0).ms).getD i mm0).o)]) (i := 0) (off := 0) (us := [.int .i64 ((((D.getD k md0).ms).getD i mm0).a), .int .i64 ((((D.getD k md0).ms).getD i mm0).d), .int .i64 ((((D.getD k md0).ms).getD i mm0).w), .int .i64 ((((D.getD k md0).ms).getD i mm0).o)]) rfl rfl rfl rfl rfl rfl rfl (zab rfl (zab rfl (zab rfl (zab rfl zbc)))) rfl rfl rfl (ntQ (srQ (hvQ rfl (fdQ 0 rfl rfl rfl) (hvQ rfl (zac rfl rfl rfl (zaa 0 rfl rfl)) (zam 1 rfl (hvQ rfl (vsQ rfl rfl rfl) ?_))))))
     refine zem rfl (zaw rfl rfl (fun w hm => zbf (zek (zce _ _ _ w)))) (zbm (fun h23 => ?_) (fun h23 => ?_))
     ·
      obtain ⟨h23a, h23b⟩ := (zdc _ _ _).1 h23
      refine zam 2 rfl (hvQ rfl (fdQ 1 rfl rfl rfl) (hvQ rfl (zac rfl rfl rfl (zaa 0 rfl rfl)) (zam 1 rfl (hvQ rfl (vsQ rfl rfl rfl) ?_))))
      refine zem rfl (zaw rfl rfl (fun w hm => zbf (zek (zce _ _ _ w)))) (zbm (fun h24 => ?_) (fun h24 => ?_))
      ·
       obtain ⟨h24a, h24b⟩ := (zdc _ _ _).1 h24
       refine zam 3 rfl (hvQ rfl (fdQ 2 rfl rfl rfl) (hvQ rfl (zac rfl rfl rfl (zaa 0 rfl rfl)) (zam 1 rfl (hvQ rfl (vsQ rfl rfl rfl) ?_))))
       refine zem rfl (zaw rfl rfl (fun w hm => zbf (zek (zce _ _ _ w)))) (zbm (fun h25 => ?_) (fun h25 => ?_))
       ·
        obtain ⟨h25a, h25b⟩ := (zdc _ _ _).1 h25
        refine zam 3 rfl (hvQ rfl (zax (cs := [(D.getD k md0).sv, (D.getD k md0).av, (D.getD k md0).iv, (D.getD k md0).mv]) rfl rfl rfl rfl rfl (zat 1 rfl 0 rfl)) (hvQ rfl (fdQ 3 rfl rfl rfl) (hvQ rfl (zac rfl rfl rfl (zaa 0 rfl rfl)) ?_)))
        refine zem rfl (zaw rfl rfl (fun w hm => zbf (drives_ans (D.getD k md0) ((((D.getD k md0).ms).getD i mm0).o) w ((hd.at (k := k) (by omega)).below hm.bel)))) (zbm (fun h26 => ?_) (fun h26 => ?_))
        ·
         have h26p := zes h26
         refine zay 2 rfl (fsQ rfl (zdh (zas (hvQ rfl (vaQ rfl rfl rfl) (enQ 1 rfl ?_)))))
         exact zbs (i + 1) ⟨by omega, fun q hq => by by_cases e : q = i; (subst e; exact ⟨⟨⟨by omega, by omega⟩, ⟨by omega, by omega⟩, ⟨by omega, by omega⟩⟩, by assumption⟩); exact hms q (by omega)⟩ (by omega) (saQ rfl) (slQ [1, 0] rfl)
        have h26p := zdt h26
        refine zay 2 rfl (zah rfl (zbg 1 rfl ?_))
        refine zao (zad ?_)
        refine zdv ?_
        refine zad (zae ?_)
        exact zav rfl rfl (congrArg _ (zbv (fun hp => by first | (omega) | (exact absurd hp.cnt (by assumption)) | (exact absurd hp.ins (by assumption)) | (exact absurd (hp.sg i (by omega)) (by assumption)) | (have h9 := (hp.gs i (by omega)).1; have h8 : Inn _ _ := Classical.byContradiction (fun h7 => by rw [zeg h7] at h9; omega); rw [zcp h8] at h9; obtain ⟨h5, h6⟩ := h8; omega) | (exact absurd (hp.gs i (by omega)).2 (by assumption)) | (exact absurd (hp.xs i (by omega)) (by assumption)) | (obtain ⟨⟨⟨h1, h2⟩, ⟨h3, h4⟩, ⟨h5, h6⟩⟩, h7⟩ := hp.ms i (by omega); first | omega | exact absurd h7 (by assumption)) | (have h9 := hp.dr i (by omega) (by omega); omega))).symm)
       have h25a := zcy h25
       refine zay 9 rfl (zah rfl (zag (reQ 1 rfl (?_))))
       refine ntQ ?_
       refine zao (zad ?_)
       refine zdv ?_
       refine zad (zae ?_)
       exact zav rfl rfl (congrArg _ (zbv (fun hp => by first | (omega) | (exact absurd hp.cnt (by assumption)) | (exact absurd hp.ins (by assumption)) | (exact absurd (hp.sg i (by omega)) (by assumption)) | (have h9 := (hp.gs i (by omega)).1; have h8 : Inn _ _ := Classical.byContradiction (fun h7 => by rw [zeg h7] at h9; omega); rw [zcp h8] at h9; obtain ⟨h5, h6⟩ := h8; omega) | (exact absurd (hp.gs i (by omega)).2 (by assumption)) | (exact absurd (hp.xs i (by omega)) (by assumption)) | (obtain ⟨⟨⟨h1, h2⟩, ⟨h3, h4⟩, ⟨h5, h6⟩⟩, h7⟩ := hp.ms i (by omega); first | omega | exact absurd h7 (by assumption)) | (have h9 := hp.dr i (by omega) (by omega); omega))).symm)
      have h24a := zcy h24
      refine enQ 17 rfl ?_
      refine zba (zah rfl (zbg 1 rfl ?_))
      refine zao (zad ?_)
      refine zdv ?_
      refine zad (zae ?_)
      exact zav rfl rfl (congrArg _ (zbv (fun hp => by first | (omega) | (exact absurd hp.cnt (by assumption)) | (exact absurd hp.ins (by assumption)) | (exact absurd (hp.sg i (by omega)) (by assumption)) | (have h9 := (hp.gs i (by omega)).1; have h8 : Inn _ _ := Classical.byContradiction (fun h7 => by rw [zeg h7] at h9; omega); rw [zcp h8] at h9; obtain ⟨h5, h6⟩ := h8; omega) | (exact absurd (hp.gs i (by omega)).2 (by assumption)) | (exact absurd (hp.xs i (by omega)) (by assumption)) | (obtain ⟨⟨⟨h1, h2⟩, ⟨h3, h4⟩, ⟨h5, h6⟩⟩, h7⟩ := hp.ms i (by omega); first | omega | exact absurd h7 (by assumption)) | (have h9 := hp.dr i (by omega) (by omega); omega))).symm)
     have h23a := zcy h23
     refine zay 24 rfl (zah rfl (zbg 1 rfl ?_))
     refine zao (zad ?_)
     refine zdv ?_
     refine zad (zae ?_)
     exact zav rfl rfl (congrArg _ (zbv (fun hp => by first | (omega) | (exact absurd hp.cnt (by assumption)) | (exact absurd hp.ins (by assumption)) | (exact absurd (hp.sg i (by omega)) (by assumption)) | (have h9 := (hp.gs i (by omega)).1; have h8 : Inn _ _ := Classical.byContradiction (fun h7 => by rw [zeg h7] at h9; omega); rw [zcp h8] at h9; obtain ⟨h5, h6⟩ := h8; omega) | (exact absurd (hp.gs i (by omega)).2 (by assumption)) | (exact absurd (hp.xs i (by omega)) (by assumption)) | (obtain ⟨⟨⟨h1, h2⟩, ⟨h3, h4⟩, ⟨h5, h6⟩⟩, h7⟩ := hp.ms i (by omega); first | omega | exact absurd h7 (by assumption)) | (have h9 := hp.dr i (by omega) (by omega); omega))).symm)
    refine ntQ (fcQ rfl ?_)
    refine zbj (zeb ?_)
    refine zal (zba (zfi (hvQ rfl (zax (cs := [v]) rfl rfl rfl rfl rfl (zat 1 rfl 0 rfl)) (zam 1 rfl ?_))))
    refine hl_q rfl rfl rfl (zaw rfl rfl (fun w hm => driverCounts_ret D k v w (hd.below hm.bel) hcts)) ?_
    intro v27 p28 hR29
    subst hR29
    refine hvQ rfl (lnQ rfl rfl rfl (zaj 0 rfl)) (zay 1 rfl (zaz ?_))
    refine lkQ1 (α := Nat) [0, 1, 2, 4, 5, 6, 34, 47, 58, 90, 103, 138, 139] rfl (fun i => [rowE 3 1 v27 ((cntZ (D.getD k md0).ss.length (drvL D (D.getD k md0))).length) ((cntZ (D.getD k md0).ss.length (drvL D (D.getD k md0))).map (Value.int .i64)), boxE b5 #[(D.getD k md0).sv, (D.getD k md0).av, (D.getD k md0).iv, (D.getD k md0).mv] 35, boxE b1 #[v] 26]) (fun i => [(140, .int .i64 (i : Int))]) (fun i => i ≤ (D.getD k md0).ss.length ∧ ∀ q, q < i → ((D.getD k md0).ss.getD q sg0).k ≠ 0 → (drvL D (D.getD k md0)).count (q : Int) = 1) (fun i => (D.getD k md0).ss.length - i) 0 ⟨Nat.zero_le _, fun q hq => absurd hq (by omega)⟩ (saQ rfl) (pfQ rfl) ?_
    intro i hi30
    obtain ⟨hi, hdr⟩ := hi30
    have hlz := zeo (D.getD k md0).ss.length (drvL D (D.getD k md0))
    refine srQ ?_
    refine zbq rfl rfl rfl rfl rfl rfl (fun h31 => ?_) (fun h31 => ?_)
    ·
     refine ntQ (tcQ rfl (zcv (sbQ (zag (reQ 1 rfl (hvQ rfl (riQ 1 rfl rfl rfl rfl (zaj 0 rfl)) (hvQ rfl (zan (u := .int .i64 ((cntZ (D.getD k md0).ss.length (drvL D (D.getD k md0))).getD i 0)) rfl rfl rfl (zaj 0 rfl) (zcn (show _ < (cntZ (D.getD k md0).ss.length (drvL D (D.getD k md0))).length by omega))) ?_)))))))
     refine zay 2 rfl (srQ ?_)
     have hs8 := (hsgA i (by omega)).1
     have hcz := cntZ_at (L := drvL D (D.getD k md0)) (show i < (D.getD k md0).ss.length by omega)
     refine hvQ rfl (fdQ 0 rfl rfl rfl) (hvQ rfl (zac rfl rfl rfl (zaa 1 rfl rfl)) (zam 1 rfl (hvQ rfl (riQ 3 rfl rfl rfl rfl (zaf ((hd.at (k := k) (by omega)).s))) (hvQ rfl (zaq (k0 := 0) rfl rfl rfl (zaf ((hd.at (k := k) (by omega)).s)) (by omega)) ?_))))
     refine hvQ rfl (zan (u := .int .i64 ((((D.getD k md0).ss).getD i sg0).k)) rfl rfl rfl (zaf ((hd.at (k := k) (by omega)).s)) ((zbd sgC 3 (fun _ => rfl) ((D.getD k md0).ss) sg0 (show i < _ by omega) (by decide)).trans rfl)) (zem rfl (zaw rfl rfl (fun w hm => zbf (isDriven_ans ((((D.getD k md0).ss).getD i sg0).k) w))) ?_)
     refine zbm (fun h32 => ?_) (fun h32 => ?_)
     ·
      have h32p := of_decide_eq_true h32
      refine zam 2 rfl (zfq rfl rfl rfl rfl rfl rfl (fun h33 => ?_) (fun h33 => ?_))
      ·
       refine zay 1 rfl (zah rfl (zbg 1 rfl ?_))
       refine zao (zad ?_)
       refine zdv ?_
       refine zad (zae ?_)
       exact zav rfl rfl (congrArg _ (zbv (fun hp => by first | (omega) | (exact absurd hp.cnt (by assumption)) | (exact absurd hp.ins (by assumption)) | (exact absurd (hp.sg i (by omega)) (by assumption)) | (have h9 := (hp.gs i (by omega)).1; have h8 : Inn _ _ := Classical.byContradiction (fun h7 => by rw [zeg h7] at h9; omega); rw [zcp h8] at h9; obtain ⟨h5, h6⟩ := h8; omega) | (exact absurd (hp.gs i (by omega)).2 (by assumption)) | (exact absurd (hp.xs i (by omega)) (by assumption)) | (obtain ⟨⟨⟨h1, h2⟩, ⟨h3, h4⟩, ⟨h5, h6⟩⟩, h7⟩ := hp.ms i (by omega); first | omega | exact absurd h7 (by assumption)) | (have h9 := hp.dr i (by omega) (by omega); omega))).symm)
      refine zay 1 rfl (fsQ rfl (zdh (zas (hvQ rfl (vaQ rfl rfl rfl) (enQ 1 rfl ?_)))))
      exact zbs (i + 1) ⟨by omega, fun q hq => by by_cases e : q = i; (subst e; intro h9; omega); exact hdr q (by omega)⟩ (by omega) (saQ rfl) (pfQ rfl)
     have h32p := of_decide_eq_false h32
     refine zay 4 rfl (fsQ rfl (zdh (zas (hvQ rfl (vaQ rfl rfl rfl) (zam 1 rfl (?_))))))
     exact zcu (zbs (i + 1) ⟨by omega, fun q hq => by by_cases e : q = i; (subst e; intro h9; omega); exact hdr q (by omega)⟩ (by omega) (saQ rfl) (pfQ rfl))
    refine ntQ (fcQ rfl ?_)
    refine zbj (zeb ?_)
    refine zal (zba (zbg 1 rfl ?_))
    exact zao (zav rfl rfl (congrArg _ (zdi ⟨hkl, hcnt, hins, hsgA, fun q hq => hgs q (by omega), fun q hq => hxs q (by omega), fun q hq => hms q (by omega), fun q hq => hdr q (by omega)⟩).symm))
   have h4p := zdt h4
   refine zay 2 rfl (zah rfl (zbg 1 rfl ?_))
   refine zao (zae ?_)
   exact zav rfl rfl (congrArg _ (zbv (fun hp => by first | (omega) | (exact absurd hp.cnt (by assumption)) | (exact absurd hp.ins (by assumption)) | (exact absurd (hp.sg i (by omega)) (by assumption)) | (have h9 := (hp.gs i (by omega)).1; have h8 : Inn _ _ := Classical.byContradiction (fun h7 => by rw [zeg h7] at h9; omega); rw [zcp h8] at h9; obtain ⟨h5, h6⟩ := h8; omega) | (exact absurd (hp.gs i (by omega)).2 (by assumption)) | (exact absurd (hp.xs i (by omega)) (by assumption)) | (obtain ⟨⟨⟨h1, h2⟩, ⟨h3, h4⟩, ⟨h5, h6⟩⟩, h7⟩ := hp.ms i (by omega); first | omega | exact absurd h7 (by assumption)) | (have h9 := hp.dr i (by omega) (by omega); omega))).symm)
  have h3p := zdt h3
  refine zay 8 rfl (zah rfl (srQ (enQ 1 rfl ?_)))
  refine zba (zao ?_)
  exact zae (zav rfl rfl (congrArg _ (zbv (fun hp => by first | (omega) | (exact absurd hp.cnt (by assumption)) | (exact absurd hp.ins (by assumption)) | (exact absurd (hp.sg i (by omega)) (by assumption)) | (have h9 := (hp.gs i (by omega)).1; have h8 : Inn _ _ := Classical.byContradiction (fun h7 => by rw [zeg h7] at h9; omega); rw [zcp h8] at h9; obtain ⟨h5, h6⟩ := h8; omega) | (exact absurd (hp.gs i (by omega)).2 (by assumption)) | (exact absurd (hp.xs i (by omega)) (by assumption)) | (obtain ⟨⟨⟨h1, h2⟩, ⟨h3, h4⟩, ⟨h5, h6⟩⟩, h7⟩ := hp.ms i (by omega); first | omega | exact absurd h7 (by assumption)) | (have h9 := hp.dr i (by omega) (by omega); omega))).symm))
 have h2a := zcy h2
 refine zay 12 rfl (zah rfl (srQ ?_))
 refine zay 1 rfl ?_
 refine zao (zae ?_)
 exact zav rfl rfl (congrArg _ (zbv (fun hp => by first | (omega) | (exact absurd hp.cnt (by assumption)) | (exact absurd hp.ins (by assumption)) | (exact absurd (hp.sg i (by omega)) (by assumption)) | (have h9 := (hp.gs i (by omega)).1; have h8 : Inn _ _ := Classical.byContradiction (fun h7 => by rw [zeg h7] at h9; omega); rw [zcp h8] at h9; obtain ⟨h5, h6⟩ := h8; omega) | (exact absurd (hp.gs i (by omega)).2 (by assumption)) | (exact absurd (hp.xs i (by omega)) (by assumption)) | (obtain ⟨⟨⟨h1, h2⟩, ⟨h3, h4⟩, ⟨h5, h6⟩⟩, h7⟩ := hp.ms i (by omega); first | omega | exact absurd h7 (by assumption)) | (have h9 := hp.dr i (by omega) (by omega); omega))).symm)
theorem implDesignOk_ans (D : List Md) (v : Value) (w : World) (hd : RdsDs w v D) :
   Calls Try.prog 15 #[.agg #[v]] w (Ans w (.bool (pB (DesP D)))) := by
 have hd9 := sml hd.row
 refine zca (N := 19) (args := [.agg #[v]]) Try.func15 rfl rfl (srQ ?_)
 refine zdn rfl (zdm rfl rfl) ?_
 intro b1
 refine zay 1 rfl (zfi (hvQ rfl (fdQ 0 rfl rfl rfl) (hvQ rfl (zac rfl rfl rfl (zaa 0 rfl rfl)) (hvQ rfl (lnQ rfl rfl rfl (zaf hd.row)) (zay 1 rfl ?_)))))
 refine zaz ?_
 refine lkQ1 (α := Nat) [0, 1, 2, 6] rfl (fun k => [boxE b1 #[v] 26]) (fun k => [(7, .int .i64 (k : Int))]) (fun k => k ≤ D.length ∧ ∀ q, q < k → ModP D q) (fun k => D.length - k) 0 ⟨Nat.zero_le _, fun q hq => absurd hq (by omega)⟩ (saQ rfl) (pfQ rfl) ?_
 intro k hi2
 obtain ⟨hk, hall⟩ := hi2
 refine srQ ?_
 refine zbq rfl rfl rfl rfl rfl rfl (fun h3 => ?_) (fun h3 => ?_)
 ·
  refine ntQ (tcQ rfl (zcv (sbQ (srQ (enQ 2 rfl ?_)))))
  refine zba (srQ (hvQ rfl (zax (cs := [v]) rfl rfl rfl rfl rfl (zat 0 rfl 0 rfl)) (zam 1 rfl ?_)))
  refine zem rfl (zaw rfl rfl (fun w hm => zbf (implModuleOk_ans D k v w (hd.below hm.bel) (by omega)))) (zbm (fun h4 => ?_) (fun h4 => ?_))
  ·
   have h4p := zes h4
   refine zay 1 rfl (fsQ rfl (zdh (zas (hvQ rfl (vaQ rfl rfl rfl) (enQ 1 rfl ?_)))))
   exact zbs (k + 1) ⟨by omega, fun q hq => by by_cases e : q = k; (subst e; assumption); exact hall q (by omega)⟩ (by omega) (saQ rfl) (pfQ rfl)
  have h4p := zdt h4
  refine zay 1 rfl (zah rfl (zbg 1 rfl ?_))
  refine zao (zad ?_)
  refine zdv ?_
  refine zad (zae ?_)
  exact zav rfl rfl (congrArg _ (zbv (fun hp => by first | (have := hp.1; omega) | (exact absurd (hp.2 k (by omega)) (by assumption)))).symm)
 refine ntQ (fcQ rfl ?_)
 refine zbj (zeb ?_)
 refine zal (zba (srQ (hvQ rfl (fdQ 0 rfl rfl rfl) (hvQ rfl (zac rfl rfl rfl (zaa 0 rfl rfl)) (hvQ rfl (lnQ rfl rfl rfl (zaf hd.row)) ?_)))))
 refine zem rfl (zaw rfl rfl (fun w hm => zbf (zek (zce _ _ _ w)))) (zbm (fun h5 => ?_) (fun h5 => ?_))
 ·
  obtain ⟨h5a, h5b⟩ := (zdc _ _ _).1 h5
  refine zay 1 rfl ?_
  exact zao (zav rfl rfl (congrArg _ (zdi ⟨⟨by omega, by omega⟩, fun q hq => hall q (by omega)⟩).symm))
 have h5a := zcy h5
 refine zay 1 rfl ?_
 exact zao (zav rfl rfl (congrArg _ (zbv (fun hp => by first | (have := hp.1; omega) | (exact absurd (hp.2 k (by omega)) (by assumption)))).symm))
def WtP (os : List Oq) (tk : List Bl) : Prop := ∃ i, i < os.length ∧ ((os.getD i oq0).k = 2 ∨ (os.getD i oq0).k = 3) ∧ (tk.getD (os.getD i oq0).a.toNat bl0).b = true
def OpnP (m : Md) (zs : List Int) (tk : List Bl) : Prop := tk.length = m.ss.length ∧ ∀ s, s < m.ss.length → ((tk.getD s bl0).b = true ↔ ∃ y ∈ zs, (m.gs.getD y.toNat as0).t = (s : Int))
theorem rds_rng {n : Int} {os : List Oq} (h : OpsP n os) {i : Nat} (hi : i < os.length) (hk : (os.getD i oq0).k = 2 ∨ (os.getD i oq0).k = 3) : 0 ≤ (os.getD i oq0).a ∧ (os.getD i oq0).a < n := by
  rcases (h.op i hi).2 with ⟨p1, p2, p3⟩ | ⟨p1, p2, p3⟩ | ⟨p1, p2, p3⟩ | ⟨p1, p2, p3, p4, p5, p6⟩
  all_goals omega
theorem OpnP.nil {m : Md} : OpnP m [] (List.replicate m.ss.length bl0) := ⟨List.length_replicate, fun s hs => by
  rw [List.getD_eq_getElem?_getD, List.getElem?_replicate, if_pos hs]
  exact ⟨fun h => absurd h (by decide), fun ⟨y, hy, _⟩ => by cases hy⟩⟩
theorem getD_setB {tk : List Bl} {a s : Nat} {b : Bl} (ha : a < tk.length) : (tk.set a b).getD s bl0 = if s = a then b else tk.getD s bl0 := by
  rw [List.getD_eq_getElem?_getD, List.getElem?_set, List.getD_eq_getElem?_getD]
  by_cases e : a = s
  · rw [if_pos e, if_pos e.symm, if_pos ha]; rfl
  · rw [if_neg e, if_neg (fun h => e h.symm)]
theorem OpnP.add {m : Md} {zs : List Int} {tk : List Bl} (h : OpnP m zs tk) {i : Nat} (ht : 0 ≤ (m.gs.getD i as0).t ∧ (m.gs.getD i as0).t < m.ss.length) : OpnP m (zs ++ [(i : Int)]) (tk.set (m.gs.getD i as0).t.toNat ⟨true⟩) := ⟨by rw [List.length_set]; exact h.1, fun s hs => by
  rw [getD_setB (by rw [h.1]; omega)]
  by_cases e : s = (m.gs.getD i as0).t.toNat
  · rw [if_pos e]
    exact ⟨fun _ => ⟨(i : Int), by simp, by rw [Int.toNat_natCast]; omega⟩, fun _ => rfl⟩
  · rw [if_neg e, h.2 s hs]
    constructor
    · rintro ⟨y, hy, h1⟩; exact ⟨y, List.mem_append_left _ hy, h1⟩
    · rintro ⟨y, hy, h1⟩
      rcases List.mem_append.1 hy with hy | hy
      · exact ⟨y, hy, h1⟩
      · rw [List.mem_singleton] at hy; subst hy; rw [Int.toNat_natCast] at h1; omega⟩
theorem wt_free {m : Md} {zs : List Int} {tk : List Bl} (h : OpnP m zs tk) {os : List Oq} (hos : OpsP m.ss.length os) : ¬ WtP os tk ↔ ∀ y ∈ zs, ¬ RdS os (m.gs.getD y.toNat as0).t := by
  constructor
  · rintro hn y hy ⟨i, hi, hk, ha⟩
    have hr := rds_rng hos hi hk
    exact hn ⟨i, hi, hk, (h.2 (os.getD i oq0).a.toNat (by omega)).2 ⟨y, hy, by omega⟩⟩
  · rintro hf ⟨i, hi, hk, hb⟩
    have hr := rds_rng hos hi hk
    obtain ⟨y, hy, ht⟩ := (h.2 (os.getD i oq0).a.toNat (by omega)).1 hb
    exact hf y hy ⟨i, hi, hk, by omega⟩
theorem opn_in {m : Md} (hm : DesP [m]) {zs : List Int} {tk : List Bl} (h : OpnP m zs tk) (hz : ∀ y ∈ zs, 0 ≤ y ∧ y < m.gs.length) {i : Nat} (hi : i < m.gs.length) (hb : (tk.getD (m.gs.getD i as0).t.toNat bl0).b = true) : (i : Int) ∈ zs := by
  have ht := ((hm.gs1 hi).tgt).1
  obtain ⟨y, hy, e⟩ := (h.2 (m.gs.getD i as0).t.toNat (by omega)).1 hb
  have h1 := hz y hy
  have h2 := tgt_inj (hm.2 0 (by simp)) (i := y.toNat) (j := i) (by omega) hi (by omega)
  rw [show (i : Int) = y by omega]; exact hy
theorem OpnP.del {m : Md} (hm : DesP [m]) {zs : List Int} {tk : List Bl} (h : OpnP m zs tk) (hz : ∀ y ∈ zs, 0 ≤ y ∧ y < m.gs.length) (hnd : zs.Nodup) {i : Nat} (hi : i < m.gs.length) : OpnP m (zs.erase (i : Int)) (tk.set (m.gs.getD i as0).t.toNat ⟨false⟩) := by
  have ht := ((hm.gs1 hi).tgt).1
  refine ⟨by rw [List.length_set]; exact h.1, fun s hs => ?_⟩
  rw [getD_setB (by rw [h.1]; omega)]
  by_cases e : s = (m.gs.getD i as0).t.toNat
  · rw [if_pos e]
    refine ⟨fun h9 => absurd h9 (by decide), fun ⟨y, hy, h1⟩ => ?_⟩
    obtain ⟨h3, h4⟩ := (hnd.mem_erase_iff).1 hy
    have h5 := hz y h4
    have h6 := tgt_inj (hm.2 0 (by simp)) (i := y.toNat) (j := i) (by omega) hi (by omega)
    omega
  · rw [if_neg e, h.2 s hs]
    constructor
    · rintro ⟨y, hy, h1⟩
      refine ⟨y, hnd.mem_erase_iff.2 ⟨fun e9 => ?_, hy⟩, h1⟩
      subst e9; rw [Int.toNat_natCast] at h1; omega
    · rintro ⟨y, hy, h1⟩; exact ⟨y, (hnd.mem_erase_iff.1 hy).2, h1⟩
theorem Can.backE {m : Md} {T : List Int} {x : Int} (hx : x ∈ T) (hnd : T.Nodup) (hf : FreeP m T x) (h : Can m (T.erase x)) : Can m T := by
  obtain ⟨f, h⟩ := h
  refine ⟨fun z => if z = x then 0 else f z + 1, fun a ha b hb hr => ?_⟩
  show (if b = _ then 0 else f b + 1) < (if a = _ then 0 else f a + 1)
  by_cases ea : a = x
  · rw [ea] at hr; exact absurd hr (hf b hb)
  · rw [if_neg ea]
    by_cases eb : b = x
    · rw [if_pos eb]; omega
    · rw [if_neg eb]; have := h a (hnd.mem_erase_iff.2 ⟨ea, ha⟩) b (hnd.mem_erase_iff.2 ⟨eb, hb⟩) hr; omega
theorem opn_stop {m : Md} (hm : DesP [m]) {zs : List Int} {tk : List Bl} (h : OpnP m zs tk) (hz : ∀ y ∈ zs, 0 ≤ y ∧ y < m.gs.length) (h0 : zs ≠ []) (hn : ∀ i, i < m.gs.length → ¬ ((tk.getD (m.gs.getD i as0).t.toNat bl0).b = true ∧ ¬ WtP (m.gs.getD i as0).os tk)) : ¬ Can m zs := fun hc => by
  obtain ⟨x, hx, hf⟩ := hc.free h0
  have h1 := hz x hx
  have hg := hm.gs1 (i := x.toNat) (by omega)
  exact hn x.toNat (by omega) ⟨(h.2 _ (by have := hg.tgt.1; omega)).2 ⟨x, hx, by have := hg.tgt.1; omega⟩, (wt_free h hg.2).2 hf⟩
section
variable {P : Program} {N : Nat} {w0 : World} {l : List HP} {env : List (Nat × Value)} {Q : Post}
theorem hc_loop5 {α β γ δ ε : Type} {c : Code} (L : α → β → γ → δ → ε → List HP) (E : α → β → γ → δ → ε → List (Nat × Value)) (G : α → β → γ → δ → ε → Prop) (m : α → β → γ → δ → ε → Nat) (x0 : α) (y0 : β) (z0 : γ) (u0 : δ) (v0 : ε) (hG : G x0 y0 z0 u0 v0) (hs : sub (E x0 y0 z0 u0 v0) env) (hl : (L x0 y0 z0 u0 v0).Sublist l)
    (round : ∀ x y z u v, G x y z u v → HC P N w0 (L x y z u v) (E x y z u v) c (Exit.then (fun a' w' => ∃ x' y' z' u' v', G x' y' z' u' v' ∧ m x' y' z' u' v' < m x y z u v ∧ St N w0 (L x' y' z' u' v') (E x' y' z' u' v') a' w') Q)) : HC P N w0 l env (.loop c) Q :=
  hc_loop (fun q : α × β × γ × δ × ε => L q.1 q.2.1 q.2.2.1 q.2.2.2.1 q.2.2.2.2) (fun q => E q.1 q.2.1 q.2.2.1 q.2.2.2.1 q.2.2.2.2) (fun q => G q.1 q.2.1 q.2.2.1 q.2.2.2.1 q.2.2.2.2) (fun q => m q.1 q.2.1 q.2.2.1 q.2.2.2.1 q.2.2.2.2) (x0, y0, z0, u0, v0) hG hs hl (fun q hq a w st => wp_mono (round q.1 q.2.1 q.2.2.1 q.2.2.2.1 q.2.2.2.2 hq a w st) fun e a' w' h => by
    cases e with
    | normal => obtain ⟨x', y', z', u', v', h1, h2, h3⟩ := h; exact ⟨(x', y', z', u', v'), h1, h2, h3⟩
    | exit id => exact h
    | goto l => exact h
    | ret => exact h
    | panic ch => exact h
    | outgrown => exact h)
theorem zen {α β γ δ ε : Type} {L : α → β → γ → δ → ε → List HP} {E : α → β → γ → δ → ε → List (Nat × Value)} {G : α → β → γ → δ → ε → Prop} {m : α → β → γ → δ → ε → Nat} {M : Nat} (x' : α) (y' : β) (z' : γ) (u' : δ) (v' : ε) (hG : G x' y' z' u' v') (hm : m x' y' z' u' v' < M) (hs : sub (E x' y' z' u' v') env) (hl : (L x' y' z' u' v').Sublist l) :
    HQ N w0 l env .normal (Exit.then (fun a' w' => ∃ x' y' z' u' v', G x' y' z' u' v' ∧ m x' y' z' u' v' < M ∧ St N w0 (L x' y' z' u' v') (E x' y' z' u' v') a' w') Q) := fun a w st => ⟨x', y', z', u', v', hG, hm, st.less hs hl⟩
end
end Go.Proofs.Ytodiifjigjnalaa
