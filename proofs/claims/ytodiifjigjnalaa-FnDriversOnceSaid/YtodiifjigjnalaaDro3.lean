/- Texts of the law FnDriversOnce, part 3: what it uses. -/
import Derived.Test.YtodiifjigjnalaaDro2
set_option linter.unusedVariables false
set_option linter.unusedSimpArgs false
set_option maxHeartbeats 4000000
set_option maxRecDepth 100000
namespace Go.Proofs.Ytodiifjigjnalaa
open Go.RowKit Go.ChangeShapes
open Go.RowKit
theorem l04Module_mut (g : Nat) (a : Option Addr) (len cap : Nat) (z : List Int) (D : List Md) (v : Value) (w0 : World) (l : List HP) (w : World) (hm0 : Mem w0 (curE g a len cap :: l) w) (hb : BRow .u8 w0 a len cap z) (hD : ∀ w, Mem w0 l w → RdsDs w v D) (hdd : DdP D) (hdl : D.length ≤ 2) (hv1 : v.oneCell' = true) (hch : ∀ m ∈ D, m.sv.oneCell' = true ∧ m.av.oneCell' = true ∧ m.iv.oneCell' = true ∧ m.mv.oneCell' = true) :
   Calls Try.prog 105 #[.pointer (some ⟨g, 0, none⟩), .agg #[v]] w (fun e_ w_ => ∃ v_ p_, e_ = .returned v_ ∧ (fun u_ p_ => ∃ (m : Md) (ps : List HP), u_ = m.agg ∧ p_ = bigE [curE g a len cap, bigE ps] ∧ (∀ w, (bigE ps).holds w → RdsMd w m) ∧ (m.sv.oneCell' = true ∧ m.av.oneCell' = true ∧ m.iv.oneCell' = true ∧ m.mv.oneCell' = true) ∧ DmP D m) v_ p_ ∧ Mem w0 (p_ :: l) w_) := by
 refine zer (N := 282) (args := [.pointer (some ⟨g, 0, none⟩), .agg #[v]]) Try.func105 rfl rfl hm0 (srQ ?_)
 refine zdv rfl (zdp rfl rfl) ?_
 intro b1
 refine zdv rfl (zbj (z := .agg #[.slice none 0 0, .slice none 0 0, .slice none 0 0, .slice none 0 0]) rfl rfl) ?_
 intro b2
 refine ntQ (srQ (hvQ rfl (zax (cs := #[.slice none 0 0, .slice none 0 0, .slice none 0 0, .slice none 0 0]) rfl rfl rfl) ?_))
 refine zdv rfl (zbj (z := .agg #[.slice none 0 0, .slice none 0 0, .slice none 0 0, .slice none 0 0]) rfl rfl) ?_
 intro b3
 refine zbn (cs' := #[.slice none 0 0, .slice none 0 0, .slice none 0 0, .slice none 0 0]) (i := 0) (off := 0) (us := [.slice none 0 0, .slice none 0 0, .slice none 0 0, .slice none 0 0]) rfl rfl rfl rfl rfl rfl rfl (zad rfl (zad rfl (zad rfl (zad rfl zbg)))) rfl rfl rfl (ntQ (srQ ?_))
 refine zeb rfl (zds (s := 1) rfl Try.underlying48 rfl) ?_
 intro g4
 refine zba 1 rfl (srQ ?_)
 refine zeb rfl (zds (s := 1) rfl Try.underlying48 rfl) ?_
 intro g5
 refine zba 1 rfl (zah (reQ 1 rfl ?_))
 refine zbz (R := (fun u_ p_ => (∃ x_ : Int, u_ = .int .i64 x_ ∧ 0 ≤ x_ ∧ x_ < 2) ∧ p_ = curE g a len cap)) 5 rfl rfl rfl rfl rfl (fun l' w hm => zbl g a len cap z 2 _ _ _ hm hb (by constructor <;> omega)) ?_
 intro v6 p7 hR8
 obtain ⟨⟨xhR8, rfl, xhR80, xhR81⟩, rfl⟩ := hR8
 refine zci (l' := (rowE 3 1 (.slice (some ⟨g5, 0, none⟩) 0 0) 0 ([]) :: rowE 3 1 (.slice (some ⟨g4, 0, none⟩) 0 0) 0 ([]) :: boxE b3 #[.slice none 0 0, .slice none 0 0, .slice none 0 0, .slice none 0 0] 35 :: boxE b2 #[.slice none 0 0, .slice none 0 0, .slice none 0 0, .slice none 0 0] 35 :: boxE b1 #[v] 26 :: curE g a len cap :: l)) rfl ?_
 refine hvQ rfl (vaQ rfl rfl rfl) (zba 1 rfl (zah (zbk 1 rfl (zbh ?_))))
 refine zej (bigE [] :: rowE 38 3 (.slice none 0 0) (([] : List Sg).length) (([] : List Sg).flatMap sgC) :: rowE 63 3 (.slice none 0 0) (([] : List Ix).length) (([] : List Ix).flatMap ixC) :: rowE 94 4 (.slice none 0 0) (([] : List Mm).length) (([] : List Mm).flatMap mmC) :: rowE 3 1 (.slice (some ⟨g5, 0, none⟩) 0 0) 0 ([]) :: rowE 3 1 (.slice (some ⟨g4, 0, none⟩) 0 0) 0 ([]) :: boxE b3 #[.slice none 0 0, .slice none 0 0, .slice none 0 0, .slice none 0 0] 35 :: boxE b2 #[.slice none 0 0, .slice none 0 0, .slice none 0 0, .slice none 0 0] 35 :: boxE b1 #[v] 26 :: curE g a len cap :: l) (fun w hm => Mem.big (ps := []) (((hm.nilRow 94 4).nilRow 63 3).nilRow 38 3)) ?_
 refine lkQ4 (α := Nat) (β := Md) (γ := Value × List Int) (δ := List HP) [0, 1, 3, 4, 5, 7, 8] rfl (fun k m U ps => (bigE ps :: rowE 38 3 m.sv m.ss.length (m.ss.flatMap sgC) :: rowE 63 3 m.iv m.xs.length (m.xs.flatMap ixC) :: rowE 94 4 m.mv m.ms.length (m.ms.flatMap mmC) :: rowE 3 1 (.slice (some ⟨g5, 0, none⟩) 0 0) 0 ([]) :: rowE 3 1 U.1 U.2.length (U.2.map (Value.int .i64)) :: boxE b3 #[m.sv, m.av, m.iv, m.mv] 35 :: boxE b2 #[.slice none 0 0, .slice none 0 0, .slice none 0 0, .slice none 0 0] 35 :: boxE b1 #[v] 26 :: curE g a len cap :: l)) (fun k m U ps => [(6, U.1), (9, .int .i64 (k : Int))]) (fun k m U ps => (k : Int) ≤ 1 + xhR8 ∧ MI D m U.2 [] k 0 0 0 k k ∧ ∀ w, (bigE ps).holds w → RdP w m) (fun k m U ps => (1 + xhR8).toNat - k) 0 md0 (_, []) [] ⟨by omega, MI.start D, fun w _ => RdP.nil w⟩ (saQ rfl) (.refl _) ?_
 intro k m U ps hi9
 obtain ⟨hk, h1, hp1⟩ := hi9
 have hns := h1.ns
 have hna := h1.na
 refine zah (zah (reQ 2 rfl ?_))
 refine zcb rfl rfl rfl rfl rfl rfl (fun h10 => ?_) (fun h10 => ?_)
 ·
  refine ntQ (zaj rfl (zdi (sbQ (zah (reQ 1 rfl (hvQ rfl (fdQ 0 rfl rfl rfl) (hvQ rfl (zac rfl rfl rfl (zaa 6 rfl rfl)) (hvQ rfl (lnQ rfl rfl rfl (zam 1 rfl)) ?_))))))))
  refine zeb rfl (zai (z := .int .i64 0) (s := 1) (cs := ([(m.ss.length : Int)].map (Value.int .i64))) rfl Try.underlying48 rfl (by decide) rfl (by kernel_rfl) rfl) ?_
  intro g11
  refine zct (i := 6) (z := .int .i64 0) (bytes := 8) rfl rfl rfl rfl Try.underlying48 (by kernel_rfl) rfl rfl rfl rfl (zam 0 rfl) (zcn _) (by first | omega | (simp; done) | (simp; omega)) (zcj U.2 ([(m.ss.length : Int)])) (zdh U.2 ([(m.ss.length : Int)])) (fun _ => rfl) ?_
  intro v12
  refine zba 1 rfl ?_
  refine zfc 11 [9, 8, 7, 6, 5, 4, 3, 2, 1, 0, 10] rfl rfl (by decide) ?_
  refine zei (l := (rowE 3 1 (.slice (some ⟨g11, 0, none⟩) 1 1) 1 ([(m.ss.length : Int)].map (Value.int .i64)) :: bigE ps :: rowE 38 3 m.sv m.ss.length (m.ss.flatMap sgC) :: rowE 63 3 m.iv m.xs.length (m.xs.flatMap ixC) :: rowE 94 4 m.mv m.ms.length (m.ms.flatMap mmC) :: rowE 3 1 (.slice (some ⟨g5, 0, none⟩) 0 0) 0 ([]) :: rowE 3 1 v12 ((U.2 ++ ([(m.ss.length : Int)])).length) ((U.2 ++ ([(m.ss.length : Int)])).map (Value.int .i64)) :: boxE b3 #[m.sv, m.av, m.iv, m.mv] 35 :: boxE b2 #[.slice none 0 0, .slice none 0 0, .slice none 0 0, .slice none 0 0] 35 :: boxE b1 #[v] 26 :: l)) rfl 7 [0, 1, 2, 3, 4, 5, 6] (List.take 7 _) (List.drop 7 _) [[], [0], [], [], [2, 3], [4], [4, 5]] [42, 43, 44, 45, 46, 47, 48] (fun i_ vs_ v_ p_ => match i_ with | 0 => v_ = .pointer (some ⟨b3, 0 + 0, none⟩) ∧ p_ = [] | 1 => v_ = m.sv ∧ p_ = [] | 2 => v_ = .pointer (some ⟨g, 0, none⟩) ∧ p_ = [] | 3 => IsRow 3 1 4 ([1, 1, 2, 0].map (Value.int .i64)) v_ p_ | 4 => (∃ pm_, p_ = [pm_] ∧ (fun u_ p_ => (∃ x : Int, u_ = .int .i64 x ∧ x ∈ ([1, 1, 2, 0] : List Int)) ∧ p_ = curE g a len cap) v_ pm_) | 5 => v_ = .agg #[.int .i64 0, .int .i64 (intOf_o (List.getD vs_ 0 undef)), .int .i64 0] ∧ p_ = [] | 6 => IsRow 38 3 1 ([0, (intOf_o (List.getD vs_ 0 undef)), 0].map (Value.int .i64)) v_ p_ | _ => True) [[], [0], [], [], [2, 3], [4], [4, 5]] [none, none, none, none, some 10, none, none] [curE g a len cap] [0, 1, 2, 3, 4, 5, 6] 10 (List.take_append_drop 7 _).symm (by kernel_rfl) (by kernel_rfl) (by kernel_rfl) rfl rfl ?_ ?_
  ·
   refine ⟨?_, ?_, ?_, ?_, ?_, ?_, ?_, trivial⟩
   ·
    intro vf pf hmu hR
    refine dqQ [] [] rfl (zbr (zao [5] rfl) ?_)
    exact zbq (fdQ 0 rfl rfl rfl)
   ·
    intro vf pf hmu hR
    have e0 := hR 0 (by decide)
    refine dqQ [0] [0] rfl (zaz (sk 42 (congrArg some e0.1) (zaf _)) (List.sublist_append_right _ _) ?_)
    exact zbq (zac rfl rfl rfl (zaa 7 rfl rfl))
   ·
    intro vf pf hmu hR
    refine dqQ [] [] rfl (zbr (zao [0] rfl) ?_)
    exact zbq (zay rfl)
   ·
    intro vf pf hmu hR
    refine dqQ [] [] rfl (zaz (zaf _) (List.sublist_append_right _ _) ?_)
    exact zai (z := .int .i64 0) (s := 1) (cs := ([1, 1, 2, 0].map (Value.int .i64))) rfl Try.underlying48 rfl (by decide) rfl (by kernel_rfl) rfl
   ·
    intro vf pf hmu hR
    have e2 := hR 2 (by decide)
    have e3 : IsRow 3 1 4 ([1, 1, 2, 0].map (Value.int .i64)) (vf 3) (pf 3) := hR 3 (by decide)
    obtain ⟨g13, vE3, pE3⟩ := e3
    refine Or.inl ⟨rfl, ?_⟩
    show RunM _ _ _ (pf 10) (([2, 3] : List Nat).flatMap pf ++ _) (envOf _ vf [2, 3] ++ _) _ _
    rw [hmu]
    exact zcp (sk 44 (congrArg some e2.1) (sk 45 (congrArg some vE3) (zaf _))) (by simp only [pE3, vE3, e2.2, fS] <;> rfl) (zcy (R := (fun u_ p_ => (∃ x : Int, u_ = .int .i64 x ∧ x ∈ ([1, 1, 2, 0] : List Int)) ∧ p_ = curE g a len cap)) rfl rfl (fun L w hX hm => zdf g a len cap z (.slice (some ⟨g13, 0, none⟩) 4 4) [1, 1, 2, 0] _ _ _ hm hb (fun w hm => (zam (l := (rowE 3 1 (.slice (some ⟨g13, 0, none⟩) 4 4) 4 ([1, 1, 2, 0].map (Value.int .i64)) :: rowE 3 1 (.slice (some ⟨g11, 0, none⟩) 1 1) 1 ([(m.ss.length : Int)].map (Value.int .i64)) :: bigE ps :: rowE 38 3 m.sv m.ss.length (m.ss.flatMap sgC) :: rowE 63 3 m.iv m.xs.length (m.xs.flatMap ixC) :: rowE 94 4 m.mv m.ms.length (m.ms.flatMap mmC) :: rowE 3 1 (.slice (some ⟨g5, 0, none⟩) 0 0) 0 ([]) :: rowE 3 1 v12 ((U.2 ++ ([(m.ss.length : Int)])).length) ((U.2 ++ ([(m.ss.length : Int)])).map (Value.int .i64)) :: boxE b3 #[m.sv, m.av, m.iv, m.mv] 35 :: boxE b2 #[.slice none 0 0, .slice none 0 0, .slice none 0 0, .slice none 0 0] 35 :: boxE b1 #[v] 26 :: l)) 0 rfl) w (hX w hm)) (by decide)))
   ·
    intro vf pf hmu hR
    have e4 : (∃ pm_, (pf 4) = [pm_] ∧ (fun u_ p_ => (∃ x : Int, u_ = .int .i64 x ∧ x ∈ ([1, 1, 2, 0] : List Int)) ∧ p_ = curE g a len cap) (vf 4) pm_) := hR 4 (by decide)
    obtain ⟨p15, pE4, hR16⟩ := e4
    obtain ⟨v14, vE4⟩ : ∃ x, vf 4 = x := ⟨_, rfl⟩
    rw [vE4] at hR16
    obtain ⟨⟨xhR16, rfl, xhR16m⟩, rfl⟩ := hR16
    have xhR16w := lit4 xhR16m (by decide)
    refine dqQ [4] [4] rfl (zcd (sk 46 (congrArg some vE4) (zaf _)) (by simp only [pE4, vE4, fS] <;> rfl) ?_)
    exact zcc (zbq (zax (cs := #[.int .i64 0, .int .i64 xhR16, .int .i64 0]) rfl rfl rfl)) (fun _ _ h => ⟨h.1.trans (by show _ = (.agg #[.int .i64 0, .int .i64 (intOf_o (vf 4)), .int .i64 0] : Value); first | (rw [vE4]; done) | (rw [vE4]; rfl)), h.2⟩)
   intro vf pf hmu hR
   have e4 : (∃ pm_, (pf 4) = [pm_] ∧ (fun u_ p_ => (∃ x : Int, u_ = .int .i64 x ∧ x ∈ ([1, 1, 2, 0] : List Int)) ∧ p_ = curE g a len cap) (vf 4) pm_) := hR 4 (by decide)
   obtain ⟨p15, pE4, hR16⟩ := e4
   obtain ⟨v14, vE4⟩ : ∃ x, vf 4 = x := ⟨_, rfl⟩
   rw [vE4] at hR16
   obtain ⟨⟨xhR16, rfl, xhR16m⟩, rfl⟩ := hR16
   have xhR16w := lit4 xhR16m (by decide)
   have e5 : (vf 5) = .agg #[.int .i64 0, .int .i64 (intOf_o (vf 4)), .int .i64 0] ∧ (pf 5) = [] := hR 5 (by decide)
   rw [vE4] at e5
   refine dqQ [4, 5] [4, 5] rfl (zcd (sk 47 (congrArg some e5.1) (zaf _)) (by simp only [pE4, vE4, e5.2, fS] <;> rfl) ?_)
   exact zcc (zai (z := .agg #[.int .i64 0, .int .i64 0, .int .i64 0]) (s := 3) (cs := ([0, xhR16, 0].map (Value.int .i64))) rfl Try.underlying30 rfl (by decide) rfl (by kernel_rfl) rfl) (fun v_ p_ h => by show IsRow 38 3 1 ([0, (intOf_o (vf 4)), 0].map (Value.int .i64)) v_ p_; rw [vE4]; exact h)
  intro vf pf hmu hR
  have e1 := hR 1 (by decide)
  have e3 : IsRow 3 1 4 ([1, 1, 2, 0].map (Value.int .i64)) (vf 3) (pf 3) := hR 3 (by decide)
  obtain ⟨g13, vE3, pE3⟩ := e3
  have e4 : (∃ pm_, (pf 4) = [pm_] ∧ (fun u_ p_ => (∃ x : Int, u_ = .int .i64 x ∧ x ∈ ([1, 1, 2, 0] : List Int)) ∧ p_ = curE g a len cap) (vf 4) pm_) := hR 4 (by decide)
  obtain ⟨p15, pE4, hR16⟩ := e4
  obtain ⟨v14, vE4⟩ : ∃ x, vf 4 = x := ⟨_, rfl⟩
  rw [vE4] at hR16
  obtain ⟨⟨xhR16, rfl, xhR16m⟩, rfl⟩ := hR16
  have xhR16w := lit4 xhR16m (by decide)
  have e6 : IsRow 38 3 1 ([0, (intOf_o (vf 4)), 0].map (Value.int .i64)) (vf 6) (pf 6) := hR 6 (by decide)
  rw [vE4] at e6
  obtain ⟨g17, vE6, pE6⟩ := e6
  have q0 := hR 0 (by decide)
  have q1 := hR 1 (by decide)
  have q2 := hR 2 (by decide)
  have q5 := hR 5 (by decide)
  refine zcr (zcg [33, 9, 8, 7, 6, 5, 4, 3, 1, 0] _ (sk 43 (congrArg some e1.1) (sk 48 (congrArg some vE6) (zaf _))) rfl) (by simp only [pE3, vE3, pE4, vE4, pE6, vE6, q0.2, q1.2, q2.2, q5.2, fS] <;> rfl) ?_
  simp only [List.drop_succ_cons, List.drop_zero]
  refine zct (i := 5) (z := .agg #[.int .i64 0, .int .i64 0, .int .i64 0]) (bytes := 24) rfl rfl rfl rfl Try.underlying30 (by kernel_rfl) rfl rfl rfl rfl (zam 2 rfl) (zcn _) (by first | omega | (simp only [List.length_append, List.length_cons, List.length_nil]; omega)) (zcj m.ss [(Sg.mk 0 xhR16 0)]) (zdc sgC m.ss (Sg.mk 0 xhR16 0) _ rfl) (fun _ => rfl) ?_
  intro v18
  refine hvQ rfl (fdQ 0 rfl rfl rfl) (zdb (i := 5) rfl (fun ho19 => ?_))
  refine zec (i := 10) (cs' := #[v18, m.av, m.iv, m.mv]) rfl rfl rfl rfl rfl rfl ho19 rfl rfl rfl rfl (zcx (zdq (reQ 1 rfl (hvQ rfl (vaQ rfl rfl rfl) (enQ 1 rfl ?_)))))
  refine zbd 13 [1, 12, 11, 10, 9, 8, 7, 6, 5, 4] rfl rfl (by decide) ?_
  exact zda (k + 1) (Md.mk v18 m.av m.iv m.mv (m.ss ++ [(Sg.mk 0 xhR16 0)]) m.gs m.xs m.ms) (v12, U.2 ++ ([(m.ss.length : Int)])) ps ⟨by omega, h1.inp _ (by assumption), fun w hw => hp1 w hw⟩ (by omega) (saQ rfl) (.refl _)
 refine ntQ (zap rfl ?_)
 refine zbv (zep ?_)
 refine zan (zbf (zah (reQ 1 rfl ?_)))
 refine zbz (R := (fun u_ p_ => (∃ x_ : Int, u_ = .int .i64 x_ ∧ 0 ≤ x_ ∧ x_ < 3) ∧ p_ = curE g a len cap)) 9 rfl rfl rfl rfl rfl (fun l' w hm => zbl g a len cap z 3 _ _ _ hm hb (by constructor <;> omega)) ?_
 intro v20 p21 hR22
 obtain ⟨⟨xhR22, rfl, xhR220, xhR221⟩, rfl⟩ := hR22
 refine zci (l' := (bigE ps :: rowE 38 3 m.sv m.ss.length (m.ss.flatMap sgC) :: rowE 63 3 m.iv m.xs.length (m.xs.flatMap ixC) :: rowE 94 4 m.mv m.ms.length (m.ms.flatMap mmC) :: rowE 3 1 (.slice (some ⟨g5, 0, none⟩) 0 0) 0 ([]) :: rowE 3 1 U.1 U.2.length (U.2.map (Value.int .i64)) :: boxE b3 #[m.sv, m.av, m.iv, m.mv] 35 :: boxE b2 #[.slice none 0 0, .slice none 0 0, .slice none 0 0, .slice none 0 0] 35 :: boxE b1 #[v] 26 :: curE g a len cap :: l)) rfl ?_
 refine zba 1 rfl (zah (zbk 1 rfl (zbh ?_)))
 refine lkQ4 (α := Nat) (β := Md) (γ := Value × List Int) (δ := Value × List Int) [0, 1, 3, 4, 5, 8, 33] rfl (fun k2 m2 U2 W2 => (bigE ps :: rowE 38 3 m2.sv m2.ss.length (m2.ss.flatMap sgC) :: rowE 63 3 m2.iv m2.xs.length (m2.xs.flatMap ixC) :: rowE 94 4 m2.mv m2.ms.length (m2.ms.flatMap mmC) :: rowE 3 1 W2.1 W2.2.length (W2.2.map (Value.int .i64)) :: rowE 3 1 U2.1 U2.2.length (U2.2.map (Value.int .i64)) :: boxE b3 #[m2.sv, m2.av, m2.iv, m2.mv] 35 :: boxE b2 #[.slice none 0 0, .slice none 0 0, .slice none 0 0, .slice none 0 0] 35 :: boxE b1 #[v] 26 :: curE g a len cap :: l)) (fun k2 m2 U2 W2 => [(6, U2.1), (7, W2.1), (10, .int .i64 (k2 : Int))]) (fun k2 m2 U2 W2 => (k2 : Int) ≤ xhR22 ∧ MI D m2 U2.2 W2.2 (2 + k2) 0 0 0 2 (2 + k2) ∧ W2.2.length = k2 ∧ W2.2.Pairwise (· < ·) ∧ ∀ w, (bigE ps).holds w → RdP w m2) (fun k2 m2 U2 W2 => (xhR22).toNat - k2) 0 m U (_, []) ⟨by omega, h1.up (by omega) (by omega) (by omega) (by omega) (by omega) (by omega), rfl, .nil, hp1⟩ (saQ rfl) (.refl _) ?_
 intro k2 m2 U2 W2 hi23
 obtain ⟨hk2, h2, hwl2, hW2, hp2⟩ := hi23
 have hns2 := h2.ns
 have hna2 := h2.na
 refine zah (zah (reQ 2 rfl ?_))
 refine zcb rfl rfl rfl rfl rfl rfl (fun h24 => ?_) (fun h24 => ?_)
 ·
  refine ntQ (zaj rfl (zdi (sbQ (zah (reQ 1 rfl (hvQ rfl (fdQ 0 rfl rfl rfl) (hvQ rfl (zac rfl rfl rfl (zaa 6 rfl rfl)) (hvQ rfl (lnQ rfl rfl rfl (zam 1 rfl)) ?_))))))))
  refine zeb rfl (zai (z := .int .i64 0) (s := 1) (cs := ([(m2.ss.length : Int)].map (Value.int .i64))) rfl Try.underlying48 rfl (by decide) rfl (by kernel_rfl) rfl) ?_
  intro g25
  refine zct (i := 6) (z := .int .i64 0) (bytes := 8) rfl rfl rfl rfl Try.underlying48 (by kernel_rfl) rfl rfl rfl rfl (zam 0 rfl) (zcn _) (by first | omega | (simp; done) | (simp; omega)) (zcj U2.2 ([(m2.ss.length : Int)])) (zdh U2.2 ([(m2.ss.length : Int)])) (fun _ => rfl) ?_
  intro v26
  refine zba 1 rfl (zah (reQ 1 rfl (hvQ rfl (fdQ 0 rfl rfl rfl) (hvQ rfl (zac rfl rfl rfl (zaa 7 rfl rfl)) (hvQ rfl (lnQ rfl rfl rfl (zam 2 rfl)) ?_)))))
  refine zeb rfl (zai (z := .int .i64 0) (s := 1) (cs := ([(m2.ss.length : Int)].map (Value.int .i64))) rfl Try.underlying48 rfl (by decide) rfl (by kernel_rfl) rfl) ?_
  intro g27
  refine zct (i := 6) (z := .int .i64 0) (bytes := 8) rfl rfl rfl rfl Try.underlying48 (by kernel_rfl) rfl rfl rfl rfl (zam 0 rfl) (zcn _) (by first | omega | (simp; done) | (simp; omega)) (zcj W2.2 ([(m2.ss.length : Int)])) (zdh W2.2 ([(m2.ss.length : Int)])) (fun _ => rfl) ?_
  intro v28
  refine zba 1 rfl ?_
  refine zfc 12 [10, 9, 8, 7, 6, 5, 4, 3, 2, 1, 0, 11] rfl rfl (by decide) ?_
  refine zei (l := (rowE 3 1 (.slice (some ⟨g27, 0, none⟩) 1 1) 1 ([(m2.ss.length : Int)].map (Value.int .i64)) :: rowE 3 1 (.slice (some ⟨g25, 0, none⟩) 1 1) 1 ([(m2.ss.length : Int)].map (Value.int .i64)) :: bigE ps :: rowE 38 3 m2.sv m2.ss.length (m2.ss.flatMap sgC) :: rowE 63 3 m2.iv m2.xs.length (m2.xs.flatMap ixC) :: rowE 94 4 m2.mv m2.ms.length (m2.ms.flatMap mmC) :: rowE 3 1 v28 ((W2.2 ++ ([(m2.ss.length : Int)])).length) ((W2.2 ++ ([(m2.ss.length : Int)])).map (Value.int .i64)) :: rowE 3 1 v26 ((U2.2 ++ ([(m2.ss.length : Int)])).length) ((U2.2 ++ ([(m2.ss.length : Int)])).map (Value.int .i64)) :: boxE b3 #[m2.sv, m2.av, m2.iv, m2.mv] 35 :: boxE b2 #[.slice none 0 0, .slice none 0 0, .slice none 0 0, .slice none 0 0] 35 :: boxE b1 #[v] 26 :: l)) rfl 9 [0, 1, 2, 3, 4, 5, 6, 7, 8] (List.take 9 _) (List.drop 9 _) [[], [0], [], [], [2, 3], [], [4, 5], [4, 6], [4, 6, 7]] [70, 71, 72, 73, 74, 75, 76, 77, 78] (fun i_ vs_ v_ p_ => match i_ with | 0 => v_ = .pointer (some ⟨b3, 0 + 0, none⟩) ∧ p_ = [] | 1 => v_ = m2.sv ∧ p_ = [] | 2 => v_ = .pointer (some ⟨g, 0, none⟩) ∧ p_ = [] | 3 => IsRow 3 1 3 ([1, 2, 0].map (Value.int .i64)) v_ p_ | 4 => (∃ pm_, p_ = [pm_] ∧ (fun u_ p_ => (∃ x : Int, u_ = .int .i64 x ∧ x ∈ ([1, 2, 0] : List Int)) ∧ p_ = curE g a len cap) v_ pm_) | 5 => v_ = .pointer (some ⟨g, 0, none⟩) ∧ p_ = [] | 6 => (∃ pm_, p_ = [pm_] ∧ (fun u_ p_ => (∃ x_ : Int, u_ = .int .i64 x_ ∧ 0 ≤ x_ ∧ x_ < 4) ∧ p_ = curE g a len cap) v_ pm_) | 7 => v_ = .agg #[.int .i64 3, .int .i64 (intOf_o (List.getD vs_ 0 undef)), .int .i64 (intOf_o (List.getD vs_ 1 undef))] ∧ p_ = [] | 8 => IsRow 38 3 1 ([3, (intOf_o (List.getD vs_ 0 undef)), (intOf_o (List.getD vs_ 1 undef))].map (Value.int .i64)) v_ p_ | _ => True) [[], [0], [], [], [2, 3], [], [5], [6], [6, 7]] [none, none, none, none, some 12, none, some 4, none, none] [curE g a len cap] [0, 1, 2, 3, 5, 6, 7, 8] 12 (List.take_append_drop 9 _).symm (by kernel_rfl) (by kernel_rfl) (by kernel_rfl) rfl rfl ?_ ?_
  ·
   refine ⟨?_, ?_, ?_, ?_, ?_, ?_, ?_, ?_, ?_, trivial⟩
   ·
    intro vf pf hmu hR
    refine dqQ [] [] rfl (zbr (zao [5] rfl) ?_)
    exact zbq (fdQ 0 rfl rfl rfl)
   ·
    intro vf pf hmu hR
    have e0 := hR 0 (by decide)
    refine dqQ [0] [0] rfl (zaz (sk 70 (congrArg some e0.1) (zaf _)) (List.sublist_append_right _ _) ?_)
    exact zbq (zac rfl rfl rfl (zaa 8 rfl rfl))
   ·
    intro vf pf hmu hR
    refine dqQ [] [] rfl (zbr (zao [0] rfl) ?_)
    exact zbq (zay rfl)
   ·
    intro vf pf hmu hR
    refine dqQ [] [] rfl (zaz (zaf _) (List.sublist_append_right _ _) ?_)
    exact zai (z := .int .i64 0) (s := 1) (cs := ([1, 2, 0].map (Value.int .i64))) rfl Try.underlying48 rfl (by decide) rfl (by kernel_rfl) rfl
   ·
    intro vf pf hmu hR
    have e2 := hR 2 (by decide)
    have e3 : IsRow 3 1 3 ([1, 2, 0].map (Value.int .i64)) (vf 3) (pf 3) := hR 3 (by decide)
    obtain ⟨g29, vE3, pE3⟩ := e3
    refine Or.inl ⟨rfl, ?_⟩
    show RunM _ _ _ (pf 12) (([2, 3] : List Nat).flatMap pf ++ _) (envOf _ vf [2, 3] ++ _) _ _
    rw [hmu]
    refine zcp (sk 72 (congrArg some e2.1) (sk 73 (congrArg some vE3) (zaf _))) (by simp only [pE3, vE3, e2.2, fS] <;> rfl) ?_
    exact zcy (R := (fun u_ p_ => (∃ x : Int, u_ = .int .i64 x ∧ x ∈ ([1, 2, 0] : List Int)) ∧ p_ = curE g a len cap)) rfl rfl (fun L w hX hm => zdf g a len cap z (.slice (some ⟨g29, 0, none⟩) 3 3) [1, 2, 0] _ _ _ hm hb (fun w hm => (zam (l := (rowE 3 1 (.slice (some ⟨g29, 0, none⟩) 3 3) 3 ([1, 2, 0].map (Value.int .i64)) :: rowE 3 1 (.slice (some ⟨g27, 0, none⟩) 1 1) 1 ([(m2.ss.length : Int)].map (Value.int .i64)) :: rowE 3 1 (.slice (some ⟨g25, 0, none⟩) 1 1) 1 ([(m2.ss.length : Int)].map (Value.int .i64)) :: bigE ps :: rowE 38 3 m2.sv m2.ss.length (m2.ss.flatMap sgC) :: rowE 63 3 m2.iv m2.xs.length (m2.xs.flatMap ixC) :: rowE 94 4 m2.mv m2.ms.length (m2.ms.flatMap mmC) :: rowE 3 1 v28 ((W2.2 ++ ([(m2.ss.length : Int)])).length) ((W2.2 ++ ([(m2.ss.length : Int)])).map (Value.int .i64)) :: rowE 3 1 v26 ((U2.2 ++ ([(m2.ss.length : Int)])).length) ((U2.2 ++ ([(m2.ss.length : Int)])).map (Value.int .i64)) :: boxE b3 #[m2.sv, m2.av, m2.iv, m2.mv] 35 :: boxE b2 #[.slice none 0 0, .slice none 0 0, .slice none 0 0, .slice none 0 0] 35 :: boxE b1 #[v] 26 :: l)) 0 rfl) w (hX w hm)) (by decide))
   ·
    intro vf pf hmu hR
    refine dqQ [] [] rfl (zbr (zao [0] rfl) ?_)
    exact zbq (zay rfl)
   ·
    intro vf pf hmu hR
    have e4 : (∃ pm_, (pf 4) = [pm_] ∧ (fun u_ p_ => (∃ x : Int, u_ = .int .i64 x ∧ x ∈ ([1, 2, 0] : List Int)) ∧ p_ = curE g a len cap) (vf 4) pm_) := hR 4 (by decide)
    obtain ⟨p31, pE4, hR32⟩ := e4
    obtain ⟨v30, vE4⟩ : ∃ x, vf 4 = x := ⟨_, rfl⟩
    rw [vE4] at hR32
    obtain ⟨⟨xhR32, rfl, xhR32m⟩, rfl⟩ := hR32
    have xhR32w := lit4 xhR32m (by decide)
    have e5 := hR 5 (by decide)
    refine Or.inl ⟨rfl, ?_⟩
    show RunM _ _ _ (pf 4) (([5] : List Nat).flatMap pf ++ _) (envOf _ vf [4, 5] ++ _) _ _
    rw [pE4]
    exact zcp (sk 75 (congrArg some e5.1) (zaf _)) (by simp only [e5.2, fS] <;> rfl) (zcy (R := (fun u_ p_ => (∃ x_ : Int, u_ = .int .i64 x_ ∧ 0 ≤ x_ ∧ x_ < 4) ∧ p_ = curE g a len cap)) rfl rfl (fun L w hX hm => zbl g a len cap z 4 _ _ _ hm hb (by constructor <;> omega)))
   ·
    intro vf pf hmu hR
    have e4 : (∃ pm_, (pf 4) = [pm_] ∧ (fun u_ p_ => (∃ x : Int, u_ = .int .i64 x ∧ x ∈ ([1, 2, 0] : List Int)) ∧ p_ = curE g a len cap) (vf 4) pm_) := hR 4 (by decide)
    obtain ⟨p31, pE4, hR32⟩ := e4
    obtain ⟨v30, vE4⟩ : ∃ x, vf 4 = x := ⟨_, rfl⟩
    rw [vE4] at hR32
    obtain ⟨⟨xhR32, rfl, xhR32m⟩, rfl⟩ := hR32
    have xhR32w := lit4 xhR32m (by decide)
    have e6 : (∃ pm_, (pf 6) = [pm_] ∧ (fun u_ p_ => (∃ x_ : Int, u_ = .int .i64 x_ ∧ 0 ≤ x_ ∧ x_ < 4) ∧ p_ = curE g a len cap) (vf 6) pm_) := hR 6 (by decide)
    obtain ⟨p34, pE6, hR35⟩ := e6
    obtain ⟨v33, vE6⟩ : ∃ x, vf 6 = x := ⟨_, rfl⟩
    rw [vE6] at hR35
    obtain ⟨⟨xhR35, rfl, xhR350, xhR351⟩, rfl⟩ := hR35
    refine dqQ [6] [4, 6] rfl (zcd (sk 74 (congrArg some vE4) (sk 76 (congrArg some vE6) (zaf _))) (by simp only [pE6, vE6, fS] <;> rfl) ?_)
    exact zcc (zbq (zax (cs := #[.int .i64 3, .int .i64 xhR32, .int .i64 xhR35]) rfl rfl rfl)) (fun _ _ h => ⟨h.1.trans (by show _ = (.agg #[.int .i64 3, .int .i64 (intOf_o (vf 4)), .int .i64 (intOf_o (vf 6))] : Value); first | (rw [vE4, vE6]; done) | (rw [vE4, vE6]; rfl)), h.2⟩)
   intro vf pf hmu hR
   have e4 : (∃ pm_, (pf 4) = [pm_] ∧ (fun u_ p_ => (∃ x : Int, u_ = .int .i64 x ∧ x ∈ ([1, 2, 0] : List Int)) ∧ p_ = curE g a len cap) (vf 4) pm_) := hR 4 (by decide)
   obtain ⟨p31, pE4, hR32⟩ := e4
   obtain ⟨v30, vE4⟩ : ∃ x, vf 4 = x := ⟨_, rfl⟩
   rw [vE4] at hR32
   obtain ⟨⟨xhR32, rfl, xhR32m⟩, rfl⟩ := hR32
   have xhR32w := lit4 xhR32m (by decide)
   have e6 : (∃ pm_, (pf 6) = [pm_] ∧ (fun u_ p_ => (∃ x_ : Int, u_ = .int .i64 x_ ∧ 0 ≤ x_ ∧ x_ < 4) ∧ p_ = curE g a len cap) (vf 6) pm_) := hR 6 (by decide)
   obtain ⟨p34, pE6, hR35⟩ := e6
   obtain ⟨v33, vE6⟩ : ∃ x, vf 6 = x := ⟨_, rfl⟩
   rw [vE6] at hR35
   obtain ⟨⟨xhR35, rfl, xhR350, xhR351⟩, rfl⟩ := hR35
   have e7 : (vf 7) = .agg #[.int .i64 3, .int .i64 (intOf_o (vf 4)), .int .i64 (intOf_o (vf 6))] ∧ (pf 7) = [] := hR 7 (by decide)
   rw [vE4, vE6] at e7
   refine dqQ [6, 7] [4, 6, 7] rfl (zcd (sk 77 (congrArg some e7.1) (zaf _)) (by simp only [pE6, vE6, e7.2, fS] <;> rfl) ?_)
   exact zcc (zai (z := .agg #[.int .i64 0, .int .i64 0, .int .i64 0]) (s := 3) (cs := ([3, xhR32, xhR35].map (Value.int .i64))) rfl Try.underlying30 rfl (by decide) rfl (by kernel_rfl) rfl) (fun v_ p_ h => by show IsRow 38 3 1 ([3, (intOf_o (vf 4)), (intOf_o (vf 6))].map (Value.int .i64)) v_ p_; rw [vE4, vE6]; exact h)
  intro vf pf hmu hR
  have e1 := hR 1 (by decide)
  have e3 : IsRow 3 1 3 ([1, 2, 0].map (Value.int .i64)) (vf 3) (pf 3) := hR 3 (by decide)
  obtain ⟨g29, vE3, pE3⟩ := e3
  have e4 : (∃ pm_, (pf 4) = [pm_] ∧ (fun u_ p_ => (∃ x : Int, u_ = .int .i64 x ∧ x ∈ ([1, 2, 0] : List Int)) ∧ p_ = curE g a len cap) (vf 4) pm_) := hR 4 (by decide)
  obtain ⟨p31, pE4, hR32⟩ := e4
  obtain ⟨v30, vE4⟩ : ∃ x, vf 4 = x := ⟨_, rfl⟩
  rw [vE4] at hR32
  obtain ⟨⟨xhR32, rfl, xhR32m⟩, rfl⟩ := hR32
  have xhR32w := lit4 xhR32m (by decide)
  have e6 : (∃ pm_, (pf 6) = [pm_] ∧ (fun u_ p_ => (∃ x_ : Int, u_ = .int .i64 x_ ∧ 0 ≤ x_ ∧ x_ < 4) ∧ p_ = curE g a len cap) (vf 6) pm_) := hR 6 (by decide)
  obtain ⟨p34, pE6, hR35⟩ := e6
  obtain ⟨v33, vE6⟩ : ∃ x, vf 6 = x := ⟨_, rfl⟩
  rw [vE6] at hR35
  obtain ⟨⟨xhR35, rfl, xhR350, xhR351⟩, rfl⟩ := hR35
  have e8 : IsRow 38 3 1 ([3, (intOf_o (vf 4)), (intOf_o (vf 6))].map (Value.int .i64)) (vf 8) (pf 8) := hR 8 (by decide)
  rw [vE4, vE6] at e8
  obtain ⟨g36, vE8, pE8⟩ := e8
  have q0 := hR 0 (by decide)
  have q1 := hR 1 (by decide)
  have q2 := hR 2 (by decide)
  have q5 := hR 5 (by decide)
  have q7 := hR 7 (by decide)
  refine zcr (zcg [55, 33, 10, 8, 7, 6, 5, 4, 3, 1, 0] _ (sk 71 (congrArg some e1.1) (sk 78 (congrArg some vE8) (zaf _))) rfl) (by simp only [pE3, vE3, pE6, vE6, pE8, vE8, q0.2, q1.2, q2.2, q5.2, q7.2, fS] <;> rfl) ?_
  simp only [List.drop_succ_cons, List.drop_zero]
  refine zct (i := 6) (z := .agg #[.int .i64 0, .int .i64 0, .int .i64 0]) (bytes := 24) rfl rfl rfl rfl Try.underlying30 (by kernel_rfl) rfl rfl rfl rfl (zam 2 rfl) (zcn _) (by first | omega | (simp only [List.length_append, List.length_cons, List.length_nil]; omega)) (zcj m2.ss [(Sg.mk 3 xhR32 xhR35)]) (zdc sgC m2.ss (Sg.mk 3 xhR32 xhR35) _ rfl) (fun _ => rfl) ?_
  intro v37
  refine hvQ rfl (fdQ 0 rfl rfl rfl) (zdb (i := 6) rfl (fun ho38 => ?_))
  refine zec (i := 11) (cs' := #[v37, m2.av, m2.iv, m2.mv]) rfl rfl rfl rfl rfl rfl ho38 rfl rfl rfl rfl (zcx (zdq (reQ 1 rfl (hvQ rfl (vaQ rfl rfl rfl) (enQ 1 rfl ?_)))))
  refine zbd 14 [1, 13, 12, 11, 10, 9, 8, 7, 6, 5] rfl rfl (by decide) ?_
  exact zda (k2 + 1) (Md.mk v37 m2.av m2.iv m2.mv (m2.ss ++ [(Sg.mk 3 xhR32 xhR35)]) m2.gs m2.xs m2.ms) (v26, U2.2 ++ ([(m2.ss.length : Int)])) (v28, W2.2 ++ ([(m2.ss.length : Int)])) ⟨by omega, h2.reg _ (by assumption) ⟨by omega, by omega⟩, by rw [List.length_append, List.length_singleton]; omega, asc_app hW2 h2.plt, fun w hw => hp2 w hw⟩ (by omega) (saQ rfl) (.refl _)
 refine ntQ (zap rfl ?_)
 refine zbv (zep ?_)
 refine zan (zbf (zah (zbk 1 rfl (zbh ?_))))
 refine lkQ4 (α := Nat) (β := Md) (γ := Value × List Int) (δ := List HP) [0, 1, 3, 4, 5, 7, 33, 55] rfl (fun t m3 U3 ps3 => (bigE ps3 :: rowE 38 3 m3.sv m3.ss.length (m3.ss.flatMap sgC) :: rowE 63 3 m3.iv m3.xs.length (m3.xs.flatMap ixC) :: rowE 94 4 m3.mv m3.ms.length (m3.ms.flatMap mmC) :: rowE 3 1 W2.1 W2.2.length (W2.2.map (Value.int .i64)) :: rowE 3 1 U3.1 U3.2.length (U3.2.map (Value.int .i64)) :: boxE b3 #[m3.sv, m3.av, m3.iv, m3.mv] 35 :: boxE b2 #[.slice none 0 0, .slice none 0 0, .slice none 0 0, .slice none 0 0] 35 :: boxE b1 #[v] 26 :: curE g a len cap :: l)) (fun t m3 U3 ps3 => [(6, U3.1), (11, .int .i64 (t : Int))]) (fun t m3 U3 ps3 => t ≤ 2 ∧ MI D m3 U3.2 W2.2 (4 + 4 * t) (4 * t) t 0 2 (4 + 4 * t) ∧ ∀ w, (bigE ps3).holds w → RdP w m3) (fun t m3 U3 ps3 => 2 - t) 0 m2 U2 ps ⟨by omega, h2.up (by omega) (by omega) (by omega) (by omega) (by omega) (by omega), hp2⟩ (saQ rfl) (.refl _) ?_
 intro t m3 U3 ps3 hi39
 obtain ⟨ht, h3, hp3⟩ := hi39
 have hns3 := h3.ns
 have hna3 := h3.na
 have hnx3 := h3.nx
 have hnm3 := h3.nm
 refine zah (zah (reQ 1 rfl (hvQ rfl (fdQ 0 rfl rfl rfl) (hvQ rfl (zac rfl rfl rfl (zaa 8 rfl rfl)) ?_))))
 refine hvQ rfl (lnQ rfl rfl rfl (fun w hm => (hD w (hm.sub (.cons _ (.cons _ (.cons _ (.cons _ (.cons _ (.cons _ (.cons _ (.cons _ (.cons _ (.cons _ (.refl _))))))))))))).row)) (zcb rfl rfl rfl rfl rfl rfl (fun h40 => ?_) (fun h40 => ?_))
 ·
  refine zak 2 rfl (zcb rfl rfl rfl rfl rfl rfl (fun h41 => ?_) (fun h41 => ?_))
  ·
   refine zba 1 rfl (zaj rfl (zdi (sbQ (zah (zah (reQ 1 rfl ?_))))))
   refine zbz (R := (fun u_ p_ => (∃ b : Bool, u_ = .bool b) ∧ p_ = curE g a len cap)) 9 rfl rfl rfl rfl rfl (fun l' w hm => once_mut hm hb (2) (by omega) (by omega)) ?_
   intro v42 p43 hR44
   obtain ⟨⟨xhR44, rfl⟩, rfl⟩ := hR44
   refine zci (l' := (bigE ps3 :: rowE 38 3 m3.sv m3.ss.length (m3.ss.flatMap sgC) :: rowE 63 3 m3.iv m3.xs.length (m3.xs.flatMap ixC) :: rowE 94 4 m3.mv m3.ms.length (m3.ms.flatMap mmC) :: rowE 3 1 W2.1 W2.2.length (W2.2.map (Value.int .i64)) :: rowE 3 1 U3.1 U3.2.length (U3.2.map (Value.int .i64)) :: boxE b3 #[m3.sv, m3.av, m3.iv, m3.mv] 35 :: boxE b2 #[.slice none 0 0, .slice none 0 0, .slice none 0 0, .slice none 0 0] 35 :: boxE b1 #[v] 26 :: curE g a len cap :: l)) rfl ?_
   refine zbm (fun h45 => ?_) (fun h45 => ?_)
   ·
    refine zba 5 rfl (zap rfl (zdi (zah (reQ 1 rfl (hvQ rfl (fdQ 0 rfl rfl rfl) (hvQ rfl (zac rfl rfl rfl (zaa 8 rfl rfl)) ?_))))))
    refine hvQ rfl (lnQ rfl rfl rfl (fun w hm => (hD w (hm.sub (.cons _ (.cons _ (.cons _ (.cons _ (.cons _ (.cons _ (.cons _ (.cons _ (.cons _ (.cons _ (.refl _))))))))))))).row)) (zbz (R := (fun u_ p_ => (∃ x_ : Int, u_ = .int .i64 x_ ∧ 0 ≤ x_ ∧ x_ < (D.length : Int)) ∧ p_ = curE g a len cap)) 9 rfl rfl rfl rfl rfl (fun l' w hm => zbl g a len cap z (D.length : Int) _ _ _ hm hb (by constructor <;> omega)) ?_)
    intro v46 p47 hR48
    obtain ⟨⟨xhR48, rfl, xhR480, xhR481⟩, rfl⟩ := hR48
    refine zci (l' := (bigE ps3 :: rowE 38 3 m3.sv m3.ss.length (m3.ss.flatMap sgC) :: rowE 63 3 m3.iv m3.xs.length (m3.xs.flatMap ixC) :: rowE 94 4 m3.mv m3.ms.length (m3.ms.flatMap mmC) :: rowE 3 1 W2.1 W2.2.length (W2.2.map (Value.int .i64)) :: rowE 3 1 U3.1 U3.2.length (U3.2.map (Value.int .i64)) :: boxE b3 #[m3.sv, m3.av, m3.iv, m3.mv] 35 :: boxE b2 #[.slice none 0 0, .slice none 0 0, .slice none 0 0, .slice none 0 0] 35 :: boxE b1 #[v] 26 :: curE g a len cap :: l)) rfl ?_
    refine zak 1 rfl (zeb rfl (zai (z := .int .i64 0) (s := 1) (cs := ([0, 0, 1, 2].map (Value.int .i64))) rfl Try.underlying48 rfl (by decide) rfl (by kernel_rfl) rfl) ?_)
    intro g49
    refine zdu (R := (fun u_ p_ => (∃ x : Int, u_ = .int .i64 x ∧ x ∈ ([0, 0, 1, 2] : List Int)) ∧ p_ = curE g a len cap)) 10 rfl rfl rfl rfl rfl (fun L w hX hm => zdf g a len cap z (.slice (some ⟨g49, 0, none⟩) 4 4) [0, 0, 1, 2] _ _ _ hm hb (fun w hm => (zam (l := (rowE 3 1 (.slice (some ⟨g49, 0, none⟩) 4 4) 4 ([0, 0, 1, 2].map (Value.int .i64)) :: bigE ps3 :: rowE 38 3 m3.sv m3.ss.length (m3.ss.flatMap sgC) :: rowE 63 3 m3.iv m3.xs.length (m3.xs.flatMap ixC) :: rowE 94 4 m3.mv m3.ms.length (m3.ms.flatMap mmC) :: rowE 3 1 W2.1 W2.2.length (W2.2.map (Value.int .i64)) :: rowE 3 1 U3.1 U3.2.length (U3.2.map (Value.int .i64)) :: boxE b3 #[m3.sv, m3.av, m3.iv, m3.mv] 35 :: boxE b2 #[.slice none 0 0, .slice none 0 0, .slice none 0 0, .slice none 0 0] 35 :: boxE b1 #[v] 26 :: l)) 0 rfl) w (hX w hm)) (by decide)) ?_
    intro v50 p51 hR52
    obtain ⟨⟨xhR52, rfl, xhR52m⟩, rfl⟩ := hR52
    have xhR52w := lit4 xhR52m (by decide)
    refine zci (l' := (rowE 3 1 (.slice (some ⟨g49, 0, none⟩) 4 4) 4 ([0, 0, 1, 2].map (Value.int .i64)) :: bigE ps3 :: rowE 38 3 m3.sv m3.ss.length (m3.ss.flatMap sgC) :: rowE 63 3 m3.iv m3.xs.length (m3.xs.flatMap ixC) :: rowE 94 4 m3.mv m3.ms.length (m3.ms.flatMap mmC) :: rowE 3 1 W2.1 W2.2.length (W2.2.map (Value.int .i64)) :: rowE 3 1 U3.1 U3.2.length (U3.2.map (Value.int .i64)) :: boxE b3 #[m3.sv, m3.av, m3.iv, m3.mv] 35 :: boxE b2 #[.slice none 0 0, .slice none 0 0, .slice none 0 0, .slice none 0 0] 35 :: boxE b1 #[v] 26 :: curE g a len cap :: l)) rfl ?_
    refine hvQ rfl (zax (cs := #[.int .i64 xhR48, .int .i64 xhR52, .slice none 0 0]) rfl rfl rfl) (zdv rfl (zbj (z := .agg #[.int .i64 0, .int .i64 0, .slice none 0 0]) rfl rfl) ?_)
    intro b53
    refine zbn (cs' := #[.int .i64 xhR48, .int .i64 xhR52, .slice none 0 0]) (i := 0) (off := 0) (us := [.int .i64 xhR48, .int .i64 xhR52, .slice none 0 0]) rfl rfl rfl rfl rfl rfl rfl (zad rfl (zad rfl (zad rfl zbg))) rfl rfl rfl (ntQ (srQ (hvQ rfl (fdQ 0 rfl rfl rfl) (hvQ rfl (zac rfl rfl rfl (zaa 10 rfl rfl)) (hvQ rfl (fdQ 0 rfl rfl rfl) (hvQ rfl (zac rfl rfl rfl (zaa 0 rfl rfl)) ?_))))))
    refine hvQ rfl (riQ 4 rfl rfl rfl rfl (fun w hm => (hD w (hm.sub (.cons _ (.cons _ (.cons _ (.cons _ (.cons _ (.cons _ (.cons _ (.cons _ (.cons _ (.cons _ (.cons _ (.cons _ (.refl _))))))))))))))).row)) (hvQ rfl (zbi (us := [(D.getD ((xhR48).toNat) md0).sv, (D.getD ((xhR48).toNat) md0).av, (D.getD ((xhR48).toNat) md0).iv, (D.getD ((xhR48).toNat) md0).mv]) rfl rfl rfl rfl (fun w hm => (hD w (hm.sub (.cons _ (.cons _ (.cons _ (.cons _ (.cons _ (.cons _ (.cons _ (.cons _ (.cons _ (.cons _ (.cons _ (.cons _ (.refl _))))))))))))))).row) (by omega) rfl (zca mdC 4 (fun _ => rfl) D md0 (show (xhR48).toNat < _ by omega) rfl)) ?_)
    refine zdv rfl (zbj (z := .agg #[.slice none 0 0, .slice none 0 0, .slice none 0 0, .slice none 0 0]) rfl rfl) ?_
    intro b54
    refine zbn (cs' := #[(D.getD ((xhR48).toNat) md0).sv, (D.getD ((xhR48).toNat) md0).av, (D.getD ((xhR48).toNat) md0).iv, (D.getD ((xhR48).toNat) md0).mv]) (i := 0) (off := 0) (us := [(D.getD ((xhR48).toNat) md0).sv, (D.getD ((xhR48).toNat) md0).av, (D.getD ((xhR48).toNat) md0).iv, (D.getD ((xhR48).toNat) md0).mv]) rfl rfl rfl rfl rfl rfl rfl (zad (hch _ (zbp (by omega))).1 (zad (hch _ (zbp (by omega))).2.1 (zad (hch _ (zbp (by omega))).2.2.1 (zad (hch _ (zbp (by omega))).2.2.2 zbg)))) rfl rfl rfl (ntQ (srQ (hvQ rfl (zaw (cs := [(D.getD ((xhR48).toNat) md0).sv, (D.getD ((xhR48).toNat) md0).av, (D.getD ((xhR48).toNat) md0).iv, (D.getD ((xhR48).toNat) md0).mv]) rfl rfl rfl rfl rfl (zau 0 rfl 0 rfl)) ?_)))
    refine hl_q rfl rfl rfl (zar rfl rfl (fun w hm => zdj (D.getD ((xhR48).toNat) md0) w ((hD w (hm.sub (.cons _ (.cons _ (.cons _ (.cons _ (.cons _ (.cons _ (.cons _ (.cons _ (.cons _ (.cons _ (.cons _ (.cons _ (.cons _ (.refl _)))))))))))))))).at (by omega)))) ?_
    intro v55 p56 hR57
    subst hR57
    refine zba 1 rfl (srQ ?_)
    refine zeb rfl (zds (s := 1) rfl Try.underlying48 rfl) ?_
    intro g58
    refine zba 1 rfl (zah (zbk 1 rfl (zbh ?_)))
    refine zej (rowE 3 1 (.slice none 0 0) (([] : List Int).length) (([] : List Int).map (Value.int .i64)) :: rowE 3 1 (.slice (some ⟨g58, 0, none⟩) 0 0) 0 ([]) :: rowE 3 1 v55 ((ptsK (D.getD ((xhR48).toNat) md0)).length) ((ptsK (D.getD ((xhR48).toNat) md0)).map (Value.int .i64)) :: boxE b54 #[(D.getD ((xhR48).toNat) md0).sv, (D.getD ((xhR48).toNat) md0).av, (D.getD ((xhR48).toNat) md0).iv, (D.getD ((xhR48).toNat) md0).mv] 35 :: boxE b53 #[.int .i64 xhR48, .int .i64 xhR52, .slice none 0 0] 63 :: rowE 3 1 (.slice (some ⟨g49, 0, none⟩) 4 4) 4 ([0, 0, 1, 2].map (Value.int .i64)) :: bigE ps3 :: rowE 38 3 m3.sv m3.ss.length (m3.ss.flatMap sgC) :: rowE 63 3 m3.iv m3.xs.length (m3.xs.flatMap ixC) :: rowE 94 4 m3.mv m3.ms.length (m3.ms.flatMap mmC) :: rowE 3 1 W2.1 W2.2.length (W2.2.map (Value.int .i64)) :: rowE 3 1 U3.1 U3.2.length (U3.2.map (Value.int .i64)) :: boxE b3 #[m3.sv, m3.av, m3.iv, m3.mv] 35 :: boxE b2 #[.slice none 0 0, .slice none 0 0, .slice none 0 0, .slice none 0 0] 35 :: boxE b1 #[v] 26 :: curE g a len cap :: l) (fun w hm => hm.nilRow 3 1) ?_
    refine lkQ4 (α := Nat) (β := Md) (γ := (Value × List Int) × Value × List Int) (δ := List HP) [0, 1, 3, 4, 5, 6, 7, 11, 12, 13, 14, 33, 55, 89, 98] rfl (fun j q Y pq => (rowE 3 1 Y.1.1 Y.1.2.length (Y.1.2.map (Value.int .i64)) :: rowE 3 1 Y.2.1 Y.2.2.length (Y.2.2.map (Value.int .i64)) :: rowE 3 1 v55 ((ptsK (D.getD ((xhR48).toNat) md0)).length) ((ptsK (D.getD ((xhR48).toNat) md0)).map (Value.int .i64)) :: boxE b54 #[(D.getD ((xhR48).toNat) md0).sv, (D.getD ((xhR48).toNat) md0).av, (D.getD ((xhR48).toNat) md0).iv, (D.getD ((xhR48).toNat) md0).mv] 35 :: boxE b53 #[.int .i64 xhR48, .int .i64 xhR52, Y.1.1] 63 :: bigE pq :: rowE 38 3 q.sv q.ss.length (q.ss.flatMap sgC) :: rowE 63 3 q.iv q.xs.length (q.xs.flatMap ixC) :: rowE 94 4 q.mv q.ms.length (q.ms.flatMap mmC) :: rowE 3 1 W2.1 W2.2.length (W2.2.map (Value.int .i64)) :: rowE 3 1 U3.1 U3.2.length (U3.2.map (Value.int .i64)) :: boxE b3 #[q.sv, q.av, q.iv, q.mv] 35 :: boxE b2 #[.slice none 0 0, .slice none 0 0, .slice none 0 0, .slice none 0 0] 35 :: boxE b1 #[v] 26 :: curE g a len cap :: l)) (fun j q Y pq => [(15, Y.2.1), (16, .int .i64 (j : Int))]) (fun j q Y pq => j ≤ (ptsK (D.getD ((xhR48).toNat) md0)).length ∧ MI D q U3.2 (W2.2 ++ Y.2.2) (4 + 4 * t + j) (4 * t + j) t 0 2 (4 + 4 * t) ∧ IjP D q xhR48 m3.ss.length Y.1.2 Y.2.2 j ∧ ∀ w, (bigE pq).holds w → RdP w q) (fun j q Y pq => (ptsK (D.getD ((xhR48).toNat) md0)).length - j) 0 m3 ((_, []), (_, [])) ps3 ⟨Nat.zero_le _, by rw [List.append_nil]; exact h3, IjP.start D m3 _, hp3⟩ (saQ rfl) (.cons_cons _ (.cons_cons _ (.cons_cons _ (.cons_cons _ (.cons_cons _ (.cons _ (.refl _))))))) ?_
    intro j q Y pq hi59
    obtain ⟨hj, hq, hij, hpq⟩ := hi59
    have hnsq := hq.ns
    have hnxq := hq.nx
    have hnaq := hq.na
    have hpt4 : (ptsK (D.getD ((xhR48).toNat) md0)).length ≤ 4 := by have h8 := hdd.md (((xhR48).toNat)) (by omega); rw [ptsK_len h8.len.1]; exact h8.pt
    have hyl := hij.len
    have hyo : Y.2.2.length ≤ j := by have h8 := xoA_le D (Ix.mk xhR48 0 (.slice none 0 0) Y.1.2) j; rw [← hij.oq] at h8; exact h8
    refine zah (zah (reQ 2 rfl (hvQ rfl (lnQ rfl rfl rfl (zam 2 rfl)) ?_)))
    refine zcb rfl rfl rfl rfl rfl rfl (fun h60 => ?_) (fun h60 => ?_)
    ·
     refine ntQ (zaj rfl (zdi (sbQ (zah ?_))))
     have hpt := zdd (m := (D.getD ((xhR48).toNat) md0)) (j := j) (by omega)
     have hkd := zch hpt
     have hsg9 := (hdd.md (((xhR48).toNat)) (by omega)).b.sg _ (zbp (d := sg0) (show (((ptsK (D.getD ((xhR48).toNat) md0)).getD j 0)).toNat < ((D.getD ((xhR48).toNat) md0)).ss.length by omega))
     obtain ⟨⟨hsa, hsb⟩, ⟨hsc, hsd⟩, -⟩ := hsg9
     refine zcs 9 [[], [0], [], [], [2, 3], [4], [1, 5], [6], [7]] [123, 124, 125, 126, 127, 128, 129, 130, 131] [.pointer (some ⟨b54, 0 + 0, none⟩), (D.getD ((xhR48).toNat) md0).sv, v55, .int .i64 (j : Int), elP v55 (((j : Int)).toNat * 1), .int .i64 ((ptsK (D.getD ((xhR48).toNat) md0)).getD j 0), elP ((D.getD ((xhR48).toNat) md0).sv) (((ptsK (D.getD ((xhR48).toNat) md0)).getD j 0).toNat * 3), elP ((D.getD ((xhR48).toNat) md0).sv) (((ptsK (D.getD ((xhR48).toNat) md0)).getD j 0).toNat * 3 + 1), .int .i64 ((((D.getD ((xhR48).toNat) md0).ss).getD (((ptsK (D.getD ((xhR48).toNat) md0)).getD j 0).toNat) sg0).w)] (by kernel_rfl) rfl ?_ ?_
     ·
      exact ⟨iaQ rfl (fdQ 0 rfl rfl rfl) rfl, iaQ rfl (zac rfl rfl rfl (zaa 3 rfl rfl)) rfl, iaQ rfl (zay rfl) rfl, iaQ rfl (zay rfl) rfl, iaQ rfl (riQ 1 rfl rfl rfl rfl (zam 2 rfl)) rfl, iaQ rfl (zat (u := .int .i64 ((ptsK (D.getD ((xhR48).toNat) md0)).getD j 0)) rfl rfl rfl (zam 2 rfl) (zcm (show _ < (ptsK (D.getD ((xhR48).toNat) md0)).length by omega))) rfl, iaQ rfl (riQ 3 rfl rfl rfl rfl (fun w hm => ((hD w (hm.sub (.cons _ (.cons _ (.cons _ (.cons _ (.cons _ (.cons _ (.cons _ (.cons _ (.cons _ (.cons _ (.cons _ (.cons _ (.cons _ (.cons _ (.cons _ (.refl _)))))))))))))))))).at (k := ((xhR48).toNat)) (by omega)).s)) rfl, iaQ rfl (zbe (k0 := 1) rfl rfl rfl (fun w hm => ((hD w (hm.sub (.cons _ (.cons _ (.cons _ (.cons _ (.cons _ (.cons _ (.cons _ (.cons _ (.cons _ (.cons _ (.cons _ (.cons _ (.cons _ (.cons _ (.cons _ (.refl _)))))))))))))))))).at (k := ((xhR48).toNat)) (by omega)).s) (by omega)) rfl, iaQ rfl (zat (u := .int .i64 ((((D.getD ((xhR48).toNat) md0).ss).getD (((ptsK (D.getD ((xhR48).toNat) md0)).getD j 0).toNat) sg0).w)) rfl rfl rfl (fun w hm => ((hD w (hm.sub (.cons _ (.cons _ (.cons _ (.cons _ (.cons _ (.cons _ (.cons _ (.cons _ (.cons _ (.cons _ (.cons _ (.cons _ (.cons _ (.cons _ (.cons _ (.refl _)))))))))))))))))).at (k := ((xhR48).toNat)) (by omega)).s) ((zce sgC 3 (fun _ => rfl) ((D.getD ((xhR48).toNat) md0).ss) sg0 (show ((ptsK (D.getD ((xhR48).toNat) md0)).getD j 0).toNat < _ by omega) (by decide)).trans rfl)) rfl, trivial⟩
     simp only [List.drop_succ_cons, List.drop_zero]
     refine zba 1 rfl ?_
     refine hc_meet1 (α := Int) (fun wd => (rowE 3 1 Y.1.1 Y.1.2.length (Y.1.2.map (Value.int .i64)) :: rowE 3 1 Y.2.1 Y.2.2.length (Y.2.2.map (Value.int .i64)) :: rowE 3 1 v55 ((ptsK (D.getD ((xhR48).toNat) md0)).length) ((ptsK (D.getD ((xhR48).toNat) md0)).map (Value.int .i64)) :: boxE b54 #[(D.getD ((xhR48).toNat) md0).sv, (D.getD ((xhR48).toNat) md0).av, (D.getD ((xhR48).toNat) md0).iv, (D.getD ((xhR48).toNat) md0).mv] 35 :: boxE b53 #[.int .i64 xhR48, .int .i64 xhR52, Y.1.1] 63 :: bigE pq :: rowE 38 3 q.sv q.ss.length (q.ss.flatMap sgC) :: rowE 63 3 q.iv q.xs.length (q.xs.flatMap ixC) :: rowE 94 4 q.mv q.ms.length (q.ms.flatMap mmC) :: rowE 3 1 W2.1 W2.2.length (W2.2.map (Value.int .i64)) :: rowE 3 1 U3.1 U3.2.length (U3.2.map (Value.int .i64)) :: boxE b3 #[q.sv, q.av, q.iv, q.mv] 35 :: boxE b2 #[.slice none 0 0, .slice none 0 0, .slice none 0 0, .slice none 0 0] 35 :: boxE b1 #[v] 26 :: curE g a len cap :: l)) (fun wd => [(0, .pointer (some ⟨g, 0, none⟩)), (1, .agg #[v]), (3, .pointer (some ⟨b1, 0, none⟩)), (4, .pointer (some ⟨b2, 0, none⟩)), (5, .pointer (some ⟨b3, 0, none⟩)), (6, U3.1), (7, W2.1), (11, .int .i64 (t : Int)), (12, .pointer (some ⟨b53, 0, none⟩)), (13, .pointer (some ⟨b54, 0, none⟩)), (14, v55), (15, Y.2.1), (16, .int .i64 (j : Int)), (17, .int .i64 wd), (33, .bool false), (55, .bool false), (89, .bool true), (98, .bool false), (120, .bool true)]) (fun wd => 0 ≤ wd ∧ wd ≤ 4) ?_ ?_
     ·
      refine zah (reQ 1 rfl ?_)
      refine zby rfl rfl rfl rfl rfl rfl (fun h61 => ?_) (fun h61 => ?_)
      ·
       refine ntQ (zaj rfl (zbb (hvQ rfl (fdQ 1 rfl rfl rfl) (hvQ rfl (zac rfl rfl rfl (zaa 4 rfl rfl)) (enQ 1 rfl ?_)))))
       exact zet xhR52 ⟨by omega, by omega⟩ (saQ rfl) (.refl _)
      refine ntQ (fsQ rfl ?_)
      exact zet ((((D.getD ((xhR48).toNat) md0).ss).getD (((ptsK (D.getD ((xhR48).toNat) md0)).getD j 0).toNat) sg0).w) ⟨by omega, by omega⟩ (saQ rfl) (.refl _)
     intro wd hm62
     have hwd9 : 0 ≤ wd ∧ wd ≤ 4 := hm62
     refine srQ (hvQ rfl (fdQ 0 rfl rfl rfl) (hvQ rfl (zac rfl rfl rfl (zaa 11 rfl rfl)) (hvQ rfl (lnQ rfl rfl rfl (zam 6 rfl)) (zba 1 rfl (srQ (hvQ rfl (fdQ 0 rfl rfl rfl) (hvQ rfl (zac rfl rfl rfl (zaa 11 rfl rfl)) (zak 1 rfl ?_))))))))
     refine hvQ rfl (zax (cs := #[.int .i64 2, .int .i64 wd, .int .i64 0]) rfl rfl rfl) (zeb rfl (zai (z := .agg #[.int .i64 0, .int .i64 0, .int .i64 0]) (s := 3) (cs := ([2, wd, 0].map (Value.int .i64))) rfl Try.underlying30 rfl (by decide) rfl (by kernel_rfl) rfl) ?_)
     intro g63
     refine zct (i := 7) (z := .agg #[.int .i64 0, .int .i64 0, .int .i64 0]) (bytes := 24) rfl rfl rfl rfl Try.underlying30 (by kernel_rfl) rfl rfl rfl rfl (zam 0 rfl) (zcn _) (by first | omega | (simp only [List.length_append, List.length_cons, List.length_nil]; omega)) (zcj q.ss [(Sg.mk 2 wd 0)]) (zdc sgC q.ss (Sg.mk 2 wd 0) _ rfl) (fun _ => rfl) ?_
     intro v64
     refine hvQ rfl (fdQ 0 rfl rfl rfl) (zdb (i := 7) rfl (fun ho65 => ?_))
     refine zec (i := 12) (cs' := #[v64, q.av, q.iv, q.mv]) rfl rfl rfl rfl rfl rfl ho65 rfl rfl rfl rfl (ntQ (srQ (hvQ rfl (fdQ 2 rfl rfl rfl) (hvQ rfl (zac rfl rfl rfl (zaa 5 rfl rfl)) (zak 1 rfl ?_)))))
     refine zeb rfl (zai (z := .int .i64 0) (s := 1) (cs := ([(q.ss.length : Int)].map (Value.int .i64))) rfl Try.underlying48 rfl (by decide) rfl (by kernel_rfl) rfl) ?_
     intro g66
     refine zct (i := 2) (z := .int .i64 0) (bytes := 8) rfl rfl rfl rfl Try.underlying48 (by kernel_rfl) rfl rfl rfl rfl (zam 0 rfl) (zcn _) (by first | omega | (simp; done) | (simp; omega)) (zcj Y.1.2 ([(q.ss.length : Int)])) (zdh Y.1.2 ([(q.ss.length : Int)])) (fun _ => rfl) ?_
     intro v67
     refine hvQ rfl (fdQ 2 rfl rfl rfl) (zdb (i := 2) rfl (fun ho68 => ?_))
     refine zec (i := 6) (cs' := #[.int .i64 xhR48, .int .i64 xhR52, v67]) rfl rfl rfl rfl rfl rfl ho68 rfl rfl rfl rfl (ntQ (zah ?_))
     rcases Bool.eq_false_or_eq_true (((((D.getD ((xhR48).toNat) md0).ss).getD (((ptsK (D.getD ((xhR48).toNat) md0)).getD j 0).toNat) sg0).k) == 1) with hb69 | hb69
     ·
      have hb69p : (((D.getD ((xhR48).toNat) md0).ss).getD (((ptsK (D.getD ((xhR48).toNat) md0)).getD j 0).toNat) sg0).k = 1 := beq_iff_eq.1 hb69
      refine zcs 10 [[], [0], [], [], [2, 3], [4], [1, 5], [6], [7], [8]] [152, 153, 154, 155, 156, 157, 158, 159, 160, 161] [.pointer (some ⟨b54, 0 + 0, none⟩), (D.getD ((xhR48).toNat) md0).sv, v55, .int .i64 (j : Int), elP v55 (((j : Int)).toNat * 1), .int .i64 ((ptsK (D.getD ((xhR48).toNat) md0)).getD j 0), elP ((D.getD ((xhR48).toNat) md0).sv) (((ptsK (D.getD ((xhR48).toNat) md0)).getD j 0).toNat * 3), elP ((D.getD ((xhR48).toNat) md0).sv) (((ptsK (D.getD ((xhR48).toNat) md0)).getD j 0).toNat * 3 + 0), .int .i64 ((((D.getD ((xhR48).toNat) md0).ss).getD (((ptsK (D.getD ((xhR48).toNat) md0)).getD j 0).toNat) sg0).k), .bool true] (by kernel_rfl) rfl ?_ ?_
      ·
       exact ⟨iaQ rfl (fdQ 0 rfl rfl rfl) rfl, iaQ rfl (zac rfl rfl rfl (zaa 5 rfl rfl)) rfl, iaQ rfl (zay rfl) rfl, iaQ rfl (zay rfl) rfl, iaQ rfl (riQ 1 rfl rfl rfl rfl (zam 4 rfl)) rfl, iaQ rfl (zat (u := .int .i64 ((ptsK (D.getD ((xhR48).toNat) md0)).getD j 0)) rfl rfl rfl (zam 4 rfl) (zcm (show _ < (ptsK (D.getD ((xhR48).toNat) md0)).length by omega))) rfl, iaQ rfl (riQ 3 rfl rfl rfl rfl (fun w hm => ((hD w (hm.sub (.cons _ (.cons _ (.cons _ (.cons _ (.cons _ (.cons _ (.cons _ (.cons _ (.cons _ (.cons _ (.cons _ (.cons _ (.cons _ (.cons _ (.cons _ (.cons _ (.cons _ (.refl _)))))))))))))))))))).at (k := ((xhR48).toNat)) (by omega)).s)) rfl, iaQ rfl (zbe (k0 := 0) rfl rfl rfl (fun w hm => ((hD w (hm.sub (.cons _ (.cons _ (.cons _ (.cons _ (.cons _ (.cons _ (.cons _ (.cons _ (.cons _ (.cons _ (.cons _ (.cons _ (.cons _ (.cons _ (.cons _ (.cons _ (.cons _ (.refl _)))))))))))))))))))).at (k := ((xhR48).toNat)) (by omega)).s) (by omega)) rfl, iaQ rfl (zat (u := .int .i64 ((((D.getD ((xhR48).toNat) md0).ss).getD (((ptsK (D.getD ((xhR48).toNat) md0)).getD j 0).toNat) sg0).k)) rfl rfl rfl (fun w hm => ((hD w (hm.sub (.cons _ (.cons _ (.cons _ (.cons _ (.cons _ (.cons _ (.cons _ (.cons _ (.cons _ (.cons _ (.cons _ (.cons _ (.cons _ (.cons _ (.cons _ (.cons _ (.cons _ (.refl _)))))))))))))))))))).at (k := ((xhR48).toNat)) (by omega)).s) ((zce sgC 3 (fun _ => rfl) ((D.getD ((xhR48).toNat) md0).ss) sg0 (show ((ptsK (D.getD ((xhR48).toNat) md0)).getD j 0).toNat < _ by omega) (by decide)).trans rfl)) rfl, .inl ⟨rfl, zes (zcu rfl rfl rfl rfl) hb69⟩, trivial⟩
      simp only [List.drop_succ_cons, List.drop_zero]
      refine ntQ (zaj rfl (reQ 2 rfl ?_))
      refine zeb rfl (zai (z := .int .i64 0) (s := 1) (cs := ([(q.ss.length : Int)].map (Value.int .i64))) rfl Try.underlying48 rfl (by decide) rfl (by kernel_rfl) rfl) ?_
      intro g70
      refine zct (i := 4) (z := .int .i64 0) (bytes := 8) rfl rfl rfl rfl Try.underlying48 (by kernel_rfl) rfl rfl rfl rfl (zam 0 rfl) (zcn _) (by first | omega | (simp; done) | (simp; omega)) (zcj Y.2.2 ([(q.ss.length : Int)])) (zdh Y.2.2 ([(q.ss.length : Int)])) (fun _ => rfl) ?_
      intro v71
      refine enQ 1 rfl (zdq (reQ 1 rfl (hvQ rfl (vaQ rfl rfl rfl) (enQ 1 rfl ?_))))
      exact zda (j + 1) (Md.mk v64 q.av q.iv q.mv (q.ss ++ [(Sg.mk 2 wd 0)]) q.gs q.xs q.ms) ((v67, Y.1.2 ++ ([(q.ss.length : Int)])), (v71, Y.2.2 ++ ([(q.ss.length : Int)]))) pq ⟨by omega, (hq.wire _ hwd9 mem_app1).up (by omega) (by omega) (by omega) (by omega) (by omega) (by omega), hij.out rfl (by omega), fun w hw => hpq w hw⟩ (by omega) (saQ rfl) (.cons _ (.cons _ (.cons _ (.refl _))))
     have hb69p : (((D.getD ((xhR48).toNat) md0).ss).getD (((ptsK (D.getD ((xhR48).toNat) md0)).getD j 0).toNat) sg0).k ≠ 1 := beq_eq_false_iff_ne.1 hb69
     refine zcs 10 [[], [0], [], [], [2, 3], [4], [1, 5], [6], [7], [8]] [152, 153, 154, 155, 156, 157, 158, 159, 160, 161] [.pointer (some ⟨b54, 0 + 0, none⟩), (D.getD ((xhR48).toNat) md0).sv, v55, .int .i64 (j : Int), elP v55 (((j : Int)).toNat * 1), .int .i64 ((ptsK (D.getD ((xhR48).toNat) md0)).getD j 0), elP ((D.getD ((xhR48).toNat) md0).sv) (((ptsK (D.getD ((xhR48).toNat) md0)).getD j 0).toNat * 3), elP ((D.getD ((xhR48).toNat) md0).sv) (((ptsK (D.getD ((xhR48).toNat) md0)).getD j 0).toNat * 3 + 0), .int .i64 ((((D.getD ((xhR48).toNat) md0).ss).getD (((ptsK (D.getD ((xhR48).toNat) md0)).getD j 0).toNat) sg0).k), .bool false] (by kernel_rfl) rfl ?_ ?_
     ·
      exact ⟨iaQ rfl (fdQ 0 rfl rfl rfl) rfl, iaQ rfl (zac rfl rfl rfl (zaa 5 rfl rfl)) rfl, iaQ rfl (zay rfl) rfl, iaQ rfl (zay rfl) rfl, iaQ rfl (riQ 1 rfl rfl rfl rfl (zam 4 rfl)) rfl, iaQ rfl (zat (u := .int .i64 ((ptsK (D.getD ((xhR48).toNat) md0)).getD j 0)) rfl rfl rfl (zam 4 rfl) (zcm (show _ < (ptsK (D.getD ((xhR48).toNat) md0)).length by omega))) rfl, iaQ rfl (riQ 3 rfl rfl rfl rfl (fun w hm => ((hD w (hm.sub (.cons _ (.cons _ (.cons _ (.cons _ (.cons _ (.cons _ (.cons _ (.cons _ (.cons _ (.cons _ (.cons _ (.cons _ (.cons _ (.cons _ (.cons _ (.cons _ (.cons _ (.refl _)))))))))))))))))))).at (k := ((xhR48).toNat)) (by omega)).s)) rfl, iaQ rfl (zbe (k0 := 0) rfl rfl rfl (fun w hm => ((hD w (hm.sub (.cons _ (.cons _ (.cons _ (.cons _ (.cons _ (.cons _ (.cons _ (.cons _ (.cons _ (.cons _ (.cons _ (.cons _ (.cons _ (.cons _ (.cons _ (.cons _ (.cons _ (.refl _)))))))))))))))))))).at (k := ((xhR48).toNat)) (by omega)).s) (by omega)) rfl, iaQ rfl (zat (u := .int .i64 ((((D.getD ((xhR48).toNat) md0).ss).getD (((ptsK (D.getD ((xhR48).toNat) md0)).getD j 0).toNat) sg0).k)) rfl rfl rfl (fun w hm => ((hD w (hm.sub (.cons _ (.cons _ (.cons _ (.cons _ (.cons _ (.cons _ (.cons _ (.cons _ (.cons _ (.cons _ (.cons _ (.cons _ (.cons _ (.cons _ (.cons _ (.cons _ (.cons _ (.refl _)))))))))))))))))))).at (k := ((xhR48).toNat)) (by omega)).s) ((zce sgC 3 (fun _ => rfl) ((D.getD ((xhR48).toNat) md0).ss) sg0 (show ((ptsK (D.getD ((xhR48).toNat) md0)).getD j 0).toNat < _ by omega) (by decide)).trans rfl)) rfl, .inl ⟨rfl, zes (zcu rfl rfl rfl rfl) hb69⟩, trivial⟩
     simp only [List.drop_succ_cons, List.drop_zero]
     refine ntQ (zap rfl (zbb ?_))
     refine zfb (p := (∀ g9 ∈ q.gs, g9.ov.oneCell' = true) ∧ v64.oneCell' = true ∧ q.av.oneCell' = true ∧ q.iv.oneCell' = true ∧ q.mv.oneCell' = true) (fun w hm => ⟨fun g9 hg9 => ((hpq w (hm.holds _ (zbs (i := 7) rfl))).2.1 g9 hg9).one, (zam 8 rfl w hm).one, (hpq w (hm.holds _ (zbs (i := 7) rfl))).1.one, (zam 9 rfl w hm).one, (zam 10 rfl w hm).one⟩) (fun ⟨hone9, ho9⟩ => ?_)
     refine zak 1 rfl (hvQ rfl (zaw (cs := [v64, q.av, q.iv, q.mv]) rfl rfl rfl rfl rfl (zau 13 rfl 0 rfl)) (zak 2 rfl ?_))
     refine zdu (R := (fun u_ p_ => ∃ (v' ov : Value) (os : List Oq) (ps : List HP), u_ = .agg #[v64, v', q.iv, q.mv] ∧ p_ = bigE [curE g a len cap, bigE ps] ∧ (∀ w, (bigE ps).holds w → RdsW w v' 2 (q.gs ++ [As.mk (q.ss.length : Int) ov os]).length ((q.gs ++ [As.mk (q.ss.length : Int) ov os]).flatMap asC) ∧ RdsW w ov 3 os.length (os.flatMap oqC)) ∧ v'.oneCell' = true ∧ ov.oneCell' = true ∧ ExP (q.ss.length : Int) 9 os)) 16 rfl rfl rfl rfl rfl (fun L w hX hm => zdg g a len cap z (q.ss.length : Int) (Md.mk v64 q.av q.iv q.mv (q.ss ++ [(Sg.mk 2 wd 0)]) q.gs q.xs q.ms) (q.ss.length : Int) U3.1 _ _ _ _ hm hb (fun w9 h9 => (zam (l := (rowE 3 1 (.slice (some ⟨g66, 0, none⟩) 1 1) 1 ([(q.ss.length : Int)].map (Value.int .i64)) :: rowE 38 3 (.slice (some ⟨g63, 0, none⟩) 1 1) 1 ([2, wd, 0].map (Value.int .i64)) :: rowE 3 1 v67 ((Y.1.2 ++ ([(q.ss.length : Int)])).length) ((Y.1.2 ++ ([(q.ss.length : Int)])).map (Value.int .i64)) :: rowE 3 1 Y.2.1 Y.2.2.length (Y.2.2.map (Value.int .i64)) :: rowE 3 1 v55 ((ptsK (D.getD ((xhR48).toNat) md0)).length) ((ptsK (D.getD ((xhR48).toNat) md0)).map (Value.int .i64)) :: boxE b54 #[(D.getD ((xhR48).toNat) md0).sv, (D.getD ((xhR48).toNat) md0).av, (D.getD ((xhR48).toNat) md0).iv, (D.getD ((xhR48).toNat) md0).mv] 35 :: boxE b53 #[.int .i64 xhR48, .int .i64 xhR52, v67] 63 :: bigE pq :: rowE 38 3 v64 ((q.ss ++ [(Sg.mk 2 wd 0)]).length) ((q.ss ++ [(Sg.mk 2 wd 0)]).flatMap sgC) :: rowE 63 3 q.iv q.xs.length (q.xs.flatMap ixC) :: rowE 94 4 q.mv q.ms.length (q.ms.flatMap mmC) :: rowE 3 1 W2.1 W2.2.length (W2.2.map (Value.int .i64)) :: rowE 3 1 U3.1 U3.2.length (U3.2.map (Value.int .i64)) :: boxE b3 #[v64, q.av, q.iv, q.mv] 35 :: boxE b2 #[.slice none 0 0, .slice none 0 0, .slice none 0 0, .slice none 0 0] 35 :: boxE b1 #[v] 26 :: l)) 12 rfl) w9 (hX w9 h9)) (fun x hx => hq.av x hx) (by have h9 := hq.na; omega) (fun w9 h9 => (hpq w9 ((hX w9 h9).holds _ (zbs (i := 7) rfl))).1) (by have h9 := hq.ng; show q.gs.length ≤ 1000; omega) hone9 ⟨ho9.1, ho9.2.1, ho9.2.2.1, ho9.2.2.2⟩) ?_
     intro v72 p73 hR74
     obtain ⟨avhR74, ovhR74, oshR74, aphR74, rfl, rfl, haphR74, oavhR74, oovhR74, hoshR74⟩ := hR74
     refine zci (l' := (rowE 3 1 (.slice (some ⟨g66, 0, none⟩) 1 1) 1 ([(q.ss.length : Int)].map (Value.int .i64)) :: rowE 38 3 (.slice (some ⟨g63, 0, none⟩) 1 1) 1 ([2, wd, 0].map (Value.int .i64)) :: rowE 3 1 v67 ((Y.1.2 ++ ([(q.ss.length : Int)])).length) ((Y.1.2 ++ ([(q.ss.length : Int)])).map (Value.int .i64)) :: rowE 3 1 Y.2.1 Y.2.2.length (Y.2.2.map (Value.int .i64)) :: rowE 3 1 v55 ((ptsK (D.getD ((xhR48).toNat) md0)).length) ((ptsK (D.getD ((xhR48).toNat) md0)).map (Value.int .i64)) :: boxE b54 #[(D.getD ((xhR48).toNat) md0).sv, (D.getD ((xhR48).toNat) md0).av, (D.getD ((xhR48).toNat) md0).iv, (D.getD ((xhR48).toNat) md0).mv] 35 :: boxE b53 #[.int .i64 xhR48, .int .i64 xhR52, v67] 63 :: bigE pq :: rowE 38 3 v64 ((q.ss ++ [(Sg.mk 2 wd 0)]).length) ((q.ss ++ [(Sg.mk 2 wd 0)]).flatMap sgC) :: rowE 63 3 q.iv q.xs.length (q.xs.flatMap ixC) :: rowE 94 4 q.mv q.ms.length (q.ms.flatMap mmC) :: rowE 3 1 W2.1 W2.2.length (W2.2.map (Value.int .i64)) :: rowE 3 1 U3.1 U3.2.length (U3.2.map (Value.int .i64)) :: boxE b3 #[v64, q.av, q.iv, q.mv] 35 :: boxE b2 #[.slice none 0 0, .slice none 0 0, .slice none 0 0, .slice none 0 0] 35 :: boxE b1 #[v] 26 :: bigE [curE g a len cap, bigE aphR74] :: l)) rfl ?_
     refine zbn (cs' := #[v64, avhR74, q.iv, q.mv]) (i := 13) (off := 0) (us := [v64, avhR74, q.iv, q.mv]) rfl rfl rfl rfl rfl rfl rfl (zad ho65 (zad oavhR74 (zad ho9.2.2.1 (zad ho9.2.2.2 zbg)))) rfl rfl rfl (zcx (zdq (reQ 1 rfl (hvQ rfl (vaQ rfl rfl rfl) (enQ 1 rfl ?_)))))
     refine zbd 17 [15, 14, 13, 12, 11, 10, 9, 8, 7, 6, 5, 4, 3, 2, 1, 0, 16] rfl rfl (by decide) ?_
     refine zdl (curE g a len cap :: bigE aphR74 :: rowE 3 1 (.slice (some ⟨g66, 0, none⟩) 1 1) 1 ([(q.ss.length : Int)].map (Value.int .i64)) :: rowE 38 3 (.slice (some ⟨g63, 0, none⟩) 1 1) 1 ([2, wd, 0].map (Value.int .i64)) :: rowE 3 1 v67 ((Y.1.2 ++ ([(q.ss.length : Int)])).length) ((Y.1.2 ++ ([(q.ss.length : Int)])).map (Value.int .i64)) :: rowE 3 1 Y.2.1 Y.2.2.length (Y.2.2.map (Value.int .i64)) :: rowE 3 1 v55 ((ptsK (D.getD ((xhR48).toNat) md0)).length) ((ptsK (D.getD ((xhR48).toNat) md0)).map (Value.int .i64)) :: boxE b54 #[(D.getD ((xhR48).toNat) md0).sv, (D.getD ((xhR48).toNat) md0).av, (D.getD ((xhR48).toNat) md0).iv, (D.getD ((xhR48).toNat) md0).mv] 35 :: boxE b53 #[.int .i64 xhR48, .int .i64 xhR52, v67] 63 :: bigE pq :: rowE 38 3 v64 ((q.ss ++ [(Sg.mk 2 wd 0)]).length) ((q.ss ++ [(Sg.mk 2 wd 0)]).flatMap sgC) :: rowE 63 3 q.iv q.xs.length (q.xs.flatMap ixC) :: rowE 94 4 q.mv q.ms.length (q.ms.flatMap mmC) :: rowE 3 1 W2.1 W2.2.length (W2.2.map (Value.int .i64)) :: rowE 3 1 U3.1 U3.2.length (U3.2.map (Value.int .i64)) :: boxE b3 #[v64, avhR74, q.iv, q.mv] 35 :: boxE b2 #[.slice none 0 0, .slice none 0 0, .slice none 0 0, .slice none 0 0] 35 :: boxE b1 #[v] 26 :: l) zcw ?_
     refine zbd 18 [17, 16, 15, 14, 13, 12, 11, 10, 8, 7, 6, 5, 4, 3, 2, 0, 1, 9] rfl rfl (by decide) ?_
     refine zbu 2 rfl ?_
     refine zbd 17 [1, 16, 15, 14, 13, 12, 11, 10, 9, 0, 8, 7, 6, 5, 4] rfl rfl (by decide) ?_
     exact zda (j + 1) (Md.mk v64 avhR74 q.iv q.mv (q.ss ++ [(Sg.mk 2 wd 0)]) (q.gs ++ [As.mk (q.ss.length : Int) ovhR74 oshR74]) q.xs q.ms) ((v67, Y.1.2 ++ ([(q.ss.length : Int)])), (Y.2.1, Y.2.2)) [bigE pq, bigE aphR74] ⟨by omega, ((hq.wire _ hwd9 mem_app2).asg _ (List.mem_append_right _ List.mem_cons_self) _ hoshR74 (by show (q.ss.length : Int) ≤ ((_ : List Sg).length : Int); rw [List.length_append]; omega) (mem_less hq.plt)).up (by omega) (by omega) (by omega) (by omega) (by omega) (by omega), hij.inn rfl (by omega), fun w hw => ⟨(haphR74 w (zas hw (List.mem_cons_of_mem _ List.mem_cons_self))).1, (hpq w (zas hw List.mem_cons_self)).2.1.app (haphR74 w (zas hw (List.mem_cons_of_mem _ List.mem_cons_self))).2, (hpq w (zas hw List.mem_cons_self)).2.2⟩⟩ (by omega) (saQ rfl) (.refl _)
    refine ntQ (zap rfl ?_)
    refine zbv (zep ?_)
    refine zan (zbf (srQ (hvQ rfl (fdQ 2 rfl rfl rfl) (hvQ rfl (zac rfl rfl rfl (zaa 11 rfl rfl)) (hvQ rfl (zaw (cs := [.int .i64 xhR48, .int .i64 xhR52, Y.1.1]) rfl rfl rfl rfl rfl (zau 4 rfl 0 rfl)) ?_)))))
    refine zeb rfl (zai (z := .agg #[.int .i64 0, .int .i64 0, .slice none 0 0]) (s := 3) (cs := [.int .i64 xhR48, .int .i64 xhR52, Y.1.1]) rfl Try.underlying32 rfl (by decide) rfl (by kernel_rfl) rfl) ?_
    intro g75
    refine zdb (i := 1) rfl (fun ho76 => ?_)
    refine zct (i := 8) (z := .agg #[.int .i64 0, .int .i64 0, .slice none 0 0]) (bytes := 40) rfl rfl rfl rfl Try.underlying32 (by kernel_rfl) rfl rfl rfl rfl (zam 0 rfl) (zad rfl (zad rfl (zad ho76 zbg))) (by first | omega | (simp only [List.length_append, List.length_cons, List.length_nil]; omega)) (zcj q.xs [(Ix.mk xhR48 xhR52 Y.1.1 Y.1.2)]) (zdc ixC q.xs (Ix.mk xhR48 xhR52 Y.1.1 Y.1.2) _ rfl) (fun _ => rfl) ?_
    intro v77
    refine hvQ rfl (fdQ 2 rfl rfl rfl) (zdb (i := 8) rfl (fun ho78 => ?_))
    refine zec (i := 12) (cs' := #[q.sv, q.av, v77, q.mv]) rfl rfl rfl rfl rfl rfl ho78 rfl rfl rfl rfl (ntQ (reQ 2 rfl ?_))
    refine zct (i := 11) (z := .int .i64 0) (bytes := 8) rfl rfl rfl rfl Try.underlying48 (by kernel_rfl) rfl rfl rfl rfl (zam 2 rfl) (zcn _) (by first | omega | (simp; done) | (simp; omega)) (zcj U3.2 Y.2.2) (zdh U3.2 Y.2.2) (fun _ => rfl) ?_
    intro v79
    refine enQ 1 rfl (zdq (reQ 1 rfl (hvQ rfl (vaQ rfl rfl rfl) (enQ 1 rfl ?_))))
    rw [show j = (ptsK (D.getD ((xhR48).toNat) md0)).length by omega] at hij
    refine zbd 16 [15, 14, 13, 12, 11, 10, 9, 8, 7, 5, 4, 3, 2, 0, 1, 6] rfl rfl (by decide) ?_
    refine zbu 2 rfl ?_
    exact zda (t + 1) (Md.mk q.sv q.av v77 q.mv q.ss q.gs (q.xs ++ [(Ix.mk xhR48 xhR52 Y.1.1 Y.1.2)]) q.ms) (v79, U3.2 ++ Y.2.2) [bigE pq, rowE 3 1 Y.1.1 Y.1.2.length (Y.1.2.map (Value.int .i64))] ⟨by omega, (MI.done hq _ _ hij ⟨by omega, by omega⟩ (by omega) h3.plt (e := 4) (by omega)).up (by omega) (by omega) (by omega) (by omega) (by omega) (by omega), fun w hw => ⟨(hpq w (zas hw List.mem_cons_self)).1, (hpq w (zas hw List.mem_cons_self)).2.1, (hpq w (zas hw List.mem_cons_self)).2.2.app (zcl (zas hw (List.mem_cons_of_mem _ List.mem_cons_self)))⟩⟩ (by omega) (saQ rfl) (.cons_cons _ (.cons _ (.cons _ (.cons _ (.cons _ (.cons _ (.refl _)))))))
   refine zak 3 rfl (zed rfl rfl rfl rfl rfl rfl (fun h80 => ?_) (fun h80 => ?_))
   ·
    refine zba 1 rfl (zaj rfl ?_)
    refine zbv (hq_then_exit ?_)
    refine zan (zbf (reQ 1 rfl (hvQ rfl (vaQ rfl rfl rfl) (enQ 1 rfl ?_))))
    exact zda (t + 1) m3 (U3.1, U3.2) ps3 ⟨by omega, h3.up (by omega) (by omega) (by omega) (by omega) (by omega) (by omega), hp3⟩ (by omega) (saQ rfl) (.refl _)
   refine zba 1 rfl (zap rfl (zdi (zah (reQ 1 rfl (hvQ rfl (fdQ 0 rfl rfl rfl) (hvQ rfl (zac rfl rfl rfl (zaa 8 rfl rfl)) ?_))))))
   refine hvQ rfl (lnQ rfl rfl rfl (fun w hm => (hD w (hm.sub (.cons _ (.cons _ (.cons _ (.cons _ (.cons _ (.cons _ (.cons _ (.cons _ (.cons _ (.cons _ (.refl _))))))))))))).row)) (zbz (R := (fun u_ p_ => (∃ x_ : Int, u_ = .int .i64 x_ ∧ 0 ≤ x_ ∧ x_ < (D.length : Int)) ∧ p_ = curE g a len cap)) 9 rfl rfl rfl rfl rfl (fun l' w hm => zbl g a len cap z (D.length : Int) _ _ _ hm hb (by constructor <;> omega)) ?_)
   intro v81 p82 hR83
   obtain ⟨⟨xhR83, rfl, xhR830, xhR831⟩, rfl⟩ := hR83
   refine zci (l' := (bigE ps3 :: rowE 38 3 m3.sv m3.ss.length (m3.ss.flatMap sgC) :: rowE 63 3 m3.iv m3.xs.length (m3.xs.flatMap ixC) :: rowE 94 4 m3.mv m3.ms.length (m3.ms.flatMap mmC) :: rowE 3 1 W2.1 W2.2.length (W2.2.map (Value.int .i64)) :: rowE 3 1 U3.1 U3.2.length (U3.2.map (Value.int .i64)) :: boxE b3 #[m3.sv, m3.av, m3.iv, m3.mv] 35 :: boxE b2 #[.slice none 0 0, .slice none 0 0, .slice none 0 0, .slice none 0 0] 35 :: boxE b1 #[v] 26 :: curE g a len cap :: l)) rfl ?_
   refine zak 1 rfl (zeb rfl (zai (z := .int .i64 0) (s := 1) (cs := ([0, 0, 1, 2].map (Value.int .i64))) rfl Try.underlying48 rfl (by decide) rfl (by kernel_rfl) rfl) ?_)
   intro g84
   refine zdu (R := (fun u_ p_ => (∃ x : Int, u_ = .int .i64 x ∧ x ∈ ([0, 0, 1, 2] : List Int)) ∧ p_ = curE g a len cap)) 10 rfl rfl rfl rfl rfl (fun L w hX hm => zdf g a len cap z (.slice (some ⟨g84, 0, none⟩) 4 4) [0, 0, 1, 2] _ _ _ hm hb (fun w hm => (zam (l := (rowE 3 1 (.slice (some ⟨g84, 0, none⟩) 4 4) 4 ([0, 0, 1, 2].map (Value.int .i64)) :: bigE ps3 :: rowE 38 3 m3.sv m3.ss.length (m3.ss.flatMap sgC) :: rowE 63 3 m3.iv m3.xs.length (m3.xs.flatMap ixC) :: rowE 94 4 m3.mv m3.ms.length (m3.ms.flatMap mmC) :: rowE 3 1 W2.1 W2.2.length (W2.2.map (Value.int .i64)) :: rowE 3 1 U3.1 U3.2.length (U3.2.map (Value.int .i64)) :: boxE b3 #[m3.sv, m3.av, m3.iv, m3.mv] 35 :: boxE b2 #[.slice none 0 0, .slice none 0 0, .slice none 0 0, .slice none 0 0] 35 :: boxE b1 #[v] 26 :: l)) 0 rfl) w (hX w hm)) (by decide)) ?_
   intro v85 p86 hR87
   obtain ⟨⟨xhR87, rfl, xhR87m⟩, rfl⟩ := hR87
   have xhR87w := lit4 xhR87m (by decide)
   refine zci (l' := (rowE 3 1 (.slice (some ⟨g84, 0, none⟩) 4 4) 4 ([0, 0, 1, 2].map (Value.int .i64)) :: bigE ps3 :: rowE 38 3 m3.sv m3.ss.length (m3.ss.flatMap sgC) :: rowE 63 3 m3.iv m3.xs.length (m3.xs.flatMap ixC) :: rowE 94 4 m3.mv m3.ms.length (m3.ms.flatMap mmC) :: rowE 3 1 W2.1 W2.2.length (W2.2.map (Value.int .i64)) :: rowE 3 1 U3.1 U3.2.length (U3.2.map (Value.int .i64)) :: boxE b3 #[m3.sv, m3.av, m3.iv, m3.mv] 35 :: boxE b2 #[.slice none 0 0, .slice none 0 0, .slice none 0 0, .slice none 0 0] 35 :: boxE b1 #[v] 26 :: curE g a len cap :: l)) rfl ?_
   refine hvQ rfl (zax (cs := #[.int .i64 xhR83, .int .i64 xhR87, .slice none 0 0]) rfl rfl rfl) (zdv rfl (zbj (z := .agg #[.int .i64 0, .int .i64 0, .slice none 0 0]) rfl rfl) ?_)
   intro b88
   refine zbn (cs' := #[.int .i64 xhR83, .int .i64 xhR87, .slice none 0 0]) (i := 0) (off := 0) (us := [.int .i64 xhR83, .int .i64 xhR87, .slice none 0 0]) rfl rfl rfl rfl rfl rfl rfl (zad rfl (zad rfl (zad rfl zbg))) rfl rfl rfl (ntQ (srQ (hvQ rfl (fdQ 0 rfl rfl rfl) (hvQ rfl (zac rfl rfl rfl (zaa 10 rfl rfl)) (hvQ rfl (fdQ 0 rfl rfl rfl) (hvQ rfl (zac rfl rfl rfl (zaa 0 rfl rfl)) ?_))))))
   refine hvQ rfl (riQ 4 rfl rfl rfl rfl (fun w hm => (hD w (hm.sub (.cons _ (.cons _ (.cons _ (.cons _ (.cons _ (.cons _ (.cons _ (.cons _ (.cons _ (.cons _ (.cons _ (.cons _ (.refl _))))))))))))))).row)) (hvQ rfl (zbi (us := [(D.getD ((xhR83).toNat) md0).sv, (D.getD ((xhR83).toNat) md0).av, (D.getD ((xhR83).toNat) md0).iv, (D.getD ((xhR83).toNat) md0).mv]) rfl rfl rfl rfl (fun w hm => (hD w (hm.sub (.cons _ (.cons _ (.cons _ (.cons _ (.cons _ (.cons _ (.cons _ (.cons _ (.cons _ (.cons _ (.cons _ (.cons _ (.refl _))))))))))))))).row) (by omega) rfl (zca mdC 4 (fun _ => rfl) D md0 (show (xhR83).toNat < _ by omega) rfl)) ?_)
   refine zdv rfl (zbj (z := .agg #[.slice none 0 0, .slice none 0 0, .slice none 0 0, .slice none 0 0]) rfl rfl) ?_
   intro b89
   refine zbn (cs' := #[(D.getD ((xhR83).toNat) md0).sv, (D.getD ((xhR83).toNat) md0).av, (D.getD ((xhR83).toNat) md0).iv, (D.getD ((xhR83).toNat) md0).mv]) (i := 0) (off := 0) (us := [(D.getD ((xhR83).toNat) md0).sv, (D.getD ((xhR83).toNat) md0).av, (D.getD ((xhR83).toNat) md0).iv, (D.getD ((xhR83).toNat) md0).mv]) rfl rfl rfl rfl rfl rfl rfl (zad (hch _ (zbp (by omega))).1 (zad (hch _ (zbp (by omega))).2.1 (zad (hch _ (zbp (by omega))).2.2.1 (zad (hch _ (zbp (by omega))).2.2.2 zbg)))) rfl rfl rfl (ntQ (srQ (hvQ rfl (zaw (cs := [(D.getD ((xhR83).toNat) md0).sv, (D.getD ((xhR83).toNat) md0).av, (D.getD ((xhR83).toNat) md0).iv, (D.getD ((xhR83).toNat) md0).mv]) rfl rfl rfl rfl rfl (zau 0 rfl 0 rfl)) ?_)))
   refine hl_q rfl rfl rfl (zar rfl rfl (fun w hm => zdj (D.getD ((xhR83).toNat) md0) w ((hD w (hm.sub (.cons _ (.cons _ (.cons _ (.cons _ (.cons _ (.cons _ (.cons _ (.cons _ (.cons _ (.cons _ (.cons _ (.cons _ (.cons _ (.refl _)))))))))))))))).at (by omega)))) ?_
   intro v90 p91 hR92
   subst hR92
   refine zba 1 rfl (srQ ?_)
   refine zeb rfl (zds (s := 1) rfl Try.underlying48 rfl) ?_
   intro g93
   refine zba 1 rfl (zah (zbk 1 rfl (zbh ?_)))
   refine zej (rowE 3 1 (.slice none 0 0) (([] : List Int).length) (([] : List Int).map (Value.int .i64)) :: rowE 3 1 (.slice (some ⟨g93, 0, none⟩) 0 0) 0 ([]) :: rowE 3 1 v90 ((ptsK (D.getD ((xhR83).toNat) md0)).length) ((ptsK (D.getD ((xhR83).toNat) md0)).map (Value.int .i64)) :: boxE b89 #[(D.getD ((xhR83).toNat) md0).sv, (D.getD ((xhR83).toNat) md0).av, (D.getD ((xhR83).toNat) md0).iv, (D.getD ((xhR83).toNat) md0).mv] 35 :: boxE b88 #[.int .i64 xhR83, .int .i64 xhR87, .slice none 0 0] 63 :: rowE 3 1 (.slice (some ⟨g84, 0, none⟩) 4 4) 4 ([0, 0, 1, 2].map (Value.int .i64)) :: bigE ps3 :: rowE 38 3 m3.sv m3.ss.length (m3.ss.flatMap sgC) :: rowE 63 3 m3.iv m3.xs.length (m3.xs.flatMap ixC) :: rowE 94 4 m3.mv m3.ms.length (m3.ms.flatMap mmC) :: rowE 3 1 W2.1 W2.2.length (W2.2.map (Value.int .i64)) :: rowE 3 1 U3.1 U3.2.length (U3.2.map (Value.int .i64)) :: boxE b3 #[m3.sv, m3.av, m3.iv, m3.mv] 35 :: boxE b2 #[.slice none 0 0, .slice none 0 0, .slice none 0 0, .slice none 0 0] 35 :: boxE b1 #[v] 26 :: curE g a len cap :: l) (fun w hm => hm.nilRow 3 1) ?_
   refine lkQ4 (α := Nat) (β := Md) (γ := (Value × List Int) × Value × List Int) (δ := List HP) [0, 1, 3, 4, 5, 6, 7, 11, 12, 13, 14, 33, 55, 89, 98] rfl (fun j q Y pq => (rowE 3 1 Y.1.1 Y.1.2.length (Y.1.2.map (Value.int .i64)) :: rowE 3 1 Y.2.1 Y.2.2.length (Y.2.2.map (Value.int .i64)) :: rowE 3 1 v90 ((ptsK (D.getD ((xhR83).toNat) md0)).length) ((ptsK (D.getD ((xhR83).toNat) md0)).map (Value.int .i64)) :: boxE b89 #[(D.getD ((xhR83).toNat) md0).sv, (D.getD ((xhR83).toNat) md0).av, (D.getD ((xhR83).toNat) md0).iv, (D.getD ((xhR83).toNat) md0).mv] 35 :: boxE b88 #[.int .i64 xhR83, .int .i64 xhR87, Y.1.1] 63 :: bigE pq :: rowE 38 3 q.sv q.ss.length (q.ss.flatMap sgC) :: rowE 63 3 q.iv q.xs.length (q.xs.flatMap ixC) :: rowE 94 4 q.mv q.ms.length (q.ms.flatMap mmC) :: rowE 3 1 W2.1 W2.2.length (W2.2.map (Value.int .i64)) :: rowE 3 1 U3.1 U3.2.length (U3.2.map (Value.int .i64)) :: boxE b3 #[q.sv, q.av, q.iv, q.mv] 35 :: boxE b2 #[.slice none 0 0, .slice none 0 0, .slice none 0 0, .slice none 0 0] 35 :: boxE b1 #[v] 26 :: curE g a len cap :: l)) (fun j q Y pq => [(15, Y.2.1), (16, .int .i64 (j : Int))]) (fun j q Y pq => j ≤ (ptsK (D.getD ((xhR83).toNat) md0)).length ∧ MI D q U3.2 (W2.2 ++ Y.2.2) (4 + 4 * t + j) (4 * t + j) t 0 2 (4 + 4 * t) ∧ IjP D q xhR83 m3.ss.length Y.1.2 Y.2.2 j ∧ ∀ w, (bigE pq).holds w → RdP w q) (fun j q Y pq => (ptsK (D.getD ((xhR83).toNat) md0)).length - j) 0 m3 ((_, []), (_, [])) ps3 ⟨Nat.zero_le _, by rw [List.append_nil]; exact h3, IjP.start D m3 _, hp3⟩ (saQ rfl) (.cons_cons _ (.cons_cons _ (.cons_cons _ (.cons_cons _ (.cons_cons _ (.cons _ (.refl _))))))) ?_
   intro j q Y pq hi94
   obtain ⟨hj, hq, hij, hpq⟩ := hi94
   have hnsq := hq.ns
   have hnxq := hq.nx
   have hnaq := hq.na
   have hpt4 : (ptsK (D.getD ((xhR83).toNat) md0)).length ≤ 4 := by have h8 := hdd.md (((xhR83).toNat)) (by omega); rw [ptsK_len h8.len.1]; exact h8.pt
   have hyl := hij.len
   have hyo : Y.2.2.length ≤ j := by have h8 := xoA_le D (Ix.mk xhR83 0 (.slice none 0 0) Y.1.2) j; rw [← hij.oq] at h8; exact h8
   refine zah (zah (reQ 2 rfl (hvQ rfl (lnQ rfl rfl rfl (zam 2 rfl)) ?_)))
   refine zcb rfl rfl rfl rfl rfl rfl (fun h95 => ?_) (fun h95 => ?_)
   ·
    refine ntQ (zaj rfl (zdi (sbQ (zah ?_))))
    have hpt := zdd (m := (D.getD ((xhR83).toNat) md0)) (j := j) (by omega)
    have hkd := zch hpt
    have hsg9 := (hdd.md (((xhR83).toNat)) (by omega)).b.sg _ (zbp (d := sg0) (show (((ptsK (D.getD ((xhR83).toNat) md0)).getD j 0)).toNat < ((D.getD ((xhR83).toNat) md0)).ss.length by omega))
    obtain ⟨⟨hsa, hsb⟩, ⟨hsc, hsd⟩, -⟩ := hsg9
    refine zcs 9 [[], [0], [], [], [2, 3], [4], [1, 5], [6], [7]] [123, 124, 125, 126, 127, 128, 129, 130, 131] [.pointer (some ⟨b89, 0 + 0, none⟩), (D.getD ((xhR83).toNat) md0).sv, v90, .int .i64 (j : Int), elP v90 (((j : Int)).toNat * 1), .int .i64 ((ptsK (D.getD ((xhR83).toNat) md0)).getD j 0), elP ((D.getD ((xhR83).toNat) md0).sv) (((ptsK (D.getD ((xhR83).toNat) md0)).getD j 0).toNat * 3), elP ((D.getD ((xhR83).toNat) md0).sv) (((ptsK (D.getD ((xhR83).toNat) md0)).getD j 0).toNat * 3 + 1), .int .i64 ((((D.getD ((xhR83).toNat) md0).ss).getD (((ptsK (D.getD ((xhR83).toNat) md0)).getD j 0).toNat) sg0).w)] (by kernel_rfl) rfl ?_ ?_
    ·
     exact ⟨iaQ rfl (fdQ 0 rfl rfl rfl) rfl, iaQ rfl (zac rfl rfl rfl (zaa 3 rfl rfl)) rfl, iaQ rfl (zay rfl) rfl, iaQ rfl (zay rfl) rfl, iaQ rfl (riQ 1 rfl rfl rfl rfl (zam 2 rfl)) rfl, iaQ rfl (zat (u := .int .i64 ((ptsK (D.getD ((xhR83).toNat) md0)).getD j 0)) rfl rfl rfl (zam 2 rfl) (zcm (show _ < (ptsK (D.getD ((xhR83).toNat) md0)).length by omega))) rfl, iaQ rfl (riQ 3 rfl rfl rfl rfl (fun w hm => ((hD w (hm.sub (.cons _ (.cons _ (.cons _ (.cons _ (.cons _ (.cons _ (.cons _ (.cons _ (.cons _ (.cons _ (.cons _ (.cons _ (.cons _ (.cons _ (.cons _ (.refl _)))))))))))))))))).at (k := ((xhR83).toNat)) (by omega)).s)) rfl, iaQ rfl (zbe (k0 := 1) rfl rfl rfl (fun w hm => ((hD w (hm.sub (.cons _ (.cons _ (.cons _ (.cons _ (.cons _ (.cons _ (.cons _ (.cons _ (.cons _ (.cons _ (.cons _ (.cons _ (.cons _ (.cons _ (.cons _ (.refl _)))))))))))))))))).at (k := ((xhR83).toNat)) (by omega)).s) (by omega)) rfl, iaQ rfl (zat (u := .int .i64 ((((D.getD ((xhR83).toNat) md0).ss).getD (((ptsK (D.getD ((xhR83).toNat) md0)).getD j 0).toNat) sg0).w)) rfl rfl rfl (fun w hm => ((hD w (hm.sub (.cons _ (.cons _ (.cons _ (.cons _ (.cons _ (.cons _ (.cons _ (.cons _ (.cons _ (.cons _ (.cons _ (.cons _ (.cons _ (.cons _ (.cons _ (.refl _)))))))))))))))))).at (k := ((xhR83).toNat)) (by omega)).s) ((zce sgC 3 (fun _ => rfl) ((D.getD ((xhR83).toNat) md0).ss) sg0 (show ((ptsK (D.getD ((xhR83).toNat) md0)).getD j 0).toNat < _ by omega) (by decide)).trans rfl)) rfl, trivial⟩
    simp only [List.drop_succ_cons, List.drop_zero]
    refine zba 1 rfl ?_
    refine hc_meet1 (α := Int) (fun wd => (rowE 3 1 Y.1.1 Y.1.2.length (Y.1.2.map (Value.int .i64)) :: rowE 3 1 Y.2.1 Y.2.2.length (Y.2.2.map (Value.int .i64)) :: rowE 3 1 v90 ((ptsK (D.getD ((xhR83).toNat) md0)).length) ((ptsK (D.getD ((xhR83).toNat) md0)).map (Value.int .i64)) :: boxE b89 #[(D.getD ((xhR83).toNat) md0).sv, (D.getD ((xhR83).toNat) md0).av, (D.getD ((xhR83).toNat) md0).iv, (D.getD ((xhR83).toNat) md0).mv] 35 :: boxE b88 #[.int .i64 xhR83, .int .i64 xhR87, Y.1.1] 63 :: bigE pq :: rowE 38 3 q.sv q.ss.length (q.ss.flatMap sgC) :: rowE 63 3 q.iv q.xs.length (q.xs.flatMap ixC) :: rowE 94 4 q.mv q.ms.length (q.ms.flatMap mmC) :: rowE 3 1 W2.1 W2.2.length (W2.2.map (Value.int .i64)) :: rowE 3 1 U3.1 U3.2.length (U3.2.map (Value.int .i64)) :: boxE b3 #[q.sv, q.av, q.iv, q.mv] 35 :: boxE b2 #[.slice none 0 0, .slice none 0 0, .slice none 0 0, .slice none 0 0] 35 :: boxE b1 #[v] 26 :: curE g a len cap :: l)) (fun wd => [(0, .pointer (some ⟨g, 0, none⟩)), (1, .agg #[v]), (3, .pointer (some ⟨b1, 0, none⟩)), (4, .pointer (some ⟨b2, 0, none⟩)), (5, .pointer (some ⟨b3, 0, none⟩)), (6, U3.1), (7, W2.1), (11, .int .i64 (t : Int)), (12, .pointer (some ⟨b88, 0, none⟩)), (13, .pointer (some ⟨b89, 0, none⟩)), (14, v90), (15, Y.2.1), (16, .int .i64 (j : Int)), (17, .int .i64 wd), (33, .bool false), (55, .bool false), (89, .bool true), (98, .bool false), (120, .bool true)]) (fun wd => 0 ≤ wd ∧ wd ≤ 4) ?_ ?_
    ·
     refine zah (reQ 1 rfl ?_)
     refine zby rfl rfl rfl rfl rfl rfl (fun h96 => ?_) (fun h96 => ?_)
     ·
      refine ntQ (zaj rfl (zbb (hvQ rfl (fdQ 1 rfl rfl rfl) (hvQ rfl (zac rfl rfl rfl (zaa 4 rfl rfl)) (enQ 1 rfl ?_)))))
      exact zet xhR87 ⟨by omega, by omega⟩ (saQ rfl) (.refl _)
     refine ntQ (fsQ rfl ?_)
     exact zet ((((D.getD ((xhR83).toNat) md0).ss).getD (((ptsK (D.getD ((xhR83).toNat) md0)).getD j 0).toNat) sg0).w) ⟨by omega, by omega⟩ (saQ rfl) (.refl _)
    intro wd hm97
    have hwd9 : 0 ≤ wd ∧ wd ≤ 4 := hm97
    refine srQ (hvQ rfl (fdQ 0 rfl rfl rfl) (hvQ rfl (zac rfl rfl rfl (zaa 11 rfl rfl)) (hvQ rfl (lnQ rfl rfl rfl (zam 6 rfl)) (zba 1 rfl (srQ (hvQ rfl (fdQ 0 rfl rfl rfl) (hvQ rfl (zac rfl rfl rfl (zaa 11 rfl rfl)) (zak 1 rfl ?_))))))))
    refine hvQ rfl (zax (cs := #[.int .i64 2, .int .i64 wd, .int .i64 0]) rfl rfl rfl) (zeb rfl (zai (z := .agg #[.int .i64 0, .int .i64 0, .int .i64 0]) (s := 3) (cs := ([2, wd, 0].map (Value.int .i64))) rfl Try.underlying30 rfl (by decide) rfl (by kernel_rfl) rfl) ?_)
    intro g98
    refine zct (i := 7) (z := .agg #[.int .i64 0, .int .i64 0, .int .i64 0]) (bytes := 24) rfl rfl rfl rfl Try.underlying30 (by kernel_rfl) rfl rfl rfl rfl (zam 0 rfl) (zcn _) (by first | omega | (simp only [List.length_append, List.length_cons, List.length_nil]; omega)) (zcj q.ss [(Sg.mk 2 wd 0)]) (zdc sgC q.ss (Sg.mk 2 wd 0) _ rfl) (fun _ => rfl) ?_
    intro v99
    refine hvQ rfl (fdQ 0 rfl rfl rfl) (zdb (i := 7) rfl (fun ho100 => ?_))
    refine zec (i := 12) (cs' := #[v99, q.av, q.iv, q.mv]) rfl rfl rfl rfl rfl rfl ho100 rfl rfl rfl rfl (ntQ (srQ (hvQ rfl (fdQ 2 rfl rfl rfl) (hvQ rfl (zac rfl rfl rfl (zaa 5 rfl rfl)) (zak 1 rfl ?_)))))
    refine zeb rfl (zai (z := .int .i64 0) (s := 1) (cs := ([(q.ss.length : Int)].map (Value.int .i64))) rfl Try.underlying48 rfl (by decide) rfl (by kernel_rfl) rfl) ?_
    intro g101
    refine zct (i := 2) (z := .int .i64 0) (bytes := 8) rfl rfl rfl rfl Try.underlying48 (by kernel_rfl) rfl rfl rfl rfl (zam 0 rfl) (zcn _) (by first | omega | (simp; done) | (simp; omega)) (zcj Y.1.2 ([(q.ss.length : Int)])) (zdh Y.1.2 ([(q.ss.length : Int)])) (fun _ => rfl) ?_
    intro v102
    refine hvQ rfl (fdQ 2 rfl rfl rfl) (zdb (i := 2) rfl (fun ho103 => ?_))
    refine zec (i := 6) (cs' := #[.int .i64 xhR83, .int .i64 xhR87, v102]) rfl rfl rfl rfl rfl rfl ho103 rfl rfl rfl rfl (ntQ (zah ?_))
    rcases Bool.eq_false_or_eq_true (((((D.getD ((xhR83).toNat) md0).ss).getD (((ptsK (D.getD ((xhR83).toNat) md0)).getD j 0).toNat) sg0).k) == 1) with hb104 | hb104
    ·
     have hb104p : (((D.getD ((xhR83).toNat) md0).ss).getD (((ptsK (D.getD ((xhR83).toNat) md0)).getD j 0).toNat) sg0).k = 1 := beq_iff_eq.1 hb104
     refine zcs 10 [[], [0], [], [], [2, 3], [4], [1, 5], [6], [7], [8]] [152, 153, 154, 155, 156, 157, 158, 159, 160, 161] [.pointer (some ⟨b89, 0 + 0, none⟩), (D.getD ((xhR83).toNat) md0).sv, v90, .int .i64 (j : Int), elP v90 (((j : Int)).toNat * 1), .int .i64 ((ptsK (D.getD ((xhR83).toNat) md0)).getD j 0), elP ((D.getD ((xhR83).toNat) md0).sv) (((ptsK (D.getD ((xhR83).toNat) md0)).getD j 0).toNat * 3), elP ((D.getD ((xhR83).toNat) md0).sv) (((ptsK (D.getD ((xhR83).toNat) md0)).getD j 0).toNat * 3 + 0), .int .i64 ((((D.getD ((xhR83).toNat) md0).ss).getD (((ptsK (D.getD ((xhR83).toNat) md0)).getD j 0).toNat) sg0).k), .bool true] (by kernel_rfl) rfl ?_ ?_
     ·
      exact ⟨iaQ rfl (fdQ 0 rfl rfl rfl) rfl, iaQ rfl (zac rfl rfl rfl (zaa 5 rfl rfl)) rfl, iaQ rfl (zay rfl) rfl, iaQ rfl (zay rfl) rfl, iaQ rfl (riQ 1 rfl rfl rfl rfl (zam 4 rfl)) rfl, iaQ rfl (zat (u := .int .i64 ((ptsK (D.getD ((xhR83).toNat) md0)).getD j 0)) rfl rfl rfl (zam 4 rfl) (zcm (show _ < (ptsK (D.getD ((xhR83).toNat) md0)).length by omega))) rfl, iaQ rfl (riQ 3 rfl rfl rfl rfl (fun w hm => ((hD w (hm.sub (.cons _ (.cons _ (.cons _ (.cons _ (.cons _ (.cons _ (.cons _ (.cons _ (.cons _ (.cons _ (.cons _ (.cons _ (.cons _ (.cons _ (.cons _ (.cons _ (.cons _ (.refl _)))))))))))))))))))).at (k := ((xhR83).toNat)) (by omega)).s)) rfl, iaQ rfl (zbe (k0 := 0) rfl rfl rfl (fun w hm => ((hD w (hm.sub (.cons _ (.cons _ (.cons _ (.cons _ (.cons _ (.cons _ (.cons _ (.cons _ (.cons _ (.cons _ (.cons _ (.cons _ (.cons _ (.cons _ (.cons _ (.cons _ (.cons _ (.refl _)))))))))))))))))))).at (k := ((xhR83).toNat)) (by omega)).s) (by omega)) rfl, iaQ rfl (zat (u := .int .i64 ((((D.getD ((xhR83).toNat) md0).ss).getD (((ptsK (D.getD ((xhR83).toNat) md0)).getD j 0).toNat) sg0).k)) rfl rfl rfl (fun w hm => ((hD w (hm.sub (.cons _ (.cons _ (.cons _ (.cons _ (.cons _ (.cons _ (.cons _ (.cons _ (.cons _ (.cons _ (.cons _ (.cons _ (.cons _ (.cons _ (.cons _ (.cons _ (.cons _ (.refl _)))))))))))))))))))).at (k := ((xhR83).toNat)) (by omega)).s) ((zce sgC 3 (fun _ => rfl) ((D.getD ((xhR83).toNat) md0).ss) sg0 (show ((ptsK (D.getD ((xhR83).toNat) md0)).getD j 0).toNat < _ by omega) (by decide)).trans rfl)) rfl, .inl ⟨rfl, zes (zcu rfl rfl rfl rfl) hb104⟩, trivial⟩
     simp only [List.drop_succ_cons, List.drop_zero]
     refine ntQ (zaj rfl (reQ 2 rfl ?_))
     refine zeb rfl (zai (z := .int .i64 0) (s := 1) (cs := ([(q.ss.length : Int)].map (Value.int .i64))) rfl Try.underlying48 rfl (by decide) rfl (by kernel_rfl) rfl) ?_
     intro g105
     refine zct (i := 4) (z := .int .i64 0) (bytes := 8) rfl rfl rfl rfl Try.underlying48 (by kernel_rfl) rfl rfl rfl rfl (zam 0 rfl) (zcn _) (by first | omega | (simp; done) | (simp; omega)) (zcj Y.2.2 ([(q.ss.length : Int)])) (zdh Y.2.2 ([(q.ss.length : Int)])) (fun _ => rfl) ?_
     intro v106
     refine enQ 1 rfl (zdq (reQ 1 rfl (hvQ rfl (vaQ rfl rfl rfl) (enQ 1 rfl ?_))))
     exact zda (j + 1) (Md.mk v99 q.av q.iv q.mv (q.ss ++ [(Sg.mk 2 wd 0)]) q.gs q.xs q.ms) ((v102, Y.1.2 ++ ([(q.ss.length : Int)])), (v106, Y.2.2 ++ ([(q.ss.length : Int)]))) pq ⟨by omega, (hq.wire _ hwd9 mem_app1).up (by omega) (by omega) (by omega) (by omega) (by omega) (by omega), hij.out rfl (by omega), fun w hw => hpq w hw⟩ (by omega) (saQ rfl) (.cons _ (.cons _ (.cons _ (.refl _))))
    have hb104p : (((D.getD ((xhR83).toNat) md0).ss).getD (((ptsK (D.getD ((xhR83).toNat) md0)).getD j 0).toNat) sg0).k ≠ 1 := beq_eq_false_iff_ne.1 hb104
    refine zcs 10 [[], [0], [], [], [2, 3], [4], [1, 5], [6], [7], [8]] [152, 153, 154, 155, 156, 157, 158, 159, 160, 161] [.pointer (some ⟨b89, 0 + 0, none⟩), (D.getD ((xhR83).toNat) md0).sv, v90, .int .i64 (j : Int), elP v90 (((j : Int)).toNat * 1), .int .i64 ((ptsK (D.getD ((xhR83).toNat) md0)).getD j 0), elP ((D.getD ((xhR83).toNat) md0).sv) (((ptsK (D.getD ((xhR83).toNat) md0)).getD j 0).toNat * 3), elP ((D.getD ((xhR83).toNat) md0).sv) (((ptsK (D.getD ((xhR83).toNat) md0)).getD j 0).toNat * 3 + 0), .int .i64 ((((D.getD ((xhR83).toNat) md0).ss).getD (((ptsK (D.getD ((xhR83).toNat) md0)).getD j 0).toNat) sg0).k), .bool false] (by kernel_rfl) rfl ?_ ?_
    ·
     exact ⟨iaQ rfl (fdQ 0 rfl rfl rfl) rfl, iaQ rfl (zac rfl rfl rfl (zaa 5 rfl rfl)) rfl, iaQ rfl (zay rfl) rfl, iaQ rfl (zay rfl) rfl, iaQ rfl (riQ 1 rfl rfl rfl rfl (zam 4 rfl)) rfl, iaQ rfl (zat (u := .int .i64 ((ptsK (D.getD ((xhR83).toNat) md0)).getD j 0)) rfl rfl rfl (zam 4 rfl) (zcm (show _ < (ptsK (D.getD ((xhR83).toNat) md0)).length by omega))) rfl, iaQ rfl (riQ 3 rfl rfl rfl rfl (fun w hm => ((hD w (hm.sub (.cons _ (.cons _ (.cons _ (.cons _ (.cons _ (.cons _ (.cons _ (.cons _ (.cons _ (.cons _ (.cons _ (.cons _ (.cons _ (.cons _ (.cons _ (.cons _ (.cons _ (.refl _)))))))))))))))))))).at (k := ((xhR83).toNat)) (by omega)).s)) rfl, iaQ rfl (zbe (k0 := 0) rfl rfl rfl (fun w hm => ((hD w (hm.sub (.cons _ (.cons _ (.cons _ (.cons _ (.cons _ (.cons _ (.cons _ (.cons _ (.cons _ (.cons _ (.cons _ (.cons _ (.cons _ (.cons _ (.cons _ (.cons _ (.cons _ (.refl _)))))))))))))))))))).at (k := ((xhR83).toNat)) (by omega)).s) (by omega)) rfl, iaQ rfl (zat (u := .int .i64 ((((D.getD ((xhR83).toNat) md0).ss).getD (((ptsK (D.getD ((xhR83).toNat) md0)).getD j 0).toNat) sg0).k)) rfl rfl rfl (fun w hm => ((hD w (hm.sub (.cons _ (.cons _ (.cons _ (.cons _ (.cons _ (.cons _ (.cons _ (.cons _ (.cons _ (.cons _ (.cons _ (.cons _ (.cons _ (.cons _ (.cons _ (.cons _ (.cons _ (.refl _)))))))))))))))))))).at (k := ((xhR83).toNat)) (by omega)).s) ((zce sgC 3 (fun _ => rfl) ((D.getD ((xhR83).toNat) md0).ss) sg0 (show ((ptsK (D.getD ((xhR83).toNat) md0)).getD j 0).toNat < _ by omega) (by decide)).trans rfl)) rfl, .inl ⟨rfl, zes (zcu rfl rfl rfl rfl) hb104⟩, trivial⟩
    simp only [List.drop_succ_cons, List.drop_zero]
    refine ntQ (zap rfl (zbb ?_))
    refine zfb (p := (∀ g9 ∈ q.gs, g9.ov.oneCell' = true) ∧ v99.oneCell' = true ∧ q.av.oneCell' = true ∧ q.iv.oneCell' = true ∧ q.mv.oneCell' = true) (fun w hm => ⟨fun g9 hg9 => ((hpq w (hm.holds _ (zbs (i := 7) rfl))).2.1 g9 hg9).one, (zam 8 rfl w hm).one, (hpq w (hm.holds _ (zbs (i := 7) rfl))).1.one, (zam 9 rfl w hm).one, (zam 10 rfl w hm).one⟩) (fun ⟨hone9, ho9⟩ => ?_)
    refine zak 1 rfl (hvQ rfl (zaw (cs := [v99, q.av, q.iv, q.mv]) rfl rfl rfl rfl rfl (zau 13 rfl 0 rfl)) (zak 2 rfl ?_))
    refine zdu (R := (fun u_ p_ => ∃ (v' ov : Value) (os : List Oq) (ps : List HP), u_ = .agg #[v99, v', q.iv, q.mv] ∧ p_ = bigE [curE g a len cap, bigE ps] ∧ (∀ w, (bigE ps).holds w → RdsW w v' 2 (q.gs ++ [As.mk (q.ss.length : Int) ov os]).length ((q.gs ++ [As.mk (q.ss.length : Int) ov os]).flatMap asC) ∧ RdsW w ov 3 os.length (os.flatMap oqC)) ∧ v'.oneCell' = true ∧ ov.oneCell' = true ∧ ExP (q.ss.length : Int) 9 os)) 16 rfl rfl rfl rfl rfl (fun L w hX hm => zdg g a len cap z (q.ss.length : Int) (Md.mk v99 q.av q.iv q.mv (q.ss ++ [(Sg.mk 2 wd 0)]) q.gs q.xs q.ms) (q.ss.length : Int) U3.1 _ _ _ _ hm hb (fun w9 h9 => (zam (l := (rowE 3 1 (.slice (some ⟨g101, 0, none⟩) 1 1) 1 ([(q.ss.length : Int)].map (Value.int .i64)) :: rowE 38 3 (.slice (some ⟨g98, 0, none⟩) 1 1) 1 ([2, wd, 0].map (Value.int .i64)) :: rowE 3 1 v102 ((Y.1.2 ++ ([(q.ss.length : Int)])).length) ((Y.1.2 ++ ([(q.ss.length : Int)])).map (Value.int .i64)) :: rowE 3 1 Y.2.1 Y.2.2.length (Y.2.2.map (Value.int .i64)) :: rowE 3 1 v90 ((ptsK (D.getD ((xhR83).toNat) md0)).length) ((ptsK (D.getD ((xhR83).toNat) md0)).map (Value.int .i64)) :: boxE b89 #[(D.getD ((xhR83).toNat) md0).sv, (D.getD ((xhR83).toNat) md0).av, (D.getD ((xhR83).toNat) md0).iv, (D.getD ((xhR83).toNat) md0).mv] 35 :: boxE b88 #[.int .i64 xhR83, .int .i64 xhR87, v102] 63 :: bigE pq :: rowE 38 3 v99 ((q.ss ++ [(Sg.mk 2 wd 0)]).length) ((q.ss ++ [(Sg.mk 2 wd 0)]).flatMap sgC) :: rowE 63 3 q.iv q.xs.length (q.xs.flatMap ixC) :: rowE 94 4 q.mv q.ms.length (q.ms.flatMap mmC) :: rowE 3 1 W2.1 W2.2.length (W2.2.map (Value.int .i64)) :: rowE 3 1 U3.1 U3.2.length (U3.2.map (Value.int .i64)) :: boxE b3 #[v99, q.av, q.iv, q.mv] 35 :: boxE b2 #[.slice none 0 0, .slice none 0 0, .slice none 0 0, .slice none 0 0] 35 :: boxE b1 #[v] 26 :: l)) 12 rfl) w9 (hX w9 h9)) (fun x hx => hq.av x hx) (by have h9 := hq.na; omega) (fun w9 h9 => (hpq w9 ((hX w9 h9).holds _ (zbs (i := 7) rfl))).1) (by have h9 := hq.ng; show q.gs.length ≤ 1000; omega) hone9 ⟨ho9.1, ho9.2.1, ho9.2.2.1, ho9.2.2.2⟩) ?_
    intro v107 p108 hR109
    obtain ⟨avhR109, ovhR109, oshR109, aphR109, rfl, rfl, haphR109, oavhR109, oovhR109, hoshR109⟩ := hR109
    refine zci (l' := (rowE 3 1 (.slice (some ⟨g101, 0, none⟩) 1 1) 1 ([(q.ss.length : Int)].map (Value.int .i64)) :: rowE 38 3 (.slice (some ⟨g98, 0, none⟩) 1 1) 1 ([2, wd, 0].map (Value.int .i64)) :: rowE 3 1 v102 ((Y.1.2 ++ ([(q.ss.length : Int)])).length) ((Y.1.2 ++ ([(q.ss.length : Int)])).map (Value.int .i64)) :: rowE 3 1 Y.2.1 Y.2.2.length (Y.2.2.map (Value.int .i64)) :: rowE 3 1 v90 ((ptsK (D.getD ((xhR83).toNat) md0)).length) ((ptsK (D.getD ((xhR83).toNat) md0)).map (Value.int .i64)) :: boxE b89 #[(D.getD ((xhR83).toNat) md0).sv, (D.getD ((xhR83).toNat) md0).av, (D.getD ((xhR83).toNat) md0).iv, (D.getD ((xhR83).toNat) md0).mv] 35 :: boxE b88 #[.int .i64 xhR83, .int .i64 xhR87, v102] 63 :: bigE pq :: rowE 38 3 v99 ((q.ss ++ [(Sg.mk 2 wd 0)]).length) ((q.ss ++ [(Sg.mk 2 wd 0)]).flatMap sgC) :: rowE 63 3 q.iv q.xs.length (q.xs.flatMap ixC) :: rowE 94 4 q.mv q.ms.length (q.ms.flatMap mmC) :: rowE 3 1 W2.1 W2.2.length (W2.2.map (Value.int .i64)) :: rowE 3 1 U3.1 U3.2.length (U3.2.map (Value.int .i64)) :: boxE b3 #[v99, q.av, q.iv, q.mv] 35 :: boxE b2 #[.slice none 0 0, .slice none 0 0, .slice none 0 0, .slice none 0 0] 35 :: boxE b1 #[v] 26 :: bigE [curE g a len cap, bigE aphR109] :: l)) rfl ?_
    refine zbn (cs' := #[v99, avhR109, q.iv, q.mv]) (i := 13) (off := 0) (us := [v99, avhR109, q.iv, q.mv]) rfl rfl rfl rfl rfl rfl rfl (zad ho100 (zad oavhR109 (zad ho9.2.2.1 (zad ho9.2.2.2 zbg)))) rfl rfl rfl (zcx (zdq (reQ 1 rfl (hvQ rfl (vaQ rfl rfl rfl) (enQ 1 rfl ?_)))))
    refine zbd 17 [15, 14, 13, 12, 11, 10, 9, 8, 7, 6, 5, 4, 3, 2, 1, 0, 16] rfl rfl (by decide) ?_
    refine zdl (curE g a len cap :: bigE aphR109 :: rowE 3 1 (.slice (some ⟨g101, 0, none⟩) 1 1) 1 ([(q.ss.length : Int)].map (Value.int .i64)) :: rowE 38 3 (.slice (some ⟨g98, 0, none⟩) 1 1) 1 ([2, wd, 0].map (Value.int .i64)) :: rowE 3 1 v102 ((Y.1.2 ++ ([(q.ss.length : Int)])).length) ((Y.1.2 ++ ([(q.ss.length : Int)])).map (Value.int .i64)) :: rowE 3 1 Y.2.1 Y.2.2.length (Y.2.2.map (Value.int .i64)) :: rowE 3 1 v90 ((ptsK (D.getD ((xhR83).toNat) md0)).length) ((ptsK (D.getD ((xhR83).toNat) md0)).map (Value.int .i64)) :: boxE b89 #[(D.getD ((xhR83).toNat) md0).sv, (D.getD ((xhR83).toNat) md0).av, (D.getD ((xhR83).toNat) md0).iv, (D.getD ((xhR83).toNat) md0).mv] 35 :: boxE b88 #[.int .i64 xhR83, .int .i64 xhR87, v102] 63 :: bigE pq :: rowE 38 3 v99 ((q.ss ++ [(Sg.mk 2 wd 0)]).length) ((q.ss ++ [(Sg.mk 2 wd 0)]).flatMap sgC) :: rowE 63 3 q.iv q.xs.length (q.xs.flatMap ixC) :: rowE 94 4 q.mv q.ms.length (q.ms.flatMap mmC) :: rowE 3 1 W2.1 W2.2.length (W2.2.map (Value.int .i64)) :: rowE 3 1 U3.1 U3.2.length (U3.2.map (Value.int .i64)) :: boxE b3 #[v99, avhR109, q.iv, q.mv] 35 :: boxE b2 #[.slice none 0 0, .slice none 0 0, .slice none 0 0, .slice none 0 0] 35 :: boxE b1 #[v] 26 :: l) zcw ?_
    refine zbd 18 [17, 16, 15, 14, 13, 12, 11, 10, 8, 7, 6, 5, 4, 3, 2, 0, 1, 9] rfl rfl (by decide) ?_
    refine zbu 2 rfl ?_
    refine zbd 17 [1, 16, 15, 14, 13, 12, 11, 10, 9, 0, 8, 7, 6, 5, 4] rfl rfl (by decide) ?_
    exact zda (j + 1) (Md.mk v99 avhR109 q.iv q.mv (q.ss ++ [(Sg.mk 2 wd 0)]) (q.gs ++ [As.mk (q.ss.length : Int) ovhR109 oshR109]) q.xs q.ms) ((v102, Y.1.2 ++ ([(q.ss.length : Int)])), (Y.2.1, Y.2.2)) [bigE pq, bigE aphR109] ⟨by omega, ((hq.wire _ hwd9 mem_app2).asg _ (List.mem_append_right _ List.mem_cons_self) _ hoshR109 (by show (q.ss.length : Int) ≤ ((_ : List Sg).length : Int); rw [List.length_append]; omega) (mem_less hq.plt)).up (by omega) (by omega) (by omega) (by omega) (by omega) (by omega), hij.inn rfl (by omega), fun w hw => ⟨(haphR109 w (zas hw (List.mem_cons_of_mem _ List.mem_cons_self))).1, (hpq w (zas hw List.mem_cons_self)).2.1.app (haphR109 w (zas hw (List.mem_cons_of_mem _ List.mem_cons_self))).2, (hpq w (zas hw List.mem_cons_self)).2.2⟩⟩ (by omega) (saQ rfl) (.refl _)
   refine ntQ (zap rfl ?_)
   refine zbv (zep ?_)
   refine zan (zbf (srQ (hvQ rfl (fdQ 2 rfl rfl rfl) (hvQ rfl (zac rfl rfl rfl (zaa 11 rfl rfl)) (hvQ rfl (zaw (cs := [.int .i64 xhR83, .int .i64 xhR87, Y.1.1]) rfl rfl rfl rfl rfl (zau 4 rfl 0 rfl)) ?_)))))
   refine zeb rfl (zai (z := .agg #[.int .i64 0, .int .i64 0, .slice none 0 0]) (s := 3) (cs := [.int .i64 xhR83, .int .i64 xhR87, Y.1.1]) rfl Try.underlying32 rfl (by decide) rfl (by kernel_rfl) rfl) ?_
   intro g110
   refine zdb (i := 1) rfl (fun ho111 => ?_)
   refine zct (i := 8) (z := .agg #[.int .i64 0, .int .i64 0, .slice none 0 0]) (bytes := 40) rfl rfl rfl rfl Try.underlying32 (by kernel_rfl) rfl rfl rfl rfl (zam 0 rfl) (zad rfl (zad rfl (zad ho111 zbg))) (by first | omega | (simp only [List.length_append, List.length_cons, List.length_nil]; omega)) (zcj q.xs [(Ix.mk xhR83 xhR87 Y.1.1 Y.1.2)]) (zdc ixC q.xs (Ix.mk xhR83 xhR87 Y.1.1 Y.1.2) _ rfl) (fun _ => rfl) ?_
   intro v112
   refine hvQ rfl (fdQ 2 rfl rfl rfl) (zdb (i := 8) rfl (fun ho113 => ?_))
   refine zec (i := 12) (cs' := #[q.sv, q.av, v112, q.mv]) rfl rfl rfl rfl rfl rfl ho113 rfl rfl rfl rfl (ntQ (reQ 2 rfl ?_))
   refine zct (i := 11) (z := .int .i64 0) (bytes := 8) rfl rfl rfl rfl Try.underlying48 (by kernel_rfl) rfl rfl rfl rfl (zam 2 rfl) (zcn _) (by first | omega | (simp; done) | (simp; omega)) (zcj U3.2 Y.2.2) (zdh U3.2 Y.2.2) (fun _ => rfl) ?_
   intro v114
   refine enQ 1 rfl (zdq (reQ 1 rfl (hvQ rfl (vaQ rfl rfl rfl) (enQ 1 rfl ?_))))
   rw [show j = (ptsK (D.getD ((xhR83).toNat) md0)).length by omega] at hij
   refine zbd 16 [15, 14, 13, 12, 11, 10, 9, 8, 7, 5, 4, 3, 2, 0, 1, 6] rfl rfl (by decide) ?_
   refine zbu 2 rfl ?_
   exact zda (t + 1) (Md.mk q.sv q.av v112 q.mv q.ss q.gs (q.xs ++ [(Ix.mk xhR83 xhR87 Y.1.1 Y.1.2)]) q.ms) (v114, U3.2 ++ Y.2.2) [bigE pq, rowE 3 1 Y.1.1 Y.1.2.length (Y.1.2.map (Value.int .i64))] ⟨by omega, (MI.done hq _ _ hij ⟨by omega, by omega⟩ (by omega) h3.plt (e := 4) (by omega)).up (by omega) (by omega) (by omega) (by omega) (by omega) (by omega), fun w hw => ⟨(hpq w (zas hw List.mem_cons_self)).1, (hpq w (zas hw List.mem_cons_self)).2.1, (hpq w (zas hw List.mem_cons_self)).2.2.app (zcl (zas hw (List.mem_cons_of_mem _ List.mem_cons_self)))⟩⟩ (by omega) (saQ rfl) (.cons_cons _ (.cons _ (.cons _ (.cons _ (.cons _ (.cons _ (.refl _)))))))
  refine zba 1 rfl (zap rfl ?_)
  refine zbv (zep ?_)
  refine zan (zbf ?_)
  refine hc_meet3 (α := Md) (β := Value × List Int) (γ := List HP) (fun m5 U5 ps5 => (bigE ps5 :: rowE 38 3 m5.sv m5.ss.length (m5.ss.flatMap sgC) :: rowE 63 3 m5.iv m5.xs.length (m5.xs.flatMap ixC) :: rowE 94 4 m5.mv m5.ms.length (m5.ms.flatMap mmC) :: rowE 3 1 W2.1 W2.2.length (W2.2.map (Value.int .i64)) :: rowE 3 1 U5.1 U5.2.length (U5.2.map (Value.int .i64)) :: boxE b3 #[m5.sv, m5.av, m5.iv, m5.mv] 35 :: boxE b2 #[.slice none 0 0, .slice none 0 0, .slice none 0 0, .slice none 0 0] 35 :: boxE b1 #[v] 26 :: curE g a len cap :: l)) (fun m5 U5 ps5 => [(0, .pointer (some ⟨g, 0, none⟩)), (1, .agg #[v]), (3, .pointer (some ⟨b1, 0, none⟩)), (4, .pointer (some ⟨b2, 0, none⟩)), (5, .pointer (some ⟨b3, 0, none⟩)), (6, U5.1), (7, W2.1), (11, .int .i64 (t : Int)), (33, .bool false), (55, .bool false), (89, .bool false)]) (fun m5 U5 ps5 => MI D m5 U5.2 W2.2 16 11 2 1 2 13 ∧ ∀ w, (bigE ps5).holds w → RdP w m5) ?_ ?_
  ·
   refine zah (reQ 1 rfl ?_)
   refine zbz (R := (fun u_ p_ => (∃ b : Bool, u_ = .bool b) ∧ p_ = curE g a len cap)) 9 rfl rfl rfl rfl rfl (fun l' w hm => once_mut hm hb (4) (by omega) (by omega)) ?_
   intro v115 p116 hR117
   obtain ⟨⟨xhR117, rfl⟩, rfl⟩ := hR117
   refine zci (l' := (bigE ps3 :: rowE 38 3 m3.sv m3.ss.length (m3.ss.flatMap sgC) :: rowE 63 3 m3.iv m3.xs.length (m3.xs.flatMap ixC) :: rowE 94 4 m3.mv m3.ms.length (m3.ms.flatMap mmC) :: rowE 3 1 W2.1 W2.2.length (W2.2.map (Value.int .i64)) :: rowE 3 1 U3.1 U3.2.length (U3.2.map (Value.int .i64)) :: boxE b3 #[m3.sv, m3.av, m3.iv, m3.mv] 35 :: boxE b2 #[.slice none 0 0, .slice none 0 0, .slice none 0 0, .slice none 0 0] 35 :: boxE b1 #[v] 26 :: curE g a len cap :: l)) rfl ?_
   refine zbm (fun h118 => ?_) (fun h118 => ?_)
   ·
    refine ntQ (zaj rfl (srQ (hvQ rfl (fdQ 0 rfl rfl rfl) (hvQ rfl (zac rfl rfl rfl (zaa 6 rfl rfl)) (hvQ rfl (lnQ rfl rfl rfl (zam 1 rfl)) (zba 1 rfl (zah ?_)))))))
    refine reQ 1 rfl ?_
    refine zbz (R := (fun u_ p_ => (∃ x_ : Int, u_ = .int .i64 x_ ∧ 0 ≤ x_ ∧ x_ < 2) ∧ p_ = curE g a len cap)) 9 rfl rfl rfl rfl rfl (fun l' w hm => zbl g a len cap z 2 _ _ _ hm hb (by constructor <;> omega)) ?_
    intro v119 p120 hR121
    obtain ⟨⟨xhR121, rfl, xhR1210, xhR1211⟩, rfl⟩ := hR121
    refine zci (l' := (bigE ps3 :: rowE 38 3 m3.sv m3.ss.length (m3.ss.flatMap sgC) :: rowE 63 3 m3.iv m3.xs.length (m3.xs.flatMap ixC) :: rowE 94 4 m3.mv m3.ms.length (m3.ms.flatMap mmC) :: rowE 3 1 W2.1 W2.2.length (W2.2.map (Value.int .i64)) :: rowE 3 1 U3.1 U3.2.length (U3.2.map (Value.int .i64)) :: boxE b3 #[m3.sv, m3.av, m3.iv, m3.mv] 35 :: boxE b2 #[.slice none 0 0, .slice none 0 0, .slice none 0 0, .slice none 0 0] 35 :: boxE b1 #[v] 26 :: curE g a len cap :: l)) rfl ?_
    refine hvQ rfl (vaQ rfl rfl rfl) (zba 1 rfl (srQ (hvQ rfl (fdQ 0 rfl rfl rfl) (hvQ rfl (zac rfl rfl rfl (zaa 6 rfl rfl)) (hvQ rfl (zax (cs := #[.int .i64 2, .int .i64 2, .int .i64 0]) rfl rfl rfl) (zak 1 rfl (hvQ rfl (zax (cs := #[.int .i64 2, .int .i64 (1 + xhR121), .int .i64 0]) rfl rfl rfl) (hvQ rfl (zax (cs := #[.int .i64 2, .int .i64 1, .int .i64 0]) rfl rfl rfl) (zak 1 rfl ?_)))))))))
    refine hvQ rfl (zax (cs := #[.int .i64 2, .int .i64 (1 + xhR121), .int .i64 0]) rfl rfl rfl) (zeb rfl (zai (z := .agg #[.int .i64 0, .int .i64 0, .int .i64 0]) (s := 3) (cs := ([2, 2, 0, 2, 1 + xhR121, 0, 2, 1, 0, 2, 1 + xhR121, 0].map (Value.int .i64))) rfl Try.underlying30 rfl (by decide) rfl (by kernel_rfl) rfl) ?_)
    intro g122
    refine zct (i := 2) (z := .agg #[.int .i64 0, .int .i64 0, .int .i64 0]) (bytes := 24) (n' := (m3.ss ++ [Sg.mk 2 2 0, Sg.mk 2 (1 + xhR121) 0, Sg.mk 2 1 0, Sg.mk 2 (1 + xhR121) 0]).length) (xs' := ((m3.ss ++ [Sg.mk 2 2 0, Sg.mk 2 (1 + xhR121) 0, Sg.mk 2 1 0, Sg.mk 2 (1 + xhR121) 0]).flatMap sgC)) rfl rfl rfl rfl Try.underlying30 (by kernel_rfl) rfl rfl rfl rfl (zam 0 rfl) (by simp [Value.oneCell']) (by omega) (zcj m3.ss ([Sg.mk 2 2 0, Sg.mk 2 (1 + xhR121) 0, Sg.mk 2 1 0, Sg.mk 2 (1 + xhR121) 0] : List Sg)) (flat_app sgC m3.ss [Sg.mk 2 2 0, Sg.mk 2 (1 + xhR121) 0, Sg.mk 2 1 0, Sg.mk 2 (1 + xhR121) 0]) (fun _ => rfl) ?_
    intro v123
    refine hvQ rfl (fdQ 0 rfl rfl rfl) (zdb (i := 2) rfl (fun ho124 => ?_))
    refine zec (i := 7) (cs' := #[v123, m3.av, m3.iv, m3.mv]) rfl rfl rfl rfl rfl rfl ho124 rfl rfl rfl rfl (zcx (zbf (zah (zbb (hvQ rfl (fdQ 3 rfl rfl rfl) (hvQ rfl (zac rfl rfl rfl (zaa 7 rfl rfl)) (zak 2 rfl (hvQ rfl (vaQ rfl rfl rfl) (zak 1 rfl (hvQ rfl (vaQ rfl rfl rfl) (zak 1 rfl (hvQ rfl (vaQ rfl rfl rfl) (hvQ rfl (zax (cs := #[.int .i64 (m3.ss.length : Int), .int .i64 ((m3.ss.length : Int) + 1), .int .i64 ((m3.ss.length : Int) + 2), .int .i64 ((m3.ss.length : Int) + 3)]) rfl rfl rfl) ?_)))))))))))))
    refine zeb rfl (zai (z := .agg #[.int .i64 0, .int .i64 0, .int .i64 0, .int .i64 0]) (s := 4) (cs := ([(m3.ss.length : Int), (m3.ss.length : Int) + 1, (m3.ss.length : Int) + 2, (m3.ss.length : Int) + 3].map (Value.int .i64))) rfl Try.underlying33 rfl (by decide) rfl (by kernel_rfl) rfl) ?_
    intro g125
    refine zct (i := 5) (z := .agg #[.int .i64 0, .int .i64 0, .int .i64 0, .int .i64 0]) (bytes := 32) rfl rfl rfl rfl Try.underlying33 (by kernel_rfl) rfl rfl rfl rfl (zam 0 rfl) (zcn _) (by first | omega | (simp only [List.length_append, List.length_cons, List.length_nil]; omega)) (zcj m3.ms [(Mm.mk (m3.ss.length : Int) ((m3.ss.length : Int) + 1) ((m3.ss.length : Int) + 2) ((m3.ss.length : Int) + 3))]) (zdc mmC m3.ms (Mm.mk (m3.ss.length : Int) ((m3.ss.length : Int) + 1) ((m3.ss.length : Int) + 2) ((m3.ss.length : Int) + 3)) _ rfl) (fun _ => rfl) ?_
    intro v126
    refine hvQ rfl (fdQ 3 rfl rfl rfl) (zdb (i := 5) rfl (fun ho127 => ?_))
    refine zec (i := 8) (cs' := #[v123, m3.av, m3.iv, v126]) rfl rfl rfl rfl rfl rfl ho127 rfl rfl rfl rfl (ntQ (zah (reQ 2 rfl (hvQ rfl (vaQ rfl rfl rfl) ?_))))
    refine zeb rfl (zai (z := .int .i64 0) (s := 1) (cs := ([(m3.ss.length : Int) + 3].map (Value.int .i64))) rfl Try.underlying48 rfl (by decide) rfl (by kernel_rfl) rfl) ?_
    intro g128
    refine zct (i := 8) (z := .int .i64 0) (bytes := 8) rfl rfl rfl rfl Try.underlying48 (by kernel_rfl) rfl rfl rfl rfl (zam 0 rfl) (zcn _) (by first | omega | (simp; done) | (simp; omega)) (zcj U3.2 ([(m3.ss.length : Int) + 3])) (zdh U3.2 ([(m3.ss.length : Int) + 3])) (fun _ => rfl) ?_
    intro v129
    refine zba 1 rfl (zbk 1 rfl (zbh ?_))
    refine lkQ3 (α := Nat) (β := Md) (γ := List HP) [0, 1, 3, 4, 5, 6, 7, 11, 19, 20, 33, 55, 89, 181] rfl (fun j4 m4 ps4 => (bigE ps4 :: rowE 38 3 m4.sv m4.ss.length (m4.ss.flatMap sgC) :: rowE 63 3 m4.iv m4.xs.length (m4.xs.flatMap ixC) :: rowE 94 4 m4.mv m4.ms.length (m4.ms.flatMap mmC) :: rowE 3 1 W2.1 W2.2.length (W2.2.map (Value.int .i64)) :: rowE 3 1 v129 ((U3.2 ++ ([(m3.ss.length : Int) + 3])).length) ((U3.2 ++ ([(m3.ss.length : Int) + 3])).map (Value.int .i64)) :: boxE b3 #[m4.sv, m4.av, m4.iv, m4.mv] 35 :: boxE b2 #[.slice none 0 0, .slice none 0 0, .slice none 0 0, .slice none 0 0] 35 :: boxE b1 #[v] 26 :: curE g a len cap :: l)) (fun j4 m4 ps4 => [(21, .int .i64 (j4 : Int))]) (fun j4 m4 ps4 => j4 ≤ 3 ∧ MI D m4 (U3.2 ++ ([(m3.ss.length : Int) + 3])) (W2.2 ++ ([(m3.ss.length : Int), (m3.ss.length : Int) + 1, (m3.ss.length : Int) + 2] : List Int).drop j4) 16 (8 + j4) 2 1 2 13 ∧ ∀ w, (bigE ps4).holds w → RdP w m4) (fun j4 m4 ps4 => 3 - j4) 0 (Md.mk v123 m3.av m3.iv v126 (m3.ss ++ [Sg.mk 2 2 0, Sg.mk 2 (1 + xhR121) 0, Sg.mk 2 1 0, Sg.mk 2 (1 + xhR121) 0]) m3.gs m3.xs (m3.ms ++ [(Mm.mk (m3.ss.length : Int) ((m3.ss.length : Int) + 1) ((m3.ss.length : Int) + 2) ((m3.ss.length : Int) + 3))])) ps3 ⟨by omega, (h3.mm4 _ _ ⟨by omega, by omega⟩).up (by omega) (by omega) (by omega) (by omega) (by omega) (by omega), fun w hw => hp3 w hw⟩ (saQ rfl) (.cons _ (.cons _ (.cons _ (.refl _)))) ?_
    intro j4 m4 ps4 hi130
    obtain ⟨hj4, h4, hp4⟩ := hi130
    refine zah (zah (reQ 1 rfl ?_))
    refine zcb rfl rfl rfl rfl rfl rfl (fun h131 => ?_) (fun h131 => ?_)
    ·
     refine ntQ (zaj rfl (zdi (sbQ (zbb ?_))))
     have hpd9 := pend3 h3.plt (show j4 < 3 by omega)
     refine zfb (p := (∀ g9 ∈ m4.gs, g9.ov.oneCell' = true) ∧ m4.sv.oneCell' = true ∧ m4.av.oneCell' = true ∧ m4.iv.oneCell' = true ∧ m4.mv.oneCell' = true) (fun w hm => ⟨fun g9 hg9 => ((hp4 w (hm.holds _ (zbs (i := 0) rfl))).2.1 g9 hg9).one, (zam 1 rfl w hm).one, (hp4 w (hm.holds _ (zbs (i := 0) rfl))).1.one, (zam 2 rfl w hm).one, (zam 3 rfl w hm).one⟩) (fun ⟨hone9, ho9⟩ => ?_)
     refine zak 1 rfl (hvQ rfl (zaw (cs := [m4.sv, m4.av, m4.iv, m4.mv]) rfl rfl rfl rfl rfl (zau 6 rfl 0 rfl)) (zak 2 rfl (hvQ rfl (vaQ rfl rfl rfl) (zak 1 rfl ?_))))
     refine zdu (R := (fun u_ p_ => ∃ (v' ov : Value) (os : List Oq) (ps : List HP), u_ = .agg #[m4.sv, v', m4.iv, m4.mv] ∧ p_ = bigE [curE g a len cap, bigE ps] ∧ (∀ w, (bigE ps).holds w → RdsW w v' 2 (m4.gs ++ [As.mk ((m3.ss.length : Int) + (j4 : Int)) ov os]).length ((m4.gs ++ [As.mk ((m3.ss.length : Int) + (j4 : Int)) ov os]).flatMap asC) ∧ RdsW w ov 3 os.length (os.flatMap oqC)) ∧ v'.oneCell' = true ∧ ov.oneCell' = true ∧ ExP (m4.ss.length : Int) 9 os)) 9 rfl rfl rfl rfl rfl (fun L w hX hm => zdg g a len cap z (m4.ss.length : Int) (Md.mk m4.sv m4.av m4.iv m4.mv m4.ss m4.gs m4.xs m4.ms) ((m3.ss.length : Int) + (j4 : Int)) v129 _ _ _ _ hm hb (fun w9 h9 => (zam (l := (bigE ps4 :: rowE 38 3 m4.sv m4.ss.length (m4.ss.flatMap sgC) :: rowE 63 3 m4.iv m4.xs.length (m4.xs.flatMap ixC) :: rowE 94 4 m4.mv m4.ms.length (m4.ms.flatMap mmC) :: rowE 3 1 W2.1 W2.2.length (W2.2.map (Value.int .i64)) :: rowE 3 1 v129 ((U3.2 ++ ([(m3.ss.length : Int) + 3])).length) ((U3.2 ++ ([(m3.ss.length : Int) + 3])).map (Value.int .i64)) :: boxE b3 #[m4.sv, m4.av, m4.iv, m4.mv] 35 :: boxE b2 #[.slice none 0 0, .slice none 0 0, .slice none 0 0, .slice none 0 0] 35 :: boxE b1 #[v] 26 :: l)) 5 rfl) w9 (hX w9 h9)) (fun x hx => h4.av x hx) (by have h9 := h4.na; omega) (fun w9 h9 => (hp4 w9 ((hX w9 h9).holds _ (zbs (i := 0) rfl))).1) (by have h9 := h4.ng; show m4.gs.length ≤ 1000; omega) hone9 ⟨ho9.1, ho9.2.1, ho9.2.2.1, ho9.2.2.2⟩) ?_
     intro v132 p133 hR134
     obtain ⟨avhR134, ovhR134, oshR134, aphR134, rfl, rfl, haphR134, oavhR134, oovhR134, hoshR134⟩ := hR134
     refine zci (l' := (bigE ps4 :: rowE 38 3 m4.sv m4.ss.length (m4.ss.flatMap sgC) :: rowE 63 3 m4.iv m4.xs.length (m4.xs.flatMap ixC) :: rowE 94 4 m4.mv m4.ms.length (m4.ms.flatMap mmC) :: rowE 3 1 W2.1 W2.2.length (W2.2.map (Value.int .i64)) :: rowE 3 1 v129 ((U3.2 ++ ([(m3.ss.length : Int) + 3])).length) ((U3.2 ++ ([(m3.ss.length : Int) + 3])).map (Value.int .i64)) :: boxE b3 #[m4.sv, m4.av, m4.iv, m4.mv] 35 :: boxE b2 #[.slice none 0 0, .slice none 0 0, .slice none 0 0, .slice none 0 0] 35 :: boxE b1 #[v] 26 :: bigE [curE g a len cap, bigE aphR134] :: l)) rfl ?_
     refine zbn (cs' := #[m4.sv, avhR134, m4.iv, m4.mv]) (i := 6) (off := 0) (us := [m4.sv, avhR134, m4.iv, m4.mv]) rfl rfl rfl rfl rfl rfl rfl (zad ho9.1 (zad oavhR134 (zad ho9.2.2.1 (zad ho9.2.2.2 zbg)))) rfl rfl rfl (zcx (zdq (reQ 1 rfl (hvQ rfl (vaQ rfl rfl rfl) (enQ 1 rfl ?_)))))
     refine zbd 10 [8, 7, 6, 5, 4, 3, 2, 1, 0, 9] rfl rfl (by decide) ?_
     refine zdl (curE g a len cap :: bigE aphR134 :: bigE ps4 :: rowE 38 3 m4.sv m4.ss.length (m4.ss.flatMap sgC) :: rowE 63 3 m4.iv m4.xs.length (m4.xs.flatMap ixC) :: rowE 94 4 m4.mv m4.ms.length (m4.ms.flatMap mmC) :: rowE 3 1 W2.1 W2.2.length (W2.2.map (Value.int .i64)) :: rowE 3 1 v129 ((U3.2 ++ ([(m3.ss.length : Int) + 3])).length) ((U3.2 ++ ([(m3.ss.length : Int) + 3])).map (Value.int .i64)) :: boxE b3 #[m4.sv, avhR134, m4.iv, m4.mv] 35 :: boxE b2 #[.slice none 0 0, .slice none 0 0, .slice none 0 0, .slice none 0 0] 35 :: boxE b1 #[v] 26 :: l) zcw ?_
     refine zbd 11 [10, 9, 8, 7, 6, 5, 4, 3, 0, 1, 2] rfl rfl (by decide) ?_
     refine zbu 2 rfl ?_
     refine zbd 10 [1, 9, 8, 7, 6, 5, 4, 3, 2, 0] rfl rfl (by decide) ?_
     exact zdt (j4 + 1) (Md.mk m4.sv avhR134 m4.iv m4.mv m4.ss (m4.gs ++ [As.mk ((m3.ss.length : Int) + (j4 : Int)) ovhR134 oshR134]) m4.xs m4.ms) [bigE ps4, bigE aphR134] ⟨by omega, (h4.asg _ hpd9.1 _ hoshR134 (by show (m4.ss.length : Int) ≤ (m4.ss.length : Int); omega) hpd9.2).up (by omega) (by omega) (by omega) (by omega) (by omega) (by omega), fun w hw => ⟨(haphR134 w (zas hw (List.mem_cons_of_mem _ List.mem_cons_self))).1, (hp4 w (zas hw List.mem_cons_self)).2.1.app (haphR134 w (zas hw (List.mem_cons_of_mem _ List.mem_cons_self))).2, (hp4 w (zas hw List.mem_cons_self)).2.2⟩⟩ (by omega) (saQ rfl) (.refl _)
    refine ntQ (zap rfl ?_)
    refine zbv (zep ?_)
    exact zan (hq_meet3 m4 (v129, U3.2 ++ ([(m3.ss.length : Int) + 3])) ps4 ⟨by have h9 := h4; rw [show j4 = 3 by omega] at h9; exact (by simpa using h9.up (show 16 ≤ 16 by omega) (show 8 + 3 ≤ 11 by omega) (show 2 ≤ 2 by omega) (show 1 ≤ 1 by omega) (show 2 ≤ 2 by omega) (show 13 ≤ 13 by omega)), hp4⟩ (saQ rfl) (.refl _))
   refine ntQ (fsQ rfl ?_)
   exact hq_meet3 m3 (U3.1, U3.2) ps3 ⟨h3.up (by omega) (by omega) (by omega) (by omega) (by omega) (by omega), hp3⟩ (saQ rfl) (.refl _)
  intro m5 U5 ps5 hm135
  obtain ⟨h5, hp5⟩ := hm135
  have hns5 := h5.ns
  have hna5 := h5.na
  refine zah (reQ 1 rfl ?_)
  refine zbz (R := (fun u_ p_ => (∃ x_ : Int, u_ = .int .i64 x_ ∧ 0 ≤ x_ ∧ x_ < 2) ∧ p_ = curE g a len cap)) 9 rfl rfl rfl rfl rfl (fun l' w hm => zbl g a len cap z 2 _ _ _ hm hb (by constructor <;> omega)) ?_
  intro v136 p137 hR138
  obtain ⟨⟨xhR138, rfl, xhR1380, xhR1381⟩, rfl⟩ := hR138
  refine zci (l' := (bigE ps5 :: rowE 38 3 m5.sv m5.ss.length (m5.ss.flatMap sgC) :: rowE 63 3 m5.iv m5.xs.length (m5.xs.flatMap ixC) :: rowE 94 4 m5.mv m5.ms.length (m5.ms.flatMap mmC) :: rowE 3 1 W2.1 W2.2.length (W2.2.map (Value.int .i64)) :: rowE 3 1 U5.1 U5.2.length (U5.2.map (Value.int .i64)) :: boxE b3 #[m5.sv, m5.av, m5.iv, m5.mv] 35 :: boxE b2 #[.slice none 0 0, .slice none 0 0, .slice none 0 0, .slice none 0 0] 35 :: boxE b1 #[v] 26 :: curE g a len cap :: l)) rfl ?_
  refine hvQ rfl (vaQ rfl rfl rfl) (zba 1 rfl (zah (zbk 1 rfl (zbh ?_))))
  refine lkQ4 (α := Nat) (β := Md) (γ := Value × List Int) (δ := List HP) [0, 1, 3, 4, 5, 7, 8, 33, 55, 89] rfl (fun k6 m6 U6 ps6 => (bigE ps6 :: rowE 38 3 m6.sv m6.ss.length (m6.ss.flatMap sgC) :: rowE 63 3 m6.iv m6.xs.length (m6.xs.flatMap ixC) :: rowE 94 4 m6.mv m6.ms.length (m6.ms.flatMap mmC) :: rowE 3 1 W2.1 W2.2.length (W2.2.map (Value.int .i64)) :: rowE 3 1 U6.1 U6.2.length (U6.2.map (Value.int .i64)) :: boxE b3 #[m6.sv, m6.av, m6.iv, m6.mv] 35 :: boxE b2 #[.slice none 0 0, .slice none 0 0, .slice none 0 0, .slice none 0 0] 35 :: boxE b1 #[v] 26 :: curE g a len cap :: l)) (fun k6 m6 U6 ps6 => [(6, U6.1), (22, .int .i64 (k6 : Int))]) (fun k6 m6 U6 ps6 => (k6 : Int) ≤ 1 + xhR138 ∧ MI D m6 U6.2 W2.2 (16 + k6) (11 + k6) 2 1 (2 + k6) (13 + k6) ∧ ∀ w, (bigE ps6).holds w → RdP w m6) (fun k6 m6 U6 ps6 => (1 + xhR138).toNat - k6) 0 m5 U5 ps5 ⟨by omega, h5.up (by omega) (by omega) (by omega) (by omega) (by omega) (by omega), hp5⟩ (saQ rfl) (.refl _) ?_
  intro k6 m6 U6 ps6 hi139
  obtain ⟨hk6, h6, hp6⟩ := hi139
  have hns6 := h6.ns
  have hna6 := h6.na
  refine zah (zah (reQ 2 rfl ?_))
  refine zcb rfl rfl rfl rfl rfl rfl (fun h140 => ?_) (fun h140 => ?_)
  ·
   refine ntQ (zaj rfl (zdi (sbQ (srQ (hvQ rfl (fdQ 0 rfl rfl rfl) (hvQ rfl (zac rfl rfl rfl (zaa 6 rfl rfl)) (hvQ rfl (lnQ rfl rfl rfl (zam 1 rfl)) (zak 1 rfl ?_))))))))
   refine ntQ (zah ?_)
   refine zfc 10 [8, 7, 6, 5, 4, 3, 2, 1, 0, 9] rfl rfl (by decide) ?_
   refine zei (l := (bigE ps6 :: rowE 38 3 m6.sv m6.ss.length (m6.ss.flatMap sgC) :: rowE 63 3 m6.iv m6.xs.length (m6.xs.flatMap ixC) :: rowE 94 4 m6.mv m6.ms.length (m6.ms.flatMap mmC) :: rowE 3 1 W2.1 W2.2.length (W2.2.map (Value.int .i64)) :: rowE 3 1 U6.1 U6.2.length (U6.2.map (Value.int .i64)) :: boxE b3 #[m6.sv, m6.av, m6.iv, m6.mv] 35 :: boxE b2 #[.slice none 0 0, .slice none 0 0, .slice none 0 0, .slice none 0 0] 35 :: boxE b1 #[v] 26 :: l)) rfl 10 [0, 1, 2, 3, 4, 5, 6, 7, 8, 9] (List.take 10 _) (List.drop 10 _) [[], [0], [], [], [2, 3], [], [], [4, 5, 6], [4, 7], [4, 7, 8]] [239, 240, 241, 242, 243, 244, 245, 246, 247, 248] (fun i_ vs_ v_ p_ => match i_ with | 0 => v_ = .pointer (some ⟨b3, 0 + 0, none⟩) ∧ p_ = [] | 1 => v_ = m6.sv ∧ p_ = [] | 2 => v_ = .pointer (some ⟨g, 0, none⟩) ∧ p_ = [] | 3 => IsRow 3 1 2 ([1, 2].map (Value.int .i64)) v_ p_ | 4 => (∃ pm_, p_ = [pm_] ∧ (fun u_ p_ => (∃ x : Int, u_ = .int .i64 x ∧ x ∈ ([1, 2] : List Int)) ∧ p_ = curE g a len cap) v_ pm_) | 5 => v_ = .pointer (some ⟨g, 0, none⟩) ∧ p_ = [] | 6 => IsRow 3 1 3 ([1, 2, 0].map (Value.int .i64)) v_ p_ | 7 => (∃ pm_, p_ = [pm_] ∧ (fun u_ p_ => (∃ x : Int, u_ = .int .i64 x ∧ x ∈ ([1, 2, 0] : List Int)) ∧ p_ = curE g a len cap) v_ pm_) | 8 => v_ = .agg #[.int .i64 (intOf_o (List.getD vs_ 0 undef)), .int .i64 (intOf_o (List.getD vs_ 1 undef)), .int .i64 0] ∧ p_ = [] | 9 => IsRow 38 3 1 ([(intOf_o (List.getD vs_ 0 undef)), (intOf_o (List.getD vs_ 1 undef)), 0].map (Value.int .i64)) v_ p_ | _ => True) [[], [0], [], [], [2, 3], [], [], [5, 6], [7], [7, 8]] [none, none, none, none, some 13, none, none, some 4, none, none] [curE g a len cap] [0, 1, 2, 3, 5, 6, 7, 8, 9] 13 (List.take_append_drop 10 _).symm (by kernel_rfl) (by kernel_rfl) (by kernel_rfl) rfl rfl ?_ ?_
   ·
    refine ⟨?_, ?_, ?_, ?_, ?_, ?_, ?_, ?_, ?_, ?_, trivial⟩
    ·
     intro vf pf hmu hR
     refine dqQ [] [] rfl (zbr (zao [5] rfl) ?_)
     exact zbq (fdQ 0 rfl rfl rfl)
    ·
     intro vf pf hmu hR
     have e0 := hR 0 (by decide)
     refine dqQ [0] [0] rfl (zaz (sk 239 (congrArg some e0.1) (zaf _)) (List.sublist_append_right _ _) ?_)
     exact zbq (zac rfl rfl rfl (zaa 6 rfl rfl))
    ·
     intro vf pf hmu hR
     refine dqQ [] [] rfl (zbr (zao [0] rfl) ?_)
     exact zbq (zay rfl)
    ·
     intro vf pf hmu hR
     refine dqQ [] [] rfl (zaz (zaf _) (List.sublist_append_right _ _) ?_)
     exact zai (z := .int .i64 0) (s := 1) (cs := ([1, 2].map (Value.int .i64))) rfl Try.underlying48 rfl (by decide) rfl (by kernel_rfl) rfl
    ·
     intro vf pf hmu hR
     have e2 := hR 2 (by decide)
     have e3 : IsRow 3 1 2 ([1, 2].map (Value.int .i64)) (vf 3) (pf 3) := hR 3 (by decide)
     obtain ⟨g141, vE3, pE3⟩ := e3
     refine Or.inl ⟨rfl, ?_⟩
     show RunM _ _ _ (pf 13) (([2, 3] : List Nat).flatMap pf ++ _) (envOf _ vf [2, 3] ++ _) _ _
     rw [hmu]
     exact zcp (sk 241 (congrArg some e2.1) (sk 242 (congrArg some vE3) (zaf _))) (by simp only [pE3, vE3, e2.2, fS] <;> rfl) (zcy (R := (fun u_ p_ => (∃ x : Int, u_ = .int .i64 x ∧ x ∈ ([1, 2] : List Int)) ∧ p_ = curE g a len cap)) rfl rfl (fun L w hX hm => zdf g a len cap z (.slice (some ⟨g141, 0, none⟩) 2 2) [1, 2] _ _ _ hm hb (fun w hm => (zam (l := (rowE 3 1 (.slice (some ⟨g141, 0, none⟩) 2 2) 2 ([1, 2].map (Value.int .i64)) :: bigE ps6 :: rowE 38 3 m6.sv m6.ss.length (m6.ss.flatMap sgC) :: rowE 63 3 m6.iv m6.xs.length (m6.xs.flatMap ixC) :: rowE 94 4 m6.mv m6.ms.length (m6.ms.flatMap mmC) :: rowE 3 1 W2.1 W2.2.length (W2.2.map (Value.int .i64)) :: rowE 3 1 U6.1 U6.2.length (U6.2.map (Value.int .i64)) :: boxE b3 #[m6.sv, m6.av, m6.iv, m6.mv] 35 :: boxE b2 #[.slice none 0 0, .slice none 0 0, .slice none 0 0, .slice none 0 0] 35 :: boxE b1 #[v] 26 :: l)) 0 rfl) w (hX w hm)) (by decide)))
    ·
     intro vf pf hmu hR
     refine dqQ [] [] rfl (zbr (zao [0] rfl) ?_)
     exact zbq (zay rfl)
    ·
     intro vf pf hmu hR
     refine dqQ [] [] rfl (zaz (zaf _) (List.sublist_append_right _ _) ?_)
     exact zai (z := .int .i64 0) (s := 1) (cs := ([1, 2, 0].map (Value.int .i64))) rfl Try.underlying48 rfl (by decide) rfl (by kernel_rfl) rfl
    ·
     intro vf pf hmu hR
     have e4 : (∃ pm_, (pf 4) = [pm_] ∧ (fun u_ p_ => (∃ x : Int, u_ = .int .i64 x ∧ x ∈ ([1, 2] : List Int)) ∧ p_ = curE g a len cap) (vf 4) pm_) := hR 4 (by decide)
     obtain ⟨p143, pE4, hR144⟩ := e4
     obtain ⟨v142, vE4⟩ : ∃ x, vf 4 = x := ⟨_, rfl⟩
     rw [vE4] at hR144
     obtain ⟨⟨xhR144, rfl, xhR144m⟩, rfl⟩ := hR144
     have e5 := hR 5 (by decide)
     have e6 : IsRow 3 1 3 ([1, 2, 0].map (Value.int .i64)) (vf 6) (pf 6) := hR 6 (by decide)
     obtain ⟨g145, vE6, pE6⟩ := e6
     refine Or.inl ⟨rfl, ?_⟩
     show RunM _ _ _ (pf 4) (([5, 6] : List Nat).flatMap pf ++ _) (envOf _ vf [4, 5, 6] ++ _) _ _
     rw [pE4]
     exact zcp (sk 244 (congrArg some e5.1) (sk 245 (congrArg some vE6) (zaf _))) (by simp only [pE6, vE6, e5.2, fS] <;> rfl) (zcy (R := (fun u_ p_ => (∃ x : Int, u_ = .int .i64 x ∧ x ∈ ([1, 2, 0] : List Int)) ∧ p_ = curE g a len cap)) rfl rfl (fun L w hX hm => zdf g a len cap z (.slice (some ⟨g145, 0, none⟩) 3 3) [1, 2, 0] _ _ _ hm hb (fun w hm => (zam (l := (rowE 3 1 (.slice (some ⟨g145, 0, none⟩) 3 3) 3 ([1, 2, 0].map (Value.int .i64)) :: bigE ps6 :: rowE 38 3 m6.sv m6.ss.length (m6.ss.flatMap sgC) :: rowE 63 3 m6.iv m6.xs.length (m6.xs.flatMap ixC) :: rowE 94 4 m6.mv m6.ms.length (m6.ms.flatMap mmC) :: rowE 3 1 W2.1 W2.2.length (W2.2.map (Value.int .i64)) :: rowE 3 1 U6.1 U6.2.length (U6.2.map (Value.int .i64)) :: boxE b3 #[m6.sv, m6.av, m6.iv, m6.mv] 35 :: boxE b2 #[.slice none 0 0, .slice none 0 0, .slice none 0 0, .slice none 0 0] 35 :: boxE b1 #[v] 26 :: l)) 0 rfl) w (hX w hm)) (by decide)))
    ·
     intro vf pf hmu hR
     have e4 : (∃ pm_, (pf 4) = [pm_] ∧ (fun u_ p_ => (∃ x : Int, u_ = .int .i64 x ∧ x ∈ ([1, 2] : List Int)) ∧ p_ = curE g a len cap) (vf 4) pm_) := hR 4 (by decide)
     obtain ⟨p143, pE4, hR144⟩ := e4
     obtain ⟨v142, vE4⟩ : ∃ x, vf 4 = x := ⟨_, rfl⟩
     rw [vE4] at hR144
     obtain ⟨⟨xhR144, rfl, xhR144m⟩, rfl⟩ := hR144
     have e7 : (∃ pm_, (pf 7) = [pm_] ∧ (fun u_ p_ => (∃ x : Int, u_ = .int .i64 x ∧ x ∈ ([1, 2, 0] : List Int)) ∧ p_ = curE g a len cap) (vf 7) pm_) := hR 7 (by decide)
     obtain ⟨p147, pE7, hR148⟩ := e7
     obtain ⟨v146, vE7⟩ : ∃ x, vf 7 = x := ⟨_, rfl⟩
     rw [vE7] at hR148
     obtain ⟨⟨xhR148, rfl, xhR148m⟩, rfl⟩ := hR148
     have xhR148w := lit4 xhR148m (by decide)
     refine dqQ [7] [4, 7] rfl (zcd (sk 243 (congrArg some vE4) (sk 246 (congrArg some vE7) (zaf _))) (by simp only [pE7, vE7, fS] <;> rfl) ?_)
     exact zcc (zbq (zax (cs := #[.int .i64 xhR144, .int .i64 xhR148, .int .i64 0]) rfl rfl rfl)) (fun _ _ h => ⟨h.1.trans (by show _ = (.agg #[.int .i64 (intOf_o (vf 4)), .int .i64 (intOf_o (vf 7)), .int .i64 0] : Value); first | (rw [vE4, vE7]; done) | (rw [vE4, vE7]; rfl)), h.2⟩)
    intro vf pf hmu hR
    have e4 : (∃ pm_, (pf 4) = [pm_] ∧ (fun u_ p_ => (∃ x : Int, u_ = .int .i64 x ∧ x ∈ ([1, 2] : List Int)) ∧ p_ = curE g a len cap) (vf 4) pm_) := hR 4 (by decide)
    obtain ⟨p143, pE4, hR144⟩ := e4
    obtain ⟨v142, vE4⟩ : ∃ x, vf 4 = x := ⟨_, rfl⟩
    rw [vE4] at hR144
    obtain ⟨⟨xhR144, rfl, xhR144m⟩, rfl⟩ := hR144
    have e7 : (∃ pm_, (pf 7) = [pm_] ∧ (fun u_ p_ => (∃ x : Int, u_ = .int .i64 x ∧ x ∈ ([1, 2, 0] : List Int)) ∧ p_ = curE g a len cap) (vf 7) pm_) := hR 7 (by decide)
    obtain ⟨p147, pE7, hR148⟩ := e7
    obtain ⟨v146, vE7⟩ : ∃ x, vf 7 = x := ⟨_, rfl⟩
    rw [vE7] at hR148
    obtain ⟨⟨xhR148, rfl, xhR148m⟩, rfl⟩ := hR148
    have xhR148w := lit4 xhR148m (by decide)
    have e8 : (vf 8) = .agg #[.int .i64 (intOf_o (vf 4)), .int .i64 (intOf_o (vf 7)), .int .i64 0] ∧ (pf 8) = [] := hR 8 (by decide)
    rw [vE4, vE7] at e8
    refine dqQ [7, 8] [4, 7, 8] rfl (zcd (sk 247 (congrArg some e8.1) (zaf _)) (by simp only [pE7, vE7, e8.2, fS] <;> rfl) ?_)
    exact zcc (zai (z := .agg #[.int .i64 0, .int .i64 0, .int .i64 0]) (s := 3) (cs := ([xhR144, xhR148, 0].map (Value.int .i64))) rfl Try.underlying30 rfl (by decide) rfl (by kernel_rfl) rfl) (fun v_ p_ h => by show IsRow 38 3 1 ([(intOf_o (vf 4)), (intOf_o (vf 7)), 0].map (Value.int .i64)) v_ p_; rw [vE4, vE7]; exact h)
   intro vf pf hmu hR
   have e1 := hR 1 (by decide)
   have e3 : IsRow 3 1 2 ([1, 2].map (Value.int .i64)) (vf 3) (pf 3) := hR 3 (by decide)
   obtain ⟨g141, vE3, pE3⟩ := e3
   have e4 : (∃ pm_, (pf 4) = [pm_] ∧ (fun u_ p_ => (∃ x : Int, u_ = .int .i64 x ∧ x ∈ ([1, 2] : List Int)) ∧ p_ = curE g a len cap) (vf 4) pm_) := hR 4 (by decide)
   obtain ⟨p143, pE4, hR144⟩ := e4
   obtain ⟨v142, vE4⟩ : ∃ x, vf 4 = x := ⟨_, rfl⟩
   rw [vE4] at hR144
   obtain ⟨⟨xhR144, rfl, xhR144m⟩, rfl⟩ := hR144
   have e6 : IsRow 3 1 3 ([1, 2, 0].map (Value.int .i64)) (vf 6) (pf 6) := hR 6 (by decide)
   obtain ⟨g145, vE6, pE6⟩ := e6
   have e7 : (∃ pm_, (pf 7) = [pm_] ∧ (fun u_ p_ => (∃ x : Int, u_ = .int .i64 x ∧ x ∈ ([1, 2, 0] : List Int)) ∧ p_ = curE g a len cap) (vf 7) pm_) := hR 7 (by decide)
   obtain ⟨p147, pE7, hR148⟩ := e7
   obtain ⟨v146, vE7⟩ : ∃ x, vf 7 = x := ⟨_, rfl⟩
   rw [vE7] at hR148
   obtain ⟨⟨xhR148, rfl, xhR148m⟩, rfl⟩ := hR148
   have xhR148w := lit4 xhR148m (by decide)
   have e9 : IsRow 38 3 1 ([(intOf_o (vf 4)), (intOf_o (vf 7)), 0].map (Value.int .i64)) (vf 9) (pf 9) := hR 9 (by decide)
   rw [vE4, vE7] at e9
   obtain ⟨g149, vE9, pE9⟩ := e9
   have q0 := hR 0 (by decide)
   have q1 := hR 1 (by decide)
   have q2 := hR 2 (by decide)
   have q5 := hR 5 (by decide)
   have q8 := hR 8 (by decide)
   refine zcr (zcg [233, 89, 55, 33, 23, 22, 8, 7, 6, 5, 4, 3, 1, 0] _ (sk 240 (congrArg some e1.1) (sk 248 (congrArg some vE9) (zaf _))) rfl) (by simp only [pE3, vE3, pE6, vE6, pE7, vE7, pE9, vE9, q0.2, q1.2, q2.2, q5.2, q8.2, fS] <;> rfl) ?_
   simp only [List.drop_succ_cons, List.drop_zero]
   refine zct (i := 5) (z := .agg #[.int .i64 0, .int .i64 0, .int .i64 0]) (bytes := 24) rfl rfl rfl rfl Try.underlying30 (by kernel_rfl) rfl rfl rfl rfl (zam 3 rfl) (zcn _) (by first | omega | (simp only [List.length_append, List.length_cons, List.length_nil]; omega)) (zcj m6.ss [(Sg.mk xhR144 xhR148 0)]) (zdc sgC m6.ss (Sg.mk xhR144 xhR148 0) _ rfl) (fun _ => rfl) ?_
   intro v150
   refine hvQ rfl (fdQ 0 rfl rfl rfl) (zdb (i := 5) rfl (fun ho151 => ?_))
   refine zec (i := 10) (cs' := #[v150, m6.av, m6.iv, m6.mv]) rfl rfl rfl rfl rfl rfl ho151 rfl rfl rfl rfl (ntQ ?_)
   refine hc_meet1 (α := Int) (fun kx => (rowE 3 1 (.slice (some ⟨g141, 0, none⟩) 2 2) 2 ([1, 2].map (Value.int .i64)) :: rowE 3 1 (.slice (some ⟨g145, 0, none⟩) 3 3) 3 ([1, 2, 0].map (Value.int .i64)) :: curE g a len cap :: rowE 38 3 (.slice (some ⟨g149, 0, none⟩) 1 1) 1 ([xhR144, xhR148, 0].map (Value.int .i64)) :: bigE ps6 :: rowE 38 3 v150 ((m6.ss ++ [Sg.mk kx xhR148 0]).length) ((m6.ss ++ [Sg.mk kx xhR148 0]).flatMap sgC) :: rowE 63 3 m6.iv m6.xs.length (m6.xs.flatMap ixC) :: rowE 94 4 m6.mv m6.ms.length (m6.ms.flatMap mmC) :: rowE 3 1 W2.1 W2.2.length (W2.2.map (Value.int .i64)) :: rowE 3 1 U6.1 U6.2.length (U6.2.map (Value.int .i64)) :: boxE b3 #[v150, m6.av, m6.iv, m6.mv] 35 :: boxE b2 #[.slice none 0 0, .slice none 0 0, .slice none 0 0, .slice none 0 0] 35 :: boxE b1 #[v] 26 :: l)) (fun kx => [(0, .pointer (some ⟨g, 0, none⟩)), (1, .agg #[v]), (3, .pointer (some ⟨b1, 0, none⟩)), (4, .pointer (some ⟨b2, 0, none⟩)), (5, .pointer (some ⟨b3, 0, none⟩)), (6, U6.1), (7, W2.1), (8, .int .i64 (1 + xhR138)), (22, .int .i64 (k6 : Int)), (23, .int .i64 (m6.ss.length : Int)), (33, .bool false), (55, .bool false), (89, .bool false), (233, .bool true)]) (fun kx => kx = 1 ∨ kx = 2) ?_ ?_
   ·
    refine zah (reQ 1 rfl ?_)
    refine zby rfl rfl rfl rfl rfl rfl (fun h152 => ?_) (fun h152 => ?_)
    ·
     refine ntQ (zaj rfl (zbb ?_))
     have hln9 : (m6.ss ++ [(Sg.mk xhR144 xhR148 0)]).length = m6.ss.length + 1 := by rw [List.length_append]; rfl
     refine hvQ rfl (fdQ 0 rfl rfl rfl) (hvQ rfl (zac rfl rfl rfl (zaa 10 rfl rfl)) (zak 1 rfl (hvQ rfl (riQ 3 rfl rfl rfl rfl (zam 5 rfl)) (hvQ rfl (zbe (k0 := 0) rfl rfl rfl (zam 5 rfl) (by omega)) ?_))))
     refine hl_stE (i := 5) (n' := ((m6.ss ++ [(Sg.mk xhR144 xhR148 0)]).set (((m6.ss.length : Int)).toNat) { (m6.ss ++ [(Sg.mk xhR144 xhR148 0)]).getD (((m6.ss.length : Int)).toNat) sg0 with k := 1 }).length) (xs' := (((m6.ss ++ [(Sg.mk xhR144 xhR148 0)]).set (((m6.ss.length : Int)).toNat) { (m6.ss ++ [(Sg.mk xhR144 xhR148 0)]).getD (((m6.ss.length : Int)).toNat) sg0 with k := 1 }).flatMap sgC)) rfl rfl rfl rfl rfl rfl rfl rfl (by first | omega | (simp only [List.length_set]; omega)) List.length_set.symm (flat_set sgC 3 (fun _ => rfl) _ sg0 _ (by first | omega | (simp only [List.length_set]; omega)) (by decide) rfl) rfl (zcx ?_)
     refine zdl (rowE 3 1 (.slice (some ⟨g141, 0, none⟩) 2 2) 2 ([1, 2].map (Value.int .i64)) :: rowE 3 1 (.slice (some ⟨g145, 0, none⟩) 3 3) 3 ([1, 2, 0].map (Value.int .i64)) :: curE g a len cap :: rowE 38 3 (.slice (some ⟨g149, 0, none⟩) 1 1) 1 ([xhR144, xhR148, 0].map (Value.int .i64)) :: bigE ps6 :: rowE 38 3 v150 ((m6.ss ++ [Sg.mk 1 xhR148 0]).length) ((m6.ss ++ [Sg.mk 1 xhR148 0]).flatMap sgC) :: rowE 63 3 m6.iv m6.xs.length (m6.xs.flatMap ixC) :: rowE 94 4 m6.mv m6.ms.length (m6.ms.flatMap mmC) :: rowE 3 1 W2.1 W2.2.length (W2.2.map (Value.int .i64)) :: rowE 3 1 U6.1 U6.2.length (U6.2.map (Value.int .i64)) :: boxE b3 #[v150, m6.av, m6.iv, m6.mv] 35 :: boxE b2 #[.slice none 0 0, .slice none 0 0, .slice none 0 0, .slice none 0 0] 35 :: boxE b1 #[v] 26 :: l) (fun w hm => by rw [show m6.ss ++ [Sg.mk 1 xhR148 0] = (m6.ss ++ [(Sg.mk xhR144 xhR148 0)]).set (((m6.ss.length : Int)).toNat) { (m6.ss ++ [(Sg.mk xhR144 xhR148 0)]).getD (((m6.ss.length : Int)).toNat) sg0 with k := 1 } from (setK_last (by omega)).symm]; exact hm) ?_
     exact zet 1 (.inl rfl) (saQ rfl) (.refl _)
    refine ntQ (fsQ rfl ?_)
    exact zet xhR144 (lit12 xhR144m) (saQ rfl) (.refl _)
   intro kx hm153
   have hkx9 := hm153
   refine srQ ?_
   refine zfb (p := (∀ g9 ∈ m6.gs, g9.ov.oneCell' = true) ∧ v150.oneCell' = true ∧ m6.av.oneCell' = true ∧ m6.iv.oneCell' = true ∧ m6.mv.oneCell' = true) (fun w hm => ⟨fun g9 hg9 => ((hp6 w (hm.holds _ (zbs (i := 4) rfl))).2.1 g9 hg9).one, (zam 5 rfl w hm).one, (hp6 w (hm.holds _ (zbs (i := 4) rfl))).1.one, (zam 6 rfl w hm).one, (zam 7 rfl w hm).one⟩) (fun ⟨hone9, ho9⟩ => ?_)
   refine zak 1 rfl (hvQ rfl (zaw (cs := [v150, m6.av, m6.iv, m6.mv]) rfl rfl rfl rfl rfl (zau 10 rfl 0 rfl)) (zak 2 rfl ?_))
   refine zdu (R := (fun u_ p_ => ∃ (v' ov : Value) (os : List Oq) (ps : List HP), u_ = .agg #[v150, v', m6.iv, m6.mv] ∧ p_ = bigE [curE g a len cap, bigE ps] ∧ (∀ w, (bigE ps).holds w → RdsW w v' 2 (m6.gs ++ [As.mk (m6.ss.length : Int) ov os]).length ((m6.gs ++ [As.mk (m6.ss.length : Int) ov os]).flatMap asC) ∧ RdsW w ov 3 os.length (os.flatMap oqC)) ∧ v'.oneCell' = true ∧ ov.oneCell' = true ∧ ExP (m6.ss.length : Int) 9 os)) 2 rfl rfl rfl rfl rfl (fun L w hX hm => zdg g a len cap z (m6.ss.length : Int) (Md.mk v150 m6.av m6.iv m6.mv (m6.ss ++ [Sg.mk kx xhR148 0]) m6.gs m6.xs m6.ms) (m6.ss.length : Int) U6.1 _ _ _ _ hm hb (fun w9 h9 => (zam (l := (rowE 3 1 (.slice (some ⟨g141, 0, none⟩) 2 2) 2 ([1, 2].map (Value.int .i64)) :: rowE 3 1 (.slice (some ⟨g145, 0, none⟩) 3 3) 3 ([1, 2, 0].map (Value.int .i64)) :: rowE 38 3 (.slice (some ⟨g149, 0, none⟩) 1 1) 1 ([xhR144, xhR148, 0].map (Value.int .i64)) :: bigE ps6 :: rowE 38 3 v150 ((m6.ss ++ [Sg.mk kx xhR148 0]).length) ((m6.ss ++ [Sg.mk kx xhR148 0]).flatMap sgC) :: rowE 63 3 m6.iv m6.xs.length (m6.xs.flatMap ixC) :: rowE 94 4 m6.mv m6.ms.length (m6.ms.flatMap mmC) :: rowE 3 1 W2.1 W2.2.length (W2.2.map (Value.int .i64)) :: rowE 3 1 U6.1 U6.2.length (U6.2.map (Value.int .i64)) :: boxE b3 #[v150, m6.av, m6.iv, m6.mv] 35 :: boxE b2 #[.slice none 0 0, .slice none 0 0, .slice none 0 0, .slice none 0 0] 35 :: boxE b1 #[v] 26 :: l)) 8 rfl) w9 (hX w9 h9)) (fun x hx => h6.av x hx) (by have h9 := h6.na; omega) (fun w9 h9 => (hp6 w9 ((hX w9 h9).holds _ (zbs (i := 3) rfl))).1) (by have h9 := h6.ng; show m6.gs.length ≤ 1000; omega) hone9 ⟨ho9.1, ho9.2.1, ho9.2.2.1, ho9.2.2.2⟩) ?_
   intro v154 p155 hR156
   obtain ⟨avhR156, ovhR156, oshR156, aphR156, rfl, rfl, haphR156, oavhR156, oovhR156, hoshR156⟩ := hR156
   refine zci (l' := (rowE 3 1 (.slice (some ⟨g141, 0, none⟩) 2 2) 2 ([1, 2].map (Value.int .i64)) :: rowE 3 1 (.slice (some ⟨g145, 0, none⟩) 3 3) 3 ([1, 2, 0].map (Value.int .i64)) :: bigE [curE g a len cap, bigE aphR156] :: rowE 38 3 (.slice (some ⟨g149, 0, none⟩) 1 1) 1 ([xhR144, xhR148, 0].map (Value.int .i64)) :: bigE ps6 :: rowE 38 3 v150 ((m6.ss ++ [Sg.mk kx xhR148 0]).length) ((m6.ss ++ [Sg.mk kx xhR148 0]).flatMap sgC) :: rowE 63 3 m6.iv m6.xs.length (m6.xs.flatMap ixC) :: rowE 94 4 m6.mv m6.ms.length (m6.ms.flatMap mmC) :: rowE 3 1 W2.1 W2.2.length (W2.2.map (Value.int .i64)) :: rowE 3 1 U6.1 U6.2.length (U6.2.map (Value.int .i64)) :: boxE b3 #[v150, m6.av, m6.iv, m6.mv] 35 :: boxE b2 #[.slice none 0 0, .slice none 0 0, .slice none 0 0, .slice none 0 0] 35 :: boxE b1 #[v] 26 :: l)) rfl ?_
   refine zbn (cs' := #[v150, avhR156, m6.iv, m6.mv]) (i := 10) (off := 0) (us := [v150, avhR156, m6.iv, m6.mv]) rfl rfl rfl rfl rfl rfl rfl (zad ho151 (zad oavhR156 (zad ho9.2.2.1 (zad ho9.2.2.2 zbg)))) rfl rfl rfl (ntQ (reQ 2 rfl ?_))
   refine zeb rfl (zai (z := .int .i64 0) (s := 1) (cs := ([(m6.ss.length : Int)].map (Value.int .i64))) rfl Try.underlying48 rfl (by decide) rfl (by kernel_rfl) rfl) ?_
   intro g157
   refine zct (i := 10) (z := .int .i64 0) (bytes := 8) rfl rfl rfl rfl Try.underlying48 (by kernel_rfl) rfl rfl rfl rfl (zam 0 rfl) (zcn _) (by first | omega | (simp; done) | (simp; omega)) (zcj U6.2 ([(m6.ss.length : Int)])) (zdh U6.2 ([(m6.ss.length : Int)])) (fun _ => rfl) ?_
   intro v158
   refine enQ 1 rfl (zdq (reQ 1 rfl (hvQ rfl (vaQ rfl rfl rfl) (enQ 1 rfl ?_))))
   refine zbd 14 [13, 12, 11, 10, 9, 8, 7, 6, 5, 4, 2, 1, 0, 3] rfl rfl (by decide) ?_
   refine zdl (curE g a len cap :: bigE aphR156 :: rowE 3 1 (.slice (some ⟨g157, 0, none⟩) 1 1) 1 ([(m6.ss.length : Int)].map (Value.int .i64)) :: rowE 3 1 (.slice (some ⟨g141, 0, none⟩) 2 2) 2 ([1, 2].map (Value.int .i64)) :: rowE 3 1 (.slice (some ⟨g145, 0, none⟩) 3 3) 3 ([1, 2, 0].map (Value.int .i64)) :: rowE 38 3 (.slice (some ⟨g149, 0, none⟩) 1 1) 1 ([xhR144, xhR148, 0].map (Value.int .i64)) :: bigE ps6 :: rowE 38 3 v150 ((m6.ss ++ [Sg.mk kx xhR148 0]).length) ((m6.ss ++ [Sg.mk kx xhR148 0]).flatMap sgC) :: rowE 63 3 m6.iv m6.xs.length (m6.xs.flatMap ixC) :: rowE 94 4 m6.mv m6.ms.length (m6.ms.flatMap mmC) :: rowE 3 1 W2.1 W2.2.length (W2.2.map (Value.int .i64)) :: rowE 3 1 v158 ((U6.2 ++ ([(m6.ss.length : Int)])).length) ((U6.2 ++ ([(m6.ss.length : Int)])).map (Value.int .i64)) :: boxE b3 #[v150, avhR156, m6.iv, m6.mv] 35 :: boxE b2 #[.slice none 0 0, .slice none 0 0, .slice none 0 0, .slice none 0 0] 35 :: boxE b1 #[v] 26 :: l) zcw ?_
   refine zbd 15 [14, 13, 12, 11, 10, 9, 8, 7, 5, 4, 3, 2, 0, 1, 6] rfl rfl (by decide) ?_
   refine zbu 2 rfl ?_
   refine zbd 14 [1, 13, 12, 11, 10, 9, 8, 7, 6, 0] rfl rfl (by decide) ?_
   exact zda (k6 + 1) (Md.mk v150 avhR156 m6.iv m6.mv (m6.ss ++ [Sg.mk kx xhR148 0]) (m6.gs ++ [As.mk (m6.ss.length : Int) ovhR156 oshR156]) m6.xs m6.ms) (v158, U6.2 ++ ([(m6.ss.length : Int)])) [bigE ps6, bigE aphR156] ⟨by omega, (((h6.out _ hkx9 (by assumption) mem_app2).asg _ (List.mem_append_right _ List.mem_cons_self) _ hoshR156 (by show (m6.ss.length : Int) ≤ ((_ : List Sg).length : Int); rw [List.length_append]; omega) (mem_less h6.plt)).avl (last_in (m := m6) .nilFunc _) (e := 1) (by simp)).up (by omega) (by omega) (by omega) (by omega) (by omega) (by omega), fun w hw => ⟨(haphR156 w (zas hw (List.mem_cons_of_mem _ List.mem_cons_self))).1, (hp6 w (zas hw List.mem_cons_self)).2.1.app (haphR156 w (zas hw (List.mem_cons_of_mem _ List.mem_cons_self))).2, (hp6 w (zas hw List.mem_cons_self)).2.2⟩⟩ (by omega) (saQ rfl) (.refl _)
  refine ntQ (zap rfl ?_)
  refine zbv (zep ?_)
  refine zan (zbf (zah (zbk 1 rfl (zbh ?_))))
  refine lkQ3 (α := Nat) (β := Md) (γ := List HP) [0, 1, 3, 4, 5, 6, 7, 33, 55, 89, 233] rfl (fun k7 m7 ps7 => (bigE ps7 :: rowE 38 3 m7.sv m7.ss.length (m7.ss.flatMap sgC) :: rowE 63 3 m7.iv m7.xs.length (m7.xs.flatMap ixC) :: rowE 94 4 m7.mv m7.ms.length (m7.ms.flatMap mmC) :: rowE 3 1 W2.1 W2.2.length (W2.2.map (Value.int .i64)) :: rowE 3 1 U6.1 U6.2.length (U6.2.map (Value.int .i64)) :: boxE b3 #[m7.sv, m7.av, m7.iv, m7.mv] 35 :: boxE b2 #[.slice none 0 0, .slice none 0 0, .slice none 0 0, .slice none 0 0] 35 :: boxE b1 #[v] 26 :: curE g a len cap :: l)) (fun k7 m7 ps7 => [(24, .int .i64 (k7 : Int))]) (fun k7 m7 ps7 => k7 ≤ W2.2.length ∧ MI D m7 U6.2 (W2.2.drop k7) 18 (13 + k7) 2 1 4 15 ∧ ∀ w, (bigE ps7).holds w → RdP w m7) (fun k7 m7 ps7 => W2.2.length - k7) 0 m6 ps6 ⟨Nat.zero_le _, h6.up (by omega) (by omega) (by omega) (by omega) (by omega) (by omega), hp6⟩ (saQ rfl) (.refl _) ?_
  intro k7 m7 ps7 hi159
  obtain ⟨hk7, h7, hp7⟩ := hi159
  refine zah (zah (reQ 2 rfl (hvQ rfl (lnQ rfl rfl rfl (zam 4 rfl)) ?_)))
  refine zcb rfl rfl rfl rfl rfl rfl (fun h160 => ?_) (fun h160 => ?_)
  ·
   refine ntQ (zaj rfl (zdi (sbQ ?_)))
   refine hc_know (p := (∀ g9 ∈ m7.gs, g9.ov.oneCell' = true) ∧ m7.sv.oneCell' = true ∧ m7.av.oneCell' = true ∧ m7.iv.oneCell' = true ∧ m7.mv.oneCell' = true) (fun w hm => ⟨fun g9 hg9 => ((hp7 w (hm.holds _ (zbs (i := 0) rfl))).2.1 g9 hg9).one, (zam 1 rfl w hm).one, (hp7 w (hm.holds _ (zbs (i := 0) rfl))).1.one, (zam 2 rfl w hm).one, (zam 3 rfl w hm).one⟩) (fun ⟨hone9, ho9⟩ => ?_)
   refine zfc 10 [8, 7, 6, 5, 4, 3, 2, 1, 0, 9] rfl rfl (by decide) ?_
   refine zei (l := (bigE ps7 :: rowE 38 3 m7.sv m7.ss.length (m7.ss.flatMap sgC) :: rowE 63 3 m7.iv m7.xs.length (m7.xs.flatMap ixC) :: rowE 94 4 m7.mv m7.ms.length (m7.ms.flatMap mmC) :: rowE 3 1 W2.1 W2.2.length (W2.2.map (Value.int .i64)) :: rowE 3 1 U6.1 U6.2.length (U6.2.map (Value.int .i64)) :: boxE b3 #[m7.sv, m7.av, m7.iv, m7.mv] 35 :: boxE b2 #[.slice none 0 0, .slice none 0 0, .slice none 0 0, .slice none 0 0] 35 :: boxE b1 #[v] 26 :: l)) rfl 8 [0, 1, 2, 3, 4, 5, 6, 7] (List.take 8 _) (List.drop 8 _) [[], [], [], [], [2, 3], [4], [], [0, 1, 5, 6]] [273, 274, 275, 276, 277, 278, 279, 280] (fun i_ vs_ v_ p_ => match i_ with | 0 => v_ = .pointer (some ⟨g, 0, none⟩) ∧ p_ = [] | 1 => v_ = .agg #[m7.sv, m7.av, m7.iv, m7.mv] ∧ p_ = [] | 2 => v_ = W2.1 ∧ p_ = [] | 3 => v_ = .int .i64 (k7 : Int) ∧ p_ = [] | 4 => v_ = elP W2.1 (((k7 : Int)).toNat * 1) ∧ p_ = [] | 5 => v_ = .int .i64 (W2.2.getD k7 0) ∧ p_ = [] | 6 => v_ = U6.1 ∧ p_ = [] | 7 => (∃ pm_, p_ = [pm_] ∧ (fun u_ p_ => ∃ (v' ov : Value) (os : List Oq) (ps : List HP), u_ = .agg #[m7.sv, v', m7.iv, m7.mv] ∧ p_ = bigE [curE g a len cap, bigE ps] ∧ (∀ w, (bigE ps).holds w → RdsW w v' 2 (m7.gs ++ [As.mk (W2.2.getD k7 0) ov os]).length ((m7.gs ++ [As.mk (W2.2.getD k7 0) ov os]).flatMap asC) ∧ RdsW w ov 3 os.length (os.flatMap oqC)) ∧ v'.oneCell' = true ∧ ov.oneCell' = true ∧ ExP (m7.ss.length : Int) 9 os) v_ pm_) | _ => True) [[], [], [], [], [2, 3], [4], [], [0, 1, 5, 6]] [none, none, none, none, none, none, none, some 9] [curE g a len cap] [0, 1, 2, 3, 4, 5, 6, 7] 9 (List.take_append_drop 8 _).symm (by kernel_rfl) (by kernel_rfl) (by kernel_rfl) rfl rfl ?_ ?_
   ·
    refine ⟨?_, ?_, ?_, ?_, ?_, ?_, ?_, ?_, trivial⟩
    ·
     intro vf pf hmu hR
     refine dqQ [] [] rfl (zbr (zao [0] rfl) ?_)
     exact zbq (zay rfl)
    ·
     intro vf pf hmu hR
     refine dqQ [] [] rfl (zaz (zao [5] rfl) (List.sublist_append_right _ _) ?_)
     exact zbq (zaw (cs := [m7.sv, m7.av, m7.iv, m7.mv]) rfl rfl rfl rfl rfl (zau 6 rfl 0 rfl))
    ·
     intro vf pf hmu hR
     refine dqQ [] [] rfl (zbr (zao [7] rfl) ?_)
     exact zbq (zay rfl)
    ·
     intro vf pf hmu hR
     refine dqQ [] [] rfl (zbr (zao [24] rfl) ?_)
     exact zbq (zay rfl)
    ·
     intro vf pf hmu hR
     have e2 := hR 2 (by decide)
     have e3 := hR 3 (by decide)
     refine dqQ [2, 3] [2, 3] rfl (zaz (sk 275 (congrArg some e2.1) (sk 276 (congrArg some e3.1) (zaf _))) (List.sublist_append_right _ _) ?_)
     exact zbq (riQ 1 rfl rfl rfl rfl (zam 4 rfl))
    ·
     intro vf pf hmu hR
     have e4 := hR 4 (by decide)
     refine dqQ [4] [4] rfl (zaz (sk 277 (congrArg some e4.1) (zaf _)) (List.sublist_append_right _ _) ?_)
     exact zbq (liQ rfl rfl rfl (zam 4 rfl))
    ·
     intro vf pf hmu hR
     refine dqQ [] [] rfl (zbr (zao [6] rfl) ?_)
     exact zbq (zay rfl)
    intro vf pf hmu hR
    have e0 := hR 0 (by decide)
    have e1 := hR 1 (by decide)
    have e5 := hR 5 (by decide)
    have e6 := hR 6 (by decide)
    refine Or.inl ⟨rfl, ?_⟩
    show RunM _ _ _ (pf 9) (([0, 1, 5, 6] : List Nat).flatMap pf ++ _) (envOf _ vf [0, 1, 5, 6] ++ _) _ _
    rw [hmu]
    refine zcp (sk 273 (congrArg some e0.1) (sk 274 (congrArg some e1.1) (sk 278 (congrArg some e5.1) (sk 279 (congrArg some e6.1) (zaf _))))) (by simp only [e0.2, e1.2, e5.2, e6.2, fS] <;> rfl) ?_
    exact zcy (R := (fun u_ p_ => ∃ (v' ov : Value) (os : List Oq) (ps : List HP), u_ = .agg #[m7.sv, v', m7.iv, m7.mv] ∧ p_ = bigE [curE g a len cap, bigE ps] ∧ (∀ w, (bigE ps).holds w → RdsW w v' 2 (m7.gs ++ [As.mk (W2.2.getD k7 0) ov os]).length ((m7.gs ++ [As.mk (W2.2.getD k7 0) ov os]).flatMap asC) ∧ RdsW w ov 3 os.length (os.flatMap oqC)) ∧ v'.oneCell' = true ∧ ov.oneCell' = true ∧ ExP (m7.ss.length : Int) 9 os)) rfl rfl (fun L w hX hm => zdg g a len cap z (m7.ss.length : Int) (Md.mk m7.sv m7.av m7.iv m7.mv m7.ss m7.gs m7.xs m7.ms) (W2.2.getD k7 0) U6.1 _ _ _ _ hm hb (fun w9 h9 => (zam (l := (bigE ps7 :: rowE 38 3 m7.sv m7.ss.length (m7.ss.flatMap sgC) :: rowE 63 3 m7.iv m7.xs.length (m7.xs.flatMap ixC) :: rowE 94 4 m7.mv m7.ms.length (m7.ms.flatMap mmC) :: rowE 3 1 W2.1 W2.2.length (W2.2.map (Value.int .i64)) :: rowE 3 1 U6.1 U6.2.length (U6.2.map (Value.int .i64)) :: boxE b3 #[m7.sv, m7.av, m7.iv, m7.mv] 35 :: boxE b2 #[.slice none 0 0, .slice none 0 0, .slice none 0 0, .slice none 0 0] 35 :: boxE b1 #[v] 26 :: l)) 5 rfl) w9 (hX w9 h9)) (fun x hx => h7.av x hx) (by have h9 := h7.na; omega) (fun w9 h9 => (hp7 w9 ((hX w9 h9).holds _ (zbs (i := 0) rfl))).1) (by have h9 := h7.ng; show m7.gs.length ≤ 1000; omega) hone9 ⟨ho9.1, ho9.2.1, ho9.2.2.1, ho9.2.2.2⟩)
   intro vf pf hmu hR
   have e7 : (∃ pm_, (pf 7) = [pm_] ∧ (fun u_ p_ => ∃ (v' ov : Value) (os : List Oq) (ps : List HP), u_ = .agg #[m7.sv, v', m7.iv, m7.mv] ∧ p_ = bigE [curE g a len cap, bigE ps] ∧ (∀ w, (bigE ps).holds w → RdsW w v' 2 (m7.gs ++ [As.mk (W2.2.getD k7 0) ov os]).length ((m7.gs ++ [As.mk (W2.2.getD k7 0) ov os]).flatMap asC) ∧ RdsW w ov 3 os.length (os.flatMap oqC)) ∧ v'.oneCell' = true ∧ ov.oneCell' = true ∧ ExP (m7.ss.length : Int) 9 os) (vf 7) pm_) := hR 7 (by decide)
   obtain ⟨p162, pE7, hR163⟩ := e7
   obtain ⟨v161, vE7⟩ : ∃ x, vf 7 = x := ⟨_, rfl⟩
   rw [vE7] at hR163
   obtain ⟨avhR163, ovhR163, oshR163, aphR163, rfl, rfl, haphR163, oavhR163, oovhR163, hoshR163⟩ := hR163
   have q0 := hR 0 (by decide)
   have q1 := hR 1 (by decide)
   have q2 := hR 2 (by decide)
   have q3 := hR 3 (by decide)
   have q4 := hR 4 (by decide)
   have q5 := hR 5 (by decide)
   have q6 := hR 6 (by decide)
   refine zcr (zcg [270, 233, 89, 55, 33, 24, 7, 6, 5, 4, 3, 1, 0] _ (sk 280 (congrArg some vE7) (zaf _)) rfl) (by simp only [pE7, vE7, q0.2, q1.2, q2.2, q3.2, q4.2, q5.2, q6.2, fS] <;> rfl) ?_
   simp only [List.drop_succ_cons, List.drop_zero]
   refine zbn (cs' := #[m7.sv, avhR163, m7.iv, m7.mv]) (i := 7) (off := 0) (us := [m7.sv, avhR163, m7.iv, m7.mv]) rfl rfl rfl rfl rfl rfl rfl (zad ho9.1 (zad oavhR163 (zad ho9.2.2.1 (zad ho9.2.2.2 zbg)))) rfl rfl rfl (zcx (zdq (reQ 1 rfl (hvQ rfl (vaQ rfl rfl rfl) (enQ 1 rfl ?_)))))
   have hpd9 := pendR hW2 (show k7 < W2.2.length by omega)
   refine zbd 10 [9, 8, 7, 6, 5, 4, 3, 2, 1, 0] rfl rfl (by decide) ?_
   refine zdl (curE g a len cap :: bigE aphR163 :: bigE ps7 :: rowE 38 3 m7.sv m7.ss.length (m7.ss.flatMap sgC) :: rowE 63 3 m7.iv m7.xs.length (m7.xs.flatMap ixC) :: rowE 94 4 m7.mv m7.ms.length (m7.ms.flatMap mmC) :: rowE 3 1 W2.1 W2.2.length (W2.2.map (Value.int .i64)) :: rowE 3 1 U6.1 U6.2.length (U6.2.map (Value.int .i64)) :: boxE b3 #[m7.sv, avhR163, m7.iv, m7.mv] 35 :: boxE b2 #[.slice none 0 0, .slice none 0 0, .slice none 0 0, .slice none 0 0] 35 :: boxE b1 #[v] 26 :: l) zcw ?_
   refine zbd 11 [10, 9, 8, 7, 6, 5, 4, 3, 0, 1, 2] rfl rfl (by decide) ?_
   refine zbu 2 rfl ?_
   refine zbd 10 [1, 9, 8, 7, 6, 5, 4, 3, 2, 0] rfl rfl (by decide) ?_
   exact zdt (k7 + 1) (Md.mk m7.sv avhR163 m7.iv m7.mv m7.ss (m7.gs ++ [As.mk (W2.2.getD k7 0) ovhR163 oshR163]) m7.xs m7.ms) [bigE ps7, bigE aphR163] ⟨by omega, (h7.asg _ hpd9.1 _ hoshR163 (by show (m7.ss.length : Int) ≤ (m7.ss.length : Int); omega) hpd9.2).up (by omega) (by omega) (by omega) (by omega) (by omega) (by omega), fun w hw => ⟨(haphR163 w (zas hw (List.mem_cons_of_mem _ List.mem_cons_self))).1, (hp7 w (zas hw List.mem_cons_self)).2.1.app (haphR163 w (zas hw (List.mem_cons_of_mem _ List.mem_cons_self))).2, (hp7 w (zas hw List.mem_cons_self)).2.2⟩⟩ (by omega) (saQ rfl) (.refl _)
  refine ntQ (zap rfl ?_)
  refine zbv (zep ?_)
  refine zan (zbf (srQ ?_))
  refine zfb (p := (∀ g9 ∈ m7.gs, g9.ov.oneCell' = true) ∧ m7.sv.oneCell' = true ∧ m7.av.oneCell' = true ∧ m7.iv.oneCell' = true ∧ m7.mv.oneCell' = true) (fun w hm => ⟨fun g9 hg9 => ((hp7 w (hm.holds _ (zbs (i := 0) rfl))).2.1 g9 hg9).one, (zam 1 rfl w hm).one, (hp7 w (hm.holds _ (zbs (i := 0) rfl))).1.one, (zam 2 rfl w hm).one, (zam 3 rfl w hm).one⟩) (fun ⟨hone9, ho9⟩ => ?_)
  refine hvQ rfl (zaw (cs := [m7.sv, m7.av, m7.iv, m7.mv]) rfl rfl rfl rfl rfl (zau 6 rfl 0 rfl)) (zbn (cs' := #[m7.sv, m7.av, m7.iv, m7.mv]) (i := 7) (off := 0) (us := [m7.sv, m7.av, m7.iv, m7.mv]) rfl rfl rfl rfl rfl rfl rfl (zad ho9.1 (zad ho9.2.1 (zad ho9.2.2.1 (zad ho9.2.2.2 zbg)))) rfl rfl rfl ?_)
  refine ntQ ?_
  refine zal (hq_know (p := m7.sv.oneCell' = true ∧ m7.av.oneCell' = true ∧ m7.iv.oneCell' = true ∧ m7.mv.oneCell' = true) (fun w hm => ⟨(zam 1 rfl w hm).one, (hp7 w (hm.holds _ (zbs (i := 0) rfl))).1.one, (zam 2 rfl w hm).one, (zam 3 rfl w hm).one⟩) (fun ho9 => ?_))
  refine zbd 10 [9, 8, 7, 6, 5, 4, 0, 3, 2, 1] rfl rfl (by decide) ?_
  refine zbu 4 rfl ?_
  refine zbd 7 [5, 4, 3, 2, 1, 0, 6] rfl rfl (by decide) ?_
  refine zbu 2 rfl ?_
  exact zcv (rs := [.cell 4 35]) (vs := [.agg #[m7.sv, m7.av, m7.iv, m7.mv]]) rfl ⟨⟨b2, 0, [m7.sv, m7.av, m7.iv, m7.mv], rfl, rfl, by kernel_rfl, by kernel_rfl, zau 4 rfl 0 rfl⟩, trivial⟩ rfl (fun w hm => ⟨_, bigE [curE g a len cap, bigE [rowE 38 3 m7.sv m7.ss.length (m7.ss.flatMap sgC), rowE 63 3 m7.iv m7.xs.length (m7.xs.flatMap ixC), rowE 94 4 m7.mv m7.ms.length (m7.ms.flatMap mmC), bigE ps7]], rfl, ⟨m7, [rowE 38 3 m7.sv m7.ss.length (m7.ss.flatMap sgC), rowE 63 3 m7.iv m7.xs.length (m7.xs.flatMap ixC), rowE 94 4 m7.mv m7.ms.length (m7.ms.flatMap mmC), bigE ps7], rfl, rfl, fun w hw => ⟨zcl (zas hw List.mem_cons_self), (hp7 w (zas hw (List.mem_cons_of_mem _ (List.mem_cons_of_mem _ (List.mem_cons_of_mem _ List.mem_cons_self))))).1, (hp7 w (zas hw (List.mem_cons_of_mem _ (List.mem_cons_of_mem _ (List.mem_cons_of_mem _ List.mem_cons_self))))).2.1, zcl (zas hw (List.mem_cons_of_mem _ List.mem_cons_self)), (hp7 w (zas hw (List.mem_cons_of_mem _ (List.mem_cons_of_mem _ (List.mem_cons_of_mem _ List.mem_cons_self))))).2.2, zcl (zas hw (List.mem_cons_of_mem _ (List.mem_cons_of_mem _ List.mem_cons_self)))⟩, ho9, by have h9 := h7; rw [show k7 = W2.2.length by omega, List.drop_length] at h9; exact h9.fin (by omega) (by omega) (by omega) (by omega) (by omega)⟩, hm.sub (.cons_cons _ (.cons _ (.cons _ (.cons _ (.cons _ (.cons _ (.refl _)))))))⟩)
 refine zba 4 rfl (zap rfl ?_)
 refine zbv (zep ?_)
 refine zan (zbf ?_)
 refine hc_meet3 (α := Md) (β := Value × List Int) (γ := List HP) (fun m5 U5 ps5 => (bigE ps5 :: rowE 38 3 m5.sv m5.ss.length (m5.ss.flatMap sgC) :: rowE 63 3 m5.iv m5.xs.length (m5.xs.flatMap ixC) :: rowE 94 4 m5.mv m5.ms.length (m5.ms.flatMap mmC) :: rowE 3 1 W2.1 W2.2.length (W2.2.map (Value.int .i64)) :: rowE 3 1 U5.1 U5.2.length (U5.2.map (Value.int .i64)) :: boxE b3 #[m5.sv, m5.av, m5.iv, m5.mv] 35 :: boxE b2 #[.slice none 0 0, .slice none 0 0, .slice none 0 0, .slice none 0 0] 35 :: boxE b1 #[v] 26 :: curE g a len cap :: l)) (fun m5 U5 ps5 => [(0, .pointer (some ⟨g, 0, none⟩)), (1, .agg #[v]), (3, .pointer (some ⟨b1, 0, none⟩)), (4, .pointer (some ⟨b2, 0, none⟩)), (5, .pointer (some ⟨b3, 0, none⟩)), (6, U5.1), (7, W2.1), (11, .int .i64 (t : Int)), (33, .bool false), (55, .bool false), (89, .bool false)]) (fun m5 U5 ps5 => MI D m5 U5.2 W2.2 16 11 2 1 2 13 ∧ ∀ w, (bigE ps5).holds w → RdP w m5) ?_ ?_
 ·
  refine zah (reQ 1 rfl ?_)
  refine zbz (R := (fun u_ p_ => (∃ b : Bool, u_ = .bool b) ∧ p_ = curE g a len cap)) 9 rfl rfl rfl rfl rfl (fun l' w hm => once_mut hm hb (4) (by omega) (by omega)) ?_
  intro v164 p165 hR166
  obtain ⟨⟨xhR166, rfl⟩, rfl⟩ := hR166
  refine zci (l' := (bigE ps3 :: rowE 38 3 m3.sv m3.ss.length (m3.ss.flatMap sgC) :: rowE 63 3 m3.iv m3.xs.length (m3.xs.flatMap ixC) :: rowE 94 4 m3.mv m3.ms.length (m3.ms.flatMap mmC) :: rowE 3 1 W2.1 W2.2.length (W2.2.map (Value.int .i64)) :: rowE 3 1 U3.1 U3.2.length (U3.2.map (Value.int .i64)) :: boxE b3 #[m3.sv, m3.av, m3.iv, m3.mv] 35 :: boxE b2 #[.slice none 0 0, .slice none 0 0, .slice none 0 0, .slice none 0 0] 35 :: boxE b1 #[v] 26 :: curE g a len cap :: l)) rfl ?_
  refine zbm (fun h167 => ?_) (fun h167 => ?_)
  ·
   refine ntQ (zaj rfl (srQ (hvQ rfl (fdQ 0 rfl rfl rfl) (hvQ rfl (zac rfl rfl rfl (zaa 6 rfl rfl)) (hvQ rfl (lnQ rfl rfl rfl (zam 1 rfl)) (zba 1 rfl (zah ?_)))))))
   refine reQ 1 rfl ?_
   refine zbz (R := (fun u_ p_ => (∃ x_ : Int, u_ = .int .i64 x_ ∧ 0 ≤ x_ ∧ x_ < 2) ∧ p_ = curE g a len cap)) 9 rfl rfl rfl rfl rfl (fun l' w hm => zbl g a len cap z 2 _ _ _ hm hb (by constructor <;> omega)) ?_
   intro v168 p169 hR170
   obtain ⟨⟨xhR170, rfl, xhR1700, xhR1701⟩, rfl⟩ := hR170
   refine zci (l' := (bigE ps3 :: rowE 38 3 m3.sv m3.ss.length (m3.ss.flatMap sgC) :: rowE 63 3 m3.iv m3.xs.length (m3.xs.flatMap ixC) :: rowE 94 4 m3.mv m3.ms.length (m3.ms.flatMap mmC) :: rowE 3 1 W2.1 W2.2.length (W2.2.map (Value.int .i64)) :: rowE 3 1 U3.1 U3.2.length (U3.2.map (Value.int .i64)) :: boxE b3 #[m3.sv, m3.av, m3.iv, m3.mv] 35 :: boxE b2 #[.slice none 0 0, .slice none 0 0, .slice none 0 0, .slice none 0 0] 35 :: boxE b1 #[v] 26 :: curE g a len cap :: l)) rfl ?_
   refine hvQ rfl (vaQ rfl rfl rfl) (zba 1 rfl (srQ (hvQ rfl (fdQ 0 rfl rfl rfl) (hvQ rfl (zac rfl rfl rfl (zaa 6 rfl rfl)) (hvQ rfl (zax (cs := #[.int .i64 2, .int .i64 2, .int .i64 0]) rfl rfl rfl) (zak 1 rfl (hvQ rfl (zax (cs := #[.int .i64 2, .int .i64 (1 + xhR170), .int .i64 0]) rfl rfl rfl) (hvQ rfl (zax (cs := #[.int .i64 2, .int .i64 1, .int .i64 0]) rfl rfl rfl) (zak 1 rfl ?_)))))))))
   refine hvQ rfl (zax (cs := #[.int .i64 2, .int .i64 (1 + xhR170), .int .i64 0]) rfl rfl rfl) (zeb rfl (zai (z := .agg #[.int .i64 0, .int .i64 0, .int .i64 0]) (s := 3) (cs := ([2, 2, 0, 2, 1 + xhR170, 0, 2, 1, 0, 2, 1 + xhR170, 0].map (Value.int .i64))) rfl Try.underlying30 rfl (by decide) rfl (by kernel_rfl) rfl) ?_)
   intro g171
   refine zct (i := 2) (z := .agg #[.int .i64 0, .int .i64 0, .int .i64 0]) (bytes := 24) (n' := (m3.ss ++ [Sg.mk 2 2 0, Sg.mk 2 (1 + xhR170) 0, Sg.mk 2 1 0, Sg.mk 2 (1 + xhR170) 0]).length) (xs' := ((m3.ss ++ [Sg.mk 2 2 0, Sg.mk 2 (1 + xhR170) 0, Sg.mk 2 1 0, Sg.mk 2 (1 + xhR170) 0]).flatMap sgC)) rfl rfl rfl rfl Try.underlying30 (by kernel_rfl) rfl rfl rfl rfl (zam 0 rfl) (by simp [Value.oneCell']) (by omega) (zcj m3.ss ([Sg.mk 2 2 0, Sg.mk 2 (1 + xhR170) 0, Sg.mk 2 1 0, Sg.mk 2 (1 + xhR170) 0] : List Sg)) (flat_app sgC m3.ss [Sg.mk 2 2 0, Sg.mk 2 (1 + xhR170) 0, Sg.mk 2 1 0, Sg.mk 2 (1 + xhR170) 0]) (fun _ => rfl) ?_
   intro v172
   refine hvQ rfl (fdQ 0 rfl rfl rfl) (zdb (i := 2) rfl (fun ho173 => ?_))
   refine zec (i := 7) (cs' := #[v172, m3.av, m3.iv, m3.mv]) rfl rfl rfl rfl rfl rfl ho173 rfl rfl rfl rfl (zcx (zbf (zah (zbb (hvQ rfl (fdQ 3 rfl rfl rfl) (hvQ rfl (zac rfl rfl rfl (zaa 7 rfl rfl)) (zak 2 rfl (hvQ rfl (vaQ rfl rfl rfl) (zak 1 rfl (hvQ rfl (vaQ rfl rfl rfl) (zak 1 rfl (hvQ rfl (vaQ rfl rfl rfl) (hvQ rfl (zax (cs := #[.int .i64 (m3.ss.length : Int), .int .i64 ((m3.ss.length : Int) + 1), .int .i64 ((m3.ss.length : Int) + 2), .int .i64 ((m3.ss.length : Int) + 3)]) rfl rfl rfl) ?_)))))))))))))
   refine zeb rfl (zai (z := .agg #[.int .i64 0, .int .i64 0, .int .i64 0, .int .i64 0]) (s := 4) (cs := ([(m3.ss.length : Int), (m3.ss.length : Int) + 1, (m3.ss.length : Int) + 2, (m3.ss.length : Int) + 3].map (Value.int .i64))) rfl Try.underlying33 rfl (by decide) rfl (by kernel_rfl) rfl) ?_
   intro g174
   refine zct (i := 5) (z := .agg #[.int .i64 0, .int .i64 0, .int .i64 0, .int .i64 0]) (bytes := 32) rfl rfl rfl rfl Try.underlying33 (by kernel_rfl) rfl rfl rfl rfl (zam 0 rfl) (zcn _) (by first | omega | (simp only [List.length_append, List.length_cons, List.length_nil]; omega)) (zcj m3.ms [(Mm.mk (m3.ss.length : Int) ((m3.ss.length : Int) + 1) ((m3.ss.length : Int) + 2) ((m3.ss.length : Int) + 3))]) (zdc mmC m3.ms (Mm.mk (m3.ss.length : Int) ((m3.ss.length : Int) + 1) ((m3.ss.length : Int) + 2) ((m3.ss.length : Int) + 3)) _ rfl) (fun _ => rfl) ?_
   intro v175
   refine hvQ rfl (fdQ 3 rfl rfl rfl) (zdb (i := 5) rfl (fun ho176 => ?_))
   refine zec (i := 8) (cs' := #[v172, m3.av, m3.iv, v175]) rfl rfl rfl rfl rfl rfl ho176 rfl rfl rfl rfl (ntQ (zah (reQ 2 rfl (hvQ rfl (vaQ rfl rfl rfl) ?_))))
   refine zeb rfl (zai (z := .int .i64 0) (s := 1) (cs := ([(m3.ss.length : Int) + 3].map (Value.int .i64))) rfl Try.underlying48 rfl (by decide) rfl (by kernel_rfl) rfl) ?_
   intro g177
   refine zct (i := 8) (z := .int .i64 0) (bytes := 8) rfl rfl rfl rfl Try.underlying48 (by kernel_rfl) rfl rfl rfl rfl (zam 0 rfl) (zcn _) (by first | omega | (simp; done) | (simp; omega)) (zcj U3.2 ([(m3.ss.length : Int) + 3])) (zdh U3.2 ([(m3.ss.length : Int) + 3])) (fun _ => rfl) ?_
   intro v178
   refine zba 1 rfl (zbk 1 rfl (zbh ?_))
   refine lkQ3 (α := Nat) (β := Md) (γ := List HP) [0, 1, 3, 4, 5, 6, 7, 11, 19, 20, 33, 55, 89, 181] rfl (fun j4 m4 ps4 => (bigE ps4 :: rowE 38 3 m4.sv m4.ss.length (m4.ss.flatMap sgC) :: rowE 63 3 m4.iv m4.xs.length (m4.xs.flatMap ixC) :: rowE 94 4 m4.mv m4.ms.length (m4.ms.flatMap mmC) :: rowE 3 1 W2.1 W2.2.length (W2.2.map (Value.int .i64)) :: rowE 3 1 v178 ((U3.2 ++ ([(m3.ss.length : Int) + 3])).length) ((U3.2 ++ ([(m3.ss.length : Int) + 3])).map (Value.int .i64)) :: boxE b3 #[m4.sv, m4.av, m4.iv, m4.mv] 35 :: boxE b2 #[.slice none 0 0, .slice none 0 0, .slice none 0 0, .slice none 0 0] 35 :: boxE b1 #[v] 26 :: curE g a len cap :: l)) (fun j4 m4 ps4 => [(21, .int .i64 (j4 : Int))]) (fun j4 m4 ps4 => j4 ≤ 3 ∧ MI D m4 (U3.2 ++ ([(m3.ss.length : Int) + 3])) (W2.2 ++ ([(m3.ss.length : Int), (m3.ss.length : Int) + 1, (m3.ss.length : Int) + 2] : List Int).drop j4) 16 (8 + j4) 2 1 2 13 ∧ ∀ w, (bigE ps4).holds w → RdP w m4) (fun j4 m4 ps4 => 3 - j4) 0 (Md.mk v172 m3.av m3.iv v175 (m3.ss ++ [Sg.mk 2 2 0, Sg.mk 2 (1 + xhR170) 0, Sg.mk 2 1 0, Sg.mk 2 (1 + xhR170) 0]) m3.gs m3.xs (m3.ms ++ [(Mm.mk (m3.ss.length : Int) ((m3.ss.length : Int) + 1) ((m3.ss.length : Int) + 2) ((m3.ss.length : Int) + 3))])) ps3 ⟨by omega, (h3.mm4 _ _ ⟨by omega, by omega⟩).up (by omega) (by omega) (by omega) (by omega) (by omega) (by omega), fun w hw => hp3 w hw⟩ (saQ rfl) (.cons _ (.cons _ (.cons _ (.refl _)))) ?_
   intro j4 m4 ps4 hi179
   obtain ⟨hj4, h4, hp4⟩ := hi179
   refine zah (zah (reQ 1 rfl ?_))
   refine zcb rfl rfl rfl rfl rfl rfl (fun h180 => ?_) (fun h180 => ?_)
   ·
    refine ntQ (zaj rfl (zdi (sbQ (zbb ?_))))
    have hpd9 := pend3 h3.plt (show j4 < 3 by omega)
    refine zfb (p := (∀ g9 ∈ m4.gs, g9.ov.oneCell' = true) ∧ m4.sv.oneCell' = true ∧ m4.av.oneCell' = true ∧ m4.iv.oneCell' = true ∧ m4.mv.oneCell' = true) (fun w hm => ⟨fun g9 hg9 => ((hp4 w (hm.holds _ (zbs (i := 0) rfl))).2.1 g9 hg9).one, (zam 1 rfl w hm).one, (hp4 w (hm.holds _ (zbs (i := 0) rfl))).1.one, (zam 2 rfl w hm).one, (zam 3 rfl w hm).one⟩) (fun ⟨hone9, ho9⟩ => ?_)
    refine zak 1 rfl (hvQ rfl (zaw (cs := [m4.sv, m4.av, m4.iv, m4.mv]) rfl rfl rfl rfl rfl (zau 6 rfl 0 rfl)) (zak 2 rfl (hvQ rfl (vaQ rfl rfl rfl) (zak 1 rfl ?_))))
    refine zdu (R := (fun u_ p_ => ∃ (v' ov : Value) (os : List Oq) (ps : List HP), u_ = .agg #[m4.sv, v', m4.iv, m4.mv] ∧ p_ = bigE [curE g a len cap, bigE ps] ∧ (∀ w, (bigE ps).holds w → RdsW w v' 2 (m4.gs ++ [As.mk ((m3.ss.length : Int) + (j4 : Int)) ov os]).length ((m4.gs ++ [As.mk ((m3.ss.length : Int) + (j4 : Int)) ov os]).flatMap asC) ∧ RdsW w ov 3 os.length (os.flatMap oqC)) ∧ v'.oneCell' = true ∧ ov.oneCell' = true ∧ ExP (m4.ss.length : Int) 9 os)) 9 rfl rfl rfl rfl rfl (fun L w hX hm => zdg g a len cap z (m4.ss.length : Int) (Md.mk m4.sv m4.av m4.iv m4.mv m4.ss m4.gs m4.xs m4.ms) ((m3.ss.length : Int) + (j4 : Int)) v178 _ _ _ _ hm hb (fun w9 h9 => (zam (l := (bigE ps4 :: rowE 38 3 m4.sv m4.ss.length (m4.ss.flatMap sgC) :: rowE 63 3 m4.iv m4.xs.length (m4.xs.flatMap ixC) :: rowE 94 4 m4.mv m4.ms.length (m4.ms.flatMap mmC) :: rowE 3 1 W2.1 W2.2.length (W2.2.map (Value.int .i64)) :: rowE 3 1 v178 ((U3.2 ++ ([(m3.ss.length : Int) + 3])).length) ((U3.2 ++ ([(m3.ss.length : Int) + 3])).map (Value.int .i64)) :: boxE b3 #[m4.sv, m4.av, m4.iv, m4.mv] 35 :: boxE b2 #[.slice none 0 0, .slice none 0 0, .slice none 0 0, .slice none 0 0] 35 :: boxE b1 #[v] 26 :: l)) 5 rfl) w9 (hX w9 h9)) (fun x hx => h4.av x hx) (by have h9 := h4.na; omega) (fun w9 h9 => (hp4 w9 ((hX w9 h9).holds _ (zbs (i := 0) rfl))).1) (by have h9 := h4.ng; show m4.gs.length ≤ 1000; omega) hone9 ⟨ho9.1, ho9.2.1, ho9.2.2.1, ho9.2.2.2⟩) ?_
    intro v181 p182 hR183
    obtain ⟨avhR183, ovhR183, oshR183, aphR183, rfl, rfl, haphR183, oavhR183, oovhR183, hoshR183⟩ := hR183
    refine zci (l' := (bigE ps4 :: rowE 38 3 m4.sv m4.ss.length (m4.ss.flatMap sgC) :: rowE 63 3 m4.iv m4.xs.length (m4.xs.flatMap ixC) :: rowE 94 4 m4.mv m4.ms.length (m4.ms.flatMap mmC) :: rowE 3 1 W2.1 W2.2.length (W2.2.map (Value.int .i64)) :: rowE 3 1 v178 ((U3.2 ++ ([(m3.ss.length : Int) + 3])).length) ((U3.2 ++ ([(m3.ss.length : Int) + 3])).map (Value.int .i64)) :: boxE b3 #[m4.sv, m4.av, m4.iv, m4.mv] 35 :: boxE b2 #[.slice none 0 0, .slice none 0 0, .slice none 0 0, .slice none 0 0] 35 :: boxE b1 #[v] 26 :: bigE [curE g a len cap, bigE aphR183] :: l)) rfl ?_
    refine zbn (cs' := #[m4.sv, avhR183, m4.iv, m4.mv]) (i := 6) (off := 0) (us := [m4.sv, avhR183, m4.iv, m4.mv]) rfl rfl rfl rfl rfl rfl rfl (zad ho9.1 (zad oavhR183 (zad ho9.2.2.1 (zad ho9.2.2.2 zbg)))) rfl rfl rfl (zcx (zdq (reQ 1 rfl (hvQ rfl (vaQ rfl rfl rfl) (enQ 1 rfl ?_)))))
    refine zbd 10 [8, 7, 6, 5, 4, 3, 2, 1, 0, 9] rfl rfl (by decide) ?_
    refine zdl (curE g a len cap :: bigE aphR183 :: bigE ps4 :: rowE 38 3 m4.sv m4.ss.length (m4.ss.flatMap sgC) :: rowE 63 3 m4.iv m4.xs.length (m4.xs.flatMap ixC) :: rowE 94 4 m4.mv m4.ms.length (m4.ms.flatMap mmC) :: rowE 3 1 W2.1 W2.2.length (W2.2.map (Value.int .i64)) :: rowE 3 1 v178 ((U3.2 ++ ([(m3.ss.length : Int) + 3])).length) ((U3.2 ++ ([(m3.ss.length : Int) + 3])).map (Value.int .i64)) :: boxE b3 #[m4.sv, avhR183, m4.iv, m4.mv] 35 :: boxE b2 #[.slice none 0 0, .slice none 0 0, .slice none 0 0, .slice none 0 0] 35 :: boxE b1 #[v] 26 :: l) zcw ?_
    refine zbd 11 [10, 9, 8, 7, 6, 5, 4, 3, 0, 1, 2] rfl rfl (by decide) ?_
    refine zbu 2 rfl ?_
    refine zbd 10 [1, 9, 8, 7, 6, 5, 4, 3, 2, 0] rfl rfl (by decide) ?_
    exact zdt (j4 + 1) (Md.mk m4.sv avhR183 m4.iv m4.mv m4.ss (m4.gs ++ [As.mk ((m3.ss.length : Int) + (j4 : Int)) ovhR183 oshR183]) m4.xs m4.ms) [bigE ps4, bigE aphR183] ⟨by omega, (h4.asg _ hpd9.1 _ hoshR183 (by show (m4.ss.length : Int) ≤ (m4.ss.length : Int); omega) hpd9.2).up (by omega) (by omega) (by omega) (by omega) (by omega) (by omega), fun w hw => ⟨(haphR183 w (zas hw (List.mem_cons_of_mem _ List.mem_cons_self))).1, (hp4 w (zas hw List.mem_cons_self)).2.1.app (haphR183 w (zas hw (List.mem_cons_of_mem _ List.mem_cons_self))).2, (hp4 w (zas hw List.mem_cons_self)).2.2⟩⟩ (by omega) (saQ rfl) (.refl _)
   refine ntQ (zap rfl ?_)
   refine zbv (zep ?_)
   exact zan (hq_meet3 m4 (v178, U3.2 ++ ([(m3.ss.length : Int) + 3])) ps4 ⟨by have h9 := h4; rw [show j4 = 3 by omega] at h9; exact (by simpa using h9.up (show 16 ≤ 16 by omega) (show 8 + 3 ≤ 11 by omega) (show 2 ≤ 2 by omega) (show 1 ≤ 1 by omega) (show 2 ≤ 2 by omega) (show 13 ≤ 13 by omega)), hp4⟩ (saQ rfl) (.refl _))
  refine ntQ (fsQ rfl ?_)
  exact hq_meet3 m3 (U3.1, U3.2) ps3 ⟨h3.up (by omega) (by omega) (by omega) (by omega) (by omega) (by omega), hp3⟩ (saQ rfl) (.refl _)
 intro m5 U5 ps5 hm184
 obtain ⟨h5, hp5⟩ := hm184
 have hns5 := h5.ns
 have hna5 := h5.na
 refine zah (reQ 1 rfl ?_)
 refine zbz (R := (fun u_ p_ => (∃ x_ : Int, u_ = .int .i64 x_ ∧ 0 ≤ x_ ∧ x_ < 2) ∧ p_ = curE g a len cap)) 9 rfl rfl rfl rfl rfl (fun l' w hm => zbl g a len cap z 2 _ _ _ hm hb (by constructor <;> omega)) ?_
 intro v185 p186 hR187
 obtain ⟨⟨xhR187, rfl, xhR1870, xhR1871⟩, rfl⟩ := hR187
 refine zci (l' := (bigE ps5 :: rowE 38 3 m5.sv m5.ss.length (m5.ss.flatMap sgC) :: rowE 63 3 m5.iv m5.xs.length (m5.xs.flatMap ixC) :: rowE 94 4 m5.mv m5.ms.length (m5.ms.flatMap mmC) :: rowE 3 1 W2.1 W2.2.length (W2.2.map (Value.int .i64)) :: rowE 3 1 U5.1 U5.2.length (U5.2.map (Value.int .i64)) :: boxE b3 #[m5.sv, m5.av, m5.iv, m5.mv] 35 :: boxE b2 #[.slice none 0 0, .slice none 0 0, .slice none 0 0, .slice none 0 0] 35 :: boxE b1 #[v] 26 :: curE g a len cap :: l)) rfl ?_
 refine hvQ rfl (vaQ rfl rfl rfl) (zba 1 rfl (zah (zbk 1 rfl (zbh ?_))))
 refine lkQ4 (α := Nat) (β := Md) (γ := Value × List Int) (δ := List HP) [0, 1, 3, 4, 5, 7, 8, 33, 55, 89] rfl (fun k6 m6 U6 ps6 => (bigE ps6 :: rowE 38 3 m6.sv m6.ss.length (m6.ss.flatMap sgC) :: rowE 63 3 m6.iv m6.xs.length (m6.xs.flatMap ixC) :: rowE 94 4 m6.mv m6.ms.length (m6.ms.flatMap mmC) :: rowE 3 1 W2.1 W2.2.length (W2.2.map (Value.int .i64)) :: rowE 3 1 U6.1 U6.2.length (U6.2.map (Value.int .i64)) :: boxE b3 #[m6.sv, m6.av, m6.iv, m6.mv] 35 :: boxE b2 #[.slice none 0 0, .slice none 0 0, .slice none 0 0, .slice none 0 0] 35 :: boxE b1 #[v] 26 :: curE g a len cap :: l)) (fun k6 m6 U6 ps6 => [(6, U6.1), (22, .int .i64 (k6 : Int))]) (fun k6 m6 U6 ps6 => (k6 : Int) ≤ 1 + xhR187 ∧ MI D m6 U6.2 W2.2 (16 + k6) (11 + k6) 2 1 (2 + k6) (13 + k6) ∧ ∀ w, (bigE ps6).holds w → RdP w m6) (fun k6 m6 U6 ps6 => (1 + xhR187).toNat - k6) 0 m5 U5 ps5 ⟨by omega, h5.up (by omega) (by omega) (by omega) (by omega) (by omega) (by omega), hp5⟩ (saQ rfl) (.refl _) ?_
 intro k6 m6 U6 ps6 hi188
 obtain ⟨hk6, h6, hp6⟩ := hi188
 have hns6 := h6.ns
 have hna6 := h6.na
 refine zah (zah (reQ 2 rfl ?_))
 refine zcb rfl rfl rfl rfl rfl rfl (fun h189 => ?_) (fun h189 => ?_)
 ·
  refine ntQ (zaj rfl (zdi (sbQ (srQ (hvQ rfl (fdQ 0 rfl rfl rfl) (hvQ rfl (zac rfl rfl rfl (zaa 6 rfl rfl)) (hvQ rfl (lnQ rfl rfl rfl (zam 1 rfl)) (zak 1 rfl ?_))))))))
  refine ntQ (zah ?_)
  refine zfc 10 [8, 7, 6, 5, 4, 3, 2, 1, 0, 9] rfl rfl (by decide) ?_
  refine zei (l := (bigE ps6 :: rowE 38 3 m6.sv m6.ss.length (m6.ss.flatMap sgC) :: rowE 63 3 m6.iv m6.xs.length (m6.xs.flatMap ixC) :: rowE 94 4 m6.mv m6.ms.length (m6.ms.flatMap mmC) :: rowE 3 1 W2.1 W2.2.length (W2.2.map (Value.int .i64)) :: rowE 3 1 U6.1 U6.2.length (U6.2.map (Value.int .i64)) :: boxE b3 #[m6.sv, m6.av, m6.iv, m6.mv] 35 :: boxE b2 #[.slice none 0 0, .slice none 0 0, .slice none 0 0, .slice none 0 0] 35 :: boxE b1 #[v] 26 :: l)) rfl 10 [0, 1, 2, 3, 4, 5, 6, 7, 8, 9] (List.take 10 _) (List.drop 10 _) [[], [0], [], [], [2, 3], [], [], [4, 5, 6], [4, 7], [4, 7, 8]] [239, 240, 241, 242, 243, 244, 245, 246, 247, 248] (fun i_ vs_ v_ p_ => match i_ with | 0 => v_ = .pointer (some ⟨b3, 0 + 0, none⟩) ∧ p_ = [] | 1 => v_ = m6.sv ∧ p_ = [] | 2 => v_ = .pointer (some ⟨g, 0, none⟩) ∧ p_ = [] | 3 => IsRow 3 1 2 ([1, 2].map (Value.int .i64)) v_ p_ | 4 => (∃ pm_, p_ = [pm_] ∧ (fun u_ p_ => (∃ x : Int, u_ = .int .i64 x ∧ x ∈ ([1, 2] : List Int)) ∧ p_ = curE g a len cap) v_ pm_) | 5 => v_ = .pointer (some ⟨g, 0, none⟩) ∧ p_ = [] | 6 => IsRow 3 1 3 ([1, 2, 0].map (Value.int .i64)) v_ p_ | 7 => (∃ pm_, p_ = [pm_] ∧ (fun u_ p_ => (∃ x : Int, u_ = .int .i64 x ∧ x ∈ ([1, 2, 0] : List Int)) ∧ p_ = curE g a len cap) v_ pm_) | 8 => v_ = .agg #[.int .i64 (intOf_o (List.getD vs_ 0 undef)), .int .i64 (intOf_o (List.getD vs_ 1 undef)), .int .i64 0] ∧ p_ = [] | 9 => IsRow 38 3 1 ([(intOf_o (List.getD vs_ 0 undef)), (intOf_o (List.getD vs_ 1 undef)), 0].map (Value.int .i64)) v_ p_ | _ => True) [[], [0], [], [], [2, 3], [], [], [5, 6], [7], [7, 8]] [none, none, none, none, some 13, none, none, some 4, none, none] [curE g a len cap] [0, 1, 2, 3, 5, 6, 7, 8, 9] 13 (List.take_append_drop 10 _).symm (by kernel_rfl) (by kernel_rfl) (by kernel_rfl) rfl rfl ?_ ?_
  ·
   refine ⟨?_, ?_, ?_, ?_, ?_, ?_, ?_, ?_, ?_, ?_, trivial⟩
   ·
    intro vf pf hmu hR
    refine dqQ [] [] rfl (zbr (zao [5] rfl) ?_)
    exact zbq (fdQ 0 rfl rfl rfl)
   ·
    intro vf pf hmu hR
    have e0 := hR 0 (by decide)
    refine dqQ [0] [0] rfl (zaz (sk 239 (congrArg some e0.1) (zaf _)) (List.sublist_append_right _ _) ?_)
    exact zbq (zac rfl rfl rfl (zaa 6 rfl rfl))
   ·
    intro vf pf hmu hR
    refine dqQ [] [] rfl (zbr (zao [0] rfl) ?_)
    exact zbq (zay rfl)
   ·
    intro vf pf hmu hR
    refine dqQ [] [] rfl (zaz (zaf _) (List.sublist_append_right _ _) ?_)
    exact zai (z := .int .i64 0) (s := 1) (cs := ([1, 2].map (Value.int .i64))) rfl Try.underlying48 rfl (by decide) rfl (by kernel_rfl) rfl
   ·
    intro vf pf hmu hR
    have e2 := hR 2 (by decide)
    have e3 : IsRow 3 1 2 ([1, 2].map (Value.int .i64)) (vf 3) (pf 3) := hR 3 (by decide)
    obtain ⟨g190, vE3, pE3⟩ := e3
    refine Or.inl ⟨rfl, ?_⟩
    show RunM _ _ _ (pf 13) (([2, 3] : List Nat).flatMap pf ++ _) (envOf _ vf [2, 3] ++ _) _ _
    rw [hmu]
    exact zcp (sk 241 (congrArg some e2.1) (sk 242 (congrArg some vE3) (zaf _))) (by simp only [pE3, vE3, e2.2, fS] <;> rfl) (zcy (R := (fun u_ p_ => (∃ x : Int, u_ = .int .i64 x ∧ x ∈ ([1, 2] : List Int)) ∧ p_ = curE g a len cap)) rfl rfl (fun L w hX hm => zdf g a len cap z (.slice (some ⟨g190, 0, none⟩) 2 2) [1, 2] _ _ _ hm hb (fun w hm => (zam (l := (rowE 3 1 (.slice (some ⟨g190, 0, none⟩) 2 2) 2 ([1, 2].map (Value.int .i64)) :: bigE ps6 :: rowE 38 3 m6.sv m6.ss.length (m6.ss.flatMap sgC) :: rowE 63 3 m6.iv m6.xs.length (m6.xs.flatMap ixC) :: rowE 94 4 m6.mv m6.ms.length (m6.ms.flatMap mmC) :: rowE 3 1 W2.1 W2.2.length (W2.2.map (Value.int .i64)) :: rowE 3 1 U6.1 U6.2.length (U6.2.map (Value.int .i64)) :: boxE b3 #[m6.sv, m6.av, m6.iv, m6.mv] 35 :: boxE b2 #[.slice none 0 0, .slice none 0 0, .slice none 0 0, .slice none 0 0] 35 :: boxE b1 #[v] 26 :: l)) 0 rfl) w (hX w hm)) (by decide)))
   ·
    intro vf pf hmu hR
    refine dqQ [] [] rfl (zbr (zao [0] rfl) ?_)
    exact zbq (zay rfl)
   ·
    intro vf pf hmu hR
    refine dqQ [] [] rfl (zaz (zaf _) (List.sublist_append_right _ _) ?_)
    exact zai (z := .int .i64 0) (s := 1) (cs := ([1, 2, 0].map (Value.int .i64))) rfl Try.underlying48 rfl (by decide) rfl (by kernel_rfl) rfl
   ·
    intro vf pf hmu hR
    have e4 : (∃ pm_, (pf 4) = [pm_] ∧ (fun u_ p_ => (∃ x : Int, u_ = .int .i64 x ∧ x ∈ ([1, 2] : List Int)) ∧ p_ = curE g a len cap) (vf 4) pm_) := hR 4 (by decide)
    obtain ⟨p192, pE4, hR193⟩ := e4
    obtain ⟨v191, vE4⟩ : ∃ x, vf 4 = x := ⟨_, rfl⟩
    rw [vE4] at hR193
    obtain ⟨⟨xhR193, rfl, xhR193m⟩, rfl⟩ := hR193
    have e5 := hR 5 (by decide)
    have e6 : IsRow 3 1 3 ([1, 2, 0].map (Value.int .i64)) (vf 6) (pf 6) := hR 6 (by decide)
    obtain ⟨g194, vE6, pE6⟩ := e6
    refine Or.inl ⟨rfl, ?_⟩
    show RunM _ _ _ (pf 4) (([5, 6] : List Nat).flatMap pf ++ _) (envOf _ vf [4, 5, 6] ++ _) _ _
    rw [pE4]
    exact zcp (sk 244 (congrArg some e5.1) (sk 245 (congrArg some vE6) (zaf _))) (by simp only [pE6, vE6, e5.2, fS] <;> rfl) (zcy (R := (fun u_ p_ => (∃ x : Int, u_ = .int .i64 x ∧ x ∈ ([1, 2, 0] : List Int)) ∧ p_ = curE g a len cap)) rfl rfl (fun L w hX hm => zdf g a len cap z (.slice (some ⟨g194, 0, none⟩) 3 3) [1, 2, 0] _ _ _ hm hb (fun w hm => (zam (l := (rowE 3 1 (.slice (some ⟨g194, 0, none⟩) 3 3) 3 ([1, 2, 0].map (Value.int .i64)) :: bigE ps6 :: rowE 38 3 m6.sv m6.ss.length (m6.ss.flatMap sgC) :: rowE 63 3 m6.iv m6.xs.length (m6.xs.flatMap ixC) :: rowE 94 4 m6.mv m6.ms.length (m6.ms.flatMap mmC) :: rowE 3 1 W2.1 W2.2.length (W2.2.map (Value.int .i64)) :: rowE 3 1 U6.1 U6.2.length (U6.2.map (Value.int .i64)) :: boxE b3 #[m6.sv, m6.av, m6.iv, m6.mv] 35 :: boxE b2 #[.slice none 0 0, .slice none 0 0, .slice none 0 0, .slice none 0 0] 35 :: boxE b1 #[v] 26 :: l)) 0 rfl) w (hX w hm)) (by decide)))
   ·
    intro vf pf hmu hR
    have e4 : (∃ pm_, (pf 4) = [pm_] ∧ (fun u_ p_ => (∃ x : Int, u_ = .int .i64 x ∧ x ∈ ([1, 2] : List Int)) ∧ p_ = curE g a len cap) (vf 4) pm_) := hR 4 (by decide)
    obtain ⟨p192, pE4, hR193⟩ := e4
    obtain ⟨v191, vE4⟩ : ∃ x, vf 4 = x := ⟨_, rfl⟩
    rw [vE4] at hR193
    obtain ⟨⟨xhR193, rfl, xhR193m⟩, rfl⟩ := hR193
    have e7 : (∃ pm_, (pf 7) = [pm_] ∧ (fun u_ p_ => (∃ x : Int, u_ = .int .i64 x ∧ x ∈ ([1, 2, 0] : List Int)) ∧ p_ = curE g a len cap) (vf 7) pm_) := hR 7 (by decide)
    obtain ⟨p196, pE7, hR197⟩ := e7
    obtain ⟨v195, vE7⟩ : ∃ x, vf 7 = x := ⟨_, rfl⟩
    rw [vE7] at hR197
    obtain ⟨⟨xhR197, rfl, xhR197m⟩, rfl⟩ := hR197
    have xhR197w := lit4 xhR197m (by decide)
    refine dqQ [7] [4, 7] rfl (zcd (sk 243 (congrArg some vE4) (sk 246 (congrArg some vE7) (zaf _))) (by simp only [pE7, vE7, fS] <;> rfl) ?_)
    exact zcc (zbq (zax (cs := #[.int .i64 xhR193, .int .i64 xhR197, .int .i64 0]) rfl rfl rfl)) (fun _ _ h => ⟨h.1.trans (by show _ = (.agg #[.int .i64 (intOf_o (vf 4)), .int .i64 (intOf_o (vf 7)), .int .i64 0] : Value); first | (rw [vE4, vE7]; done) | (rw [vE4, vE7]; rfl)), h.2⟩)
   intro vf pf hmu hR
   have e4 : (∃ pm_, (pf 4) = [pm_] ∧ (fun u_ p_ => (∃ x : Int, u_ = .int .i64 x ∧ x ∈ ([1, 2] : List Int)) ∧ p_ = curE g a len cap) (vf 4) pm_) := hR 4 (by decide)
   obtain ⟨p192, pE4, hR193⟩ := e4
   obtain ⟨v191, vE4⟩ : ∃ x, vf 4 = x := ⟨_, rfl⟩
   rw [vE4] at hR193
   obtain ⟨⟨xhR193, rfl, xhR193m⟩, rfl⟩ := hR193
   have e7 : (∃ pm_, (pf 7) = [pm_] ∧ (fun u_ p_ => (∃ x : Int, u_ = .int .i64 x ∧ x ∈ ([1, 2, 0] : List Int)) ∧ p_ = curE g a len cap) (vf 7) pm_) := hR 7 (by decide)
   obtain ⟨p196, pE7, hR197⟩ := e7
   obtain ⟨v195, vE7⟩ : ∃ x, vf 7 = x := ⟨_, rfl⟩
   rw [vE7] at hR197
   obtain ⟨⟨xhR197, rfl, xhR197m⟩, rfl⟩ := hR197
   have xhR197w := lit4 xhR197m (by decide)
   have e8 : (vf 8) = .agg #[.int .i64 (intOf_o (vf 4)), .int .i64 (intOf_o (vf 7)), .int .i64 0] ∧ (pf 8) = [] := hR 8 (by decide)
   rw [vE4, vE7] at e8
   refine dqQ [7, 8] [4, 7, 8] rfl (zcd (sk 247 (congrArg some e8.1) (zaf _)) (by simp only [pE7, vE7, e8.2, fS] <;> rfl) ?_)
   exact zcc (zai (z := .agg #[.int .i64 0, .int .i64 0, .int .i64 0]) (s := 3) (cs := ([xhR193, xhR197, 0].map (Value.int .i64))) rfl Try.underlying30 rfl (by decide) rfl (by kernel_rfl) rfl) (fun v_ p_ h => by show IsRow 38 3 1 ([(intOf_o (vf 4)), (intOf_o (vf 7)), 0].map (Value.int .i64)) v_ p_; rw [vE4, vE7]; exact h)
  intro vf pf hmu hR
  have e1 := hR 1 (by decide)
  have e3 : IsRow 3 1 2 ([1, 2].map (Value.int .i64)) (vf 3) (pf 3) := hR 3 (by decide)
  obtain ⟨g190, vE3, pE3⟩ := e3
  have e4 : (∃ pm_, (pf 4) = [pm_] ∧ (fun u_ p_ => (∃ x : Int, u_ = .int .i64 x ∧ x ∈ ([1, 2] : List Int)) ∧ p_ = curE g a len cap) (vf 4) pm_) := hR 4 (by decide)
  obtain ⟨p192, pE4, hR193⟩ := e4
  obtain ⟨v191, vE4⟩ : ∃ x, vf 4 = x := ⟨_, rfl⟩
  rw [vE4] at hR193
  obtain ⟨⟨xhR193, rfl, xhR193m⟩, rfl⟩ := hR193
  have e6 : IsRow 3 1 3 ([1, 2, 0].map (Value.int .i64)) (vf 6) (pf 6) := hR 6 (by decide)
  obtain ⟨g194, vE6, pE6⟩ := e6
  have e7 : (∃ pm_, (pf 7) = [pm_] ∧ (fun u_ p_ => (∃ x : Int, u_ = .int .i64 x ∧ x ∈ ([1, 2, 0] : List Int)) ∧ p_ = curE g a len cap) (vf 7) pm_) := hR 7 (by decide)
  obtain ⟨p196, pE7, hR197⟩ := e7
  obtain ⟨v195, vE7⟩ : ∃ x, vf 7 = x := ⟨_, rfl⟩
  rw [vE7] at hR197
  obtain ⟨⟨xhR197, rfl, xhR197m⟩, rfl⟩ := hR197
  have xhR197w := lit4 xhR197m (by decide)
  have e9 : IsRow 38 3 1 ([(intOf_o (vf 4)), (intOf_o (vf 7)), 0].map (Value.int .i64)) (vf 9) (pf 9) := hR 9 (by decide)
  rw [vE4, vE7] at e9
  obtain ⟨g198, vE9, pE9⟩ := e9
  have q0 := hR 0 (by decide)
  have q1 := hR 1 (by decide)
  have q2 := hR 2 (by decide)
  have q5 := hR 5 (by decide)
  have q8 := hR 8 (by decide)
  refine zcr (zcg [233, 89, 55, 33, 23, 22, 8, 7, 6, 5, 4, 3, 1, 0] _ (sk 240 (congrArg some e1.1) (sk 248 (congrArg some vE9) (zaf _))) rfl) (by simp only [pE3, vE3, pE6, vE6, pE7, vE7, pE9, vE9, q0.2, q1.2, q2.2, q5.2, q8.2, fS] <;> rfl) ?_
  simp only [List.drop_succ_cons, List.drop_zero]
  refine zct (i := 5) (z := .agg #[.int .i64 0, .int .i64 0, .int .i64 0]) (bytes := 24) rfl rfl rfl rfl Try.underlying30 (by kernel_rfl) rfl rfl rfl rfl (zam 3 rfl) (zcn _) (by first | omega | (simp only [List.length_append, List.length_cons, List.length_nil]; omega)) (zcj m6.ss [(Sg.mk xhR193 xhR197 0)]) (zdc sgC m6.ss (Sg.mk xhR193 xhR197 0) _ rfl) (fun _ => rfl) ?_
  intro v199
  refine hvQ rfl (fdQ 0 rfl rfl rfl) (zdb (i := 5) rfl (fun ho200 => ?_))
  refine zec (i := 10) (cs' := #[v199, m6.av, m6.iv, m6.mv]) rfl rfl rfl rfl rfl rfl ho200 rfl rfl rfl rfl (ntQ ?_)
  refine hc_meet1 (α := Int) (fun kx => (rowE 3 1 (.slice (some ⟨g190, 0, none⟩) 2 2) 2 ([1, 2].map (Value.int .i64)) :: rowE 3 1 (.slice (some ⟨g194, 0, none⟩) 3 3) 3 ([1, 2, 0].map (Value.int .i64)) :: curE g a len cap :: rowE 38 3 (.slice (some ⟨g198, 0, none⟩) 1 1) 1 ([xhR193, xhR197, 0].map (Value.int .i64)) :: bigE ps6 :: rowE 38 3 v199 ((m6.ss ++ [Sg.mk kx xhR197 0]).length) ((m6.ss ++ [Sg.mk kx xhR197 0]).flatMap sgC) :: rowE 63 3 m6.iv m6.xs.length (m6.xs.flatMap ixC) :: rowE 94 4 m6.mv m6.ms.length (m6.ms.flatMap mmC) :: rowE 3 1 W2.1 W2.2.length (W2.2.map (Value.int .i64)) :: rowE 3 1 U6.1 U6.2.length (U6.2.map (Value.int .i64)) :: boxE b3 #[v199, m6.av, m6.iv, m6.mv] 35 :: boxE b2 #[.slice none 0 0, .slice none 0 0, .slice none 0 0, .slice none 0 0] 35 :: boxE b1 #[v] 26 :: l)) (fun kx => [(0, .pointer (some ⟨g, 0, none⟩)), (1, .agg #[v]), (3, .pointer (some ⟨b1, 0, none⟩)), (4, .pointer (some ⟨b2, 0, none⟩)), (5, .pointer (some ⟨b3, 0, none⟩)), (6, U6.1), (7, W2.1), (8, .int .i64 (1 + xhR187)), (22, .int .i64 (k6 : Int)), (23, .int .i64 (m6.ss.length : Int)), (33, .bool false), (55, .bool false), (89, .bool false), (233, .bool true)]) (fun kx => kx = 1 ∨ kx = 2) ?_ ?_
  ·
   refine zah (reQ 1 rfl ?_)
   refine zby rfl rfl rfl rfl rfl rfl (fun h201 => ?_) (fun h201 => ?_)
   ·
    refine ntQ (zaj rfl (zbb ?_))
    have hln9 : (m6.ss ++ [(Sg.mk xhR193 xhR197 0)]).length = m6.ss.length + 1 := by rw [List.length_append]; rfl
    refine hvQ rfl (fdQ 0 rfl rfl rfl) (hvQ rfl (zac rfl rfl rfl (zaa 10 rfl rfl)) (zak 1 rfl (hvQ rfl (riQ 3 rfl rfl rfl rfl (zam 5 rfl)) (hvQ rfl (zbe (k0 := 0) rfl rfl rfl (zam 5 rfl) (by omega)) ?_))))
    refine hl_stE (i := 5) (n' := ((m6.ss ++ [(Sg.mk xhR193 xhR197 0)]).set (((m6.ss.length : Int)).toNat) { (m6.ss ++ [(Sg.mk xhR193 xhR197 0)]).getD (((m6.ss.length : Int)).toNat) sg0 with k := 1 }).length) (xs' := (((m6.ss ++ [(Sg.mk xhR193 xhR197 0)]).set (((m6.ss.length : Int)).toNat) { (m6.ss ++ [(Sg.mk xhR193 xhR197 0)]).getD (((m6.ss.length : Int)).toNat) sg0 with k := 1 }).flatMap sgC)) rfl rfl rfl rfl rfl rfl rfl rfl (by first | omega | (simp only [List.length_set]; omega)) List.length_set.symm (flat_set sgC 3 (fun _ => rfl) _ sg0 _ (by first | omega | (simp only [List.length_set]; omega)) (by decide) rfl) rfl (zcx ?_)
    refine zdl (rowE 3 1 (.slice (some ⟨g190, 0, none⟩) 2 2) 2 ([1, 2].map (Value.int .i64)) :: rowE 3 1 (.slice (some ⟨g194, 0, none⟩) 3 3) 3 ([1, 2, 0].map (Value.int .i64)) :: curE g a len cap :: rowE 38 3 (.slice (some ⟨g198, 0, none⟩) 1 1) 1 ([xhR193, xhR197, 0].map (Value.int .i64)) :: bigE ps6 :: rowE 38 3 v199 ((m6.ss ++ [Sg.mk 1 xhR197 0]).length) ((m6.ss ++ [Sg.mk 1 xhR197 0]).flatMap sgC) :: rowE 63 3 m6.iv m6.xs.length (m6.xs.flatMap ixC) :: rowE 94 4 m6.mv m6.ms.length (m6.ms.flatMap mmC) :: rowE 3 1 W2.1 W2.2.length (W2.2.map (Value.int .i64)) :: rowE 3 1 U6.1 U6.2.length (U6.2.map (Value.int .i64)) :: boxE b3 #[v199, m6.av, m6.iv, m6.mv] 35 :: boxE b2 #[.slice none 0 0, .slice none 0 0, .slice none 0 0, .slice none 0 0] 35 :: boxE b1 #[v] 26 :: l) (fun w hm => by rw [show m6.ss ++ [Sg.mk 1 xhR197 0] = (m6.ss ++ [(Sg.mk xhR193 xhR197 0)]).set (((m6.ss.length : Int)).toNat) { (m6.ss ++ [(Sg.mk xhR193 xhR197 0)]).getD (((m6.ss.length : Int)).toNat) sg0 with k := 1 } from (setK_last (by omega)).symm]; exact hm) ?_
    exact zet 1 (.inl rfl) (saQ rfl) (.refl _)
   refine ntQ (fsQ rfl ?_)
   exact zet xhR193 (lit12 xhR193m) (saQ rfl) (.refl _)
  intro kx hm202
  have hkx9 := hm202
  refine srQ ?_
  refine zfb (p := (∀ g9 ∈ m6.gs, g9.ov.oneCell' = true) ∧ v199.oneCell' = true ∧ m6.av.oneCell' = true ∧ m6.iv.oneCell' = true ∧ m6.mv.oneCell' = true) (fun w hm => ⟨fun g9 hg9 => ((hp6 w (hm.holds _ (zbs (i := 4) rfl))).2.1 g9 hg9).one, (zam 5 rfl w hm).one, (hp6 w (hm.holds _ (zbs (i := 4) rfl))).1.one, (zam 6 rfl w hm).one, (zam 7 rfl w hm).one⟩) (fun ⟨hone9, ho9⟩ => ?_)
  refine zak 1 rfl (hvQ rfl (zaw (cs := [v199, m6.av, m6.iv, m6.mv]) rfl rfl rfl rfl rfl (zau 10 rfl 0 rfl)) (zak 2 rfl ?_))
  refine zdu (R := (fun u_ p_ => ∃ (v' ov : Value) (os : List Oq) (ps : List HP), u_ = .agg #[v199, v', m6.iv, m6.mv] ∧ p_ = bigE [curE g a len cap, bigE ps] ∧ (∀ w, (bigE ps).holds w → RdsW w v' 2 (m6.gs ++ [As.mk (m6.ss.length : Int) ov os]).length ((m6.gs ++ [As.mk (m6.ss.length : Int) ov os]).flatMap asC) ∧ RdsW w ov 3 os.length (os.flatMap oqC)) ∧ v'.oneCell' = true ∧ ov.oneCell' = true ∧ ExP (m6.ss.length : Int) 9 os)) 2 rfl rfl rfl rfl rfl (fun L w hX hm => zdg g a len cap z (m6.ss.length : Int) (Md.mk v199 m6.av m6.iv m6.mv (m6.ss ++ [Sg.mk kx xhR197 0]) m6.gs m6.xs m6.ms) (m6.ss.length : Int) U6.1 _ _ _ _ hm hb (fun w9 h9 => (zam (l := (rowE 3 1 (.slice (some ⟨g190, 0, none⟩) 2 2) 2 ([1, 2].map (Value.int .i64)) :: rowE 3 1 (.slice (some ⟨g194, 0, none⟩) 3 3) 3 ([1, 2, 0].map (Value.int .i64)) :: rowE 38 3 (.slice (some ⟨g198, 0, none⟩) 1 1) 1 ([xhR193, xhR197, 0].map (Value.int .i64)) :: bigE ps6 :: rowE 38 3 v199 ((m6.ss ++ [Sg.mk kx xhR197 0]).length) ((m6.ss ++ [Sg.mk kx xhR197 0]).flatMap sgC) :: rowE 63 3 m6.iv m6.xs.length (m6.xs.flatMap ixC) :: rowE 94 4 m6.mv m6.ms.length (m6.ms.flatMap mmC) :: rowE 3 1 W2.1 W2.2.length (W2.2.map (Value.int .i64)) :: rowE 3 1 U6.1 U6.2.length (U6.2.map (Value.int .i64)) :: boxE b3 #[v199, m6.av, m6.iv, m6.mv] 35 :: boxE b2 #[.slice none 0 0, .slice none 0 0, .slice none 0 0, .slice none 0 0] 35 :: boxE b1 #[v] 26 :: l)) 8 rfl) w9 (hX w9 h9)) (fun x hx => h6.av x hx) (by have h9 := h6.na; omega) (fun w9 h9 => (hp6 w9 ((hX w9 h9).holds _ (zbs (i := 3) rfl))).1) (by have h9 := h6.ng; show m6.gs.length ≤ 1000; omega) hone9 ⟨ho9.1, ho9.2.1, ho9.2.2.1, ho9.2.2.2⟩) ?_
  intro v203 p204 hR205
  obtain ⟨avhR205, ovhR205, oshR205, aphR205, rfl, rfl, haphR205, oavhR205, oovhR205, hoshR205⟩ := hR205
  refine zci (l' := (rowE 3 1 (.slice (some ⟨g190, 0, none⟩) 2 2) 2 ([1, 2].map (Value.int .i64)) :: rowE 3 1 (.slice (some ⟨g194, 0, none⟩) 3 3) 3 ([1, 2, 0].map (Value.int .i64)) :: bigE [curE g a len cap, bigE aphR205] :: rowE 38 3 (.slice (some ⟨g198, 0, none⟩) 1 1) 1 ([xhR193, xhR197, 0].map (Value.int .i64)) :: bigE ps6 :: rowE 38 3 v199 ((m6.ss ++ [Sg.mk kx xhR197 0]).length) ((m6.ss ++ [Sg.mk kx xhR197 0]).flatMap sgC) :: rowE 63 3 m6.iv m6.xs.length (m6.xs.flatMap ixC) :: rowE 94 4 m6.mv m6.ms.length (m6.ms.flatMap mmC) :: rowE 3 1 W2.1 W2.2.length (W2.2.map (Value.int .i64)) :: rowE 3 1 U6.1 U6.2.length (U6.2.map (Value.int .i64)) :: boxE b3 #[v199, m6.av, m6.iv, m6.mv] 35 :: boxE b2 #[.slice none 0 0, .slice none 0 0, .slice none 0 0, .slice none 0 0] 35 :: boxE b1 #[v] 26 :: l)) rfl ?_
  refine zbn (cs' := #[v199, avhR205, m6.iv, m6.mv]) (i := 10) (off := 0) (us := [v199, avhR205, m6.iv, m6.mv]) rfl rfl rfl rfl rfl rfl rfl (zad ho200 (zad oavhR205 (zad ho9.2.2.1 (zad ho9.2.2.2 zbg)))) rfl rfl rfl (ntQ (reQ 2 rfl ?_))
  refine zeb rfl (zai (z := .int .i64 0) (s := 1) (cs := ([(m6.ss.length : Int)].map (Value.int .i64))) rfl Try.underlying48 rfl (by decide) rfl (by kernel_rfl) rfl) ?_
  intro g206
  refine zct (i := 10) (z := .int .i64 0) (bytes := 8) rfl rfl rfl rfl Try.underlying48 (by kernel_rfl) rfl rfl rfl rfl (zam 0 rfl) (zcn _) (by first | omega | (simp; done) | (simp; omega)) (zcj U6.2 ([(m6.ss.length : Int)])) (zdh U6.2 ([(m6.ss.length : Int)])) (fun _ => rfl) ?_
  intro v207
  refine enQ 1 rfl (zdq (reQ 1 rfl (hvQ rfl (vaQ rfl rfl rfl) (enQ 1 rfl ?_))))
  refine zbd 14 [13, 12, 11, 10, 9, 8, 7, 6, 5, 4, 2, 1, 0, 3] rfl rfl (by decide) ?_
  refine zdl (curE g a len cap :: bigE aphR205 :: rowE 3 1 (.slice (some ⟨g206, 0, none⟩) 1 1) 1 ([(m6.ss.length : Int)].map (Value.int .i64)) :: rowE 3 1 (.slice (some ⟨g190, 0, none⟩) 2 2) 2 ([1, 2].map (Value.int .i64)) :: rowE 3 1 (.slice (some ⟨g194, 0, none⟩) 3 3) 3 ([1, 2, 0].map (Value.int .i64)) :: rowE 38 3 (.slice (some ⟨g198, 0, none⟩) 1 1) 1 ([xhR193, xhR197, 0].map (Value.int .i64)) :: bigE ps6 :: rowE 38 3 v199 ((m6.ss ++ [Sg.mk kx xhR197 0]).length) ((m6.ss ++ [Sg.mk kx xhR197 0]).flatMap sgC) :: rowE 63 3 m6.iv m6.xs.length (m6.xs.flatMap ixC) :: rowE 94 4 m6.mv m6.ms.length (m6.ms.flatMap mmC) :: rowE 3 1 W2.1 W2.2.length (W2.2.map (Value.int .i64)) :: rowE 3 1 v207 ((U6.2 ++ ([(m6.ss.length : Int)])).length) ((U6.2 ++ ([(m6.ss.length : Int)])).map (Value.int .i64)) :: boxE b3 #[v199, avhR205, m6.iv, m6.mv] 35 :: boxE b2 #[.slice none 0 0, .slice none 0 0, .slice none 0 0, .slice none 0 0] 35 :: boxE b1 #[v] 26 :: l) zcw ?_
  refine zbd 15 [14, 13, 12, 11, 10, 9, 8, 7, 5, 4, 3, 2, 0, 1, 6] rfl rfl (by decide) ?_
  refine zbu 2 rfl ?_
  refine zbd 14 [1, 13, 12, 11, 10, 9, 8, 7, 6, 0] rfl rfl (by decide) ?_
  exact zda (k6 + 1) (Md.mk v199 avhR205 m6.iv m6.mv (m6.ss ++ [Sg.mk kx xhR197 0]) (m6.gs ++ [As.mk (m6.ss.length : Int) ovhR205 oshR205]) m6.xs m6.ms) (v207, U6.2 ++ ([(m6.ss.length : Int)])) [bigE ps6, bigE aphR205] ⟨by omega, (((h6.out _ hkx9 (by assumption) mem_app2).asg _ (List.mem_append_right _ List.mem_cons_self) _ hoshR205 (by show (m6.ss.length : Int) ≤ ((_ : List Sg).length : Int); rw [List.length_append]; omega) (mem_less h6.plt)).avl (last_in (m := m6) .nilFunc _) (e := 1) (by simp)).up (by omega) (by omega) (by omega) (by omega) (by omega) (by omega), fun w hw => ⟨(haphR205 w (zas hw (List.mem_cons_of_mem _ List.mem_cons_self))).1, (hp6 w (zas hw List.mem_cons_self)).2.1.app (haphR205 w (zas hw (List.mem_cons_of_mem _ List.mem_cons_self))).2, (hp6 w (zas hw List.mem_cons_self)).2.2⟩⟩ (by omega) (saQ rfl) (.refl _)
 refine ntQ (zap rfl ?_)
 refine zbv (zep ?_)
 refine zan (zbf (zah (zbk 1 rfl (zbh ?_))))
 refine lkQ3 (α := Nat) (β := Md) (γ := List HP) [0, 1, 3, 4, 5, 6, 7, 33, 55, 89, 233] rfl (fun k7 m7 ps7 => (bigE ps7 :: rowE 38 3 m7.sv m7.ss.length (m7.ss.flatMap sgC) :: rowE 63 3 m7.iv m7.xs.length (m7.xs.flatMap ixC) :: rowE 94 4 m7.mv m7.ms.length (m7.ms.flatMap mmC) :: rowE 3 1 W2.1 W2.2.length (W2.2.map (Value.int .i64)) :: rowE 3 1 U6.1 U6.2.length (U6.2.map (Value.int .i64)) :: boxE b3 #[m7.sv, m7.av, m7.iv, m7.mv] 35 :: boxE b2 #[.slice none 0 0, .slice none 0 0, .slice none 0 0, .slice none 0 0] 35 :: boxE b1 #[v] 26 :: curE g a len cap :: l)) (fun k7 m7 ps7 => [(24, .int .i64 (k7 : Int))]) (fun k7 m7 ps7 => k7 ≤ W2.2.length ∧ MI D m7 U6.2 (W2.2.drop k7) 18 (13 + k7) 2 1 4 15 ∧ ∀ w, (bigE ps7).holds w → RdP w m7) (fun k7 m7 ps7 => W2.2.length - k7) 0 m6 ps6 ⟨Nat.zero_le _, h6.up (by omega) (by omega) (by omega) (by omega) (by omega) (by omega), hp6⟩ (saQ rfl) (.refl _) ?_
 intro k7 m7 ps7 hi208
 obtain ⟨hk7, h7, hp7⟩ := hi208
 refine zah (zah (reQ 2 rfl (hvQ rfl (lnQ rfl rfl rfl (zam 4 rfl)) ?_)))
 refine zcb rfl rfl rfl rfl rfl rfl (fun h209 => ?_) (fun h209 => ?_)
 ·
  refine ntQ (zaj rfl (zdi (sbQ ?_)))
  refine hc_know (p := (∀ g9 ∈ m7.gs, g9.ov.oneCell' = true) ∧ m7.sv.oneCell' = true ∧ m7.av.oneCell' = true ∧ m7.iv.oneCell' = true ∧ m7.mv.oneCell' = true) (fun w hm => ⟨fun g9 hg9 => ((hp7 w (hm.holds _ (zbs (i := 0) rfl))).2.1 g9 hg9).one, (zam 1 rfl w hm).one, (hp7 w (hm.holds _ (zbs (i := 0) rfl))).1.one, (zam 2 rfl w hm).one, (zam 3 rfl w hm).one⟩) (fun ⟨hone9, ho9⟩ => ?_)
  refine zfc 10 [8, 7, 6, 5, 4, 3, 2, 1, 0, 9] rfl rfl (by decide) ?_
  refine zei (l := (bigE ps7 :: rowE 38 3 m7.sv m7.ss.length (m7.ss.flatMap sgC) :: rowE 63 3 m7.iv m7.xs.length (m7.xs.flatMap ixC) :: rowE 94 4 m7.mv m7.ms.length (m7.ms.flatMap mmC) :: rowE 3 1 W2.1 W2.2.length (W2.2.map (Value.int .i64)) :: rowE 3 1 U6.1 U6.2.length (U6.2.map (Value.int .i64)) :: boxE b3 #[m7.sv, m7.av, m7.iv, m7.mv] 35 :: boxE b2 #[.slice none 0 0, .slice none 0 0, .slice none 0 0, .slice none 0 0] 35 :: boxE b1 #[v] 26 :: l)) rfl 8 [0, 1, 2, 3, 4, 5, 6, 7] (List.take 8 _) (List.drop 8 _) [[], [], [], [], [2, 3], [4], [], [0, 1, 5, 6]] [273, 274, 275, 276, 277, 278, 279, 280] (fun i_ vs_ v_ p_ => match i_ with | 0 => v_ = .pointer (some ⟨g, 0, none⟩) ∧ p_ = [] | 1 => v_ = .agg #[m7.sv, m7.av, m7.iv, m7.mv] ∧ p_ = [] | 2 => v_ = W2.1 ∧ p_ = [] | 3 => v_ = .int .i64 (k7 : Int) ∧ p_ = [] | 4 => v_ = elP W2.1 (((k7 : Int)).toNat * 1) ∧ p_ = [] | 5 => v_ = .int .i64 (W2.2.getD k7 0) ∧ p_ = [] | 6 => v_ = U6.1 ∧ p_ = [] | 7 => (∃ pm_, p_ = [pm_] ∧ (fun u_ p_ => ∃ (v' ov : Value) (os : List Oq) (ps : List HP), u_ = .agg #[m7.sv, v', m7.iv, m7.mv] ∧ p_ = bigE [curE g a len cap, bigE ps] ∧ (∀ w, (bigE ps).holds w → RdsW w v' 2 (m7.gs ++ [As.mk (W2.2.getD k7 0) ov os]).length ((m7.gs ++ [As.mk (W2.2.getD k7 0) ov os]).flatMap asC) ∧ RdsW w ov 3 os.length (os.flatMap oqC)) ∧ v'.oneCell' = true ∧ ov.oneCell' = true ∧ ExP (m7.ss.length : Int) 9 os) v_ pm_) | _ => True) [[], [], [], [], [2, 3], [4], [], [0, 1, 5, 6]] [none, none, none, none, none, none, none, some 9] [curE g a len cap] [0, 1, 2, 3, 4, 5, 6, 7] 9 (List.take_append_drop 8 _).symm (by kernel_rfl) (by kernel_rfl) (by kernel_rfl) rfl rfl ?_ ?_
  ·
   refine ⟨?_, ?_, ?_, ?_, ?_, ?_, ?_, ?_, trivial⟩
   ·
    intro vf pf hmu hR
    refine dqQ [] [] rfl (zbr (zao [0] rfl) ?_)
    exact zbq (zay rfl)
   ·
    intro vf pf hmu hR
    refine dqQ [] [] rfl (zaz (zao [5] rfl) (List.sublist_append_right _ _) ?_)
    exact zbq (zaw (cs := [m7.sv, m7.av, m7.iv, m7.mv]) rfl rfl rfl rfl rfl (zau 6 rfl 0 rfl))
   ·
    intro vf pf hmu hR
    refine dqQ [] [] rfl (zbr (zao [7] rfl) ?_)
    exact zbq (zay rfl)
   ·
    intro vf pf hmu hR
    refine dqQ [] [] rfl (zbr (zao [24] rfl) ?_)
    exact zbq (zay rfl)
   ·
    intro vf pf hmu hR
    have e2 := hR 2 (by decide)
    have e3 := hR 3 (by decide)
    refine dqQ [2, 3] [2, 3] rfl (zaz (sk 275 (congrArg some e2.1) (sk 276 (congrArg some e3.1) (zaf _))) (List.sublist_append_right _ _) ?_)
    exact zbq (riQ 1 rfl rfl rfl rfl (zam 4 rfl))
   ·
    intro vf pf hmu hR
    have e4 := hR 4 (by decide)
    refine dqQ [4] [4] rfl (zaz (sk 277 (congrArg some e4.1) (zaf _)) (List.sublist_append_right _ _) ?_)
    exact zbq (liQ rfl rfl rfl (zam 4 rfl))
   ·
    intro vf pf hmu hR
    refine dqQ [] [] rfl (zbr (zao [6] rfl) ?_)
    exact zbq (zay rfl)
   intro vf pf hmu hR
   have e0 := hR 0 (by decide)
   have e1 := hR 1 (by decide)
   have e5 := hR 5 (by decide)
   have e6 := hR 6 (by decide)
   refine Or.inl ⟨rfl, ?_⟩
   show RunM _ _ _ (pf 9) (([0, 1, 5, 6] : List Nat).flatMap pf ++ _) (envOf _ vf [0, 1, 5, 6] ++ _) _ _
   rw [hmu]
   refine zcp (sk 273 (congrArg some e0.1) (sk 274 (congrArg some e1.1) (sk 278 (congrArg some e5.1) (sk 279 (congrArg some e6.1) (zaf _))))) (by simp only [e0.2, e1.2, e5.2, e6.2, fS] <;> rfl) ?_
   exact zcy (R := (fun u_ p_ => ∃ (v' ov : Value) (os : List Oq) (ps : List HP), u_ = .agg #[m7.sv, v', m7.iv, m7.mv] ∧ p_ = bigE [curE g a len cap, bigE ps] ∧ (∀ w, (bigE ps).holds w → RdsW w v' 2 (m7.gs ++ [As.mk (W2.2.getD k7 0) ov os]).length ((m7.gs ++ [As.mk (W2.2.getD k7 0) ov os]).flatMap asC) ∧ RdsW w ov 3 os.length (os.flatMap oqC)) ∧ v'.oneCell' = true ∧ ov.oneCell' = true ∧ ExP (m7.ss.length : Int) 9 os)) rfl rfl (fun L w hX hm => zdg g a len cap z (m7.ss.length : Int) (Md.mk m7.sv m7.av m7.iv m7.mv m7.ss m7.gs m7.xs m7.ms) (W2.2.getD k7 0) U6.1 _ _ _ _ hm hb (fun w9 h9 => (zam (l := (bigE ps7 :: rowE 38 3 m7.sv m7.ss.length (m7.ss.flatMap sgC) :: rowE 63 3 m7.iv m7.xs.length (m7.xs.flatMap ixC) :: rowE 94 4 m7.mv m7.ms.length (m7.ms.flatMap mmC) :: rowE 3 1 W2.1 W2.2.length (W2.2.map (Value.int .i64)) :: rowE 3 1 U6.1 U6.2.length (U6.2.map (Value.int .i64)) :: boxE b3 #[m7.sv, m7.av, m7.iv, m7.mv] 35 :: boxE b2 #[.slice none 0 0, .slice none 0 0, .slice none 0 0, .slice none 0 0] 35 :: boxE b1 #[v] 26 :: l)) 5 rfl) w9 (hX w9 h9)) (fun x hx => h7.av x hx) (by have h9 := h7.na; omega) (fun w9 h9 => (hp7 w9 ((hX w9 h9).holds _ (zbs (i := 0) rfl))).1) (by have h9 := h7.ng; show m7.gs.length ≤ 1000; omega) hone9 ⟨ho9.1, ho9.2.1, ho9.2.2.1, ho9.2.2.2⟩)
  intro vf pf hmu hR
  have e7 : (∃ pm_, (pf 7) = [pm_] ∧ (fun u_ p_ => ∃ (v' ov : Value) (os : List Oq) (ps : List HP), u_ = .agg #[m7.sv, v', m7.iv, m7.mv] ∧ p_ = bigE [curE g a len cap, bigE ps] ∧ (∀ w, (bigE ps).holds w → RdsW w v' 2 (m7.gs ++ [As.mk (W2.2.getD k7 0) ov os]).length ((m7.gs ++ [As.mk (W2.2.getD k7 0) ov os]).flatMap asC) ∧ RdsW w ov 3 os.length (os.flatMap oqC)) ∧ v'.oneCell' = true ∧ ov.oneCell' = true ∧ ExP (m7.ss.length : Int) 9 os) (vf 7) pm_) := hR 7 (by decide)
  obtain ⟨p211, pE7, hR212⟩ := e7
  obtain ⟨v210, vE7⟩ : ∃ x, vf 7 = x := ⟨_, rfl⟩
  rw [vE7] at hR212
  obtain ⟨avhR212, ovhR212, oshR212, aphR212, rfl, rfl, haphR212, oavhR212, oovhR212, hoshR212⟩ := hR212
  have q0 := hR 0 (by decide)
  have q1 := hR 1 (by decide)
  have q2 := hR 2 (by decide)
  have q3 := hR 3 (by decide)
  have q4 := hR 4 (by decide)
  have q5 := hR 5 (by decide)
  have q6 := hR 6 (by decide)
  refine zcr (zcg [270, 233, 89, 55, 33, 24, 7, 6, 5, 4, 3, 1, 0] _ (sk 280 (congrArg some vE7) (zaf _)) rfl) (by simp only [pE7, vE7, q0.2, q1.2, q2.2, q3.2, q4.2, q5.2, q6.2, fS] <;> rfl) ?_
  simp only [List.drop_succ_cons, List.drop_zero]
  refine zbn (cs' := #[m7.sv, avhR212, m7.iv, m7.mv]) (i := 7) (off := 0) (us := [m7.sv, avhR212, m7.iv, m7.mv]) rfl rfl rfl rfl rfl rfl rfl (zad ho9.1 (zad oavhR212 (zad ho9.2.2.1 (zad ho9.2.2.2 zbg)))) rfl rfl rfl (zcx (zdq (reQ 1 rfl (hvQ rfl (vaQ rfl rfl rfl) (enQ 1 rfl ?_)))))
  have hpd9 := pendR hW2 (show k7 < W2.2.length by omega)
  refine zbd 10 [9, 8, 7, 6, 5, 4, 3, 2, 1, 0] rfl rfl (by decide) ?_
  refine zdl (curE g a len cap :: bigE aphR212 :: bigE ps7 :: rowE 38 3 m7.sv m7.ss.length (m7.ss.flatMap sgC) :: rowE 63 3 m7.iv m7.xs.length (m7.xs.flatMap ixC) :: rowE 94 4 m7.mv m7.ms.length (m7.ms.flatMap mmC) :: rowE 3 1 W2.1 W2.2.length (W2.2.map (Value.int .i64)) :: rowE 3 1 U6.1 U6.2.length (U6.2.map (Value.int .i64)) :: boxE b3 #[m7.sv, avhR212, m7.iv, m7.mv] 35 :: boxE b2 #[.slice none 0 0, .slice none 0 0, .slice none 0 0, .slice none 0 0] 35 :: boxE b1 #[v] 26 :: l) zcw ?_
  refine zbd 11 [10, 9, 8, 7, 6, 5, 4, 3, 0, 1, 2] rfl rfl (by decide) ?_
  refine zbu 2 rfl ?_
  refine zbd 10 [1, 9, 8, 7, 6, 5, 4, 3, 2, 0] rfl rfl (by decide) ?_
  exact zdt (k7 + 1) (Md.mk m7.sv avhR212 m7.iv m7.mv m7.ss (m7.gs ++ [As.mk (W2.2.getD k7 0) ovhR212 oshR212]) m7.xs m7.ms) [bigE ps7, bigE aphR212] ⟨by omega, (h7.asg _ hpd9.1 _ hoshR212 (by show (m7.ss.length : Int) ≤ (m7.ss.length : Int); omega) hpd9.2).up (by omega) (by omega) (by omega) (by omega) (by omega) (by omega), fun w hw => ⟨(haphR212 w (zas hw (List.mem_cons_of_mem _ List.mem_cons_self))).1, (hp7 w (zas hw List.mem_cons_self)).2.1.app (haphR212 w (zas hw (List.mem_cons_of_mem _ List.mem_cons_self))).2, (hp7 w (zas hw List.mem_cons_self)).2.2⟩⟩ (by omega) (saQ rfl) (.refl _)
 refine ntQ (zap rfl ?_)
 refine zbv (zep ?_)
 refine zan (zbf (srQ ?_))
 refine zfb (p := (∀ g9 ∈ m7.gs, g9.ov.oneCell' = true) ∧ m7.sv.oneCell' = true ∧ m7.av.oneCell' = true ∧ m7.iv.oneCell' = true ∧ m7.mv.oneCell' = true) (fun w hm => ⟨fun g9 hg9 => ((hp7 w (hm.holds _ (zbs (i := 0) rfl))).2.1 g9 hg9).one, (zam 1 rfl w hm).one, (hp7 w (hm.holds _ (zbs (i := 0) rfl))).1.one, (zam 2 rfl w hm).one, (zam 3 rfl w hm).one⟩) (fun ⟨hone9, ho9⟩ => ?_)
 refine hvQ rfl (zaw (cs := [m7.sv, m7.av, m7.iv, m7.mv]) rfl rfl rfl rfl rfl (zau 6 rfl 0 rfl)) (zbn (cs' := #[m7.sv, m7.av, m7.iv, m7.mv]) (i := 7) (off := 0) (us := [m7.sv, m7.av, m7.iv, m7.mv]) rfl rfl rfl rfl rfl rfl rfl (zad ho9.1 (zad ho9.2.1 (zad ho9.2.2.1 (zad ho9.2.2.2 zbg)))) rfl rfl rfl ?_)
 refine ntQ ?_
 refine zal (hq_know (p := m7.sv.oneCell' = true ∧ m7.av.oneCell' = true ∧ m7.iv.oneCell' = true ∧ m7.mv.oneCell' = true) (fun w hm => ⟨(zam 1 rfl w hm).one, (hp7 w (hm.holds _ (zbs (i := 0) rfl))).1.one, (zam 2 rfl w hm).one, (zam 3 rfl w hm).one⟩) (fun ho9 => ?_))
 refine zbd 10 [9, 8, 7, 6, 5, 4, 0, 3, 2, 1] rfl rfl (by decide) ?_
 refine zbu 4 rfl ?_
 refine zbd 7 [5, 4, 3, 2, 1, 0, 6] rfl rfl (by decide) ?_
 refine zbu 2 rfl ?_
 exact zcv (rs := [.cell 4 35]) (vs := [.agg #[m7.sv, m7.av, m7.iv, m7.mv]]) rfl ⟨⟨b2, 0, [m7.sv, m7.av, m7.iv, m7.mv], rfl, rfl, by kernel_rfl, by kernel_rfl, zau 4 rfl 0 rfl⟩, trivial⟩ rfl (fun w hm => ⟨_, bigE [curE g a len cap, bigE [rowE 38 3 m7.sv m7.ss.length (m7.ss.flatMap sgC), rowE 63 3 m7.iv m7.xs.length (m7.xs.flatMap ixC), rowE 94 4 m7.mv m7.ms.length (m7.ms.flatMap mmC), bigE ps7]], rfl, ⟨m7, [rowE 38 3 m7.sv m7.ss.length (m7.ss.flatMap sgC), rowE 63 3 m7.iv m7.xs.length (m7.xs.flatMap ixC), rowE 94 4 m7.mv m7.ms.length (m7.ms.flatMap mmC), bigE ps7], rfl, rfl, fun w hw => ⟨zcl (zas hw List.mem_cons_self), (hp7 w (zas hw (List.mem_cons_of_mem _ (List.mem_cons_of_mem _ (List.mem_cons_of_mem _ List.mem_cons_self))))).1, (hp7 w (zas hw (List.mem_cons_of_mem _ (List.mem_cons_of_mem _ (List.mem_cons_of_mem _ List.mem_cons_self))))).2.1, zcl (zas hw (List.mem_cons_of_mem _ List.mem_cons_self)), (hp7 w (zas hw (List.mem_cons_of_mem _ (List.mem_cons_of_mem _ (List.mem_cons_of_mem _ List.mem_cons_self))))).2.2, zcl (zas hw (List.mem_cons_of_mem _ (List.mem_cons_of_mem _ List.mem_cons_self)))⟩, ho9, by have h9 := h7; rw [show k7 = W2.2.length by omega, List.drop_length] at h9; exact h9.fin (by omega) (by omega) (by omega) (by omega) (by omega)⟩, hm.sub (.cons_cons _ (.cons _ (.cons _ (.cons _ (.cons _ (.cons _ (.refl _)))))))⟩)
def tauOk4 (os : List Oper) (m K : Nat) (dps qd : List (List Nat)) (tau : List (Option Nat)) (fl : List Nat) : Bool :=
  (List.range m).all (fun i => (qd.getD i []).all (fun j => ((dps.getD i []).contains j || (Nat.ble os.length j && Nat.blt j (os.length + K))) && (List.range m).all (fun k => tau.getD k none != some j || (k != i && ((msk ((List.range os.length).map (depsOf os)) []).getD k 0).testBit i))) && decide ((qd.getD i []).Nodup)) &&
  (List.range m).all (fun i => match tau.getD i none with | none => true | some h => ((Nat.ble os.length h && Nat.blt h (os.length + K)) || (dps.getD i []).contains h) && (List.range m).all (fun k => k == i || tau.getD k none != some h)) &&
  fl.all (fun j => (Nat.blt j m || (Nat.ble os.length j && Nat.blt j (os.length + K))) && (List.range m).all (fun k => tau.getD k none != some j)) && decide fl.Nodup
section
variable {P : Program} {N : Nat} {w0 : World} {l : List HP} {env : List (Nat × Value)} {Q : Post} {os : List Oper} {m : Nat} {dps : List (List Nat)} {dsts : List (Option Nat)} {R : Nat → List Value → Value → List HP → Prop}
structure Mid4 (N : Nat) (w0 : World) (l : List HP) (env : List (Nat × Value)) (os : List Oper) (m : Nat) (dps : List (List Nat)) (dsts : List (Option Nat)) (R : Nat → List Value → Value → List HP → Prop) (tau : List (Option Nat)) (P0 : List (List HP)) (listed : Array Bool) (ord held : List Nat) (vf : Nat → Value) (pf : Nat → List HP) (a : Act) (w : World) : Prop where
  size : listed.size = os.length
  iff : ∀ i, i < os.length → (listed.getD i true = true ↔ i ∈ ord)
  low : ∀ i ∈ ord, i < m
  closed : ∀ i ∈ ord, ∀ j ∈ depsOf os i, j ∈ ord
  nodup : ord.Nodup
  dcl : ∀ i ∈ ord, ∀ j ∈ dps.getD i [], j ∈ ord
  rel : ∀ i ∈ ord, R i ((dps.getD i []).map vf) (vf i) (pf i)
  hn : held.Nodup
  hin : ∀ i ∈ held, i ∈ ord ∨ (os.length ≤ i ∧ i < os.length + P0.length)
  hall : ∀ i, (i ∈ ord ∨ (os.length ≤ i ∧ i < os.length + P0.length)) → (∀ j ∈ ord, tau.getD j none ≠ some i) → i ∈ held
  hP : ∀ k, k < P0.length → pf (os.length + k) = P0.getD k []
  mem : Mem w0 (held.flatMap pf ++ l) w
  asize : a.tmps.size = N
  defers : a.defers = []
  env : ∀ d v, lk env d = some v → a.tmps[d]? = some v
  slots : ∀ i ∈ ord, ∀ d, dsts[i]? = some (some d) → a.tmps[d]? = some (vf i)
theorem Mid4.st {tau P0 listed ord held vf pf a w} (h : Mid4 N w0 l env os m dps dsts R tau P0 listed ord held vf pf a w) (hm : m ≤ dsts.length) {is : List Nat} (hs : ∀ j ∈ is, j ∈ ord) {L : List HP} (hM : Mem w0 L w) : St N w0 L (envOf3 dsts vf is ++ env) a w := by
  refine ⟨hM, h.asize, h.defers, fun d v hd => ?_⟩
  rcases lk_append _ _ _ _ hd with h1 | h1
  · unfold envOf3 at h1
    rw [List.mem_filterMap] at h1
    obtain ⟨i, hi, he⟩ := h1
    rw [Option.map_eq_some_iff] at he
    obtain ⟨d', hd', he⟩ := he
    simp only [Prod.mk.injEq] at he
    obtain ⟨rfl, rfl⟩ := he
    have : dsts[i]? = some (some d') := by
      rw [List.getD_eq_getElem?_getD] at hd'
      cases hx : dsts[i]? with
      | none => rw [hx] at hd'; cases hd'
      | some y => rw [hx] at hd'; exact congrArg some hd'
    exact h.slots i (hs i hi) _ this
  · exact h.env d v h1
theorem hc_drawn4 {id : Nat} (hmix : P.follows .mixedOrders = true) (m : Nat) (dps : List (List Nat)) (dsts : List (Option Nat)) (R : Nat → List Value → Value → List HP → Prop) (qd : List (List Nat)) (tau : List (Option Nat)) (P0 : List (List HP)) (fl : List Nat) (hok : drawOk3 os m dps dsts = true) (htau : tauOk4 os m P0.length dps qd tau fl = true) (hfresh : dsts.all (fun d => match d with | some d => (lk env d).isNone | none => true) = true) (hN : dsts.all (fun d => match d with | some d => Nat.blt d N | none => true) = true)
    (due : ∀ i o, os[i]? = some o → i < m → ∀ vf pf, (∀ k, k < P0.length → pf (os.length + k) = P0.getD k []) → (∀ j ∈ dps.getD i [], R j ((dps.getD j []).map vf) (vf j) (pf j)) → Obl2 P os.toArray N w0 (tau.getD i none) pf ((qd.getD i []).flatMap pf ++ l) (envOf3 dsts vf (dps.getD i []) ++ env) o (R i ((dps.getD i []).map vf)))
    (fin : ∀ vf pf, (∀ k, k < P0.length → pf (os.length + k) = P0.getD k []) → (∀ i, i < m → R i ((dps.getD i []).map vf) (vf i) (pf i)) → HL P N os.toArray w0 (fl.flatMap pf ++ l) (envOf3 dsts vf (List.range m) ++ env) (os.drop m) Q) : HC P N w0 (P0.flatten ++ l) env (.region id os.toArray true) Q := by
  intro a w st
  refine wp_region_any hmix ?_
  simp only [drawOk3, Bool.and_eq_true, Nat.ble_eq, List.all_eq_true, List.mem_range, Bool.or_eq_true, Nat.blt_eq, beq_iff_eq, decide_eq_true_eq, Array.all_eq_true', bne_iff_ne] at hok
  obtain ⟨⟨⟨⟨⟨⟨hml, hback⟩, hcov⟩, hready⟩, hdst⟩, hdn⟩, hdp⟩ := hok
  simp only [tauOk4, Bool.and_eq_true, List.all_eq_true, List.mem_range, Bool.or_eq_true, Nat.blt_eq, Nat.ble_eq, beq_iff_eq, bne_iff_ne, decide_eq_true_eq, List.contains_iff_mem] at htau
  obtain ⟨⟨⟨hqd, hth⟩, hfl⟩, hfn⟩ := htau
  have hml' : m ≤ dsts.length := by have := congrArg List.length hdst; simp at this; omega
  have hlen : dsts.length = m := by have := congrArg List.length hdst; simp at this; omega
  have hrdy : ∀ k, m ≤ k → k < os.length → Region.ready .any os.toArray (preT os.length k) = [k] := fun k h1 h2 => by
    have := hready (k - m) (by omega)
    rw [show m + (k - m) = k by omega] at this
    exact this
  have hmsk : ∀ i j, ((msk ((List.range os.length).map (depsOf os)) []).getD i 0).testBit j = true → Dep os i j := msk_dep os _ _ (fun t ds ht d hd => by
    rw [List.getElem?_map] at ht
    by_cases h : t < os.length
    · rw [List.getElem?_range h] at ht; simp at ht; subst ht; simpa using hd
    · rw [List.getElem?_eq_none (by simp; omega)] at ht; cases ht) (fun i j h => by simp at h)
  have dstAt : ∀ i, i < m → ∀ o, os[i]? = some o → o.dst = dsts.getD i none := fun i hi o ho => by
    have h1 : ((os.take m).map (·.dst))[i]? = some o.dst := by rw [List.getElem?_map, List.getElem?_take, if_pos hi, ho]; rfl
    rw [hdst] at h1
    rw [List.getD_eq_getElem?_getD, h1]; rfl
  -- what may come up
  have key : ∀ (f : Nat) (listed : Array Bool) (ord held : List Nat) (vf : Nat → Value) (pf : Nat → List HP) (a : Act) (w : World), f + ord.length = os.length → Mid4 N w0 l env os m dps dsts R tau P0 listed ord held vf pf a w → wpAny P .any os.toArray Q f listed a w := by
    intro f
    induction f with
    | zero =>
      intro listed ord held vf pf a w hf h
      -- all are listed: m = the length
      have hall : ∀ i, i < os.length → i ∈ ord := by
        intro i hi
        have hsub : ord.Perm (List.range os.length) ∨ True := .inr trivial
        obtain ⟨r, hr⟩ := zde ord (List.range os.length) h.nodup (fun j hj => by have := h.low j hj; simp; omega)
        have hl := hr.length_eq
        simp at hl
        have : r = [] := List.length_eq_zero_iff.1 (by omega)
        subst this
        have := hr.mem_iff.1 (List.mem_range.2 hi)
        simpa using this
      have hm2 : m = os.length := by
        by_cases hc : m < os.length
        · have := h.low m (hall m hc); omega
        · omega
      have hp : listed = preT os.length m := by
        apply Array.ext
        · rw [h.size, zdk _ _ hml]
        · intro i h1 h2
          have hi : i < os.length := by rw [h.size] at h1; exact h1
          have e1 := (h.iff i hi).2 (hall i hi)
          have e2 := zef os.length m i hml hi
          rw [Array.getD_eq_getD_getElem?, Array.getElem?_eq_getElem h1] at e1
          rw [Array.getD_eq_getD_getElem?, Array.getElem?_eq_getElem h2] at e2
          simp only [Option.getD_some] at e1 e2
          rw [e1, e2]; simp; omega
      rw [hp]
      refine zel hrdy 0 m (Nat.le_refl _) (by omega) a w ?_
      exact fin vf pf h.hP (fun i hi => h.rel i (hall i (by omega))) a w (h.st hml' (fun j hj => hall j (by rw [List.mem_range] at hj; omega)) (h.mem.pick hfn (fun j hj => h.hall j ((hfl j hj).1.imp (fun hlt => hall j (by omega)) (fun x => x)) (fun k hk => (hfl j hj).2 k (h.low k hk)))))
    | succ f ih =>
      intro listed ord held vf pf a w hf h
      by_cases hall : ∀ i, i < m → i ∈ ord
      · -- the tail's turn
        have hp : listed = preT os.length m := by
          apply Array.ext
          · rw [h.size, zdk _ _ hml]
          · intro i h1 h2
            have hi : i < os.length := by rw [h.size] at h1; exact h1
            have e1 := h.iff i hi
            have e2 := zef os.length m i hml hi
            rw [Array.getD_eq_getD_getElem?, Array.getElem?_eq_getElem h1] at e1
            rw [Array.getD_eq_getD_getElem?, Array.getElem?_eq_getElem h2] at e2
            simp only [Option.getD_some] at e1 e2
            rw [e2, Bool.eq_iff_iff, e1, decide_eq_true_eq]
            exact ⟨fun hx => h.low i hx, fun hx => hall i hx⟩
        have hord : ord.length = m := by
          obtain ⟨r, hr⟩ := zde ord (List.range m) h.nodup (fun j hj => by have := h.low j hj; simpa using this)
          obtain ⟨r', hr'⟩ := zde (List.range m) ord List.nodup_range (fun j hj => hall j (by simpa using hj))
          have h1 := hr.length_eq
          have h2 := hr'.length_eq
          simp at h1 h2
          omega
        rw [hp]
        refine zel hrdy (f + 1) m (Nat.le_refl _) (by omega) a w ?_
        exact fin vf pf h.hP (fun i hi => h.rel i (hall i hi)) a w (h.st hml' (fun j hj => hall j (by simpa using hj)) (h.mem.pick hfn (fun j hj => h.hall j ((hfl j hj).1.imp (fun hlt => hall j hlt) (fun x => x)) (fun k hk => (hfl j hj).2 k (h.low k hk)))))
      · -- some quiet one is not done yet
        have hsome : ∃ i, i < m ∧ i ∉ ord := by
          by_cases hx : ∃ i, i < m ∧ i ∉ ord
          · exact hx
          · exact absurd (fun i hi => Decidable.byContradiction fun hn => hx ⟨i, hi, hn⟩) hall
        have mem_rdy : ∀ i, i ∈ Region.ready .any os.toArray listed ↔ i < os.length ∧ i ∉ ord ∧ ∀ j ∈ depsOf os i, j ∈ ord := by
          intro i
          unfold Region.ready
          rw [List.mem_filter, List.mem_range]
          simp only [List.size_toArray]
          constructor
          · rintro ⟨hi, hb⟩
            rw [Bool.and_eq_true] at hb
            have hno : i ∉ ord := fun hx => by rw [(h.iff i hi).2 hx] at hb; simp at hb
            refine ⟨hi, hno, fun j hj => ?_⟩
            have ho : os.toArray[i]? = some os[i] := by simp [hi]
            rw [ho] at hb
            simp only [Option.map_some, Option.getD_some, Array.all_eq_true'] at hb
            unfold depsOf at hj
            rw [List.getElem?_eq_getElem hi] at hj
            simp only [List.mem_map, List.mem_filter] at hj
            obtain ⟨e, ⟨he, hbd⟩, rfl⟩ := hj
            have hb2 := hb.2 e (by simpa using he)
            rw [hbd] at hb2
            simp at hb2
            have hlt := hback i hi e.on (by unfold depsOf; rw [List.getElem?_eq_getElem hi]; exact List.mem_map.2 ⟨e, List.mem_filter.2 ⟨he, hbd⟩, rfl⟩)
            refine (h.iff e.on (by omega)).1 ?_
            have hs : e.on < listed.size := by rw [h.size]; omega
            rw [Array.getD_eq_getD_getElem?, Array.getElem?_eq_getElem hs] 
            simp only [Option.getD_some]
            rw [Array.getElem?_eq_getElem hs] at hb2
            simpa using hb2
          · rintro ⟨hi, hno, hd⟩
            refine ⟨hi, ?_⟩
            have ho : os.toArray[i]? = some os[i] := by simp [hi]
            rw [ho]
            simp only [Option.map_some, Option.getD_some, Bool.and_eq_true, Array.all_eq_true']
            refine ⟨?_, fun e he => ?_⟩
            · cases hb : listed.getD i true with
              | true => exact absurd ((h.iff i hi).1 hb) hno
              | false => rfl
            · rw [Bool.or_eq_true]
              by_cases hbd : Region.binds .any e = true
              rotate_left
              · left; simpa using hbd
              right
              have hon : e.on ∈ depsOf os i := by unfold depsOf; rw [List.getElem?_eq_getElem hi]; exact List.mem_map.2 ⟨e, List.mem_filter.2 ⟨by simpa using he, hbd⟩, rfl⟩
              have hlt := hback i hi e.on hon
              have := (h.iff e.on (by omega)).2 (hd e.on hon)
              have hs : e.on < listed.size := by rw [h.size]; omega
              rw [Array.getD_eq_getD_getElem?, Array.getElem?_eq_getElem hs] at this
              simp only [Option.getD_some] at this
              rw [Array.getD_eq_getD_getElem?, Array.getElem?_eq_getElem hs]
              simpa using this
        have hdep : ∀ k j, Dep os k j → (∀ d ∈ depsOf os k, d ∈ ord) → j ∈ ord := by
          intro k j hd
          induction hd with
          | one hj => intro hx; exact hx _ hj
          | more hk _ ih2 => intro hx; exact ih2 (fun d hd => h.closed _ (hx _ hk) d hd)
        have hlow : ∀ i ∈ Region.ready .any os.toArray listed, i < m := by
          intro i hi
          obtain ⟨h1, h2, h3⟩ := (mem_rdy i).1 hi
          by_cases hc : i < m
          · exact hc
          · exfalso
            obtain ⟨q, hq, hqn⟩ := hsome
            rcases hcov i h1 with h4 | h4
            · exact hc h4
            · exact hqn (hdep i q (hmsk i q (h4 q hq)) h3)
        refine ⟨fun h0 => ?_, fun i hi => ?_⟩
        · -- the least one that is not done may come up
          exfalso
          obtain ⟨q, hq, hqn⟩ := hsome
          obtain ⟨p, hp, hmin⟩ := exists_least (p := fun i => i < m ∧ i ∉ ord) ⟨q, hq, hqn⟩
          have : p ∈ Region.ready .any os.toArray listed := by
            rw [mem_rdy]
            refine ⟨by omega, hp.2, fun j hj => ?_⟩
            have hlt := hback p (by omega) j hj
            apply Decidable.byContradiction
            intro hn
            have := hmin j ⟨by omega, hn⟩
            omega
          rw [h0] at this
          cases this
        · have him := hlow i hi
          obtain ⟨h1, h2, h3⟩ := (mem_rdy i).1 hi
          have ho : os[i]? = some os[i] := List.getElem?_eq_getElem h1
          have hdps := hdp i him
          have hsub : ∀ j ∈ dps.getD i [], j ∈ ord := fun j hj => hdep i j (hmsk i j (hdps.1 j hj)) h3
          have hqi := hqd i him
          have hqheld : ∀ j ∈ qd.getD i [], j ∈ held := fun j hj => h.hall j ((hqi.1 j hj).1.imp (hsub j) (fun x => x)) (fun k hk => by
            rcases (hqi.1 j hj).2 k (h.low k hk) with h5 | ⟨-, h6⟩
            · exact h5
            · exact absurd (hdep k i (hmsk k i h6) (h.closed k hk)) h2)
          have hobl := due i os[i] ho him vf pf h.hP (fun j hj => h.rel j (hsub j hj))
          have hdd := dstAt i him _ ho
          have hdlt : ∀ d, dsts.getD i none = some d → d < N := fun d hd => by
            have := List.all_eq_true.1 hN (some d) (by rw [← hd, List.getD_eq_getElem?_getD, List.getElem?_eq_getElem (by omega)]; exact List.getElem_mem _)
            simpa [Nat.blt_eq] using this
          have hdnone : ∀ d, dsts.getD i none = some d → lk env d = none := fun d hd => by
            have := List.all_eq_true.1 hfresh (some d) (by rw [← hd, List.getD_eq_getElem?_getD, List.getElem?_eq_getElem (by omega)]; exact List.getElem_mem _)
            simpa using this
          have hne : ∀ j ∈ ord, j ≠ i := fun j hj e => h2 (e ▸ hj)
          have hneh : ∀ j ∈ held, j ≠ i := fun j hj e => by
            rcases h.hin j hj with h5 | h5
            · exact hne j h5 e
            · omega
          have next : ∀ (held' : List Nat) v post w', held'.Nodup → (∀ k ∈ held', k ∈ i :: ord ∨ (os.length ≤ k ∧ k < os.length + P0.length)) → (∀ k, (k ∈ i :: ord ∨ (os.length ≤ k ∧ k < os.length + P0.length)) → (∀ j ∈ i :: ord, tau.getD j none ≠ some k) → k ∈ held') → R i ((dps.getD i []).map vf) v post →
              Mem w0 (held'.flatMap (fun k => if k = i then post else pf k) ++ l) w' → wpAny P .any os.toArray Q f (listed.setIfInBounds i true) (a.put (dsts.getD i none) v) w' := by
            intro held' v post w' hh1 hh2 hh3 hv hm
            refine ih (listed.setIfInBounds i true) (i :: ord) held' (fun k => if k = i then v else vf k) (fun k => if k = i then post else pf k) _ w' (by simp; omega) ⟨?_, ?_, ?_, ?_, ?_, ?_, ?_, hh1, hh2, hh3, ?_, hm, ?_, ?_, ?_, ?_⟩
            · simp [h.size]
            · intro k hk
              by_cases hki : k = i
              · subst hki
                have hs : k < listed.size := by rw [h.size]; exact hk
                simp [Array.getD_eq_getD_getElem?, hs]
              · rw [getD_set_ne true (fun e => hki e.symm), h.iff k hk]
                simp [hki]
            · intro k hk; rcases List.mem_cons.1 hk with rfl | hk; exact him; exact h.low k hk
            · intro k hk j hj
              rcases List.mem_cons.1 hk with rfl | hk
              · exact List.mem_cons_of_mem _ (h3 j hj)
              · exact List.mem_cons_of_mem _ (h.closed k hk j hj)
            · exact List.nodup_cons.2 ⟨h2, h.nodup⟩
            · intro k hk j hj
              rcases List.mem_cons.1 hk with rfl | hk
              · exact List.mem_cons_of_mem _ (hsub j hj)
              · exact List.mem_cons_of_mem _ (h.dcl k hk j hj)
            · intro k hk
              rcases List.mem_cons.1 hk with rfl | hk
              · have e : (dps.getD k []).map (fun j => if j = k then v else vf j) = (dps.getD k []).map vf := List.map_congr_left fun j hj => if_neg (hne j (hsub j hj))
                rw [e, if_pos rfl, if_pos rfl]; exact hv
              · have e : (dps.getD k []).map (fun j => if j = i then v else vf j) = (dps.getD k []).map vf := List.map_congr_left fun j hj => if_neg (hne j (h.dcl k hk j hj))
                rw [e, if_neg (hne k hk), if_neg (hne k hk)]; exact h.rel k hk
            · intro k hk; rw [if_neg (by omega)]; exact h.hP k hk
            · cases hdi : dsts.getD i none <;> simp [Act.put, h.asize]
            · cases hdi : dsts.getD i none <;> exact h.defers
            · intro d u hd
              cases hdi : dsts.getD i none with
              | none => exact h.env d u hd
              | some d0 =>
                have hdne : d0 ≠ d := fun e => by rw [← e, hdnone _ hdi] at hd; cases hd
                simp only [Act.put]
                rw [Array.getElem?_setIfInBounds_ne hdne]
                exact h.env d u hd
            · intro k hk d hd
              cases hdi : dsts.getD i none with
              | none =>
                rcases List.mem_cons.1 hk with rfl | hk
                · rw [List.getD_eq_getElem?_getD, hd] at hdi; cases hdi
                · show a.tmps[d]? = _
                  rw [if_neg (hne k hk)]; exact h.slots k hk d hd
              | some d0 =>
                have hlt : d0 < a.tmps.size := by rw [h.asize]; exact hdlt _ hdi
                rcases List.mem_cons.1 hk with rfl | hk
                · have : d = d0 := by rw [List.getD_eq_getElem?_getD, hd] at hdi; exact Option.some.inj hdi
                  subst this
                  simp only [Act.put, if_true]
                  simp only [Array.getElem?_setIfInBounds_self_of_lt hlt]
                · have hdne : d0 ≠ d := by
                    intro e
                    have hk2 : k < dsts.length := (List.getElem?_eq_some_iff.1 hd).1
                    have hdk : dsts.getD k none = some d := by rw [List.getD_eq_getElem?_getD, hd]; rfl
                    rcases hdn i him k (by omega) with (hx | hx) | hx
                    · exact hne k hk hx.symm
                    · rw [hdi] at hx; cases hx
                    · exact hx (by rw [hdi, hdk, e])
                  simp only [Act.put]
                  rw [Array.getElem?_setIfInBounds_ne hdne, if_neg (hne k hk)]
                  exact h.slots k hk d hd
          unfold wpOp
          have hoa : os.toArray[i]? = some os[i] := by simp [h1]
          rw [hoa]
          simp only
          have hpost : ∀ (hs : List Nat) (post : List HP), (∀ k ∈ hs, k ≠ i) → (i :: hs).flatMap (fun k => if k = i then post else pf k) = post ++ hs.flatMap pf := fun hs post hx => by
            rw [List.flatMap_cons, if_pos rfl]
            congr 1
            rw [List.flatMap_def, List.flatMap_def]
            congr 1
            exact List.map_congr_left fun k hk => if_neg (hx k hk)
          cases ht : tau.getD i none with
          | none =>
            rw [ht] at hobl
            have hst := h.st hml' hsub (h.mem.pick hqi.2 hqheld)
            have next1 : ∀ v post w', R i ((dps.getD i []).map vf) v post → Mem w post w' → wpAny P .any os.toArray Q f (listed.setIfInBounds i true) (a.put (dsts.getD i none) v) w' := fun v post w' hv hm => by
              refine next (i :: held) v post w' (List.nodup_cons.2 ⟨fun hx => hneh i hx rfl, h.hn⟩) (fun k hk => ?_) (fun k hk hk2 => ?_) hv ?_
              · rcases List.mem_cons.1 hk with rfl | hk
                · exact .inl List.mem_cons_self
                · exact (h.hin k hk).imp (List.mem_cons_of_mem _) (fun x => x)
              · by_cases hki : k = i
                · rw [hki]; exact List.mem_cons_self
                · refine List.mem_cons_of_mem _ (h.hall k (hk.imp (fun hx => by rcases List.mem_cons.1 hx with hx | hx; exact absurd hx hki; exact hx) (fun x => x)) (fun j hj => hk2 j (List.mem_cons_of_mem _ hj)))
              · rw [hpost held post hneh, List.append_assoc]; exact h.mem.app hm
            rcases hobl with ⟨hw, hq⟩ | ⟨hw, hq⟩
            · rw [if_pos (hst.wanted hw)]
              refine .inl (hq a w hst Q _ fun v post w' hv hm => ?_)
              rw [hdd]
              exact next1 v post w' hv hm
            · rw [if_neg (by rw [hst.wanted hw]; decide), hdd]
              exact next1 undef [] w hq (Mem.refl w)
          | some hh =>
            rw [ht] at hobl
            have hth2 := hth i him
            rw [ht] at hth2
            simp only [Bool.and_eq_true, Bool.or_eq_true, Nat.ble_eq, Nat.blt_eq, beq_iff_eq, List.all_eq_true, List.mem_range, bne_iff_ne, List.contains_iff_mem] at hth2
            have hheld : hh ∈ held := h.hall hh (hth2.1.symm.imp (fun hx => hsub hh hx) (fun x => x)) (fun k hk => (hth2.2 k (h.low k hk)).resolve_left (hne k hk))
            have hperm := List.perm_cons_erase hheld
            have hmem : Mem w0 (pf hh ++ ((held.erase hh).flatMap pf ++ l)) w := by
              have := h.mem.perm ((hperm.flatMap_right pf).append_right l)
              rwa [List.flatMap_cons, List.append_assoc] at this
            have hnin : hh ∉ qd.getD i [] := fun hx => by
              rcases (hqi.1 hh hx).2 i him with h5 | ⟨h5, -⟩
              · exact h5 ht
              · exact h5 rfl
            have hconv : ∀ w, Mem w0 ((held.erase hh).flatMap pf ++ l) w → Mem w0 ((qd.getD i []).flatMap pf ++ l) w := fun w hm => hm.pick hqi.2 (fun j hj => (List.mem_erase_of_ne (fun (e : j = hh) => hnin (by rw [← e]; exact hj))).2 (hqheld j hj))
            have hst := h.st hml' hsub hmem
            have hneh2 : ∀ k ∈ held.erase hh, k ≠ i := fun k hk => hneh k (List.mem_of_mem_erase hk)
            have next2 : ∀ v post w', R i ((dps.getD i []).map vf) v post → Mem w0 (post ++ ((held.erase hh).flatMap pf ++ l)) w' → wpAny P .any os.toArray Q f (listed.setIfInBounds i true) (a.put (dsts.getD i none) v) w' := fun v post w' hv hm => by
              refine next (i :: held.erase hh) v post w' (List.nodup_cons.2 ⟨fun hx => hneh2 i hx rfl, h.hn.erase hh⟩) (fun k hk => ?_) (fun k hk hk2 => ?_) hv ?_
              · rcases List.mem_cons.1 hk with rfl | hk
                · exact .inl List.mem_cons_self
                · exact (h.hin k (List.mem_of_mem_erase hk)).imp (List.mem_cons_of_mem _) (fun x => x)
              · by_cases hki : k = i
                · rw [hki]; exact List.mem_cons_self
                · have hkh : k ≠ hh := fun e => hk2 i List.mem_cons_self (by rw [ht, e])
                  exact List.mem_cons_of_mem _ ((List.mem_erase_of_ne hkh).2 (h.hall k (hk.imp (fun hx => by rcases List.mem_cons.1 hx with hx | hx; exact absurd hx hki; exact hx) (fun x => x)) (fun j hj => hk2 j (List.mem_cons_of_mem _ hj))))
              · rw [hpost _ post hneh2, List.append_assoc]; exact hm
            rcases hobl with ⟨hw, hq⟩ | ⟨hw, hq⟩
            · rw [if_pos (hst.wanted hw)]
              refine .inl (hq _ hconv a w hst Q _ fun v post w' hv hm => ?_)
              rw [hdd]
              exact next2 v post w' hv hm
            · rw [if_neg (by rw [hst.wanted hw]; decide), hdd]
              exact next2 undef (pf hh) w hq hmem
  refine key os.length (Array.replicate os.length false) [] ((List.range P0.length).map (os.length + ·)) (fun _ => undef) (fun k => if os.length ≤ k then P0.getD (k - os.length) [] else []) a _ (by simp) ⟨by simp, ?_, by simp, by simp, by simp, by simp, by simp, ?_, ?_, ?_, ?_, ?_, st.size, st.defers, st.env, by simp⟩
  · intro i hi; simp [hi]
  · exact nodup_shift _ _
  · intro i hi
    simp only [List.mem_map, List.mem_range] at hi
    obtain ⟨k, hk, rfl⟩ := hi
    exact .inr ⟨by omega, by omega⟩
  · rintro i (hi | ⟨h1, h2⟩) _
    · cases hi
    · simp only [List.mem_map, List.mem_range]; exact ⟨i - os.length, by omega, by omega⟩
  · intro k hk; rw [if_pos (by omega), Nat.add_sub_cancel_left]
  · have e : ((List.range P0.length).map (os.length + ·)).flatMap (fun k => if os.length ≤ k then P0.getD (k - os.length) [] else []) = P0.flatten := by
      rw [List.flatMap_map]
      have : (fun a : Nat => (if os.length ≤ os.length + a then P0.getD (os.length + a - os.length) [] else [])) = fun a => P0.getD a [] := by
        funext a; rw [if_pos (by omega), Nat.add_sub_cancel_left]
      rw [List.flatMap_def]
      rw [show (List.map (fun a : Nat => (if os.length ≤ os.length + a then P0.getD (os.length + a - os.length) [] else [])) (List.range P0.length)) = P0 from by rw [this]; exact range_getD P0]
    rw [e]; exact st.mem.drawn _
def Dues4 (P : Program) (ops : Array Oper) (N : Nat) (w0 : World) (l : List HP) (env : List (Nat × Value)) (P0 : List (List HP)) (mu : Nat) (dsts : List (Option Nat)) (all qall : List (List Nat)) (tau : List (Option Nat)) (R : Nat → List Value → Value → List HP → Prop) : Nat → List (List Nat) → List Oper → Prop
  | _, _, [] => True
  | k, dss, o :: os => (∀ (vf : Nat → Value) (pf : Nat → List HP), (∀ k, k < P0.length → pf (mu + k) = P0.getD k []) → (∀ j ∈ all.getD k [], R j ((all.getD j []).map vf) (vf j) (pf j)) → Obl2 P ops N w0 (tau.getD k none) pf ((qall.getD k []).flatMap pf ++ l) (envOf3 dsts vf (all.getD k []) ++ env) o (R k ((all.getD k []).map vf))) ∧ Dues4 P ops N w0 l env P0 mu dsts all qall tau R (k + 1) dss os
theorem dues4_at {P : Program} {ops : Array Oper} {N : Nat} {w0 : World} {l : List HP} {env : List (Nat × Value)} {P0 : List (List HP)} {mu : Nat} {dsts : List (Option Nat)} {all qall : List (List Nat)} {tau : List (Option Nat)} {R : Nat → List Value → Value → List HP → Prop} : ∀ (os : List Oper) (dss : List (List Nat)) (k : Nat), Dues4 P ops N w0 l env P0 mu dsts all qall tau R k dss os → ∀ i o, os[i]? = some o → ∀ vf pf, (∀ k, k < P0.length → pf (mu + k) = P0.getD k []) → (∀ j ∈ all.getD (k + i) [], R j ((all.getD j []).map vf) (vf j) (pf j)) → Obl2 P ops N w0 (tau.getD (k + i) none) pf ((qall.getD (k + i) []).flatMap pf ++ l) (envOf3 dsts vf (all.getD (k + i) []) ++ env) o (R (k + i) ((all.getD (k + i) []).map vf))
  | [], _, _, _, i, o, ho, _, _, _, _ => by simp at ho
  | o' :: os, dss, k, h, 0, o, ho, vf, pf, hP, hR => by simp at ho; subst ho; exact h.1 vf pf hP hR
  | o' :: os, dss, k, h, i + 1, o, ho, vf, pf, hP, hR => by
    have e : k + 1 + i = k + (i + 1) := by omega
    have := dues4_at os dss (k + 1) h.2 i o (by simpa using ho) vf pf hP (by rw [e]; exact hR)
    rwa [e] at this
theorem hc_draw4 {id : Nat} (hmix : P.follows .mixedOrders = true) (m : Nat) (qs : List Nat) (quiet tail : List Oper) (dps : List (List Nat)) (dsts : List (Option Nat)) (R : Nat → List Value → Value → List HP → Prop) (qd : List (List Nat)) (tau : List (Option Nat)) (P0 : List (List HP)) (fl : List Nat) (mu : Nat)
    (hos : os = quiet ++ tail) (hq : (Nat.beq quiet.length m && (List.range m == qs) && Nat.beq os.length mu) = true) (hok : drawOk3 os m dps dsts = true) (htau : tauOk4 os m P0.length dps qd tau fl = true) (hfresh : dsts.all (fun d => match d with | some d => (lk env d).isNone | none => true) = true) (hN : dsts.all (fun d => match d with | some d => Nat.blt d N | none => true) = true)
    (due : Dues4 P os.toArray N w0 l env P0 mu dsts dps qd tau R 0 [] quiet)
    (fin : ∀ vf pf, (∀ k, k < P0.length → pf (mu + k) = P0.getD k []) → (∀ i, i < m → R i ((dps.getD i []).map vf) (vf i) (pf i)) → HL P N os.toArray w0 (fl.flatMap pf ++ l) (envOf3 dsts vf qs ++ env) tail Q) : HC P N w0 (P0.flatten ++ l) env (.region id os.toArray true) Q := by
  simp only [Bool.and_eq_true, Nat.beq_eq, beq_iff_eq] at hq
  obtain ⟨⟨hq1, hq2⟩, hq3⟩ := hq
  refine hc_drawn4 hmix m dps dsts R qd tau P0 fl hok htau hfresh hN (fun i o ho hi vf pf hP hR => ?_) (fun vf pf hP hR => ?_)
  · have ho' : quiet[i]? = some o := by rw [hos, List.getElem?_append_left (by omega)] at ho; exact ho
    have := dues4_at quiet [] 0 due i o ho' vf pf (by rw [← hq3]; exact hP) (by rw [Nat.zero_add]; exact hR)
    rwa [Nat.zero_add] at this
  rw [hq2, hos, List.drop_left' hq1, ← hos]; exact fin vf pf (by rw [← hq3]; exact hP) hR
end
def asV (g : As) : Int × List Oq := (g.t, g.os)
def ixV (x : Ix) : Int × Int × List Int := (x.m, x.p, x.ps)
structure EqM (a b : Md) : Prop where
  s : a.ss = b.ss
  g : a.gs.map asV = b.gs.map asV
  x : a.xs.map ixV = b.xs.map ixV
  m : a.ms = b.ms
def MdOne (m : Md) : Prop := m.sv.oneCell' = true ∧ m.av.oneCell' = true ∧ m.iv.oneCell' = true ∧ m.mv.oneCell' = true
theorem RdsMd.ones {w : World} {m : Md} (h : RdsMd w m) : MdOne m := ⟨h.s.one, h.g.one, h.x.one, h.m.one⟩
theorem DdP.cnt {D : List Md} (h : DdP D) {k : Nat} (hk : k < D.length) {s : Nat} (hs : s < (D.getD k md0).ss.length) : (drvL D (D.getD k md0)).count (s : Int) = if ((D.getD k md0).ss.getD s sg0).k = 0 then 0 else 1 := by
  have hm := h.md k hk
  have hl := h.len
  have hlt : (D.take k).length = k := by rw [List.length_take]; omega
  have h2 := hm.b.dr s hs
  rw [if_neg (show ¬ (s : Int) ∈ ([] : List Int) by simp)] at h2
  rw [← h2]
  unfold drvL
  have : (D.getD k md0).xs.flatMap (xoK D) = (D.getD k md0).xs.flatMap (xoK (D.take k)) := by
    refine flat_congr (fun x hx9 => ?_)
    have h3 := (hm.b.xs x hx9).1.1
    rw [hlt] at h3
    have h4 := ixP_take (D := D) (m := md0) h3 (by omega)
    unfold xoK; rw [h4, xoA_congr h4]
  rw [this]
theorem xoA_same {D D' : List Md} {x x' : Ix} (hp : x'.ps = x.ps) (hd : (D'.getD x'.m.toNat md0).ss = (D.getD x.m.toNat md0).ss) : ∀ j, xoA D' x' j = xoA D x j
  | 0 => rfl
  | j + 1 => by
    have hk : ∀ s, knd (D'.getD x'.m.toNat md0) s = knd (D.getD x.m.toNat md0) s := fun s => by unfold knd; rw [hd]
    have hp2 : ptsK (D'.getD x'.m.toNat md0) = ptsK (D.getD x.m.toNat md0) := by unfold ptsK; rw [hd]
    unfold xoA; rw [xoA_same hp hd j, hk, hp2, hp]
theorem count_less {G : List As} {i : Nat} (hi : i < G.length) {t : Int} (ht : (G.getD i as0).t = t) : (G.map As.t).count t = ((G.take i ++ G.drop (i + 1)).map As.t).count t + 1 := by
  have e : G = G.take i ++ G.getD i as0 :: G.drop (i + 1) := by
    conv => lhs; rw [← List.take_append_drop i G]
    rw [List.drop_eq_getElem_cons hi, List.getD_eq_getElem?_getD, List.getElem?_eq_getElem hi]; rfl
  have e2 : G.map As.t = (G.take i).map As.t ++ t :: (G.drop (i + 1)).map As.t := by
    conv => lhs; rw [e]
    rw [List.map_append, List.map_cons, ht]
  rw [e2, List.map_append, List.count_append, List.count_append, List.count_cons_self]; omega
theorem less_bad {D E : List Md} {k i : Nat} (h : DdP D) (hk : k < D.length) (hE : k < E.length) (he : ∀ q, q ≤ k → EqM (E.getD q md0) (D.getD q md0)) (hi : i < (D.getD k md0).gs.length) {m : Md} (hs : m.ss = (D.getD k md0).ss) (hg : m.gs = (D.getD k md0).gs.take i ++ (D.getD k md0).gs.drop (i + 1)) (hx : m.xs.map ixV = (D.getD k md0).xs.map ixV) (hm : m.ms = (D.getD k md0).ms) : ¬ ModP (E.set k m) k := fun hp => by
  have hmk : (E.set k m).getD k md0 = m := getD_set_self' hE
  have hb := (h.md k hk).b
  have hl := h.len
  have hlt : (D.take k).length = k := by rw [List.length_take]; omega
  have hgi := hb.gs _ (zbp (d := as0) hi)
  obtain ⟨hk1, hk2⟩ := hgi.1
  have hin := Inn_of hgi.1
  have hkk := zch hin
  obtain ⟨h0, h1⟩ := hin
  have hd := hp.dr (((D.getD k md0).gs.getD i as0).t).toNat (by rw [hmk, hs]; omega) (by rw [hmk, hs]; omega)
  rw [hmk] at hd
  have hc := h.cnt hk (s := (((D.getD k md0).gs.getD i as0).t).toNat) (by omega)
  rw [if_neg (by omega)] at hc
  have hto : (((((D.getD k md0).gs.getD i as0).t).toNat : Nat) : Int) = ((D.getD k md0).gs.getD i as0).t := by omega
  rw [hto] at hd hc
  have hxs : m.xs.flatMap (xoK (E.set k m)) = (D.getD k md0).xs.flatMap (xoK D) := by
    have hlen : m.xs.length = (D.getD k md0).xs.length := by simpa using congrArg List.length hx
    have key : ∀ q, q < m.xs.length → xoK (E.set k m) (m.xs.getD q ix0) = xoK D ((D.getD k md0).xs.getD q ix0) := fun q hq => by
      have e := map_at (f := ixV) (d := ix0) hx hq
      have e1 : (m.xs.getD q ix0).m = ((D.getD k md0).xs.getD q ix0).m := congrArg (·.1) e
      have e3 : (m.xs.getD q ix0).ps = ((D.getD k md0).xs.getD q ix0).ps := congrArg (·.2.2) e
      have h3 := (hb.xs _ (zbp (d := ix0) (show q < (D.getD k md0).xs.length by omega))).1.1
      rw [hlt] at h3
      have e4 : (E.set k m).getD (m.xs.getD q ix0).m.toNat md0 = E.getD (m.xs.getD q ix0).m.toNat md0 := by
        rw [List.getD_eq_getElem?_getD, List.getElem?_set_ne (by rw [e1]; omega), ← List.getD_eq_getElem?_getD]
      have e5 : ((E.set k m).getD (m.xs.getD q ix0).m.toNat md0).ss = (D.getD ((D.getD k md0).xs.getD q ix0).m.toNat md0).ss := by
        rw [e4, e1]; exact (he _ (by omega)).s
      unfold xoK
      have hp2 : ptsK ((E.set k m).getD (m.xs.getD q ix0).m.toNat md0) = ptsK (D.getD ((D.getD k md0).xs.getD q ix0).m.toNat md0) := by unfold ptsK; rw [e5]
      rw [xoA_same e3 e5, hp2]
    have all : ∀ n, n ≤ m.xs.length → (m.xs.take n).flatMap (xoK (E.set k m)) = ((D.getD k md0).xs.take n).flatMap (xoK D) := by
      intro n
      induction n with
      | zero => intro _; simp
      | succ n ih => intro hn; rw [zeo _ ix0 (show n < m.xs.length by omega), zeo _ ix0 (show n < (D.getD k md0).xs.length by omega), ih (by omega), key n (by omega)]
    have := all _ (Nat.le_refl _)
    rwa [List.take_length, hlen, List.take_length] at this
  have e1 : (drvL D (D.getD k md0)).count ((D.getD k md0).gs.getD i as0).t = (drvL (E.set k m) m).count ((D.getD k md0).gs.getD i as0).t + 1 := by
    unfold drvL
    rw [hxs, hg, hm]
    have := count_less hi (t := ((D.getD k md0).gs.getD i as0).t) rfl
    rw [List.count_append, List.count_append, List.count_append, List.count_append, this]
    omega
  omega
theorem l04Design_mut (g : Nat) (a : Option Addr) (len cap : Nat) (z : List Int) (w0 : World) (l : List HP) (w : World) (hm0 : Mem w0 (curE g a len cap :: l) w) (hb : BRow .u8 w0 a len cap z) :
   Calls Try.prog 45 #[.pointer (some ⟨g, 0, none⟩)] w (fun e_ w_ => ∃ v_ p_, e_ = .returned v_ ∧ (fun u_ p_ => ∃ (D : List Md) (v : Value) (ps : List HP), u_ = .agg #[v] ∧ p_ = bigE [curE g a len cap, bigE ps] ∧ (∀ w, (bigE ps).holds w → RdsDs w v D) ∧ v.oneCell' = true ∧ DdP D ∧ 1 ≤ D.length) v_ p_ ∧ Mem w0 (p_ :: l) w_) := by
 refine zer (N := 28) (args := [.pointer (some ⟨g, 0, none⟩)]) Try.func45 rfl rfl hm0 (srQ ?_)
 refine zdv rfl (zbj (z := .agg #[.slice none 0 0]) rfl rfl) ?_
 intro b1
 refine ntQ (srQ (hvQ rfl (zax (cs := #[.slice none 0 0]) rfl rfl rfl) ?_))
 refine zdv rfl (zbj (z := .agg #[.slice none 0 0]) rfl rfl) ?_
 intro b2
 refine zbn (cs' := #[.slice none 0 0]) (i := 0) (off := 0) (us := [.slice none 0 0]) rfl rfl rfl rfl rfl rfl rfl (zad rfl zbg) rfl rfl rfl (ntQ (zah (reQ 1 rfl ?_)))
 refine zbz (R := (fun u_ p_ => (∃ x_ : Int, u_ = .int .i64 x_ ∧ 0 ≤ x_ ∧ x_ < 2) ∧ p_ = curE g a len cap)) 2 rfl rfl rfl rfl rfl (fun l' w hm => zbl g a len cap z 2 _ _ _ hm hb (by constructor <;> omega)) ?_
 intro v3 p4 hR5
 obtain ⟨⟨xhR5, rfl, xhR50, xhR51⟩, rfl⟩ := hR5
 refine zci (l' := (boxE b2 #[.slice none 0 0] 26 :: boxE b1 #[.slice none 0 0] 26 :: curE g a len cap :: l)) rfl ?_
 refine zak 1 rfl (zbz (R := (fun u_ p_ => (∃ x_ : Int, u_ = .int .i64 x_ ∧ 0 ≤ x_ ∧ x_ < 2) ∧ p_ = curE g a len cap)) 2 rfl rfl rfl rfl rfl (fun l' w hm => zbl g a len cap z 2 _ _ _ hm hb (by constructor <;> omega)) ?_)
 intro v6 p7 hR8
 obtain ⟨⟨xhR8, rfl, xhR80, xhR81⟩, rfl⟩ := hR8
 refine zci (l' := (boxE b2 #[.slice none 0 0] 26 :: boxE b1 #[.slice none 0 0] 26 :: curE g a len cap :: l)) rfl ?_
 refine hvQ rfl (vaQ rfl rfl rfl) (hvQ rfl (rv_mul rfl rfl rfl (by rcases (by omega : xhR5 = 0 ∨ xhR5 = 1) with e9 | e9 <;> rw [e9] <;> constructor <;> omega)) ?_)
 have hml9 : 0 ≤ xhR5 * (1 + xhR8) ∧ xhR5 * (1 + xhR8) ≤ 2 := by rcases (by omega : xhR5 = 0 ∨ xhR5 = 1) with e9 | e9 <;> rw [e9] <;> constructor <;> omega
 refine hvQ rfl (vaQ rfl rfl rfl) (zba 1 rfl (zah (zbk 1 rfl (zbh ?_))))
 refine zej (bigE [] :: rowE 35 4 (.slice none 0 0) (([] : List Md).length) (([] : List Md).flatMap mdC) :: boxE b2 #[.slice none 0 0] 26 :: boxE b1 #[.slice none 0 0] 26 :: curE g a len cap :: l) (fun w hm => Mem.big (ps := []) (hm.nilRow 35 4)) ?_
 refine lkQ4 (α := Nat) (β := List Md) (γ := Value) (δ := List HP) [0, 2, 3, 4] rfl (fun k D v ps => (bigE ps :: rowE 35 4 v D.length (D.flatMap mdC) :: boxE b2 #[v] 26 :: boxE b1 #[.slice none 0 0] 26 :: curE g a len cap :: l)) (fun k D v ps => [(5, .int .i64 (k : Int))]) (fun k D v ps => (k : Int) ≤ 1 + (xhR5 * (1 + xhR8)) ∧ D.length = k ∧ DdP D ∧ ∀ w, (bigE ps).holds w → ∀ m ∈ D, RdsMd w m) (fun k D v ps => (1 + (xhR5 * (1 + xhR8))).toNat - k) 0 [] _ [] ⟨by omega, rfl, DdP.nil, fun w _ m hm => (by cases hm)⟩ (saQ rfl) (.refl _) ?_
 intro k D v ps hi9
 obtain ⟨hk, hdl, hdd, hp⟩ := hi9
 refine zah (zah (reQ 2 rfl ?_))
 refine zcb rfl rfl rfl rfl rfl rfl (fun h10 => ?_) (fun h10 => ?_)
 ·
  refine ntQ (zaj rfl (zdi (sbQ ?_)))
  refine hc_know (p := v.oneCell' = true ∧ ∀ m ∈ D, m.sv.oneCell' = true ∧ m.av.oneCell' = true ∧ m.iv.oneCell' = true ∧ m.mv.oneCell' = true) (fun w hm => ⟨(zam 1 rfl w hm).one, fun m9 hm9 => (hp w (hm.holds _ (zbs (i := 0) rfl)) m9 hm9).ones⟩) (fun ⟨hv9, ho9⟩ => ?_)
  refine zfc 5 [3, 2, 1, 0, 4] rfl rfl (by decide) ?_
  refine zei (l := (bigE ps :: rowE 35 4 v D.length (D.flatMap mdC) :: boxE b2 #[v] 26 :: boxE b1 #[.slice none 0 0] 26 :: l)) rfl 6 [0, 1, 2, 3, 4, 5] (List.take 6 _) (List.drop 6 _) [[], [0], [], [], [2, 3], [4]] [19, 20, 21, 22, 23, 24] (fun i_ vs_ v_ p_ => match i_ with | 0 => v_ = .pointer (some ⟨b2, 0 + 0, none⟩) ∧ p_ = [] | 1 => v_ = v ∧ p_ = [] | 2 => v_ = .pointer (some ⟨g, 0, none⟩) ∧ p_ = [] | 3 => v_ = .agg #[v] ∧ p_ = [] | 4 => (∃ pm_, p_ = [pm_] ∧ (fun u_ p_ => ∃ (m : Md) (ps : List HP), u_ = m.agg ∧ p_ = bigE [curE g a len cap, bigE ps] ∧ (∀ w, (bigE ps).holds w → RdsMd w m) ∧ (m.sv.oneCell' = true ∧ m.av.oneCell' = true ∧ m.iv.oneCell' = true ∧ m.mv.oneCell' = true) ∧ DmP D m) v_ pm_) | 5 => IsRow 35 4 1 ([(agK 0 (List.getD vs_ 0 undef)), (agK 1 (List.getD vs_ 0 undef)), (agK 2 (List.getD vs_ 0 undef)), (agK 3 (List.getD vs_ 0 undef))]) v_ p_ | _ => True) [[], [0], [], [], [2, 3], [4]] [none, none, none, none, some 9, none] [curE g a len cap] [0, 1, 2, 3, 4, 5] 9 (List.take_append_drop 6 _).symm (by kernel_rfl) (by kernel_rfl) (by kernel_rfl) rfl rfl ?_ ?_
  ·
   refine ⟨?_, ?_, ?_, ?_, ?_, ?_, trivial⟩
   ·
    intro vf pf hmu hR
    refine dqQ [] [] rfl (zbr (zao [3] rfl) ?_)
    exact zbq (fdQ 0 rfl rfl rfl)
   ·
    intro vf pf hmu hR
    have e0 := hR 0 (by decide)
    refine dqQ [0] [0] rfl (zaz (sk 19 (congrArg some e0.1) (zaf _)) (List.sublist_append_right _ _) ?_)
    exact zbq (zac rfl rfl rfl (zaa 2 rfl rfl))
   ·
    intro vf pf hmu hR
    refine dqQ [] [] rfl (zbr (zao [0] rfl) ?_)
    exact zbq (zay rfl)
   ·
    intro vf pf hmu hR
    refine dqQ [] [] rfl (zaz (zao [3] rfl) (List.sublist_append_right _ _) ?_)
    exact zbq (zaw (cs := [v]) rfl rfl rfl rfl rfl (zau 2 rfl 0 rfl))
   ·
    intro vf pf hmu hR
    have e2 := hR 2 (by decide)
    have e3 := hR 3 (by decide)
    refine Or.inl ⟨rfl, ?_⟩
    show RunM _ _ _ (pf 9) (([2, 3] : List Nat).flatMap pf ++ _) (envOf _ vf [2, 3] ++ _) _ _
    rw [hmu]
    exact zcp (sk 21 (congrArg some e2.1) (sk 22 (congrArg some e3.1) (zaf _))) (by simp only [e2.2, e3.2, fS] <;> rfl) (zcy (R := (fun u_ p_ => ∃ (m : Md) (ps : List HP), u_ = m.agg ∧ p_ = bigE [curE g a len cap, bigE ps] ∧ (∀ w, (bigE ps).holds w → RdsMd w m) ∧ (m.sv.oneCell' = true ∧ m.av.oneCell' = true ∧ m.iv.oneCell' = true ∧ m.mv.oneCell' = true) ∧ DmP D m)) rfl rfl (fun L w hX hm => l04Module_mut g a len cap z D v _ _ _ hm hb (fun w9 h9 => ⟨(zam (l := (bigE ps :: rowE 35 4 v D.length (D.flatMap mdC) :: boxE b2 #[v] 26 :: boxE b1 #[.slice none 0 0] 26 :: l)) 1 rfl) w9 (hX w9 h9), fun m9 hm9 => hp w9 ((hX w9 h9).holds _ (zbs (i := 0) rfl)) m9 hm9⟩) hdd (by omega) hv9 ho9))
   intro vf pf hmu hR
   have e4 : (∃ pm_, (pf 4) = [pm_] ∧ (fun u_ p_ => ∃ (m : Md) (ps : List HP), u_ = m.agg ∧ p_ = bigE [curE g a len cap, bigE ps] ∧ (∀ w, (bigE ps).holds w → RdsMd w m) ∧ (m.sv.oneCell' = true ∧ m.av.oneCell' = true ∧ m.iv.oneCell' = true ∧ m.mv.oneCell' = true) ∧ DmP D m) (vf 4) pm_) := hR 4 (by decide)
   obtain ⟨p12, pE4, hR13⟩ := e4
   obtain ⟨v11, vE4⟩ : ∃ x, vf 4 = x := ⟨_, rfl⟩
   rw [vE4] at hR13
   obtain ⟨mhR13, mphR13, rfl, rfl, hmphR13, hmohR13, hdmhR13⟩ := hR13
   refine dqQ [4] [4] rfl (zcd (sk 23 (congrArg some vE4) (zaf _)) (by simp only [pE4, vE4, fS] <;> rfl) ?_)
   exact zcc (zai (z := .agg #[.slice none 0 0, .slice none 0 0, .slice none 0 0, .slice none 0 0]) (s := 4) (cs := [mhR13.sv, mhR13.av, mhR13.iv, mhR13.mv]) rfl Try.underlying24 rfl (by decide) rfl (by kernel_rfl) rfl) (fun v_ p_ h => by show IsRow 35 4 1 ([(agK 0 (vf 4)), (agK 1 (vf 4)), (agK 2 (vf 4)), (agK 3 (vf 4))]) v_ p_; rw [vE4]; exact h)
  intro vf pf hmu hR
  have e1 := hR 1 (by decide)
  have e4 : (∃ pm_, (pf 4) = [pm_] ∧ (fun u_ p_ => ∃ (m : Md) (ps : List HP), u_ = m.agg ∧ p_ = bigE [curE g a len cap, bigE ps] ∧ (∀ w, (bigE ps).holds w → RdsMd w m) ∧ (m.sv.oneCell' = true ∧ m.av.oneCell' = true ∧ m.iv.oneCell' = true ∧ m.mv.oneCell' = true) ∧ DmP D m) (vf 4) pm_) := hR 4 (by decide)
  obtain ⟨p12, pE4, hR13⟩ := e4
  obtain ⟨v11, vE4⟩ : ∃ x, vf 4 = x := ⟨_, rfl⟩
  rw [vE4] at hR13
  obtain ⟨mhR13, mphR13, rfl, rfl, hmphR13, hmohR13, hdmhR13⟩ := hR13
  have e5 : IsRow 35 4 1 ([(agK 0 (vf 4)), (agK 1 (vf 4)), (agK 2 (vf 4)), (agK 3 (vf 4))]) (vf 5) (pf 5) := hR 5 (by decide)
  rw [vE4] at e5
  obtain ⟨g14, vE5, pE5⟩ := e5
  have q0 := hR 0 (by decide)
  have q1 := hR 1 (by decide)
  have q2 := hR 2 (by decide)
  have q3 := hR 3 (by decide)
  refine zcr (zcg [16, 5, 4, 3, 2, 0] _ (sk 20 (congrArg some e1.1) (sk 24 (congrArg some vE5) (zaf _))) rfl) (by simp only [pE4, vE4, pE5, vE5, q0.2, q1.2, q2.2, q3.2, fS] <;> rfl) ?_
  simp only [List.drop_succ_cons, List.drop_zero]
  refine zct (i := 3) (z := .agg #[.slice none 0 0, .slice none 0 0, .slice none 0 0, .slice none 0 0]) (bytes := 96) rfl rfl rfl rfl Try.underlying24 (by kernel_rfl) rfl rfl rfl rfl (zam 1 rfl) (zad hmohR13.1 (zad hmohR13.2.1 (zad hmohR13.2.2.1 (zad hmohR13.2.2.2 zbg)))) (by first | omega | (simp only [List.length_append, List.length_cons, List.length_nil]; omega)) (zcj D [mhR13]) (zdc mdC D mhR13 _ rfl) (fun _ => rfl) ?_
  intro v15
  refine hvQ rfl (fdQ 0 rfl rfl rfl) (zdb (i := 3) rfl (fun ho16 => ?_))
  refine zec (i := 4) (cs' := #[v15]) rfl rfl rfl rfl rfl rfl ho16 rfl rfl rfl rfl (zcx (zdq (reQ 1 rfl (hvQ rfl (vaQ rfl rfl rfl) (enQ 1 rfl ?_)))))
  refine zbd 6 [5, 4, 3, 2, 1, 0] rfl rfl (by decide) ?_
  refine zdl (curE g a len cap :: bigE mphR13 :: rowE 35 4 (.slice (some ⟨g14, 0, none⟩) 1 1) 1 ([mhR13.sv, mhR13.av, mhR13.iv, mhR13.mv]) :: bigE ps :: rowE 35 4 v15 ((D ++ [mhR13]).length) ((D ++ [mhR13]).flatMap mdC) :: boxE b2 #[v15] 26 :: boxE b1 #[.slice none 0 0] 26 :: l) zcw ?_
  refine zbd 7 [6, 5, 4, 2, 0, 1, 3] rfl rfl (by decide) ?_
  refine zbu 2 rfl ?_
  refine zbd 6 [1, 5, 4, 3, 0] rfl rfl (by decide) ?_
  exact zda (k + 1) (D ++ [mhR13]) v15 [bigE ps, bigE mphR13] ⟨by omega, by rw [List.length_append, List.length_singleton]; omega, hdd.app (by omega) hdmhR13, fun w hw m9 hm9 => (List.mem_append.1 hm9).elim (fun h8 => hp w (zas hw List.mem_cons_self) m9 h8) (fun h8 => by rw [List.mem_singleton] at h8; subst h8; exact hmphR13 w (zas hw (List.mem_cons_of_mem _ List.mem_cons_self)))⟩ (by omega) (saQ rfl) (.refl _)
 refine ntQ (zap rfl ?_)
 refine zbv (zep ?_)
 refine zan (zbf (srQ (hvQ rfl (zaw (cs := [v]) rfl rfl rfl rfl rfl (zau 2 rfl 0 rfl)) ?_)))
 refine zdb (i := 1) rfl (fun ho17 => ?_)
 refine zbn (cs' := #[v]) (i := 3) (off := 0) (us := [v]) rfl rfl rfl rfl rfl rfl rfl (zad ho17 zbg) rfl rfl rfl (ntQ ?_)
 refine zal (hq_know (fun w hm => (zam 1 rfl w hm).one) (fun ho9 => ?_))
 refine zbd 5 [4, 3, 2, 0, 1] rfl rfl (by decide) ?_
 refine zbu 2 rfl ?_
 refine zbd 4 [2, 1, 0, 3] rfl rfl (by decide) ?_
 refine zbu 2 rfl ?_
 exact zcv (rs := [.cell 2 26]) (vs := [.agg #[v]]) rfl ⟨⟨b1, 0, [v], rfl, rfl, by kernel_rfl, by kernel_rfl, zau 2 rfl 0 rfl⟩, trivial⟩ rfl (fun w hm => ⟨_, bigE [curE g a len cap, bigE [rowE 35 4 v D.length (D.flatMap mdC), bigE ps]], rfl, ⟨D, v, [rowE 35 4 v D.length (D.flatMap mdC), bigE ps], rfl, rfl, fun w hw => ⟨zcl (zas hw List.mem_cons_self), hp w (zas hw (List.mem_cons_of_mem _ List.mem_cons_self))⟩, ho9, hdd, by omega⟩, hm.sub (.cons_cons _ (.cons _ (.cons _ (.refl _))))⟩)
theorem DrawDesign_ret (a : Option Addr) (len cap : Nat) (z : List Int) (w : World) (hb : BRow .u8 w a len cap z) (hlen : len ≤ 1048576) :
   Calls Try.prog 10 #[.slice a len cap] w (Ret w (fun u_ p_ => ∃ (D : List Md) (v : Value) (x : Int) (ps : List HP), u_ = .tuple #[.agg #[v], .int .i64 x] ∧ p_ = [bigE ps] ∧ (∀ w, (bigE ps).holds w → RdsDs w v D) ∧ v.oneCell' = true ∧ DdP D ∧ 1 ≤ D.length ∧ 1 ≤ x ∧ x ≤ 3)) := by
 refine zcf (N := 14) (args := [.slice a len cap]) Try.func10 rfl rfl (srQ ?_)
 refine zdv rfl (zbj (z := .agg #[.slice none 0 0]) rfl rfl) ?_
 intro b1
 refine zba 1 rfl (zah (reQ 1 rfl ?_))
 refine hl_q rfl rfl rfl (zar rfl rfl (fun w hm => new_ret (hb.below hm.bel) hlen)) ?_
 intro v2 p3 hR4
 obtain ⟨ghR4, rfl, rfl⟩ := hR4
 refine zba 1 rfl (zah (reQ 1 rfl ?_))
 refine zbz (R := (fun u_ p_ => ∃ (D : List Md) (v : Value) (ps : List HP), u_ = .agg #[v] ∧ p_ = bigE [curE ghR4 a len cap, bigE ps] ∧ (∀ w, (bigE ps).holds w → RdsDs w v D) ∧ v.oneCell' = true ∧ DdP D ∧ 1 ≤ D.length)) 0 rfl rfl rfl rfl rfl (fun l' w hm => l04Design_mut ghR4 a len cap z _ _ _ hm hb) ?_
 intro v5 p6 hR7
 obtain ⟨D, dv, dp, rfl, rfl, hdp, hdv1, hdd, hd1⟩ := hR7
 refine zci (l' := [bigE [curE ghR4 a len cap, bigE dp], boxE b1 #[.slice none 0 0] 26]) rfl ?_
 refine zdv rfl (zbj (z := .agg #[.slice none 0 0]) rfl rfl) ?_
 intro b8
 refine zbn (cs' := #[dv]) (i := 0) (off := 0) (us := [dv]) rfl rfl rfl rfl rfl rfl rfl (zad hdv1 zbg) rfl rfl rfl (ntQ (zah ?_))
 refine zfc 3 [2, 0, 1] rfl rfl (by decide) ?_
 refine zej [curE ghR4 a len cap, bigE dp, boxE b8 #[dv] 26, boxE b1 #[.slice none 0 0] 26] zcw ?_
 refine zfc 4 [2, 1, 3, 0] rfl rfl (by decide) ?_
 refine hc_draw3 (l := [bigE dp, boxE b8 #[dv] 26]) rfl 5 [0, 1, 2, 3, 4] (List.take 5 _) (List.drop 5 _) [[], [], [1], [2], [0]] [some 10, some 11, some 12, some 13, none] (fun i_ vs_ v_ p_ => match i_ with | 0 => v_ = .agg #[dv] ∧ p_ = [] | 1 => v_ = .pointer (some ⟨ghR4, 0, none⟩) ∧ p_ = [] | 2 => (∃ pm_, p_ = [pm_] ∧ (fun u_ p_ => (∃ x_ : Int, u_ = .int .i64 x_ ∧ 0 ≤ x_ ∧ x_ < 3) ∧ p_ = curE ghR4 a len cap) v_ pm_) | 3 => v_ = .int .i64 (1 + (intOf_o (List.getD vs_ 0 undef))) ∧ p_ = [] | 4 => p_ = [boxE b1 #[dv] 26] | _ => True) [[], [], [1], [2], [0]] [none, none, some 6, none, some 7] [[curE ghR4 a len cap], [boxE b1 #[.slice none 0 0] 26]] [0, 1, 2, 3, 4] 6 (List.take_append_drop 5 _).symm (by kernel_rfl) (by kernel_rfl) (by kernel_rfl) rfl rfl ?_ ?_
 ·
  refine ⟨?_, ?_, ?_, ?_, ?_, trivial⟩
  ·
   intro vf pf hmu hR
   refine dq3Q [] [] rfl (zaz (zao [5] rfl) (List.sublist_append_right _ _) ?_)
   exact zbq (zaw (cs := [dv]) rfl rfl rfl rfl rfl (zau 1 rfl 0 rfl))
  ·
   intro vf pf hmu hR
   refine dq3Q [] [] rfl (zbr (zao [4] rfl) ?_)
   exact zbq (zay rfl)
  ·
   intro vf pf hmu hR
   have e1 := hR 1 (by decide)
   refine Or.inl ⟨rfl, ?_⟩
   show RunM _ _ _ (pf 6) (([1] : List Nat).flatMap pf ++ _) (envOf3 _ vf [1] ++ _) _ _
   have hmu0 : pf 6 = [curE ghR4 a len cap] := hmu 0 (show 0 < 2 by omega)
   rw [hmu0]
   exact zcp (sk 11 (congrArg some e1.1) (zaf _)) (by simp only [e1.2, fS] <;> rfl) (zcy (R := (fun u_ p_ => (∃ x_ : Int, u_ = .int .i64 x_ ∧ 0 ≤ x_ ∧ x_ < 3) ∧ p_ = curE ghR4 a len cap)) rfl rfl (fun L w hX hm => zbl ghR4 a len cap z 3 _ _ _ hm hb (by constructor <;> omega)))
  ·
   intro vf pf hmu hR
   have e2 : (∃ pm_, (pf 2) = [pm_] ∧ (fun u_ p_ => (∃ x_ : Int, u_ = .int .i64 x_ ∧ 0 ≤ x_ ∧ x_ < 3) ∧ p_ = curE ghR4 a len cap) (vf 2) pm_) := hR 2 (by decide)
   obtain ⟨p10, pE2, hR11⟩ := e2
   obtain ⟨v9, vE2⟩ : ∃ x, vf 2 = x := ⟨_, rfl⟩
   rw [vE2] at hR11
   obtain ⟨⟨xhR11, rfl, xhR110, xhR111⟩, rfl⟩ := hR11
   refine dq3Q [2] [2] rfl (zcd (sk 12 (congrArg some vE2) (zaf _)) (by simp only [pE2, vE2, fS] <;> rfl) ?_)
   exact zcc (zbq (vaQ rfl rfl rfl)) (fun _ _ h => ⟨h.1.trans (by show _ = (.int .i64 (1 + (intOf_o (vf 2))) : Value); first | (rw [vE2]; done) | (rw [vE2]; rfl)), h.2⟩)
  intro vf pf hmu hR
  have e0 := hR 0 (by decide)
  refine Or.inl ⟨rfl, ?_⟩
  show RunM _ _ _ (pf 7) (([0] : List Nat).flatMap pf ++ _) (envOf3 _ vf [0] ++ _) _ _
  have hmu1 : pf 7 = [boxE b1 #[.slice none 0 0] 26] := hmu 1 (show 1 < 2 by omega)
  rw [hmu1]
  exact zcp (sk 2 rfl (sk 10 (congrArg some e0.1) (zaf _))) (by simp only [e0.2, fS] <;> rfl) (rm_mono (rm_storeBoxN (us := [dv]) (off := 0) 0 rfl rfl rfl rfl rfl rfl (zad hdv1 zbg) rfl rfl) (fun v_ p_ h => by show p_ = [boxE b1 #[dv] 26]; exact h))
 intro vf pf hmu hR
 have e2 : (∃ pm_, (pf 2) = [pm_] ∧ (fun u_ p_ => (∃ x_ : Int, u_ = .int .i64 x_ ∧ 0 ≤ x_ ∧ x_ < 3) ∧ p_ = curE ghR4 a len cap) (vf 2) pm_) := hR 2 (by decide)
 obtain ⟨p10, pE2, hR11⟩ := e2
 obtain ⟨v9, vE2⟩ : ∃ x, vf 2 = x := ⟨_, rfl⟩
 rw [vE2] at hR11
 obtain ⟨⟨xhR11, rfl, xhR110, xhR111⟩, rfl⟩ := hR11
 have e3 : (vf 3) = .int .i64 (1 + (intOf_o (vf 2))) ∧ (pf 3) = [] := hR 3 (by decide)
 rw [vE2] at e3
 have e4 : (pf 4) = [boxE b1 #[dv] 26] := hR 4 (by decide)
 have pE4 := e4
 have q0 := hR 0 (by decide)
 have q1 := hR 1 (by decide)
 have q3 := hR 3 (by decide)
 refine zcr (zcg [5, 4, 3, 2, 0] _ (sk 13 (congrArg some e3.1) (zaf _)) rfl) (by simp only [pE2, vE2, pE4, q0.2, q1.2, q3.2, fS] <;> rfl) ?_
 simp only [List.drop_succ_cons, List.drop_zero]
 refine zba 1 rfl ?_
 exact zal (hq_retM (rs := [.cell 2 26, .tmp 3]) (vs := [.agg #[dv], .int .i64 (1 + xhR11)]) (post := [bigE dp]) rfl ⟨⟨b1, 0, [dv], rfl, rfl, by kernel_rfl, by kernel_rfl, zau 1 rfl 0 rfl⟩, rfl, trivial⟩ rfl (slQ [2] rfl) ⟨D, dv, 1 + xhR11, dp, rfl, rfl, hdp, hdv1, hdd, hd1, by omega, by omega⟩)
theorem l06CopyOps_ret (os : List Oq) (v : Value) (w : World) (hv : RdsW w v 3 os.length (os.flatMap oqC)) (hl : os.length ≤ 1000000) :
   Calls Try.prog 110 #[v] w (Ret w (fun v' post => post = [rowE 97 3 v' os.length (os.flatMap oqC)])) := by
 refine zcf (N := 6) (args := [v]) Try.func110 rfl rfl (zbk 1 rfl (srQ ?_))
 refine zeb rfl (zds (s := 3) rfl Try.underlying71 rfl) ?_
 intro g1
 refine zak 1 rfl (zct (i := 0) (z := .agg #[.int .i64 0, .int .i64 0, .int .i64 0]) (bytes := 24) (n' := os.length) (xs' := (os.flatMap oqC)) rfl rfl rfl rfl Try.underlying71 (by kernel_rfl) rfl rfl rfl rfl (zag hv) (flat_onesD oqC os (fun r u hu => by simp [oqC] at hu; first | (subst hu; rfl) | (rcases hu with rfl | rfl <;> rfl) | (rcases hu with rfl | rfl | rfl <;> rfl) | (rcases hu with rfl | rfl | rfl | rfl <;> rfl))) (by first | omega | (simp only [List.length_take, List.length_drop]; omega)) (Nat.zero_add _) (List.nil_append _) (fun _ => rfl) ?_)
 intro v2
 refine zba 1 rfl ?_
 exact zal (hq_retR (post := [rowE 97 3 v2 os.length (os.flatMap oqC)]) rfl rfl (pfQ rfl) rfl)
theorem built_md03 (x0 x3 : Value) (h0 : x0.oneCell' = true) (h3 : x3.oneCell' = true) : Try.prog.built 35 [(0, x0), (3, x3)] = some #[x0, .slice none 0 0, .slice none 0 0, x3] := by
  (cases x0 <;> first | (exact absurd h0 Bool.false_ne_true) | (cases x3 <;> first | (exact absurd h3 Bool.false_ne_true) | kernel_rfl))
theorem l06Copy_ret (m : Md) (w : World) (hr : RdsMd w m) (hL : LenP m) (hos : ∀ g ∈ m.gs, g.os.length ≤ 15) (hps : ∀ x ∈ m.xs, x.ps.length ≤ 30) :
   Calls Try.prog 52 #[.agg #[m.sv, m.av, m.iv, m.mv]] w (Ret w (fun u_ p_ => ∃ (m' : Md) (ps : List HP), u_ = m'.agg ∧ p_ = [bigE ps] ∧ (∀ w, (bigE ps).holds w → RdsMd w m') ∧ MdOne m' ∧ EqM m' m)) := by
 obtain ⟨hl1, hl2, hl3, hl4⟩ := hL
 refine zcf (N := 69) (args := [.agg #[m.sv, m.av, m.iv, m.mv]]) Try.func52 rfl rfl (srQ ?_)
 refine zdv rfl (zdp rfl rfl) ?_
 intro b1
 refine zdv rfl (zbj (z := .agg #[.slice none 0 0, .slice none 0 0, .slice none 0 0, .slice none 0 0]) rfl rfl) ?_
 intro b2
 refine ntQ (zah ?_)
 refine hc_draw4 (l := [boxE b2 #[.slice none 0 0, .slice none 0 0, .slice none 0 0, .slice none 0 0] 35, boxE b1 #[m.sv, m.av, m.iv, m.mv] 35]) rfl 10 [0, 1, 2, 3, 4, 5, 6, 7, 8, 9] (List.take 10 _) (List.drop 10 _) [[], [], [1], [0, 2], [], [], [5], [4, 6], [3, 7], []] [some 7, some 8, some 9, some 10, some 11, some 12, some 13, some 14, some 15, some 3] (fun i_ vs_ v_ p_ => match i_ with | 0 => IsRow 38 3 0 ([]) v_ p_ | 1 => v_ = .pointer (some ⟨b1, 0 + 0, none⟩) ∧ p_ = [] | 2 => v_ = m.sv ∧ p_ = [] | 3 => (∃ pm_, p_ = [pm_] ∧ (fun u_ p_ => p_ = rowE 38 3 u_ m.ss.length (m.ss.flatMap sgC)) v_ pm_) | 4 => IsRow 94 4 0 ([]) v_ p_ | 5 => v_ = .pointer (some ⟨b1, 0 + 3, none⟩) ∧ p_ = [] | 6 => v_ = m.mv ∧ p_ = [] | 7 => (∃ pm_, p_ = [pm_] ∧ (fun u_ p_ => p_ = rowE 94 4 u_ m.ms.length (m.ms.flatMap mmC)) v_ pm_) | 8 => v_ = .agg #[(List.getD vs_ 0 undef), .slice none 0 0, .slice none 0 0, (List.getD vs_ 1 undef)] ∧ p_ = [] | 9 => IsBox #[.slice none 0 0, .slice none 0 0, .slice none 0 0, .slice none 0 0] 35 v_ p_ | _ => True) [[], [], [1], [2], [], [], [5], [6], [3, 7], []] [none, none, none, some 0, none, none, none, some 4, none, none] [] [1, 2, 3, 5, 6, 7, 8, 9] 11 (List.take_append_drop 10 _).symm (by kernel_rfl) (by kernel_rfl) (by kernel_rfl) rfl rfl ?_ ?_
 ·
  refine ⟨?_, ?_, ?_, ?_, ?_, ?_, ?_, ?_, ?_, ?_, trivial⟩
  ·
   intro vf pf hmu hR
   refine dq3Q [] [] rfl (zaz (zaf _) (List.sublist_append_right _ _) ?_)
   exact zds (s := 3) rfl Try.underlying30 rfl
  ·
   intro vf pf hmu hR
   refine dq3Q [] [] rfl (zbr (zao [1] rfl) ?_)
   exact zbq (fdQ 0 rfl rfl rfl)
  ·
   intro vf pf hmu hR
   have e1 := hR 1 (by decide)
   refine dq3Q [1] [1] rfl (zaz (sk 8 (congrArg some e1.1) (zaf _)) (List.sublist_append_right _ _) ?_)
   exact zbq (zac rfl rfl rfl (zaa 1 rfl rfl))
  ·
   intro vf pf hmu hR
   have e0 : IsRow 38 3 0 ([]) (vf 0) (pf 0) := hR 0 (by decide)
   obtain ⟨g3, vE0, pE0⟩ := e0
   have e2 := hR 2 (by decide)
   refine Or.inl ⟨rfl, ?_⟩
   show RunM _ _ _ (pf 0) (([2] : List Nat).flatMap pf ++ _) (envOf3 _ vf [0, 2] ++ _) _ _
   rw [pE0]; rw [vE0]
   exact zcp (sk 7 (congrArg some vE0) (sk 9 (congrArg some e2.1) (zaf _))) (by simp only [e2.2, fS] <;> rfl) (rm_append (d := 0) (z := .agg #[.int .i64 0, .int .i64 0, .int .i64 0]) (bytes := 24) (n' := m.ss.length) (xs' := (m.ss.flatMap sgC)) rfl Try.underlying30 rfl rfl rfl rfl (zag ((hr).s)) (flat_onesD sgC m.ss (fun r u hu => by simp [sgC] at hu; first | (subst hu; rfl) | (rcases hu with rfl | rfl <;> rfl) | (rcases hu with rfl | rfl | rfl <;> rfl) | (rcases hu with rfl | rfl | rfl | rfl <;> rfl))) (by first | omega | (simp only [List.length_take, List.length_drop]; omega)) (Nat.zero_add _) (List.nil_append _))
  ·
   intro vf pf hmu hR
   refine dq3Q [] [] rfl (zaz (zaf _) (List.sublist_append_right _ _) ?_)
   exact zds (s := 4) rfl Try.underlying33 rfl
  ·
   intro vf pf hmu hR
   refine dq3Q [] [] rfl (zbr (zao [1] rfl) ?_)
   exact zbq (fdQ 3 rfl rfl rfl)
  ·
   intro vf pf hmu hR
   have e5 := hR 5 (by decide)
   refine dq3Q [5] [5] rfl (zaz (sk 12 (congrArg some e5.1) (zaf _)) (List.sublist_append_right _ _) ?_)
   exact zbq (zac rfl rfl rfl (zaa 1 rfl rfl))
  ·
   intro vf pf hmu hR
   have e4 : IsRow 94 4 0 ([]) (vf 4) (pf 4) := hR 4 (by decide)
   obtain ⟨g7, vE4, pE4⟩ := e4
   have e6 := hR 6 (by decide)
   refine Or.inl ⟨rfl, ?_⟩
   show RunM _ _ _ (pf 4) (([6] : List Nat).flatMap pf ++ _) (envOf3 _ vf [4, 6] ++ _) _ _
   rw [pE4]; rw [vE4]
   exact zcp (sk 11 (congrArg some vE4) (sk 13 (congrArg some e6.1) (zaf _))) (by simp only [e6.2, fS] <;> rfl) (rm_append (d := 0) (z := .agg #[.int .i64 0, .int .i64 0, .int .i64 0, .int .i64 0]) (bytes := 32) (n' := m.ms.length) (xs' := (m.ms.flatMap mmC)) rfl Try.underlying33 rfl rfl rfl rfl (zag ((hr).m)) (flat_onesD mmC m.ms (fun r u hu => by simp [mmC] at hu; first | (subst hu; rfl) | (rcases hu with rfl | rfl <;> rfl) | (rcases hu with rfl | rfl | rfl <;> rfl) | (rcases hu with rfl | rfl | rfl | rfl <;> rfl))) (by first | omega | (simp only [List.length_take, List.length_drop]; omega)) (Nat.zero_add _) (List.nil_append _))
  ·
   intro vf pf hmu hR
   have e3 : (∃ pm_, (pf 3) = [pm_] ∧ (fun u_ p_ => p_ = rowE 38 3 u_ m.ss.length (m.ss.flatMap sgC)) (vf 3) pm_) := hR 3 (by decide)
   obtain ⟨p5, pE3, hR6⟩ := e3
   obtain ⟨v4, vE3⟩ : ∃ x, vf 3 = x := ⟨_, rfl⟩
   rw [vE3] at hR6
   subst hR6
   have e7 : (∃ pm_, (pf 7) = [pm_] ∧ (fun u_ p_ => p_ = rowE 94 4 u_ m.ms.length (m.ms.flatMap mmC)) (vf 7) pm_) := hR 7 (by decide)
   obtain ⟨p9, pE7, hR10⟩ := e7
   obtain ⟨v8, vE7⟩ : ∃ x, vf 7 = x := ⟨_, rfl⟩
   rw [vE7] at hR10
   subst hR10
   refine dq3Q [3, 7] [3, 7] rfl (zcd (sk 10 (congrArg some vE3) (sk 14 (congrArg some vE7) (zaf _))) (by simp only [pE3, vE3, pE7, vE7, fS] <;> rfl) ?_)
   exact zcc (zbq (rv_buildMD (cs := #[v4, .slice none 0 0, .slice none 0 0, v8]) rfl rfl (fun w hm => built_md03 v4 v8 ((zam 0 rfl w hm).one) ((zam 1 rfl w hm).one)))) (fun _ _ h => ⟨h.1.trans (by show _ = (.agg #[(vf 3), .slice none 0 0, .slice none 0 0, (vf 7)] : Value); first | (rw [vE3, vE7]; done) | (rw [vE3, vE7]; rfl)), h.2⟩)
  intro vf pf hmu hR
  refine dq3Q [] [] rfl (zaz (zaf _) (List.sublist_append_right _ _) ?_)
  exact zbj (z := .agg #[.slice none 0 0, .slice none 0 0, .slice none 0 0, .slice none 0 0]) rfl rfl
 intro vf pf hmu hR
 have e0 : IsRow 38 3 0 ([]) (vf 0) (pf 0) := hR 0 (by decide)
 obtain ⟨g3, vE0, pE0⟩ := e0
 have e3 : (∃ pm_, (pf 3) = [pm_] ∧ (fun u_ p_ => p_ = rowE 38 3 u_ m.ss.length (m.ss.flatMap sgC)) (vf 3) pm_) := hR 3 (by decide)
 obtain ⟨p5, pE3, hR6⟩ := e3
 obtain ⟨v4, vE3⟩ : ∃ x, vf 3 = x := ⟨_, rfl⟩
 rw [vE3] at hR6
 subst hR6
 have e4 : IsRow 94 4 0 ([]) (vf 4) (pf 4) := hR 4 (by decide)
 obtain ⟨g7, vE4, pE4⟩ := e4
 have e7 : (∃ pm_, (pf 7) = [pm_] ∧ (fun u_ p_ => p_ = rowE 94 4 u_ m.ms.length (m.ms.flatMap mmC)) (vf 7) pm_) := hR 7 (by decide)
 obtain ⟨p9, pE7, hR10⟩ := e7
 obtain ⟨v8, vE7⟩ : ∃ x, vf 7 = x := ⟨_, rfl⟩
 rw [vE7] at hR10
 subst hR10
 have e8 : (vf 8) = .agg #[(vf 3), .slice none 0 0, .slice none 0 0, (vf 7)] ∧ (pf 8) = [] := hR 8 (by decide)
 rw [vE3, vE7] at e8
 have e9 : IsBox #[.slice none 0 0, .slice none 0 0, .slice none 0 0, .slice none 0 0] 35 (vf 9) (pf 9) := hR 9 (by decide)
 obtain ⟨b11, vE9, pE9⟩ := e9
 have q1 := hR 1 (by decide)
 have q2 := hR 2 (by decide)
 have q5 := hR 5 (by decide)
 have q6 := hR 6 (by decide)
 have q8 := hR 8 (by decide)
 refine zcr (zcg [2, 1, 0] _ (sk 3 (congrArg some vE9) (sk 15 (congrArg some e8.1) (zaf _))) rfl) (by simp only [pE3, vE3, pE7, vE7, pE9, vE9, q1.2, q2.2, q5.2, q6.2, q8.2, fS] <;> rfl) ?_
 simp only [List.drop_succ_cons, List.drop_zero]
 refine zdb (i := 1) rfl (fun ho12 => ?_)
 refine zdb (i := 0) rfl (fun ho13 => ?_)
 refine zbn (cs' := #[v4, .slice none 0 0, .slice none 0 0, v8]) (i := 2) (off := 0) (us := [v4, .slice none 0 0, .slice none 0 0, v8]) rfl rfl rfl rfl rfl rfl rfl (zad ho13 (zad rfl (zad rfl (zad ho12 zbg)))) rfl rfl rfl (ntQ (zah (zbk 1 rfl (zbh ?_))))
 refine zej [bigE [], rowE 89 2 (.slice none 0 0) (([] : List As).length) (([] : List As).flatMap asC), rowE 38 3 v4 m.ss.length (m.ss.flatMap sgC), rowE 94 4 v8 m.ms.length (m.ms.flatMap mmC), boxE b11 #[v4, .slice none 0 0, .slice none 0 0, v8] 35, boxE b2 #[.slice none 0 0, .slice none 0 0, .slice none 0 0, .slice none 0 0] 35, boxE b1 #[m.sv, m.av, m.iv, m.mv] 35] (fun w hm => Mem.big (ps := []) (hm.nilRow 89 2)) ?_
 refine lkQ4 (α := Nat) (β := Value) (γ := List As) (δ := List HP) [0, 1, 2, 3] rfl (fun i ga gs ps => [bigE ps, rowE 89 2 ga gs.length (gs.flatMap asC), rowE 38 3 v4 m.ss.length (m.ss.flatMap sgC), rowE 94 4 v8 m.ms.length (m.ms.flatMap mmC), boxE b11 #[v4, ga, .slice none 0 0, v8] 35, boxE b2 #[.slice none 0 0, .slice none 0 0, .slice none 0 0, .slice none 0 0] 35, boxE b1 #[m.sv, m.av, m.iv, m.mv] 35]) (fun i ga gs ps => [(4, .int .i64 (i : Int))]) (fun i ga gs ps => i ≤ m.gs.length ∧ gs.map asV = (m.gs.take i).map asV ∧ ∀ w, (bigE ps).holds w → OpsR w gs) (fun i ga gs ps => m.gs.length - i) 0 _ [] [] ⟨Nat.zero_le _, rfl, fun w _ => OpsR.nil w⟩ (saQ rfl) (pfQ rfl) ?_
 intro i ga gs ps hi14
 obtain ⟨hi, hgq, hp⟩ := hi14
 have hgl : gs.length ≤ 30 := by have h9 := congrArg List.length hgq; rw [List.length_map, List.length_map, List.length_take] at h9; omega
 refine zah (zah (reQ 1 rfl (hvQ rfl (fdQ 1 rfl rfl rfl) (hvQ rfl (zac rfl rfl rfl (zaa 6 rfl rfl)) (hvQ rfl (lnQ rfl rfl rfl (zag ((hr).g))) ?_)))))
 refine zcb rfl rfl rfl rfl rfl rfl (fun h15 => ?_) (fun h15 => ?_)
 ·
  refine ntQ (zaj rfl (zdi (sbQ ?_)))
  refine hc_draw rfl 17 [0, 1, 2, 3, 4, 5, 6, 7, 8, 9, 10, 11, 12, 13, 14, 15, 16] (List.take 17 _) (List.drop 17 _) [[], [0], [], [2], [], [3, 4], [5], [6], [], [8], [], [9, 10], [11], [12], [13], [7, 14], [14, 15]] [23, 24, 25, 26, 27, 28, 29, 30, 31, 32, 33, 34, 35, 36, 37, 38, 39] (fun i_ vs_ v_ p_ => match i_ with | 0 => v_ = .pointer (some ⟨b11, 0 + 1, none⟩) ∧ p_ = [] | 1 => v_ = ga ∧ p_ = [] | 2 => v_ = .pointer (some ⟨b1, 0 + 1, none⟩) ∧ p_ = [] | 3 => v_ = m.av ∧ p_ = [] | 4 => v_ = .int .i64 (i : Int) ∧ p_ = [] | 5 => v_ = elP m.av (((i : Int)).toNat * 2) ∧ p_ = [] | 6 => v_ = elP m.av (((i : Int)).toNat * 2 + 0) ∧ p_ = [] | 7 => v_ = .int .i64 ((m.gs.getD i as0).t) ∧ p_ = [] | 8 => v_ = .pointer (some ⟨b1, 0 + 1, none⟩) ∧ p_ = [] | 9 => v_ = m.av ∧ p_ = [] | 10 => v_ = .int .i64 (i : Int) ∧ p_ = [] | 11 => v_ = elP m.av (((i : Int)).toNat * 2) ∧ p_ = [] | 12 => v_ = elP m.av (((i : Int)).toNat * 2 + 1) ∧ p_ = [] | 13 => v_ = (m.gs.getD i as0).ov ∧ p_ = [] | 14 => (fun v' post => post = [rowE 97 3 v' (m.gs.getD i as0).os.length ((m.gs.getD i as0).os.flatMap oqC)]) v_ p_ | 15 => v_ = .agg #[.int .i64 ((m.gs.getD i as0).t), (List.getD vs_ 1 undef)] ∧ p_ = [] | 16 => IsRow 89 2 1 ([.int .i64 ((m.gs.getD i as0).t), (List.getD vs_ 0 undef)]) v_ p_ | _ => True) (List.take_append_drop 17 _).symm (by kernel_rfl) (by kernel_rfl) rfl rfl ?_ ?_
  ·
   refine ⟨?_, ?_, ?_, ?_, ?_, ?_, ?_, ?_, ?_, ?_, ?_, ?_, ?_, ?_, ?_, ?_, ?_, trivial⟩
   ·
    intro vf pf hR
    exact ovQ rfl (zao [3] rfl) (zbq (fdQ 1 rfl rfl rfl))
   ·
    intro vf pf hR
    have e0 := hR 0 (by decide)
    exact olQ rfl (sk 23 (congrArg some e0.1) (zaf _)) (zbq (zac rfl rfl rfl (zaa 4 rfl rfl)))
   ·
    intro vf pf hR
    exact ovQ rfl (zao [1] rfl) (zbq (fdQ 1 rfl rfl rfl))
   ·
    intro vf pf hR
    have e2 := hR 2 (by decide)
    exact olQ rfl (sk 25 (congrArg some e2.1) (zaf _)) (zbq (zac rfl rfl rfl (zaa 6 rfl rfl)))
   ·
    intro vf pf hR
    exact ovQ rfl (zao [4] rfl) (zbq (zay rfl))
   ·
    intro vf pf hR
    have e3 := hR 3 (by decide)
    have e4 := hR 4 (by decide)
    exact olQ rfl (sk 26 (congrArg some e3.1) (sk 27 (congrArg some e4.1) (zaf _))) (zbq (riQ 2 rfl rfl rfl rfl (zag ((hr).g))))
   ·
    intro vf pf hR
    have e5 := hR 5 (by decide)
    exact olQ rfl (sk 28 (congrArg some e5.1) (zaf _)) (zbq (zbe (k0 := 0) rfl rfl rfl (zag ((hr).g)) (by omega)))
   ·
    intro vf pf hR
    have e6 := hR 6 (by decide)
    exact olQ rfl (sk 29 (congrArg some e6.1) (zaf _)) (zbq (zat (u := .int .i64 ((m.gs.getD i as0).t)) rfl rfl rfl (zag ((hr).g)) ((zce asC 2 (fun _ => rfl) m.gs as0 (show i < _ by omega) (by decide)).trans rfl)))
   ·
    intro vf pf hR
    exact ovQ rfl (zao [1] rfl) (zbq (fdQ 1 rfl rfl rfl))
   ·
    intro vf pf hR
    have e8 := hR 8 (by decide)
    exact olQ rfl (sk 31 (congrArg some e8.1) (zaf _)) (zbq (zac rfl rfl rfl (zaa 6 rfl rfl)))
   ·
    intro vf pf hR
    exact ovQ rfl (zao [4] rfl) (zbq (zay rfl))
   ·
    intro vf pf hR
    have e9 := hR 9 (by decide)
    have e10 := hR 10 (by decide)
    exact olQ rfl (sk 32 (congrArg some e9.1) (sk 33 (congrArg some e10.1) (zaf _))) (zbq (riQ 2 rfl rfl rfl rfl (zag ((hr).g))))
   ·
    intro vf pf hR
    have e11 := hR 11 (by decide)
    exact olQ rfl (sk 34 (congrArg some e11.1) (zaf _)) (zbq (zbe (k0 := 1) rfl rfl rfl (zag ((hr).g)) (by omega)))
   ·
    intro vf pf hR
    have e12 := hR 12 (by decide)
    exact olQ rfl (sk 35 (congrArg some e12.1) (zaf _)) (zbq (zat (u := (m.gs.getD i as0).ov) rfl rfl rfl (zag ((hr).g)) ((zce asC 2 (fun _ => rfl) m.gs as0 (show i < _ by omega) (by decide)).trans rfl)))
   ·
    intro vf pf hR
    have e13 := hR 13 (by decide)
    exact olQ rfl (sk 36 (congrArg some e13.1) (zaf _)) (zar rfl rfl (fun w hm => l06CopyOps_ret (m.gs.getD i as0).os _ w ((hr.o.at (k := i) (by omega)).below hm.bel) (by have h9 := hos _ (zbp (d := as0) (show i < m.gs.length by omega)); omega)))
   ·
    intro vf pf hR
    have e7 := hR 7 (by decide)
    have e14 : (fun v' post => post = [rowE 97 3 v' (m.gs.getD i as0).os.length ((m.gs.getD i as0).os.flatMap oqC)]) (vf 14) (pf 14) := hR 14 (by decide)
    obtain ⟨v16, vE14⟩ : ∃ x, vf 14 = x := ⟨_, rfl⟩
    obtain ⟨p17, pE14⟩ : ∃ x, pf 14 = x := ⟨_, rfl⟩
    have hR18 := e14
    rw [vE14, pE14] at hR18
    subst hR18
    refine Or.inl ⟨rfl, ?_⟩
    exact zcd (sk 30 (congrArg some e7.1) (sk 37 (congrArg some vE14) (zaf _))) (by simp only [pE14, vE14, e7.2, fS] <;> rfl) (zcc (zbq (rv_buildMD (cs := #[.int .i64 ((m.gs.getD i as0).t), v16]) rfl rfl (fun w hm => built_as ((m.gs.getD i as0).t) v16 ((zam 0 rfl w hm).one)))) (fun _ _ h => ⟨h.1.trans (by show _ = (.agg #[.int .i64 ((m.gs.getD i as0).t), (vf 14)] : Value); first | (rw [vE14]; done) | (rw [vE14]; rfl)), h.2⟩))
   intro vf pf hR
   have e14 : (fun v' post => post = [rowE 97 3 v' (m.gs.getD i as0).os.length ((m.gs.getD i as0).os.flatMap oqC)]) (vf 14) (pf 14) := hR 14 (by decide)
   obtain ⟨v16, vE14⟩ : ∃ x, vf 14 = x := ⟨_, rfl⟩
   obtain ⟨p17, pE14⟩ : ∃ x, pf 14 = x := ⟨_, rfl⟩
   have hR18 := e14
   rw [vE14, pE14] at hR18
   subst hR18
   have e15 : (vf 15) = .agg #[.int .i64 ((m.gs.getD i as0).t), (vf 14)] ∧ (pf 15) = [] := hR 15 (by decide)
   rw [vE14] at e15
   refine Or.inl ⟨rfl, ?_⟩
   exact zcd (sk 38 (congrArg some e15.1) (zaf _)) (by simp only [pE14, vE14, e15.2, fS] <;> rfl) (zcc (zai (z := .agg #[.int .i64 0, .slice none 0 0]) (s := 2) (cs := [.int .i64 ((m.gs.getD i as0).t), v16]) rfl Try.underlying31 rfl (by decide) rfl (by kernel_rfl) rfl) (fun v_ p_ h => by show IsRow 89 2 1 ([.int .i64 ((m.gs.getD i as0).t), (vf 14)]) v_ p_; rw [vE14]; exact h))
  intro vf pf hR
  have e1 := hR 1 (by decide)
  have e14 : (fun v' post => post = [rowE 97 3 v' (m.gs.getD i as0).os.length ((m.gs.getD i as0).os.flatMap oqC)]) (vf 14) (pf 14) := hR 14 (by decide)
  obtain ⟨v16, vE14⟩ : ∃ x, vf 14 = x := ⟨_, rfl⟩
  obtain ⟨p17, pE14⟩ : ∃ x, pf 14 = x := ⟨_, rfl⟩
  have hR18 := e14
  rw [vE14, pE14] at hR18
  subst hR18
  have e16 : IsRow 89 2 1 ([.int .i64 ((m.gs.getD i as0).t), (vf 14)]) (vf 16) (pf 16) := hR 16 (by decide)
  rw [vE14] at e16
  obtain ⟨g19, vE16, pE16⟩ := e16
  have q0 := hR 0 (by decide)
  have q1 := hR 1 (by decide)
  have q2 := hR 2 (by decide)
  have q3 := hR 3 (by decide)
  have q4 := hR 4 (by decide)
  have q5 := hR 5 (by decide)
  have q6 := hR 6 (by decide)
  have q7 := hR 7 (by decide)
  have q8 := hR 8 (by decide)
  have q9 := hR 9 (by decide)
  have q10 := hR 10 (by decide)
  have q11 := hR 11 (by decide)
  have q12 := hR 12 (by decide)
  have q13 := hR 13 (by decide)
  have q15 := hR 15 (by decide)
  refine zcr (zcg [20, 4, 3, 2, 1, 0] _ (sk 24 (congrArg some e1.1) (sk 39 (congrArg some vE16) (zaf _))) rfl) (by simp only [pE14, vE14, pE16, vE16, q0.2, q1.2, q2.2, q3.2, q4.2, q5.2, q6.2, q7.2, q8.2, q9.2, q10.2, q11.2, q12.2, q13.2, q15.2, fS] <;> rfl) ?_
  simp only [List.drop_succ_cons, List.drop_zero]
  refine zdb (i := 0) rfl (fun ho20 => ?_)
  refine zct (i := 3) (z := .agg #[.int .i64 0, .slice none 0 0]) (bytes := 32) rfl rfl rfl rfl Try.underlying31 (by kernel_rfl) rfl rfl rfl rfl (zam 1 rfl) (zad rfl (zad ho20 zbg)) (by first | omega | (simp only [List.length_append, List.length_cons, List.length_nil]; omega)) (zcj gs [(As.mk ((m.gs.getD i as0).t) v16 (m.gs.getD i as0).os)]) (zdc asC gs (As.mk ((m.gs.getD i as0).t) v16 (m.gs.getD i as0).os) _ rfl) (fun _ => rfl) ?_
  intro v21
  refine hvQ rfl (fdQ 1 rfl rfl rfl) (zdb (i := 3) rfl (fun ho22 => ?_))
  refine zec (i := 6) (cs' := #[v4, v21, .slice none 0 0, v8]) rfl rfl rfl rfl rfl rfl ho22 rfl rfl rfl rfl (zcx (zdq (reQ 1 rfl (hvQ rfl (vaQ rfl rfl rfl) (enQ 1 rfl ?_)))))
  refine zbd 9 [8, 7, 6, 5, 4, 3, 0, 2] rfl rfl (by decide) ?_
  refine zbu 2 rfl ?_
  exact zda (i + 1) v21 (gs ++ [(As.mk ((m.gs.getD i as0).t) v16 (m.gs.getD i as0).os)]) [bigE ps, rowE 97 3 v16 (((m.gs.getD i as0).os).length) (((m.gs.getD i as0).os).flatMap oqC)] ⟨by omega, by rw [List.map_append, hgq, zex as0 (show i < m.gs.length by omega), List.map_append]; rfl, fun w hw => (hp w (zas hw List.mem_cons_self)).app (zcl (zas hw (List.mem_cons_of_mem _ List.mem_cons_self)))⟩ (by omega) (saQ rfl) (pfQ rfl)
 refine ntQ (zap rfl ?_)
 refine zbv (zep ?_)
 refine zan (zbf (zah (zbk 1 rfl (zbh ?_))))
 refine zej [bigE [], rowE 63 3 (.slice none 0 0) (([] : List Ix).length) (([] : List Ix).flatMap ixC), bigE ps, rowE 89 2 ga gs.length (gs.flatMap asC), rowE 38 3 v4 m.ss.length (m.ss.flatMap sgC), rowE 94 4 v8 m.ms.length (m.ms.flatMap mmC), boxE b11 #[v4, ga, .slice none 0 0, v8] 35, boxE b2 #[.slice none 0 0, .slice none 0 0, .slice none 0 0, .slice none 0 0] 35, boxE b1 #[m.sv, m.av, m.iv, m.mv] 35] (fun w hm => Mem.big (ps := []) (hm.nilRow 63 3)) ?_
 refine lkQ4 (α := Nat) (β := Value) (γ := List Ix) (δ := List HP) [0, 1, 2, 3, 20] rfl (fun j gx xs qs => [bigE qs, rowE 63 3 gx xs.length (xs.flatMap ixC), bigE ps, rowE 89 2 ga gs.length (gs.flatMap asC), rowE 38 3 v4 m.ss.length (m.ss.flatMap sgC), rowE 94 4 v8 m.ms.length (m.ms.flatMap mmC), boxE b11 #[v4, ga, gx, v8] 35, boxE b2 #[.slice none 0 0, .slice none 0 0, .slice none 0 0, .slice none 0 0] 35, boxE b1 #[m.sv, m.av, m.iv, m.mv] 35]) (fun j gx xs qs => [(5, .int .i64 (j : Int))]) (fun j gx xs qs => j ≤ m.xs.length ∧ xs.map ixV = (m.xs.take j).map ixV ∧ ∀ w, (bigE qs).holds w → PtsR w xs) (fun j gx xs qs => m.xs.length - j) 0 _ [] [] ⟨Nat.zero_le _, rfl, fun w _ => PtsR.nil w⟩ (saQ rfl) (pfQ rfl) ?_
 intro j gx xs qs hi23
 obtain ⟨hj, hxq, hq⟩ := hi23
 have hxl : xs.length ≤ 3 := by have h9 := congrArg List.length hxq; rw [List.length_map, List.length_map, List.length_take] at h9; omega
 refine zah (zah (reQ 1 rfl (hvQ rfl (fdQ 2 rfl rfl rfl) (hvQ rfl (zac rfl rfl rfl (zaa 8 rfl rfl)) (hvQ rfl (lnQ rfl rfl rfl (zag ((hr).x))) ?_)))))
 refine zcb rfl rfl rfl rfl rfl rfl (fun h24 => ?_) (fun h24 => ?_)
 ·
  refine ntQ (zaj rfl (zdi (sbQ (srQ ?_))))
  have hps9 := hps _ (zbp (d := ix0) (show j < m.xs.length by omega))
  refine hvQ rfl (fdQ 2 rfl rfl rfl) (hvQ rfl (zac rfl rfl rfl (zaa 8 rfl rfl)) (zak 1 rfl (hvQ rfl (riQ 3 rfl rfl rfl rfl (zag ((hr).x))) ?_)))
  refine hvQ rfl (zbi (us := [.int .i64 ((m.xs.getD j ix0).m), .int .i64 ((m.xs.getD j ix0).p), (m.xs.getD j ix0).pv]) rfl rfl rfl rfl (zag ((hr).x)) (by omega) rfl (zca ixC 3 (fun _ => rfl) m.xs ix0 (show j < _ by omega) rfl)) (zdv rfl (zbj (z := .agg #[.int .i64 0, .int .i64 0, .slice none 0 0]) rfl rfl) ?_)
  intro b25
  refine zbn (cs' := #[.int .i64 ((m.xs.getD j ix0).m), .int .i64 ((m.xs.getD j ix0).p), (m.xs.getD j ix0).pv]) (i := 0) (off := 0) (us := [.int .i64 ((m.xs.getD j ix0).m), .int .i64 ((m.xs.getD j ix0).p), (m.xs.getD j ix0).pv]) rfl rfl rfl rfl rfl rfl rfl (zad rfl (zad rfl (zad (hr.p.at (k := j) (by omega)).one zbg))) rfl rfl rfl (ntQ ?_)
  refine hc_draw4 (l := [boxE b25 #[.int .i64 ((m.xs.getD j ix0).m), .int .i64 ((m.xs.getD j ix0).p), (m.xs.getD j ix0).pv] 63, bigE qs, rowE 63 3 gx xs.length (xs.flatMap ixC), bigE ps, rowE 89 2 ga gs.length (gs.flatMap asC), rowE 38 3 v4 m.ss.length (m.ss.flatMap sgC), rowE 94 4 v8 m.ms.length (m.ms.flatMap mmC), boxE b11 #[v4, ga, gx, v8] 35, boxE b2 #[.slice none 0 0, .slice none 0 0, .slice none 0 0, .slice none 0 0] 35, boxE b1 #[m.sv, m.av, m.iv, m.mv] 35]) rfl 12 [0, 1, 2, 3, 4, 5, 6, 7, 8, 9, 10, 11] (List.take 12 _) (List.drop 12 _) [[], [0], [], [2], [], [4], [], [], [7], [6, 8], [3, 5, 9], [9, 10]] [some 54, some 55, some 56, some 57, some 58, some 59, some 60, some 61, some 62, some 63, some 64, some 65] (fun i_ vs_ v_ p_ => match i_ with | 0 => v_ = .pointer (some ⟨b11, 0 + 2, none⟩) ∧ p_ = [] | 1 => v_ = gx ∧ p_ = [] | 2 => v_ = .pointer (some ⟨b25, 0 + 0, none⟩) ∧ p_ = [] | 3 => v_ = .int .i64 ((m.xs.getD j ix0).m) ∧ p_ = [] | 4 => v_ = .pointer (some ⟨b25, 0 + 1, none⟩) ∧ p_ = [] | 5 => v_ = .int .i64 ((m.xs.getD j ix0).p) ∧ p_ = [] | 6 => IsRow 3 1 0 ([]) v_ p_ | 7 => v_ = .pointer (some ⟨b25, 0 + 2, none⟩) ∧ p_ = [] | 8 => v_ = (m.xs.getD j ix0).pv ∧ p_ = [] | 9 => (∃ pm_, p_ = [pm_] ∧ (fun u_ p_ => p_ = rowE 3 1 u_ (((m.xs.getD j ix0).ps).length) (((m.xs.getD j ix0).ps).map (Value.int .i64))) v_ pm_) | 10 => v_ = .agg #[.int .i64 ((m.xs.getD j ix0).m), .int .i64 ((m.xs.getD j ix0).p), (List.getD vs_ 2 undef)] ∧ p_ = [] | 11 => IsRow 63 3 1 ([.int .i64 ((m.xs.getD j ix0).m), .int .i64 ((m.xs.getD j ix0).p), (List.getD vs_ 0 undef)]) v_ p_ | _ => True) [[], [0], [], [2], [], [4], [], [], [7], [8], [3, 5, 9], [9, 10]] [none, none, none, none, none, none, none, none, none, some 6, none, none] [] [0, 1, 2, 3, 4, 5, 7, 8, 9, 10, 11] 15 (List.take_append_drop 12 _).symm (by kernel_rfl) (by kernel_rfl) (by kernel_rfl) rfl rfl ?_ ?_
  ·
   refine ⟨?_, ?_, ?_, ?_, ?_, ?_, ?_, ?_, ?_, ?_, ?_, ?_, trivial⟩
   ·
    intro vf pf hmu hR
    refine dq3Q [] [] rfl (zbr (zao [3] rfl) ?_)
    exact zbq (fdQ 2 rfl rfl rfl)
   ·
    intro vf pf hmu hR
    have e0 := hR 0 (by decide)
    refine dq3Q [0] [0] rfl (zaz (sk 54 (congrArg some e0.1) (zaf _)) (List.sublist_append_right _ _) ?_)
    exact zbq (zac rfl rfl rfl (zaa 7 rfl rfl))
   ·
    intro vf pf hmu hR
    refine dq3Q [] [] rfl (zbr (zao [6] rfl) ?_)
    exact zbq (fdQ 0 rfl rfl rfl)
   ·
    intro vf pf hmu hR
    have e2 := hR 2 (by decide)
    refine dq3Q [2] [2] rfl (zaz (sk 56 (congrArg some e2.1) (zaf _)) (List.sublist_append_right _ _) ?_)
    exact zbq (zac rfl rfl rfl (zaa 0 rfl rfl))
   ·
    intro vf pf hmu hR
    refine dq3Q [] [] rfl (zbr (zao [6] rfl) ?_)
    exact zbq (fdQ 1 rfl rfl rfl)
   ·
    intro vf pf hmu hR
    have e4 := hR 4 (by decide)
    refine dq3Q [4] [4] rfl (zaz (sk 58 (congrArg some e4.1) (zaf _)) (List.sublist_append_right _ _) ?_)
    exact zbq (zac rfl rfl rfl (zaa 0 rfl rfl))
   ·
    intro vf pf hmu hR
    refine dq3Q [] [] rfl (zaz (zaf _) (List.sublist_append_right _ _) ?_)
    exact zds (s := 1) rfl Try.underlying48 rfl
   ·
    intro vf pf hmu hR
    refine dq3Q [] [] rfl (zbr (zao [6] rfl) ?_)
    exact zbq (fdQ 2 rfl rfl rfl)
   ·
    intro vf pf hmu hR
    have e7 := hR 7 (by decide)
    refine dq3Q [7] [7] rfl (zaz (sk 61 (congrArg some e7.1) (zaf _)) (List.sublist_append_right _ _) ?_)
    exact zbq (zac rfl rfl rfl (zaa 0 rfl rfl))
   ·
    intro vf pf hmu hR
    have e6 : IsRow 3 1 0 ([]) (vf 6) (pf 6) := hR 6 (by decide)
    obtain ⟨g26, vE6, pE6⟩ := e6
    have e8 := hR 8 (by decide)
    refine Or.inl ⟨rfl, ?_⟩
    show RunM _ _ _ (pf 6) (([8] : List Nat).flatMap pf ++ _) (envOf3 _ vf [6, 8] ++ _) _ _
    rw [pE6]; rw [vE6]
    exact zcp (sk 60 (congrArg some vE6) (sk 62 (congrArg some e8.1) (zaf _))) (by simp only [e8.2, fS] <;> rfl) (rm_append (d := 0) (z := .int .i64 0) (bytes := 8) (n' := ((m.xs.getD j ix0).ps).length) (xs' := (((m.xs.getD j ix0).ps).map (Value.int .i64))) rfl Try.underlying48 rfl rfl rfl rfl (zag ((hr).p.at (k := j) (by omega))) (zcn _) (by first | omega | (simp; done) | (simp; omega)) (Nat.zero_add _) (List.nil_append _))
   ·
    intro vf pf hmu hR
    have e3 := hR 3 (by decide)
    have e5 := hR 5 (by decide)
    have e9 : (∃ pm_, (pf 9) = [pm_] ∧ (fun u_ p_ => p_ = rowE 3 1 u_ (((m.xs.getD j ix0).ps).length) (((m.xs.getD j ix0).ps).map (Value.int .i64))) (vf 9) pm_) := hR 9 (by decide)
    obtain ⟨p28, pE9, hR29⟩ := e9
    obtain ⟨v27, vE9⟩ : ∃ x, vf 9 = x := ⟨_, rfl⟩
    rw [vE9] at hR29
    subst hR29
    refine dq3Q [3, 5, 9] [3, 5, 9] rfl (zcd (sk 57 (congrArg some e3.1) (sk 59 (congrArg some e5.1) (sk 63 (congrArg some vE9) (zaf _)))) (by simp only [pE9, vE9, e3.2, e5.2, fS] <;> rfl) ?_)
    exact zcc (zbq (rv_buildMD (cs := #[.int .i64 ((m.xs.getD j ix0).m), .int .i64 ((m.xs.getD j ix0).p), v27]) rfl rfl (fun w hm => built_ix ((m.xs.getD j ix0).m) ((m.xs.getD j ix0).p) v27 ((zam 0 rfl w hm).one)))) (fun _ _ h => ⟨h.1.trans (by show _ = (.agg #[.int .i64 ((m.xs.getD j ix0).m), .int .i64 ((m.xs.getD j ix0).p), (vf 9)] : Value); first | (rw [vE9]; done) | (rw [vE9]; rfl)), h.2⟩)
   intro vf pf hmu hR
   have e9 : (∃ pm_, (pf 9) = [pm_] ∧ (fun u_ p_ => p_ = rowE 3 1 u_ (((m.xs.getD j ix0).ps).length) (((m.xs.getD j ix0).ps).map (Value.int .i64))) (vf 9) pm_) := hR 9 (by decide)
   obtain ⟨p28, pE9, hR29⟩ := e9
   obtain ⟨v27, vE9⟩ : ∃ x, vf 9 = x := ⟨_, rfl⟩
   rw [vE9] at hR29
   subst hR29
   have e10 : (vf 10) = .agg #[.int .i64 ((m.xs.getD j ix0).m), .int .i64 ((m.xs.getD j ix0).p), (vf 9)] ∧ (pf 10) = [] := hR 10 (by decide)
   rw [vE9] at e10
   refine dq3Q [9, 10] [9, 10] rfl (zcd (sk 64 (congrArg some e10.1) (zaf _)) (by simp only [pE9, vE9, e10.2, fS] <;> rfl) ?_)
   exact zcc (zai (z := .agg #[.int .i64 0, .int .i64 0, .slice none 0 0]) (s := 3) (cs := [.int .i64 ((m.xs.getD j ix0).m), .int .i64 ((m.xs.getD j ix0).p), v27]) rfl Try.underlying32 rfl (by decide) rfl (by kernel_rfl) rfl) (fun v_ p_ h => by show IsRow 63 3 1 ([.int .i64 ((m.xs.getD j ix0).m), .int .i64 ((m.xs.getD j ix0).p), (vf 9)]) v_ p_; rw [vE9]; exact h)
  intro vf pf hmu hR
  have e1 := hR 1 (by decide)
  have e6 : IsRow 3 1 0 ([]) (vf 6) (pf 6) := hR 6 (by decide)
  obtain ⟨g26, vE6, pE6⟩ := e6
  have e9 : (∃ pm_, (pf 9) = [pm_] ∧ (fun u_ p_ => p_ = rowE 3 1 u_ (((m.xs.getD j ix0).ps).length) (((m.xs.getD j ix0).ps).map (Value.int .i64))) (vf 9) pm_) := hR 9 (by decide)
  obtain ⟨p28, pE9, hR29⟩ := e9
  obtain ⟨v27, vE9⟩ : ∃ x, vf 9 = x := ⟨_, rfl⟩
  rw [vE9] at hR29
  subst hR29
  have e11 : IsRow 63 3 1 ([.int .i64 ((m.xs.getD j ix0).m), .int .i64 ((m.xs.getD j ix0).p), (vf 9)]) (vf 11) (pf 11) := hR 11 (by decide)
  rw [vE9] at e11
  obtain ⟨g30, vE11, pE11⟩ := e11
  have q0 := hR 0 (by decide)
  have q1 := hR 1 (by decide)
  have q2 := hR 2 (by decide)
  have q3 := hR 3 (by decide)
  have q4 := hR 4 (by decide)
  have q5 := hR 5 (by decide)
  have q7 := hR 7 (by decide)
  have q8 := hR 8 (by decide)
  have q10 := hR 10 (by decide)
  refine zcr (zcg [46, 20, 6, 5, 3, 2, 1, 0] _ (sk 55 (congrArg some e1.1) (sk 65 (congrArg some vE11) (zaf _))) rfl) (by simp only [pE9, vE9, pE11, vE11, q0.2, q1.2, q2.2, q3.2, q4.2, q5.2, q7.2, q8.2, q10.2, fS] <;> rfl) ?_
  simp only [List.drop_succ_cons, List.drop_zero]
  refine zdb (i := 0) rfl (fun ho31 => ?_)
  refine zct (i := 4) (z := .agg #[.int .i64 0, .int .i64 0, .slice none 0 0]) (bytes := 40) rfl rfl rfl rfl Try.underlying32 (by kernel_rfl) rfl rfl rfl rfl (zam 1 rfl) (zad rfl (zad rfl (zad ho31 zbg))) (by first | omega | (simp only [List.length_append, List.length_cons, List.length_nil]; omega)) (zcj xs [(Ix.mk ((m.xs.getD j ix0).m) ((m.xs.getD j ix0).p) v27 (m.xs.getD j ix0).ps)]) (zdc ixC xs (Ix.mk ((m.xs.getD j ix0).m) ((m.xs.getD j ix0).p) v27 (m.xs.getD j ix0).ps) _ rfl) (fun _ => rfl) ?_
  intro v32
  refine hvQ rfl (fdQ 2 rfl rfl rfl) (zdb (i := 4) rfl (fun ho33 => ?_))
  refine zec (i := 9) (cs' := #[v4, ga, v32, v8]) rfl rfl rfl rfl rfl rfl ho33 rfl rfl rfl rfl (zcx (zdq (reQ 1 rfl (hvQ rfl (vaQ rfl rfl rfl) (enQ 1 rfl ?_)))))
  refine zbd 12 [11, 10, 9, 8, 7, 6, 5, 4, 2, 0, 3] rfl rfl (by decide) ?_
  refine zbu 2 rfl ?_
  exact zda (j + 1) v32 (xs ++ [(Ix.mk ((m.xs.getD j ix0).m) ((m.xs.getD j ix0).p) v27 (m.xs.getD j ix0).ps)]) [bigE qs, rowE 3 1 v27 (((m.xs.getD j ix0).ps).length) (((m.xs.getD j ix0).ps).map (Value.int .i64))] ⟨by omega, by rw [List.map_append, hxq, zex ix0 (show j < m.xs.length by omega), List.map_append]; rfl, fun w hw => (hq w (zas hw List.mem_cons_self)).app (zcl (zas hw (List.mem_cons_of_mem _ List.mem_cons_self)))⟩ (by omega) (saQ rfl) (slQ [0, 1, 0, 0, 0, 0, 0, 0, 0] rfl)
 refine ntQ (zap rfl ?_)
 refine zbv (zep ?_)
 refine zan (zbf (srQ (hvQ rfl (zaw (cs := [v4, ga, gx, v8]) rfl rfl rfl rfl rfl (zau 6 rfl 0 rfl)) ?_)))
 refine zdb (i := 1) rfl (fun ho34 => ?_)
 refine zdb (i := 3) rfl (fun ho35 => ?_)
 refine zbn (cs' := #[v4, ga, gx, v8]) (i := 7) (off := 0) (us := [v4, ga, gx, v8]) rfl rfl rfl rfl rfl rfl rfl (zad ho13 (zad ho35 (zad ho34 (zad ho12 zbg)))) rfl rfl rfl (ntQ ?_)
 refine zal (hq_know (p := v4.oneCell' = true ∧ ga.oneCell' = true ∧ gx.oneCell' = true ∧ v8.oneCell' = true) (fun w hm => ⟨(zam 4 rfl w hm).one, (zam 3 rfl w hm).one, (zam 1 rfl w hm).one, (zam 5 rfl w hm).one⟩) (fun ho9 => ?_))
 refine zbd 9 [8, 7, 6, 0, 2, 1, 3, 5, 4] rfl rfl (by decide) ?_
 refine zbu 6 rfl ?_
 exact hq_retM (rs := [.cell 2 35]) (vs := [.agg #[v4, ga, gx, v8]]) (post := [bigE [rowE 38 3 v4 m.ss.length (m.ss.flatMap sgC), rowE 94 4 v8 m.ms.length (m.ms.flatMap mmC), rowE 89 2 ga gs.length (gs.flatMap asC), rowE 63 3 gx xs.length (xs.flatMap ixC), bigE ps, bigE qs]]) rfl ⟨⟨b2, 0, [v4, ga, gx, v8], rfl, rfl, by kernel_rfl, by kernel_rfl, zau 2 rfl 0 rfl⟩, trivial⟩ rfl (slQ [0] rfl) ⟨Md.mk v4 ga gx v8 m.ss gs xs m.ms, [rowE 38 3 v4 m.ss.length (m.ss.flatMap sgC), rowE 94 4 v8 m.ms.length (m.ms.flatMap mmC), rowE 89 2 ga gs.length (gs.flatMap asC), rowE 63 3 gx xs.length (xs.flatMap ixC), bigE ps, bigE qs], rfl, rfl, fun w hw => ⟨zcl (zas hw List.mem_cons_self), zcl (zas hw (List.mem_cons_of_mem _ (List.mem_cons_of_mem _ List.mem_cons_self))), hp w (zas hw (List.mem_cons_of_mem _ (List.mem_cons_of_mem _ (List.mem_cons_of_mem _ (List.mem_cons_of_mem _ List.mem_cons_self))))), zcl (zas hw (List.mem_cons_of_mem _ (List.mem_cons_of_mem _ (List.mem_cons_of_mem _ List.mem_cons_self)))), hq w (zas hw (List.mem_cons_of_mem _ (List.mem_cons_of_mem _ (List.mem_cons_of_mem _ (List.mem_cons_of_mem _ (List.mem_cons_of_mem _ List.mem_cons_self)))))), zcl (zas hw (List.mem_cons_of_mem _ List.mem_cons_self))⟩, ho9, ⟨rfl, by rw [hgq, List.take_of_length_le (by omega)], by rw [hxq, List.take_of_length_le (by omega)], rfl⟩⟩
theorem gs_ok {D : List Md} {k : Nat} (h : ModP D k) {g : As} (hg : g ∈ (D.getD k md0).gs) : AsP (D.getD k md0) g := by
  obtain ⟨i, hi, e⟩ := List.getElem_of_mem hg
  have := h.gs i hi
  rw [List.getD_eq_getElem?_getD (l := (D.getD k md0).gs), List.getElem?_eq_getElem hi, Option.getD_some, e] at this; exact this
theorem ps_ok {D : List Md} {k : Nat} (h : ModP D k) {x : Ix} (hx : x ∈ (D.getD k md0).xs) : x.ps.length ≤ 30 := by
  obtain ⟨i, hi, e⟩ := List.getElem_of_mem hx
  have h1 := (h.ins i hi).2
  rw [List.getD_eq_getElem?_getD (l := (D.getD k md0).xs), List.getElem?_eq_getElem hi, Option.getD_some, e] at h1
  have h2 := ptsK_le (D.getD x.m.toNat md0)
  omega
end Go.Proofs.Ytodiifjigjnalaa
