/- Texts of the law FnInputBits, part 5: what it uses. -/
import Derived.Test.YtodiifjigjnalaaInb4
set_option linter.unusedVariables false
set_option linter.unusedSimpArgs false
set_option maxHeartbeats 4000000
set_option maxRecDepth 100000
namespace Go.Proofs.Ytodiifjigjnalaa
open Go.RowKit Go.ChangeShapes
open Go.RowKit
theorem l04Module_mut (g : Nat) (a : Option Addr) (len cap : Nat) (z : List Int) (D : List Md) (v : Value) (w0 : World) (l : List HP) (w : World) (hm0 : Mem w0 (curE g a len cap :: l) w) (hb : BRow .u8 w0 a len cap z) (hD : ∀ w, Mem w0 l w → RdsDs w v D) (hdd : DdP D) (hdl : D.length ≤ 2) (hv1 : v.oneCell' = true) (hch : ∀ m ∈ D, m.sv.oneCell' = true ∧ m.av.oneCell' = true ∧ m.iv.oneCell' = true ∧ m.mv.oneCell' = true) :
   Calls Try.prog 105 #[.pointer (some ⟨g, 0, none⟩), .agg #[v]] w (fun e_ w_ => ∃ v_ p_, e_ = .returned v_ ∧ (fun u_ p_ => ∃ (m : Md) (ps : List HP), u_ = m.agg ∧ p_ = bigE [curE g a len cap, bigE ps] ∧ (∀ w, (bigE ps).holds w → RdsMd w m) ∧ (m.sv.oneCell' = true ∧ m.av.oneCell' = true ∧ m.iv.oneCell' = true ∧ m.mv.oneCell' = true) ∧ DmP D m) v_ p_ ∧ Mem w0 (p_ :: l) w_) := by
 refine zet (N := 282) (args := [.pointer (some ⟨g, 0, none⟩), .agg #[v]]) Try.func105 rfl rfl hm0 (srQ ?_)
 refine zdm rfl (zdk rfl rfl) ?_
 intro b1
 refine zdm rfl (zbe (z := .agg #[.slice none 0 0, .slice none 0 0, .slice none 0 0, .slice none 0 0]) rfl rfl) ?_
 intro b2
 refine ntQ (srQ (hvQ rfl (zbh (cs := #[.slice none 0 0, .slice none 0 0, .slice none 0 0, .slice none 0 0]) rfl rfl rfl) ?_))
 refine zdm rfl (zbe (z := .agg #[.slice none 0 0, .slice none 0 0, .slice none 0 0, .slice none 0 0]) rfl rfl) ?_
 intro b3
 refine zbd (cs' := #[.slice none 0 0, .slice none 0 0, .slice none 0 0, .slice none 0 0]) (i := 0) (off := 0) (us := [.slice none 0 0, .slice none 0 0, .slice none 0 0, .slice none 0 0]) rfl rfl rfl rfl rfl rfl rfl (zab rfl (zab rfl (zab rfl (zab rfl zbc)))) rfl rfl rfl (ntQ (srQ ?_))
 refine zdt rfl (zdo (s := 1) rfl Try.underlying48 rfl) ?_
 intro g4
 refine zbb 1 rfl (srQ ?_)
 refine zdt rfl (zdo (s := 1) rfl Try.underlying48 rfl) ?_
 intro g5
 refine zbb 1 rfl (zag (reQ 1 rfl ?_))
 refine zcl (R := (fun u_ p_ => (∃ x_ : Int, u_ = .int .i64 x_ ∧ 0 ≤ x_ ∧ x_ < 2) ∧ p_ = curE g a len cap)) 5 rfl rfl rfl rfl rfl (fun l' w hm => zcc g a len cap z 2 _ _ _ hm hb (by constructor <;> omega)) ?_
 intro v6 p7 hR8
 obtain ⟨⟨xhR8, rfl, xhR80, xhR81⟩, rfl⟩ := hR8
 refine zcr (l' := (rowE 3 1 (.slice (some ⟨g5, 0, none⟩) 0 0) 0 ([]) :: rowE 3 1 (.slice (some ⟨g4, 0, none⟩) 0 0) 0 ([]) :: boxE b3 #[.slice none 0 0, .slice none 0 0, .slice none 0 0, .slice none 0 0] 35 :: boxE b2 #[.slice none 0 0, .slice none 0 0, .slice none 0 0, .slice none 0 0] 35 :: boxE b1 #[v] 26 :: curE g a len cap :: l)) rfl ?_
 refine hvQ rfl (vaQ rfl rfl rfl) (zbb 1 rfl (zag (zbf 1 rfl (zaz ?_))))
 refine zes (bigE [] :: rowE 38 3 (.slice none 0 0) (([] : List Sg).length) (([] : List Sg).flatMap sgC) :: rowE 63 3 (.slice none 0 0) (([] : List Ix).length) (([] : List Ix).flatMap ixC) :: rowE 94 4 (.slice none 0 0) (([] : List Mm).length) (([] : List Mm).flatMap mmC) :: rowE 3 1 (.slice (some ⟨g5, 0, none⟩) 0 0) 0 ([]) :: rowE 3 1 (.slice (some ⟨g4, 0, none⟩) 0 0) 0 ([]) :: boxE b3 #[.slice none 0 0, .slice none 0 0, .slice none 0 0, .slice none 0 0] 35 :: boxE b2 #[.slice none 0 0, .slice none 0 0, .slice none 0 0, .slice none 0 0] 35 :: boxE b1 #[v] 26 :: curE g a len cap :: l) (fun w hm => Mem.big (ps := []) (((hm.nilRow 94 4).nilRow 63 3).nilRow 38 3)) ?_
 refine lkQ4 (α := Nat) (β := Md) (γ := Value × List Int) (δ := List HP) [0, 1, 3, 4, 5, 7, 8] rfl (fun k m U ps => (bigE ps :: rowE 38 3 m.sv m.ss.length (m.ss.flatMap sgC) :: rowE 63 3 m.iv m.xs.length (m.xs.flatMap ixC) :: rowE 94 4 m.mv m.ms.length (m.ms.flatMap mmC) :: rowE 3 1 (.slice (some ⟨g5, 0, none⟩) 0 0) 0 ([]) :: rowE 3 1 U.1 U.2.length (U.2.map (Value.int .i64)) :: boxE b3 #[m.sv, m.av, m.iv, m.mv] 35 :: boxE b2 #[.slice none 0 0, .slice none 0 0, .slice none 0 0, .slice none 0 0] 35 :: boxE b1 #[v] 26 :: curE g a len cap :: l)) (fun k m U ps => [(6, U.1), (9, .int .i64 (k : Int))]) (fun k m U ps => (k : Int) ≤ 1 + xhR8 ∧ MI D m U.2 [] k 0 0 0 k k ∧ ∀ w, (bigE ps).holds w → RdP w m) (fun k m U ps => (1 + xhR8).toNat - k) 0 md0 (_, []) [] ⟨by omega, MI.start D, fun w _ => RdP.nil w⟩ (saQ rfl) (.refl _) ?_
 intro k m U ps hi9
 obtain ⟨hk, h1, hp1⟩ := hi9
 have hns := h1.ns
 have hna := h1.na
 refine zag (zag (reQ 2 rfl ?_))
 refine zbq rfl rfl rfl rfl rfl rfl (fun h10 => ?_) (fun h10 => ?_)
 ·
  refine ntQ (zai rfl (zcy (sbQ (zag (reQ 1 rfl (hvQ rfl (fdQ 0 rfl rfl rfl) (hvQ rfl (zad rfl rfl rfl (zaa 6 rfl rfl)) (hvQ rfl (lnQ rfl rfl rfl (zaj 1 rfl)) ?_))))))))
  refine zdt rfl (zal (z := .int .i64 0) (s := 1) (cs := ([(m.ss.length : Int)].map (Value.int .i64))) rfl Try.underlying48 rfl (by decide) rfl (by kernel_rfl) rfl) ?_
  intro g11
  refine zcp (i := 6) (z := .int .i64 0) (bytes := 8) rfl rfl rfl rfl Try.underlying48 (by kernel_rfl) rfl rfl rfl rfl (zaj 0 rfl) (zch _) (by first | omega | (simp; done) | (simp; omega)) (zci U.2 ([(m.ss.length : Int)])) (zcs U.2 ([(m.ss.length : Int)])) (fun _ => rfl) ?_
  intro v12
  refine zbb 1 rfl ?_
  refine zfu 11 [9, 8, 7, 6, 5, 4, 3, 2, 1, 0, 10] rfl rfl (by decide) ?_
  refine zeu (l := (rowE 3 1 (.slice (some ⟨g11, 0, none⟩) 1 1) 1 ([(m.ss.length : Int)].map (Value.int .i64)) :: bigE ps :: rowE 38 3 m.sv m.ss.length (m.ss.flatMap sgC) :: rowE 63 3 m.iv m.xs.length (m.xs.flatMap ixC) :: rowE 94 4 m.mv m.ms.length (m.ms.flatMap mmC) :: rowE 3 1 (.slice (some ⟨g5, 0, none⟩) 0 0) 0 ([]) :: rowE 3 1 v12 ((U.2 ++ ([(m.ss.length : Int)])).length) ((U.2 ++ ([(m.ss.length : Int)])).map (Value.int .i64)) :: boxE b3 #[m.sv, m.av, m.iv, m.mv] 35 :: boxE b2 #[.slice none 0 0, .slice none 0 0, .slice none 0 0, .slice none 0 0] 35 :: boxE b1 #[v] 26 :: l)) rfl 7 [0, 1, 2, 3, 4, 5, 6] (List.take 7 _) (List.drop 7 _) [[], [0], [], [], [2, 3], [4], [4, 5]] [42, 43, 44, 45, 46, 47, 48] (fun i_ vs_ v_ p_ => match i_ with | 0 => v_ = .pointer (some ⟨b3, 0 + 0, none⟩) ∧ p_ = [] | 1 => v_ = m.sv ∧ p_ = [] | 2 => v_ = .pointer (some ⟨g, 0, none⟩) ∧ p_ = [] | 3 => IsRow 3 1 4 ([1, 1, 2, 0].map (Value.int .i64)) v_ p_ | 4 => (∃ pm_, p_ = [pm_] ∧ (fun u_ p_ => (∃ x : Int, u_ = .int .i64 x ∧ x ∈ ([1, 1, 2, 0] : List Int)) ∧ p_ = curE g a len cap) v_ pm_) | 5 => v_ = .agg #[.int .i64 0, .int .i64 (intOf_o (List.getD vs_ 0 undef)), .int .i64 0] ∧ p_ = [] | 6 => IsRow 38 3 1 ([0, (intOf_o (List.getD vs_ 0 undef)), 0].map (Value.int .i64)) v_ p_ | _ => True) [[], [0], [], [], [2, 3], [4], [4, 5]] [none, none, none, none, some 10, none, none] [curE g a len cap] [0, 1, 2, 3, 4, 5, 6] 10 (List.take_append_drop 7 _).symm (by kernel_rfl) (by kernel_rfl) (by kernel_rfl) rfl rfl ?_ ?_
  ·
   refine ⟨?_, ?_, ?_, ?_, ?_, ?_, ?_, trivial⟩
   ·
    intro vf pf hmu hR
    refine dqQ [] [] rfl (zce (zas [5] rfl) ?_)
    exact zbx (fdQ 0 rfl rfl rfl)
   ·
    intro vf pf hmu hR
    have e0 := hR 0 (by decide)
    refine dqQ [0] [0] rfl (zbo (sk 42 (congrArg some e0.1) (zak _)) (List.sublist_append_right _ _) ?_)
    exact zbx (zad rfl rfl rfl (zaa 7 rfl rfl))
   ·
    intro vf pf hmu hR
    refine dqQ [] [] rfl (zce (zas [0] rfl) ?_)
    exact zbx (zav rfl)
   ·
    intro vf pf hmu hR
    refine dqQ [] [] rfl (zbo (zak _) (List.sublist_append_right _ _) ?_)
    exact zal (z := .int .i64 0) (s := 1) (cs := ([1, 1, 2, 0].map (Value.int .i64))) rfl Try.underlying48 rfl (by decide) rfl (by kernel_rfl) rfl
   ·
    intro vf pf hmu hR
    have e2 := hR 2 (by decide)
    have e3 : IsRow 3 1 4 ([1, 1, 2, 0].map (Value.int .i64)) (vf 3) (pf 3) := hR 3 (by decide)
    obtain ⟨g13, vE3, pE3⟩ := e3
    refine Or.inl ⟨rfl, ?_⟩
    show RunM _ _ _ (pf 10) (([2, 3] : List Nat).flatMap pf ++ _) (envOf _ vf [2, 3] ++ _) _ _
    rw [hmu]
    exact zdn (sk 44 (congrArg some e2.1) (sk 45 (congrArg some vE3) (zak _))) (by simp only [pE3, vE3, e2.2, fS] <;> rfl) (zds (R := (fun u_ p_ => (∃ x : Int, u_ = .int .i64 x ∧ x ∈ ([1, 1, 2, 0] : List Int)) ∧ p_ = curE g a len cap)) rfl rfl (fun L w hX hm => zdz g a len cap z (.slice (some ⟨g13, 0, none⟩) 4 4) [1, 1, 2, 0] _ _ _ hm hb (fun w hm => (zaj (l := (rowE 3 1 (.slice (some ⟨g13, 0, none⟩) 4 4) 4 ([1, 1, 2, 0].map (Value.int .i64)) :: rowE 3 1 (.slice (some ⟨g11, 0, none⟩) 1 1) 1 ([(m.ss.length : Int)].map (Value.int .i64)) :: bigE ps :: rowE 38 3 m.sv m.ss.length (m.ss.flatMap sgC) :: rowE 63 3 m.iv m.xs.length (m.xs.flatMap ixC) :: rowE 94 4 m.mv m.ms.length (m.ms.flatMap mmC) :: rowE 3 1 (.slice (some ⟨g5, 0, none⟩) 0 0) 0 ([]) :: rowE 3 1 v12 ((U.2 ++ ([(m.ss.length : Int)])).length) ((U.2 ++ ([(m.ss.length : Int)])).map (Value.int .i64)) :: boxE b3 #[m.sv, m.av, m.iv, m.mv] 35 :: boxE b2 #[.slice none 0 0, .slice none 0 0, .slice none 0 0, .slice none 0 0] 35 :: boxE b1 #[v] 26 :: l)) 0 rfl) w (hX w hm)) (by decide)))
   ·
    intro vf pf hmu hR
    have e4 : (∃ pm_, (pf 4) = [pm_] ∧ (fun u_ p_ => (∃ x : Int, u_ = .int .i64 x ∧ x ∈ ([1, 1, 2, 0] : List Int)) ∧ p_ = curE g a len cap) (vf 4) pm_) := hR 4 (by decide)
    obtain ⟨p15, pE4, hR16⟩ := e4
    obtain ⟨v14, vE4⟩ : ∃ x, vf 4 = x := ⟨_, rfl⟩
    rw [vE4] at hR16
    obtain ⟨⟨xhR16, rfl, xhR16m⟩, rfl⟩ := hR16
    have xhR16w := lit4 xhR16m (by decide)
    refine dqQ [4] [4] rfl (zck (sk 46 (congrArg some vE4) (zak _)) (by simp only [pE4, vE4, fS] <;> rfl) ?_)
    exact zct (zbx (zbh (cs := #[.int .i64 0, .int .i64 xhR16, .int .i64 0]) rfl rfl rfl)) (fun _ _ h => ⟨h.1.trans (by show _ = (.agg #[.int .i64 0, .int .i64 (intOf_o (vf 4)), .int .i64 0] : Value); first | (rw [vE4]; done) | (rw [vE4]; rfl)), h.2⟩)
   intro vf pf hmu hR
   have e4 : (∃ pm_, (pf 4) = [pm_] ∧ (fun u_ p_ => (∃ x : Int, u_ = .int .i64 x ∧ x ∈ ([1, 1, 2, 0] : List Int)) ∧ p_ = curE g a len cap) (vf 4) pm_) := hR 4 (by decide)
   obtain ⟨p15, pE4, hR16⟩ := e4
   obtain ⟨v14, vE4⟩ : ∃ x, vf 4 = x := ⟨_, rfl⟩
   rw [vE4] at hR16
   obtain ⟨⟨xhR16, rfl, xhR16m⟩, rfl⟩ := hR16
   have xhR16w := lit4 xhR16m (by decide)
   have e5 : (vf 5) = .agg #[.int .i64 0, .int .i64 (intOf_o (vf 4)), .int .i64 0] ∧ (pf 5) = [] := hR 5 (by decide)
   rw [vE4] at e5
   refine dqQ [4, 5] [4, 5] rfl (zck (sk 47 (congrArg some e5.1) (zak _)) (by simp only [pE4, vE4, e5.2, fS] <;> rfl) ?_)
   exact zct (zal (z := .agg #[.int .i64 0, .int .i64 0, .int .i64 0]) (s := 3) (cs := ([0, xhR16, 0].map (Value.int .i64))) rfl Try.underlying30 rfl (by decide) rfl (by kernel_rfl) rfl) (fun v_ p_ h => by show IsRow 38 3 1 ([0, (intOf_o (vf 4)), 0].map (Value.int .i64)) v_ p_; rw [vE4]; exact h)
  intro vf pf hmu hR
  have e1 := hR 1 (by decide)
  have e3 : IsRow 3 1 4 ([1, 1, 2, 0].map (Value.int .i64)) (vf 3) (pf 3) := hR 3 (by decide)
  obtain ⟨g13, vE3, pE3⟩ := e3
  have e4 : (∃ pm_, (pf 4) = [pm_] ∧ (fun u_ p_ => (∃ x : Int, u_ = .int .i64 x ∧ x ∈ ([1, 1, 2, 0] : List Int)) ∧ p_ = curE g a len cap) (vf 4) pm_) := hR 4 (by decide)
  obtain ⟨p15, pE4, hR16⟩ := e4
  obtain ⟨v14, vE4⟩ : ∃ x, vf 4 = x := ⟨_, rfl⟩
  rw [vE4] at hR16
  obtain ⟨⟨xhR16, rfl, xhR16m⟩, rfl⟩ := hR16
  have xhR16w := lit4 xhR16m (by decide)
  have e6 : IsRow 38 3 1 ([0, (intOf_o (vf 4)), 0].map (Value.int .i64)) (vf 6) (pf 6) := hR 6 (by decide)
  rw [vE4] at e6
  obtain ⟨g17, vE6, pE6⟩ := e6
  have q0 := hR 0 (by decide)
  have q1 := hR 1 (by decide)
  have q2 := hR 2 (by decide)
  have q5 := hR 5 (by decide)
  refine zdg (zcu [33, 9, 8, 7, 6, 5, 4, 3, 1, 0] _ (sk 43 (congrArg some e1.1) (sk 48 (congrArg some vE6) (zak _))) rfl) (by simp only [pE3, vE3, pE4, vE4, pE6, vE6, q0.2, q1.2, q2.2, q5.2, fS] <;> rfl) ?_
  simp only [List.drop_succ_cons, List.drop_zero]
  refine zcp (i := 5) (z := .agg #[.int .i64 0, .int .i64 0, .int .i64 0]) (bytes := 24) rfl rfl rfl rfl Try.underlying30 (by kernel_rfl) rfl rfl rfl rfl (zaj 2 rfl) (zch _) (by first | omega | (simp only [List.length_append, List.length_cons, List.length_nil]; omega)) (zci m.ss [(Sg.mk 0 xhR16 0)]) (zdc sgC m.ss (Sg.mk 0 xhR16 0) _ rfl) (fun _ => rfl) ?_
  intro v18
  refine hvQ rfl (fdQ 0 rfl rfl rfl) (zcq (i := 5) rfl (fun ho19 => ?_))
  refine zei (i := 10) (cs' := #[v18, m.av, m.iv, m.mv]) rfl rfl rfl rfl rfl rfl ho19 rfl rfl rfl rfl (zbn (zde (reQ 1 rfl (hvQ rfl (vaQ rfl rfl rfl) (enQ 1 rfl ?_)))))
  refine zbj 13 [1, 12, 11, 10, 9, 8, 7, 6, 5, 4] rfl rfl (by decide) ?_
  exact zdr (k + 1) (Md.mk v18 m.av m.iv m.mv (m.ss ++ [(Sg.mk 0 xhR16 0)]) m.gs m.xs m.ms) (v12, U.2 ++ ([(m.ss.length : Int)])) ps ⟨by omega, h1.inp _ (by assumption), fun w hw => hp1 w hw⟩ (by omega) (saQ rfl) (.refl _)
 refine ntQ (zar rfl ?_)
 refine zbl (zdx ?_)
 refine zan (zaq (zag (reQ 1 rfl ?_)))
 refine zcl (R := (fun u_ p_ => (∃ x_ : Int, u_ = .int .i64 x_ ∧ 0 ≤ x_ ∧ x_ < 3) ∧ p_ = curE g a len cap)) 9 rfl rfl rfl rfl rfl (fun l' w hm => zcc g a len cap z 3 _ _ _ hm hb (by constructor <;> omega)) ?_
 intro v20 p21 hR22
 obtain ⟨⟨xhR22, rfl, xhR220, xhR221⟩, rfl⟩ := hR22
 refine zcr (l' := (bigE ps :: rowE 38 3 m.sv m.ss.length (m.ss.flatMap sgC) :: rowE 63 3 m.iv m.xs.length (m.xs.flatMap ixC) :: rowE 94 4 m.mv m.ms.length (m.ms.flatMap mmC) :: rowE 3 1 (.slice (some ⟨g5, 0, none⟩) 0 0) 0 ([]) :: rowE 3 1 U.1 U.2.length (U.2.map (Value.int .i64)) :: boxE b3 #[m.sv, m.av, m.iv, m.mv] 35 :: boxE b2 #[.slice none 0 0, .slice none 0 0, .slice none 0 0, .slice none 0 0] 35 :: boxE b1 #[v] 26 :: curE g a len cap :: l)) rfl ?_
 refine zbb 1 rfl (zag (zbf 1 rfl (zaz ?_)))
 refine lkQ4 (α := Nat) (β := Md) (γ := Value × List Int) (δ := Value × List Int) [0, 1, 3, 4, 5, 8, 33] rfl (fun k2 m2 U2 W2 => (bigE ps :: rowE 38 3 m2.sv m2.ss.length (m2.ss.flatMap sgC) :: rowE 63 3 m2.iv m2.xs.length (m2.xs.flatMap ixC) :: rowE 94 4 m2.mv m2.ms.length (m2.ms.flatMap mmC) :: rowE 3 1 W2.1 W2.2.length (W2.2.map (Value.int .i64)) :: rowE 3 1 U2.1 U2.2.length (U2.2.map (Value.int .i64)) :: boxE b3 #[m2.sv, m2.av, m2.iv, m2.mv] 35 :: boxE b2 #[.slice none 0 0, .slice none 0 0, .slice none 0 0, .slice none 0 0] 35 :: boxE b1 #[v] 26 :: curE g a len cap :: l)) (fun k2 m2 U2 W2 => [(6, U2.1), (7, W2.1), (10, .int .i64 (k2 : Int))]) (fun k2 m2 U2 W2 => (k2 : Int) ≤ xhR22 ∧ MI D m2 U2.2 W2.2 (2 + k2) 0 0 0 2 (2 + k2) ∧ W2.2.length = k2 ∧ W2.2.Pairwise (· < ·) ∧ ∀ w, (bigE ps).holds w → RdP w m2) (fun k2 m2 U2 W2 => (xhR22).toNat - k2) 0 m U (_, []) ⟨by omega, h1.up (by omega) (by omega) (by omega) (by omega) (by omega) (by omega), rfl, .nil, hp1⟩ (saQ rfl) (.refl _) ?_
 intro k2 m2 U2 W2 hi23
 obtain ⟨hk2, h2, hwl2, hW2, hp2⟩ := hi23
 have hns2 := h2.ns
 have hna2 := h2.na
 refine zag (zag (reQ 2 rfl ?_))
 refine zbq rfl rfl rfl rfl rfl rfl (fun h24 => ?_) (fun h24 => ?_)
 ·
  refine ntQ (zai rfl (zcy (sbQ (zag (reQ 1 rfl (hvQ rfl (fdQ 0 rfl rfl rfl) (hvQ rfl (zad rfl rfl rfl (zaa 6 rfl rfl)) (hvQ rfl (lnQ rfl rfl rfl (zaj 1 rfl)) ?_))))))))
  refine zdt rfl (zal (z := .int .i64 0) (s := 1) (cs := ([(m2.ss.length : Int)].map (Value.int .i64))) rfl Try.underlying48 rfl (by decide) rfl (by kernel_rfl) rfl) ?_
  intro g25
  refine zcp (i := 6) (z := .int .i64 0) (bytes := 8) rfl rfl rfl rfl Try.underlying48 (by kernel_rfl) rfl rfl rfl rfl (zaj 0 rfl) (zch _) (by first | omega | (simp; done) | (simp; omega)) (zci U2.2 ([(m2.ss.length : Int)])) (zcs U2.2 ([(m2.ss.length : Int)])) (fun _ => rfl) ?_
  intro v26
  refine zbb 1 rfl (zag (reQ 1 rfl (hvQ rfl (fdQ 0 rfl rfl rfl) (hvQ rfl (zad rfl rfl rfl (zaa 7 rfl rfl)) (hvQ rfl (lnQ rfl rfl rfl (zaj 2 rfl)) ?_)))))
  refine zdt rfl (zal (z := .int .i64 0) (s := 1) (cs := ([(m2.ss.length : Int)].map (Value.int .i64))) rfl Try.underlying48 rfl (by decide) rfl (by kernel_rfl) rfl) ?_
  intro g27
  refine zcp (i := 6) (z := .int .i64 0) (bytes := 8) rfl rfl rfl rfl Try.underlying48 (by kernel_rfl) rfl rfl rfl rfl (zaj 0 rfl) (zch _) (by first | omega | (simp; done) | (simp; omega)) (zci W2.2 ([(m2.ss.length : Int)])) (zcs W2.2 ([(m2.ss.length : Int)])) (fun _ => rfl) ?_
  intro v28
  refine zbb 1 rfl ?_
  refine zfu 12 [10, 9, 8, 7, 6, 5, 4, 3, 2, 1, 0, 11] rfl rfl (by decide) ?_
  refine zeu (l := (rowE 3 1 (.slice (some ⟨g27, 0, none⟩) 1 1) 1 ([(m2.ss.length : Int)].map (Value.int .i64)) :: rowE 3 1 (.slice (some ⟨g25, 0, none⟩) 1 1) 1 ([(m2.ss.length : Int)].map (Value.int .i64)) :: bigE ps :: rowE 38 3 m2.sv m2.ss.length (m2.ss.flatMap sgC) :: rowE 63 3 m2.iv m2.xs.length (m2.xs.flatMap ixC) :: rowE 94 4 m2.mv m2.ms.length (m2.ms.flatMap mmC) :: rowE 3 1 v28 ((W2.2 ++ ([(m2.ss.length : Int)])).length) ((W2.2 ++ ([(m2.ss.length : Int)])).map (Value.int .i64)) :: rowE 3 1 v26 ((U2.2 ++ ([(m2.ss.length : Int)])).length) ((U2.2 ++ ([(m2.ss.length : Int)])).map (Value.int .i64)) :: boxE b3 #[m2.sv, m2.av, m2.iv, m2.mv] 35 :: boxE b2 #[.slice none 0 0, .slice none 0 0, .slice none 0 0, .slice none 0 0] 35 :: boxE b1 #[v] 26 :: l)) rfl 9 [0, 1, 2, 3, 4, 5, 6, 7, 8] (List.take 9 _) (List.drop 9 _) [[], [0], [], [], [2, 3], [], [4, 5], [4, 6], [4, 6, 7]] [70, 71, 72, 73, 74, 75, 76, 77, 78] (fun i_ vs_ v_ p_ => match i_ with | 0 => v_ = .pointer (some ⟨b3, 0 + 0, none⟩) ∧ p_ = [] | 1 => v_ = m2.sv ∧ p_ = [] | 2 => v_ = .pointer (some ⟨g, 0, none⟩) ∧ p_ = [] | 3 => IsRow 3 1 3 ([1, 2, 0].map (Value.int .i64)) v_ p_ | 4 => (∃ pm_, p_ = [pm_] ∧ (fun u_ p_ => (∃ x : Int, u_ = .int .i64 x ∧ x ∈ ([1, 2, 0] : List Int)) ∧ p_ = curE g a len cap) v_ pm_) | 5 => v_ = .pointer (some ⟨g, 0, none⟩) ∧ p_ = [] | 6 => (∃ pm_, p_ = [pm_] ∧ (fun u_ p_ => (∃ x_ : Int, u_ = .int .i64 x_ ∧ 0 ≤ x_ ∧ x_ < 4) ∧ p_ = curE g a len cap) v_ pm_) | 7 => v_ = .agg #[.int .i64 3, .int .i64 (intOf_o (List.getD vs_ 0 undef)), .int .i64 (intOf_o (List.getD vs_ 1 undef))] ∧ p_ = [] | 8 => IsRow 38 3 1 ([3, (intOf_o (List.getD vs_ 0 undef)), (intOf_o (List.getD vs_ 1 undef))].map (Value.int .i64)) v_ p_ | _ => True) [[], [0], [], [], [2, 3], [], [5], [6], [6, 7]] [none, none, none, none, some 12, none, some 4, none, none] [curE g a len cap] [0, 1, 2, 3, 5, 6, 7, 8] 12 (List.take_append_drop 9 _).symm (by kernel_rfl) (by kernel_rfl) (by kernel_rfl) rfl rfl ?_ ?_
  ·
   refine ⟨?_, ?_, ?_, ?_, ?_, ?_, ?_, ?_, ?_, trivial⟩
   ·
    intro vf pf hmu hR
    refine dqQ [] [] rfl (zce (zas [5] rfl) ?_)
    exact zbx (fdQ 0 rfl rfl rfl)
   ·
    intro vf pf hmu hR
    have e0 := hR 0 (by decide)
    refine dqQ [0] [0] rfl (zbo (sk 70 (congrArg some e0.1) (zak _)) (List.sublist_append_right _ _) ?_)
    exact zbx (zad rfl rfl rfl (zaa 8 rfl rfl))
   ·
    intro vf pf hmu hR
    refine dqQ [] [] rfl (zce (zas [0] rfl) ?_)
    exact zbx (zav rfl)
   ·
    intro vf pf hmu hR
    refine dqQ [] [] rfl (zbo (zak _) (List.sublist_append_right _ _) ?_)
    exact zal (z := .int .i64 0) (s := 1) (cs := ([1, 2, 0].map (Value.int .i64))) rfl Try.underlying48 rfl (by decide) rfl (by kernel_rfl) rfl
   ·
    intro vf pf hmu hR
    have e2 := hR 2 (by decide)
    have e3 : IsRow 3 1 3 ([1, 2, 0].map (Value.int .i64)) (vf 3) (pf 3) := hR 3 (by decide)
    obtain ⟨g29, vE3, pE3⟩ := e3
    refine Or.inl ⟨rfl, ?_⟩
    show RunM _ _ _ (pf 12) (([2, 3] : List Nat).flatMap pf ++ _) (envOf _ vf [2, 3] ++ _) _ _
    rw [hmu]
    refine zdn (sk 72 (congrArg some e2.1) (sk 73 (congrArg some vE3) (zak _))) (by simp only [pE3, vE3, e2.2, fS] <;> rfl) ?_
    exact zds (R := (fun u_ p_ => (∃ x : Int, u_ = .int .i64 x ∧ x ∈ ([1, 2, 0] : List Int)) ∧ p_ = curE g a len cap)) rfl rfl (fun L w hX hm => zdz g a len cap z (.slice (some ⟨g29, 0, none⟩) 3 3) [1, 2, 0] _ _ _ hm hb (fun w hm => (zaj (l := (rowE 3 1 (.slice (some ⟨g29, 0, none⟩) 3 3) 3 ([1, 2, 0].map (Value.int .i64)) :: rowE 3 1 (.slice (some ⟨g27, 0, none⟩) 1 1) 1 ([(m2.ss.length : Int)].map (Value.int .i64)) :: rowE 3 1 (.slice (some ⟨g25, 0, none⟩) 1 1) 1 ([(m2.ss.length : Int)].map (Value.int .i64)) :: bigE ps :: rowE 38 3 m2.sv m2.ss.length (m2.ss.flatMap sgC) :: rowE 63 3 m2.iv m2.xs.length (m2.xs.flatMap ixC) :: rowE 94 4 m2.mv m2.ms.length (m2.ms.flatMap mmC) :: rowE 3 1 v28 ((W2.2 ++ ([(m2.ss.length : Int)])).length) ((W2.2 ++ ([(m2.ss.length : Int)])).map (Value.int .i64)) :: rowE 3 1 v26 ((U2.2 ++ ([(m2.ss.length : Int)])).length) ((U2.2 ++ ([(m2.ss.length : Int)])).map (Value.int .i64)) :: boxE b3 #[m2.sv, m2.av, m2.iv, m2.mv] 35 :: boxE b2 #[.slice none 0 0, .slice none 0 0, .slice none 0 0, .slice none 0 0] 35 :: boxE b1 #[v] 26 :: l)) 0 rfl) w (hX w hm)) (by decide))
   ·
    intro vf pf hmu hR
    refine dqQ [] [] rfl (zce (zas [0] rfl) ?_)
    exact zbx (zav rfl)
   ·
    intro vf pf hmu hR
    have e4 : (∃ pm_, (pf 4) = [pm_] ∧ (fun u_ p_ => (∃ x : Int, u_ = .int .i64 x ∧ x ∈ ([1, 2, 0] : List Int)) ∧ p_ = curE g a len cap) (vf 4) pm_) := hR 4 (by decide)
    obtain ⟨p31, pE4, hR32⟩ := e4
    obtain ⟨v30, vE4⟩ : ∃ x, vf 4 = x := ⟨_, rfl⟩
    rw [vE4] at hR32
    obtain ⟨⟨xhR32, rfl, xhR32m⟩, rfl⟩ := hR32
    have xhR32w := lit4 xhR32m (by decide)
    have e5 := hR 5 (by decide)
    refine Or.inl ⟨rfl, ?_⟩
    show RunM _ _ _ (pf 4) (([5] : List Nat).flatMap pf ++ _) (envOf _ vf [4, 5] ++ _) _ _
    rw [pE4]
    exact zdn (sk 75 (congrArg some e5.1) (zak _)) (by simp only [e5.2, fS] <;> rfl) (zds (R := (fun u_ p_ => (∃ x_ : Int, u_ = .int .i64 x_ ∧ 0 ≤ x_ ∧ x_ < 4) ∧ p_ = curE g a len cap)) rfl rfl (fun L w hX hm => zcc g a len cap z 4 _ _ _ hm hb (by constructor <;> omega)))
   ·
    intro vf pf hmu hR
    have e4 : (∃ pm_, (pf 4) = [pm_] ∧ (fun u_ p_ => (∃ x : Int, u_ = .int .i64 x ∧ x ∈ ([1, 2, 0] : List Int)) ∧ p_ = curE g a len cap) (vf 4) pm_) := hR 4 (by decide)
    obtain ⟨p31, pE4, hR32⟩ := e4
    obtain ⟨v30, vE4⟩ : ∃ x, vf 4 = x := ⟨_, rfl⟩
    rw [vE4] at hR32
    obtain ⟨⟨xhR32, rfl, xhR32m⟩, rfl⟩ := hR32
    have xhR32w := lit4 xhR32m (by decide)
    have e6 : (∃ pm_, (pf 6) = [pm_] ∧ (fun u_ p_ => (∃ x_ : Int, u_ = .int .i64 x_ ∧ 0 ≤ x_ ∧ x_ < 4) ∧ p_ = curE g a len cap) (vf 6) pm_) := hR 6 (by decide)
    obtain ⟨p34, pE6, hR35⟩ := e6
    obtain ⟨v33, vE6⟩ : ∃ x, vf 6 = x := ⟨_, rfl⟩
    rw [vE6] at hR35
    obtain ⟨⟨xhR35, rfl, xhR350, xhR351⟩, rfl⟩ := hR35
    refine dqQ [6] [4, 6] rfl (zck (sk 74 (congrArg some vE4) (sk 76 (congrArg some vE6) (zak _))) (by simp only [pE6, vE6, fS] <;> rfl) ?_)
    exact zct (zbx (zbh (cs := #[.int .i64 3, .int .i64 xhR32, .int .i64 xhR35]) rfl rfl rfl)) (fun _ _ h => ⟨h.1.trans (by show _ = (.agg #[.int .i64 3, .int .i64 (intOf_o (vf 4)), .int .i64 (intOf_o (vf 6))] : Value); first | (rw [vE4, vE6]; done) | (rw [vE4, vE6]; rfl)), h.2⟩)
   intro vf pf hmu hR
   have e4 : (∃ pm_, (pf 4) = [pm_] ∧ (fun u_ p_ => (∃ x : Int, u_ = .int .i64 x ∧ x ∈ ([1, 2, 0] : List Int)) ∧ p_ = curE g a len cap) (vf 4) pm_) := hR 4 (by decide)
   obtain ⟨p31, pE4, hR32⟩ := e4
   obtain ⟨v30, vE4⟩ : ∃ x, vf 4 = x := ⟨_, rfl⟩
   rw [vE4] at hR32
   obtain ⟨⟨xhR32, rfl, xhR32m⟩, rfl⟩ := hR32
   have xhR32w := lit4 xhR32m (by decide)
   have e6 : (∃ pm_, (pf 6) = [pm_] ∧ (fun u_ p_ => (∃ x_ : Int, u_ = .int .i64 x_ ∧ 0 ≤ x_ ∧ x_ < 4) ∧ p_ = curE g a len cap) (vf 6) pm_) := hR 6 (by decide)
   obtain ⟨p34, pE6, hR35⟩ := e6
   obtain ⟨v33, vE6⟩ : ∃ x, vf 6 = x := ⟨_, rfl⟩
   rw [vE6] at hR35
   obtain ⟨⟨xhR35, rfl, xhR350, xhR351⟩, rfl⟩ := hR35
   have e7 : (vf 7) = .agg #[.int .i64 3, .int .i64 (intOf_o (vf 4)), .int .i64 (intOf_o (vf 6))] ∧ (pf 7) = [] := hR 7 (by decide)
   rw [vE4, vE6] at e7
   refine dqQ [6, 7] [4, 6, 7] rfl (zck (sk 77 (congrArg some e7.1) (zak _)) (by simp only [pE6, vE6, e7.2, fS] <;> rfl) ?_)
   exact zct (zal (z := .agg #[.int .i64 0, .int .i64 0, .int .i64 0]) (s := 3) (cs := ([3, xhR32, xhR35].map (Value.int .i64))) rfl Try.underlying30 rfl (by decide) rfl (by kernel_rfl) rfl) (fun v_ p_ h => by show IsRow 38 3 1 ([3, (intOf_o (vf 4)), (intOf_o (vf 6))].map (Value.int .i64)) v_ p_; rw [vE4, vE6]; exact h)
  intro vf pf hmu hR
  have e1 := hR 1 (by decide)
  have e3 : IsRow 3 1 3 ([1, 2, 0].map (Value.int .i64)) (vf 3) (pf 3) := hR 3 (by decide)
  obtain ⟨g29, vE3, pE3⟩ := e3
  have e4 : (∃ pm_, (pf 4) = [pm_] ∧ (fun u_ p_ => (∃ x : Int, u_ = .int .i64 x ∧ x ∈ ([1, 2, 0] : List Int)) ∧ p_ = curE g a len cap) (vf 4) pm_) := hR 4 (by decide)
  obtain ⟨p31, pE4, hR32⟩ := e4
  obtain ⟨v30, vE4⟩ : ∃ x, vf 4 = x := ⟨_, rfl⟩
  rw [vE4] at hR32
  obtain ⟨⟨xhR32, rfl, xhR32m⟩, rfl⟩ := hR32
  have xhR32w := lit4 xhR32m (by decide)
  have e6 : (∃ pm_, (pf 6) = [pm_] ∧ (fun u_ p_ => (∃ x_ : Int, u_ = .int .i64 x_ ∧ 0 ≤ x_ ∧ x_ < 4) ∧ p_ = curE g a len cap) (vf 6) pm_) := hR 6 (by decide)
  obtain ⟨p34, pE6, hR35⟩ := e6
  obtain ⟨v33, vE6⟩ : ∃ x, vf 6 = x := ⟨_, rfl⟩
  rw [vE6] at hR35
  obtain ⟨⟨xhR35, rfl, xhR350, xhR351⟩, rfl⟩ := hR35
  have e8 : IsRow 38 3 1 ([3, (intOf_o (vf 4)), (intOf_o (vf 6))].map (Value.int .i64)) (vf 8) (pf 8) := hR 8 (by decide)
  rw [vE4, vE6] at e8
  obtain ⟨g36, vE8, pE8⟩ := e8
  have q0 := hR 0 (by decide)
  have q1 := hR 1 (by decide)
  have q2 := hR 2 (by decide)
  have q5 := hR 5 (by decide)
  have q7 := hR 7 (by decide)
  refine zdg (zcu [55, 33, 10, 8, 7, 6, 5, 4, 3, 1, 0] _ (sk 71 (congrArg some e1.1) (sk 78 (congrArg some vE8) (zak _))) rfl) (by simp only [pE3, vE3, pE6, vE6, pE8, vE8, q0.2, q1.2, q2.2, q5.2, q7.2, fS] <;> rfl) ?_
  simp only [List.drop_succ_cons, List.drop_zero]
  refine zcp (i := 6) (z := .agg #[.int .i64 0, .int .i64 0, .int .i64 0]) (bytes := 24) rfl rfl rfl rfl Try.underlying30 (by kernel_rfl) rfl rfl rfl rfl (zaj 2 rfl) (zch _) (by first | omega | (simp only [List.length_append, List.length_cons, List.length_nil]; omega)) (zci m2.ss [(Sg.mk 3 xhR32 xhR35)]) (zdc sgC m2.ss (Sg.mk 3 xhR32 xhR35) _ rfl) (fun _ => rfl) ?_
  intro v37
  refine hvQ rfl (fdQ 0 rfl rfl rfl) (zcq (i := 6) rfl (fun ho38 => ?_))
  refine zei (i := 11) (cs' := #[v37, m2.av, m2.iv, m2.mv]) rfl rfl rfl rfl rfl rfl ho38 rfl rfl rfl rfl (zbn (zde (reQ 1 rfl (hvQ rfl (vaQ rfl rfl rfl) (enQ 1 rfl ?_)))))
  refine zbj 14 [1, 13, 12, 11, 10, 9, 8, 7, 6, 5] rfl rfl (by decide) ?_
  exact zdr (k2 + 1) (Md.mk v37 m2.av m2.iv m2.mv (m2.ss ++ [(Sg.mk 3 xhR32 xhR35)]) m2.gs m2.xs m2.ms) (v26, U2.2 ++ ([(m2.ss.length : Int)])) (v28, W2.2 ++ ([(m2.ss.length : Int)])) ⟨by omega, h2.reg _ (by assumption) ⟨by omega, by omega⟩, by rw [List.length_append, List.length_singleton]; omega, asc_app hW2 h2.plt, fun w hw => hp2 w hw⟩ (by omega) (saQ rfl) (.refl _)
 refine ntQ (zar rfl ?_)
 refine zbl (zdx ?_)
 refine zan (zaq (zag (zbf 1 rfl (zaz ?_))))
 refine lkQ4 (α := Nat) (β := Md) (γ := Value × List Int) (δ := List HP) [0, 1, 3, 4, 5, 7, 33, 55] rfl (fun t m3 U3 ps3 => (bigE ps3 :: rowE 38 3 m3.sv m3.ss.length (m3.ss.flatMap sgC) :: rowE 63 3 m3.iv m3.xs.length (m3.xs.flatMap ixC) :: rowE 94 4 m3.mv m3.ms.length (m3.ms.flatMap mmC) :: rowE 3 1 W2.1 W2.2.length (W2.2.map (Value.int .i64)) :: rowE 3 1 U3.1 U3.2.length (U3.2.map (Value.int .i64)) :: boxE b3 #[m3.sv, m3.av, m3.iv, m3.mv] 35 :: boxE b2 #[.slice none 0 0, .slice none 0 0, .slice none 0 0, .slice none 0 0] 35 :: boxE b1 #[v] 26 :: curE g a len cap :: l)) (fun t m3 U3 ps3 => [(6, U3.1), (11, .int .i64 (t : Int))]) (fun t m3 U3 ps3 => t ≤ 2 ∧ MI D m3 U3.2 W2.2 (4 + 4 * t) (4 * t) t 0 2 (4 + 4 * t) ∧ ∀ w, (bigE ps3).holds w → RdP w m3) (fun t m3 U3 ps3 => 2 - t) 0 m2 U2 ps ⟨by omega, h2.up (by omega) (by omega) (by omega) (by omega) (by omega) (by omega), hp2⟩ (saQ rfl) (.refl _) ?_
 intro t m3 U3 ps3 hi39
 obtain ⟨ht, h3, hp3⟩ := hi39
 have hns3 := h3.ns
 have hna3 := h3.na
 have hnx3 := h3.nx
 have hnm3 := h3.nm
 refine zag (zag (reQ 1 rfl (hvQ rfl (fdQ 0 rfl rfl rfl) (hvQ rfl (zad rfl rfl rfl (zaa 8 rfl rfl)) ?_))))
 refine hvQ rfl (lnQ rfl rfl rfl (fun w hm => (hD w (hm.sub (.cons _ (.cons _ (.cons _ (.cons _ (.cons _ (.cons _ (.cons _ (.cons _ (.cons _ (.cons _ (.refl _))))))))))))).row)) (zbq rfl rfl rfl rfl rfl rfl (fun h40 => ?_) (fun h40 => ?_))
 ·
  refine zah 2 rfl (zbq rfl rfl rfl rfl rfl rfl (fun h41 => ?_) (fun h41 => ?_))
  ·
   refine zbb 1 rfl (zai rfl (zcy (sbQ (zag (zag (reQ 1 rfl ?_))))))
   refine zcl (R := (fun u_ p_ => (∃ b : Bool, u_ = .bool b) ∧ p_ = curE g a len cap)) 9 rfl rfl rfl rfl rfl (fun l' w hm => once_mut hm hb (2) (by omega) (by omega)) ?_
   intro v42 p43 hR44
   obtain ⟨⟨xhR44, rfl⟩, rfl⟩ := hR44
   refine zcr (l' := (bigE ps3 :: rowE 38 3 m3.sv m3.ss.length (m3.ss.flatMap sgC) :: rowE 63 3 m3.iv m3.xs.length (m3.xs.flatMap ixC) :: rowE 94 4 m3.mv m3.ms.length (m3.ms.flatMap mmC) :: rowE 3 1 W2.1 W2.2.length (W2.2.map (Value.int .i64)) :: rowE 3 1 U3.1 U3.2.length (U3.2.map (Value.int .i64)) :: boxE b3 #[m3.sv, m3.av, m3.iv, m3.mv] 35 :: boxE b2 #[.slice none 0 0, .slice none 0 0, .slice none 0 0, .slice none 0 0] 35 :: boxE b1 #[v] 26 :: curE g a len cap :: l)) rfl ?_
   refine zbs (fun h45 => ?_) (fun h45 => ?_)
   ·
    refine zbb 5 rfl (zar rfl (zcy (zag (reQ 1 rfl (hvQ rfl (fdQ 0 rfl rfl rfl) (hvQ rfl (zad rfl rfl rfl (zaa 8 rfl rfl)) ?_))))))
    refine hvQ rfl (lnQ rfl rfl rfl (fun w hm => (hD w (hm.sub (.cons _ (.cons _ (.cons _ (.cons _ (.cons _ (.cons _ (.cons _ (.cons _ (.cons _ (.cons _ (.refl _))))))))))))).row)) (zcl (R := (fun u_ p_ => (∃ x_ : Int, u_ = .int .i64 x_ ∧ 0 ≤ x_ ∧ x_ < (D.length : Int)) ∧ p_ = curE g a len cap)) 9 rfl rfl rfl rfl rfl (fun l' w hm => zcc g a len cap z (D.length : Int) _ _ _ hm hb (by constructor <;> omega)) ?_)
    intro v46 p47 hR48
    obtain ⟨⟨xhR48, rfl, xhR480, xhR481⟩, rfl⟩ := hR48
    refine zcr (l' := (bigE ps3 :: rowE 38 3 m3.sv m3.ss.length (m3.ss.flatMap sgC) :: rowE 63 3 m3.iv m3.xs.length (m3.xs.flatMap ixC) :: rowE 94 4 m3.mv m3.ms.length (m3.ms.flatMap mmC) :: rowE 3 1 W2.1 W2.2.length (W2.2.map (Value.int .i64)) :: rowE 3 1 U3.1 U3.2.length (U3.2.map (Value.int .i64)) :: boxE b3 #[m3.sv, m3.av, m3.iv, m3.mv] 35 :: boxE b2 #[.slice none 0 0, .slice none 0 0, .slice none 0 0, .slice none 0 0] 35 :: boxE b1 #[v] 26 :: curE g a len cap :: l)) rfl ?_
    refine zah 1 rfl (zdt rfl (zal (z := .int .i64 0) (s := 1) (cs := ([0, 0, 1, 2].map (Value.int .i64))) rfl Try.underlying48 rfl (by decide) rfl (by kernel_rfl) rfl) ?_)
    intro g49
    refine zeg (R := (fun u_ p_ => (∃ x : Int, u_ = .int .i64 x ∧ x ∈ ([0, 0, 1, 2] : List Int)) ∧ p_ = curE g a len cap)) 10 rfl rfl rfl rfl rfl (fun L w hX hm => zdz g a len cap z (.slice (some ⟨g49, 0, none⟩) 4 4) [0, 0, 1, 2] _ _ _ hm hb (fun w hm => (zaj (l := (rowE 3 1 (.slice (some ⟨g49, 0, none⟩) 4 4) 4 ([0, 0, 1, 2].map (Value.int .i64)) :: bigE ps3 :: rowE 38 3 m3.sv m3.ss.length (m3.ss.flatMap sgC) :: rowE 63 3 m3.iv m3.xs.length (m3.xs.flatMap ixC) :: rowE 94 4 m3.mv m3.ms.length (m3.ms.flatMap mmC) :: rowE 3 1 W2.1 W2.2.length (W2.2.map (Value.int .i64)) :: rowE 3 1 U3.1 U3.2.length (U3.2.map (Value.int .i64)) :: boxE b3 #[m3.sv, m3.av, m3.iv, m3.mv] 35 :: boxE b2 #[.slice none 0 0, .slice none 0 0, .slice none 0 0, .slice none 0 0] 35 :: boxE b1 #[v] 26 :: l)) 0 rfl) w (hX w hm)) (by decide)) ?_
    intro v50 p51 hR52
    obtain ⟨⟨xhR52, rfl, xhR52m⟩, rfl⟩ := hR52
    have xhR52w := lit4 xhR52m (by decide)
    refine zcr (l' := (rowE 3 1 (.slice (some ⟨g49, 0, none⟩) 4 4) 4 ([0, 0, 1, 2].map (Value.int .i64)) :: bigE ps3 :: rowE 38 3 m3.sv m3.ss.length (m3.ss.flatMap sgC) :: rowE 63 3 m3.iv m3.xs.length (m3.xs.flatMap ixC) :: rowE 94 4 m3.mv m3.ms.length (m3.ms.flatMap mmC) :: rowE 3 1 W2.1 W2.2.length (W2.2.map (Value.int .i64)) :: rowE 3 1 U3.1 U3.2.length (U3.2.map (Value.int .i64)) :: boxE b3 #[m3.sv, m3.av, m3.iv, m3.mv] 35 :: boxE b2 #[.slice none 0 0, .slice none 0 0, .slice none 0 0, .slice none 0 0] 35 :: boxE b1 #[v] 26 :: curE g a len cap :: l)) rfl ?_
    refine hvQ rfl (zbh (cs := #[.int .i64 xhR48, .int .i64 xhR52, .slice none 0 0]) rfl rfl rfl) (zdm rfl (zbe (z := .agg #[.int .i64 0, .int .i64 0, .slice none 0 0]) rfl rfl) ?_)
    intro b53
    refine zbd (cs' := #[.int .i64 xhR48, .int .i64 xhR52, .slice none 0 0]) (i := 0) (off := 0) (us := [.int .i64 xhR48, .int .i64 xhR52, .slice none 0 0]) rfl rfl rfl rfl rfl rfl rfl (zab rfl (zab rfl (zab rfl zbc))) rfl rfl rfl (ntQ (srQ (hvQ rfl (fdQ 0 rfl rfl rfl) (hvQ rfl (zad rfl rfl rfl (zaa 10 rfl rfl)) (hvQ rfl (fdQ 0 rfl rfl rfl) (hvQ rfl (zad rfl rfl rfl (zaa 0 rfl rfl)) ?_))))))
    refine hvQ rfl (riQ 4 rfl rfl rfl rfl (fun w hm => (hD w (hm.sub (.cons _ (.cons _ (.cons _ (.cons _ (.cons _ (.cons _ (.cons _ (.cons _ (.cons _ (.cons _ (.cons _ (.cons _ (.refl _))))))))))))))).row)) (hvQ rfl (zbm (us := [(D.getD ((xhR48).toNat) md0).sv, (D.getD ((xhR48).toNat) md0).av, (D.getD ((xhR48).toNat) md0).iv, (D.getD ((xhR48).toNat) md0).mv]) rfl rfl rfl rfl (fun w hm => (hD w (hm.sub (.cons _ (.cons _ (.cons _ (.cons _ (.cons _ (.cons _ (.cons _ (.cons _ (.cons _ (.cons _ (.cons _ (.cons _ (.refl _))))))))))))))).row) (by omega) rfl (zbz mdC 4 (fun _ => rfl) D md0 (show (xhR48).toNat < _ by omega) rfl)) ?_)
    refine zdm rfl (zbe (z := .agg #[.slice none 0 0, .slice none 0 0, .slice none 0 0, .slice none 0 0]) rfl rfl) ?_
    intro b54
    refine zbd (cs' := #[(D.getD ((xhR48).toNat) md0).sv, (D.getD ((xhR48).toNat) md0).av, (D.getD ((xhR48).toNat) md0).iv, (D.getD ((xhR48).toNat) md0).mv]) (i := 0) (off := 0) (us := [(D.getD ((xhR48).toNat) md0).sv, (D.getD ((xhR48).toNat) md0).av, (D.getD ((xhR48).toNat) md0).iv, (D.getD ((xhR48).toNat) md0).mv]) rfl rfl rfl rfl rfl rfl rfl (zab (hch _ (zcg (by omega))).1 (zab (hch _ (zcg (by omega))).2.1 (zab (hch _ (zcg (by omega))).2.2.1 (zab (hch _ (zcg (by omega))).2.2.2 zbc)))) rfl rfl rfl (ntQ (srQ (hvQ rfl (zax (cs := [(D.getD ((xhR48).toNat) md0).sv, (D.getD ((xhR48).toNat) md0).av, (D.getD ((xhR48).toNat) md0).iv, (D.getD ((xhR48).toNat) md0).mv]) rfl rfl rfl rfl rfl (zat 0 rfl 0 rfl)) ?_)))
    refine hl_q rfl rfl rfl (zaw rfl rfl (fun w hm => zee (D.getD ((xhR48).toNat) md0) w ((hD w (hm.sub (.cons _ (.cons _ (.cons _ (.cons _ (.cons _ (.cons _ (.cons _ (.cons _ (.cons _ (.cons _ (.cons _ (.cons _ (.cons _ (.refl _)))))))))))))))).at (by omega)))) ?_
    intro v55 p56 hR57
    subst hR57
    refine zbb 1 rfl (srQ ?_)
    refine zdt rfl (zdo (s := 1) rfl Try.underlying48 rfl) ?_
    intro g58
    refine zbb 1 rfl (zag (zbf 1 rfl (zaz ?_)))
    refine zes (rowE 3 1 (.slice none 0 0) (([] : List Int).length) (([] : List Int).map (Value.int .i64)) :: rowE 3 1 (.slice (some ⟨g58, 0, none⟩) 0 0) 0 ([]) :: rowE 3 1 v55 ((ptsK (D.getD ((xhR48).toNat) md0)).length) ((ptsK (D.getD ((xhR48).toNat) md0)).map (Value.int .i64)) :: boxE b54 #[(D.getD ((xhR48).toNat) md0).sv, (D.getD ((xhR48).toNat) md0).av, (D.getD ((xhR48).toNat) md0).iv, (D.getD ((xhR48).toNat) md0).mv] 35 :: boxE b53 #[.int .i64 xhR48, .int .i64 xhR52, .slice none 0 0] 63 :: rowE 3 1 (.slice (some ⟨g49, 0, none⟩) 4 4) 4 ([0, 0, 1, 2].map (Value.int .i64)) :: bigE ps3 :: rowE 38 3 m3.sv m3.ss.length (m3.ss.flatMap sgC) :: rowE 63 3 m3.iv m3.xs.length (m3.xs.flatMap ixC) :: rowE 94 4 m3.mv m3.ms.length (m3.ms.flatMap mmC) :: rowE 3 1 W2.1 W2.2.length (W2.2.map (Value.int .i64)) :: rowE 3 1 U3.1 U3.2.length (U3.2.map (Value.int .i64)) :: boxE b3 #[m3.sv, m3.av, m3.iv, m3.mv] 35 :: boxE b2 #[.slice none 0 0, .slice none 0 0, .slice none 0 0, .slice none 0 0] 35 :: boxE b1 #[v] 26 :: curE g a len cap :: l) (fun w hm => hm.nilRow 3 1) ?_
    refine lkQ4 (α := Nat) (β := Md) (γ := (Value × List Int) × Value × List Int) (δ := List HP) [0, 1, 3, 4, 5, 6, 7, 11, 12, 13, 14, 33, 55, 89, 98] rfl (fun j q Y pq => (rowE 3 1 Y.1.1 Y.1.2.length (Y.1.2.map (Value.int .i64)) :: rowE 3 1 Y.2.1 Y.2.2.length (Y.2.2.map (Value.int .i64)) :: rowE 3 1 v55 ((ptsK (D.getD ((xhR48).toNat) md0)).length) ((ptsK (D.getD ((xhR48).toNat) md0)).map (Value.int .i64)) :: boxE b54 #[(D.getD ((xhR48).toNat) md0).sv, (D.getD ((xhR48).toNat) md0).av, (D.getD ((xhR48).toNat) md0).iv, (D.getD ((xhR48).toNat) md0).mv] 35 :: boxE b53 #[.int .i64 xhR48, .int .i64 xhR52, Y.1.1] 63 :: bigE pq :: rowE 38 3 q.sv q.ss.length (q.ss.flatMap sgC) :: rowE 63 3 q.iv q.xs.length (q.xs.flatMap ixC) :: rowE 94 4 q.mv q.ms.length (q.ms.flatMap mmC) :: rowE 3 1 W2.1 W2.2.length (W2.2.map (Value.int .i64)) :: rowE 3 1 U3.1 U3.2.length (U3.2.map (Value.int .i64)) :: boxE b3 #[q.sv, q.av, q.iv, q.mv] 35 :: boxE b2 #[.slice none 0 0, .slice none 0 0, .slice none 0 0, .slice none 0 0] 35 :: boxE b1 #[v] 26 :: curE g a len cap :: l)) (fun j q Y pq => [(15, Y.2.1), (16, .int .i64 (j : Int))]) (fun j q Y pq => j ≤ (ptsK (D.getD ((xhR48).toNat) md0)).length ∧ MI D q U3.2 (W2.2 ++ Y.2.2) (4 + 4 * t + j) (4 * t + j) t 0 2 (4 + 4 * t) ∧ IjP D q xhR48 m3.ss.length Y.1.2 Y.2.2 j ∧ ∀ w, (bigE pq).holds w → RdP w q) (fun j q Y pq => (ptsK (D.getD ((xhR48).toNat) md0)).length - j) 0 m3 ((_, []), (_, [])) ps3 ⟨Nat.zero_le _, by rw [List.append_nil]; exact h3, IjP.start D m3 _, hp3⟩ (saQ rfl) (.cons_cons _ (.cons_cons _ (.cons_cons _ (.cons_cons _ (.cons_cons _ (.cons _ (.refl _))))))) ?_
    intro j q Y pq hi59
    obtain ⟨hj, hq, hij, hpq⟩ := hi59
    have hnsq := hq.ns
    have hnxq := hq.nx
    have hnaq := hq.na
    have hpt4 : (ptsK (D.getD ((xhR48).toNat) md0)).length ≤ 4 := by have h8 := hdd.md (((xhR48).toNat)) (by omega); rw [ptsK_len h8.len.1]; exact h8.pt
    have hyl := hij.len
    have hyo : Y.2.2.length ≤ j := by have h8 := xoA_le D (Ix.mk xhR48 0 (.slice none 0 0) Y.1.2) j; rw [← hij.oq] at h8; exact h8
    refine zag (zag (reQ 2 rfl (hvQ rfl (lnQ rfl rfl rfl (zaj 2 rfl)) ?_)))
    refine zbq rfl rfl rfl rfl rfl rfl (fun h60 => ?_) (fun h60 => ?_)
    ·
     refine ntQ (zai rfl (zcy (sbQ (zag ?_))))
     have hpt := zdw (m := (D.getD ((xhR48).toNat) md0)) (j := j) (by omega)
     have hkd := zcv hpt
     have hsg9 := (hdd.md (((xhR48).toNat)) (by omega)).b.sg _ (zcg (d := sg0) (show (((ptsK (D.getD ((xhR48).toNat) md0)).getD j 0)).toNat < ((D.getD ((xhR48).toNat) md0)).ss.length by omega))
     obtain ⟨⟨hsa, hsb⟩, ⟨hsc, hsd⟩, -⟩ := hsg9
     refine zbu 9 [[], [0], [], [], [2, 3], [4], [1, 5], [6], [7]] [123, 124, 125, 126, 127, 128, 129, 130, 131] [.pointer (some ⟨b54, 0 + 0, none⟩), (D.getD ((xhR48).toNat) md0).sv, v55, .int .i64 (j : Int), elP v55 (((j : Int)).toNat * 1), .int .i64 ((ptsK (D.getD ((xhR48).toNat) md0)).getD j 0), elP ((D.getD ((xhR48).toNat) md0).sv) (((ptsK (D.getD ((xhR48).toNat) md0)).getD j 0).toNat * 3), elP ((D.getD ((xhR48).toNat) md0).sv) (((ptsK (D.getD ((xhR48).toNat) md0)).getD j 0).toNat * 3 + 1), .int .i64 ((((D.getD ((xhR48).toNat) md0).ss).getD (((ptsK (D.getD ((xhR48).toNat) md0)).getD j 0).toNat) sg0).w)] (by kernel_rfl) rfl ?_ ?_
     ·
      exact ⟨iaQ rfl (fdQ 0 rfl rfl rfl) rfl, iaQ rfl (zad rfl rfl rfl (zaa 3 rfl rfl)) rfl, iaQ rfl (zav rfl) rfl, iaQ rfl (zav rfl) rfl, iaQ rfl (riQ 1 rfl rfl rfl rfl (zaj 2 rfl)) rfl, iaQ rfl (zam (u := .int .i64 ((ptsK (D.getD ((xhR48).toNat) md0)).getD j 0)) rfl rfl rfl (zaj 2 rfl) (zby (show _ < (ptsK (D.getD ((xhR48).toNat) md0)).length by omega))) rfl, iaQ rfl (riQ 3 rfl rfl rfl rfl (fun w hm => ((hD w (hm.sub (.cons _ (.cons _ (.cons _ (.cons _ (.cons _ (.cons _ (.cons _ (.cons _ (.cons _ (.cons _ (.cons _ (.cons _ (.cons _ (.cons _ (.cons _ (.refl _)))))))))))))))))).at (k := ((xhR48).toNat)) (by omega)).s)) rfl, iaQ rfl (zau (k0 := 1) rfl rfl rfl (fun w hm => ((hD w (hm.sub (.cons _ (.cons _ (.cons _ (.cons _ (.cons _ (.cons _ (.cons _ (.cons _ (.cons _ (.cons _ (.cons _ (.cons _ (.cons _ (.cons _ (.cons _ (.refl _)))))))))))))))))).at (k := ((xhR48).toNat)) (by omega)).s) (by omega)) rfl, iaQ rfl (zam (u := .int .i64 ((((D.getD ((xhR48).toNat) md0).ss).getD (((ptsK (D.getD ((xhR48).toNat) md0)).getD j 0).toNat) sg0).w)) rfl rfl rfl (fun w hm => ((hD w (hm.sub (.cons _ (.cons _ (.cons _ (.cons _ (.cons _ (.cons _ (.cons _ (.cons _ (.cons _ (.cons _ (.cons _ (.cons _ (.cons _ (.cons _ (.cons _ (.refl _)))))))))))))))))).at (k := ((xhR48).toNat)) (by omega)).s) ((zbi sgC 3 (fun _ => rfl) ((D.getD ((xhR48).toNat) md0).ss) sg0 (show ((ptsK (D.getD ((xhR48).toNat) md0)).getD j 0).toNat < _ by omega) (by decide)).trans rfl)) rfl, trivial⟩
     simp only [List.drop_succ_cons, List.drop_zero]
     refine zbb 1 rfl ?_
     refine zgg (α := Int) (fun wd => (rowE 3 1 Y.1.1 Y.1.2.length (Y.1.2.map (Value.int .i64)) :: rowE 3 1 Y.2.1 Y.2.2.length (Y.2.2.map (Value.int .i64)) :: rowE 3 1 v55 ((ptsK (D.getD ((xhR48).toNat) md0)).length) ((ptsK (D.getD ((xhR48).toNat) md0)).map (Value.int .i64)) :: boxE b54 #[(D.getD ((xhR48).toNat) md0).sv, (D.getD ((xhR48).toNat) md0).av, (D.getD ((xhR48).toNat) md0).iv, (D.getD ((xhR48).toNat) md0).mv] 35 :: boxE b53 #[.int .i64 xhR48, .int .i64 xhR52, Y.1.1] 63 :: bigE pq :: rowE 38 3 q.sv q.ss.length (q.ss.flatMap sgC) :: rowE 63 3 q.iv q.xs.length (q.xs.flatMap ixC) :: rowE 94 4 q.mv q.ms.length (q.ms.flatMap mmC) :: rowE 3 1 W2.1 W2.2.length (W2.2.map (Value.int .i64)) :: rowE 3 1 U3.1 U3.2.length (U3.2.map (Value.int .i64)) :: boxE b3 #[q.sv, q.av, q.iv, q.mv] 35 :: boxE b2 #[.slice none 0 0, .slice none 0 0, .slice none 0 0, .slice none 0 0] 35 :: boxE b1 #[v] 26 :: curE g a len cap :: l)) (fun wd => [(0, .pointer (some ⟨g, 0, none⟩)), (1, .agg #[v]), (3, .pointer (some ⟨b1, 0, none⟩)), (4, .pointer (some ⟨b2, 0, none⟩)), (5, .pointer (some ⟨b3, 0, none⟩)), (6, U3.1), (7, W2.1), (11, .int .i64 (t : Int)), (12, .pointer (some ⟨b53, 0, none⟩)), (13, .pointer (some ⟨b54, 0, none⟩)), (14, v55), (15, Y.2.1), (16, .int .i64 (j : Int)), (17, .int .i64 wd), (33, .bool false), (55, .bool false), (89, .bool true), (98, .bool false), (120, .bool true)]) (fun wd => 0 ≤ wd ∧ wd ≤ 4) ?_ ?_
     ·
      refine zag (reQ 1 rfl ?_)
      refine zbt rfl rfl rfl rfl rfl rfl (fun h61 => ?_) (fun h61 => ?_)
      ·
       refine ntQ (zai rfl (zao (hvQ rfl (fdQ 1 rfl rfl rfl) (hvQ rfl (zad rfl rfl rfl (zaa 4 rfl rfl)) (enQ 1 rfl ?_)))))
       exact zed xhR52 ⟨by omega, by omega⟩ (saQ rfl) (.refl _)
      refine ntQ (fsQ rfl ?_)
      exact zed ((((D.getD ((xhR48).toNat) md0).ss).getD (((ptsK (D.getD ((xhR48).toNat) md0)).getD j 0).toNat) sg0).w) ⟨by omega, by omega⟩ (saQ rfl) (.refl _)
     intro wd hm62
     have hwd9 : 0 ≤ wd ∧ wd ≤ 4 := hm62
     refine srQ (hvQ rfl (fdQ 0 rfl rfl rfl) (hvQ rfl (zad rfl rfl rfl (zaa 11 rfl rfl)) (hvQ rfl (lnQ rfl rfl rfl (zaj 6 rfl)) (zbb 1 rfl (srQ (hvQ rfl (fdQ 0 rfl rfl rfl) (hvQ rfl (zad rfl rfl rfl (zaa 11 rfl rfl)) (zah 1 rfl ?_))))))))
     refine hvQ rfl (zbh (cs := #[.int .i64 2, .int .i64 wd, .int .i64 0]) rfl rfl rfl) (zdt rfl (zal (z := .agg #[.int .i64 0, .int .i64 0, .int .i64 0]) (s := 3) (cs := ([2, wd, 0].map (Value.int .i64))) rfl Try.underlying30 rfl (by decide) rfl (by kernel_rfl) rfl) ?_)
     intro g63
     refine zcp (i := 7) (z := .agg #[.int .i64 0, .int .i64 0, .int .i64 0]) (bytes := 24) rfl rfl rfl rfl Try.underlying30 (by kernel_rfl) rfl rfl rfl rfl (zaj 0 rfl) (zch _) (by first | omega | (simp only [List.length_append, List.length_cons, List.length_nil]; omega)) (zci q.ss [(Sg.mk 2 wd 0)]) (zdc sgC q.ss (Sg.mk 2 wd 0) _ rfl) (fun _ => rfl) ?_
     intro v64
     refine hvQ rfl (fdQ 0 rfl rfl rfl) (zcq (i := 7) rfl (fun ho65 => ?_))
     refine zei (i := 12) (cs' := #[v64, q.av, q.iv, q.mv]) rfl rfl rfl rfl rfl rfl ho65 rfl rfl rfl rfl (ntQ (srQ (hvQ rfl (fdQ 2 rfl rfl rfl) (hvQ rfl (zad rfl rfl rfl (zaa 5 rfl rfl)) (zah 1 rfl ?_)))))
     refine zdt rfl (zal (z := .int .i64 0) (s := 1) (cs := ([(q.ss.length : Int)].map (Value.int .i64))) rfl Try.underlying48 rfl (by decide) rfl (by kernel_rfl) rfl) ?_
     intro g66
     refine zcp (i := 2) (z := .int .i64 0) (bytes := 8) rfl rfl rfl rfl Try.underlying48 (by kernel_rfl) rfl rfl rfl rfl (zaj 0 rfl) (zch _) (by first | omega | (simp; done) | (simp; omega)) (zci Y.1.2 ([(q.ss.length : Int)])) (zcs Y.1.2 ([(q.ss.length : Int)])) (fun _ => rfl) ?_
     intro v67
     refine hvQ rfl (fdQ 2 rfl rfl rfl) (zcq (i := 2) rfl (fun ho68 => ?_))
     refine zei (i := 6) (cs' := #[.int .i64 xhR48, .int .i64 xhR52, v67]) rfl rfl rfl rfl rfl rfl ho68 rfl rfl rfl rfl (ntQ (zag ?_))
     rcases Bool.eq_false_or_eq_true (((((D.getD ((xhR48).toNat) md0).ss).getD (((ptsK (D.getD ((xhR48).toNat) md0)).getD j 0).toNat) sg0).k) == 1) with hb69 | hb69
     ·
      have hb69p : (((D.getD ((xhR48).toNat) md0).ss).getD (((ptsK (D.getD ((xhR48).toNat) md0)).getD j 0).toNat) sg0).k = 1 := beq_iff_eq.1 hb69
      refine zbu 10 [[], [0], [], [], [2, 3], [4], [1, 5], [6], [7], [8]] [152, 153, 154, 155, 156, 157, 158, 159, 160, 161] [.pointer (some ⟨b54, 0 + 0, none⟩), (D.getD ((xhR48).toNat) md0).sv, v55, .int .i64 (j : Int), elP v55 (((j : Int)).toNat * 1), .int .i64 ((ptsK (D.getD ((xhR48).toNat) md0)).getD j 0), elP ((D.getD ((xhR48).toNat) md0).sv) (((ptsK (D.getD ((xhR48).toNat) md0)).getD j 0).toNat * 3), elP ((D.getD ((xhR48).toNat) md0).sv) (((ptsK (D.getD ((xhR48).toNat) md0)).getD j 0).toNat * 3 + 0), .int .i64 ((((D.getD ((xhR48).toNat) md0).ss).getD (((ptsK (D.getD ((xhR48).toNat) md0)).getD j 0).toNat) sg0).k), .bool true] (by kernel_rfl) rfl ?_ ?_
      ·
       exact ⟨iaQ rfl (fdQ 0 rfl rfl rfl) rfl, iaQ rfl (zad rfl rfl rfl (zaa 5 rfl rfl)) rfl, iaQ rfl (zav rfl) rfl, iaQ rfl (zav rfl) rfl, iaQ rfl (riQ 1 rfl rfl rfl rfl (zaj 4 rfl)) rfl, iaQ rfl (zam (u := .int .i64 ((ptsK (D.getD ((xhR48).toNat) md0)).getD j 0)) rfl rfl rfl (zaj 4 rfl) (zby (show _ < (ptsK (D.getD ((xhR48).toNat) md0)).length by omega))) rfl, iaQ rfl (riQ 3 rfl rfl rfl rfl (fun w hm => ((hD w (hm.sub (.cons _ (.cons _ (.cons _ (.cons _ (.cons _ (.cons _ (.cons _ (.cons _ (.cons _ (.cons _ (.cons _ (.cons _ (.cons _ (.cons _ (.cons _ (.cons _ (.cons _ (.refl _)))))))))))))))))))).at (k := ((xhR48).toNat)) (by omega)).s)) rfl, iaQ rfl (zau (k0 := 0) rfl rfl rfl (fun w hm => ((hD w (hm.sub (.cons _ (.cons _ (.cons _ (.cons _ (.cons _ (.cons _ (.cons _ (.cons _ (.cons _ (.cons _ (.cons _ (.cons _ (.cons _ (.cons _ (.cons _ (.cons _ (.cons _ (.refl _)))))))))))))))))))).at (k := ((xhR48).toNat)) (by omega)).s) (by omega)) rfl, iaQ rfl (zam (u := .int .i64 ((((D.getD ((xhR48).toNat) md0).ss).getD (((ptsK (D.getD ((xhR48).toNat) md0)).getD j 0).toNat) sg0).k)) rfl rfl rfl (fun w hm => ((hD w (hm.sub (.cons _ (.cons _ (.cons _ (.cons _ (.cons _ (.cons _ (.cons _ (.cons _ (.cons _ (.cons _ (.cons _ (.cons _ (.cons _ (.cons _ (.cons _ (.cons _ (.cons _ (.refl _)))))))))))))))))))).at (k := ((xhR48).toNat)) (by omega)).s) ((zbi sgC 3 (fun _ => rfl) ((D.getD ((xhR48).toNat) md0).ss) sg0 (show ((ptsK (D.getD ((xhR48).toNat) md0)).getD j 0).toNat < _ by omega) (by decide)).trans rfl)) rfl, .inl ⟨rfl, zdq (zcj rfl rfl rfl rfl) hb69⟩, trivial⟩
      simp only [List.drop_succ_cons, List.drop_zero]
      refine ntQ (zai rfl (reQ 2 rfl ?_))
      refine zdt rfl (zal (z := .int .i64 0) (s := 1) (cs := ([(q.ss.length : Int)].map (Value.int .i64))) rfl Try.underlying48 rfl (by decide) rfl (by kernel_rfl) rfl) ?_
      intro g70
      refine zcp (i := 4) (z := .int .i64 0) (bytes := 8) rfl rfl rfl rfl Try.underlying48 (by kernel_rfl) rfl rfl rfl rfl (zaj 0 rfl) (zch _) (by first | omega | (simp; done) | (simp; omega)) (zci Y.2.2 ([(q.ss.length : Int)])) (zcs Y.2.2 ([(q.ss.length : Int)])) (fun _ => rfl) ?_
      intro v71
      refine enQ 1 rfl (zde (reQ 1 rfl (hvQ rfl (vaQ rfl rfl rfl) (enQ 1 rfl ?_))))
      exact zdr (j + 1) (Md.mk v64 q.av q.iv q.mv (q.ss ++ [(Sg.mk 2 wd 0)]) q.gs q.xs q.ms) ((v67, Y.1.2 ++ ([(q.ss.length : Int)])), (v71, Y.2.2 ++ ([(q.ss.length : Int)]))) pq ⟨by omega, (hq.wire _ hwd9 mem_app1).up (by omega) (by omega) (by omega) (by omega) (by omega) (by omega), hij.out rfl (by omega), fun w hw => hpq w hw⟩ (by omega) (saQ rfl) (.cons _ (.cons _ (.cons _ (.refl _))))
     have hb69p : (((D.getD ((xhR48).toNat) md0).ss).getD (((ptsK (D.getD ((xhR48).toNat) md0)).getD j 0).toNat) sg0).k ≠ 1 := beq_eq_false_iff_ne.1 hb69
     refine zbu 10 [[], [0], [], [], [2, 3], [4], [1, 5], [6], [7], [8]] [152, 153, 154, 155, 156, 157, 158, 159, 160, 161] [.pointer (some ⟨b54, 0 + 0, none⟩), (D.getD ((xhR48).toNat) md0).sv, v55, .int .i64 (j : Int), elP v55 (((j : Int)).toNat * 1), .int .i64 ((ptsK (D.getD ((xhR48).toNat) md0)).getD j 0), elP ((D.getD ((xhR48).toNat) md0).sv) (((ptsK (D.getD ((xhR48).toNat) md0)).getD j 0).toNat * 3), elP ((D.getD ((xhR48).toNat) md0).sv) (((ptsK (D.getD ((xhR48).toNat) md0)).getD j 0).toNat * 3 + 0), .int .i64 ((((D.getD ((xhR48).toNat) md0).ss).getD (((ptsK (D.getD ((xhR48).toNat) md0)).getD j 0).toNat) sg0).k), .bool false] (by kernel_rfl) rfl ?_ ?_
     ·
      exact ⟨iaQ rfl (fdQ 0 rfl rfl rfl) rfl, iaQ rfl (zad rfl rfl rfl (zaa 5 rfl rfl)) rfl, iaQ rfl (zav rfl) rfl, iaQ rfl (zav rfl) rfl, iaQ rfl (riQ 1 rfl rfl rfl rfl (zaj 4 rfl)) rfl, iaQ rfl (zam (u := .int .i64 ((ptsK (D.getD ((xhR48).toNat) md0)).getD j 0)) rfl rfl rfl (zaj 4 rfl) (zby (show _ < (ptsK (D.getD ((xhR48).toNat) md0)).length by omega))) rfl, iaQ rfl (riQ 3 rfl rfl rfl rfl (fun w hm => ((hD w (hm.sub (.cons _ (.cons _ (.cons _ (.cons _ (.cons _ (.cons _ (.cons _ (.cons _ (.cons _ (.cons _ (.cons _ (.cons _ (.cons _ (.cons _ (.cons _ (.cons _ (.cons _ (.refl _)))))))))))))))))))).at (k := ((xhR48).toNat)) (by omega)).s)) rfl, iaQ rfl (zau (k0 := 0) rfl rfl rfl (fun w hm => ((hD w (hm.sub (.cons _ (.cons _ (.cons _ (.cons _ (.cons _ (.cons _ (.cons _ (.cons _ (.cons _ (.cons _ (.cons _ (.cons _ (.cons _ (.cons _ (.cons _ (.cons _ (.cons _ (.refl _)))))))))))))))))))).at (k := ((xhR48).toNat)) (by omega)).s) (by omega)) rfl, iaQ rfl (zam (u := .int .i64 ((((D.getD ((xhR48).toNat) md0).ss).getD (((ptsK (D.getD ((xhR48).toNat) md0)).getD j 0).toNat) sg0).k)) rfl rfl rfl (fun w hm => ((hD w (hm.sub (.cons _ (.cons _ (.cons _ (.cons _ (.cons _ (.cons _ (.cons _ (.cons _ (.cons _ (.cons _ (.cons _ (.cons _ (.cons _ (.cons _ (.cons _ (.cons _ (.cons _ (.refl _)))))))))))))))))))).at (k := ((xhR48).toNat)) (by omega)).s) ((zbi sgC 3 (fun _ => rfl) ((D.getD ((xhR48).toNat) md0).ss) sg0 (show ((ptsK (D.getD ((xhR48).toNat) md0)).getD j 0).toNat < _ by omega) (by decide)).trans rfl)) rfl, .inl ⟨rfl, zdq (zcj rfl rfl rfl rfl) hb69⟩, trivial⟩
     simp only [List.drop_succ_cons, List.drop_zero]
     refine ntQ (zar rfl (zao ?_))
     refine hl_know (p := (∀ g9 ∈ q.gs, g9.ov.oneCell' = true) ∧ v64.oneCell' = true ∧ q.av.oneCell' = true ∧ q.iv.oneCell' = true ∧ q.mv.oneCell' = true) (fun w hm => ⟨fun g9 hg9 => ((hpq w (hm.holds _ (zcf (i := 7) rfl))).2.1 g9 hg9).one, (zaj 8 rfl w hm).one, (hpq w (hm.holds _ (zcf (i := 7) rfl))).1.one, (zaj 9 rfl w hm).one, (zaj 10 rfl w hm).one⟩) (fun ⟨hone9, ho9⟩ => ?_)
     refine zah 1 rfl (hvQ rfl (zax (cs := [v64, q.av, q.iv, q.mv]) rfl rfl rfl rfl rfl (zat 13 rfl 0 rfl)) (zah 2 rfl ?_))
     refine zeg (R := (fun u_ p_ => ∃ (v' ov : Value) (os : List Oq) (ps : List HP), u_ = .agg #[v64, v', q.iv, q.mv] ∧ p_ = bigE [curE g a len cap, bigE ps] ∧ (∀ w, (bigE ps).holds w → RdsW w v' 2 (q.gs ++ [As.mk (q.ss.length : Int) ov os]).length ((q.gs ++ [As.mk (q.ss.length : Int) ov os]).flatMap asC) ∧ RdsW w ov 3 os.length (os.flatMap oqC)) ∧ v'.oneCell' = true ∧ ov.oneCell' = true ∧ ExP (q.ss.length : Int) 9 os)) 16 rfl rfl rfl rfl rfl (fun L w hX hm => zea g a len cap z (q.ss.length : Int) (Md.mk v64 q.av q.iv q.mv (q.ss ++ [(Sg.mk 2 wd 0)]) q.gs q.xs q.ms) (q.ss.length : Int) U3.1 _ _ _ _ hm hb (fun w9 h9 => (zaj (l := (rowE 3 1 (.slice (some ⟨g66, 0, none⟩) 1 1) 1 ([(q.ss.length : Int)].map (Value.int .i64)) :: rowE 38 3 (.slice (some ⟨g63, 0, none⟩) 1 1) 1 ([2, wd, 0].map (Value.int .i64)) :: rowE 3 1 v67 ((Y.1.2 ++ ([(q.ss.length : Int)])).length) ((Y.1.2 ++ ([(q.ss.length : Int)])).map (Value.int .i64)) :: rowE 3 1 Y.2.1 Y.2.2.length (Y.2.2.map (Value.int .i64)) :: rowE 3 1 v55 ((ptsK (D.getD ((xhR48).toNat) md0)).length) ((ptsK (D.getD ((xhR48).toNat) md0)).map (Value.int .i64)) :: boxE b54 #[(D.getD ((xhR48).toNat) md0).sv, (D.getD ((xhR48).toNat) md0).av, (D.getD ((xhR48).toNat) md0).iv, (D.getD ((xhR48).toNat) md0).mv] 35 :: boxE b53 #[.int .i64 xhR48, .int .i64 xhR52, v67] 63 :: bigE pq :: rowE 38 3 v64 ((q.ss ++ [(Sg.mk 2 wd 0)]).length) ((q.ss ++ [(Sg.mk 2 wd 0)]).flatMap sgC) :: rowE 63 3 q.iv q.xs.length (q.xs.flatMap ixC) :: rowE 94 4 q.mv q.ms.length (q.ms.flatMap mmC) :: rowE 3 1 W2.1 W2.2.length (W2.2.map (Value.int .i64)) :: rowE 3 1 U3.1 U3.2.length (U3.2.map (Value.int .i64)) :: boxE b3 #[v64, q.av, q.iv, q.mv] 35 :: boxE b2 #[.slice none 0 0, .slice none 0 0, .slice none 0 0, .slice none 0 0] 35 :: boxE b1 #[v] 26 :: l)) 12 rfl) w9 (hX w9 h9)) (fun x hx => hq.av x hx) (by have h9 := hq.na; omega) (fun w9 h9 => (hpq w9 ((hX w9 h9).holds _ (zcf (i := 7) rfl))).1) (by have h9 := hq.ng; show q.gs.length ≤ 1000; omega) hone9 ⟨ho9.1, ho9.2.1, ho9.2.2.1, ho9.2.2.2⟩) ?_
     intro v72 p73 hR74
     obtain ⟨avhR74, ovhR74, oshR74, aphR74, rfl, rfl, haphR74, oavhR74, oovhR74, hoshR74⟩ := hR74
     refine zcr (l' := (rowE 3 1 (.slice (some ⟨g66, 0, none⟩) 1 1) 1 ([(q.ss.length : Int)].map (Value.int .i64)) :: rowE 38 3 (.slice (some ⟨g63, 0, none⟩) 1 1) 1 ([2, wd, 0].map (Value.int .i64)) :: rowE 3 1 v67 ((Y.1.2 ++ ([(q.ss.length : Int)])).length) ((Y.1.2 ++ ([(q.ss.length : Int)])).map (Value.int .i64)) :: rowE 3 1 Y.2.1 Y.2.2.length (Y.2.2.map (Value.int .i64)) :: rowE 3 1 v55 ((ptsK (D.getD ((xhR48).toNat) md0)).length) ((ptsK (D.getD ((xhR48).toNat) md0)).map (Value.int .i64)) :: boxE b54 #[(D.getD ((xhR48).toNat) md0).sv, (D.getD ((xhR48).toNat) md0).av, (D.getD ((xhR48).toNat) md0).iv, (D.getD ((xhR48).toNat) md0).mv] 35 :: boxE b53 #[.int .i64 xhR48, .int .i64 xhR52, v67] 63 :: bigE pq :: rowE 38 3 v64 ((q.ss ++ [(Sg.mk 2 wd 0)]).length) ((q.ss ++ [(Sg.mk 2 wd 0)]).flatMap sgC) :: rowE 63 3 q.iv q.xs.length (q.xs.flatMap ixC) :: rowE 94 4 q.mv q.ms.length (q.ms.flatMap mmC) :: rowE 3 1 W2.1 W2.2.length (W2.2.map (Value.int .i64)) :: rowE 3 1 U3.1 U3.2.length (U3.2.map (Value.int .i64)) :: boxE b3 #[v64, q.av, q.iv, q.mv] 35 :: boxE b2 #[.slice none 0 0, .slice none 0 0, .slice none 0 0, .slice none 0 0] 35 :: boxE b1 #[v] 26 :: bigE [curE g a len cap, bigE aphR74] :: l)) rfl ?_
     refine zbd (cs' := #[v64, avhR74, q.iv, q.mv]) (i := 13) (off := 0) (us := [v64, avhR74, q.iv, q.mv]) rfl rfl rfl rfl rfl rfl rfl (zab ho65 (zab oavhR74 (zab ho9.2.2.1 (zab ho9.2.2.2 zbc)))) rfl rfl rfl (zbn (zde (reQ 1 rfl (hvQ rfl (vaQ rfl rfl rfl) (enQ 1 rfl ?_)))))
     refine zbj 17 [15, 14, 13, 12, 11, 10, 9, 8, 7, 6, 5, 4, 3, 2, 1, 0, 16] rfl rfl (by decide) ?_
     refine zdi (curE g a len cap :: bigE aphR74 :: rowE 3 1 (.slice (some ⟨g66, 0, none⟩) 1 1) 1 ([(q.ss.length : Int)].map (Value.int .i64)) :: rowE 38 3 (.slice (some ⟨g63, 0, none⟩) 1 1) 1 ([2, wd, 0].map (Value.int .i64)) :: rowE 3 1 v67 ((Y.1.2 ++ ([(q.ss.length : Int)])).length) ((Y.1.2 ++ ([(q.ss.length : Int)])).map (Value.int .i64)) :: rowE 3 1 Y.2.1 Y.2.2.length (Y.2.2.map (Value.int .i64)) :: rowE 3 1 v55 ((ptsK (D.getD ((xhR48).toNat) md0)).length) ((ptsK (D.getD ((xhR48).toNat) md0)).map (Value.int .i64)) :: boxE b54 #[(D.getD ((xhR48).toNat) md0).sv, (D.getD ((xhR48).toNat) md0).av, (D.getD ((xhR48).toNat) md0).iv, (D.getD ((xhR48).toNat) md0).mv] 35 :: boxE b53 #[.int .i64 xhR48, .int .i64 xhR52, v67] 63 :: bigE pq :: rowE 38 3 v64 ((q.ss ++ [(Sg.mk 2 wd 0)]).length) ((q.ss ++ [(Sg.mk 2 wd 0)]).flatMap sgC) :: rowE 63 3 q.iv q.xs.length (q.xs.flatMap ixC) :: rowE 94 4 q.mv q.ms.length (q.ms.flatMap mmC) :: rowE 3 1 W2.1 W2.2.length (W2.2.map (Value.int .i64)) :: rowE 3 1 U3.1 U3.2.length (U3.2.map (Value.int .i64)) :: boxE b3 #[v64, avhR74, q.iv, q.mv] 35 :: boxE b2 #[.slice none 0 0, .slice none 0 0, .slice none 0 0, .slice none 0 0] 35 :: boxE b1 #[v] 26 :: l) zdf ?_
     refine zbj 18 [17, 16, 15, 14, 13, 12, 11, 10, 8, 7, 6, 5, 4, 3, 2, 0, 1, 9] rfl rfl (by decide) ?_
     refine zcb 2 rfl ?_
     refine zbj 17 [1, 16, 15, 14, 13, 12, 11, 10, 9, 0, 8, 7, 6, 5, 4] rfl rfl (by decide) ?_
     exact zdr (j + 1) (Md.mk v64 avhR74 q.iv q.mv (q.ss ++ [(Sg.mk 2 wd 0)]) (q.gs ++ [As.mk (q.ss.length : Int) ovhR74 oshR74]) q.xs q.ms) ((v67, Y.1.2 ++ ([(q.ss.length : Int)])), (Y.2.1, Y.2.2)) [bigE pq, bigE aphR74] ⟨by omega, ((hq.wire _ hwd9 mem_app2).asg _ (List.mem_append_right _ List.mem_cons_self) _ hoshR74 (by show (q.ss.length : Int) ≤ ((_ : List Sg).length : Int); rw [List.length_append]; omega) (mem_less hq.plt)).up (by omega) (by omega) (by omega) (by omega) (by omega) (by omega), hij.inn rfl (by omega), fun w hw => ⟨(haphR74 w (zba hw (List.mem_cons_of_mem _ List.mem_cons_self))).1, (hpq w (zba hw List.mem_cons_self)).2.1.app (haphR74 w (zba hw (List.mem_cons_of_mem _ List.mem_cons_self))).2, (hpq w (zba hw List.mem_cons_self)).2.2⟩⟩ (by omega) (saQ rfl) (.refl _)
    refine ntQ (zar rfl ?_)
    refine zbl (zdx ?_)
    refine zan (zaq (srQ (hvQ rfl (fdQ 2 rfl rfl rfl) (hvQ rfl (zad rfl rfl rfl (zaa 11 rfl rfl)) (hvQ rfl (zax (cs := [.int .i64 xhR48, .int .i64 xhR52, Y.1.1]) rfl rfl rfl rfl rfl (zat 4 rfl 0 rfl)) ?_)))))
    refine zdt rfl (zal (z := .agg #[.int .i64 0, .int .i64 0, .slice none 0 0]) (s := 3) (cs := [.int .i64 xhR48, .int .i64 xhR52, Y.1.1]) rfl Try.underlying32 rfl (by decide) rfl (by kernel_rfl) rfl) ?_
    intro g75
    refine zcq (i := 1) rfl (fun ho76 => ?_)
    refine zcp (i := 8) (z := .agg #[.int .i64 0, .int .i64 0, .slice none 0 0]) (bytes := 40) rfl rfl rfl rfl Try.underlying32 (by kernel_rfl) rfl rfl rfl rfl (zaj 0 rfl) (zab rfl (zab rfl (zab ho76 zbc))) (by first | omega | (simp only [List.length_append, List.length_cons, List.length_nil]; omega)) (zci q.xs [(Ix.mk xhR48 xhR52 Y.1.1 Y.1.2)]) (zdc ixC q.xs (Ix.mk xhR48 xhR52 Y.1.1 Y.1.2) _ rfl) (fun _ => rfl) ?_
    intro v77
    refine hvQ rfl (fdQ 2 rfl rfl rfl) (zcq (i := 8) rfl (fun ho78 => ?_))
    refine zei (i := 12) (cs' := #[q.sv, q.av, v77, q.mv]) rfl rfl rfl rfl rfl rfl ho78 rfl rfl rfl rfl (ntQ (reQ 2 rfl ?_))
    refine zcp (i := 11) (z := .int .i64 0) (bytes := 8) rfl rfl rfl rfl Try.underlying48 (by kernel_rfl) rfl rfl rfl rfl (zaj 2 rfl) (zch _) (by first | omega | (simp; done) | (simp; omega)) (zci U3.2 Y.2.2) (zcs U3.2 Y.2.2) (fun _ => rfl) ?_
    intro v79
    refine enQ 1 rfl (zde (reQ 1 rfl (hvQ rfl (vaQ rfl rfl rfl) (enQ 1 rfl ?_))))
    rw [show j = (ptsK (D.getD ((xhR48).toNat) md0)).length by omega] at hij
    refine zbj 16 [15, 14, 13, 12, 11, 10, 9, 8, 7, 5, 4, 3, 2, 0, 1, 6] rfl rfl (by decide) ?_
    refine zcb 2 rfl ?_
    exact zdr (t + 1) (Md.mk q.sv q.av v77 q.mv q.ss q.gs (q.xs ++ [(Ix.mk xhR48 xhR52 Y.1.1 Y.1.2)]) q.ms) (v79, U3.2 ++ Y.2.2) [bigE pq, rowE 3 1 Y.1.1 Y.1.2.length (Y.1.2.map (Value.int .i64))] ⟨by omega, (MI.done hq _ _ hij ⟨by omega, by omega⟩ (by omega) h3.plt (e := 4) (by omega)).up (by omega) (by omega) (by omega) (by omega) (by omega) (by omega), fun w hw => ⟨(hpq w (zba hw List.mem_cons_self)).1, (hpq w (zba hw List.mem_cons_self)).2.1, (hpq w (zba hw List.mem_cons_self)).2.2.app (zco (zba hw (List.mem_cons_of_mem _ List.mem_cons_self)))⟩⟩ (by omega) (saQ rfl) (.cons_cons _ (.cons _ (.cons _ (.cons _ (.cons _ (.cons _ (.refl _)))))))
   refine zah 3 rfl (zeb rfl rfl rfl rfl rfl rfl (fun h80 => ?_) (fun h80 => ?_))
   ·
    refine zbb 1 rfl (zai rfl ?_)
    refine zbl (zfg ?_)
    refine zan (zaq (reQ 1 rfl (hvQ rfl (vaQ rfl rfl rfl) (enQ 1 rfl ?_))))
    exact zdr (t + 1) m3 (U3.1, U3.2) ps3 ⟨by omega, h3.up (by omega) (by omega) (by omega) (by omega) (by omega) (by omega), hp3⟩ (by omega) (saQ rfl) (.refl _)
   refine zbb 1 rfl (zar rfl (zcy (zag (reQ 1 rfl (hvQ rfl (fdQ 0 rfl rfl rfl) (hvQ rfl (zad rfl rfl rfl (zaa 8 rfl rfl)) ?_))))))
   refine hvQ rfl (lnQ rfl rfl rfl (fun w hm => (hD w (hm.sub (.cons _ (.cons _ (.cons _ (.cons _ (.cons _ (.cons _ (.cons _ (.cons _ (.cons _ (.cons _ (.refl _))))))))))))).row)) (zcl (R := (fun u_ p_ => (∃ x_ : Int, u_ = .int .i64 x_ ∧ 0 ≤ x_ ∧ x_ < (D.length : Int)) ∧ p_ = curE g a len cap)) 9 rfl rfl rfl rfl rfl (fun l' w hm => zcc g a len cap z (D.length : Int) _ _ _ hm hb (by constructor <;> omega)) ?_)
   intro v81 p82 hR83
   obtain ⟨⟨xhR83, rfl, xhR830, xhR831⟩, rfl⟩ := hR83
   refine zcr (l' := (bigE ps3 :: rowE 38 3 m3.sv m3.ss.length (m3.ss.flatMap sgC) :: rowE 63 3 m3.iv m3.xs.length (m3.xs.flatMap ixC) :: rowE 94 4 m3.mv m3.ms.length (m3.ms.flatMap mmC) :: rowE 3 1 W2.1 W2.2.length (W2.2.map (Value.int .i64)) :: rowE 3 1 U3.1 U3.2.length (U3.2.map (Value.int .i64)) :: boxE b3 #[m3.sv, m3.av, m3.iv, m3.mv] 35 :: boxE b2 #[.slice none 0 0, .slice none 0 0, .slice none 0 0, .slice none 0 0] 35 :: boxE b1 #[v] 26 :: curE g a len cap :: l)) rfl ?_
   refine zah 1 rfl (zdt rfl (zal (z := .int .i64 0) (s := 1) (cs := ([0, 0, 1, 2].map (Value.int .i64))) rfl Try.underlying48 rfl (by decide) rfl (by kernel_rfl) rfl) ?_)
   intro g84
   refine zeg (R := (fun u_ p_ => (∃ x : Int, u_ = .int .i64 x ∧ x ∈ ([0, 0, 1, 2] : List Int)) ∧ p_ = curE g a len cap)) 10 rfl rfl rfl rfl rfl (fun L w hX hm => zdz g a len cap z (.slice (some ⟨g84, 0, none⟩) 4 4) [0, 0, 1, 2] _ _ _ hm hb (fun w hm => (zaj (l := (rowE 3 1 (.slice (some ⟨g84, 0, none⟩) 4 4) 4 ([0, 0, 1, 2].map (Value.int .i64)) :: bigE ps3 :: rowE 38 3 m3.sv m3.ss.length (m3.ss.flatMap sgC) :: rowE 63 3 m3.iv m3.xs.length (m3.xs.flatMap ixC) :: rowE 94 4 m3.mv m3.ms.length (m3.ms.flatMap mmC) :: rowE 3 1 W2.1 W2.2.length (W2.2.map (Value.int .i64)) :: rowE 3 1 U3.1 U3.2.length (U3.2.map (Value.int .i64)) :: boxE b3 #[m3.sv, m3.av, m3.iv, m3.mv] 35 :: boxE b2 #[.slice none 0 0, .slice none 0 0, .slice none 0 0, .slice none 0 0] 35 :: boxE b1 #[v] 26 :: l)) 0 rfl) w (hX w hm)) (by decide)) ?_
   intro v85 p86 hR87
   obtain ⟨⟨xhR87, rfl, xhR87m⟩, rfl⟩ := hR87
   have xhR87w := lit4 xhR87m (by decide)
   refine zcr (l' := (rowE 3 1 (.slice (some ⟨g84, 0, none⟩) 4 4) 4 ([0, 0, 1, 2].map (Value.int .i64)) :: bigE ps3 :: rowE 38 3 m3.sv m3.ss.length (m3.ss.flatMap sgC) :: rowE 63 3 m3.iv m3.xs.length (m3.xs.flatMap ixC) :: rowE 94 4 m3.mv m3.ms.length (m3.ms.flatMap mmC) :: rowE 3 1 W2.1 W2.2.length (W2.2.map (Value.int .i64)) :: rowE 3 1 U3.1 U3.2.length (U3.2.map (Value.int .i64)) :: boxE b3 #[m3.sv, m3.av, m3.iv, m3.mv] 35 :: boxE b2 #[.slice none 0 0, .slice none 0 0, .slice none 0 0, .slice none 0 0] 35 :: boxE b1 #[v] 26 :: curE g a len cap :: l)) rfl ?_
   refine hvQ rfl (zbh (cs := #[.int .i64 xhR83, .int .i64 xhR87, .slice none 0 0]) rfl rfl rfl) (zdm rfl (zbe (z := .agg #[.int .i64 0, .int .i64 0, .slice none 0 0]) rfl rfl) ?_)
   intro b88
   refine zbd (cs' := #[.int .i64 xhR83, .int .i64 xhR87, .slice none 0 0]) (i := 0) (off := 0) (us := [.int .i64 xhR83, .int .i64 xhR87, .slice none 0 0]) rfl rfl rfl rfl rfl rfl rfl (zab rfl (zab rfl (zab rfl zbc))) rfl rfl rfl (ntQ (srQ (hvQ rfl (fdQ 0 rfl rfl rfl) (hvQ rfl (zad rfl rfl rfl (zaa 10 rfl rfl)) (hvQ rfl (fdQ 0 rfl rfl rfl) (hvQ rfl (zad rfl rfl rfl (zaa 0 rfl rfl)) ?_))))))
   refine hvQ rfl (riQ 4 rfl rfl rfl rfl (fun w hm => (hD w (hm.sub (.cons _ (.cons _ (.cons _ (.cons _ (.cons _ (.cons _ (.cons _ (.cons _ (.cons _ (.cons _ (.cons _ (.cons _ (.refl _))))))))))))))).row)) (hvQ rfl (zbm (us := [(D.getD ((xhR83).toNat) md0).sv, (D.getD ((xhR83).toNat) md0).av, (D.getD ((xhR83).toNat) md0).iv, (D.getD ((xhR83).toNat) md0).mv]) rfl rfl rfl rfl (fun w hm => (hD w (hm.sub (.cons _ (.cons _ (.cons _ (.cons _ (.cons _ (.cons _ (.cons _ (.cons _ (.cons _ (.cons _ (.cons _ (.cons _ (.refl _))))))))))))))).row) (by omega) rfl (zbz mdC 4 (fun _ => rfl) D md0 (show (xhR83).toNat < _ by omega) rfl)) ?_)
   refine zdm rfl (zbe (z := .agg #[.slice none 0 0, .slice none 0 0, .slice none 0 0, .slice none 0 0]) rfl rfl) ?_
   intro b89
   refine zbd (cs' := #[(D.getD ((xhR83).toNat) md0).sv, (D.getD ((xhR83).toNat) md0).av, (D.getD ((xhR83).toNat) md0).iv, (D.getD ((xhR83).toNat) md0).mv]) (i := 0) (off := 0) (us := [(D.getD ((xhR83).toNat) md0).sv, (D.getD ((xhR83).toNat) md0).av, (D.getD ((xhR83).toNat) md0).iv, (D.getD ((xhR83).toNat) md0).mv]) rfl rfl rfl rfl rfl rfl rfl (zab (hch _ (zcg (by omega))).1 (zab (hch _ (zcg (by omega))).2.1 (zab (hch _ (zcg (by omega))).2.2.1 (zab (hch _ (zcg (by omega))).2.2.2 zbc)))) rfl rfl rfl (ntQ (srQ (hvQ rfl (zax (cs := [(D.getD ((xhR83).toNat) md0).sv, (D.getD ((xhR83).toNat) md0).av, (D.getD ((xhR83).toNat) md0).iv, (D.getD ((xhR83).toNat) md0).mv]) rfl rfl rfl rfl rfl (zat 0 rfl 0 rfl)) ?_)))
   refine hl_q rfl rfl rfl (zaw rfl rfl (fun w hm => zee (D.getD ((xhR83).toNat) md0) w ((hD w (hm.sub (.cons _ (.cons _ (.cons _ (.cons _ (.cons _ (.cons _ (.cons _ (.cons _ (.cons _ (.cons _ (.cons _ (.cons _ (.cons _ (.refl _)))))))))))))))).at (by omega)))) ?_
   intro v90 p91 hR92
   subst hR92
   refine zbb 1 rfl (srQ ?_)
   refine zdt rfl (zdo (s := 1) rfl Try.underlying48 rfl) ?_
   intro g93
   refine zbb 1 rfl (zag (zbf 1 rfl (zaz ?_)))
   refine zes (rowE 3 1 (.slice none 0 0) (([] : List Int).length) (([] : List Int).map (Value.int .i64)) :: rowE 3 1 (.slice (some ⟨g93, 0, none⟩) 0 0) 0 ([]) :: rowE 3 1 v90 ((ptsK (D.getD ((xhR83).toNat) md0)).length) ((ptsK (D.getD ((xhR83).toNat) md0)).map (Value.int .i64)) :: boxE b89 #[(D.getD ((xhR83).toNat) md0).sv, (D.getD ((xhR83).toNat) md0).av, (D.getD ((xhR83).toNat) md0).iv, (D.getD ((xhR83).toNat) md0).mv] 35 :: boxE b88 #[.int .i64 xhR83, .int .i64 xhR87, .slice none 0 0] 63 :: rowE 3 1 (.slice (some ⟨g84, 0, none⟩) 4 4) 4 ([0, 0, 1, 2].map (Value.int .i64)) :: bigE ps3 :: rowE 38 3 m3.sv m3.ss.length (m3.ss.flatMap sgC) :: rowE 63 3 m3.iv m3.xs.length (m3.xs.flatMap ixC) :: rowE 94 4 m3.mv m3.ms.length (m3.ms.flatMap mmC) :: rowE 3 1 W2.1 W2.2.length (W2.2.map (Value.int .i64)) :: rowE 3 1 U3.1 U3.2.length (U3.2.map (Value.int .i64)) :: boxE b3 #[m3.sv, m3.av, m3.iv, m3.mv] 35 :: boxE b2 #[.slice none 0 0, .slice none 0 0, .slice none 0 0, .slice none 0 0] 35 :: boxE b1 #[v] 26 :: curE g a len cap :: l) (fun w hm => hm.nilRow 3 1) ?_
   refine lkQ4 (α := Nat) (β := Md) (γ := (Value × List Int) × Value × List Int) (δ := List HP) [0, 1, 3, 4, 5, 6, 7, 11, 12, 13, 14, 33, 55, 89, 98] rfl (fun j q Y pq => (rowE 3 1 Y.1.1 Y.1.2.length (Y.1.2.map (Value.int .i64)) :: rowE 3 1 Y.2.1 Y.2.2.length (Y.2.2.map (Value.int .i64)) :: rowE 3 1 v90 ((ptsK (D.getD ((xhR83).toNat) md0)).length) ((ptsK (D.getD ((xhR83).toNat) md0)).map (Value.int .i64)) :: boxE b89 #[(D.getD ((xhR83).toNat) md0).sv, (D.getD ((xhR83).toNat) md0).av, (D.getD ((xhR83).toNat) md0).iv, (D.getD ((xhR83).toNat) md0).mv] 35 :: boxE b88 #[.int .i64 xhR83, .int .i64 xhR87, Y.1.1] 63 :: bigE pq :: rowE 38 3 q.sv q.ss.length (q.ss.flatMap sgC) :: rowE 63 3 q.iv q.xs.length (q.xs.flatMap ixC) :: rowE 94 4 q.mv q.ms.length (q.ms.flatMap mmC) :: rowE 3 1 W2.1 W2.2.length (W2.2.map (Value.int .i64)) :: rowE 3 1 U3.1 U3.2.length (U3.2.map (Value.int .i64)) :: boxE b3 #[q.sv, q.av, q.iv, q.mv] 35 :: boxE b2 #[.slice none 0 0, .slice none 0 0, .slice none 0 0, .slice none 0 0] 35 :: boxE b1 #[v] 26 :: curE g a len cap :: l)) (fun j q Y pq => [(15, Y.2.1), (16, .int .i64 (j : Int))]) (fun j q Y pq => j ≤ (ptsK (D.getD ((xhR83).toNat) md0)).length ∧ MI D q U3.2 (W2.2 ++ Y.2.2) (4 + 4 * t + j) (4 * t + j) t 0 2 (4 + 4 * t) ∧ IjP D q xhR83 m3.ss.length Y.1.2 Y.2.2 j ∧ ∀ w, (bigE pq).holds w → RdP w q) (fun j q Y pq => (ptsK (D.getD ((xhR83).toNat) md0)).length - j) 0 m3 ((_, []), (_, [])) ps3 ⟨Nat.zero_le _, by rw [List.append_nil]; exact h3, IjP.start D m3 _, hp3⟩ (saQ rfl) (.cons_cons _ (.cons_cons _ (.cons_cons _ (.cons_cons _ (.cons_cons _ (.cons _ (.refl _))))))) ?_
   intro j q Y pq hi94
   obtain ⟨hj, hq, hij, hpq⟩ := hi94
   have hnsq := hq.ns
   have hnxq := hq.nx
   have hnaq := hq.na
   have hpt4 : (ptsK (D.getD ((xhR83).toNat) md0)).length ≤ 4 := by have h8 := hdd.md (((xhR83).toNat)) (by omega); rw [ptsK_len h8.len.1]; exact h8.pt
   have hyl := hij.len
   have hyo : Y.2.2.length ≤ j := by have h8 := xoA_le D (Ix.mk xhR83 0 (.slice none 0 0) Y.1.2) j; rw [← hij.oq] at h8; exact h8
   refine zag (zag (reQ 2 rfl (hvQ rfl (lnQ rfl rfl rfl (zaj 2 rfl)) ?_)))
   refine zbq rfl rfl rfl rfl rfl rfl (fun h95 => ?_) (fun h95 => ?_)
   ·
    refine ntQ (zai rfl (zcy (sbQ (zag ?_))))
    have hpt := zdw (m := (D.getD ((xhR83).toNat) md0)) (j := j) (by omega)
    have hkd := zcv hpt
    have hsg9 := (hdd.md (((xhR83).toNat)) (by omega)).b.sg _ (zcg (d := sg0) (show (((ptsK (D.getD ((xhR83).toNat) md0)).getD j 0)).toNat < ((D.getD ((xhR83).toNat) md0)).ss.length by omega))
    obtain ⟨⟨hsa, hsb⟩, ⟨hsc, hsd⟩, -⟩ := hsg9
    refine zbu 9 [[], [0], [], [], [2, 3], [4], [1, 5], [6], [7]] [123, 124, 125, 126, 127, 128, 129, 130, 131] [.pointer (some ⟨b89, 0 + 0, none⟩), (D.getD ((xhR83).toNat) md0).sv, v90, .int .i64 (j : Int), elP v90 (((j : Int)).toNat * 1), .int .i64 ((ptsK (D.getD ((xhR83).toNat) md0)).getD j 0), elP ((D.getD ((xhR83).toNat) md0).sv) (((ptsK (D.getD ((xhR83).toNat) md0)).getD j 0).toNat * 3), elP ((D.getD ((xhR83).toNat) md0).sv) (((ptsK (D.getD ((xhR83).toNat) md0)).getD j 0).toNat * 3 + 1), .int .i64 ((((D.getD ((xhR83).toNat) md0).ss).getD (((ptsK (D.getD ((xhR83).toNat) md0)).getD j 0).toNat) sg0).w)] (by kernel_rfl) rfl ?_ ?_
    ·
     exact ⟨iaQ rfl (fdQ 0 rfl rfl rfl) rfl, iaQ rfl (zad rfl rfl rfl (zaa 3 rfl rfl)) rfl, iaQ rfl (zav rfl) rfl, iaQ rfl (zav rfl) rfl, iaQ rfl (riQ 1 rfl rfl rfl rfl (zaj 2 rfl)) rfl, iaQ rfl (zam (u := .int .i64 ((ptsK (D.getD ((xhR83).toNat) md0)).getD j 0)) rfl rfl rfl (zaj 2 rfl) (zby (show _ < (ptsK (D.getD ((xhR83).toNat) md0)).length by omega))) rfl, iaQ rfl (riQ 3 rfl rfl rfl rfl (fun w hm => ((hD w (hm.sub (.cons _ (.cons _ (.cons _ (.cons _ (.cons _ (.cons _ (.cons _ (.cons _ (.cons _ (.cons _ (.cons _ (.cons _ (.cons _ (.cons _ (.cons _ (.refl _)))))))))))))))))).at (k := ((xhR83).toNat)) (by omega)).s)) rfl, iaQ rfl (zau (k0 := 1) rfl rfl rfl (fun w hm => ((hD w (hm.sub (.cons _ (.cons _ (.cons _ (.cons _ (.cons _ (.cons _ (.cons _ (.cons _ (.cons _ (.cons _ (.cons _ (.cons _ (.cons _ (.cons _ (.cons _ (.refl _)))))))))))))))))).at (k := ((xhR83).toNat)) (by omega)).s) (by omega)) rfl, iaQ rfl (zam (u := .int .i64 ((((D.getD ((xhR83).toNat) md0).ss).getD (((ptsK (D.getD ((xhR83).toNat) md0)).getD j 0).toNat) sg0).w)) rfl rfl rfl (fun w hm => ((hD w (hm.sub (.cons _ (.cons _ (.cons _ (.cons _ (.cons _ (.cons _ (.cons _ (.cons _ (.cons _ (.cons _ (.cons _ (.cons _ (.cons _ (.cons _ (.cons _ (.refl _)))))))))))))))))).at (k := ((xhR83).toNat)) (by omega)).s) ((zbi sgC 3 (fun _ => rfl) ((D.getD ((xhR83).toNat) md0).ss) sg0 (show ((ptsK (D.getD ((xhR83).toNat) md0)).getD j 0).toNat < _ by omega) (by decide)).trans rfl)) rfl, trivial⟩
    simp only [List.drop_succ_cons, List.drop_zero]
    refine zbb 1 rfl ?_
    refine zgg (α := Int) (fun wd => (rowE 3 1 Y.1.1 Y.1.2.length (Y.1.2.map (Value.int .i64)) :: rowE 3 1 Y.2.1 Y.2.2.length (Y.2.2.map (Value.int .i64)) :: rowE 3 1 v90 ((ptsK (D.getD ((xhR83).toNat) md0)).length) ((ptsK (D.getD ((xhR83).toNat) md0)).map (Value.int .i64)) :: boxE b89 #[(D.getD ((xhR83).toNat) md0).sv, (D.getD ((xhR83).toNat) md0).av, (D.getD ((xhR83).toNat) md0).iv, (D.getD ((xhR83).toNat) md0).mv] 35 :: boxE b88 #[.int .i64 xhR83, .int .i64 xhR87, Y.1.1] 63 :: bigE pq :: rowE 38 3 q.sv q.ss.length (q.ss.flatMap sgC) :: rowE 63 3 q.iv q.xs.length (q.xs.flatMap ixC) :: rowE 94 4 q.mv q.ms.length (q.ms.flatMap mmC) :: rowE 3 1 W2.1 W2.2.length (W2.2.map (Value.int .i64)) :: rowE 3 1 U3.1 U3.2.length (U3.2.map (Value.int .i64)) :: boxE b3 #[q.sv, q.av, q.iv, q.mv] 35 :: boxE b2 #[.slice none 0 0, .slice none 0 0, .slice none 0 0, .slice none 0 0] 35 :: boxE b1 #[v] 26 :: curE g a len cap :: l)) (fun wd => [(0, .pointer (some ⟨g, 0, none⟩)), (1, .agg #[v]), (3, .pointer (some ⟨b1, 0, none⟩)), (4, .pointer (some ⟨b2, 0, none⟩)), (5, .pointer (some ⟨b3, 0, none⟩)), (6, U3.1), (7, W2.1), (11, .int .i64 (t : Int)), (12, .pointer (some ⟨b88, 0, none⟩)), (13, .pointer (some ⟨b89, 0, none⟩)), (14, v90), (15, Y.2.1), (16, .int .i64 (j : Int)), (17, .int .i64 wd), (33, .bool false), (55, .bool false), (89, .bool true), (98, .bool false), (120, .bool true)]) (fun wd => 0 ≤ wd ∧ wd ≤ 4) ?_ ?_
    ·
     refine zag (reQ 1 rfl ?_)
     refine zbt rfl rfl rfl rfl rfl rfl (fun h96 => ?_) (fun h96 => ?_)
     ·
      refine ntQ (zai rfl (zao (hvQ rfl (fdQ 1 rfl rfl rfl) (hvQ rfl (zad rfl rfl rfl (zaa 4 rfl rfl)) (enQ 1 rfl ?_)))))
      exact zed xhR87 ⟨by omega, by omega⟩ (saQ rfl) (.refl _)
     refine ntQ (fsQ rfl ?_)
     exact zed ((((D.getD ((xhR83).toNat) md0).ss).getD (((ptsK (D.getD ((xhR83).toNat) md0)).getD j 0).toNat) sg0).w) ⟨by omega, by omega⟩ (saQ rfl) (.refl _)
    intro wd hm97
    have hwd9 : 0 ≤ wd ∧ wd ≤ 4 := hm97
    refine srQ (hvQ rfl (fdQ 0 rfl rfl rfl) (hvQ rfl (zad rfl rfl rfl (zaa 11 rfl rfl)) (hvQ rfl (lnQ rfl rfl rfl (zaj 6 rfl)) (zbb 1 rfl (srQ (hvQ rfl (fdQ 0 rfl rfl rfl) (hvQ rfl (zad rfl rfl rfl (zaa 11 rfl rfl)) (zah 1 rfl ?_))))))))
    refine hvQ rfl (zbh (cs := #[.int .i64 2, .int .i64 wd, .int .i64 0]) rfl rfl rfl) (zdt rfl (zal (z := .agg #[.int .i64 0, .int .i64 0, .int .i64 0]) (s := 3) (cs := ([2, wd, 0].map (Value.int .i64))) rfl Try.underlying30 rfl (by decide) rfl (by kernel_rfl) rfl) ?_)
    intro g98
    refine zcp (i := 7) (z := .agg #[.int .i64 0, .int .i64 0, .int .i64 0]) (bytes := 24) rfl rfl rfl rfl Try.underlying30 (by kernel_rfl) rfl rfl rfl rfl (zaj 0 rfl) (zch _) (by first | omega | (simp only [List.length_append, List.length_cons, List.length_nil]; omega)) (zci q.ss [(Sg.mk 2 wd 0)]) (zdc sgC q.ss (Sg.mk 2 wd 0) _ rfl) (fun _ => rfl) ?_
    intro v99
    refine hvQ rfl (fdQ 0 rfl rfl rfl) (zcq (i := 7) rfl (fun ho100 => ?_))
    refine zei (i := 12) (cs' := #[v99, q.av, q.iv, q.mv]) rfl rfl rfl rfl rfl rfl ho100 rfl rfl rfl rfl (ntQ (srQ (hvQ rfl (fdQ 2 rfl rfl rfl) (hvQ rfl (zad rfl rfl rfl (zaa 5 rfl rfl)) (zah 1 rfl ?_)))))
    refine zdt rfl (zal (z := .int .i64 0) (s := 1) (cs := ([(q.ss.length : Int)].map (Value.int .i64))) rfl Try.underlying48 rfl (by decide) rfl (by kernel_rfl) rfl) ?_
    intro g101
    refine zcp (i := 2) (z := .int .i64 0) (bytes := 8) rfl rfl rfl rfl Try.underlying48 (by kernel_rfl) rfl rfl rfl rfl (zaj 0 rfl) (zch _) (by first | omega | (simp; done) | (simp; omega)) (zci Y.1.2 ([(q.ss.length : Int)])) (zcs Y.1.2 ([(q.ss.length : Int)])) (fun _ => rfl) ?_
    intro v102
    refine hvQ rfl (fdQ 2 rfl rfl rfl) (zcq (i := 2) rfl (fun ho103 => ?_))
    refine zei (i := 6) (cs' := #[.int .i64 xhR83, .int .i64 xhR87, v102]) rfl rfl rfl rfl rfl rfl ho103 rfl rfl rfl rfl (ntQ (zag ?_))
    rcases Bool.eq_false_or_eq_true (((((D.getD ((xhR83).toNat) md0).ss).getD (((ptsK (D.getD ((xhR83).toNat) md0)).getD j 0).toNat) sg0).k) == 1) with hb104 | hb104
    ·
     have hb104p : (((D.getD ((xhR83).toNat) md0).ss).getD (((ptsK (D.getD ((xhR83).toNat) md0)).getD j 0).toNat) sg0).k = 1 := beq_iff_eq.1 hb104
     refine zbu 10 [[], [0], [], [], [2, 3], [4], [1, 5], [6], [7], [8]] [152, 153, 154, 155, 156, 157, 158, 159, 160, 161] [.pointer (some ⟨b89, 0 + 0, none⟩), (D.getD ((xhR83).toNat) md0).sv, v90, .int .i64 (j : Int), elP v90 (((j : Int)).toNat * 1), .int .i64 ((ptsK (D.getD ((xhR83).toNat) md0)).getD j 0), elP ((D.getD ((xhR83).toNat) md0).sv) (((ptsK (D.getD ((xhR83).toNat) md0)).getD j 0).toNat * 3), elP ((D.getD ((xhR83).toNat) md0).sv) (((ptsK (D.getD ((xhR83).toNat) md0)).getD j 0).toNat * 3 + 0), .int .i64 ((((D.getD ((xhR83).toNat) md0).ss).getD (((ptsK (D.getD ((xhR83).toNat) md0)).getD j 0).toNat) sg0).k), .bool true] (by kernel_rfl) rfl ?_ ?_
     ·
      exact ⟨iaQ rfl (fdQ 0 rfl rfl rfl) rfl, iaQ rfl (zad rfl rfl rfl (zaa 5 rfl rfl)) rfl, iaQ rfl (zav rfl) rfl, iaQ rfl (zav rfl) rfl, iaQ rfl (riQ 1 rfl rfl rfl rfl (zaj 4 rfl)) rfl, iaQ rfl (zam (u := .int .i64 ((ptsK (D.getD ((xhR83).toNat) md0)).getD j 0)) rfl rfl rfl (zaj 4 rfl) (zby (show _ < (ptsK (D.getD ((xhR83).toNat) md0)).length by omega))) rfl, iaQ rfl (riQ 3 rfl rfl rfl rfl (fun w hm => ((hD w (hm.sub (.cons _ (.cons _ (.cons _ (.cons _ (.cons _ (.cons _ (.cons _ (.cons _ (.cons _ (.cons _ (.cons _ (.cons _ (.cons _ (.cons _ (.cons _ (.cons _ (.cons _ (.refl _)))))))))))))))))))).at (k := ((xhR83).toNat)) (by omega)).s)) rfl, iaQ rfl (zau (k0 := 0) rfl rfl rfl (fun w hm => ((hD w (hm.sub (.cons _ (.cons _ (.cons _ (.cons _ (.cons _ (.cons _ (.cons _ (.cons _ (.cons _ (.cons _ (.cons _ (.cons _ (.cons _ (.cons _ (.cons _ (.cons _ (.cons _ (.refl _)))))))))))))))))))).at (k := ((xhR83).toNat)) (by omega)).s) (by omega)) rfl, iaQ rfl (zam (u := .int .i64 ((((D.getD ((xhR83).toNat) md0).ss).getD (((ptsK (D.getD ((xhR83).toNat) md0)).getD j 0).toNat) sg0).k)) rfl rfl rfl (fun w hm => ((hD w (hm.sub (.cons _ (.cons _ (.cons _ (.cons _ (.cons _ (.cons _ (.cons _ (.cons _ (.cons _ (.cons _ (.cons _ (.cons _ (.cons _ (.cons _ (.cons _ (.cons _ (.cons _ (.refl _)))))))))))))))))))).at (k := ((xhR83).toNat)) (by omega)).s) ((zbi sgC 3 (fun _ => rfl) ((D.getD ((xhR83).toNat) md0).ss) sg0 (show ((ptsK (D.getD ((xhR83).toNat) md0)).getD j 0).toNat < _ by omega) (by decide)).trans rfl)) rfl, .inl ⟨rfl, zdq (zcj rfl rfl rfl rfl) hb104⟩, trivial⟩
     simp only [List.drop_succ_cons, List.drop_zero]
     refine ntQ (zai rfl (reQ 2 rfl ?_))
     refine zdt rfl (zal (z := .int .i64 0) (s := 1) (cs := ([(q.ss.length : Int)].map (Value.int .i64))) rfl Try.underlying48 rfl (by decide) rfl (by kernel_rfl) rfl) ?_
     intro g105
     refine zcp (i := 4) (z := .int .i64 0) (bytes := 8) rfl rfl rfl rfl Try.underlying48 (by kernel_rfl) rfl rfl rfl rfl (zaj 0 rfl) (zch _) (by first | omega | (simp; done) | (simp; omega)) (zci Y.2.2 ([(q.ss.length : Int)])) (zcs Y.2.2 ([(q.ss.length : Int)])) (fun _ => rfl) ?_
     intro v106
     refine enQ 1 rfl (zde (reQ 1 rfl (hvQ rfl (vaQ rfl rfl rfl) (enQ 1 rfl ?_))))
     exact zdr (j + 1) (Md.mk v99 q.av q.iv q.mv (q.ss ++ [(Sg.mk 2 wd 0)]) q.gs q.xs q.ms) ((v102, Y.1.2 ++ ([(q.ss.length : Int)])), (v106, Y.2.2 ++ ([(q.ss.length : Int)]))) pq ⟨by omega, (hq.wire _ hwd9 mem_app1).up (by omega) (by omega) (by omega) (by omega) (by omega) (by omega), hij.out rfl (by omega), fun w hw => hpq w hw⟩ (by omega) (saQ rfl) (.cons _ (.cons _ (.cons _ (.refl _))))
    have hb104p : (((D.getD ((xhR83).toNat) md0).ss).getD (((ptsK (D.getD ((xhR83).toNat) md0)).getD j 0).toNat) sg0).k ≠ 1 := beq_eq_false_iff_ne.1 hb104
    refine zbu 10 [[], [0], [], [], [2, 3], [4], [1, 5], [6], [7], [8]] [152, 153, 154, 155, 156, 157, 158, 159, 160, 161] [.pointer (some ⟨b89, 0 + 0, none⟩), (D.getD ((xhR83).toNat) md0).sv, v90, .int .i64 (j : Int), elP v90 (((j : Int)).toNat * 1), .int .i64 ((ptsK (D.getD ((xhR83).toNat) md0)).getD j 0), elP ((D.getD ((xhR83).toNat) md0).sv) (((ptsK (D.getD ((xhR83).toNat) md0)).getD j 0).toNat * 3), elP ((D.getD ((xhR83).toNat) md0).sv) (((ptsK (D.getD ((xhR83).toNat) md0)).getD j 0).toNat * 3 + 0), .int .i64 ((((D.getD ((xhR83).toNat) md0).ss).getD (((ptsK (D.getD ((xhR83).toNat) md0)).getD j 0).toNat) sg0).k), .bool false] (by kernel_rfl) rfl ?_ ?_
    ·
     exact ⟨iaQ rfl (fdQ 0 rfl rfl rfl) rfl, iaQ rfl (zad rfl rfl rfl (zaa 5 rfl rfl)) rfl, iaQ rfl (zav rfl) rfl, iaQ rfl (zav rfl) rfl, iaQ rfl (riQ 1 rfl rfl rfl rfl (zaj 4 rfl)) rfl, iaQ rfl (zam (u := .int .i64 ((ptsK (D.getD ((xhR83).toNat) md0)).getD j 0)) rfl rfl rfl (zaj 4 rfl) (zby (show _ < (ptsK (D.getD ((xhR83).toNat) md0)).length by omega))) rfl, iaQ rfl (riQ 3 rfl rfl rfl rfl (fun w hm => ((hD w (hm.sub (.cons _ (.cons _ (.cons _ (.cons _ (.cons _ (.cons _ (.cons _ (.cons _ (.cons _ (.cons _ (.cons _ (.cons _ (.cons _ (.cons _ (.cons _ (.cons _ (.cons _ (.refl _)))))))))))))))))))).at (k := ((xhR83).toNat)) (by omega)).s)) rfl, iaQ rfl (zau (k0 := 0) rfl rfl rfl (fun w hm => ((hD w (hm.sub (.cons _ (.cons _ (.cons _ (.cons _ (.cons _ (.cons _ (.cons _ (.cons _ (.cons _ (.cons _ (.cons _ (.cons _ (.cons _ (.cons _ (.cons _ (.cons _ (.cons _ (.refl _)))))))))))))))))))).at (k := ((xhR83).toNat)) (by omega)).s) (by omega)) rfl, iaQ rfl (zam (u := .int .i64 ((((D.getD ((xhR83).toNat) md0).ss).getD (((ptsK (D.getD ((xhR83).toNat) md0)).getD j 0).toNat) sg0).k)) rfl rfl rfl (fun w hm => ((hD w (hm.sub (.cons _ (.cons _ (.cons _ (.cons _ (.cons _ (.cons _ (.cons _ (.cons _ (.cons _ (.cons _ (.cons _ (.cons _ (.cons _ (.cons _ (.cons _ (.cons _ (.cons _ (.refl _)))))))))))))))))))).at (k := ((xhR83).toNat)) (by omega)).s) ((zbi sgC 3 (fun _ => rfl) ((D.getD ((xhR83).toNat) md0).ss) sg0 (show ((ptsK (D.getD ((xhR83).toNat) md0)).getD j 0).toNat < _ by omega) (by decide)).trans rfl)) rfl, .inl ⟨rfl, zdq (zcj rfl rfl rfl rfl) hb104⟩, trivial⟩
    simp only [List.drop_succ_cons, List.drop_zero]
    refine ntQ (zar rfl (zao ?_))
    refine hl_know (p := (∀ g9 ∈ q.gs, g9.ov.oneCell' = true) ∧ v99.oneCell' = true ∧ q.av.oneCell' = true ∧ q.iv.oneCell' = true ∧ q.mv.oneCell' = true) (fun w hm => ⟨fun g9 hg9 => ((hpq w (hm.holds _ (zcf (i := 7) rfl))).2.1 g9 hg9).one, (zaj 8 rfl w hm).one, (hpq w (hm.holds _ (zcf (i := 7) rfl))).1.one, (zaj 9 rfl w hm).one, (zaj 10 rfl w hm).one⟩) (fun ⟨hone9, ho9⟩ => ?_)
    refine zah 1 rfl (hvQ rfl (zax (cs := [v99, q.av, q.iv, q.mv]) rfl rfl rfl rfl rfl (zat 13 rfl 0 rfl)) (zah 2 rfl ?_))
    refine zeg (R := (fun u_ p_ => ∃ (v' ov : Value) (os : List Oq) (ps : List HP), u_ = .agg #[v99, v', q.iv, q.mv] ∧ p_ = bigE [curE g a len cap, bigE ps] ∧ (∀ w, (bigE ps).holds w → RdsW w v' 2 (q.gs ++ [As.mk (q.ss.length : Int) ov os]).length ((q.gs ++ [As.mk (q.ss.length : Int) ov os]).flatMap asC) ∧ RdsW w ov 3 os.length (os.flatMap oqC)) ∧ v'.oneCell' = true ∧ ov.oneCell' = true ∧ ExP (q.ss.length : Int) 9 os)) 16 rfl rfl rfl rfl rfl (fun L w hX hm => zea g a len cap z (q.ss.length : Int) (Md.mk v99 q.av q.iv q.mv (q.ss ++ [(Sg.mk 2 wd 0)]) q.gs q.xs q.ms) (q.ss.length : Int) U3.1 _ _ _ _ hm hb (fun w9 h9 => (zaj (l := (rowE 3 1 (.slice (some ⟨g101, 0, none⟩) 1 1) 1 ([(q.ss.length : Int)].map (Value.int .i64)) :: rowE 38 3 (.slice (some ⟨g98, 0, none⟩) 1 1) 1 ([2, wd, 0].map (Value.int .i64)) :: rowE 3 1 v102 ((Y.1.2 ++ ([(q.ss.length : Int)])).length) ((Y.1.2 ++ ([(q.ss.length : Int)])).map (Value.int .i64)) :: rowE 3 1 Y.2.1 Y.2.2.length (Y.2.2.map (Value.int .i64)) :: rowE 3 1 v90 ((ptsK (D.getD ((xhR83).toNat) md0)).length) ((ptsK (D.getD ((xhR83).toNat) md0)).map (Value.int .i64)) :: boxE b89 #[(D.getD ((xhR83).toNat) md0).sv, (D.getD ((xhR83).toNat) md0).av, (D.getD ((xhR83).toNat) md0).iv, (D.getD ((xhR83).toNat) md0).mv] 35 :: boxE b88 #[.int .i64 xhR83, .int .i64 xhR87, v102] 63 :: bigE pq :: rowE 38 3 v99 ((q.ss ++ [(Sg.mk 2 wd 0)]).length) ((q.ss ++ [(Sg.mk 2 wd 0)]).flatMap sgC) :: rowE 63 3 q.iv q.xs.length (q.xs.flatMap ixC) :: rowE 94 4 q.mv q.ms.length (q.ms.flatMap mmC) :: rowE 3 1 W2.1 W2.2.length (W2.2.map (Value.int .i64)) :: rowE 3 1 U3.1 U3.2.length (U3.2.map (Value.int .i64)) :: boxE b3 #[v99, q.av, q.iv, q.mv] 35 :: boxE b2 #[.slice none 0 0, .slice none 0 0, .slice none 0 0, .slice none 0 0] 35 :: boxE b1 #[v] 26 :: l)) 12 rfl) w9 (hX w9 h9)) (fun x hx => hq.av x hx) (by have h9 := hq.na; omega) (fun w9 h9 => (hpq w9 ((hX w9 h9).holds _ (zcf (i := 7) rfl))).1) (by have h9 := hq.ng; show q.gs.length ≤ 1000; omega) hone9 ⟨ho9.1, ho9.2.1, ho9.2.2.1, ho9.2.2.2⟩) ?_
    intro v107 p108 hR109
    obtain ⟨avhR109, ovhR109, oshR109, aphR109, rfl, rfl, haphR109, oavhR109, oovhR109, hoshR109⟩ := hR109
    refine zcr (l' := (rowE 3 1 (.slice (some ⟨g101, 0, none⟩) 1 1) 1 ([(q.ss.length : Int)].map (Value.int .i64)) :: rowE 38 3 (.slice (some ⟨g98, 0, none⟩) 1 1) 1 ([2, wd, 0].map (Value.int .i64)) :: rowE 3 1 v102 ((Y.1.2 ++ ([(q.ss.length : Int)])).length) ((Y.1.2 ++ ([(q.ss.length : Int)])).map (Value.int .i64)) :: rowE 3 1 Y.2.1 Y.2.2.length (Y.2.2.map (Value.int .i64)) :: rowE 3 1 v90 ((ptsK (D.getD ((xhR83).toNat) md0)).length) ((ptsK (D.getD ((xhR83).toNat) md0)).map (Value.int .i64)) :: boxE b89 #[(D.getD ((xhR83).toNat) md0).sv, (D.getD ((xhR83).toNat) md0).av, (D.getD ((xhR83).toNat) md0).iv, (D.getD ((xhR83).toNat) md0).mv] 35 :: boxE b88 #[.int .i64 xhR83, .int .i64 xhR87, v102] 63 :: bigE pq :: rowE 38 3 v99 ((q.ss ++ [(Sg.mk 2 wd 0)]).length) ((q.ss ++ [(Sg.mk 2 wd 0)]).flatMap sgC) :: rowE 63 3 q.iv q.xs.length (q.xs.flatMap ixC) :: rowE 94 4 q.mv q.ms.length (q.ms.flatMap mmC) :: rowE 3 1 W2.1 W2.2.length (W2.2.map (Value.int .i64)) :: rowE 3 1 U3.1 U3.2.length (U3.2.map (Value.int .i64)) :: boxE b3 #[v99, q.av, q.iv, q.mv] 35 :: boxE b2 #[.slice none 0 0, .slice none 0 0, .slice none 0 0, .slice none 0 0] 35 :: boxE b1 #[v] 26 :: bigE [curE g a len cap, bigE aphR109] :: l)) rfl ?_
    refine zbd (cs' := #[v99, avhR109, q.iv, q.mv]) (i := 13) (off := 0) (us := [v99, avhR109, q.iv, q.mv]) rfl rfl rfl rfl rfl rfl rfl (zab ho100 (zab oavhR109 (zab ho9.2.2.1 (zab ho9.2.2.2 zbc)))) rfl rfl rfl (zbn (zde (reQ 1 rfl (hvQ rfl (vaQ rfl rfl rfl) (enQ 1 rfl ?_)))))
    refine zbj 17 [15, 14, 13, 12, 11, 10, 9, 8, 7, 6, 5, 4, 3, 2, 1, 0, 16] rfl rfl (by decide) ?_
    refine zdi (curE g a len cap :: bigE aphR109 :: rowE 3 1 (.slice (some ⟨g101, 0, none⟩) 1 1) 1 ([(q.ss.length : Int)].map (Value.int .i64)) :: rowE 38 3 (.slice (some ⟨g98, 0, none⟩) 1 1) 1 ([2, wd, 0].map (Value.int .i64)) :: rowE 3 1 v102 ((Y.1.2 ++ ([(q.ss.length : Int)])).length) ((Y.1.2 ++ ([(q.ss.length : Int)])).map (Value.int .i64)) :: rowE 3 1 Y.2.1 Y.2.2.length (Y.2.2.map (Value.int .i64)) :: rowE 3 1 v90 ((ptsK (D.getD ((xhR83).toNat) md0)).length) ((ptsK (D.getD ((xhR83).toNat) md0)).map (Value.int .i64)) :: boxE b89 #[(D.getD ((xhR83).toNat) md0).sv, (D.getD ((xhR83).toNat) md0).av, (D.getD ((xhR83).toNat) md0).iv, (D.getD ((xhR83).toNat) md0).mv] 35 :: boxE b88 #[.int .i64 xhR83, .int .i64 xhR87, v102] 63 :: bigE pq :: rowE 38 3 v99 ((q.ss ++ [(Sg.mk 2 wd 0)]).length) ((q.ss ++ [(Sg.mk 2 wd 0)]).flatMap sgC) :: rowE 63 3 q.iv q.xs.length (q.xs.flatMap ixC) :: rowE 94 4 q.mv q.ms.length (q.ms.flatMap mmC) :: rowE 3 1 W2.1 W2.2.length (W2.2.map (Value.int .i64)) :: rowE 3 1 U3.1 U3.2.length (U3.2.map (Value.int .i64)) :: boxE b3 #[v99, avhR109, q.iv, q.mv] 35 :: boxE b2 #[.slice none 0 0, .slice none 0 0, .slice none 0 0, .slice none 0 0] 35 :: boxE b1 #[v] 26 :: l) zdf ?_
    refine zbj 18 [17, 16, 15, 14, 13, 12, 11, 10, 8, 7, 6, 5, 4, 3, 2, 0, 1, 9] rfl rfl (by decide) ?_
    refine zcb 2 rfl ?_
    refine zbj 17 [1, 16, 15, 14, 13, 12, 11, 10, 9, 0, 8, 7, 6, 5, 4] rfl rfl (by decide) ?_
    exact zdr (j + 1) (Md.mk v99 avhR109 q.iv q.mv (q.ss ++ [(Sg.mk 2 wd 0)]) (q.gs ++ [As.mk (q.ss.length : Int) ovhR109 oshR109]) q.xs q.ms) ((v102, Y.1.2 ++ ([(q.ss.length : Int)])), (Y.2.1, Y.2.2)) [bigE pq, bigE aphR109] ⟨by omega, ((hq.wire _ hwd9 mem_app2).asg _ (List.mem_append_right _ List.mem_cons_self) _ hoshR109 (by show (q.ss.length : Int) ≤ ((_ : List Sg).length : Int); rw [List.length_append]; omega) (mem_less hq.plt)).up (by omega) (by omega) (by omega) (by omega) (by omega) (by omega), hij.inn rfl (by omega), fun w hw => ⟨(haphR109 w (zba hw (List.mem_cons_of_mem _ List.mem_cons_self))).1, (hpq w (zba hw List.mem_cons_self)).2.1.app (haphR109 w (zba hw (List.mem_cons_of_mem _ List.mem_cons_self))).2, (hpq w (zba hw List.mem_cons_self)).2.2⟩⟩ (by omega) (saQ rfl) (.refl _)
   refine ntQ (zar rfl ?_)
   refine zbl (zdx ?_)
   refine zan (zaq (srQ (hvQ rfl (fdQ 2 rfl rfl rfl) (hvQ rfl (zad rfl rfl rfl (zaa 11 rfl rfl)) (hvQ rfl (zax (cs := [.int .i64 xhR83, .int .i64 xhR87, Y.1.1]) rfl rfl rfl rfl rfl (zat 4 rfl 0 rfl)) ?_)))))
   refine zdt rfl (zal (z := .agg #[.int .i64 0, .int .i64 0, .slice none 0 0]) (s := 3) (cs := [.int .i64 xhR83, .int .i64 xhR87, Y.1.1]) rfl Try.underlying32 rfl (by decide) rfl (by kernel_rfl) rfl) ?_
   intro g110
   refine zcq (i := 1) rfl (fun ho111 => ?_)
   refine zcp (i := 8) (z := .agg #[.int .i64 0, .int .i64 0, .slice none 0 0]) (bytes := 40) rfl rfl rfl rfl Try.underlying32 (by kernel_rfl) rfl rfl rfl rfl (zaj 0 rfl) (zab rfl (zab rfl (zab ho111 zbc))) (by first | omega | (simp only [List.length_append, List.length_cons, List.length_nil]; omega)) (zci q.xs [(Ix.mk xhR83 xhR87 Y.1.1 Y.1.2)]) (zdc ixC q.xs (Ix.mk xhR83 xhR87 Y.1.1 Y.1.2) _ rfl) (fun _ => rfl) ?_
   intro v112
   refine hvQ rfl (fdQ 2 rfl rfl rfl) (zcq (i := 8) rfl (fun ho113 => ?_))
   refine zei (i := 12) (cs' := #[q.sv, q.av, v112, q.mv]) rfl rfl rfl rfl rfl rfl ho113 rfl rfl rfl rfl (ntQ (reQ 2 rfl ?_))
   refine zcp (i := 11) (z := .int .i64 0) (bytes := 8) rfl rfl rfl rfl Try.underlying48 (by kernel_rfl) rfl rfl rfl rfl (zaj 2 rfl) (zch _) (by first | omega | (simp; done) | (simp; omega)) (zci U3.2 Y.2.2) (zcs U3.2 Y.2.2) (fun _ => rfl) ?_
   intro v114
   refine enQ 1 rfl (zde (reQ 1 rfl (hvQ rfl (vaQ rfl rfl rfl) (enQ 1 rfl ?_))))
   rw [show j = (ptsK (D.getD ((xhR83).toNat) md0)).length by omega] at hij
   refine zbj 16 [15, 14, 13, 12, 11, 10, 9, 8, 7, 5, 4, 3, 2, 0, 1, 6] rfl rfl (by decide) ?_
   refine zcb 2 rfl ?_
   exact zdr (t + 1) (Md.mk q.sv q.av v112 q.mv q.ss q.gs (q.xs ++ [(Ix.mk xhR83 xhR87 Y.1.1 Y.1.2)]) q.ms) (v114, U3.2 ++ Y.2.2) [bigE pq, rowE 3 1 Y.1.1 Y.1.2.length (Y.1.2.map (Value.int .i64))] ⟨by omega, (MI.done hq _ _ hij ⟨by omega, by omega⟩ (by omega) h3.plt (e := 4) (by omega)).up (by omega) (by omega) (by omega) (by omega) (by omega) (by omega), fun w hw => ⟨(hpq w (zba hw List.mem_cons_self)).1, (hpq w (zba hw List.mem_cons_self)).2.1, (hpq w (zba hw List.mem_cons_self)).2.2.app (zco (zba hw (List.mem_cons_of_mem _ List.mem_cons_self)))⟩⟩ (by omega) (saQ rfl) (.cons_cons _ (.cons _ (.cons _ (.cons _ (.cons _ (.cons _ (.refl _)))))))
  refine zbb 1 rfl (zar rfl ?_)
  refine zbl (zdx ?_)
  refine zan (zaq ?_)
  refine hc_meet3 (α := Md) (β := Value × List Int) (γ := List HP) (fun m5 U5 ps5 => (bigE ps5 :: rowE 38 3 m5.sv m5.ss.length (m5.ss.flatMap sgC) :: rowE 63 3 m5.iv m5.xs.length (m5.xs.flatMap ixC) :: rowE 94 4 m5.mv m5.ms.length (m5.ms.flatMap mmC) :: rowE 3 1 W2.1 W2.2.length (W2.2.map (Value.int .i64)) :: rowE 3 1 U5.1 U5.2.length (U5.2.map (Value.int .i64)) :: boxE b3 #[m5.sv, m5.av, m5.iv, m5.mv] 35 :: boxE b2 #[.slice none 0 0, .slice none 0 0, .slice none 0 0, .slice none 0 0] 35 :: boxE b1 #[v] 26 :: curE g a len cap :: l)) (fun m5 U5 ps5 => [(0, .pointer (some ⟨g, 0, none⟩)), (1, .agg #[v]), (3, .pointer (some ⟨b1, 0, none⟩)), (4, .pointer (some ⟨b2, 0, none⟩)), (5, .pointer (some ⟨b3, 0, none⟩)), (6, U5.1), (7, W2.1), (11, .int .i64 (t : Int)), (33, .bool false), (55, .bool false), (89, .bool false)]) (fun m5 U5 ps5 => MI D m5 U5.2 W2.2 16 11 2 1 2 13 ∧ ∀ w, (bigE ps5).holds w → RdP w m5) ?_ ?_
  ·
   refine zag (reQ 1 rfl ?_)
   refine zcl (R := (fun u_ p_ => (∃ b : Bool, u_ = .bool b) ∧ p_ = curE g a len cap)) 9 rfl rfl rfl rfl rfl (fun l' w hm => once_mut hm hb (4) (by omega) (by omega)) ?_
   intro v115 p116 hR117
   obtain ⟨⟨xhR117, rfl⟩, rfl⟩ := hR117
   refine zcr (l' := (bigE ps3 :: rowE 38 3 m3.sv m3.ss.length (m3.ss.flatMap sgC) :: rowE 63 3 m3.iv m3.xs.length (m3.xs.flatMap ixC) :: rowE 94 4 m3.mv m3.ms.length (m3.ms.flatMap mmC) :: rowE 3 1 W2.1 W2.2.length (W2.2.map (Value.int .i64)) :: rowE 3 1 U3.1 U3.2.length (U3.2.map (Value.int .i64)) :: boxE b3 #[m3.sv, m3.av, m3.iv, m3.mv] 35 :: boxE b2 #[.slice none 0 0, .slice none 0 0, .slice none 0 0, .slice none 0 0] 35 :: boxE b1 #[v] 26 :: curE g a len cap :: l)) rfl ?_
   refine zbs (fun h118 => ?_) (fun h118 => ?_)
   ·
    refine ntQ (zai rfl (srQ (hvQ rfl (fdQ 0 rfl rfl rfl) (hvQ rfl (zad rfl rfl rfl (zaa 6 rfl rfl)) (hvQ rfl (lnQ rfl rfl rfl (zaj 1 rfl)) (zbb 1 rfl (zag ?_)))))))
    refine reQ 1 rfl ?_
    refine zcl (R := (fun u_ p_ => (∃ x_ : Int, u_ = .int .i64 x_ ∧ 0 ≤ x_ ∧ x_ < 2) ∧ p_ = curE g a len cap)) 9 rfl rfl rfl rfl rfl (fun l' w hm => zcc g a len cap z 2 _ _ _ hm hb (by constructor <;> omega)) ?_
    intro v119 p120 hR121
    obtain ⟨⟨xhR121, rfl, xhR1210, xhR1211⟩, rfl⟩ := hR121
    refine zcr (l' := (bigE ps3 :: rowE 38 3 m3.sv m3.ss.length (m3.ss.flatMap sgC) :: rowE 63 3 m3.iv m3.xs.length (m3.xs.flatMap ixC) :: rowE 94 4 m3.mv m3.ms.length (m3.ms.flatMap mmC) :: rowE 3 1 W2.1 W2.2.length (W2.2.map (Value.int .i64)) :: rowE 3 1 U3.1 U3.2.length (U3.2.map (Value.int .i64)) :: boxE b3 #[m3.sv, m3.av, m3.iv, m3.mv] 35 :: boxE b2 #[.slice none 0 0, .slice none 0 0, .slice none 0 0, .slice none 0 0] 35 :: boxE b1 #[v] 26 :: curE g a len cap :: l)) rfl ?_
    refine hvQ rfl (vaQ rfl rfl rfl) (zbb 1 rfl (srQ (hvQ rfl (fdQ 0 rfl rfl rfl) (hvQ rfl (zad rfl rfl rfl (zaa 6 rfl rfl)) (hvQ rfl (zbh (cs := #[.int .i64 2, .int .i64 2, .int .i64 0]) rfl rfl rfl) (zah 1 rfl (hvQ rfl (zbh (cs := #[.int .i64 2, .int .i64 (1 + xhR121), .int .i64 0]) rfl rfl rfl) (hvQ rfl (zbh (cs := #[.int .i64 2, .int .i64 1, .int .i64 0]) rfl rfl rfl) (zah 1 rfl ?_)))))))))
    refine hvQ rfl (zbh (cs := #[.int .i64 2, .int .i64 (1 + xhR121), .int .i64 0]) rfl rfl rfl) (zdt rfl (zal (z := .agg #[.int .i64 0, .int .i64 0, .int .i64 0]) (s := 3) (cs := ([2, 2, 0, 2, 1 + xhR121, 0, 2, 1, 0, 2, 1 + xhR121, 0].map (Value.int .i64))) rfl Try.underlying30 rfl (by decide) rfl (by kernel_rfl) rfl) ?_)
    intro g122
    refine zcp (i := 2) (z := .agg #[.int .i64 0, .int .i64 0, .int .i64 0]) (bytes := 24) (n' := (m3.ss ++ [Sg.mk 2 2 0, Sg.mk 2 (1 + xhR121) 0, Sg.mk 2 1 0, Sg.mk 2 (1 + xhR121) 0]).length) (xs' := ((m3.ss ++ [Sg.mk 2 2 0, Sg.mk 2 (1 + xhR121) 0, Sg.mk 2 1 0, Sg.mk 2 (1 + xhR121) 0]).flatMap sgC)) rfl rfl rfl rfl Try.underlying30 (by kernel_rfl) rfl rfl rfl rfl (zaj 0 rfl) (by simp [Value.oneCell']) (by omega) (zci m3.ss ([Sg.mk 2 2 0, Sg.mk 2 (1 + xhR121) 0, Sg.mk 2 1 0, Sg.mk 2 (1 + xhR121) 0] : List Sg)) (flat_app sgC m3.ss [Sg.mk 2 2 0, Sg.mk 2 (1 + xhR121) 0, Sg.mk 2 1 0, Sg.mk 2 (1 + xhR121) 0]) (fun _ => rfl) ?_
    intro v123
    refine hvQ rfl (fdQ 0 rfl rfl rfl) (zcq (i := 2) rfl (fun ho124 => ?_))
    refine zei (i := 7) (cs' := #[v123, m3.av, m3.iv, m3.mv]) rfl rfl rfl rfl rfl rfl ho124 rfl rfl rfl rfl (zbn (zaq (zag (zao (hvQ rfl (fdQ 3 rfl rfl rfl) (hvQ rfl (zad rfl rfl rfl (zaa 7 rfl rfl)) (zah 2 rfl (hvQ rfl (vaQ rfl rfl rfl) (zah 1 rfl (hvQ rfl (vaQ rfl rfl rfl) (zah 1 rfl (hvQ rfl (vaQ rfl rfl rfl) (hvQ rfl (zbh (cs := #[.int .i64 (m3.ss.length : Int), .int .i64 ((m3.ss.length : Int) + 1), .int .i64 ((m3.ss.length : Int) + 2), .int .i64 ((m3.ss.length : Int) + 3)]) rfl rfl rfl) ?_)))))))))))))
    refine zdt rfl (zal (z := .agg #[.int .i64 0, .int .i64 0, .int .i64 0, .int .i64 0]) (s := 4) (cs := ([(m3.ss.length : Int), (m3.ss.length : Int) + 1, (m3.ss.length : Int) + 2, (m3.ss.length : Int) + 3].map (Value.int .i64))) rfl Try.underlying33 rfl (by decide) rfl (by kernel_rfl) rfl) ?_
    intro g125
    refine zcp (i := 5) (z := .agg #[.int .i64 0, .int .i64 0, .int .i64 0, .int .i64 0]) (bytes := 32) rfl rfl rfl rfl Try.underlying33 (by kernel_rfl) rfl rfl rfl rfl (zaj 0 rfl) (zch _) (by first | omega | (simp only [List.length_append, List.length_cons, List.length_nil]; omega)) (zci m3.ms [(Mm.mk (m3.ss.length : Int) ((m3.ss.length : Int) + 1) ((m3.ss.length : Int) + 2) ((m3.ss.length : Int) + 3))]) (zdc mmC m3.ms (Mm.mk (m3.ss.length : Int) ((m3.ss.length : Int) + 1) ((m3.ss.length : Int) + 2) ((m3.ss.length : Int) + 3)) _ rfl) (fun _ => rfl) ?_
    intro v126
    refine hvQ rfl (fdQ 3 rfl rfl rfl) (zcq (i := 5) rfl (fun ho127 => ?_))
    refine zei (i := 8) (cs' := #[v123, m3.av, m3.iv, v126]) rfl rfl rfl rfl rfl rfl ho127 rfl rfl rfl rfl (ntQ (zag (reQ 2 rfl (hvQ rfl (vaQ rfl rfl rfl) ?_))))
    refine zdt rfl (zal (z := .int .i64 0) (s := 1) (cs := ([(m3.ss.length : Int) + 3].map (Value.int .i64))) rfl Try.underlying48 rfl (by decide) rfl (by kernel_rfl) rfl) ?_
    intro g128
    refine zcp (i := 8) (z := .int .i64 0) (bytes := 8) rfl rfl rfl rfl Try.underlying48 (by kernel_rfl) rfl rfl rfl rfl (zaj 0 rfl) (zch _) (by first | omega | (simp; done) | (simp; omega)) (zci U3.2 ([(m3.ss.length : Int) + 3])) (zcs U3.2 ([(m3.ss.length : Int) + 3])) (fun _ => rfl) ?_
    intro v129
    refine zbb 1 rfl (zbf 1 rfl (zaz ?_))
    refine lkQ3 (α := Nat) (β := Md) (γ := List HP) [0, 1, 3, 4, 5, 6, 7, 11, 19, 20, 33, 55, 89, 181] rfl (fun j4 m4 ps4 => (bigE ps4 :: rowE 38 3 m4.sv m4.ss.length (m4.ss.flatMap sgC) :: rowE 63 3 m4.iv m4.xs.length (m4.xs.flatMap ixC) :: rowE 94 4 m4.mv m4.ms.length (m4.ms.flatMap mmC) :: rowE 3 1 W2.1 W2.2.length (W2.2.map (Value.int .i64)) :: rowE 3 1 v129 ((U3.2 ++ ([(m3.ss.length : Int) + 3])).length) ((U3.2 ++ ([(m3.ss.length : Int) + 3])).map (Value.int .i64)) :: boxE b3 #[m4.sv, m4.av, m4.iv, m4.mv] 35 :: boxE b2 #[.slice none 0 0, .slice none 0 0, .slice none 0 0, .slice none 0 0] 35 :: boxE b1 #[v] 26 :: curE g a len cap :: l)) (fun j4 m4 ps4 => [(21, .int .i64 (j4 : Int))]) (fun j4 m4 ps4 => j4 ≤ 3 ∧ MI D m4 (U3.2 ++ ([(m3.ss.length : Int) + 3])) (W2.2 ++ ([(m3.ss.length : Int), (m3.ss.length : Int) + 1, (m3.ss.length : Int) + 2] : List Int).drop j4) 16 (8 + j4) 2 1 2 13 ∧ ∀ w, (bigE ps4).holds w → RdP w m4) (fun j4 m4 ps4 => 3 - j4) 0 (Md.mk v123 m3.av m3.iv v126 (m3.ss ++ [Sg.mk 2 2 0, Sg.mk 2 (1 + xhR121) 0, Sg.mk 2 1 0, Sg.mk 2 (1 + xhR121) 0]) m3.gs m3.xs (m3.ms ++ [(Mm.mk (m3.ss.length : Int) ((m3.ss.length : Int) + 1) ((m3.ss.length : Int) + 2) ((m3.ss.length : Int) + 3))])) ps3 ⟨by omega, (h3.mm4 _ _ ⟨by omega, by omega⟩).up (by omega) (by omega) (by omega) (by omega) (by omega) (by omega), fun w hw => hp3 w hw⟩ (saQ rfl) (.cons _ (.cons _ (.cons _ (.refl _)))) ?_
    intro j4 m4 ps4 hi130
    obtain ⟨hj4, h4, hp4⟩ := hi130
    refine zag (zag (reQ 1 rfl ?_))
    refine zbq rfl rfl rfl rfl rfl rfl (fun h131 => ?_) (fun h131 => ?_)
    ·
     refine ntQ (zai rfl (zcy (sbQ (zao ?_))))
     have hpd9 := pend3 h3.plt (show j4 < 3 by omega)
     refine hl_know (p := (∀ g9 ∈ m4.gs, g9.ov.oneCell' = true) ∧ m4.sv.oneCell' = true ∧ m4.av.oneCell' = true ∧ m4.iv.oneCell' = true ∧ m4.mv.oneCell' = true) (fun w hm => ⟨fun g9 hg9 => ((hp4 w (hm.holds _ (zcf (i := 0) rfl))).2.1 g9 hg9).one, (zaj 1 rfl w hm).one, (hp4 w (hm.holds _ (zcf (i := 0) rfl))).1.one, (zaj 2 rfl w hm).one, (zaj 3 rfl w hm).one⟩) (fun ⟨hone9, ho9⟩ => ?_)
     refine zah 1 rfl (hvQ rfl (zax (cs := [m4.sv, m4.av, m4.iv, m4.mv]) rfl rfl rfl rfl rfl (zat 6 rfl 0 rfl)) (zah 2 rfl (hvQ rfl (vaQ rfl rfl rfl) (zah 1 rfl ?_))))
     refine zeg (R := (fun u_ p_ => ∃ (v' ov : Value) (os : List Oq) (ps : List HP), u_ = .agg #[m4.sv, v', m4.iv, m4.mv] ∧ p_ = bigE [curE g a len cap, bigE ps] ∧ (∀ w, (bigE ps).holds w → RdsW w v' 2 (m4.gs ++ [As.mk ((m3.ss.length : Int) + (j4 : Int)) ov os]).length ((m4.gs ++ [As.mk ((m3.ss.length : Int) + (j4 : Int)) ov os]).flatMap asC) ∧ RdsW w ov 3 os.length (os.flatMap oqC)) ∧ v'.oneCell' = true ∧ ov.oneCell' = true ∧ ExP (m4.ss.length : Int) 9 os)) 9 rfl rfl rfl rfl rfl (fun L w hX hm => zea g a len cap z (m4.ss.length : Int) (Md.mk m4.sv m4.av m4.iv m4.mv m4.ss m4.gs m4.xs m4.ms) ((m3.ss.length : Int) + (j4 : Int)) v129 _ _ _ _ hm hb (fun w9 h9 => (zaj (l := (bigE ps4 :: rowE 38 3 m4.sv m4.ss.length (m4.ss.flatMap sgC) :: rowE 63 3 m4.iv m4.xs.length (m4.xs.flatMap ixC) :: rowE 94 4 m4.mv m4.ms.length (m4.ms.flatMap mmC) :: rowE 3 1 W2.1 W2.2.length (W2.2.map (Value.int .i64)) :: rowE 3 1 v129 ((U3.2 ++ ([(m3.ss.length : Int) + 3])).length) ((U3.2 ++ ([(m3.ss.length : Int) + 3])).map (Value.int .i64)) :: boxE b3 #[m4.sv, m4.av, m4.iv, m4.mv] 35 :: boxE b2 #[.slice none 0 0, .slice none 0 0, .slice none 0 0, .slice none 0 0] 35 :: boxE b1 #[v] 26 :: l)) 5 rfl) w9 (hX w9 h9)) (fun x hx => h4.av x hx) (by have h9 := h4.na; omega) (fun w9 h9 => (hp4 w9 ((hX w9 h9).holds _ (zcf (i := 0) rfl))).1) (by have h9 := h4.ng; show m4.gs.length ≤ 1000; omega) hone9 ⟨ho9.1, ho9.2.1, ho9.2.2.1, ho9.2.2.2⟩) ?_
     intro v132 p133 hR134
     obtain ⟨avhR134, ovhR134, oshR134, aphR134, rfl, rfl, haphR134, oavhR134, oovhR134, hoshR134⟩ := hR134
     refine zcr (l' := (bigE ps4 :: rowE 38 3 m4.sv m4.ss.length (m4.ss.flatMap sgC) :: rowE 63 3 m4.iv m4.xs.length (m4.xs.flatMap ixC) :: rowE 94 4 m4.mv m4.ms.length (m4.ms.flatMap mmC) :: rowE 3 1 W2.1 W2.2.length (W2.2.map (Value.int .i64)) :: rowE 3 1 v129 ((U3.2 ++ ([(m3.ss.length : Int) + 3])).length) ((U3.2 ++ ([(m3.ss.length : Int) + 3])).map (Value.int .i64)) :: boxE b3 #[m4.sv, m4.av, m4.iv, m4.mv] 35 :: boxE b2 #[.slice none 0 0, .slice none 0 0, .slice none 0 0, .slice none 0 0] 35 :: boxE b1 #[v] 26 :: bigE [curE g a len cap, bigE aphR134] :: l)) rfl ?_
     refine zbd (cs' := #[m4.sv, avhR134, m4.iv, m4.mv]) (i := 6) (off := 0) (us := [m4.sv, avhR134, m4.iv, m4.mv]) rfl rfl rfl rfl rfl rfl rfl (zab ho9.1 (zab oavhR134 (zab ho9.2.2.1 (zab ho9.2.2.2 zbc)))) rfl rfl rfl (zbn (zde (reQ 1 rfl (hvQ rfl (vaQ rfl rfl rfl) (enQ 1 rfl ?_)))))
     refine zbj 10 [8, 7, 6, 5, 4, 3, 2, 1, 0, 9] rfl rfl (by decide) ?_
     refine zdi (curE g a len cap :: bigE aphR134 :: bigE ps4 :: rowE 38 3 m4.sv m4.ss.length (m4.ss.flatMap sgC) :: rowE 63 3 m4.iv m4.xs.length (m4.xs.flatMap ixC) :: rowE 94 4 m4.mv m4.ms.length (m4.ms.flatMap mmC) :: rowE 3 1 W2.1 W2.2.length (W2.2.map (Value.int .i64)) :: rowE 3 1 v129 ((U3.2 ++ ([(m3.ss.length : Int) + 3])).length) ((U3.2 ++ ([(m3.ss.length : Int) + 3])).map (Value.int .i64)) :: boxE b3 #[m4.sv, avhR134, m4.iv, m4.mv] 35 :: boxE b2 #[.slice none 0 0, .slice none 0 0, .slice none 0 0, .slice none 0 0] 35 :: boxE b1 #[v] 26 :: l) zdf ?_
     refine zbj 11 [10, 9, 8, 7, 6, 5, 4, 3, 0, 1, 2] rfl rfl (by decide) ?_
     refine zcb 2 rfl ?_
     refine zbj 10 [1, 9, 8, 7, 6, 5, 4, 3, 2, 0] rfl rfl (by decide) ?_
     exact zcn (j4 + 1) (Md.mk m4.sv avhR134 m4.iv m4.mv m4.ss (m4.gs ++ [As.mk ((m3.ss.length : Int) + (j4 : Int)) ovhR134 oshR134]) m4.xs m4.ms) [bigE ps4, bigE aphR134] ⟨by omega, (h4.asg _ hpd9.1 _ hoshR134 (by show (m4.ss.length : Int) ≤ (m4.ss.length : Int); omega) hpd9.2).up (by omega) (by omega) (by omega) (by omega) (by omega) (by omega), fun w hw => ⟨(haphR134 w (zba hw (List.mem_cons_of_mem _ List.mem_cons_self))).1, (hp4 w (zba hw List.mem_cons_self)).2.1.app (haphR134 w (zba hw (List.mem_cons_of_mem _ List.mem_cons_self))).2, (hp4 w (zba hw List.mem_cons_self)).2.2⟩⟩ (by omega) (saQ rfl) (.refl _)
    refine ntQ (zar rfl ?_)
    refine zbl (zdx ?_)
    exact zan (hq_meet3 m4 (v129, U3.2 ++ ([(m3.ss.length : Int) + 3])) ps4 ⟨by have h9 := h4; rw [show j4 = 3 by omega] at h9; exact (by simpa using h9.up (show 16 ≤ 16 by omega) (show 8 + 3 ≤ 11 by omega) (show 2 ≤ 2 by omega) (show 1 ≤ 1 by omega) (show 2 ≤ 2 by omega) (show 13 ≤ 13 by omega)), hp4⟩ (saQ rfl) (.refl _))
   refine ntQ (fsQ rfl ?_)
   exact hq_meet3 m3 (U3.1, U3.2) ps3 ⟨h3.up (by omega) (by omega) (by omega) (by omega) (by omega) (by omega), hp3⟩ (saQ rfl) (.refl _)
  intro m5 U5 ps5 hm135
  obtain ⟨h5, hp5⟩ := hm135
  have hns5 := h5.ns
  have hna5 := h5.na
  refine zag (reQ 1 rfl ?_)
  refine zcl (R := (fun u_ p_ => (∃ x_ : Int, u_ = .int .i64 x_ ∧ 0 ≤ x_ ∧ x_ < 2) ∧ p_ = curE g a len cap)) 9 rfl rfl rfl rfl rfl (fun l' w hm => zcc g a len cap z 2 _ _ _ hm hb (by constructor <;> omega)) ?_
  intro v136 p137 hR138
  obtain ⟨⟨xhR138, rfl, xhR1380, xhR1381⟩, rfl⟩ := hR138
  refine zcr (l' := (bigE ps5 :: rowE 38 3 m5.sv m5.ss.length (m5.ss.flatMap sgC) :: rowE 63 3 m5.iv m5.xs.length (m5.xs.flatMap ixC) :: rowE 94 4 m5.mv m5.ms.length (m5.ms.flatMap mmC) :: rowE 3 1 W2.1 W2.2.length (W2.2.map (Value.int .i64)) :: rowE 3 1 U5.1 U5.2.length (U5.2.map (Value.int .i64)) :: boxE b3 #[m5.sv, m5.av, m5.iv, m5.mv] 35 :: boxE b2 #[.slice none 0 0, .slice none 0 0, .slice none 0 0, .slice none 0 0] 35 :: boxE b1 #[v] 26 :: curE g a len cap :: l)) rfl ?_
  refine hvQ rfl (vaQ rfl rfl rfl) (zbb 1 rfl (zag (zbf 1 rfl (zaz ?_))))
  refine lkQ4 (α := Nat) (β := Md) (γ := Value × List Int) (δ := List HP) [0, 1, 3, 4, 5, 7, 8, 33, 55, 89] rfl (fun k6 m6 U6 ps6 => (bigE ps6 :: rowE 38 3 m6.sv m6.ss.length (m6.ss.flatMap sgC) :: rowE 63 3 m6.iv m6.xs.length (m6.xs.flatMap ixC) :: rowE 94 4 m6.mv m6.ms.length (m6.ms.flatMap mmC) :: rowE 3 1 W2.1 W2.2.length (W2.2.map (Value.int .i64)) :: rowE 3 1 U6.1 U6.2.length (U6.2.map (Value.int .i64)) :: boxE b3 #[m6.sv, m6.av, m6.iv, m6.mv] 35 :: boxE b2 #[.slice none 0 0, .slice none 0 0, .slice none 0 0, .slice none 0 0] 35 :: boxE b1 #[v] 26 :: curE g a len cap :: l)) (fun k6 m6 U6 ps6 => [(6, U6.1), (22, .int .i64 (k6 : Int))]) (fun k6 m6 U6 ps6 => (k6 : Int) ≤ 1 + xhR138 ∧ MI D m6 U6.2 W2.2 (16 + k6) (11 + k6) 2 1 (2 + k6) (13 + k6) ∧ ∀ w, (bigE ps6).holds w → RdP w m6) (fun k6 m6 U6 ps6 => (1 + xhR138).toNat - k6) 0 m5 U5 ps5 ⟨by omega, h5.up (by omega) (by omega) (by omega) (by omega) (by omega) (by omega), hp5⟩ (saQ rfl) (.refl _) ?_
  intro k6 m6 U6 ps6 hi139
  obtain ⟨hk6, h6, hp6⟩ := hi139
  have hns6 := h6.ns
  have hna6 := h6.na
  refine zag (zag (reQ 2 rfl ?_))
  refine zbq rfl rfl rfl rfl rfl rfl (fun h140 => ?_) (fun h140 => ?_)
  ·
   refine ntQ (zai rfl (zcy (sbQ (srQ (hvQ rfl (fdQ 0 rfl rfl rfl) (hvQ rfl (zad rfl rfl rfl (zaa 6 rfl rfl)) (hvQ rfl (lnQ rfl rfl rfl (zaj 1 rfl)) (zah 1 rfl ?_))))))))
   refine ntQ (zag ?_)
   refine zfu 10 [8, 7, 6, 5, 4, 3, 2, 1, 0, 9] rfl rfl (by decide) ?_
   refine zeu (l := (bigE ps6 :: rowE 38 3 m6.sv m6.ss.length (m6.ss.flatMap sgC) :: rowE 63 3 m6.iv m6.xs.length (m6.xs.flatMap ixC) :: rowE 94 4 m6.mv m6.ms.length (m6.ms.flatMap mmC) :: rowE 3 1 W2.1 W2.2.length (W2.2.map (Value.int .i64)) :: rowE 3 1 U6.1 U6.2.length (U6.2.map (Value.int .i64)) :: boxE b3 #[m6.sv, m6.av, m6.iv, m6.mv] 35 :: boxE b2 #[.slice none 0 0, .slice none 0 0, .slice none 0 0, .slice none 0 0] 35 :: boxE b1 #[v] 26 :: l)) rfl 10 [0, 1, 2, 3, 4, 5, 6, 7, 8, 9] (List.take 10 _) (List.drop 10 _) [[], [0], [], [], [2, 3], [], [], [4, 5, 6], [4, 7], [4, 7, 8]] [239, 240, 241, 242, 243, 244, 245, 246, 247, 248] (fun i_ vs_ v_ p_ => match i_ with | 0 => v_ = .pointer (some ⟨b3, 0 + 0, none⟩) ∧ p_ = [] | 1 => v_ = m6.sv ∧ p_ = [] | 2 => v_ = .pointer (some ⟨g, 0, none⟩) ∧ p_ = [] | 3 => IsRow 3 1 2 ([1, 2].map (Value.int .i64)) v_ p_ | 4 => (∃ pm_, p_ = [pm_] ∧ (fun u_ p_ => (∃ x : Int, u_ = .int .i64 x ∧ x ∈ ([1, 2] : List Int)) ∧ p_ = curE g a len cap) v_ pm_) | 5 => v_ = .pointer (some ⟨g, 0, none⟩) ∧ p_ = [] | 6 => IsRow 3 1 3 ([1, 2, 0].map (Value.int .i64)) v_ p_ | 7 => (∃ pm_, p_ = [pm_] ∧ (fun u_ p_ => (∃ x : Int, u_ = .int .i64 x ∧ x ∈ ([1, 2, 0] : List Int)) ∧ p_ = curE g a len cap) v_ pm_) | 8 => v_ = .agg #[.int .i64 (intOf_o (List.getD vs_ 0 undef)), .int .i64 (intOf_o (List.getD vs_ 1 undef)), .int .i64 0] ∧ p_ = [] | 9 => IsRow 38 3 1 ([(intOf_o (List.getD vs_ 0 undef)), (intOf_o (List.getD vs_ 1 undef)), 0].map (Value.int .i64)) v_ p_ | _ => True) [[], [0], [], [], [2, 3], [], [], [5, 6], [7], [7, 8]] [none, none, none, none, some 13, none, none, some 4, none, none] [curE g a len cap] [0, 1, 2, 3, 5, 6, 7, 8, 9] 13 (List.take_append_drop 10 _).symm (by kernel_rfl) (by kernel_rfl) (by kernel_rfl) rfl rfl ?_ ?_
   ·
    refine ⟨?_, ?_, ?_, ?_, ?_, ?_, ?_, ?_, ?_, ?_, trivial⟩
    ·
     intro vf pf hmu hR
     refine dqQ [] [] rfl (zce (zas [5] rfl) ?_)
     exact zbx (fdQ 0 rfl rfl rfl)
    ·
     intro vf pf hmu hR
     have e0 := hR 0 (by decide)
     refine dqQ [0] [0] rfl (zbo (sk 239 (congrArg some e0.1) (zak _)) (List.sublist_append_right _ _) ?_)
     exact zbx (zad rfl rfl rfl (zaa 6 rfl rfl))
    ·
     intro vf pf hmu hR
     refine dqQ [] [] rfl (zce (zas [0] rfl) ?_)
     exact zbx (zav rfl)
    ·
     intro vf pf hmu hR
     refine dqQ [] [] rfl (zbo (zak _) (List.sublist_append_right _ _) ?_)
     exact zal (z := .int .i64 0) (s := 1) (cs := ([1, 2].map (Value.int .i64))) rfl Try.underlying48 rfl (by decide) rfl (by kernel_rfl) rfl
    ·
     intro vf pf hmu hR
     have e2 := hR 2 (by decide)
     have e3 : IsRow 3 1 2 ([1, 2].map (Value.int .i64)) (vf 3) (pf 3) := hR 3 (by decide)
     obtain ⟨g141, vE3, pE3⟩ := e3
     refine Or.inl ⟨rfl, ?_⟩
     show RunM _ _ _ (pf 13) (([2, 3] : List Nat).flatMap pf ++ _) (envOf _ vf [2, 3] ++ _) _ _
     rw [hmu]
     exact zdn (sk 241 (congrArg some e2.1) (sk 242 (congrArg some vE3) (zak _))) (by simp only [pE3, vE3, e2.2, fS] <;> rfl) (zds (R := (fun u_ p_ => (∃ x : Int, u_ = .int .i64 x ∧ x ∈ ([1, 2] : List Int)) ∧ p_ = curE g a len cap)) rfl rfl (fun L w hX hm => zdz g a len cap z (.slice (some ⟨g141, 0, none⟩) 2 2) [1, 2] _ _ _ hm hb (fun w hm => (zaj (l := (rowE 3 1 (.slice (some ⟨g141, 0, none⟩) 2 2) 2 ([1, 2].map (Value.int .i64)) :: bigE ps6 :: rowE 38 3 m6.sv m6.ss.length (m6.ss.flatMap sgC) :: rowE 63 3 m6.iv m6.xs.length (m6.xs.flatMap ixC) :: rowE 94 4 m6.mv m6.ms.length (m6.ms.flatMap mmC) :: rowE 3 1 W2.1 W2.2.length (W2.2.map (Value.int .i64)) :: rowE 3 1 U6.1 U6.2.length (U6.2.map (Value.int .i64)) :: boxE b3 #[m6.sv, m6.av, m6.iv, m6.mv] 35 :: boxE b2 #[.slice none 0 0, .slice none 0 0, .slice none 0 0, .slice none 0 0] 35 :: boxE b1 #[v] 26 :: l)) 0 rfl) w (hX w hm)) (by decide)))
    ·
     intro vf pf hmu hR
     refine dqQ [] [] rfl (zce (zas [0] rfl) ?_)
     exact zbx (zav rfl)
    ·
     intro vf pf hmu hR
     refine dqQ [] [] rfl (zbo (zak _) (List.sublist_append_right _ _) ?_)
     exact zal (z := .int .i64 0) (s := 1) (cs := ([1, 2, 0].map (Value.int .i64))) rfl Try.underlying48 rfl (by decide) rfl (by kernel_rfl) rfl
    ·
     intro vf pf hmu hR
     have e4 : (∃ pm_, (pf 4) = [pm_] ∧ (fun u_ p_ => (∃ x : Int, u_ = .int .i64 x ∧ x ∈ ([1, 2] : List Int)) ∧ p_ = curE g a len cap) (vf 4) pm_) := hR 4 (by decide)
     obtain ⟨p143, pE4, hR144⟩ := e4
     obtain ⟨v142, vE4⟩ : ∃ x, vf 4 = x := ⟨_, rfl⟩
     rw [vE4] at hR144
     obtain ⟨⟨xhR144, rfl, xhR144m⟩, rfl⟩ := hR144
     have e5 := hR 5 (by decide)
     have e6 : IsRow 3 1 3 ([1, 2, 0].map (Value.int .i64)) (vf 6) (pf 6) := hR 6 (by decide)
     obtain ⟨g145, vE6, pE6⟩ := e6
     refine Or.inl ⟨rfl, ?_⟩
     show RunM _ _ _ (pf 4) (([5, 6] : List Nat).flatMap pf ++ _) (envOf _ vf [4, 5, 6] ++ _) _ _
     rw [pE4]
     exact zdn (sk 244 (congrArg some e5.1) (sk 245 (congrArg some vE6) (zak _))) (by simp only [pE6, vE6, e5.2, fS] <;> rfl) (zds (R := (fun u_ p_ => (∃ x : Int, u_ = .int .i64 x ∧ x ∈ ([1, 2, 0] : List Int)) ∧ p_ = curE g a len cap)) rfl rfl (fun L w hX hm => zdz g a len cap z (.slice (some ⟨g145, 0, none⟩) 3 3) [1, 2, 0] _ _ _ hm hb (fun w hm => (zaj (l := (rowE 3 1 (.slice (some ⟨g145, 0, none⟩) 3 3) 3 ([1, 2, 0].map (Value.int .i64)) :: bigE ps6 :: rowE 38 3 m6.sv m6.ss.length (m6.ss.flatMap sgC) :: rowE 63 3 m6.iv m6.xs.length (m6.xs.flatMap ixC) :: rowE 94 4 m6.mv m6.ms.length (m6.ms.flatMap mmC) :: rowE 3 1 W2.1 W2.2.length (W2.2.map (Value.int .i64)) :: rowE 3 1 U6.1 U6.2.length (U6.2.map (Value.int .i64)) :: boxE b3 #[m6.sv, m6.av, m6.iv, m6.mv] 35 :: boxE b2 #[.slice none 0 0, .slice none 0 0, .slice none 0 0, .slice none 0 0] 35 :: boxE b1 #[v] 26 :: l)) 0 rfl) w (hX w hm)) (by decide)))
    ·
     intro vf pf hmu hR
     have e4 : (∃ pm_, (pf 4) = [pm_] ∧ (fun u_ p_ => (∃ x : Int, u_ = .int .i64 x ∧ x ∈ ([1, 2] : List Int)) ∧ p_ = curE g a len cap) (vf 4) pm_) := hR 4 (by decide)
     obtain ⟨p143, pE4, hR144⟩ := e4
     obtain ⟨v142, vE4⟩ : ∃ x, vf 4 = x := ⟨_, rfl⟩
     rw [vE4] at hR144
     obtain ⟨⟨xhR144, rfl, xhR144m⟩, rfl⟩ := hR144
     have e7 : (∃ pm_, (pf 7) = [pm_] ∧ (fun u_ p_ => (∃ x : Int, u_ = .int .i64 x ∧ x ∈ ([1, 2, 0] : List Int)) ∧ p_ = curE g a len cap) (vf 7) pm_) := hR 7 (by decide)
     obtain ⟨p147, pE7, hR148⟩ := e7
     obtain ⟨v146, vE7⟩ : ∃ x, vf 7 = x := ⟨_, rfl⟩
     rw [vE7] at hR148
     obtain ⟨⟨xhR148, rfl, xhR148m⟩, rfl⟩ := hR148
     have xhR148w := lit4 xhR148m (by decide)
     refine dqQ [7] [4, 7] rfl (zck (sk 243 (congrArg some vE4) (sk 246 (congrArg some vE7) (zak _))) (by simp only [pE7, vE7, fS] <;> rfl) ?_)
     exact zct (zbx (zbh (cs := #[.int .i64 xhR144, .int .i64 xhR148, .int .i64 0]) rfl rfl rfl)) (fun _ _ h => ⟨h.1.trans (by show _ = (.agg #[.int .i64 (intOf_o (vf 4)), .int .i64 (intOf_o (vf 7)), .int .i64 0] : Value); first | (rw [vE4, vE7]; done) | (rw [vE4, vE7]; rfl)), h.2⟩)
    intro vf pf hmu hR
    have e4 : (∃ pm_, (pf 4) = [pm_] ∧ (fun u_ p_ => (∃ x : Int, u_ = .int .i64 x ∧ x ∈ ([1, 2] : List Int)) ∧ p_ = curE g a len cap) (vf 4) pm_) := hR 4 (by decide)
    obtain ⟨p143, pE4, hR144⟩ := e4
    obtain ⟨v142, vE4⟩ : ∃ x, vf 4 = x := ⟨_, rfl⟩
    rw [vE4] at hR144
    obtain ⟨⟨xhR144, rfl, xhR144m⟩, rfl⟩ := hR144
    have e7 : (∃ pm_, (pf 7) = [pm_] ∧ (fun u_ p_ => (∃ x : Int, u_ = .int .i64 x ∧ x ∈ ([1, 2, 0] : List Int)) ∧ p_ = curE g a len cap) (vf 7) pm_) := hR 7 (by decide)
    obtain ⟨p147, pE7, hR148⟩ := e7
    obtain ⟨v146, vE7⟩ : ∃ x, vf 7 = x := ⟨_, rfl⟩
    rw [vE7] at hR148
    obtain ⟨⟨xhR148, rfl, xhR148m⟩, rfl⟩ := hR148
    have xhR148w := lit4 xhR148m (by decide)
    have e8 : (vf 8) = .agg #[.int .i64 (intOf_o (vf 4)), .int .i64 (intOf_o (vf 7)), .int .i64 0] ∧ (pf 8) = [] := hR 8 (by decide)
    rw [vE4, vE7] at e8
    refine dqQ [7, 8] [4, 7, 8] rfl (zck (sk 247 (congrArg some e8.1) (zak _)) (by simp only [pE7, vE7, e8.2, fS] <;> rfl) ?_)
    exact zct (zal (z := .agg #[.int .i64 0, .int .i64 0, .int .i64 0]) (s := 3) (cs := ([xhR144, xhR148, 0].map (Value.int .i64))) rfl Try.underlying30 rfl (by decide) rfl (by kernel_rfl) rfl) (fun v_ p_ h => by show IsRow 38 3 1 ([(intOf_o (vf 4)), (intOf_o (vf 7)), 0].map (Value.int .i64)) v_ p_; rw [vE4, vE7]; exact h)
   intro vf pf hmu hR
   have e1 := hR 1 (by decide)
   have e3 : IsRow 3 1 2 ([1, 2].map (Value.int .i64)) (vf 3) (pf 3) := hR 3 (by decide)
   obtain ⟨g141, vE3, pE3⟩ := e3
   have e4 : (∃ pm_, (pf 4) = [pm_] ∧ (fun u_ p_ => (∃ x : Int, u_ = .int .i64 x ∧ x ∈ ([1, 2] : List Int)) ∧ p_ = curE g a len cap) (vf 4) pm_) := hR 4 (by decide)
   obtain ⟨p143, pE4, hR144⟩ := e4
   obtain ⟨v142, vE4⟩ : ∃ x, vf 4 = x := ⟨_, rfl⟩
   rw [vE4] at hR144
   obtain ⟨⟨xhR144, rfl, xhR144m⟩, rfl⟩ := hR144
   have e6 : IsRow 3 1 3 ([1, 2, 0].map (Value.int .i64)) (vf 6) (pf 6) := hR 6 (by decide)
   obtain ⟨g145, vE6, pE6⟩ := e6
   have e7 : (∃ pm_, (pf 7) = [pm_] ∧ (fun u_ p_ => (∃ x : Int, u_ = .int .i64 x ∧ x ∈ ([1, 2, 0] : List Int)) ∧ p_ = curE g a len cap) (vf 7) pm_) := hR 7 (by decide)
   obtain ⟨p147, pE7, hR148⟩ := e7
   obtain ⟨v146, vE7⟩ : ∃ x, vf 7 = x := ⟨_, rfl⟩
   rw [vE7] at hR148
   obtain ⟨⟨xhR148, rfl, xhR148m⟩, rfl⟩ := hR148
   have xhR148w := lit4 xhR148m (by decide)
   have e9 : IsRow 38 3 1 ([(intOf_o (vf 4)), (intOf_o (vf 7)), 0].map (Value.int .i64)) (vf 9) (pf 9) := hR 9 (by decide)
   rw [vE4, vE7] at e9
   obtain ⟨g149, vE9, pE9⟩ := e9
   have q0 := hR 0 (by decide)
   have q1 := hR 1 (by decide)
   have q2 := hR 2 (by decide)
   have q5 := hR 5 (by decide)
   have q8 := hR 8 (by decide)
   refine zdg (zcu [233, 89, 55, 33, 23, 22, 8, 7, 6, 5, 4, 3, 1, 0] _ (sk 240 (congrArg some e1.1) (sk 248 (congrArg some vE9) (zak _))) rfl) (by simp only [pE3, vE3, pE6, vE6, pE7, vE7, pE9, vE9, q0.2, q1.2, q2.2, q5.2, q8.2, fS] <;> rfl) ?_
   simp only [List.drop_succ_cons, List.drop_zero]
   refine zcp (i := 5) (z := .agg #[.int .i64 0, .int .i64 0, .int .i64 0]) (bytes := 24) rfl rfl rfl rfl Try.underlying30 (by kernel_rfl) rfl rfl rfl rfl (zaj 3 rfl) (zch _) (by first | omega | (simp only [List.length_append, List.length_cons, List.length_nil]; omega)) (zci m6.ss [(Sg.mk xhR144 xhR148 0)]) (zdc sgC m6.ss (Sg.mk xhR144 xhR148 0) _ rfl) (fun _ => rfl) ?_
   intro v150
   refine hvQ rfl (fdQ 0 rfl rfl rfl) (zcq (i := 5) rfl (fun ho151 => ?_))
   refine zei (i := 10) (cs' := #[v150, m6.av, m6.iv, m6.mv]) rfl rfl rfl rfl rfl rfl ho151 rfl rfl rfl rfl (ntQ ?_)
   refine zgg (α := Int) (fun kx => (rowE 3 1 (.slice (some ⟨g141, 0, none⟩) 2 2) 2 ([1, 2].map (Value.int .i64)) :: rowE 3 1 (.slice (some ⟨g145, 0, none⟩) 3 3) 3 ([1, 2, 0].map (Value.int .i64)) :: curE g a len cap :: rowE 38 3 (.slice (some ⟨g149, 0, none⟩) 1 1) 1 ([xhR144, xhR148, 0].map (Value.int .i64)) :: bigE ps6 :: rowE 38 3 v150 ((m6.ss ++ [Sg.mk kx xhR148 0]).length) ((m6.ss ++ [Sg.mk kx xhR148 0]).flatMap sgC) :: rowE 63 3 m6.iv m6.xs.length (m6.xs.flatMap ixC) :: rowE 94 4 m6.mv m6.ms.length (m6.ms.flatMap mmC) :: rowE 3 1 W2.1 W2.2.length (W2.2.map (Value.int .i64)) :: rowE 3 1 U6.1 U6.2.length (U6.2.map (Value.int .i64)) :: boxE b3 #[v150, m6.av, m6.iv, m6.mv] 35 :: boxE b2 #[.slice none 0 0, .slice none 0 0, .slice none 0 0, .slice none 0 0] 35 :: boxE b1 #[v] 26 :: l)) (fun kx => [(0, .pointer (some ⟨g, 0, none⟩)), (1, .agg #[v]), (3, .pointer (some ⟨b1, 0, none⟩)), (4, .pointer (some ⟨b2, 0, none⟩)), (5, .pointer (some ⟨b3, 0, none⟩)), (6, U6.1), (7, W2.1), (8, .int .i64 (1 + xhR138)), (22, .int .i64 (k6 : Int)), (23, .int .i64 (m6.ss.length : Int)), (33, .bool false), (55, .bool false), (89, .bool false), (233, .bool true)]) (fun kx => kx = 1 ∨ kx = 2) ?_ ?_
   ·
    refine zag (reQ 1 rfl ?_)
    refine zbt rfl rfl rfl rfl rfl rfl (fun h152 => ?_) (fun h152 => ?_)
    ·
     refine ntQ (zai rfl (zao ?_))
     have hln9 : (m6.ss ++ [(Sg.mk xhR144 xhR148 0)]).length = m6.ss.length + 1 := by rw [List.length_append]; rfl
     refine hvQ rfl (fdQ 0 rfl rfl rfl) (hvQ rfl (zad rfl rfl rfl (zaa 10 rfl rfl)) (zah 1 rfl (hvQ rfl (riQ 3 rfl rfl rfl rfl (zaj 5 rfl)) (hvQ rfl (zau (k0 := 0) rfl rfl rfl (zaj 5 rfl) (by omega)) ?_))))
     refine hl_stE (i := 5) (n' := ((m6.ss ++ [(Sg.mk xhR144 xhR148 0)]).set (((m6.ss.length : Int)).toNat) { (m6.ss ++ [(Sg.mk xhR144 xhR148 0)]).getD (((m6.ss.length : Int)).toNat) sg0 with k := 1 }).length) (xs' := (((m6.ss ++ [(Sg.mk xhR144 xhR148 0)]).set (((m6.ss.length : Int)).toNat) { (m6.ss ++ [(Sg.mk xhR144 xhR148 0)]).getD (((m6.ss.length : Int)).toNat) sg0 with k := 1 }).flatMap sgC)) rfl rfl rfl rfl rfl rfl rfl rfl (by first | omega | (simp only [List.length_set]; omega)) List.length_set.symm (flat_set sgC 3 (fun _ => rfl) _ sg0 _ (by first | omega | (simp only [List.length_set]; omega)) (by decide) rfl) rfl (zbn ?_)
     refine zdi (rowE 3 1 (.slice (some ⟨g141, 0, none⟩) 2 2) 2 ([1, 2].map (Value.int .i64)) :: rowE 3 1 (.slice (some ⟨g145, 0, none⟩) 3 3) 3 ([1, 2, 0].map (Value.int .i64)) :: curE g a len cap :: rowE 38 3 (.slice (some ⟨g149, 0, none⟩) 1 1) 1 ([xhR144, xhR148, 0].map (Value.int .i64)) :: bigE ps6 :: rowE 38 3 v150 ((m6.ss ++ [Sg.mk 1 xhR148 0]).length) ((m6.ss ++ [Sg.mk 1 xhR148 0]).flatMap sgC) :: rowE 63 3 m6.iv m6.xs.length (m6.xs.flatMap ixC) :: rowE 94 4 m6.mv m6.ms.length (m6.ms.flatMap mmC) :: rowE 3 1 W2.1 W2.2.length (W2.2.map (Value.int .i64)) :: rowE 3 1 U6.1 U6.2.length (U6.2.map (Value.int .i64)) :: boxE b3 #[v150, m6.av, m6.iv, m6.mv] 35 :: boxE b2 #[.slice none 0 0, .slice none 0 0, .slice none 0 0, .slice none 0 0] 35 :: boxE b1 #[v] 26 :: l) (fun w hm => by rw [show m6.ss ++ [Sg.mk 1 xhR148 0] = (m6.ss ++ [(Sg.mk xhR144 xhR148 0)]).set (((m6.ss.length : Int)).toNat) { (m6.ss ++ [(Sg.mk xhR144 xhR148 0)]).getD (((m6.ss.length : Int)).toNat) sg0 with k := 1 } from (setK_last (by omega)).symm]; exact hm) ?_
     exact zed 1 (.inl rfl) (saQ rfl) (.refl _)
    refine ntQ (fsQ rfl ?_)
    exact zed xhR144 (lit12 xhR144m) (saQ rfl) (.refl _)
   intro kx hm153
   have hkx9 := hm153
   refine srQ ?_
   refine hl_know (p := (∀ g9 ∈ m6.gs, g9.ov.oneCell' = true) ∧ v150.oneCell' = true ∧ m6.av.oneCell' = true ∧ m6.iv.oneCell' = true ∧ m6.mv.oneCell' = true) (fun w hm => ⟨fun g9 hg9 => ((hp6 w (hm.holds _ (zcf (i := 4) rfl))).2.1 g9 hg9).one, (zaj 5 rfl w hm).one, (hp6 w (hm.holds _ (zcf (i := 4) rfl))).1.one, (zaj 6 rfl w hm).one, (zaj 7 rfl w hm).one⟩) (fun ⟨hone9, ho9⟩ => ?_)
   refine zah 1 rfl (hvQ rfl (zax (cs := [v150, m6.av, m6.iv, m6.mv]) rfl rfl rfl rfl rfl (zat 10 rfl 0 rfl)) (zah 2 rfl ?_))
   refine zeg (R := (fun u_ p_ => ∃ (v' ov : Value) (os : List Oq) (ps : List HP), u_ = .agg #[v150, v', m6.iv, m6.mv] ∧ p_ = bigE [curE g a len cap, bigE ps] ∧ (∀ w, (bigE ps).holds w → RdsW w v' 2 (m6.gs ++ [As.mk (m6.ss.length : Int) ov os]).length ((m6.gs ++ [As.mk (m6.ss.length : Int) ov os]).flatMap asC) ∧ RdsW w ov 3 os.length (os.flatMap oqC)) ∧ v'.oneCell' = true ∧ ov.oneCell' = true ∧ ExP (m6.ss.length : Int) 9 os)) 2 rfl rfl rfl rfl rfl (fun L w hX hm => zea g a len cap z (m6.ss.length : Int) (Md.mk v150 m6.av m6.iv m6.mv (m6.ss ++ [Sg.mk kx xhR148 0]) m6.gs m6.xs m6.ms) (m6.ss.length : Int) U6.1 _ _ _ _ hm hb (fun w9 h9 => (zaj (l := (rowE 3 1 (.slice (some ⟨g141, 0, none⟩) 2 2) 2 ([1, 2].map (Value.int .i64)) :: rowE 3 1 (.slice (some ⟨g145, 0, none⟩) 3 3) 3 ([1, 2, 0].map (Value.int .i64)) :: rowE 38 3 (.slice (some ⟨g149, 0, none⟩) 1 1) 1 ([xhR144, xhR148, 0].map (Value.int .i64)) :: bigE ps6 :: rowE 38 3 v150 ((m6.ss ++ [Sg.mk kx xhR148 0]).length) ((m6.ss ++ [Sg.mk kx xhR148 0]).flatMap sgC) :: rowE 63 3 m6.iv m6.xs.length (m6.xs.flatMap ixC) :: rowE 94 4 m6.mv m6.ms.length (m6.ms.flatMap mmC) :: rowE 3 1 W2.1 W2.2.length (W2.2.map (Value.int .i64)) :: rowE 3 1 U6.1 U6.2.length (U6.2.map (Value.int .i64)) :: boxE b3 #[v150, m6.av, m6.iv, m6.mv] 35 :: boxE b2 #[.slice none 0 0, .slice none 0 0, .slice none 0 0, .slice none 0 0] 35 :: boxE b1 #[v] 26 :: l)) 8 rfl) w9 (hX w9 h9)) (fun x hx => h6.av x hx) (by have h9 := h6.na; omega) (fun w9 h9 => (hp6 w9 ((hX w9 h9).holds _ (zcf (i := 3) rfl))).1) (by have h9 := h6.ng; show m6.gs.length ≤ 1000; omega) hone9 ⟨ho9.1, ho9.2.1, ho9.2.2.1, ho9.2.2.2⟩) ?_
   intro v154 p155 hR156
   obtain ⟨avhR156, ovhR156, oshR156, aphR156, rfl, rfl, haphR156, oavhR156, oovhR156, hoshR156⟩ := hR156
   refine zcr (l' := (rowE 3 1 (.slice (some ⟨g141, 0, none⟩) 2 2) 2 ([1, 2].map (Value.int .i64)) :: rowE 3 1 (.slice (some ⟨g145, 0, none⟩) 3 3) 3 ([1, 2, 0].map (Value.int .i64)) :: bigE [curE g a len cap, bigE aphR156] :: rowE 38 3 (.slice (some ⟨g149, 0, none⟩) 1 1) 1 ([xhR144, xhR148, 0].map (Value.int .i64)) :: bigE ps6 :: rowE 38 3 v150 ((m6.ss ++ [Sg.mk kx xhR148 0]).length) ((m6.ss ++ [Sg.mk kx xhR148 0]).flatMap sgC) :: rowE 63 3 m6.iv m6.xs.length (m6.xs.flatMap ixC) :: rowE 94 4 m6.mv m6.ms.length (m6.ms.flatMap mmC) :: rowE 3 1 W2.1 W2.2.length (W2.2.map (Value.int .i64)) :: rowE 3 1 U6.1 U6.2.length (U6.2.map (Value.int .i64)) :: boxE b3 #[v150, m6.av, m6.iv, m6.mv] 35 :: boxE b2 #[.slice none 0 0, .slice none 0 0, .slice none 0 0, .slice none 0 0] 35 :: boxE b1 #[v] 26 :: l)) rfl ?_
   refine zbd (cs' := #[v150, avhR156, m6.iv, m6.mv]) (i := 10) (off := 0) (us := [v150, avhR156, m6.iv, m6.mv]) rfl rfl rfl rfl rfl rfl rfl (zab ho151 (zab oavhR156 (zab ho9.2.2.1 (zab ho9.2.2.2 zbc)))) rfl rfl rfl (ntQ (reQ 2 rfl ?_))
   refine zdt rfl (zal (z := .int .i64 0) (s := 1) (cs := ([(m6.ss.length : Int)].map (Value.int .i64))) rfl Try.underlying48 rfl (by decide) rfl (by kernel_rfl) rfl) ?_
   intro g157
   refine zcp (i := 10) (z := .int .i64 0) (bytes := 8) rfl rfl rfl rfl Try.underlying48 (by kernel_rfl) rfl rfl rfl rfl (zaj 0 rfl) (zch _) (by first | omega | (simp; done) | (simp; omega)) (zci U6.2 ([(m6.ss.length : Int)])) (zcs U6.2 ([(m6.ss.length : Int)])) (fun _ => rfl) ?_
   intro v158
   refine enQ 1 rfl (zde (reQ 1 rfl (hvQ rfl (vaQ rfl rfl rfl) (enQ 1 rfl ?_))))
   refine zbj 14 [13, 12, 11, 10, 9, 8, 7, 6, 5, 4, 2, 1, 0, 3] rfl rfl (by decide) ?_
   refine zdi (curE g a len cap :: bigE aphR156 :: rowE 3 1 (.slice (some ⟨g157, 0, none⟩) 1 1) 1 ([(m6.ss.length : Int)].map (Value.int .i64)) :: rowE 3 1 (.slice (some ⟨g141, 0, none⟩) 2 2) 2 ([1, 2].map (Value.int .i64)) :: rowE 3 1 (.slice (some ⟨g145, 0, none⟩) 3 3) 3 ([1, 2, 0].map (Value.int .i64)) :: rowE 38 3 (.slice (some ⟨g149, 0, none⟩) 1 1) 1 ([xhR144, xhR148, 0].map (Value.int .i64)) :: bigE ps6 :: rowE 38 3 v150 ((m6.ss ++ [Sg.mk kx xhR148 0]).length) ((m6.ss ++ [Sg.mk kx xhR148 0]).flatMap sgC) :: rowE 63 3 m6.iv m6.xs.length (m6.xs.flatMap ixC) :: rowE 94 4 m6.mv m6.ms.length (m6.ms.flatMap mmC) :: rowE 3 1 W2.1 W2.2.length (W2.2.map (Value.int .i64)) :: rowE 3 1 v158 ((U6.2 ++ ([(m6.ss.length : Int)])).length) ((U6.2 ++ ([(m6.ss.length : Int)])).map (Value.int .i64)) :: boxE b3 #[v150, avhR156, m6.iv, m6.mv] 35 :: boxE b2 #[.slice none 0 0, .slice none 0 0, .slice none 0 0, .slice none 0 0] 35 :: boxE b1 #[v] 26 :: l) zdf ?_
   refine zbj 15 [14, 13, 12, 11, 10, 9, 8, 7, 5, 4, 3, 2, 0, 1, 6] rfl rfl (by decide) ?_
   refine zcb 2 rfl ?_
   refine zbj 14 [1, 13, 12, 11, 10, 9, 8, 7, 6, 0] rfl rfl (by decide) ?_
   exact zdr (k6 + 1) (Md.mk v150 avhR156 m6.iv m6.mv (m6.ss ++ [Sg.mk kx xhR148 0]) (m6.gs ++ [As.mk (m6.ss.length : Int) ovhR156 oshR156]) m6.xs m6.ms) (v158, U6.2 ++ ([(m6.ss.length : Int)])) [bigE ps6, bigE aphR156] ⟨by omega, (((h6.out _ hkx9 (by assumption) mem_app2).asg _ (List.mem_append_right _ List.mem_cons_self) _ hoshR156 (by show (m6.ss.length : Int) ≤ ((_ : List Sg).length : Int); rw [List.length_append]; omega) (mem_less h6.plt)).avl (last_in (m := m6) .nilFunc _) (e := 1) (by simp)).up (by omega) (by omega) (by omega) (by omega) (by omega) (by omega), fun w hw => ⟨(haphR156 w (zba hw (List.mem_cons_of_mem _ List.mem_cons_self))).1, (hp6 w (zba hw List.mem_cons_self)).2.1.app (haphR156 w (zba hw (List.mem_cons_of_mem _ List.mem_cons_self))).2, (hp6 w (zba hw List.mem_cons_self)).2.2⟩⟩ (by omega) (saQ rfl) (.refl _)
  refine ntQ (zar rfl ?_)
  refine zbl (zdx ?_)
  refine zan (zaq (zag (zbf 1 rfl (zaz ?_))))
  refine lkQ3 (α := Nat) (β := Md) (γ := List HP) [0, 1, 3, 4, 5, 6, 7, 33, 55, 89, 233] rfl (fun k7 m7 ps7 => (bigE ps7 :: rowE 38 3 m7.sv m7.ss.length (m7.ss.flatMap sgC) :: rowE 63 3 m7.iv m7.xs.length (m7.xs.flatMap ixC) :: rowE 94 4 m7.mv m7.ms.length (m7.ms.flatMap mmC) :: rowE 3 1 W2.1 W2.2.length (W2.2.map (Value.int .i64)) :: rowE 3 1 U6.1 U6.2.length (U6.2.map (Value.int .i64)) :: boxE b3 #[m7.sv, m7.av, m7.iv, m7.mv] 35 :: boxE b2 #[.slice none 0 0, .slice none 0 0, .slice none 0 0, .slice none 0 0] 35 :: boxE b1 #[v] 26 :: curE g a len cap :: l)) (fun k7 m7 ps7 => [(24, .int .i64 (k7 : Int))]) (fun k7 m7 ps7 => k7 ≤ W2.2.length ∧ MI D m7 U6.2 (W2.2.drop k7) 18 (13 + k7) 2 1 4 15 ∧ ∀ w, (bigE ps7).holds w → RdP w m7) (fun k7 m7 ps7 => W2.2.length - k7) 0 m6 ps6 ⟨Nat.zero_le _, h6.up (by omega) (by omega) (by omega) (by omega) (by omega) (by omega), hp6⟩ (saQ rfl) (.refl _) ?_
  intro k7 m7 ps7 hi159
  obtain ⟨hk7, h7, hp7⟩ := hi159
  refine zag (zag (reQ 2 rfl (hvQ rfl (lnQ rfl rfl rfl (zaj 4 rfl)) ?_)))
  refine zbq rfl rfl rfl rfl rfl rfl (fun h160 => ?_) (fun h160 => ?_)
  ·
   refine ntQ (zai rfl (zcy (sbQ ?_)))
   refine hc_know (p := (∀ g9 ∈ m7.gs, g9.ov.oneCell' = true) ∧ m7.sv.oneCell' = true ∧ m7.av.oneCell' = true ∧ m7.iv.oneCell' = true ∧ m7.mv.oneCell' = true) (fun w hm => ⟨fun g9 hg9 => ((hp7 w (hm.holds _ (zcf (i := 0) rfl))).2.1 g9 hg9).one, (zaj 1 rfl w hm).one, (hp7 w (hm.holds _ (zcf (i := 0) rfl))).1.one, (zaj 2 rfl w hm).one, (zaj 3 rfl w hm).one⟩) (fun ⟨hone9, ho9⟩ => ?_)
   refine zfu 10 [8, 7, 6, 5, 4, 3, 2, 1, 0, 9] rfl rfl (by decide) ?_
   refine zeu (l := (bigE ps7 :: rowE 38 3 m7.sv m7.ss.length (m7.ss.flatMap sgC) :: rowE 63 3 m7.iv m7.xs.length (m7.xs.flatMap ixC) :: rowE 94 4 m7.mv m7.ms.length (m7.ms.flatMap mmC) :: rowE 3 1 W2.1 W2.2.length (W2.2.map (Value.int .i64)) :: rowE 3 1 U6.1 U6.2.length (U6.2.map (Value.int .i64)) :: boxE b3 #[m7.sv, m7.av, m7.iv, m7.mv] 35 :: boxE b2 #[.slice none 0 0, .slice none 0 0, .slice none 0 0, .slice none 0 0] 35 :: boxE b1 #[v] 26 :: l)) rfl 8 [0, 1, 2, 3, 4, 5, 6, 7] (List.take 8 _) (List.drop 8 _) [[], [], [], [], [2, 3], [4], [], [0, 1, 5, 6]] [273, 274, 275, 276, 277, 278, 279, 280] (fun i_ vs_ v_ p_ => match i_ with | 0 => v_ = .pointer (some ⟨g, 0, none⟩) ∧ p_ = [] | 1 => v_ = .agg #[m7.sv, m7.av, m7.iv, m7.mv] ∧ p_ = [] | 2 => v_ = W2.1 ∧ p_ = [] | 3 => v_ = .int .i64 (k7 : Int) ∧ p_ = [] | 4 => v_ = elP W2.1 (((k7 : Int)).toNat * 1) ∧ p_ = [] | 5 => v_ = .int .i64 (W2.2.getD k7 0) ∧ p_ = [] | 6 => v_ = U6.1 ∧ p_ = [] | 7 => (∃ pm_, p_ = [pm_] ∧ (fun u_ p_ => ∃ (v' ov : Value) (os : List Oq) (ps : List HP), u_ = .agg #[m7.sv, v', m7.iv, m7.mv] ∧ p_ = bigE [curE g a len cap, bigE ps] ∧ (∀ w, (bigE ps).holds w → RdsW w v' 2 (m7.gs ++ [As.mk (W2.2.getD k7 0) ov os]).length ((m7.gs ++ [As.mk (W2.2.getD k7 0) ov os]).flatMap asC) ∧ RdsW w ov 3 os.length (os.flatMap oqC)) ∧ v'.oneCell' = true ∧ ov.oneCell' = true ∧ ExP (m7.ss.length : Int) 9 os) v_ pm_) | _ => True) [[], [], [], [], [2, 3], [4], [], [0, 1, 5, 6]] [none, none, none, none, none, none, none, some 9] [curE g a len cap] [0, 1, 2, 3, 4, 5, 6, 7] 9 (List.take_append_drop 8 _).symm (by kernel_rfl) (by kernel_rfl) (by kernel_rfl) rfl rfl ?_ ?_
   ·
    refine ⟨?_, ?_, ?_, ?_, ?_, ?_, ?_, ?_, trivial⟩
    ·
     intro vf pf hmu hR
     refine dqQ [] [] rfl (zce (zas [0] rfl) ?_)
     exact zbx (zav rfl)
    ·
     intro vf pf hmu hR
     refine dqQ [] [] rfl (zbo (zas [5] rfl) (List.sublist_append_right _ _) ?_)
     exact zbx (zax (cs := [m7.sv, m7.av, m7.iv, m7.mv]) rfl rfl rfl rfl rfl (zat 6 rfl 0 rfl))
    ·
     intro vf pf hmu hR
     refine dqQ [] [] rfl (zce (zas [7] rfl) ?_)
     exact zbx (zav rfl)
    ·
     intro vf pf hmu hR
     refine dqQ [] [] rfl (zce (zas [24] rfl) ?_)
     exact zbx (zav rfl)
    ·
     intro vf pf hmu hR
     have e2 := hR 2 (by decide)
     have e3 := hR 3 (by decide)
     refine dqQ [2, 3] [2, 3] rfl (zbo (sk 275 (congrArg some e2.1) (sk 276 (congrArg some e3.1) (zak _))) (List.sublist_append_right _ _) ?_)
     exact zbx (riQ 1 rfl rfl rfl rfl (zaj 4 rfl))
    ·
     intro vf pf hmu hR
     have e4 := hR 4 (by decide)
     refine dqQ [4] [4] rfl (zbo (sk 277 (congrArg some e4.1) (zak _)) (List.sublist_append_right _ _) ?_)
     exact zbx (liQ rfl rfl rfl (zaj 4 rfl))
    ·
     intro vf pf hmu hR
     refine dqQ [] [] rfl (zce (zas [6] rfl) ?_)
     exact zbx (zav rfl)
    intro vf pf hmu hR
    have e0 := hR 0 (by decide)
    have e1 := hR 1 (by decide)
    have e5 := hR 5 (by decide)
    have e6 := hR 6 (by decide)
    refine Or.inl ⟨rfl, ?_⟩
    show RunM _ _ _ (pf 9) (([0, 1, 5, 6] : List Nat).flatMap pf ++ _) (envOf _ vf [0, 1, 5, 6] ++ _) _ _
    rw [hmu]
    refine zdn (sk 273 (congrArg some e0.1) (sk 274 (congrArg some e1.1) (sk 278 (congrArg some e5.1) (sk 279 (congrArg some e6.1) (zak _))))) (by simp only [e0.2, e1.2, e5.2, e6.2, fS] <;> rfl) ?_
    exact zds (R := (fun u_ p_ => ∃ (v' ov : Value) (os : List Oq) (ps : List HP), u_ = .agg #[m7.sv, v', m7.iv, m7.mv] ∧ p_ = bigE [curE g a len cap, bigE ps] ∧ (∀ w, (bigE ps).holds w → RdsW w v' 2 (m7.gs ++ [As.mk (W2.2.getD k7 0) ov os]).length ((m7.gs ++ [As.mk (W2.2.getD k7 0) ov os]).flatMap asC) ∧ RdsW w ov 3 os.length (os.flatMap oqC)) ∧ v'.oneCell' = true ∧ ov.oneCell' = true ∧ ExP (m7.ss.length : Int) 9 os)) rfl rfl (fun L w hX hm => zea g a len cap z (m7.ss.length : Int) (Md.mk m7.sv m7.av m7.iv m7.mv m7.ss m7.gs m7.xs m7.ms) (W2.2.getD k7 0) U6.1 _ _ _ _ hm hb (fun w9 h9 => (zaj (l := (bigE ps7 :: rowE 38 3 m7.sv m7.ss.length (m7.ss.flatMap sgC) :: rowE 63 3 m7.iv m7.xs.length (m7.xs.flatMap ixC) :: rowE 94 4 m7.mv m7.ms.length (m7.ms.flatMap mmC) :: rowE 3 1 W2.1 W2.2.length (W2.2.map (Value.int .i64)) :: rowE 3 1 U6.1 U6.2.length (U6.2.map (Value.int .i64)) :: boxE b3 #[m7.sv, m7.av, m7.iv, m7.mv] 35 :: boxE b2 #[.slice none 0 0, .slice none 0 0, .slice none 0 0, .slice none 0 0] 35 :: boxE b1 #[v] 26 :: l)) 5 rfl) w9 (hX w9 h9)) (fun x hx => h7.av x hx) (by have h9 := h7.na; omega) (fun w9 h9 => (hp7 w9 ((hX w9 h9).holds _ (zcf (i := 0) rfl))).1) (by have h9 := h7.ng; show m7.gs.length ≤ 1000; omega) hone9 ⟨ho9.1, ho9.2.1, ho9.2.2.1, ho9.2.2.2⟩)
   intro vf pf hmu hR
   have e7 : (∃ pm_, (pf 7) = [pm_] ∧ (fun u_ p_ => ∃ (v' ov : Value) (os : List Oq) (ps : List HP), u_ = .agg #[m7.sv, v', m7.iv, m7.mv] ∧ p_ = bigE [curE g a len cap, bigE ps] ∧ (∀ w, (bigE ps).holds w → RdsW w v' 2 (m7.gs ++ [As.mk (W2.2.getD k7 0) ov os]).length ((m7.gs ++ [As.mk (W2.2.getD k7 0) ov os]).flatMap asC) ∧ RdsW w ov 3 os.length (os.flatMap oqC)) ∧ v'.oneCell' = true ∧ ov.oneCell' = true ∧ ExP (m7.ss.length : Int) 9 os) (vf 7) pm_) := hR 7 (by decide)
   obtain ⟨p162, pE7, hR163⟩ := e7
   obtain ⟨v161, vE7⟩ : ∃ x, vf 7 = x := ⟨_, rfl⟩
   rw [vE7] at hR163
   obtain ⟨avhR163, ovhR163, oshR163, aphR163, rfl, rfl, haphR163, oavhR163, oovhR163, hoshR163⟩ := hR163
   have q0 := hR 0 (by decide)
   have q1 := hR 1 (by decide)
   have q2 := hR 2 (by decide)
   have q3 := hR 3 (by decide)
   have q4 := hR 4 (by decide)
   have q5 := hR 5 (by decide)
   have q6 := hR 6 (by decide)
   refine zdg (zcu [270, 233, 89, 55, 33, 24, 7, 6, 5, 4, 3, 1, 0] _ (sk 280 (congrArg some vE7) (zak _)) rfl) (by simp only [pE7, vE7, q0.2, q1.2, q2.2, q3.2, q4.2, q5.2, q6.2, fS] <;> rfl) ?_
   simp only [List.drop_succ_cons, List.drop_zero]
   refine zbd (cs' := #[m7.sv, avhR163, m7.iv, m7.mv]) (i := 7) (off := 0) (us := [m7.sv, avhR163, m7.iv, m7.mv]) rfl rfl rfl rfl rfl rfl rfl (zab ho9.1 (zab oavhR163 (zab ho9.2.2.1 (zab ho9.2.2.2 zbc)))) rfl rfl rfl (zbn (zde (reQ 1 rfl (hvQ rfl (vaQ rfl rfl rfl) (enQ 1 rfl ?_)))))
   have hpd9 := pendR hW2 (show k7 < W2.2.length by omega)
   refine zbj 10 [9, 8, 7, 6, 5, 4, 3, 2, 1, 0] rfl rfl (by decide) ?_
   refine zdi (curE g a len cap :: bigE aphR163 :: bigE ps7 :: rowE 38 3 m7.sv m7.ss.length (m7.ss.flatMap sgC) :: rowE 63 3 m7.iv m7.xs.length (m7.xs.flatMap ixC) :: rowE 94 4 m7.mv m7.ms.length (m7.ms.flatMap mmC) :: rowE 3 1 W2.1 W2.2.length (W2.2.map (Value.int .i64)) :: rowE 3 1 U6.1 U6.2.length (U6.2.map (Value.int .i64)) :: boxE b3 #[m7.sv, avhR163, m7.iv, m7.mv] 35 :: boxE b2 #[.slice none 0 0, .slice none 0 0, .slice none 0 0, .slice none 0 0] 35 :: boxE b1 #[v] 26 :: l) zdf ?_
   refine zbj 11 [10, 9, 8, 7, 6, 5, 4, 3, 0, 1, 2] rfl rfl (by decide) ?_
   refine zcb 2 rfl ?_
   refine zbj 10 [1, 9, 8, 7, 6, 5, 4, 3, 2, 0] rfl rfl (by decide) ?_
   exact zcn (k7 + 1) (Md.mk m7.sv avhR163 m7.iv m7.mv m7.ss (m7.gs ++ [As.mk (W2.2.getD k7 0) ovhR163 oshR163]) m7.xs m7.ms) [bigE ps7, bigE aphR163] ⟨by omega, (h7.asg _ hpd9.1 _ hoshR163 (by show (m7.ss.length : Int) ≤ (m7.ss.length : Int); omega) hpd9.2).up (by omega) (by omega) (by omega) (by omega) (by omega) (by omega), fun w hw => ⟨(haphR163 w (zba hw (List.mem_cons_of_mem _ List.mem_cons_self))).1, (hp7 w (zba hw List.mem_cons_self)).2.1.app (haphR163 w (zba hw (List.mem_cons_of_mem _ List.mem_cons_self))).2, (hp7 w (zba hw List.mem_cons_self)).2.2⟩⟩ (by omega) (saQ rfl) (.refl _)
  refine ntQ (zar rfl ?_)
  refine zbl (zdx ?_)
  refine zan (zaq (srQ ?_))
  refine hl_know (p := (∀ g9 ∈ m7.gs, g9.ov.oneCell' = true) ∧ m7.sv.oneCell' = true ∧ m7.av.oneCell' = true ∧ m7.iv.oneCell' = true ∧ m7.mv.oneCell' = true) (fun w hm => ⟨fun g9 hg9 => ((hp7 w (hm.holds _ (zcf (i := 0) rfl))).2.1 g9 hg9).one, (zaj 1 rfl w hm).one, (hp7 w (hm.holds _ (zcf (i := 0) rfl))).1.one, (zaj 2 rfl w hm).one, (zaj 3 rfl w hm).one⟩) (fun ⟨hone9, ho9⟩ => ?_)
  refine hvQ rfl (zax (cs := [m7.sv, m7.av, m7.iv, m7.mv]) rfl rfl rfl rfl rfl (zat 6 rfl 0 rfl)) (zbd (cs' := #[m7.sv, m7.av, m7.iv, m7.mv]) (i := 7) (off := 0) (us := [m7.sv, m7.av, m7.iv, m7.mv]) rfl rfl rfl rfl rfl rfl rfl (zab ho9.1 (zab ho9.2.1 (zab ho9.2.2.1 (zab ho9.2.2.2 zbc)))) rfl rfl rfl ?_)
  refine ntQ ?_
  refine zap (zey (p := m7.sv.oneCell' = true ∧ m7.av.oneCell' = true ∧ m7.iv.oneCell' = true ∧ m7.mv.oneCell' = true) (fun w hm => ⟨(zaj 1 rfl w hm).one, (hp7 w (hm.holds _ (zcf (i := 0) rfl))).1.one, (zaj 2 rfl w hm).one, (zaj 3 rfl w hm).one⟩) (fun ho9 => ?_))
  refine zbj 10 [9, 8, 7, 6, 5, 4, 0, 3, 2, 1] rfl rfl (by decide) ?_
  refine zcb 4 rfl ?_
  refine zbj 7 [5, 4, 3, 2, 1, 0, 6] rfl rfl (by decide) ?_
  refine zcb 2 rfl ?_
  exact zcz (rs := [.cell 4 35]) (vs := [.agg #[m7.sv, m7.av, m7.iv, m7.mv]]) rfl ⟨⟨b2, 0, [m7.sv, m7.av, m7.iv, m7.mv], rfl, rfl, by kernel_rfl, by kernel_rfl, zat 4 rfl 0 rfl⟩, trivial⟩ rfl (fun w hm => ⟨_, bigE [curE g a len cap, bigE [rowE 38 3 m7.sv m7.ss.length (m7.ss.flatMap sgC), rowE 63 3 m7.iv m7.xs.length (m7.xs.flatMap ixC), rowE 94 4 m7.mv m7.ms.length (m7.ms.flatMap mmC), bigE ps7]], rfl, ⟨m7, [rowE 38 3 m7.sv m7.ss.length (m7.ss.flatMap sgC), rowE 63 3 m7.iv m7.xs.length (m7.xs.flatMap ixC), rowE 94 4 m7.mv m7.ms.length (m7.ms.flatMap mmC), bigE ps7], rfl, rfl, fun w hw => ⟨zco (zba hw List.mem_cons_self), (hp7 w (zba hw (List.mem_cons_of_mem _ (List.mem_cons_of_mem _ (List.mem_cons_of_mem _ List.mem_cons_self))))).1, (hp7 w (zba hw (List.mem_cons_of_mem _ (List.mem_cons_of_mem _ (List.mem_cons_of_mem _ List.mem_cons_self))))).2.1, zco (zba hw (List.mem_cons_of_mem _ List.mem_cons_self)), (hp7 w (zba hw (List.mem_cons_of_mem _ (List.mem_cons_of_mem _ (List.mem_cons_of_mem _ List.mem_cons_self))))).2.2, zco (zba hw (List.mem_cons_of_mem _ (List.mem_cons_of_mem _ List.mem_cons_self)))⟩, ho9, by have h9 := h7; rw [show k7 = W2.2.length by omega, List.drop_length] at h9; exact h9.fin (by omega) (by omega) (by omega) (by omega) (by omega)⟩, hm.sub (.cons_cons _ (.cons _ (.cons _ (.cons _ (.cons _ (.cons _ (.refl _)))))))⟩)
 refine zbb 4 rfl (zar rfl ?_)
 refine zbl (zdx ?_)
 refine zan (zaq ?_)
 refine hc_meet3 (α := Md) (β := Value × List Int) (γ := List HP) (fun m5 U5 ps5 => (bigE ps5 :: rowE 38 3 m5.sv m5.ss.length (m5.ss.flatMap sgC) :: rowE 63 3 m5.iv m5.xs.length (m5.xs.flatMap ixC) :: rowE 94 4 m5.mv m5.ms.length (m5.ms.flatMap mmC) :: rowE 3 1 W2.1 W2.2.length (W2.2.map (Value.int .i64)) :: rowE 3 1 U5.1 U5.2.length (U5.2.map (Value.int .i64)) :: boxE b3 #[m5.sv, m5.av, m5.iv, m5.mv] 35 :: boxE b2 #[.slice none 0 0, .slice none 0 0, .slice none 0 0, .slice none 0 0] 35 :: boxE b1 #[v] 26 :: curE g a len cap :: l)) (fun m5 U5 ps5 => [(0, .pointer (some ⟨g, 0, none⟩)), (1, .agg #[v]), (3, .pointer (some ⟨b1, 0, none⟩)), (4, .pointer (some ⟨b2, 0, none⟩)), (5, .pointer (some ⟨b3, 0, none⟩)), (6, U5.1), (7, W2.1), (11, .int .i64 (t : Int)), (33, .bool false), (55, .bool false), (89, .bool false)]) (fun m5 U5 ps5 => MI D m5 U5.2 W2.2 16 11 2 1 2 13 ∧ ∀ w, (bigE ps5).holds w → RdP w m5) ?_ ?_
 ·
  refine zag (reQ 1 rfl ?_)
  refine zcl (R := (fun u_ p_ => (∃ b : Bool, u_ = .bool b) ∧ p_ = curE g a len cap)) 9 rfl rfl rfl rfl rfl (fun l' w hm => once_mut hm hb (4) (by omega) (by omega)) ?_
  intro v164 p165 hR166
  obtain ⟨⟨xhR166, rfl⟩, rfl⟩ := hR166
  refine zcr (l' := (bigE ps3 :: rowE 38 3 m3.sv m3.ss.length (m3.ss.flatMap sgC) :: rowE 63 3 m3.iv m3.xs.length (m3.xs.flatMap ixC) :: rowE 94 4 m3.mv m3.ms.length (m3.ms.flatMap mmC) :: rowE 3 1 W2.1 W2.2.length (W2.2.map (Value.int .i64)) :: rowE 3 1 U3.1 U3.2.length (U3.2.map (Value.int .i64)) :: boxE b3 #[m3.sv, m3.av, m3.iv, m3.mv] 35 :: boxE b2 #[.slice none 0 0, .slice none 0 0, .slice none 0 0, .slice none 0 0] 35 :: boxE b1 #[v] 26 :: curE g a len cap :: l)) rfl ?_
  refine zbs (fun h167 => ?_) (fun h167 => ?_)
  ·
   refine ntQ (zai rfl (srQ (hvQ rfl (fdQ 0 rfl rfl rfl) (hvQ rfl (zad rfl rfl rfl (zaa 6 rfl rfl)) (hvQ rfl (lnQ rfl rfl rfl (zaj 1 rfl)) (zbb 1 rfl (zag ?_)))))))
   refine reQ 1 rfl ?_
   refine zcl (R := (fun u_ p_ => (∃ x_ : Int, u_ = .int .i64 x_ ∧ 0 ≤ x_ ∧ x_ < 2) ∧ p_ = curE g a len cap)) 9 rfl rfl rfl rfl rfl (fun l' w hm => zcc g a len cap z 2 _ _ _ hm hb (by constructor <;> omega)) ?_
   intro v168 p169 hR170
   obtain ⟨⟨xhR170, rfl, xhR1700, xhR1701⟩, rfl⟩ := hR170
   refine zcr (l' := (bigE ps3 :: rowE 38 3 m3.sv m3.ss.length (m3.ss.flatMap sgC) :: rowE 63 3 m3.iv m3.xs.length (m3.xs.flatMap ixC) :: rowE 94 4 m3.mv m3.ms.length (m3.ms.flatMap mmC) :: rowE 3 1 W2.1 W2.2.length (W2.2.map (Value.int .i64)) :: rowE 3 1 U3.1 U3.2.length (U3.2.map (Value.int .i64)) :: boxE b3 #[m3.sv, m3.av, m3.iv, m3.mv] 35 :: boxE b2 #[.slice none 0 0, .slice none 0 0, .slice none 0 0, .slice none 0 0] 35 :: boxE b1 #[v] 26 :: curE g a len cap :: l)) rfl ?_
   refine hvQ rfl (vaQ rfl rfl rfl) (zbb 1 rfl (srQ (hvQ rfl (fdQ 0 rfl rfl rfl) (hvQ rfl (zad rfl rfl rfl (zaa 6 rfl rfl)) (hvQ rfl (zbh (cs := #[.int .i64 2, .int .i64 2, .int .i64 0]) rfl rfl rfl) (zah 1 rfl (hvQ rfl (zbh (cs := #[.int .i64 2, .int .i64 (1 + xhR170), .int .i64 0]) rfl rfl rfl) (hvQ rfl (zbh (cs := #[.int .i64 2, .int .i64 1, .int .i64 0]) rfl rfl rfl) (zah 1 rfl ?_)))))))))
   refine hvQ rfl (zbh (cs := #[.int .i64 2, .int .i64 (1 + xhR170), .int .i64 0]) rfl rfl rfl) (zdt rfl (zal (z := .agg #[.int .i64 0, .int .i64 0, .int .i64 0]) (s := 3) (cs := ([2, 2, 0, 2, 1 + xhR170, 0, 2, 1, 0, 2, 1 + xhR170, 0].map (Value.int .i64))) rfl Try.underlying30 rfl (by decide) rfl (by kernel_rfl) rfl) ?_)
   intro g171
   refine zcp (i := 2) (z := .agg #[.int .i64 0, .int .i64 0, .int .i64 0]) (bytes := 24) (n' := (m3.ss ++ [Sg.mk 2 2 0, Sg.mk 2 (1 + xhR170) 0, Sg.mk 2 1 0, Sg.mk 2 (1 + xhR170) 0]).length) (xs' := ((m3.ss ++ [Sg.mk 2 2 0, Sg.mk 2 (1 + xhR170) 0, Sg.mk 2 1 0, Sg.mk 2 (1 + xhR170) 0]).flatMap sgC)) rfl rfl rfl rfl Try.underlying30 (by kernel_rfl) rfl rfl rfl rfl (zaj 0 rfl) (by simp [Value.oneCell']) (by omega) (zci m3.ss ([Sg.mk 2 2 0, Sg.mk 2 (1 + xhR170) 0, Sg.mk 2 1 0, Sg.mk 2 (1 + xhR170) 0] : List Sg)) (flat_app sgC m3.ss [Sg.mk 2 2 0, Sg.mk 2 (1 + xhR170) 0, Sg.mk 2 1 0, Sg.mk 2 (1 + xhR170) 0]) (fun _ => rfl) ?_
   intro v172
   refine hvQ rfl (fdQ 0 rfl rfl rfl) (zcq (i := 2) rfl (fun ho173 => ?_))
   refine zei (i := 7) (cs' := #[v172, m3.av, m3.iv, m3.mv]) rfl rfl rfl rfl rfl rfl ho173 rfl rfl rfl rfl (zbn (zaq (zag (zao (hvQ rfl (fdQ 3 rfl rfl rfl) (hvQ rfl (zad rfl rfl rfl (zaa 7 rfl rfl)) (zah 2 rfl (hvQ rfl (vaQ rfl rfl rfl) (zah 1 rfl (hvQ rfl (vaQ rfl rfl rfl) (zah 1 rfl (hvQ rfl (vaQ rfl rfl rfl) (hvQ rfl (zbh (cs := #[.int .i64 (m3.ss.length : Int), .int .i64 ((m3.ss.length : Int) + 1), .int .i64 ((m3.ss.length : Int) + 2), .int .i64 ((m3.ss.length : Int) + 3)]) rfl rfl rfl) ?_)))))))))))))
   refine zdt rfl (zal (z := .agg #[.int .i64 0, .int .i64 0, .int .i64 0, .int .i64 0]) (s := 4) (cs := ([(m3.ss.length : Int), (m3.ss.length : Int) + 1, (m3.ss.length : Int) + 2, (m3.ss.length : Int) + 3].map (Value.int .i64))) rfl Try.underlying33 rfl (by decide) rfl (by kernel_rfl) rfl) ?_
   intro g174
   refine zcp (i := 5) (z := .agg #[.int .i64 0, .int .i64 0, .int .i64 0, .int .i64 0]) (bytes := 32) rfl rfl rfl rfl Try.underlying33 (by kernel_rfl) rfl rfl rfl rfl (zaj 0 rfl) (zch _) (by first | omega | (simp only [List.length_append, List.length_cons, List.length_nil]; omega)) (zci m3.ms [(Mm.mk (m3.ss.length : Int) ((m3.ss.length : Int) + 1) ((m3.ss.length : Int) + 2) ((m3.ss.length : Int) + 3))]) (zdc mmC m3.ms (Mm.mk (m3.ss.length : Int) ((m3.ss.length : Int) + 1) ((m3.ss.length : Int) + 2) ((m3.ss.length : Int) + 3)) _ rfl) (fun _ => rfl) ?_
   intro v175
   refine hvQ rfl (fdQ 3 rfl rfl rfl) (zcq (i := 5) rfl (fun ho176 => ?_))
   refine zei (i := 8) (cs' := #[v172, m3.av, m3.iv, v175]) rfl rfl rfl rfl rfl rfl ho176 rfl rfl rfl rfl (ntQ (zag (reQ 2 rfl (hvQ rfl (vaQ rfl rfl rfl) ?_))))
   refine zdt rfl (zal (z := .int .i64 0) (s := 1) (cs := ([(m3.ss.length : Int) + 3].map (Value.int .i64))) rfl Try.underlying48 rfl (by decide) rfl (by kernel_rfl) rfl) ?_
   intro g177
   refine zcp (i := 8) (z := .int .i64 0) (bytes := 8) rfl rfl rfl rfl Try.underlying48 (by kernel_rfl) rfl rfl rfl rfl (zaj 0 rfl) (zch _) (by first | omega | (simp; done) | (simp; omega)) (zci U3.2 ([(m3.ss.length : Int) + 3])) (zcs U3.2 ([(m3.ss.length : Int) + 3])) (fun _ => rfl) ?_
   intro v178
   refine zbb 1 rfl (zbf 1 rfl (zaz ?_))
   refine lkQ3 (α := Nat) (β := Md) (γ := List HP) [0, 1, 3, 4, 5, 6, 7, 11, 19, 20, 33, 55, 89, 181] rfl (fun j4 m4 ps4 => (bigE ps4 :: rowE 38 3 m4.sv m4.ss.length (m4.ss.flatMap sgC) :: rowE 63 3 m4.iv m4.xs.length (m4.xs.flatMap ixC) :: rowE 94 4 m4.mv m4.ms.length (m4.ms.flatMap mmC) :: rowE 3 1 W2.1 W2.2.length (W2.2.map (Value.int .i64)) :: rowE 3 1 v178 ((U3.2 ++ ([(m3.ss.length : Int) + 3])).length) ((U3.2 ++ ([(m3.ss.length : Int) + 3])).map (Value.int .i64)) :: boxE b3 #[m4.sv, m4.av, m4.iv, m4.mv] 35 :: boxE b2 #[.slice none 0 0, .slice none 0 0, .slice none 0 0, .slice none 0 0] 35 :: boxE b1 #[v] 26 :: curE g a len cap :: l)) (fun j4 m4 ps4 => [(21, .int .i64 (j4 : Int))]) (fun j4 m4 ps4 => j4 ≤ 3 ∧ MI D m4 (U3.2 ++ ([(m3.ss.length : Int) + 3])) (W2.2 ++ ([(m3.ss.length : Int), (m3.ss.length : Int) + 1, (m3.ss.length : Int) + 2] : List Int).drop j4) 16 (8 + j4) 2 1 2 13 ∧ ∀ w, (bigE ps4).holds w → RdP w m4) (fun j4 m4 ps4 => 3 - j4) 0 (Md.mk v172 m3.av m3.iv v175 (m3.ss ++ [Sg.mk 2 2 0, Sg.mk 2 (1 + xhR170) 0, Sg.mk 2 1 0, Sg.mk 2 (1 + xhR170) 0]) m3.gs m3.xs (m3.ms ++ [(Mm.mk (m3.ss.length : Int) ((m3.ss.length : Int) + 1) ((m3.ss.length : Int) + 2) ((m3.ss.length : Int) + 3))])) ps3 ⟨by omega, (h3.mm4 _ _ ⟨by omega, by omega⟩).up (by omega) (by omega) (by omega) (by omega) (by omega) (by omega), fun w hw => hp3 w hw⟩ (saQ rfl) (.cons _ (.cons _ (.cons _ (.refl _)))) ?_
   intro j4 m4 ps4 hi179
   obtain ⟨hj4, h4, hp4⟩ := hi179
   refine zag (zag (reQ 1 rfl ?_))
   refine zbq rfl rfl rfl rfl rfl rfl (fun h180 => ?_) (fun h180 => ?_)
   ·
    refine ntQ (zai rfl (zcy (sbQ (zao ?_))))
    have hpd9 := pend3 h3.plt (show j4 < 3 by omega)
    refine hl_know (p := (∀ g9 ∈ m4.gs, g9.ov.oneCell' = true) ∧ m4.sv.oneCell' = true ∧ m4.av.oneCell' = true ∧ m4.iv.oneCell' = true ∧ m4.mv.oneCell' = true) (fun w hm => ⟨fun g9 hg9 => ((hp4 w (hm.holds _ (zcf (i := 0) rfl))).2.1 g9 hg9).one, (zaj 1 rfl w hm).one, (hp4 w (hm.holds _ (zcf (i := 0) rfl))).1.one, (zaj 2 rfl w hm).one, (zaj 3 rfl w hm).one⟩) (fun ⟨hone9, ho9⟩ => ?_)
    refine zah 1 rfl (hvQ rfl (zax (cs := [m4.sv, m4.av, m4.iv, m4.mv]) rfl rfl rfl rfl rfl (zat 6 rfl 0 rfl)) (zah 2 rfl (hvQ rfl (vaQ rfl rfl rfl) (zah 1 rfl ?_))))
    refine zeg (R := (fun u_ p_ => ∃ (v' ov : Value) (os : List Oq) (ps : List HP), u_ = .agg #[m4.sv, v', m4.iv, m4.mv] ∧ p_ = bigE [curE g a len cap, bigE ps] ∧ (∀ w, (bigE ps).holds w → RdsW w v' 2 (m4.gs ++ [As.mk ((m3.ss.length : Int) + (j4 : Int)) ov os]).length ((m4.gs ++ [As.mk ((m3.ss.length : Int) + (j4 : Int)) ov os]).flatMap asC) ∧ RdsW w ov 3 os.length (os.flatMap oqC)) ∧ v'.oneCell' = true ∧ ov.oneCell' = true ∧ ExP (m4.ss.length : Int) 9 os)) 9 rfl rfl rfl rfl rfl (fun L w hX hm => zea g a len cap z (m4.ss.length : Int) (Md.mk m4.sv m4.av m4.iv m4.mv m4.ss m4.gs m4.xs m4.ms) ((m3.ss.length : Int) + (j4 : Int)) v178 _ _ _ _ hm hb (fun w9 h9 => (zaj (l := (bigE ps4 :: rowE 38 3 m4.sv m4.ss.length (m4.ss.flatMap sgC) :: rowE 63 3 m4.iv m4.xs.length (m4.xs.flatMap ixC) :: rowE 94 4 m4.mv m4.ms.length (m4.ms.flatMap mmC) :: rowE 3 1 W2.1 W2.2.length (W2.2.map (Value.int .i64)) :: rowE 3 1 v178 ((U3.2 ++ ([(m3.ss.length : Int) + 3])).length) ((U3.2 ++ ([(m3.ss.length : Int) + 3])).map (Value.int .i64)) :: boxE b3 #[m4.sv, m4.av, m4.iv, m4.mv] 35 :: boxE b2 #[.slice none 0 0, .slice none 0 0, .slice none 0 0, .slice none 0 0] 35 :: boxE b1 #[v] 26 :: l)) 5 rfl) w9 (hX w9 h9)) (fun x hx => h4.av x hx) (by have h9 := h4.na; omega) (fun w9 h9 => (hp4 w9 ((hX w9 h9).holds _ (zcf (i := 0) rfl))).1) (by have h9 := h4.ng; show m4.gs.length ≤ 1000; omega) hone9 ⟨ho9.1, ho9.2.1, ho9.2.2.1, ho9.2.2.2⟩) ?_
    intro v181 p182 hR183
    obtain ⟨avhR183, ovhR183, oshR183, aphR183, rfl, rfl, haphR183, oavhR183, oovhR183, hoshR183⟩ := hR183
    refine zcr (l' := (bigE ps4 :: rowE 38 3 m4.sv m4.ss.length (m4.ss.flatMap sgC) :: rowE 63 3 m4.iv m4.xs.length (m4.xs.flatMap ixC) :: rowE 94 4 m4.mv m4.ms.length (m4.ms.flatMap mmC) :: rowE 3 1 W2.1 W2.2.length (W2.2.map (Value.int .i64)) :: rowE 3 1 v178 ((U3.2 ++ ([(m3.ss.length : Int) + 3])).length) ((U3.2 ++ ([(m3.ss.length : Int) + 3])).map (Value.int .i64)) :: boxE b3 #[m4.sv, m4.av, m4.iv, m4.mv] 35 :: boxE b2 #[.slice none 0 0, .slice none 0 0, .slice none 0 0, .slice none 0 0] 35 :: boxE b1 #[v] 26 :: bigE [curE g a len cap, bigE aphR183] :: l)) rfl ?_
    refine zbd (cs' := #[m4.sv, avhR183, m4.iv, m4.mv]) (i := 6) (off := 0) (us := [m4.sv, avhR183, m4.iv, m4.mv]) rfl rfl rfl rfl rfl rfl rfl (zab ho9.1 (zab oavhR183 (zab ho9.2.2.1 (zab ho9.2.2.2 zbc)))) rfl rfl rfl (zbn (zde (reQ 1 rfl (hvQ rfl (vaQ rfl rfl rfl) (enQ 1 rfl ?_)))))
    refine zbj 10 [8, 7, 6, 5, 4, 3, 2, 1, 0, 9] rfl rfl (by decide) ?_
    refine zdi (curE g a len cap :: bigE aphR183 :: bigE ps4 :: rowE 38 3 m4.sv m4.ss.length (m4.ss.flatMap sgC) :: rowE 63 3 m4.iv m4.xs.length (m4.xs.flatMap ixC) :: rowE 94 4 m4.mv m4.ms.length (m4.ms.flatMap mmC) :: rowE 3 1 W2.1 W2.2.length (W2.2.map (Value.int .i64)) :: rowE 3 1 v178 ((U3.2 ++ ([(m3.ss.length : Int) + 3])).length) ((U3.2 ++ ([(m3.ss.length : Int) + 3])).map (Value.int .i64)) :: boxE b3 #[m4.sv, avhR183, m4.iv, m4.mv] 35 :: boxE b2 #[.slice none 0 0, .slice none 0 0, .slice none 0 0, .slice none 0 0] 35 :: boxE b1 #[v] 26 :: l) zdf ?_
    refine zbj 11 [10, 9, 8, 7, 6, 5, 4, 3, 0, 1, 2] rfl rfl (by decide) ?_
    refine zcb 2 rfl ?_
    refine zbj 10 [1, 9, 8, 7, 6, 5, 4, 3, 2, 0] rfl rfl (by decide) ?_
    exact zcn (j4 + 1) (Md.mk m4.sv avhR183 m4.iv m4.mv m4.ss (m4.gs ++ [As.mk ((m3.ss.length : Int) + (j4 : Int)) ovhR183 oshR183]) m4.xs m4.ms) [bigE ps4, bigE aphR183] ⟨by omega, (h4.asg _ hpd9.1 _ hoshR183 (by show (m4.ss.length : Int) ≤ (m4.ss.length : Int); omega) hpd9.2).up (by omega) (by omega) (by omega) (by omega) (by omega) (by omega), fun w hw => ⟨(haphR183 w (zba hw (List.mem_cons_of_mem _ List.mem_cons_self))).1, (hp4 w (zba hw List.mem_cons_self)).2.1.app (haphR183 w (zba hw (List.mem_cons_of_mem _ List.mem_cons_self))).2, (hp4 w (zba hw List.mem_cons_self)).2.2⟩⟩ (by omega) (saQ rfl) (.refl _)
   refine ntQ (zar rfl ?_)
   refine zbl (zdx ?_)
   exact zan (hq_meet3 m4 (v178, U3.2 ++ ([(m3.ss.length : Int) + 3])) ps4 ⟨by have h9 := h4; rw [show j4 = 3 by omega] at h9; exact (by simpa using h9.up (show 16 ≤ 16 by omega) (show 8 + 3 ≤ 11 by omega) (show 2 ≤ 2 by omega) (show 1 ≤ 1 by omega) (show 2 ≤ 2 by omega) (show 13 ≤ 13 by omega)), hp4⟩ (saQ rfl) (.refl _))
  refine ntQ (fsQ rfl ?_)
  exact hq_meet3 m3 (U3.1, U3.2) ps3 ⟨h3.up (by omega) (by omega) (by omega) (by omega) (by omega) (by omega), hp3⟩ (saQ rfl) (.refl _)
 intro m5 U5 ps5 hm184
 obtain ⟨h5, hp5⟩ := hm184
 have hns5 := h5.ns
 have hna5 := h5.na
 refine zag (reQ 1 rfl ?_)
 refine zcl (R := (fun u_ p_ => (∃ x_ : Int, u_ = .int .i64 x_ ∧ 0 ≤ x_ ∧ x_ < 2) ∧ p_ = curE g a len cap)) 9 rfl rfl rfl rfl rfl (fun l' w hm => zcc g a len cap z 2 _ _ _ hm hb (by constructor <;> omega)) ?_
 intro v185 p186 hR187
 obtain ⟨⟨xhR187, rfl, xhR1870, xhR1871⟩, rfl⟩ := hR187
 refine zcr (l' := (bigE ps5 :: rowE 38 3 m5.sv m5.ss.length (m5.ss.flatMap sgC) :: rowE 63 3 m5.iv m5.xs.length (m5.xs.flatMap ixC) :: rowE 94 4 m5.mv m5.ms.length (m5.ms.flatMap mmC) :: rowE 3 1 W2.1 W2.2.length (W2.2.map (Value.int .i64)) :: rowE 3 1 U5.1 U5.2.length (U5.2.map (Value.int .i64)) :: boxE b3 #[m5.sv, m5.av, m5.iv, m5.mv] 35 :: boxE b2 #[.slice none 0 0, .slice none 0 0, .slice none 0 0, .slice none 0 0] 35 :: boxE b1 #[v] 26 :: curE g a len cap :: l)) rfl ?_
 refine hvQ rfl (vaQ rfl rfl rfl) (zbb 1 rfl (zag (zbf 1 rfl (zaz ?_))))
 refine lkQ4 (α := Nat) (β := Md) (γ := Value × List Int) (δ := List HP) [0, 1, 3, 4, 5, 7, 8, 33, 55, 89] rfl (fun k6 m6 U6 ps6 => (bigE ps6 :: rowE 38 3 m6.sv m6.ss.length (m6.ss.flatMap sgC) :: rowE 63 3 m6.iv m6.xs.length (m6.xs.flatMap ixC) :: rowE 94 4 m6.mv m6.ms.length (m6.ms.flatMap mmC) :: rowE 3 1 W2.1 W2.2.length (W2.2.map (Value.int .i64)) :: rowE 3 1 U6.1 U6.2.length (U6.2.map (Value.int .i64)) :: boxE b3 #[m6.sv, m6.av, m6.iv, m6.mv] 35 :: boxE b2 #[.slice none 0 0, .slice none 0 0, .slice none 0 0, .slice none 0 0] 35 :: boxE b1 #[v] 26 :: curE g a len cap :: l)) (fun k6 m6 U6 ps6 => [(6, U6.1), (22, .int .i64 (k6 : Int))]) (fun k6 m6 U6 ps6 => (k6 : Int) ≤ 1 + xhR187 ∧ MI D m6 U6.2 W2.2 (16 + k6) (11 + k6) 2 1 (2 + k6) (13 + k6) ∧ ∀ w, (bigE ps6).holds w → RdP w m6) (fun k6 m6 U6 ps6 => (1 + xhR187).toNat - k6) 0 m5 U5 ps5 ⟨by omega, h5.up (by omega) (by omega) (by omega) (by omega) (by omega) (by omega), hp5⟩ (saQ rfl) (.refl _) ?_
 intro k6 m6 U6 ps6 hi188
 obtain ⟨hk6, h6, hp6⟩ := hi188
 have hns6 := h6.ns
 have hna6 := h6.na
 refine zag (zag (reQ 2 rfl ?_))
 refine zbq rfl rfl rfl rfl rfl rfl (fun h189 => ?_) (fun h189 => ?_)
 ·
  refine ntQ (zai rfl (zcy (sbQ (srQ (hvQ rfl (fdQ 0 rfl rfl rfl) (hvQ rfl (zad rfl rfl rfl (zaa 6 rfl rfl)) (hvQ rfl (lnQ rfl rfl rfl (zaj 1 rfl)) (zah 1 rfl ?_))))))))
  refine ntQ (zag ?_)
  refine zfu 10 [8, 7, 6, 5, 4, 3, 2, 1, 0, 9] rfl rfl (by decide) ?_
  refine zeu (l := (bigE ps6 :: rowE 38 3 m6.sv m6.ss.length (m6.ss.flatMap sgC) :: rowE 63 3 m6.iv m6.xs.length (m6.xs.flatMap ixC) :: rowE 94 4 m6.mv m6.ms.length (m6.ms.flatMap mmC) :: rowE 3 1 W2.1 W2.2.length (W2.2.map (Value.int .i64)) :: rowE 3 1 U6.1 U6.2.length (U6.2.map (Value.int .i64)) :: boxE b3 #[m6.sv, m6.av, m6.iv, m6.mv] 35 :: boxE b2 #[.slice none 0 0, .slice none 0 0, .slice none 0 0, .slice none 0 0] 35 :: boxE b1 #[v] 26 :: l)) rfl 10 [0, 1, 2, 3, 4, 5, 6, 7, 8, 9] (List.take 10 _) (List.drop 10 _) [[], [0], [], [], [2, 3], [], [], [4, 5, 6], [4, 7], [4, 7, 8]] [239, 240, 241, 242, 243, 244, 245, 246, 247, 248] (fun i_ vs_ v_ p_ => match i_ with | 0 => v_ = .pointer (some ⟨b3, 0 + 0, none⟩) ∧ p_ = [] | 1 => v_ = m6.sv ∧ p_ = [] | 2 => v_ = .pointer (some ⟨g, 0, none⟩) ∧ p_ = [] | 3 => IsRow 3 1 2 ([1, 2].map (Value.int .i64)) v_ p_ | 4 => (∃ pm_, p_ = [pm_] ∧ (fun u_ p_ => (∃ x : Int, u_ = .int .i64 x ∧ x ∈ ([1, 2] : List Int)) ∧ p_ = curE g a len cap) v_ pm_) | 5 => v_ = .pointer (some ⟨g, 0, none⟩) ∧ p_ = [] | 6 => IsRow 3 1 3 ([1, 2, 0].map (Value.int .i64)) v_ p_ | 7 => (∃ pm_, p_ = [pm_] ∧ (fun u_ p_ => (∃ x : Int, u_ = .int .i64 x ∧ x ∈ ([1, 2, 0] : List Int)) ∧ p_ = curE g a len cap) v_ pm_) | 8 => v_ = .agg #[.int .i64 (intOf_o (List.getD vs_ 0 undef)), .int .i64 (intOf_o (List.getD vs_ 1 undef)), .int .i64 0] ∧ p_ = [] | 9 => IsRow 38 3 1 ([(intOf_o (List.getD vs_ 0 undef)), (intOf_o (List.getD vs_ 1 undef)), 0].map (Value.int .i64)) v_ p_ | _ => True) [[], [0], [], [], [2, 3], [], [], [5, 6], [7], [7, 8]] [none, none, none, none, some 13, none, none, some 4, none, none] [curE g a len cap] [0, 1, 2, 3, 5, 6, 7, 8, 9] 13 (List.take_append_drop 10 _).symm (by kernel_rfl) (by kernel_rfl) (by kernel_rfl) rfl rfl ?_ ?_
  ·
   refine ⟨?_, ?_, ?_, ?_, ?_, ?_, ?_, ?_, ?_, ?_, trivial⟩
   ·
    intro vf pf hmu hR
    refine dqQ [] [] rfl (zce (zas [5] rfl) ?_)
    exact zbx (fdQ 0 rfl rfl rfl)
   ·
    intro vf pf hmu hR
    have e0 := hR 0 (by decide)
    refine dqQ [0] [0] rfl (zbo (sk 239 (congrArg some e0.1) (zak _)) (List.sublist_append_right _ _) ?_)
    exact zbx (zad rfl rfl rfl (zaa 6 rfl rfl))
   ·
    intro vf pf hmu hR
    refine dqQ [] [] rfl (zce (zas [0] rfl) ?_)
    exact zbx (zav rfl)
   ·
    intro vf pf hmu hR
    refine dqQ [] [] rfl (zbo (zak _) (List.sublist_append_right _ _) ?_)
    exact zal (z := .int .i64 0) (s := 1) (cs := ([1, 2].map (Value.int .i64))) rfl Try.underlying48 rfl (by decide) rfl (by kernel_rfl) rfl
   ·
    intro vf pf hmu hR
    have e2 := hR 2 (by decide)
    have e3 : IsRow 3 1 2 ([1, 2].map (Value.int .i64)) (vf 3) (pf 3) := hR 3 (by decide)
    obtain ⟨g190, vE3, pE3⟩ := e3
    refine Or.inl ⟨rfl, ?_⟩
    show RunM _ _ _ (pf 13) (([2, 3] : List Nat).flatMap pf ++ _) (envOf _ vf [2, 3] ++ _) _ _
    rw [hmu]
    exact zdn (sk 241 (congrArg some e2.1) (sk 242 (congrArg some vE3) (zak _))) (by simp only [pE3, vE3, e2.2, fS] <;> rfl) (zds (R := (fun u_ p_ => (∃ x : Int, u_ = .int .i64 x ∧ x ∈ ([1, 2] : List Int)) ∧ p_ = curE g a len cap)) rfl rfl (fun L w hX hm => zdz g a len cap z (.slice (some ⟨g190, 0, none⟩) 2 2) [1, 2] _ _ _ hm hb (fun w hm => (zaj (l := (rowE 3 1 (.slice (some ⟨g190, 0, none⟩) 2 2) 2 ([1, 2].map (Value.int .i64)) :: bigE ps6 :: rowE 38 3 m6.sv m6.ss.length (m6.ss.flatMap sgC) :: rowE 63 3 m6.iv m6.xs.length (m6.xs.flatMap ixC) :: rowE 94 4 m6.mv m6.ms.length (m6.ms.flatMap mmC) :: rowE 3 1 W2.1 W2.2.length (W2.2.map (Value.int .i64)) :: rowE 3 1 U6.1 U6.2.length (U6.2.map (Value.int .i64)) :: boxE b3 #[m6.sv, m6.av, m6.iv, m6.mv] 35 :: boxE b2 #[.slice none 0 0, .slice none 0 0, .slice none 0 0, .slice none 0 0] 35 :: boxE b1 #[v] 26 :: l)) 0 rfl) w (hX w hm)) (by decide)))
   ·
    intro vf pf hmu hR
    refine dqQ [] [] rfl (zce (zas [0] rfl) ?_)
    exact zbx (zav rfl)
   ·
    intro vf pf hmu hR
    refine dqQ [] [] rfl (zbo (zak _) (List.sublist_append_right _ _) ?_)
    exact zal (z := .int .i64 0) (s := 1) (cs := ([1, 2, 0].map (Value.int .i64))) rfl Try.underlying48 rfl (by decide) rfl (by kernel_rfl) rfl
   ·
    intro vf pf hmu hR
    have e4 : (∃ pm_, (pf 4) = [pm_] ∧ (fun u_ p_ => (∃ x : Int, u_ = .int .i64 x ∧ x ∈ ([1, 2] : List Int)) ∧ p_ = curE g a len cap) (vf 4) pm_) := hR 4 (by decide)
    obtain ⟨p192, pE4, hR193⟩ := e4
    obtain ⟨v191, vE4⟩ : ∃ x, vf 4 = x := ⟨_, rfl⟩
    rw [vE4] at hR193
    obtain ⟨⟨xhR193, rfl, xhR193m⟩, rfl⟩ := hR193
    have e5 := hR 5 (by decide)
    have e6 : IsRow 3 1 3 ([1, 2, 0].map (Value.int .i64)) (vf 6) (pf 6) := hR 6 (by decide)
    obtain ⟨g194, vE6, pE6⟩ := e6
    refine Or.inl ⟨rfl, ?_⟩
    show RunM _ _ _ (pf 4) (([5, 6] : List Nat).flatMap pf ++ _) (envOf _ vf [4, 5, 6] ++ _) _ _
    rw [pE4]
    exact zdn (sk 244 (congrArg some e5.1) (sk 245 (congrArg some vE6) (zak _))) (by simp only [pE6, vE6, e5.2, fS] <;> rfl) (zds (R := (fun u_ p_ => (∃ x : Int, u_ = .int .i64 x ∧ x ∈ ([1, 2, 0] : List Int)) ∧ p_ = curE g a len cap)) rfl rfl (fun L w hX hm => zdz g a len cap z (.slice (some ⟨g194, 0, none⟩) 3 3) [1, 2, 0] _ _ _ hm hb (fun w hm => (zaj (l := (rowE 3 1 (.slice (some ⟨g194, 0, none⟩) 3 3) 3 ([1, 2, 0].map (Value.int .i64)) :: bigE ps6 :: rowE 38 3 m6.sv m6.ss.length (m6.ss.flatMap sgC) :: rowE 63 3 m6.iv m6.xs.length (m6.xs.flatMap ixC) :: rowE 94 4 m6.mv m6.ms.length (m6.ms.flatMap mmC) :: rowE 3 1 W2.1 W2.2.length (W2.2.map (Value.int .i64)) :: rowE 3 1 U6.1 U6.2.length (U6.2.map (Value.int .i64)) :: boxE b3 #[m6.sv, m6.av, m6.iv, m6.mv] 35 :: boxE b2 #[.slice none 0 0, .slice none 0 0, .slice none 0 0, .slice none 0 0] 35 :: boxE b1 #[v] 26 :: l)) 0 rfl) w (hX w hm)) (by decide)))
   ·
    intro vf pf hmu hR
    have e4 : (∃ pm_, (pf 4) = [pm_] ∧ (fun u_ p_ => (∃ x : Int, u_ = .int .i64 x ∧ x ∈ ([1, 2] : List Int)) ∧ p_ = curE g a len cap) (vf 4) pm_) := hR 4 (by decide)
    obtain ⟨p192, pE4, hR193⟩ := e4
    obtain ⟨v191, vE4⟩ : ∃ x, vf 4 = x := ⟨_, rfl⟩
    rw [vE4] at hR193
    obtain ⟨⟨xhR193, rfl, xhR193m⟩, rfl⟩ := hR193
    have e7 : (∃ pm_, (pf 7) = [pm_] ∧ (fun u_ p_ => (∃ x : Int, u_ = .int .i64 x ∧ x ∈ ([1, 2, 0] : List Int)) ∧ p_ = curE g a len cap) (vf 7) pm_) := hR 7 (by decide)
    obtain ⟨p196, pE7, hR197⟩ := e7
    obtain ⟨v195, vE7⟩ : ∃ x, vf 7 = x := ⟨_, rfl⟩
    rw [vE7] at hR197
    obtain ⟨⟨xhR197, rfl, xhR197m⟩, rfl⟩ := hR197
    have xhR197w := lit4 xhR197m (by decide)
    refine dqQ [7] [4, 7] rfl (zck (sk 243 (congrArg some vE4) (sk 246 (congrArg some vE7) (zak _))) (by simp only [pE7, vE7, fS] <;> rfl) ?_)
    exact zct (zbx (zbh (cs := #[.int .i64 xhR193, .int .i64 xhR197, .int .i64 0]) rfl rfl rfl)) (fun _ _ h => ⟨h.1.trans (by show _ = (.agg #[.int .i64 (intOf_o (vf 4)), .int .i64 (intOf_o (vf 7)), .int .i64 0] : Value); first | (rw [vE4, vE7]; done) | (rw [vE4, vE7]; rfl)), h.2⟩)
   intro vf pf hmu hR
   have e4 : (∃ pm_, (pf 4) = [pm_] ∧ (fun u_ p_ => (∃ x : Int, u_ = .int .i64 x ∧ x ∈ ([1, 2] : List Int)) ∧ p_ = curE g a len cap) (vf 4) pm_) := hR 4 (by decide)
   obtain ⟨p192, pE4, hR193⟩ := e4
   obtain ⟨v191, vE4⟩ : ∃ x, vf 4 = x := ⟨_, rfl⟩
   rw [vE4] at hR193
   obtain ⟨⟨xhR193, rfl, xhR193m⟩, rfl⟩ := hR193
   have e7 : (∃ pm_, (pf 7) = [pm_] ∧ (fun u_ p_ => (∃ x : Int, u_ = .int .i64 x ∧ x ∈ ([1, 2, 0] : List Int)) ∧ p_ = curE g a len cap) (vf 7) pm_) := hR 7 (by decide)
   obtain ⟨p196, pE7, hR197⟩ := e7
   obtain ⟨v195, vE7⟩ : ∃ x, vf 7 = x := ⟨_, rfl⟩
   rw [vE7] at hR197
   obtain ⟨⟨xhR197, rfl, xhR197m⟩, rfl⟩ := hR197
   have xhR197w := lit4 xhR197m (by decide)
   have e8 : (vf 8) = .agg #[.int .i64 (intOf_o (vf 4)), .int .i64 (intOf_o (vf 7)), .int .i64 0] ∧ (pf 8) = [] := hR 8 (by decide)
   rw [vE4, vE7] at e8
   refine dqQ [7, 8] [4, 7, 8] rfl (zck (sk 247 (congrArg some e8.1) (zak _)) (by simp only [pE7, vE7, e8.2, fS] <;> rfl) ?_)
   exact zct (zal (z := .agg #[.int .i64 0, .int .i64 0, .int .i64 0]) (s := 3) (cs := ([xhR193, xhR197, 0].map (Value.int .i64))) rfl Try.underlying30 rfl (by decide) rfl (by kernel_rfl) rfl) (fun v_ p_ h => by show IsRow 38 3 1 ([(intOf_o (vf 4)), (intOf_o (vf 7)), 0].map (Value.int .i64)) v_ p_; rw [vE4, vE7]; exact h)
  intro vf pf hmu hR
  have e1 := hR 1 (by decide)
  have e3 : IsRow 3 1 2 ([1, 2].map (Value.int .i64)) (vf 3) (pf 3) := hR 3 (by decide)
  obtain ⟨g190, vE3, pE3⟩ := e3
  have e4 : (∃ pm_, (pf 4) = [pm_] ∧ (fun u_ p_ => (∃ x : Int, u_ = .int .i64 x ∧ x ∈ ([1, 2] : List Int)) ∧ p_ = curE g a len cap) (vf 4) pm_) := hR 4 (by decide)
  obtain ⟨p192, pE4, hR193⟩ := e4
  obtain ⟨v191, vE4⟩ : ∃ x, vf 4 = x := ⟨_, rfl⟩
  rw [vE4] at hR193
  obtain ⟨⟨xhR193, rfl, xhR193m⟩, rfl⟩ := hR193
  have e6 : IsRow 3 1 3 ([1, 2, 0].map (Value.int .i64)) (vf 6) (pf 6) := hR 6 (by decide)
  obtain ⟨g194, vE6, pE6⟩ := e6
  have e7 : (∃ pm_, (pf 7) = [pm_] ∧ (fun u_ p_ => (∃ x : Int, u_ = .int .i64 x ∧ x ∈ ([1, 2, 0] : List Int)) ∧ p_ = curE g a len cap) (vf 7) pm_) := hR 7 (by decide)
  obtain ⟨p196, pE7, hR197⟩ := e7
  obtain ⟨v195, vE7⟩ : ∃ x, vf 7 = x := ⟨_, rfl⟩
  rw [vE7] at hR197
  obtain ⟨⟨xhR197, rfl, xhR197m⟩, rfl⟩ := hR197
  have xhR197w := lit4 xhR197m (by decide)
  have e9 : IsRow 38 3 1 ([(intOf_o (vf 4)), (intOf_o (vf 7)), 0].map (Value.int .i64)) (vf 9) (pf 9) := hR 9 (by decide)
  rw [vE4, vE7] at e9
  obtain ⟨g198, vE9, pE9⟩ := e9
  have q0 := hR 0 (by decide)
  have q1 := hR 1 (by decide)
  have q2 := hR 2 (by decide)
  have q5 := hR 5 (by decide)
  have q8 := hR 8 (by decide)
  refine zdg (zcu [233, 89, 55, 33, 23, 22, 8, 7, 6, 5, 4, 3, 1, 0] _ (sk 240 (congrArg some e1.1) (sk 248 (congrArg some vE9) (zak _))) rfl) (by simp only [pE3, vE3, pE6, vE6, pE7, vE7, pE9, vE9, q0.2, q1.2, q2.2, q5.2, q8.2, fS] <;> rfl) ?_
  simp only [List.drop_succ_cons, List.drop_zero]
  refine zcp (i := 5) (z := .agg #[.int .i64 0, .int .i64 0, .int .i64 0]) (bytes := 24) rfl rfl rfl rfl Try.underlying30 (by kernel_rfl) rfl rfl rfl rfl (zaj 3 rfl) (zch _) (by first | omega | (simp only [List.length_append, List.length_cons, List.length_nil]; omega)) (zci m6.ss [(Sg.mk xhR193 xhR197 0)]) (zdc sgC m6.ss (Sg.mk xhR193 xhR197 0) _ rfl) (fun _ => rfl) ?_
  intro v199
  refine hvQ rfl (fdQ 0 rfl rfl rfl) (zcq (i := 5) rfl (fun ho200 => ?_))
  refine zei (i := 10) (cs' := #[v199, m6.av, m6.iv, m6.mv]) rfl rfl rfl rfl rfl rfl ho200 rfl rfl rfl rfl (ntQ ?_)
  refine zgg (α := Int) (fun kx => (rowE 3 1 (.slice (some ⟨g190, 0, none⟩) 2 2) 2 ([1, 2].map (Value.int .i64)) :: rowE 3 1 (.slice (some ⟨g194, 0, none⟩) 3 3) 3 ([1, 2, 0].map (Value.int .i64)) :: curE g a len cap :: rowE 38 3 (.slice (some ⟨g198, 0, none⟩) 1 1) 1 ([xhR193, xhR197, 0].map (Value.int .i64)) :: bigE ps6 :: rowE 38 3 v199 ((m6.ss ++ [Sg.mk kx xhR197 0]).length) ((m6.ss ++ [Sg.mk kx xhR197 0]).flatMap sgC) :: rowE 63 3 m6.iv m6.xs.length (m6.xs.flatMap ixC) :: rowE 94 4 m6.mv m6.ms.length (m6.ms.flatMap mmC) :: rowE 3 1 W2.1 W2.2.length (W2.2.map (Value.int .i64)) :: rowE 3 1 U6.1 U6.2.length (U6.2.map (Value.int .i64)) :: boxE b3 #[v199, m6.av, m6.iv, m6.mv] 35 :: boxE b2 #[.slice none 0 0, .slice none 0 0, .slice none 0 0, .slice none 0 0] 35 :: boxE b1 #[v] 26 :: l)) (fun kx => [(0, .pointer (some ⟨g, 0, none⟩)), (1, .agg #[v]), (3, .pointer (some ⟨b1, 0, none⟩)), (4, .pointer (some ⟨b2, 0, none⟩)), (5, .pointer (some ⟨b3, 0, none⟩)), (6, U6.1), (7, W2.1), (8, .int .i64 (1 + xhR187)), (22, .int .i64 (k6 : Int)), (23, .int .i64 (m6.ss.length : Int)), (33, .bool false), (55, .bool false), (89, .bool false), (233, .bool true)]) (fun kx => kx = 1 ∨ kx = 2) ?_ ?_
  ·
   refine zag (reQ 1 rfl ?_)
   refine zbt rfl rfl rfl rfl rfl rfl (fun h201 => ?_) (fun h201 => ?_)
   ·
    refine ntQ (zai rfl (zao ?_))
    have hln9 : (m6.ss ++ [(Sg.mk xhR193 xhR197 0)]).length = m6.ss.length + 1 := by rw [List.length_append]; rfl
    refine hvQ rfl (fdQ 0 rfl rfl rfl) (hvQ rfl (zad rfl rfl rfl (zaa 10 rfl rfl)) (zah 1 rfl (hvQ rfl (riQ 3 rfl rfl rfl rfl (zaj 5 rfl)) (hvQ rfl (zau (k0 := 0) rfl rfl rfl (zaj 5 rfl) (by omega)) ?_))))
    refine hl_stE (i := 5) (n' := ((m6.ss ++ [(Sg.mk xhR193 xhR197 0)]).set (((m6.ss.length : Int)).toNat) { (m6.ss ++ [(Sg.mk xhR193 xhR197 0)]).getD (((m6.ss.length : Int)).toNat) sg0 with k := 1 }).length) (xs' := (((m6.ss ++ [(Sg.mk xhR193 xhR197 0)]).set (((m6.ss.length : Int)).toNat) { (m6.ss ++ [(Sg.mk xhR193 xhR197 0)]).getD (((m6.ss.length : Int)).toNat) sg0 with k := 1 }).flatMap sgC)) rfl rfl rfl rfl rfl rfl rfl rfl (by first | omega | (simp only [List.length_set]; omega)) List.length_set.symm (flat_set sgC 3 (fun _ => rfl) _ sg0 _ (by first | omega | (simp only [List.length_set]; omega)) (by decide) rfl) rfl (zbn ?_)
    refine zdi (rowE 3 1 (.slice (some ⟨g190, 0, none⟩) 2 2) 2 ([1, 2].map (Value.int .i64)) :: rowE 3 1 (.slice (some ⟨g194, 0, none⟩) 3 3) 3 ([1, 2, 0].map (Value.int .i64)) :: curE g a len cap :: rowE 38 3 (.slice (some ⟨g198, 0, none⟩) 1 1) 1 ([xhR193, xhR197, 0].map (Value.int .i64)) :: bigE ps6 :: rowE 38 3 v199 ((m6.ss ++ [Sg.mk 1 xhR197 0]).length) ((m6.ss ++ [Sg.mk 1 xhR197 0]).flatMap sgC) :: rowE 63 3 m6.iv m6.xs.length (m6.xs.flatMap ixC) :: rowE 94 4 m6.mv m6.ms.length (m6.ms.flatMap mmC) :: rowE 3 1 W2.1 W2.2.length (W2.2.map (Value.int .i64)) :: rowE 3 1 U6.1 U6.2.length (U6.2.map (Value.int .i64)) :: boxE b3 #[v199, m6.av, m6.iv, m6.mv] 35 :: boxE b2 #[.slice none 0 0, .slice none 0 0, .slice none 0 0, .slice none 0 0] 35 :: boxE b1 #[v] 26 :: l) (fun w hm => by rw [show m6.ss ++ [Sg.mk 1 xhR197 0] = (m6.ss ++ [(Sg.mk xhR193 xhR197 0)]).set (((m6.ss.length : Int)).toNat) { (m6.ss ++ [(Sg.mk xhR193 xhR197 0)]).getD (((m6.ss.length : Int)).toNat) sg0 with k := 1 } from (setK_last (by omega)).symm]; exact hm) ?_
    exact zed 1 (.inl rfl) (saQ rfl) (.refl _)
   refine ntQ (fsQ rfl ?_)
   exact zed xhR193 (lit12 xhR193m) (saQ rfl) (.refl _)
  intro kx hm202
  have hkx9 := hm202
  refine srQ ?_
  refine hl_know (p := (∀ g9 ∈ m6.gs, g9.ov.oneCell' = true) ∧ v199.oneCell' = true ∧ m6.av.oneCell' = true ∧ m6.iv.oneCell' = true ∧ m6.mv.oneCell' = true) (fun w hm => ⟨fun g9 hg9 => ((hp6 w (hm.holds _ (zcf (i := 4) rfl))).2.1 g9 hg9).one, (zaj 5 rfl w hm).one, (hp6 w (hm.holds _ (zcf (i := 4) rfl))).1.one, (zaj 6 rfl w hm).one, (zaj 7 rfl w hm).one⟩) (fun ⟨hone9, ho9⟩ => ?_)
  refine zah 1 rfl (hvQ rfl (zax (cs := [v199, m6.av, m6.iv, m6.mv]) rfl rfl rfl rfl rfl (zat 10 rfl 0 rfl)) (zah 2 rfl ?_))
  refine zeg (R := (fun u_ p_ => ∃ (v' ov : Value) (os : List Oq) (ps : List HP), u_ = .agg #[v199, v', m6.iv, m6.mv] ∧ p_ = bigE [curE g a len cap, bigE ps] ∧ (∀ w, (bigE ps).holds w → RdsW w v' 2 (m6.gs ++ [As.mk (m6.ss.length : Int) ov os]).length ((m6.gs ++ [As.mk (m6.ss.length : Int) ov os]).flatMap asC) ∧ RdsW w ov 3 os.length (os.flatMap oqC)) ∧ v'.oneCell' = true ∧ ov.oneCell' = true ∧ ExP (m6.ss.length : Int) 9 os)) 2 rfl rfl rfl rfl rfl (fun L w hX hm => zea g a len cap z (m6.ss.length : Int) (Md.mk v199 m6.av m6.iv m6.mv (m6.ss ++ [Sg.mk kx xhR197 0]) m6.gs m6.xs m6.ms) (m6.ss.length : Int) U6.1 _ _ _ _ hm hb (fun w9 h9 => (zaj (l := (rowE 3 1 (.slice (some ⟨g190, 0, none⟩) 2 2) 2 ([1, 2].map (Value.int .i64)) :: rowE 3 1 (.slice (some ⟨g194, 0, none⟩) 3 3) 3 ([1, 2, 0].map (Value.int .i64)) :: rowE 38 3 (.slice (some ⟨g198, 0, none⟩) 1 1) 1 ([xhR193, xhR197, 0].map (Value.int .i64)) :: bigE ps6 :: rowE 38 3 v199 ((m6.ss ++ [Sg.mk kx xhR197 0]).length) ((m6.ss ++ [Sg.mk kx xhR197 0]).flatMap sgC) :: rowE 63 3 m6.iv m6.xs.length (m6.xs.flatMap ixC) :: rowE 94 4 m6.mv m6.ms.length (m6.ms.flatMap mmC) :: rowE 3 1 W2.1 W2.2.length (W2.2.map (Value.int .i64)) :: rowE 3 1 U6.1 U6.2.length (U6.2.map (Value.int .i64)) :: boxE b3 #[v199, m6.av, m6.iv, m6.mv] 35 :: boxE b2 #[.slice none 0 0, .slice none 0 0, .slice none 0 0, .slice none 0 0] 35 :: boxE b1 #[v] 26 :: l)) 8 rfl) w9 (hX w9 h9)) (fun x hx => h6.av x hx) (by have h9 := h6.na; omega) (fun w9 h9 => (hp6 w9 ((hX w9 h9).holds _ (zcf (i := 3) rfl))).1) (by have h9 := h6.ng; show m6.gs.length ≤ 1000; omega) hone9 ⟨ho9.1, ho9.2.1, ho9.2.2.1, ho9.2.2.2⟩) ?_
  intro v203 p204 hR205
  obtain ⟨avhR205, ovhR205, oshR205, aphR205, rfl, rfl, haphR205, oavhR205, oovhR205, hoshR205⟩ := hR205
  refine zcr (l' := (rowE 3 1 (.slice (some ⟨g190, 0, none⟩) 2 2) 2 ([1, 2].map (Value.int .i64)) :: rowE 3 1 (.slice (some ⟨g194, 0, none⟩) 3 3) 3 ([1, 2, 0].map (Value.int .i64)) :: bigE [curE g a len cap, bigE aphR205] :: rowE 38 3 (.slice (some ⟨g198, 0, none⟩) 1 1) 1 ([xhR193, xhR197, 0].map (Value.int .i64)) :: bigE ps6 :: rowE 38 3 v199 ((m6.ss ++ [Sg.mk kx xhR197 0]).length) ((m6.ss ++ [Sg.mk kx xhR197 0]).flatMap sgC) :: rowE 63 3 m6.iv m6.xs.length (m6.xs.flatMap ixC) :: rowE 94 4 m6.mv m6.ms.length (m6.ms.flatMap mmC) :: rowE 3 1 W2.1 W2.2.length (W2.2.map (Value.int .i64)) :: rowE 3 1 U6.1 U6.2.length (U6.2.map (Value.int .i64)) :: boxE b3 #[v199, m6.av, m6.iv, m6.mv] 35 :: boxE b2 #[.slice none 0 0, .slice none 0 0, .slice none 0 0, .slice none 0 0] 35 :: boxE b1 #[v] 26 :: l)) rfl ?_
  refine zbd (cs' := #[v199, avhR205, m6.iv, m6.mv]) (i := 10) (off := 0) (us := [v199, avhR205, m6.iv, m6.mv]) rfl rfl rfl rfl rfl rfl rfl (zab ho200 (zab oavhR205 (zab ho9.2.2.1 (zab ho9.2.2.2 zbc)))) rfl rfl rfl (ntQ (reQ 2 rfl ?_))
  refine zdt rfl (zal (z := .int .i64 0) (s := 1) (cs := ([(m6.ss.length : Int)].map (Value.int .i64))) rfl Try.underlying48 rfl (by decide) rfl (by kernel_rfl) rfl) ?_
  intro g206
  refine zcp (i := 10) (z := .int .i64 0) (bytes := 8) rfl rfl rfl rfl Try.underlying48 (by kernel_rfl) rfl rfl rfl rfl (zaj 0 rfl) (zch _) (by first | omega | (simp; done) | (simp; omega)) (zci U6.2 ([(m6.ss.length : Int)])) (zcs U6.2 ([(m6.ss.length : Int)])) (fun _ => rfl) ?_
  intro v207
  refine enQ 1 rfl (zde (reQ 1 rfl (hvQ rfl (vaQ rfl rfl rfl) (enQ 1 rfl ?_))))
  refine zbj 14 [13, 12, 11, 10, 9, 8, 7, 6, 5, 4, 2, 1, 0, 3] rfl rfl (by decide) ?_
  refine zdi (curE g a len cap :: bigE aphR205 :: rowE 3 1 (.slice (some ⟨g206, 0, none⟩) 1 1) 1 ([(m6.ss.length : Int)].map (Value.int .i64)) :: rowE 3 1 (.slice (some ⟨g190, 0, none⟩) 2 2) 2 ([1, 2].map (Value.int .i64)) :: rowE 3 1 (.slice (some ⟨g194, 0, none⟩) 3 3) 3 ([1, 2, 0].map (Value.int .i64)) :: rowE 38 3 (.slice (some ⟨g198, 0, none⟩) 1 1) 1 ([xhR193, xhR197, 0].map (Value.int .i64)) :: bigE ps6 :: rowE 38 3 v199 ((m6.ss ++ [Sg.mk kx xhR197 0]).length) ((m6.ss ++ [Sg.mk kx xhR197 0]).flatMap sgC) :: rowE 63 3 m6.iv m6.xs.length (m6.xs.flatMap ixC) :: rowE 94 4 m6.mv m6.ms.length (m6.ms.flatMap mmC) :: rowE 3 1 W2.1 W2.2.length (W2.2.map (Value.int .i64)) :: rowE 3 1 v207 ((U6.2 ++ ([(m6.ss.length : Int)])).length) ((U6.2 ++ ([(m6.ss.length : Int)])).map (Value.int .i64)) :: boxE b3 #[v199, avhR205, m6.iv, m6.mv] 35 :: boxE b2 #[.slice none 0 0, .slice none 0 0, .slice none 0 0, .slice none 0 0] 35 :: boxE b1 #[v] 26 :: l) zdf ?_
  refine zbj 15 [14, 13, 12, 11, 10, 9, 8, 7, 5, 4, 3, 2, 0, 1, 6] rfl rfl (by decide) ?_
  refine zcb 2 rfl ?_
  refine zbj 14 [1, 13, 12, 11, 10, 9, 8, 7, 6, 0] rfl rfl (by decide) ?_
  exact zdr (k6 + 1) (Md.mk v199 avhR205 m6.iv m6.mv (m6.ss ++ [Sg.mk kx xhR197 0]) (m6.gs ++ [As.mk (m6.ss.length : Int) ovhR205 oshR205]) m6.xs m6.ms) (v207, U6.2 ++ ([(m6.ss.length : Int)])) [bigE ps6, bigE aphR205] ⟨by omega, (((h6.out _ hkx9 (by assumption) mem_app2).asg _ (List.mem_append_right _ List.mem_cons_self) _ hoshR205 (by show (m6.ss.length : Int) ≤ ((_ : List Sg).length : Int); rw [List.length_append]; omega) (mem_less h6.plt)).avl (last_in (m := m6) .nilFunc _) (e := 1) (by simp)).up (by omega) (by omega) (by omega) (by omega) (by omega) (by omega), fun w hw => ⟨(haphR205 w (zba hw (List.mem_cons_of_mem _ List.mem_cons_self))).1, (hp6 w (zba hw List.mem_cons_self)).2.1.app (haphR205 w (zba hw (List.mem_cons_of_mem _ List.mem_cons_self))).2, (hp6 w (zba hw List.mem_cons_self)).2.2⟩⟩ (by omega) (saQ rfl) (.refl _)
 refine ntQ (zar rfl ?_)
 refine zbl (zdx ?_)
 refine zan (zaq (zag (zbf 1 rfl (zaz ?_))))
 refine lkQ3 (α := Nat) (β := Md) (γ := List HP) [0, 1, 3, 4, 5, 6, 7, 33, 55, 89, 233] rfl (fun k7 m7 ps7 => (bigE ps7 :: rowE 38 3 m7.sv m7.ss.length (m7.ss.flatMap sgC) :: rowE 63 3 m7.iv m7.xs.length (m7.xs.flatMap ixC) :: rowE 94 4 m7.mv m7.ms.length (m7.ms.flatMap mmC) :: rowE 3 1 W2.1 W2.2.length (W2.2.map (Value.int .i64)) :: rowE 3 1 U6.1 U6.2.length (U6.2.map (Value.int .i64)) :: boxE b3 #[m7.sv, m7.av, m7.iv, m7.mv] 35 :: boxE b2 #[.slice none 0 0, .slice none 0 0, .slice none 0 0, .slice none 0 0] 35 :: boxE b1 #[v] 26 :: curE g a len cap :: l)) (fun k7 m7 ps7 => [(24, .int .i64 (k7 : Int))]) (fun k7 m7 ps7 => k7 ≤ W2.2.length ∧ MI D m7 U6.2 (W2.2.drop k7) 18 (13 + k7) 2 1 4 15 ∧ ∀ w, (bigE ps7).holds w → RdP w m7) (fun k7 m7 ps7 => W2.2.length - k7) 0 m6 ps6 ⟨Nat.zero_le _, h6.up (by omega) (by omega) (by omega) (by omega) (by omega) (by omega), hp6⟩ (saQ rfl) (.refl _) ?_
 intro k7 m7 ps7 hi208
 obtain ⟨hk7, h7, hp7⟩ := hi208
 refine zag (zag (reQ 2 rfl (hvQ rfl (lnQ rfl rfl rfl (zaj 4 rfl)) ?_)))
 refine zbq rfl rfl rfl rfl rfl rfl (fun h209 => ?_) (fun h209 => ?_)
 ·
  refine ntQ (zai rfl (zcy (sbQ ?_)))
  refine hc_know (p := (∀ g9 ∈ m7.gs, g9.ov.oneCell' = true) ∧ m7.sv.oneCell' = true ∧ m7.av.oneCell' = true ∧ m7.iv.oneCell' = true ∧ m7.mv.oneCell' = true) (fun w hm => ⟨fun g9 hg9 => ((hp7 w (hm.holds _ (zcf (i := 0) rfl))).2.1 g9 hg9).one, (zaj 1 rfl w hm).one, (hp7 w (hm.holds _ (zcf (i := 0) rfl))).1.one, (zaj 2 rfl w hm).one, (zaj 3 rfl w hm).one⟩) (fun ⟨hone9, ho9⟩ => ?_)
  refine zfu 10 [8, 7, 6, 5, 4, 3, 2, 1, 0, 9] rfl rfl (by decide) ?_
  refine zeu (l := (bigE ps7 :: rowE 38 3 m7.sv m7.ss.length (m7.ss.flatMap sgC) :: rowE 63 3 m7.iv m7.xs.length (m7.xs.flatMap ixC) :: rowE 94 4 m7.mv m7.ms.length (m7.ms.flatMap mmC) :: rowE 3 1 W2.1 W2.2.length (W2.2.map (Value.int .i64)) :: rowE 3 1 U6.1 U6.2.length (U6.2.map (Value.int .i64)) :: boxE b3 #[m7.sv, m7.av, m7.iv, m7.mv] 35 :: boxE b2 #[.slice none 0 0, .slice none 0 0, .slice none 0 0, .slice none 0 0] 35 :: boxE b1 #[v] 26 :: l)) rfl 8 [0, 1, 2, 3, 4, 5, 6, 7] (List.take 8 _) (List.drop 8 _) [[], [], [], [], [2, 3], [4], [], [0, 1, 5, 6]] [273, 274, 275, 276, 277, 278, 279, 280] (fun i_ vs_ v_ p_ => match i_ with | 0 => v_ = .pointer (some ⟨g, 0, none⟩) ∧ p_ = [] | 1 => v_ = .agg #[m7.sv, m7.av, m7.iv, m7.mv] ∧ p_ = [] | 2 => v_ = W2.1 ∧ p_ = [] | 3 => v_ = .int .i64 (k7 : Int) ∧ p_ = [] | 4 => v_ = elP W2.1 (((k7 : Int)).toNat * 1) ∧ p_ = [] | 5 => v_ = .int .i64 (W2.2.getD k7 0) ∧ p_ = [] | 6 => v_ = U6.1 ∧ p_ = [] | 7 => (∃ pm_, p_ = [pm_] ∧ (fun u_ p_ => ∃ (v' ov : Value) (os : List Oq) (ps : List HP), u_ = .agg #[m7.sv, v', m7.iv, m7.mv] ∧ p_ = bigE [curE g a len cap, bigE ps] ∧ (∀ w, (bigE ps).holds w → RdsW w v' 2 (m7.gs ++ [As.mk (W2.2.getD k7 0) ov os]).length ((m7.gs ++ [As.mk (W2.2.getD k7 0) ov os]).flatMap asC) ∧ RdsW w ov 3 os.length (os.flatMap oqC)) ∧ v'.oneCell' = true ∧ ov.oneCell' = true ∧ ExP (m7.ss.length : Int) 9 os) v_ pm_) | _ => True) [[], [], [], [], [2, 3], [4], [], [0, 1, 5, 6]] [none, none, none, none, none, none, none, some 9] [curE g a len cap] [0, 1, 2, 3, 4, 5, 6, 7] 9 (List.take_append_drop 8 _).symm (by kernel_rfl) (by kernel_rfl) (by kernel_rfl) rfl rfl ?_ ?_
  ·
   refine ⟨?_, ?_, ?_, ?_, ?_, ?_, ?_, ?_, trivial⟩
   ·
    intro vf pf hmu hR
    refine dqQ [] [] rfl (zce (zas [0] rfl) ?_)
    exact zbx (zav rfl)
   ·
    intro vf pf hmu hR
    refine dqQ [] [] rfl (zbo (zas [5] rfl) (List.sublist_append_right _ _) ?_)
    exact zbx (zax (cs := [m7.sv, m7.av, m7.iv, m7.mv]) rfl rfl rfl rfl rfl (zat 6 rfl 0 rfl))
   ·
    intro vf pf hmu hR
    refine dqQ [] [] rfl (zce (zas [7] rfl) ?_)
    exact zbx (zav rfl)
   ·
    intro vf pf hmu hR
    refine dqQ [] [] rfl (zce (zas [24] rfl) ?_)
    exact zbx (zav rfl)
   ·
    intro vf pf hmu hR
    have e2 := hR 2 (by decide)
    have e3 := hR 3 (by decide)
    refine dqQ [2, 3] [2, 3] rfl (zbo (sk 275 (congrArg some e2.1) (sk 276 (congrArg some e3.1) (zak _))) (List.sublist_append_right _ _) ?_)
    exact zbx (riQ 1 rfl rfl rfl rfl (zaj 4 rfl))
   ·
    intro vf pf hmu hR
    have e4 := hR 4 (by decide)
    refine dqQ [4] [4] rfl (zbo (sk 277 (congrArg some e4.1) (zak _)) (List.sublist_append_right _ _) ?_)
    exact zbx (liQ rfl rfl rfl (zaj 4 rfl))
   ·
    intro vf pf hmu hR
    refine dqQ [] [] rfl (zce (zas [6] rfl) ?_)
    exact zbx (zav rfl)
   intro vf pf hmu hR
   have e0 := hR 0 (by decide)
   have e1 := hR 1 (by decide)
   have e5 := hR 5 (by decide)
   have e6 := hR 6 (by decide)
   refine Or.inl ⟨rfl, ?_⟩
   show RunM _ _ _ (pf 9) (([0, 1, 5, 6] : List Nat).flatMap pf ++ _) (envOf _ vf [0, 1, 5, 6] ++ _) _ _
   rw [hmu]
   refine zdn (sk 273 (congrArg some e0.1) (sk 274 (congrArg some e1.1) (sk 278 (congrArg some e5.1) (sk 279 (congrArg some e6.1) (zak _))))) (by simp only [e0.2, e1.2, e5.2, e6.2, fS] <;> rfl) ?_
   exact zds (R := (fun u_ p_ => ∃ (v' ov : Value) (os : List Oq) (ps : List HP), u_ = .agg #[m7.sv, v', m7.iv, m7.mv] ∧ p_ = bigE [curE g a len cap, bigE ps] ∧ (∀ w, (bigE ps).holds w → RdsW w v' 2 (m7.gs ++ [As.mk (W2.2.getD k7 0) ov os]).length ((m7.gs ++ [As.mk (W2.2.getD k7 0) ov os]).flatMap asC) ∧ RdsW w ov 3 os.length (os.flatMap oqC)) ∧ v'.oneCell' = true ∧ ov.oneCell' = true ∧ ExP (m7.ss.length : Int) 9 os)) rfl rfl (fun L w hX hm => zea g a len cap z (m7.ss.length : Int) (Md.mk m7.sv m7.av m7.iv m7.mv m7.ss m7.gs m7.xs m7.ms) (W2.2.getD k7 0) U6.1 _ _ _ _ hm hb (fun w9 h9 => (zaj (l := (bigE ps7 :: rowE 38 3 m7.sv m7.ss.length (m7.ss.flatMap sgC) :: rowE 63 3 m7.iv m7.xs.length (m7.xs.flatMap ixC) :: rowE 94 4 m7.mv m7.ms.length (m7.ms.flatMap mmC) :: rowE 3 1 W2.1 W2.2.length (W2.2.map (Value.int .i64)) :: rowE 3 1 U6.1 U6.2.length (U6.2.map (Value.int .i64)) :: boxE b3 #[m7.sv, m7.av, m7.iv, m7.mv] 35 :: boxE b2 #[.slice none 0 0, .slice none 0 0, .slice none 0 0, .slice none 0 0] 35 :: boxE b1 #[v] 26 :: l)) 5 rfl) w9 (hX w9 h9)) (fun x hx => h7.av x hx) (by have h9 := h7.na; omega) (fun w9 h9 => (hp7 w9 ((hX w9 h9).holds _ (zcf (i := 0) rfl))).1) (by have h9 := h7.ng; show m7.gs.length ≤ 1000; omega) hone9 ⟨ho9.1, ho9.2.1, ho9.2.2.1, ho9.2.2.2⟩)
  intro vf pf hmu hR
  have e7 : (∃ pm_, (pf 7) = [pm_] ∧ (fun u_ p_ => ∃ (v' ov : Value) (os : List Oq) (ps : List HP), u_ = .agg #[m7.sv, v', m7.iv, m7.mv] ∧ p_ = bigE [curE g a len cap, bigE ps] ∧ (∀ w, (bigE ps).holds w → RdsW w v' 2 (m7.gs ++ [As.mk (W2.2.getD k7 0) ov os]).length ((m7.gs ++ [As.mk (W2.2.getD k7 0) ov os]).flatMap asC) ∧ RdsW w ov 3 os.length (os.flatMap oqC)) ∧ v'.oneCell' = true ∧ ov.oneCell' = true ∧ ExP (m7.ss.length : Int) 9 os) (vf 7) pm_) := hR 7 (by decide)
  obtain ⟨p211, pE7, hR212⟩ := e7
  obtain ⟨v210, vE7⟩ : ∃ x, vf 7 = x := ⟨_, rfl⟩
  rw [vE7] at hR212
  obtain ⟨avhR212, ovhR212, oshR212, aphR212, rfl, rfl, haphR212, oavhR212, oovhR212, hoshR212⟩ := hR212
  have q0 := hR 0 (by decide)
  have q1 := hR 1 (by decide)
  have q2 := hR 2 (by decide)
  have q3 := hR 3 (by decide)
  have q4 := hR 4 (by decide)
  have q5 := hR 5 (by decide)
  have q6 := hR 6 (by decide)
  refine zdg (zcu [270, 233, 89, 55, 33, 24, 7, 6, 5, 4, 3, 1, 0] _ (sk 280 (congrArg some vE7) (zak _)) rfl) (by simp only [pE7, vE7, q0.2, q1.2, q2.2, q3.2, q4.2, q5.2, q6.2, fS] <;> rfl) ?_
  simp only [List.drop_succ_cons, List.drop_zero]
  refine zbd (cs' := #[m7.sv, avhR212, m7.iv, m7.mv]) (i := 7) (off := 0) (us := [m7.sv, avhR212, m7.iv, m7.mv]) rfl rfl rfl rfl rfl rfl rfl (zab ho9.1 (zab oavhR212 (zab ho9.2.2.1 (zab ho9.2.2.2 zbc)))) rfl rfl rfl (zbn (zde (reQ 1 rfl (hvQ rfl (vaQ rfl rfl rfl) (enQ 1 rfl ?_)))))
  have hpd9 := pendR hW2 (show k7 < W2.2.length by omega)
  refine zbj 10 [9, 8, 7, 6, 5, 4, 3, 2, 1, 0] rfl rfl (by decide) ?_
  refine zdi (curE g a len cap :: bigE aphR212 :: bigE ps7 :: rowE 38 3 m7.sv m7.ss.length (m7.ss.flatMap sgC) :: rowE 63 3 m7.iv m7.xs.length (m7.xs.flatMap ixC) :: rowE 94 4 m7.mv m7.ms.length (m7.ms.flatMap mmC) :: rowE 3 1 W2.1 W2.2.length (W2.2.map (Value.int .i64)) :: rowE 3 1 U6.1 U6.2.length (U6.2.map (Value.int .i64)) :: boxE b3 #[m7.sv, avhR212, m7.iv, m7.mv] 35 :: boxE b2 #[.slice none 0 0, .slice none 0 0, .slice none 0 0, .slice none 0 0] 35 :: boxE b1 #[v] 26 :: l) zdf ?_
  refine zbj 11 [10, 9, 8, 7, 6, 5, 4, 3, 0, 1, 2] rfl rfl (by decide) ?_
  refine zcb 2 rfl ?_
  refine zbj 10 [1, 9, 8, 7, 6, 5, 4, 3, 2, 0] rfl rfl (by decide) ?_
  exact zcn (k7 + 1) (Md.mk m7.sv avhR212 m7.iv m7.mv m7.ss (m7.gs ++ [As.mk (W2.2.getD k7 0) ovhR212 oshR212]) m7.xs m7.ms) [bigE ps7, bigE aphR212] ⟨by omega, (h7.asg _ hpd9.1 _ hoshR212 (by show (m7.ss.length : Int) ≤ (m7.ss.length : Int); omega) hpd9.2).up (by omega) (by omega) (by omega) (by omega) (by omega) (by omega), fun w hw => ⟨(haphR212 w (zba hw (List.mem_cons_of_mem _ List.mem_cons_self))).1, (hp7 w (zba hw List.mem_cons_self)).2.1.app (haphR212 w (zba hw (List.mem_cons_of_mem _ List.mem_cons_self))).2, (hp7 w (zba hw List.mem_cons_self)).2.2⟩⟩ (by omega) (saQ rfl) (.refl _)
 refine ntQ (zar rfl ?_)
 refine zbl (zdx ?_)
 refine zan (zaq (srQ ?_))
 refine hl_know (p := (∀ g9 ∈ m7.gs, g9.ov.oneCell' = true) ∧ m7.sv.oneCell' = true ∧ m7.av.oneCell' = true ∧ m7.iv.oneCell' = true ∧ m7.mv.oneCell' = true) (fun w hm => ⟨fun g9 hg9 => ((hp7 w (hm.holds _ (zcf (i := 0) rfl))).2.1 g9 hg9).one, (zaj 1 rfl w hm).one, (hp7 w (hm.holds _ (zcf (i := 0) rfl))).1.one, (zaj 2 rfl w hm).one, (zaj 3 rfl w hm).one⟩) (fun ⟨hone9, ho9⟩ => ?_)
 refine hvQ rfl (zax (cs := [m7.sv, m7.av, m7.iv, m7.mv]) rfl rfl rfl rfl rfl (zat 6 rfl 0 rfl)) (zbd (cs' := #[m7.sv, m7.av, m7.iv, m7.mv]) (i := 7) (off := 0) (us := [m7.sv, m7.av, m7.iv, m7.mv]) rfl rfl rfl rfl rfl rfl rfl (zab ho9.1 (zab ho9.2.1 (zab ho9.2.2.1 (zab ho9.2.2.2 zbc)))) rfl rfl rfl ?_)
 refine ntQ ?_
 refine zap (zey (p := m7.sv.oneCell' = true ∧ m7.av.oneCell' = true ∧ m7.iv.oneCell' = true ∧ m7.mv.oneCell' = true) (fun w hm => ⟨(zaj 1 rfl w hm).one, (hp7 w (hm.holds _ (zcf (i := 0) rfl))).1.one, (zaj 2 rfl w hm).one, (zaj 3 rfl w hm).one⟩) (fun ho9 => ?_))
 refine zbj 10 [9, 8, 7, 6, 5, 4, 0, 3, 2, 1] rfl rfl (by decide) ?_
 refine zcb 4 rfl ?_
 refine zbj 7 [5, 4, 3, 2, 1, 0, 6] rfl rfl (by decide) ?_
 refine zcb 2 rfl ?_
 exact zcz (rs := [.cell 4 35]) (vs := [.agg #[m7.sv, m7.av, m7.iv, m7.mv]]) rfl ⟨⟨b2, 0, [m7.sv, m7.av, m7.iv, m7.mv], rfl, rfl, by kernel_rfl, by kernel_rfl, zat 4 rfl 0 rfl⟩, trivial⟩ rfl (fun w hm => ⟨_, bigE [curE g a len cap, bigE [rowE 38 3 m7.sv m7.ss.length (m7.ss.flatMap sgC), rowE 63 3 m7.iv m7.xs.length (m7.xs.flatMap ixC), rowE 94 4 m7.mv m7.ms.length (m7.ms.flatMap mmC), bigE ps7]], rfl, ⟨m7, [rowE 38 3 m7.sv m7.ss.length (m7.ss.flatMap sgC), rowE 63 3 m7.iv m7.xs.length (m7.xs.flatMap ixC), rowE 94 4 m7.mv m7.ms.length (m7.ms.flatMap mmC), bigE ps7], rfl, rfl, fun w hw => ⟨zco (zba hw List.mem_cons_self), (hp7 w (zba hw (List.mem_cons_of_mem _ (List.mem_cons_of_mem _ (List.mem_cons_of_mem _ List.mem_cons_self))))).1, (hp7 w (zba hw (List.mem_cons_of_mem _ (List.mem_cons_of_mem _ (List.mem_cons_of_mem _ List.mem_cons_self))))).2.1, zco (zba hw (List.mem_cons_of_mem _ List.mem_cons_self)), (hp7 w (zba hw (List.mem_cons_of_mem _ (List.mem_cons_of_mem _ (List.mem_cons_of_mem _ List.mem_cons_self))))).2.2, zco (zba hw (List.mem_cons_of_mem _ (List.mem_cons_of_mem _ List.mem_cons_self)))⟩, ho9, by have h9 := h7; rw [show k7 = W2.2.length by omega, List.drop_length] at h9; exact h9.fin (by omega) (by omega) (by omega) (by omega) (by omega)⟩, hm.sub (.cons_cons _ (.cons _ (.cons _ (.cons _ (.cons _ (.cons _ (.refl _)))))))⟩)
theorem l04Design_mut (g : Nat) (a : Option Addr) (len cap : Nat) (z : List Int) (w0 : World) (l : List HP) (w : World) (hm0 : Mem w0 (curE g a len cap :: l) w) (hb : BRow .u8 w0 a len cap z) :
   Calls Try.prog 45 #[.pointer (some ⟨g, 0, none⟩)] w (fun e_ w_ => ∃ v_ p_, e_ = .returned v_ ∧ (fun u_ p_ => ∃ (D : List Md) (v : Value) (ps : List HP), u_ = .agg #[v] ∧ p_ = bigE [curE g a len cap, bigE ps] ∧ (∀ w, (bigE ps).holds w → RdsDs w v D) ∧ v.oneCell' = true ∧ DdP D ∧ 1 ≤ D.length) v_ p_ ∧ Mem w0 (p_ :: l) w_) := by
 refine zet (N := 28) (args := [.pointer (some ⟨g, 0, none⟩)]) Try.func45 rfl rfl hm0 (srQ ?_)
 refine zdm rfl (zbe (z := .agg #[.slice none 0 0]) rfl rfl) ?_
 intro b1
 refine ntQ (srQ (hvQ rfl (zbh (cs := #[.slice none 0 0]) rfl rfl rfl) ?_))
 refine zdm rfl (zbe (z := .agg #[.slice none 0 0]) rfl rfl) ?_
 intro b2
 refine zbd (cs' := #[.slice none 0 0]) (i := 0) (off := 0) (us := [.slice none 0 0]) rfl rfl rfl rfl rfl rfl rfl (zab rfl zbc) rfl rfl rfl (ntQ (zag (reQ 1 rfl ?_)))
 refine zcl (R := (fun u_ p_ => (∃ x_ : Int, u_ = .int .i64 x_ ∧ 0 ≤ x_ ∧ x_ < 2) ∧ p_ = curE g a len cap)) 2 rfl rfl rfl rfl rfl (fun l' w hm => zcc g a len cap z 2 _ _ _ hm hb (by constructor <;> omega)) ?_
 intro v3 p4 hR5
 obtain ⟨⟨xhR5, rfl, xhR50, xhR51⟩, rfl⟩ := hR5
 refine zcr (l' := (boxE b2 #[.slice none 0 0] 26 :: boxE b1 #[.slice none 0 0] 26 :: curE g a len cap :: l)) rfl ?_
 refine zah 1 rfl (zcl (R := (fun u_ p_ => (∃ x_ : Int, u_ = .int .i64 x_ ∧ 0 ≤ x_ ∧ x_ < 2) ∧ p_ = curE g a len cap)) 2 rfl rfl rfl rfl rfl (fun l' w hm => zcc g a len cap z 2 _ _ _ hm hb (by constructor <;> omega)) ?_)
 intro v6 p7 hR8
 obtain ⟨⟨xhR8, rfl, xhR80, xhR81⟩, rfl⟩ := hR8
 refine zcr (l' := (boxE b2 #[.slice none 0 0] 26 :: boxE b1 #[.slice none 0 0] 26 :: curE g a len cap :: l)) rfl ?_
 refine hvQ rfl (vaQ rfl rfl rfl) (hvQ rfl (rv_mul rfl rfl rfl (by rcases (by omega : xhR5 = 0 ∨ xhR5 = 1) with e9 | e9 <;> rw [e9] <;> constructor <;> omega)) ?_)
 have hml9 : 0 ≤ xhR5 * (1 + xhR8) ∧ xhR5 * (1 + xhR8) ≤ 2 := by rcases (by omega : xhR5 = 0 ∨ xhR5 = 1) with e9 | e9 <;> rw [e9] <;> constructor <;> omega
 refine hvQ rfl (vaQ rfl rfl rfl) (zbb 1 rfl (zag (zbf 1 rfl (zaz ?_))))
 refine zes (bigE [] :: rowE 35 4 (.slice none 0 0) (([] : List Md).length) (([] : List Md).flatMap mdC) :: boxE b2 #[.slice none 0 0] 26 :: boxE b1 #[.slice none 0 0] 26 :: curE g a len cap :: l) (fun w hm => Mem.big (ps := []) (hm.nilRow 35 4)) ?_
 refine lkQ4 (α := Nat) (β := List Md) (γ := Value) (δ := List HP) [0, 2, 3, 4] rfl (fun k D v ps => (bigE ps :: rowE 35 4 v D.length (D.flatMap mdC) :: boxE b2 #[v] 26 :: boxE b1 #[.slice none 0 0] 26 :: curE g a len cap :: l)) (fun k D v ps => [(5, .int .i64 (k : Int))]) (fun k D v ps => (k : Int) ≤ 1 + (xhR5 * (1 + xhR8)) ∧ D.length = k ∧ DdP D ∧ ∀ w, (bigE ps).holds w → ∀ m ∈ D, RdsMd w m) (fun k D v ps => (1 + (xhR5 * (1 + xhR8))).toNat - k) 0 [] _ [] ⟨by omega, rfl, DdP.nil, fun w _ m hm => (by cases hm)⟩ (saQ rfl) (.refl _) ?_
 intro k D v ps hi9
 obtain ⟨hk, hdl, hdd, hp⟩ := hi9
 refine zag (zag (reQ 2 rfl ?_))
 refine zbq rfl rfl rfl rfl rfl rfl (fun h10 => ?_) (fun h10 => ?_)
 ·
  refine ntQ (zai rfl (zcy (sbQ ?_)))
  refine hc_know (p := v.oneCell' = true ∧ ∀ m ∈ D, m.sv.oneCell' = true ∧ m.av.oneCell' = true ∧ m.iv.oneCell' = true ∧ m.mv.oneCell' = true) (fun w hm => ⟨(zaj 1 rfl w hm).one, fun m9 hm9 => (hp w (hm.holds _ (zcf (i := 0) rfl)) m9 hm9).ones⟩) (fun ⟨hv9, ho9⟩ => ?_)
  refine zfu 5 [3, 2, 1, 0, 4] rfl rfl (by decide) ?_
  refine zeu (l := (bigE ps :: rowE 35 4 v D.length (D.flatMap mdC) :: boxE b2 #[v] 26 :: boxE b1 #[.slice none 0 0] 26 :: l)) rfl 6 [0, 1, 2, 3, 4, 5] (List.take 6 _) (List.drop 6 _) [[], [0], [], [], [2, 3], [4]] [19, 20, 21, 22, 23, 24] (fun i_ vs_ v_ p_ => match i_ with | 0 => v_ = .pointer (some ⟨b2, 0 + 0, none⟩) ∧ p_ = [] | 1 => v_ = v ∧ p_ = [] | 2 => v_ = .pointer (some ⟨g, 0, none⟩) ∧ p_ = [] | 3 => v_ = .agg #[v] ∧ p_ = [] | 4 => (∃ pm_, p_ = [pm_] ∧ (fun u_ p_ => ∃ (m : Md) (ps : List HP), u_ = m.agg ∧ p_ = bigE [curE g a len cap, bigE ps] ∧ (∀ w, (bigE ps).holds w → RdsMd w m) ∧ (m.sv.oneCell' = true ∧ m.av.oneCell' = true ∧ m.iv.oneCell' = true ∧ m.mv.oneCell' = true) ∧ DmP D m) v_ pm_) | 5 => IsRow 35 4 1 ([(agK 0 (List.getD vs_ 0 undef)), (agK 1 (List.getD vs_ 0 undef)), (agK 2 (List.getD vs_ 0 undef)), (agK 3 (List.getD vs_ 0 undef))]) v_ p_ | _ => True) [[], [0], [], [], [2, 3], [4]] [none, none, none, none, some 9, none] [curE g a len cap] [0, 1, 2, 3, 4, 5] 9 (List.take_append_drop 6 _).symm (by kernel_rfl) (by kernel_rfl) (by kernel_rfl) rfl rfl ?_ ?_
  ·
   refine ⟨?_, ?_, ?_, ?_, ?_, ?_, trivial⟩
   ·
    intro vf pf hmu hR
    refine dqQ [] [] rfl (zce (zas [3] rfl) ?_)
    exact zbx (fdQ 0 rfl rfl rfl)
   ·
    intro vf pf hmu hR
    have e0 := hR 0 (by decide)
    refine dqQ [0] [0] rfl (zbo (sk 19 (congrArg some e0.1) (zak _)) (List.sublist_append_right _ _) ?_)
    exact zbx (zad rfl rfl rfl (zaa 2 rfl rfl))
   ·
    intro vf pf hmu hR
    refine dqQ [] [] rfl (zce (zas [0] rfl) ?_)
    exact zbx (zav rfl)
   ·
    intro vf pf hmu hR
    refine dqQ [] [] rfl (zbo (zas [3] rfl) (List.sublist_append_right _ _) ?_)
    exact zbx (zax (cs := [v]) rfl rfl rfl rfl rfl (zat 2 rfl 0 rfl))
   ·
    intro vf pf hmu hR
    have e2 := hR 2 (by decide)
    have e3 := hR 3 (by decide)
    refine Or.inl ⟨rfl, ?_⟩
    show RunM _ _ _ (pf 9) (([2, 3] : List Nat).flatMap pf ++ _) (envOf _ vf [2, 3] ++ _) _ _
    rw [hmu]
    exact zdn (sk 21 (congrArg some e2.1) (sk 22 (congrArg some e3.1) (zak _))) (by simp only [e2.2, e3.2, fS] <;> rfl) (zds (R := (fun u_ p_ => ∃ (m : Md) (ps : List HP), u_ = m.agg ∧ p_ = bigE [curE g a len cap, bigE ps] ∧ (∀ w, (bigE ps).holds w → RdsMd w m) ∧ (m.sv.oneCell' = true ∧ m.av.oneCell' = true ∧ m.iv.oneCell' = true ∧ m.mv.oneCell' = true) ∧ DmP D m)) rfl rfl (fun L w hX hm => l04Module_mut g a len cap z D v _ _ _ hm hb (fun w9 h9 => ⟨(zaj (l := (bigE ps :: rowE 35 4 v D.length (D.flatMap mdC) :: boxE b2 #[v] 26 :: boxE b1 #[.slice none 0 0] 26 :: l)) 1 rfl) w9 (hX w9 h9), fun m9 hm9 => hp w9 ((hX w9 h9).holds _ (zcf (i := 0) rfl)) m9 hm9⟩) hdd (by omega) hv9 ho9))
   intro vf pf hmu hR
   have e4 : (∃ pm_, (pf 4) = [pm_] ∧ (fun u_ p_ => ∃ (m : Md) (ps : List HP), u_ = m.agg ∧ p_ = bigE [curE g a len cap, bigE ps] ∧ (∀ w, (bigE ps).holds w → RdsMd w m) ∧ (m.sv.oneCell' = true ∧ m.av.oneCell' = true ∧ m.iv.oneCell' = true ∧ m.mv.oneCell' = true) ∧ DmP D m) (vf 4) pm_) := hR 4 (by decide)
   obtain ⟨p12, pE4, hR13⟩ := e4
   obtain ⟨v11, vE4⟩ : ∃ x, vf 4 = x := ⟨_, rfl⟩
   rw [vE4] at hR13
   obtain ⟨mhR13, mphR13, rfl, rfl, hmphR13, hmohR13, hdmhR13⟩ := hR13
   refine dqQ [4] [4] rfl (zck (sk 23 (congrArg some vE4) (zak _)) (by simp only [pE4, vE4, fS] <;> rfl) ?_)
   exact zct (zal (z := .agg #[.slice none 0 0, .slice none 0 0, .slice none 0 0, .slice none 0 0]) (s := 4) (cs := [mhR13.sv, mhR13.av, mhR13.iv, mhR13.mv]) rfl Try.underlying24 rfl (by decide) rfl (by kernel_rfl) rfl) (fun v_ p_ h => by show IsRow 35 4 1 ([(agK 0 (vf 4)), (agK 1 (vf 4)), (agK 2 (vf 4)), (agK 3 (vf 4))]) v_ p_; rw [vE4]; exact h)
  intro vf pf hmu hR
  have e1 := hR 1 (by decide)
  have e4 : (∃ pm_, (pf 4) = [pm_] ∧ (fun u_ p_ => ∃ (m : Md) (ps : List HP), u_ = m.agg ∧ p_ = bigE [curE g a len cap, bigE ps] ∧ (∀ w, (bigE ps).holds w → RdsMd w m) ∧ (m.sv.oneCell' = true ∧ m.av.oneCell' = true ∧ m.iv.oneCell' = true ∧ m.mv.oneCell' = true) ∧ DmP D m) (vf 4) pm_) := hR 4 (by decide)
  obtain ⟨p12, pE4, hR13⟩ := e4
  obtain ⟨v11, vE4⟩ : ∃ x, vf 4 = x := ⟨_, rfl⟩
  rw [vE4] at hR13
  obtain ⟨mhR13, mphR13, rfl, rfl, hmphR13, hmohR13, hdmhR13⟩ := hR13
  have e5 : IsRow 35 4 1 ([(agK 0 (vf 4)), (agK 1 (vf 4)), (agK 2 (vf 4)), (agK 3 (vf 4))]) (vf 5) (pf 5) := hR 5 (by decide)
  rw [vE4] at e5
  obtain ⟨g14, vE5, pE5⟩ := e5
  have q0 := hR 0 (by decide)
  have q1 := hR 1 (by decide)
  have q2 := hR 2 (by decide)
  have q3 := hR 3 (by decide)
  refine zdg (zcu [16, 5, 4, 3, 2, 0] _ (sk 20 (congrArg some e1.1) (sk 24 (congrArg some vE5) (zak _))) rfl) (by simp only [pE4, vE4, pE5, vE5, q0.2, q1.2, q2.2, q3.2, fS] <;> rfl) ?_
  simp only [List.drop_succ_cons, List.drop_zero]
  refine zcp (i := 3) (z := .agg #[.slice none 0 0, .slice none 0 0, .slice none 0 0, .slice none 0 0]) (bytes := 96) rfl rfl rfl rfl Try.underlying24 (by kernel_rfl) rfl rfl rfl rfl (zaj 1 rfl) (zab hmohR13.1 (zab hmohR13.2.1 (zab hmohR13.2.2.1 (zab hmohR13.2.2.2 zbc)))) (by first | omega | (simp only [List.length_append, List.length_cons, List.length_nil]; omega)) (zci D [mhR13]) (zdc mdC D mhR13 _ rfl) (fun _ => rfl) ?_
  intro v15
  refine hvQ rfl (fdQ 0 rfl rfl rfl) (zcq (i := 3) rfl (fun ho16 => ?_))
  refine zei (i := 4) (cs' := #[v15]) rfl rfl rfl rfl rfl rfl ho16 rfl rfl rfl rfl (zbn (zde (reQ 1 rfl (hvQ rfl (vaQ rfl rfl rfl) (enQ 1 rfl ?_)))))
  refine zbj 6 [5, 4, 3, 2, 1, 0] rfl rfl (by decide) ?_
  refine zdi (curE g a len cap :: bigE mphR13 :: rowE 35 4 (.slice (some ⟨g14, 0, none⟩) 1 1) 1 ([mhR13.sv, mhR13.av, mhR13.iv, mhR13.mv]) :: bigE ps :: rowE 35 4 v15 ((D ++ [mhR13]).length) ((D ++ [mhR13]).flatMap mdC) :: boxE b2 #[v15] 26 :: boxE b1 #[.slice none 0 0] 26 :: l) zdf ?_
  refine zbj 7 [6, 5, 4, 2, 0, 1, 3] rfl rfl (by decide) ?_
  refine zcb 2 rfl ?_
  refine zbj 6 [1, 5, 4, 3, 0] rfl rfl (by decide) ?_
  exact zdr (k + 1) (D ++ [mhR13]) v15 [bigE ps, bigE mphR13] ⟨by omega, by rw [List.length_append, List.length_singleton]; omega, hdd.app (by omega) hdmhR13, fun w hw m9 hm9 => (List.mem_append.1 hm9).elim (fun h8 => hp w (zba hw List.mem_cons_self) m9 h8) (fun h8 => by rw [List.mem_singleton] at h8; subst h8; exact hmphR13 w (zba hw (List.mem_cons_of_mem _ List.mem_cons_self)))⟩ (by omega) (saQ rfl) (.refl _)
 refine ntQ (zar rfl ?_)
 refine zbl (zdx ?_)
 refine zan (zaq (srQ (hvQ rfl (zax (cs := [v]) rfl rfl rfl rfl rfl (zat 2 rfl 0 rfl)) ?_)))
 refine zcq (i := 1) rfl (fun ho17 => ?_)
 refine zbd (cs' := #[v]) (i := 3) (off := 0) (us := [v]) rfl rfl rfl rfl rfl rfl rfl (zab ho17 zbc) rfl rfl rfl (ntQ ?_)
 refine zap (zey (fun w hm => (zaj 1 rfl w hm).one) (fun ho9 => ?_))
 refine zbj 5 [4, 3, 2, 0, 1] rfl rfl (by decide) ?_
 refine zcb 2 rfl ?_
 refine zbj 4 [2, 1, 0, 3] rfl rfl (by decide) ?_
 refine zcb 2 rfl ?_
 exact zcz (rs := [.cell 2 26]) (vs := [.agg #[v]]) rfl ⟨⟨b1, 0, [v], rfl, rfl, by kernel_rfl, by kernel_rfl, zat 2 rfl 0 rfl⟩, trivial⟩ rfl (fun w hm => ⟨_, bigE [curE g a len cap, bigE [rowE 35 4 v D.length (D.flatMap mdC), bigE ps]], rfl, ⟨D, v, [rowE 35 4 v D.length (D.flatMap mdC), bigE ps], rfl, rfl, fun w hw => ⟨zco (zba hw List.mem_cons_self), hp w (zba hw (List.mem_cons_of_mem _ List.mem_cons_self))⟩, ho9, hdd, by omega⟩, hm.sub (.cons_cons _ (.cons _ (.cons _ (.refl _))))⟩)
theorem l06Add_step (D : List Md) (f k : Nat) (p : Int) (c : Bool) (P : List Int) (F : Fz) (gs : List As) (v uP sv av mv : Value) (ps : List HP) (w0 : World) (l : List HP) (w : World) (hm0 : Mem w0 (bigE (flQ sv av mv F.ss gs F.ms ps) :: l) w) (hd : ∀ w, Mem w0 l w → RdsDs w v D) (hP : ∀ w, Mem w0 l w → RdsW w uP 1 P.length (P.map (Value.int .i64))) (hdp : DesP D) (hkl : k < D.length) (hF : F.Ok) (hPo : PoP (D.getD k md0) c P F.ss.length) (hgs : gs.map asV = F.gs) (hps : ∀ w, (bigE ps).holds w → OpsR w gs) (IH : ∀ (kx : Nat) (p2 : Int) (P2 : List Int) (F2 : Fz) (gs2 : List As) (ux sv2 av2 mv2 : Value) (ps2 l2 : List HP) (w2 : World), kx < k → F2.Ok → PoP (D.getD kx md0) true P2 F2.ss.length → gs2.map asV = F2.gs → (∀ w, (bigE ps2).holds w → OpsR w gs2) → (∀ w, Mem w0 l2 w → RdsDs w v D) → (∀ w, Mem w0 l2 w → RdsW w ux 1 P2.length (P2.map (Value.int .i64))) → Mem w0 (bigE (flQ sv2 av2 mv2 F2.ss gs2 F2.ms ps2) :: l2) w2 → Calls Try.prog 70 #[.agg #[v], .int .i64 (kx : Int), .int .i64 p2, .bool true, ux, .agg #[sv2, av2, .slice none 0 0, mv2]] w2 (fun e_ w_ => ∃ v_ p_, e_ = .returned v_ ∧ AddR (addF D f kx p2 true P2 F2) v_ p_ ∧ Mem w0 (p_ :: l2) w_)) :
   Calls Try.prog 70 #[.agg #[v], .int .i64 (k : Int), .int .i64 p, .bool c, uP, .agg #[sv, av, .slice none 0 0, mv]] w (fun e_ w_ => ∃ v_ p_, e_ = .returned v_ ∧ (fun u_ p_ => AddR (addF D (f + 1) k p c P F) u_ p_) v_ p_ ∧ Mem w0 (p_ :: l) w_) := by
 have hd9 := hd w (hm0.sub (List.sublist_cons_self _ _))
 have hm9 := hd9.at (k := k) hkl
 have hP9 := sml (hP w (hm0.sub (List.sublist_cons_self _ _)))
 have hmod := hdp.2 k hkl
 have hln := hmod.cnt.md k hkl
 obtain ⟨hF1, hF2, hF3⟩ := hF
 obtain ⟨hln1, hln2, hln3, hln4⟩ := id hln
 have hdl := hmod.cnt.len
 have hfl9 : F.gs.length = gs.length := by rw [← hgs, List.length_map]
 refine zet (N := 270) (args := [.agg #[v], .int .i64 (k : Int), .int .i64 p, .bool c, uP, .agg #[sv, av, .slice none 0 0, mv]]) Try.func70 rfl rfl (l := (rowE 38 3 sv F.ss.length (F.ss.flatMap sgC) :: rowE 89 2 av gs.length (gs.flatMap asC) :: rowE 94 4 mv F.ms.length (F.ms.flatMap mmC) :: bigE ps :: l)) hm0.unbig (srQ ?_)
 refine zdm rfl (zdk rfl rfl) ?_
 intro b1
 refine zdm rfl (zdk rfl rfl) ?_
 intro b2
 refine zdm rfl (zbe (z := .agg #[.slice none 0 0, .slice none 0 0, .slice none 0 0, .slice none 0 0]) rfl rfl) ?_
 intro b3
 refine zbb 1 rfl (srQ (hvQ rfl (fdQ 0 rfl rfl rfl) (hvQ rfl (zad rfl rfl rfl (zaa 2 rfl rfl)) (zah 1 rfl ?_))))
 refine hvQ rfl (riQ 4 rfl rfl rfl rfl (fun w hm => ((hd w (hm.sub (.cons _ (.cons _ (.cons _ (.cons _ (.cons _ (.cons _ (.cons _ (.refl _)))))))))).row))) (hvQ rfl (zbm (us := [(D.getD k md0).sv, (D.getD k md0).av, (D.getD k md0).iv, (D.getD k md0).mv]) rfl rfl rfl rfl (fun w hm => ((hd w (hm.sub (.cons _ (.cons _ (.cons _ (.cons _ (.cons _ (.cons _ (.cons _ (.refl _)))))))))).row)) (by omega) rfl (zbz mdC 4 (fun _ => rfl) D md0 (show k < _ by omega) rfl)) ?_)
 refine zdm rfl (zbe (z := .agg #[.slice none 0 0, .slice none 0 0, .slice none 0 0, .slice none 0 0]) rfl rfl) ?_
 intro b4
 refine zbd (cs' := #[(D.getD k md0).sv, (D.getD k md0).av, (D.getD k md0).iv, (D.getD k md0).mv]) (i := 0) (off := 0) (us := [(D.getD k md0).sv, (D.getD k md0).av, (D.getD k md0).iv, (D.getD k md0).mv]) rfl rfl rfl rfl rfl rfl rfl (zab hm9.s.one (zab hm9.g.one (zab hm9.x.one (zab hm9.m.one zbc)))) rfl rfl rfl (ntQ (srQ ?_))
 refine zdt rfl (zdo (s := 1) rfl Try.underlying48 rfl) ?_
 intro g5
 refine zbb 1 rfl (zbf 1 rfl (zag (zag (reQ 1 rfl ?_))))
 refine ntQ (zaz ?_)
 refine hc_loop5 (α := Nat) (β := Nat) (γ := List Int) (δ := List Sg) (fun i n ids S q => (rowE 3 1 q.1 ids.length (ids.map (Value.int .i64)) :: boxE b4 #[(D.getD k md0).sv, (D.getD k md0).av, (D.getD k md0).iv, (D.getD k md0).mv] 35 :: boxE b3 #[.slice none 0 0, .slice none 0 0, .slice none 0 0, .slice none 0 0] 35 :: boxE b2 #[q.2, av, .slice none 0 0, mv] 35 :: boxE b1 #[v] 26 :: rowE 38 3 q.2 S.length (S.flatMap sgC) :: rowE 89 2 av gs.length (gs.flatMap asC) :: rowE 94 4 mv F.ms.length (F.ms.flatMap mmC) :: bigE ps :: l)) (fun i n ids S q => [(0, .agg #[v]), (1, .int .i64 (k : Int)), (2, .int .i64 p), (3, .bool c), (4, uP), (5, .agg #[sv, av, .slice none 0 0, mv]), (6, .pointer (some ⟨b1, 0, none⟩)), (11, .pointer (some ⟨b2, 0, none⟩)), (12, .pointer (some ⟨b3, 0, none⟩)), (13, .bool false), (14, .pointer (some ⟨b4, 0, none⟩)), (15, q.1), (16, .int .i64 (n : Int)), (17, .int .i64 (i : Int))]) (fun i n ids S q => i ≤ (D.getD k md0).ss.length ∧ sgF (D.getD k md0) p c P F.ss i = some (ids, n, S)) (fun i n ids S q => (D.getD k md0).ss.length - i) 0 0 [] F.ss (.slice (some ⟨g5, 0, none⟩) 0 0, sv) ⟨Nat.zero_le _, rfl⟩ (zas [17, 16, 15, 14, 13, 12, 11, 6, 5, 4, 3, 2, 1, 0] rfl) (.refl _) ?_
 intro i n ids S q hi6
 obtain ⟨hi, hs⟩ := hi6
 obtain ⟨hil, hin, hnn, hsl, hsu⟩ := sgF_ok hPo hln.1 i _ hi hs
 have hil : ids.length = i := hil
 have hin : InN S.length ids := hin
 have hnn : n = ptN _ c i := hnn
 have hsl : F.ss.length ≤ S.length := hsl
 have hsu : S.length ≤ F.ss.length + i := hsu
 refine zag (zag (reQ 1 rfl (hvQ rfl (fdQ 0 rfl rfl rfl) (hvQ rfl (zad rfl rfl rfl (zaa 1 rfl rfl)) ?_))))
 refine hvQ rfl (lnQ rfl rfl rfl (fun w hm => (((hd w (hm.sub (.cons _ (.cons _ (.cons _ (.cons _ (.cons _ (.cons _ (.cons _ (.cons _ (.cons _ (.refl _)))))))))))).at (k := k) hkl).s))) (zbq rfl rfl rfl rfl rfl rfl (fun h7 => ?_) (fun h7 => ?_))
 ·
  refine ntQ (zai rfl (zcy (sbQ (srQ (hvQ rfl (fdQ 0 rfl rfl rfl) (hvQ rfl (zad rfl rfl rfl (zaa 1 rfl rfl)) (zah 1 rfl ?_)))))))
  refine hvQ rfl (riQ 3 rfl rfl rfl rfl (fun w hm => (((hd w (hm.sub (.cons _ (.cons _ (.cons _ (.cons _ (.cons _ (.cons _ (.cons _ (.cons _ (.cons _ (.refl _)))))))))))).at (k := k) hkl).s))) (hvQ rfl (zbm (us := [.int .i64 ((((D.getD k md0).ss).getD i sg0).k), .int .i64 ((((D.getD k md0).ss).getD i sg0).w), .int .i64 ((((D.getD k md0).ss).getD i sg0).i)]) rfl rfl rfl rfl (fun w hm => (((hd w (hm.sub (.cons _ (.cons _ (.cons _ (.cons _ (.cons _ (.cons _ (.cons _ (.cons _ (.cons _ (.refl _)))))))))))).at (k := k) hkl).s)) (by omega) rfl (zbz sgC 3 (fun _ => rfl) ((D.getD k md0).ss) sg0 (show i < _ by omega) rfl)) ?_)
  refine zdm rfl (zbe (z := .agg #[.int .i64 0, .int .i64 0, .int .i64 0]) rfl rfl) ?_
  intro b8
  refine zbd (cs' := #[.int .i64 ((((D.getD k md0).ss).getD i sg0).k), .int .i64 ((((D.getD k md0).ss).getD i sg0).w), .int .i64 ((((D.getD k md0).ss).getD i sg0).i)]) (i := 0) (off := 0) (us := [.int .i64 ((((D.getD k md0).ss).getD i sg0).k), .int .i64 ((((D.getD k md0).ss).getD i sg0).w), .int .i64 ((((D.getD k md0).ss).getD i sg0).i)]) rfl rfl rfl rfl rfl rfl rfl (zab rfl (zab rfl (zab rfl zbc))) rfl rfl rfl (ntQ ?_)
  refine zgg (α := Int) (fun wd => (boxE b8 #[.int .i64 ((((D.getD k md0).ss).getD i sg0).k), .int .i64 wd, .int .i64 ((((D.getD k md0).ss).getD i sg0).i)] 38 :: rowE 3 1 q.1 ids.length (ids.map (Value.int .i64)) :: boxE b4 #[(D.getD k md0).sv, (D.getD k md0).av, (D.getD k md0).iv, (D.getD k md0).mv] 35 :: boxE b3 #[.slice none 0 0, .slice none 0 0, .slice none 0 0, .slice none 0 0] 35 :: boxE b2 #[q.2, av, .slice none 0 0, mv] 35 :: boxE b1 #[v] 26 :: rowE 38 3 q.2 S.length (S.flatMap sgC) :: rowE 89 2 av gs.length (gs.flatMap asC) :: rowE 94 4 mv F.ms.length (F.ms.flatMap mmC) :: bigE ps :: l)) (fun wd => [(0, .agg #[v]), (1, .int .i64 (k : Int)), (2, .int .i64 p), (3, .bool c), (4, uP), (5, .agg #[sv, av, .slice none 0 0, mv]), (6, .pointer (some ⟨b1, 0, none⟩)), (11, .pointer (some ⟨b2, 0, none⟩)), (12, .pointer (some ⟨b3, 0, none⟩)), (13, .bool false), (14, .pointer (some ⟨b4, 0, none⟩)), (15, q.1), (16, .int .i64 (n : Int)), (17, .int .i64 (i : Int)), (18, .pointer (some ⟨b8, 0, none⟩)), (42, .bool true)]) (fun wd => wd = wdF p ((D.getD k md0).ss.getD i sg0)) ?_ ?_
  ·
   refine srQ (hvQ rfl (fdQ 1 rfl rfl rfl) (hvQ rfl (zad rfl rfl rfl (zaa 0 rfl rfl)) ?_))
   refine zbt rfl rfl rfl rfl rfl rfl (fun h9 => ?_) (fun h9 => ?_)
   ·
    refine ntQ (zai rfl (reQ 1 rfl (hvQ rfl (fdQ 1 rfl rfl rfl) ?_)))
    refine zei (i := 0) (cs' := #[.int .i64 ((((D.getD k md0).ss).getD i sg0).k), .int .i64 p, .int .i64 ((((D.getD k md0).ss).getD i sg0).i)]) rfl rfl rfl rfl rfl rfl rfl rfl rfl rfl rfl (zbn ?_)
    exact zed p (by unfold wdF; first | rw [if_pos (by omega)] | rw [if_neg (by omega)]) (saQ rfl) (.refl _)
   refine ntQ (fsQ rfl ?_)
   exact zed ((((D.getD k md0).ss).getD i sg0).w) (by unfold wdF; first | rw [if_pos (by omega)] | rw [if_neg (by omega)]) (saQ rfl) (.refl _)
  intro wd hm10
  have hwd := hm10
  refine zag (zag (reQ 1 rfl ?_))
  refine zbs (fun h11 => ?_) (fun h11 => ?_)
  ·
   refine zah 1 rfl (hvQ rfl (fdQ 0 rfl rfl rfl) (hvQ rfl (zad rfl rfl rfl (zaa 0 rfl rfl)) ?_))
   refine zbt rfl rfl rfl rfl rfl rfl (fun h12 => ?_) (fun h12 => ?_)
   ·
    refine zbb 6 rfl (zai rfl (zag (zag ?_)))
    have hpt : isPt ((D.getD k md0).ss.getD i sg0) = true := zfe.2 (by omega)
    have hnp : n < P.length := by rw [hnn]; exact ptN_lt hPo hln.1 (by omega) (by assumption) hpt
    have hpr := (hPo (by assumption)).2.at hnp
    rcases Bool.eq_false_or_eq_true (((S.getD ((P.getD n 0).toNat) sg0).w) != wd) with hb13 | hb13
    ·
     have hb13p : (S.getD ((P.getD n 0).toNat) sg0).w ≠ wd := bne_iff_ne.1 hb13
     refine zbu 12 [[], [0], [], [], [2, 3], [4], [1, 5], [6], [7], [], [9], [8, 10]] [66, 67, 68, 69, 70, 71, 72, 73, 74, 75, 76, 77] [.pointer (some ⟨b2, 0 + 0, none⟩), q.2, uP, .int .i64 (n : Int), elP uP (((n : Int)).toNat * 1), .int .i64 (P.getD n 0), elP q.2 ((P.getD n 0).toNat * 3), elP q.2 ((P.getD n 0).toNat * 3 + 1), .int .i64 ((S.getD ((P.getD n 0).toNat) sg0).w), .pointer (some ⟨b8, 0 + 1, none⟩), .int .i64 wd, .bool true] (by kernel_rfl) rfl ?_ ?_
     ·
      exact ⟨iaQ rfl (fdQ 0 rfl rfl rfl) rfl, iaQ rfl (zad rfl rfl rfl (zaa 4 rfl rfl)) rfl, iaQ rfl (zav rfl) rfl, iaQ rfl (zav rfl) rfl, iaQ rfl (riQ 1 rfl rfl rfl rfl (fun w hm => hP w (hm.sub (.cons _ (.cons _ (.cons _ (.cons _ (.cons _ (.cons _ (.cons _ (.cons _ (.cons _ (.cons _ (.refl _)))))))))))))) rfl, iaQ rfl (liQ rfl rfl rfl (fun w hm => hP w (hm.sub (.cons _ (.cons _ (.cons _ (.cons _ (.cons _ (.cons _ (.cons _ (.cons _ (.cons _ (.cons _ (.refl _)))))))))))))) rfl, iaQ rfl (riQ 3 rfl rfl rfl rfl (zaj 6 rfl)) rfl, iaQ rfl (zau (k0 := 1) rfl rfl rfl (zaj 6 rfl) (by omega)) rfl, iaQ rfl (zam (u := .int .i64 ((S.getD ((P.getD n 0).toNat) sg0).w)) rfl rfl rfl (zaj 6 rfl) ((zbi sgC 3 (fun _ => rfl) S sg0 (show (P.getD n 0).toNat < _ by omega) (by decide)).trans rfl)) rfl, iaQ rfl (fdQ 1 rfl rfl rfl) rfl, iaQ rfl (zad rfl rfl rfl (zaa 0 rfl rfl)) rfl, .inl ⟨rfl, zdq (zcj rfl rfl rfl rfl) hb13⟩, trivial⟩
     simp only [List.drop_succ_cons, List.drop_zero]
     refine ntQ (zai rfl (srQ (hvQ rfl (zax (cs := [q.2, av, .slice none 0 0, mv]) rfl rfl rfl rfl rfl (zat 4 rfl 0 rfl)) ?_)))
     refine zcq (i := 8) rfl (fun ho14 => ?_)
     refine zcq (i := 7) rfl (fun ho15 => ?_)
     refine zcq (i := 6) rfl (fun ho16 => ?_)
     refine zbd (cs' := #[q.2, av, .slice none 0 0, mv]) (i := 3) (off := 0) (us := [q.2, av, .slice none 0 0, mv]) rfl rfl rfl rfl rfl rfl rfl (zab ho16 (zab ho15 (zab rfl (zab ho14 zbc)))) rfl rfl rfl (zbb 1 rfl ?_)
     refine zap (zdy ?_)
     refine zac (zdy ?_)
     refine zac (zaf ?_)
     refine zey (p := q.2.oneCell' = true ∧ av.oneCell' = true ∧ mv.oneCell' = true) (fun w hm => ⟨(zaj 6 rfl w hm).one, (zaj 7 rfl w hm).one, (zaj 8 rfl w hm).one⟩) (fun ho9 => ?_)
     refine zdi (bigE [] :: boxE b8 #[.int .i64 ((((D.getD k md0).ss).getD i sg0).k), .int .i64 wd, .int .i64 ((((D.getD k md0).ss).getD i sg0).i)] 38 :: rowE 3 1 q.1 ids.length (ids.map (Value.int .i64)) :: boxE b4 #[(D.getD k md0).sv, (D.getD k md0).av, (D.getD k md0).iv, (D.getD k md0).mv] 35 :: boxE b3 #[q.2, av, .slice none 0 0, mv] 35 :: boxE b2 #[q.2, av, .slice none 0 0, mv] 35 :: boxE b1 #[v] 26 :: rowE 38 3 q.2 S.length (S.flatMap sgC) :: rowE 89 2 av gs.length (gs.flatMap asC) :: rowE 94 4 mv F.ms.length (F.ms.flatMap mmC) :: bigE ps :: l) zdu ?_
     exact zcz (rs := [.cell 12 35, .tmp 13]) (vs := [.agg #[q.2, av, .slice none 0 0, mv], .bool false]) rfl ⟨⟨b3, 0, [q.2, av, .slice none 0 0, mv], rfl, rfl, by kernel_rfl, by kernel_rfl, zat 4 rfl 0 rfl⟩, rfl, trivial⟩ rfl (fun w hm => ⟨_, bigE [], rfl, ⟨_, _, _, false, _, rfl, rfl, ho9, (fun h => by cases h), fun _ => by first | exact zfy (sgF_bad hs (by assumption) hpt (by omega)) (by omega) | exact addF_big hsF (fun h9 => by have h8 := hoi.1 h9; omega) | exact (addF_go hsF hokF).trans (zfv (i := ux + 1) (by rw [zfq hH, hk2, ← hzp, ← hpp]; exact hnoNone (by assumption)) _ (by omega))⟩, hm.sub (.cons_cons _ (.cons _ (.cons _ (.cons _ (.cons _ (.cons _ (.cons _ (.cons _ (.cons _ (.cons _ (.cons _ (.refl _))))))))))))⟩)
    have hb13p : (S.getD ((P.getD n 0).toNat) sg0).w = wd := (bne_eq_false_iff_eq.1 hb13)
    refine zbu 12 [[], [0], [], [], [2, 3], [4], [1, 5], [6], [7], [], [9], [8, 10]] [66, 67, 68, 69, 70, 71, 72, 73, 74, 75, 76, 77] [.pointer (some ⟨b2, 0 + 0, none⟩), q.2, uP, .int .i64 (n : Int), elP uP (((n : Int)).toNat * 1), .int .i64 (P.getD n 0), elP q.2 ((P.getD n 0).toNat * 3), elP q.2 ((P.getD n 0).toNat * 3 + 1), .int .i64 ((S.getD ((P.getD n 0).toNat) sg0).w), .pointer (some ⟨b8, 0 + 1, none⟩), .int .i64 wd, .bool false] (by kernel_rfl) rfl ?_ ?_
    ·
     exact ⟨iaQ rfl (fdQ 0 rfl rfl rfl) rfl, iaQ rfl (zad rfl rfl rfl (zaa 4 rfl rfl)) rfl, iaQ rfl (zav rfl) rfl, iaQ rfl (zav rfl) rfl, iaQ rfl (riQ 1 rfl rfl rfl rfl (fun w hm => hP w (hm.sub (.cons _ (.cons _ (.cons _ (.cons _ (.cons _ (.cons _ (.cons _ (.cons _ (.cons _ (.cons _ (.refl _)))))))))))))) rfl, iaQ rfl (liQ rfl rfl rfl (fun w hm => hP w (hm.sub (.cons _ (.cons _ (.cons _ (.cons _ (.cons _ (.cons _ (.cons _ (.cons _ (.cons _ (.cons _ (.refl _)))))))))))))) rfl, iaQ rfl (riQ 3 rfl rfl rfl rfl (zaj 6 rfl)) rfl, iaQ rfl (zau (k0 := 1) rfl rfl rfl (zaj 6 rfl) (by omega)) rfl, iaQ rfl (zam (u := .int .i64 ((S.getD ((P.getD n 0).toNat) sg0).w)) rfl rfl rfl (zaj 6 rfl) ((zbi sgC 3 (fun _ => rfl) S sg0 (show (P.getD n 0).toNat < _ by omega) (by decide)).trans rfl)) rfl, iaQ rfl (fdQ 1 rfl rfl rfl) rfl, iaQ rfl (zad rfl rfl rfl (zaa 0 rfl rfl)) rfl, .inl ⟨rfl, zdq (zcj rfl rfl rfl rfl) hb13⟩, trivial⟩
    simp only [List.drop_succ_cons, List.drop_zero]
    refine ntQ (zar rfl (zcy (zag (reQ 3 rfl ?_))))
    refine hvQ rfl (riQ 1 rfl rfl rfl rfl (fun w hm => hP w (hm.sub (.cons _ (.cons _ (.cons _ (.cons _ (.cons _ (.cons _ (.cons _ (.cons _ (.cons _ (.cons _ (.refl _)))))))))))))) (hvQ rfl (liQ rfl rfl rfl (fun w hm => hP w (hm.sub (.cons _ (.cons _ (.cons _ (.cons _ (.cons _ (.cons _ (.cons _ (.cons _ (.cons _ (.cons _ (.refl _)))))))))))))) ?_)
    refine zdt rfl (zal (z := .int .i64 0) (s := 1) (cs := ([P.getD n 0].map (Value.int .i64))) rfl Try.underlying48 rfl (by decide) rfl (by kernel_rfl) rfl) ?_
    intro g17
    refine zcp (i := 2) (z := .int .i64 0) (bytes := 8) rfl rfl rfl rfl Try.underlying48 (by kernel_rfl) rfl rfl rfl rfl (zaj 0 rfl) (zch _) (by first | omega | (simp; done) | (simp; omega)) (zci ids ([P.getD n 0])) (zcs ids ([P.getD n 0])) (fun _ => rfl) ?_
    intro v18
    refine zbb 1 rfl (zag (reQ 1 rfl (hvQ rfl (vaQ rfl rfl rfl) (zbb 1 rfl ?_))))
    refine zbl (zfg ?_)
    refine zan (zaq (reQ 1 rfl (hvQ rfl (vaQ rfl rfl rfl) (enQ 1 rfl ?_))))
    exact zex (i + 1) (n + 1) (ids ++ ([P.getD n 0])) S (v18, q.2) ⟨by omega, sgF_port hs (by assumption) hpt (by omega)⟩ (by omega) (zas [17, 16, 15, 14, 13, 12, 11, 6, 5, 4, 3, 2, 1, 0] rfl) (.cons _ (.cons _ (.refl _)))
   refine zah 1 rfl (hvQ rfl (fdQ 0 rfl rfl rfl) (hvQ rfl (zad rfl rfl rfl (zaa 0 rfl rfl)) ?_))
   refine zbt rfl rfl rfl rfl rfl rfl (fun h19 => ?_) (fun h19 => ?_)
   ·
    refine zbb 2 rfl (zai rfl (zag (zag ?_)))
    have hpt : isPt ((D.getD k md0).ss.getD i sg0) = true := zfe.2 (by omega)
    have hnp : n < P.length := by rw [hnn]; exact ptN_lt hPo hln.1 (by omega) (by assumption) hpt
    have hpr := (hPo (by assumption)).2.at hnp
    rcases Bool.eq_false_or_eq_true (((S.getD ((P.getD n 0).toNat) sg0).w) != wd) with hb20 | hb20
    ·
     have hb20p : (S.getD ((P.getD n 0).toNat) sg0).w ≠ wd := bne_iff_ne.1 hb20
     refine zbu 12 [[], [0], [], [], [2, 3], [4], [1, 5], [6], [7], [], [9], [8, 10]] [66, 67, 68, 69, 70, 71, 72, 73, 74, 75, 76, 77] [.pointer (some ⟨b2, 0 + 0, none⟩), q.2, uP, .int .i64 (n : Int), elP uP (((n : Int)).toNat * 1), .int .i64 (P.getD n 0), elP q.2 ((P.getD n 0).toNat * 3), elP q.2 ((P.getD n 0).toNat * 3 + 1), .int .i64 ((S.getD ((P.getD n 0).toNat) sg0).w), .pointer (some ⟨b8, 0 + 1, none⟩), .int .i64 wd, .bool true] (by kernel_rfl) rfl ?_ ?_
     ·
      exact ⟨iaQ rfl (fdQ 0 rfl rfl rfl) rfl, iaQ rfl (zad rfl rfl rfl (zaa 4 rfl rfl)) rfl, iaQ rfl (zav rfl) rfl, iaQ rfl (zav rfl) rfl, iaQ rfl (riQ 1 rfl rfl rfl rfl (fun w hm => hP w (hm.sub (.cons _ (.cons _ (.cons _ (.cons _ (.cons _ (.cons _ (.cons _ (.cons _ (.cons _ (.cons _ (.refl _)))))))))))))) rfl, iaQ rfl (liQ rfl rfl rfl (fun w hm => hP w (hm.sub (.cons _ (.cons _ (.cons _ (.cons _ (.cons _ (.cons _ (.cons _ (.cons _ (.cons _ (.cons _ (.refl _)))))))))))))) rfl, iaQ rfl (riQ 3 rfl rfl rfl rfl (zaj 6 rfl)) rfl, iaQ rfl (zau (k0 := 1) rfl rfl rfl (zaj 6 rfl) (by omega)) rfl, iaQ rfl (zam (u := .int .i64 ((S.getD ((P.getD n 0).toNat) sg0).w)) rfl rfl rfl (zaj 6 rfl) ((zbi sgC 3 (fun _ => rfl) S sg0 (show (P.getD n 0).toNat < _ by omega) (by decide)).trans rfl)) rfl, iaQ rfl (fdQ 1 rfl rfl rfl) rfl, iaQ rfl (zad rfl rfl rfl (zaa 0 rfl rfl)) rfl, .inl ⟨rfl, zdq (zcj rfl rfl rfl rfl) hb20⟩, trivial⟩
     simp only [List.drop_succ_cons, List.drop_zero]
     refine ntQ (zai rfl (srQ (hvQ rfl (zax (cs := [q.2, av, .slice none 0 0, mv]) rfl rfl rfl rfl rfl (zat 4 rfl 0 rfl)) ?_)))
     refine zcq (i := 8) rfl (fun ho21 => ?_)
     refine zcq (i := 7) rfl (fun ho22 => ?_)
     refine zcq (i := 6) rfl (fun ho23 => ?_)
     refine zbd (cs' := #[q.2, av, .slice none 0 0, mv]) (i := 3) (off := 0) (us := [q.2, av, .slice none 0 0, mv]) rfl rfl rfl rfl rfl rfl rfl (zab ho23 (zab ho22 (zab rfl (zab ho21 zbc)))) rfl rfl rfl (zbb 1 rfl ?_)
     refine zap (zdy ?_)
     refine zac (zdy ?_)
     refine zac (zaf ?_)
     refine zey (p := q.2.oneCell' = true ∧ av.oneCell' = true ∧ mv.oneCell' = true) (fun w hm => ⟨(zaj 6 rfl w hm).one, (zaj 7 rfl w hm).one, (zaj 8 rfl w hm).one⟩) (fun ho9 => ?_)
     refine zdi (bigE [] :: boxE b8 #[.int .i64 ((((D.getD k md0).ss).getD i sg0).k), .int .i64 wd, .int .i64 ((((D.getD k md0).ss).getD i sg0).i)] 38 :: rowE 3 1 q.1 ids.length (ids.map (Value.int .i64)) :: boxE b4 #[(D.getD k md0).sv, (D.getD k md0).av, (D.getD k md0).iv, (D.getD k md0).mv] 35 :: boxE b3 #[q.2, av, .slice none 0 0, mv] 35 :: boxE b2 #[q.2, av, .slice none 0 0, mv] 35 :: boxE b1 #[v] 26 :: rowE 38 3 q.2 S.length (S.flatMap sgC) :: rowE 89 2 av gs.length (gs.flatMap asC) :: rowE 94 4 mv F.ms.length (F.ms.flatMap mmC) :: bigE ps :: l) zdu ?_
     exact zcz (rs := [.cell 12 35, .tmp 13]) (vs := [.agg #[q.2, av, .slice none 0 0, mv], .bool false]) rfl ⟨⟨b3, 0, [q.2, av, .slice none 0 0, mv], rfl, rfl, by kernel_rfl, by kernel_rfl, zat 4 rfl 0 rfl⟩, rfl, trivial⟩ rfl (fun w hm => ⟨_, bigE [], rfl, ⟨_, _, _, false, _, rfl, rfl, ho9, (fun h => by cases h), fun _ => by first | exact zfy (sgF_bad hs (by assumption) hpt (by omega)) (by omega) | exact addF_big hsF (fun h9 => by have h8 := hoi.1 h9; omega) | exact (addF_go hsF hokF).trans (zfv (i := ux + 1) (by rw [zfq hH, hk2, ← hzp, ← hpp]; exact hnoNone (by assumption)) _ (by omega))⟩, hm.sub (.cons_cons _ (.cons _ (.cons _ (.cons _ (.cons _ (.cons _ (.cons _ (.cons _ (.cons _ (.cons _ (.cons _ (.refl _))))))))))))⟩)
    have hb20p : (S.getD ((P.getD n 0).toNat) sg0).w = wd := (bne_eq_false_iff_eq.1 hb20)
    refine zbu 12 [[], [0], [], [], [2, 3], [4], [1, 5], [6], [7], [], [9], [8, 10]] [66, 67, 68, 69, 70, 71, 72, 73, 74, 75, 76, 77] [.pointer (some ⟨b2, 0 + 0, none⟩), q.2, uP, .int .i64 (n : Int), elP uP (((n : Int)).toNat * 1), .int .i64 (P.getD n 0), elP q.2 ((P.getD n 0).toNat * 3), elP q.2 ((P.getD n 0).toNat * 3 + 1), .int .i64 ((S.getD ((P.getD n 0).toNat) sg0).w), .pointer (some ⟨b8, 0 + 1, none⟩), .int .i64 wd, .bool false] (by kernel_rfl) rfl ?_ ?_
    ·
     exact ⟨iaQ rfl (fdQ 0 rfl rfl rfl) rfl, iaQ rfl (zad rfl rfl rfl (zaa 4 rfl rfl)) rfl, iaQ rfl (zav rfl) rfl, iaQ rfl (zav rfl) rfl, iaQ rfl (riQ 1 rfl rfl rfl rfl (fun w hm => hP w (hm.sub (.cons _ (.cons _ (.cons _ (.cons _ (.cons _ (.cons _ (.cons _ (.cons _ (.cons _ (.cons _ (.refl _)))))))))))))) rfl, iaQ rfl (liQ rfl rfl rfl (fun w hm => hP w (hm.sub (.cons _ (.cons _ (.cons _ (.cons _ (.cons _ (.cons _ (.cons _ (.cons _ (.cons _ (.cons _ (.refl _)))))))))))))) rfl, iaQ rfl (riQ 3 rfl rfl rfl rfl (zaj 6 rfl)) rfl, iaQ rfl (zau (k0 := 1) rfl rfl rfl (zaj 6 rfl) (by omega)) rfl, iaQ rfl (zam (u := .int .i64 ((S.getD ((P.getD n 0).toNat) sg0).w)) rfl rfl rfl (zaj 6 rfl) ((zbi sgC 3 (fun _ => rfl) S sg0 (show (P.getD n 0).toNat < _ by omega) (by decide)).trans rfl)) rfl, iaQ rfl (fdQ 1 rfl rfl rfl) rfl, iaQ rfl (zad rfl rfl rfl (zaa 0 rfl rfl)) rfl, .inl ⟨rfl, zdq (zcj rfl rfl rfl rfl) hb20⟩, trivial⟩
    simp only [List.drop_succ_cons, List.drop_zero]
    refine ntQ (zar rfl (zcy (zag (reQ 3 rfl ?_))))
    refine hvQ rfl (riQ 1 rfl rfl rfl rfl (fun w hm => hP w (hm.sub (.cons _ (.cons _ (.cons _ (.cons _ (.cons _ (.cons _ (.cons _ (.cons _ (.cons _ (.cons _ (.refl _)))))))))))))) (hvQ rfl (liQ rfl rfl rfl (fun w hm => hP w (hm.sub (.cons _ (.cons _ (.cons _ (.cons _ (.cons _ (.cons _ (.cons _ (.cons _ (.cons _ (.cons _ (.refl _)))))))))))))) ?_)
    refine zdt rfl (zal (z := .int .i64 0) (s := 1) (cs := ([P.getD n 0].map (Value.int .i64))) rfl Try.underlying48 rfl (by decide) rfl (by kernel_rfl) rfl) ?_
    intro g24
    refine zcp (i := 2) (z := .int .i64 0) (bytes := 8) rfl rfl rfl rfl Try.underlying48 (by kernel_rfl) rfl rfl rfl rfl (zaj 0 rfl) (zch _) (by first | omega | (simp; done) | (simp; omega)) (zci ids ([P.getD n 0])) (zcs ids ([P.getD n 0])) (fun _ => rfl) ?_
    intro v25
    refine zbb 1 rfl (zag (reQ 1 rfl (hvQ rfl (vaQ rfl rfl rfl) (zbb 1 rfl ?_))))
    refine zbl (zfg ?_)
    refine zan (zaq (reQ 1 rfl (hvQ rfl (vaQ rfl rfl rfl) (enQ 1 rfl ?_))))
    exact zex (i + 1) (n + 1) (ids ++ ([P.getD n 0])) S (v25, q.2) ⟨by omega, sgF_port hs (by assumption) hpt (by omega)⟩ (by omega) (zas [17, 16, 15, 14, 13, 12, 11, 6, 5, 4, 3, 2, 1, 0] rfl) (.cons _ (.cons _ (.refl _)))
   refine zbb 2 rfl (zar rfl (zcy (zag (reQ 1 rfl (hvQ rfl (fdQ 0 rfl rfl rfl) (hvQ rfl (zad rfl rfl rfl (zaa 4 rfl rfl)) (hvQ rfl (lnQ rfl rfl rfl (zaj 6 rfl)) ?_)))))))
   refine zdt rfl (zal (z := .int .i64 0) (s := 1) (cs := ([(S.length : Int)].map (Value.int .i64))) rfl Try.underlying48 rfl (by decide) rfl (by kernel_rfl) rfl) ?_
   intro g26
   refine zcp (i := 2) (z := .int .i64 0) (bytes := 8) rfl rfl rfl rfl Try.underlying48 (by kernel_rfl) rfl rfl rfl rfl (zaj 0 rfl) (zch _) (by first | omega | (simp; done) | (simp; omega)) (zci ids ([(S.length : Int)])) (zcs ids ([(S.length : Int)])) (fun _ => rfl) ?_
   intro v27
   refine zbb 1 rfl (zao (hvQ rfl (fdQ 0 rfl rfl rfl) (hvQ rfl (zad rfl rfl rfl (zaa 5 rfl rfl)) (hvQ rfl (zax (cs := [.int .i64 ((((D.getD k md0).ss).getD i sg0).k), .int .i64 wd, .int .i64 ((((D.getD k md0).ss).getD i sg0).i)]) rfl rfl rfl rfl rfl (zat 1 rfl 0 rfl)) ?_))))
   refine zdt rfl (zal (z := .agg #[.int .i64 0, .int .i64 0, .int .i64 0]) (s := 3) (cs := ([(((D.getD k md0).ss).getD i sg0).k, wd, (((D.getD k md0).ss).getD i sg0).i].map (Value.int .i64))) rfl Try.underlying30 rfl (by decide) rfl (by kernel_rfl) rfl) ?_
   intro g28
   refine zcp (i := 8) (z := .agg #[.int .i64 0, .int .i64 0, .int .i64 0]) (bytes := 24) rfl rfl rfl rfl Try.underlying30 (by kernel_rfl) rfl rfl rfl rfl (zaj 0 rfl) (zch _) (by first | omega | (simp only [List.length_append, List.length_cons, List.length_nil]; omega)) (zci S [(Sg.mk ((((D.getD k md0).ss).getD i sg0).k) wd ((((D.getD k md0).ss).getD i sg0).i))]) (zdc sgC S (Sg.mk ((((D.getD k md0).ss).getD i sg0).k) wd ((((D.getD k md0).ss).getD i sg0).i)) _ rfl) (fun _ => rfl) ?_
   intro v29
   refine hvQ rfl (fdQ 0 rfl rfl rfl) (zcq (i := 8) rfl (fun ho30 => ?_))
   refine zei (i := 6) (cs' := #[v29, av, .slice none 0 0, mv]) rfl rfl rfl rfl rfl rfl ho30 rfl rfl rfl rfl (zbn (zde (reQ 1 rfl (hvQ rfl (vaQ rfl rfl rfl) (enQ 1 rfl ?_)))))
   exact zex (i + 1) n (ids ++ ([(S.length : Int)])) (S ++ [(Sg.mk ((((D.getD k md0).ss).getD i sg0).k) wd ((((D.getD k md0).ss).getD i sg0).i))]) (v27, v29) ⟨by omega, by rw [hwd]; exact sgF_new hs (fun h9 => by first | exact absurd (h9.1.symm.trans (by assumption)) (by decide) | (have h8 := zfe.1 h9.2; omega))⟩ (by omega) (zas [17, 16, 15, 14, 13, 12, 11, 6, 5, 4, 3, 2, 1, 0] rfl) (.cons _ (.cons _ (.cons _ (.refl _))))
  refine zbb 10 rfl (fsQ rfl ?_)
  refine zaq (zag (reQ 1 rfl (hvQ rfl (fdQ 0 rfl rfl rfl) (hvQ rfl (zad rfl rfl rfl (zaa 4 rfl rfl)) (hvQ rfl (lnQ rfl rfl rfl (zaj 6 rfl)) ?_)))))
  refine zdt rfl (zal (z := .int .i64 0) (s := 1) (cs := ([(S.length : Int)].map (Value.int .i64))) rfl Try.underlying48 rfl (by decide) rfl (by kernel_rfl) rfl) ?_
  intro g31
  refine zcp (i := 2) (z := .int .i64 0) (bytes := 8) rfl rfl rfl rfl Try.underlying48 (by kernel_rfl) rfl rfl rfl rfl (zaj 0 rfl) (zch _) (by first | omega | (simp; done) | (simp; omega)) (zci ids ([(S.length : Int)])) (zcs ids ([(S.length : Int)])) (fun _ => rfl) ?_
  intro v32
  refine zbb 1 rfl (zao (hvQ rfl (fdQ 0 rfl rfl rfl) (hvQ rfl (zad rfl rfl rfl (zaa 5 rfl rfl)) (hvQ rfl (zax (cs := [.int .i64 ((((D.getD k md0).ss).getD i sg0).k), .int .i64 wd, .int .i64 ((((D.getD k md0).ss).getD i sg0).i)]) rfl rfl rfl rfl rfl (zat 1 rfl 0 rfl)) ?_))))
  refine zdt rfl (zal (z := .agg #[.int .i64 0, .int .i64 0, .int .i64 0]) (s := 3) (cs := ([(((D.getD k md0).ss).getD i sg0).k, wd, (((D.getD k md0).ss).getD i sg0).i].map (Value.int .i64))) rfl Try.underlying30 rfl (by decide) rfl (by kernel_rfl) rfl) ?_
  intro g33
  refine zcp (i := 8) (z := .agg #[.int .i64 0, .int .i64 0, .int .i64 0]) (bytes := 24) rfl rfl rfl rfl Try.underlying30 (by kernel_rfl) rfl rfl rfl rfl (zaj 0 rfl) (zch _) (by first | omega | (simp only [List.length_append, List.length_cons, List.length_nil]; omega)) (zci S [(Sg.mk ((((D.getD k md0).ss).getD i sg0).k) wd ((((D.getD k md0).ss).getD i sg0).i))]) (zdc sgC S (Sg.mk ((((D.getD k md0).ss).getD i sg0).k) wd ((((D.getD k md0).ss).getD i sg0).i)) _ rfl) (fun _ => rfl) ?_
  intro v34
  refine hvQ rfl (fdQ 0 rfl rfl rfl) (zcq (i := 8) rfl (fun ho35 => ?_))
  refine zei (i := 6) (cs' := #[v34, av, .slice none 0 0, mv]) rfl rfl rfl rfl rfl rfl ho35 rfl rfl rfl rfl (zbn (zde (reQ 1 rfl (hvQ rfl (vaQ rfl rfl rfl) (enQ 1 rfl ?_)))))
  exact zex (i + 1) n (ids ++ ([(S.length : Int)])) (S ++ [(Sg.mk ((((D.getD k md0).ss).getD i sg0).k) wd ((((D.getD k md0).ss).getD i sg0).i))]) (v32, v34) ⟨by omega, by rw [hwd]; exact sgF_new hs (fun h9 => by first | exact absurd (h9.1.symm.trans (by assumption)) (by decide) | (have h8 := zfe.1 h9.2; omega))⟩ (by omega) (zas [17, 16, 15, 14, 13, 12, 11, 6, 5, 4, 3, 2, 1, 0] rfl) (.cons _ (.cons _ (.cons _ (.refl _))))
 refine ntQ (zar rfl ?_)
 refine zbl (zdx ?_)
 refine zan (zaq (zag (zbf 1 rfl (zaz ?_))))
 have hsF : sgF (D.getD k md0) p c P F.ss (D.getD k md0).ss.length = some (ids, n, S) := by rw [show (D.getD k md0).ss.length = i by omega]; exact hs
 refine lkQ4 (α := Nat) (β := List As) (γ := Value) (δ := List HP) [0, 1, 2, 3, 4, 5, 6, 11, 12, 13, 14, 15, 16, 17, 42] rfl (fun ax G av2 ps2 => (rowE 3 1 q.1 ids.length (ids.map (Value.int .i64)) :: boxE b4 #[(D.getD k md0).sv, (D.getD k md0).av, (D.getD k md0).iv, (D.getD k md0).mv] 35 :: boxE b3 #[.slice none 0 0, .slice none 0 0, .slice none 0 0, .slice none 0 0] 35 :: boxE b2 #[q.2, av2, .slice none 0 0, mv] 35 :: boxE b1 #[v] 26 :: rowE 38 3 q.2 S.length (S.flatMap sgC) :: rowE 89 2 av2 G.length (G.flatMap asC) :: rowE 94 4 mv F.ms.length (F.ms.flatMap mmC) :: bigE ps2 :: l)) (fun ax G av2 ps2 => [(19, .int .i64 (ax : Int))]) (fun ax G av2 ps2 => ax ≤ (D.getD k md0).gs.length ∧ G.map asV = F.gs ++ ((D.getD k md0).gs.take ax).map (asF ids p) ∧ ∀ w, (bigE ps2).holds w → OpsR w G) (fun ax G av2 ps2 => (D.getD k md0).gs.length - ax) 0 gs av ps ⟨Nat.zero_le _, by simp [hgs], hps⟩ (saQ rfl) (.refl _) ?_
 intro ax G av2 ps2 hi36
 obtain ⟨ha, hG, hpq⟩ := hi36
 have hGl : G.length = F.gs.length + ax := by have h9 := congrArg List.length hG; rw [List.length_map, List.length_append, List.length_map, List.length_take] at h9; omega
 refine zag (zag (reQ 1 rfl (hvQ rfl (fdQ 1 rfl rfl rfl) (hvQ rfl (zad rfl rfl rfl (zaa 1 rfl rfl)) ?_))))
 refine hvQ rfl (lnQ rfl rfl rfl (fun w hm => (((hd w (hm.sub (.cons _ (.cons _ (.cons _ (.cons _ (.cons _ (.cons _ (.cons _ (.cons _ (.cons _ (.refl _)))))))))))).at (k := k) hkl).g))) (zbq rfl rfl rfl rfl rfl rfl (fun h37 => ?_) (fun h37 => ?_))
 ·
  refine ntQ (zai rfl (zcy (sbQ (srQ ?_))))
  obtain ⟨⟨hgt, -⟩, hgo9⟩ := (show (_ ∧ _) ∧ OpsP (D.getD k md0).ss.length ((D.getD k md0).gs.getD ax as0).os from ⟨(hmod.gs ax (by omega)).tgt, (hmod.gs ax (by omega)).2⟩)
  refine zah 1 rfl (hvQ rfl (fdQ 1 rfl rfl rfl) (hvQ rfl (zad rfl rfl rfl (zaa 1 rfl rfl)) (zah 1 rfl ?_)))
  refine hvQ rfl (riQ 2 rfl rfl rfl rfl (fun w hm => (((hd w (hm.sub (.cons _ (.cons _ (.cons _ (.cons _ (.cons _ (.cons _ (.cons _ (.cons _ (.cons _ (.refl _)))))))))))).at (k := k) hkl).g))) (hvQ rfl (zau (k0 := 0) rfl rfl rfl (fun w hm => (((hd w (hm.sub (.cons _ (.cons _ (.cons _ (.cons _ (.cons _ (.cons _ (.cons _ (.cons _ (.cons _ (.refl _)))))))))))).at (k := k) hkl).g)) (by omega)) ?_)
  refine hvQ rfl (zam (u := .int .i64 ((((D.getD k md0).gs).getD ax as0).t)) rfl rfl rfl (fun w hm => (((hd w (hm.sub (.cons _ (.cons _ (.cons _ (.cons _ (.cons _ (.cons _ (.cons _ (.cons _ (.cons _ (.refl _)))))))))))).at (k := k) hkl).g)) ((zbi asC 2 (fun _ => rfl) ((D.getD k md0).gs) as0 (show ax < _ by omega) (by decide)).trans rfl)) (hvQ rfl (riQ 1 rfl rfl rfl rfl (zaj 0 rfl)) (hvQ rfl (lzQ rfl rfl rfl (zaj 0 rfl)) (hvQ rfl (zbh (cs := #[.int .i64 (ids.getD (((((D.getD k md0).gs).getD ax as0).t).toNat) 0), .slice none 0 0]) rfl rfl rfl) ?_)))
  refine zdm rfl (zbe (z := .agg #[.int .i64 0, .slice none 0 0]) rfl rfl) ?_
  intro b38
  refine zbd (cs' := #[.int .i64 (ids.getD (((((D.getD k md0).gs).getD ax as0).t).toNat) 0), .slice none 0 0]) (i := 0) (off := 0) (us := [.int .i64 (ids.getD (((((D.getD k md0).gs).getD ax as0).t).toNat) 0), .slice none 0 0]) rfl rfl rfl rfl rfl rfl rfl (zab rfl (zab rfl zbc)) rfl rfl rfl (ntQ (zag (zbf 1 rfl (zaz ?_))))
  refine zes (rowE 97 3 (.slice none 0 0) (([] : List Oq).length) (([] : List Oq).flatMap oqC) :: boxE b38 #[.int .i64 (ids.getD (((((D.getD k md0).gs).getD ax as0).t).toNat) 0), .slice none 0 0] 89 :: rowE 3 1 q.1 ids.length (ids.map (Value.int .i64)) :: boxE b4 #[(D.getD k md0).sv, (D.getD k md0).av, (D.getD k md0).iv, (D.getD k md0).mv] 35 :: boxE b3 #[.slice none 0 0, .slice none 0 0, .slice none 0 0, .slice none 0 0] 35 :: boxE b2 #[q.2, av2, .slice none 0 0, mv] 35 :: boxE b1 #[v] 26 :: rowE 38 3 q.2 S.length (S.flatMap sgC) :: rowE 89 2 av2 G.length (G.flatMap asC) :: rowE 94 4 mv F.ms.length (F.ms.flatMap mmC) :: bigE ps2 :: l) (fun w hm => hm.nilRow 97 3) ?_
  refine lkQ3 (α := Nat) (β := List Oq) (γ := Value) [0, 1, 2, 3, 4, 5, 6, 11, 12, 13, 14, 15, 16, 17, 19, 20, 42, 104] rfl (fun bq os ov => (rowE 97 3 ov os.length (os.flatMap oqC) :: boxE b38 #[.int .i64 (ids.getD (((((D.getD k md0).gs).getD ax as0).t).toNat) 0), ov] 89 :: rowE 3 1 q.1 ids.length (ids.map (Value.int .i64)) :: boxE b4 #[(D.getD k md0).sv, (D.getD k md0).av, (D.getD k md0).iv, (D.getD k md0).mv] 35 :: boxE b3 #[.slice none 0 0, .slice none 0 0, .slice none 0 0, .slice none 0 0] 35 :: boxE b2 #[q.2, av2, .slice none 0 0, mv] 35 :: boxE b1 #[v] 26 :: rowE 38 3 q.2 S.length (S.flatMap sgC) :: rowE 89 2 av2 G.length (G.flatMap asC) :: rowE 94 4 mv F.ms.length (F.ms.flatMap mmC) :: bigE ps2 :: l)) (fun bq os ov => [(21, .int .i64 (bq : Int))]) (fun bq os ov => bq ≤ ((D.getD k md0).gs.getD ax as0).os.length ∧ os = (((D.getD k md0).gs.getD ax as0).os.take bq).map (opF ids p)) (fun bq os ov => ((D.getD k md0).gs.getD ax as0).os.length - bq) 0 [] _ ⟨Nat.zero_le _, rfl⟩ (saQ rfl) (.refl _) ?_
  intro bq os ov hi39
  obtain ⟨hb, hos⟩ := hi39
  have hol : os.length = bq := by rw [hos, List.length_map, List.length_take]; omega
  have hgl15 := hgo9.len
  refine zag (zag (reQ 1 rfl (hvQ rfl (fdQ 1 rfl rfl rfl) (hvQ rfl (zad rfl rfl rfl (zaa 3 rfl rfl)) (zah 1 rfl ?_)))))
  refine hvQ rfl (riQ 2 rfl rfl rfl rfl (fun w hm => (((hd w (hm.sub (.cons _ (.cons _ (.cons _ (.cons _ (.cons _ (.cons _ (.cons _ (.cons _ (.cons _ (.cons _ (.cons _ (.refl _)))))))))))))).at (k := k) hkl).g))) (hvQ rfl (zau (k0 := 1) rfl rfl rfl (fun w hm => (((hd w (hm.sub (.cons _ (.cons _ (.cons _ (.cons _ (.cons _ (.cons _ (.cons _ (.cons _ (.cons _ (.cons _ (.cons _ (.refl _)))))))))))))).at (k := k) hkl).g)) (by omega)) ?_)
  refine hvQ rfl (zam (u := (((D.getD k md0).gs).getD ax as0).ov) rfl rfl rfl (fun w hm => (((hd w (hm.sub (.cons _ (.cons _ (.cons _ (.cons _ (.cons _ (.cons _ (.cons _ (.cons _ (.cons _ (.cons _ (.cons _ (.refl _)))))))))))))).at (k := k) hkl).g)) ((zbi asC 2 (fun _ => rfl) ((D.getD k md0).gs) as0 (show ax < _ by omega) (by decide)).trans rfl)) (hvQ rfl (lnQ rfl rfl rfl (fun w hm => (((hd w (hm.sub (.cons _ (.cons _ (.cons _ (.cons _ (.cons _ (.cons _ (.cons _ (.cons _ (.cons _ (.cons _ (.cons _ (.refl _)))))))))))))).at (k := k) hkl).o.at (k := ax) (by omega)))) ?_)
  refine zbq rfl rfl rfl rfl rfl rfl (fun h40 => ?_) (fun h40 => ?_)
  ·
   refine ntQ (zai rfl (zcy (sbQ (srQ (hvQ rfl (fdQ 1 rfl rfl rfl) (hvQ rfl (zad rfl rfl rfl (zaa 3 rfl rfl)) (zah 1 rfl ?_)))))))
   refine hvQ rfl (riQ 2 rfl rfl rfl rfl (fun w hm => (((hd w (hm.sub (.cons _ (.cons _ (.cons _ (.cons _ (.cons _ (.cons _ (.cons _ (.cons _ (.cons _ (.cons _ (.cons _ (.refl _)))))))))))))).at (k := k) hkl).g))) (hvQ rfl (zau (k0 := 1) rfl rfl rfl (fun w hm => (((hd w (hm.sub (.cons _ (.cons _ (.cons _ (.cons _ (.cons _ (.cons _ (.cons _ (.cons _ (.cons _ (.cons _ (.cons _ (.refl _)))))))))))))).at (k := k) hkl).g)) (by omega)) ?_)
   refine hvQ rfl (zam (u := (((D.getD k md0).gs).getD ax as0).ov) rfl rfl rfl (fun w hm => (((hd w (hm.sub (.cons _ (.cons _ (.cons _ (.cons _ (.cons _ (.cons _ (.cons _ (.cons _ (.cons _ (.cons _ (.cons _ (.refl _)))))))))))))).at (k := k) hkl).g)) ((zbi asC 2 (fun _ => rfl) ((D.getD k md0).gs) as0 (show ax < _ by omega) (by decide)).trans rfl)) (zah 1 rfl ?_)
   refine hvQ rfl (riQ 3 rfl rfl rfl rfl (fun w hm => (((hd w (hm.sub (.cons _ (.cons _ (.cons _ (.cons _ (.cons _ (.cons _ (.cons _ (.cons _ (.cons _ (.cons _ (.cons _ (.refl _)))))))))))))).at (k := k) hkl).o.at (k := ax) (by omega)))) (hvQ rfl (zbm (us := [.int .i64 ((((((D.getD k md0).gs).getD ax as0).os).getD bq oq0).k), .int .i64 ((((((D.getD k md0).gs).getD ax as0).os).getD bq oq0).a), .int .i64 ((((((D.getD k md0).gs).getD ax as0).os).getD bq oq0).b)]) rfl rfl rfl rfl (fun w hm => (((hd w (hm.sub (.cons _ (.cons _ (.cons _ (.cons _ (.cons _ (.cons _ (.cons _ (.cons _ (.cons _ (.cons _ (.cons _ (.refl _)))))))))))))).at (k := k) hkl).o.at (k := ax) (by omega))) (by omega) rfl (zbz oqC 3 (fun _ => rfl) ((((D.getD k md0).gs).getD ax as0).os) oq0 (show bq < _ by omega) rfl)) ?_)
   refine zdm rfl (zbe (z := .agg #[.int .i64 0, .int .i64 0, .int .i64 0]) rfl rfl) ?_
   intro b41
   refine zbd (cs' := #[.int .i64 ((((((D.getD k md0).gs).getD ax as0).os).getD bq oq0).k), .int .i64 ((((((D.getD k md0).gs).getD ax as0).os).getD bq oq0).a), .int .i64 ((((((D.getD k md0).gs).getD ax as0).os).getD bq oq0).b)]) (i := 0) (off := 0) (us := [.int .i64 ((((((D.getD k md0).gs).getD ax as0).os).getD bq oq0).k), .int .i64 ((((((D.getD k md0).gs).getD ax as0).os).getD bq oq0).a), .int .i64 ((((((D.getD k md0).gs).getD ax as0).os).getD bq oq0).b)]) rfl rfl rfl rfl rfl rfl rfl (zab rfl (zab rfl (zab rfl zbc))) rfl rfl rfl (ntQ ?_)
   refine zgg (α := Oq) (fun oo => (boxE b41 #[.int .i64 oo.k, .int .i64 oo.a, .int .i64 oo.b] 97 :: rowE 97 3 ov os.length (os.flatMap oqC) :: boxE b38 #[.int .i64 (ids.getD (((((D.getD k md0).gs).getD ax as0).t).toNat) 0), ov] 89 :: rowE 3 1 q.1 ids.length (ids.map (Value.int .i64)) :: boxE b4 #[(D.getD k md0).sv, (D.getD k md0).av, (D.getD k md0).iv, (D.getD k md0).mv] 35 :: boxE b3 #[.slice none 0 0, .slice none 0 0, .slice none 0 0, .slice none 0 0] 35 :: boxE b2 #[q.2, av2, .slice none 0 0, mv] 35 :: boxE b1 #[v] 26 :: rowE 38 3 q.2 S.length (S.flatMap sgC) :: rowE 89 2 av2 G.length (G.flatMap asC) :: rowE 94 4 mv F.ms.length (F.ms.flatMap mmC) :: bigE ps2 :: l)) (fun oo => [(0, .agg #[v]), (1, .int .i64 (k : Int)), (2, .int .i64 p), (3, .bool c), (4, uP), (5, .agg #[sv, av, .slice none 0 0, mv]), (6, .pointer (some ⟨b1, 0, none⟩)), (11, .pointer (some ⟨b2, 0, none⟩)), (12, .pointer (some ⟨b3, 0, none⟩)), (13, .bool false), (14, .pointer (some ⟨b4, 0, none⟩)), (15, q.1), (16, .int .i64 (n : Int)), (17, .int .i64 (i : Int)), (19, .int .i64 (ax : Int)), (20, .pointer (some ⟨b38, 0, none⟩)), (21, .int .i64 (bq : Int)), (22, .pointer (some ⟨b41, 0, none⟩)), (42, .bool false), (104, .bool true), (125, .bool true)]) (fun oo => oo = opF ids p (((D.getD k md0).gs.getD ax as0).os.getD bq oq0)) ?_ ?_
   ·
    refine srQ (hvQ rfl (fdQ 0 rfl rfl rfl) (hvQ rfl (zad rfl rfl rfl (zaa 0 rfl rfl)) (ntQ (zaz (srQ ?_)))))
    refine zbt rfl rfl rfl rfl rfl rfl (fun h42 => ?_) (fun h42 => ?_)
    ·
     refine zbb 1 rfl (zai rfl (reQ 1 rfl (hvQ rfl (zbh (cs := #[.int .i64 0, .int .i64 p, .int .i64 0]) rfl rfl rfl) ?_)))
     refine zbd (cs' := #[.int .i64 0, .int .i64 p, .int .i64 0]) (i := 0) (off := 0) (us := [.int .i64 0, .int .i64 p, .int .i64 0]) rfl rfl rfl rfl rfl rfl rfl (zab rfl (zab rfl (zab rfl zbc))) rfl rfl rfl (zbn (zbp ?_))
     exact zed (Oq.mk 0 p 0) (by unfold opF; (repeat' split) <;> first | rfl | (exfalso; omega)) (saQ rfl) (.refl _)
    refine zbb 1 rfl (zar rfl (zfn ?_))
    refine zbt rfl rfl rfl rfl rfl rfl (fun h43 => ?_) (fun h43 => ?_)
    ·
     refine zbb 1 rfl (zai rfl (zcy (zai rfl (zao ?_))))
     have hra := rds_rng hgo9 (show bq < ((D.getD k md0).gs.getD ax as0).os.length by omega) (by omega)
     refine zah 1 rfl (hvQ rfl (fdQ 1 rfl rfl rfl) (hvQ rfl (zad rfl rfl rfl (zaa 0 rfl rfl)) (hvQ rfl (riQ 1 rfl rfl rfl rfl (zaj 3 rfl)) (hvQ rfl (lzQ rfl rfl rfl (zaj 3 rfl)) (hvQ rfl (fdQ 1 rfl rfl rfl) ?_)))))
     refine zei (i := 0) (cs' := #[.int .i64 ((((((D.getD k md0).gs).getD ax as0).os).getD bq oq0).k), .int .i64 (ids.getD (((((((D.getD k md0).gs).getD ax as0).os).getD bq oq0).a).toNat) 0), .int .i64 ((((((D.getD k md0).gs).getD ax as0).os).getD bq oq0).b)]) rfl rfl rfl rfl rfl rfl rfl rfl rfl rfl rfl (zbn (zbp ?_))
     exact zed (Oq.mk ((((((D.getD k md0).gs).getD ax as0).os).getD bq oq0).k) (ids.getD (((((((D.getD k md0).gs).getD ax as0).os).getD bq oq0).a).toNat) 0) ((((((D.getD k md0).gs).getD ax as0).os).getD bq oq0).b)) (by unfold opF; (repeat' split) <;> first | rfl | (exfalso; omega)) (saQ rfl) (.refl _)
    refine zbb 1 rfl (zar rfl (zao ?_))
    refine zbt rfl rfl rfl rfl rfl rfl (fun h44 => ?_) (fun h44 => ?_)
    ·
     refine zbb 1 rfl (zai rfl (zao ?_))
     have hra := rds_rng hgo9 (show bq < ((D.getD k md0).gs.getD ax as0).os.length by omega) (by omega)
     refine zah 1 rfl (hvQ rfl (fdQ 1 rfl rfl rfl) (hvQ rfl (zad rfl rfl rfl (zaa 0 rfl rfl)) (hvQ rfl (riQ 1 rfl rfl rfl rfl (zaj 3 rfl)) (hvQ rfl (lzQ rfl rfl rfl (zaj 3 rfl)) (hvQ rfl (fdQ 1 rfl rfl rfl) ?_)))))
     refine zei (i := 0) (cs' := #[.int .i64 ((((((D.getD k md0).gs).getD ax as0).os).getD bq oq0).k), .int .i64 (ids.getD (((((((D.getD k md0).gs).getD ax as0).os).getD bq oq0).a).toNat) 0), .int .i64 ((((((D.getD k md0).gs).getD ax as0).os).getD bq oq0).b)]) rfl rfl rfl rfl rfl rfl rfl rfl rfl rfl rfl (zbn (zbp ?_))
     exact zed (Oq.mk ((((((D.getD k md0).gs).getD ax as0).os).getD bq oq0).k) (ids.getD (((((((D.getD k md0).gs).getD ax as0).os).getD bq oq0).a).toNat) 0) ((((((D.getD k md0).gs).getD ax as0).os).getD bq oq0).b)) (by unfold opF; (repeat' split) <;> first | rfl | (exfalso; omega)) (saQ rfl) (.refl _)
    refine zbb 1 rfl (fsQ rfl (zbp ?_))
    exact zed (Oq.mk ((((((D.getD k md0).gs).getD ax as0).os).getD bq oq0).k) ((((((D.getD k md0).gs).getD ax as0).os).getD bq oq0).a) ((((((D.getD k md0).gs).getD ax as0).os).getD bq oq0).b)) (by unfold opF; (repeat' split) <;> first | rfl | (exfalso; omega)) (saQ rfl) (.refl _)
   intro oo hm45
   have hoo := hm45
   refine zao (hvQ rfl (fdQ 1 rfl rfl rfl) (hvQ rfl (zad rfl rfl rfl (zaa 2 rfl rfl)) (hvQ rfl (zax (cs := [.int .i64 oo.k, .int .i64 oo.a, .int .i64 oo.b]) rfl rfl rfl rfl rfl (zat 0 rfl 0 rfl)) ?_)))
   refine zdt rfl (zal (z := .agg #[.int .i64 0, .int .i64 0, .int .i64 0]) (s := 3) (cs := ([oo.k, oo.a, oo.b].map (Value.int .i64))) rfl Try.underlying71 rfl (by decide) rfl (by kernel_rfl) rfl) ?_
   intro g46
   refine zcp (i := 2) (z := .agg #[.int .i64 0, .int .i64 0, .int .i64 0]) (bytes := 24) rfl rfl rfl rfl Try.underlying71 (by kernel_rfl) rfl rfl rfl rfl (zaj 0 rfl) (zch _) (by first | omega | (simp only [List.length_append, List.length_cons, List.length_nil]; omega)) (zci os [oo]) (zdc oqC os oo _ rfl) (fun _ => rfl) ?_
   intro v47
   refine hvQ rfl (fdQ 1 rfl rfl rfl) (zcq (i := 2) rfl (fun ho48 => ?_))
   refine zei (i := 3) (cs' := #[.int .i64 (ids.getD (((((D.getD k md0).gs).getD ax as0).t).toNat) 0), v47]) rfl rfl rfl rfl rfl rfl ho48 rfl rfl rfl rfl (zbn (zde (reQ 1 rfl (hvQ rfl (vaQ rfl rfl rfl) (enQ 1 rfl ?_)))))
   exact zcn (bq + 1) (os ++ [oo]) v47 ⟨by omega, by rw [zev oq0 (show bq < ((D.getD k md0).gs.getD ax as0).os.length by omega), List.map_append, ← hos, hoo]; rfl⟩ (by omega) (saQ rfl) (.cons _ (.cons _ (.refl _)))
  refine ntQ (zar rfl ?_)
  refine zbl (zdx ?_)
  refine zan (zaq (zao (hvQ rfl (fdQ 1 rfl rfl rfl) (hvQ rfl (zad rfl rfl rfl (zaa 5 rfl rfl)) (hvQ rfl (zax (cs := [.int .i64 (ids.getD (((((D.getD k md0).gs).getD ax as0).t).toNat) 0), ov]) rfl rfl rfl rfl rfl (zat 1 rfl 0 rfl)) ?_)))))
  refine zdt rfl (zal (z := .agg #[.int .i64 0, .slice none 0 0]) (s := 2) (cs := [.int .i64 (ids.getD (((((D.getD k md0).gs).getD ax as0).t).toNat) 0), ov]) rfl Try.underlying31 rfl (by decide) rfl (by kernel_rfl) rfl) ?_
  intro g49
  refine zcq (i := 1) rfl (fun ho50 => ?_)
  refine zcp (i := 9) (z := .agg #[.int .i64 0, .slice none 0 0]) (bytes := 32) rfl rfl rfl rfl Try.underlying31 (by kernel_rfl) rfl rfl rfl rfl (zaj 0 rfl) (zab rfl (zab ho50 zbc)) (by first | omega | (simp only [List.length_append, List.length_cons, List.length_nil]; omega)) (zci G [(As.mk (ids.getD (((((D.getD k md0).gs).getD ax as0).t).toNat) 0) ov os)]) (zdc asC G (As.mk (ids.getD (((((D.getD k md0).gs).getD ax as0).t).toNat) 0) ov os) _ rfl) (fun _ => rfl) ?_
  intro v51
  refine hvQ rfl (fdQ 1 rfl rfl rfl) (zcq (i := 9) rfl (fun ho52 => ?_))
  refine zei (i := 6) (cs' := #[q.2, v51, .slice none 0 0, mv]) rfl rfl rfl rfl rfl rfl ho52 rfl rfl rfl rfl (zbn (zde (reQ 1 rfl (hvQ rfl (vaQ rfl rfl rfl) (enQ 1 rfl ?_)))))
  refine zbj 12 [10, 9, 8, 7, 6, 5, 4, 3, 1, 11] rfl rfl (by decide) ?_
  refine zcb 2 rfl ?_
  refine zbj 9 [0, 8, 7, 6, 5, 4, 3, 2, 1] rfl rfl (by decide) ?_
  exact zdr (ax + 1) (G ++ [(As.mk (ids.getD (((((D.getD k md0).gs).getD ax as0).t).toNat) 0) ov os)]) v51 [bigE ps2, rowE 97 3 ov os.length (os.flatMap oqC)] ⟨by omega, by rw [List.map_append, hG, zev as0 (show ax < (D.getD k md0).gs.length by omega), List.map_append, ← List.append_assoc]; congr 1; show [(_, os)] = [asF ids p ((D.getD k md0).gs.getD ax as0)]; rw [hos, show bq = ((D.getD k md0).gs.getD ax as0).os.length by omega, List.take_length]; rfl, fun w hw => (hpq w (zba hw List.mem_cons_self)).app (zco (zba hw (List.mem_cons_of_mem _ List.mem_cons_self)))⟩ (by omega) (saQ rfl) (.refl _)
 refine ntQ (zar rfl ?_)
 refine zbl (zdx ?_)
 refine zan (zaq (zag (zbf 1 rfl (zaz ?_))))
 have hGq : G.map asV = F.gs ++ (D.getD k md0).gs.map (asF ids p) := by rw [hG, show ax = (D.getD k md0).gs.length by omega, List.take_length]
 have hGl2 : G.length = F.gs.length + (D.getD k md0).gs.length := by omega
 refine lkQ3 (α := Nat) (β := List Mm) (γ := Value) [0, 1, 2, 3, 4, 5, 6, 11, 12, 13, 14, 15, 16, 17, 19, 42, 104] rfl (fun mx ms2 mw => (rowE 3 1 q.1 ids.length (ids.map (Value.int .i64)) :: boxE b4 #[(D.getD k md0).sv, (D.getD k md0).av, (D.getD k md0).iv, (D.getD k md0).mv] 35 :: boxE b3 #[.slice none 0 0, .slice none 0 0, .slice none 0 0, .slice none 0 0] 35 :: boxE b2 #[q.2, av2, .slice none 0 0, mw] 35 :: boxE b1 #[v] 26 :: rowE 38 3 q.2 S.length (S.flatMap sgC) :: rowE 89 2 av2 G.length (G.flatMap asC) :: rowE 94 4 mw ms2.length (ms2.flatMap mmC) :: bigE ps2 :: l)) (fun mx ms2 mw => [(23, .int .i64 (mx : Int))]) (fun mx ms2 mw => mx ≤ (D.getD k md0).ms.length ∧ ms2 = F.ms ++ ((D.getD k md0).ms.take mx).map (mmF ids)) (fun mx ms2 mw => (D.getD k md0).ms.length - mx) 0 F.ms mv ⟨Nat.zero_le _, by simp⟩ (saQ rfl) (.refl _) ?_
 intro mx ms2 mw hi53
 obtain ⟨he, hM⟩ := hi53
 have hMl : ms2.length = F.ms.length + mx := by rw [hM, List.length_append, List.length_map, List.length_take]; omega
 refine zag (zag (reQ 1 rfl (hvQ rfl (fdQ 3 rfl rfl rfl) (hvQ rfl (zad rfl rfl rfl (zaa 1 rfl rfl)) ?_))))
 refine hvQ rfl (lnQ rfl rfl rfl (fun w hm => (((hd w (hm.sub (.cons _ (.cons _ (.cons _ (.cons _ (.cons _ (.cons _ (.cons _ (.cons _ (.cons _ (.refl _)))))))))))).at (k := k) hkl).m))) (zbq rfl rfl rfl rfl rfl rfl (fun h54 => ?_) (fun h54 => ?_))
 ·
  refine ntQ (zai rfl (zcy (sbQ (srQ (hvQ rfl (fdQ 3 rfl rfl rfl) (hvQ rfl (zad rfl rfl rfl (zaa 1 rfl rfl)) (zah 1 rfl ?_)))))))
  refine hvQ rfl (riQ 4 rfl rfl rfl rfl (fun w hm => (((hd w (hm.sub (.cons _ (.cons _ (.cons _ (.cons _ (.cons _ (.cons _ (.cons _ (.cons _ (.cons _ (.refl _)))))))))))).at (k := k) hkl).m))) (hvQ rfl (zbm (us := [.int .i64 ((((D.getD k md0).ms).getD mx mm0).a), .int .i64 ((((D.getD k md0).ms).getD mx mm0).d), .int .i64 ((((D.getD k md0).ms).getD mx mm0).w), .int .i64 ((((D.getD k md0).ms).getD mx mm0).o)]) rfl rfl rfl rfl (fun w hm => (((hd w (hm.sub (.cons _ (.cons _ (.cons _ (.cons _ (.cons _ (.cons _ (.cons _ (.cons _ (.cons _ (.refl _)))))))))))).at (k := k) hkl).m)) (by omega) rfl (zbz mmC 4 (fun _ => rfl) ((D.getD k md0).ms) mm0 (show mx < _ by omega) rfl)) ?_)
  refine zdm rfl (zbe (z := .agg #[.int .i64 0, .int .i64 0, .int .i64 0, .int .i64 0]) rfl rfl) ?_
  intro b55
  refine zbd (cs' := #[.int .i64 ((((D.getD k md0).ms).getD mx mm0).a), .int .i64 ((((D.getD k md0).ms).getD mx mm0).d), .int .i64 ((((D.getD k md0).ms).getD mx mm0).w), .int .i64 ((((D.getD k md0).ms).getD mx mm0).o)]) (i := 0) (off := 0) (us := [.int .i64 ((((D.getD k md0).ms).getD mx mm0).a), .int .i64 ((((D.getD k md0).ms).getD mx mm0).d), .int .i64 ((((D.getD k md0).ms).getD mx mm0).w), .int .i64 ((((D.getD k md0).ms).getD mx mm0).o)]) rfl rfl rfl rfl rfl rfl rfl (zab rfl (zab rfl (zab rfl (zab rfl zbc)))) rfl rfl rfl (ntQ ?_)
  obtain ⟨⟨hma, hmd, hmw⟩, hmo⟩ := hmod.ms mx (by omega)
  have hmo := hmo.inn
  unfold Inn at hma hmd hmw hmo
  refine zfj rfl 24 [0, 1, 2, 3, 4, 5, 6, 7, 8, 9, 10, 11, 12, 13, 14, 15, 16, 17, 18, 19, 20, 21, 22, 23] (List.take 24 _) (List.drop 24 _) [[], [0], [], [], [3], [2, 4], [5], [], [], [8], [7, 9], [10], [], [], [13], [12, 14], [15], [], [], [18], [17, 19], [20], [6, 11, 16, 21], [22]] [176, 177, 178, 179, 180, 181, 182, 183, 184, 185, 186, 187, 188, 189, 190, 191, 192, 193, 194, 195, 196, 197, 198, 199] (fun i_ vs_ v_ p_ => match i_ with | 0 => v_ = .pointer (some ⟨b2, 0 + 3, none⟩) ∧ p_ = [] | 1 => v_ = mw ∧ p_ = [] | 2 => v_ = q.1 ∧ p_ = [] | 3 => v_ = .pointer (some ⟨b55, 0 + 0, none⟩) ∧ p_ = [] | 4 => v_ = .int .i64 ((((D.getD k md0).ms).getD mx mm0).a) ∧ p_ = [] | 5 => v_ = elP q.1 (((((D.getD k md0).ms).getD mx mm0).a).toNat * 1) ∧ p_ = [] | 6 => v_ = .int .i64 (ids.getD (((((D.getD k md0).ms).getD mx mm0).a).toNat) 0) ∧ p_ = [] | 7 => v_ = q.1 ∧ p_ = [] | 8 => v_ = .pointer (some ⟨b55, 0 + 1, none⟩) ∧ p_ = [] | 9 => v_ = .int .i64 ((((D.getD k md0).ms).getD mx mm0).d) ∧ p_ = [] | 10 => v_ = elP q.1 (((((D.getD k md0).ms).getD mx mm0).d).toNat * 1) ∧ p_ = [] | 11 => v_ = .int .i64 (ids.getD (((((D.getD k md0).ms).getD mx mm0).d).toNat) 0) ∧ p_ = [] | 12 => v_ = q.1 ∧ p_ = [] | 13 => v_ = .pointer (some ⟨b55, 0 + 2, none⟩) ∧ p_ = [] | 14 => v_ = .int .i64 ((((D.getD k md0).ms).getD mx mm0).w) ∧ p_ = [] | 15 => v_ = elP q.1 (((((D.getD k md0).ms).getD mx mm0).w).toNat * 1) ∧ p_ = [] | 16 => v_ = .int .i64 (ids.getD (((((D.getD k md0).ms).getD mx mm0).w).toNat) 0) ∧ p_ = [] | 17 => v_ = q.1 ∧ p_ = [] | 18 => v_ = .pointer (some ⟨b55, 0 + 3, none⟩) ∧ p_ = [] | 19 => v_ = .int .i64 ((((D.getD k md0).ms).getD mx mm0).o) ∧ p_ = [] | 20 => v_ = elP q.1 (((((D.getD k md0).ms).getD mx mm0).o).toNat * 1) ∧ p_ = [] | 21 => v_ = .int .i64 (ids.getD (((((D.getD k md0).ms).getD mx mm0).o).toNat) 0) ∧ p_ = [] | 22 => v_ = .agg #[.int .i64 (ids.getD (((((D.getD k md0).ms).getD mx mm0).a).toNat) 0), .int .i64 (ids.getD (((((D.getD k md0).ms).getD mx mm0).d).toNat) 0), .int .i64 (ids.getD (((((D.getD k md0).ms).getD mx mm0).w).toNat) 0), .int .i64 (ids.getD (((((D.getD k md0).ms).getD mx mm0).o).toNat) 0)] ∧ p_ = [] | 23 => IsRow 94 4 1 ([ids.getD (((((D.getD k md0).ms).getD mx mm0).a).toNat) 0, ids.getD (((((D.getD k md0).ms).getD mx mm0).d).toNat) 0, ids.getD (((((D.getD k md0).ms).getD mx mm0).w).toNat) 0, ids.getD (((((D.getD k md0).ms).getD mx mm0).o).toNat) 0].map (Value.int .i64)) v_ p_ | _ => True) (List.take_append_drop 24 _).symm (by kernel_rfl) (by kernel_rfl) rfl rfl ?_ ?_
  ·
   refine ⟨?_, ?_, ?_, ?_, ?_, ?_, ?_, ?_, ?_, ?_, ?_, ?_, ?_, ?_, ?_, ?_, ?_, ?_, ?_, ?_, ?_, ?_, ?_, ?_, trivial⟩
   ·
    intro vf pf hR
    exact ovQ rfl (zas [11] rfl) (zbx (fdQ 3 rfl rfl rfl))
   ·
    intro vf pf hR
    have e0 := hR 0 (by decide)
    exact olQ rfl (sk 176 (congrArg some e0.1) (zak _)) (zbx (zad rfl rfl rfl (zaa 4 rfl rfl)))
   ·
    intro vf pf hR
    exact ovQ rfl (zas [15] rfl) (zbx (zav rfl))
   ·
    intro vf pf hR
    exact ovQ rfl (zas [24] rfl) (zbx (fdQ 0 rfl rfl rfl))
   ·
    intro vf pf hR
    have e3 := hR 3 (by decide)
    exact olQ rfl (sk 179 (congrArg some e3.1) (zak _)) (zbx (zad rfl rfl rfl (zaa 0 rfl rfl)))
   ·
    intro vf pf hR
    have e2 := hR 2 (by decide)
    have e4 := hR 4 (by decide)
    exact olQ rfl (sk 178 (congrArg some e2.1) (sk 180 (congrArg some e4.1) (zak _))) (zbx (riQ 1 rfl rfl rfl rfl (zaj 1 rfl)))
   ·
    intro vf pf hR
    have e5 := hR 5 (by decide)
    exact olQ rfl (sk 181 (congrArg some e5.1) (zak _)) (zbx (lzQ rfl rfl rfl (zaj 1 rfl)))
   ·
    intro vf pf hR
    exact ovQ rfl (zas [15] rfl) (zbx (zav rfl))
   ·
    intro vf pf hR
    exact ovQ rfl (zas [24] rfl) (zbx (fdQ 1 rfl rfl rfl))
   ·
    intro vf pf hR
    have e8 := hR 8 (by decide)
    exact olQ rfl (sk 184 (congrArg some e8.1) (zak _)) (zbx (zad rfl rfl rfl (zaa 0 rfl rfl)))
   ·
    intro vf pf hR
    have e7 := hR 7 (by decide)
    have e9 := hR 9 (by decide)
    exact olQ rfl (sk 183 (congrArg some e7.1) (sk 185 (congrArg some e9.1) (zak _))) (zbx (riQ 1 rfl rfl rfl rfl (zaj 1 rfl)))
   ·
    intro vf pf hR
    have e10 := hR 10 (by decide)
    exact olQ rfl (sk 186 (congrArg some e10.1) (zak _)) (zbx (lzQ rfl rfl rfl (zaj 1 rfl)))
   ·
    intro vf pf hR
    exact ovQ rfl (zas [15] rfl) (zbx (zav rfl))
   ·
    intro vf pf hR
    exact ovQ rfl (zas [24] rfl) (zbx (fdQ 2 rfl rfl rfl))
   ·
    intro vf pf hR
    have e13 := hR 13 (by decide)
    exact olQ rfl (sk 189 (congrArg some e13.1) (zak _)) (zbx (zad rfl rfl rfl (zaa 0 rfl rfl)))
   ·
    intro vf pf hR
    have e12 := hR 12 (by decide)
    have e14 := hR 14 (by decide)
    exact olQ rfl (sk 188 (congrArg some e12.1) (sk 190 (congrArg some e14.1) (zak _))) (zbx (riQ 1 rfl rfl rfl rfl (zaj 1 rfl)))
   ·
    intro vf pf hR
    have e15 := hR 15 (by decide)
    exact olQ rfl (sk 191 (congrArg some e15.1) (zak _)) (zbx (lzQ rfl rfl rfl (zaj 1 rfl)))
   ·
    intro vf pf hR
    exact ovQ rfl (zas [15] rfl) (zbx (zav rfl))
   ·
    intro vf pf hR
    exact ovQ rfl (zas [24] rfl) (zbx (fdQ 3 rfl rfl rfl))
   ·
    intro vf pf hR
    have e18 := hR 18 (by decide)
    exact olQ rfl (sk 194 (congrArg some e18.1) (zak _)) (zbx (zad rfl rfl rfl (zaa 0 rfl rfl)))
   ·
    intro vf pf hR
    have e17 := hR 17 (by decide)
    have e19 := hR 19 (by decide)
    exact olQ rfl (sk 193 (congrArg some e17.1) (sk 195 (congrArg some e19.1) (zak _))) (zbx (riQ 1 rfl rfl rfl rfl (zaj 1 rfl)))
   ·
    intro vf pf hR
    have e20 := hR 20 (by decide)
    exact olQ rfl (sk 196 (congrArg some e20.1) (zak _)) (zbx (lzQ rfl rfl rfl (zaj 1 rfl)))
   ·
    intro vf pf hR
    have e6 := hR 6 (by decide)
    have e11 := hR 11 (by decide)
    have e16 := hR 16 (by decide)
    have e21 := hR 21 (by decide)
    exact ovQ rfl (sk 182 (congrArg some e6.1) (sk 187 (congrArg some e11.1) (sk 192 (congrArg some e16.1) (sk 197 (congrArg some e21.1) (zak _))))) (zbx (zbh (cs := #[.int .i64 (ids.getD (((((D.getD k md0).ms).getD mx mm0).a).toNat) 0), .int .i64 (ids.getD (((((D.getD k md0).ms).getD mx mm0).d).toNat) 0), .int .i64 (ids.getD (((((D.getD k md0).ms).getD mx mm0).w).toNat) 0), .int .i64 (ids.getD (((((D.getD k md0).ms).getD mx mm0).o).toNat) 0)]) rfl rfl rfl))
   intro vf pf hR
   have e22 := hR 22 (by decide)
   exact olQ rfl (sk 198 (congrArg some e22.1) (zak _)) (zal (z := .agg #[.int .i64 0, .int .i64 0, .int .i64 0, .int .i64 0]) (s := 4) (cs := ([ids.getD (((((D.getD k md0).ms).getD mx mm0).a).toNat) 0, ids.getD (((((D.getD k md0).ms).getD mx mm0).d).toNat) 0, ids.getD (((((D.getD k md0).ms).getD mx mm0).w).toNat) 0, ids.getD (((((D.getD k md0).ms).getD mx mm0).o).toNat) 0].map (Value.int .i64))) rfl Try.underlying33 rfl (by decide) rfl (by kernel_rfl) rfl)
  intro vf pf hR
  have e1 := hR 1 (by decide)
  have e23 : IsRow 94 4 1 ([ids.getD (((((D.getD k md0).ms).getD mx mm0).a).toNat) 0, ids.getD (((((D.getD k md0).ms).getD mx mm0).d).toNat) 0, ids.getD (((((D.getD k md0).ms).getD mx mm0).w).toNat) 0, ids.getD (((((D.getD k md0).ms).getD mx mm0).o).toNat) 0].map (Value.int .i64)) (vf 23) (pf 23) := hR 23 (by decide)
  obtain ⟨g56, vE23, pE23⟩ := e23
  have q0 := hR 0 (by decide)
  have q1 := hR 1 (by decide)
  have q2 := hR 2 (by decide)
  have q3 := hR 3 (by decide)
  have q4 := hR 4 (by decide)
  have q5 := hR 5 (by decide)
  have q6 := hR 6 (by decide)
  have q7 := hR 7 (by decide)
  have q8 := hR 8 (by decide)
  have q9 := hR 9 (by decide)
  have q10 := hR 10 (by decide)
  have q11 := hR 11 (by decide)
  have q12 := hR 12 (by decide)
  have q13 := hR 13 (by decide)
  have q14 := hR 14 (by decide)
  have q15 := hR 15 (by decide)
  have q16 := hR 16 (by decide)
  have q17 := hR 17 (by decide)
  have q18 := hR 18 (by decide)
  have q19 := hR 19 (by decide)
  have q20 := hR 20 (by decide)
  have q21 := hR 21 (by decide)
  have q22 := hR 22 (by decide)
  refine zdg (zcu [168, 104, 42, 24, 23, 19, 17, 16, 15, 14, 13, 12, 11, 6, 5, 4, 3, 2, 1, 0] _ (sk 177 (congrArg some e1.1) (sk 199 (congrArg some vE23) (zak _))) rfl) (by simp only [pE23, vE23, q0.2, q1.2, q2.2, q3.2, q4.2, q5.2, q6.2, q7.2, q8.2, q9.2, q10.2, q11.2, q12.2, q13.2, q14.2, q15.2, q16.2, q17.2, q18.2, q19.2, q20.2, q21.2, q22.2, fS] <;> rfl) ?_
  simp only [List.drop_succ_cons, List.drop_zero]
  refine zcp (i := 9) (z := .agg #[.int .i64 0, .int .i64 0, .int .i64 0, .int .i64 0]) (bytes := 32) rfl rfl rfl rfl Try.underlying33 (by kernel_rfl) rfl rfl rfl rfl (zaj 0 rfl) (zch _) (by first | omega | (simp only [List.length_append, List.length_cons, List.length_nil]; omega)) (zci ms2 [(Mm.mk (ids.getD (((((D.getD k md0).ms).getD mx mm0).a).toNat) 0) (ids.getD (((((D.getD k md0).ms).getD mx mm0).d).toNat) 0) (ids.getD (((((D.getD k md0).ms).getD mx mm0).w).toNat) 0) (ids.getD (((((D.getD k md0).ms).getD mx mm0).o).toNat) 0))]) (zdc mmC ms2 (Mm.mk (ids.getD (((((D.getD k md0).ms).getD mx mm0).a).toNat) 0) (ids.getD (((((D.getD k md0).ms).getD mx mm0).d).toNat) 0) (ids.getD (((((D.getD k md0).ms).getD mx mm0).w).toNat) 0) (ids.getD (((((D.getD k md0).ms).getD mx mm0).o).toNat) 0)) _ rfl) (fun _ => rfl) ?_
  intro v57
  refine hvQ rfl (fdQ 3 rfl rfl rfl) (zcq (i := 9) rfl (fun ho58 => ?_))
  refine zei (i := 5) (cs' := #[q.2, av2, .slice none 0 0, v57]) rfl rfl rfl rfl rfl rfl ho58 rfl rfl rfl rfl (zbn (zde (reQ 1 rfl (hvQ rfl (vaQ rfl rfl rfl) (enQ 1 rfl ?_)))))
  exact zcn (mx + 1) (ms2 ++ [(Mm.mk (ids.getD (((((D.getD k md0).ms).getD mx mm0).a).toNat) 0) (ids.getD (((((D.getD k md0).ms).getD mx mm0).d).toNat) 0) (ids.getD (((((D.getD k md0).ms).getD mx mm0).w).toNat) 0) (ids.getD (((((D.getD k md0).ms).getD mx mm0).o).toNat) 0))]) v57 ⟨by omega, by rw [hM, zev mm0 (show mx < (D.getD k md0).ms.length by omega), List.map_append, ← List.append_assoc]; rfl⟩ (by omega) (saQ rfl) (.cons _ (.cons _ (.refl _)))
 refine ntQ (zar rfl ?_)
 refine zbl (zdx ?_)
 refine zan (zaq (zfn ?_))
 have hMq : ms2 = F.ms ++ (D.getD k md0).ms.map (mmF ids) := by rw [hM, show mx = (D.getD k md0).ms.length by omega, List.take_length]
 have hoi := ownF_iff (m := (D.getD k md0)) (n := n) (S := S) hGq hMq
 refine hvQ rfl (fdQ 0 rfl rfl rfl) (hvQ rfl (zad rfl rfl rfl (zaa 3 rfl rfl)) (hvQ rfl (lnQ rfl rfl rfl (zaj 5 rfl)) ?_))
 refine zeb rfl rfl rfl rfl rfl rfl (fun h59 => ?_) (fun h59 => ?_)
 ·
  refine zbb 12 rfl ?_
  refine zai rfl (srQ (hvQ rfl (zax (cs := [q.2, av2, .slice none 0 0, mw]) rfl rfl rfl rfl rfl (zat 3 rfl 0 rfl)) ?_))
  refine zcq (i := 7) rfl (fun ho60 => ?_)
  refine zcq (i := 6) rfl (fun ho61 => ?_)
  refine zcq (i := 5) rfl (fun ho62 => ?_)
  refine zbd (cs' := #[q.2, av2, .slice none 0 0, mw]) (i := 2) (off := 0) (us := [q.2, av2, .slice none 0 0, mw]) rfl rfl rfl rfl rfl rfl rfl (zab ho62 (zab ho61 (zab rfl (zab ho60 zbc)))) rfl rfl rfl (zbb 1 rfl ?_)
  refine zap (zaf ?_)
  refine zey (p := q.2.oneCell' = true ∧ av2.oneCell' = true ∧ mw.oneCell' = true) (fun w hm => ⟨(zaj 5 rfl w hm).one, (zaj 6 rfl w hm).one, (zaj 7 rfl w hm).one⟩) (fun ho9 => ?_)
  refine zdi (bigE [] :: rowE 3 1 q.1 ids.length (ids.map (Value.int .i64)) :: boxE b4 #[(D.getD k md0).sv, (D.getD k md0).av, (D.getD k md0).iv, (D.getD k md0).mv] 35 :: boxE b3 #[q.2, av2, .slice none 0 0, mw] 35 :: boxE b2 #[q.2, av2, .slice none 0 0, mw] 35 :: boxE b1 #[v] 26 :: rowE 38 3 q.2 S.length (S.flatMap sgC) :: rowE 89 2 av2 G.length (G.flatMap asC) :: rowE 94 4 mw ms2.length (ms2.flatMap mmC) :: bigE ps2 :: l) zdu ?_
  exact zcz (rs := [.cell 12 35, .tmp 13]) (vs := [.agg #[q.2, av2, .slice none 0 0, mw], .bool false]) rfl ⟨⟨b3, 0, [q.2, av2, .slice none 0 0, mw], rfl, rfl, by kernel_rfl, by kernel_rfl, zat 3 rfl 0 rfl⟩, rfl, trivial⟩ rfl (fun w hm => ⟨_, bigE [], rfl, ⟨_, _, _, false, _, rfl, rfl, ho9, (fun h => by cases h), fun _ => by first | exact zfy (sgF_bad hs (by assumption) hpt (by omega)) (by omega) | exact addF_big hsF (fun h9 => by have h8 := hoi.1 h9; omega) | exact (addF_go hsF hokF).trans (zfv (i := ux + 1) (by rw [zfq hH, hk2, ← hzp, ← hpp]; exact hnoNone (by assumption)) _ (by omega))⟩, hm.sub (.cons_cons _ (.cons _ (.cons _ (.cons _ (.cons _ (.cons _ (.cons _ (.cons _ (.cons _ (.cons _ (.refl _)))))))))))⟩)
 refine zah 1 rfl (hvQ rfl (fdQ 1 rfl rfl rfl) (hvQ rfl (zad rfl rfl rfl (zaa 3 rfl rfl)) (hvQ rfl (lnQ rfl rfl rfl (zaj 6 rfl)) ?_)))
 refine zeb rfl rfl rfl rfl rfl rfl (fun h63 => ?_) (fun h63 => ?_)
 ·
  refine zbb 7 rfl (zai rfl (srQ (hvQ rfl (zax (cs := [q.2, av2, .slice none 0 0, mw]) rfl rfl rfl rfl rfl (zat 3 rfl 0 rfl)) ?_)))
  refine zcq (i := 7) rfl (fun ho64 => ?_)
  refine zcq (i := 6) rfl (fun ho65 => ?_)
  refine zcq (i := 5) rfl (fun ho66 => ?_)
  refine zbd (cs' := #[q.2, av2, .slice none 0 0, mw]) (i := 2) (off := 0) (us := [q.2, av2, .slice none 0 0, mw]) rfl rfl rfl rfl rfl rfl rfl (zab ho66 (zab ho65 (zab rfl (zab ho64 zbc)))) rfl rfl rfl (zbb 1 rfl ?_)
  refine zap (zaf ?_)
  refine zey (p := q.2.oneCell' = true ∧ av2.oneCell' = true ∧ mw.oneCell' = true) (fun w hm => ⟨(zaj 5 rfl w hm).one, (zaj 6 rfl w hm).one, (zaj 7 rfl w hm).one⟩) (fun ho9 => ?_)
  refine zdi (bigE [] :: rowE 3 1 q.1 ids.length (ids.map (Value.int .i64)) :: boxE b4 #[(D.getD k md0).sv, (D.getD k md0).av, (D.getD k md0).iv, (D.getD k md0).mv] 35 :: boxE b3 #[q.2, av2, .slice none 0 0, mw] 35 :: boxE b2 #[q.2, av2, .slice none 0 0, mw] 35 :: boxE b1 #[v] 26 :: rowE 38 3 q.2 S.length (S.flatMap sgC) :: rowE 89 2 av2 G.length (G.flatMap asC) :: rowE 94 4 mw ms2.length (ms2.flatMap mmC) :: bigE ps2 :: l) zdu ?_
  exact zcz (rs := [.cell 12 35, .tmp 13]) (vs := [.agg #[q.2, av2, .slice none 0 0, mw], .bool false]) rfl ⟨⟨b3, 0, [q.2, av2, .slice none 0 0, mw], rfl, rfl, by kernel_rfl, by kernel_rfl, zat 3 rfl 0 rfl⟩, rfl, trivial⟩ rfl (fun w hm => ⟨_, bigE [], rfl, ⟨_, _, _, false, _, rfl, rfl, ho9, (fun h => by cases h), fun _ => by first | exact zfy (sgF_bad hs (by assumption) hpt (by omega)) (by omega) | exact addF_big hsF (fun h9 => by have h8 := hoi.1 h9; omega) | exact (addF_go hsF hokF).trans (zfv (i := ux + 1) (by rw [zfq hH, hk2, ← hzp, ← hpp]; exact hnoNone (by assumption)) _ (by omega))⟩, hm.sub (.cons_cons _ (.cons _ (.cons _ (.cons _ (.cons _ (.cons _ (.cons _ (.cons _ (.cons _ (.cons _ (.refl _)))))))))))⟩)
 refine zah 2 rfl (hvQ rfl (fdQ 3 rfl rfl rfl) (hvQ rfl (zad rfl rfl rfl (zaa 3 rfl rfl)) (hvQ rfl (lnQ rfl rfl rfl (zaj 7 rfl)) ?_)))
 refine zeb rfl rfl rfl rfl rfl rfl (fun h67 => ?_) (fun h67 => ?_)
 ·
  refine zbb 1 rfl (zai rfl (srQ (hvQ rfl (zax (cs := [q.2, av2, .slice none 0 0, mw]) rfl rfl rfl rfl rfl (zat 3 rfl 0 rfl)) ?_)))
  refine zcq (i := 7) rfl (fun ho68 => ?_)
  refine zcq (i := 6) rfl (fun ho69 => ?_)
  refine zcq (i := 5) rfl (fun ho70 => ?_)
  refine zbd (cs' := #[q.2, av2, .slice none 0 0, mw]) (i := 2) (off := 0) (us := [q.2, av2, .slice none 0 0, mw]) rfl rfl rfl rfl rfl rfl rfl (zab ho70 (zab ho69 (zab rfl (zab ho68 zbc)))) rfl rfl rfl (zbb 1 rfl ?_)
  refine zap (zaf ?_)
  refine zey (p := q.2.oneCell' = true ∧ av2.oneCell' = true ∧ mw.oneCell' = true) (fun w hm => ⟨(zaj 5 rfl w hm).one, (zaj 6 rfl w hm).one, (zaj 7 rfl w hm).one⟩) (fun ho9 => ?_)
  refine zdi (bigE [] :: rowE 3 1 q.1 ids.length (ids.map (Value.int .i64)) :: boxE b4 #[(D.getD k md0).sv, (D.getD k md0).av, (D.getD k md0).iv, (D.getD k md0).mv] 35 :: boxE b3 #[q.2, av2, .slice none 0 0, mw] 35 :: boxE b2 #[q.2, av2, .slice none 0 0, mw] 35 :: boxE b1 #[v] 26 :: rowE 38 3 q.2 S.length (S.flatMap sgC) :: rowE 89 2 av2 G.length (G.flatMap asC) :: rowE 94 4 mw ms2.length (ms2.flatMap mmC) :: bigE ps2 :: l) zdu ?_
  exact zcz (rs := [.cell 12 35, .tmp 13]) (vs := [.agg #[q.2, av2, .slice none 0 0, mw], .bool false]) rfl ⟨⟨b3, 0, [q.2, av2, .slice none 0 0, mw], rfl, rfl, by kernel_rfl, by kernel_rfl, zat 3 rfl 0 rfl⟩, rfl, trivial⟩ rfl (fun w hm => ⟨_, bigE [], rfl, ⟨_, _, _, false, _, rfl, rfl, ho9, (fun h => by cases h), fun _ => by first | exact zfy (sgF_bad hs (by assumption) hpt (by omega)) (by omega) | exact addF_big hsF (fun h9 => by have h8 := hoi.1 h9; omega) | exact (addF_go hsF hokF).trans (zfv (i := ux + 1) (by rw [zfq hH, hk2, ← hzp, ← hpp]; exact hnoNone (by assumption)) _ (by omega))⟩, hm.sub (.cons_cons _ (.cons _ (.cons _ (.cons _ (.cons _ (.cons _ (.cons _ (.cons _ (.cons _ (.cons _ (.refl _)))))))))))⟩)
 refine zbb 1 rfl (zar rfl (zcy (zag (zbf 1 rfl ?_))))
 refine zaz ?_
 have hokF : (ownF (D.getD k md0) p F (ids, n, S)).Ok := hoi.2 ⟨by omega, by omega, by omega⟩
 refine hc_know (p := q.2.oneCell' = true ∧ av2.oneCell' = true ∧ mw.oneCell' = true) (fun w hm => ⟨(zaj 5 rfl w hm).one, (zaj 6 rfl w hm).one, (zaj 7 rfl w hm).one⟩) (fun hou0 => ?_)
 refine hc_loop5 (α := Nat) (β := Fz) (γ := List As) (δ := Value × Value × Value) (fun ux H gs3 q3 ps3 => (rowE 3 1 q.1 ids.length (ids.map (Value.int .i64)) :: boxE b4 #[(D.getD k md0).sv, (D.getD k md0).av, (D.getD k md0).iv, (D.getD k md0).mv] 35 :: boxE b3 #[.slice none 0 0, .slice none 0 0, .slice none 0 0, .slice none 0 0] 35 :: boxE b2 #[q3.1, q3.2.1, .slice none 0 0, q3.2.2] 35 :: boxE b1 #[v] 26 :: rowE 38 3 q3.1 H.ss.length (H.ss.flatMap sgC) :: rowE 89 2 q3.2.1 gs3.length (gs3.flatMap asC) :: rowE 94 4 q3.2.2 H.ms.length (H.ms.flatMap mmC) :: bigE ps3 :: l)) (fun ux H gs3 q3 ps3 => [(0, .agg #[v]), (1, .int .i64 (k : Int)), (2, .int .i64 p), (3, .bool c), (4, uP), (5, .agg #[sv, av, .slice none 0 0, mv]), (6, .pointer (some ⟨b1, 0, none⟩)), (11, .pointer (some ⟨b2, 0, none⟩)), (12, .pointer (some ⟨b3, 0, none⟩)), (13, .bool false), (14, .pointer (some ⟨b4, 0, none⟩)), (15, q.1), (16, .int .i64 (n : Int)), (17, .int .i64 (i : Int)), (19, .int .i64 (ax : Int)), (23, .int .i64 (mx : Int)), (25, .int .i64 (ux : Int)), (42, .bool false), (104, .bool false), (168, .bool false), (217, .bool false)]) (fun ux H gs3 q3 ps3 => ux ≤ (D.getD k md0).xs.length ∧ insA (fun k p P G => addF D f k p true P G) ids p (D.getD k md0).xs (ownF (D.getD k md0) p F (ids, n, S)) ux = some H ∧ gs3.map asV = H.gs ∧ (∀ w, (bigE ps3).holds w → OpsR w gs3) ∧ q3.1.oneCell' = true ∧ q3.2.1.oneCell' = true ∧ q3.2.2.oneCell' = true) (fun ux H gs3 q3 ps3 => (D.getD k md0).xs.length - ux) 0 (Fz.mk S (G.map asV) ms2) G (q.2, av2, mw) ps2 ⟨Nat.zero_le _, by show some _ = some _; rw [hGq, hMq]; rfl, rfl, hpq, hou0⟩ (zas [217, 168, 104, 42, 25, 23, 19, 17, 16, 15, 14, 13, 12, 11, 6, 5, 4, 3, 2, 1, 0] rfl) (.refl _) ?_
 intro ux H gs3 q3 ps3 hi71
 obtain ⟨hu, hH, hG3, hp3, hou⟩ := hi71
 obtain ⟨hHo, hHl⟩ := insA_ok hokF (fun k p P A B _ e => addF_ok f k p true P A B e) _ _ hH
 have hHl2 : S.length ≤ H.ss.length := hHl
 refine zag (zag (reQ 1 rfl (hvQ rfl (fdQ 2 rfl rfl rfl) (hvQ rfl (zad rfl rfl rfl (zaa 1 rfl rfl)) ?_))))
 refine hvQ rfl (lnQ rfl rfl rfl (fun w hm => (((hd w (hm.sub (.cons _ (.cons _ (.cons _ (.cons _ (.cons _ (.cons _ (.cons _ (.cons _ (.cons _ (.refl _)))))))))))).at (k := k) hkl).x))) (zbq rfl rfl rfl rfl rfl rfl (fun h72 => ?_) (fun h72 => ?_))
 ·
  refine ntQ (zai rfl (zcy (sbQ (srQ ?_))))
  have hxi := hmod.ins ux (by omega)
  have hxp : ∀ j, j < ((D.getD k md0).xs.getD ux ix0).ps.length → 0 ≤ ((D.getD k md0).xs.getD ux ix0).ps.getD j 0 ∧ ((D.getD k md0).xs.getD ux ix0).ps.getD j 0 < (D.getD k md0).ss.length := fun j hj => ((hmod.xs ux (by omega)).2 j (by rw [← hxi.2]; exact hj)).1
  have hxl30 : ((D.getD k md0).xs.getD ux ix0).ps.length ≤ 30 := by rw [hxi.2]; exact ptsK_le _
  refine hvQ rfl (fdQ 2 rfl rfl rfl) (hvQ rfl (zad rfl rfl rfl (zaa 1 rfl rfl)) (zah 1 rfl ?_))
  refine hvQ rfl (riQ 3 rfl rfl rfl rfl (fun w hm => (((hd w (hm.sub (.cons _ (.cons _ (.cons _ (.cons _ (.cons _ (.cons _ (.cons _ (.cons _ (.cons _ (.refl _)))))))))))).at (k := k) hkl).x))) (hvQ rfl (zbm (us := [.int .i64 ((((D.getD k md0).xs).getD ux ix0).m), .int .i64 ((((D.getD k md0).xs).getD ux ix0).p), (((D.getD k md0).xs).getD ux ix0).pv]) rfl rfl rfl rfl (fun w hm => (((hd w (hm.sub (.cons _ (.cons _ (.cons _ (.cons _ (.cons _ (.cons _ (.cons _ (.cons _ (.cons _ (.refl _)))))))))))).at (k := k) hkl).x)) (by omega) rfl (zbz ixC 3 (fun _ => rfl) ((D.getD k md0).xs) ix0 (show ux < _ by omega) rfl)) ?_)
  refine zdm rfl (zbe (z := .agg #[.int .i64 0, .int .i64 0, .slice none 0 0]) rfl rfl) ?_
  intro b73
  refine zbd (cs' := #[.int .i64 ((((D.getD k md0).xs).getD ux ix0).m), .int .i64 ((((D.getD k md0).xs).getD ux ix0).p), (((D.getD k md0).xs).getD ux ix0).pv]) (i := 0) (off := 0) (us := [.int .i64 ((((D.getD k md0).xs).getD ux ix0).m), .int .i64 ((((D.getD k md0).xs).getD ux ix0).p), (((D.getD k md0).xs).getD ux ix0).pv]) rfl rfl rfl rfl rfl rfl rfl (zab rfl (zab rfl (zab (hm9.p.at (k := ux) (by omega)).one zbc))) rfl rfl rfl (ntQ (srQ ?_))
  refine zdt rfl (zdo (s := 1) rfl Try.underlying48 rfl) ?_
  intro g74
  refine zbb 1 rfl (zag (zbf 1 rfl (zaz ?_)))
  refine lkQ3 (α := Nat) (β := List Int) (γ := Value) [0, 1, 2, 3, 4, 5, 6, 11, 12, 13, 14, 15, 16, 17, 19, 23, 25, 26, 42, 104, 168, 217, 223] rfl (fun jx zs yv => (rowE 3 1 yv zs.length (zs.map (Value.int .i64)) :: boxE b73 #[.int .i64 ((((D.getD k md0).xs).getD ux ix0).m), .int .i64 ((((D.getD k md0).xs).getD ux ix0).p), (((D.getD k md0).xs).getD ux ix0).pv] 63 :: rowE 3 1 q.1 ids.length (ids.map (Value.int .i64)) :: boxE b4 #[(D.getD k md0).sv, (D.getD k md0).av, (D.getD k md0).iv, (D.getD k md0).mv] 35 :: boxE b3 #[.slice none 0 0, .slice none 0 0, .slice none 0 0, .slice none 0 0] 35 :: boxE b2 #[q3.1, q3.2.1, .slice none 0 0, q3.2.2] 35 :: boxE b1 #[v] 26 :: rowE 38 3 q3.1 H.ss.length (H.ss.flatMap sgC) :: rowE 89 2 q3.2.1 gs3.length (gs3.flatMap asC) :: rowE 94 4 q3.2.2 H.ms.length (H.ms.flatMap mmC) :: bigE ps3 :: l)) (fun jx zs yv => [(27, yv), (28, .int .i64 (jx : Int))]) (fun jx zs yv => jx ≤ ((D.getD k md0).xs.getD ux ix0).ps.length ∧ zs = (((D.getD k md0).xs.getD ux ix0).ps.take jx).map (fun q => ids.getD q.toNat 0)) (fun jx zs yv => ((D.getD k md0).xs.getD ux ix0).ps.length - jx) 0 [] _ ⟨Nat.zero_le _, rfl⟩ (saQ rfl) (.refl _) ?_
  intro jx zs yv hi75
  obtain ⟨hj, hz⟩ := hi75
  have hzl : zs.length = jx := by rw [hz, List.length_map, List.length_take]; omega
  refine zag (zag (reQ 1 rfl (hvQ rfl (fdQ 2 rfl rfl rfl) (hvQ rfl (zad rfl rfl rfl (zaa 1 rfl rfl)) ?_))))
  refine hvQ rfl (lnQ rfl rfl rfl (fun w hm => (((hd w (hm.sub (.cons _ (.cons _ (.cons _ (.cons _ (.cons _ (.cons _ (.cons _ (.cons _ (.cons _ (.cons _ (.cons _ (.refl _)))))))))))))).at (k := k) hkl).p.at (k := ux) (by omega)))) (zbq rfl rfl rfl rfl rfl rfl (fun h76 => ?_) (fun h76 => ?_))
  ·
   refine ntQ (zai rfl (zcy (sbQ (zao ?_))))
   have hxj := hxp jx (by omega)
   refine zah 2 rfl (hvQ rfl (fdQ 2 rfl rfl rfl) (hvQ rfl (zad rfl rfl rfl (zaa 1 rfl rfl)) (zah 1 rfl ?_)))
   refine hvQ rfl (riQ 1 rfl rfl rfl rfl (fun w hm => (((hd w (hm.sub (.cons _ (.cons _ (.cons _ (.cons _ (.cons _ (.cons _ (.cons _ (.cons _ (.cons _ (.cons _ (.cons _ (.refl _)))))))))))))).at (k := k) hkl).p.at (k := ux) (by omega)))) (hvQ rfl (zam (u := .int .i64 (((((D.getD k md0).xs).getD ux ix0).ps).getD jx 0)) rfl rfl rfl (fun w hm => (((hd w (hm.sub (.cons _ (.cons _ (.cons _ (.cons _ (.cons _ (.cons _ (.cons _ (.cons _ (.cons _ (.cons _ (.cons _ (.refl _)))))))))))))).at (k := k) hkl).p.at (k := ux) (by omega))) (zby (show _ < ((((D.getD k md0).xs).getD ux ix0).ps).length by omega))) ?_)
   refine hvQ rfl (riQ 1 rfl rfl rfl rfl (zaj 2 rfl)) (hvQ rfl (lzQ rfl rfl rfl (zaj 2 rfl)) ?_)
   refine zdt rfl (zal (z := .int .i64 0) (s := 1) (cs := ([ids.getD ((((((D.getD k md0).xs).getD ux ix0).ps).getD jx 0).toNat) 0].map (Value.int .i64))) rfl Try.underlying48 rfl (by decide) rfl (by kernel_rfl) rfl) ?_
   intro g77
   refine zcp (i := 1) (z := .int .i64 0) (bytes := 8) rfl rfl rfl rfl Try.underlying48 (by kernel_rfl) rfl rfl rfl rfl (zaj 0 rfl) (zch _) (by first | omega | (simp; done) | (simp; omega)) (zci zs ([ids.getD ((((((D.getD k md0).xs).getD ux ix0).ps).getD jx 0).toNat) 0])) (zcs zs ([ids.getD ((((((D.getD k md0).xs).getD ux ix0).ps).getD jx 0).toNat) 0])) (fun _ => rfl) ?_
   intro v78
   refine enQ 1 rfl (zde (reQ 1 rfl (hvQ rfl (vaQ rfl rfl rfl) (enQ 1 rfl ?_))))
   exact zcn (jx + 1) (zs ++ ([ids.getD ((((((D.getD k md0).xs).getD ux ix0).ps).getD jx 0).toNat) 0])) v78 ⟨by omega, ptF_take hz (by omega)⟩ (by omega) (saQ rfl) (.cons _ (.refl _))
  refine ntQ (zar rfl ?_)
  refine zbl (zdx ?_)
  refine zan (zaq (srQ (hvQ rfl (fdQ 1 rfl rfl rfl) (hvQ rfl (zad rfl rfl rfl (zaa 1 rfl rfl)) (zbb 1 rfl ?_)))))
  refine zgg (α := Int) (fun pp => (rowE 3 1 yv zs.length (zs.map (Value.int .i64)) :: boxE b73 #[.int .i64 ((((D.getD k md0).xs).getD ux ix0).m), .int .i64 ((((D.getD k md0).xs).getD ux ix0).p), (((D.getD k md0).xs).getD ux ix0).pv] 63 :: rowE 3 1 q.1 ids.length (ids.map (Value.int .i64)) :: boxE b4 #[(D.getD k md0).sv, (D.getD k md0).av, (D.getD k md0).iv, (D.getD k md0).mv] 35 :: boxE b3 #[.slice none 0 0, .slice none 0 0, .slice none 0 0, .slice none 0 0] 35 :: boxE b2 #[q3.1, q3.2.1, .slice none 0 0, q3.2.2] 35 :: boxE b1 #[v] 26 :: rowE 38 3 q3.1 H.ss.length (H.ss.flatMap sgC) :: rowE 89 2 q3.2.1 gs3.length (gs3.flatMap asC) :: rowE 94 4 q3.2.2 H.ms.length (H.ms.flatMap mmC) :: bigE ps3 :: l)) (fun pp => [(0, .agg #[v]), (1, .int .i64 (k : Int)), (2, .int .i64 p), (3, .bool c), (4, uP), (5, .agg #[sv, av, .slice none 0 0, mv]), (6, .pointer (some ⟨b1, 0, none⟩)), (11, .pointer (some ⟨b2, 0, none⟩)), (12, .pointer (some ⟨b3, 0, none⟩)), (13, .bool false), (14, .pointer (some ⟨b4, 0, none⟩)), (15, q.1), (16, .int .i64 (n : Int)), (17, .int .i64 (i : Int)), (19, .int .i64 (ax : Int)), (23, .int .i64 (mx : Int)), (25, .int .i64 (ux : Int)), (26, .pointer (some ⟨b73, 0, none⟩)), (27, yv), (28, .int .i64 (jx : Int)), (29, .int .i64 pp), (42, .bool false), (104, .bool false), (168, .bool false), (217, .bool false), (223, .bool true), (236, .bool false)]) (fun pp => pp = inP p ((D.getD k md0).xs.getD ux ix0)) ?_ ?_
  ·
   refine zag (reQ 1 rfl ?_)
   refine zbt rfl rfl rfl rfl rfl rfl (fun h79 => ?_) (fun h79 => ?_)
   ·
    refine ntQ (zai rfl (zao (enQ 2 rfl ?_)))
    exact zed p (by unfold inP; first | rw [if_pos (by omega)] | rw [if_neg (by omega)]) (saQ rfl) (.refl _)
   refine ntQ (fsQ rfl ?_)
   exact zed ((((D.getD k md0).xs).getD ux ix0).p) (by unfold inP; first | rw [if_pos (by omega)] | rw [if_neg (by omega)]) (saQ rfl) (.refl _)
  intro pp hm80
  have hpp := hm80
  refine srQ ?_
  refine hl_pick 11 [6, 5, 4, 3, 2, 1, 0, 10, 9, 8, 7] rfl rfl (by decide) ?_
  refine hl_pool 4 rfl ?_
  have hzp : zs = ptF ids ((D.getD k md0).xs.getD ux ix0) := by rw [hz, show jx = ((D.getD k md0).xs.getD ux ix0).ps.length by omega, List.take_length]; rfl
  refine hvQ rfl (zax (cs := [v]) rfl rfl rfl rfl rfl (zat 7 rfl 0 rfl)) (hvQ rfl (fdQ 0 rfl rfl rfl) (hvQ rfl (zad rfl rfl rfl (zaa 2 rfl rfl)) ?_))
  obtain ⟨kx, hk2⟩ : ∃ kx : Nat, ((D.getD k md0).xs.getD ux ix0).m = (kx : Int) := ⟨((D.getD k md0).xs.getD ux ix0).m.toNat, by omega⟩
  rw [hk2]
  rw [hk2, Int.toNat_natCast] at hxi
  have hpo2 : PoP (D.getD kx md0) true zs H.ss.length := fun _ => ⟨by rw [hzp, ptF_len]; exact hxi.2, by rw [hzp]; exact ptF_in (hin.mono hHl2) (fun j hj => by have h9 := hxp j hj; omega)⟩
  refine zah 2 rfl (hvQ rfl (zax (cs := [q3.1, q3.2.1, .slice none 0 0, q3.2.2]) rfl rfl rfl rfl rfl (zat 6 rfl 0 rfl)) ?_)
  refine zeg (R := (fun u_ p_ => AddR (addF D f kx pp true zs H) u_ p_)) 0 rfl rfl rfl rfl rfl (fun L w hX hm => IH kx pp zs H gs3 yv q3.1 q3.2.1 q3.2.2 ps3 _ _ (by omega) hHo hpo2 hG3 hp3 (fun w h => hd w ((hX w h).sub (.cons _ (.cons _ (.cons _ (.cons _ (.cons _ (.cons _ (.cons _ (.refl _)))))))))) (fun w h => (zaj (l := (rowE 3 1 yv zs.length (zs.map (Value.int .i64)) :: boxE b73 #[.int .i64 ((kx : Int)), .int .i64 ((((D.getD k md0).xs).getD ux ix0).p), (((D.getD k md0).xs).getD ux ix0).pv] 63 :: rowE 3 1 q.1 ids.length (ids.map (Value.int .i64)) :: boxE b4 #[(D.getD k md0).sv, (D.getD k md0).av, (D.getD k md0).iv, (D.getD k md0).mv] 35 :: boxE b3 #[.slice none 0 0, .slice none 0 0, .slice none 0 0, .slice none 0 0] 35 :: boxE b2 #[q3.1, q3.2.1, .slice none 0 0, q3.2.2] 35 :: boxE b1 #[v] 26 :: l)) 0 rfl) w (hX w h)) hm) ?_
  intro v81 p82 hR83
  obtain ⟨ahR83, bhR83, dhR83, okhR83, qshR83, rfl, rfl, honhR83, hgohR83, hnohR83⟩ := hR83
  refine zcr (l' := (bigE qshR83 :: rowE 3 1 yv zs.length (zs.map (Value.int .i64)) :: boxE b73 #[.int .i64 ((kx : Int)), .int .i64 ((((D.getD k md0).xs).getD ux ix0).p), (((D.getD k md0).xs).getD ux ix0).pv] 63 :: rowE 3 1 q.1 ids.length (ids.map (Value.int .i64)) :: boxE b4 #[(D.getD k md0).sv, (D.getD k md0).av, (D.getD k md0).iv, (D.getD k md0).mv] 35 :: boxE b3 #[.slice none 0 0, .slice none 0 0, .slice none 0 0, .slice none 0 0] 35 :: boxE b2 #[q3.1, q3.2.1, .slice none 0 0, q3.2.2] 35 :: boxE b1 #[v] 26 :: l)) rfl ?_
  refine zah 3 rfl (zbs (fun h84 => ?_) (fun h84 => ?_))
  ·
   refine zdm rfl (zbe (z := .agg #[.slice none 0 0, .slice none 0 0, .slice none 0 0, .slice none 0 0]) rfl rfl) ?_
   intro b85
   refine zbd (cs' := #[ahR83, bhR83, .slice none 0 0, dhR83]) (i := 0) (off := 0) (us := [ahR83, bhR83, .slice none 0 0, dhR83]) rfl rfl rfl rfl rfl rfl rfl (zab honhR83.1 (zab honhR83.2.1 (zab rfl (zab honhR83.2.2 zbc)))) rfl rfl rfl (zbb 1 rfl (zag (zbf 2 rfl (zar rfl (zcy ?_)))))
   refine zao ?_
   obtain ⟨G2, hG2, gs4, ps4, rfl, hp4, hG4⟩ := hgohR83 (by assumption)
   refine hl_pick 9 [8, 7, 6, 5, 4, 3, 2, 0, 1] rfl rfl (by decide) ?_
   refine zfr (rowE 38 3 ahR83 G2.ss.length (G2.ss.flatMap sgC) :: rowE 89 2 bhR83 gs4.length (gs4.flatMap asC) :: rowE 94 4 dhR83 G2.ms.length (G2.ms.flatMap mmC) :: bigE ps4 :: boxE b85 #[ahR83, bhR83, .slice none 0 0, dhR83] 35 :: rowE 3 1 yv zs.length (zs.map (Value.int .i64)) :: boxE b73 #[.int .i64 ((kx : Int)), .int .i64 ((((D.getD k md0).xs).getD ux ix0).p), (((D.getD k md0).xs).getD ux ix0).pv] 63 :: rowE 3 1 q.1 ids.length (ids.map (Value.int .i64)) :: boxE b4 #[(D.getD k md0).sv, (D.getD k md0).av, (D.getD k md0).iv, (D.getD k md0).mv] 35 :: boxE b3 #[.slice none 0 0, .slice none 0 0, .slice none 0 0, .slice none 0 0] 35 :: boxE b2 #[q3.1, q3.2.1, .slice none 0 0, q3.2.2] 35 :: boxE b1 #[v] 26 :: l) zdf ?_
   refine hvQ rfl (zax (cs := [ahR83, bhR83, .slice none 0 0, dhR83]) rfl rfl rfl rfl rfl (zat 4 rfl 0 rfl)) (zbd (cs' := #[ahR83, bhR83, .slice none 0 0, dhR83]) (i := 10) (off := 0) (us := [ahR83, bhR83, .slice none 0 0, dhR83]) rfl rfl rfl rfl rfl rfl rfl (zab honhR83.1 (zab honhR83.2.1 (zab rfl (zab honhR83.2.2 zbc)))) rfl rfl rfl ?_)
   refine zbn (zde (reQ 1 rfl (hvQ rfl (vaQ rfl rfl rfl) (enQ 1 rfl ?_))))
   refine zbj 12 [3, 2, 1, 0, 11, 10, 9, 8, 7] rfl rfl (by decide) ?_
   exact zex (ux + 1) G2 gs4 (ahR83, bhR83, dhR83) ps4 ⟨by omega, by rw [zfq hH, hk2, ← hzp, ← hpp]; exact hG2, hG4, hp4, honhR83⟩ (by omega) (zas [217, 168, 104, 42, 25, 23, 19, 17, 16, 15, 14, 13, 12, 11, 6, 5, 4, 3, 2, 1, 0] rfl) (.refl _)
  refine zdm rfl (zbe (z := .agg #[.slice none 0 0, .slice none 0 0, .slice none 0 0, .slice none 0 0]) rfl rfl) ?_
  intro b86
  refine zbd (cs' := #[ahR83, bhR83, .slice none 0 0, dhR83]) (i := 0) (off := 0) (us := [ahR83, bhR83, .slice none 0 0, dhR83]) rfl rfl rfl rfl rfl rfl rfl (zab honhR83.1 (zab honhR83.2.1 (zab rfl (zab honhR83.2.2 zbc)))) rfl rfl rfl (zbb 1 rfl (zag (zbf 2 rfl (zai rfl (srQ ?_)))))
  refine hvQ rfl (zax (cs := [q3.1, q3.2.1, .slice none 0 0, q3.2.2]) rfl rfl rfl rfl rfl (zat 7 rfl 0 rfl)) (zbd (cs' := #[q3.1, q3.2.1, .slice none 0 0, q3.2.2]) (i := 6) (off := 0) (us := [q3.1, q3.2.1, .slice none 0 0, q3.2.2]) rfl rfl rfl rfl rfl rfl rfl (zab hou.1 (zab hou.2.1 (zab rfl (zab hou.2.2 zbc)))) rfl rfl rfl ?_)
  refine zbb 1 rfl ?_
  refine zap (zaf ?_)
  refine zac (zdy ?_)
  refine zac (zaf ?_)
  refine zdi (bigE [] :: boxE b86 #[ahR83, bhR83, .slice none 0 0, dhR83] 35 :: bigE qshR83 :: rowE 3 1 yv zs.length (zs.map (Value.int .i64)) :: boxE b73 #[.int .i64 ((kx : Int)), .int .i64 ((((D.getD k md0).xs).getD ux ix0).p), (((D.getD k md0).xs).getD ux ix0).pv] 63 :: rowE 3 1 q.1 ids.length (ids.map (Value.int .i64)) :: boxE b4 #[(D.getD k md0).sv, (D.getD k md0).av, (D.getD k md0).iv, (D.getD k md0).mv] 35 :: boxE b3 #[q3.1, q3.2.1, .slice none 0 0, q3.2.2] 35 :: boxE b2 #[q3.1, q3.2.1, .slice none 0 0, q3.2.2] 35 :: boxE b1 #[v] 26 :: l) zdu ?_
  exact zcz (rs := [.cell 12 35, .tmp 13]) (vs := [.agg #[q3.1, q3.2.1, .slice none 0 0, q3.2.2], .bool false]) rfl ⟨⟨b3, 0, [q3.1, q3.2.1, .slice none 0 0, q3.2.2], rfl, rfl, by kernel_rfl, by kernel_rfl, zat 7 rfl 0 rfl⟩, rfl, trivial⟩ rfl (fun w hm => ⟨_, bigE [], rfl, ⟨_, _, _, false, _, rfl, rfl, hou, (fun h => by cases h), fun _ => by first | exact zfy (sgF_bad hs (by assumption) hpt (by omega)) (by omega) | exact addF_big hsF (fun h9 => by have h8 := hoi.1 h9; omega) | exact (addF_go hsF hokF).trans (zfv (i := ux + 1) (by rw [zfq hH, hk2, ← hzp, ← hpp]; exact hnohR83 (by assumption)) _ (by omega))⟩, hm.sub (.cons_cons _ (.cons _ (.cons _ (.cons _ (.cons _ (.cons _ (.cons _ (.cons _ (.cons _ (.cons _ (.refl _)))))))))))⟩)
 refine ntQ (zar rfl ?_)
 refine zbl (zdx ?_)
 refine zan (zaq (srQ (hvQ rfl (zax (cs := [q3.1, q3.2.1, .slice none 0 0, q3.2.2]) rfl rfl rfl rfl rfl (zat 3 rfl 0 rfl)) ?_)))
 refine zcq (i := 7) rfl (fun ho87 => ?_)
 refine zcq (i := 6) rfl (fun ho88 => ?_)
 refine zcq (i := 5) rfl (fun ho89 => ?_)
 refine zbd (cs' := #[q3.1, q3.2.1, .slice none 0 0, q3.2.2]) (i := 2) (off := 0) (us := [q3.1, q3.2.1, .slice none 0 0, q3.2.2]) rfl rfl rfl rfl rfl rfl rfl (zab ho89 (zab ho88 (zab rfl (zab ho87 zbc)))) rfl rfl rfl (zbb 1 rfl ?_)
 refine zap (zbj 9 [4, 3, 2, 1, 0, 8, 7, 6, 5] rfl rfl (by decide) ?_)
 refine zcb 4 rfl ?_
 exact zcz (rs := [.cell 12 35, .tmp 13]) (vs := [.agg #[q3.1, q3.2.1, .slice none 0 0, q3.2.2], .bool true]) rfl ⟨⟨b3, 0, [q3.1, q3.2.1, .slice none 0 0, q3.2.2], rfl, rfl, by kernel_rfl, by kernel_rfl, zat 3 rfl 0 rfl⟩, rfl, trivial⟩ rfl (fun w hm => ⟨_, bigE [rowE 38 3 q3.1 H.ss.length (H.ss.flatMap sgC), rowE 89 2 q3.2.1 gs3.length (gs3.flatMap asC), rowE 94 4 q3.2.2 H.ms.length (H.ms.flatMap mmC), bigE ps3], rfl, ⟨_, _, _, true, _, rfl, rfl, hou, fun _ => ⟨H, by rw [addF_go hsF hokF, show (D.getD k md0).xs.length = ux by omega]; exact hH, gs3, ps3, rfl, hp3, hG3⟩, fun h => by cases h⟩, hm.sub (.cons_cons _ (.cons _ (.cons _ (.cons _ (.cons _ (.cons _ (.refl _)))))))⟩)
theorem l06Add_ind (D : List Md) (v : Value) (hdp : DesP D) (w0 : World) : ∀ (f k : Nat) (p : Int) (c : Bool) (P : List Int) (F : Fz) (gs : List As) (uP sv av mv : Value) (ps l : List HP) (w : World), k < f → k < D.length → F.Ok → PoP (D.getD k md0) c P F.ss.length → gs.map asV = F.gs → (∀ w, (bigE ps).holds w → OpsR w gs) → (∀ w, Mem w0 l w → RdsDs w v D) → (∀ w, Mem w0 l w → RdsW w uP 1 P.length (P.map (Value.int .i64))) → Mem w0 (bigE (flQ sv av mv F.ss gs F.ms ps) :: l) w →
    Calls Try.prog 70 #[.agg #[v], .int .i64 (k : Int), .int .i64 p, .bool c, uP, .agg #[sv, av, .slice none 0 0, mv]] w (fun e_ w_ => ∃ v_ p_, e_ = .returned v_ ∧ AddR (addF D f k p c P F) v_ p_ ∧ Mem w0 (p_ :: l) w_)
  | 0, k, p, c, P, F, gs, uP, sv, av, mv, ps, l, w, hk, _, _, _, _, _, _, _, _ => absurd hk (by omega)
  | f + 1, k, p, c, P, F, gs, uP, sv, av, mv, ps, l, w, hk, hkl, hF, hPo, hgs, hps, hd, hP, hm => l06Add_step D f k p c P F gs v uP sv av mv ps w0 l w hm hd hP hdp hkl hF hPo hgs hps (fun kx p2 P2 F2 gs2 ux sv2 av2 mv2 ps2 l2 w2 hlt hF2 hPo2 hgs2 hps2 hd2 hu2 hm2 => l06Add_ind D v hdp w0 f kx p2 true P2 F2 gs2 ux sv2 av2 mv2 ps2 l2 w2 (by omega) (by omega) hF2 hPo2 hgs2 hps2 hd2 hu2 hm2)
structure MdF (m : Md) (F : Fz) : Prop where
  s : m.ss = F.ss
  g : m.gs.map asV = F.gs
  x : m.xs = []
  m : m.ms = F.ms
end Go.Proofs.Ytodiifjigjnalaa
