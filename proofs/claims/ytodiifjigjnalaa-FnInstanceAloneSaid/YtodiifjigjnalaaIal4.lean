/- Texts of the law FnInstanceAlone, part 4: what it uses. -/
import Derived.Test.YtodiifjigjnalaaIal3
set_option linter.unusedVariables false
set_option linter.unusedSimpArgs false
set_option maxHeartbeats 4000000
set_option maxRecDepth 100000
namespace Go.Proofs.Ytodiifjigjnalaa
open Go.RowKit Go.ChangeShapes
open Go.RowKit
theorem tU (D : List Md) (f k : Nat) (p : Int) (c : Bool) (P : List Int) (F : Fz) (gs : List As) (v uP sv av mv : Value) (ps : List HP) (w0 : World) (l : List HP) (w : World) (hm0 : Mem w0 (bigE (flQ sv av mv F.ss gs F.ms ps) :: l) w) (hd : ∀ w, Mem w0 l w → RdsDs w v D) (hP : ∀ w, Mem w0 l w → RdsW w uP 1 P.length (P.map (Value.int .i64))) (hdp : DesP D) (hkl : k < D.length) (hF : F.Ok) (hPo : PoP (D.getD k md0) c P F.ss.length) (hgs : gs.map asV = F.gs) (hps : ∀ w, (bigE ps).holds w → OpsR w gs) (IH : ∀ (kx : Nat) (p2 : Int) (P2 : List Int) (F2 : Fz) (gs2 : List As) (ux sv2 av2 mv2 : Value) (ps2 l2 : List HP) (w2 : World), kx < k → F2.Ok → PoP (D.getD kx md0) true P2 F2.ss.length → gs2.map asV = F2.gs → (∀ w, (bigE ps2).holds w → OpsR w gs2) → (∀ w, Mem w0 l2 w → RdsDs w v D) → (∀ w, Mem w0 l2 w → RdsW w ux 1 P2.length (P2.map (Value.int .i64))) → Mem w0 (bigE (flQ sv2 av2 mv2 F2.ss gs2 F2.ms ps2) :: l2) w2 → Calls Try.prog 70 #[.agg #[v], .int .i64 (kx : Int), .int .i64 p2, .bool true, ux, .agg #[sv2, av2, .slice none 0 0, mv2]] w2 (fun e_ w_ => ∃ v_ p_, e_ = .returned v_ ∧ AddR (addF D f kx p2 true P2 F2) v_ p_ ∧ Mem w0 (p_ :: l2) w_)) :
   Calls Try.prog 70 #[.agg #[v], .int .i64 (k : Int), .int .i64 p, .bool c, uP, .agg #[sv, av, .slice none 0 0, mv]] w (fun e_ w_ => ∃ v_ p_, e_ = .returned v_ ∧ (fun u_ p_ => AddR (addF D (f + 1) k p c P F) u_ p_) v_ p_ ∧ Mem w0 (p_ :: l) w_) := by
 have hd9 := hd w (hm0.sub (List.sublist_cons_self _ _))
 have hm9 := hd9.at (k := k) hkl
 have hP9 := gL (hP w (hm0.sub (List.sublist_cons_self _ _)))
 have hmod := hdp.2 k hkl
 have hln := hmod.cnt.md k hkl
 obtain ⟨hF1, hF2, hF3⟩ := hF
 obtain ⟨hln1, hln2, hln3, hln4⟩ := id hln
 have hdl := hmod.cnt.len
 have hfl9 : F.gs.length = gs.length := by rw [← hgs, List.length_map]
 refine gI (N := 270) (args := [.agg #[v], jI (k : Int), jI p, .bool c, uP, .agg #[sv, av, .slice none 0 0, mv]]) Try.func70 C C (l := (rS9 38 3 sv F.ss sgC :: rS9 89 2 av gs asC :: rS9 94 4 mv F.ms mmC :: bigE ps :: l)) hm0.unbig (cA ?_)
 refine cL C (cY C C) ?_
 intro b1
 refine cL C (cY C C) ?_
 intro b2
 refine cL C (bG (z := .agg #[.slice none 0 0, .slice none 0 0, .slice none 0 0, .slice none 0 0]) C C) ?_
 intro b3
 refine aP 1 C (cA (aI C (bM 0 C C C) (aI C (aC C C C (aA 2 C C)) (aH 1 C ?_))))
 refine aI C (cR 4 C C C C (fun w hm => ((hd w (hm.sub (fO 7 C))).row))) (aI C (bL (us := [(D.getD k md0).sv, (D.getD k md0).av, (D.getD k md0).iv, (D.getD k md0).mv]) C C C C (fun w hm => ((hd w (hm.sub (fO 7 C))).row)) (by omega) C (bY mdC 4 (fun _ => C) D md0 (show k < _ by omega) C)) ?_)
 refine cL C (bG (z := .agg #[.slice none 0 0, .slice none 0 0, .slice none 0 0, .slice none 0 0]) C C) ?_
 intro b4
 refine bE (cs' := #[(D.getD k md0).sv, (D.getD k md0).av, (D.getD k md0).iv, (D.getD k md0).mv]) (i := 0) (off := 0) (us := [(D.getD k md0).sv, (D.getD k md0).av, (D.getD k md0).iv, (D.getD k md0).mv]) C C C C C C C (aB hm9.s.one (aB hm9.g.one (aB hm9.x.one (aB hm9.m.one bC)))) C C C (bQ (cA ?_))
 refine eA C (dF (s := 1) C Try.underlying48 C) ?_
 intro g5
 refine aP 1 C (bA 1 C (aF (aF (cG 1 C ?_))))
 refine bQ (bD ?_)
 refine iR (α := Nat) (β := Nat) (γ := List Int) (δ := List Sg) (fun i n ids S q => (rI9 3 q.1 ids :: boxE b4 #[(D.getD k md0).sv, (D.getD k md0).av, (D.getD k md0).iv, (D.getD k md0).mv] 35 :: boxE b3 #[.slice none 0 0, .slice none 0 0, .slice none 0 0, .slice none 0 0] 35 :: boxE b2 #[q.2, av, .slice none 0 0, mv] 35 :: boxE b1 #[v] 26 :: rS9 38 3 q.2 S sgC :: rS9 89 2 av gs asC :: rS9 94 4 mv F.ms mmC :: bigE ps :: l)) (fun i n ids S q => [(0, .agg #[v]), (1, jI (k : Int)), (2, jI p), (3, .bool c), (4, uP), (5, .agg #[sv, av, .slice none 0 0, mv]), (6, pI b1), (11, pI b2), (12, pI b3), (13, .bool false), (14, pI b4), (15, q.1), (16, jI (n : Int)), (17, jI (i : Int))]) (fun i n ids S q => i ≤ (D.getD k md0).ss.length ∧ sgF (D.getD k md0) p c P F.ss i = some (ids, n, S)) (fun i n ids S q => (D.getD k md0).ss.length - i) 0 0 [] F.ss (.slice (some ⟨g5, 0, none⟩) 0 0, sv) ⟨Nat.zero_le _, C⟩ (aU [17, 16, 15, 14, 13, 12, 11, 6, 5, 4, 3, 2, 1, 0] C) (.refl _) ?_
 intro i n ids S q hi6
 obtain ⟨hi, hs⟩ := hi6
 obtain ⟨hil, hin, hnn, hsl, hsu⟩ := lT hPo hln.1 i _ hi hs
 have hil : ids.length = i := hil
 have hin : InN S.length ids := hin
 have hnn : n = ptN _ c i := hnn
 have hsl : F.ss.length ≤ S.length := hsl
 have hsu : S.length ≤ F.ss.length + i := hsu
 refine aF (aF (cG 1 C (aI C (bM 0 C C C) (aI C (aC C C C (aA 1 C C)) ?_))))
 refine aI C (dL C C C (fun w hm => (((hd w (hm.sub (fO 9 C))).at (k := k) hkl).s))) (bN C C C C C C (fun h7 => ?_) (fun h7 => ?_))
 refine bQ (aK C (cE (fD (cA (aI C (bM 0 C C C) (aI C (aC C C C (aA 1 C C)) (aH 1 C ?_)))))))
 refine aI C (cR 3 C C C C (fun w hm => (((hd w (hm.sub (fO 9 C))).at (k := k) hkl).s))) (aI C (bL (us := [jI ((((D.getD k md0).ss).getD i sg0).k), jI ((((D.getD k md0).ss).getD i sg0).w), jI ((((D.getD k md0).ss).getD i sg0).i)]) C C C C (fun w hm => (((hd w (hm.sub (fO 9 C))).at (k := k) hkl).s)) (by omega) C (bY sgC 3 (fun _ => C) ((D.getD k md0).ss) sg0 (show i < _ by omega) C)) ?_)
 refine cL C (bG (z := .agg #[jI 0, jI 0, jI 0]) C C) ?_
 intro b8
 refine bE (cs' := #[jI ((((D.getD k md0).ss).getD i sg0).k), jI ((((D.getD k md0).ss).getD i sg0).w), jI ((((D.getD k md0).ss).getD i sg0).i)]) (i := 0) (off := 0) (us := [jI ((((D.getD k md0).ss).getD i sg0).k), jI ((((D.getD k md0).ss).getD i sg0).w), jI ((((D.getD k md0).ss).getD i sg0).i)]) C C C C C C C (aB C (aB C (aB C bC))) C C C (bQ ?_)
 refine fJ (α := Int) (fun wd => (boxE b8 #[jI ((((D.getD k md0).ss).getD i sg0).k), jI wd, jI ((((D.getD k md0).ss).getD i sg0).i)] 38 :: rI9 3 q.1 ids :: boxE b4 #[(D.getD k md0).sv, (D.getD k md0).av, (D.getD k md0).iv, (D.getD k md0).mv] 35 :: boxE b3 #[.slice none 0 0, .slice none 0 0, .slice none 0 0, .slice none 0 0] 35 :: boxE b2 #[q.2, av, .slice none 0 0, mv] 35 :: boxE b1 #[v] 26 :: rS9 38 3 q.2 S sgC :: rS9 89 2 av gs asC :: rS9 94 4 mv F.ms mmC :: bigE ps :: l)) (fun wd => [(0, .agg #[v]), (1, jI (k : Int)), (2, jI p), (3, .bool c), (4, uP), (5, .agg #[sv, av, .slice none 0 0, mv]), (6, pI b1), (11, pI b2), (12, pI b3), (13, .bool false), (14, pI b4), (15, q.1), (16, jI (n : Int)), (17, jI (i : Int)), (18, pI b8), (42, .bool true)]) (fun wd => wd = wdF p ((D.getD k md0).ss.getD i sg0)) ?_ ?_
 refine cA (aI C (bM 1 C C C) (aI C (aC C C C (aA 0 C C)) ?_))
 refine bU C C C C C C (fun h9 => ?_) (fun h9 => ?_)
 refine bQ (aK C (cG 1 C (aI C (bM 1 C C C) ?_)))
 refine eZ (i := 0) (cs' := #[jI ((((D.getD k md0).ss).getD i sg0).k), jI p, jI ((((D.getD k md0).ss).getD i sg0).i)]) C C C C C C C C C C C (bK ?_)
 exact cP p (by unfold wdF; first | rw [if_pos (by omega)] | rw [if_neg (by omega)]) (cN C) (.refl _)
 refine bQ (gM C ?_)
 exact cP ((((D.getD k md0).ss).getD i sg0).w) (by unfold wdF; first | rw [if_pos (by omega)] | rw [if_neg (by omega)]) (cN C) (.refl _)
 intro wd hm10
 have hwd := hm10
 refine aF ?_
 refine fJ (α := Bool) (fun bt => (boxE b8 #[jI ((((D.getD k md0).ss).getD i sg0).k), jI wd, jI ((((D.getD k md0).ss).getD i sg0).i)] 38 :: rI9 3 q.1 ids :: boxE b4 #[(D.getD k md0).sv, (D.getD k md0).av, (D.getD k md0).iv, (D.getD k md0).mv] 35 :: boxE b3 #[.slice none 0 0, .slice none 0 0, .slice none 0 0, .slice none 0 0] 35 :: boxE b2 #[q.2, av, .slice none 0 0, mv] 35 :: boxE b1 #[v] 26 :: rS9 38 3 q.2 S sgC :: rS9 89 2 av gs asC :: rS9 94 4 mv F.ms mmC :: bigE ps :: l)) (fun bt => [(0, .agg #[v]), (1, jI (k : Int)), (2, jI p), (3, .bool c), (4, uP), (5, .agg #[sv, av, .slice none 0 0, mv]), (6, pI b1), (11, pI b2), (12, pI b3), (13, .bool false), (14, pI b4), (15, q.1), (16, jI (n : Int)), (17, jI (i : Int)), (18, pI b8), (42, .bool true), (65, .bool bt)]) (fun bt => (bt = true → c = true ∧ isPt ((D.getD k md0).ss.getD i sg0) = true) ∧ (bt = false → ¬ (c = true ∧ isPt ((D.getD k md0).ss.getD i sg0) = true))) ?_ ?_
 refine cG 1 C ?_
 refine bT (fun h11 => ?_) (fun h11 => ?_)
 refine aH 1 C (aI C (bM 0 C C C) (aI C (aC C C C (aA 0 C C)) ?_))
 refine bU C C C C C C (fun h12 => ?_) (fun h12 => ?_)
 refine dA 6 C ?_
 exact cP true ⟨fun _ => ⟨by assumption, dU.2 (by omega)⟩, (fun h9 => by cases h9)⟩ (cN C) (.refl _)
 refine aH 1 C (aI C (bM 0 C C C) (aI C (aC C C C (aA 0 C C)) ?_))
 refine bU C C C C C C (fun h13 => ?_) (fun h13 => ?_)
 refine dA 2 C ?_
 exact cP true ⟨fun _ => ⟨by assumption, dU.2 (by omega)⟩, (fun h9 => by cases h9)⟩ (cN C) (.refl _)
 refine dA 2 C ?_
 exact cP false ⟨(fun h9 => by cases h9), fun _ h9 => by first | exact absurd (h9.1.symm.trans (by assumption)) (by decide) | (have h8 := dU.1 h9.2; omega)⟩ (cN C) (.refl _)
 refine dA 10 C ?_
 exact cP false ⟨(fun h9 => by cases h9), fun _ h9 => by first | exact absurd (h9.1.symm.trans (by assumption)) (by decide) | (have h8 := dU.1 h9.2; omega)⟩ (cN C) (.refl _)
 intro bt hm14
 have hbt := hm14
 refine eW C (fun h15 => ?_) (fun h15 => ?_)
 refine aF (aF ?_)
 obtain ⟨ht9, hpt⟩ := hbt.1 (by assumption)
 have hnp : n < P.length := by rw [hnn]; exact pH hPo hln.1 (by omega) (by assumption) hpt
 have hpr := (hPo (by assumption)).2.at hnp
 refine cI 12 [[], [0], [], [], [2, 3], [4], [1, 5], [6], [7], [], [9], [8, 10]] [66, 67, 68, 69, 70, 71, 72, 73, 74, 75, 76, 77] [.pointer (some ⟨b2, 0 + 0, none⟩), q.2, uP, jI (n : Int), elP uP ((n : Int).toNat * 1), jI (P.getD n 0), elP q.2 ((P.getD n 0).toNat * 3), elP q.2 ((P.getD n 0).toNat * 3 + 1), jI ((S.getD ((P.getD n 0).toNat) sg0).w), .pointer (some ⟨b8, 0 + 1, none⟩), jI wd, .bool (((S.getD ((P.getD n 0).toNat) sg0).w) != wd)] (by kernel_rfl) C ?_ ?_
 exact ⟨bF C (bM 0 C C C) C, bF C (aC C C C (aA 4 C C)) C, bF C (aY C) C, bF C (aY C) C, bF C (cR 1 C C C C (fun w hm => hP w (hm.sub (fO 10 C)))) C, bF C (qD C C C (fun w hm => hP w (hm.sub (fO 10 C)))) C, bF C (cR 3 C C C C (aJ 6 C)) C, bF C (aZ (k0 := 1) C C C (aJ 6 C) (by omega)) C, bF C (aQ (u := jI ((S.getD ((P.getD n 0).toNat) sg0).w)) C C C (aJ 6 C) ((bR sgC 3 (fun _ => C) S sg0 (show (P.getD n 0).toNat < _ by omega) (by decide)).trans C)) C, bF C (bM 1 C C C) C, bF C (aC C C C (aA 0 C C)) C, bF C (dR C C C C) C, trivial⟩
 simp only [List.drop_succ_cons, List.drop_zero]
 refine bQ ?_
 refine eW C (fun h16 => ?_) (fun h16 => ?_)
 have h16p : (S.getD ((P.getD n 0).toNat) sg0).w ≠ wd := bne_iff_ne.1 h16
 refine cA (aI C (aW (cs := [q.2, av, .slice none 0 0, mv]) C C C C C (aT 4 C 0 C)) ?_)
 refine cS (i := 8) C (fun ho17 => ?_)
 refine cS (i := 7) C (fun ho18 => ?_)
 refine cS (i := 6) C (fun ho19 => ?_)
 refine bE (cs' := #[q.2, av, .slice none 0 0, mv]) (i := 3) (off := 0) (us := [q.2, av, .slice none 0 0, mv]) C C C C C C C (aB ho19 (aB ho18 (aB C (aB ho17 bC)))) C C C (aP 1 C ?_)
 refine aN (dZ ?_)
 refine aE (dZ ?_)
 refine aE (aG ?_)
 refine fV (p := q.2.oneCell' = true ∧ av.oneCell' = true ∧ mv.oneCell' = true) (fun w hm => ⟨(aJ 6 C w hm).one, (aJ 7 C w hm).one, (aJ 8 C w hm).one⟩) (fun ho9 => ?_)
 refine dI (bigE [] :: boxE b8 #[jI ((((D.getD k md0).ss).getD i sg0).k), jI wd, jI ((((D.getD k md0).ss).getD i sg0).i)] 38 :: rI9 3 q.1 ids :: boxE b4 #[(D.getD k md0).sv, (D.getD k md0).av, (D.getD k md0).iv, (D.getD k md0).mv] 35 :: boxE b3 #[q.2, av, .slice none 0 0, mv] 35 :: boxE b2 #[q.2, av, .slice none 0 0, mv] 35 :: boxE b1 #[v] 26 :: rS9 38 3 q.2 S sgC :: rS9 89 2 av gs asC :: rS9 94 4 mv F.ms mmC :: bigE ps :: l) dT ?_
 exact eV (rs := [.cell 12 35, .tmp 13]) (vs := [.agg #[q.2, av, .slice none 0 0, mv], .bool false]) C ⟨⟨b3, 0, [q.2, av, .slice none 0 0, mv], C, C, by kernel_rfl, by kernel_rfl, aT 4 C 0 C⟩, C, trivial⟩ C (fun w hm => ⟨_, bigE [], C, ⟨_, _, _, false, _, C, C, ho9, (fun h => by cases h), fun _ => by first | exact gJ (iJ hs (by assumption) hpt (by omega)) (by omega) | exact gW hsF (fun h9 => by have h8 := hoi.1 h9; omega) | exact (hU hsF hokF).trans (fW (i := ux + 1) (by rw [fQ hH, hk2, ← hzp, ← hpp]; exact hnoNone (by assumption)) _ (by omega))⟩, hm.sub (.cons_cons _ (fO 10 C))⟩)
 have h16p : (S.getD ((P.getD n 0).toNat) sg0).w = wd := (bne_eq_false_iff_eq.1 h16)
 refine cE (aF (cG 3 C ?_))
 refine aI C (cR 1 C C C C (fun w hm => hP w (hm.sub (fO 10 C)))) (aI C (qD C C C (fun w hm => hP w (hm.sub (fO 10 C)))) ?_)
 refine eA C (bB (z := jI 0) (s := 1) (cs := (mI [P.getD n 0])) C Try.underlying48 C (by decide) C (by kernel_rfl) C) ?_
 intro g20
 refine cW (i := 2) (z := jI 0) (bytes := 8) C C C C Try.underlying48 (by kernel_rfl) C C C C (aJ 0 C) (cQ _) (by first | omega | (simp; done) | (simp; omega)) (cM ids ([P.getD n 0])) (dP ids ([P.getD n 0])) (fun _ => C) ?_
 intro v21
 refine aP 1 C (aF (cG 1 C (aI C (dO C C C) (aP 1 C ?_))))
 refine bI (gT ?_)
 refine aM (aR (cG 1 C (aI C (dO C C C) (dA 1 C ?_))))
 exact fX (i + 1) (n + 1) (ids ++ ([P.getD n 0])) S (v21, q.2) ⟨by omega, tB hs ht9 hpt (by omega)⟩ (by omega) (aU [17, 16, 15, 14, 13, 12, 11, 6, 5, 4, 3, 2, 1, 0] C) (fO 2 C)
 refine cE (aF (cG 1 C (aI C (bM 0 C C C) (aI C (aC C C C (aA 4 C C)) (aI C (dL C C C (aJ 6 C)) ?_)))))
 refine eA C (bB (z := jI 0) (s := 1) (cs := (mI [(S.length : Int)])) C Try.underlying48 C (by decide) C (by kernel_rfl) C) ?_
 intro g22
 refine cW (i := 2) (z := jI 0) (bytes := 8) C C C C Try.underlying48 (by kernel_rfl) C C C C (aJ 0 C) (cQ _) (by first | omega | (simp; done) | (simp; omega)) (cM ids ([(S.length : Int)])) (dP ids ([(S.length : Int)])) (fun _ => C) ?_
 intro v23
 refine aP 1 C (aO (aI C (bM 0 C C C) (aI C (aC C C C (aA 5 C C)) (aI C (aW (cs := [jI ((((D.getD k md0).ss).getD i sg0).k), jI wd, jI ((((D.getD k md0).ss).getD i sg0).i)]) C C C C C (aT 1 C 0 C)) ?_))))
 refine eA C (bB (z := .agg #[jI 0, jI 0, jI 0]) (s := 3) (cs := (mI [(((D.getD k md0).ss).getD i sg0).k, wd, (((D.getD k md0).ss).getD i sg0).i])) C Try.underlying30 C (by decide) C (by kernel_rfl) C) ?_
 intro g24
 refine cW (i := 8) (z := .agg #[jI 0, jI 0, jI 0]) (bytes := 24) C C C C Try.underlying30 (by kernel_rfl) C C C C (aJ 0 C) (cQ _) (by first | omega | (simp only [List.length_append, List.length_cons, List.length_nil]; omega)) (cM S [(Sg.mk ((((D.getD k md0).ss).getD i sg0).k) wd ((((D.getD k md0).ss).getD i sg0).i))]) (dM sgC S (Sg.mk ((((D.getD k md0).ss).getD i sg0).k) wd ((((D.getD k md0).ss).getD i sg0).i)) _ C) (fun _ => C) ?_
 intro v25
 refine aI C (bM 0 C C C) (cS (i := 8) C (fun ho26 => ?_))
 refine eZ (i := 6) (cs' := #[v25, av, .slice none 0 0, mv]) C C C C C C ho26 C C C C (bK (cK (cG 1 C (aI C (dO C C C) (dA 1 C ?_)))))
 exact fX (i + 1) n (ids ++ ([(S.length : Int)])) (S ++ [(Sg.mk ((((D.getD k md0).ss).getD i sg0).k) wd ((((D.getD k md0).ss).getD i sg0).i))]) (v23, v25) ⟨by omega, by rw [hwd]; exact vS hs (hbt.2 (by assumption))⟩ (by omega) (aU [17, 16, 15, 14, 13, 12, 11, 6, 5, 4, 3, 2, 1, 0] rfl) (fO 3 rfl)
 refine bQ (aS C ?_)
 refine bI (dC ?_)
 refine aM (aR (aF (bA 1 C (bD ?_))))
 have hsF : sgF (D.getD k md0) p c P F.ss (D.getD k md0).ss.length = some (ids, n, S) := by rw [show (D.getD k md0).ss.length = i by omega]; exact hs
 refine lZ (α := Nat) (β := List As) (γ := Value) (δ := List HP) [0, 1, 2, 3, 4, 5, 6, 11, 12, 13, 14, 15, 16, 17, 42] C (fun ax G av2 ps2 => (rI9 3 q.1 ids :: boxE b4 #[(D.getD k md0).sv, (D.getD k md0).av, (D.getD k md0).iv, (D.getD k md0).mv] 35 :: boxE b3 #[.slice none 0 0, .slice none 0 0, .slice none 0 0, .slice none 0 0] 35 :: boxE b2 #[q.2, av2, .slice none 0 0, mv] 35 :: boxE b1 #[v] 26 :: rS9 38 3 q.2 S sgC :: rS9 89 2 av2 G asC :: rS9 94 4 mv F.ms mmC :: bigE ps2 :: l)) (fun ax G av2 ps2 => [(19, jI (ax : Int))]) (fun ax G av2 ps2 => ax ≤ (D.getD k md0).gs.length ∧ G.map asV = F.gs ++ ((D.getD k md0).gs.take ax).map (asF ids p) ∧ ∀ w, (bigE ps2).holds w → OpsR w G) (fun ax G av2 ps2 => (D.getD k md0).gs.length - ax) 0 gs av ps ⟨Nat.zero_le _, by simp [hgs], hps⟩ (cN C) (.refl _) ?_
 intro ax G av2 ps2 hi27
 obtain ⟨ha, hG, hpq⟩ := hi27
 have hGl : G.length = F.gs.length + ax := by have h9 := congrArg List.length hG; rw [List.length_map, List.length_append, List.length_map, List.length_take] at h9; omega
 refine aF (aF (cG 1 C (aI C (bM 1 C C C) (aI C (aC C C C (aA 1 C C)) ?_))))
 refine aI C (dL C C C (fun w hm => (((hd w (hm.sub (fO 9 C))).at (k := k) hkl).g))) (bN C C C C C C (fun h28 => ?_) (fun h28 => ?_))
 refine bQ (aK C (cE (fD (cA ?_))))
 obtain ⟨⟨hgt, -⟩, hgo9⟩ := (show (_ ∧ _) ∧ OpsP (D.getD k md0).ss.length ((D.getD k md0).gs.getD ax as0).os from ⟨(hmod.gs ax (by omega)).tgt, (hmod.gs ax (by omega)).2⟩)
 refine aH 1 C (aI C (bM 1 C C C) (aI C (aC C C C (aA 1 C C)) (aH 1 C ?_)))
 refine aI C (cR 2 C C C C (fun w hm => (((hd w (hm.sub (fO 9 C))).at (k := k) hkl).g))) (aI C (aZ (k0 := 0) C C C (fun w hm => (((hd w (hm.sub (fO 9 C))).at (k := k) hkl).g)) (by omega)) ?_)
 refine aI C (aQ (u := jI ((((D.getD k md0).gs).getD ax as0).t)) C C C (fun w hm => (((hd w (hm.sub (fO 9 C))).at (k := k) hkl).g)) ((bR asC 2 (fun _ => C) ((D.getD k md0).gs) as0 (show ax < _ by omega) (by decide)).trans C)) (aI C (cR 1 C C C C (aJ 0 C)) (aI C (nD C C C (aJ 0 C)) (aI C (cU (cs := #[jI (ids.getD (((((D.getD k md0).gs).getD ax as0).t).toNat) 0), .slice none 0 0]) C C C) ?_)))
 refine cL C (bG (z := .agg #[jI 0, .slice none 0 0]) C C) ?_
 intro b29
 refine bE (cs' := #[jI (ids.getD (((((D.getD k md0).gs).getD ax as0).t).toNat) 0), .slice none 0 0]) (i := 0) (off := 0) (us := [jI (ids.getD (((((D.getD k md0).gs).getD ax as0).t).toNat) 0), .slice none 0 0]) C C C C C C C (aB C (aB C bC)) C C C (bQ (aF (bA 1 C (bD ?_))))
 refine fB (rowE 97 3 (.slice none 0 0) (([] : List Oq).length) (([] : List Oq).flatMap oqC) :: boxE b29 #[jI (ids.getD (((((D.getD k md0).gs).getD ax as0).t).toNat) 0), .slice none 0 0] 89 :: rI9 3 q.1 ids :: boxE b4 #[(D.getD k md0).sv, (D.getD k md0).av, (D.getD k md0).iv, (D.getD k md0).mv] 35 :: boxE b3 #[.slice none 0 0, .slice none 0 0, .slice none 0 0, .slice none 0 0] 35 :: boxE b2 #[q.2, av2, .slice none 0 0, mv] 35 :: boxE b1 #[v] 26 :: rS9 38 3 q.2 S sgC :: rS9 89 2 av2 G asC :: rS9 94 4 mv F.ms mmC :: bigE ps2 :: l) (fun w hm => hm.nilRow 97 3) ?_
 refine jC (α := Nat) (β := List Oq) (γ := Value) [0, 1, 2, 3, 4, 5, 6, 11, 12, 13, 14, 15, 16, 17, 19, 20, 42, 104] C (fun bq os ov => (rS9 97 3 ov os oqC :: boxE b29 #[jI (ids.getD (((((D.getD k md0).gs).getD ax as0).t).toNat) 0), ov] 89 :: rI9 3 q.1 ids :: boxE b4 #[(D.getD k md0).sv, (D.getD k md0).av, (D.getD k md0).iv, (D.getD k md0).mv] 35 :: boxE b3 #[.slice none 0 0, .slice none 0 0, .slice none 0 0, .slice none 0 0] 35 :: boxE b2 #[q.2, av2, .slice none 0 0, mv] 35 :: boxE b1 #[v] 26 :: rS9 38 3 q.2 S sgC :: rS9 89 2 av2 G asC :: rS9 94 4 mv F.ms mmC :: bigE ps2 :: l)) (fun bq os ov => [(21, jI (bq : Int))]) (fun bq os ov => bq ≤ ((D.getD k md0).gs.getD ax as0).os.length ∧ os = (((D.getD k md0).gs.getD ax as0).os.take bq).map (opF ids p)) (fun bq os ov => ((D.getD k md0).gs.getD ax as0).os.length - bq) 0 [] _ ⟨Nat.zero_le _, C⟩ (cN C) (.refl _) ?_
 intro bq os ov hi30
 obtain ⟨hb, hos⟩ := hi30
 have hol : os.length = bq := by rw [hos, List.length_map, List.length_take]; omega
 have hgl15 := hgo9.len
 refine aF (aF (cG 1 C (aI C (bM 1 C C C) (aI C (aC C C C (aA 3 C C)) (aH 1 C ?_)))))
 refine aI C (cR 2 C C C C (fun w hm => (((hd w (hm.sub (fO 11 C))).at (k := k) hkl).g))) (aI C (aZ (k0 := 1) C C C (fun w hm => (((hd w (hm.sub (fO 11 C))).at (k := k) hkl).g)) (by omega)) ?_)
 refine aI C (aQ (u := (((D.getD k md0).gs).getD ax as0).ov) C C C (fun w hm => (((hd w (hm.sub (fO 11 C))).at (k := k) hkl).g)) ((bR asC 2 (fun _ => C) ((D.getD k md0).gs) as0 (show ax < _ by omega) (by decide)).trans C)) (aI C (dL C C C (fun w hm => (((hd w (hm.sub (fO 11 C))).at (k := k) hkl).o.at (k := ax) (by omega)))) ?_)
 refine bN C C C C C C (fun h31 => ?_) (fun h31 => ?_)
 refine bQ (aK C (cE (fD (cA (aI C (bM 1 C C C) (aI C (aC C C C (aA 3 C C)) (aH 1 C ?_)))))))
 refine aI C (cR 2 C C C C (fun w hm => (((hd w (hm.sub (fO 11 C))).at (k := k) hkl).g))) (aI C (aZ (k0 := 1) C C C (fun w hm => (((hd w (hm.sub (fO 11 C))).at (k := k) hkl).g)) (by omega)) ?_)
 refine aI C (aQ (u := (((D.getD k md0).gs).getD ax as0).ov) C C C (fun w hm => (((hd w (hm.sub (fO 11 C))).at (k := k) hkl).g)) ((bR asC 2 (fun _ => C) ((D.getD k md0).gs) as0 (show ax < _ by omega) (by decide)).trans C)) (aH 1 C ?_)
 refine aI C (cR 3 C C C C (fun w hm => (((hd w (hm.sub (fO 11 C))).at (k := k) hkl).o.at (k := ax) (by omega)))) (aI C (bL (us := [jI ((((((D.getD k md0).gs).getD ax as0).os).getD bq oq0).k), jI ((((((D.getD k md0).gs).getD ax as0).os).getD bq oq0).a), jI ((((((D.getD k md0).gs).getD ax as0).os).getD bq oq0).b)]) C C C C (fun w hm => (((hd w (hm.sub (fO 11 C))).at (k := k) hkl).o.at (k := ax) (by omega))) (by omega) C (bY oqC 3 (fun _ => C) ((((D.getD k md0).gs).getD ax as0).os) oq0 (show bq < _ by omega) C)) ?_)
 refine cL C (bG (z := .agg #[jI 0, jI 0, jI 0]) C C) ?_
 intro b32
 refine bE (cs' := #[jI ((((((D.getD k md0).gs).getD ax as0).os).getD bq oq0).k), jI ((((((D.getD k md0).gs).getD ax as0).os).getD bq oq0).a), jI ((((((D.getD k md0).gs).getD ax as0).os).getD bq oq0).b)]) (i := 0) (off := 0) (us := [jI ((((((D.getD k md0).gs).getD ax as0).os).getD bq oq0).k), jI ((((((D.getD k md0).gs).getD ax as0).os).getD bq oq0).a), jI ((((((D.getD k md0).gs).getD ax as0).os).getD bq oq0).b)]) C C C C C C C (aB C (aB C (aB C bC))) C C C (bQ ?_)
 refine fJ (α := Oq) (fun oo => (boxE b32 #[jI oo.k, jI oo.a, jI oo.b] 97 :: rS9 97 3 ov os oqC :: boxE b29 #[jI (ids.getD (((((D.getD k md0).gs).getD ax as0).t).toNat) 0), ov] 89 :: rI9 3 q.1 ids :: boxE b4 #[(D.getD k md0).sv, (D.getD k md0).av, (D.getD k md0).iv, (D.getD k md0).mv] 35 :: boxE b3 #[.slice none 0 0, .slice none 0 0, .slice none 0 0, .slice none 0 0] 35 :: boxE b2 #[q.2, av2, .slice none 0 0, mv] 35 :: boxE b1 #[v] 26 :: rS9 38 3 q.2 S sgC :: rS9 89 2 av2 G asC :: rS9 94 4 mv F.ms mmC :: bigE ps2 :: l)) (fun oo => [(0, .agg #[v]), (1, jI (k : Int)), (2, jI p), (3, .bool c), (4, uP), (5, .agg #[sv, av, .slice none 0 0, mv]), (6, pI b1), (11, pI b2), (12, pI b3), (13, .bool false), (14, pI b4), (15, q.1), (16, jI (n : Int)), (17, jI (i : Int)), (19, jI (ax : Int)), (20, pI b29), (21, jI (bq : Int)), (22, pI b32), (42, .bool false), (104, .bool true), (125, .bool true)]) (fun oo => oo = opF ids p (((D.getD k md0).gs.getD ax as0).os.getD bq oq0)) ?_ ?_
 refine cA (aI C (bM 0 C C C) (aI C (aC C C C (aA 0 C C)) (bQ (bD (cA ?_)))))
 refine bU C C C C C C (fun h33 => ?_) (fun h33 => ?_)
 refine aP 1 C (aK C (cG 1 C (aI C (cU (cs := #[jI 0, jI p, jI 0]) C C C) ?_)))
 refine bE (cs' := #[jI 0, jI p, jI 0]) (i := 0) (off := 0) (us := [jI 0, jI p, jI 0]) C C C C C C C (aB C (aB C (aB C bC))) C C C (bK (bV ?_))
 exact cP (Oq.mk 0 p 0) (by unfold opF; (repeat' split) <;> first | rfl | (exfalso; omega)) (cN C) (.refl _)
 refine aP 1 C (aS C (eM ?_))
 refine bU C C C C C C (fun h34 => ?_) (fun h34 => ?_)
 refine aP 1 C (aK C (cE (aK C (aO ?_))))
 have hra := kG hgo9 (show bq < ((D.getD k md0).gs.getD ax as0).os.length by omega) (by omega)
 refine aH 1 C (aI C (bM 1 C C C) (aI C (aC C C C (aA 0 C C)) (aI C (cR 1 C C C C (aJ 3 C)) (aI C (nD C C C (aJ 3 C)) (aI C (bM 1 C C C) ?_)))))
 refine eZ (i := 0) (cs' := #[jI ((((((D.getD k md0).gs).getD ax as0).os).getD bq oq0).k), jI (ids.getD (((((((D.getD k md0).gs).getD ax as0).os).getD bq oq0).a).toNat) 0), jI ((((((D.getD k md0).gs).getD ax as0).os).getD bq oq0).b)]) C C C C C C C C C C C (bK (bV ?_))
 exact cP (Oq.mk ((((((D.getD k md0).gs).getD ax as0).os).getD bq oq0).k) (ids.getD (((((((D.getD k md0).gs).getD ax as0).os).getD bq oq0).a).toNat) 0) ((((((D.getD k md0).gs).getD ax as0).os).getD bq oq0).b)) (by unfold opF; (repeat' split) <;> first | rfl | (exfalso; omega)) (cN C) (.refl _)
 refine aP 1 C (aS C (aO ?_))
 refine bU C C C C C C (fun h35 => ?_) (fun h35 => ?_)
 refine aP 1 C (aK C (aO ?_))
 have hra := kG hgo9 (show bq < ((D.getD k md0).gs.getD ax as0).os.length by omega) (by omega)
 refine aH 1 C (aI C (bM 1 C C C) (aI C (aC C C C (aA 0 C C)) (aI C (cR 1 C C C C (aJ 3 C)) (aI C (nD C C C (aJ 3 C)) (aI C (bM 1 C C C) ?_)))))
 refine eZ (i := 0) (cs' := #[jI ((((((D.getD k md0).gs).getD ax as0).os).getD bq oq0).k), jI (ids.getD (((((((D.getD k md0).gs).getD ax as0).os).getD bq oq0).a).toNat) 0), jI ((((((D.getD k md0).gs).getD ax as0).os).getD bq oq0).b)]) C C C C C C C C C C C (bK (bV ?_))
 exact cP (Oq.mk ((((((D.getD k md0).gs).getD ax as0).os).getD bq oq0).k) (ids.getD (((((((D.getD k md0).gs).getD ax as0).os).getD bq oq0).a).toNat) 0) ((((((D.getD k md0).gs).getD ax as0).os).getD bq oq0).b)) (by unfold opF; (repeat' split) <;> first | rfl | (exfalso; omega)) (cN C) (.refl _)
 refine aP 1 C (gM C (bV ?_))
 exact cP (Oq.mk ((((((D.getD k md0).gs).getD ax as0).os).getD bq oq0).k) ((((((D.getD k md0).gs).getD ax as0).os).getD bq oq0).a) ((((((D.getD k md0).gs).getD ax as0).os).getD bq oq0).b)) (by unfold opF; (repeat' split) <;> first | rfl | (exfalso; omega)) (cN C) (.refl _)
 intro oo hm36
 have hoo := hm36
 refine aO (aI C (bM 1 C C C) (aI C (aC C C C (aA 2 C C)) (aI C (aW (cs := [jI oo.k, jI oo.a, jI oo.b]) C C C C C (aT 0 C 0 C)) ?_)))
 refine eA C (bB (z := .agg #[jI 0, jI 0, jI 0]) (s := 3) (cs := (mI [oo.k, oo.a, oo.b])) C Try.underlying71 C (by decide) C (by kernel_rfl) C) ?_
 intro g37
 refine cW (i := 2) (z := .agg #[jI 0, jI 0, jI 0]) (bytes := 24) C C C C Try.underlying71 (by kernel_rfl) C C C C (aJ 0 C) (cQ _) (by first | omega | (simp only [List.length_append, List.length_cons, List.length_nil]; omega)) (cM os [oo]) (dM oqC os oo _ C) (fun _ => C) ?_
 intro v38
 refine aI C (bM 1 C C C) (cS (i := 2) C (fun ho39 => ?_))
 refine eZ (i := 3) (cs' := #[jI (ids.getD (((((D.getD k md0).gs).getD ax as0).t).toNat) 0), v38]) C C C C C C ho39 C C C C (bK (cK (cG 1 C (aI C (dO C C C) (dA 1 C ?_)))))
 exact cO (bq + 1) (os ++ [oo]) v38 ⟨by omega, by rw [eU oq0 (show bq < ((D.getD k md0).gs.getD ax as0).os.length by omega), List.map_append, ← hos, hoo]; rfl⟩ (by omega) (cN rfl) (fO 2 rfl)
 refine bQ (aS C ?_)
 refine bI (dC ?_)
 refine aM (aR (aO (aI C (bM 1 C C C) (aI C (aC C C C (aA 5 C C)) (aI C (aW (cs := [jI (ids.getD (((((D.getD k md0).gs).getD ax as0).t).toNat) 0), ov]) C C C C C (aT 1 C 0 C)) ?_)))))
 refine eA C (bB (z := .agg #[jI 0, .slice none 0 0]) (s := 2) (cs := [jI (ids.getD (((((D.getD k md0).gs).getD ax as0).t).toNat) 0), ov]) C Try.underlying31 C (by decide) C (by kernel_rfl) C) ?_
 intro g40
 refine cS (i := 1) C (fun ho41 => ?_)
 refine cW (i := 9) (z := .agg #[jI 0, .slice none 0 0]) (bytes := 32) C C C C Try.underlying31 (by kernel_rfl) C C C C (aJ 0 C) (aB C (aB ho41 bC)) (by first | omega | (simp only [List.length_append, List.length_cons, List.length_nil]; omega)) (cM G [(As.mk (ids.getD (((((D.getD k md0).gs).getD ax as0).t).toNat) 0) ov os)]) (dM asC G (As.mk (ids.getD (((((D.getD k md0).gs).getD ax as0).t).toNat) 0) ov os) _ C) (fun _ => C) ?_
 intro v42
 refine aI C (bM 1 C C C) (cS (i := 9) C (fun ho43 => ?_))
 refine eZ (i := 6) (cs' := #[q.2, v42, .slice none 0 0, mv]) C C C C C C ho43 C C C C (bK (cK (cG 1 C (aI C (dO C C C) (dA 1 C ?_)))))
 refine cD 12 [10, 9, 8, 7, 6, 5, 4, 3, 1, 11] C C (by decide) ?_
 refine dE 2 C ?_
 refine cD 9 [0, 8, 7, 6, 5, 4, 3, 2, 1] C C (by decide) ?_
 exact eR (ax + 1) (G ++ [(As.mk (ids.getD (((((D.getD k md0).gs).getD ax as0).t).toNat) 0) ov os)]) v42 [bigE ps2, rS9 97 3 ov os oqC] ⟨by omega, by rw [List.map_append, hG, eU as0 (show ax < (D.getD k md0).gs.length by omega), List.map_append, ← List.append_assoc]; congr 1; show [(_, os)] = [asF ids p ((D.getD k md0).gs.getD ax as0)]; rw [hos, show bq = ((D.getD k md0).gs.getD ax as0).os.length by omega, List.take_length]; rfl, fun w hw => (hpq w (bO hw dX)).app (cZ (bO hw (eI dX)))⟩ (by omega) (cN rfl) (.refl _)
 refine bQ (aS C ?_)
 refine bI (dC ?_)
 refine aM (aR (aF (bA 1 C (bD ?_))))
 have hGq : G.map asV = F.gs ++ (D.getD k md0).gs.map (asF ids p) := by rw [hG, show ax = (D.getD k md0).gs.length by omega, List.take_length]
 have hGl2 : G.length = F.gs.length + (D.getD k md0).gs.length := by omega
 refine jC (α := Nat) (β := List Mm) (γ := Value) [0, 1, 2, 3, 4, 5, 6, 11, 12, 13, 14, 15, 16, 17, 19, 42, 104] C (fun mx ms2 mw => (rI9 3 q.1 ids :: boxE b4 #[(D.getD k md0).sv, (D.getD k md0).av, (D.getD k md0).iv, (D.getD k md0).mv] 35 :: boxE b3 #[.slice none 0 0, .slice none 0 0, .slice none 0 0, .slice none 0 0] 35 :: boxE b2 #[q.2, av2, .slice none 0 0, mw] 35 :: boxE b1 #[v] 26 :: rS9 38 3 q.2 S sgC :: rS9 89 2 av2 G asC :: rS9 94 4 mw ms2 mmC :: bigE ps2 :: l)) (fun mx ms2 mw => [(23, jI (mx : Int))]) (fun mx ms2 mw => mx ≤ (D.getD k md0).ms.length ∧ ms2 = F.ms ++ ((D.getD k md0).ms.take mx).map (mmF ids)) (fun mx ms2 mw => (D.getD k md0).ms.length - mx) 0 F.ms mv ⟨Nat.zero_le _, by simp⟩ (cN C) (.refl _) ?_
 intro mx ms2 mw hi44
 obtain ⟨he, hM⟩ := hi44
 have hMl : ms2.length = F.ms.length + mx := by rw [hM, List.length_append, List.length_map, List.length_take]; omega
 refine aF (aF (cG 1 C (aI C (bM 3 C C C) (aI C (aC C C C (aA 1 C C)) ?_))))
 refine aI C (dL C C C (fun w hm => (((hd w (hm.sub (fO 9 C))).at (k := k) hkl).m))) (bN C C C C C C (fun h45 => ?_) (fun h45 => ?_))
 refine bQ (aK C (cE (fD (cA (aI C (bM 3 C C C) (aI C (aC C C C (aA 1 C C)) (aH 1 C ?_)))))))
 refine aI C (cR 4 C C C C (fun w hm => (((hd w (hm.sub (fO 9 C))).at (k := k) hkl).m))) (aI C (bL (us := [jI ((((D.getD k md0).ms).getD mx mm0).a), jI ((((D.getD k md0).ms).getD mx mm0).d), jI ((((D.getD k md0).ms).getD mx mm0).w), jI ((((D.getD k md0).ms).getD mx mm0).o)]) C C C C (fun w hm => (((hd w (hm.sub (fO 9 C))).at (k := k) hkl).m)) (by omega) C (bY mmC 4 (fun _ => C) ((D.getD k md0).ms) mm0 (show mx < _ by omega) C)) ?_)
 refine cL C (bG (z := .agg #[jI 0, jI 0, jI 0, jI 0]) C C) ?_
 intro b46
 refine bE (cs' := #[jI ((((D.getD k md0).ms).getD mx mm0).a), jI ((((D.getD k md0).ms).getD mx mm0).d), jI ((((D.getD k md0).ms).getD mx mm0).w), jI ((((D.getD k md0).ms).getD mx mm0).o)]) (i := 0) (off := 0) (us := [jI ((((D.getD k md0).ms).getD mx mm0).a), jI ((((D.getD k md0).ms).getD mx mm0).d), jI ((((D.getD k md0).ms).getD mx mm0).w), jI ((((D.getD k md0).ms).getD mx mm0).o)]) C C C C C C C (aB C (aB C (aB C (aB C bC)))) C C C (bQ ?_)
 obtain ⟨⟨hma, hmd, hmw⟩, hmo⟩ := hmod.ms mx (by omega)
 have hmo := hmo.inn
 unfold Inn at hma hmd hmw hmo
 refine hS C 24 [0, 1, 2, 3, 4, 5, 6, 7, 8, 9, 10, 11, 12, 13, 14, 15, 16, 17, 18, 19, 20, 21, 22, 23] (List.take 24 _) (List.drop 24 _) [[], [0], [], [], [3], [2, 4], [5], [], [], [8], [7, 9], [10], [], [], [13], [12, 14], [15], [], [], [18], [17, 19], [20], [6, 11, 16, 21], [22]] [176, 177, 178, 179, 180, 181, 182, 183, 184, 185, 186, 187, 188, 189, 190, 191, 192, 193, 194, 195, 196, 197, 198, 199] (fun i_ vs_ v_ p_ => match i_ with | 0 => v_ = .pointer (some ⟨b2, 0 + 3, none⟩) ∧ p_ = [] | 1 => v_ = mw ∧ p_ = [] | 2 => v_ = q.1 ∧ p_ = [] | 3 => v_ = .pointer (some ⟨b46, 0 + 0, none⟩) ∧ p_ = [] | 4 => v_ = jI ((((D.getD k md0).ms).getD mx mm0).a) ∧ p_ = [] | 5 => v_ = elP q.1 (((((D.getD k md0).ms).getD mx mm0).a).toNat * 1) ∧ p_ = [] | 6 => v_ = jI (ids.getD (((((D.getD k md0).ms).getD mx mm0).a).toNat) 0) ∧ p_ = [] | 7 => v_ = q.1 ∧ p_ = [] | 8 => v_ = .pointer (some ⟨b46, 0 + 1, none⟩) ∧ p_ = [] | 9 => v_ = jI ((((D.getD k md0).ms).getD mx mm0).d) ∧ p_ = [] | 10 => v_ = elP q.1 (((((D.getD k md0).ms).getD mx mm0).d).toNat * 1) ∧ p_ = [] | 11 => v_ = jI (ids.getD (((((D.getD k md0).ms).getD mx mm0).d).toNat) 0) ∧ p_ = [] | 12 => v_ = q.1 ∧ p_ = [] | 13 => v_ = .pointer (some ⟨b46, 0 + 2, none⟩) ∧ p_ = [] | 14 => v_ = jI ((((D.getD k md0).ms).getD mx mm0).w) ∧ p_ = [] | 15 => v_ = elP q.1 (((((D.getD k md0).ms).getD mx mm0).w).toNat * 1) ∧ p_ = [] | 16 => v_ = jI (ids.getD (((((D.getD k md0).ms).getD mx mm0).w).toNat) 0) ∧ p_ = [] | 17 => v_ = q.1 ∧ p_ = [] | 18 => v_ = .pointer (some ⟨b46, 0 + 3, none⟩) ∧ p_ = [] | 19 => v_ = jI ((((D.getD k md0).ms).getD mx mm0).o) ∧ p_ = [] | 20 => v_ = elP q.1 (((((D.getD k md0).ms).getD mx mm0).o).toNat * 1) ∧ p_ = [] | 21 => v_ = jI (ids.getD (((((D.getD k md0).ms).getD mx mm0).o).toNat) 0) ∧ p_ = [] | 22 => v_ = .agg #[jI (ids.getD (((((D.getD k md0).ms).getD mx mm0).a).toNat) 0), jI (ids.getD (((((D.getD k md0).ms).getD mx mm0).d).toNat) 0), jI (ids.getD (((((D.getD k md0).ms).getD mx mm0).w).toNat) 0), jI (ids.getD (((((D.getD k md0).ms).getD mx mm0).o).toNat) 0)] ∧ p_ = [] | 23 => IsRow 94 4 1 (mI [ids.getD (((((D.getD k md0).ms).getD mx mm0).a).toNat) 0, ids.getD (((((D.getD k md0).ms).getD mx mm0).d).toNat) 0, ids.getD (((((D.getD k md0).ms).getD mx mm0).w).toNat) 0, ids.getD (((((D.getD k md0).ms).getD mx mm0).o).toNat) 0]) v_ p_ | _ => True) (List.take_append_drop 24 _).symm (by kernel_rfl) (by kernel_rfl) C C ?_ ?_
 refine ⟨?_, ?_, ?_, ?_, ?_, ?_, ?_, ?_, ?_, ?_, ?_, ?_, ?_, ?_, ?_, ?_, ?_, ?_, ?_, ?_, ?_, ?_, ?_, ?_, trivial⟩
 intro vf pf hR
 exact jJ C (aU [11] C) (bH (bM 3 C C C))
 intro vf pf hR
 have e0 := hR 0 (by decide)
 exact gR C (sk 176 (congrArg some e0.1) (aL _)) (bH (aC C C C (aA 4 C C)))
 intro vf pf hR
 exact jJ C (aU [15] C) (bH (aY C))
 intro vf pf hR
 exact jJ C (aU [24] C) (bH (bM 0 C C C))
 intro vf pf hR
 have e3 := hR 3 (by decide)
 exact gR C (sk 179 (congrArg some e3.1) (aL _)) (bH (aC C C C (aA 0 C C)))
 intro vf pf hR
 have e2 := hR 2 (by decide)
 have e4 := hR 4 (by decide)
 exact gR C (sk 178 (congrArg some e2.1) (sk 180 (congrArg some e4.1) (aL _))) (bH (cR 1 C C C C (aJ 1 C)))
 intro vf pf hR
 have e5 := hR 5 (by decide)
 exact gR C (sk 181 (congrArg some e5.1) (aL _)) (bH (nD C C C (aJ 1 C)))
 intro vf pf hR
 exact jJ C (aU [15] C) (bH (aY C))
 intro vf pf hR
 exact jJ C (aU [24] C) (bH (bM 1 C C C))
 intro vf pf hR
 have e8 := hR 8 (by decide)
 exact gR C (sk 184 (congrArg some e8.1) (aL _)) (bH (aC C C C (aA 0 C C)))
 intro vf pf hR
 have e7 := hR 7 (by decide)
 have e9 := hR 9 (by decide)
 exact gR C (sk 183 (congrArg some e7.1) (sk 185 (congrArg some e9.1) (aL _))) (bH (cR 1 C C C C (aJ 1 C)))
 intro vf pf hR
 have e10 := hR 10 (by decide)
 exact gR C (sk 186 (congrArg some e10.1) (aL _)) (bH (nD C C C (aJ 1 C)))
 intro vf pf hR
 exact jJ C (aU [15] C) (bH (aY C))
 intro vf pf hR
 exact jJ C (aU [24] C) (bH (bM 2 C C C))
 intro vf pf hR
 have e13 := hR 13 (by decide)
 exact gR C (sk 189 (congrArg some e13.1) (aL _)) (bH (aC C C C (aA 0 C C)))
 intro vf pf hR
 have e12 := hR 12 (by decide)
 have e14 := hR 14 (by decide)
 exact gR C (sk 188 (congrArg some e12.1) (sk 190 (congrArg some e14.1) (aL _))) (bH (cR 1 C C C C (aJ 1 C)))
 intro vf pf hR
 have e15 := hR 15 (by decide)
 exact gR C (sk 191 (congrArg some e15.1) (aL _)) (bH (nD C C C (aJ 1 C)))
 intro vf pf hR
 exact jJ C (aU [15] C) (bH (aY C))
 intro vf pf hR
 exact jJ C (aU [24] C) (bH (bM 3 C C C))
 intro vf pf hR
 have e18 := hR 18 (by decide)
 exact gR C (sk 194 (congrArg some e18.1) (aL _)) (bH (aC C C C (aA 0 C C)))
 intro vf pf hR
 have e17 := hR 17 (by decide)
 have e19 := hR 19 (by decide)
 exact gR C (sk 193 (congrArg some e17.1) (sk 195 (congrArg some e19.1) (aL _))) (bH (cR 1 C C C C (aJ 1 C)))
 intro vf pf hR
 have e20 := hR 20 (by decide)
 exact gR C (sk 196 (congrArg some e20.1) (aL _)) (bH (nD C C C (aJ 1 C)))
 intro vf pf hR
 have e6 := hR 6 (by decide)
 have e11 := hR 11 (by decide)
 have e16 := hR 16 (by decide)
 have e21 := hR 21 (by decide)
 exact jJ C (sk 182 (congrArg some e6.1) (sk 187 (congrArg some e11.1) (sk 192 (congrArg some e16.1) (sk 197 (congrArg some e21.1) (aL _))))) (bH (cU (cs := #[jI (ids.getD (((((D.getD k md0).ms).getD mx mm0).a).toNat) 0), jI (ids.getD (((((D.getD k md0).ms).getD mx mm0).d).toNat) 0), jI (ids.getD (((((D.getD k md0).ms).getD mx mm0).w).toNat) 0), jI (ids.getD (((((D.getD k md0).ms).getD mx mm0).o).toNat) 0)]) C C C))
 intro vf pf hR
 have e22 := hR 22 (by decide)
 exact gR C (sk 198 (congrArg some e22.1) (aL _)) (bB (z := .agg #[jI 0, jI 0, jI 0, jI 0]) (s := 4) (cs := (mI [ids.getD (((((D.getD k md0).ms).getD mx mm0).a).toNat) 0, ids.getD (((((D.getD k md0).ms).getD mx mm0).d).toNat) 0, ids.getD (((((D.getD k md0).ms).getD mx mm0).w).toNat) 0, ids.getD (((((D.getD k md0).ms).getD mx mm0).o).toNat) 0])) C Try.underlying33 C (by decide) C (by kernel_rfl) C)
 intro vf pf hR
 have e1 := hR 1 (by decide)
 have e23 : IsRow 94 4 1 (mI [ids.getD (((((D.getD k md0).ms).getD mx mm0).a).toNat) 0, ids.getD (((((D.getD k md0).ms).getD mx mm0).d).toNat) 0, ids.getD (((((D.getD k md0).ms).getD mx mm0).w).toNat) 0, ids.getD (((((D.getD k md0).ms).getD mx mm0).o).toNat) 0]) (vf 23) (pf 23) := hR 23 (by decide)
 obtain ⟨g47, vE23, pE23⟩ := e23
 have q0 := hR 0 (by decide)
 have q1 := hR 1 (by decide)
 have q2 := hR 2 (by decide)
 have q3 := hR 3 (by decide)
 have q4 := hR 4 (by decide)
 have q5 := hR 5 (by decide)
 have q6 := hR 6 (by decide)
 have q7 := hR 7 (by decide)
 have q8 := hR 8 (by decide)
 have q9 := hR 9 (by decide)
 have q10 := hR 10 (by decide)
 have q11 := hR 11 (by decide)
 have q12 := hR 12 (by decide)
 have q13 := hR 13 (by decide)
 have q14 := hR 14 (by decide)
 have q15 := hR 15 (by decide)
 have q16 := hR 16 (by decide)
 have q17 := hR 17 (by decide)
 have q18 := hR 18 (by decide)
 have q19 := hR 19 (by decide)
 have q20 := hR 20 (by decide)
 have q21 := hR 21 (by decide)
 have q22 := hR 22 (by decide)
 refine dV (dB [168, 104, 42, 24, 23, 19, 17, 16, 15, 14, 13, 12, 11, 6, 5, 4, 3, 2, 1, 0] _ (sk 177 (congrArg some e1.1) (sk 199 (congrArg some vE23) (aL _))) C) (by simp only [pE23, vE23, q0.2, q1.2, q2.2, q3.2, q4.2, q5.2, q6.2, q7.2, q8.2, q9.2, q10.2, q11.2, q12.2, q13.2, q14.2, q15.2, q16.2, q17.2, q18.2, q19.2, q20.2, q21.2, q22.2, fS] <;> rfl) ?_
 simp only [List.drop_succ_cons, List.drop_zero]
 refine cW (i := 9) (z := .agg #[jI 0, jI 0, jI 0, jI 0]) (bytes := 32) C C C C Try.underlying33 (by kernel_rfl) C C C C (aJ 0 C) (cQ _) (by first | omega | (simp only [List.length_append, List.length_cons, List.length_nil]; omega)) (cM ms2 [(Mm.mk (ids.getD (((((D.getD k md0).ms).getD mx mm0).a).toNat) 0) (ids.getD (((((D.getD k md0).ms).getD mx mm0).d).toNat) 0) (ids.getD (((((D.getD k md0).ms).getD mx mm0).w).toNat) 0) (ids.getD (((((D.getD k md0).ms).getD mx mm0).o).toNat) 0))]) (dM mmC ms2 (Mm.mk (ids.getD (((((D.getD k md0).ms).getD mx mm0).a).toNat) 0) (ids.getD (((((D.getD k md0).ms).getD mx mm0).d).toNat) 0) (ids.getD (((((D.getD k md0).ms).getD mx mm0).w).toNat) 0) (ids.getD (((((D.getD k md0).ms).getD mx mm0).o).toNat) 0)) _ C) (fun _ => C) ?_
 intro v48
 refine aI C (bM 3 C C C) (cS (i := 9) C (fun ho49 => ?_))
 refine eZ (i := 5) (cs' := #[q.2, av2, .slice none 0 0, v48]) C C C C C C ho49 C C C C (bK (cK (cG 1 C (aI C (dO C C C) (dA 1 C ?_)))))
 exact cO (mx + 1) (ms2 ++ [(Mm.mk (ids.getD (((((D.getD k md0).ms).getD mx mm0).a).toNat) 0) (ids.getD (((((D.getD k md0).ms).getD mx mm0).d).toNat) 0) (ids.getD (((((D.getD k md0).ms).getD mx mm0).w).toNat) 0) (ids.getD (((((D.getD k md0).ms).getD mx mm0).o).toNat) 0))]) v48 ⟨by omega, by rw [hM, eU mm0 (show mx < (D.getD k md0).ms.length by omega), List.map_append, ← List.append_assoc]; rfl⟩ (by omega) (cN rfl) (fO 2 rfl)
 refine bQ (aS C ?_)
 refine bI (dC ?_)
 refine aM (aR (eM ?_))
 have hMq : ms2 = F.ms ++ (D.getD k md0).ms.map (mmF ids) := by rw [hM, show mx = (D.getD k md0).ms.length by omega, List.take_length]
 have hoi := tL (m := (D.getD k md0)) (n := n) (S := S) hGq hMq
 refine aI C (bM 0 C C C) (aI C (aC C C C (aA 3 C C)) (aI C (dL C C C (aJ 5 C)) ?_))
 refine eS C C C C C C (fun h50 => ?_) (fun h50 => ?_)
 refine aP 12 C ?_
 refine aK C (cA (aI C (aW (cs := [q.2, av2, .slice none 0 0, mw]) C C C C C (aT 3 C 0 C)) ?_))
 refine cS (i := 7) C (fun ho51 => ?_)
 refine cS (i := 6) C (fun ho52 => ?_)
 refine cS (i := 5) C (fun ho53 => ?_)
 refine bE (cs' := #[q.2, av2, .slice none 0 0, mw]) (i := 2) (off := 0) (us := [q.2, av2, .slice none 0 0, mw]) C C C C C C C (aB ho53 (aB ho52 (aB C (aB ho51 bC)))) C C C (aP 1 C ?_)
 refine aN (aG ?_)
 refine fV (p := q.2.oneCell' = true ∧ av2.oneCell' = true ∧ mw.oneCell' = true) (fun w hm => ⟨(aJ 5 C w hm).one, (aJ 6 C w hm).one, (aJ 7 C w hm).one⟩) (fun ho9 => ?_)
 refine dI (bigE [] :: rI9 3 q.1 ids :: boxE b4 #[(D.getD k md0).sv, (D.getD k md0).av, (D.getD k md0).iv, (D.getD k md0).mv] 35 :: boxE b3 #[q.2, av2, .slice none 0 0, mw] 35 :: boxE b2 #[q.2, av2, .slice none 0 0, mw] 35 :: boxE b1 #[v] 26 :: rS9 38 3 q.2 S sgC :: rS9 89 2 av2 G asC :: rS9 94 4 mw ms2 mmC :: bigE ps2 :: l) dT ?_
 exact eV (rs := [.cell 12 35, .tmp 13]) (vs := [.agg #[q.2, av2, .slice none 0 0, mw], .bool false]) C ⟨⟨b3, 0, [q.2, av2, .slice none 0 0, mw], C, C, by kernel_rfl, by kernel_rfl, aT 3 C 0 C⟩, C, trivial⟩ C (fun w hm => ⟨_, bigE [], C, ⟨_, _, _, false, _, C, C, ho9, (fun h => by cases h), fun _ => by first | exact gJ (iJ hs (by assumption) hpt (by omega)) (by omega) | exact gW hsF (fun h9 => by have h8 := hoi.1 h9; omega) | exact (hU hsF hokF).trans (fW (i := ux + 1) (by rw [fQ hH, hk2, ← hzp, ← hpp]; exact hnoNone (by assumption)) _ (by omega))⟩, hm.sub (.cons_cons _ (fO 9 C))⟩)
 refine aH 1 C (aI C (bM 1 C C C) (aI C (aC C C C (aA 3 C C)) (aI C (dL C C C (aJ 6 C)) ?_)))
 refine eS C C C C C C (fun h54 => ?_) (fun h54 => ?_)
 refine aP 7 C (aK C (cA (aI C (aW (cs := [q.2, av2, .slice none 0 0, mw]) C C C C C (aT 3 C 0 C)) ?_)))
 refine cS (i := 7) C (fun ho55 => ?_)
 refine cS (i := 6) C (fun ho56 => ?_)
 refine cS (i := 5) C (fun ho57 => ?_)
 refine bE (cs' := #[q.2, av2, .slice none 0 0, mw]) (i := 2) (off := 0) (us := [q.2, av2, .slice none 0 0, mw]) C C C C C C C (aB ho57 (aB ho56 (aB C (aB ho55 bC)))) C C C (aP 1 C ?_)
 refine aN (aG ?_)
 refine fV (p := q.2.oneCell' = true ∧ av2.oneCell' = true ∧ mw.oneCell' = true) (fun w hm => ⟨(aJ 5 C w hm).one, (aJ 6 C w hm).one, (aJ 7 C w hm).one⟩) (fun ho9 => ?_)
 refine dI (bigE [] :: rI9 3 q.1 ids :: boxE b4 #[(D.getD k md0).sv, (D.getD k md0).av, (D.getD k md0).iv, (D.getD k md0).mv] 35 :: boxE b3 #[q.2, av2, .slice none 0 0, mw] 35 :: boxE b2 #[q.2, av2, .slice none 0 0, mw] 35 :: boxE b1 #[v] 26 :: rS9 38 3 q.2 S sgC :: rS9 89 2 av2 G asC :: rS9 94 4 mw ms2 mmC :: bigE ps2 :: l) dT ?_
 exact eV (rs := [.cell 12 35, .tmp 13]) (vs := [.agg #[q.2, av2, .slice none 0 0, mw], .bool false]) C ⟨⟨b3, 0, [q.2, av2, .slice none 0 0, mw], C, C, by kernel_rfl, by kernel_rfl, aT 3 C 0 C⟩, C, trivial⟩ C (fun w hm => ⟨_, bigE [], C, ⟨_, _, _, false, _, C, C, ho9, (fun h => by cases h), fun _ => by first | exact gJ (iJ hs (by assumption) hpt (by omega)) (by omega) | exact gW hsF (fun h9 => by have h8 := hoi.1 h9; omega) | exact (hU hsF hokF).trans (fW (i := ux + 1) (by rw [fQ hH, hk2, ← hzp, ← hpp]; exact hnoNone (by assumption)) _ (by omega))⟩, hm.sub (.cons_cons _ (fO 9 C))⟩)
 refine aH 2 C (aI C (bM 3 C C C) (aI C (aC C C C (aA 3 C C)) (aI C (dL C C C (aJ 7 C)) ?_)))
 refine eS C C C C C C (fun h58 => ?_) (fun h58 => ?_)
 refine aP 1 C (aK C (cA (aI C (aW (cs := [q.2, av2, .slice none 0 0, mw]) C C C C C (aT 3 C 0 C)) ?_)))
 refine cS (i := 7) C (fun ho59 => ?_)
 refine cS (i := 6) C (fun ho60 => ?_)
 refine cS (i := 5) C (fun ho61 => ?_)
 refine bE (cs' := #[q.2, av2, .slice none 0 0, mw]) (i := 2) (off := 0) (us := [q.2, av2, .slice none 0 0, mw]) C C C C C C C (aB ho61 (aB ho60 (aB C (aB ho59 bC)))) C C C (aP 1 C ?_)
 refine aN (aG ?_)
 refine fV (p := q.2.oneCell' = true ∧ av2.oneCell' = true ∧ mw.oneCell' = true) (fun w hm => ⟨(aJ 5 C w hm).one, (aJ 6 C w hm).one, (aJ 7 C w hm).one⟩) (fun ho9 => ?_)
 refine dI (bigE [] :: rI9 3 q.1 ids :: boxE b4 #[(D.getD k md0).sv, (D.getD k md0).av, (D.getD k md0).iv, (D.getD k md0).mv] 35 :: boxE b3 #[q.2, av2, .slice none 0 0, mw] 35 :: boxE b2 #[q.2, av2, .slice none 0 0, mw] 35 :: boxE b1 #[v] 26 :: rS9 38 3 q.2 S sgC :: rS9 89 2 av2 G asC :: rS9 94 4 mw ms2 mmC :: bigE ps2 :: l) dT ?_
 exact eV (rs := [.cell 12 35, .tmp 13]) (vs := [.agg #[q.2, av2, .slice none 0 0, mw], .bool false]) C ⟨⟨b3, 0, [q.2, av2, .slice none 0 0, mw], C, C, by kernel_rfl, by kernel_rfl, aT 3 C 0 C⟩, C, trivial⟩ C (fun w hm => ⟨_, bigE [], C, ⟨_, _, _, false, _, C, C, ho9, (fun h => by cases h), fun _ => by first | exact gJ (iJ hs (by assumption) hpt (by omega)) (by omega) | exact gW hsF (fun h9 => by have h8 := hoi.1 h9; omega) | exact (hU hsF hokF).trans (fW (i := ux + 1) (by rw [fQ hH, hk2, ← hzp, ← hpp]; exact hnoNone (by assumption)) _ (by omega))⟩, hm.sub (.cons_cons _ (fO 9 C))⟩)
 refine aP 1 C (aS C (cE (aF (bA 1 C ?_))))
 refine bD ?_
 have hokF : (ownF (D.getD k md0) p F (ids, n, S)).Ok := hoi.2 ⟨by omega, by omega, by omega⟩
 refine oR (p := q.2.oneCell' = true ∧ av2.oneCell' = true ∧ mw.oneCell' = true) (fun w hm => ⟨(aJ 5 C w hm).one, (aJ 6 C w hm).one, (aJ 7 C w hm).one⟩) (fun hou0 => ?_)
 refine iR (α := Nat) (β := Fz) (γ := List As) (δ := Value × Value × Value) (fun ux H gs3 q3 ps3 => (rI9 3 q.1 ids :: boxE b4 #[(D.getD k md0).sv, (D.getD k md0).av, (D.getD k md0).iv, (D.getD k md0).mv] 35 :: boxE b3 #[.slice none 0 0, .slice none 0 0, .slice none 0 0, .slice none 0 0] 35 :: boxE b2 #[q3.1, q3.2.1, .slice none 0 0, q3.2.2] 35 :: boxE b1 #[v] 26 :: rS9 38 3 q3.1 H.ss sgC :: rS9 89 2 q3.2.1 gs3 asC :: rS9 94 4 q3.2.2 H.ms mmC :: bigE ps3 :: l)) (fun ux H gs3 q3 ps3 => [(0, .agg #[v]), (1, jI (k : Int)), (2, jI p), (3, .bool c), (4, uP), (5, .agg #[sv, av, .slice none 0 0, mv]), (6, pI b1), (11, pI b2), (12, pI b3), (13, .bool false), (14, pI b4), (15, q.1), (16, jI (n : Int)), (17, jI (i : Int)), (19, jI (ax : Int)), (23, jI (mx : Int)), (25, jI (ux : Int)), (42, .bool false), (104, .bool false), (168, .bool false), (217, .bool false)]) (fun ux H gs3 q3 ps3 => ux ≤ (D.getD k md0).xs.length ∧ insA (fun k p P G => addF D f k p true P G) ids p (D.getD k md0).xs (ownF (D.getD k md0) p F (ids, n, S)) ux = some H ∧ gs3.map asV = H.gs ∧ (∀ w, (bigE ps3).holds w → OpsR w gs3) ∧ q3.1.oneCell' = true ∧ q3.2.1.oneCell' = true ∧ q3.2.2.oneCell' = true) (fun ux H gs3 q3 ps3 => (D.getD k md0).xs.length - ux) 0 (Fz.mk S (G.map asV) ms2) G (q.2, av2, mw) ps2 ⟨Nat.zero_le _, by show some _ = some _; rw [hGq, hMq]; rfl, rfl, hpq, hou0⟩ (aU [217, 168, 104, 42, 25, 23, 19, 17, 16, 15, 14, 13, 12, 11, 6, 5, 4, 3, 2, 1, 0] rfl) (.refl _) ?_
 intro ux H gs3 q3 ps3 hi62
 obtain ⟨hu, hH, hG3, hp3, hou⟩ := hi62
 obtain ⟨hHo, hHl⟩ := oP hokF (fun k p P A B _ e => sW f k p true P A B e) _ _ hH
 have hHl2 : S.length ≤ H.ss.length := hHl
 refine aF (aF (cG 1 C (aI C (bM 2 C C C) (aI C (aC C C C (aA 1 C C)) ?_))))
 refine aI C (dL C C C (fun w hm => (((hd w (hm.sub (fO 9 C))).at (k := k) hkl).x))) (bN C C C C C C (fun h63 => ?_) (fun h63 => ?_))
 refine bQ (aK C (cE (fD (cA ?_))))
 have hxi := hmod.ins ux (by omega)
 have hxp : ∀ j, j < ((D.getD k md0).xs.getD ux ix0).ps.length → 0 ≤ ((D.getD k md0).xs.getD ux ix0).ps.getD j 0 ∧ ((D.getD k md0).xs.getD ux ix0).ps.getD j 0 < (D.getD k md0).ss.length := fun j hj => ((hmod.xs ux (by omega)).2 j (by rw [← hxi.2]; exact hj)).1
 have hxl30 : ((D.getD k md0).xs.getD ux ix0).ps.length ≤ 30 := by rw [hxi.2]; exact iD _
 refine aI C (bM 2 C C C) (aI C (aC C C C (aA 1 C C)) (aH 1 C ?_))
 refine aI C (cR 3 C C C C (fun w hm => (((hd w (hm.sub (fO 9 C))).at (k := k) hkl).x))) (aI C (bL (us := [jI ((((D.getD k md0).xs).getD ux ix0).m), jI ((((D.getD k md0).xs).getD ux ix0).p), (((D.getD k md0).xs).getD ux ix0).pv]) C C C C (fun w hm => (((hd w (hm.sub (fO 9 C))).at (k := k) hkl).x)) (by omega) C (bY ixC 3 (fun _ => C) ((D.getD k md0).xs) ix0 (show ux < _ by omega) C)) ?_)
 refine cL C (bG (z := .agg #[jI 0, jI 0, .slice none 0 0]) C C) ?_
 intro b64
 refine bE (cs' := #[jI ((((D.getD k md0).xs).getD ux ix0).m), jI ((((D.getD k md0).xs).getD ux ix0).p), (((D.getD k md0).xs).getD ux ix0).pv]) (i := 0) (off := 0) (us := [jI ((((D.getD k md0).xs).getD ux ix0).m), jI ((((D.getD k md0).xs).getD ux ix0).p), (((D.getD k md0).xs).getD ux ix0).pv]) C C C C C C C (aB C (aB C (aB (hm9.p.at (k := ux) (by omega)).one bC))) C C C (bQ (cA ?_))
 refine eA C (dF (s := 1) C Try.underlying48 C) ?_
 intro g65
 refine aP 1 C (aF (bA 1 C (bD ?_)))
 refine jC (α := Nat) (β := List Int) (γ := Value) [0, 1, 2, 3, 4, 5, 6, 11, 12, 13, 14, 15, 16, 17, 19, 23, 25, 26, 42, 104, 168, 217, 223] C (fun jx zs yv => (rI9 3 yv zs :: boxE b64 #[jI ((((D.getD k md0).xs).getD ux ix0).m), jI ((((D.getD k md0).xs).getD ux ix0).p), (((D.getD k md0).xs).getD ux ix0).pv] 63 :: rI9 3 q.1 ids :: boxE b4 #[(D.getD k md0).sv, (D.getD k md0).av, (D.getD k md0).iv, (D.getD k md0).mv] 35 :: boxE b3 #[.slice none 0 0, .slice none 0 0, .slice none 0 0, .slice none 0 0] 35 :: boxE b2 #[q3.1, q3.2.1, .slice none 0 0, q3.2.2] 35 :: boxE b1 #[v] 26 :: rS9 38 3 q3.1 H.ss sgC :: rS9 89 2 q3.2.1 gs3 asC :: rS9 94 4 q3.2.2 H.ms mmC :: bigE ps3 :: l)) (fun jx zs yv => [(27, yv), (28, jI (jx : Int))]) (fun jx zs yv => jx ≤ ((D.getD k md0).xs.getD ux ix0).ps.length ∧ zs = (((D.getD k md0).xs.getD ux ix0).ps.take jx).map (fun q => ids.getD q.toNat 0)) (fun jx zs yv => ((D.getD k md0).xs.getD ux ix0).ps.length - jx) 0 [] _ ⟨Nat.zero_le _, C⟩ (cN C) (.refl _) ?_
 intro jx zs yv hi66
 obtain ⟨hj, hz⟩ := hi66
 have hzl : zs.length = jx := by rw [hz, List.length_map, List.length_take]; omega
 refine aF (aF (cG 1 C (aI C (bM 2 C C C) (aI C (aC C C C (aA 1 C C)) ?_))))
 refine aI C (dL C C C (fun w hm => (((hd w (hm.sub (fO 11 C))).at (k := k) hkl).p.at (k := ux) (by omega)))) (bN C C C C C C (fun h67 => ?_) (fun h67 => ?_))
 refine bQ (aK C (cE (fD (aO ?_))))
 have hxj := hxp jx (by omega)
 refine aH 2 C (aI C (bM 2 C C C) (aI C (aC C C C (aA 1 C C)) (aH 1 C ?_)))
 refine aI C (cR 1 C C C C (fun w hm => (((hd w (hm.sub (fO 11 C))).at (k := k) hkl).p.at (k := ux) (by omega)))) (aI C (aQ (u := jI (((((D.getD k md0).xs).getD ux ix0).ps).getD jx 0)) C C C (fun w hm => (((hd w (hm.sub (fO 11 C))).at (k := k) hkl).p.at (k := ux) (by omega))) (cJ (show _ < ((((D.getD k md0).xs).getD ux ix0).ps).length by omega))) ?_)
 refine aI C (cR 1 C C C C (aJ 2 C)) (aI C (nD C C C (aJ 2 C)) ?_)
 refine eA C (bB (z := jI 0) (s := 1) (cs := (mI [ids.getD ((((((D.getD k md0).xs).getD ux ix0).ps).getD jx 0).toNat) 0])) C Try.underlying48 C (by decide) C (by kernel_rfl) C) ?_
 intro g68
 refine cW (i := 1) (z := jI 0) (bytes := 8) C C C C Try.underlying48 (by kernel_rfl) C C C C (aJ 0 C) (cQ _) (by first | omega | (simp; done) | (simp; omega)) (cM zs ([ids.getD ((((((D.getD k md0).xs).getD ux ix0).ps).getD jx 0).toNat) 0])) (dP zs ([ids.getD ((((((D.getD k md0).xs).getD ux ix0).ps).getD jx 0).toNat) 0])) (fun _ => C) ?_
 intro v69
 refine dA 1 C (cK (cG 1 C (aI C (dO C C C) (dA 1 C ?_))))
 exact cO (jx + 1) (zs ++ ([ids.getD ((((((D.getD k md0).xs).getD ux ix0).ps).getD jx 0).toNat) 0])) v69 ⟨by omega, tJ hz (by omega)⟩ (by omega) (cN C) (.cons _ (.refl _))
 refine bQ (aS C ?_)
 refine bI (dC ?_)
 refine aM (aR (cA (aI C (bM 1 C C C) (aI C (aC C C C (aA 1 C C)) (aP 1 C ?_)))))
 refine fJ (α := Int) (fun pp => (rI9 3 yv zs :: boxE b64 #[jI ((((D.getD k md0).xs).getD ux ix0).m), jI ((((D.getD k md0).xs).getD ux ix0).p), (((D.getD k md0).xs).getD ux ix0).pv] 63 :: rI9 3 q.1 ids :: boxE b4 #[(D.getD k md0).sv, (D.getD k md0).av, (D.getD k md0).iv, (D.getD k md0).mv] 35 :: boxE b3 #[.slice none 0 0, .slice none 0 0, .slice none 0 0, .slice none 0 0] 35 :: boxE b2 #[q3.1, q3.2.1, .slice none 0 0, q3.2.2] 35 :: boxE b1 #[v] 26 :: rS9 38 3 q3.1 H.ss sgC :: rS9 89 2 q3.2.1 gs3 asC :: rS9 94 4 q3.2.2 H.ms mmC :: bigE ps3 :: l)) (fun pp => [(0, .agg #[v]), (1, jI (k : Int)), (2, jI p), (3, .bool c), (4, uP), (5, .agg #[sv, av, .slice none 0 0, mv]), (6, pI b1), (11, pI b2), (12, pI b3), (13, .bool false), (14, pI b4), (15, q.1), (16, jI (n : Int)), (17, jI (i : Int)), (19, jI (ax : Int)), (23, jI (mx : Int)), (25, jI (ux : Int)), (26, pI b64), (27, yv), (28, jI (jx : Int)), (29, jI pp), (42, .bool false), (104, .bool false), (168, .bool false), (217, .bool false), (223, .bool true), (236, .bool false)]) (fun pp => pp = inP p ((D.getD k md0).xs.getD ux ix0)) ?_ ?_
 refine aF (cG 1 C ?_)
 refine bU C C C C C C (fun h70 => ?_) (fun h70 => ?_)
 refine bQ (aK C (aO (dA 2 C ?_)))
 exact cP p (by unfold inP; first | rw [if_pos (by omega)] | rw [if_neg (by omega)]) (cN C) (.refl _)
 refine bQ (gM C ?_)
 exact cP ((((D.getD k md0).xs).getD ux ix0).p) (by unfold inP; first | rw [if_pos (by omega)] | rw [if_neg (by omega)]) (cN C) (.refl _)
 intro pp hm71
 have hpp := hm71
 refine cA ?_
 refine iE 11 [6, 5, 4, 3, 2, 1, 0, 10, 9, 8, 7] C C (by decide) ?_
 refine wO 4 C ?_
 have hzp : zs = ptF ids ((D.getD k md0).xs.getD ux ix0) := by rw [hz, show jx = ((D.getD k md0).xs.getD ux ix0).ps.length by omega, List.take_length]; rfl
 refine aI C (aW (cs := [v]) C C C C C (aT 7 C 0 C)) (aI C (bM 0 C C C) (aI C (aC C C C (aA 2 C C)) ?_))
 obtain ⟨kx, hk2⟩ : ∃ kx : Nat, ((D.getD k md0).xs.getD ux ix0).m = (kx : Int) := ⟨((D.getD k md0).xs.getD ux ix0).m.toNat, by omega⟩
 rw [hk2]
 rw [hk2, Int.toNat_natCast] at hxi
 have hpo2 : PoP (D.getD kx md0) true zs H.ss.length := fun _ => ⟨by rw [hzp, vW]; exact hxi.2, by rw [hzp]; exact yS (hin.mono hHl2) (fun j hj => by have h9 := hxp j hj; omega)⟩
 refine aH 2 C (aI C (aW (cs := [q3.1, q3.2.1, .slice none 0 0, q3.2.2]) C C C C C (aT 6 C 0 C)) ?_)
 refine gA (R := (fun u_ p_ => AddR (addF D f kx pp true zs H) u_ p_)) 0 C C C C C (fun L w hX hm => IH kx pp zs H gs3 yv q3.1 q3.2.1 q3.2.2 ps3 _ _ (by omega) hHo hpo2 hG3 hp3 (fun w h => hd w ((hX w h).sub (fO 7 C))) (fun w h => mQ (hX w h) 0 C) hm) ?_
 intro v72 p73 R74
 obtain ⟨a74, b74, d74, ok74, qs74, rfl, rfl, hon74, hgo74, hno74⟩ := R74
 refine dY (l' := (bigE qs74 :: rI9 3 yv zs :: boxE b64 #[jI (kx : Int), jI ((((D.getD k md0).xs).getD ux ix0).p), (((D.getD k md0).xs).getD ux ix0).pv] 63 :: rI9 3 q.1 ids :: boxE b4 #[(D.getD k md0).sv, (D.getD k md0).av, (D.getD k md0).iv, (D.getD k md0).mv] 35 :: boxE b3 #[.slice none 0 0, .slice none 0 0, .slice none 0 0, .slice none 0 0] 35 :: boxE b2 #[q3.1, q3.2.1, .slice none 0 0, q3.2.2] 35 :: boxE b1 #[v] 26 :: l)) C ?_
 refine aH 3 C (bT (fun h75 => ?_) (fun h75 => ?_))
 refine cL C (bG (z := .agg #[.slice none 0 0, .slice none 0 0, .slice none 0 0, .slice none 0 0]) C C) ?_
 intro b76
 refine bE (cs' := #[a74, b74, .slice none 0 0, d74]) (i := 0) (off := 0) (us := [a74, b74, .slice none 0 0, d74]) C C C C C C C (aB hon74.1 (aB hon74.2.1 (aB C (aB hon74.2.2 bC)))) C C C (aP 1 C (aF (bA 2 C (aS C (cE ?_)))))
 refine aO ?_
 obtain ⟨G2, hG2, gs4, ps4, rfl, hp4, hG4⟩ := hgo74 (by assumption)
 refine iE 9 [8, 7, 6, 5, 4, 3, 2, 0, 1] C C (by decide) ?_
 refine gU (rS9 38 3 a74 G2.ss sgC :: rS9 89 2 b74 gs4 asC :: rS9 94 4 d74 G2.ms mmC :: bigE ps4 :: boxE b76 #[a74, b74, .slice none 0 0, d74] 35 :: rI9 3 yv zs :: boxE b64 #[jI (kx : Int), jI ((((D.getD k md0).xs).getD ux ix0).p), (((D.getD k md0).xs).getD ux ix0).pv] 63 :: rI9 3 q.1 ids :: boxE b4 #[(D.getD k md0).sv, (D.getD k md0).av, (D.getD k md0).iv, (D.getD k md0).mv] 35 :: boxE b3 #[.slice none 0 0, .slice none 0 0, .slice none 0 0, .slice none 0 0] 35 :: boxE b2 #[q3.1, q3.2.1, .slice none 0 0, q3.2.2] 35 :: boxE b1 #[v] 26 :: l) eQ ?_
 refine aI C (aW (cs := [a74, b74, .slice none 0 0, d74]) C C C C C (aT 4 C 0 C)) (bE (cs' := #[a74, b74, .slice none 0 0, d74]) (i := 10) (off := 0) (us := [a74, b74, .slice none 0 0, d74]) C C C C C C C (aB hon74.1 (aB hon74.2.1 (aB C (aB hon74.2.2 bC)))) C C C ?_)
 refine bK (cK (cG 1 C (aI C (dO C C C) (dA 1 C ?_))))
 refine cD 12 [3, 2, 1, 0, 11, 10, 9, 8, 7] C C (by decide) ?_
 exact fX (ux + 1) G2 gs4 (a74, b74, d74) ps4 ⟨by omega, by rw [fQ hH, hk2, ← hzp, ← hpp]; exact hG2, hG4, hp4, hon74⟩ (by omega) (aU [217, 168, 104, 42, 25, 23, 19, 17, 16, 15, 14, 13, 12, 11, 6, 5, 4, 3, 2, 1, 0] rfl) (.refl _)
 refine cL C (bG (z := .agg #[.slice none 0 0, .slice none 0 0, .slice none 0 0, .slice none 0 0]) C C) ?_
 intro b77
 refine bE (cs' := #[a74, b74, .slice none 0 0, d74]) (i := 0) (off := 0) (us := [a74, b74, .slice none 0 0, d74]) C C C C C C C (aB hon74.1 (aB hon74.2.1 (aB C (aB hon74.2.2 bC)))) C C C (aP 1 C (aF (bA 2 C (aK C (cA ?_)))))
 refine aI C (aW (cs := [q3.1, q3.2.1, .slice none 0 0, q3.2.2]) C C C C C (aT 7 C 0 C)) (bE (cs' := #[q3.1, q3.2.1, .slice none 0 0, q3.2.2]) (i := 6) (off := 0) (us := [q3.1, q3.2.1, .slice none 0 0, q3.2.2]) C C C C C C C (aB hou.1 (aB hou.2.1 (aB C (aB hou.2.2 bC)))) C C C ?_)
 refine aP 1 C ?_
 refine aN (aG ?_)
 refine aE (dZ ?_)
 refine aE (aG ?_)
 refine dI (bigE [] :: boxE b77 #[a74, b74, .slice none 0 0, d74] 35 :: bigE qs74 :: rI9 3 yv zs :: boxE b64 #[jI (kx : Int), jI ((((D.getD k md0).xs).getD ux ix0).p), (((D.getD k md0).xs).getD ux ix0).pv] 63 :: rI9 3 q.1 ids :: boxE b4 #[(D.getD k md0).sv, (D.getD k md0).av, (D.getD k md0).iv, (D.getD k md0).mv] 35 :: boxE b3 #[q3.1, q3.2.1, .slice none 0 0, q3.2.2] 35 :: boxE b2 #[q3.1, q3.2.1, .slice none 0 0, q3.2.2] 35 :: boxE b1 #[v] 26 :: l) dT ?_
 exact eV (rs := [.cell 12 35, .tmp 13]) (vs := [.agg #[q3.1, q3.2.1, .slice none 0 0, q3.2.2], .bool false]) C ⟨⟨b3, 0, [q3.1, q3.2.1, .slice none 0 0, q3.2.2], C, C, by kernel_rfl, by kernel_rfl, aT 7 C 0 C⟩, C, trivial⟩ C (fun w hm => ⟨_, bigE [], C, ⟨_, _, _, false, _, C, C, hou, (fun h => by cases h), fun _ => by first | exact gJ (iJ hs (by assumption) hpt (by omega)) (by omega) | exact gW hsF (fun h9 => by have h8 := hoi.1 h9; omega) | exact (hU hsF hokF).trans (fW (i := ux + 1) (by rw [fQ hH, hk2, ← hzp, ← hpp]; exact hno74 (by assumption)) _ (by omega))⟩, hm.sub (.cons_cons _ (fO 9 C))⟩)
 refine bQ (aS C ?_)
 refine bI (dC ?_)
 refine aM (aR (cA (aI C (aW (cs := [q3.1, q3.2.1, .slice none 0 0, q3.2.2]) C C C C C (aT 3 C 0 C)) ?_)))
 refine cS (i := 7) C (fun ho78 => ?_)
 refine cS (i := 6) C (fun ho79 => ?_)
 refine cS (i := 5) C (fun ho80 => ?_)
 refine bE (cs' := #[q3.1, q3.2.1, .slice none 0 0, q3.2.2]) (i := 2) (off := 0) (us := [q3.1, q3.2.1, .slice none 0 0, q3.2.2]) C C C C C C C (aB ho80 (aB ho79 (aB C (aB ho78 bC)))) C C C (aP 1 C ?_)
 refine aN (cD 9 [4, 3, 2, 1, 0, 8, 7, 6, 5] C C (by decide) ?_)
 refine dE 4 C ?_
 exact eV (rs := [.cell 12 35, .tmp 13]) (vs := [.agg #[q3.1, q3.2.1, .slice none 0 0, q3.2.2], .bool true]) rfl ⟨⟨b3, 0, [q3.1, q3.2.1, .slice none 0 0, q3.2.2], rfl, rfl, by kernel_rfl, by kernel_rfl, aT 3 rfl 0 rfl⟩, rfl, trivial⟩ rfl (fun w hm => ⟨_, bigE [rS9 38 3 q3.1 H.ss sgC, rS9 89 2 q3.2.1 gs3 asC, rS9 94 4 q3.2.2 H.ms mmC, bigE ps3], rfl, ⟨_, _, _, true, _, rfl, rfl, hou, fun _ => ⟨H, by rw [hU hsF hokF, show (D.getD k md0).xs.length = ux by omega]; exact hH, gs3, ps3, rfl, hp3, hG3⟩, fun h => by cases h⟩, hm.sub (.cons_cons _ (fO 5 rfl))⟩)
theorem pO (D : List Md) (v : Value) (hdp : DesP D) (w0 : World) : ∀ (f k : Nat) (p : Int) (c : Bool) (P : List Int) (F : Fz) (gs : List As) (uP sv av mv : Value) (ps l : List HP) (w : World), k < f → k < D.length → F.Ok → PoP (D.getD k md0) c P F.ss.length → gs.map asV = F.gs → (∀ w, (bigE ps).holds w → OpsR w gs) → (∀ w, Mem w0 l w → RdsDs w v D) → (∀ w, Mem w0 l w → RdsW w uP 1 P.length (P.map (Value.int .i64))) → Mem w0 (bigE (flQ sv av mv F.ss gs F.ms ps) :: l) w →
    Calls Try.prog 70 #[.agg #[v], .int .i64 (k : Int), .int .i64 p, .bool c, uP, .agg #[sv, av, .slice none 0 0, mv]] w (fun e_ w_ => ∃ v_ p_, e_ = .returned v_ ∧ AddR (addF D f k p c P F) v_ p_ ∧ Mem w0 (p_ :: l) w_)
  | 0, k, p, c, P, F, gs, uP, sv, av, mv, ps, l, w, hk, _, _, _, _, _, _, _, _ => absurd hk (by omega)
  | f + 1, k, p, c, P, F, gs, uP, sv, av, mv, ps, l, w, hk, hkl, hF, hPo, hgs, hps, hd, hP, hm => tU D f k p c P F gs v uP sv av mv ps w0 l w hm hd hP hdp hkl hF hPo hgs hps (fun kx p2 P2 F2 gs2 ux sv2 av2 mv2 ps2 l2 w2 hlt hF2 hPo2 hgs2 hps2 hd2 hu2 hm2 => pO D v hdp w0 f kx p2 true P2 F2 gs2 ux sv2 av2 mv2 ps2 l2 w2 (by omega) (by omega) hF2 hPo2 hgs2 hps2 hd2 hu2 hm2)
structure MdF (m : Md) (F : Fz) : Prop where
  s : m.ss = F.ss
  g : m.gs.map asV = F.gs
  x : m.xs = []
  m : m.ms = F.ms
def FlzP (D : List Md) (p : Int) (F : Fz) : Prop := DesP D ∧ (1 ≤ p ∧ p ≤ 4) ∧ addF D D.length (D.length - 1) p false [] fz0 = some F
theorem RdsMd.zero (w : World) : RdsMd w md0 := ⟨qF w 3, qF w 2, OpsR.nil w, qF w 3, PtsR.nil w, qF w 4⟩
theorem jL : MdOne md0 := ⟨rfl, rfl, rfl, rfl⟩
structure SameM (a b : Md) : Prop where
  s : a.ss = b.ss
  g : a.gs.map asV = b.gs.map asV
  x : a.xs = []
  y : b.xs = []
  m : a.ms = b.ms
theorem MdF.same {a b : Md} {F : Fz} (h : MdF a F) (k : MdF b F) : SameM a b := ⟨h.s.trans k.s.symm, h.g.trans k.g.symm, h.x, k.x, h.m.trans k.m.symm⟩
theorem SameM.symm {a b : Md} (h : SameM a b) : SameM b a := ⟨h.s.symm, h.g.symm, h.y, h.x, h.m.symm⟩
theorem SameM.len {a b : Md} (h : SameM a b) : a.gs.length = b.gs.length := by have := congrArg List.length h.g; rwa [List.length_map, List.length_map] at this
theorem SameM.at {a b : Md} (h : SameM a b) (i : Nat) : (a.gs.getD i as0).t = (b.gs.getD i as0).t ∧ (a.gs.getD i as0).os = (b.gs.getD i as0).os := by
  have h1 : asV (a.gs.getD i as0) = asV (b.gs.getD i as0) := by
    have e : ∀ L : List As, asV (L.getD i as0) = (L.map asV).getD i (asV as0) := fun L => by
      rw [List.getD_eq_getElem?_getD, List.getD_eq_getElem?_getD, List.getElem?_map]
      cases L[i]? <;> rfl
    rw [e, e, h.g]
  exact ⟨congrArg Prod.fst h1, congrArg Prod.snd h1⟩
theorem SameM.tgts {a b : Md} (h : SameM a b) : a.gs.map As.t = b.gs.map As.t := by
  have h1 := congrArg (List.map Prod.fst) h.g
  rw [List.map_map, List.map_map] at h1; exact h1
theorem SameM.knd {a b : Md} (h : SameM a b) (s : Int) : knd a s = knd b s := by unfold Go.Proofs.Ytodiifjigjnalaa.knd; rw [h.s]
theorem SameM.des {a b : Md} (h : SameM a b) (k : DesP [a]) : DesP [b] := by
  have hm := k.2 0 (by simp)
  have hl : LenP a := k.len1
  have hc : CntP [b] := ⟨by simp, fun q hq => by
    obtain rfl : q = 0 := by have : q < 1 := hq; omega
    have h1 := hl.1; have h2 := hl.2.1; have h3 := hl.2.2.2
    rw [h.s] at h1; rw [h.len] at h2; rw [h.m] at h3
    exact ⟨h1, h2, (by show b.xs.length ≤ 3; rw [h.y]; exact Nat.zero_le _), h3⟩⟩
  have nox : ∀ {n : Nat}, n < b.xs.length → False := fun hn => by rw [h.y] at hn; exact absurd hn (Nat.not_lt_zero _)
  refine ⟨⟨by simp, by simp⟩, fun q hq => ?_⟩
  obtain rfl : q = 0 := by have : q < 1 := hq; omega
  refine ⟨hq, hc, fun i hi => (nox hi).elim, fun i hi => ?_, fun i hi => ?_, fun i hi => (nox hi).elim, fun i hi => ?_, fun s hs h0 => ?_⟩
  · have h1 : i < a.ss.length := by rw [h.s]; exact hi
    have h2 := hm.sg i h1
    have h3 : SgP (a.ss.getD i sg0) := h2
    rw [h.s] at h3; exact h3
  · have h1 : i < a.gs.length := by rw [h.len]; exact hi
    obtain ⟨h2, h3⟩ : AsP a (a.gs.getD i as0) := hm.gs i h1
    rw [h.knd, (h.at i).1] at h2
    rw [h.s, (h.at i).2] at h3
    exact ⟨h2, h3⟩
  · have h1 : i < a.ms.length := by rw [h.m]; exact hi
    have h2 : MmP a (a.ms.getD i mm0) := hm.ms i h1
    unfold MmP Inn Drv at h2
    rw [h.knd, h.s, h.m] at h2; exact h2
  · have h1 : s < a.ss.length := by rw [h.s]; exact hs
    have h2 : (a.ss.getD s sg0).k ≠ 0 → (drvL [a] a).count (s : Int) = 1 := hm.dr s h1
    have e : drvL [b] b = drvL [a] a := by unfold drvL; rw [h.x, h.y, h.tgts, h.m]; rfl
    show (drvL [b] b).count _ = 1
    rw [e]; exact h2 (by rw [h.s]; exact h0)
theorem SameM.todo {a b : Md} (h : SameM a b) : ∀ i, todoA a i = todoA b i
  | 0 => rfl
  | i + 1 => by
    show todoA a i ++ (if _ then _ else _) = todoA b i ++ (if _ then _ else _)
    rw [h.todo i, h.s, (h.at i).1]
theorem SameM.can {a b : Md} (h : SameM a b) {T : List Int} (k : Can a T) : Can b T := by
  obtain ⟨f, hf⟩ := k
  exact ⟨f, fun x hx y hy hr => hf x hx y hy (by rw [(h.at _).2, (h.at _).1]; exact hr)⟩
theorem SameM.eo {a b : Md} (h : SameM a b) (k : EoP a) : EoP b := ⟨by rw [h.y]; rfl, h.des k.2.1, by rw [← h.todo, ← h.len]; exact h.can k.2.2⟩
theorem SameM.mo {a b : Md} (h : SameM a b) : ∀ i, moA a i = moA b i
  | 0 => rfl
  | i + 1 => by
    show moA a i + _ = moA b i + _
    rw [h.mo i, h.s, h.m]
theorem SameM.pw {a b : Md} (h : SameM a b) (c : Int) : pwK a c = pwK b c := by unfold pwK; rw [h.s]
theorem SameM.fl {a b : Md} (h : SameM a b) (k : FlP a) : FlP b := ⟨h.eo k.eo, fun s hs => by rw [← h.s] at hs ⊢; exact k.wid s hs, fun i hi => by rw [← h.len] at hi; rw [← (h.at i).2]; exact k.par i hi, fun i hi => by
  rw [← h.m] at hi
  have h1 := k.mem i hi
  unfold MwP at h1 ⊢
  rw [h.s, h.m] at h1; exact h1, by rw [← h.pw]; exact k.ins, by rw [← h.pw]; exact k.outs, by rw [← h.pw, ← h.m, ← h.mo]; exact k.bits⟩
theorem rS {ss : List Sg} {i : Nat} (hp : isPt (ss.getD i sg0) = true) {n : Nat} (hn : i < n) : (ptsA ss i).length < (ptsA ss n).length ∧ (ptsA ss n).getD (ptsA ss i).length 0 = (i : Int) := by
  obtain ⟨d, rfl⟩ : ∃ d, n = i + 1 + d := ⟨n - i - 1, by omega⟩
  clear hn
  induction d with
  | zero =>
    rw [Nat.add_zero, ← iQ (dU.1 hp)]
    exact ⟨by rw [List.length_append]; exact Nat.lt_succ_self _, by rw [jF (Nat.le_refl _), Nat.sub_self]; rfl⟩
  | succ d ih =>
    obtain ⟨h1, h2⟩ := ih
    show (ptsA ss i).length < (ptsA ss (i + 1 + d) ++ _).length ∧ (ptsA ss (i + 1 + d) ++ _).getD _ 0 = _
    exact ⟨by rw [List.length_append]; omega, by rw [eX h1]; exact h2⟩
theorem Ax {m : Md} (hl : m.ss.length ≤ 30) {i n : Nat} (hi : i < m.ss.length) (hn : n = (ptsA m.ss i).length) : isPt (m.ss.getD i sg0) = true ↔ n < (ptsK m).length ∧ (ptsK m).getD n 0 = (i : Int) := by
  have e : ptsK m = ptsA m.ss m.ss.length := by unfold ptsK; rw [if_pos hl]
  rw [e, hn]
  constructor
  · intro h; exact rS h hi
  · rintro ⟨h1, h2⟩
    obtain ⟨j, hj, hp, hx⟩ := pG.1 (cV (d := (0 : Int)) h1)
    rw [h2] at hx
    obtain rfl : i = j := by omega
    exact hp
theorem tD {ids : List Int} {N i : Nat} {x : Int} (hl : ids.length = i) (hi : i < N) : (ids ++ List.replicate (N - i) 0).set i x = (ids ++ [x]) ++ List.replicate (N - (i + 1)) 0 := by
  have e : List.replicate (N - i) (0 : Int) = 0 :: List.replicate (N - (i + 1)) 0 := by rw [show N - i = (N - (i + 1)) + 1 by omega, List.replicate_succ]
  rw [e, List.set_append_right _ _ (by omega), hl, Nat.sub_self, List.set_cons_zero, List.append_assoc]; rfl
theorem Ah {ids : List Int} {N i : Nat} (h : N = i) : ids ++ List.replicate (N - i) 0 = ids := by rw [h, Nat.sub_self]; simp
theorem Ag {ids : List Int} {N i : Nat} (hl : ids.length = i) (h : i ≤ N) : (ids ++ List.replicate (N - i) (0 : Int)).length = N := by rw [List.length_append, List.length_replicate]; omega
abbrev fbQ (b : Nat) (v a c d : Value) (ss : List Sg) (gs : List As) (ms : List Mm) (ps : List HP) : List HP := boxE b #[v, a, c, .slice none 0 0, d] 114 :: flQ a c d ss gs ms ps
def AddB (o : Option Fz) (b : Nat) (v u_ : Value) (p_ : HP) : Prop := ∃ (ok : Bool) (qs : List HP), u_ = .bool ok ∧ p_ = bigE qs ∧ (ok = true → ∃ (G : Fz) (a c d : Value) (gs : List As) (ps : List HP), o = some G ∧ qs = fbQ b v a c d G.ss gs G.ms ps ∧ (∀ w, (bigE ps).holds w → OpsR w gs) ∧ gs.map asV = G.gs) ∧ (ok = false → o = none)
def Pre {α : Type} (a b : List α) : Prop := ∃ s, b = a ++ s
theorem Pre.refl {α : Type} (a : List α) : Pre a a := ⟨[], (List.append_nil a).symm⟩
theorem Pre.trans {α : Type} {a b c : List α} (h : Pre a b) (k : Pre b c) : Pre a c := by
  obtain ⟨s, rfl⟩ := h; obtain ⟨t, rfl⟩ := k; exact ⟨s ++ t, by rw [List.append_assoc]⟩
theorem Pre.at {α : Type} {a b : List α} (h : Pre a b) {i : Nat} (hi : i < a.length) (d : α) : b.getD i d = a.getD i d := by obtain ⟨s, rfl⟩ := h; exact eX hi
theorem Pre.len {α : Type} {a b : List α} (h : Pre a b) : a.length ≤ b.length := by obtain ⟨s, rfl⟩ := h; rw [List.length_append]; omega
structure PreF (A B : Fz) : Prop where
  ss : Pre A.ss B.ss
  gs : Pre A.gs B.gs
  ms : Pre A.ms B.ms
theorem PreF.refl (A : Fz) : PreF A A := ⟨Pre.refl _, Pre.refl _, Pre.refl _⟩
theorem PreF.trans {A B C : Fz} (h : PreF A B) (k : PreF B C) : PreF A C := ⟨h.ss.trans k.ss, h.gs.trans k.gs, h.ms.trans k.ms⟩
theorem vR {m : Md} {p : Int} {c : Bool} {P : List Int} {S0 : List Sg} : ∀ (i : Nat) (r : List Int × Nat × List Sg), sgF m p c P S0 i = some r → ∃ s, r.2.2 = S0 ++ s ∧ (c = true → ∀ x ∈ s, isPt x = false)
  | 0, r, e => by have e := Option.some.inj e; subst e; exact ⟨[], (List.append_nil _).symm, fun _ x hx => by cases hx⟩
  | i + 1, r, e => by
    obtain ⟨q, hq, e2⟩ := Option.bind_eq_some_iff.1 (show (sgF m p c P S0 i).bind _ = some r from e)
    obtain ⟨s, h1, h2⟩ := vR i q hq
    split at e2
    · split at e2
      · have e2 := Option.some.inj e2; subst e2; exact ⟨s, h1, h2⟩
      · cases e2
    · rename_i hn
      have e2 := Option.some.inj e2; subst e2
      refine ⟨s ++ [_], by show q.2.2 ++ _ = _; rw [h1, List.append_assoc], fun hc x hx => ?_⟩
      rcases List.mem_append.1 hx with hx | hx
      · exact h2 hc x hx
      · rw [List.mem_singleton] at hx; subst hx
        cases h9 : isPt (⟨(m.ss.getD i sg0).k, wdF p (m.ss.getD i sg0), (m.ss.getD i sg0).i⟩ : Sg) with
        | false => rfl
        | true => exact absurd ⟨hc, dU.2 (dU.1 h9)⟩ hn
theorem mX {g : Nat → Int → List Int → Fz → Option Fz} {ids : List Int} {p : Int} {xs : List Ix} {F : Fz} (hg : ∀ k p P A B, g k p P A = some B → PreF A B ∧ ∃ s, B.ss = A.ss ++ s ∧ ∀ x ∈ s, isPt x = false) : ∀ (i : Nat) (G : Fz), insA g ids p xs F i = some G → PreF F G ∧ ∃ s, G.ss = F.ss ++ s ∧ ∀ x ∈ s, isPt x = false
  | 0, G, e => by have e := Option.some.inj e; subst e; exact ⟨PreF.refl _, [], (List.append_nil _).symm, fun x hx => by cases hx⟩
  | i + 1, G, e => by
    obtain ⟨q, hq, e2⟩ := Option.bind_eq_some_iff.1 (show (insA g ids p xs F i).bind _ = some G from e)
    obtain ⟨h1, s, h2, h3⟩ := mX hg i q hq
    obtain ⟨h4, t, h5, h6⟩ := hg _ _ _ _ _ e2
    exact ⟨h1.trans h4, s ++ t, by rw [h5, h2, List.append_assoc], fun x hx => (List.mem_append.1 hx).elim (h3 x) (h6 x)⟩
theorem Az {m : Md} {p : Int} {F : Fz} {r : List Int × Nat × List Sg} (h : Pre F.ss r.2.2) : PreF F (ownF m p F r) := ⟨h, ⟨_, rfl⟩, ⟨_, rfl⟩⟩
theorem nB {D : List Md} : ∀ (f k : Nat) (p : Int) (P : List Int) (A B : Fz), addF D f k p true P A = some B → PreF A B ∧ ∃ s, B.ss = A.ss ++ s ∧ ∀ x ∈ s, isPt x = false
  | 0, k, p, P, A, B, e => by cases e
  | f + 1, k, p, P, A, B, e => by
    obtain ⟨r, hr, e2⟩ := Option.bind_eq_some_iff.1 (show (sgF _ p true P A.ss _).bind _ = some B from e)
    obtain ⟨s, h1, h2⟩ := vR _ r hr
    split at e2
    · obtain ⟨h3, t, h4, h5⟩ := mX (fun k p P A B e => nB f k p P A B e) _ _ e2
      exact ⟨(Az ⟨s, h1⟩).trans h3, s ++ t, by rw [h4]; show r.2.2 ++ t = _; rw [h1, List.append_assoc], fun x hx => (List.mem_append.1 hx).elim (h2 rfl x) (h5 x)⟩
    · cases e2
def sgQ (p : Int) (x : Sg) : Sg := ⟨x.k, wdF p x, x.i⟩
theorem rB (p : Int) {L : List Sg} {q : Nat} (h : q < L.length) : (L.map (sgQ p)).getD q sg0 = sgQ p (L.getD q sg0) := by
  rw [List.getD_eq_getElem?_getD, List.getElem?_map, List.getD_eq_getElem?_getD, List.getElem?_eq_getElem h]; rfl
def idL (n : Nat) : List Int := (List.range n).map (fun q : Nat => (q : Int))
theorem idL_at {n : Nat} {x : Int} (h : 0 ≤ x ∧ x < n) : (idL n).getD x.toNat 0 = x := by
  unfold idL
  rw [List.getD_eq_getElem?_getD, List.getElem?_map, List.getElem?_range (by omega)]
  show ((x.toNat : Nat) : Int) = x; omega
theorem rP {m : Md} {p : Int} {P : List Int} : ∀ (i : Nat) (r : List Int × Nat × List Sg), i ≤ m.ss.length → sgF m p false P [] i = some r → r.1 = idL i ∧ r.2.2 = (m.ss.take i).map (sgQ p)
  | 0, r, _, e => by have e := Option.some.inj e; subst e; exact ⟨rfl, rfl⟩
  | i + 1, r, hi, e => by
    obtain ⟨q, hq, e2⟩ := Option.bind_eq_some_iff.1 (show (sgF m p false P [] i).bind _ = some r from e)
    obtain ⟨h1, h2⟩ := rP i q (by omega) hq
    rw [if_neg (fun q => by cases q.1)] at e2
    have e2 := Option.some.inj e2; subst e2
    refine ⟨?_, ?_⟩
    · show q.1 ++ [(q.2.2.length : Int)] = idL (i + 1)
      rw [h1, h2, List.length_map, List.length_take, Nat.min_eq_left (by omega)]
      unfold idL; rw [List.range_succ, List.map_append]; rfl
    · show q.2.2 ++ [_] = _
      rw [h2, eU sg0 (show i < m.ss.length by omega), List.map_append]; rfl
theorem uR {D : List Md} {f k : Nat} {p : Int} {G : Fz} (e : addF D f k p false [] fz0 = some G) : ∃ s, G.ss = (D.getD k md0).ss.map (sgQ p) ++ s ∧ ∀ x ∈ s, isPt x = false := by
  cases f with
  | zero => cases e
  | succ f =>
    obtain ⟨r, hr, e2⟩ := Option.bind_eq_some_iff.1 (show (sgF _ p false [] [] _).bind _ = some G from e)
    obtain ⟨h1, h2⟩ := rP _ r (Nat.le_refl _) hr
    rw [List.take_length] at h2
    split at e2
    · obtain ⟨h3, t, h4, h5⟩ := mX (fun k p P A B e => nB f k p P A B e) _ _ e2
      exact ⟨t, by rw [h4]; show r.2.2 ++ t = _; rw [h2], h5⟩
    · cases e2
theorem qX {g : Nat → Int → List Int → Fz → Option Fz} {ids : List Int} {p : Int} {xs : List Ix} {F : Fz} (hg : ∀ k p P A B, g k p P A = some B → PreF A B ∧ ∃ s, B.ss = A.ss ++ s ∧ ∀ x ∈ s, isPt x = false) (i : Nat) {Q : Fz} (hQ : insA g ids p xs F i = some Q) : ∀ (j : Nat), i ≤ j → ∀ (G : Fz), insA g ids p xs F j = some G → PreF Q G
  | 0, hj, G, e => by
    have : i = 0 := by omega
    subst this; rw [hQ] at e; have e := Option.some.inj e; subst e; exact PreF.refl _
  | j + 1, hj, G, e => by
    by_cases h : i = j + 1
    · subst h; rw [hQ] at e; have e := Option.some.inj e; subst e; exact PreF.refl _
    · obtain ⟨R, hR, e2⟩ := Option.bind_eq_some_iff.1 (show (insA g ids p xs F j).bind _ = some G from e)
      exact (qX hg i hQ j (by omega) R hR).trans (hg _ _ _ _ _ e2).1
theorem xX {D : List Md} (hD : DesP D) {f k : Nat} {p : Int} {G : Fz} (hk : k < D.length) (e : addF D f k p false [] fz0 = some G) {i : Nat} (hi : i < (D.getD k md0).xs.length) : ∃ f' B B1, addF D f' ((D.getD k md0).xs.getD i ix0).m.toNat (inP p ((D.getD k md0).xs.getD i ix0)) true ((D.getD k md0).xs.getD i ix0).ps B = some B1 ∧ PreF B1 G ∧ Pre ((D.getD k md0).ss.map (sgQ p)) B.ss := by
  cases f with
  | zero => cases e
  | succ f =>
    have hm := hD.2 k hk
    obtain ⟨r, hr, e2⟩ := Option.bind_eq_some_iff.1 (show (sgF _ p false [] [] _).bind _ = some G from e)
    obtain ⟨h1, h2⟩ := rP _ r (Nat.le_refl _) hr
    rw [List.take_length] at h2
    split at e2
    · have hpre := fun (k : Nat) (p : Int) (P : List Int) (A B : Fz) (e : addF D f k p true P A = some B) => nB f k p P A B e
      obtain ⟨Q, hQ⟩ : ∃ Q, insA (fun k p P G => addF D f k p true P G) r.1 p (D.getD k md0).xs (ownF (D.getD k md0) p fz0 r) (i + 1) = some Q := by
        cases h9 : insA (fun k p P G => addF D f k p true P G) r.1 p (D.getD k md0).xs (ownF (D.getD k md0) p fz0 r) (i + 1) with
        | some Q => exact ⟨Q, rfl⟩
        | none => rw [fW h9 _ (by omega)] at e2; cases e2
      obtain ⟨B, hB, hB2⟩ := Option.bind_eq_some_iff.1 (show (insA _ r.1 p (D.getD k md0).xs _ i).bind _ = some Q from hQ)
      obtain ⟨q1, s, q2, -⟩ := mX hpre _ _ hB
      have hps : ptF r.1 ((D.getD k md0).xs.getD i ix0) = ((D.getD k md0).xs.getD i ix0).ps := by
        unfold ptF
        rw [h1]
        conv => rhs; rw [← List.map_id ((D.getD k md0).xs.getD i ix0).ps]
        refine List.map_congr_left (fun q hq => ?_)
        obtain ⟨j, hj, rfl⟩ := List.mem_iff_getElem.1 hq
        have h5 := ((hm.xs i hi).2 j (by rw [← (hm.ins i hi).2]; exact hj)).1
        unfold Inn at h5
        rw [List.getD_eq_getElem?_getD, List.getElem?_eq_getElem hj] at h5
        exact idL_at h5
      have hB2 : addF D f ((D.getD k md0).xs.getD i ix0).m.toNat (inP p ((D.getD k md0).xs.getD i ix0)) true (ptF r.1 ((D.getD k md0).xs.getD i ix0)) B = some Q := hB2
      rw [hps] at hB2
      refine ⟨f, B, Q, hB2, ?_, ⟨s, by rw [q2]; show r.2.2 ++ s = _; rw [h2]⟩⟩
      -- what is added behind it
      exact qX hpre _ hQ _ (by omega) _ e2
    · cases e2
theorem zN {D : List Md} (hD : DesP D) {f f2 k : Nat} {p : Int} {F G : Fz} {got child : Md} (hk : k < D.length) (eF : addF D f k p false [] fz0 = some F) (hF : MdF got F) {i : Nat} (hi : i < (D.getD k md0).xs.length)
    (eG : addF D f2 ((D.getD k md0).xs.getD i ix0).m.toNat (inP p ((D.getD k md0).xs.getD i ix0)) false [] fz0 = some G) (hG : MdF child G) :
    ∃ φ g0 k0, Emb child got φ g0 k0 ∧ ∀ s, s < (D.getD ((D.getD k md0).xs.getD i ix0).m.toNat md0).ss.length → isPt ((D.getD ((D.getD k md0).xs.getD i ix0).m.toNat md0).ss.getD s sg0) = true → φ s = (((D.getD k md0).xs.getD i ix0).ps.getD (ptsA (D.getD ((D.getD k md0).xs.getD i ix0).m.toNat md0).ss s).length 0).toNat := by
  have hm := hD.2 k hk
  have hins := hm.ins i hi
  have hx := (hm.xs i hi).2
  obtain ⟨f', B, B1, h1, h2, h3⟩ := xX hD hk eF hi
  have hkc : ((D.getD k md0).xs.getD i ix0).m.toNat < D.length := by have := hins.1; omega
  have hmc := hD.2 _ hkc
  have hlc := (hmc.cnt.md _ hkc).1
  have hpr : ∀ j, j < ((D.getD k md0).xs.getD i ix0).ps.length → 0 ≤ ((D.getD k md0).xs.getD i ix0).ps.getD j 0 ∧ ((D.getD k md0).xs.getD i ix0).ps.getD j 0 < (D.getD k md0).ss.length := fun j hj => (hx j (by rw [← hins.2]; exact hj)).1
  have htop : (D.getD k md0).ss.length ≤ B.ss.length := by have := h3.len; rw [List.length_map] at this; exact this
  obtain ⟨ψ, hE, hpt⟩ := al_emb hD (O := fun q => (got.ss.getD q.toNat sg0).k ≠ 3 ∧ (got.ss.getD q.toNat sg0).k ≠ 0) hkc hins.2 (fun q hq => by
      obtain ⟨j, hj, rfl⟩ := List.mem_iff_getElem.1 hq
      have h5 := hpr j hj
      rw [List.getD_eq_getElem?_getD, List.getElem?_eq_getElem hj] at h5
      have h6 : (0 : Int) ≤ ((D.getD k md0).xs.getD i ix0).ps[j] ∧ ((D.getD k md0).xs.getD i ix0).ps[j] < (D.getD k md0).ss.length := h5
      omega) (fun s hs hk1 => by
      have hn : (ptsA (D.getD ((D.getD k md0).xs.getD i ix0).m.toNat md0).ss s).length < (ptsK (D.getD ((D.getD k md0).xs.getD i ix0).m.toNat md0)).length ∧ (ptsK (D.getD ((D.getD k md0).xs.getD i ix0).m.toNat md0)).getD (ptsA (D.getD ((D.getD k md0).xs.getD i ix0).m.toNat md0).ss s).length 0 = (s : Int) := by
        unfold ptsK; rw [if_pos hlc]; exact rS (dU.2 (.inr hk1)) hs
      have h5 := hx _ hn.1
      have h6 := h5.2 (by rw [hn.2, dH ⟨by omega, by omega⟩]; exact hk1)
      have h7 := h5.1
      unfold Inn at h7
      unfold Drv at h6
      rw [dH h7] at h6
      have e : got.ss.getD (((D.getD k md0).xs.getD i ix0).ps.getD (ptsA (D.getD ((D.getD k md0).xs.getD i ix0).m.toNat md0).ss s).length 0).toNat sg0 = sgQ p ((D.getD k md0).ss.getD (((D.getD k md0).xs.getD i ix0).ps.getD (ptsA (D.getD ((D.getD k md0).xs.getD i ix0).m.toNat md0).ss s).length 0).toNat sg0) := by
        obtain ⟨pr, -⟩ := nB _ _ _ _ _ _ h1
        generalize ((D.getD k md0).xs.getD i ix0).ps.getD (ptsA (D.getD ((D.getD k md0).xs.getD i ix0).m.toNat md0).ss s).length 0 = z at h7
        have hq : z.toNat < (D.getD k md0).ss.length := by omega
        rw [hF.s, ((h3.trans pr.ss).trans h2.ss).at (by rw [List.length_map]; exact hq) sg0, rB p hq]
      show (got.ss.getD _ sg0).k ≠ 3 ∧ (got.ss.getD _ sg0).k ≠ 0
      rw [e]; unfold sgQ; dsimp only; omega) eG h1
  have hψ : ∀ s, s < G.ss.length → (gN ψ s < B1.ss.length) ∧ ((gN ψ s : Nat) : Int) = ψ.getD s 0 := fun s hs => by have := hE.sg.rg s hs; unfold gN; omega
  have hB1 : ∀ s, s < B1.ss.length → got.ss.getD s sg0 = B1.ss.getD s sg0 := fun s hs => by rw [hF.s]; exact h2.ss.at hs sg0
  have asv : ∀ (L : List As) (q : Nat), (L.map asV).getD q ga0 = asV (L.getD q as0) := fun L q => by
    rw [List.getD_eq_getElem?_getD, List.getElem?_map, List.getD_eq_getElem?_getD]
    cases L[q]? <;> rfl
  refine ⟨gN ψ, B.gs.length, B.ms.length, ⟨fun s hs => ?_, fun s hs hp => ?_, fun s hs hk1 => ?_, fun q hq => ?_, fun q hq => ?_⟩, fun s hs hp => ?_⟩
  · rw [hG.s] at hs ⊢
    obtain ⟨a1, a2⟩ := hψ s hs
    refine ⟨by rw [hF.s]; have := h2.ss.len; omega, ?_⟩
    rw [hB1 _ a1]; exact hE.sg.wd s hs
  · rw [hG.s] at hs hp ⊢
    rw [hB1 _ (hψ s hs).1]; exact hE.sg.kd s hs hp
  · rw [hG.s] at hs hk1
    exact hE.sg.ou s hs hk1
  · have hq2 : q < G.gs.length := by rw [← hG.g, List.length_map]; exact hq
    have e1 : asV (got.gs.getD (B.gs.length + q) as0) = rnG ψ (asV (child.gs.getD q as0)) := by
      rw [← asv, ← asv, hF.g, hG.g, h2.gs.at (by rw [hE.gs, List.length_append, List.length_map]; omega) ga0, hE.gs, jF (by omega), show B.gs.length + q - B.gs.length = q by omega, List.getD_eq_getElem?_getD, List.getElem?_map, List.getD_eq_getElem?_getD, List.getElem?_eq_getElem hq2]; rfl
    refine ⟨?_, ?_, ?_⟩
    · have h8 := h2.gs.len
      rw [hE.gs, List.length_append, List.length_map, ← hF.g, List.length_map] at h8; omega
    · exact congrArg Prod.fst e1
    · exact congrArg Prod.snd e1
  · have hq2 : q < G.ms.length := by rw [← hG.m]; exact hq
    refine ⟨?_, ?_⟩
    · have h8 := h2.ms.len
      rw [hE.ms, List.length_append, List.length_map, ← hF.m] at h8; omega
    · rw [hF.m, hG.m, h2.ms.at (by rw [hE.ms, List.length_append, List.length_map]; omega) mm0, hE.ms, jF (by omega), show B.ms.length + q - B.ms.length = q by omega, List.getD_eq_getElem?_getD, List.getElem?_map, List.getD_eq_getElem?_getD, List.getElem?_eq_getElem hq2]; rfl
  · show (ψ.getD s 0).toNat = _
    rw [hpt s hs hp]
def inL (m : Md) (ps V : List Int) : Nat → List Int
  | 0 => []
  | j + 1 => inL m ps V j ++ if (m.ss.getD ((ptsK m).getD j 0).toNat sg0).k = 0 then [V.getD (ps.getD j 0).toNat 0] else []
def ouL (m : Md) (ps V : List Int) : Nat → List Int
  | 0 => []
  | j + 1 => ouL m ps V j ++ if (m.ss.getD ((ptsK m).getD j 0).toNat sg0).k = 0 then [] else [V.getD (ps.getD j 0).toNat 0]
def inS (m : Md) (ps V : List Int) : Nat → List Int
  | 0 => []
  | i + 1 => inS m ps V i ++ if (m.ss.getD i sg0).k = 0 then [V.getD (ps.getD (ptsA m.ss i).length 0).toNat 0] else []
def ouS (m : Md) (ps V : List Int) : Nat → List Int
  | 0 => []
  | i + 1 => ouS m ps V i ++ if (m.ss.getD i sg0).k = 1 then [V.getD (ps.getD (ptsA m.ss i).length 0).toNat 0] else []
theorem yO {m : Md} (ps V : List Int) (hl : m.ss.length ≤ 30) : ∀ i, i ≤ m.ss.length → inL m ps V (ptsA m.ss i).length = inS m ps V i ∧ ouL m ps V (ptsA m.ss i).length = ouS m ps V i
  | 0, _ => ⟨rfl, rfl⟩
  | i + 1, hi => by
    obtain ⟨h1, h2⟩ := yO ps V hl i (by omega)
    by_cases hp : isPt (m.ss.getD i sg0) = true
    · have hk := dU.1 hp
      have ha := rS hp (show i < m.ss.length by omega)
      have hk9 : ((ptsK m).getD (ptsA m.ss i).length 0).toNat = i := by unfold ptsK; rw [if_pos hl, ha.2]; omega
      have e : (ptsA m.ss (i + 1)).length = (ptsA m.ss i).length + 1 := by rw [← iQ hk, List.length_append]; rfl
      rw [e]
      constructor
      · show inL m ps V (ptsA m.ss i).length ++ (if _ then _ else _) = inS m ps V i ++ (if _ then _ else _)
        rw [hk9, h1]
      · show ouL m ps V (ptsA m.ss i).length ++ (if _ then _ else _) = ouS m ps V i ++ (if _ then _ else _)
        rw [hk9, h2]
        congr 1
        by_cases h0 : (m.ss.getD i sg0).k = 0
        · rw [if_pos h0, if_neg (by omega)]
        · rw [if_neg h0, if_pos (by omega)]
    · have hk : ¬ ((m.ss.getD i sg0).k = 0 ∨ (m.ss.getD i sg0).k = 1) := fun q => hp (dU.2 q)
      rw [← oK hk, h1, h2]
      constructor
      · show _ = inS m ps V i ++ (if _ then _ else _)
        rw [if_neg (by omega), List.append_nil]
      · show _ = ouS m ps V i ++ (if _ then _ else _)
        rw [if_neg (by omega), List.append_nil]
theorem oQ (m : Md) (ps V : List Int) : ∀ i, (inS m ps V i).length = (pwA m.ss 0 i).length
  | 0 => rfl
  | i + 1 => by
    show (inS m ps V i ++ (if _ then _ else _)).length = (pwA m.ss 0 i ++ (if _ then _ else _)).length
    rw [List.length_append, List.length_append, oQ m ps V i]
    split <;> rfl
theorem zP {m : Md} {ps V : List Int} {s : Nat} (hk : (m.ss.getD s sg0).k = 0) : ∀ i, s < i → (inS m ps V i).getD (pwA m.ss 0 s).length 0 = V.getD (ps.getD (ptsA m.ss s).length 0).toNat 0
  | 0, h => absurd h (Nat.not_lt_zero _)
  | i + 1, h => by
    show (inS m ps V i ++ (if _ then _ else _)).getD _ 0 = _
    by_cases e : s = i
    · subst e
      rw [if_pos hk, ← oQ m ps V s]; exact gV
    · have h1 : (pwA m.ss 0 s).length < (inS m ps V i).length := by rw [oQ]; exact uY hk (by omega)
      rw [eX h1]; exact zP hk i (by omega)
theorem tH {a b : List Sg} {c : Int} : ∀ i, (∀ s, s < i → (a.getD s sg0).k = (b.getD s sg0).k) → (pwA a c i).length = (pwA b c i).length
  | 0, _ => rfl
  | i + 1, h => by
    show (pwA a c i ++ (if _ then _ else _)).length = (pwA b c i ++ (if _ then _ else _)).length
    rw [List.length_append, List.length_append, tH i (fun s hs => h s (by omega)), h i (by omega)]
    split <;> rfl
theorem tG {a : List Sg} {c : Int} {n : Nat} : ∀ i, n ≤ i → (∀ s, n ≤ s → s < i → (a.getD s sg0).k ≠ c) → pwA a c i = pwA a c n
  | 0, h, _ => by rw [show n = 0 by omega]
  | i + 1, h, hn => by
    by_cases e : n = i + 1
    · rw [e]
    · rw [← uX (hn i (by omega) (by omega))]; exact tG i (by omega) (fun s h1 h2 => hn s h1 (by omega))
theorem tN {a : List Sg} {V : List Int} {n : Nat} : ∀ i, n ≤ i → (∀ s, n ≤ s → s < i → (a.getD s sg0).k ≠ 1) → ouA a V i = ouA a V n
  | 0, h, _ => by rw [show n = 0 by omega]
  | i + 1, h, hn => by
    by_cases e : n = i + 1
    · rw [e]
    · show ouA a V i ++ (if _ then _ else _) = _
      rw [if_neg (hn i (by omega) (by omega)), List.append_nil]; exact tN i (by omega) (fun s h1 h2 => hn s h1 (by omega))
theorem ou_S {m : Md} {a : List Sg} {ps V VG : List Int} : ∀ i, (∀ s, s < i → (a.getD s sg0).k = (m.ss.getD s sg0).k ∧ ((m.ss.getD s sg0).k = 1 → VG.getD s 0 = V.getD (ps.getD (ptsA m.ss s).length 0).toNat 0)) → ouA a VG i = ouS m ps V i
  | 0, _ => rfl
  | i + 1, h => by
    show ouA a VG i ++ (if _ then _ else _) = ouS m ps V i ++ (if _ then _ else _)
    obtain ⟨h1, h2⟩ := h i (by omega)
    rw [ou_S i (fun s hs => h s (by omega)), h1]
    by_cases hk : (m.ss.getD i sg0).k = 1
    · rw [if_pos hk, if_pos hk, h2 hk]
    · rw [if_neg hk, if_neg hk]
theorem zL {D : List Md} (hD : DesP D) {f f2 k : Nat} {p : Int} {F G : Fz} {got child : Md} (hk : k < D.length) (eF : addF D f k p false [] fz0 = some F) (hF : MdF got F) (fF : FlP got) {i : Nat} (hi : i < (D.getD k md0).xs.length)
    (eG : addF D f2 ((D.getD k md0).xs.getD i ix0).m.toNat (inP p ((D.getD k md0).xs.getD i ix0)) false [] fz0 = some G) (hG : MdF child G) (fG : FlP child) {I J O : List (List Int)} (hT : J.length ≤ 16) (hOl : O.length = J.length)
    (hJ : ∀ t, t < J.length → J.getD t [] = inL (D.getD ((D.getD k md0).xs.getD i ix0).m.toNat md0) ((D.getD k md0).xs.getD i ix0).ps (vlT got I t) (ptsK (D.getD ((D.getD k md0).xs.getD i ix0).m.toNat md0)).length)
    (hO : ∀ t, t < J.length → O.getD t [] = ouL (D.getD ((D.getD k md0).xs.getD i ix0).m.toNat md0) ((D.getD k md0).xs.getD i ix0).ps (vlT got I t) (ptsK (D.getD ((D.getD k md0).xs.getD i ix0).m.toNat md0)).length) :
    InI child J ∧ (trK child J).map (ouK child) = O := by
  obtain ⟨φ, g0, k0, E, hφ⟩ := zN hD hk eF hF hi eG hG
  have hm := hD.2 k hk
  have hkc : ((D.getD k md0).xs.getD i ix0).m.toNat < D.length := by have := (hm.ins i hi).1; omega
  have hlc := ((hD.2 _ hkc).cnt.md _ hkc).1
  obtain ⟨s', hs1, hs2⟩ := uR eG
  generalize hmc : D.getD ((D.getD k md0).xs.getD i ix0).m.toNat md0 = mc at *
  generalize hps : ((D.getD k md0).xs.getD i ix0).ps = ps at *
  have hcl : mc.ss.length ≤ child.ss.length := by rw [hG.s, hs1, List.length_append, List.length_map]; omega
  have hck : ∀ s, s < mc.ss.length → (child.ss.getD s sg0).k = (mc.ss.getD s sg0).k := fun s hs => by
    rw [hG.s, hs1, eX (by rw [List.length_map]; exact hs), rB _ hs]; rfl
  have hcn : ∀ s, mc.ss.length ≤ s → s < child.ss.length → isPt (child.ss.getD s sg0) = false := fun s h1 h2 => by
    rw [hG.s, hs1, List.length_append, List.length_map] at h2
    rw [hG.s, hs1, jF (by rw [List.length_map]; exact h1), List.length_map]
    exact hs2 _ (cV (by omega))
  have hptl : (ptsK mc).length = (ptsA mc.ss mc.ss.length).length := by unfold ptsK; rw [if_pos hlc]
  have hin : ∀ t, t < J.length → J.getD t [] = inS mc ps (vlT got I t) mc.ss.length := fun t ht => by rw [hJ t ht, hptl]; exact (yO ps _ hlc _ (Nat.le_refl _)).1
  have hou : ∀ t, t < J.length → O.getD t [] = ouS mc ps (vlT got I t) mc.ss.length := fun t ht => by rw [hO t ht, hptl]; exact (yO ps _ hlc _ (Nat.le_refl _)).2
  have hpw : ∀ s, s ≤ mc.ss.length → (pwA child.ss 0 s).length = (pwA mc.ss 0 s).length := fun s hs => tH s (fun q hq => hck q (by omega))
  have hpwn : pwA child.ss 0 child.ss.length = pwA child.ss 0 mc.ss.length := tG _ hcl (fun s h1 h2 e => by
    have := hcn s h1 h2
    rw [dU.2 (.inl e)] at this; cases this)
  have hsim := vP fF fG E (I := I) (J := J) (T := J.length) (fun t ht s hs hk0 => by
    have hlt : s < mc.ss.length := by
      rcases Nat.lt_or_ge s mc.ss.length with h9 | h9
      · exact h9
      · have := hcn s h9 hs
        rw [dU.2 (.inl hk0)] at this; cases this
    have hk1 : (mc.ss.getD s sg0).k = 0 := by rw [← hck s hlt]; exact hk0
    rw [hin t ht, hpw s (by omega), zP hk1 _ hlt, hφ s hlt (dU.2 (.inl hk1))])
  refine ⟨⟨hT, fun t ht => ?_⟩, ?_⟩
  · rw [hin t ht, oQ]
    unfold pwK
    rw [if_pos fG.lens.1, hpwn, hpw _ (Nat.le_refl _)]
  · unfold trK
    rw [List.map_map]
    refine List.ext_getElem (by rw [List.length_map, List.length_range]; exact hOl.symm) (fun t h1 h2 => ?_)
    have ht : t < J.length := by omega
    rw [List.getElem_map, List.getElem_range]
    have hot := hou t ht
    rw [List.getD_eq_getElem?_getD, List.getElem?_eq_getElem h2] at hot
    show ouK child (vlT child J t) = O[t]
    have hot : O[t] = ouS mc ps (vlT got I t) mc.ss.length := hot
    rw [hot]
    unfold ouK
    rw [tN _ hcl (fun s h1 h2 e => by
      have := hcn s h1 h2
      rw [dU.2 (.inr e)] at this; cases this)]
    refine ou_S _ (fun s hs => ⟨hck s hs, fun hk1 => ?_⟩)
    rw [(hsim t ht).2 s (by omega), hφ s hs (dU.2 (.inr hk1))]
structure SmC (a b : Md) : Prop where
  s : a.ss = b.ss
  g : a.gs.map asV = b.gs.map asV
  x : a.xs.map (fun x => (x.m, x.p, x.ps)) = b.xs.map (fun x => (x.m, x.p, x.ps))
  m : a.ms = b.ms
theorem SmC.xl {a b : Md} (h : SmC a b) : a.xs.length = b.xs.length := by have := congrArg List.length h.x; rwa [List.length_map, List.length_map] at this
theorem SmC.xat {a b : Md} (h : SmC a b) (i : Nat) : (a.xs.getD i ix0).m = (b.xs.getD i ix0).m ∧ (a.xs.getD i ix0).p = (b.xs.getD i ix0).p ∧ (a.xs.getD i ix0).ps = (b.xs.getD i ix0).ps := by
  have e : ∀ L : List Ix, ((L.getD i ix0).m, (L.getD i ix0).p, (L.getD i ix0).ps) = (L.map (fun x : Ix => (x.m, x.p, x.ps))).getD i (ix0.m, ix0.p, ix0.ps) := fun L => by
    rw [List.getD_eq_getElem?_getD, List.getD_eq_getElem?_getD, List.getElem?_map]
    cases L[i]? <;> rfl
  have h1 := (e a.xs).trans ((congrArg (fun q => q.getD i (ix0.m, ix0.p, ix0.ps)) h.x).trans (e b.xs).symm)
  simp only [Prod.mk.injEq] at h1
  exact h1
theorem tA {a b : Md} (h : a.ss = b.ss) (p : Int) (c : Bool) (P : List Int) (S0 : List Sg) : ∀ i, sgF a p c P S0 i = sgF b p c P S0 i
  | 0 => rfl
  | i + 1 => by
    show (sgF a p c P S0 i).bind _ = (sgF b p c P S0 i).bind _
    rw [tA h p c P S0 i, h]
theorem yX {a b : Md} (h : SmC a b) (p : Int) (F : Fz) (r : List Int × Nat × List Sg) : ownF a p F r = ownF b p F r := by
  unfold ownF
  rw [h.m]
  have e : ∀ L : List As, L.map (asF r.1 p) = (L.map asV).map (fun q => (r.1.getD q.1.toNat 0, q.2.map (opF r.1 p))) := fun L => by rw [List.map_map]; rfl
  rw [e, e, h.g]
theorem rG {A B : List Md} {K : Nat} (h : ∀ j, j ≤ K → SmC (A.getD j md0) (B.getD j md0)) (hx : ∀ j, j ≤ K → ∀ i, i < (B.getD j md0).xs.length → ((B.getD j md0).xs.getD i ix0).m.toNat ≤ K) : ∀ (f k : Nat) (p : Int) (c : Bool) (P : List Int) (F : Fz), k ≤ K → addF A f k p c P F = addF B f k p c P F
  | 0, k, p, c, P, F, hk => rfl
  | f + 1, k, p, c, P, F, hk => by
    have hs := h k hk
    show (sgF _ p c P F.ss (A.getD k md0).ss.length).bind _ = (sgF _ p c P F.ss (B.getD k md0).ss.length).bind _
    rw [tA hs.s, hs.s]
    congr 1
    funext r
    rw [yX hs]
    have e : ∀ i, i ≤ (B.getD k md0).xs.length → ∀ F, insA (fun k p P G => addF A f k p true P G) r.1 p (A.getD k md0).xs F i = insA (fun k p P G => addF B f k p true P G) r.1 p (B.getD k md0).xs F i := by
      intro i
      induction i with
      | zero => intro _ F; rfl
      | succ i ih =>
        intro hi F
        show (insA _ r.1 p (A.getD k md0).xs F i).bind _ = (insA _ r.1 p (B.getD k md0).xs F i).bind _
        rw [ih (by omega) F]
        congr 1
        funext G
        obtain ⟨q1, q2, q3⟩ := hs.xat i
        show addF A f _ _ true _ G = addF B f _ _ true _ G
        unfold inP ptF
        rw [q1, q2, q3]
        exact rG h hx f _ _ true _ G (hx k hk i (by omega))
    rw [hs.xl, e _ (Nat.le_refl _)]
section
variable {a b : Md}
theorem SameM.free (h : SameM a b) (T : List Int) (x : Int) : FreeP a T x ↔ FreeP b T x := by
  unfold FreeP
  constructor <;> intro q y hy
  · have := q y hy; rw [(h.at x.toNat).2, (h.at y.toNat).1] at this; exact this
  · have := q y hy; rw [← (h.at x.toNat).2, ← (h.at y.toNat).1] at this; exact this
theorem SameM.pick (h : SameM a b) (T : List Int) : pickK a T = pickK b T := by
  unfold pickK
  have e : (fun k => pB (FreeP a T (T.getD k 0))) = fun k => pB (FreeP b T (T.getD k 0)) := funext (fun k => yW (h.free T _))
  rw [e]
theorem SameM.ordF (h : SameM a b) : ∀ n T, Go.Proofs.Ytodiifjigjnalaa.ordF a n T = Go.Proofs.Ytodiifjigjnalaa.ordF b n T
  | 0, T => rfl
  | n + 1, T => by
    show T.getD (pickK a T) 0 :: Go.Proofs.Ytodiifjigjnalaa.ordF a n (T.eraseIdx (pickK a T)) = _
    rw [h.pick, SameM.ordF h n]; rfl
theorem SameM.eoK (h : SameM a b) (k : EoP b) : Go.Proofs.Ytodiifjigjnalaa.eoK a = Go.Proofs.Ytodiifjigjnalaa.eoK b := by
  rw [mZ (h.symm.eo k), mZ k, h.todo, h.len]; exact h.ordF _ _
theorem SameM.inA (h : SameM a b) (ins vs : List Int) : ∀ i, Go.Proofs.Ytodiifjigjnalaa.inA a ins vs i = Go.Proofs.Ytodiifjigjnalaa.inA b ins vs i
  | 0 => rfl
  | i + 1 => by unfold Go.Proofs.Ytodiifjigjnalaa.inA; rw [SameM.inA h ins vs i, h.s]
theorem SameM.asg (h : SameM a b) (vs : List Int) (x : Int) : asgK a vs x = asgK b vs x := by unfold asgK; rw [(h.at _).1, (h.at _).2, h.s]
theorem SameM.ordV (h : SameM a b) (ord vs : List Int) : ∀ j, Go.Proofs.Ytodiifjigjnalaa.ordV a ord vs j = Go.Proofs.Ytodiifjigjnalaa.ordV b ord vs j
  | 0 => rfl
  | j + 1 => by show asgK a (Go.Proofs.Ytodiifjigjnalaa.ordV a ord vs j) _ = _; rw [SameM.ordV h ord vs j, h.asg]; rfl
theorem SameM.sg (h : SameM a b) (k : EoP b) (vs ins : List Int) : sgK a vs ins = sgK b vs ins := by unfold sgK; rw [h.eoK k, h.inA, h.s]; exact h.ordV _ _ _
theorem SameM.nr (h : SameM a b) (V : List Int) : ∀ i, nrA a V i = nrA b V i
  | 0 => by show List.replicate a.ss.length 0 = _; rw [h.s]; rfl
  | i + 1 => by unfold nrA; rw [SameM.nr h V i, (h.at i).1, (h.at i).2, h.s]
theorem SameM.nm (h : SameM a b) (ws V : List Int) : ∀ i, nmA a ws V i = nmA b ws V i
  | 0 => by show (nrA a V a.gs.length, ws) = _; rw [h.nr, h.len]; rfl
  | i + 1 => by unfold nmA; rw [SameM.nm h ws V i]; unfold maK; rw [h.m]
theorem SameM.sta (h : SameM a b) : ∀ i, staA a i = staA b i
  | 0 => by show List.replicate a.ss.length 0 = _; rw [h.s]; rfl
  | i + 1 => by unfold staA; rw [SameM.sta h i, h.s]
theorem SameM.st (h : SameM a b) (k : EoP b) (I : List (List Int)) : ∀ t, stT a I t = stT b I t
  | 0 => by show (staA a a.ss.length, List.replicate (4 * a.ms.length) 0) = _; rw [h.sta, h.s, h.m]; rfl
  | t + 1 => by
    show ((nmA a (stT a I t).2 (sgK a (stT a I t).1 (I.getD t [])) a.ms.length).1, (nmA a (stT a I t).2 (sgK a (stT a I t).1 (I.getD t [])) a.ms.length).2) = _
    rw [SameM.st h k I t, h.sg k, h.nm, h.m]; rfl
theorem SameM.run (h : SameM a b) (k : EoP b) (I : List (List Int)) : (trK a I).map (ouK a) = (trK b I).map (ouK b) := by
  unfold trK
  rw [List.map_map, List.map_map]
  refine List.map_congr_left (fun t _ => ?_)
  show ouA a.ss (sgK a (stT a I t).1 _) a.ss.length = ouA b.ss (sgK b (stT b I t).1 _) b.ss.length
  rw [h.st k, h.sg k, h.s]
end
theorem kO (os : List Oq) (s : Int) (v : Value) (w : World) (hv : RdsW w v 3 os.length (os.flatMap oqC)) :
   Calls Try.prog 115 #[v, .int .i64 s] w (Ans w (.bool (pB (RdS os s)))) := by
 have hv9 := gL hv
 refine bW (N := 28) (args := [v, jI s]) Try.func115 C C (bA 1 C (aF (aF (cG 1 C (aI C (dL C C C (aD hv)) (aH 1 C (?_)))))))
 refine bQ (bD ?_)
 refine gK (α := Nat) [0, 1, 4, 7, 8] C (fun i => []) (fun i => [(9, jI (i : Int))]) (fun i => i ≤ os.length ∧ ∀ q, q < i → ¬ (((os.getD q oq0).k = 2 ∨ (os.getD q oq0).k = 3) ∧ (os.getD q oq0).a = s)) (fun i => os.length - i) 0 ⟨Nat.zero_le _, fun q hq => absurd hq (by omega)⟩ (cN C) (.slnil) ?_
 intro i hi1
 obtain ⟨hi, hall⟩ := hi1
 refine cA ?_
 refine bN C C C C C C (fun h2 => ?_) (fun h2 => ?_)
 refine bQ (jX C (cE (fD (cA (aI C (cR 3 C C C C (aD hv)) ?_)))))
 refine aI C (bL (us := [jI ((os.getD i oq0).k), jI ((os.getD i oq0).a), jI ((os.getD i oq0).b)]) C C C C (aD hv) (by omega) C (bY oqC 3 (fun _ => C) os oq0 (show i < _ by omega) C)) (cL C (bG (z := .agg #[jI 0, jI 0, jI 0]) C C) ?_)
 intro b3
 refine bE (cs' := #[jI ((os.getD i oq0).k), jI ((os.getD i oq0).a), jI ((os.getD i oq0).b)]) (i := 0) (off := 0) (us := [jI ((os.getD i oq0).k), jI ((os.getD i oq0).a), jI ((os.getD i oq0).b)]) C C C C C C C (aB C (aB C (aB C bC))) C C C (bQ (cA (aI C (bM 0 C C C) (aI C (aC C C C (aA 0 C C)) ?_))))
 refine bU C C C C C C (fun h4 => ?_) (fun h4 => ?_)
 refine aH 6 C (aI C (bM 1 C C C) (aI C (aC C C C (aA 0 C C)) (aH 1 C ?_)))
 refine bU C C C C C C (fun h5 => ?_) (fun h5 => ?_)
 refine aP 1 C (aK C (bA 1 C ?_))
 refine aN (aE ?_)
 refine dZ ?_
 refine aE (aG ?_)
 exact aX C C (congrArg _ (dG ⟨i, by omega, by omega, by omega⟩).symm)
 refine aP 1 C (gM C (cK (aO (aI C (dO C C C) (dA 1 C ?_)))))
 exact cB (i + 1) ⟨by omega, fun q hq => by by_cases e : q = i; (subst e; omega); exact hall q (by omega)⟩ (by omega) (cN C) (eO [] C)
 refine aH 1 C (aI C (bM 0 C C C) (aI C (aC C C C (aA 0 C C)) ?_))
 refine bU C C C C C C (fun h6 => ?_) (fun h6 => ?_)
 refine aH 2 C (aI C (bM 1 C C C) (aI C (aC C C C (aA 0 C C)) (aH 1 C ?_)))
 refine bU C C C C C C (fun h7 => ?_) (fun h7 => ?_)
 refine aP 1 C (aK C (bA 1 C ?_))
 refine aN (aE ?_)
 refine dZ ?_
 refine aE (aG ?_)
 exact aX C C (congrArg _ (dG ⟨i, by omega, by omega, by omega⟩).symm)
 refine aP 1 C (gM C (cK (aO (aI C (dO C C C) (dA 1 C ?_)))))
 exact cB (i + 1) ⟨by omega, fun q hq => by by_cases e : q = i; (subst e; omega); exact hall q (by omega)⟩ (by omega) (cN C) (eO [] C)
 refine aP 7 C (gM C (cK (aO ?_)))
 refine aI C (dO C C C) (dA 1 C ?_)
 exact cB (i + 1) ⟨by omega, fun q hq => by by_cases e : q = i; (subst e; omega); exact hall q (by omega)⟩ (by omega) (cN C) (eO [] C)
 refine bQ (kD C ?_)
 refine bI (dC ?_)
 refine aM (aR (bA 1 C ?_))
 exact aN (aX C C (congrArg _ (bX (fun hp => by first | (obtain ⟨q, h1, h2, h3⟩ := hp; exact hall q (by omega) ⟨h2, h3⟩))).symm))
theorem sL (os : List Oq) (v : Value) (w : World) (hv : RdsW w v 3 os.length (os.flatMap oqC)) :
   Calls Try.prog 73 #[v] w (Ans w (.bool (pB (HpP os)))) := by
 have hv9 := gL hv
 refine bW (N := 15) (args := [v]) Try.func73 C C (bA 1 C (aF (aF (cG 1 C (aI C (dL C C C (aD hv)) (aH 1 C (?_)))))))
 refine bQ (bD ?_)
 refine gK (α := Nat) [0, 2, 5, 6] C (fun i => []) (fun i => [(7, jI (i : Int))]) (fun i => i ≤ os.length ∧ ∀ q, q < i → (os.getD q oq0).k ≠ 1) (fun i => os.length - i) 0 ⟨Nat.zero_le _, fun q hq => absurd hq (by omega)⟩ (cN C) (.slnil) ?_
 intro i hi1
 obtain ⟨hi, hall⟩ := hi1
 refine cA ?_
 refine bN C C C C C C (fun h2 => ?_) (fun h2 => ?_)
 refine bQ (jX C (cE (fD (cA (aI C (cR 3 C C C C (aD hv)) ?_)))))
 refine aI C (bL (us := [jI ((os.getD i oq0).k), jI ((os.getD i oq0).a), jI ((os.getD i oq0).b)]) C C C C (aD hv) (by omega) C (bY oqC 3 (fun _ => C) os oq0 (show i < _ by omega) C)) (cL C (bG (z := .agg #[jI 0, jI 0, jI 0]) C C) ?_)
 intro b3
 refine bE (cs' := #[jI ((os.getD i oq0).k), jI ((os.getD i oq0).a), jI ((os.getD i oq0).b)]) (i := 0) (off := 0) (us := [jI ((os.getD i oq0).k), jI ((os.getD i oq0).a), jI ((os.getD i oq0).b)]) C C C C C C C (aB C (aB C (aB C bC))) C C C (bQ (cA (aI C (bM 0 C C C) (aI C (aC C C C (aA 0 C C)) ?_))))
 refine bU C C C C C C (fun h4 => ?_) (fun h4 => ?_)
 refine bQ (aK C (bA 1 C ?_))
 refine aN (aE ?_)
 refine dZ ?_
 refine aE (aG ?_)
 exact aX C C (congrArg _ (dG ⟨i, by omega, by omega⟩).symm)
 refine bQ (gM C (cK (aO (aI C (dO C C C) (dA 1 C ?_)))))
 exact cB (i + 1) ⟨by omega, fun q hq => by by_cases e : q = i; (subst e; omega); exact hall q (by omega)⟩ (by omega) (cN C) (eO [] C)
 refine bQ (kD C ?_)
 refine bI (dC ?_)
 refine aM (aR (bA 1 C ?_))
 exact aN (aX C C (congrArg _ (bX (fun hp => by first | (obtain ⟨q, h1, h2⟩ := hp; exact hall q (by omega) h2))).symm))
theorem kP (L : List Int) (v : Value) (w : World) (hv : RdsW w v 1 L.length (L.map (Value.int .i64))) (hr : ∀ x ∈ L, 0 ≤ x ∧ x ≤ 4) (hl : L.length ≤ 30) :
   Calls Try.prog 74 #[v] w (Ans w (.int .i64 (sumZ L))) := by
 refine bW (N := 17) (args := [v]) Try.func74 C C (bA 1 C (bA 1 C (aF ?_)))
 refine aF (cG 1 C (aI C (dL C C C (aD hv)) (aP 1 C (bD ?_))))
 refine jZ (α := Nat) (β := Int) [0, 2, 6, 7] C (fun i c => []) (fun i c => [(3, jI c), (8, jI (i : Int))]) (fun i c => i ≤ L.length ∧ c = sumA L i) (fun i c => L.length - i) 0 0 ⟨Nat.zero_le _, C⟩ (cN C) (.slnil) ?_
 intro i c hi1
 obtain ⟨hi, hc⟩ := hi1
 have hsr := mG hr i hi
 have hx4 := fun h9 : i < L.length => hr _ (cV (d := (0 : Int)) h9)
 refine cA ?_
 refine bN C C C C C C (fun h2 => ?_) (fun h2 => ?_)
 refine bQ (jX C (cE (fD (cA (aI C (cR 1 C C C C (aD hv)) (aI C (qD C C C (aD hv)) (aH 1 C ?_)))))))
 refine bQ (aO ?_)
 have hx5 := hx4 (by omega)
 refine aH 2 C (aI C (dO C C C) (dA 1 C (cK (aO (aI C (dO C C C) (dA 1 C ?_))))))
 exact cX (i + 1) (c + (L.getD i 0)) ⟨by omega, by show _ = sumA L i + L.getD i 0; omega⟩ (by omega) (cN C) (.slnil)
 refine bQ (kD C ?_)
 refine bI (dC ?_)
 refine aM (aR (bA 2 C ?_))
 exact aN (aX C C (congrArg (Value.int .i64) (by unfold sumZ; rw [hc, show i = L.length by omega])))
theorem mA (L : List Int) (v : Value) (w : World) (hv : RdsW w v 1 L.length (L.map (Value.int .i64))) (hr : ∀ x ∈ L, 0 ≤ x ∧ x ≤ 4) (hl : L.length ≤ 30) :
   Calls Try.prog 118 #[v] w (Ans w (.int .i64 (sumZ L))) := by
 refine bW (N := 18) (args := [v]) Try.func118 C C (bA 1 C (bA 1 C (aF ?_)))
 refine bA 1 C (bD ?_)
 refine jZ (α := Nat) (β := Int) [0, 2] C (fun i c => []) (fun i c => [(3, jI c), (4, jI (i : Int))]) (fun i c => i ≤ L.length ∧ c = sumA L i) (fun i c => L.length - i) 0 0 ⟨Nat.zero_le _, C⟩ (cN C) (.slnil) ?_
 intro i c hi1
 obtain ⟨hi, hc⟩ := hi1
 have hsr := mG hr i hi
 have hx4 := fun h9 : i < L.length => hr _ (cV (d := (0 : Int)) h9)
 refine aF (aF (cG 2 C (aI C (dL C C C (aD hv)) ?_)))
 refine bN C C C C C C (fun h2 => ?_) (fun h2 => ?_)
 refine bQ (aK C (cE (fD (aO ?_))))
 have hx5 := hx4 (by omega)
 refine aH 3 C (aI C (cR 1 C C C C (aD hv)) (aI C (qD C C C (aD hv)) (aI C (dO C C C) (dA 1 C (cK (cG 1 C (aI C (dO C C C) (aH 1 C ?_))))))))
 exact bK (cX (i + 1) (c + (L.getD i 0)) ⟨by omega, by show _ = sumA L i + L.getD i 0; omega⟩ (by omega) (cN C) (.slnil))
 refine bQ (aS C ?_)
 refine bI (dC ?_)
 refine aM (aR (bA 2 C ?_))
 exact aN (aX C C (congrArg (Value.int .i64) (by unfold sumZ; rw [hc, show i = L.length by omega])))
theorem gD (m : Md) (c : Int) (w : World) (hr : RdsMd w m) :
   Calls Try.prog 65 #[.agg #[m.sv, m.av, m.iv, m.mv], .int .i64 c] w (Ret w (fun v' post => post = [rI9 3 v' (pwK m c)])) := by
 have hs9 := gL hr.s
 refine bW (N := 30) (args := [.agg #[m.sv, m.av, m.iv, m.mv], jI c]) Try.func65 C C (cA ?_)
 refine cL C (cY C C) ?_
 intro b1
 refine eC 3 1 (aP 1 C (eM (aI C (bM 0 C C C) (aI C (aC C C C (aA 1 C C)) (aI C (dL C C C (aD ((hr).s))) ?_)))))
 refine eS C C C C C C (fun h3 => ?_) (fun h3 => ?_)
 refine bQ (aK C (cA ?_))
 refine eC 3 1 (aP 1 C ?_)
 refine aN (aG ?_)
 exact gE (post := [rowE 3 1 (.slice none 0 0) 0 ([])]) C C (eO [0] C) (by unfold pwK; rw [if_neg (by omega)] <;> rfl)
 refine bQ (aS C (cE (cA ?_)))
 refine eC 3 1 (aP 1 C (eM (aI C (bM 0 C C C) (aI C (aC C C C (aA 2 C C)) (aI C (dL C C C (aD ((hr).s))) (aP 1 C ?_))))))
 refine bD ?_
 refine jC (α := Nat) (β := Value) (γ := List Int) [0, 1, 2, 4, 11, 13, 14] C (fun i gu zs => [rI9 3 gu zs, rowE 3 1 (.slice none 0 0) 0 ([]), boxE b1 #[m.sv, m.av, m.iv, m.mv] 35]) (fun i gu zs => [(5, gu), (15, jI (i : Int))]) (fun i gu zs => i ≤ m.ss.length ∧ zs = pwA m.ss c i) (fun i gu zs => m.ss.length - i) 0 _ [] ⟨Nat.zero_le _, C⟩ (cN C) (eT C) ?_
 intro i gu zs hi6
 obtain ⟨hi, hz⟩ := hi6
 have hzl : zs.length ≤ i := by rw [hz]; exact nJ _ _ _
 refine cA ?_
 refine bN C C C C C C (fun h7 => ?_) (fun h7 => ?_)
 refine bQ (jX C (cE (fD (cA (aI C (cR 3 C C C C (aD ((hr).s))) ?_)))))
 refine aI C (bL (us := [jI ((m.ss.getD i sg0).k), jI ((m.ss.getD i sg0).w), jI ((m.ss.getD i sg0).i)]) C C C C (aD ((hr).s)) (by omega) C (bY sgC 3 (fun _ => C) m.ss sg0 (show i < _ by omega) C)) (cL C (bG (z := .agg #[jI 0, jI 0, jI 0]) C C) ?_)
 intro b8
 refine bE (cs' := #[jI ((m.ss.getD i sg0).k), jI ((m.ss.getD i sg0).w), jI ((m.ss.getD i sg0).i)]) (i := 0) (off := 0) (us := [jI ((m.ss.getD i sg0).k), jI ((m.ss.getD i sg0).w), jI ((m.ss.getD i sg0).i)]) C C C C C C C (aB C (aB C (aB C bC))) C C C (bQ (cA (aI C (bM 0 C C C) (aI C (aC C C C (aA 0 C C)) (aH 1 C ?_)))))
 refine bU C C C C C C (fun h9 => ?_) (fun h9 => ?_)
 refine bQ (aK C (cG 1 C (aI C (bM 1 C C C) (aI C (aC C C C (aA 0 C C)) ?_))))
 refine eA C (bB (z := jI 0) (s := 1) (cs := (mI [(m.ss.getD i sg0).w])) C Try.underlying48 C (by decide) C (by kernel_rfl) C) ?_
 intro g10
 refine cW (i := 2) (z := jI 0) (bytes := 8) C C C C Try.underlying48 (by kernel_rfl) C C C C (aJ 0 C) (cQ _) (by first | omega | (simp; done) | (simp; omega)) (cM zs ([(m.ss.getD i sg0).w])) (dP zs ([(m.ss.getD i sg0).w])) (fun _ => C) ?_
 intro v11
 refine dA 1 C (cK (aO (aI C (dO C C C) (dA 1 C ?_))))
 exact cO (i + 1) v11 (zs ++ ([(m.ss.getD i sg0).w])) ⟨by omega, by rw [hz]; exact rR (by omega)⟩ (by omega) (cN rfl) (eO [2, 0, 0] rfl)
 refine bQ (gM C (cK (aO (aI C (dO C C C) (dA 1 C ?_)))))
 exact cO (i + 1) gu zs ⟨by omega, hz.trans (uX (by omega))⟩ (by omega) (cN C) (eO [1, 0, 0] C)
 refine bQ (kD C ?_)
 refine bI (dC ?_)
 refine aM (aR (bA 2 C ?_))
 exact aN (gE (post := [rI9 3 gu zs]) C C (eO [0] C) (by rw [hz, show i = m.ss.length by omega]; unfold pwK; rw [if_pos (by omega)]))
theorem eN (m : Md) (c : Int) (w : World) (hr : RdsMd w m) :
   Calls Try.prog 114 #[.agg #[m.sv, m.av, m.iv, m.mv], .int .i64 c] w (Ret w (fun v' post => post = [rI9 3 v' (pwK m c)])) := by
 have hs9 := gL hr.s
 refine bW (N := 38) (args := [.agg #[m.sv, m.av, m.iv, m.mv], jI c]) Try.func114 C C (cA ?_)
 refine cL C (cY C C) ?_
 intro b1
 refine aP 1 C (cA ?_)
 refine eA C (dF (s := 1) C Try.underlying48 C) ?_
 intro g2
 refine aP 1 C (eM (aI C (bM 0 C C C) (aI C (aC C C C (aA 1 C C)) (aI C (dL C C C (aD ((hr).s))) ?_))))
 refine eS C C C C C C (fun h3 => ?_) (fun h3 => ?_)
 refine bQ (aK C (bA 2 C ?_))
 refine aN (aG ?_)
 exact gE (post := [rowE 3 1 (.slice (some ⟨g2, 0, none⟩) 0 0) 0 ([])]) C C (eO [0] C) (by unfold pwK; rw [if_neg (by omega)] <;> rfl)
 refine bQ (aS C (cE (aF (bA 1 C (bD ?_)))))
 refine jC (α := Nat) (β := Value) (γ := List Int) [0, 1, 2, 4, 11] C (fun i gu zs => [rI9 3 gu zs, boxE b1 #[m.sv, m.av, m.iv, m.mv] 35]) (fun i gu zs => [(5, gu), (6, jI (i : Int))]) (fun i gu zs => i ≤ m.ss.length ∧ zs = pwA m.ss c i) (fun i gu zs => m.ss.length - i) 0 _ [] ⟨Nat.zero_le _, C⟩ (cN C) (eT C) ?_
 intro i gu zs hi4
 obtain ⟨hi, hz⟩ := hi4
 have hzl : zs.length ≤ i := by rw [hz]; exact nJ _ _ _
 refine aF (aF (cG 1 C (aI C (bM 0 C C C) (aI C (aC C C C (aA 1 C C)) (aI C (dL C C C (aD ((hr).s))) ?_)))))
 refine bN C C C C C C (fun h5 => ?_) (fun h5 => ?_)
 refine bQ (aK C (cE (fD (cA (aI C (bM 0 C C C) (aI C (aC C C C (aA 1 C C)) (aH 1 C (aI C (cR 3 C C C C (aD ((hr).s))) ?_))))))))
 refine aI C (aZ (k0 := 0) C C C (aD ((hr).s)) (by omega)) (aI C (aQ (u := jI ((m.ss.getD i sg0).k)) C C C (aD ((hr).s)) ((bR sgC 3 (fun _ => C) m.ss sg0 (show i < _ by omega) (by decide)).trans C)) ?_)
 refine aH 1 C (bU C C C C C C (fun h6 => ?_) (fun h6 => ?_))
 refine bQ (aK C (cG 1 C (aI C (bM 0 C C C) (aI C (aC C C C (aA 1 C C)) (aH 1 C (aI C (cR 3 C C C C (aD ((hr).s))) (aI C (aZ (k0 := 1) C C C (aD ((hr).s)) (by omega)) ?_)))))))
 refine aI C (aQ (u := jI ((m.ss.getD i sg0).w)) C C C (aD ((hr).s)) ((bR sgC 3 (fun _ => C) m.ss sg0 (show i < _ by omega) (by decide)).trans C)) (eA C (bB (z := jI 0) (s := 1) (cs := (mI [(m.ss.getD i sg0).w])) C Try.underlying48 C (by decide) C (by kernel_rfl) C) ?_)
 intro g7
 refine cW (i := 1) (z := jI 0) (bytes := 8) C C C C Try.underlying48 (by kernel_rfl) C C C C (aJ 0 C) (cQ _) (by first | omega | (simp; done) | (simp; omega)) (cM zs ([(m.ss.getD i sg0).w])) (dP zs ([(m.ss.getD i sg0).w])) (fun _ => C) ?_
 intro v8
 refine dA 1 C (cK (cG 1 C (aI C (dO C C C) (dA 1 C ?_))))
 exact cO (i + 1) v8 (zs ++ ([(m.ss.getD i sg0).w])) ⟨by omega, by rw [hz]; exact rR (by omega)⟩ (by omega) (cN rfl) (eO [1, 0] rfl)
 refine bQ (gM C (cK (cG 1 C (aI C (dO C C C) (dA 1 C ?_)))))
 exact cO (i + 1) gu zs ⟨by omega, hz.trans (uX (by omega))⟩ (by omega) (cN C) (eT C)
 refine bQ (aS C ?_)
 refine bI (dC ?_)
 refine aM (aR (bA 2 C ?_))
 exact aN (gE (post := [rI9 3 gu zs]) C C (eO [0] C) (by rw [hz, show i = m.ss.length by omega]; unfold pwK; rw [if_pos (by omega)]))
theorem sC (os : List Oq) (tk : List Bl) (v u : Value) (w : World) (hv : RdsW w v 3 os.length (os.flatMap oqC)) (hu : RdsW w u 1 tk.length (tk.flatMap blC)) (hb : ∀ i, i < os.length → ((os.getD i oq0).k = 2 ∨ (os.getD i oq0).k = 3) → 0 ≤ (os.getD i oq0).a ∧ (os.getD i oq0).a < tk.length) :
   Calls Try.prog 154 #[v, u] w (Ans w (.bool (pB (WtP os tk)))) := by
 have hv9 := gL hv
 refine bW (N := 36) (args := [v, u]) Try.func154 C C (bA 1 C (aF (bA 1 C ?_)))
 refine bD ?_
 refine gK (α := Nat) [0, 1, 4] C (fun i => []) (fun i => [(5, jI (i : Int))]) (fun i => i ≤ os.length ∧ ∀ q, q < i → ¬ (((os.getD q oq0).k = 2 ∨ (os.getD q oq0).k = 3) ∧ (tk.getD (os.getD q oq0).a.toNat bl0).b = true)) (fun i => os.length - i) 0 ⟨Nat.zero_le _, fun q hq => absurd hq (by omega)⟩ (cN C) (.slnil) ?_
 intro i hi1
 obtain ⟨hi, hall⟩ := hi1
 refine aF (aF (cG 2 C (aI C (dL C C C (aD hv)) ?_)))
 refine bN C C C C C C (fun h2 => ?_) (fun h2 => ?_)
 refine bQ (aK C (cE (fD (cA ?_))))
 have hai := hb i (by omega)
 refine aH 2 C (aI C (cR 3 C C C C (aD hv)) (aI C (aZ (k0 := 0) C C C (aD hv) (by omega)) ?_))
 refine aI C (aQ (u := jI ((os.getD i oq0).k)) C C C (aD hv) ((bR oqC 3 (fun _ => C) os oq0 (show i < _ by omega) (by decide)).trans C)) (bU C C C C C C (fun h3 => ?_) (fun h3 => ?_))
 refine aH 12 C (aI C (cR 3 C C C C (aD hv)) (aI C (aZ (k0 := 1) C C C (aD hv) (by omega)) ?_))
 refine aI C (aQ (u := jI ((os.getD i oq0).a)) C C C (aD hv) ((bR oqC 3 (fun _ => C) os oq0 (show i < _ by omega) (by decide)).trans C)) (aI C (cR 1 C C C C (aD hu)) ?_)
 refine aI C (aQ (u := .bool ((tk.getD (((os.getD i oq0).a).toNat) bl0).b)) C C C (aD hu) (gB blC (fun r => .bool r.b) (fun _ => C) tk bl0 (show ((os.getD i oq0).a).toNat < _ by omega))) (bT (fun h4 => ?_) (fun h4 => ?_))
 refine aP 1 C (aK C (bA 1 C ?_))
 refine aN (aE ?_)
 refine dZ ?_
 refine aE (aG ?_)
 exact aX C C (congrArg _ (dG ⟨i, by omega, by omega, by assumption⟩).symm)
 refine aP 1 C (gM C (cK (cG 1 C (aI C (dO C C C) (dA 1 C ?_)))))
 exact cB (i + 1) ⟨by omega, fun q hq => by by_cases e : q = i; (subst e; exact fun h9 => by first | (have h8 := h9.1; omega) | exact absurd h9.2 (by rw [Bool.not_eq_true]; assumption)); exact hall q (by omega)⟩ (by omega) (cN C) (.slnil)
 refine aH 3 C (aI C (cR 3 C C C C (aD hv)) (aI C (aZ (k0 := 0) C C C (aD hv) (by omega)) ?_))
 refine aI C (aQ (u := jI ((os.getD i oq0).k)) C C C (aD hv) ((bR oqC 3 (fun _ => C) os oq0 (show i < _ by omega) (by decide)).trans C)) (bU C C C C C C (fun h5 => ?_) (fun h5 => ?_))
 refine aH 5 C (aI C (cR 3 C C C C (aD hv)) (aI C (aZ (k0 := 1) C C C (aD hv) (by omega)) ?_))
 refine aI C (aQ (u := jI ((os.getD i oq0).a)) C C C (aD hv) ((bR oqC 3 (fun _ => C) os oq0 (show i < _ by omega) (by decide)).trans C)) (aI C (cR 1 C C C C (aD hu)) ?_)
 refine aI C (aQ (u := .bool ((tk.getD (((os.getD i oq0).a).toNat) bl0).b)) C C C (aD hu) (gB blC (fun r => .bool r.b) (fun _ => C) tk bl0 (show ((os.getD i oq0).a).toNat < _ by omega))) (bT (fun h6 => ?_) (fun h6 => ?_))
 refine aP 1 C (aK C (bA 1 C ?_))
 refine aN (aE ?_)
 refine dZ ?_
 refine aE (aG ?_)
 exact aX C C (congrArg _ (dG ⟨i, by omega, by omega, by assumption⟩).symm)
 refine aP 1 C (gM C (cK (cG 1 C (aI C (dO C C C) (dA 1 C ?_)))))
 exact cB (i + 1) ⟨by omega, fun q hq => by by_cases e : q = i; (subst e; exact fun h9 => by first | (have h8 := h9.1; omega) | exact absurd h9.2 (by rw [Bool.not_eq_true]; assumption)); exact hall q (by omega)⟩ (by omega) (cN C) (.slnil)
 refine aP 11 C (gM C (cK ?_))
 refine cG 1 C (aI C (dO C C C) (dA 1 C ?_))
 exact cB (i + 1) ⟨by omega, fun q hq => by by_cases e : q = i; (subst e; exact fun h9 => by first | (have h8 := h9.1; omega) | exact absurd h9.2 (by rw [Bool.not_eq_true]; assumption)); exact hall q (by omega)⟩ (by omega) (cN C) (.slnil)
 refine bQ (aS C ?_)
 refine bI (dC ?_)
 refine aM (aR (bA 1 C ?_))
 exact aN (aX C C (congrArg _ (bX (fun hp => by first | (obtain ⟨q, h1, h2⟩ := hp; exact hall q (by omega) h2))).symm))
def OrdS (m : Md) : List Int → List Int → Prop
  | [], _ => True
  | x :: L, zs => FreeP m (x :: L ++ zs) x ∧ OrdS m L zs
theorem tP {m : Md} : ∀ {L : List Int}, OrdS m L [] → OrdP m L
  | [], _ => trivial
  | x :: L, h => ⟨by have := h.1; rwa [List.append_nil] at this, tP h.2⟩
theorem nL {m : Md} {zs : List Int} {x : Int} (hx : x ∈ zs) (hf : FreeP m zs x) : ∀ {L : List Int}, OrdS m L zs → OrdS m (L ++ [x]) (zs.erase x)
  | [], _ => ⟨fun y hy => hf y (by
      rcases List.mem_cons.1 (show y ∈ x :: zs.erase x from hy) with h | h
      · rw [h]; exact hx
      · exact List.mem_of_mem_erase h), trivial⟩
  | a :: L, h => ⟨fun y hy => h.1 y (by
      have hy : y ∈ a :: ((L ++ [x]) ++ zs.erase x) := hy
      rcases List.mem_cons.1 hy with h1 | h1
      · rw [h1]; exact List.mem_cons_self
      · refine List.mem_cons_of_mem _ ?_
        rcases List.mem_append.1 h1 with h2 | h2
        · rcases List.mem_append.1 h2 with h3 | h3
          · exact List.mem_append_left _ h3
          · rw [List.mem_singleton] at h3; rw [h3]; exact List.mem_append_right _ hx
        · exact List.mem_append_right _ (List.mem_of_mem_erase h2)), nL hx hf h.2⟩
theorem qU {ys zs T : List Int} {x : Int} (hx : x ∈ zs) (h : (ys ++ zs).Perm T) : ((ys ++ [x]) ++ zs.erase x).Perm T := by
  rw [List.append_assoc]
  exact (List.Perm.append_left ys (List.perm_cons_erase hx).symm).trans h
theorem jA (m : Md) (w : World) (hr : RdsMd w m) :
   Calls Try.prog 117 #[.agg #[m.sv, m.av, m.iv, m.mv]] w (Ret w (fun u_ p_ => ∃ (v : Value) (ys : List Int), u_ = .tuple #[v, .bool (pB (EoP m))] ∧ p_ = [rI9 3 v ys] ∧ (EoP m → ys.Perm (todoA m m.gs.length) ∧ OrdP m ys))) := by
 have hs9 := gL hr.s
 have hg9 := gL hr.g
 have hx9 := gL hr.x
 refine bW (N := 108) (args := [.agg #[m.sv, m.av, m.iv, m.mv]]) Try.func117 C C (cA ?_)
 refine cL C (cY C C) ?_
 intro b1
 refine aP 2 C (cA ?_)
 refine eA C (dF (s := 1) C Try.underlying48 C) ?_
 intro g2
 refine aP 1 C (eM (aI C (bM 2 C C C) (aI C (aC C C C (aA 1 C C)) (aI C (dL C C C (aD ((hr).x))) ?_))))
 refine eS C C C C C C (fun h3 => ?_) (fun h3 => ?_)
 refine aP 7 C (aK C (aF (cG 3 C (?_))))
 refine bQ ?_
 refine aN (aG ?_)
 refine dI [rowE 3 1 (.slice (some ⟨g2, 0, none⟩) 0 0) (([] : List Int).length) (mI ([] : List Int)), boxE b1 #[m.sv, m.av, m.iv, m.mv] 35] (fun w hm => hm) ?_
 have hE : ¬ EoP m := fun hp => by first | (have := hp.1; omega) | exact absurd hp.2.1 (by assumption) | exact mR hdes ho hin (fun e => by have h9 : zs.length = 0 := (by rw [e]; rfl); omega) (fun q hq => by rcases hnx with ⟨e8, h8⟩ | ⟨r, e8, h8⟩; (exact h8 q (by omega)); (exfalso; omega)) (hp.2.2.sub hzs)
 exact cH (rs := [.tmp 2, .tmp 3]) (vs := [.slice (some ⟨g2, 0, none⟩) 0 0, .bool false]) (post := [rowE 3 1 (.slice (some ⟨g2, 0, none⟩) 0 0) (([] : List Int).length) (mI ([] : List Int))]) rfl ⟨rfl, rfl, trivial⟩ rfl (eO [0] rfl) ⟨_, ([] : List Int), by rw [bX hE]; rfl, rfl, fun h9 => absurd h9 hE⟩
 refine aH 1 C (aI C (aW (cs := [m.sv, m.av, m.iv, m.mv]) C C C C C (aT 1 C 0 C)) ?_)
 refine eA C (bB (z := .agg #[.slice none 0 0, .slice none 0 0, .slice none 0 0, .slice none 0 0]) (s := 4) (cs := [m.sv, m.av, m.iv, m.mv]) C Try.underlying24 C (by decide) C (by kernel_rfl) C) ?_
 intro g4
 refine aI C (cU (cs := #[.slice (some ⟨g4, 0, none⟩) 1 1]) C C C) (dW C (aV C C (fun w hm => bJ (iH [m] (.slice (some ⟨g4, 0, none⟩) 1 1) w ⟨aJ 0 C w hm, fun m9 h9 => by obtain rfl := List.mem_singleton.1 h9; exact hr.below hm.bel⟩))) ?_)
 refine bT (fun h5 => ?_) (fun h5 => ?_)
 have h5p := fK h5
 refine aP 2 C (aS C (cE (cA ?_)))
 have hdes : DesP [m] := by assumption
 have hgs : ∀ i, i < m.gs.length → AsP m (m.gs.getD i as0) := fun i hi => hdes.gs1 hi
 obtain ⟨hl1, hl2, hl3, hl4⟩ := hdes.len1
 refine aI C (bM 0 C C C) (aI C (aC C C C (aA 2 C C)) (aI C (dL C C C (aD ((hr).s))) ?_))
 refine eA C (iL (z := .bool false) (s := 1) (bytes := 1) (n := (List.replicate m.ss.length bl0).length) (cs := ((List.replicate m.ss.length bl0).flatMap blC)) C Try.underlying103 C (by decide) C C (by first | (rw [List.length_replicate]; done) | (rw [List.length_replicate]; omega)) (by first | (rw [List.length_replicate]; done) | (rw [List.length_replicate]; omega)) (by rw [List.length_replicate]; omega) (qW blC 1 (fun _ => C) bl0 _ C m.ss.length)) ?_
 intro g6
 refine aP 1 C (bA 1 C (aF (aF (cG 1 C ?_))))
 refine bQ (bD ?_)
 refine jC (α := Nat) (β := List Bl) (γ := Int) [0, 1, 2, 3, 4, 5, 21] C (fun i tk c => [rS9 4 1 (.slice (some ⟨g6, 0, none⟩) ((List.replicate m.ss.length bl0).length) ((List.replicate m.ss.length bl0).length)) tk blC, rowE 35 4 (.slice (some ⟨g4, 0, none⟩) 1 1) 1 ([m.sv, m.av, m.iv, m.mv]), rowE 3 1 (.slice (some ⟨g2, 0, none⟩) 0 0) 0 ([]), boxE b1 #[m.sv, m.av, m.iv, m.mv] 35]) (fun i tk c => [(6, jI c), (7, jI (i : Int))]) (fun i tk c => i ≤ m.gs.length ∧ OpnP m (todoA m i) tk ∧ c = ((todoA m i).length : Int)) (fun i tk c => m.gs.length - i) 0 (List.replicate m.ss.length bl0) 0 ⟨Nat.zero_le _, OpnP.nil, C⟩ (cN C) (eT C) ?_
 intro i tk c hi7
 obtain ⟨hi, ho, hc⟩ := hi7
 have hol := ho.1
 have htl := mE m i
 refine aF (aF (cG 1 C (aI C (bM 1 C C C) (aI C (aC C C C (aA 3 C C)) (aI C (dL C C C (aD ((hr).g))) ?_)))))
 refine bN C C C C C C (fun h8 => ?_) (fun h8 => ?_)
 refine bQ (aK C (cE (fD (aF ?_))))
 have ht := (hgs i (by omega)).tgt
 refine cI 12 [[], [0], [], [2], [], [3, 4], [5], [6], [1, 7], [8], [9], [10]] [34, 35, 36, 37, 38, 39, 40, 41, 42, 43, 44, 45] [.pointer (some ⟨b1, 0 + 0, none⟩), m.sv, .pointer (some ⟨b1, 0 + 1, none⟩), m.av, jI (i : Int), elP m.av ((i : Int).toNat * 2), elP m.av ((i : Int).toNat * 2 + 0), jI ((m.gs.getD i as0).t), elP m.sv (((m.gs.getD i as0).t).toNat * 3), elP m.sv (((m.gs.getD i as0).t).toNat * 3 + 0), jI ((m.ss.getD (((m.gs.getD i as0).t).toNat) sg0).k), .bool (((m.ss.getD (((m.gs.getD i as0).t).toNat) sg0).k) != 3)] (by kernel_rfl) C ?_ ?_
 exact ⟨bF C (bM 0 C C C) C, bF C (aC C C C (aA 3 C C)) C, bF C (bM 1 C C C) C, bF C (aC C C C (aA 3 C C)) C, bF C (aY C) C, bF C (cR 2 C C C C (aD ((hr).g))) C, bF C (aZ (k0 := 0) C C C (aD ((hr).g)) (by omega)) C, bF C (aQ (u := jI ((m.gs.getD i as0).t)) C C C (aD ((hr).g)) ((bR asC 2 (fun _ => C) m.gs as0 (show i < _ by omega) (by decide)).trans C)) C, bF C (cR 3 C C C C (aD ((hr).s))) C, bF C (aZ (k0 := 0) C C C (aD ((hr).s)) (by omega)) C, bF C (aQ (u := jI ((m.ss.getD (((m.gs.getD i as0).t).toNat) sg0).k)) C C C (aD ((hr).s)) ((bR sgC 3 (fun _ => C) m.ss sg0 (show ((m.gs.getD i as0).t).toNat < _ by omega) (by decide)).trans C)) C, bF C (dR C C C C) C, trivial⟩
 simp only [List.drop_succ_cons, List.drop_zero]
 refine bQ ?_
 refine eW C (fun h9 => ?_) (fun h9 => ?_)
 have h9p : (m.ss.getD (((m.gs.getD i as0).t).toNat) sg0).k ≠ 3 := bne_iff_ne.1 h9
 refine aF (cG 1 C (aI C (bM 1 C C C) (aI C (aC C C C (aA 3 C C)) (aH 1 C (aI C (cR 2 C C C C (aD ((hr).g))) (aI C (aZ (k0 := 0) C C C (aD ((hr).g)) (by omega)) ?_))))))
 refine aI C (aQ (u := jI ((m.gs.getD i as0).t)) C C C (aD ((hr).g)) ((bR asC 2 (fun _ => C) m.gs as0 (show i < _ by omega) (by decide)).trans C)) (aI C (cR 1 C C C C (aJ 0 C)) ?_)
 refine fY (i := 0) (n' := (tk.set (((m.gs.getD i as0).t).toNat) { tk.getD (((m.gs.getD i as0).t).toNat) bl0 with b := true }).length) C C C C C C C C (by first | omega | (simp only [List.length_set]; omega)) List.length_set.symm (iZ blC (fun r => .bool r.b) (fun _ => C) _ ({ tk.getD (((m.gs.getD i as0).t).toNat) bl0 with b := true }) C) C (bQ (cG 1 C (aI C (dO C C C) (dA 1 C (cK (cG 1 C (aI C (dO C C C) ?_)))))))
 refine dA 1 C ?_
 exact cO (i + 1) (tk.set (((m.gs.getD i as0).t).toNat) { tk.getD (((m.gs.getD i as0).t).toNat) bl0 with b := true }) (c + 1) ⟨by omega, (by rw [← nF (by omega)]; exact ho.add ht.1), (by rw [← nF (by omega), List.length_append]; simp only [List.length_singleton]; omega)⟩ (by omega) (cN C) (eT C)
 have h9p : (m.ss.getD (((m.gs.getD i as0).t).toNat) sg0).k = 3 := (bne_eq_false_iff_eq.1 h9)
 refine fA (cK (cG 1 C (aI C (dO C C C) (dA 1 C ?_))))
 exact cO (i + 1) tk c ⟨by omega, (by rw [← oW (by omega)]; exact ho), (by rw [← oW (by omega)]; exact hc)⟩ (by omega) (cN C) (eT C)
 refine bQ (aS C ?_)
 refine bI (dC ?_)
 refine aM (aR (fD ?_))
 refine iR (α := List Int) (β := List Bl) (γ := Int) (δ := Value) (fun zs tk c go ys => [rS9 4 1 (.slice (some ⟨g6, 0, none⟩) ((List.replicate m.ss.length bl0).length) ((List.replicate m.ss.length bl0).length)) tk blC, rowE 35 4 (.slice (some ⟨g4, 0, none⟩) 1 1) 1 ([m.sv, m.av, m.iv, m.mv]), rI9 3 go ys, boxE b1 #[m.sv, m.av, m.iv, m.mv] 35]) (fun zs tk c go ys => [(0, .agg #[m.sv, m.av, m.iv, m.mv]), (1, pI b1), (2, .slice none 0 0), (3, .bool false), (4, go), (5, .slice (some ⟨g6, 0, none⟩) ((List.replicate m.ss.length bl0).length) ((List.replicate m.ss.length bl0).length)), (6, jI c), (21, .bool false), (31, .bool false)]) (fun zs tk c go ys => (OrdS m ys zs ∧ (ys ++ zs).Perm (todoA m m.gs.length)) ∧ (∀ x ∈ zs, x ∈ (todoA m m.gs.length)) ∧ (Can m zs → Can m (todoA m m.gs.length)) ∧ zs.Nodup ∧ OpnP m zs tk ∧ c = (zs.length : Int) ∧ ys.length + zs.length ≤ 30) (fun zs tk c go ys => zs.length) (todoA m m.gs.length) tk c _ [] (by have e9 : i = m.gs.length := (by omega); rw [e9] at ho hc htl; exact ⟨⟨trivial, List.Perm.refl _⟩, fun x hx => hx, fun h => h, iP m _, ho, hc, by simp only [List.length_nil]; omega⟩) (aU [31, 21, 6, 5, 4, 3, 2, 1, 0] C) (eT C) ?_
 intro zs tk c go ys hi10
 obtain ⟨⟨hos, hpm⟩, hzs, hbk, hnd, ho, hc, hln⟩ := hi10
 have hol := ho.1
 have hin : ∀ x ∈ zs, 0 ≤ x ∧ x < m.gs.length := fun x hx => by obtain ⟨j, h1, -, rfl⟩ := fP.1 (hzs x hx); omega
 refine aF (aF (cG 1 C ?_))
 refine eS C C C C C C (fun h11 => ?_) (fun h11 => ?_)
 refine bQ (aK C (cE (bD (bA 1 C (aF ?_)))))
 refine bA 1 C (bD ?_)
 refine jZ (α := Nat) (β := Int) [0, 1, 2, 3, 4, 5, 6, 21, 31, 57] C (fun k nx => [rS9 4 1 (.slice (some ⟨g6, 0, none⟩) ((List.replicate m.ss.length bl0).length) ((List.replicate m.ss.length bl0).length)) tk blC, rowE 35 4 (.slice (some ⟨g4, 0, none⟩) 1 1) 1 ([m.sv, m.av, m.iv, m.mv]), rI9 3 go ys, boxE b1 #[m.sv, m.av, m.iv, m.mv] 35]) (fun k nx => [(8, jI nx), (9, jI (k : Int))]) (fun k nx => k ≤ m.gs.length ∧ ((nx = -1 ∧ ∀ q, q < k → ¬ ((tk.getD (m.gs.getD q as0).t.toNat bl0).b = true ∧ ¬ WtP (m.gs.getD q as0).os tk)) ∨ (∃ r : Nat, nx = (r : Int) ∧ r < m.gs.length ∧ ((tk.getD (m.gs.getD r as0).t.toNat bl0).b = true ∧ ¬ WtP (m.gs.getD r as0).os tk)))) (fun k nx => m.gs.length - k) 0 (-1) ⟨Nat.zero_le _, .inl ⟨C, fun q hq => absurd hq (by omega)⟩⟩ (cN C) (eT C) ?_
 intro k nx hi12
 obtain ⟨hk, hnx⟩ := hi12
 have hnl : -1 ≤ nx ∧ nx < 31 := by rcases hnx with ⟨e8, -⟩ | ⟨r, e8, h8, -⟩ <;> omega
 refine aF (aF (cG 1 C (aI C (bM 1 C C C) (aI C (aC C C C (aA 3 C C)) (aI C (dL C C C (aD ((hr).g))) ?_)))))
 refine bN C C C C C C (fun h13 => ?_) (fun h13 => ?_)
 refine aH 2 C (bN C C C C C C (fun h14 => ?_) (fun h14 => ?_))
 refine aP 1 C (aK C (cE (fD (cA ?_))))
 have htk := (hgs k (by omega)).tgt
 refine aH 1 C (aI C (bM 1 C C C) (aI C (aC C C C (aA 3 C C)) (aH 1 C (aI C (cR 2 C C C C (aD ((hr).g))) (aI C (aZ (k0 := 0) C C C (aD ((hr).g)) (by omega)) ?_)))))
 refine aI C (aQ (u := jI ((m.gs.getD k as0).t)) C C C (aD ((hr).g)) ((bR asC 2 (fun _ => C) m.gs as0 (show k < _ by omega) (by decide)).trans C)) (aI C (cR 1 C C C C (aJ 0 C)) ?_)
 refine aI C (aQ (u := .bool ((tk.getD (((m.gs.getD k as0).t).toNat) bl0).b)) C C C (aJ 0 C) (gB blC (fun r => .bool r.b) (fun _ => C) tk bl0 (show ((m.gs.getD k as0).t).toNat < _ by omega))) (bT (fun h15 => ?_) (fun h15 => ?_))
 refine aH 1 C (aI C (bM 1 C C C) (aI C (aC C C C (aA 3 C C)) (aH 1 C (aI C (cR 2 C C C C (aD ((hr).g))) (aI C (aZ (k0 := 1) C C C (aD ((hr).g)) (by omega)) ?_)))))
 refine aI C (aQ (u := (m.gs.getD k as0).ov) C C C (aD ((hr).g)) ((bR asC 2 (fun _ => C) m.gs as0 (show k < _ by omega) (by decide)).trans C)) (aH 1 C ?_)
 refine dW C (aV C C (fun w hm => bJ (sC (m.gs.getD k as0).os tk _ _ w ((hr.o.at (by omega)).below hm.bel) (aJ 0 C w hm) (fun i hi hk9 => by have h9 := kG (hgs k (by omega)).2 hi hk9; rw [hol]; exact h9)))) (bT (fun h16 => ?_) (fun h16 => ?_))
 have h16p := fK h16
 refine aP 2 C (gM C (cK (cG 1 C (aI C (dO C C C) (dA 1 C ?_)))))
 exact cX (k + 1) nx ⟨by omega, (by rcases hnx with ⟨e8, h8⟩ | ⟨r, e8, -⟩; (exact .inl ⟨e8, fun q hq => by by_cases e : q = k; (subst e; exact fun h9 => by first | exact absurd h9.1 (by rw [Bool.not_eq_true]; assumption) | exact absurd (by assumption) h9.2); exact h8 q (by omega)⟩); (exfalso; omega))⟩ (by omega) (cN C) (eT C)
 have h16p := eP h16
 refine aP 2 C (aK C (aO (dA 2 C (cK (cG 1 C (aI C (dO C C C) ?_))))))
 refine dA 1 C ?_
 exact cX (k + 1) (k : Int) ⟨by omega, .inr ⟨k, C, by omega, by assumption, by assumption⟩⟩ (by omega) (cN C) (eT C)
 refine aP 11 C (aS C ?_)
 refine fA (cK (cG 1 C (aI C (dO C C C) (dA 1 C ?_))))
 exact cX (k + 1) nx ⟨by omega, (by rcases hnx with ⟨e8, h8⟩ | ⟨r, e8, -⟩; (exact .inl ⟨e8, fun q hq => by by_cases e : q = k; (subst e; exact fun h9 => by first | exact absurd h9.1 (by rw [Bool.not_eq_true]; assumption) | exact absurd (by assumption) h9.2); exact h8 q (by omega)⟩); (exfalso; omega))⟩ (by omega) (cN C) (eT C)
 refine aP 1 C (aS C ?_)
 refine bI (dC ?_)
 refine aM (aR (aF (aF (cG 1 C ?_))))
 refine bN C C C C C C (fun h17 => ?_) (fun h17 => ?_)
 refine bQ (aK C (cA ?_))
 refine eA C (dF (s := 1) C Try.underlying48 C) ?_
 intro g18
 refine aP 2 C ?_
 refine aN (aG ?_)
 refine aE (aG ?_)
 refine aE (aG ?_)
 refine dI [rowE 3 1 (.slice (some ⟨g18, 0, none⟩) 0 0) (([] : List Int).length) (mI ([] : List Int)), rS9 4 1 (.slice (some ⟨g6, 0, none⟩) ((List.replicate m.ss.length bl0).length) ((List.replicate m.ss.length bl0).length)) tk blC, rowE 35 4 (.slice (some ⟨g4, 0, none⟩) 1 1) 1 ([m.sv, m.av, m.iv, m.mv]), rI9 3 go ys, boxE b1 #[m.sv, m.av, m.iv, m.mv] 35] (fun w hm => hm) ?_
 have hE : ¬ EoP m := fun hp => by first | (have := hp.1; omega) | exact absurd hp.2.1 (by assumption) | exact mR hdes ho hin (fun e => by have h9 : zs.length = 0 := (by rw [e]; rfl); omega) (fun q hq => by rcases hnx with ⟨e8, h8⟩ | ⟨r, e8, h8⟩; (exact h8 q (by omega)); (exfalso; omega)) (hp.2.2.sub hzs)
 exact cH (rs := [.tmp 2, .tmp 3]) (vs := [.slice (some ⟨g18, 0, none⟩) 0 0, .bool false]) (post := [rowE 3 1 (.slice (some ⟨g18, 0, none⟩) 0 0) (([] : List Int).length) (mI ([] : List Int))]) rfl ⟨rfl, rfl, trivial⟩ rfl (eO [0] rfl) ⟨_, ([] : List Int), by rw [bX hE]; rfl, rfl, fun h9 => absurd h9 hE⟩
 refine bQ (aS C (cE (cA ?_)))
 obtain ⟨r, hnr, hr1, hr2, hr3⟩ := hnx.resolve_left (fun h9 => by have := h9.1; omega)
 have hnn : r = nx.toNat := by omega
 rw [hnn] at hr1 hr2 hr3
 have hnz : (nx.toNat : Int) = nx := by omega
 have hxin : nx ∈ zs := by have h9 := zE hdes ho hin hr1 hr2; rwa [hnz] at h9
 have hxp := List.length_pos_of_mem hxin
 have htx := (hgs _ hr1).tgt
 refine aH 2 C (eA C (bB (z := jI 0) (s := 1) (cs := (mI [nx])) C Try.underlying48 C (by decide) C (by kernel_rfl) C) ?_)
 intro g19
 refine cW (i := 3) (z := jI 0) (bytes := 8) C C C C Try.underlying48 (by kernel_rfl) C C C C (aJ 0 C) (cQ _) (by first | omega | (simp; done) | (simp; omega)) (cM ys ([nx])) (dP ys ([nx])) (fun _ => C) ?_
 intro v20
 refine aP 1 C (aF (cG 1 C (aI C (bM 1 C C C) (aI C (aC C C C (aA 4 C C)) (aH 1 C (aI C (cR 2 C C C C (aD ((hr).g))) (aI C (aZ (k0 := 0) C C C (aD ((hr).g)) (by omega)) ?_)))))))
 refine aI C (aQ (u := jI ((m.gs.getD (nx.toNat) as0).t)) C C C (aD ((hr).g)) ((bR asC 2 (fun _ => C) m.gs as0 (show nx.toNat < _ by omega) (by decide)).trans C)) (aI C (cR 1 C C C C (aJ 1 C)) ?_)
 refine fY (i := 1) (n' := (tk.set (((m.gs.getD (nx.toNat) as0).t).toNat) { tk.getD (((m.gs.getD (nx.toNat) as0).t).toNat) bl0 with b := false }).length) C C C C C C C C (by first | omega | (simp only [List.length_set]; omega)) List.length_set.symm (iZ blC (fun r => .bool r.b) (fun _ => C) _ ({ tk.getD (((m.gs.getD (nx.toNat) as0).t).toNat) bl0 with b := false }) C) C (bQ (cG 1 C (aI C (nC C C C) (dA 1 C (bV ?_)))))
 exact fX (zs.erase nx) (tk.set (((m.gs.getD (nx.toNat) as0).t).toNat) { tk.getD (((m.gs.getD (nx.toNat) as0).t).toNat) bl0 with b := false }) (c - 1) _ (ys ++ ([nx])) ⟨⟨nL hxin ((mD ho (hgs _ hr1).2).1 hr3) hos, qU hxin hpm⟩, fun x hx => hzs x (List.mem_of_mem_erase hx), fun h => hbk (Can.backE hxin hnd ((mD ho (hgs _ hr1).2).1 hr3) h), hnd.erase _, (by have h9 := ho.del hdes hin hnd hr1; rwa [hnz] at h9), (by rw [List.length_erase_of_mem hxin]; omega), (by rw [List.length_erase_of_mem hxin, List.length_append]; simp only [List.length_singleton]; omega)⟩ (by rw [List.length_erase_of_mem hxin]; omega) (aU [31, 21, 6, 5, 4, 3, 2, 1, 0] C) (eO [1, 0, 0, 0] C)
 refine aP 4 C (aS C ?_)
 refine bI (dC ?_)
 refine aM (aR (aF (aF (cG 1 C ?_))))
 refine bN C C C C C C (fun h21 => ?_) (fun h21 => ?_)
 refine bQ (aK C (cA ?_))
 refine eA C (dF (s := 1) C Try.underlying48 C) ?_
 intro g22
 refine aP 2 C ?_
 refine aN (aG ?_)
 refine aE (aG ?_)
 refine aE (aG ?_)
 refine dI [rowE 3 1 (.slice (some ⟨g22, 0, none⟩) 0 0) (([] : List Int).length) (mI ([] : List Int)), rS9 4 1 (.slice (some ⟨g6, 0, none⟩) ((List.replicate m.ss.length bl0).length) ((List.replicate m.ss.length bl0).length)) tk blC, rowE 35 4 (.slice (some ⟨g4, 0, none⟩) 1 1) 1 ([m.sv, m.av, m.iv, m.mv]), rI9 3 go ys, boxE b1 #[m.sv, m.av, m.iv, m.mv] 35] (fun w hm => hm) ?_
 have hE : ¬ EoP m := fun hp => by first | (have := hp.1; omega) | exact absurd hp.2.1 (by assumption) | exact mR hdes ho hin (fun e => by have h9 : zs.length = 0 := (by rw [e]; rfl); omega) (fun q hq => by rcases hnx with ⟨e8, h8⟩ | ⟨r, e8, h8⟩; (exact h8 q (by omega)); (exfalso; omega)) (hp.2.2.sub hzs)
 exact cH (rs := [.tmp 2, .tmp 3]) (vs := [.slice (some ⟨g22, 0, none⟩) 0 0, .bool false]) (post := [rowE 3 1 (.slice (some ⟨g22, 0, none⟩) 0 0) (([] : List Int).length) (mI ([] : List Int))]) rfl ⟨rfl, rfl, trivial⟩ rfl (eO [0] rfl) ⟨_, ([] : List Int), by rw [bX hE]; rfl, rfl, fun h9 => absurd h9 hE⟩
 refine bQ (aS C (cE (cA ?_)))
 obtain ⟨r, hnr, hr1, hr2, hr3⟩ := hnx.resolve_left (fun h9 => by have := h9.1; omega)
 have hnn : r = nx.toNat := by omega
 rw [hnn] at hr1 hr2 hr3
 have hnz : (nx.toNat : Int) = nx := by omega
 have hxin : nx ∈ zs := by have h9 := zE hdes ho hin hr1 hr2; rwa [hnz] at h9
 have hxp := List.length_pos_of_mem hxin
 have htx := (hgs _ hr1).tgt
 refine aH 2 C (eA C (bB (z := jI 0) (s := 1) (cs := (mI [nx])) C Try.underlying48 C (by decide) C (by kernel_rfl) C) ?_)
 intro g23
 refine cW (i := 3) (z := jI 0) (bytes := 8) C C C C Try.underlying48 (by kernel_rfl) C C C C (aJ 0 C) (cQ _) (by first | omega | (simp; done) | (simp; omega)) (cM ys ([nx])) (dP ys ([nx])) (fun _ => C) ?_
 intro v24
 refine aP 1 C (aF (cG 1 C (aI C (bM 1 C C C) (aI C (aC C C C (aA 4 C C)) (aH 1 C (aI C (cR 2 C C C C (aD ((hr).g))) (aI C (aZ (k0 := 0) C C C (aD ((hr).g)) (by omega)) ?_)))))))
 refine aI C (aQ (u := jI ((m.gs.getD (nx.toNat) as0).t)) C C C (aD ((hr).g)) ((bR asC 2 (fun _ => C) m.gs as0 (show nx.toNat < _ by omega) (by decide)).trans C)) (aI C (cR 1 C C C C (aJ 1 C)) ?_)
 refine fY (i := 1) (n' := (tk.set (((m.gs.getD (nx.toNat) as0).t).toNat) { tk.getD (((m.gs.getD (nx.toNat) as0).t).toNat) bl0 with b := false }).length) C C C C C C C C (by first | omega | (simp only [List.length_set]; omega)) List.length_set.symm (iZ blC (fun r => .bool r.b) (fun _ => C) _ ({ tk.getD (((m.gs.getD (nx.toNat) as0).t).toNat) bl0 with b := false }) C) C (bQ (cG 1 C (aI C (nC C C C) (dA 1 C (bV ?_)))))
 exact fX (zs.erase nx) (tk.set (((m.gs.getD (nx.toNat) as0).t).toNat) { tk.getD (((m.gs.getD (nx.toNat) as0).t).toNat) bl0 with b := false }) (c - 1) _ (ys ++ ([nx])) ⟨⟨nL hxin ((mD ho (hgs _ hr1).2).1 hr3) hos, qU hxin hpm⟩, fun x hx => hzs x (List.mem_of_mem_erase hx), fun h => hbk (Can.backE hxin hnd ((mD ho (hgs _ hr1).2).1 hr3) h), hnd.erase _, (by have h9 := ho.del hdes hin hnd hr1; rwa [hnz] at h9), (by rw [List.length_erase_of_mem hxin]; omega), (by rw [List.length_erase_of_mem hxin, List.length_append]; simp only [List.length_singleton]; omega)⟩ (by rw [List.length_erase_of_mem hxin]; omega) (aU [31, 21, 6, 5, 4, 3, 2, 1, 0] C) (eO [1, 0, 0, 0] C)
 refine bQ (aS C ?_)
 refine bI (dC ?_)
 refine aM (aR (bA 3 C ?_))
 refine aN ?_
 have hz0 : zs = [] := List.eq_nil_of_length_eq_zero (by omega)
 have hE : EoP m := ⟨by omega, hdes, hbk (by rw [hz0]; exact Can.nil m)⟩
 exact cH (rs := [.tmp 2, .tmp 3]) (vs := [go, .bool true]) (post := [rI9 3 go ys]) rfl ⟨rfl, rfl, trivial⟩ rfl (eO [2] rfl) ⟨_, ys, by rw [dG hE]; rfl, rfl, fun _ => by rw [hz0] at hos hpm; rw [List.append_nil] at hpm; exact ⟨hpm, tP hos⟩⟩
 have h5p := eP h5
 refine aP 2 C (aK C (bA 3 C ?_))
 refine aN (aG ?_)
 refine dI [rowE 35 4 (.slice (some ⟨g4, 0, none⟩) 1 1) 1 ([m.sv, m.av, m.iv, m.mv]), rowE 3 1 (.slice (some ⟨g2, 0, none⟩) 0 0) (([] : List Int).length) (mI ([] : List Int)), boxE b1 #[m.sv, m.av, m.iv, m.mv] 35] (fun w hm => hm) ?_
 have hE : ¬ EoP m := fun hp => by first | (have := hp.1; omega) | exact absurd hp.2.1 (by assumption) | exact mR hdes ho hin (fun e => by have h9 : zs.length = 0 := (by rw [e]; rfl); omega) (fun q hq => by rcases hnx with ⟨e8, h8⟩ | ⟨r, e8, h8⟩; (exact h8 q (by omega)); (exfalso; omega)) (hp.2.2.sub hzs)
 exact cH (rs := [.tmp 2, .tmp 3]) (vs := [.slice (some ⟨g2, 0, none⟩) 0 0, .bool false]) (post := [rowE 3 1 (.slice (some ⟨g2, 0, none⟩) 0 0) (([] : List Int).length) (mI ([] : List Int))]) rfl ⟨rfl, rfl, trivial⟩ rfl (eO [1] rfl) ⟨_, ([] : List Int), by rw [bX hE]; rfl, rfl, fun h9 => absurd h9 hE⟩
theorem mL (m : Md) (w : World) (hr : RdsMd w m) : Calls Try.prog 117 #[m.agg] w (Ret w (fun u_ p_ => ∃ v, u_ = .tuple #[v, .bool (pB (EoP m))] ∧ p_ = [])) :=
  (jA m w hr).mono (fun e w' ⟨v, post, h1, ⟨v2, ys, h2, h3, h4⟩, h5⟩ => ⟨v, [], h1, ⟨v2, h2, rfl⟩, h5.sub (List.nil_sublist _)⟩)
section
variable {P : Program} {N : Nat} {w0 : World} {l l' : List HP} {env env' : List (Nat × Value)} {Q : Post} {o : Oper}
theorem nQ {ops : Array Oper} {rest : List Oper} {d : Nat} {f : FuncId} {x : Operand} {xs : Array Operand} {ats : Array TypeId} {vs cs : List Value} {p : HP} {R : Value → HP → Prop} {ty : TypeId} {pos : String} {af : Array Edge} {gd : Option (Nat × Bool)} (i : Nat) (hN : Nat.blt d N = true) (hw : want ops env gd = some true)
    (hgo : goesB P f = true) (hx : ev env x = some (.func (.func f) #[] cs.toArray)) (hvs : evs env xs.toList = some vs) (hi : l[i]? = some p)
    (hc : ∀ L w, (∀ w, Mem w0 L w → Mem w0 (l.eraseIdx i) w) → Mem w0 (p :: L) w → Calls P f (vs ++ cs).toArray w fun e w' => ∃ v p', e = .returned v ∧ R v p' ∧ Mem w0 (p' :: L) w') (k : ∀ v p', R v p' → HL P N ops w0 (l.set i p') ((d, v) :: env) rest Q) : HL P N ops w0 l env ({ dst := some d, op := .call { callee := .value x, args := xs, argTypes := ats }, type := ty, pos := pos, after := af, guard := gd } :: rest) Q := fun a w st => wpList_step fun K hK => by
  have h1 := hY l i p hi
  have hil : i < l.length := (List.getElem?_eq_some_iff.1 hi).1
  rw [if_pos (st.wanted hw)]
  unfold Oper.wp
  have h3 := jP st _ _ hvs
  have e1 : xs.map a.eval = vs.toArray := by apply Array.toList_inj.1; simpa using h3
  have h2 : (execOp a.eval { dst := some d, op := .call { callee := .value x, args := xs, argTypes := ats }, type := ty, pos := pos, after := af, guard := gd }).run P w = (callFunc f (vs ++ cs).toArray).run P w := by
    simp [execOp, resolve, Deferred.ofValue, invoke, st.eval hx, e1]
  rw [h2, pC hgo, Oper.upon_enter]
  refine (hc (l.eraseIdx i) w (fun w h => h) (st.mem.perm h1)).mono fun e w' h => ?_
  obtain ⟨v, p', rfl, hR, hm'⟩ := h
  have h4 := hY (l.set i p') i p' (List.getElem?_set_self hil)
  rw [List.eraseIdx_set_eq] at h4
  exact hK _ _ (k v p' hR _ _ (st.put hN (hm'.perm h4.symm)))
end
theorem jV (k : Int) (w : World)  :
   Calls Try.prog 112 #[.int .i64 k] w (Ans w (.int .i64 (arI k))) := by
 refine bW (N := 15) (args := [jI k]) Try.func112 C C (bA 1 C (fD (aF (cG 1 C ?_))))
 refine dW C (aV C C (fun w hm => bJ (fN (dD _ _ _ w)))) (bT (fun h1 => ?_) (fun h1 => ?_))
 obtain ⟨h1a, h1b⟩ := (dQ _ _ _).1 h1
 refine aP 1 C (aK C (bA 1 C ?_))
 refine aN (aE ?_)
 exact aG (aX C C (congrArg (Value.int .i64) (by unfold arI; (repeat' split) <;> first | rfl | (exfalso; omega))))
 have h1a := dK h1
 refine aP 1 C (aS C (aF (cG 1 C ?_)))
 refine bU C C C C C C (fun h2 => ?_) (fun h2 => ?_)
 refine aP 1 C (aK C (bA 1 C ?_))
 refine aN (aE ?_)
 exact aG (aX C C (congrArg (Value.int .i64) (by unfold arI; (repeat' split) <;> first | rfl | (exfalso; omega))))
 refine aP 1 C (aS C (aF (cG 1 C ?_)))
 refine dW C (aV C C (fun w hm => bJ (fN (dD _ _ _ w)))) (bT (fun h3 => ?_) (fun h3 => ?_))
 obtain ⟨h3a, h3b⟩ := (dQ _ _ _).1 h3
 refine aP 1 C (aK C (bA 1 C ?_))
 refine aN (aE ?_)
 exact aG (aX C C (congrArg (Value.int .i64) (by unfold arI; (repeat' split) <;> first | rfl | (exfalso; omega))))
 have h3a := dK h3
 refine aP 1 C (aS C (aF (cG 1 C ?_)))
 refine bU C C C C C C (fun h4 => ?_) (fun h4 => ?_)
 refine aP 1 C (aK C (bA 1 C ?_))
 refine aN (aE ?_)
 exact aG (aX C C (congrArg (Value.int .i64) (by unfold arI; (repeat' split) <;> first | rfl | (exfalso; omega))))
 refine aP 1 C (gM C (cK (bA 1 C ?_)))
 exact aN (aX C C (congrArg (Value.int .i64) (by unfold arI; (repeat' split) <;> first | rfl | (exfalso; omega))))
theorem zF (o : Oq) (n : Int) (w : World)  :
   Calls Try.prog 111 #[.agg #[.int .i64 o.k, .int .i64 o.a, .int .i64 o.b], .int .i64 n] w (Ans w (.bool (pB (OqP n o)))) := by
 refine bW (N := 67) (args := [.agg #[jI o.k, jI o.a, jI o.b], jI n]) Try.func111 C C (cA ?_)
 refine cL C (cY C C) ?_
 intro b1
 refine aP 1 C (fD (cA (aI C (bM 0 C C C) (aI C (aC C C C (aA 0 C C)) ?_))))
 refine bU C C C C C C (fun h2 => ?_) (fun h2 => ?_)
 refine aP 1 C (aK C (cA (aI C (bM 1 C C C) (aI C (aC C C C (aA 0 C C)) ?_))))
 refine dW C (aV C C (fun w hm => bJ (fN (dD _ _ _ w)))) (bT (fun h3 => ?_) (fun h3 => ?_))
 obtain ⟨h3a, h3b⟩ := (dQ _ _ _).1 h3
 refine aH 1 C (aI C (bM 2 C C C) (aI C (aC C C C (aA 0 C C)) ?_))
 refine bU C C C C C C (fun h4 => ?_) (fun h4 => ?_)
 refine aP 2 C ?_
 refine aN (aE ?_)
 exact aG (aX C C (congrArg _ (dG (by first | exact .inl ⟨by omega, ⟨by omega, by omega⟩, by omega⟩ | exact .inr (.inl ⟨by omega, ⟨by omega, by omega⟩, by omega⟩) | exact .inr (.inr (.inl ⟨by omega, ⟨by omega, by omega⟩, by omega, by omega⟩)) | exact .inr (.inr (.inr ⟨by omega, by omega, by omega, by omega, by omega, by omega⟩)))).symm))
 refine aP 2 C ?_
 refine aN (aE ?_)
 exact aG (aX C C (congrArg _ (bX (fun hp => by first | (rcases hp with ⟨p1, p2, p3⟩ | ⟨p1, p2, p3⟩ | ⟨p1, p2, p3⟩ | ⟨p1, p2, p3, p4, p5, p6⟩ <;> omega))).symm))
 have h3a := dK h3
 refine aP 6 C ?_
 refine aN (aE ?_)
 exact aG (aX C C (congrArg _ (bX (fun hp => by first | (rcases hp with ⟨p1, p2, p3⟩ | ⟨p1, p2, p3⟩ | ⟨p1, p2, p3⟩ | ⟨p1, p2, p3, p4, p5, p6⟩ <;> omega))).symm))
 refine aP 1 C (aS C (cA (aI C (bM 0 C C C) (aI C (aC C C C (aA 0 C C)) ?_))))
 refine bU C C C C C C (fun h5 => ?_) (fun h5 => ?_)
 refine aP 1 C (aK C (cA (aI C (bM 1 C C C) (aI C (aC C C C (aA 0 C C)) ?_))))
 refine iU C C C C C C (fun h6 => ?_) (fun h6 => ?_)
 refine aH 1 C (aI C (bM 1 C C C) (aI C (aC C C C (aA 0 C C)) (aH 1 C ?_)))
 refine bN C C C C C C (fun h7 => ?_) (fun h7 => ?_)
 refine aH 2 C (aI C (bM 2 C C C) (aI C (aC C C C (aA 0 C C)) ?_))
 refine bU C C C C C C (fun h8 => ?_) (fun h8 => ?_)
 refine aP 2 C ?_
 refine aN (aE ?_)
 exact aG (aX C C (congrArg _ (dG (by first | exact .inl ⟨by omega, ⟨by omega, by omega⟩, by omega⟩ | exact .inr (.inl ⟨by omega, ⟨by omega, by omega⟩, by omega⟩) | exact .inr (.inr (.inl ⟨by omega, ⟨by omega, by omega⟩, by omega, by omega⟩)) | exact .inr (.inr (.inr ⟨by omega, by omega, by omega, by omega, by omega, by omega⟩)))).symm))
 refine aP 2 C ?_
 refine aN (aE ?_)
 exact aG (aX C C (congrArg _ (bX (fun hp => by first | (rcases hp with ⟨p1, p2, p3⟩ | ⟨p1, p2, p3⟩ | ⟨p1, p2, p3⟩ | ⟨p1, p2, p3, p4, p5, p6⟩ <;> omega))).symm))
 refine aP 7 C ?_
 refine aN (aE ?_)
 exact aG (aX C C (congrArg _ (bX (fun hp => by first | (rcases hp with ⟨p1, p2, p3⟩ | ⟨p1, p2, p3⟩ | ⟨p1, p2, p3⟩ | ⟨p1, p2, p3, p4, p5, p6⟩ <;> omega))).symm))
 refine aP 12 C ?_
 refine aN (aE ?_)
 exact aG (aX C C (congrArg _ (bX (fun hp => by first | (rcases hp with ⟨p1, p2, p3⟩ | ⟨p1, p2, p3⟩ | ⟨p1, p2, p3⟩ | ⟨p1, p2, p3, p4, p5, p6⟩ <;> omega))).symm))
 refine aP 1 C (aS C (cA (aI C (bM 0 C C C) (aI C (aC C C C (aA 0 C C)) ?_))))
 refine bU C C C C C C (fun h9 => ?_) (fun h9 => ?_)
 refine aP 1 C (aK C (cA (aI C (bM 1 C C C) (aI C (aC C C C (aA 0 C C)) ?_))))
 refine iU C C C C C C (fun h10 => ?_) (fun h10 => ?_)
 refine aH 1 C (aI C (bM 1 C C C) (aI C (aC C C C (aA 0 C C)) (aH 1 C ?_)))
 refine bN C C C C C C (fun h11 => ?_) (fun h11 => ?_)
 refine aH 2 C (aI C (bM 2 C C C) (aI C (aC C C C (aA 0 C C)) ?_))
 refine dW C (aV C C (fun w hm => bJ (fN (dD _ _ _ w)))) (bT (fun h12 => ?_) (fun h12 => ?_))
 obtain ⟨h12a, h12b⟩ := (dQ _ _ _).1 h12
 refine aP 2 C ?_
 refine aN (aE ?_)
 exact aG (aX C C (congrArg _ (dG (by first | exact .inl ⟨by omega, ⟨by omega, by omega⟩, by omega⟩ | exact .inr (.inl ⟨by omega, ⟨by omega, by omega⟩, by omega⟩) | exact .inr (.inr (.inl ⟨by omega, ⟨by omega, by omega⟩, by omega, by omega⟩)) | exact .inr (.inr (.inr ⟨by omega, by omega, by omega, by omega, by omega, by omega⟩)))).symm))
 have h12a := dK h12
 refine aP 2 C ?_
 refine aN (aE ?_)
 exact aG (aX C C (congrArg _ (bX (fun hp => by first | (rcases hp with ⟨p1, p2, p3⟩ | ⟨p1, p2, p3⟩ | ⟨p1, p2, p3⟩ | ⟨p1, p2, p3, p4, p5, p6⟩ <;> omega))).symm))
 refine aP 7 C ?_
 refine aN (aE ?_)
 exact aG (aX C C (congrArg _ (bX (fun hp => by first | (rcases hp with ⟨p1, p2, p3⟩ | ⟨p1, p2, p3⟩ | ⟨p1, p2, p3⟩ | ⟨p1, p2, p3, p4, p5, p6⟩ <;> omega))).symm))
 refine aP 12 C ?_
 refine aN (aE ?_)
 exact aG (aX C C (congrArg _ (bX (fun hp => by first | (rcases hp with ⟨p1, p2, p3⟩ | ⟨p1, p2, p3⟩ | ⟨p1, p2, p3⟩ | ⟨p1, p2, p3, p4, p5, p6⟩ <;> omega))).symm))
 refine aP 1 C (gM C (cK (cA (aI C (bM 0 C C C) (aI C (aC C C C (aA 0 C C)) ?_)))))
 refine dW C (aV C C (fun w hm => bJ (jV o.k w))) (iU C C C C C C (fun h13 => ?_) (fun h13 => ?_))
 refine aH 1 C (aI C (bM 1 C C C) (aI C (aC C C C (aA 0 C C)) ?_))
 refine bU C C C C C C (fun h14 => ?_) (fun h14 => ?_)
 refine aH 2 C (aI C (bM 2 C C C) (aI C (aC C C C (aA 0 C C)) ?_))
 refine bU C C C C C C (fun h15 => ?_) (fun h15 => ?_)
 refine aP 2 C ?_
 exact aN (aX C C (congrArg _ (dG (by first | exact .inl ⟨by omega, ⟨by omega, by omega⟩, by omega⟩ | exact .inr (.inl ⟨by omega, ⟨by omega, by omega⟩, by omega⟩) | exact .inr (.inr (.inl ⟨by omega, ⟨by omega, by omega⟩, by omega, by omega⟩)) | exact .inr (.inr (.inr ⟨by omega, by omega, by omega, by omega, by omega, by omega⟩)))).symm))
 refine aP 2 C ?_
 exact aN (aX C C (congrArg _ (bX (fun hp => by first | (rcases hp with ⟨p1, p2, p3⟩ | ⟨p1, p2, p3⟩ | ⟨p1, p2, p3⟩ | ⟨p1, p2, p3, p4, p5, p6⟩ <;> omega))).symm))
 refine aP 7 C ?_
 exact aN (aX C C (congrArg _ (bX (fun hp => by first | (rcases hp with ⟨p1, p2, p3⟩ | ⟨p1, p2, p3⟩ | ⟨p1, p2, p3⟩ | ⟨p1, p2, p3, p4, p5, p6⟩ <;> omega))).symm))
 refine aP 11 C ?_
 exact aN (aX C C (congrArg _ (bX (fun hp => by first | (rcases hp with ⟨p1, p2, p3⟩ | ⟨p1, p2, p3⟩ | ⟨p1, p2, p3⟩ | ⟨p1, p2, p3, p4, p5, p6⟩ <;> omega))).symm))
theorem qK (os : List Oq) (n : Int) (v : Value) (w : World) (hv : RdsW w v 3 os.length (os.flatMap oqC)) :
   Calls Try.prog 55 #[v, .int .i64 n] w (Ans w (.bool (pB (OpsP n os)))) := by
 have hv9 := gL hv
 refine bW (N := 39) (args := [v, jI n]) Try.func55 C C (bA 1 C (aF (aF (cG 1 C (aI C (dL C C C (aD hv)) ?_)))))
 refine bU C C C C C C (fun h1 => ?_) (fun h1 => ?_)
 refine aP 5 C (aK C (bA 1 C ?_))
 refine aN (aG ?_)
 exact aX C C (congrArg _ (bX (fun hp => by first | (have := hp.len; omega) | (have := hp.pos; omega) | (have := (hp.op i (by omega)).1; omega) | (exact absurd (hp.op i (by omega)).2 (by assumption)) | (have := hp.fin; rw [show os.length = i by omega] at this; omega))).symm)
 refine aH 2 C (aI C (dL C C C (aD hv)) ?_)
 refine eS C C C C C C (fun h2 => ?_) (fun h2 => ?_)
 refine aP 1 C (aK C (bA 1 C ?_))
 refine aN (aG ?_)
 exact aX C C (congrArg _ (bX (fun hp => by first | (have := hp.len; omega) | (have := hp.pos; omega) | (have := (hp.op i (by omega)).1; omega) | (exact absurd (hp.op i (by omega)).2 (by assumption)) | (have := hp.fin; rw [show os.length = i by omega] at this; omega))).symm)
 refine aP 1 C (aS C (cE (bA 1 C (aF ?_))))
 refine aF (cG 1 C (aI C (dL C C C (aD hv)) (aP 1 C (bD ?_))))
 refine jZ (α := Nat) (β := Int) [0, 1, 4, 15, 16, 17] C (fun i c => []) (fun i c => [(5, jI c), (18, jI (i : Int))]) (fun i c => i ≤ os.length ∧ c = needK os i ∧ ∀ q, q < i → needK os q ≠ 0 ∧ OqP n (os.getD q oq0)) (fun i c => os.length - i) 0 1 ⟨Nat.zero_le _, C, fun q hq => absurd hq (by omega)⟩ (cN C) (.slnil) ?_
 intro i c hi3
 obtain ⟨hi, hc, hall⟩ := hi3
 have hnr := nM os i
 have har := oT (os.getD i oq0).k
 refine cA ?_
 refine bN C C C C C C (fun h4 => ?_) (fun h4 => ?_)
 refine bQ (jX C (cE (fD (cA (aI C (cR 3 C C C C (aD hv)) ?_)))))
 refine aI C (bL (us := [jI ((os.getD i oq0).k), jI ((os.getD i oq0).a), jI ((os.getD i oq0).b)]) C C C C (aD hv) (by omega) C (bY oqC 3 (fun _ => C) os oq0 (show i < _ by omega) C)) (cL C (bG (z := .agg #[jI 0, jI 0, jI 0]) C C) ?_)
 intro b5
 refine bE (cs' := #[jI ((os.getD i oq0).k), jI ((os.getD i oq0).a), jI ((os.getD i oq0).b)]) (i := 0) (off := 0) (us := [jI ((os.getD i oq0).k), jI ((os.getD i oq0).a), jI ((os.getD i oq0).b)]) C C C C C C C (aB C (aB C (aB C bC))) C C C (bQ (aF (aF (cG 1 C ?_))))
 refine bU C C C C C C (fun h6 => ?_) (fun h6 => ?_)
 refine aP 6 C (aK C (cA (dA 1 C ?_)))
 refine aR (aN ?_)
 refine aG (aE ?_)
 refine dZ ?_
 refine aE (aG ?_)
 exact aX C C (congrArg _ (bX (fun hp => by first | (have := hp.len; omega) | (have := hp.pos; omega) | (have := (hp.op i (by omega)).1; omega) | (exact absurd (hp.op i (by omega)).2 (by assumption)) | (have := hp.fin; rw [show os.length = i by omega] at this; omega))).symm)
 refine aH 1 C (aI C (aW (cs := [jI ((os.getD i oq0).k), jI ((os.getD i oq0).a), jI ((os.getD i oq0).b)]) C C C C C (aT 0 C 0 C)) (aH 1 C ?_))
 refine dW C (aV C C (fun w hm => bJ (zF (os.getD i oq0) n w))) (bT (fun h7 => ?_) (fun h7 => ?_))
 have h7p := fK h7
 refine aP 2 C (aS C (cE (cG 1 C (aI C (bM 0 C C C) (aI C (aC C C C (aA 0 C C)) ?_)))))
 refine dW C (aV C C (fun w hm => bJ (jV ((os.getD i oq0).k) w))) (aI C (nC C C C) (aI C (dO C C C) (dA 1 C (cK (aO (aI C (dO C C C) (dA 1 C ?_)))))))
 exact cX (i + 1) (c + ((arI ((os.getD i oq0).k)) - 1)) ⟨by omega, by show _ = needK os i + (arI (os.getD i oq0).k - 1); omega, fun q hq => by by_cases e : q = i; (subst e; exact ⟨by omega, by assumption⟩); exact hall q (by omega)⟩ (by omega) (cN C) (eO [] C)
 have h7p := eP h7
 refine aP 2 C (aK C (bA 1 C ?_))
 refine aN (aG ?_)
 refine aE (dZ ?_)
 refine aE (aG ?_)
 exact aX C C (congrArg _ (bX (fun hp => by first | (have := hp.len; omega) | (have := hp.pos; omega) | (have := (hp.op i (by omega)).1; omega) | (exact absurd (hp.op i (by omega)).2 (by assumption)) | (have := hp.fin; rw [show os.length = i by omega] at this; omega))).symm)
 refine bQ (kD C ?_)
 refine bI (dC ?_)
 refine aM (aR (aF (cG 1 C ?_)))
 refine bU C C C C C C (fun h8 => ?_) (fun h8 => ?_)
 refine aP 1 C ?_
 exact aN (aX C C (congrArg _ (dG ⟨by omega, fun q hq => hall q (by omega), by rw [show os.length = i by omega]; omega⟩).symm))
 refine aP 1 C ?_
 exact aN (aX C C (congrArg _ (bX (fun hp => by first | (have := hp.len; omega) | (have := hp.pos; omega) | (have := (hp.op i (by omega)).1; omega) | (exact absurd (hp.op i (by omega)).2 (by assumption)) | (have := hp.fin; rw [show os.length = i by omega] at this; omega))).symm))
theorem gZ (m : Md) (w : World) (hr : RdsMd w m) :
   Calls Try.prog 107 #[.agg #[m.sv, m.av, m.iv, m.mv]] w (Ret w (fun v' post => post = [rI9 3 v' (ptsK m)])) := by
 have hs9 := gL hr.s
 refine bW (N := 32) (args := [.agg #[m.sv, m.av, m.iv, m.mv]]) Try.func107 C C (cA ?_)
 refine cL C (cY C C) ?_
 intro b1
 refine eC 3 1 (aP 1 C (eM (aI C (bM 0 C C C) (aI C (aC C C C (aA 1 C C)) (aI C (dL C C C (aD ((hr).s))) ?_)))))
 refine eS C C C C C C (fun h3 => ?_) (fun h3 => ?_)
 refine bQ (aK C (cA ?_))
 refine eC 3 1 (aP 1 C ?_)
 refine aN (aG ?_)
 exact gE (post := [rowE 3 1 (.slice none 0 0) 0 ([])]) C C (eO [0] C) (by unfold ptsK; rw [if_neg (by omega)] <;> rfl)
 refine bQ (aS C (cE (cA ?_)))
 refine eC 3 1 (aP 1 C (eM (aI C (bM 0 C C C) (aI C (aC C C C (aA 2 C C)) (aI C (dL C C C (aD ((hr).s))) (aP 1 C ?_))))))
 refine bD ?_
 refine jC (α := Nat) (β := Value) (γ := List Int) [0, 1, 2, 9, 11, 12] C (fun i gu zs => [rI9 3 gu zs, rowE 3 1 (.slice none 0 0) 0 ([]), boxE b1 #[m.sv, m.av, m.iv, m.mv] 35]) (fun i gu zs => [(3, gu), (13, jI (i : Int))]) (fun i gu zs => i ≤ m.ss.length ∧ zs = ptsA m.ss i) (fun i gu zs => m.ss.length - i) 0 _ [] ⟨Nat.zero_le _, C⟩ (cN C) (eT C) ?_
 intro i gu zs hi6
 obtain ⟨hi, hz⟩ := hi6
 have hzl : zs.length ≤ i := by rw [hz]; exact oL _ _
 refine cA ?_
 refine bN C C C C C C (fun h7 => ?_) (fun h7 => ?_)
 refine bQ (jX C (cE (fD (aF (cG 1 C (aI C (cR 3 C C C C (aD ((hr).s))) ?_))))))
 refine aI C (bL (us := [jI ((m.ss.getD i sg0).k), jI ((m.ss.getD i sg0).w), jI ((m.ss.getD i sg0).i)]) C C C C (aD ((hr).s)) (by omega) C (bY sgC 3 (fun _ => C) m.ss sg0 (show i < _ by omega) C)) (cL C (bG (z := .agg #[jI 0, jI 0, jI 0]) C C) ?_)
 intro b8
 refine aH 1 C (bE (cs' := #[jI ((m.ss.getD i sg0).k), jI ((m.ss.getD i sg0).w), jI ((m.ss.getD i sg0).i)]) (i := 0) (off := 0) (us := [jI ((m.ss.getD i sg0).k), jI ((m.ss.getD i sg0).w), jI ((m.ss.getD i sg0).i)]) C C C C C C C (aB C (aB C (aB C bC))) C C C ?_)
 refine bQ (cA (aI C (bM 0 C C C) (aI C (aC C C C (aA 0 C C)) ?_)))
 refine bU C C C C C C (fun h9 => ?_) (fun h9 => ?_)
 refine aP 5 C (aK C (cG 2 C ?_))
 refine eA C (bB (z := jI 0) (s := 1) (cs := (mI [(i : Int)])) C Try.underlying48 C (by decide) C (by kernel_rfl) C) ?_
 intro g10
 refine cW (i := 2) (z := jI 0) (bytes := 8) C C C C Try.underlying48 (by kernel_rfl) C C C C (aJ 0 C) (cQ _) (by first | omega | (simp; done) | (simp; omega)) (cM zs ([(i : Int)])) (dP zs ([(i : Int)])) (fun _ => C) ?_
 intro v11
 refine dA 1 C (cK (aO (aI C (dO C C C) (dA 1 C ?_))))
 exact cO (i + 1) v11 (zs ++ ([(i : Int)])) ⟨by omega, by rw [hz]; exact iQ (by omega)⟩ (by omega) (cN rfl) (eO [2, 0, 0] rfl)
 refine aH 1 C (aI C (bM 0 C C C) (aI C (aC C C C (aA 0 C C)) ?_))
 refine bU C C C C C C (fun h12 => ?_) (fun h12 => ?_)
 refine aP 1 C (aK C (cG 2 C ?_))
 refine eA C (bB (z := jI 0) (s := 1) (cs := (mI [(i : Int)])) C Try.underlying48 C (by decide) C (by kernel_rfl) C) ?_
 intro g13
 refine cW (i := 2) (z := jI 0) (bytes := 8) C C C C Try.underlying48 (by kernel_rfl) C C C C (aJ 0 C) (cQ _) (by first | omega | (simp; done) | (simp; omega)) (cM zs ([(i : Int)])) (dP zs ([(i : Int)])) (fun _ => C) ?_
 intro v14
 refine dA 1 C (cK (aO (aI C (dO C C C) (dA 1 C ?_))))
 exact cO (i + 1) v14 (zs ++ ([(i : Int)])) ⟨by omega, by rw [hz]; exact iQ (by omega)⟩ (by omega) (cN rfl) (eO [2, 0, 0] rfl)
 refine aP 1 C (gM C (cK (aO (aI C (dO C C C) (dA 1 C ?_)))))
 exact cO (i + 1) gu zs ⟨by omega, hz.trans (oK (by omega))⟩ (by omega) (cN C) (eO [1, 0, 0] C)
 refine bQ (kD C ?_)
 refine bI (dC ?_)
 refine aM (aR (bA 2 C ?_))
 exact aN (gE (post := [rI9 3 gu zs]) C C (eO [0] C) (by rw [hz, show i = m.ss.length by omega]; unfold ptsK; rw [if_pos (by omega)]))
theorem sP (D : List Md) (v : Value) (w : World) (hd : RdsDs w v D) :
   Calls Try.prog 48 #[.agg #[v]] w (Ans w (.bool (pB (CntP D)))) := by
 have hd9 := gL hd.row
 have hm9 : ∀ q, q < D.length → (D.getD q md0).ss.length ≤ 9223372036854775807 := fun q hq => by have := gL (hd.at hq).s; omega
 refine bW (N := 39) (args := [.agg #[v]]) Try.func48 C C (cA ?_)
 refine cL C (cY C C) ?_
 intro b1
 refine aP 1 C (eM (aI C (bM 0 C C C) (aI C (aC C C C (aA 0 C C)) (aI C (dL C C C (aD hd.row)) ?_))))
 refine eS C C C C C C (fun h2 => ?_) (fun h2 => ?_)
 refine bQ (aK C (bA 1 C ?_))
 refine aN (aG ?_)
 exact aX C C (congrArg _ (bX (fun hp => by first | (have := hp.len; omega) | (obtain ⟨h1, h2, h3, h4⟩ := hp.md i (by omega); omega))).symm)
 refine bQ (aS C (cE (eM (aI C (bM 0 C C C) (aI C (aC C C C (aA 0 C C)) (aI C (dL C C C (aD hd.row)) (aH 1 C (?_))))))))
 refine bQ (bD ?_)
 refine gK (α := Nat) [0, 1, 2, 8, 10, 11] C (fun i => [boxE b1 #[v] 26]) (fun i => [(12, jI (i : Int))]) (fun i => i ≤ D.length ∧ ∀ q, q < i → LenP (D.getD q md0)) (fun i => D.length - i) 0 ⟨Nat.zero_le _, fun q hq => absurd hq (by omega)⟩ (cN C) (eT C) ?_
 intro i hi3
 obtain ⟨hi, hall⟩ := hi3
 refine cA ?_
 refine bN C C C C C C (fun h4 => ?_) (fun h4 => ?_)
 refine bQ (jX C (cE (fD (cA (aI C (cR 4 C C C C (aD hd.row)) ?_)))))
 refine aI C (bL (us := [(D.getD i md0).sv, (D.getD i md0).av, (D.getD i md0).iv, (D.getD i md0).mv]) C C C C (aD hd.row) (by omega) C (bY mdC 4 (fun _ => C) D md0 (show i < _ by omega) C)) (cL C (bG (z := .agg #[.slice none 0 0, .slice none 0 0, .slice none 0 0, .slice none 0 0]) C C) ?_)
 intro b5
 refine bE (cs' := #[(D.getD i md0).sv, (D.getD i md0).av, (D.getD i md0).iv, (D.getD i md0).mv]) (i := 0) (off := 0) (us := [(D.getD i md0).sv, (D.getD i md0).av, (D.getD i md0).iv, (D.getD i md0).mv]) C C C C C C C (aB (hd.at (k := i) (by omega)).s.one (aB (hd.at (k := i) (by omega)).g.one (aB (hd.at (k := i) (by omega)).x.one (aB (hd.at (k := i) (by omega)).m.one bC)))) C C C (bQ (cA (aI C (bM 0 C C C) (aI C (aC C C C (aA 0 C C)) (aI C (dL C C C (aD ((hd.at (k := i) (by omega)).s))) ?_)))))
 refine eS C C C C C C (fun h6 => ?_) (fun h6 => ?_)
 refine aP 18 C (aK C (bA 1 C ?_))
 refine aN (aE ?_)
 refine dZ ?_
 refine aE (aG ?_)
 exact aX C C (congrArg _ (bX (fun hp => by first | (have := hp.len; omega) | (obtain ⟨h1, h2, h3, h4⟩ := hp.md i (by omega); omega))).symm)
 refine aH 1 C (aI C (bM 1 C C C) (aI C (aC C C C (aA 0 C C)) (aI C (dL C C C (aD ((hd.at (k := i) (by omega)).g))) ?_)))
 refine eS C C C C C C (fun h7 => ?_) (fun h7 => ?_)
 refine aP 13 C ?_
 refine aK C (bA 1 C ?_)
 refine aN (aE ?_)
 refine dZ ?_
 refine aE (aG ?_)
 exact aX C C (congrArg _ (bX (fun hp => by first | (have := hp.len; omega) | (obtain ⟨h1, h2, h3, h4⟩ := hp.md i (by omega); omega))).symm)
 refine aH 2 C (aI C (bM 2 C C C) (aI C (aC C C C (aA 0 C C)) (aI C (dL C C C (aD ((hd.at (k := i) (by omega)).x))) ?_)))
 refine eS C C C C C C (fun h8 => ?_) (fun h8 => ?_)
 refine aP 7 C (aK C (aF (cG 1 C (?_))))
 refine bQ ?_
 refine aN (aE ?_)
 refine dZ ?_
 refine aE (aG ?_)
 exact aX C C (congrArg _ (bX (fun hp => by first | (have := hp.len; omega) | (obtain ⟨h1, h2, h3, h4⟩ := hp.md i (by omega); omega))).symm)
 refine aH 2 C (aI C (bM 3 C C C) (aI C (aC C C C (aA 0 C C)) (aI C (dL C C C (aD ((hd.at (k := i) (by omega)).m))) ?_)))
 refine eS C C C C C C (fun h9 => ?_) (fun h9 => ?_)
 refine aP 1 C (aK C (bA 1 C ?_))
 refine aN (aE ?_)
 refine dZ ?_
 refine aE (aG ?_)
 exact aX C C (congrArg _ (bX (fun hp => by first | (have := hp.len; omega) | (obtain ⟨h1, h2, h3, h4⟩ := hp.md i (by omega); omega))).symm)
 refine aP 1 C (gM C (cK (aO (aI C (dO C C C) (dA 1 C ?_)))))
 exact cB (i + 1) ⟨by omega, fun q hq => by by_cases e : q = i; (subst e; exact ⟨by omega, by omega, by omega, by omega⟩); exact hall q (by omega)⟩ (by omega) (cN C) (eO [1] C)
 refine bQ (kD C ?_)
 refine bI (dC ?_)
 refine aM (aR (bA 1 C ?_))
 exact aN (aX C C (congrArg _ (dG ⟨by omega, fun q hq => hall q (by omega)⟩).symm))
theorem tY (D : List Md) (k : Nat) (v : Value) (w : World) (hd : RdsDs w v D) (hk : k < D.length) :
   Calls Try.prog 49 #[.agg #[v], .int .i64 (k : Int)] w (Ans w (.bool (pB (InsP D k)))) := by
 have hd9 := gL hd.row
 have hm9 : ∀ q, q < D.length → (D.getD q md0).ss.length ≤ 9223372036854775807 := fun q hq => by have := gL (hd.at hq).s; omega
 have hx9 := gL (hd.at hk).x
 refine bW (N := 39) (args := [.agg #[v], jI (k : Int)]) Try.func49 C C (cA ?_)
 refine cL C (cY C C) ?_
 intro b1
 refine aP 1 C (eM (aI C (bM 0 C C C) (aI C (aC C C C (aA 0 C C)) (aH 1 C (aI C (cR 4 C C C C (aD hd.row)) (aI C (aZ (k0 := 2) C C C (aD hd.row) (by omega)) ?_))))))
 refine aI C (aQ (u := (D.getD k md0).iv) C C C (aD hd.row) ((bR mdC 4 (fun _ => C) D md0 (show k < _ by omega) (by decide)).trans C)) (aI C (dL C C C (aD ((hd.at (k := k) (by omega)).x))) (aP 1 C (bD ?_)))
 refine gK (α := Nat) [0, 1, 2, 4, 12, 13] C (fun i => [boxE b1 #[v] 26]) (fun i => [(14, jI (i : Int))]) (fun i => i ≤ (D.getD k md0).xs.length ∧ ∀ q, q < i → InsOk D k q) (fun i => (D.getD k md0).xs.length - i) 0 ⟨Nat.zero_le _, fun q hq => absurd hq (by omega)⟩ (cN C) (eT C) ?_
 intro i hi2
 obtain ⟨hi, hins⟩ := hi2
 refine cA ?_
 refine bN C C C C C C (fun h3 => ?_) (fun h3 => ?_)
 refine bQ (jX C (cE (fD (cA (aI C (cR 3 C C C C (aD ((hd.at (k := k) (by omega)).x))) ?_)))))
 refine aI C (bL (us := [jI ((((D.getD k md0).xs).getD i ix0).m), jI ((((D.getD k md0).xs).getD i ix0).p), (((D.getD k md0).xs).getD i ix0).pv]) C C C C (aD ((hd.at (k := k) (by omega)).x)) (by omega) C (bY ixC 3 (fun _ => C) ((D.getD k md0).xs) ix0 (show i < _ by omega) C)) (cL C (bG (z := .agg #[jI 0, jI 0, .slice none 0 0]) C C) ?_)
 intro b4
 refine bE (cs' := #[jI ((((D.getD k md0).xs).getD i ix0).m), jI ((((D.getD k md0).xs).getD i ix0).p), (((D.getD k md0).xs).getD i ix0).pv]) (i := 0) (off := 0) (us := [jI ((((D.getD k md0).xs).getD i ix0).m), jI ((((D.getD k md0).xs).getD i ix0).p), (((D.getD k md0).xs).getD i ix0).pv]) C C C C C C C (aB C (aB C (aB ((hd.at (k := k) (by omega)).p.at (k := i) (by omega)).one bC))) C C C (bQ (aF ?_))
 rcases Bool.eq_false_or_eq_true (inR ((((D.getD k md0).xs).getD i ix0).m) 0 ((k : Int) - 1)) with hb5 | hb5
 obtain ⟨hb5a, hb5b⟩ := (dQ _ _ _).1 hb5
 refine hS C 20 [0, 1, 2, 3, 4, 5, 6, 7, 8, 9, 10, 11, 12, 13, 14, 15, 16, 17, 18, 19] (List.take 20 _) (List.drop 20 _) [[], [0], [], [2], [1, 3], [4], [5], [6], [6, 7], [6, 8], [6], [6, 10], [6], [6, 12], [6, 11, 13], [6, 14], [6, 15], [6, 16], [6, 9, 16, 17], [6, 18]] [18, 19, 20, 21, 22, 23, 24, 25, 26, 27, 28, 29, 30, 31, 32, 33, 34, 35, 36, 37] (fun i_ vs_ v_ p_ => match i_ with | 0 => v_ = .pointer (some ⟨b4, 0 + 0, none⟩) ∧ p_ = [] | 1 => v_ = jI ((((D.getD k md0).xs).getD i ix0).m) ∧ p_ = [] | 2 => v_ = jI (k : Int) ∧ p_ = [] | 3 => v_ = jI ((k : Int) - 1) ∧ p_ = [] | 4 => v_ = .bool true ∧ p_ = [] | 5 => v_ = .bool false ∧ p_ = [] | 6 => v_ = .bool false ∧ p_ = [] | 7 => v_ = .pointer (some ⟨b4, 0 + 2, none⟩) ∧ p_ = [] | 8 => v_ = (((D.getD k md0).xs).getD i ix0).pv ∧ p_ = [] | 9 => v_ = jI (((((D.getD k md0).xs).getD i ix0).ps).length : Int) ∧ p_ = [] | 10 => v_ = .pointer (some ⟨b1, 0 + 0, none⟩) ∧ p_ = [] | 11 => v_ = v ∧ p_ = [] | 12 => v_ = .pointer (some ⟨b4, 0 + 0, none⟩) ∧ p_ = [] | 13 => v_ = jI ((((D.getD k md0).xs).getD i ix0).m) ∧ p_ = [] | 14 => v_ = elP v (((((D.getD k md0).xs).getD i ix0).m).toNat * 4) ∧ p_ = [] | 15 => v_ = .agg #[(D.getD (((((D.getD k md0).xs).getD i ix0).m).toNat) md0).sv, (D.getD (((((D.getD k md0).xs).getD i ix0).m).toNat) md0).av, (D.getD (((((D.getD k md0).xs).getD i ix0).m).toNat) md0).iv, (D.getD (((((D.getD k md0).xs).getD i ix0).m).toNat) md0).mv] ∧ p_ = [] | 16 => (fun v' post => post = [rowE 3 1 v' ((ptsK (D.getD (((((D.getD k md0).xs).getD i ix0).m).toNat) md0))).length (((ptsK (D.getD (((((D.getD k md0).xs).getD i ix0).m).toNat) md0))).map (Value.int .i64))]) v_ p_ | 17 => v_ = jI ((ptsK (D.getD (((((D.getD k md0).xs).getD i ix0).m).toNat) md0)).length : Int) ∧ p_ = [] | 18 => v_ = .bool ((((((D.getD k md0).xs).getD i ix0).ps).length : Int) != ((ptsK (D.getD (((((D.getD k md0).xs).getD i ix0).m).toNat) md0)).length : Int)) ∧ p_ = [] | 19 => v_ = .bool ((((((D.getD k md0).xs).getD i ix0).ps).length : Int) != ((ptsK (D.getD (((((D.getD k md0).xs).getD i ix0).m).toNat) md0)).length : Int)) ∧ p_ = [] | _ => True) (List.take_append_drop 20 _).symm (by kernel_rfl) (by kernel_rfl) C C ?_ ?_
 refine ⟨?_, ?_, ?_, ?_, ?_, ?_, ?_, ?_, ?_, ?_, ?_, ?_, ?_, ?_, ?_, ?_, ?_, ?_, ?_, ?_, trivial⟩
 intro vf pf hR
 exact jJ C (aU [6] C) (bH (bM 0 C C C))
 intro vf pf hR
 have e0 := hR 0 (by decide)
 exact gR C (sk 18 (congrArg some e0.1) (aL _)) (bH (aC C C C (aA 0 C C)))
 intro vf pf hR
 exact jJ C (aU [1] C) (bH (aY C))
 intro vf pf hR
 have e2 := hR 2 (by decide)
 exact jJ C (sk 20 (congrArg some e2.1) (aL _)) (bH (nC C C C))
 intro vf pf hR
 have e1 := hR 1 (by decide)
 have e3 := hR 3 (by decide)
 exact gR C (sk 19 (congrArg some e1.1) (sk 21 (congrArg some e3.1) (aL _))) (eB (aV C C (fun w hm => bJ (fN (dD _ _ _ w)))) (fun _ _ h => ⟨h.1.trans (congrArg Value.bool hb5), h.2⟩))
 intro vf pf hR
 have e4 := hR 4 (by decide)
 exact jJ C (sk 22 (congrArg some e4.1) (aL _)) (bH (aY C))
 intro vf pf hR
 have e5 := hR 5 (by decide)
 exact jJ C (sk 23 (congrArg some e5.1) (aL _)) (bH (aY C))
 intro vf pf hR
 have e6 := hR 6 (by decide)
 refine Or.inl ⟨eD (congrArg some e6.1) C, ?_⟩
 exact cC (aU [6] C) (bH (bM 2 C C C))
 intro vf pf hR
 have e6 := hR 6 (by decide)
 have e7 := hR 7 (by decide)
 refine Or.inl ⟨eD (congrArg some e6.1) C, ?_⟩
 exact bP (sk 25 (congrArg some e7.1) (aL _)) (List.sublist_append_right _ _) (bH (aC C C C (aA 0 C C)))
 intro vf pf hR
 have e6 := hR 6 (by decide)
 have e8 := hR 8 (by decide)
 refine Or.inl ⟨eD (congrArg some e6.1) C, ?_⟩
 exact bP (sk 26 (congrArg some e8.1) (aL _)) (List.sublist_append_right _ _) (bH (dL C C C (aD ((hd.at (k := k) (by omega)).p.at (k := i) (by omega)))))
 intro vf pf hR
 have e6 := hR 6 (by decide)
 refine Or.inl ⟨eD (congrArg some e6.1) C, ?_⟩
 exact cC (aU [2] C) (bH (bM 0 C C C))
 intro vf pf hR
 have e6 := hR 6 (by decide)
 have e10 := hR 10 (by decide)
 refine Or.inl ⟨eD (congrArg some e6.1) C, ?_⟩
 exact bP (sk 28 (congrArg some e10.1) (aL _)) (List.sublist_append_right _ _) (bH (aC C C C (aA 1 C C)))
 intro vf pf hR
 have e6 := hR 6 (by decide)
 refine Or.inl ⟨eD (congrArg some e6.1) C, ?_⟩
 exact cC (aU [6] C) (bH (bM 0 C C C))
 intro vf pf hR
 have e6 := hR 6 (by decide)
 have e12 := hR 12 (by decide)
 refine Or.inl ⟨eD (congrArg some e6.1) C, ?_⟩
 exact bP (sk 30 (congrArg some e12.1) (aL _)) (List.sublist_append_right _ _) (bH (aC C C C (aA 0 C C)))
 intro vf pf hR
 have e6 := hR 6 (by decide)
 have e11 := hR 11 (by decide)
 have e13 := hR 13 (by decide)
 refine Or.inl ⟨eD (congrArg some e6.1) C, ?_⟩
 exact bP (sk 29 (congrArg some e11.1) (sk 31 (congrArg some e13.1) (aL _))) (List.sublist_append_right _ _) (bH (cR 4 C C C C (aD hd.row)))
 intro vf pf hR
 have e6 := hR 6 (by decide)
 have e14 := hR 14 (by decide)
 refine Or.inl ⟨eD (congrArg some e6.1) C, ?_⟩
 exact bP (sk 32 (congrArg some e14.1) (aL _)) (List.sublist_append_right _ _) (bH (bL (us := [(D.getD (((((D.getD k md0).xs).getD i ix0).m).toNat) md0).sv, (D.getD (((((D.getD k md0).xs).getD i ix0).m).toNat) md0).av, (D.getD (((((D.getD k md0).xs).getD i ix0).m).toNat) md0).iv, (D.getD (((((D.getD k md0).xs).getD i ix0).m).toNat) md0).mv]) C C C C (aD hd.row) (by omega) C (bY mdC 4 (fun _ => C) D md0 (show ((((D.getD k md0).xs).getD i ix0).m).toNat < _ by omega) C)))
 intro vf pf hR
 have e6 := hR 6 (by decide)
 have e15 := hR 15 (by decide)
 refine Or.inl ⟨eD (congrArg some e6.1) C, ?_⟩
 exact bP (sk 33 (congrArg some e15.1) (aL _)) (List.sublist_append_right _ _) (aV C C (fun w hm => gZ (D.getD (((((D.getD k md0).xs).getD i ix0).m).toNat) md0) w ((hd.at (by omega)).below hm.bel)))
 intro vf pf hR
 have e6 := hR 6 (by decide)
 have e16 : (fun v' post => post = [rowE 3 1 v' ((ptsK (D.getD (((((D.getD k md0).xs).getD i ix0).m).toNat) md0))).length (((ptsK (D.getD (((((D.getD k md0).xs).getD i ix0).m).toNat) md0))).map (Value.int .i64))]) (vf 16) (pf 16) := hR 16 (by decide)
 obtain ⟨v6, vE16⟩ : ∃ x, vf 16 = x := ⟨_, rfl⟩
 obtain ⟨p7, pE16⟩ : ∃ x, pf 16 = x := ⟨_, rfl⟩
 have R8 := e16
 rw [vE16, pE16] at R8
 subst R8
 refine Or.inl ⟨eD (congrArg some e6.1) C, ?_⟩
 exact dJ (sk 34 (congrArg some vE16) (aL _)) (by simp only [pE16, vE16, e6.2, fS] <;> rfl) (bH (dL C C C (aJ 0 C)))
 intro vf pf hR
 have e6 := hR 6 (by decide)
 have e9 := hR 9 (by decide)
 have e16 : (fun v' post => post = [rowE 3 1 v' ((ptsK (D.getD (((((D.getD k md0).xs).getD i ix0).m).toNat) md0))).length (((ptsK (D.getD (((((D.getD k md0).xs).getD i ix0).m).toNat) md0))).map (Value.int .i64))]) (vf 16) (pf 16) := hR 16 (by decide)
 obtain ⟨v6, vE16⟩ : ∃ x, vf 16 = x := ⟨_, rfl⟩
 obtain ⟨p7, pE16⟩ : ∃ x, pf 16 = x := ⟨_, rfl⟩
 have R8 := e16
 rw [vE16, pE16] at R8
 subst R8
 have e17 := hR 17 (by decide)
 refine Or.inl ⟨eD (congrArg some e6.1) C, ?_⟩
 exact dJ (sk 27 (congrArg some e9.1) (sk 35 (congrArg some e17.1) (aL _))) (by simp only [pE16, vE16, e6.2, e9.2, e17.2, fS] <;> rfl) (bH (dR C C C C))
 intro vf pf hR
 have e6 := hR 6 (by decide)
 have e18 := hR 18 (by decide)
 exact jJ C (sk 24 (congrArg some e6.1) (sk 36 (congrArg some e18.1) (aL _))) (bH (aY C))
 intro vf pf hR
 have e16 : (fun v' post => post = [rowE 3 1 v' ((ptsK (D.getD (((((D.getD k md0).xs).getD i ix0).m).toNat) md0))).length (((ptsK (D.getD (((((D.getD k md0).xs).getD i ix0).m).toNat) md0))).map (Value.int .i64))]) (vf 16) (pf 16) := hR 16 (by decide)
 obtain ⟨v6, vE16⟩ : ∃ x, vf 16 = x := ⟨_, rfl⟩
 obtain ⟨p7, pE16⟩ : ∃ x, pf 16 = x := ⟨_, rfl⟩
 have R8 := e16
 rw [vE16, pE16] at R8
 subst R8
 have e19 := hR 19 (by decide)
 have q0 := hR 0 (by decide)
 have q1 := hR 1 (by decide)
 have q2 := hR 2 (by decide)
 have q3 := hR 3 (by decide)
 have q4 := hR 4 (by decide)
 have q5 := hR 5 (by decide)
 have q6 := hR 6 (by decide)
 have q7 := hR 7 (by decide)
 have q8 := hR 8 (by decide)
 have q9 := hR 9 (by decide)
 have q10 := hR 10 (by decide)
 have q11 := hR 11 (by decide)
 have q12 := hR 12 (by decide)
 have q13 := hR 13 (by decide)
 have q14 := hR 14 (by decide)
 have q15 := hR 15 (by decide)
 have q17 := hR 17 (by decide)
 have q18 := hR 18 (by decide)
 have q19 := hR 19 (by decide)
 refine dV (dB [15, 14, 13, 12, 6, 4, 2, 1, 0] _ (sk 37 (congrArg some e19.1) (aL _)) C) (by simp only [pE16, vE16, q0.2, q1.2, q2.2, q3.2, q4.2, q5.2, q6.2, q7.2, q8.2, q9.2, q10.2, q11.2, q12.2, q13.2, q14.2, q15.2, q17.2, q18.2, q19.2, fS] <;> rfl) ?_
 simp only [List.drop_succ_cons, List.drop_zero]
 refine bQ ?_
 refine eW C (fun h9 => ?_) (fun h9 => ?_)
 have h9p : (((((D.getD k md0).xs).getD i ix0).ps).length : Int) ≠ ((ptsK (D.getD (((((D.getD k md0).xs).getD i ix0).m).toNat) md0)).length : Int) := bne_iff_ne.1 h9
 refine bA 1 C ?_
 refine aN (aE ?_)
 refine dZ ?_
 refine aE (aG ?_)
 exact aX C C (congrArg _ (bX (fun hp => by first | (obtain ⟨⟨h1, h2⟩, h3⟩ := hp i (by omega); omega))).symm)
 have h9p : (((((D.getD k md0).xs).getD i ix0).ps).length : Int) = ((ptsK (D.getD (((((D.getD k md0).xs).getD i ix0).m).toNat) md0)).length : Int) := (bne_eq_false_iff_eq.1 h9)
 refine fA (cK (aO (aI C (dO C C C) (dA 1 C ?_))))
 exact cB (i + 1) ⟨by omega, fun q hq => by by_cases e : q = i; (subst e; exact ⟨⟨by omega, by omega⟩, by omega⟩); exact hins q (by omega)⟩ (by omega) (cN C) (eO [2] C)
 have hb5a := dK hb5
 refine cI 20 [[], [0], [], [2], [1, 3], [4], [5], [6], [6], [6], [6], [6], [6], [6], [6], [6], [6], [6], [6], [6, 18]] [18, 19, 20, 21, 22, 23, 24, 25, 26, 27, 28, 29, 30, 31, 32, 33, 34, 35, 36, 37] [.pointer (some ⟨b4, 0 + 0, none⟩), jI ((((D.getD k md0).xs).getD i ix0).m), jI (k : Int), jI ((k : Int) - 1), .bool false, .bool true, .bool true, undef, undef, undef, undef, undef, undef, undef, undef, undef, undef, undef, undef, .bool true] (by kernel_rfl) C ?_ ?_
 exact ⟨bF C (bM 0 C C C) C, bF C (aC C C C (aA 0 C C)) C, bF C (aY C) C, bF C (nC C C C) C, .inl ⟨C, qS (aV C C (fun w hm => bJ (fN (dD _ _ _ w)))) hb5⟩, bF C (aY C) C, bF C (aY C) C, .inr ⟨C, C⟩, .inr ⟨C, C⟩, .inr ⟨C, C⟩, .inr ⟨C, C⟩, .inr ⟨C, C⟩, .inr ⟨C, C⟩, .inr ⟨C, C⟩, .inr ⟨C, C⟩, .inr ⟨C, C⟩, .inr ⟨C, C⟩, .inr ⟨C, C⟩, .inr ⟨C, C⟩, bF C (aY C) C, trivial⟩
 simp only [List.drop_succ_cons, List.drop_zero]
 refine bQ (aK C (bA 1 C ?_))
 refine aN (aE ?_)
 refine dZ ?_
 refine aE (aG ?_)
 exact aX C C (congrArg _ (bX (fun hp => by first | (obtain ⟨⟨h1, h2⟩, h3⟩ := hp i (by omega); omega))).symm)
 refine bQ (kD C ?_)
 refine bI (dC ?_)
 refine aM (aR (bA 1 C ?_))
 exact aN (aX C C (congrArg _ (dG (fun q hq => hins q (by omega))).symm))
theorem jW (b : Nat) (v : Value) (zs : List Int) (s : Int) (w0 : World) (l : List HP) (w : World) (hm0 : Mem w0 (bigE [boxE b #[v] 48, rI9 3 v zs] :: l) w) (hz1 : zs.length ≤ 1000000) (hz2 : ∀ q, 0 ≤ zs.getD q 0 ∧ zs.getD q 0 ≤ 1000000) :
   Calls Try.prog 108 #[.int .i64 s, .pointer (some ⟨b, 0, none⟩)] w (fun e_ w_ => ∃ v_ p_, e_ = .returned v_ ∧ (fun u_ p_ => u_ = .tuple #[] ∧ p_ = bigE [boxE b #[v] 48, rI9 3 v (incZ zs s)]) v_ p_ ∧ Mem w0 (p_ :: l) w_) := by
 refine gI (N := 14) (args := [jI s, pI b]) Try.func108 C C hm0 (cA ?_)
 refine gU (boxE b #[v] 48 :: rI9 3 v zs :: l) eQ ?_
 refine aH 1 C (aI C (aC C C C (aA 0 C C)) (aI C (dL C C C (aJ 1 C)) (aI C (nC C C C) ?_)))
 refine dW C (aV C C (fun w hm => bJ (fN (dD _ _ _ w)))) (bT (fun h1 => ?_) (fun h1 => ?_))
 obtain ⟨h1a, h1b⟩ := (dQ _ _ _).1 h1
 refine bQ (aK C (aO ?_))
 have hz3 := hz2 s.toNat
 refine aI C (aC C C C (aA 0 C C)) (aH 1 C (aI C (cR 1 C C C C (aJ 1 C)) (aI C (nD C C C (aJ 1 C)) (aI C (dO C C C) (aI C (cR 1 C C C C (aJ 1 C)) ?_)))))
 refine fY (i := 1) (n' := (zs.set (s.toNat) ((zs.getD (s.toNat) 0) + 1)).length) (xs' := (mI (zs.set (s.toNat) ((zs.getD (s.toNat) 0) + 1)))) C C C C C C C C (by first | omega | (simp only [List.length_set]; omega)) List.length_set.symm (fM _ _ _) C (bK ?_)
 refine qZ (cD 2 [1, 0] C C (by decide) ?_)
 refine dI (bigE [boxE b #[v] 48, rowE 3 1 v ((zs.set (s.toNat) ((zs.getD (s.toNat) 0) + 1)).length) (mI (zs.set (s.toNat) ((zs.getD (s.toNat) 0) + 1)))] :: l) (pV (ps := [boxE b #[v] 48, rowE 3 1 v ((zs.set (s.toNat) ((zs.getD (s.toNat) 0) + 1)).length) (mI (zs.set (s.toNat) ((zs.getD (s.toNat) 0) + 1)))])) ?_
 refine eV (rs := []) (vs := []) rfl trivial rfl (fun w hm => ⟨_, _, rfl, ⟨rfl, by unfold incZ; rw [if_pos ⟨by omega, by omega⟩]⟩, hm.sub (.refl _)⟩)
 have h1a := dK h1
 refine bQ (gM C ?_)
 refine qZ (cD 2 [1, 0] C C (by decide) ?_)
 refine dI (bigE [boxE b #[v] 48, rI9 3 v zs] :: l) (pV (ps := [boxE b #[v] 48, rI9 3 v zs])) ?_
 refine eV (rs := []) (vs := []) rfl trivial rfl (fun w hm => ⟨_, _, rfl, ⟨rfl, by unfold incZ; rw [if_neg (by omega)]⟩, hm.sub (.refl _)⟩)
theorem nU (D : List Md) (k : Nat) (v : Value) (w : World) (hd : RdsDs w v D) (hc : CtsP D k) :
   Calls Try.prog 50 #[.agg #[v], .int .i64 (k : Int)] w (Ret w (fun v' post => post = [rI9 3 v' ((cntZ (D.getD k md0).ss.length (drvL D (D.getD k md0))))])) := by
 have hd9 := gL hd.row
 obtain ⟨hkl, hcnt, hins⟩ := hc
 obtain ⟨hn1, hn2, hn3, hn4⟩ := hcnt.md k hkl
 have hdl := hcnt.len
 refine bW (N := 89) (args := [.agg #[v], jI (k : Int)]) Try.func50 C C (cA ?_)
 refine cL C (cY C C) ?_
 intro b1
 refine aP 1 C (cA (aI C (bM 0 C C C) (aI C (aC C C C (aA 0 C C)) (aH 1 C (aI C (cR 4 C C C C (aD hd.row)) ?_)))))
 refine aI C (bL (us := [(D.getD k md0).sv, (D.getD k md0).av, (D.getD k md0).iv, (D.getD k md0).mv]) C C C C (aD hd.row) (by omega) C (bY mdC 4 (fun _ => C) D md0 (show k < _ by omega) C)) (cL C (bG (z := .agg #[.slice none 0 0, .slice none 0 0, .slice none 0 0, .slice none 0 0]) C C) ?_)
 intro b2
 refine bE (cs' := #[(D.getD k md0).sv, (D.getD k md0).av, (D.getD k md0).iv, (D.getD k md0).mv]) (i := 0) (off := 0) (us := [(D.getD k md0).sv, (D.getD k md0).av, (D.getD k md0).iv, (D.getD k md0).mv]) C C C C C C C (aB (hd.at (k := k) (by omega)).s.one (aB (hd.at (k := k) (by omega)).g.one (aB (hd.at (k := k) (by omega)).x.one (aB (hd.at (k := k) (by omega)).m.one bC)))) C C C (bQ (cA (aI C (bM 0 C C C) (aI C (aC C C C (aA 0 C C)) (aI C (dL C C C (aD ((hd.at (k := k) (by omega)).s))) ?_)))))
 refine eA C (iL (z := jI 0) (s := 1) (bytes := 8) (n := (List.replicate (((D.getD k md0).ss).length) (0 : Int)).length) (cs := (mI (List.replicate (((D.getD k md0).ss).length) (0 : Int)))) C Try.underlying48 C (by decide) C C (by first | (rw [List.length_replicate]; done) | (rw [List.length_replicate]; omega)) (by first | (rw [List.length_replicate]; done) | (rw [List.length_replicate]; omega)) (by rw [List.length_replicate]; omega) (hZ _)) ?_
 intro g3
 refine cL C (bG (z := .slice none 0 0) C C) ?_
 intro b4
 refine eZ (i := 0) (cs' := #[.slice (some ⟨g3, 0, none⟩) ((List.replicate (((D.getD k md0).ss).length) (0 : Int)).length) ((List.replicate (((D.getD k md0).ss).length) (0 : Int)).length)]) C C C C C C C C C C C (bQ (cA (aI C (tE (us := []) (vs := [pI b4]) C C C) (aP 1 C (eM ?_)))))
 refine iE 4 [3, 2, 1, 0] C C (by decide) ?_
 refine gU [bigE [boxE b4 #[.slice (some ⟨g3, 0, none⟩) ((List.replicate (((D.getD k md0).ss).length) (0 : Int)).length) ((List.replicate (((D.getD k md0).ss).length) (0 : Int)).length)] 48, rowE 3 1 (.slice (some ⟨g3, 0, none⟩) ((List.replicate (((D.getD k md0).ss).length) (0 : Int)).length) ((List.replicate (((D.getD k md0).ss).length) (0 : Int)).length)) ((List.replicate (((D.getD k md0).ss).length) (0 : Int)).length) (mI (List.replicate (((D.getD k md0).ss).length) (0 : Int)))], boxE b2 #[(D.getD k md0).sv, (D.getD k md0).av, (D.getD k md0).iv, (D.getD k md0).mv] 35, boxE b1 #[v] 26] (pV (ps := [boxE b4 #[.slice (some ⟨g3, 0, none⟩) ((List.replicate (((D.getD k md0).ss).length) (0 : Int)).length) ((List.replicate (((D.getD k md0).ss).length) (0 : Int)).length)] 48, rowE 3 1 (.slice (some ⟨g3, 0, none⟩) ((List.replicate (((D.getD k md0).ss).length) (0 : Int)).length) ((List.replicate (((D.getD k md0).ss).length) (0 : Int)).length)) ((List.replicate (((D.getD k md0).ss).length) (0 : Int)).length) (mI (List.replicate (((D.getD k md0).ss).length) (0 : Int)))])) ?_
 rw [Al]
 refine aI C (bM 1 C C C) (aI C (aC C C C (aA 1 C C)) (aI C (dL C C C (aD ((hd.at (k := k) (by omega)).g))) (aP 1 C (bD ?_))))
 refine fB [bigE [boxE b4 #[.slice (some ⟨g3, 0, none⟩) ((cntZ (D.getD k md0).ss.length ([] : List Int)).length) ((cntZ (D.getD k md0).ss.length ([] : List Int)).length)] 48, rI9 3 (.slice (some ⟨g3, 0, none⟩) ((cntZ (D.getD k md0).ss.length ([] : List Int)).length) ((cntZ (D.getD k md0).ss.length ([] : List Int)).length)) (cntZ (D.getD k md0).ss.length (((D.getD k md0).gs.take 0).map As.t))], boxE b2 #[(D.getD k md0).sv, (D.getD k md0).av, (D.getD k md0).iv, (D.getD k md0).mv] 35, boxE b1 #[v] 26] (fun w hm => by rw [show ((D.getD k md0).gs.take 0).map As.t = ([] : List Int) from rfl]; exact hm) ?_
 refine gK (α := Nat) [0, 1, 2, 4, 5, 6, 7, 28, 29] C (fun i => [bigE [boxE b4 #[.slice (some ⟨g3, 0, none⟩) ((cntZ (D.getD k md0).ss.length ([] : List Int)).length) ((cntZ (D.getD k md0).ss.length ([] : List Int)).length)] 48, rI9 3 (.slice (some ⟨g3, 0, none⟩) ((cntZ (D.getD k md0).ss.length ([] : List Int)).length) ((cntZ (D.getD k md0).ss.length ([] : List Int)).length)) (cntZ (D.getD k md0).ss.length (((D.getD k md0).gs.take i).map As.t))], boxE b2 #[(D.getD k md0).sv, (D.getD k md0).av, (D.getD k md0).iv, (D.getD k md0).mv] 35, boxE b1 #[v] 26]) (fun i => [(30, jI (i : Int))]) (fun i => i ≤ (D.getD k md0).gs.length) (fun i => (D.getD k md0).gs.length - i) 0 (Nat.zero_le _) (cN C) (eT C) ?_
 intro i hi5
 have hi := hi5
 refine cA ?_
 refine bN C C C C C C (fun h6 => ?_) (fun h6 => ?_)
 refine bQ (jX C (cE (fD (cA (aI C (cR 2 C C C C (aD ((hd.at (k := k) (by omega)).g))) ?_)))))
 refine aI C (bL (us := [jI ((((D.getD k md0).gs).getD i as0).t), (((D.getD k md0).gs).getD i as0).ov]) C C C C (aD ((hd.at (k := k) (by omega)).g)) (by omega) C (bY asC 2 (fun _ => C) ((D.getD k md0).gs) as0 (show i < _ by omega) C)) (cL C (bG (z := .agg #[jI 0, .slice none 0 0]) C C) ?_)
 intro b7
 refine bE (cs' := #[jI ((((D.getD k md0).gs).getD i as0).t), (((D.getD k md0).gs).getD i as0).ov]) (i := 0) (off := 0) (us := [jI ((((D.getD k md0).gs).getD i as0).t), (((D.getD k md0).gs).getD i as0).ov]) C C C C C C C (aB C (aB ((hd.at (k := k) (by omega)).o.at (k := i) (by omega)).one bC)) C C C (bQ (cG 1 C (aI C (bM 0 C C C) (aI C (aC C C C (aA 0 C C)) ?_))))
 refine nQ (R := (fun u_ p_ => u_ = .tuple #[] ∧ p_ = bigE [boxE b4 #[.slice (some ⟨g3, 0, none⟩) ((cntZ (D.getD k md0).ss.length ([] : List Int)).length) ((cntZ (D.getD k md0).ss.length ([] : List Int)).length)] 48, rowE 3 1 (.slice (some ⟨g3, 0, none⟩) ((cntZ (D.getD k md0).ss.length ([] : List Int)).length) ((cntZ (D.getD k md0).ss.length ([] : List Int)).length)) (incZ (cntZ (D.getD k md0).ss.length (((D.getD k md0).gs.take i).map As.t)) ((((D.getD k md0).gs).getD i as0).t)).length ((incZ (cntZ (D.getD k md0).ss.length (((D.getD k md0).gs.take i).map As.t)) ((((D.getD k md0).gs).getD i as0).t)).map (Value.int .i64))])) 1 C C C C C C (fun L w hX hm => jW b4 (.slice (some ⟨g3, 0, none⟩) ((cntZ (D.getD k md0).ss.length ([] : List Int)).length) ((cntZ (D.getD k md0).ss.length ([] : List Int)).length)) (cntZ (D.getD k md0).ss.length (((D.getD k md0).gs.take i).map As.t)) ((((D.getD k md0).gs).getD i as0).t) _ L w hm (by rw [fT]; omega) (fun q => by have h9 := sR (n := (D.getD k md0).ss.length) (L := ((D.getD k md0).gs.take i).map As.t) (M := 1000) (by simp only [List.length_append, List.length_map, List.length_take]; omega) q; omega)) ?_
 intro v8 p9 R10
 obtain ⟨rfl, rfl⟩ := R10
 rw [pW]
 refine dY (l' := [boxE b7 #[jI ((((D.getD k md0).gs).getD i as0).t), (((D.getD k md0).gs).getD i as0).ov] 89, bigE [boxE b4 #[.slice (some ⟨g3, 0, none⟩) ((cntZ (D.getD k md0).ss.length ([] : List Int)).length) ((cntZ (D.getD k md0).ss.length ([] : List Int)).length)] 48, rowE 3 1 (.slice (some ⟨g3, 0, none⟩) ((cntZ (D.getD k md0).ss.length ([] : List Int)).length) ((cntZ (D.getD k md0).ss.length ([] : List Int)).length)) (cntZ (D.getD k md0).ss.length (((D.getD k md0).gs.take i).map As.t ++ [(((D.getD k md0).gs).getD i as0).t])).length ((cntZ (D.getD k md0).ss.length (((D.getD k md0).gs.take i).map As.t ++ [(((D.getD k md0).gs).getD i as0).t])).map (Value.int .i64))], boxE b2 #[(D.getD k md0).sv, (D.getD k md0).av, (D.getD k md0).iv, (D.getD k md0).mv] 35, boxE b1 #[v] 26]) C ?_
 refine bK (cK (aO (aI C (dO C C C) (dA 1 C ?_))))
 refine dI [boxE b7 #[jI ((((D.getD k md0).gs).getD i as0).t), (((D.getD k md0).gs).getD i as0).ov] 89, bigE [boxE b4 #[.slice (some ⟨g3, 0, none⟩) ((cntZ (D.getD k md0).ss.length ([] : List Int)).length) ((cntZ (D.getD k md0).ss.length ([] : List Int)).length)] 48, rI9 3 (.slice (some ⟨g3, 0, none⟩) ((cntZ (D.getD k md0).ss.length ([] : List Int)).length) ((cntZ (D.getD k md0).ss.length ([] : List Int)).length)) (cntZ (D.getD k md0).ss.length (((D.getD k md0).gs.take (i + 1)).map As.t))], boxE b2 #[(D.getD k md0).sv, (D.getD k md0).av, (D.getD k md0).iv, (D.getD k md0).mv] 35, boxE b1 #[v] 26] (fun w hm => by rw [show ((D.getD k md0).gs.take (i + 1)).map As.t = ((D.getD k md0).gs.take i).map As.t ++ [(((D.getD k md0).gs).getD i as0).t] from mF As.t as0 (by omega)]; exact hm) ?_
 exact cB (i + 1) (by omega) (by omega) (cN C) (eO [1, 0, 0] C)
 refine bQ (kD C ?_)
 refine bI (dC ?_)
 refine aM (aR (eM (aI C (bM 3 C C C) (aI C (aC C C C (aA 1 C C)) (aI C (dL C C C (aD ((hd.at (k := k) (by omega)).m))) (aP 1 C (bD ?_)))))))
 refine fB [bigE [boxE b4 #[.slice (some ⟨g3, 0, none⟩) ((cntZ (D.getD k md0).ss.length ([] : List Int)).length) ((cntZ (D.getD k md0).ss.length ([] : List Int)).length)] 48, rI9 3 (.slice (some ⟨g3, 0, none⟩) ((cntZ (D.getD k md0).ss.length ([] : List Int)).length) ((cntZ (D.getD k md0).ss.length ([] : List Int)).length)) (cntZ (D.getD k md0).ss.length ((D.getD k md0).gs.map As.t ++ ((D.getD k md0).ms.take 0).map Mm.o))], boxE b2 #[(D.getD k md0).sv, (D.getD k md0).av, (D.getD k md0).iv, (D.getD k md0).mv] 35, boxE b1 #[v] 26] (fun w hm => by rw [show (D.getD k md0).gs.map As.t ++ ((D.getD k md0).ms.take 0).map Mm.o = ((D.getD k md0).gs.take i).map As.t by rw [List.take_zero, List.map_nil, List.append_nil, show i = (D.getD k md0).gs.length by omega, List.take_length]]; exact hm) ?_
 refine gK (α := Nat) [0, 1, 2, 4, 5, 6, 7, 31, 40, 41] C (fun i => [bigE [boxE b4 #[.slice (some ⟨g3, 0, none⟩) ((cntZ (D.getD k md0).ss.length ([] : List Int)).length) ((cntZ (D.getD k md0).ss.length ([] : List Int)).length)] 48, rI9 3 (.slice (some ⟨g3, 0, none⟩) ((cntZ (D.getD k md0).ss.length ([] : List Int)).length) ((cntZ (D.getD k md0).ss.length ([] : List Int)).length)) (cntZ (D.getD k md0).ss.length ((D.getD k md0).gs.map As.t ++ ((D.getD k md0).ms.take i).map Mm.o))], boxE b2 #[(D.getD k md0).sv, (D.getD k md0).av, (D.getD k md0).iv, (D.getD k md0).mv] 35, boxE b1 #[v] 26]) (fun i => [(42, jI (i : Int))]) (fun i => i ≤ (D.getD k md0).ms.length) (fun i => (D.getD k md0).ms.length - i) 0 (Nat.zero_le _) (cN C) (eT C) ?_
 intro i hi11
 have hi := hi11
 refine cA ?_
 refine bN C C C C C C (fun h12 => ?_) (fun h12 => ?_)
 refine bQ (jX C (cE (fD (cA (aI C (cR 4 C C C C (aD ((hd.at (k := k) (by omega)).m))) ?_)))))
 refine aI C (bL (us := [jI ((((D.getD k md0).ms).getD i mm0).a), jI ((((D.getD k md0).ms).getD i mm0).d), jI ((((D.getD k md0).ms).getD i mm0).w), jI ((((D.getD k md0).ms).getD i mm0).o)]) C C C C (aD ((hd.at (k := k) (by omega)).m)) (by omega) C (bY mmC 4 (fun _ => C) ((D.getD k md0).ms) mm0 (show i < _ by omega) C)) (cL C (bG (z := .agg #[jI 0, jI 0, jI 0, jI 0]) C C) ?_)
 intro b13
 refine bE (cs' := #[jI ((((D.getD k md0).ms).getD i mm0).a), jI ((((D.getD k md0).ms).getD i mm0).d), jI ((((D.getD k md0).ms).getD i mm0).w), jI ((((D.getD k md0).ms).getD i mm0).o)]) (i := 0) (off := 0) (us := [jI ((((D.getD k md0).ms).getD i mm0).a), jI ((((D.getD k md0).ms).getD i mm0).d), jI ((((D.getD k md0).ms).getD i mm0).w), jI ((((D.getD k md0).ms).getD i mm0).o)]) C C C C C C C (aB C (aB C (aB C (aB C bC)))) C C C (bQ (cG 1 C (aI C (bM 3 C C C) (aI C (aC C C C (aA 0 C C)) ?_))))
 refine nQ (R := (fun u_ p_ => u_ = .tuple #[] ∧ p_ = bigE [boxE b4 #[.slice (some ⟨g3, 0, none⟩) ((cntZ (D.getD k md0).ss.length ([] : List Int)).length) ((cntZ (D.getD k md0).ss.length ([] : List Int)).length)] 48, rowE 3 1 (.slice (some ⟨g3, 0, none⟩) ((cntZ (D.getD k md0).ss.length ([] : List Int)).length) ((cntZ (D.getD k md0).ss.length ([] : List Int)).length)) (incZ (cntZ (D.getD k md0).ss.length ((D.getD k md0).gs.map As.t ++ ((D.getD k md0).ms.take i).map Mm.o)) ((((D.getD k md0).ms).getD i mm0).o)).length ((incZ (cntZ (D.getD k md0).ss.length ((D.getD k md0).gs.map As.t ++ ((D.getD k md0).ms.take i).map Mm.o)) ((((D.getD k md0).ms).getD i mm0).o)).map (Value.int .i64))])) 1 C C C C C C (fun L w hX hm => jW b4 (.slice (some ⟨g3, 0, none⟩) ((cntZ (D.getD k md0).ss.length ([] : List Int)).length) ((cntZ (D.getD k md0).ss.length ([] : List Int)).length)) (cntZ (D.getD k md0).ss.length ((D.getD k md0).gs.map As.t ++ ((D.getD k md0).ms.take i).map Mm.o)) ((((D.getD k md0).ms).getD i mm0).o) _ L w hm (by rw [fT]; omega) (fun q => by have h9 := sR (n := (D.getD k md0).ss.length) (L := (D.getD k md0).gs.map As.t ++ ((D.getD k md0).ms.take i).map Mm.o) (M := 1000) (by simp only [List.length_append, List.length_map, List.length_take]; omega) q; omega)) ?_
 intro v14 p15 R16
 obtain ⟨rfl, rfl⟩ := R16
 rw [pW]
 refine dY (l' := [boxE b13 #[jI ((((D.getD k md0).ms).getD i mm0).a), jI ((((D.getD k md0).ms).getD i mm0).d), jI ((((D.getD k md0).ms).getD i mm0).w), jI ((((D.getD k md0).ms).getD i mm0).o)] 94, bigE [boxE b4 #[.slice (some ⟨g3, 0, none⟩) ((cntZ (D.getD k md0).ss.length ([] : List Int)).length) ((cntZ (D.getD k md0).ss.length ([] : List Int)).length)] 48, rowE 3 1 (.slice (some ⟨g3, 0, none⟩) ((cntZ (D.getD k md0).ss.length ([] : List Int)).length) ((cntZ (D.getD k md0).ss.length ([] : List Int)).length)) (cntZ (D.getD k md0).ss.length ((D.getD k md0).gs.map As.t ++ ((D.getD k md0).ms.take i).map Mm.o ++ [(((D.getD k md0).ms).getD i mm0).o])).length ((cntZ (D.getD k md0).ss.length ((D.getD k md0).gs.map As.t ++ ((D.getD k md0).ms.take i).map Mm.o ++ [(((D.getD k md0).ms).getD i mm0).o])).map (Value.int .i64))], boxE b2 #[(D.getD k md0).sv, (D.getD k md0).av, (D.getD k md0).iv, (D.getD k md0).mv] 35, boxE b1 #[v] 26]) C ?_
 refine bK (cK (aO (aI C (dO C C C) (dA 1 C ?_))))
 refine dI [boxE b13 #[jI ((((D.getD k md0).ms).getD i mm0).a), jI ((((D.getD k md0).ms).getD i mm0).d), jI ((((D.getD k md0).ms).getD i mm0).w), jI ((((D.getD k md0).ms).getD i mm0).o)] 94, bigE [boxE b4 #[.slice (some ⟨g3, 0, none⟩) ((cntZ (D.getD k md0).ss.length ([] : List Int)).length) ((cntZ (D.getD k md0).ss.length ([] : List Int)).length)] 48, rI9 3 (.slice (some ⟨g3, 0, none⟩) ((cntZ (D.getD k md0).ss.length ([] : List Int)).length) ((cntZ (D.getD k md0).ss.length ([] : List Int)).length)) (cntZ (D.getD k md0).ss.length ((D.getD k md0).gs.map As.t ++ ((D.getD k md0).ms.take (i + 1)).map Mm.o))], boxE b2 #[(D.getD k md0).sv, (D.getD k md0).av, (D.getD k md0).iv, (D.getD k md0).mv] 35, boxE b1 #[v] 26] (fun w hm => by rw [show (D.getD k md0).gs.map As.t ++ ((D.getD k md0).ms.take (i + 1)).map Mm.o = (D.getD k md0).gs.map As.t ++ ((D.getD k md0).ms.take i).map Mm.o ++ [(((D.getD k md0).ms).getD i mm0).o] by rw [mF Mm.o mm0 (by omega), List.append_assoc]]; exact hm) ?_
 exact cB (i + 1) (by omega) (by omega) (cN C) (eO [1, 0, 0] C)
 refine bQ (kD C ?_)
 refine bI (dC ?_)
 refine aM (aR (eM (aI C (bM 2 C C C) (aI C (aC C C C (aA 1 C C)) (aI C (dL C C C (aD ((hd.at (k := k) (by omega)).x))) (aP 1 C (bD ?_)))))))
 refine fB [bigE [boxE b4 #[.slice (some ⟨g3, 0, none⟩) ((cntZ (D.getD k md0).ss.length ([] : List Int)).length) ((cntZ (D.getD k md0).ss.length ([] : List Int)).length)] 48, rI9 3 (.slice (some ⟨g3, 0, none⟩) ((cntZ (D.getD k md0).ss.length ([] : List Int)).length) ((cntZ (D.getD k md0).ss.length ([] : List Int)).length)) (cntZ (D.getD k md0).ss.length ((D.getD k md0).gs.map As.t ++ (D.getD k md0).ms.map Mm.o ++ ((D.getD k md0).xs.take 0).flatMap (xoK D)))], boxE b2 #[(D.getD k md0).sv, (D.getD k md0).av, (D.getD k md0).iv, (D.getD k md0).mv] 35, boxE b1 #[v] 26] (fun w hm => by rw [show (D.getD k md0).gs.map As.t ++ (D.getD k md0).ms.map Mm.o ++ ((D.getD k md0).xs.take 0).flatMap (xoK D) = (D.getD k md0).gs.map As.t ++ ((D.getD k md0).ms.take i).map Mm.o by rw [List.take_zero, List.flatMap_nil, List.append_nil, show i = (D.getD k md0).ms.length by omega, List.take_length]]; exact hm) ?_
 refine gK (α := Nat) [0, 1, 2, 4, 5, 6, 7, 31, 43, 52, 53] C (fun i => [bigE [boxE b4 #[.slice (some ⟨g3, 0, none⟩) ((cntZ (D.getD k md0).ss.length ([] : List Int)).length) ((cntZ (D.getD k md0).ss.length ([] : List Int)).length)] 48, rI9 3 (.slice (some ⟨g3, 0, none⟩) ((cntZ (D.getD k md0).ss.length ([] : List Int)).length) ((cntZ (D.getD k md0).ss.length ([] : List Int)).length)) (cntZ (D.getD k md0).ss.length ((D.getD k md0).gs.map As.t ++ (D.getD k md0).ms.map Mm.o ++ ((D.getD k md0).xs.take i).flatMap (xoK D)))], boxE b2 #[(D.getD k md0).sv, (D.getD k md0).av, (D.getD k md0).iv, (D.getD k md0).mv] 35, boxE b1 #[v] 26]) (fun i => [(54, jI (i : Int))]) (fun i => i ≤ (D.getD k md0).xs.length) (fun i => (D.getD k md0).xs.length - i) 0 (Nat.zero_le _) (cN C) (eT C) ?_
 intro i hi17
 have hi := hi17
 have hfx := uG (D := D) (L := (D.getD k md0).xs) i hi
 refine cA ?_
 refine bN C C C C C C (fun h18 => ?_) (fun h18 => ?_)
 refine bQ (jX C (cE (fD (cA (aI C (cR 3 C C C C (aD ((hd.at (k := k) (by omega)).x))) ?_)))))
 refine aI C (bL (us := [jI ((((D.getD k md0).xs).getD i ix0).m), jI ((((D.getD k md0).xs).getD i ix0).p), (((D.getD k md0).xs).getD i ix0).pv]) C C C C (aD ((hd.at (k := k) (by omega)).x)) (by omega) C (bY ixC 3 (fun _ => C) ((D.getD k md0).xs) ix0 (show i < _ by omega) C)) (cL C (bG (z := .agg #[jI 0, jI 0, .slice none 0 0]) C C) ?_)
 intro b19
 refine bE (cs' := #[jI ((((D.getD k md0).xs).getD i ix0).m), jI ((((D.getD k md0).xs).getD i ix0).p), (((D.getD k md0).xs).getD i ix0).pv]) (i := 0) (off := 0) (us := [jI ((((D.getD k md0).xs).getD i ix0).m), jI ((((D.getD k md0).xs).getD i ix0).p), (((D.getD k md0).xs).getD i ix0).pv]) C C C C C C C (aB C (aB C (aB ((hd.at (k := k) (by omega)).p.at (k := i) (by omega)).one bC))) C C C (bQ (cA ?_))
 obtain ⟨⟨hm0, hm1⟩, hpe⟩ := hins i (by omega)
 refine aI C (bM 0 C C C) (aI C (aC C C C (aA 3 C C)) (aI C (bM 0 C C C) (aI C (aC C C C (aA 0 C C)) (aI C (cR 4 C C C C (aD hd.row)) ?_))))
 refine aI C (bL (us := [(D.getD (((((D.getD k md0).xs).getD i ix0).m).toNat) md0).sv, (D.getD (((((D.getD k md0).xs).getD i ix0).m).toNat) md0).av, (D.getD (((((D.getD k md0).xs).getD i ix0).m).toNat) md0).iv, (D.getD (((((D.getD k md0).xs).getD i ix0).m).toNat) md0).mv]) C C C C (aD hd.row) (by omega) C (bY mdC 4 (fun _ => C) D md0 (show ((((D.getD k md0).xs).getD i ix0).m).toNat < _ by omega) C)) (cL C (bG (z := .agg #[.slice none 0 0, .slice none 0 0, .slice none 0 0, .slice none 0 0]) C C) ?_)
 intro b20
 refine bE (cs' := #[(D.getD (((((D.getD k md0).xs).getD i ix0).m).toNat) md0).sv, (D.getD (((((D.getD k md0).xs).getD i ix0).m).toNat) md0).av, (D.getD (((((D.getD k md0).xs).getD i ix0).m).toNat) md0).iv, (D.getD (((((D.getD k md0).xs).getD i ix0).m).toNat) md0).mv]) (i := 0) (off := 0) (us := [(D.getD (((((D.getD k md0).xs).getD i ix0).m).toNat) md0).sv, (D.getD (((((D.getD k md0).xs).getD i ix0).m).toNat) md0).av, (D.getD (((((D.getD k md0).xs).getD i ix0).m).toNat) md0).iv, (D.getD (((((D.getD k md0).xs).getD i ix0).m).toNat) md0).mv]) C C C C C C C (aB (hd.at (k := ((((D.getD k md0).xs).getD i ix0).m).toNat) (by omega)).s.one (aB (hd.at (k := ((((D.getD k md0).xs).getD i ix0).m).toNat) (by omega)).g.one (aB (hd.at (k := ((((D.getD k md0).xs).getD i ix0).m).toNat) (by omega)).x.one (aB (hd.at (k := ((((D.getD k md0).xs).getD i ix0).m).toNat) (by omega)).m.one bC)))) C C C ?_
 refine bQ (cA (aI C (aW (cs := [(D.getD (((((D.getD k md0).xs).getD i ix0).m).toNat) md0).sv, (D.getD (((((D.getD k md0).xs).getD i ix0).m).toNat) md0).av, (D.getD (((((D.getD k md0).xs).getD i ix0).m).toNat) md0).iv, (D.getD (((((D.getD k md0).xs).getD i ix0).m).toNat) md0).mv]) C C C C C (aT 0 C 0 C)) ?_))
 refine fC C C C (aV C C (fun w hm => gZ (D.getD (((((D.getD k md0).xs).getD i ix0).m).toNat) md0) w ((hd.at (by omega)).below hm.bel))) ?_
 intro v21 p22 R23
 subst R23
 refine aI C (dL C C C (aJ 0 C)) (aP 1 C (bD ?_))
 refine fB [rowE 3 1 v21 ((ptsK (D.getD (((((D.getD k md0).xs).getD i ix0).m).toNat) md0)).length) ((ptsK (D.getD (((((D.getD k md0).xs).getD i ix0).m).toNat) md0)).map (Value.int .i64)), boxE b20 #[(D.getD (((((D.getD k md0).xs).getD i ix0).m).toNat) md0).sv, (D.getD (((((D.getD k md0).xs).getD i ix0).m).toNat) md0).av, (D.getD (((((D.getD k md0).xs).getD i ix0).m).toNat) md0).iv, (D.getD (((((D.getD k md0).xs).getD i ix0).m).toNat) md0).mv] 35, boxE b19 #[jI ((((D.getD k md0).xs).getD i ix0).m), jI ((((D.getD k md0).xs).getD i ix0).p), (((D.getD k md0).xs).getD i ix0).pv] 63, bigE [boxE b4 #[.slice (some ⟨g3, 0, none⟩) ((cntZ (D.getD k md0).ss.length ([] : List Int)).length) ((cntZ (D.getD k md0).ss.length ([] : List Int)).length)] 48, rI9 3 (.slice (some ⟨g3, 0, none⟩) ((cntZ (D.getD k md0).ss.length ([] : List Int)).length) ((cntZ (D.getD k md0).ss.length ([] : List Int)).length)) (cntZ (D.getD k md0).ss.length ((D.getD k md0).gs.map As.t ++ (D.getD k md0).ms.map Mm.o ++ ((D.getD k md0).xs.take i).flatMap (xoK D) ++ xoA D ((D.getD k md0).xs.getD i ix0) 0))], boxE b2 #[(D.getD k md0).sv, (D.getD k md0).av, (D.getD k md0).iv, (D.getD k md0).mv] 35, boxE b1 #[v] 26] (fun w hm => by rw [show (D.getD k md0).gs.map As.t ++ (D.getD k md0).ms.map Mm.o ++ ((D.getD k md0).xs.take i).flatMap (xoK D) ++ xoA D ((D.getD k md0).xs.getD i ix0) 0 = (D.getD k md0).gs.map As.t ++ (D.getD k md0).ms.map Mm.o ++ ((D.getD k md0).xs.take i).flatMap (xoK D) from List.append_nil _]; exact hm) ?_
 refine gK (α := Nat) [0, 1, 2, 4, 5, 6, 7, 13, 14, 31, 43, 52, 53, 54, 55, 65, 66] C (fun j => [rowE 3 1 v21 ((ptsK (D.getD (((((D.getD k md0).xs).getD i ix0).m).toNat) md0)).length) ((ptsK (D.getD (((((D.getD k md0).xs).getD i ix0).m).toNat) md0)).map (Value.int .i64)), boxE b20 #[(D.getD (((((D.getD k md0).xs).getD i ix0).m).toNat) md0).sv, (D.getD (((((D.getD k md0).xs).getD i ix0).m).toNat) md0).av, (D.getD (((((D.getD k md0).xs).getD i ix0).m).toNat) md0).iv, (D.getD (((((D.getD k md0).xs).getD i ix0).m).toNat) md0).mv] 35, boxE b19 #[jI ((((D.getD k md0).xs).getD i ix0).m), jI ((((D.getD k md0).xs).getD i ix0).p), (((D.getD k md0).xs).getD i ix0).pv] 63, bigE [boxE b4 #[.slice (some ⟨g3, 0, none⟩) ((cntZ (D.getD k md0).ss.length ([] : List Int)).length) ((cntZ (D.getD k md0).ss.length ([] : List Int)).length)] 48, rI9 3 (.slice (some ⟨g3, 0, none⟩) ((cntZ (D.getD k md0).ss.length ([] : List Int)).length) ((cntZ (D.getD k md0).ss.length ([] : List Int)).length)) (cntZ (D.getD k md0).ss.length ((D.getD k md0).gs.map As.t ++ (D.getD k md0).ms.map Mm.o ++ ((D.getD k md0).xs.take i).flatMap (xoK D) ++ xoA D ((D.getD k md0).xs.getD i ix0) j))], boxE b2 #[(D.getD k md0).sv, (D.getD k md0).av, (D.getD k md0).iv, (D.getD k md0).mv] 35, boxE b1 #[v] 26]) (fun j => [(67, jI (j : Int))]) (fun j => j ≤ (ptsK (D.getD (((((D.getD k md0).xs).getD i ix0).m).toNat) md0)).length) (fun j => (ptsK (D.getD (((((D.getD k md0).xs).getD i ix0).m).toNat) md0)).length - j) 0 (Nat.zero_le _) (cN C) (eT C) ?_
 intro j hi24
 have hj := hi24
 have hpl := iD (D.getD (((((D.getD k md0).xs).getD i ix0).m).toNat) md0)
 have hxa := nE D ((D.getD k md0).xs.getD i ix0) j
 refine cA ?_
 refine bN C C C C C C (fun h25 => ?_) (fun h25 => ?_)
 refine bQ (jX C (cE (fD (aF (cG 1 C (aI C (cR 1 C C C C (aJ 0 C)) (aI C (aQ (u := jI ((ptsK (D.getD (((((D.getD k md0).xs).getD i ix0).m).toNat) md0)).getD j 0)) C C C (aJ 0 C) (cJ (show _ < (ptsK (D.getD (((((D.getD k md0).xs).getD i ix0).m).toNat) md0)).length by omega))) ?_)))))))
 refine aP 2 C (cA ?_)
 have hpt := fU (m := (D.getD (((((D.getD k md0).xs).getD i ix0).m).toNat) md0)) (j := j) (by omega)
 have hkd := dH hpt
 refine aI C (bM 0 C C C) (aI C (aC C C C (aA 1 C C)) (aH 1 C (aI C (cR 3 C C C C (aD ((hd.at (k := ((((D.getD k md0).xs).getD i ix0).m).toNat) (by omega)).s))) (aI C (aZ (k0 := 0) C C C (aD ((hd.at (k := ((((D.getD k md0).xs).getD i ix0).m).toNat) (by omega)).s)) (by omega)) ?_))))
 refine aI C (aQ (u := jI ((((D.getD (((((D.getD k md0).xs).getD i ix0).m).toNat) md0).ss).getD (((ptsK (D.getD (((((D.getD k md0).xs).getD i ix0).m).toNat) md0)).getD j 0).toNat) sg0).k)) C C C (aD ((hd.at (k := ((((D.getD k md0).xs).getD i ix0).m).toNat) (by omega)).s)) ((bR sgC 3 (fun _ => C) ((D.getD (((((D.getD k md0).xs).getD i ix0).m).toNat) md0).ss) sg0 (show ((ptsK (D.getD (((((D.getD k md0).xs).getD i ix0).m).toNat) md0)).getD j 0).toNat < _ by omega) (by decide)).trans C)) (bU C C C C C C (fun h26 => ?_) (fun h26 => ?_))
 refine bQ (aK C (cG 1 C (aI C (bM 2 C C C) (aI C (aC C C C (aA 2 C C)) (aH 1 C (aI C (cR 1 C C C C (aD ((hd.at (k := k) (by omega)).p.at (k := i) (by omega)))) (aI C (aQ (u := jI (((((D.getD k md0).xs).getD i ix0).ps).getD j 0)) C C C (aD ((hd.at (k := k) (by omega)).p.at (k := i) (by omega))) (cJ (show _ < ((((D.getD k md0).xs).getD i ix0).ps).length by omega))) ?_)))))))
 refine nQ (R := (fun u_ p_ => u_ = .tuple #[] ∧ p_ = bigE [boxE b4 #[.slice (some ⟨g3, 0, none⟩) ((cntZ (D.getD k md0).ss.length ([] : List Int)).length) ((cntZ (D.getD k md0).ss.length ([] : List Int)).length)] 48, rowE 3 1 (.slice (some ⟨g3, 0, none⟩) ((cntZ (D.getD k md0).ss.length ([] : List Int)).length) ((cntZ (D.getD k md0).ss.length ([] : List Int)).length)) (incZ (cntZ (D.getD k md0).ss.length ((D.getD k md0).gs.map As.t ++ (D.getD k md0).ms.map Mm.o ++ ((D.getD k md0).xs.take i).flatMap (xoK D) ++ xoA D ((D.getD k md0).xs.getD i ix0) j)) (((((D.getD k md0).xs).getD i ix0).ps).getD j 0)).length ((incZ (cntZ (D.getD k md0).ss.length ((D.getD k md0).gs.map As.t ++ (D.getD k md0).ms.map Mm.o ++ ((D.getD k md0).xs.take i).flatMap (xoK D) ++ xoA D ((D.getD k md0).xs.getD i ix0) j)) (((((D.getD k md0).xs).getD i ix0).ps).getD j 0)).map (Value.int .i64))])) 3 C C C C C C (fun L w hX hm => jW b4 (.slice (some ⟨g3, 0, none⟩) ((cntZ (D.getD k md0).ss.length ([] : List Int)).length) ((cntZ (D.getD k md0).ss.length ([] : List Int)).length)) (cntZ (D.getD k md0).ss.length ((D.getD k md0).gs.map As.t ++ (D.getD k md0).ms.map Mm.o ++ ((D.getD k md0).xs.take i).flatMap (xoK D) ++ xoA D ((D.getD k md0).xs.getD i ix0) j)) (((((D.getD k md0).xs).getD i ix0).ps).getD j 0) _ L w hm (by rw [fT]; omega) (fun q => by have h9 := sR (n := (D.getD k md0).ss.length) (L := (D.getD k md0).gs.map As.t ++ (D.getD k md0).ms.map Mm.o ++ ((D.getD k md0).xs.take i).flatMap (xoK D) ++ xoA D ((D.getD k md0).xs.getD i ix0) j) (M := 1000) (by simp only [List.length_append, List.length_map, List.length_take]; omega) q; omega)) ?_
 intro v27 p28 R29
 obtain ⟨rfl, rfl⟩ := R29
 rw [pW]
 refine dY (l' := [rowE 3 1 v21 ((ptsK (D.getD (((((D.getD k md0).xs).getD i ix0).m).toNat) md0)).length) ((ptsK (D.getD (((((D.getD k md0).xs).getD i ix0).m).toNat) md0)).map (Value.int .i64)), boxE b20 #[(D.getD (((((D.getD k md0).xs).getD i ix0).m).toNat) md0).sv, (D.getD (((((D.getD k md0).xs).getD i ix0).m).toNat) md0).av, (D.getD (((((D.getD k md0).xs).getD i ix0).m).toNat) md0).iv, (D.getD (((((D.getD k md0).xs).getD i ix0).m).toNat) md0).mv] 35, boxE b19 #[jI ((((D.getD k md0).xs).getD i ix0).m), jI ((((D.getD k md0).xs).getD i ix0).p), (((D.getD k md0).xs).getD i ix0).pv] 63, bigE [boxE b4 #[.slice (some ⟨g3, 0, none⟩) ((cntZ (D.getD k md0).ss.length ([] : List Int)).length) ((cntZ (D.getD k md0).ss.length ([] : List Int)).length)] 48, rowE 3 1 (.slice (some ⟨g3, 0, none⟩) ((cntZ (D.getD k md0).ss.length ([] : List Int)).length) ((cntZ (D.getD k md0).ss.length ([] : List Int)).length)) (cntZ (D.getD k md0).ss.length ((D.getD k md0).gs.map As.t ++ (D.getD k md0).ms.map Mm.o ++ ((D.getD k md0).xs.take i).flatMap (xoK D) ++ xoA D ((D.getD k md0).xs.getD i ix0) j ++ [((((D.getD k md0).xs).getD i ix0).ps).getD j 0])).length ((cntZ (D.getD k md0).ss.length ((D.getD k md0).gs.map As.t ++ (D.getD k md0).ms.map Mm.o ++ ((D.getD k md0).xs.take i).flatMap (xoK D) ++ xoA D ((D.getD k md0).xs.getD i ix0) j ++ [((((D.getD k md0).xs).getD i ix0).ps).getD j 0])).map (Value.int .i64))], boxE b2 #[(D.getD k md0).sv, (D.getD k md0).av, (D.getD k md0).iv, (D.getD k md0).mv] 35, boxE b1 #[v] 26]) C ?_
 refine bK (cK (aO (aI C (dO C C C) (dA 1 C ?_))))
 refine dI [rowE 3 1 v21 ((ptsK (D.getD (((((D.getD k md0).xs).getD i ix0).m).toNat) md0)).length) ((ptsK (D.getD (((((D.getD k md0).xs).getD i ix0).m).toNat) md0)).map (Value.int .i64)), boxE b20 #[(D.getD (((((D.getD k md0).xs).getD i ix0).m).toNat) md0).sv, (D.getD (((((D.getD k md0).xs).getD i ix0).m).toNat) md0).av, (D.getD (((((D.getD k md0).xs).getD i ix0).m).toNat) md0).iv, (D.getD (((((D.getD k md0).xs).getD i ix0).m).toNat) md0).mv] 35, boxE b19 #[jI ((((D.getD k md0).xs).getD i ix0).m), jI ((((D.getD k md0).xs).getD i ix0).p), (((D.getD k md0).xs).getD i ix0).pv] 63, bigE [boxE b4 #[.slice (some ⟨g3, 0, none⟩) ((cntZ (D.getD k md0).ss.length ([] : List Int)).length) ((cntZ (D.getD k md0).ss.length ([] : List Int)).length)] 48, rI9 3 (.slice (some ⟨g3, 0, none⟩) ((cntZ (D.getD k md0).ss.length ([] : List Int)).length) ((cntZ (D.getD k md0).ss.length ([] : List Int)).length)) (cntZ (D.getD k md0).ss.length ((D.getD k md0).gs.map As.t ++ (D.getD k md0).ms.map Mm.o ++ ((D.getD k md0).xs.take i).flatMap (xoK D) ++ xoA D ((D.getD k md0).xs.getD i ix0) (j + 1)))], boxE b2 #[(D.getD k md0).sv, (D.getD k md0).av, (D.getD k md0).iv, (D.getD k md0).mv] 35, boxE b1 #[v] 26] (fun w hm => by rw [show (D.getD k md0).gs.map As.t ++ (D.getD k md0).ms.map Mm.o ++ ((D.getD k md0).xs.take i).flatMap (xoK D) ++ xoA D ((D.getD k md0).xs.getD i ix0) (j + 1) = (D.getD k md0).gs.map As.t ++ (D.getD k md0).ms.map Mm.o ++ ((D.getD k md0).xs.take i).flatMap (xoK D) ++ xoA D ((D.getD k md0).xs.getD i ix0) j ++ [((((D.getD k md0).xs).getD i ix0).ps).getD j 0] by rw [oE (by omega), ← List.append_assoc]]; exact hm) ?_
 exact cB (j + 1) (by omega) (by omega) (cN C) (eT C)
 refine bQ (gM C (cK (aO (aI C (dO C C C) (dA 1 C ?_)))))
 refine dI [rowE 3 1 v21 ((ptsK (D.getD (((((D.getD k md0).xs).getD i ix0).m).toNat) md0)).length) ((ptsK (D.getD (((((D.getD k md0).xs).getD i ix0).m).toNat) md0)).map (Value.int .i64)), boxE b20 #[(D.getD (((((D.getD k md0).xs).getD i ix0).m).toNat) md0).sv, (D.getD (((((D.getD k md0).xs).getD i ix0).m).toNat) md0).av, (D.getD (((((D.getD k md0).xs).getD i ix0).m).toNat) md0).iv, (D.getD (((((D.getD k md0).xs).getD i ix0).m).toNat) md0).mv] 35, boxE b19 #[jI ((((D.getD k md0).xs).getD i ix0).m), jI ((((D.getD k md0).xs).getD i ix0).p), (((D.getD k md0).xs).getD i ix0).pv] 63, bigE [boxE b4 #[.slice (some ⟨g3, 0, none⟩) ((cntZ (D.getD k md0).ss.length ([] : List Int)).length) ((cntZ (D.getD k md0).ss.length ([] : List Int)).length)] 48, rI9 3 (.slice (some ⟨g3, 0, none⟩) ((cntZ (D.getD k md0).ss.length ([] : List Int)).length) ((cntZ (D.getD k md0).ss.length ([] : List Int)).length)) (cntZ (D.getD k md0).ss.length ((D.getD k md0).gs.map As.t ++ (D.getD k md0).ms.map Mm.o ++ ((D.getD k md0).xs.take i).flatMap (xoK D) ++ xoA D ((D.getD k md0).xs.getD i ix0) (j + 1)))], boxE b2 #[(D.getD k md0).sv, (D.getD k md0).av, (D.getD k md0).iv, (D.getD k md0).mv] 35, boxE b1 #[v] 26] (fun w hm => by rw [show (D.getD k md0).gs.map As.t ++ (D.getD k md0).ms.map Mm.o ++ ((D.getD k md0).xs.take i).flatMap (xoK D) ++ xoA D ((D.getD k md0).xs.getD i ix0) (j + 1) = (D.getD k md0).gs.map As.t ++ (D.getD k md0).ms.map Mm.o ++ ((D.getD k md0).xs.take i).flatMap (xoK D) ++ xoA D ((D.getD k md0).xs.getD i ix0) j by rw [uS (by omega)]]; exact hm) ?_
 exact cB (j + 1) (by omega) (by omega) (cN C) (eT C)
 refine bQ (kD C ?_)
 refine bI (dC ?_)
 refine aM (cK (aO (aI C (dO C C C) (dA 1 C ?_))))
 refine dI [rowE 3 1 v21 ((ptsK (D.getD (((((D.getD k md0).xs).getD i ix0).m).toNat) md0)).length) ((ptsK (D.getD (((((D.getD k md0).xs).getD i ix0).m).toNat) md0)).map (Value.int .i64)), boxE b20 #[(D.getD (((((D.getD k md0).xs).getD i ix0).m).toNat) md0).sv, (D.getD (((((D.getD k md0).xs).getD i ix0).m).toNat) md0).av, (D.getD (((((D.getD k md0).xs).getD i ix0).m).toNat) md0).iv, (D.getD (((((D.getD k md0).xs).getD i ix0).m).toNat) md0).mv] 35, boxE b19 #[jI ((((D.getD k md0).xs).getD i ix0).m), jI ((((D.getD k md0).xs).getD i ix0).p), (((D.getD k md0).xs).getD i ix0).pv] 63, bigE [boxE b4 #[.slice (some ⟨g3, 0, none⟩) ((cntZ (D.getD k md0).ss.length ([] : List Int)).length) ((cntZ (D.getD k md0).ss.length ([] : List Int)).length)] 48, rI9 3 (.slice (some ⟨g3, 0, none⟩) ((cntZ (D.getD k md0).ss.length ([] : List Int)).length) ((cntZ (D.getD k md0).ss.length ([] : List Int)).length)) (cntZ (D.getD k md0).ss.length ((D.getD k md0).gs.map As.t ++ (D.getD k md0).ms.map Mm.o ++ ((D.getD k md0).xs.take (i + 1)).flatMap (xoK D)))], boxE b2 #[(D.getD k md0).sv, (D.getD k md0).av, (D.getD k md0).iv, (D.getD k md0).mv] 35, boxE b1 #[v] 26] (fun w hm => by rw [show (D.getD k md0).gs.map As.t ++ (D.getD k md0).ms.map Mm.o ++ ((D.getD k md0).xs.take (i + 1)).flatMap (xoK D) = (D.getD k md0).gs.map As.t ++ (D.getD k md0).ms.map Mm.o ++ ((D.getD k md0).xs.take i).flatMap (xoK D) ++ xoA D ((D.getD k md0).xs.getD i ix0) j by rw [kF (xoK D) ix0 (by omega), ← List.append_assoc, show j = (ptsK (D.getD (((((D.getD k md0).xs).getD i ix0).m).toNat) md0)).length by omega]; rfl]; exact hm) ?_
 exact cB (i + 1) (by omega) (by omega) (cN C) (eO [3, 0, 0] C)
 refine bQ (kD C ?_)
 refine bI (dC ?_)
 refine aM (aR (cA ?_))
 refine iE 3 [2, 1, 0] C C (by decide) ?_
 refine gU [boxE b4 #[.slice (some ⟨g3, 0, none⟩) ((cntZ (D.getD k md0).ss.length ([] : List Int)).length) ((cntZ (D.getD k md0).ss.length ([] : List Int)).length)] 48, rowE 3 1 (.slice (some ⟨g3, 0, none⟩) ((cntZ (D.getD k md0).ss.length ([] : List Int)).length) ((cntZ (D.getD k md0).ss.length ([] : List Int)).length)) ((cntZ (D.getD k md0).ss.length ((D.getD k md0).gs.map As.t ++ (D.getD k md0).ms.map Mm.o ++ ((D.getD k md0).xs.take i).flatMap (xoK D))).length) (mI (cntZ (D.getD k md0).ss.length ((D.getD k md0).gs.map As.t ++ (D.getD k md0).ms.map Mm.o ++ ((D.getD k md0).xs.take i).flatMap (xoK D)))), boxE b2 #[(D.getD k md0).sv, (D.getD k md0).av, (D.getD k md0).iv, (D.getD k md0).mv] 35, boxE b1 #[v] 26] eQ ?_
 refine aI C (aC C C C (aA 0 C C)) (aP 1 C ?_)
 exact aN (gE (post := [rowE 3 1 (.slice (some ⟨g3, 0, none⟩) ((cntZ (D.getD k md0).ss.length ([] : List Int)).length) ((cntZ (D.getD k md0).ss.length ([] : List Int)).length)) ((cntZ (D.getD k md0).ss.length ((D.getD k md0).gs.map As.t ++ (D.getD k md0).ms.map Mm.o ++ ((D.getD k md0).xs.take i).flatMap (xoK D))).length) (mI (cntZ (D.getD k md0).ss.length ((D.getD k md0).gs.map As.t ++ (D.getD k md0).ms.map Mm.o ++ ((D.getD k md0).xs.take i).flatMap (xoK D))))]) C C (eO [1] C) (by rw [show i = (D.getD k md0).xs.length by omega, List.take_length]; rfl))
theorem mW (k : Int) (w : World)  :
   Calls Try.prog 54 #[.int .i64 k] w (Ans w (.bool (decide (1 ≤ k ∧ k ≤ 3)))) := by
 refine bW (N := 13) (args := [jI k]) Try.func54 C C (bA 1 C (aF (cG 1 C ?_)))
 refine bU C C C C C C (fun h1 => ?_) (fun h1 => ?_)
 refine aP 9 C ?_
 exact aN (aX C C (congrArg _ (decide_eq_true (by omega)).symm))
 refine aH 2 C (bU C C C C C C (fun h2 => ?_) (fun h2 => ?_))
 refine aP 6 C ?_
 exact aN (aX C C (congrArg _ (decide_eq_true (by omega)).symm))
 refine aH 3 C (bU C C C C C C (fun h3 => ?_) (fun h3 => ?_))
 refine aP 2 C ?_
 exact aN (aX C C (congrArg _ (decide_eq_true (by omega)).symm))
 refine aP 2 C ?_
 exact aN (aX C C (congrArg _ (decide_eq_false (by omega)).symm))
theorem rM (x : Sg) (w : World)  :
   Calls Try.prog 53 #[.agg #[.int .i64 x.k, .int .i64 x.w, .int .i64 x.i]] w (Ans w (.bool (pB (SgP x)))) := by
 refine bW (N := 26) (args := [.agg #[jI x.k, jI x.w, jI x.i]]) Try.func53 C C (cA ?_)
 refine cL C (cY C C) ?_
 intro b1
 refine aP 1 C (eM (aI C (bM 0 C C C) (aI C (aC C C C (aA 0 C C)) ?_)))
 refine dW C (aV C C (fun w hm => bJ (fN (dD _ _ _ w)))) (bT (fun h2 => ?_) (fun h2 => ?_))
 obtain ⟨h2a, h2b⟩ := (dQ _ _ _).1 h2
 refine aH 2 C (aI C (bM 1 C C C) (aI C (aC C C C (aA 0 C C)) ?_))
 refine dW C (aV C C (fun w hm => bJ (fN (dD _ _ _ w)))) (bT (fun h3 => ?_) (fun h3 => ?_))
 obtain ⟨h3a, h3b⟩ := (dQ _ _ _).1 h3
 refine aP 2 C (aS C (cE (cA (aI C (bM 2 C C C) (aI C (aC C C C (aA 0 C C)) ?_)))))
 refine bU C C C C C C (fun h4 => ?_) (fun h4 => ?_)
 refine aP 11 C ?_
 exact aN (aX C C (congrArg _ (dG ⟨⟨by omega, by omega⟩, ⟨by omega, by omega⟩, ⟨by omega, by omega⟩, by omega⟩).symm))
 refine aH 1 C (aI C (bM 0 C C C) (aI C (aC C C C (aA 0 C C)) ?_))
 refine bU C C C C C C (fun h5 => ?_) (fun h5 => ?_)
 refine aH 1 C (aI C (bM 2 C C C) (aI C (aC C C C (aA 0 C C)) ?_))
 refine dW C (aV C C (fun w hm => bJ (fN (dD _ _ _ w)))) (bT (fun h6 => ?_) (fun h6 => ?_))
 obtain ⟨h6a, h6b⟩ := (dQ _ _ _).1 h6
 refine aP 3 C ?_
 exact aN (aX C C (congrArg _ (dG ⟨⟨by omega, by omega⟩, ⟨by omega, by omega⟩, ⟨by omega, by omega⟩, by omega⟩).symm))
 have h6a := dK h6
 refine aP 3 C ?_
 exact aN (aX C C (congrArg _ (bX (fun hp => by first | (obtain ⟨⟨h1, h2⟩, ⟨h3, h4⟩, ⟨h5, h6⟩, h7⟩ := hp; omega))).symm))
 refine aP 7 C ?_
 exact aN (aX C C (congrArg _ (bX (fun hp => by first | (obtain ⟨⟨h1, h2⟩, ⟨h3, h4⟩, ⟨h5, h6⟩, h7⟩ := hp; omega))).symm))
 have h3a := dK h3
 refine aP 2 C (aK C (bA 1 C ?_))
 refine aN (aG ?_)
 exact aX C C (congrArg _ (bX (fun hp => by first | (obtain ⟨⟨h1, h2⟩, ⟨h3, h4⟩, ⟨h5, h6⟩, h7⟩ := hp; omega))).symm)
 have h2a := dK h2
 refine aP 7 C (aK C (cA (dA 1 C ?_)))
 refine aR (aN ?_)
 exact aG (aX C C (congrArg _ (bX (fun hp => by first | (obtain ⟨⟨h1, h2⟩, ⟨h3, h4⟩, ⟨h5, h6⟩, h7⟩ := hp; omega))).symm))
theorem pU (m : Md) (s : Int) (w : World) (hr : RdsMd w m) :
   Calls Try.prog 57 #[.agg #[m.sv, m.av, m.iv, m.mv], .int .i64 s] w (Ans w (.bool (pB (Drv m s)))) := by
 have hs9 := gL hr.s
 refine bW (N := 29) (args := [.agg #[m.sv, m.av, m.iv, m.mv], jI s]) Try.func57 C C (cA ?_)
 refine cL C (cY C C) ?_
 intro b1
 refine aP 1 C (aF (cG 1 C (aI C (bM 0 C C C) (aI C (aC C C C (aA 0 C C)) (aI C (dL C C C (aD ((hr).s))) (aI C (nC C C C) ?_))))))
 refine dW C (aV C C (fun w hm => bJ (fN (dD _ _ _ w)))) (bT (fun h2 => ?_) (fun h2 => ?_))
 obtain ⟨h2a, h2b⟩ := (dQ _ _ _).1 h2
 refine aH 1 C (aI C (bM 0 C C C) (aI C (aC C C C (aA 0 C C)) (aH 1 C (aI C (cR 3 C C C C (aD ((hr).s))) (aI C (aZ (k0 := 0) C C C (aD ((hr).s)) (by omega)) ?_)))))
 refine aI C (aQ (u := jI ((m.ss.getD (s.toNat) sg0).k)) C C C (aD ((hr).s)) ((bR sgC 3 (fun _ => C) m.ss sg0 (show s.toNat < _ by omega) (by decide)).trans C)) (bU C C C C C C (fun h3 => ?_) (fun h3 => ?_))
 refine aP 11 C ?_
 exact aN (aX C C (congrArg _ (dG (by have h9 := dH (m := m) (s := s) ⟨by omega, by omega⟩; first | exact .inl (by omega) | exact .inr (by omega))).symm))
 refine aH 1 C (aI C (bM 0 C C C) (aI C (aC C C C (aA 0 C C)) (aH 1 C (aI C (cR 3 C C C C (aD ((hr).s))) (aI C (aZ (k0 := 0) C C C (aD ((hr).s)) (by omega)) ?_)))))
 refine aI C (aQ (u := jI ((m.ss.getD (s.toNat) sg0).k)) C C C (aD ((hr).s)) ((bR sgC 3 (fun _ => C) m.ss sg0 (show s.toNat < _ by omega) (by decide)).trans C)) (bU C C C C C C (fun h4 => ?_) (fun h4 => ?_))
 refine aP 3 C ?_
 exact aN (aX C C (congrArg _ (dG (by have h9 := dH (m := m) (s := s) ⟨by omega, by omega⟩; first | exact .inl (by omega) | exact .inr (by omega))).symm))
 refine aP 3 C ?_
 exact aN (aX C C (congrArg _ (bX (fun hp => by first | (have h8 := hp.inn; have h9 := dH h8; obtain ⟨h6, h7⟩ := h8; rcases hp with hp | hp <;> omega))).symm))
 have h2a := dK h2
 refine aP 19 C ?_
 exact aN (aX C C (congrArg _ (bX (fun hp => by first | (have h8 := hp.inn; have h9 := dH h8; obtain ⟨h6, h7⟩ := h8; rcases hp with hp | hp <;> omega))).symm))
theorem vE (D : List Md) (m : Md) (x : Ix) (v : Value) (w : World) (hd : RdsDs w v D) (hr : RdsMd w m) (hxp : RdsW w x.pv 1 x.ps.length (x.ps.map (Value.int .i64))) (hx0 : 0 ≤ x.m ∧ x.m < D.length) (hxl : x.ps.length = (ptsK (D.getD x.m.toNat md0)).length) :
   Calls Try.prog 56 #[.agg #[v], .agg #[m.sv, m.av, m.iv, m.mv], .agg #[.int .i64 x.m, .int .i64 x.p, x.pv]] w (Ans w (.bool (pB (IxP D m x)))) := by
 have hd9 := gL hd.row
 have hs9 := gL hr.s
 refine bW (N := 59) (args := [.agg #[v], .agg #[m.sv, m.av, m.iv, m.mv], .agg #[jI x.m, jI x.p, x.pv]]) Try.func56 C C (cA ?_)
 refine cL C (cY C C) ?_
 intro b1
 refine cL C (cY C C) ?_
 intro b2
 refine cL C (cY C C) ?_
 intro b3
 refine aP 1 C (eM (aI C (bM 1 C C C) (aI C (aC C C C (aA 0 C C)) ?_)))
 refine dW C (aV C C (fun w hm => bJ (fN (dD _ _ _ w)))) (bT (fun h4 => ?_) (fun h4 => ?_))
 obtain ⟨h4a, h4b⟩ := (dQ _ _ _).1 h4
 refine aP 1 C (aS C (cE (cA (aI C (bM 0 C C C) (aI C (aC C C C (aA 2 C C)) (aI C (bM 0 C C C) (aI C (aC C C C (aA 0 C C)) (aI C (cR 4 C C C C (aD hd.row)) ?_))))))))
 refine aI C (bL (us := [(D.getD (x.m.toNat) md0).sv, (D.getD (x.m.toNat) md0).av, (D.getD (x.m.toNat) md0).iv, (D.getD (x.m.toNat) md0).mv]) C C C C (aD hd.row) (by omega) C (bY mdC 4 (fun _ => C) D md0 (show x.m.toNat < _ by omega) C)) (cL C (bG (z := .agg #[.slice none 0 0, .slice none 0 0, .slice none 0 0, .slice none 0 0]) C C) ?_)
 intro b5
 refine bE (cs' := #[(D.getD (x.m.toNat) md0).sv, (D.getD (x.m.toNat) md0).av, (D.getD (x.m.toNat) md0).iv, (D.getD (x.m.toNat) md0).mv]) (i := 0) (off := 0) (us := [(D.getD (x.m.toNat) md0).sv, (D.getD (x.m.toNat) md0).av, (D.getD (x.m.toNat) md0).iv, (D.getD (x.m.toNat) md0).mv]) C C C C C C C (aB (hd.at (k := x.m.toNat) (by omega)).s.one (aB (hd.at (k := x.m.toNat) (by omega)).g.one (aB (hd.at (k := x.m.toNat) (by omega)).x.one (aB (hd.at (k := x.m.toNat) (by omega)).m.one bC)))) C C C (bQ (eM (aI C (aW (cs := [(D.getD (x.m.toNat) md0).sv, (D.getD (x.m.toNat) md0).av, (D.getD (x.m.toNat) md0).iv, (D.getD (x.m.toNat) md0).mv]) C C C C C (aT 0 C 0 C)) ?_)))
 refine fC C C C (aV C C (fun w hm => gZ (D.getD (x.m.toNat) md0) w ((hd.at (by omega)).below hm.bel))) ?_
 intro v6 p7 R8
 subst R8
 refine aI C (dL C C C (aJ 0 C)) (aP 1 C (bD ?_))
 refine gK (α := Nat) [0, 1, 2, 3, 4, 5, 6, 7, 13, 21, 22] C (fun j => [rowE 3 1 v6 ((ptsK (D.getD x.m.toNat md0)).length) (mI (ptsK (D.getD x.m.toNat md0))), boxE b5 #[(D.getD (x.m.toNat) md0).sv, (D.getD (x.m.toNat) md0).av, (D.getD (x.m.toNat) md0).iv, (D.getD (x.m.toNat) md0).mv] 35, boxE b3 #[jI x.m, jI x.p, x.pv] 63, boxE b2 #[m.sv, m.av, m.iv, m.mv] 35, boxE b1 #[v] 26]) (fun j => [(23, jI (j : Int))]) (fun j => j ≤ (ptsK (D.getD x.m.toNat md0)).length ∧ ∀ r, r < j → Inn m (x.ps.getD r 0) ∧ (knd (D.getD x.m.toNat md0) ((ptsK (D.getD x.m.toNat md0)).getD r 0) = 1 → Drv m (x.ps.getD r 0))) (fun j => (ptsK (D.getD x.m.toNat md0)).length - j) 0 ⟨Nat.zero_le _, fun q hq => absurd hq (by omega)⟩ (cN C) (eT C) ?_
 intro j hi9
 obtain ⟨hj, hj9⟩ := hi9
 have hpl := iD (D.getD x.m.toNat md0)
 refine cA ?_
 refine bN C C C C C C (fun h10 => ?_) (fun h10 => ?_)
 refine bQ (jX C (cE (fD (aF (cG 1 C (aI C (cR 1 C C C C (aJ 0 C)) (aI C (aQ (u := jI ((ptsK (D.getD x.m.toNat md0)).getD j 0)) C C C (aJ 0 C) (cJ (show _ < (ptsK (D.getD x.m.toNat md0)).length by omega))) ?_)))))))
 refine aP 2 C (aF ?_)
 have hpt := fU (m := (D.getD x.m.toNat md0)) (j := j) (by omega)
 have hkd := dH hpt
 rcases Bool.eq_false_or_eq_true (inR (x.ps.getD j 0) 0 ((m.ss.length : Int) - 1)) with hb11 | hb11
 obtain ⟨hb11a, hb11b⟩ := (dQ _ _ _).1 hb11
 have hpt := fU (m := (D.getD x.m.toNat md0)) (j := j) (by omega)
 have hkd := dH hpt
 rcases Bool.eq_false_or_eq_true (((((D.getD (x.m.toNat) md0).ss).getD (((ptsK (D.getD x.m.toNat md0)).getD j 0).toNat) sg0).k) == 1) with hb12 | hb12
 have hb12p : (((D.getD (x.m.toNat) md0).ss).getD (((ptsK (D.getD x.m.toNat md0)).getD j 0).toNat) sg0).k = 1 := beq_iff_eq.1 hb12
 have hpt := fU (m := (D.getD x.m.toNat md0)) (j := j) (by omega)
 have hkd := dH hpt
 refine cI 30 [[], [0], [], [1, 2], [3], [], [5], [6], [7], [4, 8], [9], [10], [11], [11, 12], [11], [11, 13, 14], [11, 15], [11, 16], [11, 17], [11, 18], [19], [19], [19, 21], [19], [19, 22, 23], [19, 24], [19, 20, 25], [19, 26], [11, 19, 27], [11, 28]] [28, 29, 30, 31, 32, 33, 34, 35, 36, 37, 38, 39, 40, 41, 42, 43, 44, 45, 46, 47, 48, 49, 50, 51, 52, 53, 54, 55, 56, 57] [.pointer (some ⟨b3, 0 + 2, none⟩), x.pv, jI (j : Int), elP x.pv ((j : Int).toNat * 1), jI (x.ps.getD j 0), .pointer (some ⟨b2, 0 + 0, none⟩), m.sv, jI (m.ss.length : Int), jI ((m.ss.length : Int) - 1), .bool true, .bool false, .bool false, .pointer (some ⟨b5, 0 + 0, none⟩), (D.getD (x.m.toNat) md0).sv, jI ((ptsK (D.getD x.m.toNat md0)).getD j 0), elP ((D.getD (x.m.toNat) md0).sv) (((ptsK (D.getD x.m.toNat md0)).getD j 0).toNat * 3), elP ((D.getD (x.m.toNat) md0).sv) (((ptsK (D.getD x.m.toNat md0)).getD j 0).toNat * 3 + 0), jI ((((D.getD (x.m.toNat) md0).ss).getD (((ptsK (D.getD x.m.toNat md0)).getD j 0).toNat) sg0).k), .bool true, .bool true, .agg #[m.sv, m.av, m.iv, m.mv], .pointer (some ⟨b3, 0 + 2, none⟩), x.pv, jI (j : Int), elP x.pv ((j : Int).toNat * 1), jI (x.ps.getD j 0), .bool (pB (Drv m (x.ps.getD j 0))), .bool (!(pB (Drv m (x.ps.getD j 0)))), .bool (!(pB (Drv m (x.ps.getD j 0)))), .bool (!(pB (Drv m (x.ps.getD j 0))))] (by kernel_rfl) C ?_ ?_
 exact ⟨bF C (bM 2 C C C) C, bF C (aC C C C (aA 2 C C)) C, bF C (aY C) C, bF C (cR 1 C C C C (aD hxp)) C, bF C (qD C C C (aD hxp)) C, bF C (bM 0 C C C) C, bF C (aC C C C (aA 3 C C)) C, bF C (dL C C C (aD ((hr).s))) C, bF C (nC C C C) C, .inl ⟨C, qS (aV C C (fun w hm => bJ (fN (dD _ _ _ w)))) hb11⟩, bF C (aY C) C, bF C (aY C) C, bF C (bM 0 C C C) C, bF C (aC C C C (aA 1 C C)) C, bF C (aY C) C, bF C (cR 3 C C C C (aD ((hd.at (k := x.m.toNat) (by omega)).s))) C, bF C (aZ (k0 := 0) C C C (aD ((hd.at (k := x.m.toNat) (by omega)).s)) (by omega)) C, bF C (aQ (u := jI ((((D.getD (x.m.toNat) md0).ss).getD (((ptsK (D.getD x.m.toNat md0)).getD j 0).toNat) sg0).k)) C C C (aD ((hd.at (k := x.m.toNat) (by omega)).s)) ((bR sgC 3 (fun _ => C) ((D.getD (x.m.toNat) md0).ss) sg0 (show ((ptsK (D.getD x.m.toNat md0)).getD j 0).toNat < _ by omega) (by decide)).trans C)) C, .inl ⟨C, gG (dR C C C C) hb12⟩, bF C (aY C) C, bF C (aW (cs := [m.sv, m.av, m.iv, m.mv]) C C C C C (aT 3 C 0 C)) C, bF C (bM 2 C C C) C, bF C (aC C C C (aA 2 C C)) C, bF C (aY C) C, bF C (cR 1 C C C C (aD hxp)) C, bF C (qD C C C (aD hxp)) C, .inl ⟨C, aV C C (fun w hm => bJ (pU m (x.ps.getD j 0) w (hr.below hm.bel)))⟩, bF C (aY C) C, bF C (aY C) C, bF C (aY C) C, trivial⟩
 simp only [List.drop_succ_cons, List.drop_zero]
 refine bQ ?_
 refine eW C (fun h13 => ?_) (fun h13 => ?_)
 have h13n : (pB (Drv m (x.ps.getD j 0))) = false := by simpa using h13
 have h13np := eP h13n
 refine bA 1 C ?_
 refine aN (aE ?_)
 refine dZ ?_
 refine aE (aG ?_)
 exact aX C C (congrArg _ (bX (fun hp => by first | (have := hp.1; omega) | (obtain ⟨h8, h9⟩ := (hp.2 j (by omega)).1; omega) | (have h9 := (hp.2 j (by omega)).2 (by omega); exact absurd h9 (by assumption)))).symm)
 have h13n : (pB (Drv m (x.ps.getD j 0))) = true := by simpa using h13
 have h13np := fK h13n
 refine fA (cK (aO (aI C (dO C C C) (dA 1 C ?_))))
 exact cB (j + 1) ⟨by omega, fun r hr9 => by by_cases e : r = j; (subst e; exact ⟨⟨by omega, by omega⟩, fun _ => by first | assumption | (exfalso; omega)⟩); exact hj9 r (by omega)⟩ (by omega) (cN C) (eT C)
 have hb12p : (((D.getD (x.m.toNat) md0).ss).getD (((ptsK (D.getD x.m.toNat md0)).getD j 0).toNat) sg0).k ≠ 1 := beq_eq_false_iff_ne.1 hb12
 have hpt := fU (m := (D.getD x.m.toNat md0)) (j := j) (by omega)
 have hkd := dH hpt
 refine cI 30 [[], [0], [], [1, 2], [3], [], [5], [6], [7], [4, 8], [9], [10], [11], [11, 12], [11], [11, 13, 14], [11, 15], [11, 16], [11, 17], [11, 18], [19], [19], [19], [19], [19], [19], [19], [19], [11, 19, 27], [11, 28]] [28, 29, 30, 31, 32, 33, 34, 35, 36, 37, 38, 39, 40, 41, 42, 43, 44, 45, 46, 47, 48, 49, 50, 51, 52, 53, 54, 55, 56, 57] [.pointer (some ⟨b3, 0 + 2, none⟩), x.pv, jI (j : Int), elP x.pv ((j : Int).toNat * 1), jI (x.ps.getD j 0), .pointer (some ⟨b2, 0 + 0, none⟩), m.sv, jI (m.ss.length : Int), jI ((m.ss.length : Int) - 1), .bool true, .bool false, .bool false, .pointer (some ⟨b5, 0 + 0, none⟩), (D.getD (x.m.toNat) md0).sv, jI ((ptsK (D.getD x.m.toNat md0)).getD j 0), elP ((D.getD (x.m.toNat) md0).sv) (((ptsK (D.getD x.m.toNat md0)).getD j 0).toNat * 3), elP ((D.getD (x.m.toNat) md0).sv) (((ptsK (D.getD x.m.toNat md0)).getD j 0).toNat * 3 + 0), jI ((((D.getD (x.m.toNat) md0).ss).getD (((ptsK (D.getD x.m.toNat md0)).getD j 0).toNat) sg0).k), .bool false, .bool false, undef, undef, undef, undef, undef, undef, undef, undef, .bool false, .bool false] (by kernel_rfl) C ?_ ?_
 exact ⟨bF C (bM 2 C C C) C, bF C (aC C C C (aA 2 C C)) C, bF C (aY C) C, bF C (cR 1 C C C C (aD hxp)) C, bF C (qD C C C (aD hxp)) C, bF C (bM 0 C C C) C, bF C (aC C C C (aA 3 C C)) C, bF C (dL C C C (aD ((hr).s))) C, bF C (nC C C C) C, .inl ⟨C, qS (aV C C (fun w hm => bJ (fN (dD _ _ _ w)))) hb11⟩, bF C (aY C) C, bF C (aY C) C, bF C (bM 0 C C C) C, bF C (aC C C C (aA 1 C C)) C, bF C (aY C) C, bF C (cR 3 C C C C (aD ((hd.at (k := x.m.toNat) (by omega)).s))) C, bF C (aZ (k0 := 0) C C C (aD ((hd.at (k := x.m.toNat) (by omega)).s)) (by omega)) C, bF C (aQ (u := jI ((((D.getD (x.m.toNat) md0).ss).getD (((ptsK (D.getD x.m.toNat md0)).getD j 0).toNat) sg0).k)) C C C (aD ((hd.at (k := x.m.toNat) (by omega)).s)) ((bR sgC 3 (fun _ => C) ((D.getD (x.m.toNat) md0).ss) sg0 (show ((ptsK (D.getD x.m.toNat md0)).getD j 0).toNat < _ by omega) (by decide)).trans C)) C, .inl ⟨C, gG (dR C C C C) hb12⟩, bF C (aY C) C, .inr ⟨C, C⟩, .inr ⟨C, C⟩, .inr ⟨C, C⟩, .inr ⟨C, C⟩, .inr ⟨C, C⟩, .inr ⟨C, C⟩, .inr ⟨C, C⟩, .inr ⟨C, C⟩, bF C (aY C) C, bF C (aY C) C, trivial⟩
 simp only [List.drop_succ_cons, List.drop_zero]
 refine bQ (gM C (cK (aO (aI C (dO C C C) (dA 1 C ?_)))))
 exact cB (j + 1) ⟨by omega, fun r hr9 => by by_cases e : r = j; (subst e; exact ⟨⟨by omega, by omega⟩, fun _ => by first | assumption | (exfalso; omega)⟩); exact hj9 r (by omega)⟩ (by omega) (cN C) (eT C)
 have hb11a := dK hb11
 have hpt := fU (m := (D.getD x.m.toNat md0)) (j := j) (by omega)
 have hkd := dH hpt
 refine cI 30 [[], [0], [], [1, 2], [3], [], [5], [6], [7], [4, 8], [9], [10], [11], [11], [11], [11], [11], [11], [11], [11], [19], [19], [19], [19], [19], [19], [19], [19], [11], [11, 28]] [28, 29, 30, 31, 32, 33, 34, 35, 36, 37, 38, 39, 40, 41, 42, 43, 44, 45, 46, 47, 48, 49, 50, 51, 52, 53, 54, 55, 56, 57] [.pointer (some ⟨b3, 0 + 2, none⟩), x.pv, jI (j : Int), elP x.pv ((j : Int).toNat * 1), jI (x.ps.getD j 0), .pointer (some ⟨b2, 0 + 0, none⟩), m.sv, jI (m.ss.length : Int), jI ((m.ss.length : Int) - 1), .bool false, .bool true, .bool true, undef, undef, undef, undef, undef, undef, undef, undef, undef, undef, undef, undef, undef, undef, undef, undef, undef, .bool true] (by kernel_rfl) C ?_ ?_
 exact ⟨bF C (bM 2 C C C) C, bF C (aC C C C (aA 2 C C)) C, bF C (aY C) C, bF C (cR 1 C C C C (aD hxp)) C, bF C (qD C C C (aD hxp)) C, bF C (bM 0 C C C) C, bF C (aC C C C (aA 3 C C)) C, bF C (dL C C C (aD ((hr).s))) C, bF C (nC C C C) C, .inl ⟨C, qS (aV C C (fun w hm => bJ (fN (dD _ _ _ w)))) hb11⟩, bF C (aY C) C, bF C (aY C) C, .inr ⟨C, C⟩, .inr ⟨C, C⟩, .inr ⟨C, C⟩, .inr ⟨C, C⟩, .inr ⟨C, C⟩, .inr ⟨C, C⟩, .inr ⟨C, C⟩, .inr ⟨C, C⟩, .inr ⟨C, C⟩, .inr ⟨C, C⟩, .inr ⟨C, C⟩, .inr ⟨C, C⟩, .inr ⟨C, C⟩, .inr ⟨C, C⟩, .inr ⟨C, C⟩, .inr ⟨C, C⟩, .inr ⟨C, C⟩, bF C (aY C) C, trivial⟩
 simp only [List.drop_succ_cons, List.drop_zero]
 refine bQ (aK C (bA 1 C ?_))
 refine aN (aE ?_)
 refine dZ ?_
 refine aE (aG ?_)
 exact aX C C (congrArg _ (bX (fun hp => by first | (have := hp.1; omega) | (obtain ⟨h8, h9⟩ := (hp.2 j (by omega)).1; omega) | (have h9 := (hp.2 j (by omega)).2 (by omega); exact absurd h9 (by assumption)))).symm)
 refine bQ (kD C ?_)
 refine bI (dC ?_)
 refine aM (aR (bA 1 C ?_))
 exact aN (aX C C (congrArg _ (dG ⟨⟨by omega, by omega⟩, fun r hr9 => hj9 r (by omega)⟩).symm))
 have h4a := dK h4
 refine aP 1 C (aK C (bA 1 C ?_))
 refine aN (aG ?_)
 exact aX C C (congrArg _ (bX (fun hp => by first | (have := hp.1; omega) | (obtain ⟨h8, h9⟩ := (hp.2 j (by omega)).1; omega) | (have h9 := (hp.2 j (by omega)).2 (by omega); exact absurd h9 (by assumption)))).symm)
theorem nO (D : List Md) (k : Nat) (v : Value) (w : World) (hd : RdsDs w v D) (hk : k < D.length) :
   Calls Try.prog 14 #[.agg #[v], .int .i64 (k : Int)] w (Ans w (.bool (pB (ModP D k)))) := by
 have hd9 := gL hd.row
 refine bW (N := 157) (args := [.agg #[v], jI (k : Int)]) Try.func14 C C (cA ?_)
 refine cL C (cY C C) ?_
 intro b1
 refine aP 1 C (aF (aF (cG 1 C (aI C (bM 0 C C C) (aI C (aC C C C (aA 0 C C)) (aI C (dL C C C (aD hd.row)) (aI C (nC C C C) ?_)))))))
 refine dW C (aV C C (fun w hm => bJ (fN (dD _ _ _ w)))) (bT (fun h2 => ?_) (fun h2 => ?_))
 obtain ⟨h2a, h2b⟩ := (dQ _ _ _).1 h2
 refine aH 2 C (aI C (aW (cs := [v]) C C C C C (aT 0 C 0 C)) ?_)
 refine dW C (aV C C (fun w hm => bJ (sP D v w (hd.below hm.bel)))) (bT (fun h3 => ?_) (fun h3 => ?_))
 have h3p := fK h3
 refine aH 3 C (aI C (aW (cs := [v]) C C C C C (aT 0 C 0 C)) (aH 1 C ?_))
 refine dW C (aV C C (fun w hm => bJ (tY D k v w (hd.below hm.bel) (by omega)))) (bT (fun h4 => ?_) (fun h4 => ?_))
 have h4p := fK h4
 refine aP 2 C (aS C (cE (cA (aI C (bM 0 C C C) (aI C (aC C C C (aA 0 C C)) (aH 1 C (aI C (cR 4 C C C C (aD hd.row)) ?_)))))))
 refine aI C (bL (us := [(D.getD k md0).sv, (D.getD k md0).av, (D.getD k md0).iv, (D.getD k md0).mv]) C C C C (aD hd.row) (by omega) C (bY mdC 4 (fun _ => C) D md0 (show k < _ by omega) C)) (cL C (bG (z := .agg #[.slice none 0 0, .slice none 0 0, .slice none 0 0, .slice none 0 0]) C C) ?_)
 intro b5
 refine bE (cs' := #[(D.getD k md0).sv, (D.getD k md0).av, (D.getD k md0).iv, (D.getD k md0).mv]) (i := 0) (off := 0) (us := [(D.getD k md0).sv, (D.getD k md0).av, (D.getD k md0).iv, (D.getD k md0).mv]) C C C C C C C (aB (hd.at (k := k) (by omega)).s.one (aB (hd.at (k := k) (by omega)).g.one (aB (hd.at (k := k) (by omega)).x.one (aB (hd.at (k := k) (by omega)).m.one bC)))) C C C (bQ (cA (aI C (bM 0 C C C) (aI C (aC C C C (aA 0 C C)) (aI C (dL C C C (aD ((hd.at (k := k) (by omega)).s))) (aP 1 C (aF (aF ?_))))))))
 refine aO (aI C (bM 0 C C C) (aI C (aC C C C (aA 0 C C)) (aI C (dL C C C (aD ((hd.at (k := k) (by omega)).s))) (aP 1 C (bD ?_)))))
 refine gK (α := Nat) [0, 1, 2, 4, 5, 6, 34, 44, 45] C (fun i => [boxE b5 #[(D.getD k md0).sv, (D.getD k md0).av, (D.getD k md0).iv, (D.getD k md0).mv] 35, boxE b1 #[v] 26]) (fun i => [(46, jI (i : Int))]) (fun i => i ≤ (D.getD k md0).ss.length ∧ ∀ q, q < i → SgP ((D.getD k md0).ss.getD q sg0)) (fun i => (D.getD k md0).ss.length - i) 0 ⟨Nat.zero_le _, fun q hq => absurd hq (by omega)⟩ (cN C) (eT C) ?_
 intro i hi6
 obtain ⟨hi, hsg⟩ := hi6
 have hcts : CtsP D k := ⟨by omega, by assumption, by assumption⟩
 obtain ⟨hkl, hcnt, hins⟩ := id hcts
 obtain ⟨hn1, hn2, hn3, hn4⟩ := hcnt.md k hkl
 refine cA ?_
 refine bN C C C C C C (fun h7 => ?_) (fun h7 => ?_)
 refine bQ (jX C (cE (fD (cA (aI C (cR 3 C C C C (aD ((hd.at (k := k) (by omega)).s))) ?_)))))
 refine aI C (bL (us := [jI ((((D.getD k md0).ss).getD i sg0).k), jI ((((D.getD k md0).ss).getD i sg0).w), jI ((((D.getD k md0).ss).getD i sg0).i)]) C C C C (aD ((hd.at (k := k) (by omega)).s)) (by omega) C (bY sgC 3 (fun _ => C) ((D.getD k md0).ss) sg0 (show i < _ by omega) C)) (cL C (bG (z := .agg #[jI 0, jI 0, jI 0]) C C) ?_)
 intro b8
 refine bE (cs' := #[jI ((((D.getD k md0).ss).getD i sg0).k), jI ((((D.getD k md0).ss).getD i sg0).w), jI ((((D.getD k md0).ss).getD i sg0).i)]) (i := 0) (off := 0) (us := [jI ((((D.getD k md0).ss).getD i sg0).k), jI ((((D.getD k md0).ss).getD i sg0).w), jI ((((D.getD k md0).ss).getD i sg0).i)]) C C C C C C C (aB C (aB C (aB C bC))) C C C (bQ (cA (aI C (aW (cs := [jI ((((D.getD k md0).ss).getD i sg0).k), jI ((((D.getD k md0).ss).getD i sg0).w), jI ((((D.getD k md0).ss).getD i sg0).i)]) C C C C C (aT 0 C 0 C)) ?_)))
 refine dW C (aV C C (fun w hm => bJ (rM ((D.getD k md0).ss.getD i sg0) w))) (bT (fun h9 => ?_) (fun h9 => ?_))
 have h9p := fK h9
 refine aP 1 C (gM C (cK (aO (aI C (dO C C C) (dA 1 C ?_)))))
 exact cB (i + 1) ⟨by omega, fun q hq => by by_cases e : q = i; (subst e; assumption); exact hsg q (by omega)⟩ (by omega) (cN C) (eO [1, 0] C)
 have h9p := eP h9
 refine aP 1 C (aK C (bA 1 C ?_))
 refine aN (aE ?_)
 refine dZ ?_
 refine aE (aG ?_)
 exact aX C C (congrArg _ (bX (fun hp => by first | (omega) | (exact absurd hp.cnt (by assumption)) | (exact absurd hp.ins (by assumption)) | (exact absurd (hp.sg i (by omega)) (by assumption)) | (have h9 := (hp.gs i (by omega)).1; have h8 : Inn _ _ := Classical.byContradiction (fun h7 => by rw [fH h7] at h9; omega); rw [dH h8] at h9; obtain ⟨h5, h6⟩ := h8; omega) | (exact absurd (hp.gs i (by omega)).2 (by assumption)) | (exact absurd (hp.xs i (by omega)) (by assumption)) | (obtain ⟨⟨⟨h1, h2⟩, ⟨h3, h4⟩, ⟨h5, h6⟩⟩, h7⟩ := hp.ms i (by omega); first | omega | exact absurd h7 (by assumption)) | (have h9 := hp.dr i (by omega) (by omega); omega))).symm)
 refine bQ (kD C ?_)
 refine bI (dC ?_)
 refine aM (aR (eM (aI C (bM 1 C C C) (aI C (aC C C C (aA 0 C C)) (aI C (dL C C C (aD ((hd.at (k := k) (by omega)).g))) (aP 1 C (bD ?_)))))))
 refine gK (α := Nat) [0, 1, 2, 4, 5, 6, 34, 47, 55, 56] C (fun i => [boxE b5 #[(D.getD k md0).sv, (D.getD k md0).av, (D.getD k md0).iv, (D.getD k md0).mv] 35, boxE b1 #[v] 26]) (fun i => [(57, jI (i : Int))]) (fun i => i ≤ (D.getD k md0).gs.length ∧ ∀ q, q < i → AsP (D.getD k md0) ((D.getD k md0).gs.getD q as0)) (fun i => (D.getD k md0).gs.length - i) 0 ⟨Nat.zero_le _, fun q hq => absurd hq (by omega)⟩ (cN C) (eT C) ?_
 intro i hi10
 obtain ⟨hi, hgs⟩ := hi10
 have hsgA : ∀ q, q < (D.getD k md0).ss.length → SgP ((D.getD k md0).ss.getD q sg0) := fun q hq => hsg q (by omega)
 refine cA ?_
 refine bN C C C C C C (fun h11 => ?_) (fun h11 => ?_)
 refine bQ (jX C (cE (fD (cA (aI C (cR 2 C C C C (aD ((hd.at (k := k) (by omega)).g))) ?_)))))
 refine aI C (bL (us := [jI ((((D.getD k md0).gs).getD i as0).t), (((D.getD k md0).gs).getD i as0).ov]) C C C C (aD ((hd.at (k := k) (by omega)).g)) (by omega) C (bY asC 2 (fun _ => C) ((D.getD k md0).gs) as0 (show i < _ by omega) C)) (cL C (bG (z := .agg #[jI 0, .slice none 0 0]) C C) ?_)
 intro b12
 refine bE (cs' := #[jI ((((D.getD k md0).gs).getD i as0).t), (((D.getD k md0).gs).getD i as0).ov]) (i := 0) (off := 0) (us := [jI ((((D.getD k md0).gs).getD i as0).t), (((D.getD k md0).gs).getD i as0).ov]) C C C C C C C (aB C (aB ((hd.at (k := k) (by omega)).o.at (k := i) (by omega)).one bC)) C C C (bQ (cA (aI C (bM 0 C C C) (aI C (aC C C C (aA 0 C C)) (aH 1 C (aI C (nC C C C) ?_))))))
 refine dW C (aV C C (fun w hm => bJ (fN (dD _ _ _ w)))) (bT (fun h13 => ?_) (fun h13 => ?_))
 obtain ⟨h13a, h13b⟩ := (dQ _ _ _).1 h13
 refine aH 2 C (aI C (bM 0 C C C) (aI C (aC C C C (aA 1 C C)) (aI C (bM 0 C C C) (aI C (aC C C C (aA 0 C C)) (aI C (cR 3 C C C C (aD ((hd.at (k := k) (by omega)).s))) (aI C (aZ (k0 := 0) C C C (aD ((hd.at (k := k) (by omega)).s)) (by omega)) ?_))))))
 refine aI C (aQ (u := jI ((((D.getD k md0).ss).getD (((((D.getD k md0).gs).getD i as0).t).toNat) sg0).k)) C C C (aD ((hd.at (k := k) (by omega)).s)) ((bR sgC 3 (fun _ => C) ((D.getD k md0).ss) sg0 (show ((((D.getD k md0).gs).getD i as0).t).toNat < _ by omega) (by decide)).trans C)) (dW C (aV C C (fun w hm => bJ (mW ((((D.getD k md0).ss).getD (((((D.getD k md0).gs).getD i as0).t).toNat) sg0).k) w))) ?_)
 refine bT (fun h14 => ?_) (fun h14 => ?_)
 have h14p := of_decide_eq_true h14
 refine aH 3 C (aI C (bM 1 C C C) (aI C (aC C C C (aA 0 C C)) (aH 1 C ?_)))
 refine dW C (aV C C (fun w hm => bJ (qK ((D.getD k md0).gs.getD i as0).os (((D.getD k md0).ss).length : Int) _ w (((hd.at (k := k) (by omega)).below hm.bel).o.at (by omega))))) (bT (fun h15 => ?_) (fun h15 => ?_))
 have h15p := fK h15
 refine aP 2 C (gM C (cK (aO (aI C (dO C C C) (dA 1 C ?_)))))
 exact cB (i + 1) ⟨by omega, fun q hq => by by_cases e : q = i; (subst e; exact ⟨by rw [dH ⟨by omega, by omega⟩]; assumption, by assumption⟩); exact hgs q (by omega)⟩ (by omega) (cN rfl) (eO [1, 0] rfl)
 have h15p := eP h15
 refine aP 2 C (aK C (bA 1 C ?_))
 refine aN (aE ?_)
 refine dZ ?_
 refine aE (aG ?_)
 exact aX C C (congrArg _ (bX (fun hp => by first | (omega) | (exact absurd hp.cnt (by assumption)) | (exact absurd hp.ins (by assumption)) | (exact absurd (hp.sg i (by omega)) (by assumption)) | (have h9 := (hp.gs i (by omega)).1; have h8 : Inn _ _ := Classical.byContradiction (fun h7 => by rw [fH h7] at h9; omega); rw [dH h8] at h9; obtain ⟨h5, h6⟩ := h8; omega) | (exact absurd (hp.gs i (by omega)).2 (by assumption)) | (exact absurd (hp.xs i (by omega)) (by assumption)) | (obtain ⟨⟨⟨h1, h2⟩, ⟨h3, h4⟩, ⟨h5, h6⟩⟩, h7⟩ := hp.ms i (by omega); first | omega | exact absurd h7 (by assumption)) | (have h9 := hp.dr i (by omega) (by omega); omega))).symm)
 have h14p := of_decide_eq_false h14
 refine aP 9 C (aK C (aF (cG 1 C (?_))))
 refine bQ ?_
 refine aN (aE ?_)
 refine dZ ?_
 refine aE (aG ?_)
 exact aX C C (congrArg _ (bX (fun hp => by first | (omega) | (exact absurd hp.cnt (by assumption)) | (exact absurd hp.ins (by assumption)) | (exact absurd (hp.sg i (by omega)) (by assumption)) | (have h9 := (hp.gs i (by omega)).1; have h8 : Inn _ _ := Classical.byContradiction (fun h7 => by rw [fH h7] at h9; omega); rw [dH h8] at h9; obtain ⟨h5, h6⟩ := h8; omega) | (exact absurd (hp.gs i (by omega)).2 (by assumption)) | (exact absurd (hp.xs i (by omega)) (by assumption)) | (obtain ⟨⟨⟨h1, h2⟩, ⟨h3, h4⟩, ⟨h5, h6⟩⟩, h7⟩ := hp.ms i (by omega); first | omega | exact absurd h7 (by assumption)) | (have h9 := hp.dr i (by omega) (by omega); omega))).symm)
 have h13a := dK h13
 refine aP 19 C (aK C (bA 1 C ?_))
 refine aN (aE ?_)
 refine dZ ?_
 refine aE (aG ?_)
 exact aX C C (congrArg _ (bX (fun hp => by first | (omega) | (exact absurd hp.cnt (by assumption)) | (exact absurd hp.ins (by assumption)) | (exact absurd (hp.sg i (by omega)) (by assumption)) | (have h9 := (hp.gs i (by omega)).1; have h8 : Inn _ _ := Classical.byContradiction (fun h7 => by rw [fH h7] at h9; omega); rw [dH h8] at h9; obtain ⟨h5, h6⟩ := h8; omega) | (exact absurd (hp.gs i (by omega)).2 (by assumption)) | (exact absurd (hp.xs i (by omega)) (by assumption)) | (obtain ⟨⟨⟨h1, h2⟩, ⟨h3, h4⟩, ⟨h5, h6⟩⟩, h7⟩ := hp.ms i (by omega); first | omega | exact absurd h7 (by assumption)) | (have h9 := hp.dr i (by omega) (by omega); omega))).symm)
 refine bQ (kD C ?_)
 refine bI (dC ?_)
 refine aM (aR (eM (aI C (bM 2 C C C) (aI C (aC C C C (aA 0 C C)) (aI C (dL C C C (aD ((hd.at (k := k) (by omega)).x))) (aP 1 C (bD ?_)))))))
 refine gK (α := Nat) [0, 1, 2, 4, 5, 6, 34, 47, 58, 87, 88] C (fun i => [boxE b5 #[(D.getD k md0).sv, (D.getD k md0).av, (D.getD k md0).iv, (D.getD k md0).mv] 35, boxE b1 #[v] 26]) (fun i => [(89, jI (i : Int))]) (fun i => i ≤ (D.getD k md0).xs.length ∧ ∀ q, q < i → IxP D (D.getD k md0) ((D.getD k md0).xs.getD q ix0)) (fun i => (D.getD k md0).xs.length - i) 0 ⟨Nat.zero_le _, fun q hq => absurd hq (by omega)⟩ (cN C) (eT C) ?_
 intro i hi16
 obtain ⟨hi, hxs⟩ := hi16
 refine cA ?_
 refine bN C C C C C C (fun h17 => ?_) (fun h17 => ?_)
 refine bQ (jX C (cE (fD (cA (aI C (cR 3 C C C C (aD ((hd.at (k := k) (by omega)).x))) ?_)))))
 refine aI C (bL (us := [jI ((((D.getD k md0).xs).getD i ix0).m), jI ((((D.getD k md0).xs).getD i ix0).p), (((D.getD k md0).xs).getD i ix0).pv]) C C C C (aD ((hd.at (k := k) (by omega)).x)) (by omega) C (bY ixC 3 (fun _ => C) ((D.getD k md0).xs) ix0 (show i < _ by omega) C)) (cL C (bG (z := .agg #[jI 0, jI 0, .slice none 0 0]) C C) ?_)
 intro b18
 refine bE (cs' := #[jI ((((D.getD k md0).xs).getD i ix0).m), jI ((((D.getD k md0).xs).getD i ix0).p), (((D.getD k md0).xs).getD i ix0).pv]) (i := 0) (off := 0) (us := [jI ((((D.getD k md0).xs).getD i ix0).m), jI ((((D.getD k md0).xs).getD i ix0).p), (((D.getD k md0).xs).getD i ix0).pv]) C C C C C C C (aB C (aB C (aB ((hd.at (k := k) (by omega)).p.at (k := i) (by omega)).one bC))) C C C (bQ (cA (aI C (aW (cs := [v]) C C C C C (aT 2 C 0 C)) (aI C (aW (cs := [(D.getD k md0).sv, (D.getD k md0).av, (D.getD k md0).iv, (D.getD k md0).mv]) C C C C C (aT 1 C 0 C)) (aI C (aW (cs := [jI ((((D.getD k md0).xs).getD i ix0).m), jI ((((D.getD k md0).xs).getD i ix0).p), (((D.getD k md0).xs).getD i ix0).pv]) C C C C C (aT 0 C 0 C)) ?_)))))
 refine dW C (aV C C (fun w hm => bJ (vE D (D.getD k md0) ((D.getD k md0).xs.getD i ix0) v w (hd.below hm.bel) ((hd.at (k := k) (by omega)).below hm.bel) (((hd.at (k := k) (by omega)).below hm.bel).p.at (by omega)) ⟨by have := hins i (by omega); omega, by have := hins i (by omega); omega⟩ (hins i (by omega)).2))) (bT (fun h19 => ?_) (fun h19 => ?_))
 have h19p := fK h19
 refine aP 1 C (gM C (cK (aO (aI C (dO C C C) (dA 1 C ?_)))))
 exact cB (i + 1) ⟨by omega, fun q hq => by by_cases e : q = i; (subst e; assumption); exact hxs q (by omega)⟩ (by omega) (cN C) (eO [1, 0] C)
 have h19p := eP h19
 refine aP 1 C (aK C (bA 1 C ?_))
 refine aN (aE ?_)
 refine dZ ?_
 refine aE (aG ?_)
 exact aX C C (congrArg _ (bX (fun hp => by first | (omega) | (exact absurd hp.cnt (by assumption)) | (exact absurd hp.ins (by assumption)) | (exact absurd (hp.sg i (by omega)) (by assumption)) | (have h9 := (hp.gs i (by omega)).1; have h8 : Inn _ _ := Classical.byContradiction (fun h7 => by rw [fH h7] at h9; omega); rw [dH h8] at h9; obtain ⟨h5, h6⟩ := h8; omega) | (exact absurd (hp.gs i (by omega)).2 (by assumption)) | (exact absurd (hp.xs i (by omega)) (by assumption)) | (obtain ⟨⟨⟨h1, h2⟩, ⟨h3, h4⟩, ⟨h5, h6⟩⟩, h7⟩ := hp.ms i (by omega); first | omega | exact absurd h7 (by assumption)) | (have h9 := hp.dr i (by omega) (by omega); omega))).symm)
 refine bQ (kD C ?_)
 refine bI (dC ?_)
 refine aM (aR (eM (aI C (bM 3 C C C) (aI C (aC C C C (aA 0 C C)) (aI C (dL C C C (aD ((hd.at (k := k) (by omega)).m))) (aP 1 C (bD ?_)))))))
 refine gK (α := Nat) [0, 1, 2, 4, 5, 6, 34, 47, 58, 90, 100, 101] C (fun i => [boxE b5 #[(D.getD k md0).sv, (D.getD k md0).av, (D.getD k md0).iv, (D.getD k md0).mv] 35, boxE b1 #[v] 26]) (fun i => [(102, jI (i : Int))]) (fun i => i ≤ (D.getD k md0).ms.length ∧ ∀ q, q < i → MmP (D.getD k md0) ((D.getD k md0).ms.getD q mm0)) (fun i => (D.getD k md0).ms.length - i) 0 ⟨Nat.zero_le _, fun q hq => absurd hq (by omega)⟩ (cN C) (eT C) ?_
 intro i hi20
 obtain ⟨hi, hms⟩ := hi20
 refine cA ?_
 refine bN C C C C C C (fun h21 => ?_) (fun h21 => ?_)
 refine bQ (jX C (cE (fD (cA (aI C (cR 4 C C C C (aD ((hd.at (k := k) (by omega)).m))) ?_)))))
 refine aI C (bL (us := [jI ((((D.getD k md0).ms).getD i mm0).a), jI ((((D.getD k md0).ms).getD i mm0).d), jI ((((D.getD k md0).ms).getD i mm0).w), jI ((((D.getD k md0).ms).getD i mm0).o)]) C C C C (aD ((hd.at (k := k) (by omega)).m)) (by omega) C (bY mmC 4 (fun _ => C) ((D.getD k md0).ms) mm0 (show i < _ by omega) C)) (cL C (bG (z := .agg #[jI 0, jI 0, jI 0, jI 0]) C C) ?_)
 intro b22
 refine bE (cs' := #[jI ((((D.getD k md0).ms).getD i mm0).a), jI ((((D.getD k md0).ms).getD i mm0).d), jI ((((D.getD k md0).ms).getD i mm0).w), jI ((((D.getD k md0).ms).getD i mm0).o)]) (i := 0) (off := 0) (us := [jI ((((D.getD k md0).ms).getD i mm0).a), jI ((((D.getD k md0).ms).getD i mm0).d), jI ((((D.getD k md0).ms).getD i mm0).w), jI ((((D.getD k md0).ms).getD i mm0).o)]) C C C C C C C (aB C (aB C (aB C (aB C bC)))) C C C (bQ (cA (aI C (bM 0 C C C) (aI C (aC C C C (aA 0 C C)) (aH 1 C (aI C (nC C C C) ?_))))))
 refine dW C (aV C C (fun w hm => bJ (fN (dD _ _ _ w)))) (bT (fun h23 => ?_) (fun h23 => ?_))
 obtain ⟨h23a, h23b⟩ := (dQ _ _ _).1 h23
 refine aH 2 C (aI C (bM 1 C C C) (aI C (aC C C C (aA 0 C C)) (aH 1 C (aI C (nC C C C) ?_))))
 refine dW C (aV C C (fun w hm => bJ (fN (dD _ _ _ w)))) (bT (fun h24 => ?_) (fun h24 => ?_))
 obtain ⟨h24a, h24b⟩ := (dQ _ _ _).1 h24
 refine aH 3 C (aI C (bM 2 C C C) (aI C (aC C C C (aA 0 C C)) (aH 1 C (aI C (nC C C C) ?_))))
 refine dW C (aV C C (fun w hm => bJ (fN (dD _ _ _ w)))) (bT (fun h25 => ?_) (fun h25 => ?_))
 obtain ⟨h25a, h25b⟩ := (dQ _ _ _).1 h25
 refine aH 3 C (aI C (aW (cs := [(D.getD k md0).sv, (D.getD k md0).av, (D.getD k md0).iv, (D.getD k md0).mv]) C C C C C (aT 1 C 0 C)) (aI C (bM 3 C C C) (aI C (aC C C C (aA 0 C C)) ?_)))
 refine dW C (aV C C (fun w hm => bJ (pU (D.getD k md0) ((((D.getD k md0).ms).getD i mm0).o) w ((hd.at (k := k) (by omega)).below hm.bel)))) (bT (fun h26 => ?_) (fun h26 => ?_))
 have h26p := fK h26
 refine aP 2 C (gM C (cK (aO (aI C (dO C C C) (dA 1 C ?_)))))
 exact cB (i + 1) ⟨by omega, fun q hq => by by_cases e : q = i; (subst e; exact ⟨⟨⟨by omega, by omega⟩, ⟨by omega, by omega⟩, ⟨by omega, by omega⟩⟩, by assumption⟩); exact hms q (by omega)⟩ (by omega) (cN C) (eO [1, 0] C)
 have h26p := eP h26
 refine aP 2 C (aK C (bA 1 C ?_))
 refine aN (aE ?_)
 refine dZ ?_
 refine aE (aG ?_)
 exact aX C C (congrArg _ (bX (fun hp => by first | (omega) | (exact absurd hp.cnt (by assumption)) | (exact absurd hp.ins (by assumption)) | (exact absurd (hp.sg i (by omega)) (by assumption)) | (have h9 := (hp.gs i (by omega)).1; have h8 : Inn _ _ := Classical.byContradiction (fun h7 => by rw [fH h7] at h9; omega); rw [dH h8] at h9; obtain ⟨h5, h6⟩ := h8; omega) | (exact absurd (hp.gs i (by omega)).2 (by assumption)) | (exact absurd (hp.xs i (by omega)) (by assumption)) | (obtain ⟨⟨⟨h1, h2⟩, ⟨h3, h4⟩, ⟨h5, h6⟩⟩, h7⟩ := hp.ms i (by omega); first | omega | exact absurd h7 (by assumption)) | (have h9 := hp.dr i (by omega) (by omega); omega))).symm)
 have h25a := dK h25
 refine aP 9 C (aK C (aF (cG 1 C (?_))))
 refine bQ ?_
 refine aN (aE ?_)
 refine dZ ?_
 refine aE (aG ?_)
 exact aX C C (congrArg _ (bX (fun hp => by first | (omega) | (exact absurd hp.cnt (by assumption)) | (exact absurd hp.ins (by assumption)) | (exact absurd (hp.sg i (by omega)) (by assumption)) | (have h9 := (hp.gs i (by omega)).1; have h8 : Inn _ _ := Classical.byContradiction (fun h7 => by rw [fH h7] at h9; omega); rw [dH h8] at h9; obtain ⟨h5, h6⟩ := h8; omega) | (exact absurd (hp.gs i (by omega)).2 (by assumption)) | (exact absurd (hp.xs i (by omega)) (by assumption)) | (obtain ⟨⟨⟨h1, h2⟩, ⟨h3, h4⟩, ⟨h5, h6⟩⟩, h7⟩ := hp.ms i (by omega); first | omega | exact absurd h7 (by assumption)) | (have h9 := hp.dr i (by omega) (by omega); omega))).symm)
 have h24a := dK h24
 refine dA 17 C ?_
 refine aR (aK C (bA 1 C ?_))
 refine aN (aE ?_)
 refine dZ ?_
 refine aE (aG ?_)
 exact aX C C (congrArg _ (bX (fun hp => by first | (omega) | (exact absurd hp.cnt (by assumption)) | (exact absurd hp.ins (by assumption)) | (exact absurd (hp.sg i (by omega)) (by assumption)) | (have h9 := (hp.gs i (by omega)).1; have h8 : Inn _ _ := Classical.byContradiction (fun h7 => by rw [fH h7] at h9; omega); rw [dH h8] at h9; obtain ⟨h5, h6⟩ := h8; omega) | (exact absurd (hp.gs i (by omega)).2 (by assumption)) | (exact absurd (hp.xs i (by omega)) (by assumption)) | (obtain ⟨⟨⟨h1, h2⟩, ⟨h3, h4⟩, ⟨h5, h6⟩⟩, h7⟩ := hp.ms i (by omega); first | omega | exact absurd h7 (by assumption)) | (have h9 := hp.dr i (by omega) (by omega); omega))).symm)
 have h23a := dK h23
 refine aP 24 C (aK C (bA 1 C ?_))
 refine aN (aE ?_)
 refine dZ ?_
 refine aE (aG ?_)
 exact aX C C (congrArg _ (bX (fun hp => by first | (omega) | (exact absurd hp.cnt (by assumption)) | (exact absurd hp.ins (by assumption)) | (exact absurd (hp.sg i (by omega)) (by assumption)) | (have h9 := (hp.gs i (by omega)).1; have h8 : Inn _ _ := Classical.byContradiction (fun h7 => by rw [fH h7] at h9; omega); rw [dH h8] at h9; obtain ⟨h5, h6⟩ := h8; omega) | (exact absurd (hp.gs i (by omega)).2 (by assumption)) | (exact absurd (hp.xs i (by omega)) (by assumption)) | (obtain ⟨⟨⟨h1, h2⟩, ⟨h3, h4⟩, ⟨h5, h6⟩⟩, h7⟩ := hp.ms i (by omega); first | omega | exact absurd h7 (by assumption)) | (have h9 := hp.dr i (by omega) (by omega); omega))).symm)
 refine bQ (kD C ?_)
 refine bI (dC ?_)
 refine aM (aR (eM (aI C (aW (cs := [v]) C C C C C (aT 1 C 0 C)) (aH 1 C ?_))))
 refine fC C C C (aV C C (fun w hm => nU D k v w (hd.below hm.bel) hcts)) ?_
 intro v27 p28 R29
 subst R29
 refine aI C (dL C C C (aJ 0 C)) (aP 1 C (bD ?_))
 refine gK (α := Nat) [0, 1, 2, 4, 5, 6, 34, 47, 58, 90, 103, 138, 139] C (fun i => [rowE 3 1 v27 ((cntZ (D.getD k md0).ss.length (drvL D (D.getD k md0))).length) (mI (cntZ (D.getD k md0).ss.length (drvL D (D.getD k md0)))), boxE b5 #[(D.getD k md0).sv, (D.getD k md0).av, (D.getD k md0).iv, (D.getD k md0).mv] 35, boxE b1 #[v] 26]) (fun i => [(140, jI (i : Int))]) (fun i => i ≤ (D.getD k md0).ss.length ∧ ∀ q, q < i → ((D.getD k md0).ss.getD q sg0).k ≠ 0 → (drvL D (D.getD k md0)).count (q : Int) = 1) (fun i => (D.getD k md0).ss.length - i) 0 ⟨Nat.zero_le _, fun q hq => absurd hq (by omega)⟩ (cN C) (eT C) ?_
 intro i hi30
 obtain ⟨hi, hdr⟩ := hi30
 have hlz := fT (D.getD k md0).ss.length (drvL D (D.getD k md0))
 refine cA ?_
 refine bN C C C C C C (fun h31 => ?_) (fun h31 => ?_)
 refine bQ (jX C (cE (fD (aF (cG 1 C (aI C (cR 1 C C C C (aJ 0 C)) (aI C (aQ (u := jI ((cntZ (D.getD k md0).ss.length (drvL D (D.getD k md0))).getD i 0)) C C C (aJ 0 C) (cJ (show _ < (cntZ (D.getD k md0).ss.length (drvL D (D.getD k md0))).length by omega))) ?_)))))))
 refine aP 2 C (cA ?_)
 have hs8 := (hsgA i (by omega)).1
 have hcz := jQ (L := drvL D (D.getD k md0)) (show i < (D.getD k md0).ss.length by omega)
 refine aI C (bM 0 C C C) (aI C (aC C C C (aA 1 C C)) (aH 1 C (aI C (cR 3 C C C C (aD ((hd.at (k := k) (by omega)).s))) (aI C (aZ (k0 := 0) C C C (aD ((hd.at (k := k) (by omega)).s)) (by omega)) ?_))))
 refine aI C (aQ (u := jI ((((D.getD k md0).ss).getD i sg0).k)) C C C (aD ((hd.at (k := k) (by omega)).s)) ((bR sgC 3 (fun _ => C) ((D.getD k md0).ss) sg0 (show i < _ by omega) (by decide)).trans C)) (dW C (aV C C (fun w hm => bJ (mW ((((D.getD k md0).ss).getD i sg0).k) w))) ?_)
 refine bT (fun h32 => ?_) (fun h32 => ?_)
 have h32p := of_decide_eq_true h32
 refine aH 2 C (fZ C C C C C C (fun h33 => ?_) (fun h33 => ?_))
 refine aP 1 C (aK C (bA 1 C ?_))
 refine aN (aE ?_)
 refine dZ ?_
 refine aE (aG ?_)
 exact aX C C (congrArg _ (bX (fun hp => by first | (omega) | (exact absurd hp.cnt (by assumption)) | (exact absurd hp.ins (by assumption)) | (exact absurd (hp.sg i (by omega)) (by assumption)) | (have h9 := (hp.gs i (by omega)).1; have h8 : Inn _ _ := Classical.byContradiction (fun h7 => by rw [fH h7] at h9; omega); rw [dH h8] at h9; obtain ⟨h5, h6⟩ := h8; omega) | (exact absurd (hp.gs i (by omega)).2 (by assumption)) | (exact absurd (hp.xs i (by omega)) (by assumption)) | (obtain ⟨⟨⟨h1, h2⟩, ⟨h3, h4⟩, ⟨h5, h6⟩⟩, h7⟩ := hp.ms i (by omega); first | omega | exact absurd h7 (by assumption)) | (have h9 := hp.dr i (by omega) (by omega); omega))).symm)
 refine aP 1 C (gM C (cK (aO (aI C (dO C C C) (dA 1 C ?_)))))
 exact cB (i + 1) ⟨by omega, fun q hq => by by_cases e : q = i; (subst e; intro h9; omega); exact hdr q (by omega)⟩ (by omega) (cN C) (eT C)
 have h32p := of_decide_eq_false h32
 refine aP 4 C (gM C (cK (aO (aI C (dO C C C) (aH 1 C (?_))))))
 exact bK (cB (i + 1) ⟨by omega, fun q hq => by by_cases e : q = i; (subst e; intro h9; omega); exact hdr q (by omega)⟩ (by omega) (cN C) (eT C))
 refine bQ (kD C ?_)
 refine bI (dC ?_)
 refine aM (aR (bA 1 C ?_))
 exact aN (aX C C (congrArg _ (dG ⟨hkl, hcnt, hins, hsgA, fun q hq => hgs q (by omega), fun q hq => hxs q (by omega), fun q hq => hms q (by omega), fun q hq => hdr q (by omega)⟩).symm))
 have h4p := eP h4
 refine aP 2 C (aK C (bA 1 C ?_))
 refine aN (aG ?_)
 exact aX C C (congrArg _ (bX (fun hp => by first | (omega) | (exact absurd hp.cnt (by assumption)) | (exact absurd hp.ins (by assumption)) | (exact absurd (hp.sg i (by omega)) (by assumption)) | (have h9 := (hp.gs i (by omega)).1; have h8 : Inn _ _ := Classical.byContradiction (fun h7 => by rw [fH h7] at h9; omega); rw [dH h8] at h9; obtain ⟨h5, h6⟩ := h8; omega) | (exact absurd (hp.gs i (by omega)).2 (by assumption)) | (exact absurd (hp.xs i (by omega)) (by assumption)) | (obtain ⟨⟨⟨h1, h2⟩, ⟨h3, h4⟩, ⟨h5, h6⟩⟩, h7⟩ := hp.ms i (by omega); first | omega | exact absurd h7 (by assumption)) | (have h9 := hp.dr i (by omega) (by omega); omega))).symm)
 have h3p := eP h3
 refine aP 8 C (aK C (cA (dA 1 C ?_)))
 refine aR (aN ?_)
 exact aG (aX C C (congrArg _ (bX (fun hp => by first | (omega) | (exact absurd hp.cnt (by assumption)) | (exact absurd hp.ins (by assumption)) | (exact absurd (hp.sg i (by omega)) (by assumption)) | (have h9 := (hp.gs i (by omega)).1; have h8 : Inn _ _ := Classical.byContradiction (fun h7 => by rw [fH h7] at h9; omega); rw [dH h8] at h9; obtain ⟨h5, h6⟩ := h8; omega) | (exact absurd (hp.gs i (by omega)).2 (by assumption)) | (exact absurd (hp.xs i (by omega)) (by assumption)) | (obtain ⟨⟨⟨h1, h2⟩, ⟨h3, h4⟩, ⟨h5, h6⟩⟩, h7⟩ := hp.ms i (by omega); first | omega | exact absurd h7 (by assumption)) | (have h9 := hp.dr i (by omega) (by omega); omega))).symm))
 have h2a := dK h2
 refine aP 12 C (aK C (cA ?_))
 refine aP 1 C ?_
 refine aN (aG ?_)
 exact aX C C (congrArg _ (bX (fun hp => by first | (omega) | (exact absurd hp.cnt (by assumption)) | (exact absurd hp.ins (by assumption)) | (exact absurd (hp.sg i (by omega)) (by assumption)) | (have h9 := (hp.gs i (by omega)).1; have h8 : Inn _ _ := Classical.byContradiction (fun h7 => by rw [fH h7] at h9; omega); rw [dH h8] at h9; obtain ⟨h5, h6⟩ := h8; omega) | (exact absurd (hp.gs i (by omega)).2 (by assumption)) | (exact absurd (hp.xs i (by omega)) (by assumption)) | (obtain ⟨⟨⟨h1, h2⟩, ⟨h3, h4⟩, ⟨h5, h6⟩⟩, h7⟩ := hp.ms i (by omega); first | omega | exact absurd h7 (by assumption)) | (have h9 := hp.dr i (by omega) (by omega); omega))).symm)
theorem kA (D : List Md) (v : Value) (w : World) (hd : RdsDs w v D) :
   Calls Try.prog 15 #[.agg #[v]] w (Ans w (.bool (pB (DesP D)))) := by
 have hd9 := gL hd.row
 refine bW (N := 19) (args := [.agg #[v]]) Try.func15 C C (cA ?_)
 refine cL C (cY C C) ?_
 intro b1
 refine aP 1 C (eM (aI C (bM 0 C C C) (aI C (aC C C C (aA 0 C C)) (aI C (dL C C C (aD hd.row)) (aP 1 C ?_)))))
 refine bD ?_
 refine gK (α := Nat) [0, 1, 2, 6] C (fun k => [boxE b1 #[v] 26]) (fun k => [(7, jI (k : Int))]) (fun k => k ≤ D.length ∧ ∀ q, q < k → ModP D q) (fun k => D.length - k) 0 ⟨Nat.zero_le _, fun q hq => absurd hq (by omega)⟩ (cN C) (eT C) ?_
 intro k hi2
 obtain ⟨hk, hall⟩ := hi2
 refine cA ?_
 refine bN C C C C C C (fun h3 => ?_) (fun h3 => ?_)
 refine bQ (jX C (cE (fD (cA (dA 2 C ?_)))))
 refine aR (cA (aI C (aW (cs := [v]) C C C C C (aT 0 C 0 C)) (aH 1 C ?_)))
 refine dW C (aV C C (fun w hm => bJ (nO D k v w (hd.below hm.bel) (by omega)))) (bT (fun h4 => ?_) (fun h4 => ?_))
 have h4p := fK h4
 refine aP 1 C (gM C (cK (aO (aI C (dO C C C) (dA 1 C ?_)))))
 exact cB (k + 1) ⟨by omega, fun q hq => by by_cases e : q = k; (subst e; assumption); exact hall q (by omega)⟩ (by omega) (cN C) (eT C)
 have h4p := eP h4
 refine aP 1 C (aK C (bA 1 C ?_))
 refine aN (aE ?_)
 refine dZ ?_
 refine aE (aG ?_)
 exact aX C C (congrArg _ (bX (fun hp => by first | (have := hp.1; omega) | (exact absurd (hp.2 k (by omega)) (by assumption)))).symm)
 refine bQ (kD C ?_)
 refine bI (dC ?_)
 refine aM (aR (cA (aI C (bM 0 C C C) (aI C (aC C C C (aA 0 C C)) (aI C (dL C C C (aD hd.row)) ?_)))))
 refine dW C (aV C C (fun w hm => bJ (fN (dD _ _ _ w)))) (bT (fun h5 => ?_) (fun h5 => ?_))
 obtain ⟨h5a, h5b⟩ := (dQ _ _ _).1 h5
 refine aP 1 C ?_
 exact aN (aX C C (congrArg _ (dG ⟨⟨by omega, by omega⟩, fun q hq => hall q (by omega)⟩).symm))
 have h5a := dK h5
 refine aP 1 C ?_
 exact aN (aX C C (congrArg _ (bX (fun hp => by first | (have := hp.1; omega) | (exact absurd (hp.2 k (by omega)) (by assumption)))).symm))
theorem xW (k : Int) : (k = 4 → arI k = 1) ∧ (5 ≤ k ∧ k ≤ 11 → arI k = 2) ∧ (k = 12 → arI k = 3) := by unfold arI; refine ⟨?_, ?_, ?_⟩ <;> intro h <;> (repeat' split) <;> omega
theorem Bo (os : List Oq) (vs : List Int) {x : Int} (hx : 0 ≤ x ∧ x ≤ 4) : ∀ (f p : Nat), 0 ≤ (evE os vs x f p).1 ∧ (evE os vs x f p).1 ≤ 15
  | 0, p => ⟨Int.le_refl _, by show (0 : Int) ≤ 15; decide⟩
  | f + 1, p => by
    have h1 := iS hx
    have h2 := lL (opV (os.getD p oq0) vs (argE (evE os vs x f) (p + 1) (arI (os.getD p oq0).k).toNat).1) (wmK x) (by unfold wmK; omega) (by unfold wmK; omega)
    have h3 : wmK x ≤ 15 := by unfold wmK; omega
    exact ⟨h2.1, Int.le_trans h2.2 h3⟩
theorem uO {g : Nat → Int × Nat} (hg : ∀ q, 0 ≤ (g q).1 ∧ (g q).1 ≤ 15) (p : Nat) : ∀ i, ∀ y ∈ (argE g p i).1, 0 ≤ y ∧ y ≤ 15
  | 0, y, hy => by cases hy
  | i + 1, y, hy => by
    rcases List.mem_append.1 (show y ∈ (argE g p i).1 ++ [_] from hy) with h | h
    · exact uO hg p i y h
    · rw [List.mem_singleton] at h; subst h; exact hg _
theorem Ac {L : List Int} (h : ∀ y ∈ L, 0 ≤ y ∧ y ≤ 15) (q : Nat) : 0 ≤ L.getD q 0 ∧ L.getD q 0 ≤ 15 := by
  by_cases hq : q < L.length
  · exact h _ (cV hq)
  · rw [List.getD_eq_getElem?_getD, List.getElem?_eq_none (by omega)]; decide
end Go.Proofs.Ytodiifjigjnalaa
