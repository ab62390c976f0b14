/- Texts of the law FnInstanceAlone, part 3: what it uses. -/
import Derived.Test.YtodiifjigjnalaaIal2
set_option linter.unusedVariables false
set_option linter.unusedSimpArgs false
set_option maxHeartbeats 4000000
set_option maxRecDepth 100000
namespace Go.Proofs.Ytodiifjigjnalaa
open Go.RowKit Go.ChangeShapes
open Go.RowKit
theorem nG (D : List Md) (k : Nat) (v : Value) (w : World) (hd : RdsDs w v D) (hk : k < D.length) :
   Calls Try.prog 109 #[.agg #[v], .int .i64 (k : Int)] w (Ans w (.bool (pB (ModP D k)))) := by
 have hd9 := gL hd.row
 refine bW (N := 205) (args := [.agg #[v], jI (k : Int)]) Try.func109 C C (cA ?_)
 refine cL C (cY C C) ?_
 intro b1
 refine aP 1 C (eM (aI C (aW (cs := [v]) C C C C C (aT 0 C 0 C)) (aH 1 C ?_)))
 refine dW C (aV C C (fun w hm => bJ (lP D k v w (hd.below hm.bel)))) (bT (fun h2 => ?_) (fun h2 => ?_))
 have h2p := fK h2
 refine aP 1 C (aS C (cE (cA (aI C (bM 0 C C C) (aI C (aC C C C (aA 0 C C)) (aH 1 C (aI C (cR 4 C C C C (aD hd.row)) ?_)))))))
 refine aI C (bL (us := [(D.getD k md0).sv, (D.getD k md0).av, (D.getD k md0).iv, (D.getD k md0).mv]) C C C C (aD hd.row) (by omega) C (bY mdC 4 (fun _ => C) D md0 (show k < _ by omega) C)) (cL C (bG (z := .agg #[.slice none 0 0, .slice none 0 0, .slice none 0 0, .slice none 0 0]) C C) ?_)
 intro b3
 refine bE (cs' := #[(D.getD k md0).sv, (D.getD k md0).av, (D.getD k md0).iv, (D.getD k md0).mv]) (i := 0) (off := 0) (us := [(D.getD k md0).sv, (D.getD k md0).av, (D.getD k md0).iv, (D.getD k md0).mv]) C C C C C C C (aB (hd.at (k := k) (by omega)).s.one (aB (hd.at (k := k) (by omega)).g.one (aB (hd.at (k := k) (by omega)).x.one (aB (hd.at (k := k) (by omega)).m.one bC)))) C C C (bQ (aF (bA 1 C (bD ?_))))
 refine gK (α := Nat) [0, 1, 2, 4, 5, 20] C (fun i => [boxE b3 #[(D.getD k md0).sv, (D.getD k md0).av, (D.getD k md0).iv, (D.getD k md0).mv] 35, boxE b1 #[v] 26]) (fun i => [(6, jI (i : Int))]) (fun i => i ≤ (D.getD k md0).ss.length ∧ (∀ q, q < i → SgP ((D.getD k md0).ss.getD q sg0)) ∧ (∀ q, q < i → ((D.getD k md0).ss.getD q sg0).k ≠ 0 → (drvL D (D.getD k md0)).count (q : Int) = 1)) (fun i => (D.getD k md0).ss.length - i) 0 ⟨Nat.zero_le _, fun q hq => absurd hq (by omega), fun q hq => absurd hq (by omega)⟩ (cN C) (eT C) ?_
 intro i hi4
 obtain ⟨hi, hsg, hdr⟩ := hi4
 have hcts : CtsP D k := by assumption
 obtain ⟨hkl, hcnt, hins⟩ := (show CtsP D k by assumption)
 obtain ⟨hn1, hn2, hn3, hn4⟩ := hcnt.md k hkl
 refine aF (aF (cG 1 C (aI C (bM 0 C C C) (aI C (aC C C C (aA 0 C C)) (aI C (dL C C C (aD ((hd.at (k := k) (by omega)).s))) ?_)))))
 refine bN C C C C C C (fun h5 => ?_) (fun h5 => ?_)
 refine bQ (aK C (cE (fD (cA (aI C (bM 0 C C C) (aI C (aC C C C (aA 0 C C)) (aH 1 C (aI C (cR 3 C C C C (aD ((hd.at (k := k) (by omega)).s))) ?_))))))))
 refine aI C (bL (us := [jI ((((D.getD k md0).ss).getD i sg0).k), jI ((((D.getD k md0).ss).getD i sg0).w), jI ((((D.getD k md0).ss).getD i sg0).i)]) C C C C (aD ((hd.at (k := k) (by omega)).s)) (by omega) C (bY sgC 3 (fun _ => C) ((D.getD k md0).ss) sg0 (show i < _ by omega) C)) (cL C (bG (z := .agg #[jI 0, jI 0, jI 0]) C C) ?_)
 intro b6
 refine bE (cs' := #[jI ((((D.getD k md0).ss).getD i sg0).k), jI ((((D.getD k md0).ss).getD i sg0).w), jI ((((D.getD k md0).ss).getD i sg0).i)]) (i := 0) (off := 0) (us := [jI ((((D.getD k md0).ss).getD i sg0).k), jI ((((D.getD k md0).ss).getD i sg0).w), jI ((((D.getD k md0).ss).getD i sg0).i)]) C C C C C C C (aB C (aB C (aB C bC))) C C C (bQ (eM (aI C (bM 0 C C C) (aI C (aC C C C (aA 0 C C)) ?_))))
 refine dW C (aV C C (fun w hm => bJ (gY ((((D.getD k md0).ss).getD i sg0).k) 0 3 w))) (bT (fun h7 => ?_) (fun h7 => ?_))
 obtain ⟨h7a, h7b⟩ := (dQ _ _ _).1 h7
 refine aH 2 C (aI C (bM 1 C C C) (aI C (aC C C C (aA 0 C C)) ?_))
 refine dW C (aV C C (fun w hm => bJ (gY ((((D.getD k md0).ss).getD i sg0).w) 0 4 w))) (bT (fun h8 => ?_) (fun h8 => ?_))
 obtain ⟨h8a, h8b⟩ := (dQ _ _ _).1 h8
 refine aH 3 C (aI C (bM 2 C C C) (aI C (aC C C C (aA 0 C C)) ?_))
 refine dW C (aV C C (fun w hm => bJ (gY ((((D.getD k md0).ss).getD i sg0).i) 0 15 w))) (bT (fun h9 => ?_) (fun h9 => ?_))
 obtain ⟨h9a, h9b⟩ := (dQ _ _ _).1 h9
 refine aH 3 C (aI C (bM 2 C C C) (aI C (aC C C C (aA 0 C C)) ?_))
 refine fZ C C C C C C (fun h10 => ?_) (fun h10 => ?_)
 refine aH 1 C (aI C (bM 0 C C C) (aI C (aC C C C (aA 0 C C)) ?_))
 refine fZ C C C C C C (fun h11 => ?_) (fun h11 => ?_)
 refine aP 2 C (aK C (bA 1 C ?_))
 refine aN (aG ?_)
 refine aE (dZ ?_)
 refine aE (aG ?_)
 exact aX rfl rfl (congrArg _ (bX (fun hp => by first | (exact absurd (show CtsP D k from ⟨hp.lt, hp.cnt, hp.ins⟩) (by assumption)) | (have h9 := hp.sg i (by omega); obtain ⟨⟨h1, h2⟩, ⟨h3, h4⟩, ⟨h5, h6⟩, h7⟩ := h9; omega) | (have h9 := hp.dr i (by omega) (by omega); omega) | (exact absurd (hp.gs i (by omega)).2 (by assumption)) | (have h9 := (hp.gs i (by omega)).1; have h8 : ¬ Drv (D.getD k md0) ((D.getD k md0).gs.getD i as0).t := (by assumption); exact h8 (by first | exact .inl (by omega) | exact .inr (by omega))) | (have h9 := (hp.gs i (by omega)).1; have h8 : ¬ Drv (D.getD k md0) ((D.getD k md0).gs.getD i as0).t := (by assumption); unfold Drv at h8; omega) | (have h9 := (hp.xs i (by omega)).1; omega) | (have h9 := ((hp.xs i (by omega)).2 j (by omega)).1; have h8 := (bZ hsgA).2 h9; omega) | (have h9 := ((hp.xs i (by omega)).2 j (by omega)).2 (by omega); exact absurd h9 (by assumption)) | (obtain ⟨⟨h1, h2, h3⟩, h4⟩ := hp.ms i (by omega); have g1 := (bZ hsgA).2 h1; have g2 := (bZ hsgA).2 h2; have g3 := (bZ hsgA).2 h3; first | omega | exact absurd h4 (by assumption)))).symm)
 refine aP 2 C (aS C (cE (cA (aI C (bM 0 C C C) (aI C (aC C C C (aA 0 C C)) ?_)))))
 refine fZ C C C C C C (fun h12 => ?_) (fun h12 => ?_)
 refine aH 1 C (aI C (aW (cs := [v]) C C C C C (aT 2 C 0 C)) (aH 2 C ?_))
 refine dW C (aV C C (fun w hm => bJ (iX D k i v w (hd.below hm.bel) hcts (by omega)))) (fZ C C C C C C (fun h13 => ?_) (fun h13 => ?_))
 refine aP 1 C (aK C (bA 1 C ?_))
 refine aN (aE ?_)
 refine dZ ?_
 refine aE (aG ?_)
 exact aX rfl rfl (congrArg _ (bX (fun hp => by first | (exact absurd (show CtsP D k from ⟨hp.lt, hp.cnt, hp.ins⟩) (by assumption)) | (have h9 := hp.sg i (by omega); obtain ⟨⟨h1, h2⟩, ⟨h3, h4⟩, ⟨h5, h6⟩, h7⟩ := h9; omega) | (have h9 := hp.dr i (by omega) (by omega); omega) | (exact absurd (hp.gs i (by omega)).2 (by assumption)) | (have h9 := (hp.gs i (by omega)).1; have h8 : ¬ Drv (D.getD k md0) ((D.getD k md0).gs.getD i as0).t := (by assumption); exact h8 (by first | exact .inl (by omega) | exact .inr (by omega))) | (have h9 := (hp.gs i (by omega)).1; have h8 : ¬ Drv (D.getD k md0) ((D.getD k md0).gs.getD i as0).t := (by assumption); unfold Drv at h8; omega) | (have h9 := (hp.xs i (by omega)).1; omega) | (have h9 := ((hp.xs i (by omega)).2 j (by omega)).1; have h8 := (bZ hsgA).2 h9; omega) | (have h9 := ((hp.xs i (by omega)).2 j (by omega)).2 (by omega); exact absurd h9 (by assumption)) | (obtain ⟨⟨h1, h2, h3⟩, h4⟩ := hp.ms i (by omega); have g1 := (bZ hsgA).2 h1; have g2 := (bZ hsgA).2 h2; have g3 := (bZ hsgA).2 h3; first | omega | exact absurd h4 (by assumption)))).symm)
 refine aP 1 C (gM C (cK (cG 1 C (aI C (dO C C C) (dA 1 C ?_)))))
 exact cB (i + 1) ⟨by omega, ⟨fun q hq => by by_cases e : q = i; (subst e; exact ⟨⟨by omega, by omega⟩, ⟨by omega, by omega⟩, ⟨by omega, by omega⟩, by omega⟩); exact hsg q (by omega), fun q hq => by by_cases e : q = i; (subst e; omega); exact hdr q (by omega)⟩⟩ (by omega) (cN C) (eO [1, 0] C)
 refine aP 7 C (gM C (cK (aO ?_)))
 refine aH 1 C (aI C (dO C C C) (dA 1 C ?_))
 exact cB (i + 1) ⟨by omega, ⟨fun q hq => by by_cases e : q = i; (subst e; exact ⟨⟨by omega, by omega⟩, ⟨by omega, by omega⟩, ⟨by omega, by omega⟩, by omega⟩); exact hsg q (by omega), fun q hq => by by_cases e : q = i; (subst e; omega); exact hdr q (by omega)⟩⟩ (by omega) (cN C) (eO [1, 0] C)
 refine aP 6 C (aS C (cE (cA (aI C (bM 0 C C C) ?_))))
 refine aI C (aC C C C (aA 0 C C)) (fZ C C C C C C (fun h14 => ?_) (fun h14 => ?_))
 refine aH 1 C (aI C (aW (cs := [v]) C C C C C (aT 2 C 0 C)) (aH 2 C ?_))
 refine dW C (aV C C (fun w hm => bJ (iX D k i v w (hd.below hm.bel) hcts (by omega)))) (fZ C C C C C C (fun h15 => ?_) (fun h15 => ?_))
 refine aP 1 C (aK C (bA 1 C ?_))
 refine aN (aE ?_)
 refine dZ ?_
 refine aE (aG ?_)
 exact aX rfl rfl (congrArg _ (bX (fun hp => by first | (exact absurd (show CtsP D k from ⟨hp.lt, hp.cnt, hp.ins⟩) (by assumption)) | (have h9 := hp.sg i (by omega); obtain ⟨⟨h1, h2⟩, ⟨h3, h4⟩, ⟨h5, h6⟩, h7⟩ := h9; omega) | (have h9 := hp.dr i (by omega) (by omega); omega) | (exact absurd (hp.gs i (by omega)).2 (by assumption)) | (have h9 := (hp.gs i (by omega)).1; have h8 : ¬ Drv (D.getD k md0) ((D.getD k md0).gs.getD i as0).t := (by assumption); exact h8 (by first | exact .inl (by omega) | exact .inr (by omega))) | (have h9 := (hp.gs i (by omega)).1; have h8 : ¬ Drv (D.getD k md0) ((D.getD k md0).gs.getD i as0).t := (by assumption); unfold Drv at h8; omega) | (have h9 := (hp.xs i (by omega)).1; omega) | (have h9 := ((hp.xs i (by omega)).2 j (by omega)).1; have h8 := (bZ hsgA).2 h9; omega) | (have h9 := ((hp.xs i (by omega)).2 j (by omega)).2 (by omega); exact absurd h9 (by assumption)) | (obtain ⟨⟨h1, h2, h3⟩, h4⟩ := hp.ms i (by omega); have g1 := (bZ hsgA).2 h1; have g2 := (bZ hsgA).2 h2; have g3 := (bZ hsgA).2 h3; first | omega | exact absurd h4 (by assumption)))).symm)
 refine aP 1 C (gM C (cK (cG 1 C (aI C (dO C C C) (dA 1 C ?_)))))
 exact cB (i + 1) ⟨by omega, ⟨fun q hq => by by_cases e : q = i; (subst e; exact ⟨⟨by omega, by omega⟩, ⟨by omega, by omega⟩, ⟨by omega, by omega⟩, by omega⟩); exact hsg q (by omega), fun q hq => by by_cases e : q = i; (subst e; omega); exact hdr q (by omega)⟩⟩ (by omega) (cN C) (eO [1, 0] C)
 refine aP 7 C (gM C (cK (aO ?_)))
 refine aH 1 C (aI C (dO C C C) (dA 1 C ?_))
 exact cB (i + 1) ⟨by omega, ⟨fun q hq => by by_cases e : q = i; (subst e; exact ⟨⟨by omega, by omega⟩, ⟨by omega, by omega⟩, ⟨by omega, by omega⟩, by omega⟩); exact hsg q (by omega), fun q hq => by by_cases e : q = i; (subst e; omega); exact hdr q (by omega)⟩⟩ (by omega) (cN C) (eO [1, 0] C)
 have h9a := dK h9
 refine aP 12 C (aK C (aF ?_))
 refine aO (aP 1 C ?_)
 refine aN (aG ?_)
 refine aE (dZ ?_)
 refine aE (aG ?_)
 exact aX rfl rfl (congrArg _ (bX (fun hp => by first | (exact absurd (show CtsP D k from ⟨hp.lt, hp.cnt, hp.ins⟩) (by assumption)) | (have h9 := hp.sg i (by omega); obtain ⟨⟨h1, h2⟩, ⟨h3, h4⟩, ⟨h5, h6⟩, h7⟩ := h9; omega) | (have h9 := hp.dr i (by omega) (by omega); omega) | (exact absurd (hp.gs i (by omega)).2 (by assumption)) | (have h9 := (hp.gs i (by omega)).1; have h8 : ¬ Drv (D.getD k md0) ((D.getD k md0).gs.getD i as0).t := (by assumption); exact h8 (by first | exact .inl (by omega) | exact .inr (by omega))) | (have h9 := (hp.gs i (by omega)).1; have h8 : ¬ Drv (D.getD k md0) ((D.getD k md0).gs.getD i as0).t := (by assumption); unfold Drv at h8; omega) | (have h9 := (hp.xs i (by omega)).1; omega) | (have h9 := ((hp.xs i (by omega)).2 j (by omega)).1; have h8 := (bZ hsgA).2 h9; omega) | (have h9 := ((hp.xs i (by omega)).2 j (by omega)).2 (by omega); exact absurd h9 (by assumption)) | (obtain ⟨⟨h1, h2, h3⟩, h4⟩ := hp.ms i (by omega); have g1 := (bZ hsgA).2 h1; have g2 := (bZ hsgA).2 h2; have g3 := (bZ hsgA).2 h3; first | omega | exact absurd h4 (by assumption)))).symm)
 have h8a := dK h8
 refine aH 18 C (?_)
 refine bQ (aK C (bA 1 C ?_))
 refine aN (aG ?_)
 refine aE (dZ ?_)
 refine aE (aG ?_)
 exact aX rfl rfl (congrArg _ (bX (fun hp => by first | (exact absurd (show CtsP D k from ⟨hp.lt, hp.cnt, hp.ins⟩) (by assumption)) | (have h9 := hp.sg i (by omega); obtain ⟨⟨h1, h2⟩, ⟨h3, h4⟩, ⟨h5, h6⟩, h7⟩ := h9; omega) | (have h9 := hp.dr i (by omega) (by omega); omega) | (exact absurd (hp.gs i (by omega)).2 (by assumption)) | (have h9 := (hp.gs i (by omega)).1; have h8 : ¬ Drv (D.getD k md0) ((D.getD k md0).gs.getD i as0).t := (by assumption); exact h8 (by first | exact .inl (by omega) | exact .inr (by omega))) | (have h9 := (hp.gs i (by omega)).1; have h8 : ¬ Drv (D.getD k md0) ((D.getD k md0).gs.getD i as0).t := (by assumption); unfold Drv at h8; omega) | (have h9 := (hp.xs i (by omega)).1; omega) | (have h9 := ((hp.xs i (by omega)).2 j (by omega)).1; have h8 := (bZ hsgA).2 h9; omega) | (have h9 := ((hp.xs i (by omega)).2 j (by omega)).2 (by omega); exact absurd h9 (by assumption)) | (obtain ⟨⟨h1, h2, h3⟩, h4⟩ := hp.ms i (by omega); have g1 := (bZ hsgA).2 h1; have g2 := (bZ hsgA).2 h2; have g3 := (bZ hsgA).2 h3; first | omega | exact absurd h4 (by assumption)))).symm)
 have h7a := dK h7
 refine aP 23 C (aK C (bA 1 C ?_))
 refine aN (aG ?_)
 refine aE (dZ ?_)
 refine aE (aG ?_)
 exact aX rfl rfl (congrArg _ (bX (fun hp => by first | (exact absurd (show CtsP D k from ⟨hp.lt, hp.cnt, hp.ins⟩) (by assumption)) | (have h9 := hp.sg i (by omega); obtain ⟨⟨h1, h2⟩, ⟨h3, h4⟩, ⟨h5, h6⟩, h7⟩ := h9; omega) | (have h9 := hp.dr i (by omega) (by omega); omega) | (exact absurd (hp.gs i (by omega)).2 (by assumption)) | (have h9 := (hp.gs i (by omega)).1; have h8 : ¬ Drv (D.getD k md0) ((D.getD k md0).gs.getD i as0).t := (by assumption); exact h8 (by first | exact .inl (by omega) | exact .inr (by omega))) | (have h9 := (hp.gs i (by omega)).1; have h8 : ¬ Drv (D.getD k md0) ((D.getD k md0).gs.getD i as0).t := (by assumption); unfold Drv at h8; omega) | (have h9 := (hp.xs i (by omega)).1; omega) | (have h9 := ((hp.xs i (by omega)).2 j (by omega)).1; have h8 := (bZ hsgA).2 h9; omega) | (have h9 := ((hp.xs i (by omega)).2 j (by omega)).2 (by omega); exact absurd h9 (by assumption)) | (obtain ⟨⟨h1, h2, h3⟩, h4⟩ := hp.ms i (by omega); have g1 := (bZ hsgA).2 h1; have g2 := (bZ hsgA).2 h2; have g3 := (bZ hsgA).2 h3; first | omega | exact absurd h4 (by assumption)))).symm)
 refine bQ (aS C ?_)
 refine bI (dC ?_)
 refine aM (aR (aF (bA 1 C (bD ?_))))
 refine gK (α := Nat) [0, 1, 2, 4, 5, 20, 30] C (fun i => [boxE b3 #[(D.getD k md0).sv, (D.getD k md0).av, (D.getD k md0).iv, (D.getD k md0).mv] 35, boxE b1 #[v] 26]) (fun i => [(8, jI (i : Int))]) (fun i => i ≤ (D.getD k md0).gs.length ∧ ∀ q, q < i → AsP (D.getD k md0) ((D.getD k md0).gs.getD q as0)) (fun i => (D.getD k md0).gs.length - i) 0 ⟨Nat.zero_le _, fun q hq => absurd hq (by omega)⟩ (cN C) (eT C) ?_
 intro i hi16
 obtain ⟨hi, hgs⟩ := hi16
 have hsgA : ∀ q, q < (D.getD k md0).ss.length → SgP ((D.getD k md0).ss.getD q sg0) := fun q hq => hsg q (by omega)
 refine aF (aF (cG 1 C (aI C (bM 1 C C C) (aI C (aC C C C (aA 0 C C)) (aI C (dL C C C (aD ((hd.at (k := k) (by omega)).g))) ?_)))))
 refine bN C C C C C C (fun h17 => ?_) (fun h17 => ?_)
 refine bQ (aK C (cE (fD (cA (aI C (bM 1 C C C) (aI C (aC C C C (aA 0 C C)) (aH 1 C (aI C (cR 2 C C C C (aD ((hd.at (k := k) (by omega)).g))) ?_))))))))
 refine aI C (bL (us := [jI ((((D.getD k md0).gs).getD i as0).t), (((D.getD k md0).gs).getD i as0).ov]) C C C C (aD ((hd.at (k := k) (by omega)).g)) (by omega) C (bY asC 2 (fun _ => C) ((D.getD k md0).gs) as0 (show i < _ by omega) C)) (cL C (bG (z := .agg #[jI 0, .slice none 0 0]) C C) ?_)
 intro b18
 refine bE (cs' := #[jI ((((D.getD k md0).gs).getD i as0).t), (((D.getD k md0).gs).getD i as0).ov]) (i := 0) (off := 0) (us := [jI ((((D.getD k md0).gs).getD i as0).t), (((D.getD k md0).gs).getD i as0).ov]) C C C C C C C (aB C (aB ((hd.at (k := k) (by omega)).o.at (k := i) (by omega)).one bC)) C C C (bQ (cA (aI C (aW (cs := [(D.getD k md0).sv, (D.getD k md0).av, (D.getD k md0).iv, (D.getD k md0).mv]) C C C C C (aT 1 C 0 C)) (aI C (bM 0 C C C) (aI C (aC C C C (aA 0 C C)) ?_)))))
 refine dW C (aV C C (fun w hm => bJ (jU (D.getD k md0) ((((D.getD k md0).gs).getD i as0).t) w ((hd.at (k := k) (by omega)).below hm.bel)))) (bT (fun h19 => ?_) (fun h19 => ?_))
 have h19p := fK h19
 refine aH 9 C (aI C (bM 1 C C C) (aI C (aC C C C (aA 0 C C)) (aI C (bM 0 C C C) (aI C (aC C C C (aA 1 C C)) (aI C (dL C C C (aD ((hd.at (k := k) (by omega)).s))) ?_)))))
 refine dW C (aV C C (fun w hm => bJ (lM ((D.getD k md0).gs.getD i as0).os (((D.getD k md0).ss).length : Int) _ w (((hd.at (k := k) (by omega)).below hm.bel).o.at (by omega))))) (bT (fun h20 => ?_) (fun h20 => ?_))
 have h20p := fK h20
 refine aP 2 C (gM C (cK (cG 1 C (aI C (dO C C C) (dA 1 C ?_)))))
 exact cB (i + 1) ⟨by omega, fun q hq => by by_cases e : q = i; (subst e; exact ⟨by first | exact ⟨by omega, by omega⟩ | (rename_i hdv9; rcases (show Drv _ _ by assumption) with h9 | h9 <;> exact ⟨by omega, by omega⟩), by assumption⟩); exact hgs q (by omega)⟩ (by omega) (cN C) (eO [1, 0] C)
 have h20p := eP h20
 refine aP 2 C (aK C (bA 1 C ?_))
 refine aN (aE ?_)
 refine dZ ?_
 refine aE (aG ?_)
 exact aX rfl rfl (congrArg _ (bX (fun hp => by first | (exact absurd (show CtsP D k from ⟨hp.lt, hp.cnt, hp.ins⟩) (by assumption)) | (have h9 := hp.sg i (by omega); obtain ⟨⟨h1, h2⟩, ⟨h3, h4⟩, ⟨h5, h6⟩, h7⟩ := h9; omega) | (have h9 := hp.dr i (by omega) (by omega); omega) | (exact absurd (hp.gs i (by omega)).2 (by assumption)) | (have h9 := (hp.gs i (by omega)).1; have h8 : ¬ Drv (D.getD k md0) ((D.getD k md0).gs.getD i as0).t := (by assumption); exact h8 (by first | exact .inl (by omega) | exact .inr (by omega))) | (have h9 := (hp.gs i (by omega)).1; have h8 : ¬ Drv (D.getD k md0) ((D.getD k md0).gs.getD i as0).t := (by assumption); unfold Drv at h8; omega) | (have h9 := (hp.xs i (by omega)).1; omega) | (have h9 := ((hp.xs i (by omega)).2 j (by omega)).1; have h8 := (bZ hsgA).2 h9; omega) | (have h9 := ((hp.xs i (by omega)).2 j (by omega)).2 (by omega); exact absurd h9 (by assumption)) | (obtain ⟨⟨h1, h2, h3⟩, h4⟩ := hp.ms i (by omega); have g1 := (bZ hsgA).2 h1; have g2 := (bZ hsgA).2 h2; have g3 := (bZ hsgA).2 h3; first | omega | exact absurd h4 (by assumption)))).symm)
 have h19p := eP h19
 refine aH 2 C (aI C (aW (cs := [(D.getD k md0).sv, (D.getD k md0).av, (D.getD k md0).iv, (D.getD k md0).mv]) C C C C C (aT 1 C 0 C)) (aI C (bM 0 C C C) (aI C (aC C C C (aA 0 C C)) ?_)))
 refine dW C (aV C C (fun w hm => bJ (gC (D.getD k md0) ((((D.getD k md0).gs).getD i as0).t) w ((hd.at (k := k) (by omega)).below hm.bel)))) (fZ C C C C C C (fun h21 => ?_) (fun h21 => ?_))
 refine aP 10 C (aK C (cA ?_))
 refine aP 1 C ?_
 refine aN (aE ?_)
 refine dZ ?_
 refine aE (aG ?_)
 exact aX rfl rfl (congrArg _ (bX (fun hp => by first | (exact absurd (show CtsP D k from ⟨hp.lt, hp.cnt, hp.ins⟩) (by assumption)) | (have h9 := hp.sg i (by omega); obtain ⟨⟨h1, h2⟩, ⟨h3, h4⟩, ⟨h5, h6⟩, h7⟩ := h9; omega) | (have h9 := hp.dr i (by omega) (by omega); omega) | (exact absurd (hp.gs i (by omega)).2 (by assumption)) | (have h9 := (hp.gs i (by omega)).1; have h8 : ¬ Drv (D.getD k md0) ((D.getD k md0).gs.getD i as0).t := (by assumption); exact h8 (by first | exact .inl (by omega) | exact .inr (by omega))) | (have h9 := (hp.gs i (by omega)).1; have h8 : ¬ Drv (D.getD k md0) ((D.getD k md0).gs.getD i as0).t := (by assumption); unfold Drv at h8; omega) | (have h9 := (hp.xs i (by omega)).1; omega) | (have h9 := ((hp.xs i (by omega)).2 j (by omega)).1; have h8 := (bZ hsgA).2 h9; omega) | (have h9 := ((hp.xs i (by omega)).2 j (by omega)).2 (by omega); exact absurd h9 (by assumption)) | (obtain ⟨⟨h1, h2, h3⟩, h4⟩ := hp.ms i (by omega); have g1 := (bZ hsgA).2 h1; have g2 := (bZ hsgA).2 h2; have g3 := (bZ hsgA).2 h3; first | omega | exact absurd h4 (by assumption)))).symm)
 refine aH 2 C (aI C (bM 1 C C C) (aI C (aC C C C (aA 0 C C)) (aI C (bM 0 C C C) (aI C (aC C C C (aA 1 C C)) (aI C (dL C C C (aD ((hd.at (k := k) (by omega)).s))) ?_)))))
 refine dW C (aV C C (fun w hm => bJ (lM ((D.getD k md0).gs.getD i as0).os (((D.getD k md0).ss).length : Int) _ w (((hd.at (k := k) (by omega)).below hm.bel).o.at (by omega))))) (bT (fun h22 => ?_) (fun h22 => ?_))
 have h22p := fK h22
 refine aP 2 C (gM C (cK (cG 1 C (aI C (dO C C C) (dA 1 C ?_)))))
 exact cB (i + 1) ⟨by omega, fun q hq => by by_cases e : q = i; (subst e; exact ⟨by first | exact ⟨by omega, by omega⟩ | (rename_i hdv9; rcases (show Drv _ _ by assumption) with h9 | h9 <;> exact ⟨by omega, by omega⟩), by assumption⟩); exact hgs q (by omega)⟩ (by omega) (cN C) (eO [1, 0] C)
 have h22p := eP h22
 refine aP 2 C (aK C (bA 1 C ?_))
 refine aN (aE ?_)
 refine dZ ?_
 refine aE (aG ?_)
 exact aX rfl rfl (congrArg _ (bX (fun hp => by first | (exact absurd (show CtsP D k from ⟨hp.lt, hp.cnt, hp.ins⟩) (by assumption)) | (have h9 := hp.sg i (by omega); obtain ⟨⟨h1, h2⟩, ⟨h3, h4⟩, ⟨h5, h6⟩, h7⟩ := h9; omega) | (have h9 := hp.dr i (by omega) (by omega); omega) | (exact absurd (hp.gs i (by omega)).2 (by assumption)) | (have h9 := (hp.gs i (by omega)).1; have h8 : ¬ Drv (D.getD k md0) ((D.getD k md0).gs.getD i as0).t := (by assumption); exact h8 (by first | exact .inl (by omega) | exact .inr (by omega))) | (have h9 := (hp.gs i (by omega)).1; have h8 : ¬ Drv (D.getD k md0) ((D.getD k md0).gs.getD i as0).t := (by assumption); unfold Drv at h8; omega) | (have h9 := (hp.xs i (by omega)).1; omega) | (have h9 := ((hp.xs i (by omega)).2 j (by omega)).1; have h8 := (bZ hsgA).2 h9; omega) | (have h9 := ((hp.xs i (by omega)).2 j (by omega)).2 (by omega); exact absurd h9 (by assumption)) | (obtain ⟨⟨h1, h2, h3⟩, h4⟩ := hp.ms i (by omega); have g1 := (bZ hsgA).2 h1; have g2 := (bZ hsgA).2 h2; have g3 := (bZ hsgA).2 h3; first | omega | exact absurd h4 (by assumption)))).symm)
 refine bQ (aS C ?_)
 refine bI (dC ?_)
 refine aM (aR (aF (bA 1 C (bD ?_))))
 refine gK (α := Nat) [0, 1, 2, 4, 5, 20, 30, 78] C (fun i => [boxE b3 #[(D.getD k md0).sv, (D.getD k md0).av, (D.getD k md0).iv, (D.getD k md0).mv] 35, boxE b1 #[v] 26]) (fun i => [(10, jI (i : Int))]) (fun i => i ≤ (D.getD k md0).xs.length ∧ ∀ q, q < i → IxP D (D.getD k md0) ((D.getD k md0).xs.getD q ix0)) (fun i => (D.getD k md0).xs.length - i) 0 ⟨Nat.zero_le _, fun q hq => absurd hq (by omega)⟩ (cN C) (eT C) ?_
 intro i hi23
 obtain ⟨hi, hxs⟩ := hi23
 refine aF (aF (cG 1 C (aI C (bM 2 C C C) (aI C (aC C C C (aA 0 C C)) (aI C (dL C C C (aD ((hd.at (k := k) (by omega)).x))) ?_)))))
 refine bN C C C C C C (fun h24 => ?_) (fun h24 => ?_)
 refine bQ (aK C (cE (fD (cA (aI C (bM 2 C C C) (aI C (aC C C C (aA 0 C C)) (aH 1 C (aI C (cR 3 C C C C (aD ((hd.at (k := k) (by omega)).x))) ?_))))))))
 refine aI C (bL (us := [jI ((((D.getD k md0).xs).getD i ix0).m), jI ((((D.getD k md0).xs).getD i ix0).p), (((D.getD k md0).xs).getD i ix0).pv]) C C C C (aD ((hd.at (k := k) (by omega)).x)) (by omega) C (bY ixC 3 (fun _ => C) ((D.getD k md0).xs) ix0 (show i < _ by omega) C)) (cL C (bG (z := .agg #[jI 0, jI 0, .slice none 0 0]) C C) ?_)
 intro b25
 refine bE (cs' := #[jI ((((D.getD k md0).xs).getD i ix0).m), jI ((((D.getD k md0).xs).getD i ix0).p), (((D.getD k md0).xs).getD i ix0).pv]) (i := 0) (off := 0) (us := [jI ((((D.getD k md0).xs).getD i ix0).m), jI ((((D.getD k md0).xs).getD i ix0).p), (((D.getD k md0).xs).getD i ix0).pv]) C C C C C C C (aB C (aB C (aB ((hd.at (k := k) (by omega)).p.at (k := i) (by omega)).one bC))) C C C (bQ (cA ?_))
 obtain ⟨⟨hm0, hm1⟩, hpe⟩ := hins i (by omega)
 refine aI C (bM 0 C C C) (aI C (aC C C C (aA 2 C C)) (aI C (bM 0 C C C) (aI C (aC C C C (aA 0 C C)) (aI C (cR 4 C C C C (aD hd.row)) ?_))))
 refine aI C (bL (us := [(D.getD (((((D.getD k md0).xs).getD i ix0).m).toNat) md0).sv, (D.getD (((((D.getD k md0).xs).getD i ix0).m).toNat) md0).av, (D.getD (((((D.getD k md0).xs).getD i ix0).m).toNat) md0).iv, (D.getD (((((D.getD k md0).xs).getD i ix0).m).toNat) md0).mv]) C C C C (aD hd.row) (by omega) C (bY mdC 4 (fun _ => C) D md0 (show ((((D.getD k md0).xs).getD i ix0).m).toNat < _ by omega) C)) (cL C (bG (z := .agg #[.slice none 0 0, .slice none 0 0, .slice none 0 0, .slice none 0 0]) C C) ?_)
 intro b26
 refine bE (cs' := #[(D.getD (((((D.getD k md0).xs).getD i ix0).m).toNat) md0).sv, (D.getD (((((D.getD k md0).xs).getD i ix0).m).toNat) md0).av, (D.getD (((((D.getD k md0).xs).getD i ix0).m).toNat) md0).iv, (D.getD (((((D.getD k md0).xs).getD i ix0).m).toNat) md0).mv]) (i := 0) (off := 0) (us := [(D.getD (((((D.getD k md0).xs).getD i ix0).m).toNat) md0).sv, (D.getD (((((D.getD k md0).xs).getD i ix0).m).toNat) md0).av, (D.getD (((((D.getD k md0).xs).getD i ix0).m).toNat) md0).iv, (D.getD (((((D.getD k md0).xs).getD i ix0).m).toNat) md0).mv]) C C C C C C C (aB (hd.at (k := ((((D.getD k md0).xs).getD i ix0).m).toNat) (by omega)).s.one (aB (hd.at (k := ((((D.getD k md0).xs).getD i ix0).m).toNat) (by omega)).g.one (aB (hd.at (k := ((((D.getD k md0).xs).getD i ix0).m).toNat) (by omega)).x.one (aB (hd.at (k := ((((D.getD k md0).xs).getD i ix0).m).toNat) (by omega)).m.one bC)))) C C C ?_
 refine bQ (cA (aI C (aW (cs := [(D.getD (((((D.getD k md0).xs).getD i ix0).m).toNat) md0).sv, (D.getD (((((D.getD k md0).xs).getD i ix0).m).toNat) md0).av, (D.getD (((((D.getD k md0).xs).getD i ix0).m).toNat) md0).iv, (D.getD (((((D.getD k md0).xs).getD i ix0).m).toNat) md0).mv]) C C C C C (aT 0 C 0 C)) ?_))
 refine fC C C C (aV C C (fun w hm => gF (D.getD (((((D.getD k md0).xs).getD i ix0).m).toNat) md0) w ((hd.at (by omega)).below hm.bel))) ?_
 intro v27 p28 R29
 subst R29
 refine aP 1 C (eM (aI C (bM 1 C C C) (aI C (aC C C C (aA 2 C C)) ?_)))
 refine dW C (aV C C (fun w hm => bJ (gY ((((D.getD k md0).xs).getD i ix0).p) 0 4 w))) (bT (fun h30 => ?_) (fun h30 => ?_))
 obtain ⟨h30a, h30b⟩ := (dQ _ _ _).1 h30
 refine aP 1 C (aS C (cE (bA 1 C (bD ?_))))
 refine gK (α := Nat) [0, 1, 2, 4, 5, 10, 11, 12, 13, 20, 30, 78, 111, 130] C (fun j => [rowE 3 1 v27 ((ptsK (D.getD (((((D.getD k md0).xs).getD i ix0).m).toNat) md0)).length) ((ptsK (D.getD (((((D.getD k md0).xs).getD i ix0).m).toNat) md0)).map (Value.int .i64)), boxE b26 #[(D.getD (((((D.getD k md0).xs).getD i ix0).m).toNat) md0).sv, (D.getD (((((D.getD k md0).xs).getD i ix0).m).toNat) md0).av, (D.getD (((((D.getD k md0).xs).getD i ix0).m).toNat) md0).iv, (D.getD (((((D.getD k md0).xs).getD i ix0).m).toNat) md0).mv] 35, boxE b25 #[jI ((((D.getD k md0).xs).getD i ix0).m), jI ((((D.getD k md0).xs).getD i ix0).p), (((D.getD k md0).xs).getD i ix0).pv] 63, boxE b3 #[(D.getD k md0).sv, (D.getD k md0).av, (D.getD k md0).iv, (D.getD k md0).mv] 35, boxE b1 #[v] 26]) (fun j => [(14, jI (j : Int))]) (fun j => j ≤ (ptsK (D.getD (((((D.getD k md0).xs).getD i ix0).m).toNat) md0)).length ∧ ∀ r, r < j → Inn (D.getD k md0) (((D.getD k md0).xs.getD i ix0).ps.getD r 0) ∧ (knd (D.getD (((((D.getD k md0).xs).getD i ix0).m).toNat) md0) ((ptsK (D.getD (((((D.getD k md0).xs).getD i ix0).m).toNat) md0)).getD r 0) = 1 → Drv (D.getD k md0) (((D.getD k md0).xs.getD i ix0).ps.getD r 0))) (fun j => (ptsK (D.getD (((((D.getD k md0).xs).getD i ix0).m).toNat) md0)).length - j) 0 ⟨Nat.zero_le _, fun q hq => absurd hq (by omega)⟩ (cN C) (eT C) ?_
 intro j hi31
 obtain ⟨hj, hj9⟩ := hi31
 have hpl := iD (D.getD (((((D.getD k md0).xs).getD i ix0).m).toNat) md0)
 refine aF (aF (cG 2 C (aI C (dL C C C (aJ 0 C)) ?_)))
 refine bN C C C C C C (fun h32 => ?_) (fun h32 => ?_)
 refine bQ (aK C (cE (fD (aF ?_))))
 have hpt := fU (m := (D.getD (((((D.getD k md0).xs).getD i ix0).m).toNat) md0)) (j := j) (by omega)
 have hkd := dH hpt
 rcases Bool.eq_false_or_eq_true (decide (knd (D.getD k md0) (((((D.getD k md0).xs).getD i ix0).ps).getD j 0) < 0)) with hb33 | hb33
 have hb33p : knd (D.getD k md0) (((((D.getD k md0).xs).getD i ix0).ps).getD j 0) < 0 := of_decide_eq_true hb33
 have hpt := fU (m := (D.getD (((((D.getD k md0).xs).getD i ix0).m).toNat) md0)) (j := j) (by omega)
 have hkd := dH hpt
 refine cI 30 [[], [], [1], [], [2, 3], [4], [0, 5], [6], [7], [8], [8], [8], [8], [8], [8], [8], [8], [8], [8], [8], [19], [19], [19], [19], [19], [19], [19], [19], [8], [8, 28]] [137, 138, 139, 140, 141, 142, 143, 144, 145, 146, 147, 148, 149, 150, 151, 152, 153, 154, 155, 156, 157, 158, 159, 160, 161, 162, 163, 164, 165, 166] [.agg #[(D.getD k md0).sv, (D.getD k md0).av, (D.getD k md0).iv, (D.getD k md0).mv], .pointer (some ⟨b25, 0 + 2, none⟩), (((D.getD k md0).xs).getD i ix0).pv, jI (j : Int), elP ((((D.getD k md0).xs).getD i ix0).pv) ((j : Int).toNat * 1), jI (((((D.getD k md0).xs).getD i ix0).ps).getD j 0), jI (knd (D.getD k md0) (((((D.getD k md0).xs).getD i ix0).ps).getD j 0)), .bool true, .bool true, undef, undef, undef, undef, undef, undef, undef, undef, undef, undef, undef, undef, undef, undef, undef, undef, undef, undef, undef, undef, .bool true] (by kernel_rfl) C ?_ ?_
 exact ⟨bF C (aW (cs := [(D.getD k md0).sv, (D.getD k md0).av, (D.getD k md0).iv, (D.getD k md0).mv]) C C C C C (aT 3 C 0 C)) C, bF C (bM 2 C C C) C, bF C (aC C C C (aA 2 C C)) C, bF C (aY C) C, bF C (cR 1 C C C C (aD ((hd.at (k := k) (by omega)).p.at (k := i) (by omega)))) C, bF C (aQ (u := jI (((((D.getD k md0).xs).getD i ix0).ps).getD j 0)) C C C (aD ((hd.at (k := k) (by omega)).p.at (k := i) (by omega))) (cJ (show _ < ((((D.getD k md0).xs).getD i ix0).ps).length by omega))) C, .inl ⟨C, aV C C (fun w hm => bJ (gC (D.getD k md0) (((((D.getD k md0).xs).getD i ix0).ps).getD j 0) w ((hd.at (k := k) (by omega)).below hm.bel)))⟩, .inl ⟨C, gG (dR C C C C) hb33⟩, bF C (aY C) C, .inr ⟨C, C⟩, .inr ⟨C, C⟩, .inr ⟨C, C⟩, .inr ⟨C, C⟩, .inr ⟨C, C⟩, .inr ⟨C, C⟩, .inr ⟨C, C⟩, .inr ⟨C, C⟩, .inr ⟨C, C⟩, .inr ⟨C, C⟩, .inr ⟨C, C⟩, .inr ⟨C, C⟩, .inr ⟨C, C⟩, .inr ⟨C, C⟩, .inr ⟨C, C⟩, .inr ⟨C, C⟩, .inr ⟨C, C⟩, .inr ⟨C, C⟩, .inr ⟨C, C⟩, .inr ⟨C, C⟩, bF C (aY C) C, trivial⟩
 simp only [List.drop_succ_cons, List.drop_zero]
 refine bQ (aK C (bA 1 C ?_))
 refine aN (aE ?_)
 refine dZ ?_
 refine aE (aE ?_)
 refine dZ ?_
 refine aE (aG ?_)
 exact aX rfl rfl (congrArg _ (bX (fun hp => by first | (exact absurd (show CtsP D k from ⟨hp.lt, hp.cnt, hp.ins⟩) (by assumption)) | (have h9 := hp.sg i (by omega); obtain ⟨⟨h1, h2⟩, ⟨h3, h4⟩, ⟨h5, h6⟩, h7⟩ := h9; omega) | (have h9 := hp.dr i (by omega) (by omega); omega) | (exact absurd (hp.gs i (by omega)).2 (by assumption)) | (have h9 := (hp.gs i (by omega)).1; have h8 : ¬ Drv (D.getD k md0) ((D.getD k md0).gs.getD i as0).t := (by assumption); exact h8 (by first | exact .inl (by omega) | exact .inr (by omega))) | (have h9 := (hp.gs i (by omega)).1; have h8 : ¬ Drv (D.getD k md0) ((D.getD k md0).gs.getD i as0).t := (by assumption); unfold Drv at h8; omega) | (have h9 := (hp.xs i (by omega)).1; omega) | (have h9 := ((hp.xs i (by omega)).2 j (by omega)).1; have h8 := (bZ hsgA).2 h9; omega) | (have h9 := ((hp.xs i (by omega)).2 j (by omega)).2 (by omega); exact absurd h9 (by assumption)) | (obtain ⟨⟨h1, h2, h3⟩, h4⟩ := hp.ms i (by omega); have g1 := (bZ hsgA).2 h1; have g2 := (bZ hsgA).2 h2; have g3 := (bZ hsgA).2 h3; first | omega | exact absurd h4 (by assumption)))).symm)
 have hb33p : ¬ (knd (D.getD k md0) (((((D.getD k md0).xs).getD i ix0).ps).getD j 0) < 0) := of_decide_eq_false hb33
 have hpt := fU (m := (D.getD (((((D.getD k md0).xs).getD i ix0).m).toNat) md0)) (j := j) (by omega)
 have hkd := dH hpt
 rcases Bool.eq_false_or_eq_true (((((D.getD (((((D.getD k md0).xs).getD i ix0).m).toNat) md0).ss).getD (((ptsK (D.getD (((((D.getD k md0).xs).getD i ix0).m).toNat) md0)).getD j 0).toNat) sg0).k) == 1) with hb34 | hb34
 have hb34p : (((D.getD (((((D.getD k md0).xs).getD i ix0).m).toNat) md0).ss).getD (((ptsK (D.getD (((((D.getD k md0).xs).getD i ix0).m).toNat) md0)).getD j 0).toNat) sg0).k = 1 := beq_iff_eq.1 hb34
 have hpt := fU (m := (D.getD (((((D.getD k md0).xs).getD i ix0).m).toNat) md0)) (j := j) (by omega)
 have hkd := dH hpt
 refine cI 30 [[], [], [1], [], [2, 3], [4], [0, 5], [6], [7], [8], [8, 9], [8], [8], [8, 11, 12], [8, 13], [8, 10, 14], [8, 15], [8, 16], [8, 17], [8, 18], [19], [19], [19, 21], [19], [19, 22, 23], [19, 24], [19, 20, 25], [19, 26], [8, 19, 27], [8, 28]] [137, 138, 139, 140, 141, 142, 143, 144, 145, 146, 147, 148, 149, 150, 151, 152, 153, 154, 155, 156, 157, 158, 159, 160, 161, 162, 163, 164, 165, 166] [.agg #[(D.getD k md0).sv, (D.getD k md0).av, (D.getD k md0).iv, (D.getD k md0).mv], .pointer (some ⟨b25, 0 + 2, none⟩), (((D.getD k md0).xs).getD i ix0).pv, jI (j : Int), elP ((((D.getD k md0).xs).getD i ix0).pv) ((j : Int).toNat * 1), jI (((((D.getD k md0).xs).getD i ix0).ps).getD j 0), jI (knd (D.getD k md0) (((((D.getD k md0).xs).getD i ix0).ps).getD j 0)), .bool false, .bool false, .pointer (some ⟨b26, 0 + 0, none⟩), (D.getD (((((D.getD k md0).xs).getD i ix0).m).toNat) md0).sv, v27, jI (j : Int), elP v27 ((j : Int).toNat * 1), jI ((ptsK (D.getD (((((D.getD k md0).xs).getD i ix0).m).toNat) md0)).getD j 0), elP ((D.getD (((((D.getD k md0).xs).getD i ix0).m).toNat) md0).sv) (((ptsK (D.getD (((((D.getD k md0).xs).getD i ix0).m).toNat) md0)).getD j 0).toNat * 3), elP ((D.getD (((((D.getD k md0).xs).getD i ix0).m).toNat) md0).sv) (((ptsK (D.getD (((((D.getD k md0).xs).getD i ix0).m).toNat) md0)).getD j 0).toNat * 3 + 0), jI ((((D.getD (((((D.getD k md0).xs).getD i ix0).m).toNat) md0).ss).getD (((ptsK (D.getD (((((D.getD k md0).xs).getD i ix0).m).toNat) md0)).getD j 0).toNat) sg0).k), .bool true, .bool true, .agg #[(D.getD k md0).sv, (D.getD k md0).av, (D.getD k md0).iv, (D.getD k md0).mv], .pointer (some ⟨b25, 0 + 2, none⟩), (((D.getD k md0).xs).getD i ix0).pv, jI (j : Int), elP ((((D.getD k md0).xs).getD i ix0).pv) ((j : Int).toNat * 1), jI (((((D.getD k md0).xs).getD i ix0).ps).getD j 0), .bool (pB (Drv (D.getD k md0) (((((D.getD k md0).xs).getD i ix0).ps).getD j 0))), .bool (!(pB (Drv (D.getD k md0) (((((D.getD k md0).xs).getD i ix0).ps).getD j 0)))), .bool (!(pB (Drv (D.getD k md0) (((((D.getD k md0).xs).getD i ix0).ps).getD j 0)))), .bool (!(pB (Drv (D.getD k md0) (((((D.getD k md0).xs).getD i ix0).ps).getD j 0))))] (by kernel_rfl) C ?_ ?_
 exact ⟨bF C (aW (cs := [(D.getD k md0).sv, (D.getD k md0).av, (D.getD k md0).iv, (D.getD k md0).mv]) C C C C C (aT 3 C 0 C)) C, bF C (bM 2 C C C) C, bF C (aC C C C (aA 2 C C)) C, bF C (aY C) C, bF C (cR 1 C C C C (aD ((hd.at (k := k) (by omega)).p.at (k := i) (by omega)))) C, bF C (aQ (u := jI (((((D.getD k md0).xs).getD i ix0).ps).getD j 0)) C C C (aD ((hd.at (k := k) (by omega)).p.at (k := i) (by omega))) (cJ (show _ < ((((D.getD k md0).xs).getD i ix0).ps).length by omega))) C, .inl ⟨C, aV C C (fun w hm => bJ (gC (D.getD k md0) (((((D.getD k md0).xs).getD i ix0).ps).getD j 0) w ((hd.at (k := k) (by omega)).below hm.bel)))⟩, .inl ⟨C, gG (dR C C C C) hb33⟩, bF C (aY C) C, bF C (bM 0 C C C) C, bF C (aC C C C (aA 1 C C)) C, bF C (aY C) C, bF C (aY C) C, bF C (cR 1 C C C C (aJ 0 C)) C, bF C (aQ (u := jI ((ptsK (D.getD (((((D.getD k md0).xs).getD i ix0).m).toNat) md0)).getD j 0)) C C C (aJ 0 C) (cJ (show _ < (ptsK (D.getD (((((D.getD k md0).xs).getD i ix0).m).toNat) md0)).length by omega))) C, bF C (cR 3 C C C C (aD ((hd.at (k := ((((D.getD k md0).xs).getD i ix0).m).toNat) (by omega)).s))) C, bF C (aZ (k0 := 0) C C C (aD ((hd.at (k := ((((D.getD k md0).xs).getD i ix0).m).toNat) (by omega)).s)) (by omega)) C, bF C (aQ (u := jI ((((D.getD (((((D.getD k md0).xs).getD i ix0).m).toNat) md0).ss).getD (((ptsK (D.getD (((((D.getD k md0).xs).getD i ix0).m).toNat) md0)).getD j 0).toNat) sg0).k)) C C C (aD ((hd.at (k := ((((D.getD k md0).xs).getD i ix0).m).toNat) (by omega)).s)) ((bR sgC 3 (fun _ => C) ((D.getD (((((D.getD k md0).xs).getD i ix0).m).toNat) md0).ss) sg0 (show ((ptsK (D.getD (((((D.getD k md0).xs).getD i ix0).m).toNat) md0)).getD j 0).toNat < _ by omega) (by decide)).trans C)) C, .inl ⟨C, gG (dR C C C C) hb34⟩, bF C (aY C) C, bF C (aW (cs := [(D.getD k md0).sv, (D.getD k md0).av, (D.getD k md0).iv, (D.getD k md0).mv]) C C C C C (aT 3 C 0 C)) C, bF C (bM 2 C C C) C, bF C (aC C C C (aA 2 C C)) C, bF C (aY C) C, bF C (cR 1 C C C C (aD ((hd.at (k := k) (by omega)).p.at (k := i) (by omega)))) C, bF C (aQ (u := jI (((((D.getD k md0).xs).getD i ix0).ps).getD j 0)) C C C (aD ((hd.at (k := k) (by omega)).p.at (k := i) (by omega))) (cJ (show _ < ((((D.getD k md0).xs).getD i ix0).ps).length by omega))) C, .inl ⟨C, aV C C (fun w hm => bJ (jU (D.getD k md0) (((((D.getD k md0).xs).getD i ix0).ps).getD j 0) w ((hd.at (k := k) (by omega)).below hm.bel)))⟩, bF C (aY C) C, bF C (aY C) C, bF C (aY C) C, trivial⟩
 simp only [List.drop_succ_cons, List.drop_zero]
 refine bQ ?_
 refine eW C (fun h35 => ?_) (fun h35 => ?_)
 have h35n : (pB (Drv (D.getD k md0) (((((D.getD k md0).xs).getD i ix0).ps).getD j 0))) = false := by simpa using h35
 have h35np := eP h35n
 refine bA 1 C ?_
 refine aN (aE ?_)
 refine dZ ?_
 refine aE (aE ?_)
 refine dZ ?_
 refine aE (aG ?_)
 exact aX rfl rfl (congrArg _ (bX (fun hp => by first | (exact absurd (show CtsP D k from ⟨hp.lt, hp.cnt, hp.ins⟩) (by assumption)) | (have h9 := hp.sg i (by omega); obtain ⟨⟨h1, h2⟩, ⟨h3, h4⟩, ⟨h5, h6⟩, h7⟩ := h9; omega) | (have h9 := hp.dr i (by omega) (by omega); omega) | (exact absurd (hp.gs i (by omega)).2 (by assumption)) | (have h9 := (hp.gs i (by omega)).1; have h8 : ¬ Drv (D.getD k md0) ((D.getD k md0).gs.getD i as0).t := (by assumption); exact h8 (by first | exact .inl (by omega) | exact .inr (by omega))) | (have h9 := (hp.gs i (by omega)).1; have h8 : ¬ Drv (D.getD k md0) ((D.getD k md0).gs.getD i as0).t := (by assumption); unfold Drv at h8; omega) | (have h9 := (hp.xs i (by omega)).1; omega) | (have h9 := ((hp.xs i (by omega)).2 j (by omega)).1; have h8 := (bZ hsgA).2 h9; omega) | (have h9 := ((hp.xs i (by omega)).2 j (by omega)).2 (by omega); exact absurd h9 (by assumption)) | (obtain ⟨⟨h1, h2, h3⟩, h4⟩ := hp.ms i (by omega); have g1 := (bZ hsgA).2 h1; have g2 := (bZ hsgA).2 h2; have g3 := (bZ hsgA).2 h3; first | omega | exact absurd h4 (by assumption)))).symm)
 have h35n : (pB (Drv (D.getD k md0) (((((D.getD k md0).xs).getD i ix0).ps).getD j 0))) = true := by simpa using h35
 have h35np := fK h35n
 refine fA (cK (cG 1 C (aI C (dO C C C) (dA 1 C ?_))))
 exact cB (j + 1) ⟨by omega, fun r hr9 => by by_cases e : r = j; (subst e; exact ⟨(bZ hsgA).1 (by omega), fun _ => by first | assumption | (exfalso; omega)⟩); exact hj9 r (by omega)⟩ (by omega) (cN C) (eT C)
 have hb34p : (((D.getD (((((D.getD k md0).xs).getD i ix0).m).toNat) md0).ss).getD (((ptsK (D.getD (((((D.getD k md0).xs).getD i ix0).m).toNat) md0)).getD j 0).toNat) sg0).k ≠ 1 := beq_eq_false_iff_ne.1 hb34
 have hpt := fU (m := (D.getD (((((D.getD k md0).xs).getD i ix0).m).toNat) md0)) (j := j) (by omega)
 have hkd := dH hpt
 refine cI 30 [[], [], [1], [], [2, 3], [4], [0, 5], [6], [7], [8], [8, 9], [8], [8], [8, 11, 12], [8, 13], [8, 10, 14], [8, 15], [8, 16], [8, 17], [8, 18], [19], [19], [19], [19], [19], [19], [19], [19], [8, 19, 27], [8, 28]] [137, 138, 139, 140, 141, 142, 143, 144, 145, 146, 147, 148, 149, 150, 151, 152, 153, 154, 155, 156, 157, 158, 159, 160, 161, 162, 163, 164, 165, 166] [.agg #[(D.getD k md0).sv, (D.getD k md0).av, (D.getD k md0).iv, (D.getD k md0).mv], .pointer (some ⟨b25, 0 + 2, none⟩), (((D.getD k md0).xs).getD i ix0).pv, jI (j : Int), elP ((((D.getD k md0).xs).getD i ix0).pv) ((j : Int).toNat * 1), jI (((((D.getD k md0).xs).getD i ix0).ps).getD j 0), jI (knd (D.getD k md0) (((((D.getD k md0).xs).getD i ix0).ps).getD j 0)), .bool false, .bool false, .pointer (some ⟨b26, 0 + 0, none⟩), (D.getD (((((D.getD k md0).xs).getD i ix0).m).toNat) md0).sv, v27, jI (j : Int), elP v27 ((j : Int).toNat * 1), jI ((ptsK (D.getD (((((D.getD k md0).xs).getD i ix0).m).toNat) md0)).getD j 0), elP ((D.getD (((((D.getD k md0).xs).getD i ix0).m).toNat) md0).sv) (((ptsK (D.getD (((((D.getD k md0).xs).getD i ix0).m).toNat) md0)).getD j 0).toNat * 3), elP ((D.getD (((((D.getD k md0).xs).getD i ix0).m).toNat) md0).sv) (((ptsK (D.getD (((((D.getD k md0).xs).getD i ix0).m).toNat) md0)).getD j 0).toNat * 3 + 0), jI ((((D.getD (((((D.getD k md0).xs).getD i ix0).m).toNat) md0).ss).getD (((ptsK (D.getD (((((D.getD k md0).xs).getD i ix0).m).toNat) md0)).getD j 0).toNat) sg0).k), .bool false, .bool false, undef, undef, undef, undef, undef, undef, undef, undef, .bool false, .bool false] (by kernel_rfl) C ?_ ?_
 exact ⟨bF C (aW (cs := [(D.getD k md0).sv, (D.getD k md0).av, (D.getD k md0).iv, (D.getD k md0).mv]) C C C C C (aT 3 C 0 C)) C, bF C (bM 2 C C C) C, bF C (aC C C C (aA 2 C C)) C, bF C (aY C) C, bF C (cR 1 C C C C (aD ((hd.at (k := k) (by omega)).p.at (k := i) (by omega)))) C, bF C (aQ (u := jI (((((D.getD k md0).xs).getD i ix0).ps).getD j 0)) C C C (aD ((hd.at (k := k) (by omega)).p.at (k := i) (by omega))) (cJ (show _ < ((((D.getD k md0).xs).getD i ix0).ps).length by omega))) C, .inl ⟨C, aV C C (fun w hm => bJ (gC (D.getD k md0) (((((D.getD k md0).xs).getD i ix0).ps).getD j 0) w ((hd.at (k := k) (by omega)).below hm.bel)))⟩, .inl ⟨C, gG (dR C C C C) hb33⟩, bF C (aY C) C, bF C (bM 0 C C C) C, bF C (aC C C C (aA 1 C C)) C, bF C (aY C) C, bF C (aY C) C, bF C (cR 1 C C C C (aJ 0 C)) C, bF C (aQ (u := jI ((ptsK (D.getD (((((D.getD k md0).xs).getD i ix0).m).toNat) md0)).getD j 0)) C C C (aJ 0 C) (cJ (show _ < (ptsK (D.getD (((((D.getD k md0).xs).getD i ix0).m).toNat) md0)).length by omega))) C, bF C (cR 3 C C C C (aD ((hd.at (k := ((((D.getD k md0).xs).getD i ix0).m).toNat) (by omega)).s))) C, bF C (aZ (k0 := 0) C C C (aD ((hd.at (k := ((((D.getD k md0).xs).getD i ix0).m).toNat) (by omega)).s)) (by omega)) C, bF C (aQ (u := jI ((((D.getD (((((D.getD k md0).xs).getD i ix0).m).toNat) md0).ss).getD (((ptsK (D.getD (((((D.getD k md0).xs).getD i ix0).m).toNat) md0)).getD j 0).toNat) sg0).k)) C C C (aD ((hd.at (k := ((((D.getD k md0).xs).getD i ix0).m).toNat) (by omega)).s)) ((bR sgC 3 (fun _ => C) ((D.getD (((((D.getD k md0).xs).getD i ix0).m).toNat) md0).ss) sg0 (show ((ptsK (D.getD (((((D.getD k md0).xs).getD i ix0).m).toNat) md0)).getD j 0).toNat < _ by omega) (by decide)).trans C)) C, .inl ⟨C, gG (dR C C C C) hb34⟩, bF C (aY C) C, .inr ⟨C, C⟩, .inr ⟨C, C⟩, .inr ⟨C, C⟩, .inr ⟨C, C⟩, .inr ⟨C, C⟩, .inr ⟨C, C⟩, .inr ⟨C, C⟩, .inr ⟨C, C⟩, bF C (aY C) C, bF C (aY C) C, trivial⟩
 simp only [List.drop_succ_cons, List.drop_zero]
 refine bQ (gM C (cK (cG 1 C (aI C (dO C C C) (dA 1 C ?_)))))
 exact cB (j + 1) ⟨by omega, fun r hr9 => by by_cases e : r = j; (subst e; exact ⟨(bZ hsgA).1 (by omega), fun _ => by first | assumption | (exfalso; omega)⟩); exact hj9 r (by omega)⟩ (by omega) (cN C) (eT C)
 refine bQ (aS C ?_)
 refine bI (dC ?_)
 refine aM (cK (cG 1 C (aI C (dO C C C) (dA 1 C ?_))))
 exact cB (i + 1) ⟨by omega, fun q hq => by by_cases e : q = i; (subst e; exact ⟨⟨by omega, by omega⟩, fun r hr9 => hj9 r (by omega)⟩); exact hxs q (by omega)⟩ (by omega) (cN C) (eO [3, 0] C)
 have h30a := dK h30
 refine aP 1 C (aK C (bA 1 C ?_))
 refine aN (aG ?_)
 refine aE (dZ ?_)
 refine aE (aG ?_)
 exact aX rfl rfl (congrArg _ (bX (fun hp => by first | (exact absurd (show CtsP D k from ⟨hp.lt, hp.cnt, hp.ins⟩) (by assumption)) | (have h9 := hp.sg i (by omega); obtain ⟨⟨h1, h2⟩, ⟨h3, h4⟩, ⟨h5, h6⟩, h7⟩ := h9; omega) | (have h9 := hp.dr i (by omega) (by omega); omega) | (exact absurd (hp.gs i (by omega)).2 (by assumption)) | (have h9 := (hp.gs i (by omega)).1; have h8 : ¬ Drv (D.getD k md0) ((D.getD k md0).gs.getD i as0).t := (by assumption); exact h8 (by first | exact .inl (by omega) | exact .inr (by omega))) | (have h9 := (hp.gs i (by omega)).1; have h8 : ¬ Drv (D.getD k md0) ((D.getD k md0).gs.getD i as0).t := (by assumption); unfold Drv at h8; omega) | (have h9 := (hp.xs i (by omega)).1; omega) | (have h9 := ((hp.xs i (by omega)).2 j (by omega)).1; have h8 := (bZ hsgA).2 h9; omega) | (have h9 := ((hp.xs i (by omega)).2 j (by omega)).2 (by omega); exact absurd h9 (by assumption)) | (obtain ⟨⟨h1, h2, h3⟩, h4⟩ := hp.ms i (by omega); have g1 := (bZ hsgA).2 h1; have g2 := (bZ hsgA).2 h2; have g3 := (bZ hsgA).2 h3; first | omega | exact absurd h4 (by assumption)))).symm)
 refine bQ (aS C ?_)
 refine bI (dC ?_)
 refine aM (aR (aF (bA 1 C (bD ?_))))
 refine gK (α := Nat) [0, 1, 2, 4, 5, 20, 30, 78, 111] C (fun i => [boxE b3 #[(D.getD k md0).sv, (D.getD k md0).av, (D.getD k md0).iv, (D.getD k md0).mv] 35, boxE b1 #[v] 26]) (fun i => [(15, jI (i : Int))]) (fun i => i ≤ (D.getD k md0).ms.length ∧ ∀ q, q < i → MmP (D.getD k md0) ((D.getD k md0).ms.getD q mm0)) (fun i => (D.getD k md0).ms.length - i) 0 ⟨Nat.zero_le _, fun q hq => absurd hq (by omega)⟩ (cN C) (eT C) ?_
 intro i hi36
 obtain ⟨hi, hms⟩ := hi36
 refine aF (aF (cG 1 C (aI C (bM 3 C C C) (aI C (aC C C C (aA 0 C C)) (aI C (dL C C C (aD ((hd.at (k := k) (by omega)).m))) ?_)))))
 refine bN C C C C C C (fun h37 => ?_) (fun h37 => ?_)
 refine bQ (aK C (cE (fD (cA (aI C (bM 3 C C C) (aI C (aC C C C (aA 0 C C)) (aH 1 C (aI C (cR 4 C C C C (aD ((hd.at (k := k) (by omega)).m))) ?_))))))))
 refine aI C (bL (us := [jI ((((D.getD k md0).ms).getD i mm0).a), jI ((((D.getD k md0).ms).getD i mm0).d), jI ((((D.getD k md0).ms).getD i mm0).w), jI ((((D.getD k md0).ms).getD i mm0).o)]) C C C C (aD ((hd.at (k := k) (by omega)).m)) (by omega) C (bY mmC 4 (fun _ => C) ((D.getD k md0).ms) mm0 (show i < _ by omega) C)) (cL C (bG (z := .agg #[jI 0, jI 0, jI 0, jI 0]) C C) ?_)
 intro b38
 refine bE (cs' := #[jI ((((D.getD k md0).ms).getD i mm0).a), jI ((((D.getD k md0).ms).getD i mm0).d), jI ((((D.getD k md0).ms).getD i mm0).w), jI ((((D.getD k md0).ms).getD i mm0).o)]) (i := 0) (off := 0) (us := [jI ((((D.getD k md0).ms).getD i mm0).a), jI ((((D.getD k md0).ms).getD i mm0).d), jI ((((D.getD k md0).ms).getD i mm0).w), jI ((((D.getD k md0).ms).getD i mm0).o)]) C C C C C C C (aB C (aB C (aB C (aB C bC)))) C C C (bQ (cA (aI C (aW (cs := [(D.getD k md0).sv, (D.getD k md0).av, (D.getD k md0).iv, (D.getD k md0).mv]) C C C C C (aT 1 C 0 C)) (aI C (bM 0 C C C) (aI C (aC C C C (aA 0 C C)) ?_)))))
 refine dW C (aV C C (fun w hm => bJ (gC (D.getD k md0) ((((D.getD k md0).ms).getD i mm0).a) w ((hd.at (k := k) (by omega)).below hm.bel)))) (bN C C C C C C (fun h39 => ?_) (fun h39 => ?_))
 refine aP 21 C (aK C (bA 1 C ?_))
 refine aN (aE ?_)
 refine dZ ?_
 refine aE (aG ?_)
 exact aX rfl rfl (congrArg _ (bX (fun hp => by first | (exact absurd (show CtsP D k from ⟨hp.lt, hp.cnt, hp.ins⟩) (by assumption)) | (have h9 := hp.sg i (by omega); obtain ⟨⟨h1, h2⟩, ⟨h3, h4⟩, ⟨h5, h6⟩, h7⟩ := h9; omega) | (have h9 := hp.dr i (by omega) (by omega); omega) | (exact absurd (hp.gs i (by omega)).2 (by assumption)) | (have h9 := (hp.gs i (by omega)).1; have h8 : ¬ Drv (D.getD k md0) ((D.getD k md0).gs.getD i as0).t := (by assumption); exact h8 (by first | exact .inl (by omega) | exact .inr (by omega))) | (have h9 := (hp.gs i (by omega)).1; have h8 : ¬ Drv (D.getD k md0) ((D.getD k md0).gs.getD i as0).t := (by assumption); unfold Drv at h8; omega) | (have h9 := (hp.xs i (by omega)).1; omega) | (have h9 := ((hp.xs i (by omega)).2 j (by omega)).1; have h8 := (bZ hsgA).2 h9; omega) | (have h9 := ((hp.xs i (by omega)).2 j (by omega)).2 (by omega); exact absurd h9 (by assumption)) | (obtain ⟨⟨h1, h2, h3⟩, h4⟩ := hp.ms i (by omega); have g1 := (bZ hsgA).2 h1; have g2 := (bZ hsgA).2 h2; have g3 := (bZ hsgA).2 h3; first | omega | exact absurd h4 (by assumption)))).symm)
 refine aH 1 C (aI C (aW (cs := [(D.getD k md0).sv, (D.getD k md0).av, (D.getD k md0).iv, (D.getD k md0).mv]) C C C C C (aT 1 C 0 C)) (aI C (bM 1 C C C) (aI C (aC C C C (aA 0 C C)) ?_)))
 refine dW C (aV C C (fun w hm => bJ (gC (D.getD k md0) ((((D.getD k md0).ms).getD i mm0).d) w ((hd.at (k := k) (by omega)).below hm.bel)))) (bN C C C C C C (fun h40 => ?_) (fun h40 => ?_))
 refine dA 15 C ?_
 refine aR (aK C (bA 1 C ?_))
 refine aN (aE ?_)
 refine dZ ?_
 refine aE (aG ?_)
 exact aX rfl rfl (congrArg _ (bX (fun hp => by first | (exact absurd (show CtsP D k from ⟨hp.lt, hp.cnt, hp.ins⟩) (by assumption)) | (have h9 := hp.sg i (by omega); obtain ⟨⟨h1, h2⟩, ⟨h3, h4⟩, ⟨h5, h6⟩, h7⟩ := h9; omega) | (have h9 := hp.dr i (by omega) (by omega); omega) | (exact absurd (hp.gs i (by omega)).2 (by assumption)) | (have h9 := (hp.gs i (by omega)).1; have h8 : ¬ Drv (D.getD k md0) ((D.getD k md0).gs.getD i as0).t := (by assumption); exact h8 (by first | exact .inl (by omega) | exact .inr (by omega))) | (have h9 := (hp.gs i (by omega)).1; have h8 : ¬ Drv (D.getD k md0) ((D.getD k md0).gs.getD i as0).t := (by assumption); unfold Drv at h8; omega) | (have h9 := (hp.xs i (by omega)).1; omega) | (have h9 := ((hp.xs i (by omega)).2 j (by omega)).1; have h8 := (bZ hsgA).2 h9; omega) | (have h9 := ((hp.xs i (by omega)).2 j (by omega)).2 (by omega); exact absurd h9 (by assumption)) | (obtain ⟨⟨h1, h2, h3⟩, h4⟩ := hp.ms i (by omega); have g1 := (bZ hsgA).2 h1; have g2 := (bZ hsgA).2 h2; have g3 := (bZ hsgA).2 h3; first | omega | exact absurd h4 (by assumption)))).symm)
 refine aH 2 C (aI C (aW (cs := [(D.getD k md0).sv, (D.getD k md0).av, (D.getD k md0).iv, (D.getD k md0).mv]) C C C C C (aT 1 C 0 C)) (aI C (bM 2 C C C) (aI C (aC C C C (aA 0 C C)) ?_)))
 refine dW C (aV C C (fun w hm => bJ (gC (D.getD k md0) ((((D.getD k md0).ms).getD i mm0).w) w ((hd.at (k := k) (by omega)).below hm.bel)))) (bN C C C C C C (fun h41 => ?_) (fun h41 => ?_))
 refine aP 8 C (aK C (aF (cG 1 C (?_))))
 refine bQ ?_
 refine aN (aE ?_)
 refine dZ ?_
 refine aE (aG ?_)
 exact aX rfl rfl (congrArg _ (bX (fun hp => by first | (exact absurd (show CtsP D k from ⟨hp.lt, hp.cnt, hp.ins⟩) (by assumption)) | (have h9 := hp.sg i (by omega); obtain ⟨⟨h1, h2⟩, ⟨h3, h4⟩, ⟨h5, h6⟩, h7⟩ := h9; omega) | (have h9 := hp.dr i (by omega) (by omega); omega) | (exact absurd (hp.gs i (by omega)).2 (by assumption)) | (have h9 := (hp.gs i (by omega)).1; have h8 : ¬ Drv (D.getD k md0) ((D.getD k md0).gs.getD i as0).t := (by assumption); exact h8 (by first | exact .inl (by omega) | exact .inr (by omega))) | (have h9 := (hp.gs i (by omega)).1; have h8 : ¬ Drv (D.getD k md0) ((D.getD k md0).gs.getD i as0).t := (by assumption); unfold Drv at h8; omega) | (have h9 := (hp.xs i (by omega)).1; omega) | (have h9 := ((hp.xs i (by omega)).2 j (by omega)).1; have h8 := (bZ hsgA).2 h9; omega) | (have h9 := ((hp.xs i (by omega)).2 j (by omega)).2 (by omega); exact absurd h9 (by assumption)) | (obtain ⟨⟨h1, h2, h3⟩, h4⟩ := hp.ms i (by omega); have g1 := (bZ hsgA).2 h1; have g2 := (bZ hsgA).2 h2; have g3 := (bZ hsgA).2 h3; first | omega | exact absurd h4 (by assumption)))).symm)
 refine aH 2 C (aI C (aW (cs := [(D.getD k md0).sv, (D.getD k md0).av, (D.getD k md0).iv, (D.getD k md0).mv]) C C C C C (aT 1 C 0 C)) (aI C (bM 3 C C C) (aI C (aC C C C (aA 0 C C)) ?_)))
 refine dW C (aV C C (fun w hm => bJ (jU (D.getD k md0) ((((D.getD k md0).ms).getD i mm0).o) w ((hd.at (k := k) (by omega)).below hm.bel)))) (bT (fun h42 => ?_) (fun h42 => ?_))
 have h42p := fK h42
 refine aP 2 C (gM C (cK (cG 1 C (aI C (dO C C C) (dA 1 C ?_)))))
 exact cB (i + 1) ⟨by omega, fun q hq => by by_cases e : q = i; (subst e; exact ⟨⟨(bZ hsgA).1 (by omega), (bZ hsgA).1 (by omega), (bZ hsgA).1 (by omega)⟩, by assumption⟩); exact hms q (by omega)⟩ (by omega) (cN C) (eO [1, 0] C)
 have h42p := eP h42
 refine aP 2 C (aK C (bA 1 C ?_))
 refine aN (aE ?_)
 refine dZ ?_
 refine aE (aG ?_)
 exact aX rfl rfl (congrArg _ (bX (fun hp => by first | (exact absurd (show CtsP D k from ⟨hp.lt, hp.cnt, hp.ins⟩) (by assumption)) | (have h9 := hp.sg i (by omega); obtain ⟨⟨h1, h2⟩, ⟨h3, h4⟩, ⟨h5, h6⟩, h7⟩ := h9; omega) | (have h9 := hp.dr i (by omega) (by omega); omega) | (exact absurd (hp.gs i (by omega)).2 (by assumption)) | (have h9 := (hp.gs i (by omega)).1; have h8 : ¬ Drv (D.getD k md0) ((D.getD k md0).gs.getD i as0).t := (by assumption); exact h8 (by first | exact .inl (by omega) | exact .inr (by omega))) | (have h9 := (hp.gs i (by omega)).1; have h8 : ¬ Drv (D.getD k md0) ((D.getD k md0).gs.getD i as0).t := (by assumption); unfold Drv at h8; omega) | (have h9 := (hp.xs i (by omega)).1; omega) | (have h9 := ((hp.xs i (by omega)).2 j (by omega)).1; have h8 := (bZ hsgA).2 h9; omega) | (have h9 := ((hp.xs i (by omega)).2 j (by omega)).2 (by omega); exact absurd h9 (by assumption)) | (obtain ⟨⟨h1, h2, h3⟩, h4⟩ := hp.ms i (by omega); have g1 := (bZ hsgA).2 h1; have g2 := (bZ hsgA).2 h2; have g3 := (bZ hsgA).2 h3; first | omega | exact absurd h4 (by assumption)))).symm)
 refine bQ (aS C ?_)
 refine bI (dC ?_)
 refine aM (aR (bA 1 C ?_))
 exact aN (aX C C (congrArg _ (dG ⟨hkl, hcnt, hins, hsgA, fun q hq => hgs q (by omega), fun q hq => hxs q (by omega), fun q hq => hms q (by omega), fun q hq => hdr q (by omega)⟩).symm))
 have h2p := eP h2
 refine aP 1 C (aK C (bA 1 C ?_))
 refine aN (aG ?_)
 exact aX rfl rfl (congrArg _ (bX (fun hp => by first | (exact absurd (show CtsP D k from ⟨hp.lt, hp.cnt, hp.ins⟩) (by assumption)) | (have h9 := hp.sg i (by omega); obtain ⟨⟨h1, h2⟩, ⟨h3, h4⟩, ⟨h5, h6⟩, h7⟩ := h9; omega) | (have h9 := hp.dr i (by omega) (by omega); omega) | (exact absurd (hp.gs i (by omega)).2 (by assumption)) | (have h9 := (hp.gs i (by omega)).1; have h8 : ¬ Drv (D.getD k md0) ((D.getD k md0).gs.getD i as0).t := (by assumption); exact h8 (by first | exact .inl (by omega) | exact .inr (by omega))) | (have h9 := (hp.gs i (by omega)).1; have h8 : ¬ Drv (D.getD k md0) ((D.getD k md0).gs.getD i as0).t := (by assumption); unfold Drv at h8; omega) | (have h9 := (hp.xs i (by omega)).1; omega) | (have h9 := ((hp.xs i (by omega)).2 j (by omega)).1; have h8 := (bZ hsgA).2 h9; omega) | (have h9 := ((hp.xs i (by omega)).2 j (by omega)).2 (by omega); exact absurd h9 (by assumption)) | (obtain ⟨⟨h1, h2, h3⟩, h4⟩ := hp.ms i (by omega); have g1 := (bZ hsgA).2 h1; have g2 := (bZ hsgA).2 h2; have g3 := (bZ hsgA).2 h3; first | omega | exact absurd h4 (by assumption)))).symm)
theorem iH (D : List Md) (v : Value) (w : World) (hd : RdsDs w v D) :
   Calls Try.prog 51 #[.agg #[v]] w (Ans w (.bool (pB (DesP D)))) := by
 have hd9 := gL hd.row
 refine bW (N := 20) (args := [.agg #[v]]) Try.func51 C C (cA ?_)
 refine cL C (cY C C) ?_
 intro b1
 refine aP 1 C (eM (aI C (bM 0 C C C) (aI C (aC C C C (aA 0 C C)) (aI C (dL C C C (aD hd.row)) ?_))))
 refine dW C (aV C C (fun w hm => bJ (gY (D.length : Int) 1 4 w))) (bT (fun h2 => ?_) (fun h2 => ?_))
 obtain ⟨h2a, h2b⟩ := (dQ _ _ _).1 h2
 refine aP 1 C (aS C (cE (aF (bA 1 C ?_))))
 refine bD ?_
 refine gK (α := Nat) [0, 1, 2, 8] C (fun k => [boxE b1 #[v] 26]) (fun k => [(3, jI (k : Int))]) (fun k => k ≤ D.length ∧ ∀ q, q < k → ModP D q) (fun k => D.length - k) 0 ⟨Nat.zero_le _, fun q hq => absurd hq (by omega)⟩ (cN C) (eT C) ?_
 intro k hi3
 obtain ⟨hk, hall⟩ := hi3
 refine aF (aF (cG 1 C (aI C (bM 0 C C C) (aI C (aC C C C (aA 0 C C)) (aI C (dL C C C (aD hd.row)) ?_)))))
 refine bN C C C C C C (fun h4 => ?_) (fun h4 => ?_)
 refine bQ (aK C (cE (fD (cA (aI C (aW (cs := [v]) C C C C C (aT 0 C 0 C)) (aH 1 C ?_))))))
 refine dW C (aV C C (fun w hm => bJ (nG D k v w (hd.below hm.bel) (by omega)))) (bT (fun h5 => ?_) (fun h5 => ?_))
 have h5p := fK h5
 refine aP 1 C (gM C (cK (cG 1 C (aI C (dO C C C) (dA 1 C ?_)))))
 exact cB (k + 1) ⟨by omega, fun q hq => by by_cases e : q = k; (subst e; assumption); exact hall q (by omega)⟩ (by omega) (cN C) (eT C)
 have h5p := eP h5
 refine aP 1 C (aK C (bA 1 C ?_))
 refine aN (aE ?_)
 refine dZ ?_
 refine aE (aG ?_)
 exact aX C C (congrArg _ (bX (fun hp => by first | (have := hp.1; omega) | (exact absurd (hp.2 k (by omega)) (by assumption)))).symm)
 refine bQ (aS C ?_)
 refine bI (dC ?_)
 refine aM (aR (bA 1 C ?_))
 exact aN (aX C C (congrArg _ (dG ⟨⟨by omega, by omega⟩, fun q hq => hall q (by omega)⟩).symm))
 have h2a := dK h2
 refine aP 1 C (aK C (bA 1 C ?_))
 refine aN (aG ?_)
 exact aX C C (congrArg _ (bX (fun hp => by first | (have := hp.1; omega) | (exact absurd (hp.2 k (by omega)) (by assumption)))).symm)
theorem gS (g : Nat) (a : Option Addr) (len cap : Nat) (z : List Int) (v : Value) (L : List Int) (w0 : World) (l : List HP) (w : World) (hm0 : Mem w0 (curE g a len cap :: l) w) (hb : BRow .u8 w0 a len cap z) (hv : Rd w0 l v 1 L.length (L.map (Value.int .i64))) (hL : 1 ≤ L.length ∧ L.length ≤ 256) :
   Calls Try.prog 85 #[.pointer (some ⟨g, 0, none⟩), v] w (fun e_ w_ => ∃ v_ p_, e_ = .returned v_ ∧ (fun u_ p_ => (∃ x : Int, u_ = .int .i64 x ∧ x ∈ L) ∧ p_ = curE g a len cap) v_ p_ ∧ Mem w0 (p_ :: l) w_) := by
 refine gI (N := 12) (args := [pI g, v]) Try.func85 C C hm0 (bA 1 C (aF (cG 3 C ?_)))
 refine aI C (dL C C C (fun w hm => hv w (hm.sub (.cons _ (.refl _))))) (eK (R := (fun u_ p_ => (∃ x_ : Int, u_ = jI x_ ∧ 0 ≤ x_ ∧ x_ < (L.length : Int)) ∧ p_ = curE g a len cap)) 0 C C C C C (fun l' w hm => eH g a len cap z (L.length : Int) _ _ _ hm hb (by constructor <;> omega)) ?_)
 intro v1 p2 R3
 obtain ⟨⟨x3, rfl, x30, x31⟩, rfl⟩ := R3
 refine dY (l' := (curE g a len cap :: l)) C ?_
 refine aI C (cR 1 C C C C (fun w hm => hv w (hm.sub (.cons _ (.refl _))))) (aI C (nD C C C (fun w hm => hv w (hm.sub (.cons _ (.refl _))))) ?_)
 refine aP 1 C ?_
 exact aN (eV (rs := [.tmp 4]) (vs := [jI (L.getD (x3.toNat) 0)]) C ⟨C, trivial⟩ C (fun w hm => ⟨_, curE g a len cap, C, ⟨⟨_, C, rA (es := L) (d := 0) (by omega)⟩, C⟩, hm.sub (.refl _)⟩))
theorem sD (g : Nat) (a : Option Addr) (len cap : Nat) (z : List Int) (n : Int) (u : Value) (A : List Int) (M : Int) (w0 : World) (l : List HP) (w : World) (hm0 : Mem w0 (curE g a len cap :: l) w) (hb : BRow .u8 w0 a len cap z) (hu : Rd w0 l u 1 A.length (A.map (Value.int .i64))) (hA : ∀ x ∈ A, 0 ≤ x ∧ x < n) (hAl : A.length ≤ 100) (hM : 1 ≤ M ∧ M ≤ 15) (IH : ∀ (q : Int), 1 ≤ q → q < M → ∀ (l2 : List HP) (w2 : World), Mem w0 (curE g a len cap :: l2) w2 → Rd w0 l2 u 1 A.length (A.map (Value.int .i64)) → Calls Try.prog 86 #[.pointer (some ⟨g, 0, none⟩), u, .int .i64 (q)] w2 (fun e_ w_ => ∃ v_ p_, e_ = .returned v_ ∧ (fun u_ p_ => ∃ os : List Oq, p_ = bigE [curE g a len cap, rS9 97 3 u_ os oqC] ∧ ExP n q os) v_ p_ ∧ Mem w0 (p_ :: l2) w_)) :
   Calls Try.prog 86 #[.pointer (some ⟨g, 0, none⟩), u, .int .i64 M] w (fun e_ w_ => ∃ v_ p_, e_ = .returned v_ ∧ (fun u_ p_ => ∃ os : List Oq, p_ = bigE [curE g a len cap, rS9 97 3 u_ os oqC] ∧ ExP n M os) v_ p_ ∧ Mem w0 (p_ :: l) w_) := by
 refine gI (N := 85) (args := [pI g, u, jI M]) Try.func86 C C hm0 (bA 1 C (aF ?_))
 refine fJ (α := Bool) (fun b9 => (curE g a len cap :: l)) (fun b9 => [(0, pI g), (1, u), (2, jI M), (6, .slice none 0 0), (16, .bool b9)]) (fun b9 => b9 = false → 4 ≤ M) ?_ ?_
 refine cG 1 C ?_
 refine bN C C C C C C (fun h1 => ?_) (fun h1 => ?_)
 refine dA 4 C ?_
 exact cP true (fun h9 => by first | omega | cases h9) (cN C) (.refl _)
 refine aH 2 C (eK (R := (fun u_ p_ => (∃ b : Bool, u_ = .bool b) ∧ p_ = curE g a len cap)) 0 C C C C C (fun l' w hm => mS hm hb (3) (by omega) (by omega)) ?_)
 intro v2 p3 R4
 obtain ⟨⟨x4, rfl⟩, rfl⟩ := R4
 refine dY (l' := (curE g a len cap :: l)) C ?_
 refine bT (fun h5 => ?_) (fun h5 => ?_)
 refine dA 1 C ?_
 exact cP true (fun h9 => by first | omega | cases h9) (cN C) (.refl _)
 refine dA 1 C ?_
 exact cP false (fun h9 => by first | omega | cases h9) (cN C) (.refl _)
 intro b9 hm6
 have hb9 := hm6
 refine eW C (fun h7 => ?_) (fun h7 => ?_)
 refine fJ (α := Unit) (fun u0 => (curE g a len cap :: l)) (fun u0 => [(0, pI g), (1, u), (2, jI M), (6, .slice none 0 0), (16, .bool b9)]) (fun u0 => True) ?_ ?_
 refine aF (cG 1 C ?_)
 refine eK (R := (fun u_ p_ => (∃ x_ : Int, u_ = jI x_ ∧ 0 ≤ x_ ∧ x_ < 8) ∧ p_ = curE g a len cap)) 0 C C C C C (fun l' w hm => eH g a len cap z 8 _ _ _ hm hb (by constructor <;> omega)) ?_
 intro v8 p9 R10
 obtain ⟨⟨x10, rfl, x100, x101⟩, rfl⟩ := R10
 refine dY (l' := (curE g a len cap :: l)) C ?_
 refine bQ (bD (cA ?_))
 refine bU C C C C C C (fun h11 => ?_) (fun h11 => ?_)
 refine aP 1 C (aK C (aF (cG 1 C ?_)))
 refine eK (R := (fun u_ p_ => (∃ x_ : Int, u_ = jI x_ ∧ 0 ≤ x_ ∧ x_ < 16) ∧ p_ = curE g a len cap)) 0 C C C C C (fun l' w hm => eH g a len cap z 16 _ _ _ hm hb (by constructor <;> omega)) ?_
 intro v12 p13 R14
 obtain ⟨⟨x14, rfl, x140, x141⟩, rfl⟩ := R14
 refine dY (l' := (curE g a len cap :: l)) C ?_
 refine aI C (cU (cs := #[jI 0, jI x14, jI 0]) C C C) (eA C (bB (z := .agg #[jI 0, jI 0, jI 0]) (s := 3) (cs := (mI [0, x14, 0])) C Try.underlying71 C (by decide) C (by kernel_rfl) C) ?_)
 intro g15
 refine aP 1 C ?_
 refine aN (aE ?_)
 refine dZ ?_
 refine cD 2 [0, 1] C C (by decide) ?_
 refine dE 2 C ?_
 exact eV (rs := [.tmp 6]) (vs := [.slice (some ⟨g15, 0, none⟩) 1 1]) C ⟨C, trivial⟩ C (fun w hm => ⟨_, bigE [curE g a len cap, rowE 97 3 (.slice (some ⟨g15, 0, none⟩) 1 1) 1 (mI [0, x14, 0])], C, ⟨[Oq.mk 0 x14 0], C, lD (by first | exact .inl ⟨rfl, ⟨by dsimp only; omega, by dsimp only; omega⟩, rfl⟩ | exact .inr (.inl ⟨rfl, ⟨by dsimp only; omega, by dsimp only; omega⟩, rfl⟩) | exact .inr (.inr (.inl ⟨rfl, ⟨by dsimp only; omega, by dsimp only; omega⟩, by dsimp only; omega, by dsimp only; omega⟩)) | exact .inr (.inr (.inr ⟨by decide, by decide, by decide, by decide, rfl, rfl⟩))) C (by omega)⟩, hm.sub (.refl _)⟩)
 refine aP 1 C (aS C (cA ?_))
 refine bU C C C C C C (fun h16 => ?_) (fun h16 => ?_)
 refine aP 1 C (aK C (aF (cG 1 C ?_)))
 refine eK (R := (fun u_ p_ => (∃ b : Bool, u_ = .bool b) ∧ p_ = curE g a len cap)) 0 C C C C C (fun l' w hm => mS hm hb (3) (by omega) (by omega)) ?_
 intro v17 p18 R19
 obtain ⟨⟨x19, rfl⟩, rfl⟩ := R19
 refine dY (l' := (curE g a len cap :: l)) C ?_
 refine bT (fun h20 => ?_) (fun h20 => ?_)
 refine bQ (aK C (cA (aI C (cU (cs := #[jI 1, jI 0, jI 0]) C C C) ?_)))
 refine eA C (bB (z := .agg #[jI 0, jI 0, jI 0]) (s := 3) (cs := (mI [1, 0, 0])) C Try.underlying71 C (by decide) C (by kernel_rfl) C) ?_
 intro g21
 refine aP 1 C ?_
 refine aN (aE ?_)
 refine dZ ?_
 refine cD 2 [0, 1] C C (by decide) ?_
 refine dE 2 C ?_
 exact eV (rs := [.tmp 6]) (vs := [.slice (some ⟨g21, 0, none⟩) 1 1]) C ⟨C, trivial⟩ C (fun w hm => ⟨_, bigE [curE g a len cap, rowE 97 3 (.slice (some ⟨g21, 0, none⟩) 1 1) 1 (mI [1, 0, 0])], C, ⟨[Oq.mk 1 0 0], C, lD (by first | exact .inl ⟨rfl, ⟨by dsimp only; omega, by dsimp only; omega⟩, rfl⟩ | exact .inr (.inl ⟨rfl, ⟨by dsimp only; omega, by dsimp only; omega⟩, rfl⟩) | exact .inr (.inr (.inl ⟨rfl, ⟨by dsimp only; omega, by dsimp only; omega⟩, by dsimp only; omega, by dsimp only; omega⟩)) | exact .inr (.inr (.inr ⟨by decide, by decide, by decide, by decide, rfl, rfl⟩))) C (by omega)⟩, hm.sub (.refl _)⟩)
 refine bQ (gM C (bV ?_))
 exact cP () trivial (cN C) (.refl _)
 refine aP 1 C (aS C ?_)
 refine fJ (α := Bool) (fun b8 => (curE g a len cap :: l)) (fun b8 => [(0, pI g), (1, u), (2, jI M), (6, .slice none 0 0), (16, .bool b9), (18, jI x10), (19, .bool false), (25, .bool false), (31, .bool b8)]) (fun b8 => True) ?_ ?_
 refine cA ?_
 refine bU C C C C C C (fun h22 => ?_) (fun h22 => ?_)
 refine aP 1 C (aK C (fA ?_))
 exact cP true trivial (cN C) (.refl _)
 refine aP 1 C (aS C (aO ?_))
 refine bU C C C C C C (fun h23 => ?_) (fun h23 => ?_)
 refine dA 1 C ?_
 exact cP true trivial (cN C) (.refl _)
 refine dA 1 C ?_
 exact cP false trivial (cN C) (.refl _)
 intro b8 hm24
 refine eW C (fun h25 => ?_) (fun h25 => ?_)
 refine aF (cG 1 C ?_)
 refine aI C (dL C C C (fun w hm => hu w (hm.sub (.cons _ (.refl _))))) (eS C C C C C C (fun h26 => ?_) (fun h26 => ?_))
 refine bQ (aK C (aF ?_))
 refine jE (l := (l)) C 11 [0, 1, 2, 3, 4, 5, 6, 7, 8, 9, 10] (List.take 11 _) (List.drop 11 _) [[], [], [], [2], [1, 3], [0, 4], [4, 5], [], [4, 7], [4, 6, 8], [4, 8, 9]] [37, 38, 39, 40, 41, 42, 43, 44, 45, 46, 47] (fun i_ vs_ v_ p_ => match i_ with | 0 => v_ = u ∧ p_ = [] | 1 => v_ = pI g ∧ p_ = [] | 2 => v_ = u ∧ p_ = [] | 3 => v_ = jI (A.length : Int) ∧ p_ = [] | 4 => (∃ pm_, p_ = [pm_] ∧ (fun u_ p_ => (∃ x_ : Int, u_ = jI x_ ∧ 0 ≤ x_ ∧ x_ < (A.length : Int)) ∧ p_ = curE g a len cap) v_ pm_) | 5 => v_ = elP u (((intOf_o (gV9 vs_ 1))).toNat * 1) ∧ p_ = [] | 6 => v_ = jI (A.getD (((intOf_o (gV9 vs_ 0))).toNat) 0) ∧ p_ = [] | 7 => v_ = pI g ∧ p_ = [] | 8 => (∃ pm_, p_ = [pm_] ∧ (fun u_ p_ => (∃ x_ : Int, u_ = jI x_ ∧ 0 ≤ x_ ∧ x_ < 2) ∧ p_ = curE g a len cap) v_ pm_) | 9 => v_ = .agg #[jI 3, jI (A.getD (((intOf_o (gV9 vs_ 0))).toNat) 0), jI (intOf_o (gV9 vs_ 2))] ∧ p_ = [] | 10 => IsRow 97 3 1 (mI [3, A.getD (((intOf_o (gV9 vs_ 0))).toNat) 0, (intOf_o (gV9 vs_ 1))]) v_ p_ | _ => True) [[], [], [], [2], [1, 3], [0], [5], [], [7], [6, 8], [8, 9]] [none, none, none, none, some 12, none, none, none, some 4, none, none] [curE g a len cap] [0, 1, 2, 3, 5, 6, 7, 8, 9, 10] 12 (List.take_append_drop 11 _).symm (by kernel_rfl) (by kernel_rfl) (by kernel_rfl) C C ?_ ?_
 refine ⟨?_, ?_, ?_, ?_, ?_, ?_, ?_, ?_, ?_, ?_, ?_, trivial⟩
 intro vf pf hmu hR
 refine jK [] [] C (cC (aU [1] C) ?_)
 exact bH (aY C)
 intro vf pf hmu hR
 refine jK [] [] C (cC (aU [0] C) ?_)
 exact bH (aY C)
 intro vf pf hmu hR
 refine jK [] [] C (cC (aU [1] C) ?_)
 exact bH (aY C)
 intro vf pf hmu hR
 have e2 := hR 2 (by decide)
 refine jK [2] [2] C (bP (sk 39 (congrArg some e2.1) (aL _)) (List.sublist_append_right _ _) ?_)
 exact bH (dL C C C (fun w hm => hu w (hm.sub (.refl _))))
 intro vf pf hmu hR
 have e1 := hR 1 (by decide)
 have e3 := hR 3 (by decide)
 refine Or.inl ⟨C, ?_⟩
 show RunM _ _ _ (pf 12) (([1, 3] : List Nat).flatMap pf ++ _) (envOf _ vf [1, 3] ++ _) _ _
 rw [hmu]
 exact eE (sk 38 (congrArg some e1.1) (sk 40 (congrArg some e3.1) (aL _))) (by simp only [e1.2, e3.2, fS] <;> rfl) (gH (R := (fun u_ p_ => (∃ x_ : Int, u_ = jI x_ ∧ 0 ≤ x_ ∧ x_ < (A.length : Int)) ∧ p_ = curE g a len cap)) C C (fun L w hX hm => eH g a len cap z (A.length : Int) _ _ _ hm hb (by constructor <;> omega)))
 intro vf pf hmu hR
 have e0 := hR 0 (by decide)
 have e4 : (∃ pm_, (pf 4) = [pm_] ∧ (fun u_ p_ => (∃ x_ : Int, u_ = jI x_ ∧ 0 ≤ x_ ∧ x_ < (A.length : Int)) ∧ p_ = curE g a len cap) (vf 4) pm_) := hR 4 (by decide)
 obtain ⟨p28, pE4, R29⟩ := e4
 obtain ⟨v27, vE4⟩ : ∃ x, vf 4 = x := ⟨_, rfl⟩
 rw [vE4] at R29
 obtain ⟨⟨x29, rfl, x290, x291⟩, rfl⟩ := R29
 refine jK [0] [0, 4] C (bP (sk 37 (congrArg some e0.1) (sk 41 (congrArg some vE4) (aL _))) (List.sublist_append_right _ _) ?_)
 exact eB (bH (cR 1 C C C C (fun w hm => hu w (hm.sub (.refl _))))) (fun _ _ h => ⟨h.1.trans (by show _ = (elP u (((intOf_o (vf 4))).toNat * 1) : Value); first | (rw [vE4]; done) | (rw [vE4]; rfl)), h.2⟩)
 intro vf pf hmu hR
 have e4 : (∃ pm_, (pf 4) = [pm_] ∧ (fun u_ p_ => (∃ x_ : Int, u_ = jI x_ ∧ 0 ≤ x_ ∧ x_ < (A.length : Int)) ∧ p_ = curE g a len cap) (vf 4) pm_) := hR 4 (by decide)
 obtain ⟨p28, pE4, R29⟩ := e4
 obtain ⟨v27, vE4⟩ : ∃ x, vf 4 = x := ⟨_, rfl⟩
 rw [vE4] at R29
 obtain ⟨⟨x29, rfl, x290, x291⟩, rfl⟩ := R29
 have e5 : (vf 5) = elP u (((intOf_o (vf 4))).toNat * 1) ∧ (pf 5) = [] := hR 5 (by decide)
 rw [vE4] at e5; try simp only [intOf_o] at e5
 refine jK [5] [4, 5] C (bP (sk 42 (congrArg some e5.1) (aL _)) (List.sublist_append_right _ _) ?_)
 exact eB (bH (nD C C C (fun w hm => hu w (hm.sub (.refl _))))) (fun _ _ h => ⟨h.1.trans (by show _ = (jI (A.getD (((intOf_o (vf 4))).toNat) 0) : Value); first | (rw [vE4]; done) | (rw [vE4]; rfl)), h.2⟩)
 intro vf pf hmu hR
 refine jK [] [] C (cC (aU [0] C) ?_)
 exact bH (aY C)
 intro vf pf hmu hR
 have e4 : (∃ pm_, (pf 4) = [pm_] ∧ (fun u_ p_ => (∃ x_ : Int, u_ = jI x_ ∧ 0 ≤ x_ ∧ x_ < (A.length : Int)) ∧ p_ = curE g a len cap) (vf 4) pm_) := hR 4 (by decide)
 obtain ⟨p28, pE4, R29⟩ := e4
 obtain ⟨v27, vE4⟩ : ∃ x, vf 4 = x := ⟨_, rfl⟩
 rw [vE4] at R29
 obtain ⟨⟨x29, rfl, x290, x291⟩, rfl⟩ := R29
 have e7 := hR 7 (by decide)
 refine Or.inl ⟨C, ?_⟩
 show RunM _ _ _ (pf 4) (([7] : List Nat).flatMap pf ++ _) (envOf _ vf [4, 7] ++ _) _ _
 rw [pE4]
 exact eE (sk 44 (congrArg some e7.1) (aL _)) (by simp only [e7.2, fS] <;> rfl) (gH (R := (fun u_ p_ => (∃ x_ : Int, u_ = jI x_ ∧ 0 ≤ x_ ∧ x_ < 2) ∧ p_ = curE g a len cap)) C C (fun L w hX hm => eH g a len cap z 2 _ _ _ hm hb (by constructor <;> omega)))
 intro vf pf hmu hR
 have e4 : (∃ pm_, (pf 4) = [pm_] ∧ (fun u_ p_ => (∃ x_ : Int, u_ = jI x_ ∧ 0 ≤ x_ ∧ x_ < (A.length : Int)) ∧ p_ = curE g a len cap) (vf 4) pm_) := hR 4 (by decide)
 obtain ⟨p28, pE4, R29⟩ := e4
 obtain ⟨v27, vE4⟩ : ∃ x, vf 4 = x := ⟨_, rfl⟩
 rw [vE4] at R29
 obtain ⟨⟨x29, rfl, x290, x291⟩, rfl⟩ := R29
 have e6 : (vf 6) = jI (A.getD (((intOf_o (vf 4))).toNat) 0) ∧ (pf 6) = [] := hR 6 (by decide)
 rw [vE4] at e6; try simp only [intOf_o] at e6
 have e8 : (∃ pm_, (pf 8) = [pm_] ∧ (fun u_ p_ => (∃ x_ : Int, u_ = jI x_ ∧ 0 ≤ x_ ∧ x_ < 2) ∧ p_ = curE g a len cap) (vf 8) pm_) := hR 8 (by decide)
 obtain ⟨p31, pE8, R32⟩ := e8
 obtain ⟨v30, vE8⟩ : ∃ x, vf 8 = x := ⟨_, rfl⟩
 rw [vE8] at R32
 obtain ⟨⟨x32, rfl, x320, x321⟩, rfl⟩ := R32
 refine jK [6, 8] [4, 6, 8] C (dJ (sk 43 (congrArg some e6.1) (sk 45 (congrArg some vE8) (aL _))) (by simp only [pE8, vE8, e6.2, fS] <;> rfl) ?_)
 exact eB (bH (cU (cs := #[jI 3, jI (A.getD (x29.toNat) 0), jI x32]) C C C)) (fun _ _ h => ⟨h.1.trans (by show _ = (.agg #[jI 3, jI (A.getD (((intOf_o (vf 4))).toNat) 0), jI (intOf_o (vf 8))] : Value); first | (rw [vE4, vE8]; done) | (rw [vE4, vE8]; rfl)), h.2⟩)
 intro vf pf hmu hR
 have e4 : (∃ pm_, (pf 4) = [pm_] ∧ (fun u_ p_ => (∃ x_ : Int, u_ = jI x_ ∧ 0 ≤ x_ ∧ x_ < (A.length : Int)) ∧ p_ = curE g a len cap) (vf 4) pm_) := hR 4 (by decide)
 obtain ⟨p28, pE4, R29⟩ := e4
 obtain ⟨v27, vE4⟩ : ∃ x, vf 4 = x := ⟨_, rfl⟩
 rw [vE4] at R29
 obtain ⟨⟨x29, rfl, x290, x291⟩, rfl⟩ := R29
 have e8 : (∃ pm_, (pf 8) = [pm_] ∧ (fun u_ p_ => (∃ x_ : Int, u_ = jI x_ ∧ 0 ≤ x_ ∧ x_ < 2) ∧ p_ = curE g a len cap) (vf 8) pm_) := hR 8 (by decide)
 obtain ⟨p31, pE8, R32⟩ := e8
 obtain ⟨v30, vE8⟩ : ∃ x, vf 8 = x := ⟨_, rfl⟩
 rw [vE8] at R32
 obtain ⟨⟨x32, rfl, x320, x321⟩, rfl⟩ := R32
 have e9 : (vf 9) = .agg #[jI 3, jI (A.getD (((intOf_o (vf 4))).toNat) 0), jI (intOf_o (vf 8))] ∧ (pf 9) = [] := hR 9 (by decide)
 rw [vE4, vE8] at e9; try simp only [intOf_o] at e9
 refine jK [8, 9] [4, 8, 9] C (dJ (sk 46 (congrArg some e9.1) (aL _)) (by simp only [pE8, vE8, e9.2, fS] <;> rfl) ?_)
 exact eB (bB (z := .agg #[jI 0, jI 0, jI 0]) (s := 3) (cs := (mI [3, A.getD (x29.toNat) 0, x32])) C Try.underlying71 C (by decide) C (by kernel_rfl) C) (fun v_ p_ h => by show IsRow 97 3 1 (mI [3, A.getD (((intOf_o (vf 4))).toNat) 0, (intOf_o (vf 8))]) v_ p_; rw [vE4, vE8]; exact h)
 intro vf pf hmu hR
 have e4 : (∃ pm_, (pf 4) = [pm_] ∧ (fun u_ p_ => (∃ x_ : Int, u_ = jI x_ ∧ 0 ≤ x_ ∧ x_ < (A.length : Int)) ∧ p_ = curE g a len cap) (vf 4) pm_) := hR 4 (by decide)
 obtain ⟨p28, pE4, R29⟩ := e4
 obtain ⟨v27, vE4⟩ : ∃ x, vf 4 = x := ⟨_, rfl⟩
 rw [vE4] at R29
 obtain ⟨⟨x29, rfl, x290, x291⟩, rfl⟩ := R29
 have e8 : (∃ pm_, (pf 8) = [pm_] ∧ (fun u_ p_ => (∃ x_ : Int, u_ = jI x_ ∧ 0 ≤ x_ ∧ x_ < 2) ∧ p_ = curE g a len cap) (vf 8) pm_) := hR 8 (by decide)
 obtain ⟨p31, pE8, R32⟩ := e8
 obtain ⟨v30, vE8⟩ : ∃ x, vf 8 = x := ⟨_, rfl⟩
 rw [vE8] at R32
 obtain ⟨⟨x32, rfl, x320, x321⟩, rfl⟩ := R32
 have e10 : IsRow 97 3 1 (mI [3, A.getD (((intOf_o (vf 4))).toNat) 0, (intOf_o (vf 8))]) (vf 10) (pf 10) := hR 10 (by decide)
 rw [vE4, vE8] at e10; try simp only [intOf_o] at e10
 obtain ⟨g33, vE10, pE10⟩ := e10
 have q0 := hR 0 (by decide)
 have q1 := hR 1 (by decide)
 have q2 := hR 2 (by decide)
 have q3 := hR 3 (by decide)
 have q5 := hR 5 (by decide)
 have q6 := hR 6 (by decide)
 have q7 := hR 7 (by decide)
 have q9 := hR 9 (by decide)
 refine dV (dB [36, 31, 25, 19, 18, 16, 6, 2, 1, 0] _ (sk 47 (congrArg some vE10) (aL _)) C) (by simp only [pE8, vE8, pE10, vE10, q0.2, q1.2, q2.2, q3.2, q5.2, q6.2, q7.2, q9.2, fS] <;> rfl) ?_
 simp only [List.drop_succ_cons, List.drop_zero]
 refine aP 1 C ?_
 refine aN (aE ?_)
 refine dZ ?_
 have hA8 := hA _ (cV (d := (0 : Int)) (show x29.toNat < A.length by omega))
 refine cD 2 [1, 0] C C (by decide) ?_
 refine dE 2 C ?_
 exact eV (rs := [.tmp 6]) (vs := [.slice (some ⟨g33, 0, none⟩) 1 1]) C ⟨C, trivial⟩ C (fun w hm => ⟨_, bigE [curE g a len cap, rowE 97 3 (.slice (some ⟨g33, 0, none⟩) 1 1) 1 (mI [3, A.getD (x29.toNat) 0, x32])], C, ⟨[Oq.mk 3 (A.getD (x29.toNat) 0) x32], C, lD (by first | exact .inl ⟨rfl, ⟨by dsimp only; omega, by dsimp only; omega⟩, rfl⟩ | exact .inr (.inl ⟨rfl, ⟨by dsimp only; omega, by dsimp only; omega⟩, rfl⟩) | exact .inr (.inr (.inl ⟨rfl, ⟨by dsimp only; omega, by dsimp only; omega⟩, by dsimp only; omega, by dsimp only; omega⟩)) | exact .inr (.inr (.inr ⟨by decide, by decide, by decide, by decide, rfl, rfl⟩))) C (by omega)⟩, hm.sub (.refl _)⟩)
 refine bQ (gM C (bV ?_))
 exact cP () trivial (cN C) (.refl _)
 refine fA (bV ?_)
 exact cP () trivial (cN C) (.refl _)
 intro u0 hm34
 refine aF (aF (cG 1 C ?_))
 refine aI C (dL C C C (fun w hm => hu w (hm.sub (.cons _ (.refl _))))) (bU C C C C C C (fun h35 => ?_) (fun h35 => ?_))
 refine bQ (aK C (cA (aI C (cU (cs := #[jI 0, jI 1, jI 0]) C C C) ?_)))
 refine eA C (bB (z := .agg #[jI 0, jI 0, jI 0]) (s := 3) (cs := (mI [0, 1, 0])) C Try.underlying71 C (by decide) C (by kernel_rfl) C) ?_
 intro g36
 refine aP 1 C ?_
 refine aN (dZ ?_)
 refine cD 2 [0, 1] C C (by decide) ?_
 refine dE 2 C ?_
 exact eV (rs := [.tmp 6]) (vs := [.slice (some ⟨g36, 0, none⟩) 1 1]) C ⟨C, trivial⟩ C (fun w hm => ⟨_, bigE [curE g a len cap, rowE 97 3 (.slice (some ⟨g36, 0, none⟩) 1 1) 1 (mI [0, 1, 0])], C, ⟨[Oq.mk 0 1 0], C, lD (by first | exact .inl ⟨rfl, ⟨by dsimp only; omega, by dsimp only; omega⟩, rfl⟩ | exact .inr (.inl ⟨rfl, ⟨by dsimp only; omega, by dsimp only; omega⟩, rfl⟩) | exact .inr (.inr (.inl ⟨rfl, ⟨by dsimp only; omega, by dsimp only; omega⟩, by dsimp only; omega, by dsimp only; omega⟩)) | exact .inr (.inr (.inr ⟨by decide, by decide, by decide, by decide, rfl, rfl⟩))) C (by omega)⟩, hm.sub (.refl _)⟩)
 refine bQ (aS C (cE (aF (cG 3 C ?_))))
 refine aI C (dL C C C (fun w hm => hu w (hm.sub (.cons _ (.refl _))))) (eK (R := (fun u_ p_ => (∃ x_ : Int, u_ = jI x_ ∧ 0 ≤ x_ ∧ x_ < (A.length : Int)) ∧ p_ = curE g a len cap)) 0 C C C C C (fun l' w hm => eH g a len cap z (A.length : Int) _ _ _ hm hb (by constructor <;> omega)) ?_)
 intro v37 p38 R39
 obtain ⟨⟨x39, rfl, x390, x391⟩, rfl⟩ := R39
 refine dY (l' := (curE g a len cap :: l)) C ?_
 refine aI C (cR 1 C C C C (fun w hm => hu w (hm.sub (.cons _ (.refl _))))) (aI C (nD C C C (fun w hm => hu w (hm.sub (.cons _ (.refl _))))) ?_)
 refine aI C (cU (cs := #[jI 2, jI (A.getD (x39.toNat) 0), jI 0]) C C C) (eA C (bB (z := .agg #[jI 0, jI 0, jI 0]) (s := 3) (cs := (mI [2, A.getD (x39.toNat) 0, 0])) C Try.underlying71 C (by decide) C (by kernel_rfl) C) ?_)
 intro g40
 refine aP 1 C ?_
 refine aN (aG ?_)
 have hA8 := hA _ (cV (d := (0 : Int)) (show x39.toNat < A.length by omega))
 refine cD 2 [0, 1] C C (by decide) ?_
 refine dE 2 C ?_
 exact eV (rs := [.tmp 6]) (vs := [.slice (some ⟨g40, 0, none⟩) 1 1]) C ⟨C, trivial⟩ C (fun w hm => ⟨_, bigE [curE g a len cap, rowE 97 3 (.slice (some ⟨g40, 0, none⟩) 1 1) 1 (mI [2, A.getD (x39.toNat) 0, 0])], C, ⟨[Oq.mk 2 (A.getD (x39.toNat) 0) 0], C, lD (by first | exact .inl ⟨rfl, ⟨by dsimp only; omega, by dsimp only; omega⟩, rfl⟩ | exact .inr (.inl ⟨rfl, ⟨by dsimp only; omega, by dsimp only; omega⟩, rfl⟩) | exact .inr (.inr (.inl ⟨rfl, ⟨by dsimp only; omega, by dsimp only; omega⟩, by dsimp only; omega, by dsimp only; omega⟩)) | exact .inr (.inr (.inr ⟨by decide, by decide, by decide, by decide, rfl, rfl⟩))) C (by omega)⟩, hm.sub (.refl _)⟩)
 refine cE (cA ?_)
 have hM4 := hb9 (by assumption)
 refine aH 1 C (eA C (bB (z := jI 0) (s := 1) (cs := (mI [4, 5, 6, 7, 8, 9, 10, 11, 12, 7, 12])) C Try.underlying48 C (by decide) C (by kernel_rfl) C) ?_)
 intro g41
 refine gA (R := (fun u_ p_ => (∃ x : Int, u_ = jI x ∧ x ∈ ([4, 5, 6, 7, 8, 9, 10, 11, 12, 7, 12] : List Int)) ∧ p_ = curE g a len cap)) 1 C C C C C (fun L w hX hm => gS g a len cap z (.slice (some ⟨g41, 0, none⟩) 11 11) [4, 5, 6, 7, 8, 9, 10, 11, 12, 7, 12] _ _ _ hm hb (fun w hm => mQ (hX w hm) 0 C) (by decide)) ?_
 intro v42 p43 R44
 obtain ⟨⟨x44, rfl, x44m⟩, rfl⟩ := R44
 have hx9 := arKind x44m
 have har9 := sV hx9
 refine dY (l' := (rowE 3 1 (.slice (some ⟨g41, 0, none⟩) 11 11) 11 (mI [4, 5, 6, 7, 8, 9, 10, 11, 12, 7, 12]) :: curE g a len cap :: l)) C ?_
 refine aP 1 C (aF (cG 1 C (aI C (cU (cs := #[jI x44, jI 0, jI 0]) C C C) ?_)))
 refine eA C (bB (z := .agg #[jI 0, jI 0, jI 0]) (s := 3) (cs := (mI [x44, 0, 0])) C Try.underlying71 C (by decide) C (by kernel_rfl) C) ?_
 intro g45
 refine aP 1 C (aF (cG 1 C ?_))
 refine dW C (aV C C (fun w hm => bJ (jS x44 w))) (aP 1 C (aF (bA 1 C (bD ?_))))
 refine jC (α := Nat) (β := Value) (γ := List Oq) [0, 1, 2, 6, 7, 9, 16] C (fun k gv os => (rS9 97 3 gv os oqC :: curE g a len cap :: l)) (fun k gv os => [(8, gv), (10, jI (k : Int))]) (fun k gv os => (k : Int) ≤ arI x44 ∧ PartP n os (arI x44 - (k : Int)) ∧ 1 ≤ os.length ∧ (os.length : Int) + (arI x44 - (k : Int)) * ((M - 1) / arI x44) ≤ M) (fun k gv os => (arI x44).toNat - k) 0 _ [Oq.mk x44 0 0] ⟨by omega, Bm n hx9⟩ (cN C) (.cons_cons _ (.cons _ (.refl _))) ?_
 intro k gv os hi46
 obtain ⟨hk, hP, h1, hl⟩ := hi46
 have hol9 := exLen hx9 (by omega) hk hl
 refine aF (aF (cG 2 C ?_))
 refine bN C C C C C C (fun h47 => ?_) (fun h47 => ?_)
 refine bQ (aK C (cE (fD (cG 4 C (aI C (nC C C C) (aH 1 C ?_))))))
 refine aI C (yL C C C (by refine ⟨?_, ?_, ?_⟩ <;> omega)) ?_
 have hq9 := exQuo (M := M) hx9 (by omega)
 refine gA (R := (fun u_ p_ => ∃ os : List Oq, p_ = bigE [curE g a len cap, rS9 97 3 u_ os oqC] ∧ ExP n ((M - 1) / (arI x44)) os)) 1 C C C C C (fun L w hX hm => IH ((M - 1) / (arI x44)) (by omega) (by omega) L w hm (fun w9 h9 => hu w9 ((hX w9 h9).sub (.cons _ (.refl _))))) ?_
 intro v48 p49 R50
 obtain ⟨es50, rfl, hes50⟩ := R50
 have hel50 := hes50.2.2
 refine dY (l' := (rS9 97 3 gv os oqC :: bigE [curE g a len cap, rS9 97 3 v48 es50 oqC] :: l)) C ?_
 refine iE 2 [0, 1] C C (by decide) ?_
 refine gU (curE g a len cap :: rS9 97 3 v48 es50 oqC :: rS9 97 3 gv os oqC :: l) eQ ?_
 refine cW (i := 2) (z := .agg #[jI 0, jI 0, jI 0]) (bytes := 24) (n' := (os ++ es50).length) (xs' := ((os ++ es50).flatMap oqC)) C C C C Try.underlying71 (by kernel_rfl) C C C C (aJ 1 C) (kL oqC es50 (fun r u hu => by simp [oqC] at hu; first | (subst hu; rfl) | (rcases hu with rfl | rfl <;> rfl) | (rcases hu with rfl | rfl | rfl <;> rfl) | (rcases hu with rfl | rfl | rfl | rfl <;> rfl))) (by first | omega | (simp only [List.length_take, List.length_drop, List.length_append]; omega)) (cM os es50) (uF oqC os es50) (fun _ => C) ?_
 intro v51
 refine dA 1 C (cK (cG 1 C (aI C (dO C C C) (dA 1 C ?_))))
 refine cD 3 [0, 2] C C (by decide) ?_
 exact cO (k + 1) v51 (os ++ es50) ⟨by omega, exStep hx9 (by omega) hP h1 hl hes50⟩ (by omega) (cN C) (.refl _)
 refine bQ (aS C ?_)
 refine bI (dC ?_)
 refine aM (aR (bA 2 C ?_))
 refine aN (cD 2 [0, 1] C C (by decide) ?_)
 refine dE 2 C ?_
 exact eV (rs := [.tmp 6]) (vs := [gv]) C ⟨C, trivial⟩ C (fun w hm => ⟨_, bigE [curE g a len cap, rS9 97 3 gv os oqC], C, ⟨os, C, exEnd (x := x44) (k := k) (by omega) hP h1 hl⟩, hm.sub (.refl _)⟩)
theorem nY (g : Nat) (a : Option Addr) (len cap : Nat) (z : List Int) (n : Int) (u : Value) (A : List Int) (hA : ∀ x ∈ A, 0 ≤ x ∧ x < n) (hAl : A.length ≤ 100) (w0 : World) (hb : BRow .u8 w0 a len cap z) : ∀ (m : Nat) (M : Int), M.toNat ≤ m → 1 ≤ M ∧ M ≤ 15 → ∀ (l : List HP) (w : World), Mem w0 (curE g a len cap :: l) w → Rd w0 l u 1 A.length (A.map (Value.int .i64)) → Calls Try.prog 86 #[.pointer (some ⟨g, 0, none⟩), u, .int .i64 (M)] w (fun e_ w_ => ∃ v_ p_, e_ = .returned v_ ∧ (fun u_ p_ => ∃ os : List Oq, p_ = bigE [curE g a len cap, rS9 97 3 u_ os oqC] ∧ ExP n M os) v_ p_ ∧ Mem w0 (p_ :: l) w_)
  | 0, M, h, hM, _, _, _, _ => absurd h (by omega)
  | m + 1, M, h, hM, l, w, hm, hu => sD g a len cap z n u A M w0 l w hm hb hu hA hAl hM (fun q h1 h2 l2 w2 hm2 hu2 => nY g a len cap z n u A hA hAl w0 hb m q (by omega) ⟨h1, by omega⟩ l2 w2 hm2 hu2)
theorem uM (x0 : Int) (x1 : Value) (h1 : x1.oneCell' = true) : Try.prog.built 89 [(0, .int .i64 x0), (1, x1)] = some #[.int .i64 x0, x1] := by
  (cases x1 <;> first | (exact absurd h1 Bool.false_ne_true) | kernel_rfl)
theorem vH {gs : List As} (h : ∀ g ∈ gs, g.ov.oneCell' = true) : ∀ q ∈ gs.flatMap asC, q.oneCell' = true := fun q hq => by
  obtain ⟨r, h1, h2⟩ := List.mem_flatMap.1 hq
  simp [asC] at h2
  rcases h2 with rfl | rfl
  · rfl
  · exact h r h1
theorem iM (g : Nat) (a : Option Addr) (len cap : Nat) (z : List Int) (n : Int) (m : Md) (s : Int) (u : Value) (A : List Int) (w0 : World) (l : List HP) (w : World) (hm0 : Mem w0 (curE g a len cap :: l) w) (hb : BRow .u8 w0 a len cap z) (hu : Rd w0 l u 1 A.length (A.map (Value.int .i64))) (hA : ∀ x ∈ A, 0 ≤ x ∧ x < n) (hAl : A.length ≤ 100) (hg : Rd w0 l m.av 2 m.gs.length (m.gs.flatMap asC)) (hgl : m.gs.length ≤ 1000) (hone : ∀ g ∈ m.gs, g.ov.oneCell' = true) (ho : m.sv.oneCell' = true ∧ m.av.oneCell' = true ∧ m.iv.oneCell' = true ∧ m.mv.oneCell' = true) :
   Calls Try.prog 149 #[.pointer (some ⟨g, 0, none⟩), .agg #[m.sv, m.av, m.iv, m.mv], .int .i64 s, u] w (fun e_ w_ => ∃ v_ p_, e_ = .returned v_ ∧ (fun u_ p_ => ∃ (v' ov : Value) (os : List Oq) (ps : List HP), u_ = .agg #[m.sv, v', m.iv, m.mv] ∧ p_ = bigE [curE g a len cap, bigE ps] ∧ (∀ w, (bigE ps).holds w → RdsW w v' 2 (m.gs ++ [As.mk s ov os]).length ((m.gs ++ [As.mk s ov os]).flatMap asC) ∧ RdsW w ov 3 os.length (os.flatMap oqC)) ∧ v'.oneCell' = true ∧ ov.oneCell' = true ∧ ExP n 9 os) v_ p_ ∧ Mem w0 (p_ :: l) w_) := by
 refine gI (N := 22) (args := [pI g, .agg #[m.sv, m.av, m.iv, m.mv], jI s, u]) Try.func149 C C hm0 (cA ?_)
 refine cL C (cY C C) ?_
 intro b1
 refine cL C (bG (z := .agg #[.slice none 0 0, .slice none 0 0, .slice none 0 0, .slice none 0 0]) C C) ?_
 intro b2
 refine bQ (cA ?_)
 refine eA C (dF (s := 2) C Try.underlying31 C) ?_
 intro g3
 refine aI C (bM 1 C C C) (aI C (aC C C C (aA 2 C C)) ?_)
 refine cW (i := 0) (z := .agg #[jI 0, .slice none 0 0]) (bytes := 32) (n' := m.gs.length) (xs' := (m.gs.flatMap asC)) C C C C Try.underlying31 (by kernel_rfl) C C C C (fun w hm => hg w (hm.sub (fO 4 C))) (vH hone) (by omega) (Nat.zero_add _) (List.nil_append _) (fun _ => C) ?_
 intro v4
 refine aH 3 C (gA (R := (fun u_ p_ => ∃ os : List Oq, p_ = bigE [curE g a len cap, rS9 97 3 u_ os oqC] ∧ ExP n 9 os)) 3 C C C C C (fun L w hX hm => nY g a len cap z n u A hA hAl _ hb 9 9 (by decide) (by decide) L w hm (fun w9 h9 => hu w9 ((hX w9 h9).sub (fO 3 C)))) ?_)
 intro v5 p6 R7
 obtain ⟨os, rfl, hos⟩ := R7
 have hol9 := hos.2.2
 refine dY (l' := (rS9 89 2 v4 m.gs asC :: boxE b2 #[.slice none 0 0, .slice none 0 0, .slice none 0 0, .slice none 0 0] 35 :: boxE b1 #[m.sv, m.av, m.iv, m.mv] 35 :: bigE [curE g a len cap, rS9 97 3 v5 os oqC] :: l)) C ?_
 refine iE 4 [2, 1, 0, 3] C C (by decide) ?_
 refine gU (curE g a len cap :: rS9 97 3 v5 os oqC :: rS9 89 2 v4 m.gs asC :: boxE b2 #[.slice none 0 0, .slice none 0 0, .slice none 0 0, .slice none 0 0] 35 :: boxE b1 #[m.sv, m.av, m.iv, m.mv] 35 :: l) eQ ?_
 refine aI C (gO (cs := #[jI s, v5]) C C (fun w hm => uM s v5 ((aJ 1 C w hm).one))) (eA C (bB (z := .agg #[jI 0, .slice none 0 0]) (s := 2) (cs := [jI s, v5]) C Try.underlying31 C (by decide) C (by kernel_rfl) C) ?_)
 intro g8
 refine cS (i := 2) C (fun ho9 => ?_)
 refine cW (i := 3) (z := .agg #[jI 0, .slice none 0 0]) (bytes := 32) C C C C Try.underlying31 (by kernel_rfl) C C C C (aJ 0 C) (aB C (aB ho9 bC)) (by first | omega | (simp only [List.length_append, List.length_cons, List.length_nil]; omega)) (cM m.gs [(As.mk s v5 os)]) (dM asC m.gs (As.mk s v5 os) _ C) (fun _ => C) ?_
 intro v10
 refine aI C (bM 1 C C C) (cS (i := 3) C (fun ho11 => ?_))
 refine eZ (i := 5) (cs' := #[m.sv, v10, m.iv, m.mv]) C C C C C C ho11 C C C C (bQ (cA (aI C (aW (cs := [m.sv, v10, m.iv, m.mv]) C C C C C (aT 5 C 0 C)) ?_)))
 refine bE (cs' := #[m.sv, v10, m.iv, m.mv]) (i := 4) (off := 0) (us := [m.sv, v10, m.iv, m.mv]) C C C C C C C (aB ho.1 (aB ho11 (aB ho.2.2.1 (aB ho.2.2.2 bC)))) C C C (bQ ?_)
 refine aN (fV (fun w hm => (aJ 3 C w hm).one) (fun ho1 => ?_))
 refine fV (fun w hm => (aJ 2 C w hm).one) (fun ho2 => ?_)
 refine cD 6 [5, 4, 1, 0, 2, 3] C C (by decide) ?_
 refine dE 2 C ?_
 refine cD 5 [4, 3, 1, 0, 2] C C (by decide) ?_
 refine dE 2 C ?_
 exact eV (rs := [.cell 8 35]) (vs := [.agg #[m.sv, v10, m.iv, m.mv]]) C ⟨⟨b2, 0, [m.sv, v10, m.iv, m.mv], C, C, by kernel_rfl, by kernel_rfl, aT 2 C 0 C⟩, trivial⟩ C (fun w hm => ⟨_, bigE [curE g a len cap, bigE [rowE 89 2 v10 ((m.gs ++ [(As.mk s v5 os)]).length) ((m.gs ++ [(As.mk s v5 os)]).flatMap asC), rS9 97 3 v5 os oqC]], C, ⟨v10, v5, os, [rowE 89 2 v10 ((m.gs ++ [(As.mk s v5 os)]).length) ((m.gs ++ [(As.mk s v5 os)]).flatMap asC), rS9 97 3 v5 os oqC], C, C, fun w hw => ⟨cZ (bO hw dX), cZ (bO hw (eI dX))⟩, ho1, ho2, hos⟩, hm.sub (.cons_cons _ (fO 3 C))⟩)
theorem Ao (x0 : Int) (x1 : Int) (x2 : Value) (h2 : x2.oneCell' = true) : Try.prog.built 63 [(0, .int .i64 x0), (1, .int .i64 x1), (2, x2)] = some #[.int .i64 x0, .int .i64 x1, x2] := by
  (cases x2 <;> first | (exact absurd h2 Bool.false_ne_true) | kernel_rfl)
theorem qI (g : Nat) (a : Option Addr) (len cap : Nat) (z : List Int) (D : List Md) (v : Value) (w0 : World) (l : List HP) (w : World) (hm0 : Mem w0 (curE g a len cap :: l) w) (hb : BRow .u8 w0 a len cap z) (hD : ∀ w, Mem w0 l w → RdsDs w v D) (hdd : DdP D) (hdl : D.length ≤ 2) (hv1 : v.oneCell' = true) (hch : ∀ m ∈ D, m.sv.oneCell' = true ∧ m.av.oneCell' = true ∧ m.iv.oneCell' = true ∧ m.mv.oneCell' = true) :
   Calls Try.prog 105 #[.pointer (some ⟨g, 0, none⟩), .agg #[v]] w (fun e_ w_ => ∃ v_ p_, e_ = .returned v_ ∧ (fun u_ p_ => ∃ (m : Md) (ps : List HP), u_ = m.agg ∧ p_ = bigE [curE g a len cap, bigE ps] ∧ (∀ w, (bigE ps).holds w → RdsMd w m) ∧ (m.sv.oneCell' = true ∧ m.av.oneCell' = true ∧ m.iv.oneCell' = true ∧ m.mv.oneCell' = true) ∧ DmP D m) v_ p_ ∧ Mem w0 (p_ :: l) w_) := by
 refine gI (N := 282) (args := [pI g, .agg #[v]]) Try.func105 C C hm0 (cA ?_)
 refine cL C (cY C C) ?_
 intro b1
 refine cL C (bG (z := .agg #[.slice none 0 0, .slice none 0 0, .slice none 0 0, .slice none 0 0]) C C) ?_
 intro b2
 refine bQ (cA (aI C (cU (cs := #[.slice none 0 0, .slice none 0 0, .slice none 0 0, .slice none 0 0]) C C C) ?_))
 refine cL C (bG (z := .agg #[.slice none 0 0, .slice none 0 0, .slice none 0 0, .slice none 0 0]) C C) ?_
 intro b3
 refine bE (cs' := #[.slice none 0 0, .slice none 0 0, .slice none 0 0, .slice none 0 0]) (i := 0) (off := 0) (us := [.slice none 0 0, .slice none 0 0, .slice none 0 0, .slice none 0 0]) C C C C C C C (aB C (aB C (aB C (aB C bC)))) C C C (bQ (cA ?_))
 refine eA C (dF (s := 1) C Try.underlying48 C) ?_
 intro g4
 refine aP 1 C (cA ?_)
 refine eA C (dF (s := 1) C Try.underlying48 C) ?_
 intro g5
 refine aP 1 C (aF (cG 1 C ?_))
 refine eK (R := (fun u_ p_ => (∃ x_ : Int, u_ = jI x_ ∧ 0 ≤ x_ ∧ x_ < 2) ∧ p_ = curE g a len cap)) 5 C C C C C (fun l' w hm => eH g a len cap z 2 _ _ _ hm hb (by constructor <;> omega)) ?_
 intro v6 p7 R8
 obtain ⟨⟨x8, rfl, x80, x81⟩, rfl⟩ := R8
 refine dY (l' := (rowE 3 1 (.slice (some ⟨g5, 0, none⟩) 0 0) 0 ([]) :: rowE 3 1 (.slice (some ⟨g4, 0, none⟩) 0 0) 0 ([]) :: boxE b3 #[.slice none 0 0, .slice none 0 0, .slice none 0 0, .slice none 0 0] 35 :: boxE b2 #[.slice none 0 0, .slice none 0 0, .slice none 0 0, .slice none 0 0] 35 :: boxE b1 #[v] 26 :: curE g a len cap :: l)) C ?_
 refine aI C (dO C C C) (aP 1 C (aF (bA 1 C (bD ?_))))
 refine fB (bigE [] :: rowE 38 3 (.slice none 0 0) (([] : List Sg).length) (([] : List Sg).flatMap sgC) :: rowE 63 3 (.slice none 0 0) (([] : List Ix).length) (([] : List Ix).flatMap ixC) :: rowE 94 4 (.slice none 0 0) (([] : List Mm).length) (([] : List Mm).flatMap mmC) :: rowE 3 1 (.slice (some ⟨g5, 0, none⟩) 0 0) 0 ([]) :: rowE 3 1 (.slice (some ⟨g4, 0, none⟩) 0 0) 0 ([]) :: boxE b3 #[.slice none 0 0, .slice none 0 0, .slice none 0 0, .slice none 0 0] 35 :: boxE b2 #[.slice none 0 0, .slice none 0 0, .slice none 0 0, .slice none 0 0] 35 :: boxE b1 #[v] 26 :: curE g a len cap :: l) (fun w hm => Mem.big (ps := []) (((hm.nilRow 94 4).nilRow 63 3).nilRow 38 3)) ?_
 refine lZ (α := Nat) (β := Md) (γ := Value × List Int) (δ := List HP) [0, 1, 3, 4, 5, 7, 8] C (fun k m U ps => (bigE ps :: rS9 38 3 m.sv m.ss sgC :: rS9 63 3 m.iv m.xs ixC :: rS9 94 4 m.mv m.ms mmC :: rowE 3 1 (.slice (some ⟨g5, 0, none⟩) 0 0) 0 ([]) :: rI9 3 U.1 U.2 :: boxE b3 #[m.sv, m.av, m.iv, m.mv] 35 :: boxE b2 #[.slice none 0 0, .slice none 0 0, .slice none 0 0, .slice none 0 0] 35 :: boxE b1 #[v] 26 :: curE g a len cap :: l)) (fun k m U ps => [(6, U.1), (9, jI (k : Int))]) (fun k m U ps => (k : Int) ≤ 1 + x8 ∧ MI D m U.2 [] k 0 0 0 k k ∧ ∀ w, (bigE ps).holds w → RdP w m) (fun k m U ps => (1 + x8).toNat - k) 0 md0 (_, []) [] ⟨by omega, MI.start D, fun w _ => RdP.nil w⟩ (cN C) (.refl _) ?_
 intro k m U ps hi9
 obtain ⟨hk, h1, hp1⟩ := hi9
 have hns := h1.ns
 have hna := h1.na
 refine aF (aF (cG 2 C ?_))
 refine bN C C C C C C (fun h10 => ?_) (fun h10 => ?_)
 refine bQ (aK C (cE (fD (aF (cG 1 C (aI C (bM 0 C C C) (aI C (aC C C C (aA 6 C C)) (aI C (dL C C C (aJ 1 C)) ?_))))))))
 refine eA C (bB (z := jI 0) (s := 1) (cs := (mI [(m.ss.length : Int)])) C Try.underlying48 C (by decide) C (by kernel_rfl) C) ?_
 intro g11
 refine cW (i := 6) (z := jI 0) (bytes := 8) C C C C Try.underlying48 (by kernel_rfl) C C C C (aJ 0 C) (cQ _) (by first | omega | (simp; done) | (simp; omega)) (cM U.2 ([(m.ss.length : Int)])) (dP U.2 ([(m.ss.length : Int)])) (fun _ => C) ?_
 intro v12
 refine aP 1 C ?_
 refine hC 11 [9, 8, 7, 6, 5, 4, 3, 2, 1, 0, 10] C C (by decide) ?_
 refine jE (l := (rowE 3 1 (.slice (some ⟨g11, 0, none⟩) 1 1) 1 (mI [(m.ss.length : Int)]) :: bigE ps :: rS9 38 3 m.sv m.ss sgC :: rS9 63 3 m.iv m.xs ixC :: rS9 94 4 m.mv m.ms mmC :: rowE 3 1 (.slice (some ⟨g5, 0, none⟩) 0 0) 0 ([]) :: rowE 3 1 v12 ((U.2 ++ ([(m.ss.length : Int)])).length) (mI (U.2 ++ ([(m.ss.length : Int)]))) :: boxE b3 #[m.sv, m.av, m.iv, m.mv] 35 :: boxE b2 #[.slice none 0 0, .slice none 0 0, .slice none 0 0, .slice none 0 0] 35 :: boxE b1 #[v] 26 :: l)) C 7 [0, 1, 2, 3, 4, 5, 6] (List.take 7 _) (List.drop 7 _) [[], [0], [], [], [2, 3], [4], [4, 5]] [42, 43, 44, 45, 46, 47, 48] (fun i_ vs_ v_ p_ => match i_ with | 0 => v_ = .pointer (some ⟨b3, 0 + 0, none⟩) ∧ p_ = [] | 1 => v_ = m.sv ∧ p_ = [] | 2 => v_ = pI g ∧ p_ = [] | 3 => IsRow 3 1 4 (mI [1, 1, 2, 0]) v_ p_ | 4 => (∃ pm_, p_ = [pm_] ∧ (fun u_ p_ => (∃ x : Int, u_ = jI x ∧ x ∈ ([1, 1, 2, 0] : List Int)) ∧ p_ = curE g a len cap) v_ pm_) | 5 => v_ = .agg #[jI 0, jI (intOf_o (gV9 vs_ 0)), jI 0] ∧ p_ = [] | 6 => IsRow 38 3 1 (mI [0, (intOf_o (gV9 vs_ 0)), 0]) v_ p_ | _ => True) [[], [0], [], [], [2, 3], [4], [4, 5]] [none, none, none, none, some 10, none, none] [curE g a len cap] [0, 1, 2, 3, 4, 5, 6] 10 (List.take_append_drop 7 _).symm (by kernel_rfl) (by kernel_rfl) (by kernel_rfl) C C ?_ ?_
 refine ⟨?_, ?_, ?_, ?_, ?_, ?_, ?_, trivial⟩
 intro vf pf hmu hR
 refine jK [] [] C (cC (aU [5] C) ?_)
 exact bH (bM 0 C C C)
 intro vf pf hmu hR
 have e0 := hR 0 (by decide)
 refine jK [0] [0] C (bP (sk 42 (congrArg some e0.1) (aL _)) (List.sublist_append_right _ _) ?_)
 exact bH (aC C C C (aA 7 C C))
 intro vf pf hmu hR
 refine jK [] [] C (cC (aU [0] C) ?_)
 exact bH (aY C)
 intro vf pf hmu hR
 refine jK [] [] C (bP (aL _) (List.sublist_append_right _ _) ?_)
 exact bB (z := jI 0) (s := 1) (cs := (mI [1, 1, 2, 0])) C Try.underlying48 C (by decide) C (by kernel_rfl) C
 intro vf pf hmu hR
 have e2 := hR 2 (by decide)
 have e3 : IsRow 3 1 4 (mI [1, 1, 2, 0]) (vf 3) (pf 3) := hR 3 (by decide)
 obtain ⟨g13, vE3, pE3⟩ := e3
 refine Or.inl ⟨C, ?_⟩
 show RunM _ _ _ (pf 10) (([2, 3] : List Nat).flatMap pf ++ _) (envOf _ vf [2, 3] ++ _) _ _
 rw [hmu]
 exact eE (sk 44 (congrArg some e2.1) (sk 45 (congrArg some vE3) (aL _))) (by simp only [pE3, vE3, e2.2, fS] <;> rfl) (gH (R := (fun u_ p_ => (∃ x : Int, u_ = jI x ∧ x ∈ ([1, 1, 2, 0] : List Int)) ∧ p_ = curE g a len cap)) C C (fun L w hX hm => gS g a len cap z (.slice (some ⟨g13, 0, none⟩) 4 4) [1, 1, 2, 0] _ _ _ hm hb (fun w hm => mQ (hX w hm) 0 C) (by decide)))
 intro vf pf hmu hR
 have e4 : (∃ pm_, (pf 4) = [pm_] ∧ (fun u_ p_ => (∃ x : Int, u_ = jI x ∧ x ∈ ([1, 1, 2, 0] : List Int)) ∧ p_ = curE g a len cap) (vf 4) pm_) := hR 4 (by decide)
 obtain ⟨p15, pE4, R16⟩ := e4
 obtain ⟨v14, vE4⟩ : ∃ x, vf 4 = x := ⟨_, rfl⟩
 rw [vE4] at R16
 obtain ⟨⟨x16, rfl, x16m⟩, rfl⟩ := R16
 have x16w := pM x16m (by decide)
 refine jK [4] [4] C (dJ (sk 46 (congrArg some vE4) (aL _)) (by simp only [pE4, vE4, fS] <;> rfl) ?_)
 exact eB (bH (cU (cs := #[jI 0, jI x16, jI 0]) C C C)) (fun _ _ h => ⟨h.1.trans (by show _ = (.agg #[jI 0, jI (intOf_o (vf 4)), jI 0] : Value); first | (rw [vE4]; done) | (rw [vE4]; rfl)), h.2⟩)
 intro vf pf hmu hR
 have e4 : (∃ pm_, (pf 4) = [pm_] ∧ (fun u_ p_ => (∃ x : Int, u_ = jI x ∧ x ∈ ([1, 1, 2, 0] : List Int)) ∧ p_ = curE g a len cap) (vf 4) pm_) := hR 4 (by decide)
 obtain ⟨p15, pE4, R16⟩ := e4
 obtain ⟨v14, vE4⟩ : ∃ x, vf 4 = x := ⟨_, rfl⟩
 rw [vE4] at R16
 obtain ⟨⟨x16, rfl, x16m⟩, rfl⟩ := R16
 have x16w := pM x16m (by decide)
 have e5 : (vf 5) = .agg #[jI 0, jI (intOf_o (vf 4)), jI 0] ∧ (pf 5) = [] := hR 5 (by decide)
 rw [vE4] at e5
 refine jK [4, 5] [4, 5] C (dJ (sk 47 (congrArg some e5.1) (aL _)) (by simp only [pE4, vE4, e5.2, fS] <;> rfl) ?_)
 exact eB (bB (z := .agg #[jI 0, jI 0, jI 0]) (s := 3) (cs := (mI [0, x16, 0])) C Try.underlying30 C (by decide) C (by kernel_rfl) C) (fun v_ p_ h => by show IsRow 38 3 1 (mI [0, (intOf_o (vf 4)), 0]) v_ p_; rw [vE4]; exact h)
 intro vf pf hmu hR
 have e1 := hR 1 (by decide)
 have e3 : IsRow 3 1 4 (mI [1, 1, 2, 0]) (vf 3) (pf 3) := hR 3 (by decide)
 obtain ⟨g13, vE3, pE3⟩ := e3
 have e4 : (∃ pm_, (pf 4) = [pm_] ∧ (fun u_ p_ => (∃ x : Int, u_ = jI x ∧ x ∈ ([1, 1, 2, 0] : List Int)) ∧ p_ = curE g a len cap) (vf 4) pm_) := hR 4 (by decide)
 obtain ⟨p15, pE4, R16⟩ := e4
 obtain ⟨v14, vE4⟩ : ∃ x, vf 4 = x := ⟨_, rfl⟩
 rw [vE4] at R16
 obtain ⟨⟨x16, rfl, x16m⟩, rfl⟩ := R16
 have x16w := pM x16m (by decide)
 have e6 : IsRow 38 3 1 (mI [0, (intOf_o (vf 4)), 0]) (vf 6) (pf 6) := hR 6 (by decide)
 rw [vE4] at e6
 obtain ⟨g17, vE6, pE6⟩ := e6
 have q0 := hR 0 (by decide)
 have q1 := hR 1 (by decide)
 have q2 := hR 2 (by decide)
 have q5 := hR 5 (by decide)
 refine dV (dB [33, 9, 8, 7, 6, 5, 4, 3, 1, 0] _ (sk 43 (congrArg some e1.1) (sk 48 (congrArg some vE6) (aL _))) C) (by simp only [pE3, vE3, pE4, vE4, pE6, vE6, q0.2, q1.2, q2.2, q5.2, fS] <;> rfl) ?_
 simp only [List.drop_succ_cons, List.drop_zero]
 refine cW (i := 5) (z := .agg #[jI 0, jI 0, jI 0]) (bytes := 24) C C C C Try.underlying30 (by kernel_rfl) C C C C (aJ 2 C) (cQ _) (by first | omega | (simp only [List.length_append, List.length_cons, List.length_nil]; omega)) (cM m.ss [(Sg.mk 0 x16 0)]) (dM sgC m.ss (Sg.mk 0 x16 0) _ C) (fun _ => C) ?_
 intro v18
 refine aI C (bM 0 C C C) (cS (i := 5) C (fun ho19 => ?_))
 refine eZ (i := 10) (cs' := #[v18, m.av, m.iv, m.mv]) C C C C C C ho19 C C C C (bK (cK (cG 1 C (aI C (dO C C C) (dA 1 C ?_)))))
 refine cD 13 [1, 12, 11, 10, 9, 8, 7, 6, 5, 4] C C (by decide) ?_
 exact eR (k + 1) (Md.mk v18 m.av m.iv m.mv (m.ss ++ [(Sg.mk 0 x16 0)]) m.gs m.xs m.ms) (v12, U.2 ++ ([(m.ss.length : Int)])) ps ⟨by omega, h1.inp _ (by assumption), fun w hw => hp1 w hw⟩ (by omega) (cN C) (.refl _)
 refine bQ (aS C ?_)
 refine bI (dC ?_)
 refine aM (aR (aF (cG 1 C ?_)))
 refine eK (R := (fun u_ p_ => (∃ x_ : Int, u_ = jI x_ ∧ 0 ≤ x_ ∧ x_ < 3) ∧ p_ = curE g a len cap)) 9 C C C C C (fun l' w hm => eH g a len cap z 3 _ _ _ hm hb (by constructor <;> omega)) ?_
 intro v20 p21 R22
 obtain ⟨⟨x22, rfl, x220, x221⟩, rfl⟩ := R22
 refine dY (l' := (bigE ps :: rS9 38 3 m.sv m.ss sgC :: rS9 63 3 m.iv m.xs ixC :: rS9 94 4 m.mv m.ms mmC :: rowE 3 1 (.slice (some ⟨g5, 0, none⟩) 0 0) 0 ([]) :: rI9 3 U.1 U.2 :: boxE b3 #[m.sv, m.av, m.iv, m.mv] 35 :: boxE b2 #[.slice none 0 0, .slice none 0 0, .slice none 0 0, .slice none 0 0] 35 :: boxE b1 #[v] 26 :: curE g a len cap :: l)) C ?_
 refine aP 1 C (aF (bA 1 C (bD ?_)))
 refine lZ (α := Nat) (β := Md) (γ := Value × List Int) (δ := Value × List Int) [0, 1, 3, 4, 5, 8, 33] C (fun k2 m2 U2 W2 => (bigE ps :: rS9 38 3 m2.sv m2.ss sgC :: rS9 63 3 m2.iv m2.xs ixC :: rS9 94 4 m2.mv m2.ms mmC :: rI9 3 W2.1 W2.2 :: rI9 3 U2.1 U2.2 :: boxE b3 #[m2.sv, m2.av, m2.iv, m2.mv] 35 :: boxE b2 #[.slice none 0 0, .slice none 0 0, .slice none 0 0, .slice none 0 0] 35 :: boxE b1 #[v] 26 :: curE g a len cap :: l)) (fun k2 m2 U2 W2 => [(6, U2.1), (7, W2.1), (10, jI (k2 : Int))]) (fun k2 m2 U2 W2 => (k2 : Int) ≤ x22 ∧ MI D m2 U2.2 W2.2 (2 + k2) 0 0 0 2 (2 + k2) ∧ W2.2.length = k2 ∧ W2.2.Pairwise (· < ·) ∧ ∀ w, (bigE ps).holds w → RdP w m2) (fun k2 m2 U2 W2 => x22.toNat - k2) 0 m U (_, []) ⟨by omega, h1.up (by omega) (by omega) (by omega) (by omega) (by omega) (by omega), C, .nil, hp1⟩ (cN C) (.refl _) ?_
 intro k2 m2 U2 W2 hi23
 obtain ⟨hk2, h2, hwl2, hW2, hp2⟩ := hi23
 have hns2 := h2.ns
 have hna2 := h2.na
 refine aF (aF (cG 2 C ?_))
 refine bN C C C C C C (fun h24 => ?_) (fun h24 => ?_)
 refine bQ (aK C (cE (fD (aF (cG 1 C (aI C (bM 0 C C C) (aI C (aC C C C (aA 6 C C)) (aI C (dL C C C (aJ 1 C)) ?_))))))))
 refine eA C (bB (z := jI 0) (s := 1) (cs := (mI [(m2.ss.length : Int)])) C Try.underlying48 C (by decide) C (by kernel_rfl) C) ?_
 intro g25
 refine cW (i := 6) (z := jI 0) (bytes := 8) C C C C Try.underlying48 (by kernel_rfl) C C C C (aJ 0 C) (cQ _) (by first | omega | (simp; done) | (simp; omega)) (cM U2.2 ([(m2.ss.length : Int)])) (dP U2.2 ([(m2.ss.length : Int)])) (fun _ => C) ?_
 intro v26
 refine aP 1 C (aF (cG 1 C (aI C (bM 0 C C C) (aI C (aC C C C (aA 7 C C)) (aI C (dL C C C (aJ 2 C)) ?_)))))
 refine eA C (bB (z := jI 0) (s := 1) (cs := (mI [(m2.ss.length : Int)])) C Try.underlying48 C (by decide) C (by kernel_rfl) C) ?_
 intro g27
 refine cW (i := 6) (z := jI 0) (bytes := 8) C C C C Try.underlying48 (by kernel_rfl) C C C C (aJ 0 C) (cQ _) (by first | omega | (simp; done) | (simp; omega)) (cM W2.2 ([(m2.ss.length : Int)])) (dP W2.2 ([(m2.ss.length : Int)])) (fun _ => C) ?_
 intro v28
 refine aP 1 C ?_
 refine hC 12 [10, 9, 8, 7, 6, 5, 4, 3, 2, 1, 0, 11] C C (by decide) ?_
 refine jE (l := (rowE 3 1 (.slice (some ⟨g27, 0, none⟩) 1 1) 1 (mI [(m2.ss.length : Int)]) :: rowE 3 1 (.slice (some ⟨g25, 0, none⟩) 1 1) 1 (mI [(m2.ss.length : Int)]) :: bigE ps :: rS9 38 3 m2.sv m2.ss sgC :: rS9 63 3 m2.iv m2.xs ixC :: rS9 94 4 m2.mv m2.ms mmC :: rowE 3 1 v28 ((W2.2 ++ ([(m2.ss.length : Int)])).length) (mI (W2.2 ++ ([(m2.ss.length : Int)]))) :: rowE 3 1 v26 ((U2.2 ++ ([(m2.ss.length : Int)])).length) (mI (U2.2 ++ ([(m2.ss.length : Int)]))) :: boxE b3 #[m2.sv, m2.av, m2.iv, m2.mv] 35 :: boxE b2 #[.slice none 0 0, .slice none 0 0, .slice none 0 0, .slice none 0 0] 35 :: boxE b1 #[v] 26 :: l)) C 9 [0, 1, 2, 3, 4, 5, 6, 7, 8] (List.take 9 _) (List.drop 9 _) [[], [0], [], [], [2, 3], [], [4, 5], [4, 6], [4, 6, 7]] [70, 71, 72, 73, 74, 75, 76, 77, 78] (fun i_ vs_ v_ p_ => match i_ with | 0 => v_ = .pointer (some ⟨b3, 0 + 0, none⟩) ∧ p_ = [] | 1 => v_ = m2.sv ∧ p_ = [] | 2 => v_ = pI g ∧ p_ = [] | 3 => IsRow 3 1 3 (mI [1, 2, 0]) v_ p_ | 4 => (∃ pm_, p_ = [pm_] ∧ (fun u_ p_ => (∃ x : Int, u_ = jI x ∧ x ∈ ([1, 2, 0] : List Int)) ∧ p_ = curE g a len cap) v_ pm_) | 5 => v_ = pI g ∧ p_ = [] | 6 => (∃ pm_, p_ = [pm_] ∧ (fun u_ p_ => (∃ x_ : Int, u_ = jI x_ ∧ 0 ≤ x_ ∧ x_ < 4) ∧ p_ = curE g a len cap) v_ pm_) | 7 => v_ = .agg #[jI 3, jI (intOf_o (gV9 vs_ 0)), jI (intOf_o (gV9 vs_ 1))] ∧ p_ = [] | 8 => IsRow 38 3 1 (mI [3, (intOf_o (gV9 vs_ 0)), (intOf_o (gV9 vs_ 1))]) v_ p_ | _ => True) [[], [0], [], [], [2, 3], [], [5], [6], [6, 7]] [none, none, none, none, some 12, none, some 4, none, none] [curE g a len cap] [0, 1, 2, 3, 5, 6, 7, 8] 12 (List.take_append_drop 9 _).symm (by kernel_rfl) (by kernel_rfl) (by kernel_rfl) C C ?_ ?_
 refine ⟨?_, ?_, ?_, ?_, ?_, ?_, ?_, ?_, ?_, trivial⟩
 intro vf pf hmu hR
 refine jK [] [] C (cC (aU [5] C) ?_)
 exact bH (bM 0 C C C)
 intro vf pf hmu hR
 have e0 := hR 0 (by decide)
 refine jK [0] [0] C (bP (sk 70 (congrArg some e0.1) (aL _)) (List.sublist_append_right _ _) ?_)
 exact bH (aC C C C (aA 8 C C))
 intro vf pf hmu hR
 refine jK [] [] C (cC (aU [0] C) ?_)
 exact bH (aY C)
 intro vf pf hmu hR
 refine jK [] [] C (bP (aL _) (List.sublist_append_right _ _) ?_)
 exact bB (z := jI 0) (s := 1) (cs := (mI [1, 2, 0])) C Try.underlying48 C (by decide) C (by kernel_rfl) C
 intro vf pf hmu hR
 have e2 := hR 2 (by decide)
 have e3 : IsRow 3 1 3 (mI [1, 2, 0]) (vf 3) (pf 3) := hR 3 (by decide)
 obtain ⟨g29, vE3, pE3⟩ := e3
 refine Or.inl ⟨C, ?_⟩
 show RunM _ _ _ (pf 12) (([2, 3] : List Nat).flatMap pf ++ _) (envOf _ vf [2, 3] ++ _) _ _
 rw [hmu]
 refine eE (sk 72 (congrArg some e2.1) (sk 73 (congrArg some vE3) (aL _))) (by simp only [pE3, vE3, e2.2, fS] <;> rfl) ?_
 exact gH (R := (fun u_ p_ => (∃ x : Int, u_ = jI x ∧ x ∈ ([1, 2, 0] : List Int)) ∧ p_ = curE g a len cap)) C C (fun L w hX hm => gS g a len cap z (.slice (some ⟨g29, 0, none⟩) 3 3) [1, 2, 0] _ _ _ hm hb (fun w hm => mQ (hX w hm) 0 C) (by decide))
 intro vf pf hmu hR
 refine jK [] [] C (cC (aU [0] C) ?_)
 exact bH (aY C)
 intro vf pf hmu hR
 have e4 : (∃ pm_, (pf 4) = [pm_] ∧ (fun u_ p_ => (∃ x : Int, u_ = jI x ∧ x ∈ ([1, 2, 0] : List Int)) ∧ p_ = curE g a len cap) (vf 4) pm_) := hR 4 (by decide)
 obtain ⟨p31, pE4, R32⟩ := e4
 obtain ⟨v30, vE4⟩ : ∃ x, vf 4 = x := ⟨_, rfl⟩
 rw [vE4] at R32
 obtain ⟨⟨x32, rfl, x32m⟩, rfl⟩ := R32
 have x32w := pM x32m (by decide)
 have e5 := hR 5 (by decide)
 refine Or.inl ⟨C, ?_⟩
 show RunM _ _ _ (pf 4) (([5] : List Nat).flatMap pf ++ _) (envOf _ vf [4, 5] ++ _) _ _
 rw [pE4]
 exact eE (sk 75 (congrArg some e5.1) (aL _)) (by simp only [e5.2, fS] <;> rfl) (gH (R := (fun u_ p_ => (∃ x_ : Int, u_ = jI x_ ∧ 0 ≤ x_ ∧ x_ < 4) ∧ p_ = curE g a len cap)) C C (fun L w hX hm => eH g a len cap z 4 _ _ _ hm hb (by constructor <;> omega)))
 intro vf pf hmu hR
 have e4 : (∃ pm_, (pf 4) = [pm_] ∧ (fun u_ p_ => (∃ x : Int, u_ = jI x ∧ x ∈ ([1, 2, 0] : List Int)) ∧ p_ = curE g a len cap) (vf 4) pm_) := hR 4 (by decide)
 obtain ⟨p31, pE4, R32⟩ := e4
 obtain ⟨v30, vE4⟩ : ∃ x, vf 4 = x := ⟨_, rfl⟩
 rw [vE4] at R32
 obtain ⟨⟨x32, rfl, x32m⟩, rfl⟩ := R32
 have x32w := pM x32m (by decide)
 have e6 : (∃ pm_, (pf 6) = [pm_] ∧ (fun u_ p_ => (∃ x_ : Int, u_ = jI x_ ∧ 0 ≤ x_ ∧ x_ < 4) ∧ p_ = curE g a len cap) (vf 6) pm_) := hR 6 (by decide)
 obtain ⟨p34, pE6, R35⟩ := e6
 obtain ⟨v33, vE6⟩ : ∃ x, vf 6 = x := ⟨_, rfl⟩
 rw [vE6] at R35
 obtain ⟨⟨x35, rfl, x350, x351⟩, rfl⟩ := R35
 refine jK [6] [4, 6] C (dJ (sk 74 (congrArg some vE4) (sk 76 (congrArg some vE6) (aL _))) (by simp only [pE6, vE6, fS] <;> rfl) ?_)
 exact eB (bH (cU (cs := #[jI 3, jI x32, jI x35]) C C C)) (fun _ _ h => ⟨h.1.trans (by show _ = (.agg #[jI 3, jI (intOf_o (vf 4)), jI (intOf_o (vf 6))] : Value); first | (rw [vE4, vE6]; done) | (rw [vE4, vE6]; rfl)), h.2⟩)
 intro vf pf hmu hR
 have e4 : (∃ pm_, (pf 4) = [pm_] ∧ (fun u_ p_ => (∃ x : Int, u_ = jI x ∧ x ∈ ([1, 2, 0] : List Int)) ∧ p_ = curE g a len cap) (vf 4) pm_) := hR 4 (by decide)
 obtain ⟨p31, pE4, R32⟩ := e4
 obtain ⟨v30, vE4⟩ : ∃ x, vf 4 = x := ⟨_, rfl⟩
 rw [vE4] at R32
 obtain ⟨⟨x32, rfl, x32m⟩, rfl⟩ := R32
 have x32w := pM x32m (by decide)
 have e6 : (∃ pm_, (pf 6) = [pm_] ∧ (fun u_ p_ => (∃ x_ : Int, u_ = jI x_ ∧ 0 ≤ x_ ∧ x_ < 4) ∧ p_ = curE g a len cap) (vf 6) pm_) := hR 6 (by decide)
 obtain ⟨p34, pE6, R35⟩ := e6
 obtain ⟨v33, vE6⟩ : ∃ x, vf 6 = x := ⟨_, rfl⟩
 rw [vE6] at R35
 obtain ⟨⟨x35, rfl, x350, x351⟩, rfl⟩ := R35
 have e7 : (vf 7) = .agg #[jI 3, jI (intOf_o (vf 4)), jI (intOf_o (vf 6))] ∧ (pf 7) = [] := hR 7 (by decide)
 rw [vE4, vE6] at e7
 refine jK [6, 7] [4, 6, 7] C (dJ (sk 77 (congrArg some e7.1) (aL _)) (by simp only [pE6, vE6, e7.2, fS] <;> rfl) ?_)
 exact eB (bB (z := .agg #[jI 0, jI 0, jI 0]) (s := 3) (cs := (mI [3, x32, x35])) C Try.underlying30 C (by decide) C (by kernel_rfl) C) (fun v_ p_ h => by show IsRow 38 3 1 (mI [3, (intOf_o (vf 4)), (intOf_o (vf 6))]) v_ p_; rw [vE4, vE6]; exact h)
 intro vf pf hmu hR
 have e1 := hR 1 (by decide)
 have e3 : IsRow 3 1 3 (mI [1, 2, 0]) (vf 3) (pf 3) := hR 3 (by decide)
 obtain ⟨g29, vE3, pE3⟩ := e3
 have e4 : (∃ pm_, (pf 4) = [pm_] ∧ (fun u_ p_ => (∃ x : Int, u_ = jI x ∧ x ∈ ([1, 2, 0] : List Int)) ∧ p_ = curE g a len cap) (vf 4) pm_) := hR 4 (by decide)
 obtain ⟨p31, pE4, R32⟩ := e4
 obtain ⟨v30, vE4⟩ : ∃ x, vf 4 = x := ⟨_, rfl⟩
 rw [vE4] at R32
 obtain ⟨⟨x32, rfl, x32m⟩, rfl⟩ := R32
 have x32w := pM x32m (by decide)
 have e6 : (∃ pm_, (pf 6) = [pm_] ∧ (fun u_ p_ => (∃ x_ : Int, u_ = jI x_ ∧ 0 ≤ x_ ∧ x_ < 4) ∧ p_ = curE g a len cap) (vf 6) pm_) := hR 6 (by decide)
 obtain ⟨p34, pE6, R35⟩ := e6
 obtain ⟨v33, vE6⟩ : ∃ x, vf 6 = x := ⟨_, rfl⟩
 rw [vE6] at R35
 obtain ⟨⟨x35, rfl, x350, x351⟩, rfl⟩ := R35
 have e8 : IsRow 38 3 1 (mI [3, (intOf_o (vf 4)), (intOf_o (vf 6))]) (vf 8) (pf 8) := hR 8 (by decide)
 rw [vE4, vE6] at e8
 obtain ⟨g36, vE8, pE8⟩ := e8
 have q0 := hR 0 (by decide)
 have q1 := hR 1 (by decide)
 have q2 := hR 2 (by decide)
 have q5 := hR 5 (by decide)
 have q7 := hR 7 (by decide)
 refine dV (dB [55, 33, 10, 8, 7, 6, 5, 4, 3, 1, 0] _ (sk 71 (congrArg some e1.1) (sk 78 (congrArg some vE8) (aL _))) C) (by simp only [pE3, vE3, pE6, vE6, pE8, vE8, q0.2, q1.2, q2.2, q5.2, q7.2, fS] <;> rfl) ?_
 simp only [List.drop_succ_cons, List.drop_zero]
 refine cW (i := 6) (z := .agg #[jI 0, jI 0, jI 0]) (bytes := 24) C C C C Try.underlying30 (by kernel_rfl) C C C C (aJ 2 C) (cQ _) (by first | omega | (simp only [List.length_append, List.length_cons, List.length_nil]; omega)) (cM m2.ss [(Sg.mk 3 x32 x35)]) (dM sgC m2.ss (Sg.mk 3 x32 x35) _ C) (fun _ => C) ?_
 intro v37
 refine aI C (bM 0 C C C) (cS (i := 6) C (fun ho38 => ?_))
 refine eZ (i := 11) (cs' := #[v37, m2.av, m2.iv, m2.mv]) C C C C C C ho38 C C C C (bK (cK (cG 1 C (aI C (dO C C C) (dA 1 C ?_)))))
 refine cD 14 [1, 13, 12, 11, 10, 9, 8, 7, 6, 5] C C (by decide) ?_
 exact eR (k2 + 1) (Md.mk v37 m2.av m2.iv m2.mv (m2.ss ++ [(Sg.mk 3 x32 x35)]) m2.gs m2.xs m2.ms) (v26, U2.2 ++ ([(m2.ss.length : Int)])) (v28, W2.2 ++ ([(m2.ss.length : Int)])) ⟨by omega, h2.reg _ (by assumption) ⟨by omega, by omega⟩, by rw [List.length_append, List.length_singleton]; omega, xC hW2 h2.plt, fun w hw => hp2 w hw⟩ (by omega) (cN C) (.refl _)
 refine bQ (aS C ?_)
 refine bI (dC ?_)
 refine aM (aR (aF (bA 1 C (bD ?_))))
 refine lZ (α := Nat) (β := Md) (γ := Value × List Int) (δ := List HP) [0, 1, 3, 4, 5, 7, 33, 55] C (fun t m3 U3 ps3 => (bigE ps3 :: rS9 38 3 m3.sv m3.ss sgC :: rS9 63 3 m3.iv m3.xs ixC :: rS9 94 4 m3.mv m3.ms mmC :: rI9 3 W2.1 W2.2 :: rI9 3 U3.1 U3.2 :: boxE b3 #[m3.sv, m3.av, m3.iv, m3.mv] 35 :: boxE b2 #[.slice none 0 0, .slice none 0 0, .slice none 0 0, .slice none 0 0] 35 :: boxE b1 #[v] 26 :: curE g a len cap :: l)) (fun t m3 U3 ps3 => [(6, U3.1), (11, jI (t : Int))]) (fun t m3 U3 ps3 => t ≤ 2 ∧ MI D m3 U3.2 W2.2 (4 + 4 * t) (4 * t) t 0 2 (4 + 4 * t) ∧ ∀ w, (bigE ps3).holds w → RdP w m3) (fun t m3 U3 ps3 => 2 - t) 0 m2 U2 ps ⟨by omega, h2.up (by omega) (by omega) (by omega) (by omega) (by omega) (by omega), hp2⟩ (cN C) (.refl _) ?_
 intro t m3 U3 ps3 hi39
 obtain ⟨ht, h3, hp3⟩ := hi39
 have hns3 := h3.ns
 have hna3 := h3.na
 have hnx3 := h3.nx
 have hnm3 := h3.nm
 refine aF ?_
 refine fJ (α := Bool) (fun bt => (bigE ps3 :: rS9 38 3 m3.sv m3.ss sgC :: rS9 63 3 m3.iv m3.xs ixC :: rS9 94 4 m3.mv m3.ms mmC :: rI9 3 W2.1 W2.2 :: rI9 3 U3.1 U3.2 :: boxE b3 #[m3.sv, m3.av, m3.iv, m3.mv] 35 :: boxE b2 #[.slice none 0 0, .slice none 0 0, .slice none 0 0, .slice none 0 0] 35 :: boxE b1 #[v] 26 :: curE g a len cap :: l)) (fun bt => [(0, pI g), (1, .agg #[v]), (3, pI b1), (4, pI b2), (5, pI b3), (6, U3.1), (7, W2.1), (11, jI (t : Int)), (33, .bool false), (55, .bool false), (89, .bool bt)]) (fun bt => bt = true → t < D.length ∧ t < 2) ?_ ?_
 refine cG 1 C (aI C (bM 0 C C C) (aI C (aC C C C (aA 8 C C)) ?_))
 refine aI C (dL C C C (fun w hm => (hD w (hm.sub (fO 10 C))).row)) (bN C C C C C C (fun h40 => ?_) (fun h40 => ?_))
 refine aH 2 C (bN C C C C C C (fun h41 => ?_) (fun h41 => ?_))
 refine dA 1 C ?_
 exact cP true (fun h9 => by first | exact ⟨by omega, by omega⟩ | cases h9) (cN C) (.refl _)
 refine dA 1 C ?_
 exact cP false (fun h9 => by first | exact ⟨by omega, by omega⟩ | cases h9) (cN C) (.refl _)
 refine dA 4 C ?_
 exact cP false (fun h9 => by first | exact ⟨by omega, by omega⟩ | cases h9) (cN C) (.refl _)
 intro bt hm42
 have hbt := hm42
 refine eW C (fun h43 => ?_) (fun h43 => ?_)
 refine cE (fD (aF ?_))
 refine fJ (α := Bool) (fun b9 => (bigE ps3 :: rS9 38 3 m3.sv m3.ss sgC :: rS9 63 3 m3.iv m3.xs ixC :: rS9 94 4 m3.mv m3.ms mmC :: rI9 3 W2.1 W2.2 :: rI9 3 U3.1 U3.2 :: boxE b3 #[m3.sv, m3.av, m3.iv, m3.mv] 35 :: boxE b2 #[.slice none 0 0, .slice none 0 0, .slice none 0 0, .slice none 0 0] 35 :: boxE b1 #[v] 26 :: curE g a len cap :: l)) (fun b9 => [(0, pI g), (1, .agg #[v]), (3, pI b1), (4, pI b2), (5, pI b3), (6, U3.1), (7, W2.1), (11, jI (t : Int)), (33, .bool false), (55, .bool false), (89, .bool bt), (98, .bool b9)]) (fun b9 => True) ?_ ?_
 refine cG 1 C ?_
 refine eK (R := (fun u_ p_ => (∃ b : Bool, u_ = .bool b) ∧ p_ = curE g a len cap)) 9 C C C C C (fun l' w hm => mS hm hb (2) (by omega) (by omega)) ?_
 intro v44 p45 R46
 obtain ⟨⟨x46, rfl⟩, rfl⟩ := R46
 refine dY (l' := (bigE ps3 :: rS9 38 3 m3.sv m3.ss sgC :: rS9 63 3 m3.iv m3.xs ixC :: rS9 94 4 m3.mv m3.ms mmC :: rI9 3 W2.1 W2.2 :: rI9 3 U3.1 U3.2 :: boxE b3 #[m3.sv, m3.av, m3.iv, m3.mv] 35 :: boxE b2 #[.slice none 0 0, .slice none 0 0, .slice none 0 0, .slice none 0 0] 35 :: boxE b1 #[v] 26 :: curE g a len cap :: l)) C ?_
 refine bT (fun h47 => ?_) (fun h47 => ?_)
 refine dA 5 C ?_
 exact cP false trivial (cN C) (.refl _)
 refine aH 3 C (eS C C C C C C (fun h48 => ?_) (fun h48 => ?_))
 refine dA 1 C ?_
 exact cP true trivial (cN C) (.refl _)
 refine dA 1 C ?_
 exact cP false trivial (cN C) (.refl _)
 intro b9 hm49
 obtain ⟨htl9, ht29⟩ := hbt (by assumption)
 refine eW C (fun h50 => ?_) (fun h50 => ?_)
 refine bI (gT ?_)
 refine aM (aR (cG 1 C (aI C (dO C C C) (dA 1 C ?_))))
 exact eR (t + 1) m3 (U3.1, U3.2) ps3 ⟨by omega, h3.up (by omega) (by omega) (by omega) (by omega) (by omega) (by omega), hp3⟩ (by omega) (cN C) (.refl _)
 refine cE (aF (cG 1 C (aI C (bM 0 C C C) (aI C (aC C C C (aA 8 C C)) ?_))))
 refine aI C (dL C C C (fun w hm => (hD w (hm.sub (fO 10 C))).row)) (eK (R := (fun u_ p_ => (∃ x_ : Int, u_ = jI x_ ∧ 0 ≤ x_ ∧ x_ < (D.length : Int)) ∧ p_ = curE g a len cap)) 9 C C C C C (fun l' w hm => eH g a len cap z (D.length : Int) _ _ _ hm hb (by constructor <;> omega)) ?_)
 intro v51 p52 R53
 obtain ⟨⟨x53, rfl, x530, x531⟩, rfl⟩ := R53
 refine dY (l' := (bigE ps3 :: rS9 38 3 m3.sv m3.ss sgC :: rS9 63 3 m3.iv m3.xs ixC :: rS9 94 4 m3.mv m3.ms mmC :: rI9 3 W2.1 W2.2 :: rI9 3 U3.1 U3.2 :: boxE b3 #[m3.sv, m3.av, m3.iv, m3.mv] 35 :: boxE b2 #[.slice none 0 0, .slice none 0 0, .slice none 0 0, .slice none 0 0] 35 :: boxE b1 #[v] 26 :: curE g a len cap :: l)) C ?_
 refine aH 1 C (eA C (bB (z := jI 0) (s := 1) (cs := (mI [0, 0, 1, 2])) C Try.underlying48 C (by decide) C (by kernel_rfl) C) ?_)
 intro g54
 refine gA (R := (fun u_ p_ => (∃ x : Int, u_ = jI x ∧ x ∈ ([0, 0, 1, 2] : List Int)) ∧ p_ = curE g a len cap)) 10 C C C C C (fun L w hX hm => gS g a len cap z (.slice (some ⟨g54, 0, none⟩) 4 4) [0, 0, 1, 2] _ _ _ hm hb (fun w hm => mQ (hX w hm) 0 C) (by decide)) ?_
 intro v55 p56 R57
 obtain ⟨⟨x57, rfl, x57m⟩, rfl⟩ := R57
 have x57w := pM x57m (by decide)
 refine dY (l' := (rowE 3 1 (.slice (some ⟨g54, 0, none⟩) 4 4) 4 (mI [0, 0, 1, 2]) :: bigE ps3 :: rS9 38 3 m3.sv m3.ss sgC :: rS9 63 3 m3.iv m3.xs ixC :: rS9 94 4 m3.mv m3.ms mmC :: rI9 3 W2.1 W2.2 :: rI9 3 U3.1 U3.2 :: boxE b3 #[m3.sv, m3.av, m3.iv, m3.mv] 35 :: boxE b2 #[.slice none 0 0, .slice none 0 0, .slice none 0 0, .slice none 0 0] 35 :: boxE b1 #[v] 26 :: curE g a len cap :: l)) C ?_
 refine aI C (cU (cs := #[jI x53, jI x57, .slice none 0 0]) C C C) (cL C (bG (z := .agg #[jI 0, jI 0, .slice none 0 0]) C C) ?_)
 intro b58
 refine bE (cs' := #[jI x53, jI x57, .slice none 0 0]) (i := 0) (off := 0) (us := [jI x53, jI x57, .slice none 0 0]) C C C C C C C (aB C (aB C (aB C bC))) C C C (bQ (cA (aI C (bM 0 C C C) (aI C (aC C C C (aA 10 C C)) (aI C (bM 0 C C C) (aI C (aC C C C (aA 0 C C)) ?_))))))
 refine aI C (cR 4 C C C C (fun w hm => (hD w (hm.sub (fO 12 C))).row)) (aI C (bL (us := [(D.getD (x53.toNat) md0).sv, (D.getD (x53.toNat) md0).av, (D.getD (x53.toNat) md0).iv, (D.getD (x53.toNat) md0).mv]) C C C C (fun w hm => (hD w (hm.sub (fO 12 C))).row) (by omega) C (bY mdC 4 (fun _ => C) D md0 (show x53.toNat < _ by omega) C)) ?_)
 refine cL C (bG (z := .agg #[.slice none 0 0, .slice none 0 0, .slice none 0 0, .slice none 0 0]) C C) ?_
 intro b59
 refine bE (cs' := #[(D.getD (x53.toNat) md0).sv, (D.getD (x53.toNat) md0).av, (D.getD (x53.toNat) md0).iv, (D.getD (x53.toNat) md0).mv]) (i := 0) (off := 0) (us := [(D.getD (x53.toNat) md0).sv, (D.getD (x53.toNat) md0).av, (D.getD (x53.toNat) md0).iv, (D.getD (x53.toNat) md0).mv]) C C C C C C C (aB (hch _ (cV (by omega))).1 (aB (hch _ (cV (by omega))).2.1 (aB (hch _ (cV (by omega))).2.2.1 (aB (hch _ (cV (by omega))).2.2.2 bC)))) C C C (bQ (cA (aI C (aW (cs := [(D.getD (x53.toNat) md0).sv, (D.getD (x53.toNat) md0).av, (D.getD (x53.toNat) md0).iv, (D.getD (x53.toNat) md0).mv]) C C C C C (aT 0 C 0 C)) ?_)))
 refine fC C C C (aV C C (fun w hm => gF (D.getD (x53.toNat) md0) w ((hD w (hm.sub (fO 13 C))).at (by omega)))) ?_
 intro v60 p61 R62
 subst R62
 refine aP 1 C (cA ?_)
 refine eA C (dF (s := 1) C Try.underlying48 C) ?_
 intro g63
 refine aP 1 C (aF (bA 1 C (bD ?_)))
 refine fB (rowE 3 1 (.slice none 0 0) (([] : List Int).length) (mI ([] : List Int)) :: rowE 3 1 (.slice (some ⟨g63, 0, none⟩) 0 0) 0 ([]) :: rowE 3 1 v60 ((ptsK (D.getD (x53.toNat) md0)).length) (mI (ptsK (D.getD (x53.toNat) md0))) :: boxE b59 #[(D.getD (x53.toNat) md0).sv, (D.getD (x53.toNat) md0).av, (D.getD (x53.toNat) md0).iv, (D.getD (x53.toNat) md0).mv] 35 :: boxE b58 #[jI x53, jI x57, .slice none 0 0] 63 :: rowE 3 1 (.slice (some ⟨g54, 0, none⟩) 4 4) 4 (mI [0, 0, 1, 2]) :: bigE ps3 :: rS9 38 3 m3.sv m3.ss sgC :: rS9 63 3 m3.iv m3.xs ixC :: rS9 94 4 m3.mv m3.ms mmC :: rI9 3 W2.1 W2.2 :: rI9 3 U3.1 U3.2 :: boxE b3 #[m3.sv, m3.av, m3.iv, m3.mv] 35 :: boxE b2 #[.slice none 0 0, .slice none 0 0, .slice none 0 0, .slice none 0 0] 35 :: boxE b1 #[v] 26 :: curE g a len cap :: l) (fun w hm => hm.nilRow 3 1) ?_
 refine lZ (α := Nat) (β := Md) (γ := (Value × List Int) × Value × List Int) (δ := List HP) [0, 1, 3, 4, 5, 6, 7, 11, 12, 13, 14, 33, 55, 89, 98] rfl (fun j q Y pq => (rI9 3 Y.1.1 Y.1.2 :: rI9 3 Y.2.1 Y.2.2 :: rowE 3 1 v60 ((ptsK (D.getD (x53.toNat) md0)).length) (mI (ptsK (D.getD (x53.toNat) md0))) :: boxE b59 #[(D.getD (x53.toNat) md0).sv, (D.getD (x53.toNat) md0).av, (D.getD (x53.toNat) md0).iv, (D.getD (x53.toNat) md0).mv] 35 :: boxE b58 #[jI x53, jI x57, Y.1.1] 63 :: bigE pq :: rS9 38 3 q.sv q.ss sgC :: rS9 63 3 q.iv q.xs ixC :: rS9 94 4 q.mv q.ms mmC :: rI9 3 W2.1 W2.2 :: rI9 3 U3.1 U3.2 :: boxE b3 #[q.sv, q.av, q.iv, q.mv] 35 :: boxE b2 #[.slice none 0 0, .slice none 0 0, .slice none 0 0, .slice none 0 0] 35 :: boxE b1 #[v] 26 :: curE g a len cap :: l)) (fun j q Y pq => [(15, Y.2.1), (16, jI (j : Int))]) (fun j q Y pq => j ≤ (ptsK (D.getD (x53.toNat) md0)).length ∧ MI D q U3.2 (W2.2 ++ Y.2.2) (4 + 4 * t + j) (4 * t + j) t 0 2 (4 + 4 * t) ∧ IjP D q x53 m3.ss.length Y.1.2 Y.2.2 j ∧ ∀ w, (bigE pq).holds w → RdP w q) (fun j q Y pq => (ptsK (D.getD (x53.toNat) md0)).length - j) 0 m3 ((_, []), (_, [])) ps3 ⟨Nat.zero_le _, by rw [List.append_nil]; exact h3, IjP.start D m3 _, hp3⟩ (cN rfl) (.cons_cons _ (.cons_cons _ (.cons_cons _ (.cons_cons _ (.cons_cons _ (.cons _ (.refl _))))))) ?_
 intro j q Y pq hi64
 obtain ⟨hj, hq, hij, hpq⟩ := hi64
 have hnsq := hq.ns
 have hnxq := hq.nx
 have hnaq := hq.na
 have hpt4 : (ptsK (D.getD (x53.toNat) md0)).length ≤ 4 := by have h8 := hdd.md (x53.toNat) (by omega); rw [yR h8.len.1]; exact h8.pt
 have hyl := hij.len
 have hyo : Y.2.2.length ≤ j := by have h8 := nE D (Ix.mk x53 0 (.slice none 0 0) Y.1.2) j; rw [← hij.oq] at h8; exact h8
 refine aF (aF (cG 2 C (aI C (dL C C C (aJ 2 C)) ?_)))
 refine bN C C C C C C (fun h65 => ?_) (fun h65 => ?_)
 refine bQ (aK C (cE (fD (aF ?_))))
 have hpt := fU (m := (D.getD (x53.toNat) md0)) (j := j) (by omega)
 have hkd := dH hpt
 have hsg9 := (hdd.md (x53.toNat) (by omega)).b.sg _ (cV (d := sg0) (show (((ptsK (D.getD (x53.toNat) md0)).getD j 0)).toNat < ((D.getD (x53.toNat) md0)).ss.length by omega))
 obtain ⟨⟨hsa, hsb⟩, ⟨hsc, hsd⟩, -⟩ := hsg9
 refine cI 9 [[], [0], [], [], [2, 3], [4], [1, 5], [6], [7]] [123, 124, 125, 126, 127, 128, 129, 130, 131] [.pointer (some ⟨b59, 0 + 0, none⟩), (D.getD (x53.toNat) md0).sv, v60, jI (j : Int), elP v60 ((j : Int).toNat * 1), jI ((ptsK (D.getD (x53.toNat) md0)).getD j 0), elP ((D.getD (x53.toNat) md0).sv) (((ptsK (D.getD (x53.toNat) md0)).getD j 0).toNat * 3), elP ((D.getD (x53.toNat) md0).sv) (((ptsK (D.getD (x53.toNat) md0)).getD j 0).toNat * 3 + 1), jI ((((D.getD (x53.toNat) md0).ss).getD (((ptsK (D.getD (x53.toNat) md0)).getD j 0).toNat) sg0).w)] (by kernel_rfl) C ?_ ?_
 exact ⟨bF C (bM 0 C C C) C, bF C (aC C C C (aA 3 C C)) C, bF C (aY C) C, bF C (aY C) C, bF C (cR 1 C C C C (aJ 2 C)) C, bF C (aQ (u := jI ((ptsK (D.getD (x53.toNat) md0)).getD j 0)) C C C (aJ 2 C) (cJ (show _ < (ptsK (D.getD (x53.toNat) md0)).length by omega))) C, bF C (cR 3 C C C C (fun w hm => ((hD w (hm.sub (fO 15 C))).at (k := (x53.toNat)) (by omega)).s)) C, bF C (aZ (k0 := 1) C C C (fun w hm => ((hD w (hm.sub (fO 15 C))).at (k := (x53.toNat)) (by omega)).s) (by omega)) C, bF C (aQ (u := jI ((((D.getD (x53.toNat) md0).ss).getD (((ptsK (D.getD (x53.toNat) md0)).getD j 0).toNat) sg0).w)) C C C (fun w hm => ((hD w (hm.sub (fO 15 C))).at (k := (x53.toNat)) (by omega)).s) ((bR sgC 3 (fun _ => C) ((D.getD (x53.toNat) md0).ss) sg0 (show ((ptsK (D.getD (x53.toNat) md0)).getD j 0).toNat < _ by omega) (by decide)).trans C)) C, trivial⟩
 simp only [List.drop_succ_cons, List.drop_zero]
 refine aP 1 C ?_
 refine fJ (α := Int) (fun wd => (rI9 3 Y.1.1 Y.1.2 :: rI9 3 Y.2.1 Y.2.2 :: rowE 3 1 v60 ((ptsK (D.getD (x53.toNat) md0)).length) (mI (ptsK (D.getD (x53.toNat) md0))) :: boxE b59 #[(D.getD (x53.toNat) md0).sv, (D.getD (x53.toNat) md0).av, (D.getD (x53.toNat) md0).iv, (D.getD (x53.toNat) md0).mv] 35 :: boxE b58 #[jI x53, jI x57, Y.1.1] 63 :: bigE pq :: rS9 38 3 q.sv q.ss sgC :: rS9 63 3 q.iv q.xs ixC :: rS9 94 4 q.mv q.ms mmC :: rI9 3 W2.1 W2.2 :: rI9 3 U3.1 U3.2 :: boxE b3 #[q.sv, q.av, q.iv, q.mv] 35 :: boxE b2 #[.slice none 0 0, .slice none 0 0, .slice none 0 0, .slice none 0 0] 35 :: boxE b1 #[v] 26 :: curE g a len cap :: l)) (fun wd => [(0, pI g), (1, .agg #[v]), (3, pI b1), (4, pI b2), (5, pI b3), (6, U3.1), (7, W2.1), (11, jI (t : Int)), (12, pI b58), (13, pI b59), (14, v60), (15, Y.2.1), (16, jI (j : Int)), (17, jI wd), (33, .bool false), (55, .bool false), (89, .bool bt), (98, .bool b9), (120, .bool true)]) (fun wd => 0 ≤ wd ∧ wd ≤ 4) ?_ ?_
 refine aF (cG 1 C ?_)
 refine bU C C C C C C (fun h66 => ?_) (fun h66 => ?_)
 refine bQ (aK C (aO (aI C (bM 1 C C C) (aI C (aC C C C (aA 4 C C)) (dA 1 C ?_)))))
 exact cP x57 ⟨by omega, by omega⟩ (cN C) (.refl _)
 refine bQ (gM C ?_)
 exact cP ((((D.getD (x53.toNat) md0).ss).getD (((ptsK (D.getD (x53.toNat) md0)).getD j 0).toNat) sg0).w) ⟨by omega, by omega⟩ (cN C) (.refl _)
 intro wd hm67
 have hwd9 : 0 ≤ wd ∧ wd ≤ 4 := hm67
 refine cA (aI C (bM 0 C C C) (aI C (aC C C C (aA 11 C C)) (aI C (dL C C C (aJ 6 C)) (aP 1 C (cA (aI C (bM 0 C C C) (aI C (aC C C C (aA 11 C C)) (aH 1 C ?_))))))))
 refine aI C (cU (cs := #[jI 2, jI wd, jI 0]) C C C) (eA C (bB (z := .agg #[jI 0, jI 0, jI 0]) (s := 3) (cs := (mI [2, wd, 0])) C Try.underlying30 C (by decide) C (by kernel_rfl) C) ?_)
 intro g68
 refine cW (i := 7) (z := .agg #[jI 0, jI 0, jI 0]) (bytes := 24) C C C C Try.underlying30 (by kernel_rfl) C C C C (aJ 0 C) (cQ _) (by first | omega | (simp only [List.length_append, List.length_cons, List.length_nil]; omega)) (cM q.ss [(Sg.mk 2 wd 0)]) (dM sgC q.ss (Sg.mk 2 wd 0) _ C) (fun _ => C) ?_
 intro v69
 refine aI C (bM 0 C C C) (cS (i := 7) C (fun ho70 => ?_))
 refine eZ (i := 12) (cs' := #[v69, q.av, q.iv, q.mv]) C C C C C C ho70 C C C C (bQ (cA (aI C (bM 2 C C C) (aI C (aC C C C (aA 5 C C)) (aH 1 C ?_)))))
 refine eA C (bB (z := jI 0) (s := 1) (cs := (mI [(q.ss.length : Int)])) C Try.underlying48 C (by decide) C (by kernel_rfl) C) ?_
 intro g71
 refine cW (i := 2) (z := jI 0) (bytes := 8) C C C C Try.underlying48 (by kernel_rfl) C C C C (aJ 0 C) (cQ _) (by first | omega | (simp; done) | (simp; omega)) (cM Y.1.2 ([(q.ss.length : Int)])) (dP Y.1.2 ([(q.ss.length : Int)])) (fun _ => C) ?_
 intro v72
 refine aI C (bM 2 C C C) (cS (i := 2) C (fun ho73 => ?_))
 refine eZ (i := 6) (cs' := #[jI x53, jI x57, v72]) C C C C C C ho73 C C C C (bQ (aF ?_))
 refine cI 10 [[], [0], [], [], [2, 3], [4], [1, 5], [6], [7], [8]] [152, 153, 154, 155, 156, 157, 158, 159, 160, 161] [.pointer (some ⟨b59, 0 + 0, none⟩), (D.getD (x53.toNat) md0).sv, v60, jI (j : Int), elP v60 ((j : Int).toNat * 1), jI ((ptsK (D.getD (x53.toNat) md0)).getD j 0), elP ((D.getD (x53.toNat) md0).sv) (((ptsK (D.getD (x53.toNat) md0)).getD j 0).toNat * 3), elP ((D.getD (x53.toNat) md0).sv) (((ptsK (D.getD (x53.toNat) md0)).getD j 0).toNat * 3 + 0), jI ((((D.getD (x53.toNat) md0).ss).getD (((ptsK (D.getD (x53.toNat) md0)).getD j 0).toNat) sg0).k), .bool (((((D.getD (x53.toNat) md0).ss).getD (((ptsK (D.getD (x53.toNat) md0)).getD j 0).toNat) sg0).k) == 1)] (by kernel_rfl) C ?_ ?_
 exact ⟨bF C (bM 0 C C C) C, bF C (aC C C C (aA 5 C C)) C, bF C (aY C) C, bF C (aY C) C, bF C (cR 1 C C C C (aJ 4 C)) C, bF C (aQ (u := jI ((ptsK (D.getD (x53.toNat) md0)).getD j 0)) C C C (aJ 4 C) (cJ (show _ < (ptsK (D.getD (x53.toNat) md0)).length by omega))) C, bF C (cR 3 C C C C (fun w hm => ((hD w (hm.sub (fO 17 C))).at (k := (x53.toNat)) (by omega)).s)) C, bF C (aZ (k0 := 0) C C C (fun w hm => ((hD w (hm.sub (fO 17 C))).at (k := (x53.toNat)) (by omega)).s) (by omega)) C, bF C (aQ (u := jI ((((D.getD (x53.toNat) md0).ss).getD (((ptsK (D.getD (x53.toNat) md0)).getD j 0).toNat) sg0).k)) C C C (fun w hm => ((hD w (hm.sub (fO 17 C))).at (k := (x53.toNat)) (by omega)).s) ((bR sgC 3 (fun _ => C) ((D.getD (x53.toNat) md0).ss) sg0 (show ((ptsK (D.getD (x53.toNat) md0)).getD j 0).toNat < _ by omega) (by decide)).trans C)) C, bF C (dR C C C C) C, trivial⟩
 simp only [List.drop_succ_cons, List.drop_zero]
 refine bQ ?_
 refine eW C (fun h74 => ?_) (fun h74 => ?_)
 have h74p : (((D.getD (x53.toNat) md0).ss).getD (((ptsK (D.getD (x53.toNat) md0)).getD j 0).toNat) sg0).k = 1 := beq_iff_eq.1 h74
 refine cG 2 C ?_
 refine eA C (bB (z := jI 0) (s := 1) (cs := (mI [(q.ss.length : Int)])) C Try.underlying48 C (by decide) C (by kernel_rfl) C) ?_
 intro g75
 refine cW (i := 4) (z := jI 0) (bytes := 8) C C C C Try.underlying48 (by kernel_rfl) C C C C (aJ 0 C) (cQ _) (by first | omega | (simp; done) | (simp; omega)) (cM Y.2.2 ([(q.ss.length : Int)])) (dP Y.2.2 ([(q.ss.length : Int)])) (fun _ => C) ?_
 intro v76
 refine dA 1 C (cK (cG 1 C (aI C (dO C C C) (dA 1 C ?_))))
 exact eR (j + 1) (Md.mk v69 q.av q.iv q.mv (q.ss ++ [(Sg.mk 2 wd 0)]) q.gs q.xs q.ms) ((v72, Y.1.2 ++ ([(q.ss.length : Int)])), (v76, Y.2.2 ++ ([(q.ss.length : Int)]))) pq ⟨by omega, (hq.wire _ hwd9 zK).up (by omega) (by omega) (by omega) (by omega) (by omega) (by omega), hij.out C (by omega), fun w hw => hpq w hw⟩ (by omega) (cN C) (fO 3 C)
 have h74p : (((D.getD (x53.toNat) md0).ss).getD (((ptsK (D.getD (x53.toNat) md0)).getD j 0).toNat) sg0).k ≠ 1 := beq_eq_false_iff_ne.1 h74
 refine aO (kJ (p := (∀ g9 ∈ q.gs, g9.ov.oneCell' = true) ∧ v69.oneCell' = true ∧ q.av.oneCell' = true ∧ q.iv.oneCell' = true ∧ q.mv.oneCell' = true) (fun w hm => ⟨fun g9 hg9 => ((hpq w (hm.holds _ (cF (i := 7) C))).2.1 g9 hg9).one, (aJ 8 C w hm).one, (hpq w (hm.holds _ (cF (i := 7) C))).1.one, (aJ 9 C w hm).one, (aJ 10 C w hm).one⟩) (fun ⟨hone9, ho9⟩ => ?_))
 refine aH 1 C (aI C (aW (cs := [v69, q.av, q.iv, q.mv]) C C C C C (aT 13 C 0 C)) (aH 2 C ?_))
 refine gA (R := (fun u_ p_ => ∃ (v' ov : Value) (os : List Oq) (ps : List HP), u_ = .agg #[v69, v', q.iv, q.mv] ∧ p_ = bigE [curE g a len cap, bigE ps] ∧ (∀ w, (bigE ps).holds w → RdsW w v' 2 (q.gs ++ [As.mk (q.ss.length : Int) ov os]).length ((q.gs ++ [As.mk (q.ss.length : Int) ov os]).flatMap asC) ∧ RdsW w ov 3 os.length (os.flatMap oqC)) ∧ v'.oneCell' = true ∧ ov.oneCell' = true ∧ ExP (q.ss.length : Int) 9 os)) 16 C C C C C (fun L w hX hm => iM g a len cap z (q.ss.length : Int) (Md.mk v69 q.av q.iv q.mv (q.ss ++ [(Sg.mk 2 wd 0)]) q.gs q.xs q.ms) (q.ss.length : Int) U3.1 _ _ _ _ hm hb (fun w9 h9 => mQ (hX w9 h9) 12 C) (fun x hx => hq.av x hx) (by have h9 := hq.na; omega) (fun w9 h9 => (hpq w9 ((hX w9 h9).holds _ (cF (i := 7) C))).1) (by have h9 := hq.ng; show q.gs.length ≤ 1000; omega) hone9 ⟨ho9.1, ho9.2.1, ho9.2.2.1, ho9.2.2.2⟩) ?_
 intro v77 p78 R79
 obtain ⟨av79, ov79, os79, ap79, rfl, rfl, hap79, oav79, oov79, hos79⟩ := R79
 refine dY (l' := (rowE 3 1 (.slice (some ⟨g71, 0, none⟩) 1 1) 1 (mI [(q.ss.length : Int)]) :: rowE 38 3 (.slice (some ⟨g68, 0, none⟩) 1 1) 1 (mI [2, wd, 0]) :: rowE 3 1 v72 ((Y.1.2 ++ ([(q.ss.length : Int)])).length) (mI (Y.1.2 ++ ([(q.ss.length : Int)]))) :: rI9 3 Y.2.1 Y.2.2 :: rowE 3 1 v60 ((ptsK (D.getD (x53.toNat) md0)).length) (mI (ptsK (D.getD (x53.toNat) md0))) :: boxE b59 #[(D.getD (x53.toNat) md0).sv, (D.getD (x53.toNat) md0).av, (D.getD (x53.toNat) md0).iv, (D.getD (x53.toNat) md0).mv] 35 :: boxE b58 #[jI x53, jI x57, v72] 63 :: bigE pq :: rowE 38 3 v69 ((q.ss ++ [(Sg.mk 2 wd 0)]).length) ((q.ss ++ [(Sg.mk 2 wd 0)]).flatMap sgC) :: rS9 63 3 q.iv q.xs ixC :: rS9 94 4 q.mv q.ms mmC :: rI9 3 W2.1 W2.2 :: rI9 3 U3.1 U3.2 :: boxE b3 #[v69, q.av, q.iv, q.mv] 35 :: boxE b2 #[.slice none 0 0, .slice none 0 0, .slice none 0 0, .slice none 0 0] 35 :: boxE b1 #[v] 26 :: bigE [curE g a len cap, bigE ap79] :: l)) C ?_
 refine bE (cs' := #[v69, av79, q.iv, q.mv]) (i := 13) (off := 0) (us := [v69, av79, q.iv, q.mv]) C C C C C C C (aB ho70 (aB oav79 (aB ho9.2.2.1 (aB ho9.2.2.2 bC)))) C C C (bK (cK (cG 1 C (aI C (dO C C C) (dA 1 C ?_)))))
 refine cD 17 [15, 14, 13, 12, 11, 10, 9, 8, 7, 6, 5, 4, 3, 2, 1, 0, 16] C C (by decide) ?_
 refine dI (curE g a len cap :: bigE ap79 :: rowE 3 1 (.slice (some ⟨g71, 0, none⟩) 1 1) 1 (mI [(q.ss.length : Int)]) :: rowE 38 3 (.slice (some ⟨g68, 0, none⟩) 1 1) 1 (mI [2, wd, 0]) :: rowE 3 1 v72 ((Y.1.2 ++ ([(q.ss.length : Int)])).length) (mI (Y.1.2 ++ ([(q.ss.length : Int)]))) :: rI9 3 Y.2.1 Y.2.2 :: rowE 3 1 v60 ((ptsK (D.getD (x53.toNat) md0)).length) (mI (ptsK (D.getD (x53.toNat) md0))) :: boxE b59 #[(D.getD (x53.toNat) md0).sv, (D.getD (x53.toNat) md0).av, (D.getD (x53.toNat) md0).iv, (D.getD (x53.toNat) md0).mv] 35 :: boxE b58 #[jI x53, jI x57, v72] 63 :: bigE pq :: rowE 38 3 v69 ((q.ss ++ [(Sg.mk 2 wd 0)]).length) ((q.ss ++ [(Sg.mk 2 wd 0)]).flatMap sgC) :: rS9 63 3 q.iv q.xs ixC :: rS9 94 4 q.mv q.ms mmC :: rI9 3 W2.1 W2.2 :: rI9 3 U3.1 U3.2 :: boxE b3 #[v69, av79, q.iv, q.mv] 35 :: boxE b2 #[.slice none 0 0, .slice none 0 0, .slice none 0 0, .slice none 0 0] 35 :: boxE b1 #[v] 26 :: l) eQ ?_
 refine cD 18 [17, 16, 15, 14, 13, 12, 11, 10, 8, 7, 6, 5, 4, 3, 2, 0, 1, 9] C C (by decide) ?_
 refine dE 2 C ?_
 refine cD 17 [1, 16, 15, 14, 13, 12, 11, 10, 9, 0, 8, 7, 6, 5, 4] C C (by decide) ?_
 exact eR (j + 1) (Md.mk v69 av79 q.iv q.mv (q.ss ++ [(Sg.mk 2 wd 0)]) (q.gs ++ [As.mk (q.ss.length : Int) ov79 os79]) q.xs q.ms) ((v72, Y.1.2 ++ ([(q.ss.length : Int)])), (Y.2.1, Y.2.2)) [bigE pq, bigE ap79] ⟨by omega, ((hq.wire _ hwd9 tS).asg _ (List.mem_append_right _ dX) _ hos79 (by show (q.ss.length : Int) ≤ ((_ : List Sg).length : Int); rw [List.length_append]; omega) (tR hq.plt)).up (by omega) (by omega) (by omega) (by omega) (by omega) (by omega), hij.inn C (by omega), fun w hw => ⟨(hap79 w (bO hw (eI dX))).1, (hpq w (bO hw dX)).2.1.app (hap79 w (bO hw (eI dX))).2, (hpq w (bO hw dX)).2.2⟩⟩ (by omega) (cN C) (.refl _)
 refine bQ (aS C ?_)
 refine bI (dC ?_)
 refine aM (aR (cA (aI C (bM 2 C C C) (aI C (aC C C C (aA 11 C C)) (aI C (aW (cs := [jI x53, jI x57, Y.1.1]) C C C C C (aT 4 C 0 C)) ?_)))))
 refine eA C (bB (z := .agg #[jI 0, jI 0, .slice none 0 0]) (s := 3) (cs := [jI x53, jI x57, Y.1.1]) C Try.underlying32 C (by decide) C (by kernel_rfl) C) ?_
 intro g80
 refine cS (i := 1) C (fun ho81 => ?_)
 refine cW (i := 8) (z := .agg #[jI 0, jI 0, .slice none 0 0]) (bytes := 40) C C C C Try.underlying32 (by kernel_rfl) C C C C (aJ 0 C) (aB C (aB C (aB ho81 bC))) (by first | omega | (simp only [List.length_append, List.length_cons, List.length_nil]; omega)) (cM q.xs [(Ix.mk x53 x57 Y.1.1 Y.1.2)]) (dM ixC q.xs (Ix.mk x53 x57 Y.1.1 Y.1.2) _ C) (fun _ => C) ?_
 intro v82
 refine aI C (bM 2 C C C) (cS (i := 8) C (fun ho83 => ?_))
 refine eZ (i := 12) (cs' := #[q.sv, q.av, v82, q.mv]) C C C C C C ho83 C C C C (bQ (cG 2 C ?_))
 refine cW (i := 11) (z := jI 0) (bytes := 8) C C C C Try.underlying48 (by kernel_rfl) C C C C (aJ 2 C) (cQ _) (by first | omega | (simp; done) | (simp; omega)) (cM U3.2 Y.2.2) (dP U3.2 Y.2.2) (fun _ => C) ?_
 intro v84
 refine dA 1 C (cK (cG 1 C (aI C (dO C C C) (dA 1 C ?_))))
 rw [show j = (ptsK (D.getD (x53.toNat) md0)).length by omega] at hij
 refine cD 16 [15, 14, 13, 12, 11, 10, 9, 8, 7, 5, 4, 3, 2, 0, 1, 6] C C (by decide) ?_
 refine dE 2 C ?_
 exact eR (t + 1) (Md.mk q.sv q.av v82 q.mv q.ss q.gs (q.xs ++ [(Ix.mk x53 x57 Y.1.1 Y.1.2)]) q.ms) (v84, U3.2 ++ Y.2.2) [bigE pq, rI9 3 Y.1.1 Y.1.2] ⟨by omega, (MI.done hq _ _ hij ⟨by omega, by omega⟩ (by omega) h3.plt (e := 4) (by omega)).up (by omega) (by omega) (by omega) (by omega) (by omega) (by omega), fun w hw => ⟨(hpq w (bO hw dX)).1, (hpq w (bO hw dX)).2.1, (hpq w (bO hw dX)).2.2.app (cZ (bO hw (eI dX)))⟩⟩ (by omega) (cN C) (.cons_cons _ (fO 5 C))
 refine bI (dC ?_)
 refine aM (aR ?_)
 refine zW (α := Md) (β := Value × List Int) (γ := List HP) (fun m5 U5 ps5 => (bigE ps5 :: rS9 38 3 m5.sv m5.ss sgC :: rS9 63 3 m5.iv m5.xs ixC :: rS9 94 4 m5.mv m5.ms mmC :: rI9 3 W2.1 W2.2 :: rI9 3 U5.1 U5.2 :: boxE b3 #[m5.sv, m5.av, m5.iv, m5.mv] 35 :: boxE b2 #[.slice none 0 0, .slice none 0 0, .slice none 0 0, .slice none 0 0] 35 :: boxE b1 #[v] 26 :: curE g a len cap :: l)) (fun m5 U5 ps5 => [(0, pI g), (1, .agg #[v]), (3, pI b1), (4, pI b2), (5, pI b3), (6, U5.1), (7, W2.1), (11, jI (t : Int)), (33, .bool false), (55, .bool false), (89, .bool bt)]) (fun m5 U5 ps5 => MI D m5 U5.2 W2.2 16 11 2 1 2 13 ∧ ∀ w, (bigE ps5).holds w → RdP w m5) ?_ ?_
 refine aF (cG 1 C ?_)
 refine eK (R := (fun u_ p_ => (∃ b : Bool, u_ = .bool b) ∧ p_ = curE g a len cap)) 9 C C C C C (fun l' w hm => mS hm hb (4) (by omega) (by omega)) ?_
 intro v85 p86 R87
 obtain ⟨⟨x87, rfl⟩, rfl⟩ := R87
 refine dY (l' := (bigE ps3 :: rS9 38 3 m3.sv m3.ss sgC :: rS9 63 3 m3.iv m3.xs ixC :: rS9 94 4 m3.mv m3.ms mmC :: rI9 3 W2.1 W2.2 :: rI9 3 U3.1 U3.2 :: boxE b3 #[m3.sv, m3.av, m3.iv, m3.mv] 35 :: boxE b2 #[.slice none 0 0, .slice none 0 0, .slice none 0 0, .slice none 0 0] 35 :: boxE b1 #[v] 26 :: curE g a len cap :: l)) C ?_
 refine bT (fun h88 => ?_) (fun h88 => ?_)
 refine bQ (aK C (cA (aI C (bM 0 C C C) (aI C (aC C C C (aA 6 C C)) (aI C (dL C C C (aJ 1 C)) (aP 1 C (aF ?_)))))))
 refine cG 1 C ?_
 refine eK (R := (fun u_ p_ => (∃ x_ : Int, u_ = jI x_ ∧ 0 ≤ x_ ∧ x_ < 2) ∧ p_ = curE g a len cap)) 9 C C C C C (fun l' w hm => eH g a len cap z 2 _ _ _ hm hb (by constructor <;> omega)) ?_
 intro v89 p90 R91
 obtain ⟨⟨x91, rfl, x910, x911⟩, rfl⟩ := R91
 refine dY (l' := (bigE ps3 :: rS9 38 3 m3.sv m3.ss sgC :: rS9 63 3 m3.iv m3.xs ixC :: rS9 94 4 m3.mv m3.ms mmC :: rI9 3 W2.1 W2.2 :: rI9 3 U3.1 U3.2 :: boxE b3 #[m3.sv, m3.av, m3.iv, m3.mv] 35 :: boxE b2 #[.slice none 0 0, .slice none 0 0, .slice none 0 0, .slice none 0 0] 35 :: boxE b1 #[v] 26 :: curE g a len cap :: l)) C ?_
 refine aI C (dO C C C) (aP 1 C (cA (aI C (bM 0 C C C) (aI C (aC C C C (aA 6 C C)) (aI C (cU (cs := #[jI 2, jI 2, jI 0]) C C C) (aH 1 C (aI C (cU (cs := #[jI 2, jI (1 + x91), jI 0]) C C C) (aI C (cU (cs := #[jI 2, jI 1, jI 0]) C C C) (aH 1 C ?_)))))))))
 refine aI C (cU (cs := #[jI 2, jI (1 + x91), jI 0]) C C C) (eA C (bB (z := .agg #[jI 0, jI 0, jI 0]) (s := 3) (cs := (mI [2, 2, 0, 2, 1 + x91, 0, 2, 1, 0, 2, 1 + x91, 0])) C Try.underlying30 C (by decide) C (by kernel_rfl) C) ?_)
 intro g92
 refine cW (i := 2) (z := .agg #[jI 0, jI 0, jI 0]) (bytes := 24) (n' := (m3.ss ++ [Sg.mk 2 2 0, Sg.mk 2 (1 + x91) 0, Sg.mk 2 1 0, Sg.mk 2 (1 + x91) 0]).length) (xs' := ((m3.ss ++ [Sg.mk 2 2 0, Sg.mk 2 (1 + x91) 0, Sg.mk 2 1 0, Sg.mk 2 (1 + x91) 0]).flatMap sgC)) C C C C Try.underlying30 (by kernel_rfl) C C C C (aJ 0 C) (by simp [Value.oneCell']) (by omega) (cM m3.ss ([Sg.mk 2 2 0, Sg.mk 2 (1 + x91) 0, Sg.mk 2 1 0, Sg.mk 2 (1 + x91) 0] : List Sg)) (uF sgC m3.ss [Sg.mk 2 2 0, Sg.mk 2 (1 + x91) 0, Sg.mk 2 1 0, Sg.mk 2 (1 + x91) 0]) (fun _ => C) ?_
 intro v93
 refine aI C (bM 0 C C C) (cS (i := 2) C (fun ho94 => ?_))
 refine eZ (i := 7) (cs' := #[v93, m3.av, m3.iv, m3.mv]) C C C C C C ho94 C C C C (bK (aR (aF (aO (aI C (bM 3 C C C) (aI C (aC C C C (aA 7 C C)) (aH 2 C (aI C (dO C C C) (aH 1 C (aI C (dO C C C) (aH 1 C (aI C (dO C C C) (aI C (cU (cs := #[jI (m3.ss.length : Int), jI ((m3.ss.length : Int) + 1), jI ((m3.ss.length : Int) + 2), jI ((m3.ss.length : Int) + 3)]) C C C) ?_)))))))))))))
 refine eA C (bB (z := .agg #[jI 0, jI 0, jI 0, jI 0]) (s := 4) (cs := (mI [(m3.ss.length : Int), (m3.ss.length : Int) + 1, (m3.ss.length : Int) + 2, (m3.ss.length : Int) + 3])) C Try.underlying33 C (by decide) C (by kernel_rfl) C) ?_
 intro g95
 refine cW (i := 5) (z := .agg #[jI 0, jI 0, jI 0, jI 0]) (bytes := 32) C C C C Try.underlying33 (by kernel_rfl) C C C C (aJ 0 C) (cQ _) (by first | omega | (simp only [List.length_append, List.length_cons, List.length_nil]; omega)) (cM m3.ms [(Mm.mk (m3.ss.length : Int) ((m3.ss.length : Int) + 1) ((m3.ss.length : Int) + 2) ((m3.ss.length : Int) + 3))]) (dM mmC m3.ms (Mm.mk (m3.ss.length : Int) ((m3.ss.length : Int) + 1) ((m3.ss.length : Int) + 2) ((m3.ss.length : Int) + 3)) _ C) (fun _ => C) ?_
 intro v96
 refine aI C (bM 3 C C C) (cS (i := 5) C (fun ho97 => ?_))
 refine eZ (i := 8) (cs' := #[v93, m3.av, m3.iv, v96]) C C C C C C ho97 C C C C (bQ (aF (cG 2 C (aI C (dO C C C) ?_))))
 refine eA C (bB (z := jI 0) (s := 1) (cs := (mI [(m3.ss.length : Int) + 3])) C Try.underlying48 C (by decide) C (by kernel_rfl) C) ?_
 intro g98
 refine cW (i := 8) (z := jI 0) (bytes := 8) C C C C Try.underlying48 (by kernel_rfl) C C C C (aJ 0 C) (cQ _) (by first | omega | (simp; done) | (simp; omega)) (cM U3.2 ([(m3.ss.length : Int) + 3])) (dP U3.2 ([(m3.ss.length : Int) + 3])) (fun _ => C) ?_
 intro v99
 refine aP 1 C (bA 1 C (bD ?_))
 refine jC (α := Nat) (β := Md) (γ := List HP) [0, 1, 3, 4, 5, 6, 7, 11, 19, 20, 33, 55, 89, 181] C (fun j4 m4 ps4 => (bigE ps4 :: rS9 38 3 m4.sv m4.ss sgC :: rS9 63 3 m4.iv m4.xs ixC :: rS9 94 4 m4.mv m4.ms mmC :: rI9 3 W2.1 W2.2 :: rowE 3 1 v99 ((U3.2 ++ ([(m3.ss.length : Int) + 3])).length) (mI (U3.2 ++ ([(m3.ss.length : Int) + 3]))) :: boxE b3 #[m4.sv, m4.av, m4.iv, m4.mv] 35 :: boxE b2 #[.slice none 0 0, .slice none 0 0, .slice none 0 0, .slice none 0 0] 35 :: boxE b1 #[v] 26 :: curE g a len cap :: l)) (fun j4 m4 ps4 => [(21, jI (j4 : Int))]) (fun j4 m4 ps4 => j4 ≤ 3 ∧ MI D m4 (U3.2 ++ ([(m3.ss.length : Int) + 3])) (W2.2 ++ ([(m3.ss.length : Int), (m3.ss.length : Int) + 1, (m3.ss.length : Int) + 2] : List Int).drop j4) 16 (8 + j4) 2 1 2 13 ∧ ∀ w, (bigE ps4).holds w → RdP w m4) (fun j4 m4 ps4 => 3 - j4) 0 (Md.mk v93 m3.av m3.iv v96 (m3.ss ++ [Sg.mk 2 2 0, Sg.mk 2 (1 + x91) 0, Sg.mk 2 1 0, Sg.mk 2 (1 + x91) 0]) m3.gs m3.xs (m3.ms ++ [(Mm.mk (m3.ss.length : Int) ((m3.ss.length : Int) + 1) ((m3.ss.length : Int) + 2) ((m3.ss.length : Int) + 3))])) ps3 ⟨by omega, (h3.mm4 _ _ ⟨by omega, by omega⟩).up (by omega) (by omega) (by omega) (by omega) (by omega) (by omega), fun w hw => hp3 w hw⟩ (cN C) (fO 3 C) ?_
 intro j4 m4 ps4 hi100
 obtain ⟨hj4, h4, hp4⟩ := hi100
 refine aF (aF (cG 1 C ?_))
 refine bN C C C C C C (fun h101 => ?_) (fun h101 => ?_)
 refine bQ (aK C (cE (fD (aO ?_))))
 have hpd9 := pend3 h3.plt (show j4 < 3 by omega)
 refine kJ (p := (∀ g9 ∈ m4.gs, g9.ov.oneCell' = true) ∧ m4.sv.oneCell' = true ∧ m4.av.oneCell' = true ∧ m4.iv.oneCell' = true ∧ m4.mv.oneCell' = true) (fun w hm => ⟨fun g9 hg9 => ((hp4 w (hm.holds _ (cF (i := 0) C))).2.1 g9 hg9).one, (aJ 1 C w hm).one, (hp4 w (hm.holds _ (cF (i := 0) C))).1.one, (aJ 2 C w hm).one, (aJ 3 C w hm).one⟩) (fun ⟨hone9, ho9⟩ => ?_)
 refine aH 1 C (aI C (aW (cs := [m4.sv, m4.av, m4.iv, m4.mv]) C C C C C (aT 6 C 0 C)) (aH 2 C (aI C (dO C C C) (aH 1 C ?_))))
 refine gA (R := (fun u_ p_ => ∃ (v' ov : Value) (os : List Oq) (ps : List HP), u_ = .agg #[m4.sv, v', m4.iv, m4.mv] ∧ p_ = bigE [curE g a len cap, bigE ps] ∧ (∀ w, (bigE ps).holds w → RdsW w v' 2 (m4.gs ++ [As.mk ((m3.ss.length : Int) + (j4 : Int)) ov os]).length ((m4.gs ++ [As.mk ((m3.ss.length : Int) + (j4 : Int)) ov os]).flatMap asC) ∧ RdsW w ov 3 os.length (os.flatMap oqC)) ∧ v'.oneCell' = true ∧ ov.oneCell' = true ∧ ExP (m4.ss.length : Int) 9 os)) 9 C C C C C (fun L w hX hm => iM g a len cap z (m4.ss.length : Int) (Md.mk m4.sv m4.av m4.iv m4.mv m4.ss m4.gs m4.xs m4.ms) ((m3.ss.length : Int) + (j4 : Int)) v99 _ _ _ _ hm hb (fun w9 h9 => mQ (hX w9 h9) 5 C) (fun x hx => h4.av x hx) (by have h9 := h4.na; omega) (fun w9 h9 => (hp4 w9 ((hX w9 h9).holds _ (cF (i := 0) C))).1) (by have h9 := h4.ng; show m4.gs.length ≤ 1000; omega) hone9 ⟨ho9.1, ho9.2.1, ho9.2.2.1, ho9.2.2.2⟩) ?_
 intro v102 p103 R104
 obtain ⟨av104, ov104, os104, ap104, rfl, rfl, hap104, oav104, oov104, hos104⟩ := R104
 refine dY (l' := (bigE ps4 :: rS9 38 3 m4.sv m4.ss sgC :: rS9 63 3 m4.iv m4.xs ixC :: rS9 94 4 m4.mv m4.ms mmC :: rI9 3 W2.1 W2.2 :: rowE 3 1 v99 ((U3.2 ++ ([(m3.ss.length : Int) + 3])).length) (mI (U3.2 ++ ([(m3.ss.length : Int) + 3]))) :: boxE b3 #[m4.sv, m4.av, m4.iv, m4.mv] 35 :: boxE b2 #[.slice none 0 0, .slice none 0 0, .slice none 0 0, .slice none 0 0] 35 :: boxE b1 #[v] 26 :: bigE [curE g a len cap, bigE ap104] :: l)) C ?_
 refine bE (cs' := #[m4.sv, av104, m4.iv, m4.mv]) (i := 6) (off := 0) (us := [m4.sv, av104, m4.iv, m4.mv]) C C C C C C C (aB ho9.1 (aB oav104 (aB ho9.2.2.1 (aB ho9.2.2.2 bC)))) C C C (bK (cK (cG 1 C (aI C (dO C C C) (dA 1 C ?_)))))
 refine cD 10 [8, 7, 6, 5, 4, 3, 2, 1, 0, 9] C C (by decide) ?_
 refine dI (curE g a len cap :: bigE ap104 :: bigE ps4 :: rS9 38 3 m4.sv m4.ss sgC :: rS9 63 3 m4.iv m4.xs ixC :: rS9 94 4 m4.mv m4.ms mmC :: rI9 3 W2.1 W2.2 :: rowE 3 1 v99 ((U3.2 ++ ([(m3.ss.length : Int) + 3])).length) (mI (U3.2 ++ ([(m3.ss.length : Int) + 3]))) :: boxE b3 #[m4.sv, av104, m4.iv, m4.mv] 35 :: boxE b2 #[.slice none 0 0, .slice none 0 0, .slice none 0 0, .slice none 0 0] 35 :: boxE b1 #[v] 26 :: l) eQ ?_
 refine cD 11 [10, 9, 8, 7, 6, 5, 4, 3, 0, 1, 2] C C (by decide) ?_
 refine dE 2 C ?_
 refine cD 10 [1, 9, 8, 7, 6, 5, 4, 3, 2, 0] C C (by decide) ?_
 exact cO (j4 + 1) (Md.mk m4.sv av104 m4.iv m4.mv m4.ss (m4.gs ++ [As.mk ((m3.ss.length : Int) + (j4 : Int)) ov104 os104]) m4.xs m4.ms) [bigE ps4, bigE ap104] ⟨by omega, (h4.asg _ hpd9.1 _ hos104 (by show (m4.ss.length : Int) ≤ (m4.ss.length : Int); omega) hpd9.2).up (by omega) (by omega) (by omega) (by omega) (by omega) (by omega), fun w hw => ⟨(hap104 w (bO hw (eI dX))).1, (hp4 w (bO hw dX)).2.1.app (hap104 w (bO hw (eI dX))).2, (hp4 w (bO hw dX)).2.2⟩⟩ (by omega) (cN C) (.refl _)
 refine bQ (aS C ?_)
 refine bI (dC ?_)
 exact aM (tZ m4 (v99, U3.2 ++ ([(m3.ss.length : Int) + 3])) ps4 ⟨by have h9 := h4; rw [show j4 = 3 by omega] at h9; exact (by simpa using h9.up (show 16 ≤ 16 by omega) (show 8 + 3 ≤ 11 by omega) (show 2 ≤ 2 by omega) (show 1 ≤ 1 by omega) (show 2 ≤ 2 by omega) (show 13 ≤ 13 by omega)), hp4⟩ (cN rfl) (.refl _))
 refine bQ (gM C ?_)
 exact tZ m3 (U3.1, U3.2) ps3 ⟨h3.up (by omega) (by omega) (by omega) (by omega) (by omega) (by omega), hp3⟩ (cN C) (.refl _)
 intro m5 U5 ps5 hm105
 obtain ⟨h5, hp5⟩ := hm105
 have hns5 := h5.ns
 have hna5 := h5.na
 refine aF (cG 1 C ?_)
 refine eK (R := (fun u_ p_ => (∃ x_ : Int, u_ = jI x_ ∧ 0 ≤ x_ ∧ x_ < 2) ∧ p_ = curE g a len cap)) 9 C C C C C (fun l' w hm => eH g a len cap z 2 _ _ _ hm hb (by constructor <;> omega)) ?_
 intro v106 p107 R108
 obtain ⟨⟨x108, rfl, x1080, x1081⟩, rfl⟩ := R108
 refine dY (l' := (bigE ps5 :: rS9 38 3 m5.sv m5.ss sgC :: rS9 63 3 m5.iv m5.xs ixC :: rS9 94 4 m5.mv m5.ms mmC :: rI9 3 W2.1 W2.2 :: rI9 3 U5.1 U5.2 :: boxE b3 #[m5.sv, m5.av, m5.iv, m5.mv] 35 :: boxE b2 #[.slice none 0 0, .slice none 0 0, .slice none 0 0, .slice none 0 0] 35 :: boxE b1 #[v] 26 :: curE g a len cap :: l)) C ?_
 refine aI C (dO C C C) (aP 1 C (aF (bA 1 C (bD ?_))))
 refine lZ (α := Nat) (β := Md) (γ := Value × List Int) (δ := List HP) [0, 1, 3, 4, 5, 7, 8, 33, 55, 89] C (fun k6 m6 U6 ps6 => (bigE ps6 :: rS9 38 3 m6.sv m6.ss sgC :: rS9 63 3 m6.iv m6.xs ixC :: rS9 94 4 m6.mv m6.ms mmC :: rI9 3 W2.1 W2.2 :: rI9 3 U6.1 U6.2 :: boxE b3 #[m6.sv, m6.av, m6.iv, m6.mv] 35 :: boxE b2 #[.slice none 0 0, .slice none 0 0, .slice none 0 0, .slice none 0 0] 35 :: boxE b1 #[v] 26 :: curE g a len cap :: l)) (fun k6 m6 U6 ps6 => [(6, U6.1), (22, jI (k6 : Int))]) (fun k6 m6 U6 ps6 => (k6 : Int) ≤ 1 + x108 ∧ MI D m6 U6.2 W2.2 (16 + k6) (11 + k6) 2 1 (2 + k6) (13 + k6) ∧ ∀ w, (bigE ps6).holds w → RdP w m6) (fun k6 m6 U6 ps6 => (1 + x108).toNat - k6) 0 m5 U5 ps5 ⟨by omega, h5.up (by omega) (by omega) (by omega) (by omega) (by omega) (by omega), hp5⟩ (cN C) (.refl _) ?_
 intro k6 m6 U6 ps6 hi109
 obtain ⟨hk6, h6, hp6⟩ := hi109
 have hns6 := h6.ns
 have hna6 := h6.na
 refine aF (aF (cG 2 C ?_))
 refine bN C C C C C C (fun h110 => ?_) (fun h110 => ?_)
 refine bQ (aK C (cE (fD (cA (aI C (bM 0 C C C) (aI C (aC C C C (aA 6 C C)) (aI C (dL C C C (aJ 1 C)) (aH 1 C ?_))))))))
 refine bQ (aF ?_)
 refine hC 10 [8, 7, 6, 5, 4, 3, 2, 1, 0, 9] C C (by decide) ?_
 refine jE (l := (bigE ps6 :: rS9 38 3 m6.sv m6.ss sgC :: rS9 63 3 m6.iv m6.xs ixC :: rS9 94 4 m6.mv m6.ms mmC :: rI9 3 W2.1 W2.2 :: rI9 3 U6.1 U6.2 :: boxE b3 #[m6.sv, m6.av, m6.iv, m6.mv] 35 :: boxE b2 #[.slice none 0 0, .slice none 0 0, .slice none 0 0, .slice none 0 0] 35 :: boxE b1 #[v] 26 :: l)) C 10 [0, 1, 2, 3, 4, 5, 6, 7, 8, 9] (List.take 10 _) (List.drop 10 _) [[], [0], [], [], [2, 3], [], [], [4, 5, 6], [4, 7], [4, 7, 8]] [239, 240, 241, 242, 243, 244, 245, 246, 247, 248] (fun i_ vs_ v_ p_ => match i_ with | 0 => v_ = .pointer (some ⟨b3, 0 + 0, none⟩) ∧ p_ = [] | 1 => v_ = m6.sv ∧ p_ = [] | 2 => v_ = pI g ∧ p_ = [] | 3 => IsRow 3 1 2 (mI [1, 2]) v_ p_ | 4 => (∃ pm_, p_ = [pm_] ∧ (fun u_ p_ => (∃ x : Int, u_ = jI x ∧ x ∈ ([1, 2] : List Int)) ∧ p_ = curE g a len cap) v_ pm_) | 5 => v_ = pI g ∧ p_ = [] | 6 => IsRow 3 1 3 (mI [1, 2, 0]) v_ p_ | 7 => (∃ pm_, p_ = [pm_] ∧ (fun u_ p_ => (∃ x : Int, u_ = jI x ∧ x ∈ ([1, 2, 0] : List Int)) ∧ p_ = curE g a len cap) v_ pm_) | 8 => v_ = .agg #[jI (intOf_o (gV9 vs_ 0)), jI (intOf_o (gV9 vs_ 1)), jI 0] ∧ p_ = [] | 9 => IsRow 38 3 1 (mI [(intOf_o (gV9 vs_ 0)), (intOf_o (gV9 vs_ 1)), 0]) v_ p_ | _ => True) [[], [0], [], [], [2, 3], [], [], [5, 6], [7], [7, 8]] [none, none, none, none, some 13, none, none, some 4, none, none] [curE g a len cap] [0, 1, 2, 3, 5, 6, 7, 8, 9] 13 (List.take_append_drop 10 _).symm (by kernel_rfl) (by kernel_rfl) (by kernel_rfl) C C ?_ ?_
 refine ⟨?_, ?_, ?_, ?_, ?_, ?_, ?_, ?_, ?_, ?_, trivial⟩
 intro vf pf hmu hR
 refine jK [] [] C (cC (aU [5] C) ?_)
 exact bH (bM 0 C C C)
 intro vf pf hmu hR
 have e0 := hR 0 (by decide)
 refine jK [0] [0] C (bP (sk 239 (congrArg some e0.1) (aL _)) (List.sublist_append_right _ _) ?_)
 exact bH (aC C C C (aA 6 C C))
 intro vf pf hmu hR
 refine jK [] [] C (cC (aU [0] C) ?_)
 exact bH (aY C)
 intro vf pf hmu hR
 refine jK [] [] C (bP (aL _) (List.sublist_append_right _ _) ?_)
 exact bB (z := jI 0) (s := 1) (cs := (mI [1, 2])) C Try.underlying48 C (by decide) C (by kernel_rfl) C
 intro vf pf hmu hR
 have e2 := hR 2 (by decide)
 have e3 : IsRow 3 1 2 (mI [1, 2]) (vf 3) (pf 3) := hR 3 (by decide)
 obtain ⟨g111, vE3, pE3⟩ := e3
 refine Or.inl ⟨C, ?_⟩
 show RunM _ _ _ (pf 13) (([2, 3] : List Nat).flatMap pf ++ _) (envOf _ vf [2, 3] ++ _) _ _
 rw [hmu]
 exact eE (sk 241 (congrArg some e2.1) (sk 242 (congrArg some vE3) (aL _))) (by simp only [pE3, vE3, e2.2, fS] <;> rfl) (gH (R := (fun u_ p_ => (∃ x : Int, u_ = jI x ∧ x ∈ ([1, 2] : List Int)) ∧ p_ = curE g a len cap)) C C (fun L w hX hm => gS g a len cap z (.slice (some ⟨g111, 0, none⟩) 2 2) [1, 2] _ _ _ hm hb (fun w hm => mQ (hX w hm) 0 C) (by decide)))
 intro vf pf hmu hR
 refine jK [] [] C (cC (aU [0] C) ?_)
 exact bH (aY C)
 intro vf pf hmu hR
 refine jK [] [] C (bP (aL _) (List.sublist_append_right _ _) ?_)
 exact bB (z := jI 0) (s := 1) (cs := (mI [1, 2, 0])) C Try.underlying48 C (by decide) C (by kernel_rfl) C
 intro vf pf hmu hR
 have e4 : (∃ pm_, (pf 4) = [pm_] ∧ (fun u_ p_ => (∃ x : Int, u_ = jI x ∧ x ∈ ([1, 2] : List Int)) ∧ p_ = curE g a len cap) (vf 4) pm_) := hR 4 (by decide)
 obtain ⟨p113, pE4, R114⟩ := e4
 obtain ⟨v112, vE4⟩ : ∃ x, vf 4 = x := ⟨_, rfl⟩
 rw [vE4] at R114
 obtain ⟨⟨x114, rfl, x114m⟩, rfl⟩ := R114
 have e5 := hR 5 (by decide)
 have e6 : IsRow 3 1 3 (mI [1, 2, 0]) (vf 6) (pf 6) := hR 6 (by decide)
 obtain ⟨g115, vE6, pE6⟩ := e6
 refine Or.inl ⟨C, ?_⟩
 show RunM _ _ _ (pf 4) (([5, 6] : List Nat).flatMap pf ++ _) (envOf _ vf [4, 5, 6] ++ _) _ _
 rw [pE4]
 exact eE (sk 244 (congrArg some e5.1) (sk 245 (congrArg some vE6) (aL _))) (by simp only [pE6, vE6, e5.2, fS] <;> rfl) (gH (R := (fun u_ p_ => (∃ x : Int, u_ = jI x ∧ x ∈ ([1, 2, 0] : List Int)) ∧ p_ = curE g a len cap)) C C (fun L w hX hm => gS g a len cap z (.slice (some ⟨g115, 0, none⟩) 3 3) [1, 2, 0] _ _ _ hm hb (fun w hm => mQ (hX w hm) 0 C) (by decide)))
 intro vf pf hmu hR
 have e4 : (∃ pm_, (pf 4) = [pm_] ∧ (fun u_ p_ => (∃ x : Int, u_ = jI x ∧ x ∈ ([1, 2] : List Int)) ∧ p_ = curE g a len cap) (vf 4) pm_) := hR 4 (by decide)
 obtain ⟨p113, pE4, R114⟩ := e4
 obtain ⟨v112, vE4⟩ : ∃ x, vf 4 = x := ⟨_, rfl⟩
 rw [vE4] at R114
 obtain ⟨⟨x114, rfl, x114m⟩, rfl⟩ := R114
 have e7 : (∃ pm_, (pf 7) = [pm_] ∧ (fun u_ p_ => (∃ x : Int, u_ = jI x ∧ x ∈ ([1, 2, 0] : List Int)) ∧ p_ = curE g a len cap) (vf 7) pm_) := hR 7 (by decide)
 obtain ⟨p117, pE7, R118⟩ := e7
 obtain ⟨v116, vE7⟩ : ∃ x, vf 7 = x := ⟨_, rfl⟩
 rw [vE7] at R118
 obtain ⟨⟨x118, rfl, x118m⟩, rfl⟩ := R118
 have x118w := pM x118m (by decide)
 refine jK [7] [4, 7] C (dJ (sk 243 (congrArg some vE4) (sk 246 (congrArg some vE7) (aL _))) (by simp only [pE7, vE7, fS] <;> rfl) ?_)
 exact eB (bH (cU (cs := #[jI x114, jI x118, jI 0]) C C C)) (fun _ _ h => ⟨h.1.trans (by show _ = (.agg #[jI (intOf_o (vf 4)), jI (intOf_o (vf 7)), jI 0] : Value); first | (rw [vE4, vE7]; done) | (rw [vE4, vE7]; rfl)), h.2⟩)
 intro vf pf hmu hR
 have e4 : (∃ pm_, (pf 4) = [pm_] ∧ (fun u_ p_ => (∃ x : Int, u_ = jI x ∧ x ∈ ([1, 2] : List Int)) ∧ p_ = curE g a len cap) (vf 4) pm_) := hR 4 (by decide)
 obtain ⟨p113, pE4, R114⟩ := e4
 obtain ⟨v112, vE4⟩ : ∃ x, vf 4 = x := ⟨_, rfl⟩
 rw [vE4] at R114
 obtain ⟨⟨x114, rfl, x114m⟩, rfl⟩ := R114
 have e7 : (∃ pm_, (pf 7) = [pm_] ∧ (fun u_ p_ => (∃ x : Int, u_ = jI x ∧ x ∈ ([1, 2, 0] : List Int)) ∧ p_ = curE g a len cap) (vf 7) pm_) := hR 7 (by decide)
 obtain ⟨p117, pE7, R118⟩ := e7
 obtain ⟨v116, vE7⟩ : ∃ x, vf 7 = x := ⟨_, rfl⟩
 rw [vE7] at R118
 obtain ⟨⟨x118, rfl, x118m⟩, rfl⟩ := R118
 have x118w := pM x118m (by decide)
 have e8 : (vf 8) = .agg #[jI (intOf_o (vf 4)), jI (intOf_o (vf 7)), jI 0] ∧ (pf 8) = [] := hR 8 (by decide)
 rw [vE4, vE7] at e8
 refine jK [7, 8] [4, 7, 8] C (dJ (sk 247 (congrArg some e8.1) (aL _)) (by simp only [pE7, vE7, e8.2, fS] <;> rfl) ?_)
 exact eB (bB (z := .agg #[jI 0, jI 0, jI 0]) (s := 3) (cs := (mI [x114, x118, 0])) C Try.underlying30 C (by decide) C (by kernel_rfl) C) (fun v_ p_ h => by show IsRow 38 3 1 (mI [(intOf_o (vf 4)), (intOf_o (vf 7)), 0]) v_ p_; rw [vE4, vE7]; exact h)
 intro vf pf hmu hR
 have e1 := hR 1 (by decide)
 have e3 : IsRow 3 1 2 (mI [1, 2]) (vf 3) (pf 3) := hR 3 (by decide)
 obtain ⟨g111, vE3, pE3⟩ := e3
 have e4 : (∃ pm_, (pf 4) = [pm_] ∧ (fun u_ p_ => (∃ x : Int, u_ = jI x ∧ x ∈ ([1, 2] : List Int)) ∧ p_ = curE g a len cap) (vf 4) pm_) := hR 4 (by decide)
 obtain ⟨p113, pE4, R114⟩ := e4
 obtain ⟨v112, vE4⟩ : ∃ x, vf 4 = x := ⟨_, rfl⟩
 rw [vE4] at R114
 obtain ⟨⟨x114, rfl, x114m⟩, rfl⟩ := R114
 have e6 : IsRow 3 1 3 (mI [1, 2, 0]) (vf 6) (pf 6) := hR 6 (by decide)
 obtain ⟨g115, vE6, pE6⟩ := e6
 have e7 : (∃ pm_, (pf 7) = [pm_] ∧ (fun u_ p_ => (∃ x : Int, u_ = jI x ∧ x ∈ ([1, 2, 0] : List Int)) ∧ p_ = curE g a len cap) (vf 7) pm_) := hR 7 (by decide)
 obtain ⟨p117, pE7, R118⟩ := e7
 obtain ⟨v116, vE7⟩ : ∃ x, vf 7 = x := ⟨_, rfl⟩
 rw [vE7] at R118
 obtain ⟨⟨x118, rfl, x118m⟩, rfl⟩ := R118
 have x118w := pM x118m (by decide)
 have e9 : IsRow 38 3 1 (mI [(intOf_o (vf 4)), (intOf_o (vf 7)), 0]) (vf 9) (pf 9) := hR 9 (by decide)
 rw [vE4, vE7] at e9
 obtain ⟨g119, vE9, pE9⟩ := e9
 have q0 := hR 0 (by decide)
 have q1 := hR 1 (by decide)
 have q2 := hR 2 (by decide)
 have q5 := hR 5 (by decide)
 have q8 := hR 8 (by decide)
 refine dV (dB [233, 89, 55, 33, 23, 22, 8, 7, 6, 5, 4, 3, 1, 0] _ (sk 240 (congrArg some e1.1) (sk 248 (congrArg some vE9) (aL _))) C) (by simp only [pE3, vE3, pE6, vE6, pE7, vE7, pE9, vE9, q0.2, q1.2, q2.2, q5.2, q8.2, fS] <;> rfl) ?_
 simp only [List.drop_succ_cons, List.drop_zero]
 refine cW (i := 5) (z := .agg #[jI 0, jI 0, jI 0]) (bytes := 24) C C C C Try.underlying30 (by kernel_rfl) C C C C (aJ 3 C) (cQ _) (by first | omega | (simp only [List.length_append, List.length_cons, List.length_nil]; omega)) (cM m6.ss [(Sg.mk x114 x118 0)]) (dM sgC m6.ss (Sg.mk x114 x118 0) _ C) (fun _ => C) ?_
 intro v120
 refine aI C (bM 0 C C C) (cS (i := 5) C (fun ho121 => ?_))
 refine eZ (i := 10) (cs' := #[v120, m6.av, m6.iv, m6.mv]) C C C C C C ho121 C C C C (bQ ?_)
 refine fJ (α := Int) (fun kx => (rowE 3 1 (.slice (some ⟨g111, 0, none⟩) 2 2) 2 (mI [1, 2]) :: rowE 3 1 (.slice (some ⟨g115, 0, none⟩) 3 3) 3 (mI [1, 2, 0]) :: curE g a len cap :: rowE 38 3 (.slice (some ⟨g119, 0, none⟩) 1 1) 1 (mI [x114, x118, 0]) :: bigE ps6 :: rowE 38 3 v120 ((m6.ss ++ [Sg.mk kx x118 0]).length) ((m6.ss ++ [Sg.mk kx x118 0]).flatMap sgC) :: rS9 63 3 m6.iv m6.xs ixC :: rS9 94 4 m6.mv m6.ms mmC :: rI9 3 W2.1 W2.2 :: rI9 3 U6.1 U6.2 :: boxE b3 #[v120, m6.av, m6.iv, m6.mv] 35 :: boxE b2 #[.slice none 0 0, .slice none 0 0, .slice none 0 0, .slice none 0 0] 35 :: boxE b1 #[v] 26 :: l)) (fun kx => [(0, pI g), (1, .agg #[v]), (3, pI b1), (4, pI b2), (5, pI b3), (6, U6.1), (7, W2.1), (8, jI (1 + x108)), (22, jI (k6 : Int)), (23, jI (m6.ss.length : Int)), (33, .bool false), (55, .bool false), (89, .bool bt), (233, .bool true)]) (fun kx => kx = 1 ∨ kx = 2) ?_ ?_
 refine aF (cG 1 C ?_)
 refine bU C C C C C C (fun h122 => ?_) (fun h122 => ?_)
 refine bQ (aK C (aO ?_))
 have hln9 : (m6.ss ++ [(Sg.mk x114 x118 0)]).length = m6.ss.length + 1 := by rw [List.length_append]; rfl
 refine aI C (bM 0 C C C) (aI C (aC C C C (aA 10 C C)) (aH 1 C (aI C (cR 3 C C C C (aJ 5 C)) (aI C (aZ (k0 := 0) C C C (aJ 5 C) (by omega)) ?_))))
 refine fY (i := 5) (n' := ((m6.ss ++ [(Sg.mk x114 x118 0)]).set ((m6.ss.length : Int).toNat) { (m6.ss ++ [(Sg.mk x114 x118 0)]).getD ((m6.ss.length : Int).toNat) sg0 with k := 1 }).length) (xs' := (((m6.ss ++ [(Sg.mk x114 x118 0)]).set ((m6.ss.length : Int).toNat) { (m6.ss ++ [(Sg.mk x114 x118 0)]).getD ((m6.ss.length : Int).toNat) sg0 with k := 1 }).flatMap sgC)) C C C C C C C C (by first | omega | (simp only [List.length_set]; omega)) List.length_set.symm (uD sgC 3 (fun _ => C) _ sg0 _ (by first | omega | (simp only [List.length_set]; omega)) (by decide) C) C (bK ?_)
 refine dI (rowE 3 1 (.slice (some ⟨g111, 0, none⟩) 2 2) 2 (mI [1, 2]) :: rowE 3 1 (.slice (some ⟨g115, 0, none⟩) 3 3) 3 (mI [1, 2, 0]) :: curE g a len cap :: rowE 38 3 (.slice (some ⟨g119, 0, none⟩) 1 1) 1 (mI [x114, x118, 0]) :: bigE ps6 :: rowE 38 3 v120 ((m6.ss ++ [Sg.mk 1 x118 0]).length) ((m6.ss ++ [Sg.mk 1 x118 0]).flatMap sgC) :: rS9 63 3 m6.iv m6.xs ixC :: rS9 94 4 m6.mv m6.ms mmC :: rI9 3 W2.1 W2.2 :: rI9 3 U6.1 U6.2 :: boxE b3 #[v120, m6.av, m6.iv, m6.mv] 35 :: boxE b2 #[.slice none 0 0, .slice none 0 0, .slice none 0 0, .slice none 0 0] 35 :: boxE b1 #[v] 26 :: l) (fun w hm => by rw [show m6.ss ++ [Sg.mk 1 x118 0] = (m6.ss ++ [(Sg.mk x114 x118 0)]).set ((m6.ss.length : Int).toNat) { (m6.ss ++ [(Sg.mk x114 x118 0)]).getD ((m6.ss.length : Int).toNat) sg0 with k := 1 } from (xD (by omega)).symm]; exact hm) ?_
 exact cP 1 (.inl C) (cN C) (.refl _)
 refine bQ (gM C ?_)
 exact cP x114 (lit12 x114m) (cN C) (.refl _)
 intro kx hm123
 have hkx9 := hm123
 refine cA ?_
 refine kJ (p := (∀ g9 ∈ m6.gs, g9.ov.oneCell' = true) ∧ v120.oneCell' = true ∧ m6.av.oneCell' = true ∧ m6.iv.oneCell' = true ∧ m6.mv.oneCell' = true) (fun w hm => ⟨fun g9 hg9 => ((hp6 w (hm.holds _ (cF (i := 4) C))).2.1 g9 hg9).one, (aJ 5 C w hm).one, (hp6 w (hm.holds _ (cF (i := 4) C))).1.one, (aJ 6 C w hm).one, (aJ 7 C w hm).one⟩) (fun ⟨hone9, ho9⟩ => ?_)
 refine aH 1 C (aI C (aW (cs := [v120, m6.av, m6.iv, m6.mv]) C C C C C (aT 10 C 0 C)) (aH 2 C ?_))
 refine gA (R := (fun u_ p_ => ∃ (v' ov : Value) (os : List Oq) (ps : List HP), u_ = .agg #[v120, v', m6.iv, m6.mv] ∧ p_ = bigE [curE g a len cap, bigE ps] ∧ (∀ w, (bigE ps).holds w → RdsW w v' 2 (m6.gs ++ [As.mk (m6.ss.length : Int) ov os]).length ((m6.gs ++ [As.mk (m6.ss.length : Int) ov os]).flatMap asC) ∧ RdsW w ov 3 os.length (os.flatMap oqC)) ∧ v'.oneCell' = true ∧ ov.oneCell' = true ∧ ExP (m6.ss.length : Int) 9 os)) 2 C C C C C (fun L w hX hm => iM g a len cap z (m6.ss.length : Int) (Md.mk v120 m6.av m6.iv m6.mv (m6.ss ++ [Sg.mk kx x118 0]) m6.gs m6.xs m6.ms) (m6.ss.length : Int) U6.1 _ _ _ _ hm hb (fun w9 h9 => mQ (hX w9 h9) 8 C) (fun x hx => h6.av x hx) (by have h9 := h6.na; omega) (fun w9 h9 => (hp6 w9 ((hX w9 h9).holds _ (cF (i := 3) C))).1) (by have h9 := h6.ng; show m6.gs.length ≤ 1000; omega) hone9 ⟨ho9.1, ho9.2.1, ho9.2.2.1, ho9.2.2.2⟩) ?_
 intro v124 p125 R126
 obtain ⟨av126, ov126, os126, ap126, rfl, rfl, hap126, oav126, oov126, hos126⟩ := R126
 refine dY (l' := (rowE 3 1 (.slice (some ⟨g111, 0, none⟩) 2 2) 2 (mI [1, 2]) :: rowE 3 1 (.slice (some ⟨g115, 0, none⟩) 3 3) 3 (mI [1, 2, 0]) :: bigE [curE g a len cap, bigE ap126] :: rowE 38 3 (.slice (some ⟨g119, 0, none⟩) 1 1) 1 (mI [x114, x118, 0]) :: bigE ps6 :: rowE 38 3 v120 ((m6.ss ++ [Sg.mk kx x118 0]).length) ((m6.ss ++ [Sg.mk kx x118 0]).flatMap sgC) :: rS9 63 3 m6.iv m6.xs ixC :: rS9 94 4 m6.mv m6.ms mmC :: rI9 3 W2.1 W2.2 :: rI9 3 U6.1 U6.2 :: boxE b3 #[v120, m6.av, m6.iv, m6.mv] 35 :: boxE b2 #[.slice none 0 0, .slice none 0 0, .slice none 0 0, .slice none 0 0] 35 :: boxE b1 #[v] 26 :: l)) C ?_
 refine bE (cs' := #[v120, av126, m6.iv, m6.mv]) (i := 10) (off := 0) (us := [v120, av126, m6.iv, m6.mv]) C C C C C C C (aB ho121 (aB oav126 (aB ho9.2.2.1 (aB ho9.2.2.2 bC)))) C C C (bQ (cG 2 C ?_))
 refine eA C (bB (z := jI 0) (s := 1) (cs := (mI [(m6.ss.length : Int)])) C Try.underlying48 C (by decide) C (by kernel_rfl) C) ?_
 intro g127
 refine cW (i := 10) (z := jI 0) (bytes := 8) C C C C Try.underlying48 (by kernel_rfl) C C C C (aJ 0 C) (cQ _) (by first | omega | (simp; done) | (simp; omega)) (cM U6.2 ([(m6.ss.length : Int)])) (dP U6.2 ([(m6.ss.length : Int)])) (fun _ => C) ?_
 intro v128
 refine dA 1 C (cK (cG 1 C (aI C (dO C C C) (dA 1 C ?_))))
 refine cD 14 [13, 12, 11, 10, 9, 8, 7, 6, 5, 4, 2, 1, 0, 3] C C (by decide) ?_
 refine dI (curE g a len cap :: bigE ap126 :: rowE 3 1 (.slice (some ⟨g127, 0, none⟩) 1 1) 1 (mI [(m6.ss.length : Int)]) :: rowE 3 1 (.slice (some ⟨g111, 0, none⟩) 2 2) 2 (mI [1, 2]) :: rowE 3 1 (.slice (some ⟨g115, 0, none⟩) 3 3) 3 (mI [1, 2, 0]) :: rowE 38 3 (.slice (some ⟨g119, 0, none⟩) 1 1) 1 (mI [x114, x118, 0]) :: bigE ps6 :: rowE 38 3 v120 ((m6.ss ++ [Sg.mk kx x118 0]).length) ((m6.ss ++ [Sg.mk kx x118 0]).flatMap sgC) :: rS9 63 3 m6.iv m6.xs ixC :: rS9 94 4 m6.mv m6.ms mmC :: rI9 3 W2.1 W2.2 :: rowE 3 1 v128 ((U6.2 ++ ([(m6.ss.length : Int)])).length) (mI (U6.2 ++ ([(m6.ss.length : Int)]))) :: boxE b3 #[v120, av126, m6.iv, m6.mv] 35 :: boxE b2 #[.slice none 0 0, .slice none 0 0, .slice none 0 0, .slice none 0 0] 35 :: boxE b1 #[v] 26 :: l) eQ ?_
 refine cD 15 [14, 13, 12, 11, 10, 9, 8, 7, 5, 4, 3, 2, 0, 1, 6] C C (by decide) ?_
 refine dE 2 C ?_
 refine cD 14 [1, 13, 12, 11, 10, 9, 8, 7, 6, 0] C C (by decide) ?_
 exact eR (k6 + 1) (Md.mk v120 av126 m6.iv m6.mv (m6.ss ++ [Sg.mk kx x118 0]) (m6.gs ++ [As.mk (m6.ss.length : Int) ov126 os126]) m6.xs m6.ms) (v128, U6.2 ++ ([(m6.ss.length : Int)])) [bigE ps6, bigE ap126] ⟨by omega, (((h6.out _ hkx9 (by assumption) tS).asg _ (List.mem_append_right _ dX) _ hos126 (by show (m6.ss.length : Int) ≤ ((_ : List Sg).length : Int); rw [List.length_append]; omega) (tR h6.plt)).avl (rZ (m := m6) .nilFunc _) (e := 1) (by simp)).up (by omega) (by omega) (by omega) (by omega) (by omega) (by omega), fun w hw => ⟨(hap126 w (bO hw (eI dX))).1, (hp6 w (bO hw dX)).2.1.app (hap126 w (bO hw (eI dX))).2, (hp6 w (bO hw dX)).2.2⟩⟩ (by omega) (cN C) (.refl _)
 refine bQ (aS C ?_)
 refine bI (dC ?_)
 refine aM (aR (aF (bA 1 C (bD ?_))))
 refine jC (α := Nat) (β := Md) (γ := List HP) [0, 1, 3, 4, 5, 6, 7, 33, 55, 89, 233] C (fun k7 m7 ps7 => (bigE ps7 :: rS9 38 3 m7.sv m7.ss sgC :: rS9 63 3 m7.iv m7.xs ixC :: rS9 94 4 m7.mv m7.ms mmC :: rI9 3 W2.1 W2.2 :: rI9 3 U6.1 U6.2 :: boxE b3 #[m7.sv, m7.av, m7.iv, m7.mv] 35 :: boxE b2 #[.slice none 0 0, .slice none 0 0, .slice none 0 0, .slice none 0 0] 35 :: boxE b1 #[v] 26 :: curE g a len cap :: l)) (fun k7 m7 ps7 => [(24, jI (k7 : Int))]) (fun k7 m7 ps7 => k7 ≤ W2.2.length ∧ MI D m7 U6.2 (W2.2.drop k7) 18 (13 + k7) 2 1 4 15 ∧ ∀ w, (bigE ps7).holds w → RdP w m7) (fun k7 m7 ps7 => W2.2.length - k7) 0 m6 ps6 ⟨Nat.zero_le _, h6.up (by omega) (by omega) (by omega) (by omega) (by omega) (by omega), hp6⟩ (cN C) (.refl _) ?_
 intro k7 m7 ps7 hi129
 obtain ⟨hk7, h7, hp7⟩ := hi129
 refine aF (aF (cG 2 C (aI C (dL C C C (aJ 4 C)) ?_)))
 refine bN C C C C C C (fun h130 => ?_) (fun h130 => ?_)
 refine bQ (aK C (cE (fD ?_)))
 refine oR (p := (∀ g9 ∈ m7.gs, g9.ov.oneCell' = true) ∧ m7.sv.oneCell' = true ∧ m7.av.oneCell' = true ∧ m7.iv.oneCell' = true ∧ m7.mv.oneCell' = true) (fun w hm => ⟨fun g9 hg9 => ((hp7 w (hm.holds _ (cF (i := 0) C))).2.1 g9 hg9).one, (aJ 1 C w hm).one, (hp7 w (hm.holds _ (cF (i := 0) C))).1.one, (aJ 2 C w hm).one, (aJ 3 C w hm).one⟩) (fun ⟨hone9, ho9⟩ => ?_)
 refine hC 10 [8, 7, 6, 5, 4, 3, 2, 1, 0, 9] C C (by decide) ?_
 refine jE (l := (bigE ps7 :: rS9 38 3 m7.sv m7.ss sgC :: rS9 63 3 m7.iv m7.xs ixC :: rS9 94 4 m7.mv m7.ms mmC :: rI9 3 W2.1 W2.2 :: rI9 3 U6.1 U6.2 :: boxE b3 #[m7.sv, m7.av, m7.iv, m7.mv] 35 :: boxE b2 #[.slice none 0 0, .slice none 0 0, .slice none 0 0, .slice none 0 0] 35 :: boxE b1 #[v] 26 :: l)) C 8 [0, 1, 2, 3, 4, 5, 6, 7] (List.take 8 _) (List.drop 8 _) [[], [], [], [], [2, 3], [4], [], [0, 1, 5, 6]] [273, 274, 275, 276, 277, 278, 279, 280] (fun i_ vs_ v_ p_ => match i_ with | 0 => v_ = pI g ∧ p_ = [] | 1 => v_ = .agg #[m7.sv, m7.av, m7.iv, m7.mv] ∧ p_ = [] | 2 => v_ = W2.1 ∧ p_ = [] | 3 => v_ = jI (k7 : Int) ∧ p_ = [] | 4 => v_ = elP W2.1 ((k7 : Int).toNat * 1) ∧ p_ = [] | 5 => v_ = jI (W2.2.getD k7 0) ∧ p_ = [] | 6 => v_ = U6.1 ∧ p_ = [] | 7 => (∃ pm_, p_ = [pm_] ∧ (fun u_ p_ => ∃ (v' ov : Value) (os : List Oq) (ps : List HP), u_ = .agg #[m7.sv, v', m7.iv, m7.mv] ∧ p_ = bigE [curE g a len cap, bigE ps] ∧ (∀ w, (bigE ps).holds w → RdsW w v' 2 (m7.gs ++ [As.mk (W2.2.getD k7 0) ov os]).length ((m7.gs ++ [As.mk (W2.2.getD k7 0) ov os]).flatMap asC) ∧ RdsW w ov 3 os.length (os.flatMap oqC)) ∧ v'.oneCell' = true ∧ ov.oneCell' = true ∧ ExP (m7.ss.length : Int) 9 os) v_ pm_) | _ => True) [[], [], [], [], [2, 3], [4], [], [0, 1, 5, 6]] [none, none, none, none, none, none, none, some 9] [curE g a len cap] [0, 1, 2, 3, 4, 5, 6, 7] 9 (List.take_append_drop 8 _).symm (by kernel_rfl) (by kernel_rfl) (by kernel_rfl) C C ?_ ?_
 refine ⟨?_, ?_, ?_, ?_, ?_, ?_, ?_, ?_, trivial⟩
 intro vf pf hmu hR
 refine jK [] [] C (cC (aU [0] C) ?_)
 exact bH (aY C)
 intro vf pf hmu hR
 refine jK [] [] C (bP (aU [5] C) (List.sublist_append_right _ _) ?_)
 exact bH (aW (cs := [m7.sv, m7.av, m7.iv, m7.mv]) C C C C C (aT 6 C 0 C))
 intro vf pf hmu hR
 refine jK [] [] C (cC (aU [7] C) ?_)
 exact bH (aY C)
 intro vf pf hmu hR
 refine jK [] [] C (cC (aU [24] C) ?_)
 exact bH (aY C)
 intro vf pf hmu hR
 have e2 := hR 2 (by decide)
 have e3 := hR 3 (by decide)
 refine jK [2, 3] [2, 3] C (bP (sk 275 (congrArg some e2.1) (sk 276 (congrArg some e3.1) (aL _))) (List.sublist_append_right _ _) ?_)
 exact bH (cR 1 C C C C (aJ 4 C))
 intro vf pf hmu hR
 have e4 := hR 4 (by decide)
 refine jK [4] [4] C (bP (sk 277 (congrArg some e4.1) (aL _)) (List.sublist_append_right _ _) ?_)
 exact bH (qD C C C (aJ 4 C))
 intro vf pf hmu hR
 refine jK [] [] C (cC (aU [6] C) ?_)
 exact bH (aY C)
 intro vf pf hmu hR
 have e0 := hR 0 (by decide)
 have e1 := hR 1 (by decide)
 have e5 := hR 5 (by decide)
 have e6 := hR 6 (by decide)
 refine Or.inl ⟨C, ?_⟩
 show RunM _ _ _ (pf 9) (([0, 1, 5, 6] : List Nat).flatMap pf ++ _) (envOf _ vf [0, 1, 5, 6] ++ _) _ _
 rw [hmu]
 refine eE (sk 273 (congrArg some e0.1) (sk 274 (congrArg some e1.1) (sk 278 (congrArg some e5.1) (sk 279 (congrArg some e6.1) (aL _))))) (by simp only [e0.2, e1.2, e5.2, e6.2, fS] <;> rfl) ?_
 exact gH (R := (fun u_ p_ => ∃ (v' ov : Value) (os : List Oq) (ps : List HP), u_ = .agg #[m7.sv, v', m7.iv, m7.mv] ∧ p_ = bigE [curE g a len cap, bigE ps] ∧ (∀ w, (bigE ps).holds w → RdsW w v' 2 (m7.gs ++ [As.mk (W2.2.getD k7 0) ov os]).length ((m7.gs ++ [As.mk (W2.2.getD k7 0) ov os]).flatMap asC) ∧ RdsW w ov 3 os.length (os.flatMap oqC)) ∧ v'.oneCell' = true ∧ ov.oneCell' = true ∧ ExP (m7.ss.length : Int) 9 os)) C C (fun L w hX hm => iM g a len cap z (m7.ss.length : Int) (Md.mk m7.sv m7.av m7.iv m7.mv m7.ss m7.gs m7.xs m7.ms) (W2.2.getD k7 0) U6.1 _ _ _ _ hm hb (fun w9 h9 => mQ (hX w9 h9) 5 C) (fun x hx => h7.av x hx) (by have h9 := h7.na; omega) (fun w9 h9 => (hp7 w9 ((hX w9 h9).holds _ (cF (i := 0) C))).1) (by have h9 := h7.ng; show m7.gs.length ≤ 1000; omega) hone9 ⟨ho9.1, ho9.2.1, ho9.2.2.1, ho9.2.2.2⟩)
 intro vf pf hmu hR
 have e7 : (∃ pm_, (pf 7) = [pm_] ∧ (fun u_ p_ => ∃ (v' ov : Value) (os : List Oq) (ps : List HP), u_ = .agg #[m7.sv, v', m7.iv, m7.mv] ∧ p_ = bigE [curE g a len cap, bigE ps] ∧ (∀ w, (bigE ps).holds w → RdsW w v' 2 (m7.gs ++ [As.mk (W2.2.getD k7 0) ov os]).length ((m7.gs ++ [As.mk (W2.2.getD k7 0) ov os]).flatMap asC) ∧ RdsW w ov 3 os.length (os.flatMap oqC)) ∧ v'.oneCell' = true ∧ ov.oneCell' = true ∧ ExP (m7.ss.length : Int) 9 os) (vf 7) pm_) := hR 7 (by decide)
 obtain ⟨p132, pE7, R133⟩ := e7
 obtain ⟨v131, vE7⟩ : ∃ x, vf 7 = x := ⟨_, rfl⟩
 rw [vE7] at R133
 obtain ⟨av133, ov133, os133, ap133, rfl, rfl, hap133, oav133, oov133, hos133⟩ := R133
 have q0 := hR 0 (by decide)
 have q1 := hR 1 (by decide)
 have q2 := hR 2 (by decide)
 have q3 := hR 3 (by decide)
 have q4 := hR 4 (by decide)
 have q5 := hR 5 (by decide)
 have q6 := hR 6 (by decide)
 refine dV (dB [270, 233, 89, 55, 33, 24, 7, 6, 5, 4, 3, 1, 0] _ (sk 280 (congrArg some vE7) (aL _)) C) (by simp only [pE7, vE7, q0.2, q1.2, q2.2, q3.2, q4.2, q5.2, q6.2, fS] <;> rfl) ?_
 simp only [List.drop_succ_cons, List.drop_zero]
 refine bE (cs' := #[m7.sv, av133, m7.iv, m7.mv]) (i := 7) (off := 0) (us := [m7.sv, av133, m7.iv, m7.mv]) C C C C C C C (aB ho9.1 (aB oav133 (aB ho9.2.2.1 (aB ho9.2.2.2 bC)))) C C C (bK (cK (cG 1 C (aI C (dO C C C) (dA 1 C ?_)))))
 have hpd9 := pendR hW2 (show k7 < W2.2.length by omega)
 refine cD 10 [9, 8, 7, 6, 5, 4, 3, 2, 1, 0] C C (by decide) ?_
 refine dI (curE g a len cap :: bigE ap133 :: bigE ps7 :: rS9 38 3 m7.sv m7.ss sgC :: rS9 63 3 m7.iv m7.xs ixC :: rS9 94 4 m7.mv m7.ms mmC :: rI9 3 W2.1 W2.2 :: rI9 3 U6.1 U6.2 :: boxE b3 #[m7.sv, av133, m7.iv, m7.mv] 35 :: boxE b2 #[.slice none 0 0, .slice none 0 0, .slice none 0 0, .slice none 0 0] 35 :: boxE b1 #[v] 26 :: l) eQ ?_
 refine cD 11 [10, 9, 8, 7, 6, 5, 4, 3, 0, 1, 2] C C (by decide) ?_
 refine dE 2 C ?_
 refine cD 10 [1, 9, 8, 7, 6, 5, 4, 3, 2, 0] C C (by decide) ?_
 exact cO (k7 + 1) (Md.mk m7.sv av133 m7.iv m7.mv m7.ss (m7.gs ++ [As.mk (W2.2.getD k7 0) ov133 os133]) m7.xs m7.ms) [bigE ps7, bigE ap133] ⟨by omega, (h7.asg _ hpd9.1 _ hos133 (by show (m7.ss.length : Int) ≤ (m7.ss.length : Int); omega) hpd9.2).up (by omega) (by omega) (by omega) (by omega) (by omega) (by omega), fun w hw => ⟨(hap133 w (bO hw (eI dX))).1, (hp7 w (bO hw dX)).2.1.app (hap133 w (bO hw (eI dX))).2, (hp7 w (bO hw dX)).2.2⟩⟩ (by omega) (cN C) (.refl _)
 refine bQ (aS C ?_)
 refine bI (dC ?_)
 refine aM (aR (cA ?_))
 refine kJ (p := (∀ g9 ∈ m7.gs, g9.ov.oneCell' = true) ∧ m7.sv.oneCell' = true ∧ m7.av.oneCell' = true ∧ m7.iv.oneCell' = true ∧ m7.mv.oneCell' = true) (fun w hm => ⟨fun g9 hg9 => ((hp7 w (hm.holds _ (cF (i := 0) C))).2.1 g9 hg9).one, (aJ 1 C w hm).one, (hp7 w (hm.holds _ (cF (i := 0) C))).1.one, (aJ 2 C w hm).one, (aJ 3 C w hm).one⟩) (fun ⟨hone9, ho9⟩ => ?_)
 refine aI C (aW (cs := [m7.sv, m7.av, m7.iv, m7.mv]) C C C C C (aT 6 C 0 C)) (bE (cs' := #[m7.sv, m7.av, m7.iv, m7.mv]) (i := 7) (off := 0) (us := [m7.sv, m7.av, m7.iv, m7.mv]) C C C C C C C (aB ho9.1 (aB ho9.2.1 (aB ho9.2.2.1 (aB ho9.2.2.2 bC)))) C C C ?_)
 refine bQ ?_
 refine aN (fV (p := m7.sv.oneCell' = true ∧ m7.av.oneCell' = true ∧ m7.iv.oneCell' = true ∧ m7.mv.oneCell' = true) (fun w hm => ⟨(aJ 1 C w hm).one, (hp7 w (hm.holds _ (cF (i := 0) C))).1.one, (aJ 2 C w hm).one, (aJ 3 C w hm).one⟩) (fun ho9 => ?_))
 refine cD 10 [9, 8, 7, 6, 5, 4, 0, 3, 2, 1] C C (by decide) ?_
 refine dE 4 C ?_
 refine cD 7 [5, 4, 3, 2, 1, 0, 6] C C (by decide) ?_
 refine dE 2 C ?_
 exact eV (rs := [.cell 4 35]) (vs := [.agg #[m7.sv, m7.av, m7.iv, m7.mv]]) rfl ⟨⟨b2, 0, [m7.sv, m7.av, m7.iv, m7.mv], rfl, rfl, by kernel_rfl, by kernel_rfl, aT 4 rfl 0 rfl⟩, trivial⟩ rfl (fun w hm => ⟨_, bigE [curE g a len cap, bigE [rS9 38 3 m7.sv m7.ss sgC, rS9 63 3 m7.iv m7.xs ixC, rS9 94 4 m7.mv m7.ms mmC, bigE ps7]], rfl, ⟨m7, [rS9 38 3 m7.sv m7.ss sgC, rS9 63 3 m7.iv m7.xs ixC, rS9 94 4 m7.mv m7.ms mmC, bigE ps7], rfl, rfl, fun w hw => ⟨cZ (bO hw dX), (hp7 w (bO hw (eI (eI (eI dX))))).1, (hp7 w (bO hw (eI (eI (eI dX))))).2.1, cZ (bO hw (eI dX)), (hp7 w (bO hw (eI (eI (eI dX))))).2.2, cZ (bO hw (eI (eI dX)))⟩, ho9, by have h9 := h7; rw [show k7 = W2.2.length by omega, List.drop_length] at h9; exact h9.fin (by omega) (by omega) (by omega) (by omega) (by omega)⟩, hm.sub (.cons_cons _ (fO 5 rfl))⟩)
theorem qJ (g : Nat) (a : Option Addr) (len cap : Nat) (z : List Int) (w0 : World) (l : List HP) (w : World) (hm0 : Mem w0 (curE g a len cap :: l) w) (hb : BRow .u8 w0 a len cap z) :
   Calls Try.prog 45 #[.pointer (some ⟨g, 0, none⟩)] w (fun e_ w_ => ∃ v_ p_, e_ = .returned v_ ∧ (fun u_ p_ => ∃ (D : List Md) (v : Value) (ps : List HP), u_ = .agg #[v] ∧ p_ = bigE [curE g a len cap, bigE ps] ∧ (∀ w, (bigE ps).holds w → RdsDs w v D) ∧ v.oneCell' = true ∧ DdP D ∧ 1 ≤ D.length) v_ p_ ∧ Mem w0 (p_ :: l) w_) := by
 refine gI (N := 28) (args := [pI g]) Try.func45 C C hm0 (cA ?_)
 refine cL C (bG (z := .agg #[.slice none 0 0]) C C) ?_
 intro b1
 refine bQ (cA (aI C (cU (cs := #[.slice none 0 0]) C C C) ?_))
 refine cL C (bG (z := .agg #[.slice none 0 0]) C C) ?_
 intro b2
 refine bE (cs' := #[.slice none 0 0]) (i := 0) (off := 0) (us := [.slice none 0 0]) C C C C C C C (aB C bC) C C C (bQ (aF (cG 1 C ?_)))
 refine eK (R := (fun u_ p_ => (∃ x_ : Int, u_ = jI x_ ∧ 0 ≤ x_ ∧ x_ < 2) ∧ p_ = curE g a len cap)) 2 C C C C C (fun l' w hm => eH g a len cap z 2 _ _ _ hm hb (by constructor <;> omega)) ?_
 intro v3 p4 R5
 obtain ⟨⟨x5, rfl, x50, x51⟩, rfl⟩ := R5
 refine dY (l' := (boxE b2 #[.slice none 0 0] 26 :: boxE b1 #[.slice none 0 0] 26 :: curE g a len cap :: l)) C ?_
 refine aH 1 C (eK (R := (fun u_ p_ => (∃ x_ : Int, u_ = jI x_ ∧ 0 ≤ x_ ∧ x_ < 2) ∧ p_ = curE g a len cap)) 2 C C C C C (fun l' w hm => eH g a len cap z 2 _ _ _ hm hb (by constructor <;> omega)) ?_)
 intro v6 p7 R8
 obtain ⟨⟨x8, rfl, x80, x81⟩, rfl⟩ := R8
 refine dY (l' := (boxE b2 #[.slice none 0 0] 26 :: boxE b1 #[.slice none 0 0] 26 :: curE g a len cap :: l)) C ?_
 refine aI C (dO C C C) (aI C (jT C C C (by rcases (by omega : x5 = 0 ∨ x5 = 1) with e9 | e9 <;> rw [e9] <;> constructor <;> omega)) ?_)
 have hml9 : 0 ≤ x5 * (1 + x8) ∧ x5 * (1 + x8) ≤ 2 := by rcases (by omega : x5 = 0 ∨ x5 = 1) with e9 | e9 <;> rw [e9] <;> constructor <;> omega
 refine aI C (dO C C C) (aP 1 C (aF (bA 1 C (bD ?_))))
 refine fB (bigE [] :: rowE 35 4 (.slice none 0 0) (([] : List Md).length) (([] : List Md).flatMap mdC) :: boxE b2 #[.slice none 0 0] 26 :: boxE b1 #[.slice none 0 0] 26 :: curE g a len cap :: l) (fun w hm => Mem.big (ps := []) (hm.nilRow 35 4)) ?_
 refine lZ (α := Nat) (β := List Md) (γ := Value) (δ := List HP) [0, 2, 3, 4] C (fun k D v ps => (bigE ps :: rS9 35 4 v D mdC :: boxE b2 #[v] 26 :: boxE b1 #[.slice none 0 0] 26 :: curE g a len cap :: l)) (fun k D v ps => [(5, jI (k : Int))]) (fun k D v ps => (k : Int) ≤ 1 + (x5 * (1 + x8)) ∧ D.length = k ∧ DdP D ∧ ∀ w, (bigE ps).holds w → ∀ m ∈ D, RdsMd w m) (fun k D v ps => (1 + (x5 * (1 + x8))).toNat - k) 0 [] _ [] ⟨by omega, C, DdP.nil, fun w _ m hm => (by cases hm)⟩ (cN C) (.refl _) ?_
 intro k D v ps hi9
 obtain ⟨hk, hdl, hdd, hp⟩ := hi9
 refine aF (aF (cG 2 C ?_))
 refine bN C C C C C C (fun h10 => ?_) (fun h10 => ?_)
 refine bQ (aK C (cE (fD ?_)))
 refine oR (p := v.oneCell' = true ∧ ∀ m ∈ D, m.sv.oneCell' = true ∧ m.av.oneCell' = true ∧ m.iv.oneCell' = true ∧ m.mv.oneCell' = true) (fun w hm => ⟨(aJ 1 C w hm).one, fun m9 hm9 => (hp w (hm.holds _ (cF (i := 0) C)) m9 hm9).ones⟩) (fun ⟨hv9, ho9⟩ => ?_)
 refine hC 5 [3, 2, 1, 0, 4] C C (by decide) ?_
 refine jE (l := (bigE ps :: rS9 35 4 v D mdC :: boxE b2 #[v] 26 :: boxE b1 #[.slice none 0 0] 26 :: l)) C 6 [0, 1, 2, 3, 4, 5] (List.take 6 _) (List.drop 6 _) [[], [0], [], [], [2, 3], [4]] [19, 20, 21, 22, 23, 24] (fun i_ vs_ v_ p_ => match i_ with | 0 => v_ = .pointer (some ⟨b2, 0 + 0, none⟩) ∧ p_ = [] | 1 => v_ = v ∧ p_ = [] | 2 => v_ = pI g ∧ p_ = [] | 3 => v_ = .agg #[v] ∧ p_ = [] | 4 => (∃ pm_, p_ = [pm_] ∧ (fun u_ p_ => ∃ (m : Md) (ps : List HP), u_ = m.agg ∧ p_ = bigE [curE g a len cap, bigE ps] ∧ (∀ w, (bigE ps).holds w → RdsMd w m) ∧ (m.sv.oneCell' = true ∧ m.av.oneCell' = true ∧ m.iv.oneCell' = true ∧ m.mv.oneCell' = true) ∧ DmP D m) v_ pm_) | 5 => IsRow 35 4 1 ([(agK 0 (gV9 vs_ 0)), (agK 1 (gV9 vs_ 0)), (agK 2 (gV9 vs_ 0)), (agK 3 (gV9 vs_ 0))]) v_ p_ | _ => True) [[], [0], [], [], [2, 3], [4]] [none, none, none, none, some 9, none] [curE g a len cap] [0, 1, 2, 3, 4, 5] 9 (List.take_append_drop 6 _).symm (by kernel_rfl) (by kernel_rfl) (by kernel_rfl) C C ?_ ?_
 refine ⟨?_, ?_, ?_, ?_, ?_, ?_, trivial⟩
 intro vf pf hmu hR
 refine jK [] [] C (cC (aU [3] C) ?_)
 exact bH (bM 0 C C C)
 intro vf pf hmu hR
 have e0 := hR 0 (by decide)
 refine jK [0] [0] C (bP (sk 19 (congrArg some e0.1) (aL _)) (List.sublist_append_right _ _) ?_)
 exact bH (aC C C C (aA 2 C C))
 intro vf pf hmu hR
 refine jK [] [] C (cC (aU [0] C) ?_)
 exact bH (aY C)
 intro vf pf hmu hR
 refine jK [] [] C (bP (aU [3] C) (List.sublist_append_right _ _) ?_)
 exact bH (aW (cs := [v]) C C C C C (aT 2 C 0 C))
 intro vf pf hmu hR
 have e2 := hR 2 (by decide)
 have e3 := hR 3 (by decide)
 refine Or.inl ⟨C, ?_⟩
 show RunM _ _ _ (pf 9) (([2, 3] : List Nat).flatMap pf ++ _) (envOf _ vf [2, 3] ++ _) _ _
 rw [hmu]
 exact eE (sk 21 (congrArg some e2.1) (sk 22 (congrArg some e3.1) (aL _))) (by simp only [e2.2, e3.2, fS] <;> rfl) (gH (R := (fun u_ p_ => ∃ (m : Md) (ps : List HP), u_ = m.agg ∧ p_ = bigE [curE g a len cap, bigE ps] ∧ (∀ w, (bigE ps).holds w → RdsMd w m) ∧ (m.sv.oneCell' = true ∧ m.av.oneCell' = true ∧ m.iv.oneCell' = true ∧ m.mv.oneCell' = true) ∧ DmP D m)) C C (fun L w hX hm => qI g a len cap z D v _ _ _ hm hb (fun w9 h9 => ⟨mQ (hX w9 h9) 1 C, fun m9 hm9 => hp w9 ((hX w9 h9).holds _ (cF (i := 0) C)) m9 hm9⟩) hdd (by omega) hv9 ho9))
 intro vf pf hmu hR
 have e4 : (∃ pm_, (pf 4) = [pm_] ∧ (fun u_ p_ => ∃ (m : Md) (ps : List HP), u_ = m.agg ∧ p_ = bigE [curE g a len cap, bigE ps] ∧ (∀ w, (bigE ps).holds w → RdsMd w m) ∧ (m.sv.oneCell' = true ∧ m.av.oneCell' = true ∧ m.iv.oneCell' = true ∧ m.mv.oneCell' = true) ∧ DmP D m) (vf 4) pm_) := hR 4 (by decide)
 obtain ⟨p12, pE4, R13⟩ := e4
 obtain ⟨v11, vE4⟩ : ∃ x, vf 4 = x := ⟨_, rfl⟩
 rw [vE4] at R13
 obtain ⟨m13, mp13, rfl, rfl, hmp13, hmo13, hdm13⟩ := R13
 refine jK [4] [4] C (dJ (sk 23 (congrArg some vE4) (aL _)) (by simp only [pE4, vE4, fS] <;> rfl) ?_)
 exact eB (bB (z := .agg #[.slice none 0 0, .slice none 0 0, .slice none 0 0, .slice none 0 0]) (s := 4) (cs := [m13.sv, m13.av, m13.iv, m13.mv]) C Try.underlying24 C (by decide) C (by kernel_rfl) C) (fun v_ p_ h => by show IsRow 35 4 1 ([(agK 0 (vf 4)), (agK 1 (vf 4)), (agK 2 (vf 4)), (agK 3 (vf 4))]) v_ p_; rw [vE4]; exact h)
 intro vf pf hmu hR
 have e1 := hR 1 (by decide)
 have e4 : (∃ pm_, (pf 4) = [pm_] ∧ (fun u_ p_ => ∃ (m : Md) (ps : List HP), u_ = m.agg ∧ p_ = bigE [curE g a len cap, bigE ps] ∧ (∀ w, (bigE ps).holds w → RdsMd w m) ∧ (m.sv.oneCell' = true ∧ m.av.oneCell' = true ∧ m.iv.oneCell' = true ∧ m.mv.oneCell' = true) ∧ DmP D m) (vf 4) pm_) := hR 4 (by decide)
 obtain ⟨p12, pE4, R13⟩ := e4
 obtain ⟨v11, vE4⟩ : ∃ x, vf 4 = x := ⟨_, rfl⟩
 rw [vE4] at R13
 obtain ⟨m13, mp13, rfl, rfl, hmp13, hmo13, hdm13⟩ := R13
 have e5 : IsRow 35 4 1 ([(agK 0 (vf 4)), (agK 1 (vf 4)), (agK 2 (vf 4)), (agK 3 (vf 4))]) (vf 5) (pf 5) := hR 5 (by decide)
 rw [vE4] at e5
 obtain ⟨g14, vE5, pE5⟩ := e5
 have q0 := hR 0 (by decide)
 have q1 := hR 1 (by decide)
 have q2 := hR 2 (by decide)
 have q3 := hR 3 (by decide)
 refine dV (dB [16, 5, 4, 3, 2, 0] _ (sk 20 (congrArg some e1.1) (sk 24 (congrArg some vE5) (aL _))) C) (by simp only [pE4, vE4, pE5, vE5, q0.2, q1.2, q2.2, q3.2, fS] <;> rfl) ?_
 simp only [List.drop_succ_cons, List.drop_zero]
 refine cW (i := 3) (z := .agg #[.slice none 0 0, .slice none 0 0, .slice none 0 0, .slice none 0 0]) (bytes := 96) C C C C Try.underlying24 (by kernel_rfl) C C C C (aJ 1 C) (aB hmo13.1 (aB hmo13.2.1 (aB hmo13.2.2.1 (aB hmo13.2.2.2 bC)))) (by first | omega | (simp only [List.length_append, List.length_cons, List.length_nil]; omega)) (cM D [m13]) (dM mdC D m13 _ C) (fun _ => C) ?_
 intro v15
 refine aI C (bM 0 C C C) (cS (i := 3) C (fun ho16 => ?_))
 refine eZ (i := 4) (cs' := #[v15]) C C C C C C ho16 C C C C (bK (cK (cG 1 C (aI C (dO C C C) (dA 1 C ?_)))))
 refine cD 6 [5, 4, 3, 2, 1, 0] C C (by decide) ?_
 refine dI (curE g a len cap :: bigE mp13 :: rowE 35 4 (.slice (some ⟨g14, 0, none⟩) 1 1) 1 ([m13.sv, m13.av, m13.iv, m13.mv]) :: bigE ps :: rowE 35 4 v15 ((D ++ [m13]).length) ((D ++ [m13]).flatMap mdC) :: boxE b2 #[v15] 26 :: boxE b1 #[.slice none 0 0] 26 :: l) eQ ?_
 refine cD 7 [6, 5, 4, 2, 0, 1, 3] C C (by decide) ?_
 refine dE 2 C ?_
 refine cD 6 [1, 5, 4, 3, 0] C C (by decide) ?_
 exact eR (k + 1) (D ++ [m13]) v15 [bigE ps, bigE mp13] ⟨by omega, by rw [List.length_append, List.length_singleton]; omega, hdd.app (by omega) hdm13, fun w hw m9 hm9 => (List.mem_append.1 hm9).elim (fun h8 => hp w (bO hw dX) m9 h8) (fun h8 => by rw [List.mem_singleton] at h8; subst h8; exact hmp13 w (bO hw (eI dX)))⟩ (by omega) (cN rfl) (.refl _)
 refine bQ (aS C ?_)
 refine bI (dC ?_)
 refine aM (aR (cA (aI C (aW (cs := [v]) C C C C C (aT 2 C 0 C)) ?_)))
 refine cS (i := 1) C (fun ho17 => ?_)
 refine bE (cs' := #[v]) (i := 3) (off := 0) (us := [v]) C C C C C C C (aB ho17 bC) C C C (bQ ?_)
 refine aN (fV (fun w hm => (aJ 1 C w hm).one) (fun ho9 => ?_))
 refine cD 5 [4, 3, 2, 0, 1] C C (by decide) ?_
 refine dE 2 C ?_
 refine cD 4 [2, 1, 0, 3] C C (by decide) ?_
 refine dE 2 C ?_
 exact eV (rs := [.cell 2 26]) (vs := [.agg #[v]]) C ⟨⟨b1, 0, [v], C, C, by kernel_rfl, by kernel_rfl, aT 2 C 0 C⟩, trivial⟩ C (fun w hm => ⟨_, bigE [curE g a len cap, bigE [rS9 35 4 v D mdC, bigE ps]], C, ⟨D, v, [rS9 35 4 v D mdC, bigE ps], C, C, fun w hw => ⟨cZ (bO hw dX), hp w (bO hw (eI dX))⟩, ho9, hdd, by omega⟩, hm.sub (.cons_cons _ (fO 2 C))⟩)
theorem qC (a : Option Addr) (len cap : Nat) (z : List Int) (w : World) (hb : BRow .u8 w a len cap z) (hlen : len ≤ 1048576) :
   Calls Try.prog 10 #[.slice a len cap] w (Ret w (fun u_ p_ => ∃ (D : List Md) (v : Value) (x : Int) (ps : List HP), u_ = .tuple #[.agg #[v], .int .i64 x] ∧ p_ = [bigE ps] ∧ (∀ w, (bigE ps).holds w → RdsDs w v D) ∧ v.oneCell' = true ∧ DdP D ∧ 1 ≤ D.length ∧ 1 ≤ x ∧ x ≤ 3)) := by
 refine bW (N := 14) (args := [.slice a len cap]) Try.func10 C C (cA ?_)
 refine cL C (bG (z := .agg #[.slice none 0 0]) C C) ?_
 intro b1
 refine aP 1 C (aF (cG 1 C ?_))
 refine fC C C C (aV C C (fun w hm => wG (hb.below hm.bel) hlen)) ?_
 intro v2 p3 R4
 obtain ⟨g4, rfl, rfl⟩ := R4
 refine aP 1 C (aF (cG 1 C ?_))
 refine eK (R := (fun u_ p_ => ∃ (D : List Md) (v : Value) (ps : List HP), u_ = .agg #[v] ∧ p_ = bigE [curE g4 a len cap, bigE ps] ∧ (∀ w, (bigE ps).holds w → RdsDs w v D) ∧ v.oneCell' = true ∧ DdP D ∧ 1 ≤ D.length)) 0 C C C C C (fun l' w hm => qJ g4 a len cap z _ _ _ hm hb) ?_
 intro v5 p6 R7
 obtain ⟨D, dv, dp, rfl, rfl, hdp, hdv1, hdd, hd1⟩ := R7
 refine dY (l' := [bigE [curE g4 a len cap, bigE dp], boxE b1 #[.slice none 0 0] 26]) C ?_
 refine cL C (bG (z := .agg #[.slice none 0 0]) C C) ?_
 intro b8
 refine bE (cs' := #[dv]) (i := 0) (off := 0) (us := [dv]) C C C C C C C (aB hdv1 bC) C C C (bQ (aF ?_))
 refine hC 3 [2, 0, 1] C C (by decide) ?_
 refine fB [curE g4 a len cap, bigE dp, boxE b8 #[dv] 26, boxE b1 #[.slice none 0 0] 26] eQ ?_
 refine hC 4 [2, 1, 3, 0] C C (by decide) ?_
 refine Ab (l := [bigE dp, boxE b8 #[dv] 26]) C 5 [0, 1, 2, 3, 4] (List.take 5 _) (List.drop 5 _) [[], [], [1], [2], [0]] [some 10, some 11, some 12, some 13, none] (fun i_ vs_ v_ p_ => match i_ with | 0 => v_ = .agg #[dv] ∧ p_ = [] | 1 => v_ = pI g4 ∧ p_ = [] | 2 => (∃ pm_, p_ = [pm_] ∧ (fun u_ p_ => (∃ x_ : Int, u_ = jI x_ ∧ 0 ≤ x_ ∧ x_ < 3) ∧ p_ = curE g4 a len cap) v_ pm_) | 3 => v_ = jI (1 + (intOf_o (gV9 vs_ 0))) ∧ p_ = [] | 4 => p_ = [boxE b1 #[dv] 26] | _ => True) [[], [], [1], [2], [0]] [none, none, some 6, none, some 7] [[curE g4 a len cap], [boxE b1 #[.slice none 0 0] 26]] [0, 1, 2, 3, 4] 6 (List.take_append_drop 5 _).symm (by kernel_rfl) (by kernel_rfl) (by kernel_rfl) C C ?_ ?_
 refine ⟨?_, ?_, ?_, ?_, ?_, trivial⟩
 intro vf pf hmu hR
 refine cT [] [] C (bP (aU [5] C) (List.sublist_append_right _ _) ?_)
 exact bH (aW (cs := [dv]) C C C C C (aT 1 C 0 C))
 intro vf pf hmu hR
 refine cT [] [] C (cC (aU [4] C) ?_)
 exact bH (aY C)
 intro vf pf hmu hR
 have e1 := hR 1 (by decide)
 refine Or.inl ⟨C, ?_⟩
 show RunM _ _ _ (pf 6) (([1] : List Nat).flatMap pf ++ _) (envOf3 _ vf [1] ++ _) _ _
 have hmu0 : pf 6 = [curE g4 a len cap] := hmu 0 (show 0 < 2 by omega)
 rw [hmu0]
 exact eE (sk 11 (congrArg some e1.1) (aL _)) (by simp only [e1.2, fS] <;> rfl) (gH (R := (fun u_ p_ => (∃ x_ : Int, u_ = jI x_ ∧ 0 ≤ x_ ∧ x_ < 3) ∧ p_ = curE g4 a len cap)) C C (fun L w hX hm => eH g4 a len cap z 3 _ _ _ hm hb (by constructor <;> omega)))
 intro vf pf hmu hR
 have e2 : (∃ pm_, (pf 2) = [pm_] ∧ (fun u_ p_ => (∃ x_ : Int, u_ = jI x_ ∧ 0 ≤ x_ ∧ x_ < 3) ∧ p_ = curE g4 a len cap) (vf 2) pm_) := hR 2 (by decide)
 obtain ⟨p10, pE2, R11⟩ := e2
 obtain ⟨v9, vE2⟩ : ∃ x, vf 2 = x := ⟨_, rfl⟩
 rw [vE2] at R11
 obtain ⟨⟨x11, rfl, x110, x111⟩, rfl⟩ := R11
 refine cT [2] [2] C (dJ (sk 12 (congrArg some vE2) (aL _)) (by simp only [pE2, vE2, fS] <;> rfl) ?_)
 exact eB (bH (dO C C C)) (fun _ _ h => ⟨h.1.trans (by show _ = (jI (1 + (intOf_o (vf 2))) : Value); first | (rw [vE2]; done) | (rw [vE2]; rfl)), h.2⟩)
 intro vf pf hmu hR
 have e0 := hR 0 (by decide)
 refine Or.inl ⟨C, ?_⟩
 show RunM _ _ _ (pf 7) (([0] : List Nat).flatMap pf ++ _) (envOf3 _ vf [0] ++ _) _ _
 have hmu1 : pf 7 = [boxE b1 #[.slice none 0 0] 26] := hmu 1 (show 1 < 2 by omega)
 rw [hmu1]
 exact eE (sk 2 C (sk 10 (congrArg some e0.1) (aL _))) (by simp only [e0.2, fS] <;> rfl) (mP (mO (us := [dv]) (off := 0) 0 C C C C C C (aB hdv1 bC) C C) (fun v_ p_ h => by show p_ = [boxE b1 #[dv] 26]; exact h))
 intro vf pf hmu hR
 have e2 : (∃ pm_, (pf 2) = [pm_] ∧ (fun u_ p_ => (∃ x_ : Int, u_ = jI x_ ∧ 0 ≤ x_ ∧ x_ < 3) ∧ p_ = curE g4 a len cap) (vf 2) pm_) := hR 2 (by decide)
 obtain ⟨p10, pE2, R11⟩ := e2
 obtain ⟨v9, vE2⟩ : ∃ x, vf 2 = x := ⟨_, rfl⟩
 rw [vE2] at R11
 obtain ⟨⟨x11, rfl, x110, x111⟩, rfl⟩ := R11
 have e3 : (vf 3) = jI (1 + (intOf_o (vf 2))) ∧ (pf 3) = [] := hR 3 (by decide)
 rw [vE2] at e3
 have e4 : (pf 4) = [boxE b1 #[dv] 26] := hR 4 (by decide)
 have pE4 := e4
 have q0 := hR 0 (by decide)
 have q1 := hR 1 (by decide)
 have q3 := hR 3 (by decide)
 refine dV (dB [5, 4, 3, 2, 0] _ (sk 13 (congrArg some e3.1) (aL _)) C) (by simp only [pE2, vE2, pE4, q0.2, q1.2, q3.2, fS] <;> rfl) ?_
 simp only [List.drop_succ_cons, List.drop_zero]
 refine aP 1 C ?_
 exact aN (cH (rs := [.cell 2 26, .tmp 3]) (vs := [.agg #[dv], jI (1 + x11)]) (post := [bigE dp]) C ⟨⟨b1, 0, [dv], C, C, by kernel_rfl, by kernel_rfl, aT 1 C 0 C⟩, C, trivial⟩ C (eO [2] C) ⟨D, dv, 1 + x11, dp, C, C, hdp, hdv1, hdd, hd1, by omega, by omega⟩)
theorem pN (os : List Oq) (v : Value) (w : World) (hv : RdsW w v 3 os.length (os.flatMap oqC)) (hl : os.length ≤ 1000000) :
   Calls Try.prog 110 #[v] w (Ret w (fun v' post => post = [rS9 97 3 v' os oqC])) := by
 refine bW (N := 6) (args := [v]) Try.func110 C C (bA 1 C (cA ?_))
 refine eA C (dF (s := 3) C Try.underlying71 C) ?_
 intro g1
 refine aH 1 C (cW (i := 0) (z := .agg #[jI 0, jI 0, jI 0]) (bytes := 24) (n' := os.length) (xs' := (os.flatMap oqC)) C C C C Try.underlying71 (by kernel_rfl) C C C C (aD hv) (kL oqC os (fun r u hu => by simp [oqC] at hu; first | (subst hu; rfl) | (rcases hu with rfl | rfl <;> rfl) | (rcases hu with rfl | rfl | rfl <;> rfl) | (rcases hu with rfl | rfl | rfl | rfl <;> rfl))) (by first | omega | (simp only [List.length_take, List.length_drop]; omega)) (Nat.zero_add _) (List.nil_append _) (fun _ => C) ?_)
 intro v2
 refine aP 1 C ?_
 exact aN (gE (post := [rS9 97 3 v2 os oqC]) C C (eT C) C)
theorem vL (x0 x3 : Value) (h0 : x0.oneCell' = true) (h3 : x3.oneCell' = true) : Try.prog.built 35 [(0, x0), (3, x3)] = some #[x0, .slice none 0 0, .slice none 0 0, x3] := by
  (cases x0 <;> first | (exact absurd h0 Bool.false_ne_true) | (cases x3 <;> first | (exact absurd h3 Bool.false_ne_true) | kernel_rfl))
theorem tT (m : Md) (w : World) (hr : RdsMd w m) (hL : LenP m) (hos : ∀ g ∈ m.gs, g.os.length ≤ 15) (hps : ∀ x ∈ m.xs, x.ps.length ≤ 30) :
   Calls Try.prog 52 #[.agg #[m.sv, m.av, m.iv, m.mv]] w (Ret w (fun u_ p_ => ∃ (m' : Md) (ps : List HP), u_ = m'.agg ∧ p_ = [bigE ps] ∧ (∀ w, (bigE ps).holds w → RdsMd w m') ∧ MdOne m' ∧ EqM m' m)) := by
 obtain ⟨hl1, hl2, hl3, hl4⟩ := hL
 refine bW (N := 69) (args := [.agg #[m.sv, m.av, m.iv, m.mv]]) Try.func52 C C (cA ?_)
 refine cL C (cY C C) ?_
 intro b1
 refine cL C (bG (z := .agg #[.slice none 0 0, .slice none 0 0, .slice none 0 0, .slice none 0 0]) C C) ?_
 intro b2
 refine bQ (aF ?_)
 refine iF (l := [boxE b2 #[.slice none 0 0, .slice none 0 0, .slice none 0 0, .slice none 0 0] 35, boxE b1 #[m.sv, m.av, m.iv, m.mv] 35]) C 10 [0, 1, 2, 3, 4, 5, 6, 7, 8, 9] (List.take 10 _) (List.drop 10 _) [[], [], [1], [0, 2], [], [], [5], [4, 6], [3, 7], []] [some 7, some 8, some 9, some 10, some 11, some 12, some 13, some 14, some 15, some 3] (fun i_ vs_ v_ p_ => match i_ with | 0 => IsRow 38 3 0 ([]) v_ p_ | 1 => v_ = .pointer (some ⟨b1, 0 + 0, none⟩) ∧ p_ = [] | 2 => v_ = m.sv ∧ p_ = [] | 3 => (∃ pm_, p_ = [pm_] ∧ (fun u_ p_ => p_ = rS9 38 3 u_ m.ss sgC) v_ pm_) | 4 => IsRow 94 4 0 ([]) v_ p_ | 5 => v_ = .pointer (some ⟨b1, 0 + 3, none⟩) ∧ p_ = [] | 6 => v_ = m.mv ∧ p_ = [] | 7 => (∃ pm_, p_ = [pm_] ∧ (fun u_ p_ => p_ = rS9 94 4 u_ m.ms mmC) v_ pm_) | 8 => v_ = .agg #[(gV9 vs_ 0), .slice none 0 0, .slice none 0 0, (gV9 vs_ 1)] ∧ p_ = [] | 9 => IsBox #[.slice none 0 0, .slice none 0 0, .slice none 0 0, .slice none 0 0] 35 v_ p_ | _ => True) [[], [], [1], [2], [], [], [5], [6], [3, 7], []] [none, none, none, some 0, none, none, none, some 4, none, none] [] [1, 2, 3, 5, 6, 7, 8, 9] 11 (List.take_append_drop 10 _).symm (by kernel_rfl) (by kernel_rfl) (by kernel_rfl) C C ?_ ?_
 refine ⟨?_, ?_, ?_, ?_, ?_, ?_, ?_, ?_, ?_, ?_, trivial⟩
 intro vf pf hmu hR
 refine cT [] [] C (bP (aL _) (List.sublist_append_right _ _) ?_)
 exact dF (s := 3) C Try.underlying30 C
 intro vf pf hmu hR
 refine cT [] [] C (cC (aU [1] C) ?_)
 exact bH (bM 0 C C C)
 intro vf pf hmu hR
 have e1 := hR 1 (by decide)
 refine cT [1] [1] C (bP (sk 8 (congrArg some e1.1) (aL _)) (List.sublist_append_right _ _) ?_)
 exact bH (aC C C C (aA 1 C C))
 intro vf pf hmu hR
 have e0 : IsRow 38 3 0 ([]) (vf 0) (pf 0) := hR 0 (by decide)
 obtain ⟨g3, vE0, pE0⟩ := e0
 have e2 := hR 2 (by decide)
 refine Or.inl ⟨C, ?_⟩
 show RunM _ _ _ (pf 0) (([2] : List Nat).flatMap pf ++ _) (envOf3 _ vf [0, 2] ++ _) _ _
 rw [pE0]; rw [vE0]
 exact eE (sk 7 (congrArg some vE0) (sk 9 (congrArg some e2.1) (aL _))) (by simp only [e2.2, fS] <;> rfl) (iI (d := 0) (z := .agg #[jI 0, jI 0, jI 0]) (bytes := 24) (n' := m.ss.length) (xs' := (m.ss.flatMap sgC)) C Try.underlying30 C C C C (aD ((hr).s)) (kL sgC m.ss (fun r u hu => by simp [sgC] at hu; first | (subst hu; rfl) | (rcases hu with rfl | rfl <;> rfl) | (rcases hu with rfl | rfl | rfl <;> rfl) | (rcases hu with rfl | rfl | rfl | rfl <;> rfl))) (by first | omega | (simp only [List.length_take, List.length_drop]; omega)) (Nat.zero_add _) (List.nil_append _))
 intro vf pf hmu hR
 refine cT [] [] C (bP (aL _) (List.sublist_append_right _ _) ?_)
 exact dF (s := 4) C Try.underlying33 C
 intro vf pf hmu hR
 refine cT [] [] C (cC (aU [1] C) ?_)
 exact bH (bM 3 C C C)
 intro vf pf hmu hR
 have e5 := hR 5 (by decide)
 refine cT [5] [5] C (bP (sk 12 (congrArg some e5.1) (aL _)) (List.sublist_append_right _ _) ?_)
 exact bH (aC C C C (aA 1 C C))
 intro vf pf hmu hR
 have e4 : IsRow 94 4 0 ([]) (vf 4) (pf 4) := hR 4 (by decide)
 obtain ⟨g7, vE4, pE4⟩ := e4
 have e6 := hR 6 (by decide)
 refine Or.inl ⟨C, ?_⟩
 show RunM _ _ _ (pf 4) (([6] : List Nat).flatMap pf ++ _) (envOf3 _ vf [4, 6] ++ _) _ _
 rw [pE4]; rw [vE4]
 exact eE (sk 11 (congrArg some vE4) (sk 13 (congrArg some e6.1) (aL _))) (by simp only [e6.2, fS] <;> rfl) (iI (d := 0) (z := .agg #[jI 0, jI 0, jI 0, jI 0]) (bytes := 32) (n' := m.ms.length) (xs' := (m.ms.flatMap mmC)) C Try.underlying33 C C C C (aD ((hr).m)) (kL mmC m.ms (fun r u hu => by simp [mmC] at hu; first | (subst hu; rfl) | (rcases hu with rfl | rfl <;> rfl) | (rcases hu with rfl | rfl | rfl <;> rfl) | (rcases hu with rfl | rfl | rfl | rfl <;> rfl))) (by first | omega | (simp only [List.length_take, List.length_drop]; omega)) (Nat.zero_add _) (List.nil_append _))
 intro vf pf hmu hR
 have e3 : (∃ pm_, (pf 3) = [pm_] ∧ (fun u_ p_ => p_ = rS9 38 3 u_ m.ss sgC) (vf 3) pm_) := hR 3 (by decide)
 obtain ⟨p5, pE3, R6⟩ := e3
 obtain ⟨v4, vE3⟩ : ∃ x, vf 3 = x := ⟨_, rfl⟩
 rw [vE3] at R6
 subst R6
 have e7 : (∃ pm_, (pf 7) = [pm_] ∧ (fun u_ p_ => p_ = rS9 94 4 u_ m.ms mmC) (vf 7) pm_) := hR 7 (by decide)
 obtain ⟨p9, pE7, R10⟩ := e7
 obtain ⟨v8, vE7⟩ : ∃ x, vf 7 = x := ⟨_, rfl⟩
 rw [vE7] at R10
 subst R10
 refine cT [3, 7] [3, 7] C (dJ (sk 10 (congrArg some vE3) (sk 14 (congrArg some vE7) (aL _))) (by simp only [pE3, vE3, pE7, vE7, fS] <;> rfl) ?_)
 exact eB (bH (gO (cs := #[v4, .slice none 0 0, .slice none 0 0, v8]) C C (fun w hm => vL v4 v8 ((aJ 0 C w hm).one) ((aJ 1 C w hm).one)))) (fun _ _ h => ⟨h.1.trans (by show _ = (.agg #[(vf 3), .slice none 0 0, .slice none 0 0, (vf 7)] : Value); first | (rw [vE3, vE7]; done) | (rw [vE3, vE7]; rfl)), h.2⟩)
 intro vf pf hmu hR
 refine cT [] [] C (bP (aL _) (List.sublist_append_right _ _) ?_)
 exact bG (z := .agg #[.slice none 0 0, .slice none 0 0, .slice none 0 0, .slice none 0 0]) C C
 intro vf pf hmu hR
 have e0 : IsRow 38 3 0 ([]) (vf 0) (pf 0) := hR 0 (by decide)
 obtain ⟨g3, vE0, pE0⟩ := e0
 have e3 : (∃ pm_, (pf 3) = [pm_] ∧ (fun u_ p_ => p_ = rS9 38 3 u_ m.ss sgC) (vf 3) pm_) := hR 3 (by decide)
 obtain ⟨p5, pE3, R6⟩ := e3
 obtain ⟨v4, vE3⟩ : ∃ x, vf 3 = x := ⟨_, rfl⟩
 rw [vE3] at R6
 subst R6
 have e4 : IsRow 94 4 0 ([]) (vf 4) (pf 4) := hR 4 (by decide)
 obtain ⟨g7, vE4, pE4⟩ := e4
 have e7 : (∃ pm_, (pf 7) = [pm_] ∧ (fun u_ p_ => p_ = rS9 94 4 u_ m.ms mmC) (vf 7) pm_) := hR 7 (by decide)
 obtain ⟨p9, pE7, R10⟩ := e7
 obtain ⟨v8, vE7⟩ : ∃ x, vf 7 = x := ⟨_, rfl⟩
 rw [vE7] at R10
 subst R10
 have e8 : (vf 8) = .agg #[(vf 3), .slice none 0 0, .slice none 0 0, (vf 7)] ∧ (pf 8) = [] := hR 8 (by decide)
 rw [vE3, vE7] at e8
 have e9 : IsBox #[.slice none 0 0, .slice none 0 0, .slice none 0 0, .slice none 0 0] 35 (vf 9) (pf 9) := hR 9 (by decide)
 obtain ⟨b11, vE9, pE9⟩ := e9
 have q1 := hR 1 (by decide)
 have q2 := hR 2 (by decide)
 have q5 := hR 5 (by decide)
 have q6 := hR 6 (by decide)
 have q8 := hR 8 (by decide)
 refine dV (dB [2, 1, 0] _ (sk 3 (congrArg some vE9) (sk 15 (congrArg some e8.1) (aL _))) C) (by simp only [pE3, vE3, pE7, vE7, pE9, vE9, q1.2, q2.2, q5.2, q6.2, q8.2, fS] <;> rfl) ?_
 simp only [List.drop_succ_cons, List.drop_zero]
 refine cS (i := 1) C (fun ho12 => ?_)
 refine cS (i := 0) C (fun ho13 => ?_)
 refine bE (cs' := #[v4, .slice none 0 0, .slice none 0 0, v8]) (i := 2) (off := 0) (us := [v4, .slice none 0 0, .slice none 0 0, v8]) C C C C C C C (aB ho13 (aB C (aB C (aB ho12 bC)))) C C C (bQ (aF (bA 1 C (bD ?_))))
 refine fB [bigE [], rowE 89 2 (.slice none 0 0) (([] : List As).length) (([] : List As).flatMap asC), rS9 38 3 v4 m.ss sgC, rS9 94 4 v8 m.ms mmC, boxE b11 #[v4, .slice none 0 0, .slice none 0 0, v8] 35, boxE b2 #[.slice none 0 0, .slice none 0 0, .slice none 0 0, .slice none 0 0] 35, boxE b1 #[m.sv, m.av, m.iv, m.mv] 35] (fun w hm => Mem.big (ps := []) (hm.nilRow 89 2)) ?_
 refine lZ (α := Nat) (β := Value) (γ := List As) (δ := List HP) [0, 1, 2, 3] C (fun i ga gs ps => [bigE ps, rS9 89 2 ga gs asC, rS9 38 3 v4 m.ss sgC, rS9 94 4 v8 m.ms mmC, boxE b11 #[v4, ga, .slice none 0 0, v8] 35, boxE b2 #[.slice none 0 0, .slice none 0 0, .slice none 0 0, .slice none 0 0] 35, boxE b1 #[m.sv, m.av, m.iv, m.mv] 35]) (fun i ga gs ps => [(4, jI (i : Int))]) (fun i ga gs ps => i ≤ m.gs.length ∧ gs.map asV = (m.gs.take i).map asV ∧ ∀ w, (bigE ps).holds w → OpsR w gs) (fun i ga gs ps => m.gs.length - i) 0 _ [] [] ⟨Nat.zero_le _, C, fun w _ => OpsR.nil w⟩ (cN C) (eT C) ?_
 intro i ga gs ps hi14
 obtain ⟨hi, hgq, hp⟩ := hi14
 have hgl : gs.length ≤ 30 := by have h9 := congrArg List.length hgq; rw [List.length_map, List.length_map, List.length_take] at h9; omega
 refine aF (aF (cG 1 C (aI C (bM 1 C C C) (aI C (aC C C C (aA 6 C C)) (aI C (dL C C C (aD ((hr).g))) ?_)))))
 refine bN C C C C C C (fun h15 => ?_) (fun h15 => ?_)
 refine bQ (aK C (cE (fD ?_)))
 refine hS C 17 [0, 1, 2, 3, 4, 5, 6, 7, 8, 9, 10, 11, 12, 13, 14, 15, 16] (List.take 17 _) (List.drop 17 _) [[], [0], [], [2], [], [3, 4], [5], [6], [], [8], [], [9, 10], [11], [12], [13], [7, 14], [14, 15]] [23, 24, 25, 26, 27, 28, 29, 30, 31, 32, 33, 34, 35, 36, 37, 38, 39] (fun i_ vs_ v_ p_ => match i_ with | 0 => v_ = .pointer (some ⟨b11, 0 + 1, none⟩) ∧ p_ = [] | 1 => v_ = ga ∧ p_ = [] | 2 => v_ = .pointer (some ⟨b1, 0 + 1, none⟩) ∧ p_ = [] | 3 => v_ = m.av ∧ p_ = [] | 4 => v_ = jI (i : Int) ∧ p_ = [] | 5 => v_ = elP m.av ((i : Int).toNat * 2) ∧ p_ = [] | 6 => v_ = elP m.av ((i : Int).toNat * 2 + 0) ∧ p_ = [] | 7 => v_ = jI ((m.gs.getD i as0).t) ∧ p_ = [] | 8 => v_ = .pointer (some ⟨b1, 0 + 1, none⟩) ∧ p_ = [] | 9 => v_ = m.av ∧ p_ = [] | 10 => v_ = jI (i : Int) ∧ p_ = [] | 11 => v_ = elP m.av ((i : Int).toNat * 2) ∧ p_ = [] | 12 => v_ = elP m.av ((i : Int).toNat * 2 + 1) ∧ p_ = [] | 13 => v_ = (m.gs.getD i as0).ov ∧ p_ = [] | 14 => (fun v' post => post = [rS9 97 3 v' (m.gs.getD i as0).os oqC]) v_ p_ | 15 => v_ = .agg #[jI ((m.gs.getD i as0).t), (gV9 vs_ 1)] ∧ p_ = [] | 16 => IsRow 89 2 1 ([jI ((m.gs.getD i as0).t), (gV9 vs_ 0)]) v_ p_ | _ => True) (List.take_append_drop 17 _).symm (by kernel_rfl) (by kernel_rfl) C C ?_ ?_
 refine ⟨?_, ?_, ?_, ?_, ?_, ?_, ?_, ?_, ?_, ?_, ?_, ?_, ?_, ?_, ?_, ?_, ?_, trivial⟩
 intro vf pf hR
 exact jJ C (aU [3] C) (bH (bM 1 C C C))
 intro vf pf hR
 have e0 := hR 0 (by decide)
 exact gR C (sk 23 (congrArg some e0.1) (aL _)) (bH (aC C C C (aA 4 C C)))
 intro vf pf hR
 exact jJ C (aU [1] C) (bH (bM 1 C C C))
 intro vf pf hR
 have e2 := hR 2 (by decide)
 exact gR C (sk 25 (congrArg some e2.1) (aL _)) (bH (aC C C C (aA 6 C C)))
 intro vf pf hR
 exact jJ C (aU [4] C) (bH (aY C))
 intro vf pf hR
 have e3 := hR 3 (by decide)
 have e4 := hR 4 (by decide)
 exact gR C (sk 26 (congrArg some e3.1) (sk 27 (congrArg some e4.1) (aL _))) (bH (cR 2 C C C C (aD ((hr).g))))
 intro vf pf hR
 have e5 := hR 5 (by decide)
 exact gR C (sk 28 (congrArg some e5.1) (aL _)) (bH (aZ (k0 := 0) C C C (aD ((hr).g)) (by omega)))
 intro vf pf hR
 have e6 := hR 6 (by decide)
 exact gR C (sk 29 (congrArg some e6.1) (aL _)) (bH (aQ (u := jI ((m.gs.getD i as0).t)) C C C (aD ((hr).g)) ((bR asC 2 (fun _ => C) m.gs as0 (show i < _ by omega) (by decide)).trans C)))
 intro vf pf hR
 exact jJ C (aU [1] C) (bH (bM 1 C C C))
 intro vf pf hR
 have e8 := hR 8 (by decide)
 exact gR C (sk 31 (congrArg some e8.1) (aL _)) (bH (aC C C C (aA 6 C C)))
 intro vf pf hR
 exact jJ C (aU [4] C) (bH (aY C))
 intro vf pf hR
 have e9 := hR 9 (by decide)
 have e10 := hR 10 (by decide)
 exact gR C (sk 32 (congrArg some e9.1) (sk 33 (congrArg some e10.1) (aL _))) (bH (cR 2 C C C C (aD ((hr).g))))
 intro vf pf hR
 have e11 := hR 11 (by decide)
 exact gR C (sk 34 (congrArg some e11.1) (aL _)) (bH (aZ (k0 := 1) C C C (aD ((hr).g)) (by omega)))
 intro vf pf hR
 have e12 := hR 12 (by decide)
 exact gR C (sk 35 (congrArg some e12.1) (aL _)) (bH (aQ (u := (m.gs.getD i as0).ov) C C C (aD ((hr).g)) ((bR asC 2 (fun _ => C) m.gs as0 (show i < _ by omega) (by decide)).trans C)))
 intro vf pf hR
 have e13 := hR 13 (by decide)
 exact gR C (sk 36 (congrArg some e13.1) (aL _)) (aV C C (fun w hm => pN (m.gs.getD i as0).os _ w ((hr.o.at (k := i) (by omega)).below hm.bel) (by have h9 := hos _ (cV (d := as0) (show i < m.gs.length by omega)); omega)))
 intro vf pf hR
 have e7 := hR 7 (by decide)
 have e14 : (fun v' post => post = [rS9 97 3 v' (m.gs.getD i as0).os oqC]) (vf 14) (pf 14) := hR 14 (by decide)
 obtain ⟨v16, vE14⟩ : ∃ x, vf 14 = x := ⟨_, rfl⟩
 obtain ⟨p17, pE14⟩ : ∃ x, pf 14 = x := ⟨_, rfl⟩
 have R18 := e14
 rw [vE14, pE14] at R18
 subst R18
 refine Or.inl ⟨C, ?_⟩
 exact dJ (sk 30 (congrArg some e7.1) (sk 37 (congrArg some vE14) (aL _))) (by simp only [pE14, vE14, e7.2, fS] <;> rfl) (eB (bH (gO (cs := #[jI ((m.gs.getD i as0).t), v16]) C C (fun w hm => uM ((m.gs.getD i as0).t) v16 ((aJ 0 C w hm).one)))) (fun _ _ h => ⟨h.1.trans (by show _ = (.agg #[jI ((m.gs.getD i as0).t), (vf 14)] : Value); first | (rw [vE14]; done) | (rw [vE14]; rfl)), h.2⟩))
 intro vf pf hR
 have e14 : (fun v' post => post = [rS9 97 3 v' (m.gs.getD i as0).os oqC]) (vf 14) (pf 14) := hR 14 (by decide)
 obtain ⟨v16, vE14⟩ : ∃ x, vf 14 = x := ⟨_, rfl⟩
 obtain ⟨p17, pE14⟩ : ∃ x, pf 14 = x := ⟨_, rfl⟩
 have R18 := e14
 rw [vE14, pE14] at R18
 subst R18
 have e15 : (vf 15) = .agg #[jI ((m.gs.getD i as0).t), (vf 14)] ∧ (pf 15) = [] := hR 15 (by decide)
 rw [vE14] at e15
 refine Or.inl ⟨C, ?_⟩
 exact dJ (sk 38 (congrArg some e15.1) (aL _)) (by simp only [pE14, vE14, e15.2, fS] <;> rfl) (eB (bB (z := .agg #[jI 0, .slice none 0 0]) (s := 2) (cs := [jI ((m.gs.getD i as0).t), v16]) C Try.underlying31 C (by decide) C (by kernel_rfl) C) (fun v_ p_ h => by show IsRow 89 2 1 ([jI ((m.gs.getD i as0).t), (vf 14)]) v_ p_; rw [vE14]; exact h))
 intro vf pf hR
 have e1 := hR 1 (by decide)
 have e14 : (fun v' post => post = [rS9 97 3 v' (m.gs.getD i as0).os oqC]) (vf 14) (pf 14) := hR 14 (by decide)
 obtain ⟨v16, vE14⟩ : ∃ x, vf 14 = x := ⟨_, rfl⟩
 obtain ⟨p17, pE14⟩ : ∃ x, pf 14 = x := ⟨_, rfl⟩
 have R18 := e14
 rw [vE14, pE14] at R18
 subst R18
 have e16 : IsRow 89 2 1 ([jI ((m.gs.getD i as0).t), (vf 14)]) (vf 16) (pf 16) := hR 16 (by decide)
 rw [vE14] at e16
 obtain ⟨g19, vE16, pE16⟩ := e16
 have q0 := hR 0 (by decide)
 have q1 := hR 1 (by decide)
 have q2 := hR 2 (by decide)
 have q3 := hR 3 (by decide)
 have q4 := hR 4 (by decide)
 have q5 := hR 5 (by decide)
 have q6 := hR 6 (by decide)
 have q7 := hR 7 (by decide)
 have q8 := hR 8 (by decide)
 have q9 := hR 9 (by decide)
 have q10 := hR 10 (by decide)
 have q11 := hR 11 (by decide)
 have q12 := hR 12 (by decide)
 have q13 := hR 13 (by decide)
 have q15 := hR 15 (by decide)
 refine dV (dB [20, 4, 3, 2, 1, 0] _ (sk 24 (congrArg some e1.1) (sk 39 (congrArg some vE16) (aL _))) C) (by simp only [pE14, vE14, pE16, vE16, q0.2, q1.2, q2.2, q3.2, q4.2, q5.2, q6.2, q7.2, q8.2, q9.2, q10.2, q11.2, q12.2, q13.2, q15.2, fS] <;> rfl) ?_
 simp only [List.drop_succ_cons, List.drop_zero]
 refine cS (i := 0) C (fun ho20 => ?_)
 refine cW (i := 3) (z := .agg #[jI 0, .slice none 0 0]) (bytes := 32) C C C C Try.underlying31 (by kernel_rfl) C C C C (aJ 1 C) (aB C (aB ho20 bC)) (by first | omega | (simp only [List.length_append, List.length_cons, List.length_nil]; omega)) (cM gs [(As.mk ((m.gs.getD i as0).t) v16 (m.gs.getD i as0).os)]) (dM asC gs (As.mk ((m.gs.getD i as0).t) v16 (m.gs.getD i as0).os) _ C) (fun _ => C) ?_
 intro v21
 refine aI C (bM 1 C C C) (cS (i := 3) C (fun ho22 => ?_))
 refine eZ (i := 6) (cs' := #[v4, v21, .slice none 0 0, v8]) C C C C C C ho22 C C C C (bK (cK (cG 1 C (aI C (dO C C C) (dA 1 C ?_)))))
 refine cD 9 [8, 7, 6, 5, 4, 3, 0, 2] C C (by decide) ?_
 refine dE 2 C ?_
 exact eR (i + 1) v21 (gs ++ [(As.mk ((m.gs.getD i as0).t) v16 (m.gs.getD i as0).os)]) [bigE ps, rowE 97 3 v16 (((m.gs.getD i as0).os).length) (((m.gs.getD i as0).os).flatMap oqC)] ⟨by omega, by rw [List.map_append, hgq, eU as0 (show i < m.gs.length by omega), List.map_append]; rfl, fun w hw => (hp w (bO hw dX)).app (cZ (bO hw (eI dX)))⟩ (by omega) (cN rfl) (eT rfl)
 refine bQ (aS C ?_)
 refine bI (dC ?_)
 refine aM (aR (aF (bA 1 C (bD ?_))))
 refine fB [bigE [], rowE 63 3 (.slice none 0 0) (([] : List Ix).length) (([] : List Ix).flatMap ixC), bigE ps, rS9 89 2 ga gs asC, rS9 38 3 v4 m.ss sgC, rS9 94 4 v8 m.ms mmC, boxE b11 #[v4, ga, .slice none 0 0, v8] 35, boxE b2 #[.slice none 0 0, .slice none 0 0, .slice none 0 0, .slice none 0 0] 35, boxE b1 #[m.sv, m.av, m.iv, m.mv] 35] (fun w hm => Mem.big (ps := []) (hm.nilRow 63 3)) ?_
 refine lZ (α := Nat) (β := Value) (γ := List Ix) (δ := List HP) [0, 1, 2, 3, 20] C (fun j gx xs qs => [bigE qs, rS9 63 3 gx xs ixC, bigE ps, rS9 89 2 ga gs asC, rS9 38 3 v4 m.ss sgC, rS9 94 4 v8 m.ms mmC, boxE b11 #[v4, ga, gx, v8] 35, boxE b2 #[.slice none 0 0, .slice none 0 0, .slice none 0 0, .slice none 0 0] 35, boxE b1 #[m.sv, m.av, m.iv, m.mv] 35]) (fun j gx xs qs => [(5, jI (j : Int))]) (fun j gx xs qs => j ≤ m.xs.length ∧ xs.map ixV = (m.xs.take j).map ixV ∧ ∀ w, (bigE qs).holds w → PtsR w xs) (fun j gx xs qs => m.xs.length - j) 0 _ [] [] ⟨Nat.zero_le _, C, fun w _ => PtsR.nil w⟩ (cN C) (eT C) ?_
 intro j gx xs qs hi23
 obtain ⟨hj, hxq, hq⟩ := hi23
 have hxl : xs.length ≤ 3 := by have h9 := congrArg List.length hxq; rw [List.length_map, List.length_map, List.length_take] at h9; omega
 refine aF (aF (cG 1 C (aI C (bM 2 C C C) (aI C (aC C C C (aA 8 C C)) (aI C (dL C C C (aD ((hr).x))) ?_)))))
 refine bN C C C C C C (fun h24 => ?_) (fun h24 => ?_)
 refine bQ (aK C (cE (fD (cA ?_))))
 have hps9 := hps _ (cV (d := ix0) (show j < m.xs.length by omega))
 refine aI C (bM 2 C C C) (aI C (aC C C C (aA 8 C C)) (aH 1 C (aI C (cR 3 C C C C (aD ((hr).x))) ?_)))
 refine aI C (bL (us := [jI ((m.xs.getD j ix0).m), jI ((m.xs.getD j ix0).p), (m.xs.getD j ix0).pv]) C C C C (aD ((hr).x)) (by omega) C (bY ixC 3 (fun _ => C) m.xs ix0 (show j < _ by omega) C)) (cL C (bG (z := .agg #[jI 0, jI 0, .slice none 0 0]) C C) ?_)
 intro b25
 refine bE (cs' := #[jI ((m.xs.getD j ix0).m), jI ((m.xs.getD j ix0).p), (m.xs.getD j ix0).pv]) (i := 0) (off := 0) (us := [jI ((m.xs.getD j ix0).m), jI ((m.xs.getD j ix0).p), (m.xs.getD j ix0).pv]) C C C C C C C (aB C (aB C (aB (hr.p.at (k := j) (by omega)).one bC))) C C C (bQ ?_)
 refine iF (l := [boxE b25 #[jI ((m.xs.getD j ix0).m), jI ((m.xs.getD j ix0).p), (m.xs.getD j ix0).pv] 63, bigE qs, rS9 63 3 gx xs ixC, bigE ps, rS9 89 2 ga gs asC, rS9 38 3 v4 m.ss sgC, rS9 94 4 v8 m.ms mmC, boxE b11 #[v4, ga, gx, v8] 35, boxE b2 #[.slice none 0 0, .slice none 0 0, .slice none 0 0, .slice none 0 0] 35, boxE b1 #[m.sv, m.av, m.iv, m.mv] 35]) C 12 [0, 1, 2, 3, 4, 5, 6, 7, 8, 9, 10, 11] (List.take 12 _) (List.drop 12 _) [[], [0], [], [2], [], [4], [], [], [7], [6, 8], [3, 5, 9], [9, 10]] [some 54, some 55, some 56, some 57, some 58, some 59, some 60, some 61, some 62, some 63, some 64, some 65] (fun i_ vs_ v_ p_ => match i_ with | 0 => v_ = .pointer (some ⟨b11, 0 + 2, none⟩) ∧ p_ = [] | 1 => v_ = gx ∧ p_ = [] | 2 => v_ = .pointer (some ⟨b25, 0 + 0, none⟩) ∧ p_ = [] | 3 => v_ = jI ((m.xs.getD j ix0).m) ∧ p_ = [] | 4 => v_ = .pointer (some ⟨b25, 0 + 1, none⟩) ∧ p_ = [] | 5 => v_ = jI ((m.xs.getD j ix0).p) ∧ p_ = [] | 6 => IsRow 3 1 0 ([]) v_ p_ | 7 => v_ = .pointer (some ⟨b25, 0 + 2, none⟩) ∧ p_ = [] | 8 => v_ = (m.xs.getD j ix0).pv ∧ p_ = [] | 9 => (∃ pm_, p_ = [pm_] ∧ (fun u_ p_ => p_ = rowE 3 1 u_ (((m.xs.getD j ix0).ps).length) (mI ((m.xs.getD j ix0).ps))) v_ pm_) | 10 => v_ = .agg #[jI ((m.xs.getD j ix0).m), jI ((m.xs.getD j ix0).p), (gV9 vs_ 2)] ∧ p_ = [] | 11 => IsRow 63 3 1 ([jI ((m.xs.getD j ix0).m), jI ((m.xs.getD j ix0).p), (gV9 vs_ 0)]) v_ p_ | _ => True) [[], [0], [], [2], [], [4], [], [], [7], [8], [3, 5, 9], [9, 10]] [none, none, none, none, none, none, none, none, none, some 6, none, none] [] [0, 1, 2, 3, 4, 5, 7, 8, 9, 10, 11] 15 (List.take_append_drop 12 _).symm (by kernel_rfl) (by kernel_rfl) (by kernel_rfl) C C ?_ ?_
 refine ⟨?_, ?_, ?_, ?_, ?_, ?_, ?_, ?_, ?_, ?_, ?_, ?_, trivial⟩
 intro vf pf hmu hR
 refine cT [] [] C (cC (aU [3] C) ?_)
 exact bH (bM 2 C C C)
 intro vf pf hmu hR
 have e0 := hR 0 (by decide)
 refine cT [0] [0] C (bP (sk 54 (congrArg some e0.1) (aL _)) (List.sublist_append_right _ _) ?_)
 exact bH (aC C C C (aA 7 C C))
 intro vf pf hmu hR
 refine cT [] [] C (cC (aU [6] C) ?_)
 exact bH (bM 0 C C C)
 intro vf pf hmu hR
 have e2 := hR 2 (by decide)
 refine cT [2] [2] C (bP (sk 56 (congrArg some e2.1) (aL _)) (List.sublist_append_right _ _) ?_)
 exact bH (aC C C C (aA 0 C C))
 intro vf pf hmu hR
 refine cT [] [] C (cC (aU [6] C) ?_)
 exact bH (bM 1 C C C)
 intro vf pf hmu hR
 have e4 := hR 4 (by decide)
 refine cT [4] [4] C (bP (sk 58 (congrArg some e4.1) (aL _)) (List.sublist_append_right _ _) ?_)
 exact bH (aC C C C (aA 0 C C))
 intro vf pf hmu hR
 refine cT [] [] C (bP (aL _) (List.sublist_append_right _ _) ?_)
 exact dF (s := 1) C Try.underlying48 C
 intro vf pf hmu hR
 refine cT [] [] C (cC (aU [6] C) ?_)
 exact bH (bM 2 C C C)
 intro vf pf hmu hR
 have e7 := hR 7 (by decide)
 refine cT [7] [7] C (bP (sk 61 (congrArg some e7.1) (aL _)) (List.sublist_append_right _ _) ?_)
 exact bH (aC C C C (aA 0 C C))
 intro vf pf hmu hR
 have e6 : IsRow 3 1 0 ([]) (vf 6) (pf 6) := hR 6 (by decide)
 obtain ⟨g26, vE6, pE6⟩ := e6
 have e8 := hR 8 (by decide)
 refine Or.inl ⟨C, ?_⟩
 show RunM _ _ _ (pf 6) (([8] : List Nat).flatMap pf ++ _) (envOf3 _ vf [6, 8] ++ _) _ _
 rw [pE6]; rw [vE6]
 exact eE (sk 60 (congrArg some vE6) (sk 62 (congrArg some e8.1) (aL _))) (by simp only [e8.2, fS] <;> rfl) (iI (d := 0) (z := jI 0) (bytes := 8) (n' := ((m.xs.getD j ix0).ps).length) (xs' := (mI ((m.xs.getD j ix0).ps))) C Try.underlying48 C C C C (aD ((hr).p.at (k := j) (by omega))) (cQ _) (by first | omega | (simp; done) | (simp; omega)) (Nat.zero_add _) (List.nil_append _))
 intro vf pf hmu hR
 have e3 := hR 3 (by decide)
 have e5 := hR 5 (by decide)
 have e9 : (∃ pm_, (pf 9) = [pm_] ∧ (fun u_ p_ => p_ = rowE 3 1 u_ (((m.xs.getD j ix0).ps).length) (mI ((m.xs.getD j ix0).ps))) (vf 9) pm_) := hR 9 (by decide)
 obtain ⟨p28, pE9, R29⟩ := e9
 obtain ⟨v27, vE9⟩ : ∃ x, vf 9 = x := ⟨_, rfl⟩
 rw [vE9] at R29
 subst R29
 refine cT [3, 5, 9] [3, 5, 9] C (dJ (sk 57 (congrArg some e3.1) (sk 59 (congrArg some e5.1) (sk 63 (congrArg some vE9) (aL _)))) (by simp only [pE9, vE9, e3.2, e5.2, fS] <;> rfl) ?_)
 exact eB (bH (gO (cs := #[jI ((m.xs.getD j ix0).m), jI ((m.xs.getD j ix0).p), v27]) C C (fun w hm => Ao ((m.xs.getD j ix0).m) ((m.xs.getD j ix0).p) v27 ((aJ 0 C w hm).one)))) (fun _ _ h => ⟨h.1.trans (by show _ = (.agg #[jI ((m.xs.getD j ix0).m), jI ((m.xs.getD j ix0).p), (vf 9)] : Value); first | (rw [vE9]; done) | (rw [vE9]; rfl)), h.2⟩)
 intro vf pf hmu hR
 have e9 : (∃ pm_, (pf 9) = [pm_] ∧ (fun u_ p_ => p_ = rowE 3 1 u_ (((m.xs.getD j ix0).ps).length) (mI ((m.xs.getD j ix0).ps))) (vf 9) pm_) := hR 9 (by decide)
 obtain ⟨p28, pE9, R29⟩ := e9
 obtain ⟨v27, vE9⟩ : ∃ x, vf 9 = x := ⟨_, rfl⟩
 rw [vE9] at R29
 subst R29
 have e10 : (vf 10) = .agg #[jI ((m.xs.getD j ix0).m), jI ((m.xs.getD j ix0).p), (vf 9)] ∧ (pf 10) = [] := hR 10 (by decide)
 rw [vE9] at e10
 refine cT [9, 10] [9, 10] C (dJ (sk 64 (congrArg some e10.1) (aL _)) (by simp only [pE9, vE9, e10.2, fS] <;> rfl) ?_)
 exact eB (bB (z := .agg #[jI 0, jI 0, .slice none 0 0]) (s := 3) (cs := [jI ((m.xs.getD j ix0).m), jI ((m.xs.getD j ix0).p), v27]) C Try.underlying32 C (by decide) C (by kernel_rfl) C) (fun v_ p_ h => by show IsRow 63 3 1 ([jI ((m.xs.getD j ix0).m), jI ((m.xs.getD j ix0).p), (vf 9)]) v_ p_; rw [vE9]; exact h)
 intro vf pf hmu hR
 have e1 := hR 1 (by decide)
 have e6 : IsRow 3 1 0 ([]) (vf 6) (pf 6) := hR 6 (by decide)
 obtain ⟨g26, vE6, pE6⟩ := e6
 have e9 : (∃ pm_, (pf 9) = [pm_] ∧ (fun u_ p_ => p_ = rowE 3 1 u_ (((m.xs.getD j ix0).ps).length) (mI ((m.xs.getD j ix0).ps))) (vf 9) pm_) := hR 9 (by decide)
 obtain ⟨p28, pE9, R29⟩ := e9
 obtain ⟨v27, vE9⟩ : ∃ x, vf 9 = x := ⟨_, rfl⟩
 rw [vE9] at R29
 subst R29
 have e11 : IsRow 63 3 1 ([jI ((m.xs.getD j ix0).m), jI ((m.xs.getD j ix0).p), (vf 9)]) (vf 11) (pf 11) := hR 11 (by decide)
 rw [vE9] at e11
 obtain ⟨g30, vE11, pE11⟩ := e11
 have q0 := hR 0 (by decide)
 have q1 := hR 1 (by decide)
 have q2 := hR 2 (by decide)
 have q3 := hR 3 (by decide)
 have q4 := hR 4 (by decide)
 have q5 := hR 5 (by decide)
 have q7 := hR 7 (by decide)
 have q8 := hR 8 (by decide)
 have q10 := hR 10 (by decide)
 refine dV (dB [46, 20, 6, 5, 3, 2, 1, 0] _ (sk 55 (congrArg some e1.1) (sk 65 (congrArg some vE11) (aL _))) C) (by simp only [pE9, vE9, pE11, vE11, q0.2, q1.2, q2.2, q3.2, q4.2, q5.2, q7.2, q8.2, q10.2, fS] <;> rfl) ?_
 simp only [List.drop_succ_cons, List.drop_zero]
 refine cS (i := 0) C (fun ho31 => ?_)
 refine cW (i := 4) (z := .agg #[jI 0, jI 0, .slice none 0 0]) (bytes := 40) C C C C Try.underlying32 (by kernel_rfl) C C C C (aJ 1 C) (aB C (aB C (aB ho31 bC))) (by first | omega | (simp only [List.length_append, List.length_cons, List.length_nil]; omega)) (cM xs [(Ix.mk ((m.xs.getD j ix0).m) ((m.xs.getD j ix0).p) v27 (m.xs.getD j ix0).ps)]) (dM ixC xs (Ix.mk ((m.xs.getD j ix0).m) ((m.xs.getD j ix0).p) v27 (m.xs.getD j ix0).ps) _ C) (fun _ => C) ?_
 intro v32
 refine aI C (bM 2 C C C) (cS (i := 4) C (fun ho33 => ?_))
 refine eZ (i := 9) (cs' := #[v4, ga, v32, v8]) C C C C C C ho33 C C C C (bK (cK (cG 1 C (aI C (dO C C C) (dA 1 C ?_)))))
 refine cD 12 [11, 10, 9, 8, 7, 6, 5, 4, 2, 0, 3] C C (by decide) ?_
 refine dE 2 C ?_
 exact eR (j + 1) v32 (xs ++ [(Ix.mk ((m.xs.getD j ix0).m) ((m.xs.getD j ix0).p) v27 (m.xs.getD j ix0).ps)]) [bigE qs, rowE 3 1 v27 (((m.xs.getD j ix0).ps).length) (mI ((m.xs.getD j ix0).ps))] ⟨by omega, by rw [List.map_append, hxq, eU ix0 (show j < m.xs.length by omega), List.map_append]; rfl, fun w hw => (hq w (bO hw dX)).app (cZ (bO hw (eI dX)))⟩ (by omega) (cN rfl) (eO [0, 1, 0, 0, 0, 0, 0, 0, 0] rfl)
 refine bQ (aS C ?_)
 refine bI (dC ?_)
 refine aM (aR (cA (aI C (aW (cs := [v4, ga, gx, v8]) C C C C C (aT 6 C 0 C)) ?_)))
 refine cS (i := 1) C (fun ho34 => ?_)
 refine cS (i := 3) C (fun ho35 => ?_)
 refine bE (cs' := #[v4, ga, gx, v8]) (i := 7) (off := 0) (us := [v4, ga, gx, v8]) C C C C C C C (aB ho13 (aB ho35 (aB ho34 (aB ho12 bC)))) C C C (bQ ?_)
 refine aN (fV (p := v4.oneCell' = true ∧ ga.oneCell' = true ∧ gx.oneCell' = true ∧ v8.oneCell' = true) (fun w hm => ⟨(aJ 4 C w hm).one, (aJ 3 C w hm).one, (aJ 1 C w hm).one, (aJ 5 C w hm).one⟩) (fun ho9 => ?_))
 refine cD 9 [8, 7, 6, 0, 2, 1, 3, 5, 4] C C (by decide) ?_
 refine dE 6 C ?_
 exact cH (rs := [.cell 2 35]) (vs := [.agg #[v4, ga, gx, v8]]) (post := [bigE [rS9 38 3 v4 m.ss sgC, rS9 94 4 v8 m.ms mmC, rS9 89 2 ga gs asC, rS9 63 3 gx xs ixC, bigE ps, bigE qs]]) rfl ⟨⟨b2, 0, [v4, ga, gx, v8], rfl, rfl, by kernel_rfl, by kernel_rfl, aT 2 rfl 0 rfl⟩, trivial⟩ rfl (eO [0] rfl) ⟨Md.mk v4 ga gx v8 m.ss gs xs m.ms, [rS9 38 3 v4 m.ss sgC, rS9 94 4 v8 m.ms mmC, rS9 89 2 ga gs asC, rS9 63 3 gx xs ixC, bigE ps, bigE qs], rfl, rfl, fun w hw => ⟨cZ (bO hw dX), cZ (bO hw (eI (eI dX))), hp w (bO hw (eI (eI (eI (eI dX))))), cZ (bO hw (eI (eI (eI dX)))), hq w (bO hw (eI (eI (eI (eI (eI dX)))))), cZ (bO hw (eI dX))⟩, ho9, ⟨rfl, by rw [hgq, List.take_of_length_le (by omega)], by rw [hxq, List.take_of_length_le (by omega)], rfl⟩⟩
theorem gs_ok {D : List Md} {k : Nat} (h : ModP D k) {g : As} (hg : g ∈ (D.getD k md0).gs) : AsP (D.getD k md0) g := by
  obtain ⟨i, hi, e⟩ := List.getElem_of_mem hg
  have := h.gs i hi
  rw [List.getD_eq_getElem?_getD (l := (D.getD k md0).gs), List.getElem?_eq_getElem hi, Option.getD_some, e] at this; exact this
theorem ps_ok {D : List Md} {k : Nat} (h : ModP D k) {x : Ix} (hx : x ∈ (D.getD k md0).xs) : x.ps.length ≤ 30 := by
  obtain ⟨i, hi, e⟩ := List.getElem_of_mem hx
  have h1 := (h.ins i hi).2
  rw [List.getD_eq_getElem?_getD (l := (D.getD k md0).xs), List.getElem?_eq_getElem hi, Option.getD_some, e] at h1
  have h2 := iD (D.getD x.m.toNat md0)
  omega
theorem qA (D : List Md) (k : Nat) (v : Value) (w : World) (hd : RdsDs w v D) (hk : k < D.length) (hdes : DesP D) :
   Calls Try.prog 13 #[.agg #[v], .int .i64 (k : Int)] w (Ret w (fun u_ p_ => ∃ (E : List Md) (v' : Value) (ps : List HP), u_ = .tuple #[.agg #[v'], .bool true] ∧ p_ = [rS9 35 4 v' E mdC, bigE ps] ∧ E.length = k + 1 ∧ (∀ q, q ≤ k → EqM (E.getD q md0) (D.getD q md0)) ∧ (∀ w, (bigE ps).holds w → ∀ m ∈ E, RdsMd w m) ∧ v'.oneCell' = true)) := by
 have hd9 := gL hd.row
 have hdl4 := hdes.1.2
 refine bW (N := 41) (args := [.agg #[v], jI (k : Int)]) Try.func13 C C (cA ?_)
 refine cL C (cY C C) ?_
 intro b1
 refine cL C (bG (z := .agg #[.slice none 0 0]) C C) ?_
 intro b2
 refine aP 1 C (eM (aI C (aW (cs := [v]) C C C C C (aT 1 C 0 C)) ?_))
 refine dW C (aV C C (fun w hm => bJ (by have h9 := iH D v w (hd.below hm.bel); rw [dG hdes] at h9; exact h9))) (aH 3 C ?_)
 refine bN C C C C C C (fun h3 => ?_) (fun h3 => ?_)
 refine aP 8 C (aK C (cA (aI C (cU (cs := #[.slice none 0 0]) C C C) ?_)))
 refine bE (cs' := #[.slice none 0 0]) (i := 0) (off := 0) (us := [.slice none 0 0]) C C C C C C C (aB C bC) C C C (aP 1 C ?_)
 refine aN (aG ?_)
 exfalso; omega
 refine aH 3 C (aI C (bM 0 C C C) (aI C (aC C C C (aA 1 C C)) (aI C (dL C C C (aD hd.row)) ?_)))
 refine iU C C C C C C (fun h4 => ?_) (fun h4 => ?_)
 refine aP 1 C (aK C (cA (aI C (cU (cs := #[.slice none 0 0]) C C C) ?_)))
 refine bE (cs' := #[.slice none 0 0]) (i := 0) (off := 0) (us := [.slice none 0 0]) C C C C C C C (aB C bC) C C C (aP 1 C ?_)
 refine aN (aG ?_)
 exfalso; omega
 refine aP 1 C (aS C (cE (cA (aI C (cU (cs := #[.slice none 0 0]) C C C) ?_))))
 refine cL C (bG (z := .agg #[.slice none 0 0]) C C) ?_
 intro b5
 refine bE (cs' := #[.slice none 0 0]) (i := 0) (off := 0) (us := [.slice none 0 0]) C C C C C C C (aB C bC) C C C (bQ (aF (bA 1 C (bD ?_))))
 refine fB [bigE [], rowE 35 4 (.slice none 0 0) (([] : List Md).length) (([] : List Md).flatMap mdC), boxE b5 #[.slice none 0 0] 26, boxE b2 #[.slice none 0 0] 26, boxE b1 #[v] 26] (fun w hm => Mem.big (ps := []) (hm.nilRow 35 4)) ?_
 refine lZ (α := Nat) (β := List Md) (γ := Value) (δ := List HP) [0, 1, 2, 4, 5, 6, 21] C (fun i E v' ps => [bigE ps, rS9 35 4 v' E mdC, boxE b5 #[v'] 26, boxE b2 #[.slice none 0 0] 26, boxE b1 #[v] 26]) (fun i E v' ps => [(7, jI (i : Int))]) (fun i E v' ps => i ≤ k + 1 ∧ E.length = i ∧ (∀ q, q < i → EqM (E.getD q md0) (D.getD q md0)) ∧ ∀ w, (bigE ps).holds w → ∀ m ∈ E, RdsMd w m) (fun i E v' ps => k + 1 - i) 0 [] _ [] ⟨by omega, C, fun q hq => absurd hq (by omega), fun w _ m hm => (by cases hm)⟩ (cN C) (eT C) ?_
 intro i E v' ps hi6
 obtain ⟨hi, hel, heq, hp⟩ := hi6
 refine aF (aF (cG 2 C ?_))
 refine jD C C C C C C (fun h7 => ?_) (fun h7 => ?_)
 refine bQ (aK C (cE (fD ?_)))
 refine hS C 9 [0, 1, 2, 3, 4, 5, 6, 7, 8] (List.take 9 _) (List.drop 9 _) [[], [0], [], [2], [], [3, 4], [5], [6], [7]] [29, 30, 31, 32, 33, 34, 35, 36, 37] (fun i_ vs_ v_ p_ => match i_ with | 0 => v_ = .pointer (some ⟨b5, 0 + 0, none⟩) ∧ p_ = [] | 1 => v_ = v' ∧ p_ = [] | 2 => v_ = .pointer (some ⟨b1, 0 + 0, none⟩) ∧ p_ = [] | 3 => v_ = v ∧ p_ = [] | 4 => v_ = jI (i : Int) ∧ p_ = [] | 5 => v_ = elP v ((i : Int).toNat * 4) ∧ p_ = [] | 6 => v_ = .agg #[(D.getD i md0).sv, (D.getD i md0).av, (D.getD i md0).iv, (D.getD i md0).mv] ∧ p_ = [] | 7 => (fun u_ p_ => ∃ (m' : Md) (ps : List HP), u_ = m'.agg ∧ p_ = [bigE ps] ∧ (∀ w, (bigE ps).holds w → RdsMd w m') ∧ MdOne m' ∧ EqM m' (D.getD i md0)) v_ p_ | 8 => IsRow 35 4 1 ([(agK 0 (gV9 vs_ 0)), (agK 1 (gV9 vs_ 0)), (agK 2 (gV9 vs_ 0)), (agK 3 (gV9 vs_ 0))]) v_ p_ | _ => True) (List.take_append_drop 9 _).symm (by kernel_rfl) (by kernel_rfl) C C ?_ ?_
 refine ⟨?_, ?_, ?_, ?_, ?_, ?_, ?_, ?_, ?_, trivial⟩
 intro vf pf hR
 exact jJ C (aU [6] C) (bH (bM 0 C C C))
 intro vf pf hR
 have e0 := hR 0 (by decide)
 exact gR C (sk 29 (congrArg some e0.1) (aL _)) (bH (aC C C C (aA 2 C C)))
 intro vf pf hR
 exact jJ C (aU [2] C) (bH (bM 0 C C C))
 intro vf pf hR
 have e2 := hR 2 (by decide)
 exact gR C (sk 31 (congrArg some e2.1) (aL _)) (bH (aC C C C (aA 4 C C)))
 intro vf pf hR
 exact jJ C (aU [7] C) (bH (aY C))
 intro vf pf hR
 have e3 := hR 3 (by decide)
 have e4 := hR 4 (by decide)
 exact gR C (sk 32 (congrArg some e3.1) (sk 33 (congrArg some e4.1) (aL _))) (bH (cR 4 C C C C (aD hd.row)))
 intro vf pf hR
 have e5 := hR 5 (by decide)
 exact gR C (sk 34 (congrArg some e5.1) (aL _)) (bH (bL (us := [(D.getD i md0).sv, (D.getD i md0).av, (D.getD i md0).iv, (D.getD i md0).mv]) C C C C (aD hd.row) (by omega) C (bY mdC 4 (fun _ => C) D md0 (show i < _ by omega) C)))
 intro vf pf hR
 have e6 := hR 6 (by decide)
 exact gR C (sk 35 (congrArg some e6.1) (aL _)) (aV C C (fun w hm => tT (D.getD i md0) w ((hd.at (k := i) (by omega)).below hm.bel) ((hdes.2 i (by omega)).cnt.md i (by omega)) (fun g9 hg9 => (gs_ok (hdes.2 i (by omega)) hg9).2.len) (fun x9 hx9 => ps_ok (hdes.2 i (by omega)) hx9)))
 intro vf pf hR
 have e7 : (fun u_ p_ => ∃ (m' : Md) (ps : List HP), u_ = m'.agg ∧ p_ = [bigE ps] ∧ (∀ w, (bigE ps).holds w → RdsMd w m') ∧ MdOne m' ∧ EqM m' (D.getD i md0)) (vf 7) (pf 7) := hR 7 (by decide)
 obtain ⟨v8, vE7⟩ : ∃ x, vf 7 = x := ⟨_, rfl⟩
 obtain ⟨p9, pE7⟩ : ∃ x, pf 7 = x := ⟨_, rfl⟩
 have R10 := e7
 rw [vE7, pE7] at R10
 obtain ⟨m10, mp10, rfl, rfl, hmp10, hmo10, heq10⟩ := R10
 refine Or.inl ⟨C, ?_⟩
 exact dJ (sk 36 (congrArg some vE7) (aL _)) (by simp only [pE7, vE7, fS] <;> rfl) (eB (bB (z := .agg #[.slice none 0 0, .slice none 0 0, .slice none 0 0, .slice none 0 0]) (s := 4) (cs := [m10.sv, m10.av, m10.iv, m10.mv]) C Try.underlying24 C (by decide) C (by kernel_rfl) C) (fun v_ p_ h => by show IsRow 35 4 1 ([(agK 0 (vf 7)), (agK 1 (vf 7)), (agK 2 (vf 7)), (agK 3 (vf 7))]) v_ p_; rw [vE7]; exact h))
 intro vf pf hR
 have e1 := hR 1 (by decide)
 have e7 : (fun u_ p_ => ∃ (m' : Md) (ps : List HP), u_ = m'.agg ∧ p_ = [bigE ps] ∧ (∀ w, (bigE ps).holds w → RdsMd w m') ∧ MdOne m' ∧ EqM m' (D.getD i md0)) (vf 7) (pf 7) := hR 7 (by decide)
 obtain ⟨v8, vE7⟩ : ∃ x, vf 7 = x := ⟨_, rfl⟩
 obtain ⟨p9, pE7⟩ : ∃ x, pf 7 = x := ⟨_, rfl⟩
 have R10 := e7
 rw [vE7, pE7] at R10
 obtain ⟨m10, mp10, rfl, rfl, hmp10, hmo10, heq10⟩ := R10
 have e8 : IsRow 35 4 1 ([(agK 0 (vf 7)), (agK 1 (vf 7)), (agK 2 (vf 7)), (agK 3 (vf 7))]) (vf 8) (pf 8) := hR 8 (by decide)
 rw [vE7] at e8
 obtain ⟨g11, vE8, pE8⟩ := e8
 have q0 := hR 0 (by decide)
 have q1 := hR 1 (by decide)
 have q2 := hR 2 (by decide)
 have q3 := hR 3 (by decide)
 have q4 := hR 4 (by decide)
 have q5 := hR 5 (by decide)
 have q6 := hR 6 (by decide)
 refine dV (dB [26, 21, 7, 6, 5, 4, 2, 1, 0] _ (sk 30 (congrArg some e1.1) (sk 37 (congrArg some vE8) (aL _))) C) (by simp only [pE7, vE7, pE8, vE8, q0.2, q1.2, q2.2, q3.2, q4.2, q5.2, q6.2, fS] <;> rfl) ?_
 simp only [List.drop_succ_cons, List.drop_zero]
 refine cW (i := 3) (z := .agg #[.slice none 0 0, .slice none 0 0, .slice none 0 0, .slice none 0 0]) (bytes := 96) C C C C Try.underlying24 (by kernel_rfl) C C C C (aJ 1 C) (aB hmo10.1 (aB hmo10.2.1 (aB hmo10.2.2.1 (aB hmo10.2.2.2 bC)))) (by first | omega | (simp only [List.length_append, List.length_cons, List.length_nil]; omega)) (cM E [m10]) (dM mdC E m10 _ C) (fun _ => C) ?_
 intro v12
 refine aI C (bM 0 C C C) (cS (i := 3) C (fun ho13 => ?_))
 refine eZ (i := 4) (cs' := #[v12]) C C C C C C ho13 C C C C (bK (cK (cG 1 C (aI C (dO C C C) (dA 1 C ?_)))))
 refine cD 7 [6, 5, 4, 3, 0, 2] C C (by decide) ?_
 refine dE 2 C ?_
 exact eR (i + 1) (E ++ [m10]) v12 [bigE ps, bigE mp10] ⟨by omega, by rw [List.length_append, List.length_singleton]; omega, fun q9 hq9 => by by_cases e9 : q9 < E.length; (rw [iN e9]; exact heq q9 (by omega)); (obtain rfl : q9 = E.length := by omega); (rw [kK, hel]; exact heq10), fun w hw m9 hm9 => (List.mem_append.1 hm9).elim (fun h8 => hp w (bO hw dX) m9 h8) (fun h8 => by rw [List.mem_singleton] at h8; subst h8; exact hmp10 w (bO hw (eI dX)))⟩ (by omega) (cN rfl) (eT rfl)
 refine bQ (aS C ?_)
 refine bI (dC ?_)
 refine aM (aR (cA (aI C (aW (cs := [v']) C C C C C (aT 2 C 0 C)) ?_)))
 refine cS (i := 1) C (fun ho14 => ?_)
 refine bE (cs' := #[v']) (i := 3) (off := 0) (us := [v']) C C C C C C C (aB ho14 bC) C C C (aP 1 C ?_)
 refine aN (fV (fun w hm => (aJ 1 C w hm).one) (fun ho9 => ?_))
 refine cD 5 [4, 3, 2, 0, 1] C C (by decide) ?_
 exact cH (rs := [.cell 4 26, .tmp 5]) (vs := [.agg #[v'], .bool true]) (post := [rS9 35 4 v' E mdC, bigE ps]) C ⟨⟨b2, 0, [v'], C, C, by kernel_rfl, by kernel_rfl, aT 3 C 0 C⟩, C, trivial⟩ C (eO [0, 0] C) ⟨E, v', ps, C, C, by omega, fun q hq => heq q (by omega), hp, ho9⟩
end Go.Proofs.Ytodiifjigjnalaa
