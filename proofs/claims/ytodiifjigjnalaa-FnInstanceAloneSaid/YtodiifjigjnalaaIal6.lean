/- Texts of the law FnInstanceAlone, part 6: what it uses. -/
import Derived.Test.YtodiifjigjnalaaIal5
set_option linter.unusedVariables false
set_option linter.unusedSimpArgs false
set_option maxHeartbeats 4000000
set_option maxRecDepth 100000
namespace Go.Proofs.Ytodiifjigjnalaa
open Go.RowKit Go.ChangeShapes
open Go.RowKit
theorem oC (m : Md) (rs : List CRow) (ui : Value) (w : World) (hr : RdsMd w m) (hfl : FlP m) (hn : RdsCl w ui rs) (hI : InI m (rs.map CRow.xs)) :
   Calls Try.prog 33 #[.agg #[m.sv, m.av, m.iv, m.mv], ui] w (Ret w (fun u_ p_ => ∃ (os9 : List CRow) (ps9 : List HP), p_ = [bigE ps9] ∧ (∀ w, (bigE ps9).holds w → RdsCl w u_ os9) ∧ u_.oneCell' = true ∧ os9.map CRow.xs = (trK m (rs.map CRow.xs)).map (ouK m))) := by
 have hln := hfl.lens
 have hI1 := hI.1
 rw [List.length_map] at hI1
 refine bW (N := 40) (args := [.agg #[m.sv, m.av, m.iv, m.mv], ui]) Try.func33 C C (cA ?_)
 refine cL C (cY C C) ?_
 intro b1
 refine eC 48 1 ?_
 refine dY (l' := [rowE 48 1 (.slice none 0 0) (([] : List CRow).length) (([] : List CRow).flatMap crowC), boxE b1 #[m.sv, m.av, m.iv, m.mv] 35]) C ?_
 refine aP 1 C (cA ?_)
 refine eA C (dF (s := 1) C Try.underlying44 C) ?_
 intro g3
 refine aP 1 C (eM (aI C (aW (cs := [m.sv, m.av, m.iv, m.mv]) C C C C C (aT 2 C 0 C)) (aH 1 C ?_)))
 refine dW C (aV C C (fun w hm => bJ (sA m rs _ w (hr.below hm.bel) hfl (hn.below hm.bel) hI))) (aP 1 C (aS C (cE (cA (aI C (aW (cs := [m.sv, m.av, m.iv, m.mv]) C C C C C (aT 2 C 0 C)) ?_)))))
 refine fC C C C (aV C C (fun w hm => mK m w (hr.below hm.bel) hfl)) ?_
 intro v4 p5 R6
 obtain ⟨sa6, sb6, rfl, rfl⟩ := R6
 refine cL C (bG (z := .agg #[.slice none 0 0, .slice none 0 0]) C C) ?_
 intro b7
 refine cS (i := 2) C (fun ho8 => ?_)
 refine cS (i := 1) C (fun ho9 => ?_)
 refine bE (cs' := #[sa6, sb6]) (i := 0) (off := 0) (us := [sa6, sb6]) C C C C C C C (aB ho9 (aB ho8 bC)) C C C (bQ (aF (bA 1 C (bD ?_))))
 refine fB [bigE [], boxE b7 #[sa6, sb6] 50, rowE 3 1 sa6 ((staV m).length) (mI (staV m)), rowE 3 1 sb6 ((staW m).length) (mI (staW m)), rowE 48 1 (.slice (some ⟨g3, 0, none⟩) 0 0) 0 ([]), rowE 48 1 (.slice none 0 0) (([] : List CRow).length) (([] : List CRow).flatMap crowC), boxE b1 #[m.sv, m.av, m.iv, m.mv] 35] dT ?_
 refine iR (α := Nat) (β := List CRow) (γ := Value) (δ := Value × Value) (fun i os tv q ps => [bigE ps, boxE b7 #[q.1, q.2] 50, rowE 3 1 q.1 (((stT m (rs.map CRow.xs) i).1).length) (mI ((stT m (rs.map CRow.xs) i).1)), rowE 3 1 q.2 (((stT m (rs.map CRow.xs) i).2).length) (mI ((stT m (rs.map CRow.xs) i).2)), rS9 48 1 tv os crowC, boxE b1 #[m.sv, m.av, m.iv, m.mv] 35]) (fun i os tv q ps => [(0, .agg #[m.sv, m.av, m.iv, m.mv]), (1, ui), (2, pI b1), (4, .slice none 0 0), (5, tv), (6, pI b7), (7, jI (i : Int)), (14, .bool false)]) (fun i os tv q ps => i ≤ rs.length ∧ os.map CRow.xs = (trA m (rs.map CRow.xs) i).map (ouK m) ∧ ∀ w, (bigE ps).holds w → ∀ q ∈ os, RdsW w q.v 1 q.xs.length (mI q.xs)) (fun i os tv q ps => rs.length - i) 0 [] _ (sa6, sb6) [] ⟨Nat.zero_le _, C, fun w hw q hq => (by cases hq)⟩ (aU [14, 7, 6, 5, 4, 2, 1, 0] C) (eO [0, 0, 0, 0, 0, 1] C) ?_
 intro i os tv q ps hi10
 obtain ⟨hi, hos, hp⟩ := hi10
 have hol := Ba hos
 have hst := iT hfl (rs.map CRow.xs) i
 have hvo := lS hfl (rs.map CRow.xs) i
 refine aF (aF (cG 2 C (aI C (dL C C C (aD hn.row)) ?_)))
 refine bN C C C C C C (fun h11 => ?_) (fun h11 => ?_)
 refine bQ (aK C (cE (fD (aF ?_))))
 have hai := hI.at (show i < rs.length by omega)
 refine iF (l := [bigE ps, boxE b7 #[q.1, q.2] 50, rowE 3 1 q.1 (((stT m (rs.map CRow.xs) i).1).length) (mI ((stT m (rs.map CRow.xs) i).1)), rowE 3 1 q.2 (((stT m (rs.map CRow.xs) i).2).length) (mI ((stT m (rs.map CRow.xs) i).2)), rS9 48 1 tv os crowC, boxE b1 #[m.sv, m.av, m.iv, m.mv] 35]) C 12 [0, 1, 2, 3, 4, 5, 6, 7, 8, 9, 10, 11] (List.take 12 _) (List.drop 12 _) [[], [], [], [], [2, 3], [4], [0, 1, 5], [6], [6, 7], [6, 7], [], [6, 8, 10]] [some 25, some 26, some 27, some 28, some 29, some 30, some 31, some 24, some 32, some 33, some 8, none] (fun i_ vs_ v_ p_ => match i_ with | 0 => v_ = .agg #[m.sv, m.av, m.iv, m.mv] ∧ p_ = [] | 1 => v_ = .agg #[q.1, q.2] ∧ p_ = [] | 2 => v_ = ui ∧ p_ = [] | 3 => v_ = jI (i : Int) ∧ p_ = [] | 4 => v_ = elP ui ((i : Int).toNat * 1) ∧ p_ = [] | 5 => v_ = (rs.getD i crow0).v ∧ p_ = [] | 6 => (fun u_ p_ => ∃ a9 b9 c9, u_ = .tuple #[.agg #[a9, b9], c9] ∧ p_ = [rI9 3 a9 (nxV m (stT m (rs.map CRow.xs) i).2 (vlT m (rs.map CRow.xs) i)), rI9 3 b9 (nxW m (stT m (rs.map CRow.xs) i).2 (vlT m (rs.map CRow.xs) i)), rI9 3 c9 (ouK m (vlT m (rs.map CRow.xs) i))] ∧ a9.oneCell' = true ∧ b9.oneCell' = true ∧ c9.oneCell' = true) v_ p_ | 7 => v_ = .tuple #[.agg #[(agK 0 (tpI 0 (gV9 vs_ 0))), (agK 1 (tpI 0 (gV9 vs_ 0)))], (tpI 1 (gV9 vs_ 0))] ∧ p_ = [] | 8 => v_ = .agg #[(agK 0 (tpI 0 (gV9 vs_ 0))), (agK 1 (tpI 0 (gV9 vs_ 0)))] ∧ p_ = [] | 9 => v_ = (tpI 1 (gV9 vs_ 0)) ∧ p_ = [] | 10 => IsBox #[.slice none 0 0, .slice none 0 0] 50 v_ p_ | 11 => p_ = [boxE (blkOf (gV9 vs_ 2)) #[(agK 0 (tpI 0 (gV9 vs_ 0))), (agK 1 (tpI 0 (gV9 vs_ 0)))] 50] | _ => True) [[], [], [], [], [2, 3], [4], [0, 1, 5], [6], [6, 7], [6, 7], [], [6, 8]] [none, none, none, none, none, none, none, none, none, none, none, some 10] [] [0, 1, 2, 3, 4, 5, 6, 7, 8, 9, 11] 13 (List.take_append_drop 12 _).symm (by kernel_rfl) (by kernel_rfl) (by kernel_rfl) C C ?_ ?_
 refine ⟨?_, ?_, ?_, ?_, ?_, ?_, ?_, ?_, ?_, ?_, ?_, ?_, trivial⟩
 intro vf pf hmu hR
 refine cT [] [] C (bP (aU [2] C) (List.sublist_append_right _ _) ?_)
 exact bH (aW (cs := [m.sv, m.av, m.iv, m.mv]) C C C C C (aT 5 C 0 C))
 intro vf pf hmu hR
 refine cT [] [] C (bP (aU [6] C) (List.sublist_append_right _ _) ?_)
 exact bH (aW (cs := [q.1, q.2]) C C C C C (aT 1 C 0 C))
 intro vf pf hmu hR
 refine cT [] [] C (cC (aU [1] C) ?_)
 exact bH (aY C)
 intro vf pf hmu hR
 refine cT [] [] C (cC (aU [7] C) ?_)
 exact bH (aY C)
 intro vf pf hmu hR
 have e2 := hR 2 (by decide)
 have e3 := hR 3 (by decide)
 refine cT [2, 3] [2, 3] C (bP (sk 27 (congrArg some e2.1) (sk 28 (congrArg some e3.1) (aL _))) (List.sublist_append_right _ _) ?_)
 exact bH (cR 1 C C C C (aD hn.row))
 intro vf pf hmu hR
 have e4 := hR 4 (by decide)
 refine cT [4] [4] C (bP (sk 29 (congrArg some e4.1) (aL _)) (List.sublist_append_right _ _) ?_)
 exact bH (aQ (u := (rs.getD i crow0).v) C C C (aD hn.row) (gB crowC (fun r => r.v) (fun _ => C) rs crow0 (show i < _ by omega)))
 intro vf pf hmu hR
 have e0 := hR 0 (by decide)
 have e1 := hR 1 (by decide)
 have e5 := hR 5 (by decide)
 refine cT [0, 1, 5] [0, 1, 5] C (bP (sk 25 (congrArg some e0.1) (sk 26 (congrArg some e1.1) (sk 30 (congrArg some e5.1) (aL _)))) (List.sublist_append_right _ _) ?_)
 exact aV C C (fun w hm => by have h9 := nH m (stT m (rs.map CRow.xs) i).1 (stT m (rs.map CRow.xs) i).2 (rs.getD i crow0).xs _ _ _ w (hr.below hm.bel) hfl hst ((aJ 2 rfl) w hm) ((aJ 3 rfl) w hm) ((aD (hn.at (k := i) (by omega))) w hm) hai; rw [vl_atS] at h9; exact h9)
 intro vf pf hmu hR
 have e6 : (fun u_ p_ => ∃ a9 b9 c9, u_ = .tuple #[.agg #[a9, b9], c9] ∧ p_ = [rI9 3 a9 (nxV m (stT m (rs.map CRow.xs) i).2 (vlT m (rs.map CRow.xs) i)), rI9 3 b9 (nxW m (stT m (rs.map CRow.xs) i).2 (vlT m (rs.map CRow.xs) i)), rI9 3 c9 (ouK m (vlT m (rs.map CRow.xs) i))] ∧ a9.oneCell' = true ∧ b9.oneCell' = true ∧ c9.oneCell' = true) (vf 6) (pf 6) := hR 6 (by decide)
 obtain ⟨v12, vE6⟩ : ∃ x, vf 6 = x := ⟨_, rfl⟩
 obtain ⟨p13, pE6⟩ : ∃ x, pf 6 = x := ⟨_, rfl⟩
 have R14 := e6
 rw [vE6, pE6] at R14
 obtain ⟨na14, nb14, nc14, rfl, rfl, hna14, hnb14, hnc14⟩ := R14
 refine cT [6] [6] C (dJ (sk 31 (congrArg some vE6) (aL _)) (by simp only [pE6, vE6, fS] <;> rfl) ?_)
 exact eB (bH (aY C)) (fun _ _ h => ⟨h.1.trans (by show _ = (.tuple #[.agg #[(agK 0 (tpI 0 (vf 6))), (agK 1 (tpI 0 (vf 6)))], (tpI 1 (vf 6))] : Value); first | (rw [vE6]; done) | (rw [vE6]; rfl)), h.2⟩)
 intro vf pf hmu hR
 have e6 : (fun u_ p_ => ∃ a9 b9 c9, u_ = .tuple #[.agg #[a9, b9], c9] ∧ p_ = [rI9 3 a9 (nxV m (stT m (rs.map CRow.xs) i).2 (vlT m (rs.map CRow.xs) i)), rI9 3 b9 (nxW m (stT m (rs.map CRow.xs) i).2 (vlT m (rs.map CRow.xs) i)), rI9 3 c9 (ouK m (vlT m (rs.map CRow.xs) i))] ∧ a9.oneCell' = true ∧ b9.oneCell' = true ∧ c9.oneCell' = true) (vf 6) (pf 6) := hR 6 (by decide)
 obtain ⟨v12, vE6⟩ : ∃ x, vf 6 = x := ⟨_, rfl⟩
 obtain ⟨p13, pE6⟩ : ∃ x, pf 6 = x := ⟨_, rfl⟩
 have R14 := e6
 rw [vE6, pE6] at R14
 obtain ⟨na14, nb14, nc14, rfl, rfl, hna14, hnb14, hnc14⟩ := R14
 have e7 : (vf 7) = .tuple #[.agg #[(agK 0 (tpI 0 (vf 6))), (agK 1 (tpI 0 (vf 6)))], (tpI 1 (vf 6))] ∧ (pf 7) = [] := hR 7 (by decide)
 rw [vE6] at e7
 refine cT [6, 7] [6, 7] C (dJ (sk 24 (congrArg some e7.1) (aL _)) (by simp only [pE6, vE6, e7.2, fS] <;> rfl) ?_)
 exact eB (bH (aY C)) (fun _ _ h => ⟨h.1.trans (by show _ = (.agg #[(agK 0 (tpI 0 (vf 6))), (agK 1 (tpI 0 (vf 6)))] : Value); first | (rw [vE6]; done) | (rw [vE6]; rfl)), h.2⟩)
 intro vf pf hmu hR
 have e6 : (fun u_ p_ => ∃ a9 b9 c9, u_ = .tuple #[.agg #[a9, b9], c9] ∧ p_ = [rI9 3 a9 (nxV m (stT m (rs.map CRow.xs) i).2 (vlT m (rs.map CRow.xs) i)), rI9 3 b9 (nxW m (stT m (rs.map CRow.xs) i).2 (vlT m (rs.map CRow.xs) i)), rI9 3 c9 (ouK m (vlT m (rs.map CRow.xs) i))] ∧ a9.oneCell' = true ∧ b9.oneCell' = true ∧ c9.oneCell' = true) (vf 6) (pf 6) := hR 6 (by decide)
 obtain ⟨v12, vE6⟩ : ∃ x, vf 6 = x := ⟨_, rfl⟩
 obtain ⟨p13, pE6⟩ : ∃ x, pf 6 = x := ⟨_, rfl⟩
 have R14 := e6
 rw [vE6, pE6] at R14
 obtain ⟨na14, nb14, nc14, rfl, rfl, hna14, hnb14, hnc14⟩ := R14
 have e7 : (vf 7) = .tuple #[.agg #[(agK 0 (tpI 0 (vf 6))), (agK 1 (tpI 0 (vf 6)))], (tpI 1 (vf 6))] ∧ (pf 7) = [] := hR 7 (by decide)
 rw [vE6] at e7
 refine cT [6, 7] [6, 7] C (dJ (sk 24 (congrArg some e7.1) (aL _)) (by simp only [pE6, vE6, e7.2, fS] <;> rfl) ?_)
 exact eB (bH (aY C)) (fun _ _ h => ⟨h.1.trans (by show _ = ((tpI 1 (vf 6)) : Value); first | (rw [vE6]; done) | (rw [vE6]; rfl)), h.2⟩)
 intro vf pf hmu hR
 refine cT [] [] C (bP (aL _) (List.sublist_append_right _ _) ?_)
 exact bG (z := .agg #[.slice none 0 0, .slice none 0 0]) C C
 intro vf pf hmu hR
 have e6 : (fun u_ p_ => ∃ a9 b9 c9, u_ = .tuple #[.agg #[a9, b9], c9] ∧ p_ = [rI9 3 a9 (nxV m (stT m (rs.map CRow.xs) i).2 (vlT m (rs.map CRow.xs) i)), rI9 3 b9 (nxW m (stT m (rs.map CRow.xs) i).2 (vlT m (rs.map CRow.xs) i)), rI9 3 c9 (ouK m (vlT m (rs.map CRow.xs) i))] ∧ a9.oneCell' = true ∧ b9.oneCell' = true ∧ c9.oneCell' = true) (vf 6) (pf 6) := hR 6 (by decide)
 obtain ⟨v12, vE6⟩ : ∃ x, vf 6 = x := ⟨_, rfl⟩
 obtain ⟨p13, pE6⟩ : ∃ x, pf 6 = x := ⟨_, rfl⟩
 have R14 := e6
 rw [vE6, pE6] at R14
 obtain ⟨na14, nb14, nc14, rfl, rfl, hna14, hnb14, hnc14⟩ := R14
 have e8 : (vf 8) = .agg #[(agK 0 (tpI 0 (vf 6))), (agK 1 (tpI 0 (vf 6)))] ∧ (pf 8) = [] := hR 8 (by decide)
 rw [vE6] at e8
 have e10 : IsBox #[.slice none 0 0, .slice none 0 0] 50 (vf 10) (pf 10) := hR 10 (by decide)
 obtain ⟨b15, vE10, pE10⟩ := e10
 refine Or.inl ⟨C, ?_⟩
 show RunM _ _ _ (pf 10) (([6, 8] : List Nat).flatMap pf ++ _) (envOf3 _ vf [6, 8, 10] ++ _) _ _
 rw [pE10]
 exact eE (sk 8 (congrArg some vE10) (sk 32 (congrArg some e8.1) (aL _))) (by simp only [pE6, vE6, e8.2, fS] <;> rfl) (mP (mO (us := [na14, nb14]) (off := 0) 0 C C C C C C (aB hna14 (aB hnb14 bC)) C C) (fun v_ p_ h => by show p_ = [boxE (blkOf (vf 10)) #[(agK 0 (tpI 0 (vf 6))), (agK 1 (tpI 0 (vf 6)))] 50]; rw [vE6, vE10]; exact h))
 intro vf pf hmu hR
 have e6 : (fun u_ p_ => ∃ a9 b9 c9, u_ = .tuple #[.agg #[a9, b9], c9] ∧ p_ = [rI9 3 a9 (nxV m (stT m (rs.map CRow.xs) i).2 (vlT m (rs.map CRow.xs) i)), rI9 3 b9 (nxW m (stT m (rs.map CRow.xs) i).2 (vlT m (rs.map CRow.xs) i)), rI9 3 c9 (ouK m (vlT m (rs.map CRow.xs) i))] ∧ a9.oneCell' = true ∧ b9.oneCell' = true ∧ c9.oneCell' = true) (vf 6) (pf 6) := hR 6 (by decide)
 obtain ⟨v12, vE6⟩ : ∃ x, vf 6 = x := ⟨_, rfl⟩
 obtain ⟨p13, pE6⟩ : ∃ x, pf 6 = x := ⟨_, rfl⟩
 have R14 := e6
 rw [vE6, pE6] at R14
 obtain ⟨na14, nb14, nc14, rfl, rfl, hna14, hnb14, hnc14⟩ := R14
 have e9 : (vf 9) = (tpI 1 (vf 6)) ∧ (pf 9) = [] := hR 9 (by decide)
 rw [vE6] at e9
 have e10 : IsBox #[.slice none 0 0, .slice none 0 0] 50 (vf 10) (pf 10) := hR 10 (by decide)
 obtain ⟨b15, vE10, pE10⟩ := e10
 have e11 : (pf 11) = [boxE (blkOf (vf 10)) #[(agK 0 (tpI 0 (vf 6))), (agK 1 (tpI 0 (vf 6)))] 50] := hR 11 (by decide)
 rw [vE6, vE10] at e11
 have pE11 := e11
 have q0 := hR 0 (by decide)
 have q1 := hR 1 (by decide)
 have q2 := hR 2 (by decide)
 have q3 := hR 3 (by decide)
 have q4 := hR 4 (by decide)
 have q5 := hR 5 (by decide)
 have q7 := hR 7 (by decide)
 have q8 := hR 8 (by decide)
 have q9 := hR 9 (by decide)
 refine dV (dB [7, 6, 5, 4, 2, 1, 0] _ (sk 8 (congrArg some vE10) (sk 14 C (sk 21 C (sk 33 (congrArg some e9.1) (aL _))))) C) (by simp only [pE6, vE6, pE11, q0.2, q1.2, q2.2, q3.2, q4.2, q5.2, q7.2, q8.2, q9.2, fS] <;> rfl) ?_
 simp only [List.drop_succ_cons, List.drop_zero]
 refine aP 1 C (aF (cG 2 C ?_))
 refine eA C (fI C Try.underlying44 (by kernel_rfl) C (fun w hm => (aJ 2 C w hm).one)) ?_
 intro g16
 refine cW (i := 9) (z := .slice none 0 0) (bytes := 24) C C C C Try.underlying44 (by kernel_rfl) C C C C (aJ 0 C) (aB hnc14 bC) (by first | omega | (simp only [List.length_append, List.length_cons, List.length_nil]; omega)) (cM os [(CRow.mk nc14 (ouK m (vlT m (rs.map CRow.xs) i)))]) (dM crowC os (CRow.mk nc14 (ouK m (vlT m (rs.map CRow.xs) i))) _ C) (fun _ => C) ?_
 intro v17
 refine aP 1 C (aO (aI C (aW (cs := [na14, nb14]) C C C C C (aT 4 C 0 C)) ?_))
 refine bE (cs' := #[na14, nb14]) (i := 6) (off := 0) (us := [na14, nb14]) C C C C C C C (aB hna14 (aB hnb14 bC)) C C C (bK (cK (cG 1 C (aI C (dO C C C) (dA 1 C ?_)))))
 refine cD 11 [10, 9, 6, 4, 2, 1, 3, 5] C C (by decide) ?_
 refine dE 2 C ?_
 refine cD 7 [6, 5, 2, 1, 4, 0] C C (by decide) ?_
 exact fX (i + 1) (os ++ [(CRow.mk nc14 (ouK m (vlT m (rs.map CRow.xs) i)))]) v17 (na14, nb14) [bigE ps, rowE 3 1 nc14 ((ouK m (vlT m (rs.map CRow.xs) i)).length) (mI (ouK m (vlT m (rs.map CRow.xs) i)))] ⟨by omega, xH hos _, fun w hw => RdsCl.snoc (v := q.1) (v' := q.1) (hp w (bO hw dX)) (cZ (bO hw (eI dX)))⟩ (by omega) (aU [14, 7, 6, 5, 4, 2, 1, 0] C) (eT C)
 refine bQ (aS C ?_)
 refine bI (dC ?_)
 refine aM (aR (bA 2 C ?_))
 refine aN (fV (fun w hm => (aJ 4 C w hm).one) (fun ho9 => ?_))
 refine cD 6 [5, 3, 2, 1, 0, 4] C C (by decide) ?_
 refine dE 2 C ?_
 exact cH (rs := [.tmp 4]) (vs := [tv]) (post := [bigE [rS9 48 1 tv os crowC, bigE ps]]) rfl ⟨rfl, trivial⟩ rfl (eO [0] rfl) ⟨os, _, rfl, fun w hw => ⟨cZ (bO hw dX), hp w (bO hw (eI dX))⟩, ho9, by rw [hos, show i = rs.length by omega]; unfold trK trA; rw [List.length_map]⟩
noncomputable def inLs (mc : Md) (ps : List Int) (got : Md) (I : List (List Int)) (t : Nat) : List (List Int) := (List.range t).map (fun q => inL mc ps (vlT got I q) (ptsK mc).length)
noncomputable def ouLs (mc : Md) (ps : List Int) (got : Md) (I : List (List Int)) (t : Nat) : List (List Int) := (List.range t).map (fun q => ouL mc ps (vlT got I q) (ptsK mc).length)
section
variable {mc : Md} {ps : List Int} {got : Md} {I : List (List Int)}
theorem xL {js : List CRow} {t : Nat} (h : js.map CRow.xs = inLs mc ps got I t) {v : Value} {zs : List Int} (hz : zs = inL mc ps (vlT got I t) (ptsK mc).length) : (js ++ [CRow.mk v zs]).map CRow.xs = inLs mc ps got I (t + 1) := by
  unfold inLs; rw [List.range_succ, List.map_append, List.map_append, h, hz]; rfl
theorem xI {js : List CRow} {t : Nat} (h : js.map CRow.xs = ouLs mc ps got I t) {v : Value} {zs : List Int} (hz : zs = ouL mc ps (vlT got I t) (ptsK mc).length) : (js ++ [CRow.mk v zs]).map CRow.xs = ouLs mc ps got I (t + 1) := by
  unfold ouLs; rw [List.range_succ, List.map_append, List.map_append, h, hz]; rfl
theorem kX (t : Nat) : (inLs mc ps got I t).length = t := by unfold inLs; rw [List.length_map, List.length_range]
theorem tM (t : Nat) : (ouLs mc ps got I t).length = t := by unfold ouLs; rw [List.length_map, List.length_range]
theorem cr_len {js : List CRow} {t : Nat} (h : js.map CRow.xs = inLs mc ps got I t) : js.length = t := by
  have := congrArg List.length h; rwa [List.length_map, kX] at this
theorem Bq {js : List CRow} {t : Nat} (h : js.map CRow.xs = ouLs mc ps got I t) : js.length = t := by
  have := congrArg List.length h; rwa [List.length_map, tM] at this
theorem Bg {q t : Nat} (h : q < t) : (inLs mc ps got I t).getD q [] = inL mc ps (vlT got I q) (ptsK mc).length := by
  unfold inLs; rw [List.getD_eq_getElem?_getD, List.getElem?_map, List.getElem?_range h]; rfl
theorem Bb {q t : Nat} (h : q < t) : (ouLs mc ps got I t).getD q [] = ouL mc ps (vlT got I q) (ptsK mc).length := by
  unfold ouLs; rw [List.getD_eq_getElem?_getD, List.getElem?_map, List.getElem?_range h]; rfl
end
theorem EqM.smc {a b : Md} (h : EqM a b) : SmC a b := ⟨h.s, h.g, h.x, h.m⟩
theorem zM {D E : List Md} {x : Int} {F G : Fz} {got child : Md} {k kt i : Nat} (q1 : FlzP D x F) (q2 : MdF got F) (fF : FlP got) (hkt : kt = D.length - 1) (hi : i < (D.getD kt md0).xs.length) (hkc : ((D.getD kt md0).xs.getD i ix0).m = (k : Int)) (hE : E.length = k + 1) (he : ∀ q, q ≤ k → EqM (E.getD q md0) (D.getD q md0)) (q5 : FlzP E (inP x ((D.getD kt md0).xs.getD i ix0)) G) (q6 : MdF child G) (fG : FlP child) (I : List (List Int)) {n : Nat} (hn : n ≤ 16) :
    InI child (inLs (D.getD k md0) ((D.getD kt md0).xs.getD i ix0).ps got I n) ∧ (trK child (inLs (D.getD k md0) ((D.getD kt md0).xs.getD i ix0).ps got I n)).map (ouK child) = ouLs (D.getD k md0) ((D.getD kt md0).xs.getD i ix0).ps got I n := by
  have hdes := q1.1
  have hdl := hdes.1
  have hkl : kt < D.length := by omega
  have hkk : k < kt := by have := ((hdes.2 kt hkl).ins i hi).1; omega
  have e1 : ((D.getD kt md0).xs.getD i ix0).m.toNat = k := by omega
  have e2 := rG (K := k) (fun j hj => (he j hj).smc) (fun j hj i2 hi2 => by have := ((hdes.2 j (by omega)).ins i2 hi2).1; omega) E.length (E.length - 1) (inP x ((D.getD kt md0).xs.getD i ix0)) false [] fz0 (by omega)
  have e3 := q5.2.2
  rw [e2, show E.length - 1 = k by omega] at e3
  have e4 := q1.2.2
  rw [← hkt] at e4
  have key := zL hdes hkl e4 q2 fF hi (f2 := E.length) (G := G) (by rw [e1]; exact e3) q6 fG (I := I) (J := inLs (D.getD k md0) ((D.getD kt md0).xs.getD i ix0).ps got I n) (O := ouLs (D.getD k md0) ((D.getD kt md0).xs.getD i ix0).ps got I n) (by rw [kX]; exact hn) (by rw [kX, tM]) (fun t ht => by rw [kX] at ht; rw [Bg ht, e1]) (fun t ht => by rw [kX] at ht; rw [Bb ht, e1])
  exact key
theorem Aq {D : List Md} {x : Int} {F : Fz} {got : Md} {kt : Nat} (q1 : FlzP D x F) (q2 : MdF got F) (hkt : kt = D.length - 1) : (D.getD kt md0).ss.length ≤ got.ss.length := by
  obtain ⟨s, h1, -⟩ := uR q1.2.2
  rw [q2.s, h1, hkt, List.length_append, List.length_map]; omega
theorem Ay {D : List Md} (hdes : DesP D) {kt i k j : Nat} (hkt : kt < D.length) (hi : i < (D.getD kt md0).xs.length) (hkc : ((D.getD kt md0).xs.getD i ix0).m = (k : Int)) (hj : j < (ptsK (D.getD k md0)).length) : 0 ≤ ((D.getD kt md0).xs.getD i ix0).ps.getD j 0 ∧ ((D.getD kt md0).xs.getD i ix0).ps.getD j 0 < (D.getD kt md0).ss.length := by
  have e1 : ((D.getD kt md0).xs.getD i ix0).m.toNat = k := by omega
  have h := ((hdes.2 kt hkt).xs i hi).2 j (by rw [e1]; exact hj)
  exact h.1
theorem zO {D : List Md} (hdes : DesP D) {kt i : Nat} (hkt : kt < D.length) (hi : i < (D.getD kt md0).xs.length) : ((D.getD kt md0).xs.getD i ix0).m = ((((D.getD kt md0).xs.getD i ix0).m.toNat : Nat) : Int) ∧ ((D.getD kt md0).xs.getD i ix0).m.toNat < kt ∧ ((D.getD kt md0).xs.getD i ix0).ps.length = (ptsK (D.getD ((D.getD kt md0).xs.getD i ix0).m.toNat md0)).length := by
  have h := (hdes.2 kt hkt).ins i hi
  exact ⟨by omega, by omega, h.2⟩
theorem zR {m : Md} {ps V zs : List Int} {j : Nat} (hz : zs = inL m ps V j) (h : (m.ss.getD ((ptsK m).getD j 0).toNat sg0).k = 0) : zs ++ [V.getD (ps.getD j 0).toNat 0] = inL m ps V (j + 1) := by
  show _ = inL m ps V j ++ (if _ then _ else _)
  rw [if_pos h, hz]
theorem zS {m : Md} {ps V zs : List Int} {j : Nat} (hz : zs = inL m ps V j) (h : ¬ (m.ss.getD ((ptsK m).getD j 0).toNat sg0).k = 0) : zs = inL m ps V (j + 1) := by
  show _ = inL m ps V j ++ (if _ then _ else _)
  rw [if_neg h, hz, List.append_nil]
theorem yZ {m : Md} {ps V zs : List Int} {j : Nat} (hz : zs = ouL m ps V j) (h : ¬ (m.ss.getD ((ptsK m).getD j 0).toNat sg0).k = 0) : zs ++ [V.getD (ps.getD j 0).toNat 0] = ouL m ps V (j + 1) := by
  show _ = ouL m ps V j ++ (if _ then _ else _)
  rw [if_neg h, hz]
theorem zA {m : Md} {ps V zs : List Int} {j : Nat} (hz : zs = ouL m ps V j) (h : (m.ss.getD ((ptsK m).getD j 0).toNat sg0).k = 0) : zs = ouL m ps V (j + 1) := by
  show _ = ouL m ps V j ++ (if _ then _ else _)
  rw [if_pos h, hz, List.append_nil]
theorem wM (m : Md) (ps V : List Int) : ∀ j, (inL m ps V j).length ≤ j
  | 0 => Nat.le_refl _
  | j + 1 => by
    have := wM m ps V j
    show (inL m ps V j ++ (if _ then _ else _)).length ≤ _
    rw [List.length_append]; split <;> simp <;> omega
theorem vY (m : Md) (ps V : List Int) : ∀ j, (ouL m ps V j).length ≤ j
  | 0 => Nat.le_refl _
  | j + 1 => by
    have := vY m ps V j
    show (ouL m ps V j ++ (if _ then _ else _)).length ≤ _
    rw [List.length_append]; split <;> simp <;> omega
theorem sI (D : List Md) (f k b : Nat) (p : Int) (t : Bool) (P : List Int) (F : Fz) (gs : List As) (v uP sv av mv : Value) (ps : List HP) (w0 : World) (l : List HP) (w : World) (hm0 : Mem w0 (bigE (fbQ b v sv av mv F.ss gs F.ms ps) :: l) w) (hd : ∀ w, Mem w0 l w → RdsDs w v D) (hP : ∀ w, Mem w0 l w → RdsW w uP 1 P.length (P.map (Value.int .i64))) (hdp : DesP D) (hkl : k < D.length) (hF : F.Ok) (hPo : PoP (D.getD k md0) (!t) P F.ss.length) (hgs : gs.map asV = F.gs) (hps : ∀ w, (bigE ps).holds w → OpsR w gs) (IH : ∀ (kx : Nat) (p2 : Int) (P2 : List Int) (F2 : Fz) (gs2 : List As) (ux sv2 av2 mv2 : Value) (ps2 l2 : List HP) (w2 : World), kx < k → F2.Ok → PoP (D.getD kx md0) true P2 F2.ss.length → gs2.map asV = F2.gs → (∀ w, (bigE ps2).holds w → OpsR w gs2) → (∀ w, Mem w0 l2 w → RdsDs w v D) → (∀ w, Mem w0 l2 w → RdsW w ux 1 P2.length (P2.map (Value.int .i64))) → Mem w0 (bigE (fbQ b v sv2 av2 mv2 F2.ss gs2 F2.ms ps2) :: l2) w2 → Calls Try.prog 72 #[.pointer (some ⟨b, 0, none⟩), .int .i64 (kx : Int), .int .i64 p2, ux, .bool false] w2 (fun e_ w_ => ∃ v_ p_, e_ = .returned v_ ∧ AddB (addF D f kx p2 true P2 F2) b v v_ p_ ∧ Mem w0 (p_ :: l2) w_)) :
   Calls Try.prog 72 #[.pointer (some ⟨b, 0, none⟩), .int .i64 (k : Int), .int .i64 p, uP, .bool t] w (fun e_ w_ => ∃ v_ p_, e_ = .returned v_ ∧ (fun u_ p_ => AddB (addF D (f + 1) k p (!t) P F) b v u_ p_) v_ p_ ∧ Mem w0 (p_ :: l) w_) := by
 have hd9 := hd w (hm0.sub (List.sublist_cons_self _ _))
 have hm9 := hd9.at (k := k) hkl
 have hP9 := gL (hP w (hm0.sub (List.sublist_cons_self _ _)))
 have hmod := hdp.2 k hkl
 have hln := hmod.cnt.md k hkl
 obtain ⟨hF1, hF2, hF3⟩ := hF
 obtain ⟨hln1, hln2, hln3, hln4⟩ := id hln
 have hdl := hmod.cnt.len
 have hfl9 : F.gs.length = gs.length := by rw [← hgs, List.length_map]
 refine gI (N := 279) (args := [pI b, jI (k : Int), jI p, uP, .bool t]) Try.func72 C C (l := (boxE b #[v, sv, av, .slice none 0 0, mv] 114 :: rS9 38 3 sv F.ss sgC :: rS9 89 2 av gs asC :: rS9 94 4 mv F.ms mmC :: bigE ps :: l)) hm0.unbig (bA 1 C (aF (cG 1 C (aI C (eL C C) (aI C (bM 0 C C C) (aI C (bM 0 C C C) (aI C (aC C C C (aA 0 C C)) ?_)))))))
 refine aH 1 C (aI C (cR 4 C C C C (fun w hm => ((hd w (hm.sub (fO 5 C))).row))) ?_)
 refine aI C (bL (us := [(D.getD k md0).sv, (D.getD k md0).av, (D.getD k md0).iv, (D.getD k md0).mv]) C C C C (fun w hm => ((hd w (hm.sub (fO 5 C))).row)) (by omega) C (bY mdC 4 (fun _ => C) D md0 (show k < _ by omega) C)) (cL C (bG (z := .agg #[.slice none 0 0, .slice none 0 0, .slice none 0 0, .slice none 0 0]) C C) ?_)
 intro b1
 refine bE (cs' := #[(D.getD k md0).sv, (D.getD k md0).av, (D.getD k md0).iv, (D.getD k md0).mv]) (i := 0) (off := 0) (us := [(D.getD k md0).sv, (D.getD k md0).av, (D.getD k md0).iv, (D.getD k md0).mv]) C C C C C C C (aB hm9.s.one (aB hm9.g.one (aB hm9.x.one (aB hm9.m.one bC)))) C C C (bQ (cA (aI C (bM 0 C C C) (aI C (aC C C C (aA 0 C C)) ?_))))
 refine aI C (dL C C C (fun w hm => (((hd w (hm.sub (fO 6 C))).at (k := k) hkl).s))) (eA C (iL (z := jI 0) (s := 1) (bytes := 8) (n := (List.replicate (((D.getD k md0).ss).length) (0 : Int)).length) (cs := (mI (List.replicate (((D.getD k md0).ss).length) (0 : Int)))) C Try.underlying48 C (by decide) C C (by first | (rw [List.length_replicate]; done) | (rw [List.length_replicate]; omega)) (by first | (rw [List.length_replicate]; done) | (rw [List.length_replicate]; omega)) (by rw [List.length_replicate]; omega) (hZ _)) ?_)
 intro g2
 refine aP 1 C (cA (aI C (aW (cs := [(D.getD k md0).sv, (D.getD k md0).av, (D.getD k md0).iv, (D.getD k md0).mv]) C C C C C (aT 1 C 0 C)) ?_))
 refine fC C C C (aV C C (fun w hm => gZ (D.getD k md0) w ((hd w (hm.sub (fO 7 C))).at (k := k) hkl))) ?_
 intro v3 p4 R5
 subst R5
 refine aP 1 C (bA 1 C (eM (aI C (bM 0 C C C) ?_)))
 refine aI C (aC C C C (aA 2 C C)) (aI C (dL C C C (fun w hm => (((hd w (hm.sub (fO 8 C))).at (k := k) hkl).s))) ?_)
 refine aP 1 C (bD ?_)
 refine fB (rowE 3 1 v3 ((ptsK (D.getD k md0)).length) (mI (ptsK (D.getD k md0))) :: rowE 3 1 (.slice (some ⟨g2, 0, none⟩) ((List.replicate (((D.getD k md0).ss).length) (0 : Int)).length) ((List.replicate (((D.getD k md0).ss).length) (0 : Int)).length)) ((([] : List Int) ++ List.replicate ((D.getD k md0).ss.length - 0) 0).length) (mI (([] : List Int) ++ List.replicate ((D.getD k md0).ss.length - 0) 0)) :: boxE b1 #[(D.getD k md0).sv, (D.getD k md0).av, (D.getD k md0).iv, (D.getD k md0).mv] 35 :: boxE b #[v, sv, av, .slice none 0 0, mv] 114 :: rS9 38 3 sv F.ss sgC :: rS9 89 2 av gs asC :: rS9 94 4 mv F.ms mmC :: bigE ps :: l) (fun w hm => by rw [Nat.sub_zero, List.nil_append]; exact hm) ?_
 refine iR (α := Nat) (β := Nat) (γ := List Int) (δ := List Sg) (fun i n ids S sq => (rowE 3 1 v3 ((ptsK (D.getD k md0)).length) (mI (ptsK (D.getD k md0))) :: rowE 3 1 (.slice (some ⟨g2, 0, none⟩) ((List.replicate (((D.getD k md0).ss).length) (0 : Int)).length) ((List.replicate (((D.getD k md0).ss).length) (0 : Int)).length)) ((ids ++ List.replicate ((D.getD k md0).ss.length - i) 0).length) (mI (ids ++ List.replicate ((D.getD k md0).ss.length - i) 0)) :: boxE b1 #[(D.getD k md0).sv, (D.getD k md0).av, (D.getD k md0).iv, (D.getD k md0).mv] 35 :: boxE b #[v, sq, av, .slice none 0 0, mv] 114 :: rS9 38 3 sq S sgC :: rS9 89 2 av gs asC :: rS9 94 4 mv F.ms mmC :: bigE ps :: l)) (fun i n ids S sq => [(0, pI b), (1, jI (k : Int)), (2, jI p), (3, uP), (4, .bool t), (10, .bool false), (11, pI b1), (12, .slice (some ⟨g2, 0, none⟩) ((List.replicate (((D.getD k md0).ss).length) (0 : Int)).length) ((List.replicate (((D.getD k md0).ss).length) (0 : Int)).length)), (13, v3), (14, jI (n : Int)), (46, (D.getD k md0).sv), (47, jI (((D.getD k md0).ss).length : Int)), (48, jI (i : Int))]) (fun i n ids S sq => i ≤ (D.getD k md0).ss.length ∧ sgF (D.getD k md0) p (!t) P F.ss i = some (ids, n, S)) (fun i n ids S sq => (D.getD k md0).ss.length - i) 0 0 [] F.ss sv ⟨Nat.zero_le _, C⟩ (aU [48, 47, 46, 14, 13, 12, 11, 10, 4, 3, 2, 1, 0] C) (.refl _) ?_
 intro i n ids S sq hi6
 obtain ⟨hi, hs⟩ := hi6
 obtain ⟨hil, hin, hnn, hsl, hsu⟩ := lT hPo hln.1 i _ hi hs
 have hil : ids.length = i := hil
 have hin : InN S.length ids := hin
 have hnn : n = ptN _ (!t) i := hnn
 have hsl : F.ss.length ≤ S.length := hsl
 have hsu : S.length ≤ F.ss.length + i := hsu
 have hpl9 : (ids ++ List.replicate ((D.getD k md0).ss.length - i) 0).length = (D.getD k md0).ss.length := Ag hil hi
 have hpk := iD (D.getD k md0)
 refine cA ?_
 refine bN C C C C C C (fun h7 => ?_) (fun h7 => ?_)
 refine bQ (jX C (cE (fD (aF (cG 1 C ?_)))))
 refine aI C (cR 3 C C C C (fun w hm => (((hd w (hm.sub (fO 8 C))).at (k := k) hkl).s))) (aI C (bL (us := [jI ((((D.getD k md0).ss).getD i sg0).k), jI ((((D.getD k md0).ss).getD i sg0).w), jI ((((D.getD k md0).ss).getD i sg0).i)]) C C C C (fun w hm => (((hd w (hm.sub (fO 8 C))).at (k := k) hkl).s)) (by omega) C (bY sgC 3 (fun _ => C) ((D.getD k md0).ss) sg0 (show i < _ by omega) C)) ?_)
 refine cL C (bG (z := .agg #[jI 0, jI 0, jI 0]) C C) ?_
 intro b8
 refine aH 1 C (bE (cs' := #[jI ((((D.getD k md0).ss).getD i sg0).k), jI ((((D.getD k md0).ss).getD i sg0).w), jI ((((D.getD k md0).ss).getD i sg0).i)]) (i := 0) (off := 0) (us := [jI ((((D.getD k md0).ss).getD i sg0).k), jI ((((D.getD k md0).ss).getD i sg0).w), jI ((((D.getD k md0).ss).getD i sg0).i)]) C C C C C C C (aB C (aB C (aB C bC))) C C C ?_)
 refine bQ (cA (aI C (bM 1 C C C) (aI C (aC C C C (aA 0 C C)) (aP 1 C ?_))))
 refine fJ (α := Int) (fun wd => (boxE b8 #[jI ((((D.getD k md0).ss).getD i sg0).k), jI ((((D.getD k md0).ss).getD i sg0).w), jI ((((D.getD k md0).ss).getD i sg0).i)] 38 :: rowE 3 1 v3 ((ptsK (D.getD k md0)).length) (mI (ptsK (D.getD k md0))) :: rowE 3 1 (.slice (some ⟨g2, 0, none⟩) ((List.replicate (((D.getD k md0).ss).length) (0 : Int)).length) ((List.replicate (((D.getD k md0).ss).length) (0 : Int)).length)) ((ids ++ List.replicate ((D.getD k md0).ss.length - i) 0).length) (mI (ids ++ List.replicate ((D.getD k md0).ss.length - i) 0)) :: boxE b1 #[(D.getD k md0).sv, (D.getD k md0).av, (D.getD k md0).iv, (D.getD k md0).mv] 35 :: boxE b #[v, sq, av, .slice none 0 0, mv] 114 :: rS9 38 3 sq S sgC :: rS9 89 2 av gs asC :: rS9 94 4 mv F.ms mmC :: bigE ps :: l)) (fun wd => [(0, pI b), (1, jI (k : Int)), (2, jI p), (3, uP), (4, .bool t), (10, .bool false), (11, pI b1), (12, .slice (some ⟨g2, 0, none⟩) ((List.replicate (((D.getD k md0).ss).length) (0 : Int)).length) ((List.replicate (((D.getD k md0).ss).length) (0 : Int)).length)), (13, v3), (14, jI (n : Int)), (15, jI (i : Int)), (16, pI b8), (17, jI wd), (46, (D.getD k md0).sv), (47, jI (((D.getD k md0).ss).length : Int)), (48, jI (i : Int)), (49, .bool true)]) (fun wd => wd = wdF p ((D.getD k md0).ss.getD i sg0)) ?_ ?_
 refine aF (cG 1 C ?_)
 refine bU C C C C C C (fun h9 => ?_) (fun h9 => ?_)
 refine bQ (aK C (aO (dA 2 C ?_)))
 exact cP p (by unfold wdF; first | rw [if_pos (by omega)] | rw [if_neg (by omega)]) (cN C) (.refl _)
 refine bQ (gM C ?_)
 exact cP ((((D.getD k md0).ss).getD i sg0).w) (by unfold wdF; first | rw [if_pos (by omega)] | rw [if_neg (by omega)]) (cN C) (.refl _)
 intro wd hm10
 have hwd := hm10
 have hpi : t = false → (isPt ((D.getD k md0).ss.getD i sg0) = true ↔ n < (ptsK (D.getD k md0)).length ∧ (ptsK (D.getD k md0)).getD n 0 = (i : Int)) := fun h9 => Ax hln.1 (by omega) (by rw [hnn]; unfold ptN; rw [h9]; rfl)
 refine aF ?_
 refine fJ (α := Bool) (fun bt => (boxE b8 #[jI ((((D.getD k md0).ss).getD i sg0).k), jI ((((D.getD k md0).ss).getD i sg0).w), jI ((((D.getD k md0).ss).getD i sg0).i)] 38 :: rowE 3 1 v3 ((ptsK (D.getD k md0)).length) (mI (ptsK (D.getD k md0))) :: rowE 3 1 (.slice (some ⟨g2, 0, none⟩) ((List.replicate (((D.getD k md0).ss).length) (0 : Int)).length) ((List.replicate (((D.getD k md0).ss).length) (0 : Int)).length)) ((ids ++ List.replicate ((D.getD k md0).ss.length - i) 0).length) (mI (ids ++ List.replicate ((D.getD k md0).ss.length - i) 0)) :: boxE b1 #[(D.getD k md0).sv, (D.getD k md0).av, (D.getD k md0).iv, (D.getD k md0).mv] 35 :: boxE b #[v, sq, av, .slice none 0 0, mv] 114 :: rS9 38 3 sq S sgC :: rS9 89 2 av gs asC :: rS9 94 4 mv F.ms mmC :: bigE ps :: l)) (fun bt => [(0, pI b), (1, jI (k : Int)), (2, jI p), (3, uP), (4, .bool t), (10, .bool false), (11, pI b1), (12, .slice (some ⟨g2, 0, none⟩) ((List.replicate (((D.getD k md0).ss).length) (0 : Int)).length) ((List.replicate (((D.getD k md0).ss).length) (0 : Int)).length)), (13, v3), (14, jI (n : Int)), (15, jI (i : Int)), (16, pI b8), (17, jI wd), (46, (D.getD k md0).sv), (47, jI (((D.getD k md0).ss).length : Int)), (48, jI (i : Int)), (49, .bool true), (73, .bool bt)]) (fun bt => (bt = true → t = false ∧ n < (ptsK (D.getD k md0)).length ∧ (ptsK (D.getD k md0)).getD n 0 = (i : Int)) ∧ (bt = false → ¬ ((!t) = true ∧ isPt ((D.getD k md0).ss.getD i sg0) = true))) ?_ ?_
 refine cG 1 C ?_
 refine bT (fun h11 => ?_) (fun h11 => ?_)
 refine dA 15 C ?_
 exact cP false ⟨(fun h9 => by cases h9), fun _ h9 => by first | exact absurd (h9.1.symm.trans (show (!t) = false by rw [show t = true by assumption]; rfl)) (by decide) | (have h8 := (hpi (by assumption)).1 h9.2; omega)⟩ (cN rfl) (.refl _)
 refine aH 4 C (aI C (dL C C C (aJ 1 C)) ?_)
 refine bN C C C C C C (fun h12 => ?_) (fun h12 => ?_)
 refine aH 4 C (aI C (cR 1 C C C C (aJ 1 C)) (aI C (aQ (u := jI ((ptsK (D.getD k md0)).getD n 0)) C C C (aJ 1 C) (cJ (show _ < (ptsK (D.getD k md0)).length by omega))) (aH 1 C ?_)))
 refine bU C C C C C C (fun h13 => ?_) (fun h13 => ?_)
 refine dA 1 C ?_
 exact cP true ⟨fun _ => ⟨by assumption, by omega, by omega⟩, (fun h9 => by cases h9)⟩ (cN C) (.refl _)
 refine dA 1 C ?_
 exact cP false ⟨(fun h9 => by cases h9), fun _ h9 => by first | exact absurd (h9.1.symm.trans (show (!t) = false by rw [show t = true by assumption]; rfl)) (by decide) | (have h8 := (hpi (by assumption)).1 h9.2; omega)⟩ (cN rfl) (.refl _)
 refine dA 9 C ?_
 exact cP false ⟨(fun h9 => by cases h9), fun _ h9 => by first | exact absurd (h9.1.symm.trans (show (!t) = false by rw [show t = true by assumption]; rfl)) (by decide) | (have h8 := (hpi (by assumption)).1 h9.2; omega)⟩ (cN rfl) (.refl _)
 intro bt hm14
 have hbt := hm14
 refine eW C (fun h15 => ?_) (fun h15 => ?_)
 refine cA ?_
 obtain ⟨ht9, hn9, hl9⟩ := hbt.1 (by assumption)
 have hpt : isPt ((D.getD k md0).ss.getD i sg0) = true := (hpi (by assumption)).2 ⟨by omega, by omega⟩
 have hc9 : (!t) = true := by rw [show t = false by assumption]; rfl
 have hnp : n < P.length := by rw [hnn]; exact pH hPo hln.1 (by omega) hc9 hpt
 have hpr := (hPo hc9).2.at hnp
 refine aH 4 C (aI C (cR 1 C C C C (fun w hm => hP w (hm.sub (fO 9 C)))) ?_)
 refine aI C (qD C C C (fun w hm => hP w (hm.sub (fO 9 C)))) (aI C (cR 1 C C C C (aJ 2 C)) ?_)
 refine fY (i := 2) (n' := ((ids ++ List.replicate ((D.getD k md0).ss.length - i) 0).set i (P.getD n 0)).length) (xs' := (mI ((ids ++ List.replicate ((D.getD k md0).ss.length - i) 0).set i (P.getD n 0)))) C C C C C C C C (by first | omega | (simp only [List.length_set]; omega)) List.length_set.symm (fM _ _ _) C (bQ (aF (cG 1 C (aI C (dO C C C) (aP 1 C (aF (aF ?_)))))))
 have hgi : ((ids ++ List.replicate ((D.getD k md0).ss.length - i) 0).set i (P.getD n 0)).getD i 0 = P.getD n 0 := lA (by omega)
 refine cI 14 [[], [0], [1], [2], [3], [], [], [5, 6], [7], [4, 8], [9], [10], [], [11, 12]] [83, 84, 85, 86, 87, 88, 89, 90, 91, 92, 93, 94, 95, 96] [pI b, pI b, .pointer (some ⟨b, 0 + 1, none⟩), .pointer (some ⟨b, 0 + 1 + 0, none⟩), sq, .slice (some ⟨g2, 0, none⟩) ((List.replicate (((D.getD k md0).ss).length) (0 : Int)).length) ((List.replicate (((D.getD k md0).ss).length) (0 : Int)).length), jI (i : Int), elP (.slice (some ⟨g2, 0, none⟩) ((List.replicate (((D.getD k md0).ss).length) (0 : Int)).length) ((List.replicate (((D.getD k md0).ss).length) (0 : Int)).length)) ((i : Int).toNat * 1), jI (((ids ++ List.replicate ((D.getD k md0).ss.length - i) 0).set i (P.getD n 0)).getD i 0), elP sq ((((ids ++ List.replicate ((D.getD k md0).ss.length - i) 0).set i (P.getD n 0)).getD i 0).toNat * 3), elP sq ((((ids ++ List.replicate ((D.getD k md0).ss.length - i) 0).set i (P.getD n 0)).getD i 0).toNat * 3 + 1), jI ((S.getD ((((ids ++ List.replicate ((D.getD k md0).ss.length - i) 0).set i (P.getD n 0)).getD i 0).toNat) sg0).w), jI wd, .bool (((S.getD ((((ids ++ List.replicate ((D.getD k md0).ss.length - i) 0).set i (P.getD n 0)).getD i 0).toNat) sg0).w) != wd)] (by kernel_rfl) C ?_ ?_
 exact ⟨bF C (aY C) C, bF C (eL C C) C, bF C (bM 1 C C C) C, bF C (bM 0 C C C) C, bF C (aC C C C (aA 4 C C)) C, bF C (aY C) C, bF C (aY C) C, bF C (cR 1 C C C C (aJ 2 C) (by omega) (by first | omega | (simp only [List.length_set]; omega))) C, bF C (aQ (u := jI (((ids ++ List.replicate ((D.getD k md0).ss.length - i) 0).set i (P.getD n 0)).getD i 0)) C C C (aJ 2 C) (cJ (show _ < ((ids ++ List.replicate ((D.getD k md0).ss.length - i) 0).set i (P.getD n 0)).length by first | omega | (simp only [List.length_set]; omega)))) C, bF C (cR 3 C C C C (aJ 5 C)) C, bF C (aZ (k0 := 1) C C C (aJ 5 C) (by omega)) C, bF C (aQ (u := jI ((S.getD ((((ids ++ List.replicate ((D.getD k md0).ss.length - i) 0).set i (P.getD n 0)).getD i 0).toNat) sg0).w)) C C C (aJ 5 C) ((bR sgC 3 (fun _ => C) S sg0 (show (((ids ++ List.replicate ((D.getD k md0).ss.length - i) 0).set i (P.getD n 0)).getD i 0).toNat < _ by omega) (by decide)).trans C)) C, bF C (aY C) C, bF C (dR C C C C) C, trivial⟩
 simp only [List.drop_succ_cons, List.drop_zero]
 refine bQ ?_
 refine eW C (fun h16 => ?_) (fun h16 => ?_)
 have h16p : (S.getD ((((ids ++ List.replicate ((D.getD k md0).ss.length - i) 0).set i (P.getD n 0)).getD i 0).toNat) sg0).w ≠ wd := bne_iff_ne.1 h16
 refine bA 1 C ?_
 refine aN (dZ ?_)
 refine aE (dZ ?_)
 refine aE (aG ?_)
 refine dI (bigE [] :: boxE b8 #[jI ((((D.getD k md0).ss).getD i sg0).k), jI ((((D.getD k md0).ss).getD i sg0).w), jI ((((D.getD k md0).ss).getD i sg0).i)] 38 :: rowE 3 1 v3 ((ptsK (D.getD k md0)).length) (mI (ptsK (D.getD k md0))) :: rowE 3 1 (.slice (some ⟨g2, 0, none⟩) ((List.replicate (((D.getD k md0).ss).length) (0 : Int)).length) ((List.replicate (((D.getD k md0).ss).length) (0 : Int)).length)) (((ids ++ List.replicate ((D.getD k md0).ss.length - i) 0).set i (P.getD n 0)).length) (mI ((ids ++ List.replicate ((D.getD k md0).ss.length - i) 0).set i (P.getD n 0))) :: boxE b1 #[(D.getD k md0).sv, (D.getD k md0).av, (D.getD k md0).iv, (D.getD k md0).mv] 35 :: boxE b #[v, sq, av, .slice none 0 0, mv] 114 :: rS9 38 3 sq S sgC :: rS9 89 2 av gs asC :: rS9 94 4 mv F.ms mmC :: bigE ps :: l) dT ?_
 exact eV (rs := [.tmp 10]) (vs := [.bool false]) C ⟨C, trivial⟩ C (fun w hm => ⟨_, bigE [], C, ⟨false, _, C, C, (fun h => by cases h), fun _ => by first | exact gJ (iJ hs hc9 hpt (by rw [← hgi]; omega)) (by omega) | exact gW hsF (fun h9 => by have h8 := hoi.1 h9; omega) | exact (hU hsF hokF).trans (fW (i := xu + 1) (by rw [fQ hH, hk2, ← hzp, ← hpp]; exact hnoNone (by assumption)) _ (by omega))⟩, hm.sub (.cons_cons _ (fO 9 C))⟩)
 have h16p : (S.getD ((((ids ++ List.replicate ((D.getD k md0).ss.length - i) 0).set i (P.getD n 0)).getD i 0).toNat) sg0).w = wd := (bne_eq_false_iff_eq.1 h16)
 refine cE ?_
 refine bI (gT ?_)
 refine aM (aR (aO (aI C (dO C C C) (dA 1 C ?_))))
 have hset : (ids ++ List.replicate ((D.getD k md0).ss.length - i) 0).set i (P.getD n 0) = (ids ++ [P.getD n 0]) ++ List.replicate ((D.getD k md0).ss.length - (i + 1)) 0 := tD hil (by omega)
 rw [hset]
 exact fX (i + 1) (n + 1) (ids ++ [P.getD n 0]) S sq ⟨by omega, tB hs hc9 hpt (by rw [← hgi]; omega)⟩ (by omega) (aU [48, 47, 46, 14, 13, 12, 11, 10, 4, 3, 2, 1, 0] C) (.cons _ (.refl _))
 refine cE (aF (cG 3 C (aI C (eL C C) (aI C (bM 1 C C C) (aI C (bM 0 C C C) (aI C (aC C C C (aA 4 C C)) (aI C (dL C C C (aJ 5 C)) (aI C (cR 1 C C C C (aJ 2 C)) ?_))))))))
 refine fY (i := 2) (n' := ((ids ++ List.replicate ((D.getD k md0).ss.length - i) 0).set i (S.length : Int)).length) (xs' := (mI ((ids ++ List.replicate ((D.getD k md0).ss.length - i) 0).set i (S.length : Int)))) C C C C C C C C (by first | omega | (simp only [List.length_set]; omega)) List.length_set.symm (fM _ _ _) C (bQ ?_)
 refine hC 9 [8, 7, 6, 4, 3, 2, 1, 0, 5] C C (by decide) ?_
 refine iF (l := (boxE b8 #[jI ((((D.getD k md0).ss).getD i sg0).k), jI ((((D.getD k md0).ss).getD i sg0).w), jI ((((D.getD k md0).ss).getD i sg0).i)] 38 :: rowE 3 1 v3 ((ptsK (D.getD k md0)).length) (mI (ptsK (D.getD k md0))) :: rowE 3 1 (.slice (some ⟨g2, 0, none⟩) ((List.replicate (((D.getD k md0).ss).length) (0 : Int)).length) ((List.replicate (((D.getD k md0).ss).length) (0 : Int)).length)) (((ids ++ List.replicate ((D.getD k md0).ss.length - i) 0).set i (S.length : Int)).length) (mI ((ids ++ List.replicate ((D.getD k md0).ss.length - i) 0).set i (S.length : Int))) :: boxE b1 #[(D.getD k md0).sv, (D.getD k md0).av, (D.getD k md0).iv, (D.getD k md0).mv] 35 :: boxE b #[v, sq, av, .slice none 0 0, mv] 114 :: rS9 89 2 av gs asC :: rS9 94 4 mv F.ms mmC :: bigE ps :: l)) (by kernel_rfl) 14 [0, 1, 2, 3, 4, 5, 6, 7, 8, 9, 10, 11, 12, 13] (List.take 14 _) (List.drop 14 _) [[], [], [1], [2], [3], [4], [], [6], [], [], [9], [7, 8, 10], [11], [5, 12]] [some 106, some 107, some 108, some 109, some 110, some 111, some 112, some 113, some 114, some 115, some 116, some 117, some 118, some 119] (fun i_ vs_ v_ p_ => match i_ with | 0 => v_ = pI b ∧ p_ = [] | 1 => v_ = pI b ∧ p_ = [] | 2 => v_ = pI b ∧ p_ = [] | 3 => v_ = .pointer (some ⟨b, 0 + 1, none⟩) ∧ p_ = [] | 4 => v_ = .pointer (some ⟨b, 0 + 1 + 0, none⟩) ∧ p_ = [] | 5 => v_ = sq ∧ p_ = [] | 6 => v_ = .pointer (some ⟨b8, 0 + 0, none⟩) ∧ p_ = [] | 7 => v_ = jI ((((D.getD k md0).ss).getD i sg0).k) ∧ p_ = [] | 8 => v_ = jI wd ∧ p_ = [] | 9 => v_ = .pointer (some ⟨b8, 0 + 2, none⟩) ∧ p_ = [] | 10 => v_ = jI ((((D.getD k md0).ss).getD i sg0).i) ∧ p_ = [] | 11 => v_ = .agg #[jI ((((D.getD k md0).ss).getD i sg0).k), jI wd, jI ((((D.getD k md0).ss).getD i sg0).i)] ∧ p_ = [] | 12 => IsRow 38 3 1 (mI [(((D.getD k md0).ss).getD i sg0).k, wd, (((D.getD k md0).ss).getD i sg0).i]) v_ p_ | 13 => (∃ pm_, p_ = [pm_] ∧ (fun u_ p_ => p_ = rowE 38 3 u_ ((S ++ [(Sg.mk ((((D.getD k md0).ss).getD i sg0).k) wd ((((D.getD k md0).ss).getD i sg0).i))]).length) ((S ++ [(Sg.mk ((((D.getD k md0).ss).getD i sg0).k) wd ((((D.getD k md0).ss).getD i sg0).i))]).flatMap sgC)) v_ pm_) | _ => True) [[], [], [1], [2], [3], [4], [], [6], [], [], [9], [7, 8, 10], [11], [5, 12]] [none, none, none, none, none, none, none, none, none, none, none, none, none, some 18] [[rS9 38 3 sq S sgC]] [0, 1, 2, 3, 4, 5, 6, 7, 8, 9, 10, 11, 12, 13] 18 (List.take_append_drop 14 _).symm (by kernel_rfl) (by kernel_rfl) (by kernel_rfl) ?_ ?_ ?_ ?_
 rfl
 rfl
 refine ⟨?_, ?_, ?_, ?_, ?_, ?_, ?_, ?_, ?_, ?_, ?_, ?_, ?_, ?_, trivial⟩
 intro vf pf hmu hR
 refine cT [] [] C (cC (aU [0] C) ?_)
 exact bH (aY C)
 intro vf pf hmu hR
 refine cT [] [] C (cC (aU [0] C) ?_)
 exact bH (aY C)
 intro vf pf hmu hR
 have e1 := hR 1 (by decide)
 refine cT [1] [1] C (cC (sk 107 (congrArg some e1.1) (aL _)) ?_)
 exact bH (eL C C)
 intro vf pf hmu hR
 have e2 := hR 2 (by decide)
 refine cT [2] [2] C (cC (sk 108 (congrArg some e2.1) (aL _)) ?_)
 exact bH (bM 1 C C C)
 intro vf pf hmu hR
 have e3 := hR 3 (by decide)
 refine cT [3] [3] C (cC (sk 109 (congrArg some e3.1) (aL _)) ?_)
 exact bH (bM 0 C C C)
 intro vf pf hmu hR
 have e4 := hR 4 (by decide)
 refine cT [4] [4] C (bP (sk 110 (congrArg some e4.1) (aL _)) (List.sublist_append_right _ _) ?_)
 exact bH (aC C C C (aA 4 C C))
 intro vf pf hmu hR
 refine cT [] [] C (cC (aU [16] C) ?_)
 exact bH (bM 0 C C C)
 intro vf pf hmu hR
 have e6 := hR 6 (by decide)
 refine cT [6] [6] C (bP (sk 112 (congrArg some e6.1) (aL _)) (List.sublist_append_right _ _) ?_)
 exact bH (aC C C C (aA 0 C C))
 intro vf pf hmu hR
 refine cT [] [] C (cC (aU [17] C) ?_)
 exact bH (aY C)
 intro vf pf hmu hR
 refine cT [] [] C (cC (aU [16] C) ?_)
 exact bH (bM 2 C C C)
 intro vf pf hmu hR
 have e9 := hR 9 (by decide)
 refine cT [9] [9] C (bP (sk 115 (congrArg some e9.1) (aL _)) (List.sublist_append_right _ _) ?_)
 exact bH (aC C C C (aA 0 C C))
 intro vf pf hmu hR
 have e7 := hR 7 (by decide)
 have e8 := hR 8 (by decide)
 have e10 := hR 10 (by decide)
 refine cT [7, 8, 10] [7, 8, 10] C (cC (sk 113 (congrArg some e7.1) (sk 114 (congrArg some e8.1) (sk 116 (congrArg some e10.1) (aL _)))) ?_)
 exact bH (cU (cs := #[jI ((((D.getD k md0).ss).getD i sg0).k), jI wd, jI ((((D.getD k md0).ss).getD i sg0).i)]) C C C)
 intro vf pf hmu hR
 have e11 := hR 11 (by decide)
 refine cT [11] [11] C (bP (sk 117 (congrArg some e11.1) (aL _)) (List.sublist_append_right _ _) ?_)
 exact bB (z := .agg #[jI 0, jI 0, jI 0]) (s := 3) (cs := (mI [(((D.getD k md0).ss).getD i sg0).k, wd, (((D.getD k md0).ss).getD i sg0).i])) C Try.underlying30 C (by decide) C (by kernel_rfl) C
 intro vf pf hmu hR
 have e5 := hR 5 (by decide)
 have e12 : IsRow 38 3 1 (mI [(((D.getD k md0).ss).getD i sg0).k, wd, (((D.getD k md0).ss).getD i sg0).i]) (vf 12) (pf 12) := hR 12 (by decide)
 obtain ⟨g17, vE12, pE12⟩ := e12
 refine Or.inl ⟨C, ?_⟩
 show RunM _ _ _ (pf 18) (([5, 12] : List Nat).flatMap pf ++ _) (envOf3 _ vf [5, 12] ++ _) _ _
 have hmu0 : pf 18 = [rS9 38 3 sq S sgC] := hmu 0 (show 0 < 1 by omega)
 rw [hmu0]
 exact eE (sk 111 (congrArg some e5.1) (sk 118 (congrArg some vE12) (aL _))) (by simp only [pE12, vE12, e5.2, fS] <;> rfl) (iI (d := 0) (z := .agg #[jI 0, jI 0, jI 0]) (bytes := 24) (n' := (S ++ [(Sg.mk ((((D.getD k md0).ss).getD i sg0).k) wd ((((D.getD k md0).ss).getD i sg0).i))]).length) (xs' := ((S ++ [(Sg.mk ((((D.getD k md0).ss).getD i sg0).k) wd ((((D.getD k md0).ss).getD i sg0).i))]).flatMap sgC)) C Try.underlying30 C C C C (aJ 0 C) (cQ _) (by first | omega | (simp only [List.length_append, List.length_cons, List.length_nil]; omega)) (cM S [(Sg.mk ((((D.getD k md0).ss).getD i sg0).k) wd ((((D.getD k md0).ss).getD i sg0).i))]) (dM sgC S (Sg.mk ((((D.getD k md0).ss).getD i sg0).k) wd ((((D.getD k md0).ss).getD i sg0).i)) _ C))
 intro vf pf hmu hR
 have e0 := hR 0 (by decide)
 have e12 : IsRow 38 3 1 (mI [(((D.getD k md0).ss).getD i sg0).k, wd, (((D.getD k md0).ss).getD i sg0).i]) (vf 12) (pf 12) := hR 12 (by decide)
 obtain ⟨g17, vE12, pE12⟩ := e12
 have e13 : (∃ pm_, (pf 13) = [pm_] ∧ (fun u_ p_ => p_ = rowE 38 3 u_ ((S ++ [(Sg.mk ((((D.getD k md0).ss).getD i sg0).k) wd ((((D.getD k md0).ss).getD i sg0).i))]).length) ((S ++ [(Sg.mk ((((D.getD k md0).ss).getD i sg0).k) wd ((((D.getD k md0).ss).getD i sg0).i))]).flatMap sgC)) (vf 13) pm_) := hR 13 (by decide)
 obtain ⟨p19, pE13, R20⟩ := e13
 obtain ⟨v18, vE13⟩ : ∃ x, vf 13 = x := ⟨_, rfl⟩
 rw [vE13] at R20
 subst R20
 have q0 := hR 0 (by decide)
 have q1 := hR 1 (by decide)
 have q2 := hR 2 (by decide)
 have q3 := hR 3 (by decide)
 have q4 := hR 4 (by decide)
 have q5 := hR 5 (by decide)
 have q6 := hR 6 (by decide)
 have q7 := hR 7 (by decide)
 have q8 := hR 8 (by decide)
 have q9 := hR 9 (by decide)
 have q10 := hR 10 (by decide)
 have q11 := hR 11 (by decide)
 refine dV (dB [73, 49, 48, 47, 46, 17, 16, 15, 14, 13, 12, 11, 10, 4, 3, 2, 1, 0] _ (sk 106 (congrArg some e0.1) (sk 119 (congrArg some vE13) (aL _))) C) (by simp only [pE12, vE12, pE13, vE13, q0.2, q1.2, q2.2, q3.2, q4.2, q5.2, q6.2, q7.2, q8.2, q9.2, q10.2, q11.2, fS] <;> rfl) ?_
 simp only [List.drop_succ_cons, List.drop_zero]
 refine aI C (eL C C) (aI C (bM 1 C C C) (aI C (bM 0 C C C) ?_))
 refine cS (i := 1) C (fun ho21 => ?_)
 refine eZ (i := 6) (cs' := #[v, v18, av, .slice none 0 0, mv]) C C C C C C ho21 C C C C (bK (cK (aO (aI C (dO C C C) (dA 1 C ?_)))))
 have hset : (ids ++ List.replicate ((D.getD k md0).ss.length - i) 0).set i (S.length : Int) = (ids ++ [(S.length : Int)]) ++ List.replicate ((D.getD k md0).ss.length - (i + 1)) 0 := tD hil (by omega)
 rw [hset]
 refine cD 10 [9, 8, 7, 1, 6, 5, 4, 3] C C (by decide) ?_
 exact fX (i + 1) n (ids ++ [(S.length : Int)]) (S ++ [(Sg.mk ((((D.getD k md0).ss).getD i sg0).k) wd ((((D.getD k md0).ss).getD i sg0).i))]) v18 ⟨by omega, by rw [hwd]; exact vS hs (hbt.2 (by assumption))⟩ (by omega) (aU [48, 47, 46, 14, 13, 12, 11, 10, 4, 3, 2, 1, 0] rfl) (.refl _)
 refine bQ (kD C ?_)
 refine bI (dC ?_)
 refine aM (aR (eM (aI C (bM 1 C C C) (aI C (aC C C C (aA 2 C C)) ?_))))
 refine aI C (dL C C C (fun w hm => (((hd w (hm.sub (fO 8 C))).at (k := k) hkl).g))) (aP 1 C (bD ?_))
 have hsF : sgF (D.getD k md0) p (!t) P F.ss (D.getD k md0).ss.length = some (ids, n, S) := by rw [show (D.getD k md0).ss.length = i by omega]; exact hs
 have hze : (ids ++ List.replicate ((D.getD k md0).ss.length - i) 0) = ids := Ah (by omega)
 rw [hze]
 refine lZ (α := Nat) (β := List As) (γ := Value) (δ := List HP) [0, 1, 2, 3, 4, 10, 11, 12, 13, 14, 46, 47, 48, 49, 125, 126] C (fun ax G av2 ps2 => (rowE 3 1 (.slice (some ⟨g2, 0, none⟩) ((List.replicate (((D.getD k md0).ss).length) (0 : Int)).length) ((List.replicate (((D.getD k md0).ss).length) (0 : Int)).length)) ids.length (mI ids) :: boxE b1 #[(D.getD k md0).sv, (D.getD k md0).av, (D.getD k md0).iv, (D.getD k md0).mv] 35 :: boxE b #[v, sq, av2, .slice none 0 0, mv] 114 :: rS9 38 3 sq S sgC :: rS9 89 2 av2 G asC :: rS9 94 4 mv F.ms mmC :: bigE ps2 :: l)) (fun ax G av2 ps2 => [(127, jI (ax : Int))]) (fun ax G av2 ps2 => ax ≤ (D.getD k md0).gs.length ∧ G.map asV = F.gs ++ ((D.getD k md0).gs.take ax).map (asF ids p) ∧ ∀ w, (bigE ps2).holds w → OpsR w G) (fun ax G av2 ps2 => (D.getD k md0).gs.length - ax) 0 gs av ps ⟨Nat.zero_le _, by simp [hgs], hps⟩ (cN C) (.cons _ (.refl _)) ?_
 intro ax G av2 ps2 hi22
 obtain ⟨ha, hG, hpq⟩ := hi22
 have hGl : G.length = F.gs.length + ax := by have h9 := congrArg List.length hG; rw [List.length_map, List.length_append, List.length_map, List.length_take] at h9; omega
 refine cA ?_
 refine bN C C C C C C (fun h23 => ?_) (fun h23 => ?_)
 refine bQ (jX C (cE (fD (cA ?_))))
 refine aI C (cR 2 C C C C (fun w hm => (((hd w (hm.sub (fO 7 C))).at (k := k) hkl).g))) (aI C (bL (us := [jI ((((D.getD k md0).gs).getD ax as0).t), (((D.getD k md0).gs).getD ax as0).ov]) C C C C (fun w hm => (((hd w (hm.sub (fO 7 C))).at (k := k) hkl).g)) (by omega) C (bY asC 2 (fun _ => C) ((D.getD k md0).gs) as0 (show ax < _ by omega) C)) ?_)
 refine cL C (bG (z := .agg #[jI 0, .slice none 0 0]) C C) ?_
 intro b24
 refine bE (cs' := #[jI ((((D.getD k md0).gs).getD ax as0).t), (((D.getD k md0).gs).getD ax as0).ov]) (i := 0) (off := 0) (us := [jI ((((D.getD k md0).gs).getD ax as0).t), (((D.getD k md0).gs).getD ax as0).ov]) C C C C C C C (aB C (aB (hm9.o.at (k := ax) (by omega)).one bC)) C C C (bQ (cA ?_))
 obtain ⟨⟨hgt, -⟩, hgo9⟩ := (show (_ ∧ _) ∧ OpsP (D.getD k md0).ss.length ((D.getD k md0).gs.getD ax as0).os from ⟨(hmod.gs ax (by omega)).tgt, (hmod.gs ax (by omega)).2⟩)
 refine aH 1 C (aI C (bM 0 C C C) (aI C (aC C C C (aA 0 C C)) (aI C (cR 1 C C C C (aJ 1 C)) (aI C (nD C C C (aJ 1 C)) (aI C (cU (cs := #[jI (ids.getD (((((D.getD k md0).gs).getD ax as0).t).toNat) 0), .slice none 0 0]) C C C) ?_)))))
 refine cL C (bG (z := .agg #[jI 0, .slice none 0 0]) C C) ?_
 intro b25
 refine bE (cs' := #[jI (ids.getD (((((D.getD k md0).gs).getD ax as0).t).toNat) 0), .slice none 0 0]) (i := 0) (off := 0) (us := [jI (ids.getD (((((D.getD k md0).gs).getD ax as0).t).toNat) 0), .slice none 0 0]) C C C C C C C (aB C (aB C bC)) C C C (bQ (eM (aI C (bM 1 C C C) (aI C (aC C C C (aA 1 C C)) ?_))))
 refine aI C (dL C C C (fun w hm => (((hd w (hm.sub (fO 9 C))).at (k := k) hkl).o.at (k := ax) (by omega)))) (aP 1 C (bD ?_))
 refine fB (rowE 97 3 (.slice none 0 0) (([] : List Oq).length) (([] : List Oq).flatMap oqC) :: boxE b25 #[jI (ids.getD (((((D.getD k md0).gs).getD ax as0).t).toNat) 0), .slice none 0 0] 89 :: boxE b24 #[jI ((((D.getD k md0).gs).getD ax as0).t), (((D.getD k md0).gs).getD ax as0).ov] 89 :: rowE 3 1 (.slice (some ⟨g2, 0, none⟩) ((List.replicate (((D.getD k md0).ss).length) (0 : Int)).length) ((List.replicate (((D.getD k md0).ss).length) (0 : Int)).length)) ids.length (mI ids) :: boxE b1 #[(D.getD k md0).sv, (D.getD k md0).av, (D.getD k md0).iv, (D.getD k md0).mv] 35 :: boxE b #[v, sq, av2, .slice none 0 0, mv] 114 :: rS9 38 3 sq S sgC :: rS9 89 2 av2 G asC :: rS9 94 4 mv F.ms mmC :: bigE ps2 :: l) (fun w hm => hm.nilRow 97 3) ?_
 refine jC (α := Nat) (β := List Oq) (γ := Value) [0, 1, 2, 3, 4, 10, 11, 12, 13, 14, 19, 20, 46, 47, 48, 49, 125, 126, 127, 128, 138, 139] C (fun bq os ov => (rS9 97 3 ov os oqC :: boxE b25 #[jI (ids.getD (((((D.getD k md0).gs).getD ax as0).t).toNat) 0), ov] 89 :: boxE b24 #[jI ((((D.getD k md0).gs).getD ax as0).t), (((D.getD k md0).gs).getD ax as0).ov] 89 :: rowE 3 1 (.slice (some ⟨g2, 0, none⟩) ((List.replicate (((D.getD k md0).ss).length) (0 : Int)).length) ((List.replicate (((D.getD k md0).ss).length) (0 : Int)).length)) ids.length (mI ids) :: boxE b1 #[(D.getD k md0).sv, (D.getD k md0).av, (D.getD k md0).iv, (D.getD k md0).mv] 35 :: boxE b #[v, sq, av2, .slice none 0 0, mv] 114 :: rS9 38 3 sq S sgC :: rS9 89 2 av2 G asC :: rS9 94 4 mv F.ms mmC :: bigE ps2 :: l)) (fun bq os ov => [(140, jI (bq : Int))]) (fun bq os ov => bq ≤ ((D.getD k md0).gs.getD ax as0).os.length ∧ os = (((D.getD k md0).gs.getD ax as0).os.take bq).map (opF ids p)) (fun bq os ov => ((D.getD k md0).gs.getD ax as0).os.length - bq) 0 [] _ ⟨Nat.zero_le _, C⟩ (cN C) (.refl _) ?_
 intro bq os ov hi26
 obtain ⟨hb, hos⟩ := hi26
 have hol : os.length = bq := by rw [hos, List.length_map, List.length_take]; omega
 have hgl15 := hgo9.len
 refine cA ?_
 refine bN C C C C C C (fun h27 => ?_) (fun h27 => ?_)
 refine bQ (jX C (cE (fD (cA ?_))))
 refine aI C (cR 3 C C C C (fun w hm => (((hd w (hm.sub (fO 10 C))).at (k := k) hkl).o.at (k := ax) (by omega)))) (aI C (bL (us := [jI ((((((D.getD k md0).gs).getD ax as0).os).getD bq oq0).k), jI ((((((D.getD k md0).gs).getD ax as0).os).getD bq oq0).a), jI ((((((D.getD k md0).gs).getD ax as0).os).getD bq oq0).b)]) C C C C (fun w hm => (((hd w (hm.sub (fO 10 C))).at (k := k) hkl).o.at (k := ax) (by omega))) (by omega) C (bY oqC 3 (fun _ => C) ((((D.getD k md0).gs).getD ax as0).os) oq0 (show bq < _ by omega) C)) ?_)
 refine cL C (bG (z := .agg #[jI 0, jI 0, jI 0]) C C) ?_
 intro b28
 refine bE (cs' := #[jI ((((((D.getD k md0).gs).getD ax as0).os).getD bq oq0).k), jI ((((((D.getD k md0).gs).getD ax as0).os).getD bq oq0).a), jI ((((((D.getD k md0).gs).getD ax as0).os).getD bq oq0).b)]) (i := 0) (off := 0) (us := [jI ((((((D.getD k md0).gs).getD ax as0).os).getD bq oq0).k), jI ((((((D.getD k md0).gs).getD ax as0).os).getD bq oq0).a), jI ((((((D.getD k md0).gs).getD ax as0).os).getD bq oq0).b)]) C C C C C C C (aB C (aB C (aB C bC))) C C C (bQ ?_)
 refine fJ (α := Oq) (fun oo => (boxE b28 #[jI oo.k, jI oo.a, jI oo.b] 97 :: rS9 97 3 ov os oqC :: boxE b25 #[jI (ids.getD (((((D.getD k md0).gs).getD ax as0).t).toNat) 0), ov] 89 :: boxE b24 #[jI ((((D.getD k md0).gs).getD ax as0).t), (((D.getD k md0).gs).getD ax as0).ov] 89 :: rowE 3 1 (.slice (some ⟨g2, 0, none⟩) ((List.replicate (((D.getD k md0).ss).length) (0 : Int)).length) ((List.replicate (((D.getD k md0).ss).length) (0 : Int)).length)) ids.length (mI ids) :: boxE b1 #[(D.getD k md0).sv, (D.getD k md0).av, (D.getD k md0).iv, (D.getD k md0).mv] 35 :: boxE b #[v, sq, av2, .slice none 0 0, mv] 114 :: rS9 38 3 sq S sgC :: rS9 89 2 av2 G asC :: rS9 94 4 mv F.ms mmC :: bigE ps2 :: l)) (fun oo => [(0, pI b), (1, jI (k : Int)), (2, jI p), (3, uP), (4, .bool t), (10, .bool false), (11, pI b1), (12, .slice (some ⟨g2, 0, none⟩) ((List.replicate (((D.getD k md0).ss).length) (0 : Int)).length) ((List.replicate (((D.getD k md0).ss).length) (0 : Int)).length)), (13, v3), (14, jI (n : Int)), (19, pI b24), (20, pI b25), (22, pI b28), (46, (D.getD k md0).sv), (47, jI (((D.getD k md0).ss).length : Int)), (48, jI (i : Int)), (49, .bool false), (125, (D.getD k md0).av), (126, jI (((D.getD k md0).gs).length : Int)), (127, jI (ax : Int)), (128, .bool true), (138, (((D.getD k md0).gs).getD ax as0).ov), (139, jI (((((D.getD k md0).gs).getD ax as0).os).length : Int)), (140, jI (bq : Int)), (141, .bool true)]) (fun oo => oo = opF ids p (((D.getD k md0).gs.getD ax as0).os.getD bq oq0)) ?_ ?_
 refine cA (aI C (bM 0 C C C) (aI C (aC C C C (aA 0 C C)) (bQ (bD (cA ?_)))))
 refine bU C C C C C C (fun h29 => ?_) (fun h29 => ?_)
 refine aP 1 C (aK C (cG 1 C (aI C (cU (cs := #[jI 0, jI p, jI 0]) C C C) ?_)))
 refine bE (cs' := #[jI 0, jI p, jI 0]) (i := 0) (off := 0) (us := [jI 0, jI p, jI 0]) C C C C C C C (aB C (aB C (aB C bC))) C C C (bK (bV ?_))
 exact cP (Oq.mk 0 p 0) (by unfold opF; (repeat' split) <;> first | rfl | (exfalso; omega)) (cN C) (.refl _)
 refine aP 1 C (aS C (eM ?_))
 refine bU C C C C C C (fun h30 => ?_) (fun h30 => ?_)
 refine aP 1 C (aK C (cE (aK C (aO ?_))))
 have hra := kG hgo9 (show bq < ((D.getD k md0).gs.getD ax as0).os.length by omega) (by omega)
 refine aH 1 C (aI C (bM 1 C C C) (aI C (aC C C C (aA 0 C C)) (aI C (cR 1 C C C C (aJ 4 C)) (aI C (nD C C C (aJ 4 C)) (aI C (bM 1 C C C) ?_)))))
 refine eZ (i := 0) (cs' := #[jI ((((((D.getD k md0).gs).getD ax as0).os).getD bq oq0).k), jI (ids.getD (((((((D.getD k md0).gs).getD ax as0).os).getD bq oq0).a).toNat) 0), jI ((((((D.getD k md0).gs).getD ax as0).os).getD bq oq0).b)]) C C C C C C C C C C C (bK (bV ?_))
 exact cP (Oq.mk ((((((D.getD k md0).gs).getD ax as0).os).getD bq oq0).k) (ids.getD (((((((D.getD k md0).gs).getD ax as0).os).getD bq oq0).a).toNat) 0) ((((((D.getD k md0).gs).getD ax as0).os).getD bq oq0).b)) (by unfold opF; (repeat' split) <;> first | rfl | (exfalso; omega)) (cN C) (.refl _)
 refine aP 1 C (aS C (aO ?_))
 refine bU C C C C C C (fun h31 => ?_) (fun h31 => ?_)
 refine aP 1 C (aK C (aO ?_))
 have hra := kG hgo9 (show bq < ((D.getD k md0).gs.getD ax as0).os.length by omega) (by omega)
 refine aH 1 C (aI C (bM 1 C C C) (aI C (aC C C C (aA 0 C C)) (aI C (cR 1 C C C C (aJ 4 C)) (aI C (nD C C C (aJ 4 C)) (aI C (bM 1 C C C) ?_)))))
 refine eZ (i := 0) (cs' := #[jI ((((((D.getD k md0).gs).getD ax as0).os).getD bq oq0).k), jI (ids.getD (((((((D.getD k md0).gs).getD ax as0).os).getD bq oq0).a).toNat) 0), jI ((((((D.getD k md0).gs).getD ax as0).os).getD bq oq0).b)]) C C C C C C C C C C C (bK (bV ?_))
 exact cP (Oq.mk ((((((D.getD k md0).gs).getD ax as0).os).getD bq oq0).k) (ids.getD (((((((D.getD k md0).gs).getD ax as0).os).getD bq oq0).a).toNat) 0) ((((((D.getD k md0).gs).getD ax as0).os).getD bq oq0).b)) (by unfold opF; (repeat' split) <;> first | rfl | (exfalso; omega)) (cN C) (.refl _)
 refine aP 1 C (gM C (bV ?_))
 exact cP (Oq.mk ((((((D.getD k md0).gs).getD ax as0).os).getD bq oq0).k) ((((((D.getD k md0).gs).getD ax as0).os).getD bq oq0).a) ((((((D.getD k md0).gs).getD ax as0).os).getD bq oq0).b)) (by unfold opF; (repeat' split) <;> first | rfl | (exfalso; omega)) (cN C) (.refl _)
 intro oo hm32
 have hoo := hm32
 refine aO (aI C (bM 1 C C C) (aI C (aC C C C (aA 2 C C)) (aI C (aW (cs := [jI oo.k, jI oo.a, jI oo.b]) C C C C C (aT 0 C 0 C)) ?_)))
 refine eA C (bB (z := .agg #[jI 0, jI 0, jI 0]) (s := 3) (cs := (mI [oo.k, oo.a, oo.b])) C Try.underlying71 C (by decide) C (by kernel_rfl) C) ?_
 intro g33
 refine cW (i := 2) (z := .agg #[jI 0, jI 0, jI 0]) (bytes := 24) C C C C Try.underlying71 (by kernel_rfl) C C C C (aJ 0 C) (cQ _) (by first | omega | (simp only [List.length_append, List.length_cons, List.length_nil]; omega)) (cM os [oo]) (dM oqC os oo _ C) (fun _ => C) ?_
 intro v34
 refine aI C (bM 1 C C C) (cS (i := 2) C (fun ho35 => ?_))
 refine eZ (i := 3) (cs' := #[jI (ids.getD (((((D.getD k md0).gs).getD ax as0).t).toNat) 0), v34]) C C C C C C ho35 C C C C (bK (cK (aO (aI C (dO C C C) (dA 1 C ?_)))))
 exact cO (bq + 1) (os ++ [oo]) v34 ⟨by omega, by rw [eU oq0 (show bq < ((D.getD k md0).gs.getD ax as0).os.length by omega), List.map_append, ← hos, hoo]; rfl⟩ (by omega) (cN rfl) (fO 2 rfl)
 refine bQ (kD C ?_)
 refine bI (dC ?_)
 refine aM (aR ?_)
 refine oR (fun w hm => (aJ 0 C w hm).one) (fun hov9 => ?_)
 refine hC 10 [9, 8, 6, 5, 4, 3, 2, 1, 0, 7] C C (by decide) ?_
 refine iF (l := (rS9 97 3 ov os oqC :: boxE b25 #[jI (ids.getD (((((D.getD k md0).gs).getD ax as0).t).toNat) 0), ov] 89 :: boxE b24 #[jI ((((D.getD k md0).gs).getD ax as0).t), (((D.getD k md0).gs).getD ax as0).ov] 89 :: rowE 3 1 (.slice (some ⟨g2, 0, none⟩) ((List.replicate (((D.getD k md0).ss).length) (0 : Int)).length) ((List.replicate (((D.getD k md0).ss).length) (0 : Int)).length)) ids.length (mI ids) :: boxE b1 #[(D.getD k md0).sv, (D.getD k md0).av, (D.getD k md0).iv, (D.getD k md0).mv] 35 :: boxE b #[v, sq, av2, .slice none 0 0, mv] 114 :: rS9 38 3 sq S sgC :: rS9 94 4 mv F.ms mmC :: bigE ps2 :: l)) (by kernel_rfl) 9 [0, 1, 2, 3, 4, 5, 6, 7, 8] (List.take 9 _) (List.drop 9 _) [[], [], [1], [2], [3], [4], [], [6], [5, 7]] [some 166, some 167, some 168, some 169, some 170, some 171, some 172, some 173, some 174] (fun i_ vs_ v_ p_ => match i_ with | 0 => v_ = pI b ∧ p_ = [] | 1 => v_ = pI b ∧ p_ = [] | 2 => v_ = pI b ∧ p_ = [] | 3 => v_ = .pointer (some ⟨b, 0 + 1, none⟩) ∧ p_ = [] | 4 => v_ = .pointer (some ⟨b, 0 + 1 + 1, none⟩) ∧ p_ = [] | 5 => v_ = av2 ∧ p_ = [] | 6 => v_ = .agg #[jI (ids.getD (((((D.getD k md0).gs).getD ax as0).t).toNat) 0), ov] ∧ p_ = [] | 7 => IsRow 89 2 1 ([jI (ids.getD (((((D.getD k md0).gs).getD ax as0).t).toNat) 0), ov]) v_ p_ | 8 => (∃ pm_, p_ = [pm_] ∧ (fun u_ p_ => p_ = rowE 89 2 u_ ((G ++ [(As.mk (ids.getD (((((D.getD k md0).gs).getD ax as0).t).toNat) 0) ov os)]).length) ((G ++ [(As.mk (ids.getD (((((D.getD k md0).gs).getD ax as0).t).toNat) 0) ov os)]).flatMap asC)) v_ pm_) | _ => True) [[], [], [1], [2], [3], [4], [], [6], [5, 7]] [none, none, none, none, none, none, none, none, some 13] [[rS9 89 2 av2 G asC]] [0, 1, 2, 3, 4, 5, 6, 7, 8] 13 (List.take_append_drop 9 _).symm (by kernel_rfl) (by kernel_rfl) (by kernel_rfl) ?_ ?_ ?_ ?_
 rfl
 rfl
 refine ⟨?_, ?_, ?_, ?_, ?_, ?_, ?_, ?_, ?_, trivial⟩
 intro vf pf hmu hR
 refine cT [] [] C (cC (aU [0] C) ?_)
 exact bH (aY C)
 intro vf pf hmu hR
 refine cT [] [] C (cC (aU [0] C) ?_)
 exact bH (aY C)
 intro vf pf hmu hR
 have e1 := hR 1 (by decide)
 refine cT [1] [1] C (cC (sk 167 (congrArg some e1.1) (aL _)) ?_)
 exact bH (eL C C)
 intro vf pf hmu hR
 have e2 := hR 2 (by decide)
 refine cT [2] [2] C (cC (sk 168 (congrArg some e2.1) (aL _)) ?_)
 exact bH (bM 1 C C C)
 intro vf pf hmu hR
 have e3 := hR 3 (by decide)
 refine cT [3] [3] C (cC (sk 169 (congrArg some e3.1) (aL _)) ?_)
 exact bH (bM 1 C C C)
 intro vf pf hmu hR
 have e4 := hR 4 (by decide)
 refine cT [4] [4] C (bP (sk 170 (congrArg some e4.1) (aL _)) (List.sublist_append_right _ _) ?_)
 exact bH (aC C C C (aA 5 C C))
 intro vf pf hmu hR
 refine cT [] [] C (bP (aU [20] C) (List.sublist_append_right _ _) ?_)
 exact bH (aW (cs := [jI (ids.getD (((((D.getD k md0).gs).getD ax as0).t).toNat) 0), ov]) C C C C C (aT 1 C 0 C))
 intro vf pf hmu hR
 have e6 := hR 6 (by decide)
 refine cT [6] [6] C (bP (sk 172 (congrArg some e6.1) (aL _)) (List.sublist_append_right _ _) ?_)
 exact bB (z := .agg #[jI 0, .slice none 0 0]) (s := 2) (cs := [jI (ids.getD (((((D.getD k md0).gs).getD ax as0).t).toNat) 0), ov]) C Try.underlying31 C (by decide) C (by kernel_rfl) C
 intro vf pf hmu hR
 have e5 := hR 5 (by decide)
 have e7 : IsRow 89 2 1 ([jI (ids.getD (((((D.getD k md0).gs).getD ax as0).t).toNat) 0), ov]) (vf 7) (pf 7) := hR 7 (by decide)
 obtain ⟨g36, vE7, pE7⟩ := e7
 refine Or.inl ⟨C, ?_⟩
 show RunM _ _ _ (pf 13) (([5, 7] : List Nat).flatMap pf ++ _) (envOf3 _ vf [5, 7] ++ _) _ _
 have hmu0 : pf 13 = [rS9 89 2 av2 G asC] := hmu 0 (show 0 < 1 by omega)
 rw [hmu0]
 exact eE (sk 171 (congrArg some e5.1) (sk 173 (congrArg some vE7) (aL _))) (by simp only [pE7, vE7, e5.2, fS] <;> rfl) (iI (d := 0) (z := .agg #[jI 0, .slice none 0 0]) (bytes := 32) (n' := (G ++ [(As.mk (ids.getD (((((D.getD k md0).gs).getD ax as0).t).toNat) 0) ov os)]).length) (xs' := ((G ++ [(As.mk (ids.getD (((((D.getD k md0).gs).getD ax as0).t).toNat) 0) ov os)]).flatMap asC)) C Try.underlying31 C C C C (aJ 0 C) (aB C (aB hov9 bC)) (by first | omega | (simp only [List.length_append, List.length_cons, List.length_nil]; omega)) (cM G [(As.mk (ids.getD (((((D.getD k md0).gs).getD ax as0).t).toNat) 0) ov os)]) (dM asC G (As.mk (ids.getD (((((D.getD k md0).gs).getD ax as0).t).toNat) 0) ov os) _ C))
 intro vf pf hmu hR
 have e0 := hR 0 (by decide)
 have e7 : IsRow 89 2 1 ([jI (ids.getD (((((D.getD k md0).gs).getD ax as0).t).toNat) 0), ov]) (vf 7) (pf 7) := hR 7 (by decide)
 obtain ⟨g36, vE7, pE7⟩ := e7
 have e8 : (∃ pm_, (pf 8) = [pm_] ∧ (fun u_ p_ => p_ = rowE 89 2 u_ ((G ++ [(As.mk (ids.getD (((((D.getD k md0).gs).getD ax as0).t).toNat) 0) ov os)]).length) ((G ++ [(As.mk (ids.getD (((((D.getD k md0).gs).getD ax as0).t).toNat) 0) ov os)]).flatMap asC)) (vf 8) pm_) := hR 8 (by decide)
 obtain ⟨p38, pE8, R39⟩ := e8
 obtain ⟨v37, vE8⟩ : ∃ x, vf 8 = x := ⟨_, rfl⟩
 rw [vE8] at R39
 subst R39
 have q0 := hR 0 (by decide)
 have q1 := hR 1 (by decide)
 have q2 := hR 2 (by decide)
 have q3 := hR 3 (by decide)
 have q4 := hR 4 (by decide)
 have q5 := hR 5 (by decide)
 have q6 := hR 6 (by decide)
 refine dV (dB [141, 140, 139, 138, 128, 127, 126, 125, 49, 48, 47, 46, 20, 19, 14, 13, 12, 11, 10, 4, 3, 2, 1, 0] _ (sk 166 (congrArg some e0.1) (sk 174 (congrArg some vE8) (aL _))) C) (by simp only [pE7, vE7, pE8, vE8, q0.2, q1.2, q2.2, q3.2, q4.2, q5.2, q6.2, fS] <;> rfl) ?_
 simp only [List.drop_succ_cons, List.drop_zero]
 refine aI C (eL C C) (aI C (bM 1 C C C) (aI C (bM 1 C C C) ?_))
 refine cS (i := 1) C (fun ho40 => ?_)
 refine eZ (i := 7) (cs' := #[v, sq, v37, .slice none 0 0, mv]) C C C C C C ho40 C C C C (bK (cK (aO (aI C (dO C C C) (dA 1 C ?_)))))
 refine cD 11 [9, 8, 7, 6, 5, 1, 2, 10] C C (by decide) ?_
 refine dE 2 C ?_
 refine cD 7 [0, 6, 1, 5, 4, 3, 2] C C (by decide) ?_
 exact eR (ax + 1) (G ++ [(As.mk (ids.getD (((((D.getD k md0).gs).getD ax as0).t).toNat) 0) ov os)]) v37 [bigE ps2, rS9 97 3 ov os oqC] ⟨by omega, by rw [List.map_append, hG, eU as0 (show ax < (D.getD k md0).gs.length by omega), List.map_append, ← List.append_assoc]; congr 1; show [(_, os)] = [asF ids p ((D.getD k md0).gs.getD ax as0)]; rw [hos, show bq = ((D.getD k md0).gs.getD ax as0).os.length by omega, List.take_length]; rfl, fun w hw => (hpq w (bO hw dX)).app (cZ (bO hw (eI dX)))⟩ (by omega) (cN rfl) (.refl _)
 refine bQ (kD C ?_)
 refine bI (dC ?_)
 refine aM (aR (eM (aI C (bM 3 C C C) (aI C (aC C C C (aA 1 C C)) ?_))))
 refine aI C (dL C C C (fun w hm => (((hd w (hm.sub (fO 7 C))).at (k := k) hkl).m))) (aP 1 C (bD ?_))
 have hGq : G.map asV = F.gs ++ (D.getD k md0).gs.map (asF ids p) := by rw [hG, show ax = (D.getD k md0).gs.length by omega, List.take_length]
 have hGl2 : G.length = F.gs.length + (D.getD k md0).gs.length := by omega
 refine jC (α := Nat) (β := List Mm) (γ := Value) [0, 1, 2, 3, 4, 10, 11, 12, 13, 14, 46, 47, 48, 49, 125, 126, 127, 128, 180, 181] C (fun mx ms2 mw => (rowE 3 1 (.slice (some ⟨g2, 0, none⟩) ((List.replicate (((D.getD k md0).ss).length) (0 : Int)).length) ((List.replicate (((D.getD k md0).ss).length) (0 : Int)).length)) ids.length (mI ids) :: boxE b1 #[(D.getD k md0).sv, (D.getD k md0).av, (D.getD k md0).iv, (D.getD k md0).mv] 35 :: boxE b #[v, sq, av2, .slice none 0 0, mw] 114 :: rS9 38 3 sq S sgC :: rS9 89 2 av2 G asC :: rS9 94 4 mw ms2 mmC :: bigE ps2 :: l)) (fun mx ms2 mw => [(182, jI (mx : Int))]) (fun mx ms2 mw => mx ≤ (D.getD k md0).ms.length ∧ ms2 = F.ms ++ ((D.getD k md0).ms.take mx).map (mmF ids)) (fun mx ms2 mw => (D.getD k md0).ms.length - mx) 0 F.ms mv ⟨Nat.zero_le _, by simp⟩ (cN C) (.refl _) ?_
 intro mx ms2 mw hi41
 obtain ⟨he, hM⟩ := hi41
 have hMl : ms2.length = F.ms.length + mx := by rw [hM, List.length_append, List.length_map, List.length_take]; omega
 refine cA ?_
 refine bN C C C C C C (fun h42 => ?_) (fun h42 => ?_)
 refine bQ (jX C (cE (fD (cA ?_))))
 refine aI C (cR 4 C C C C (fun w hm => (((hd w (hm.sub (fO 7 C))).at (k := k) hkl).m))) (aI C (bL (us := [jI ((((D.getD k md0).ms).getD mx mm0).a), jI ((((D.getD k md0).ms).getD mx mm0).d), jI ((((D.getD k md0).ms).getD mx mm0).w), jI ((((D.getD k md0).ms).getD mx mm0).o)]) C C C C (fun w hm => (((hd w (hm.sub (fO 7 C))).at (k := k) hkl).m)) (by omega) C (bY mmC 4 (fun _ => C) ((D.getD k md0).ms) mm0 (show mx < _ by omega) C)) ?_)
 refine cL C (bG (z := .agg #[jI 0, jI 0, jI 0, jI 0]) C C) ?_
 intro b43
 refine bE (cs' := #[jI ((((D.getD k md0).ms).getD mx mm0).a), jI ((((D.getD k md0).ms).getD mx mm0).d), jI ((((D.getD k md0).ms).getD mx mm0).w), jI ((((D.getD k md0).ms).getD mx mm0).o)]) (i := 0) (off := 0) (us := [jI ((((D.getD k md0).ms).getD mx mm0).a), jI ((((D.getD k md0).ms).getD mx mm0).d), jI ((((D.getD k md0).ms).getD mx mm0).w), jI ((((D.getD k md0).ms).getD mx mm0).o)]) C C C C C C C (aB C (aB C (aB C (aB C bC)))) C C C (bQ ?_)
 obtain ⟨⟨hma, hmd, hmw⟩, hmo⟩ := hmod.ms mx (by omega)
 have hmo := hmo.inn
 unfold Inn at hma hmd hmw hmo
 refine hC 8 [7, 5, 4, 3, 2, 1, 0, 6] C C (by decide) ?_
 refine iF (l := (boxE b43 #[jI ((((D.getD k md0).ms).getD mx mm0).a), jI ((((D.getD k md0).ms).getD mx mm0).d), jI ((((D.getD k md0).ms).getD mx mm0).w), jI ((((D.getD k md0).ms).getD mx mm0).o)] 94 :: rowE 3 1 (.slice (some ⟨g2, 0, none⟩) ((List.replicate (((D.getD k md0).ss).length) (0 : Int)).length) ((List.replicate (((D.getD k md0).ss).length) (0 : Int)).length)) ids.length (mI ids) :: boxE b1 #[(D.getD k md0).sv, (D.getD k md0).av, (D.getD k md0).iv, (D.getD k md0).mv] 35 :: boxE b #[v, sq, av2, .slice none 0 0, mw] 114 :: rS9 38 3 sq S sgC :: rS9 89 2 av2 G asC :: bigE ps2 :: l)) (by kernel_rfl) 29 [0, 1, 2, 3, 4, 5, 6, 7, 8, 9, 10, 11, 12, 13, 14, 15, 16, 17, 18, 19, 20, 21, 22, 23, 24, 25, 26, 27, 28] (List.take 29 _) (List.drop 29 _) [[], [], [1], [2], [3], [4], [], [], [7], [6, 8], [9], [], [], [12], [11, 13], [14], [], [], [17], [16, 18], [19], [], [], [22], [21, 23], [24], [10, 15, 20, 25], [26], [5, 27]] [some 186, some 187, some 188, some 189, some 190, some 191, some 192, some 193, some 194, some 195, some 196, some 197, some 198, some 199, some 200, some 201, some 202, some 203, some 204, some 205, some 206, some 207, some 208, some 209, some 210, some 211, some 212, some 213, some 214] (fun i_ vs_ v_ p_ => match i_ with | 0 => v_ = pI b ∧ p_ = [] | 1 => v_ = pI b ∧ p_ = [] | 2 => v_ = pI b ∧ p_ = [] | 3 => v_ = .pointer (some ⟨b, 0 + 1, none⟩) ∧ p_ = [] | 4 => v_ = .pointer (some ⟨b, 0 + 1 + 3, none⟩) ∧ p_ = [] | 5 => v_ = mw ∧ p_ = [] | 6 => v_ = .slice (some ⟨g2, 0, none⟩) ((List.replicate (((D.getD k md0).ss).length) (0 : Int)).length) ((List.replicate (((D.getD k md0).ss).length) (0 : Int)).length) ∧ p_ = [] | 7 => v_ = .pointer (some ⟨b43, 0 + 0, none⟩) ∧ p_ = [] | 8 => v_ = jI ((((D.getD k md0).ms).getD mx mm0).a) ∧ p_ = [] | 9 => v_ = elP (.slice (some ⟨g2, 0, none⟩) ((List.replicate (((D.getD k md0).ss).length) (0 : Int)).length) ((List.replicate (((D.getD k md0).ss).length) (0 : Int)).length)) (((((D.getD k md0).ms).getD mx mm0).a).toNat * 1) ∧ p_ = [] | 10 => v_ = jI (ids.getD (((((D.getD k md0).ms).getD mx mm0).a).toNat) 0) ∧ p_ = [] | 11 => v_ = .slice (some ⟨g2, 0, none⟩) ((List.replicate (((D.getD k md0).ss).length) (0 : Int)).length) ((List.replicate (((D.getD k md0).ss).length) (0 : Int)).length) ∧ p_ = [] | 12 => v_ = .pointer (some ⟨b43, 0 + 1, none⟩) ∧ p_ = [] | 13 => v_ = jI ((((D.getD k md0).ms).getD mx mm0).d) ∧ p_ = [] | 14 => v_ = elP (.slice (some ⟨g2, 0, none⟩) ((List.replicate (((D.getD k md0).ss).length) (0 : Int)).length) ((List.replicate (((D.getD k md0).ss).length) (0 : Int)).length)) (((((D.getD k md0).ms).getD mx mm0).d).toNat * 1) ∧ p_ = [] | 15 => v_ = jI (ids.getD (((((D.getD k md0).ms).getD mx mm0).d).toNat) 0) ∧ p_ = [] | 16 => v_ = .slice (some ⟨g2, 0, none⟩) ((List.replicate (((D.getD k md0).ss).length) (0 : Int)).length) ((List.replicate (((D.getD k md0).ss).length) (0 : Int)).length) ∧ p_ = [] | 17 => v_ = .pointer (some ⟨b43, 0 + 2, none⟩) ∧ p_ = [] | 18 => v_ = jI ((((D.getD k md0).ms).getD mx mm0).w) ∧ p_ = [] | 19 => v_ = elP (.slice (some ⟨g2, 0, none⟩) ((List.replicate (((D.getD k md0).ss).length) (0 : Int)).length) ((List.replicate (((D.getD k md0).ss).length) (0 : Int)).length)) (((((D.getD k md0).ms).getD mx mm0).w).toNat * 1) ∧ p_ = [] | 20 => v_ = jI (ids.getD (((((D.getD k md0).ms).getD mx mm0).w).toNat) 0) ∧ p_ = [] | 21 => v_ = .slice (some ⟨g2, 0, none⟩) ((List.replicate (((D.getD k md0).ss).length) (0 : Int)).length) ((List.replicate (((D.getD k md0).ss).length) (0 : Int)).length) ∧ p_ = [] | 22 => v_ = .pointer (some ⟨b43, 0 + 3, none⟩) ∧ p_ = [] | 23 => v_ = jI ((((D.getD k md0).ms).getD mx mm0).o) ∧ p_ = [] | 24 => v_ = elP (.slice (some ⟨g2, 0, none⟩) ((List.replicate (((D.getD k md0).ss).length) (0 : Int)).length) ((List.replicate (((D.getD k md0).ss).length) (0 : Int)).length)) (((((D.getD k md0).ms).getD mx mm0).o).toNat * 1) ∧ p_ = [] | 25 => v_ = jI (ids.getD (((((D.getD k md0).ms).getD mx mm0).o).toNat) 0) ∧ p_ = [] | 26 => v_ = .agg #[jI (ids.getD (((((D.getD k md0).ms).getD mx mm0).a).toNat) 0), jI (ids.getD (((((D.getD k md0).ms).getD mx mm0).d).toNat) 0), jI (ids.getD (((((D.getD k md0).ms).getD mx mm0).w).toNat) 0), jI (ids.getD (((((D.getD k md0).ms).getD mx mm0).o).toNat) 0)] ∧ p_ = [] | 27 => IsRow 94 4 1 (mI [ids.getD (((((D.getD k md0).ms).getD mx mm0).a).toNat) 0, ids.getD (((((D.getD k md0).ms).getD mx mm0).d).toNat) 0, ids.getD (((((D.getD k md0).ms).getD mx mm0).w).toNat) 0, ids.getD (((((D.getD k md0).ms).getD mx mm0).o).toNat) 0]) v_ p_ | 28 => (∃ pm_, p_ = [pm_] ∧ (fun u_ p_ => p_ = rowE 94 4 u_ ((ms2 ++ [(Mm.mk (ids.getD (((((D.getD k md0).ms).getD mx mm0).a).toNat) 0) (ids.getD (((((D.getD k md0).ms).getD mx mm0).d).toNat) 0) (ids.getD (((((D.getD k md0).ms).getD mx mm0).w).toNat) 0) (ids.getD (((((D.getD k md0).ms).getD mx mm0).o).toNat) 0))]).length) ((ms2 ++ [(Mm.mk (ids.getD (((((D.getD k md0).ms).getD mx mm0).a).toNat) 0) (ids.getD (((((D.getD k md0).ms).getD mx mm0).d).toNat) 0) (ids.getD (((((D.getD k md0).ms).getD mx mm0).w).toNat) 0) (ids.getD (((((D.getD k md0).ms).getD mx mm0).o).toNat) 0))]).flatMap mmC)) v_ pm_) | _ => True) [[], [], [1], [2], [3], [4], [], [], [7], [6, 8], [9], [], [], [12], [11, 13], [14], [], [], [17], [16, 18], [19], [], [], [22], [21, 23], [24], [10, 15, 20, 25], [26], [5, 27]] [none, none, none, none, none, none, none, none, none, none, none, none, none, none, none, none, none, none, none, none, none, none, none, none, none, none, none, none, some 33] [[rS9 94 4 mw ms2 mmC]] [0, 1, 2, 3, 4, 5, 6, 7, 8, 9, 10, 11, 12, 13, 14, 15, 16, 17, 18, 19, 20, 21, 22, 23, 24, 25, 26, 27, 28] 33 (List.take_append_drop 29 _).symm (by kernel_rfl) (by kernel_rfl) (by kernel_rfl) ?_ ?_ ?_ ?_
 rfl
 rfl
 refine ⟨?_, ?_, ?_, ?_, ?_, ?_, ?_, ?_, ?_, ?_, ?_, ?_, ?_, ?_, ?_, ?_, ?_, ?_, ?_, ?_, ?_, ?_, ?_, ?_, ?_, ?_, ?_, ?_, ?_, trivial⟩
 intro vf pf hmu hR
 refine cT [] [] C (cC (aU [0] C) ?_)
 exact bH (aY C)
 intro vf pf hmu hR
 refine cT [] [] C (cC (aU [0] C) ?_)
 exact bH (aY C)
 intro vf pf hmu hR
 have e1 := hR 1 (by decide)
 refine cT [1] [1] C (cC (sk 187 (congrArg some e1.1) (aL _)) ?_)
 exact bH (eL C C)
 intro vf pf hmu hR
 have e2 := hR 2 (by decide)
 refine cT [2] [2] C (cC (sk 188 (congrArg some e2.1) (aL _)) ?_)
 exact bH (bM 1 C C C)
 intro vf pf hmu hR
 have e3 := hR 3 (by decide)
 refine cT [3] [3] C (cC (sk 189 (congrArg some e3.1) (aL _)) ?_)
 exact bH (bM 3 C C C)
 intro vf pf hmu hR
 have e4 := hR 4 (by decide)
 refine cT [4] [4] C (bP (sk 190 (congrArg some e4.1) (aL _)) (List.sublist_append_right _ _) ?_)
 exact bH (aC C C C (aA 3 C C))
 intro vf pf hmu hR
 refine cT [] [] C (cC (aU [12] C) ?_)
 exact bH (aY C)
 intro vf pf hmu hR
 refine cT [] [] C (cC (aU [24] C) ?_)
 exact bH (bM 0 C C C)
 intro vf pf hmu hR
 have e7 := hR 7 (by decide)
 refine cT [7] [7] C (bP (sk 193 (congrArg some e7.1) (aL _)) (List.sublist_append_right _ _) ?_)
 exact bH (aC C C C (aA 0 C C))
 intro vf pf hmu hR
 have e6 := hR 6 (by decide)
 have e8 := hR 8 (by decide)
 refine cT [6, 8] [6, 8] C (bP (sk 192 (congrArg some e6.1) (sk 194 (congrArg some e8.1) (aL _))) (List.sublist_append_right _ _) ?_)
 exact bH (cR 1 C C C C (aJ 1 C))
 intro vf pf hmu hR
 have e9 := hR 9 (by decide)
 refine cT [9] [9] C (bP (sk 195 (congrArg some e9.1) (aL _)) (List.sublist_append_right _ _) ?_)
 exact bH (nD C C C (aJ 1 C))
 intro vf pf hmu hR
 refine cT [] [] C (cC (aU [12] C) ?_)
 exact bH (aY C)
 intro vf pf hmu hR
 refine cT [] [] C (cC (aU [24] C) ?_)
 exact bH (bM 1 C C C)
 intro vf pf hmu hR
 have e12 := hR 12 (by decide)
 refine cT [12] [12] C (bP (sk 198 (congrArg some e12.1) (aL _)) (List.sublist_append_right _ _) ?_)
 exact bH (aC C C C (aA 0 C C))
 intro vf pf hmu hR
 have e11 := hR 11 (by decide)
 have e13 := hR 13 (by decide)
 refine cT [11, 13] [11, 13] C (bP (sk 197 (congrArg some e11.1) (sk 199 (congrArg some e13.1) (aL _))) (List.sublist_append_right _ _) ?_)
 exact bH (cR 1 C C C C (aJ 1 C))
 intro vf pf hmu hR
 have e14 := hR 14 (by decide)
 refine cT [14] [14] C (bP (sk 200 (congrArg some e14.1) (aL _)) (List.sublist_append_right _ _) ?_)
 exact bH (nD C C C (aJ 1 C))
 intro vf pf hmu hR
 refine cT [] [] C (cC (aU [12] C) ?_)
 exact bH (aY C)
 intro vf pf hmu hR
 refine cT [] [] C (cC (aU [24] C) ?_)
 exact bH (bM 2 C C C)
 intro vf pf hmu hR
 have e17 := hR 17 (by decide)
 refine cT [17] [17] C (bP (sk 203 (congrArg some e17.1) (aL _)) (List.sublist_append_right _ _) ?_)
 exact bH (aC C C C (aA 0 C C))
 intro vf pf hmu hR
 have e16 := hR 16 (by decide)
 have e18 := hR 18 (by decide)
 refine cT [16, 18] [16, 18] C (bP (sk 202 (congrArg some e16.1) (sk 204 (congrArg some e18.1) (aL _))) (List.sublist_append_right _ _) ?_)
 exact bH (cR 1 C C C C (aJ 1 C))
 intro vf pf hmu hR
 have e19 := hR 19 (by decide)
 refine cT [19] [19] C (bP (sk 205 (congrArg some e19.1) (aL _)) (List.sublist_append_right _ _) ?_)
 exact bH (nD C C C (aJ 1 C))
 intro vf pf hmu hR
 refine cT [] [] C (cC (aU [12] C) ?_)
 exact bH (aY C)
 intro vf pf hmu hR
 refine cT [] [] C (cC (aU [24] C) ?_)
 exact bH (bM 3 C C C)
 intro vf pf hmu hR
 have e22 := hR 22 (by decide)
 refine cT [22] [22] C (bP (sk 208 (congrArg some e22.1) (aL _)) (List.sublist_append_right _ _) ?_)
 exact bH (aC C C C (aA 0 C C))
 intro vf pf hmu hR
 have e21 := hR 21 (by decide)
 have e23 := hR 23 (by decide)
 refine cT [21, 23] [21, 23] C (bP (sk 207 (congrArg some e21.1) (sk 209 (congrArg some e23.1) (aL _))) (List.sublist_append_right _ _) ?_)
 exact bH (cR 1 C C C C (aJ 1 C))
 intro vf pf hmu hR
 have e24 := hR 24 (by decide)
 refine cT [24] [24] C (bP (sk 210 (congrArg some e24.1) (aL _)) (List.sublist_append_right _ _) ?_)
 exact bH (nD C C C (aJ 1 C))
 intro vf pf hmu hR
 have e10 := hR 10 (by decide)
 have e15 := hR 15 (by decide)
 have e20 := hR 20 (by decide)
 have e25 := hR 25 (by decide)
 refine cT [10, 15, 20, 25] [10, 15, 20, 25] C (cC (sk 196 (congrArg some e10.1) (sk 201 (congrArg some e15.1) (sk 206 (congrArg some e20.1) (sk 211 (congrArg some e25.1) (aL _))))) ?_)
 exact bH (cU (cs := #[jI (ids.getD (((((D.getD k md0).ms).getD mx mm0).a).toNat) 0), jI (ids.getD (((((D.getD k md0).ms).getD mx mm0).d).toNat) 0), jI (ids.getD (((((D.getD k md0).ms).getD mx mm0).w).toNat) 0), jI (ids.getD (((((D.getD k md0).ms).getD mx mm0).o).toNat) 0)]) C C C)
 intro vf pf hmu hR
 have e26 := hR 26 (by decide)
 refine cT [26] [26] C (bP (sk 212 (congrArg some e26.1) (aL _)) (List.sublist_append_right _ _) ?_)
 exact bB (z := .agg #[jI 0, jI 0, jI 0, jI 0]) (s := 4) (cs := (mI [ids.getD (((((D.getD k md0).ms).getD mx mm0).a).toNat) 0, ids.getD (((((D.getD k md0).ms).getD mx mm0).d).toNat) 0, ids.getD (((((D.getD k md0).ms).getD mx mm0).w).toNat) 0, ids.getD (((((D.getD k md0).ms).getD mx mm0).o).toNat) 0])) C Try.underlying33 C (by decide) C (by kernel_rfl) C
 intro vf pf hmu hR
 have e5 := hR 5 (by decide)
 have e27 : IsRow 94 4 1 (mI [ids.getD (((((D.getD k md0).ms).getD mx mm0).a).toNat) 0, ids.getD (((((D.getD k md0).ms).getD mx mm0).d).toNat) 0, ids.getD (((((D.getD k md0).ms).getD mx mm0).w).toNat) 0, ids.getD (((((D.getD k md0).ms).getD mx mm0).o).toNat) 0]) (vf 27) (pf 27) := hR 27 (by decide)
 obtain ⟨g44, vE27, pE27⟩ := e27
 refine Or.inl ⟨C, ?_⟩
 show RunM _ _ _ (pf 33) (([5, 27] : List Nat).flatMap pf ++ _) (envOf3 _ vf [5, 27] ++ _) _ _
 have hmu0 : pf 33 = [rS9 94 4 mw ms2 mmC] := hmu 0 (show 0 < 1 by omega)
 rw [hmu0]
 refine eE (sk 191 (congrArg some e5.1) (sk 213 (congrArg some vE27) (aL _))) (by simp only [pE27, vE27, e5.2, fS] <;> rfl) ?_
 exact iI (d := 0) (z := .agg #[jI 0, jI 0, jI 0, jI 0]) (bytes := 32) (n' := (ms2 ++ [(Mm.mk (ids.getD (((((D.getD k md0).ms).getD mx mm0).a).toNat) 0) (ids.getD (((((D.getD k md0).ms).getD mx mm0).d).toNat) 0) (ids.getD (((((D.getD k md0).ms).getD mx mm0).w).toNat) 0) (ids.getD (((((D.getD k md0).ms).getD mx mm0).o).toNat) 0))]).length) (xs' := ((ms2 ++ [(Mm.mk (ids.getD (((((D.getD k md0).ms).getD mx mm0).a).toNat) 0) (ids.getD (((((D.getD k md0).ms).getD mx mm0).d).toNat) 0) (ids.getD (((((D.getD k md0).ms).getD mx mm0).w).toNat) 0) (ids.getD (((((D.getD k md0).ms).getD mx mm0).o).toNat) 0))]).flatMap mmC)) C Try.underlying33 C C C C (aJ 0 C) (cQ _) (by first | omega | (simp only [List.length_append, List.length_cons, List.length_nil]; omega)) (cM ms2 [(Mm.mk (ids.getD (((((D.getD k md0).ms).getD mx mm0).a).toNat) 0) (ids.getD (((((D.getD k md0).ms).getD mx mm0).d).toNat) 0) (ids.getD (((((D.getD k md0).ms).getD mx mm0).w).toNat) 0) (ids.getD (((((D.getD k md0).ms).getD mx mm0).o).toNat) 0))]) (dM mmC ms2 (Mm.mk (ids.getD (((((D.getD k md0).ms).getD mx mm0).a).toNat) 0) (ids.getD (((((D.getD k md0).ms).getD mx mm0).d).toNat) 0) (ids.getD (((((D.getD k md0).ms).getD mx mm0).w).toNat) 0) (ids.getD (((((D.getD k md0).ms).getD mx mm0).o).toNat) 0)) _ C)
 intro vf pf hmu hR
 have e0 := hR 0 (by decide)
 have e27 : IsRow 94 4 1 (mI [ids.getD (((((D.getD k md0).ms).getD mx mm0).a).toNat) 0, ids.getD (((((D.getD k md0).ms).getD mx mm0).d).toNat) 0, ids.getD (((((D.getD k md0).ms).getD mx mm0).w).toNat) 0, ids.getD (((((D.getD k md0).ms).getD mx mm0).o).toNat) 0]) (vf 27) (pf 27) := hR 27 (by decide)
 obtain ⟨g44, vE27, pE27⟩ := e27
 have e28 : (∃ pm_, (pf 28) = [pm_] ∧ (fun u_ p_ => p_ = rowE 94 4 u_ ((ms2 ++ [(Mm.mk (ids.getD (((((D.getD k md0).ms).getD mx mm0).a).toNat) 0) (ids.getD (((((D.getD k md0).ms).getD mx mm0).d).toNat) 0) (ids.getD (((((D.getD k md0).ms).getD mx mm0).w).toNat) 0) (ids.getD (((((D.getD k md0).ms).getD mx mm0).o).toNat) 0))]).length) ((ms2 ++ [(Mm.mk (ids.getD (((((D.getD k md0).ms).getD mx mm0).a).toNat) 0) (ids.getD (((((D.getD k md0).ms).getD mx mm0).d).toNat) 0) (ids.getD (((((D.getD k md0).ms).getD mx mm0).w).toNat) 0) (ids.getD (((((D.getD k md0).ms).getD mx mm0).o).toNat) 0))]).flatMap mmC)) (vf 28) pm_) := hR 28 (by decide)
 obtain ⟨p46, pE28, R47⟩ := e28
 obtain ⟨v45, vE28⟩ : ∃ x, vf 28 = x := ⟨_, rfl⟩
 rw [vE28] at R47
 subst R47
 have q0 := hR 0 (by decide)
 have q1 := hR 1 (by decide)
 have q2 := hR 2 (by decide)
 have q3 := hR 3 (by decide)
 have q4 := hR 4 (by decide)
 have q5 := hR 5 (by decide)
 have q6 := hR 6 (by decide)
 have q7 := hR 7 (by decide)
 have q8 := hR 8 (by decide)
 have q9 := hR 9 (by decide)
 have q10 := hR 10 (by decide)
 have q11 := hR 11 (by decide)
 have q12 := hR 12 (by decide)
 have q13 := hR 13 (by decide)
 have q14 := hR 14 (by decide)
 have q15 := hR 15 (by decide)
 have q16 := hR 16 (by decide)
 have q17 := hR 17 (by decide)
 have q18 := hR 18 (by decide)
 have q19 := hR 19 (by decide)
 have q20 := hR 20 (by decide)
 have q21 := hR 21 (by decide)
 have q22 := hR 22 (by decide)
 have q23 := hR 23 (by decide)
 have q24 := hR 24 (by decide)
 have q25 := hR 25 (by decide)
 have q26 := hR 26 (by decide)
 refine dV (dB [183, 182, 181, 180, 128, 127, 126, 125, 49, 48, 47, 46, 24, 14, 13, 12, 11, 10, 4, 3, 2, 1, 0] _ (sk 186 (congrArg some e0.1) (sk 214 (congrArg some vE28) (aL _))) C) (by simp only [pE27, vE27, pE28, vE28, q0.2, q1.2, q2.2, q3.2, q4.2, q5.2, q6.2, q7.2, q8.2, q9.2, q10.2, q11.2, q12.2, q13.2, q14.2, q15.2, q16.2, q17.2, q18.2, q19.2, q20.2, q21.2, q22.2, q23.2, q24.2, q25.2, q26.2, fS] <;> rfl) ?_
 simp only [List.drop_succ_cons, List.drop_zero]
 refine aI C (eL C C) (aI C (bM 1 C C C) (aI C (bM 3 C C C) ?_))
 refine cS (i := 1) C (fun ho48 => ?_)
 refine eZ (i := 5) (cs' := #[v, sq, av2, .slice none 0 0, v45]) C C C C C C ho48 C C C C (bK (cK (aO (aI C (dO C C C) (dA 1 C ?_)))))
 refine cD 9 [8, 1, 7, 6, 5, 4, 3] C C (by decide) ?_
 exact cO (mx + 1) (ms2 ++ [(Mm.mk (ids.getD (((((D.getD k md0).ms).getD mx mm0).a).toNat) 0) (ids.getD (((((D.getD k md0).ms).getD mx mm0).d).toNat) 0) (ids.getD (((((D.getD k md0).ms).getD mx mm0).w).toNat) 0) (ids.getD (((((D.getD k md0).ms).getD mx mm0).o).toNat) 0))]) v45 ⟨by omega, by rw [hM, eU mm0 (show mx < (D.getD k md0).ms.length by omega), List.map_append, ← List.append_assoc]; rfl⟩ (by omega) (cN rfl) (.refl _)
 refine bQ (kD C ?_)
 refine bI (dC ?_)
 refine aM (aR (eM ?_))
 have hMq : ms2 = F.ms ++ (D.getD k md0).ms.map (mmF ids) := by rw [hM, show mx = (D.getD k md0).ms.length by omega, List.take_length]
 have hoi := tL (m := (D.getD k md0)) (n := n) (S := S) hGq hMq
 refine aH 1 C (aI C (eL C C) (aI C (bM 1 C C C) (aI C (bM 0 C C C) (aI C (aC C C C (aA 2 C C)) (aI C (dL C C C (aJ 3 C)) ?_)))))
 refine eS C C C C C C (fun h49 => ?_) (fun h49 => ?_)
 refine aP 18 C (aK C (bA 1 C ?_))
 refine aN (aG ?_)
 refine dI (bigE [] :: rowE 3 1 (.slice (some ⟨g2, 0, none⟩) ((List.replicate (((D.getD k md0).ss).length) (0 : Int)).length) ((List.replicate (((D.getD k md0).ss).length) (0 : Int)).length)) ids.length (mI ids) :: boxE b1 #[(D.getD k md0).sv, (D.getD k md0).av, (D.getD k md0).iv, (D.getD k md0).mv] 35 :: boxE b #[v, sq, av2, .slice none 0 0, mw] 114 :: rS9 38 3 sq S sgC :: rS9 89 2 av2 G asC :: rS9 94 4 mw ms2 mmC :: bigE ps2 :: l) dT ?_
 exact eV (rs := [.tmp 10]) (vs := [.bool false]) C ⟨C, trivial⟩ C (fun w hm => ⟨_, bigE [], C, ⟨false, _, C, C, (fun h => by cases h), fun _ => by first | exact gJ (iJ hs hc9 hpt (by rw [← hgi]; omega)) (by omega) | exact gW hsF (fun h9 => by have h8 := hoi.1 h9; omega) | exact (hU hsF hokF).trans (fW (i := xu + 1) (by rw [fQ hH, hk2, ← hzp, ← hpp]; exact hnoNone (by assumption)) _ (by omega))⟩, hm.sub (.cons_cons _ (fO 7 C))⟩)
 refine aH 2 C (aI C (eL C C) (aI C (bM 1 C C C) (aI C (bM 1 C C C) (aI C (aC C C C (aA 2 C C)) (aI C (dL C C C (aJ 4 C)) ?_)))))
 refine eS C C C C C C (fun h50 => ?_) (fun h50 => ?_)
 refine aP 10 C (aK C (cA ?_))
 refine aP 1 C ?_
 refine aN (aG ?_)
 refine dI (bigE [] :: rowE 3 1 (.slice (some ⟨g2, 0, none⟩) ((List.replicate (((D.getD k md0).ss).length) (0 : Int)).length) ((List.replicate (((D.getD k md0).ss).length) (0 : Int)).length)) ids.length (mI ids) :: boxE b1 #[(D.getD k md0).sv, (D.getD k md0).av, (D.getD k md0).iv, (D.getD k md0).mv] 35 :: boxE b #[v, sq, av2, .slice none 0 0, mw] 114 :: rS9 38 3 sq S sgC :: rS9 89 2 av2 G asC :: rS9 94 4 mw ms2 mmC :: bigE ps2 :: l) dT ?_
 exact eV (rs := [.tmp 10]) (vs := [.bool false]) C ⟨C, trivial⟩ C (fun w hm => ⟨_, bigE [], C, ⟨false, _, C, C, (fun h => by cases h), fun _ => by first | exact gJ (iJ hs hc9 hpt (by rw [← hgi]; omega)) (by omega) | exact gW hsF (fun h9 => by have h8 := hoi.1 h9; omega) | exact (hU hsF hokF).trans (fW (i := xu + 1) (by rw [fQ hH, hk2, ← hzp, ← hpp]; exact hnoNone (by assumption)) _ (by omega))⟩, hm.sub (.cons_cons _ (fO 7 C))⟩)
 refine aH 3 C (aI C (eL C C) (aI C (bM 1 C C C) (aI C (bM 3 C C C) (aI C (aC C C C (aA 2 C C)) (aI C (dL C C C (aJ 5 C)) ?_)))))
 refine eS C C C C C C (fun h51 => ?_) (fun h51 => ?_)
 refine aP 1 C (aK C (bA 1 C ?_))
 refine aN (aG ?_)
 refine dI (bigE [] :: rowE 3 1 (.slice (some ⟨g2, 0, none⟩) ((List.replicate (((D.getD k md0).ss).length) (0 : Int)).length) ((List.replicate (((D.getD k md0).ss).length) (0 : Int)).length)) ids.length (mI ids) :: boxE b1 #[(D.getD k md0).sv, (D.getD k md0).av, (D.getD k md0).iv, (D.getD k md0).mv] 35 :: boxE b #[v, sq, av2, .slice none 0 0, mw] 114 :: rS9 38 3 sq S sgC :: rS9 89 2 av2 G asC :: rS9 94 4 mw ms2 mmC :: bigE ps2 :: l) dT ?_
 exact eV (rs := [.tmp 10]) (vs := [.bool false]) C ⟨C, trivial⟩ C (fun w hm => ⟨_, bigE [], C, ⟨false, _, C, C, (fun h => by cases h), fun _ => by first | exact gJ (iJ hs hc9 hpt (by rw [← hgi]; omega)) (by omega) | exact gW hsF (fun h9 => by have h8 := hoi.1 h9; omega) | exact (hU hsF hokF).trans (fW (i := xu + 1) (by rw [fQ hH, hk2, ← hzp, ← hpp]; exact hnoNone (by assumption)) _ (by omega))⟩, hm.sub (.cons_cons _ (fO 7 C))⟩)
 refine aP 1 C (aS C (cE (eM (aI C (bM 2 C C C) (aI C (aC C C C (aA 1 C C)) ?_)))))
 refine aI C (dL C C C (fun w hm => (((hd w (hm.sub (fO 7 C))).at (k := k) hkl).x))) (aP 1 C (bD ?_))
 have hokF : (ownF (D.getD k md0) p F (ids, n, S)).Ok := hoi.2 ⟨by omega, by omega, by omega⟩
 refine iR (α := Nat) (β := Fz) (γ := List As) (δ := Value × Value × Value) (fun xu H gs3 q3 ps3 => (rowE 3 1 (.slice (some ⟨g2, 0, none⟩) ((List.replicate (((D.getD k md0).ss).length) (0 : Int)).length) ((List.replicate (((D.getD k md0).ss).length) (0 : Int)).length)) ids.length (mI ids) :: boxE b1 #[(D.getD k md0).sv, (D.getD k md0).av, (D.getD k md0).iv, (D.getD k md0).mv] 35 :: boxE b #[v, q3.1, q3.2.1, .slice none 0 0, q3.2.2] 114 :: rS9 38 3 q3.1 H.ss sgC :: rS9 89 2 q3.2.1 gs3 asC :: rS9 94 4 q3.2.2 H.ms mmC :: bigE ps3 :: l)) (fun xu H gs3 q3 ps3 => [(0, pI b), (1, jI (k : Int)), (2, jI p), (3, uP), (4, .bool t), (10, .bool false), (11, pI b1), (12, .slice (some ⟨g2, 0, none⟩) ((List.replicate (((D.getD k md0).ss).length) (0 : Int)).length) ((List.replicate (((D.getD k md0).ss).length) (0 : Int)).length)), (13, v3), (14, jI (n : Int)), (46, (D.getD k md0).sv), (47, jI (((D.getD k md0).ss).length : Int)), (48, jI (i : Int)), (49, .bool false), (125, (D.getD k md0).av), (126, jI (((D.getD k md0).gs).length : Int)), (127, jI (ax : Int)), (128, .bool false), (180, (D.getD k md0).mv), (181, jI (((D.getD k md0).ms).length : Int)), (182, jI (mx : Int)), (183, .bool false), (243, .bool false), (245, (D.getD k md0).iv), (246, jI (((D.getD k md0).xs).length : Int)), (247, jI (xu : Int))]) (fun xu H gs3 q3 ps3 => xu ≤ (D.getD k md0).xs.length ∧ insA (fun k p P G => addF D f k p true P G) ids p (D.getD k md0).xs (ownF (D.getD k md0) p F (ids, n, S)) xu = some H ∧ gs3.map asV = H.gs ∧ (∀ w, (bigE ps3).holds w → OpsR w gs3)) (fun xu H gs3 q3 ps3 => (D.getD k md0).xs.length - xu) 0 (Fz.mk S (G.map asV) ms2) G (sq, av2, mw) ps2 ⟨Nat.zero_le _, by show some _ = some _; rw [hGq, hMq]; rfl, rfl, hpq⟩ (aU [247, 246, 245, 243, 183, 182, 181, 180, 128, 127, 126, 125, 49, 48, 47, 46, 14, 13, 12, 11, 10, 4, 3, 2, 1, 0] rfl) (.refl _) ?_
 intro xu H gs3 q3 ps3 hi52
 obtain ⟨hu, hH, hG3, hp3⟩ := hi52
 obtain ⟨hHo, hHl⟩ := oP hokF (fun k p P A B _ e => sW f k p true P A B e) _ _ hH
 have hHl2 : S.length ≤ H.ss.length := hHl
 refine cA ?_
 refine bN C C C C C C (fun h53 => ?_) (fun h53 => ?_)
 refine bQ (jX C (cE (fD (cA ?_))))
 refine aI C (cR 3 C C C C (fun w hm => (((hd w (hm.sub (fO 7 C))).at (k := k) hkl).x))) (aI C (bL (us := [jI ((((D.getD k md0).xs).getD xu ix0).m), jI ((((D.getD k md0).xs).getD xu ix0).p), (((D.getD k md0).xs).getD xu ix0).pv]) C C C C (fun w hm => (((hd w (hm.sub (fO 7 C))).at (k := k) hkl).x)) (by omega) C (bY ixC 3 (fun _ => C) ((D.getD k md0).xs) ix0 (show xu < _ by omega) C)) ?_)
 refine cL C (bG (z := .agg #[jI 0, jI 0, .slice none 0 0]) C C) ?_
 intro b54
 refine bE (cs' := #[jI ((((D.getD k md0).xs).getD xu ix0).m), jI ((((D.getD k md0).xs).getD xu ix0).p), (((D.getD k md0).xs).getD xu ix0).pv]) (i := 0) (off := 0) (us := [jI ((((D.getD k md0).xs).getD xu ix0).m), jI ((((D.getD k md0).xs).getD xu ix0).p), (((D.getD k md0).xs).getD xu ix0).pv]) C C C C C C C (aB C (aB C (aB (hm9.p.at (k := xu) (by omega)).one bC))) C C C (bQ (cA ?_))
 have hxi := hmod.ins xu (by omega)
 have hxp : ∀ j, j < ((D.getD k md0).xs.getD xu ix0).ps.length → 0 ≤ ((D.getD k md0).xs.getD xu ix0).ps.getD j 0 ∧ ((D.getD k md0).xs.getD xu ix0).ps.getD j 0 < (D.getD k md0).ss.length := fun j hj => ((hmod.xs xu (by omega)).2 j (by rw [← hxi.2]; exact hj)).1
 have hxl30 : ((D.getD k md0).xs.getD xu ix0).ps.length ≤ 30 := by rw [hxi.2]; exact iD _
 refine aI C (bM 1 C C C) (aI C (aC C C C (aA 0 C C)) (aP 1 C ?_))
 refine fJ (α := Int) (fun pp => (boxE b54 #[jI ((((D.getD k md0).xs).getD xu ix0).m), jI ((((D.getD k md0).xs).getD xu ix0).p), (((D.getD k md0).xs).getD xu ix0).pv] 63 :: rowE 3 1 (.slice (some ⟨g2, 0, none⟩) ((List.replicate (((D.getD k md0).ss).length) (0 : Int)).length) ((List.replicate (((D.getD k md0).ss).length) (0 : Int)).length)) ids.length (mI ids) :: boxE b1 #[(D.getD k md0).sv, (D.getD k md0).av, (D.getD k md0).iv, (D.getD k md0).mv] 35 :: boxE b #[v, q3.1, q3.2.1, .slice none 0 0, q3.2.2] 114 :: rS9 38 3 q3.1 H.ss sgC :: rS9 89 2 q3.2.1 gs3 asC :: rS9 94 4 q3.2.2 H.ms mmC :: bigE ps3 :: l)) (fun pp => [(0, pI b), (1, jI (k : Int)), (2, jI p), (3, uP), (4, .bool t), (10, .bool false), (11, pI b1), (12, .slice (some ⟨g2, 0, none⟩) ((List.replicate (((D.getD k md0).ss).length) (0 : Int)).length) ((List.replicate (((D.getD k md0).ss).length) (0 : Int)).length)), (13, v3), (14, jI (n : Int)), (26, pI b54), (27, jI pp), (46, (D.getD k md0).sv), (47, jI (((D.getD k md0).ss).length : Int)), (48, jI (i : Int)), (49, .bool false), (125, (D.getD k md0).av), (126, jI (((D.getD k md0).gs).length : Int)), (127, jI (ax : Int)), (128, .bool false), (180, (D.getD k md0).mv), (181, jI (((D.getD k md0).ms).length : Int)), (182, jI (mx : Int)), (183, .bool false), (243, .bool false), (245, (D.getD k md0).iv), (246, jI (((D.getD k md0).xs).length : Int)), (247, jI (xu : Int)), (248, .bool true)]) (fun pp => pp = inP p ((D.getD k md0).xs.getD xu ix0)) ?_ ?_
 refine aF (cG 1 C ?_)
 refine bU C C C C C C (fun h55 => ?_) (fun h55 => ?_)
 refine bQ (aK C (aO (dA 2 C ?_)))
 exact cP p (by unfold inP; first | rw [if_pos (by omega)] | rw [if_neg (by omega)]) (cN C) (.refl _)
 refine bQ (gM C ?_)
 exact cP ((((D.getD k md0).xs).getD xu ix0).p) (by unfold inP; first | rw [if_pos (by omega)] | rw [if_neg (by omega)]) (cN C) (.refl _)
 intro pp hm56
 have hpp := hm56
 refine cA ?_
 refine eC 3 1 (aP 1 C (eM (aI C (bM 2 C C C) (aI C (aC C C C (aA 1 C C)) ?_))))
 refine aI C (dL C C C (fun w hm => (((hd w (hm.sub (fO 9 C))).at (k := k) hkl).p.at (k := xu) (by omega)))) (aP 1 C (bD ?_))
 refine jC (α := Nat) (β := List Int) (γ := Value) [0, 1, 2, 3, 4, 10, 11, 12, 13, 14, 26, 27, 46, 47, 48, 49, 125, 126, 127, 128, 180, 181, 182, 183, 243, 245, 246, 247, 248, 257, 258] C (fun jx zs yv => (rI9 3 yv zs :: boxE b54 #[jI ((((D.getD k md0).xs).getD xu ix0).m), jI ((((D.getD k md0).xs).getD xu ix0).p), (((D.getD k md0).xs).getD xu ix0).pv] 63 :: rowE 3 1 (.slice (some ⟨g2, 0, none⟩) ((List.replicate (((D.getD k md0).ss).length) (0 : Int)).length) ((List.replicate (((D.getD k md0).ss).length) (0 : Int)).length)) ids.length (mI ids) :: boxE b1 #[(D.getD k md0).sv, (D.getD k md0).av, (D.getD k md0).iv, (D.getD k md0).mv] 35 :: boxE b #[v, q3.1, q3.2.1, .slice none 0 0, q3.2.2] 114 :: rS9 38 3 q3.1 H.ss sgC :: rS9 89 2 q3.2.1 gs3 asC :: rS9 94 4 q3.2.2 H.ms mmC :: bigE ps3 :: l)) (fun jx zs yv => [(28, yv), (259, jI (jx : Int))]) (fun jx zs yv => jx ≤ ((D.getD k md0).xs.getD xu ix0).ps.length ∧ zs = (((D.getD k md0).xs.getD xu ix0).ps.take jx).map (fun q => ids.getD q.toNat 0)) (fun jx zs yv => ((D.getD k md0).xs.getD xu ix0).ps.length - jx) 0 [] _ ⟨Nat.zero_le _, C⟩ (cN C) (.refl _) ?_
 intro jx zs yv hi58
 obtain ⟨hj, hz⟩ := hi58
 have hzl : zs.length = jx := by rw [hz, List.length_map, List.length_take]; omega
 refine cA ?_
 refine bN C C C C C C (fun h59 => ?_) (fun h59 => ?_)
 refine bQ (jX C (cE (fD (cA ?_))))
 refine aI C (cR 1 C C C C (fun w hm => (((hd w (hm.sub (fO 9 C))).at (k := k) hkl).p.at (k := xu) (by omega)))) (aI C (aQ (u := jI (((((D.getD k md0).xs).getD xu ix0).ps).getD jx 0)) C C C (fun w hm => (((hd w (hm.sub (fO 9 C))).at (k := k) hkl).p.at (k := xu) (by omega))) (cJ (show _ < ((((D.getD k md0).xs).getD xu ix0).ps).length by omega))) ?_)
 refine aP 1 C (aO ?_)
 have hxj := hxp jx (by omega)
 refine aH 3 C (aI C (cR 1 C C C C (aJ 2 C)) (aI C (nD C C C (aJ 2 C)) ?_))
 refine eA C (bB (z := jI 0) (s := 1) (cs := (mI [ids.getD ((((((D.getD k md0).xs).getD xu ix0).ps).getD jx 0).toNat) 0])) C Try.underlying48 C (by decide) C (by kernel_rfl) C) ?_
 intro g60
 refine cW (i := 1) (z := jI 0) (bytes := 8) C C C C Try.underlying48 (by kernel_rfl) C C C C (aJ 0 C) (cQ _) (by first | omega | (simp; done) | (simp; omega)) (cM zs ([ids.getD ((((((D.getD k md0).xs).getD xu ix0).ps).getD jx 0).toNat) 0])) (dP zs ([ids.getD ((((((D.getD k md0).xs).getD xu ix0).ps).getD jx 0).toNat) 0])) (fun _ => C) ?_
 intro v61
 refine dA 1 C (cK (aO (aI C (dO C C C) (dA 1 C ?_))))
 exact cO (jx + 1) (zs ++ ([ids.getD ((((((D.getD k md0).xs).getD xu ix0).ps).getD jx 0).toNat) 0])) v61 ⟨by omega, tJ hz (by omega)⟩ (by omega) (cN C) (.cons _ (.refl _))
 refine bQ (kD C ?_)
 refine bI (dC ?_)
 refine aM (aR (cA ?_))
 refine iE 9 [3, 2, 1, 0, 8, 7, 6, 5, 4] C C (by decide) ?_
 refine wO 5 C ?_
 have hzp : zs = ptF ids ((D.getD k md0).xs.getD xu ix0) := by rw [hz, show jx = ((D.getD k md0).xs.getD xu ix0).ps.length by omega, List.take_length]; rfl
 refine aH 1 C (aI C (bM 0 C C C) (aI C (aC C C C (aA 2 C C)) ?_))
 obtain ⟨kx, hk2⟩ : ∃ kx : Nat, ((D.getD k md0).xs.getD xu ix0).m = (kx : Int) := ⟨((D.getD k md0).xs.getD xu ix0).m.toNat, by omega⟩
 rw [hk2]
 rw [hk2, Int.toNat_natCast] at hxi
 have hpo2 : PoP (D.getD kx md0) true zs H.ss.length := fun _ => ⟨by rw [hzp, vW]; exact hxi.2, by rw [hzp]; exact yS (hin.mono hHl2) (fun j hj => by have h9 := hxp j hj; omega)⟩
 refine aH 2 C (gA (R := (fun u_ p_ => AddB (addF D f kx pp true zs H) b v u_ p_)) 0 C C C C C (fun L w hX hm => IH kx pp zs H gs3 yv q3.1 q3.2.1 q3.2.2 ps3 _ _ (by omega) hHo hpo2 hG3 hp3 (fun w h => hd w ((hX w h).sub (fO 4 C))) (fun w h => mQ (hX w h) 0 C) hm) ?_)
 intro v62 p63 R64
 obtain ⟨ok64, qs64, rfl, rfl, hgo64, hno64⟩ := R64
 refine dY (l' := (bigE qs64 :: rI9 3 yv zs :: boxE b54 #[jI (kx : Int), jI ((((D.getD k md0).xs).getD xu ix0).p), (((D.getD k md0).xs).getD xu ix0).pv] 63 :: rowE 3 1 (.slice (some ⟨g2, 0, none⟩) ((List.replicate (((D.getD k md0).ss).length) (0 : Int)).length) ((List.replicate (((D.getD k md0).ss).length) (0 : Int)).length)) ids.length (mI ids) :: boxE b1 #[(D.getD k md0).sv, (D.getD k md0).av, (D.getD k md0).iv, (D.getD k md0).mv] 35 :: l)) C ?_
 refine bT (fun h65 => ?_) (fun h65 => ?_)
 refine aP 1 C (gM C (cK (aO ?_)))
 obtain ⟨G2, a9, c9, d9, gs4, ps4, hG2, rfl, hp4, hG4⟩ := hgo64 (by assumption)
 refine iE 5 [4, 3, 2, 1, 0] C C (by decide) ?_
 refine gU (boxE b #[v, a9, c9, .slice none 0 0, d9] 114 :: rS9 38 3 a9 G2.ss sgC :: rS9 89 2 c9 gs4 asC :: rS9 94 4 d9 G2.ms mmC :: bigE ps4 :: rI9 3 yv zs :: boxE b54 #[jI (kx : Int), jI ((((D.getD k md0).xs).getD xu ix0).p), (((D.getD k md0).xs).getD xu ix0).pv] 63 :: rowE 3 1 (.slice (some ⟨g2, 0, none⟩) ((List.replicate (((D.getD k md0).ss).length) (0 : Int)).length) ((List.replicate (((D.getD k md0).ss).length) (0 : Int)).length)) ids.length (mI ids) :: boxE b1 #[(D.getD k md0).sv, (D.getD k md0).av, (D.getD k md0).iv, (D.getD k md0).mv] 35 :: l) eQ ?_
 refine aI C (dO C C C) (dA 1 C ?_)
 refine cD 9 [4, 3, 2, 1, 0, 8, 7] C C (by decide) ?_
 exact fX (xu + 1) G2 gs4 (a9, c9, d9) ps4 ⟨by omega, by rw [fQ hH, hk2, ← hzp, ← hpp]; exact hG2, hG4, hp4⟩ (by omega) (aU [247, 246, 245, 243, 183, 182, 181, 180, 128, 127, 126, 125, 49, 48, 47, 46, 14, 13, 12, 11, 10, 4, 3, 2, 1, 0] rfl) (.refl _)
 refine aP 1 C (aK C (bA 1 C ?_))
 refine aN (aE ?_)
 refine dZ ?_
 refine aE (aG ?_)
 refine dI (bigE [] :: bigE qs64 :: rI9 3 yv zs :: boxE b54 #[jI (kx : Int), jI ((((D.getD k md0).xs).getD xu ix0).p), (((D.getD k md0).xs).getD xu ix0).pv] 63 :: rowE 3 1 (.slice (some ⟨g2, 0, none⟩) ((List.replicate (((D.getD k md0).ss).length) (0 : Int)).length) ((List.replicate (((D.getD k md0).ss).length) (0 : Int)).length)) ids.length (mI ids) :: boxE b1 #[(D.getD k md0).sv, (D.getD k md0).av, (D.getD k md0).iv, (D.getD k md0).mv] 35 :: l) dT ?_
 exact eV (rs := [.tmp 10]) (vs := [.bool false]) C ⟨C, trivial⟩ C (fun w hm => ⟨_, bigE [], C, ⟨false, _, C, C, (fun h => by cases h), fun _ => by first | exact gJ (iJ hs hc9 hpt (by rw [← hgi]; omega)) (by omega) | exact gW hsF (fun h9 => by have h8 := hoi.1 h9; omega) | exact (hU hsF hokF).trans (fW (i := xu + 1) (by rw [fQ hH, hk2, ← hzp, ← hpp]; exact hno64 (by assumption)) _ (by omega))⟩, hm.sub (.cons_cons _ (fO 5 C))⟩)
 refine bQ (kD C ?_)
 refine bI (dC ?_)
 refine aM (aR (bA 1 C ?_))
 refine aN (cD 7 [1, 0, 6, 5, 4, 3, 2] C C (by decide) ?_)
 refine dE 5 C ?_
 exact eV (rs := [.tmp 10]) (vs := [.bool true]) rfl ⟨rfl, trivial⟩ rfl (fun w hm => ⟨_, bigE [boxE b #[v, q3.1, q3.2.1, .slice none 0 0, q3.2.2] 114, rS9 38 3 q3.1 H.ss sgC, rS9 89 2 q3.2.1 gs3 asC, rS9 94 4 q3.2.2 H.ms mmC, bigE ps3], rfl, ⟨true, _, rfl, rfl, fun _ => ⟨H, _, _, _, gs3, ps3, by rw [hU hsF hokF, show (D.getD k md0).xs.length = xu by omega]; exact hH, rfl, hp3, hG3⟩, fun h => by cases h⟩, hm.sub (.cons_cons _ (fO 2 rfl))⟩)
theorem oA (D : List Md) (v : Value) (hdp : DesP D) (w0 : World) (b : Nat) : ∀ (f k : Nat) (p : Int) (t : Bool) (P : List Int) (F : Fz) (gs : List As) (uP sv av mv : Value) (ps l : List HP) (w : World), k < f → k < D.length → F.Ok → PoP (D.getD k md0) (!t) P F.ss.length → gs.map asV = F.gs → (∀ w, (bigE ps).holds w → OpsR w gs) → (∀ w, Mem w0 l w → RdsDs w v D) → (∀ w, Mem w0 l w → RdsW w uP 1 P.length (P.map (Value.int .i64))) → Mem w0 (bigE (fbQ b v sv av mv F.ss gs F.ms ps) :: l) w →
    Calls Try.prog 72 #[.pointer (some ⟨b, 0, none⟩), .int .i64 (k : Int), .int .i64 p, uP, .bool t] w (fun e_ w_ => ∃ v_ p_, e_ = .returned v_ ∧ AddB (addF D f k p (!t) P F) b v v_ p_ ∧ Mem w0 (p_ :: l) w_)
  | 0, k, p, t, P, F, gs, uP, sv, av, mv, ps, l, w, hk, _, _, _, _, _, _, _, _ => absurd hk (by omega)
  | f + 1, k, p, t, P, F, gs, uP, sv, av, mv, ps, l, w, hk, hkl, hF, hPo, hgs, hps, hd, hP, hm => sI D f k b p t P F gs v uP sv av mv ps w0 l w hm hd hP hdp hkl hF hPo hgs hps (fun kx p2 P2 F2 gs2 ux sv2 av2 mv2 ps2 l2 w2 hlt hF2 hPo2 hgs2 hps2 hd2 hu2 hm2 => oA D v hdp w0 b f kx p2 false P2 F2 gs2 ux sv2 av2 mv2 ps2 l2 w2 (by omega) (by omega) hF2 hPo2 hgs2 hps2 hd2 hu2 hm2)
theorem fb_nil {w0 w : World} {l : List HP} {b : Nat} {v : Value} (h : Mem w0 (boxE b #[v, .slice none 0 0, .slice none 0 0, .slice none 0 0, .slice none 0 0] 114 :: l) w) : Mem w0 (bigE (fbQ b v (.slice none 0 0) (.slice none 0 0) (.slice none 0 0) [] [] [] []) :: l) w := by
  have h1 := h.perm (List.Perm.refl _)
  have h2 : Mem w0 (bigE [] :: boxE b #[v, .slice none 0 0, .slice none 0 0, .slice none 0 0, .slice none 0 0] 114 :: l) w := Mem.big (ps := []) h1
  have h3 := ((h2.nilRow 94 4).nilRow 89 2).nilRow 38 3
  refine Mem.big (ps := fbQ b v (.slice none 0 0) (.slice none 0 0) (.slice none 0 0) [] [] [] []) (h3.perm ?_)
  exact List.perm_middle (l₁ := [rowE 38 3 (.slice none 0 0) 0 [], rowE 89 2 (.slice none 0 0) 0 [], rowE 94 4 (.slice none 0 0) 0 [], bigE []])
theorem FlzP.fn {D : List Md} {p : Int} {F G : Fz} (h : FlzP D p F) (k : FlzP D p G) : F = G := Option.some.inj (h.2.2.symm.trans k.2.2)
open Go.RowKit
instance (n : Int) (o : Oq) : Decidable (OqP n o) := by unfold OqP; infer_instance
theorem kN (D : List Md) (p : Int) (v : Value) (w : World) (hd : RdsDs w v D) :
   Calls Try.prog 27 #[.agg #[v], .int .i64 p] w (Ret w (fun u_ p_ => ∃ (m : Md) (ok : Bool) (ps : List HP), u_ = .tuple #[m.agg, .bool ok] ∧ p_ = [bigE ps] ∧ (∀ w, (bigE ps).holds w → RdsMd w m) ∧ MdOne m ∧ FlP m ∧ (ok = true → ∃ F, FlzP D p F ∧ MdF m F) ∧ (ok = false → m = md0 ∧ ∀ (F : Fz) (m' : Md), FlzP D p F → MdF m' F → ¬ FlP m'))) := by
 have hd9 := gL hd.row
 refine bW (N := 38) (args := [.agg #[v], jI p]) Try.func27 C C (cA ?_)
 refine cL C (cY C C) ?_
 intro b1
 refine cL C (bG (z := .agg #[.slice none 0 0, .slice none 0 0, .slice none 0 0, .slice none 0 0]) C C) ?_
 intro b2
 refine aP 1 C (eM (aI C (aW (cs := [v]) C C C C C (aT 1 C 0 C)) ?_))
 refine dW C (aV C C (fun w hm => bJ (iH D v w (hd.below hm.bel)))) (bT (fun h3 => ?_) (fun h3 => ?_))
 have h3p := fK h3
 refine aH 3 C (dW C (aV C C (fun w hm => bJ (gY p 1 4 w))) ?_)
 refine bT (fun h4 => ?_) (fun h4 => ?_)
 obtain ⟨h4a, h4b⟩ := (dQ _ _ _).1 h4
 refine aP 2 C (aS C (cE (cA ?_)))
 have hdes : DesP D := by assumption
 have hdl := hdes.1
 refine gU [bigE (flQ (.slice none 0 0) (.slice none 0 0) (.slice none 0 0) [] [] [] []), boxE b2 #[.slice none 0 0, .slice none 0 0, .slice none 0 0, .slice none 0 0] 35, boxE b1 #[v] 26] (fun w hm => Af hm) ?_
 refine aI C (aW (cs := [v]) C C C C C (aT 2 C 0 C)) (aI C (bM 0 C C C) (aI C (aC C C C (aA 2 C C)) (aI C (dL C C C (aD hd.row)) (aI C (nC C C C) ?_))))
 rw [show (D.length : Int) - 1 = ((D.length - 1 : Nat) : Int) by omega]
 refine aH 1 C (eA C (dF (s := 1) C Try.underlying48 C) ?_)
 intro g5
 refine aI C (cU (cs := #[.slice none 0 0, .slice none 0 0, .slice none 0 0, .slice none 0 0]) C C C) (gA (R := (fun u_ p_ => AddR (addF D D.length (D.length - 1) p false [] fz0) u_ p_)) 1 C C C C C (fun L w hX hm => pO D v hdes _ D.length (D.length - 1) p false [] fz0 [] (.slice (some ⟨g5, 0, none⟩) 0 0) (.slice none 0 0) (.slice none 0 0) (.slice none 0 0) [] _ _ (by omega) (by omega) ⟨by decide, by decide, by decide⟩ (fun h => by cases h) C (fun w _ => OpsR.nil w) (fun w h => hd.below (hX w h).bel) (fun w h => mQ (hX w h) 0 C) hm) ?_)
 intro v6 p7 R8
 obtain ⟨a8, b8, d8, ok8, qs8, rfl, rfl, hon8, hgo8, hno8⟩ := R8
 refine dY (l' := [rowE 3 1 (.slice (some ⟨g5, 0, none⟩) 0 0) 0 ([]), bigE qs8, boxE b2 #[.slice none 0 0, .slice none 0 0, .slice none 0 0, .slice none 0 0] 35, boxE b1 #[v] 26]) C ?_
 refine aH 3 C (bT (fun h9 => ?_) (fun h9 => ?_))
 refine cL C (bG (z := .agg #[.slice none 0 0, .slice none 0 0, .slice none 0 0, .slice none 0 0]) C C) ?_
 intro b10
 refine bE (cs' := #[a8, b8, .slice none 0 0, d8]) (i := 0) (off := 0) (us := [a8, b8, .slice none 0 0, d8]) C C C C C C C (aB hon8.1 (aB hon8.2.1 (aB C (aB hon8.2.2 bC)))) C C C (aP 1 C (eM ?_))
 obtain ⟨G2, hG2, gs4, ps4, rfl, hp4, hG4⟩ := hgo8 (by assumption)
 refine iE 5 [4, 3, 1, 0, 2] C C (by decide) ?_
 refine gU [rS9 38 3 a8 G2.ss sgC, rS9 89 2 b8 gs4 asC, rS9 94 4 d8 G2.ms mmC, bigE ps4, boxE b10 #[a8, b8, .slice none 0 0, d8] 35, rowE 3 1 (.slice (some ⟨g5, 0, none⟩) 0 0) 0 ([]), boxE b2 #[.slice none 0 0, .slice none 0 0, .slice none 0 0, .slice none 0 0] 35, boxE b1 #[v] 26] eQ ?_
 have hMF : MdF (Md.mk a8 b8 (.slice none 0 0) d8 G2.ss gs4 [] G2.ms) G2 := ⟨rfl, hG4, rfl, rfl⟩
 refine aH 3 C (aI C (aW (cs := [a8, b8, .slice none 0 0, d8]) C C C C C (aT 4 C 0 C)) ?_)
 refine dW C (aV C C (fun w hm => bJ (iC (Md.mk a8 b8 (.slice none 0 0) d8 G2.ss gs4 [] G2.ms) w ⟨aJ 0 C w hm, aJ 1 C w hm, hp4 w (hm.holds _ (cF (i := 3) C)), qF w 3, PtsR.nil w, aJ 2 C w hm⟩))) (bT (fun h11 => ?_) (fun h11 => ?_))
 have h11p := fK h11
 refine aP 2 C (aS C (cE (cA (aI C (aW (cs := [a8, b8, .slice none 0 0, d8]) C C C C C (aT 4 C 0 C)) ?_))))
 refine bE (cs' := #[a8, b8, .slice none 0 0, d8]) (i := 6) (off := 0) (us := [a8, b8, .slice none 0 0, d8]) C C C C C C C (aB hon8.1 (aB hon8.2.1 (aB C (aB hon8.2.2 bC)))) C C C (aP 1 C ?_)
 refine aN (cD 8 [7, 6, 5, 4, 3, 2, 1, 0] C C (by decide) ?_)
 refine dE 4 C ?_
 exact cH (rs := [.cell 4 35, .tmp 5]) (vs := [.agg #[a8, b8, .slice none 0 0, d8], .bool true]) (post := [bigE [rS9 38 3 a8 G2.ss sgC, rS9 89 2 b8 gs4 asC, rS9 94 4 d8 G2.ms mmC, bigE ps4]]) C ⟨⟨b2, 0, [a8, b8, .slice none 0 0, d8], C, C, by kernel_rfl, by kernel_rfl, aT 3 C 0 C⟩, C, trivial⟩ C (eO [0] C) ⟨(Md.mk a8 b8 (.slice none 0 0) d8 G2.ss gs4 [] G2.ms), true, _, C, C, fun w hw => ⟨cZ (bO hw dX), cZ (bO hw (eI dX)), hp4 w (bO hw (eI (eI (eI dX)))), qF w 3, PtsR.nil w, cZ (bO hw (eI (eI dX)))⟩, ⟨hon8.1, hon8.2.1, C, hon8.2.2⟩, by assumption, fun _ => ⟨G2, ⟨hdes, by omega, hG2⟩, hMF⟩, (fun h => by cases h)⟩
 have h11p := eP h11
 refine aP 2 C (aK C (cA (aI C (cU (cs := #[.slice none 0 0, .slice none 0 0, .slice none 0 0, .slice none 0 0]) C C C) ?_)))
 refine bE (cs' := #[.slice none 0 0, .slice none 0 0, .slice none 0 0, .slice none 0 0]) (i := 6) (off := 0) (us := [.slice none 0 0, .slice none 0 0, .slice none 0 0, .slice none 0 0]) C C C C C C C (aB C (aB C (aB C (aB C bC)))) C C C (aP 1 C ?_)
 refine aN (aG ?_)
 refine dI [bigE [], rS9 38 3 a8 G2.ss sgC, rS9 89 2 b8 gs4 asC, rS9 94 4 d8 G2.ms mmC, bigE ps4, boxE b10 #[a8, b8, .slice none 0 0, d8] 35, rowE 3 1 (.slice (some ⟨g5, 0, none⟩) 0 0) 0 ([]), boxE b2 #[.slice none 0 0, .slice none 0 0, .slice none 0 0, .slice none 0 0] 35, boxE b1 #[v] 26] dT ?_
 exact cH (rs := [.cell 4 35, .tmp 5]) (vs := [.agg #[.slice none 0 0, .slice none 0 0, .slice none 0 0, .slice none 0 0], .bool false]) (post := [bigE []]) C ⟨⟨b2, 0, [.slice none 0 0, .slice none 0 0, .slice none 0 0, .slice none 0 0], C, C, by kernel_rfl, by kernel_rfl, aT 7 C 0 C⟩, C, trivial⟩ C (eO [0] C) ⟨md0, false, _, C, C, fun w _ => RdsMd.zero w, jL, FlP.zero, (fun h => by cases h), fun _ => ⟨C, fun F m' h9 hq9 hfl9 => by first | exact absurd h9.1 (by assumption) | (have h8 := h9.2.1; omega) | exact absurd ((hno8 (by assumption)).symm.trans h9.2.2) (fun h => by cases h) | (have h8 := Option.some.inj (hG2.symm.trans h9.2.2); subst h8; exact absurd ((hq9.same hMF).fl hfl9) (by assumption))⟩⟩
 refine cL C (bG (z := .agg #[.slice none 0 0, .slice none 0 0, .slice none 0 0, .slice none 0 0]) C C) ?_
 intro b12
 refine bE (cs' := #[a8, b8, .slice none 0 0, d8]) (i := 0) (off := 0) (us := [a8, b8, .slice none 0 0, d8]) C C C C C C C (aB hon8.1 (aB hon8.2.1 (aB C (aB hon8.2.2 bC)))) C C C (aP 1 C (eM (dA 7 C ?_)))
 refine aR (aK C (cA (aI C (cU (cs := #[.slice none 0 0, .slice none 0 0, .slice none 0 0, .slice none 0 0]) C C C) ?_)))
 refine bE (cs' := #[.slice none 0 0, .slice none 0 0, .slice none 0 0, .slice none 0 0]) (i := 3) (off := 0) (us := [.slice none 0 0, .slice none 0 0, .slice none 0 0, .slice none 0 0]) C C C C C C C (aB C (aB C (aB C (aB C bC)))) C C C (aP 1 C ?_)
 refine aN (aG ?_)
 refine dI [bigE [], boxE b12 #[a8, b8, .slice none 0 0, d8] 35, rowE 3 1 (.slice (some ⟨g5, 0, none⟩) 0 0) 0 ([]), bigE qs8, boxE b2 #[.slice none 0 0, .slice none 0 0, .slice none 0 0, .slice none 0 0] 35, boxE b1 #[v] 26] dT ?_
 exact cH (rs := [.cell 4 35, .tmp 5]) (vs := [.agg #[.slice none 0 0, .slice none 0 0, .slice none 0 0, .slice none 0 0], .bool false]) (post := [bigE []]) C ⟨⟨b2, 0, [.slice none 0 0, .slice none 0 0, .slice none 0 0, .slice none 0 0], C, C, by kernel_rfl, by kernel_rfl, aT 4 C 0 C⟩, C, trivial⟩ C (eO [0] C) ⟨md0, false, _, C, C, fun w _ => RdsMd.zero w, jL, FlP.zero, (fun h => by cases h), fun _ => ⟨C, fun F m' h9 hq9 hfl9 => by first | exact absurd h9.1 (by assumption) | (have h8 := h9.2.1; omega) | exact absurd ((hno8 (by assumption)).symm.trans h9.2.2) (fun h => by cases h) | (have h8 := Option.some.inj (hG2.symm.trans h9.2.2); subst h8; exact absurd ((hq9.same hMF).fl hfl9) (by assumption))⟩⟩
 have h4a := dK h4
 refine aP 2 C (aK C (cA (aI C (cU (cs := #[.slice none 0 0, .slice none 0 0, .slice none 0 0, .slice none 0 0]) C C C) ?_)))
 refine bE (cs' := #[.slice none 0 0, .slice none 0 0, .slice none 0 0, .slice none 0 0]) (i := 0) (off := 0) (us := [.slice none 0 0, .slice none 0 0, .slice none 0 0, .slice none 0 0]) C C C C C C C (aB C (aB C (aB C (aB C bC)))) C C C (aP 1 C ?_)
 refine aN (aG ?_)
 refine dI [bigE [], boxE b2 #[.slice none 0 0, .slice none 0 0, .slice none 0 0, .slice none 0 0] 35, boxE b1 #[v] 26] dT ?_
 exact cH (rs := [.cell 4 35, .tmp 5]) (vs := [.agg #[.slice none 0 0, .slice none 0 0, .slice none 0 0, .slice none 0 0], .bool false]) (post := [bigE []]) C ⟨⟨b2, 0, [.slice none 0 0, .slice none 0 0, .slice none 0 0, .slice none 0 0], C, C, by kernel_rfl, by kernel_rfl, aT 1 C 0 C⟩, C, trivial⟩ C (eO [0] C) ⟨md0, false, _, C, C, fun w _ => RdsMd.zero w, jL, FlP.zero, (fun h => by cases h), fun _ => ⟨C, fun F m' h9 hq9 hfl9 => by first | exact absurd h9.1 (by assumption) | (have h8 := h9.2.1; omega) | exact absurd ((hno8 (by assumption)).symm.trans h9.2.2) (fun h => by cases h) | (have h8 := Option.some.inj (hG2.symm.trans h9.2.2); subst h8; exact absurd ((hq9.same hMF).fl hfl9) (by assumption))⟩⟩
 have h3p := eP h3
 refine aP 6 C (aK C (cA (aI C (cU (cs := #[.slice none 0 0, .slice none 0 0, .slice none 0 0, .slice none 0 0]) C C C) ?_)))
 refine bE (cs' := #[.slice none 0 0, .slice none 0 0, .slice none 0 0, .slice none 0 0]) (i := 0) (off := 0) (us := [.slice none 0 0, .slice none 0 0, .slice none 0 0, .slice none 0 0]) C C C C C C C (aB C (aB C (aB C (aB C bC)))) C C C (aP 1 C ?_)
 refine aN (aG ?_)
 refine dI [bigE [], boxE b2 #[.slice none 0 0, .slice none 0 0, .slice none 0 0, .slice none 0 0] 35, boxE b1 #[v] 26] dT ?_
 exact cH (rs := [.cell 4 35, .tmp 5]) (vs := [.agg #[.slice none 0 0, .slice none 0 0, .slice none 0 0, .slice none 0 0], .bool false]) (post := [bigE []]) C ⟨⟨b2, 0, [.slice none 0 0, .slice none 0 0, .slice none 0 0, .slice none 0 0], C, C, by kernel_rfl, by kernel_rfl, aT 1 C 0 C⟩, C, trivial⟩ C (eO [0] C) ⟨md0, false, _, C, C, fun w _ => RdsMd.zero w, jL, FlP.zero, (fun h => by cases h), fun _ => ⟨C, fun F m' h9 hq9 hfl9 => by first | exact absurd h9.1 (by assumption) | (have h8 := h9.2.1; omega) | exact absurd ((hno8 (by assumption)).symm.trans h9.2.2) (fun h => by cases h) | (have h8 := Option.some.inj (hG2.symm.trans h9.2.2); subst h8; exact absurd ((hq9.same hMF).fl hfl9) (by assumption))⟩⟩
theorem vC (g : Nat) (a : Option Addr) (len cap : Nat) (z : List Int) (m : Md) (n : Int) (w0 : World) (l : List HP) (w : World) (hm0 : Mem w0 (curE g a len cap :: l) w) (hb : BRow .u8 w0 a len cap z) (hr : ∀ w, Mem w0 l w → RdsMd w m) (hmo : MdOne m) (hn : 0 ≤ n ∧ n ≤ 16) :
   Calls Try.prog 59 #[.pointer (some ⟨g, 0, none⟩), .agg #[m.sv, m.av, m.iv, m.mv], .int .i64 n] w (fun e_ w_ => ∃ v_ p_, e_ = .returned v_ ∧ (fun u_ p_ => ∃ (rs : List CRow) (ps : List HP), p_ = bigE [curE g a len cap, bigE ps] ∧ (∀ w, (bigE ps).holds w → RdsCl w u_ rs) ∧ u_.oneCell' = true ∧ (rs.length : Int) = n ∧ ∀ r ∈ rs, r.xs.length = (pwK m 0).length ∧ ∀ y ∈ r.xs, 0 ≤ y ∧ y < 16) v_ p_ ∧ Mem w0 (p_ :: l) w_) := by
 refine gI (N := 37) (args := [pI g, .agg #[m.sv, m.av, m.iv, m.mv], jI n]) Try.func59 C C hm0 (cA ?_)
 refine cL C (cY C C) ?_
 intro b1
 refine aP 1 C (cA ?_)
 refine eA C (dF (s := 1) C Try.underlying44 C) ?_
 intro g2
 refine aP 1 C (cA (aI C (aW (cs := [m.sv, m.av, m.iv, m.mv]) C C C C C (aT 1 C 0 C)) ?_))
 refine fC C C C (aV C C (fun w hm => eN m 0 w (hr w (hm.sub (fO 3 C))))) ?_
 intro v3 p4 R5
 subst R5
 refine aI C (dL C C C (aJ 0 C)) (aP 1 C (aF (bA 1 C (bD ?_))))
 refine fB (bigE [] :: rowE 3 1 v3 ((pwK m 0).length) (mI (pwK m 0)) :: rowE 48 1 (.slice (some ⟨g2, 0, none⟩) 0 0) (([] : List CRow).length) (([] : List CRow).flatMap crowC) :: boxE b1 #[m.sv, m.av, m.iv, m.mv] 35 :: curE g a len cap :: l) dT ?_
 refine lZ (α := Nat) (β := List CRow) (γ := Value) (δ := List HP) [0, 1, 2, 4, 6, 8] C (fun i rs iv ps => (bigE ps :: rS9 48 1 iv rs crowC :: boxE b1 #[m.sv, m.av, m.iv, m.mv] 35 :: curE g a len cap :: l)) (fun i rs iv ps => [(7, iv), (9, jI (i : Int))]) (fun i rs iv ps => (i : Int) ≤ n ∧ rs.length = i ∧ (∀ w, (bigE ps).holds w → ∀ q ∈ rs, RdsW w q.v 1 q.xs.length (mI q.xs)) ∧ ∀ r ∈ rs, r.xs.length = (pwK m 0).length ∧ ∀ y ∈ r.xs, 0 ≤ y ∧ y < 16) (fun i rs iv ps => n.toNat - i) 0 [] _ [] ⟨by omega, C, fun w hw q hq => (by cases hq), fun r hr9 => (by cases hr9)⟩ (cN C) (.cons_cons _ (.cons _ (.refl _))) ?_
 intro i rs iv ps hi6
 obtain ⟨hi, hrl, hp, hq⟩ := hi6
 refine aF (aF (cG 2 C ?_))
 refine bN C C C C C C (fun h7 => ?_) (fun h7 => ?_)
 refine bQ (aK C (cE (fD (cA ?_))))
 refine eA C (dF (s := 1) C Try.underlying48 C) ?_
 intro g8
 refine aP 1 C (aF (bA 1 C (bD ?_)))
 refine jC (α := Nat) (β := List Int) (γ := Value) [0, 1, 2, 4, 6, 7, 8, 9, 18] C (fun j zs zv => (rI9 3 zv zs :: bigE ps :: rS9 48 1 iv rs crowC :: boxE b1 #[m.sv, m.av, m.iv, m.mv] 35 :: curE g a len cap :: l)) (fun j zs zv => [(10, zv), (11, jI (j : Int))]) (fun j zs zv => j ≤ (pwK m 0).length ∧ zs.length = j ∧ ∀ y ∈ zs, 0 ≤ y ∧ y < 16) (fun j zs zv => (pwK m 0).length - j) 0 [] _ ⟨by omega, C, fun y hy => (by cases hy)⟩ (cN C) (.refl _) ?_
 intro j zs zv hi9
 obtain ⟨hj, hzl, hzr⟩ := hi9
 have hpl := kU m 0
 refine aF (aF (cG 2 C ?_))
 refine bN C C C C C C (fun h10 => ?_) (fun h10 => ?_)
 refine bQ (aK C (cE (fD (cG 2 C ?_))))
 refine eK (R := (fun u_ p_ => (∃ x_ : Int, u_ = jI x_ ∧ 0 ≤ x_ ∧ x_ < 16) ∧ p_ = curE g a len cap)) 4 C C C C C (fun l' w hm => eH g a len cap z 16 _ _ _ hm hb (by constructor <;> omega)) ?_
 intro v11 p12 R13
 obtain ⟨⟨x13, rfl, x130, x131⟩, rfl⟩ := R13
 refine dY (l' := (rI9 3 zv zs :: bigE ps :: rS9 48 1 iv rs crowC :: boxE b1 #[m.sv, m.av, m.iv, m.mv] 35 :: curE g a len cap :: l)) C ?_
 refine eA C (bB (z := jI 0) (s := 1) (cs := (mI [x13])) C Try.underlying48 C (by decide) C (by kernel_rfl) C) ?_
 intro g14
 refine cW (i := 1) (z := jI 0) (bytes := 8) C C C C Try.underlying48 (by kernel_rfl) C C C C (aJ 0 C) (cQ _) (by first | omega | (simp; done) | (simp; omega)) (cM zs ([x13])) (dP zs ([x13])) (fun _ => C) ?_
 intro v15
 refine dA 1 C (cK (cG 1 C (aI C (dO C C C) (dA 1 C ?_))))
 exact cO (j + 1) (zs ++ ([x13])) v15 ⟨by omega, by rw [List.length_append, List.length_singleton]; omega, fun y hy => (List.mem_append.1 hy).elim (hzr y) (fun h8 => by rw [List.mem_singleton] at h8; omega)⟩ (by omega) (cN rfl) (.cons _ (.refl _))
 refine bQ (aS C ?_)
 refine bI (dC ?_)
 refine aM (aR (cG 2 C ?_))
 refine eA C (fI C Try.underlying44 (by kernel_rfl) C (fun w hm => (aJ 0 C w hm).one)) ?_
 intro g16
 refine cS (i := 1) C (fun ho17 => ?_)
 refine cW (i := 3) (z := .slice none 0 0) (bytes := 24) C C C C Try.underlying44 (by kernel_rfl) C C C C (aJ 0 C) (aB ho17 bC) (by first | omega | (simp only [List.length_append, List.length_cons, List.length_nil]; omega)) (cM rs [(CRow.mk zv zs)]) (dM crowC rs (CRow.mk zv zs) _ C) (fun _ => C) ?_
 intro v18
 refine dA 1 C (cK (cG 1 C (aI C (dO C C C) (dA 1 C ?_))))
 refine cD 6 [5, 4, 3, 1, 2] C C (by decide) ?_
 refine dE 2 C ?_
 exact eR (i + 1) (rs ++ [(CRow.mk zv zs)]) v18 [bigE ps, rI9 3 zv zs] ⟨by omega, by rw [List.length_append, List.length_singleton]; omega, fun w hw => RdsCl.snoc (v := iv) (v' := iv) (hp w (bO hw dX)) (cZ (bO hw (eI dX))), fun r hr9 => (List.mem_append.1 hr9).elim (hq r) (fun h8 => by rw [List.mem_singleton] at h8; subst h8; exact ⟨by show zs.length = _; omega, hzr⟩)⟩ (by omega) (cN rfl) (.refl _)
 refine bQ (aS C ?_)
 refine bI (dC ?_)
 refine aM (aR (bA 2 C ?_))
 refine aN (fV (fun w hm => (aJ 1 C w hm).one) (fun ho9 => ?_))
 refine cD 4 [3, 2, 0, 1] C C (by decide) ?_
 refine dE 2 C ?_
 refine cD 3 [1, 0, 2] C C (by decide) ?_
 refine dE 2 C ?_
 exact eV (rs := [.tmp 6]) (vs := [iv]) C ⟨C, trivial⟩ C (fun w hm => ⟨_, bigE [curE g a len cap, bigE [rS9 48 1 iv rs crowC, bigE ps]], C, ⟨rs, _, C, fun w hw => ⟨cZ (bO hw dX), hp w (bO hw (eI dX))⟩, ho9, by omega, hq⟩, hm.sub (.cons_cons _ (.cons _ (.refl _)))⟩)
def FarX (a b : List Int) (n : Nat) : Prop := ∀ k, k < n → ∃ c : Int, a.getD k 0 = b.getD k 0 + 16 * c
structure FarR (qs bs : List CRow) (n : Nat) : Prop where
  len : qs.length = n
  row : ∀ t, t < n → (qs.getD t crow0).xs.length = (bs.getD t crow0).xs.length ∧ FarX (qs.getD t crow0).xs (bs.getD t crow0).xs (bs.getD t crow0).xs.length
theorem extF {a b : List Int} (hl : a.length = b.length) (h : ∀ i, i < a.length → a.getD i 0 = b.getD i 0) : a = b := by
  refine List.ext_getElem hl (fun i h1 h2 => ?_)
  have := h i h1
  rwa [List.getD_eq_getElem?_getD, List.getD_eq_getElem?_getD, List.getElem?_eq_getElem h1, List.getElem?_eq_getElem h2] at this
theorem extR {a b : List CRow} (hl : a.length = b.length) (h : ∀ i, i < a.length → (a.getD i crow0).xs = (b.getD i crow0).xs) : a.map CRow.xs = b.map CRow.xs := by
  refine List.ext_getElem (by rw [List.length_map, List.length_map, hl]) (fun i h1 h2 => ?_)
  rw [List.length_map] at h1 h2
  have := h i h1
  rw [List.getD_eq_getElem?_getD, List.getD_eq_getElem?_getD, List.getElem?_eq_getElem h1, List.getElem?_eq_getElem h2] at this
  rw [List.getElem_map, List.getElem_map]; exact this
theorem qE (xs ys : List Int) (u v : Value) (w : World) (hu : RdsW w u 1 xs.length (xs.map (Value.int .i64))) (hv : RdsW w v 1 ys.length (ys.map (Value.int .i64))) :
   Calls Try.prog 22 #[u, v] w (Ans w (.bool (decide (xs = ys)))) := by
 have hu9 := gL hu
 have hv9 := gL hv
 refine bW (N := 26) (args := [u, v]) Try.func22 C C (bA 1 C (aF (aF (cG 1 C (aI C (dL C C C (aD hu)) (aH 1 C (aI C (dL C C C (aD hv)) ?_)))))))
 refine fZ C C C C C C (fun h1 => ?_) (fun h1 => ?_)
 refine bQ (aK C (bA 1 C ?_))
 refine aN (aG ?_)
 exact aX C C (congrArg _ (decide_eq_false (fun he => by subst he; first | omega | contradiction | simp_all)).symm)
 refine bQ (aS C (cE (aF (bA 1 C (bD ?_)))))
 refine gK (α := Nat) [0, 1, 4, 10] C (fun j => []) (fun j => [(5, jI (j : Int))]) (fun j => j ≤ xs.length ∧ ∀ i, i < j → xs.getD i 0 = ys.getD i 0) (fun j => xs.length - j) 0 ⟨by omega, fun i hi => absurd hi (by omega)⟩ (cN C) (.slnil) ?_
 intro j hi2
 obtain ⟨hk1, hk2⟩ := hi2
 refine aF (aF (cG 2 C (aI C (dL C C C (aD hu)) ?_)))
 refine bN C C C C C C (fun h3 => ?_) (fun h3 => ?_)
 refine bQ (aK C (cE (fD (aF ?_))))
 refine cI 9 [[], [], [0, 1], [2], [], [], [4, 5], [6], [3, 7]] [17, 18, 19, 20, 21, 22, 23, 24, 25] [u, jI (j : Int), elP u ((j : Int).toNat * 1), jI (xs.getD j 0), v, jI (j : Int), elP v ((j : Int).toNat * 1), jI (ys.getD j 0), .bool ((xs.getD j 0) != (ys.getD j 0))] (by kernel_rfl) C ?_ ?_
 exact ⟨bF C (aY C) C, bF C (aY C) C, bF C (cR 1 C C C C (aD hu)) C, bF C (qD C C C (aD hu)) C, bF C (aY C) C, bF C (aY C) C, bF C (cR 1 C C C C (aD hv)) C, bF C (qD C C C (aD hv)) C, bF C (dR C C C C) C, trivial⟩
 simp only [List.drop_succ_cons, List.drop_zero]
 refine bQ ?_
 refine eW C (fun h4 => ?_) (fun h4 => ?_)
 have h4p : xs.getD j 0 ≠ ys.getD j 0 := bne_iff_ne.1 h4
 refine bA 1 C ?_
 refine aN (aE ?_)
 refine dZ ?_
 refine aE (aG ?_)
 exact aX C C (congrArg _ (decide_eq_false (fun he => by subst he; first | omega | contradiction | simp_all)).symm)
 have h4p : xs.getD j 0 = ys.getD j 0 := (bne_eq_false_iff_eq.1 h4)
 refine fA (cK (cG 1 C (aI C (dO C C C) (dA 1 C ?_))))
 exact cB (j + 1) ⟨by omega, fun i hi => by by_cases hij : i = j; (subst hij; simpa using (by assumption)); exact hk2 i (by omega)⟩ (by omega) (cN C) (.slnil)
 refine bQ (aS C ?_)
 refine bI (dC ?_)
 refine aM (aR (bA 1 C ?_))
 exact aN (aX C C (congrArg _ (decide_eq_true (extF (by omega) (fun i hi => hk2 i (by omega)))).symm))
theorem lN (xa xb : List CRow) (u v : Value) (w : World) (hu : RdsCl w u xa) (hv : RdsCl w v xb) :
   Calls Try.prog 26 #[u, v] w (Ans w (.bool (decide (xa.map CRow.xs = xb.map CRow.xs)))) := by
 have hu9 := gL hu.row
 have hv9 := gL hv.row
 refine bW (N := 27) (args := [u, v]) Try.func26 C C (bA 1 C (aF (aF (cG 1 C (aI C (dL C C C (aD hu.row)) (aH 1 C (aI C (dL C C C (aD hv.row)) ?_)))))))
 refine fZ C C C C C C (fun h1 => ?_) (fun h1 => ?_)
 refine bQ (aK C (bA 1 C ?_))
 refine aN (aG ?_)
 exact aX rfl rfl (congrArg _ (decide_eq_false (fun he => by first | (have h9 := congrArg List.length he; rw [List.length_map, List.length_map] at h9; omega) | (have h9 := congrArg (fun L => L.getD j []) he; simp only [qN] at h9; contradiction))).symm)
 refine bQ (aS C (cE (aF (bA 1 C (bD ?_)))))
 refine gK (α := Nat) [0, 1, 4, 10] C (fun j => []) (fun j => [(5, jI (j : Int))]) (fun j => j ≤ xa.length ∧ ∀ i, i < j → (xa.getD i crow0).xs = (xb.getD i crow0).xs) (fun j => xa.length - j) 0 ⟨by omega, fun i hi => absurd hi (by omega)⟩ (cN C) (.slnil) ?_
 intro j hi2
 obtain ⟨hk1, hk2⟩ := hi2
 refine aF (aF (cG 2 C (aI C (dL C C C (aD hu.row)) ?_)))
 refine bN C C C C C C (fun h3 => ?_) (fun h3 => ?_)
 refine bQ (aK C (cE (fD (aF ?_))))
 refine cI 10 [[], [], [0, 1], [2], [], [], [4, 5], [6], [3, 7], [8]] [17, 18, 19, 20, 21, 22, 23, 24, 25, 26] [u, jI (j : Int), elP u ((j : Int).toNat * 1), (xa.getD j crow0).v, v, jI (j : Int), elP v ((j : Int).toNat * 1), (xb.getD j crow0).v, .bool (decide ((xa.getD j crow0).xs = (xb.getD j crow0).xs)), .bool (!(decide ((xa.getD j crow0).xs = (xb.getD j crow0).xs)))] (by kernel_rfl) C ?_ ?_
 exact ⟨bF C (aY C) C, bF C (aY C) C, bF C (cR 1 C C C C (aD hu.row)) C, bF C (aQ (u := (xa.getD j crow0).v) C C C (aD hu.row) (gB crowC (fun r => r.v) (fun _ => C) xa crow0 (show j < _ by omega))) C, bF C (aY C) C, bF C (aY C) C, bF C (cR 1 C C C C (aD hv.row)) C, bF C (aQ (u := (xb.getD j crow0).v) C C C (aD hv.row) (gB crowC (fun r => r.v) (fun _ => C) xb crow0 (show j < _ by omega))) C, .inl ⟨C, aV C C (fun w hm => bJ (qE ((xa.getD j crow0).xs) ((xb.getD j crow0).xs) _ _ w ((aD (hu.at (k := j) (by omega))) w hm) ((aD (hv.at (k := j) (by omega))) w hm)))⟩, bF C (aY C) C, trivial⟩
 simp only [List.drop_succ_cons, List.drop_zero]
 refine bQ ?_
 refine eW C (fun h4 => ?_) (fun h4 => ?_)
 have h4n : (decide ((xa.getD j crow0).xs = (xb.getD j crow0).xs)) = false := by simpa using h4
 have h4np := of_decide_eq_false h4n
 refine bA 1 C ?_
 refine aN (aE ?_)
 refine dZ ?_
 refine aE (aG ?_)
 exact aX rfl rfl (congrArg _ (decide_eq_false (fun he => by first | (have h9 := congrArg List.length he; rw [List.length_map, List.length_map] at h9; omega) | (have h9 := congrArg (fun L => L.getD j []) he; simp only [qN] at h9; contradiction))).symm)
 have h4n : (decide ((xa.getD j crow0).xs = (xb.getD j crow0).xs)) = true := by simpa using h4
 have h4np := of_decide_eq_true h4n
 refine fA (cK (cG 1 C (aI C (dO C C C) (dA 1 C ?_))))
 exact cB (j + 1) ⟨by omega, fun i hi => by by_cases hij : i = j; (subst hij; assumption); exact hk2 i (by omega)⟩ (by omega) (cN C) (.slnil)
 refine bQ (aS C ?_)
 refine bI (dC ?_)
 refine aM (aR (bA 1 C ?_))
 exact aN (aX C C (congrArg _ (decide_eq_true (extR (by omega) (fun i hi => hk2 i (by omega)))).symm))
theorem Ap (x0 : Value) (h0 : x0.oneCell' = true) : Try.prog.built 114 [(0, .agg #[x0])] = some #[x0, .slice none 0 0, .slice none 0 0, .slice none 0 0, .slice none 0 0] := by
  (cases x0 <;> first | (exact absurd h0 Bool.false_ne_true) | kernel_rfl)
theorem oD (D : List Md) (p : Int) (v : Value) (w : World) (hd : RdsDs w v D) :
   Calls Try.prog 28 #[.agg #[v], .int .i64 p] w (Ret w (fun u_ p_ => ∃ (m : Md) (ok : Bool) (ps : List HP), u_ = .tuple #[m.agg, .bool ok] ∧ p_ = [bigE ps] ∧ (∀ w, (bigE ps).holds w → RdsMd w m) ∧ MdOne m ∧ FlP m ∧ (ok = true → ∃ F, FlzP D p F ∧ MdF m F) ∧ (ok = false → m = md0 ∧ ∀ (F : Fz) (m' : Md), FlzP D p F → MdF m' F → ¬ FlP m'))) := by
 have hd9 := gL hd.row
 refine bW (N := 40) (args := [.agg #[v], jI p]) Try.func28 C C (cA ?_)
 refine cL C (cY C C) ?_
 intro b1
 refine cL C (bG (z := .agg #[.slice none 0 0, .slice none 0 0, .slice none 0 0, .slice none 0 0]) C C) ?_
 intro b2
 refine aP 1 C (eM (aI C (aW (cs := [v]) C C C C C (aT 1 C 0 C)) ?_))
 refine dW C (aV C C (fun w hm => bJ (kA D v w (hd.below hm.bel)))) (bT (fun h3 => ?_) (fun h3 => ?_))
 have h3p := fK h3
 refine aH 3 C (dW C (aV C C (fun w hm => bJ (fN (dD _ _ _ w)))) ?_)
 refine bT (fun h4 => ?_) (fun h4 => ?_)
 obtain ⟨h4a, h4b⟩ := (dQ _ _ _).1 h4
 refine aP 2 C (aS C (cE (cA (aI C (aW (cs := [v]) C C C C C (aT 1 C 0 C)) ?_))))
 refine aI C (gO (cs := #[v, .slice none 0 0, .slice none 0 0, .slice none 0 0, .slice none 0 0]) C C (fun w hm => Ap v hd.row.one)) (cL C (cY C C) ?_)
 intro b5
 refine aP 1 C (eM ?_)
 have hdes : DesP D := by assumption
 have hdl := hdes.1
 refine iE 3 [2, 1, 0] C C (by decide) ?_
 refine gU [bigE (fbQ b5 v (.slice none 0 0) (.slice none 0 0) (.slice none 0 0) [] [] [] []), boxE b2 #[.slice none 0 0, .slice none 0 0, .slice none 0 0, .slice none 0 0] 35, boxE b1 #[v] 26] (fun w hm => fb_nil hm) ?_
 refine aH 1 C (aI C (bM 0 C C C) (aI C (aC C C C (aA 2 C C)) (aI C (dL C C C (aD hd.row)) (aI C (nC C C C) ?_))))
 rw [show (D.length : Int) - 1 = ((D.length - 1 : Nat) : Int) by omega]
 refine aH 1 C (gA (R := (fun u_ p_ => AddB (addF D D.length (D.length - 1) p false [] fz0) b5 v u_ p_)) 0 C C C C C (fun L w hX hm => oA D v hdes _ b5 D.length (D.length - 1) p true [] fz0 [] (.slice none 0 0) (.slice none 0 0) (.slice none 0 0) (.slice none 0 0) [] _ _ (by omega) (by omega) ⟨by decide, by decide, by decide⟩ (fun h => by cases h) C (fun w _ => OpsR.nil w) (fun w h => hd.below (hX w h).bel) (fun w h => qF w 1) hm) ?_)
 intro v6 p7 R8
 obtain ⟨ok8, qs8, rfl, rfl, hgo8, hno8⟩ := R8
 refine dY (l' := [bigE qs8, boxE b2 #[.slice none 0 0, .slice none 0 0, .slice none 0 0, .slice none 0 0] 35, boxE b1 #[v] 26]) C ?_
 refine bT (fun h9 => ?_) (fun h9 => ?_)
 refine aH 1 C ?_
 obtain ⟨G2, a9, c9, d9, gs4, ps4, hG2, rfl, hp4, hG4⟩ := hgo8 (by assumption)
 refine iE 3 [2, 1, 0] C C (by decide) ?_
 refine gU [boxE b5 #[v, a9, c9, .slice none 0 0, d9] 114, rS9 38 3 a9 G2.ss sgC, rS9 89 2 c9 gs4 asC, rS9 94 4 d9 G2.ms mmC, bigE ps4, boxE b2 #[.slice none 0 0, .slice none 0 0, .slice none 0 0, .slice none 0 0] 35, boxE b1 #[v] 26] eQ ?_
 have hMF : MdF (Md.mk a9 c9 (.slice none 0 0) d9 G2.ss gs4 [] G2.ms) G2 := ⟨rfl, hG4, rfl, rfl⟩
 refine kJ (p := a9.oneCell' = true ∧ c9.oneCell' = true ∧ d9.oneCell' = true) (fun w hm => ⟨(aJ 1 C w hm).one, (aJ 2 C w hm).one, (aJ 3 C w hm).one⟩) (fun hon9 => ?_)
 refine aH 2 C (aI C (eL C C) (aI C (bM 1 C C C) (aI C (aW (cs := [a9, c9, .slice none 0 0, d9]) C C C C C (aT 0 C 1 C)) ?_)))
 refine dW C (aV C C (fun w hm => bJ (kZ (Md.mk a9 c9 (.slice none 0 0) d9 G2.ss gs4 [] G2.ms) w ⟨aJ 1 C w hm, aJ 2 C w hm, hp4 w (hm.holds _ (cF (i := 4) C)), qF w 3, PtsR.nil w, aJ 3 C w hm⟩))) (bT (fun h10 => ?_) (fun h10 => ?_))
 have h10p := fK h10
 refine aP 2 C (aS C (cE (aF (cG 1 C (aI C (eL C C) (aI C (bM 1 C C C) (aI C (aW (cs := [a9, c9, .slice none 0 0, d9]) C C C C C (aT 0 C 1 C)) ?_)))))))
 refine bE (cs' := #[a9, c9, .slice none 0 0, d9]) (i := 5) (off := 0) (us := [a9, c9, .slice none 0 0, d9]) C C C C C C C (aB hon9.1 (aB hon9.2.1 (aB C (aB hon9.2.2 bC)))) C C C (aP 1 C ?_)
 refine aN (cD 7 [6, 5, 0, 4, 3, 2, 1] C C (by decide) ?_)
 refine dE 4 C ?_
 exact cH (rs := [.cell 4 35, .tmp 5]) (vs := [.agg #[a9, c9, .slice none 0 0, d9], .bool true]) (post := [bigE [rS9 38 3 a9 G2.ss sgC, rS9 89 2 c9 gs4 asC, rS9 94 4 d9 G2.ms mmC, bigE ps4]]) C ⟨⟨b2, 0, [a9, c9, .slice none 0 0, d9], C, C, by kernel_rfl, by kernel_rfl, aT 2 C 0 C⟩, C, trivial⟩ C (eO [0] C) ⟨(Md.mk a9 c9 (.slice none 0 0) d9 G2.ss gs4 [] G2.ms), true, _, C, C, fun w hw => ⟨cZ (bO hw dX), cZ (bO hw (eI dX)), hp4 w (bO hw (eI (eI (eI dX)))), qF w 3, PtsR.nil w, cZ (bO hw (eI (eI dX)))⟩, ⟨hon9.1, hon9.2.1, C, hon9.2.2⟩, by assumption, fun _ => ⟨G2, ⟨hdes, by omega, hG2⟩, hMF⟩, (fun h => by cases h)⟩
 have h10p := eP h10
 refine aP 2 C (aK C (cA (aI C (cU (cs := #[.slice none 0 0, .slice none 0 0, .slice none 0 0, .slice none 0 0]) C C C) ?_)))
 refine bE (cs' := #[.slice none 0 0, .slice none 0 0, .slice none 0 0, .slice none 0 0]) (i := 5) (off := 0) (us := [.slice none 0 0, .slice none 0 0, .slice none 0 0, .slice none 0 0]) C C C C C C C (aB C (aB C (aB C (aB C bC)))) C C C (aP 1 C ?_)
 refine aN (aG ?_)
 refine dI [bigE [], boxE b5 #[v, a9, c9, .slice none 0 0, d9] 114, rS9 38 3 a9 G2.ss sgC, rS9 89 2 c9 gs4 asC, rS9 94 4 d9 G2.ms mmC, bigE ps4, boxE b2 #[.slice none 0 0, .slice none 0 0, .slice none 0 0, .slice none 0 0] 35, boxE b1 #[v] 26] dT ?_
 exact cH (rs := [.cell 4 35, .tmp 5]) (vs := [.agg #[.slice none 0 0, .slice none 0 0, .slice none 0 0, .slice none 0 0], .bool false]) (post := [bigE []]) C ⟨⟨b2, 0, [.slice none 0 0, .slice none 0 0, .slice none 0 0, .slice none 0 0], C, C, by kernel_rfl, by kernel_rfl, aT 6 C 0 C⟩, C, trivial⟩ C (eO [0] C) ⟨md0, false, _, C, C, fun w _ => RdsMd.zero w, jL, FlP.zero, (fun h => by cases h), fun _ => ⟨C, fun F m' h9 hq9 hfl9 => by first | exact absurd h9.1 (by assumption) | (have h8 := h9.2.1; omega) | exact absurd ((hno8 (by assumption)).symm.trans h9.2.2) (fun h => by cases h) | (have h8 := Option.some.inj (hG2.symm.trans h9.2.2); subst h8; exact absurd ((hq9.same hMF).fl hfl9) (by assumption))⟩⟩
 refine aP 9 C (aK C (cA ?_))
 refine aI C (cU (cs := #[.slice none 0 0, .slice none 0 0, .slice none 0 0, .slice none 0 0]) C C C) (bE (cs' := #[.slice none 0 0, .slice none 0 0, .slice none 0 0, .slice none 0 0]) (i := 1) (off := 0) (us := [.slice none 0 0, .slice none 0 0, .slice none 0 0, .slice none 0 0]) C C C C C C C (aB C (aB C (aB C (aB C bC)))) C C C ?_)
 refine aP 1 C ?_
 refine aN (aG ?_)
 refine dI [bigE [], bigE qs8, boxE b2 #[.slice none 0 0, .slice none 0 0, .slice none 0 0, .slice none 0 0] 35, boxE b1 #[v] 26] dT ?_
 exact cH (rs := [.cell 4 35, .tmp 5]) (vs := [.agg #[.slice none 0 0, .slice none 0 0, .slice none 0 0, .slice none 0 0], .bool false]) (post := [bigE []]) C ⟨⟨b2, 0, [.slice none 0 0, .slice none 0 0, .slice none 0 0, .slice none 0 0], C, C, by kernel_rfl, by kernel_rfl, aT 2 C 0 C⟩, C, trivial⟩ C (eO [0] C) ⟨md0, false, _, C, C, fun w _ => RdsMd.zero w, jL, FlP.zero, (fun h => by cases h), fun _ => ⟨C, fun F m' h9 hq9 hfl9 => by first | exact absurd h9.1 (by assumption) | (have h8 := h9.2.1; omega) | exact absurd ((hno8 (by assumption)).symm.trans h9.2.2) (fun h => by cases h) | (have h8 := Option.some.inj (hG2.symm.trans h9.2.2); subst h8; exact absurd ((hq9.same hMF).fl hfl9) (by assumption))⟩⟩
 have h4a := dK h4
 refine aP 2 C (aK C (cA (aI C (cU (cs := #[.slice none 0 0, .slice none 0 0, .slice none 0 0, .slice none 0 0]) C C C) ?_)))
 refine bE (cs' := #[.slice none 0 0, .slice none 0 0, .slice none 0 0, .slice none 0 0]) (i := 0) (off := 0) (us := [.slice none 0 0, .slice none 0 0, .slice none 0 0, .slice none 0 0]) C C C C C C C (aB C (aB C (aB C (aB C bC)))) C C C (aP 1 C ?_)
 refine aN (aG ?_)
 refine dI [bigE [], boxE b2 #[.slice none 0 0, .slice none 0 0, .slice none 0 0, .slice none 0 0] 35, boxE b1 #[v] 26] dT ?_
 exact cH (rs := [.cell 4 35, .tmp 5]) (vs := [.agg #[.slice none 0 0, .slice none 0 0, .slice none 0 0, .slice none 0 0], .bool false]) (post := [bigE []]) C ⟨⟨b2, 0, [.slice none 0 0, .slice none 0 0, .slice none 0 0, .slice none 0 0], C, C, by kernel_rfl, by kernel_rfl, aT 1 C 0 C⟩, C, trivial⟩ C (eO [0] C) ⟨md0, false, _, C, C, fun w _ => RdsMd.zero w, jL, FlP.zero, (fun h => by cases h), fun _ => ⟨C, fun F m' h9 hq9 hfl9 => by first | exact absurd h9.1 (by assumption) | (have h8 := h9.2.1; omega) | exact absurd ((hno8 (by assumption)).symm.trans h9.2.2) (fun h => by cases h) | (have h8 := Option.some.inj (hG2.symm.trans h9.2.2); subst h8; exact absurd ((hq9.same hMF).fl hfl9) (by assumption))⟩⟩
 have h3p := eP h3
 refine aP 6 C (aK C (cA (aI C (cU (cs := #[.slice none 0 0, .slice none 0 0, .slice none 0 0, .slice none 0 0]) C C C) ?_)))
 refine bE (cs' := #[.slice none 0 0, .slice none 0 0, .slice none 0 0, .slice none 0 0]) (i := 0) (off := 0) (us := [.slice none 0 0, .slice none 0 0, .slice none 0 0, .slice none 0 0]) C C C C C C C (aB C (aB C (aB C (aB C bC)))) C C C (aP 1 C ?_)
 refine aN (aG ?_)
 refine dI [bigE [], boxE b2 #[.slice none 0 0, .slice none 0 0, .slice none 0 0, .slice none 0 0] 35, boxE b1 #[v] 26] dT ?_
 exact cH (rs := [.cell 4 35, .tmp 5]) (vs := [.agg #[.slice none 0 0, .slice none 0 0, .slice none 0 0, .slice none 0 0], .bool false]) (post := [bigE []]) C ⟨⟨b2, 0, [.slice none 0 0, .slice none 0 0, .slice none 0 0, .slice none 0 0], C, C, by kernel_rfl, by kernel_rfl, aT 1 C 0 C⟩, C, trivial⟩ C (eO [0] C) ⟨md0, false, _, C, C, fun w _ => RdsMd.zero w, jL, FlP.zero, (fun h => by cases h), fun _ => ⟨C, fun F m' h9 hq9 hfl9 => by first | exact absurd h9.1 (by assumption) | (have h8 := h9.2.1; omega) | exact absurd ((hno8 (by assumption)).symm.trans h9.2.2) (fun h => by cases h) | (have h8 := Option.some.inj (hG2.symm.trans h9.2.2); subst h8; exact absurd ((hq9.same hMF).fl hfl9) (by assumption))⟩⟩
theorem qB (a : Option Addr) (len cap : Nat) (z : List Int) (m : Md) (w : World) (hb : BRow .u8 w a len cap z) (hlen : len ≤ 1048576) (hr : RdsMd w m) (hmo : MdOne m) :
   Calls Try.prog 31 #[.slice a len cap, .agg #[m.sv, m.av, m.iv, m.mv]] w (Ret w (fun u_ p_ => ∃ (rs : List CRow) (ps : List HP), p_ = [bigE ps] ∧ (∀ w, (bigE ps).holds w → RdsCl w u_ rs) ∧ u_.oneCell' = true ∧ InI m (rs.map CRow.xs) ∧ 1 ≤ rs.length ∧ rs.length ≤ 8)) := by
 refine bW (N := 14) (args := [.slice a len cap, .agg #[m.sv, m.av, m.iv, m.mv]]) Try.func31 C C (cA ?_)
 refine cL C (cY C C) ?_
 intro b1
 refine aP 1 C (aF (cG 1 C ?_))
 refine fC C C C (aV C C (fun w hm => wG (hb.below hm.bel) hlen)) ?_
 intro v2 p3 R4
 obtain ⟨g4, rfl, rfl⟩ := R4
 refine aP 1 C (aF ?_)
 refine jE (l := [boxE b1 #[m.sv, m.av, m.iv, m.mv] 35]) C 6 [0, 1, 2, 3, 4, 5] (List.take 6 _) (List.drop 6 _) [[], [], [], [2], [3], [0, 1, 3, 4]] [8, 9, 10, 11, 12, 13] (fun i_ vs_ v_ p_ => match i_ with | 0 => v_ = pI g4 ∧ p_ = [] | 1 => v_ = .agg #[m.sv, m.av, m.iv, m.mv] ∧ p_ = [] | 2 => v_ = pI g4 ∧ p_ = [] | 3 => (∃ pm_, p_ = [pm_] ∧ (fun u_ p_ => (∃ x_ : Int, u_ = jI x_ ∧ 0 ≤ x_ ∧ x_ < 8) ∧ p_ = curE g4 a len cap) v_ pm_) | 4 => v_ = jI (1 + (intOf_o (gV9 vs_ 0))) ∧ p_ = [] | 5 => (∃ pm_, p_ = [pm_] ∧ (fun u_ p_ => ∃ (rs : List CRow) (ps : List HP), p_ = bigE [curE g4 a len cap, bigE ps] ∧ (∀ w, (bigE ps).holds w → RdsCl w u_ rs) ∧ u_.oneCell' = true ∧ (rs.length : Int) = 1 + (intOf_o (gV9 vs_ 2)) ∧ ∀ r ∈ rs, r.xs.length = (pwK m 0).length ∧ ∀ y ∈ r.xs, 0 ≤ y ∧ y < 16) v_ pm_) | _ => True) [[], [], [], [2], [], [0, 1, 4]] [none, none, none, some 7, none, some 3] [curE g4 a len cap] [0, 1, 2, 4, 5] 7 (List.take_append_drop 6 _).symm (by kernel_rfl) (by kernel_rfl) (by kernel_rfl) C C ?_ ?_
 refine ⟨?_, ?_, ?_, ?_, ?_, ?_, trivial⟩
 intro vf pf hmu hR
 refine jK [] [] C (cC (aU [5] C) ?_)
 exact bH (aY C)
 intro vf pf hmu hR
 refine jK [] [] C (bP (aU [3] C) (List.sublist_append_right _ _) ?_)
 exact bH (aW (cs := [m.sv, m.av, m.iv, m.mv]) C C C C C (aT 0 C 0 C))
 intro vf pf hmu hR
 refine jK [] [] C (cC (aU [5] C) ?_)
 exact bH (aY C)
 intro vf pf hmu hR
 have e2 := hR 2 (by decide)
 refine Or.inl ⟨C, ?_⟩
 show RunM _ _ _ (pf 7) (([2] : List Nat).flatMap pf ++ _) (envOf _ vf [2] ++ _) _ _
 rw [hmu]
 exact eE (sk 10 (congrArg some e2.1) (aL _)) (by simp only [e2.2, fS] <;> rfl) (gH (R := (fun u_ p_ => (∃ x_ : Int, u_ = jI x_ ∧ 0 ≤ x_ ∧ x_ < 8) ∧ p_ = curE g4 a len cap)) C C (fun L w hX hm => eH g4 a len cap z 8 _ _ _ hm hb (by constructor <;> omega)))
 intro vf pf hmu hR
 have e3 : (∃ pm_, (pf 3) = [pm_] ∧ (fun u_ p_ => (∃ x_ : Int, u_ = jI x_ ∧ 0 ≤ x_ ∧ x_ < 8) ∧ p_ = curE g4 a len cap) (vf 3) pm_) := hR 3 (by decide)
 obtain ⟨p6, pE3, R7⟩ := e3
 obtain ⟨v5, vE3⟩ : ∃ x, vf 3 = x := ⟨_, rfl⟩
 rw [vE3] at R7
 obtain ⟨⟨x7, rfl, x70, x71⟩, rfl⟩ := R7
 refine jK [] [3] C (cC (sk 11 (congrArg some vE3) (aL _)) ?_)
 exact eB (bH (dO C C C)) (fun _ _ h => ⟨h.1.trans (by show _ = (jI (1 + (intOf_o (vf 3))) : Value); first | (rw [vE3]; done) | (rw [vE3]; rfl)), h.2⟩)
 intro vf pf hmu hR
 have e0 := hR 0 (by decide)
 have e1 := hR 1 (by decide)
 have e3 : (∃ pm_, (pf 3) = [pm_] ∧ (fun u_ p_ => (∃ x_ : Int, u_ = jI x_ ∧ 0 ≤ x_ ∧ x_ < 8) ∧ p_ = curE g4 a len cap) (vf 3) pm_) := hR 3 (by decide)
 obtain ⟨p6, pE3, R7⟩ := e3
 obtain ⟨v5, vE3⟩ : ∃ x, vf 3 = x := ⟨_, rfl⟩
 rw [vE3] at R7
 obtain ⟨⟨x7, rfl, x70, x71⟩, rfl⟩ := R7
 have e4 : (vf 4) = jI (1 + (intOf_o (vf 3))) ∧ (pf 4) = [] := hR 4 (by decide)
 rw [vE3] at e4
 refine Or.inl ⟨C, ?_⟩
 show RunM _ _ _ (pf 3) (([0, 1, 4] : List Nat).flatMap pf ++ _) (envOf _ vf [0, 1, 3, 4] ++ _) _ _
 rw [pE3]
 exact eE (sk 8 (congrArg some e0.1) (sk 9 (congrArg some e1.1) (sk 12 (congrArg some e4.1) (aL _)))) (by simp only [e0.2, e1.2, e4.2, fS] <;> rfl) (mP (gH (R := (fun u_ p_ => ∃ (rs : List CRow) (ps : List HP), p_ = bigE [curE g4 a len cap, bigE ps] ∧ (∀ w, (bigE ps).holds w → RdsCl w u_ rs) ∧ u_.oneCell' = true ∧ (rs.length : Int) = 1 + x7 ∧ ∀ r ∈ rs, r.xs.length = (pwK m 0).length ∧ ∀ y ∈ r.xs, 0 ≤ y ∧ y < 16)) C C (fun L w hX hm => vC g4 a len cap z m (1 + x7) _ _ _ hm hb (fun w9 h9 => hr.below (hX w9 h9).bel) hmo (by omega))) (fun v_ p_ h => by show (∃ pm_, p_ = [pm_] ∧ (fun u_ p_ => ∃ (rs : List CRow) (ps : List HP), p_ = bigE [curE g4 a len cap, bigE ps] ∧ (∀ w, (bigE ps).holds w → RdsCl w u_ rs) ∧ u_.oneCell' = true ∧ (rs.length : Int) = 1 + (intOf_o (vf 3)) ∧ ∀ r ∈ rs, r.xs.length = (pwK m 0).length ∧ ∀ y ∈ r.xs, 0 ≤ y ∧ y < 16) v_ pm_); rw [vE3]; exact h))
 intro vf pf hmu hR
 have e3 : (∃ pm_, (pf 3) = [pm_] ∧ (fun u_ p_ => (∃ x_ : Int, u_ = jI x_ ∧ 0 ≤ x_ ∧ x_ < 8) ∧ p_ = curE g4 a len cap) (vf 3) pm_) := hR 3 (by decide)
 obtain ⟨p6, pE3, R7⟩ := e3
 obtain ⟨v5, vE3⟩ : ∃ x, vf 3 = x := ⟨_, rfl⟩
 rw [vE3] at R7
 obtain ⟨⟨x7, rfl, x70, x71⟩, rfl⟩ := R7
 have e5 : (∃ pm_, (pf 5) = [pm_] ∧ (fun u_ p_ => ∃ (rs : List CRow) (ps : List HP), p_ = bigE [curE g4 a len cap, bigE ps] ∧ (∀ w, (bigE ps).holds w → RdsCl w u_ rs) ∧ u_.oneCell' = true ∧ (rs.length : Int) = 1 + (intOf_o (vf 3)) ∧ ∀ r ∈ rs, r.xs.length = (pwK m 0).length ∧ ∀ y ∈ r.xs, 0 ≤ y ∧ y < 16) (vf 5) pm_) := hR 5 (by decide)
 rw [vE3] at e5
 obtain ⟨p9, pE5, R10⟩ := e5
 obtain ⟨v8, vE5⟩ : ∃ x, vf 5 = x := ⟨_, rfl⟩
 rw [vE5] at R10
 obtain ⟨rs10, np10, rfl, hnp10, hno10, hnl10, hnq10⟩ := R10
 have q0 := hR 0 (by decide)
 have q1 := hR 1 (by decide)
 have q2 := hR 2 (by decide)
 have q4 := hR 4 (by decide)
 refine dV (dB [5, 4, 3, 1, 0] _ (sk 13 (congrArg some vE5) (aL _)) C) (by simp only [pE5, vE5, q0.2, q1.2, q2.2, q4.2, fS] <;> rfl) ?_
 simp only [List.drop_succ_cons, List.drop_zero]
 refine aP 1 C ?_
 refine aN (cD 2 [1, 0] C C (by decide) ?_)
 refine dI [curE g4 a len cap, bigE np10, boxE b1 #[m.sv, m.av, m.iv, m.mv] 35] eQ ?_
 try dsimp only [intOf_o] at hnl10
 have hrl9 : 1 ≤ rs10.length ∧ rs10.length ≤ 8 := by omega
 exact cH (rs := [.tmp 4]) (vs := [v8]) (post := [bigE np10]) rfl ⟨rfl, trivial⟩ rfl (eO [1] rfl) ⟨rs10, _, rfl, hnp10, hno10, ⟨by rw [List.length_map]; omega, fun t ht => by rw [List.length_map] at ht; rw [qN]; exact (hnq10 _ (cV ht)).1⟩, hrl9.1, hrl9.2⟩
theorem rY (xs : List Int) (x : Int) (v : Value) (w : World) (hv : RdsW w v 1 xs.length (xs.map (Value.int .i64))) :
   Calls Try.prog 25 #[v, .int .i64 x] w (Ans w (.int .i64 (getI xs x))) := by
 have hv9 := gL hv
 refine bW (N := 17) (args := [v, jI x]) Try.func25 C C (bA 1 C (aF (aF (cG 1 C ?_))))
 refine bN C C C C C C (fun h1 => ?_) (fun h1 => ?_)
 refine aP 6 C (aK C (bA 1 C ?_))
 refine aN (aG ?_)
 exact aX C C (by unfold getI; rw [if_neg (by omega)])
 refine aH 3 C (aI C (dL C C C (aD hv)) ?_)
 refine iU C C C C C C (fun h2 => ?_) (fun h2 => ?_)
 refine aP 1 C (aK C (bA 1 C ?_))
 refine aN (aG ?_)
 exact aX C C (by unfold getI; rw [if_neg (by omega)])
 refine aP 1 C (aS C (cE (aF (cG 2 C (aI C (cR 1 C C C C (aD hv)) (aI C (nD C C C (aD hv)) (aH 1 C (?_))))))))
 refine bQ ?_
 exact aN (aX C C (by unfold getI; rw [if_pos (by omega)]))
theorem walk_FnInstanceAlone (a0 : Option Addr) (len0 cap0 : Nat) (z0 : List Int) (w : World) (hbr : BRow .u8 w a0 len0 cap0 z0) :
   Calls Try.prog 7 #[.slice a0 len0 cap0] w (Ans w (.bool true)) := by
 refine bW (N := 183) (args := [.slice a0 len0 cap0]) Try.func7 C C (bA 1 C (aF (aF (cG 1 C ?_))))
 refine dW C (aV C C (fun w hm => bJ (fN (Br a0 len0 cap0 w (hbr.len_le))))) (bT (fun h1 => ?_) (fun h1 => ?_))
 refine bQ (aK C (bA 1 C ?_))
 refine aN (aG ?_)
 exact aX C C C
 have hlen9 := of_decide_eq_false h1
 refine bQ (aS C (cE (aF (cG 1 C ?_))))
 refine fC C C C (aV C C (fun w hm => qC a0 len0 cap0 z0 w (hbr.below hm.bel) (by omega))) ?_
 intro v2 p3 R4
 obtain ⟨D, dv, x, dp, rfl, rfl, hdp, hdv1, hdd, hd1, hx1, hx3⟩ := R4
 have hdes := hdd.ok hd1
 have hdl := hdes.1
 refine aH 3 C (cL C (bG (z := .agg #[.slice none 0 0]) C C) ?_)
 intro b5
 refine bE (cs' := #[dv]) (i := 0) (off := 0) (us := [dv]) C C C C C C C (aB hdv1 bC) C C C (aP 1 C (cA (aI C (aW (cs := [dv]) C C C C C (aT 0 C 0 C)) (aH 1 C ?_))))
 refine fC C C C (aV C C (fun w hm => kN D x dv w (hdp w (hm.holds _ (cF (i := 1) C))))) ?_
 intro v6 p7 R8
 obtain ⟨m1, om1, pm1, rfl, rfl, hpm1, hom1, hfm1, hym1, hnm1⟩ := R8
 refine aH 3 C (cL C (bG (z := .agg #[.slice none 0 0, .slice none 0 0, .slice none 0 0, .slice none 0 0]) C C) ?_)
 intro b9
 refine bE (cs' := #[m1.sv, m1.av, m1.iv, m1.mv]) (i := 0) (off := 0) (us := [m1.sv, m1.av, m1.iv, m1.mv]) C C C C C C C (aB hom1.1 (aB hom1.2.1 (aB hom1.2.2.1 (aB hom1.2.2.2 bC)))) C C C (aP 1 C (cA (aI C (aW (cs := [dv]) C C C C C (aT 2 C 0 C)) (aH 1 C ?_))))
 refine fC C C C (aV C C (fun w hm => oD D x dv w (hdp w (hm.holds _ (cF (i := 3) C))))) ?_
 intro v10 p11 R12
 obtain ⟨m2, om2, pm2, rfl, rfl, hpm2, hom2, hfm2, hym2, hnm2⟩ := R12
 refine aH 3 C (cL C (bG (z := .agg #[.slice none 0 0, .slice none 0 0, .slice none 0 0, .slice none 0 0]) C C) ?_)
 intro b13
 refine bE (cs' := #[m2.sv, m2.av, m2.iv, m2.mv]) (i := 0) (off := 0) (us := [m2.sv, m2.av, m2.iv, m2.mv]) C C C C C C C (aB hom2.1 (aB hom2.2.1 (aB hom2.2.2.1 (aB hom2.2.2.2 bC)))) C C C (aP 1 C (eM ?_))
 have hsame : om2 = om1 := by
   cases h8 : om1
   · cases h7 : om2
     · rfl
     · obtain ⟨F, q1, q2⟩ := hym2 h7; exact absurd hfm2 ((hnm1 h8).2 F m2 q1 q2)
   · cases h7 : om2
     · obtain ⟨F, q1, q2⟩ := hym1 h8; exact absurd hfm1 ((hnm2 h7).2 F m1 q1 q2)
     · rfl
 refine aH 1 C (bT (fun h14 => ?_) (fun h14 => ?_))
 refine aH 1 C (bT (fun h15 => ?_) (fun h15 => ?_))
 refine aI C (oI (m := true) (n := true) C Try.underlying4 C C) (bQ (aS C (cE (aF (aF (cG 1 C ?_))))))
 refine bT (fun h16 => ?_) (fun h16 => absurd ((h15).symm.trans h16) (by decide))
 refine aP 1 C (aS C (cE (aF (cG 1 C (aI C (aW (cs := [m1.sv, m1.av, m1.iv, m1.mv]) C C C C C (aT 2 C 0 C)) ?_)))))
 refine fC C C C (aV C C (fun w hm => qB a0 len0 cap0 z0 m1 w (hbr.below hm.bel) (by omega) (hpm1 w (hm.holds _ (cF (i := 3) C))) hom1)) ?_
 intro v17 p18 R19
 obtain ⟨rs, np, rfl, hnp, hno, hI, hr1, hr8⟩ := R19
 refine aP 1 C (cA ?_)
 obtain ⟨F1, q1, q2⟩ := hym1 (by assumption)
 obtain ⟨F2, q3, q4⟩ := hym2 (hsame.trans (by assumption))
 have hF9 := q1.fn q3
 subst hF9
 have hsm : SameM m2 m1 := q4.same q2
 have hI2 : InI m2 (rs.map CRow.xs) := ⟨hI.1, fun t ht => by rw [hsm.pw]; exact hI.2 t ht⟩
 have hrun2 := hsm.run hfm1.eo (rs.map CRow.xs)
 refine aI C (aW (cs := [m2.sv, m2.av, m2.iv, m2.mv]) C C C C C (aT 1 C 0 C)) (aH 1 C ?_)
 refine fC C C C (aV C C (fun w hm => qM m2 rs v17 w (hpm2 w (hm.holds _ (cF (i := 2) C))) hfm2 (hnp w (hm.holds _ (cF (i := 0) C))) hI2)) ?_
 intro v20 p21 R22
 obtain ⟨ot, tp, rfl, hpot, h1ot, heot⟩ := R22
 have hlot : ot.length = rs.length := by have h9 := congrArg List.length heot; simpa [trK] using h9
 refine aP 1 C (aF (aF (cG 1 C ?_)))
 refine aI rfl (dL rfl rfl rfl (fun w hm => by have h9 := (hpot w (hm.holds _ (cF (i := 0) rfl))).row; rw [hlot] at h9; exact h9)) (aH 1 rfl ?_)
 refine aI C (dL C C C (fun w hm => by have h9 := (hnp w (hm.holds _ (cF (i := 1) rfl))).row; exact h9)) (fZ C C C C C C (fun h23 => absurd h23 (by omega)) (fun h23 => ?_))
 refine bQ (aS C (cE (cA (aI C (bM 0 C C C) (aI C (aC C C C (aA 6 C C)) (aI C (bM 0 C C C) (aI C (aC C C C (aA 6 C C)) ?_)))))))
 refine aI C (dL C C C (fun w hm => ((hdp w (hm.holds _ (cF (i := 7) C)))).row)) (aI C (nC C C C) ?_)
 obtain ⟨kt, hkt⟩ : ∃ kt : Nat, kt = D.length - 1 := ⟨_, rfl⟩
 rw [show (D.length : Int) - 1 = (kt : Int) by omega]
 have hktl : kt < D.length := by omega
 have htl := Aq q1 q4 hkt
 have hxl := ((hdes.2 kt hktl).cnt.md kt hktl).2.2.1
 refine aI C (cR 4 C C C C (fun w hm => ((hdp w (hm.holds _ (cF (i := 7) C)))).row)) (kJ (p := MdOne (D.getD kt md0)) (fun w hm => (((hdp w (hm.holds _ (cF (i := 7) C)))).at (k := kt) (by omega)).ones) (fun hto => ?_))
 refine aI C (bL (us := [(D.getD kt md0).sv, (D.getD kt md0).av, (D.getD kt md0).iv, (D.getD kt md0).mv]) C C C C (fun w hm => ((hdp w (hm.holds _ (cF (i := 7) C)))).row) (by omega) C (bY mdC 4 (fun _ => C) D md0 (show kt < _ by omega) C)) (cL C (bG (z := .agg #[.slice none 0 0, .slice none 0 0, .slice none 0 0, .slice none 0 0]) C C) ?_)
 intro b24
 refine bE (cs' := #[(D.getD kt md0).sv, (D.getD kt md0).av, (D.getD kt md0).iv, (D.getD kt md0).mv]) (i := 0) (off := 0) (us := [(D.getD kt md0).sv, (D.getD kt md0).av, (D.getD kt md0).iv, (D.getD kt md0).mv]) C C C C C C C (aB hto.1 (aB hto.2.1 (aB hto.2.2.1 (aB hto.2.2.2 bC)))) C C C (bQ (aF (bA 1 C (bD ?_))))
 refine gK (α := Nat) [0, 2, 3, 4, 5, 6, 7, 8, 9, 10, 11, 28, 48, 50, 65] C (fun i => [boxE b24 #[(D.getD kt md0).sv, (D.getD kt md0).av, (D.getD kt md0).iv, (D.getD kt md0).mv] 35, bigE tp, bigE np, boxE b13 #[m2.sv, m2.av, m2.iv, m2.mv] 35, bigE pm2, boxE b9 #[m1.sv, m1.av, m1.iv, m1.mv] 35, bigE pm1, boxE b5 #[dv] 26, bigE dp]) (fun i => [(12, jI (i : Int))]) (fun i => i ≤ (D.getD kt md0).xs.length) (fun i => (D.getD kt md0).xs.length - i) 0 (Nat.zero_le _) (cN C) (eT C) ?_
 intro i hi25
 have hi := hi25
 refine aF (aF (cG 1 C (aI C (bM 2 C C C) (aI C (aC C C C (aA 0 C C)) ?_))))
 refine aI C (dL C C C (fun w hm => (((hdp w (hm.holds _ (cF (i := 8) C)))).at (k := kt) (by omega)).x)) (bN C C C C C C (fun h26 => ?_) (fun h26 => ?_))
 refine bQ (aK C (cE (fD (cA ?_))))
 obtain ⟨hkc, hkk, hpl⟩ := zO hdes hktl (show i < (D.getD kt md0).xs.length by omega)
 refine kJ (p := (((D.getD kt md0).xs).getD i ix0).pv.oneCell' = true) (fun w hm => ((((hdp w (hm.holds _ (cF (i := 8) C)))).at (k := kt) (by omega)).p.at (k := i) (by omega)).one) (fun hpo => ?_)
 refine aI C (bM 2 C C C) (aI C (aC C C C (aA 0 C C)) (aH 1 C ?_))
 refine aI C (cR 3 C C C C (fun w hm => (((hdp w (hm.holds _ (cF (i := 8) C)))).at (k := kt) (by omega)).x)) (aI C (bL (us := [jI ((((D.getD kt md0).xs).getD i ix0).m), jI ((((D.getD kt md0).xs).getD i ix0).p), (((D.getD kt md0).xs).getD i ix0).pv]) C C C C (fun w hm => (((hdp w (hm.holds _ (cF (i := 8) C)))).at (k := kt) (by omega)).x) (by omega) C (bY ixC 3 (fun _ => C) ((D.getD kt md0).xs) ix0 (show i < _ by omega) C)) ?_)
 refine cL C (bG (z := .agg #[jI 0, jI 0, .slice none 0 0]) C C) ?_
 intro b27
 refine bE (cs' := #[jI ((((D.getD kt md0).xs).getD i ix0).m), jI ((((D.getD kt md0).xs).getD i ix0).p), (((D.getD kt md0).xs).getD i ix0).pv]) (i := 0) (off := 0) (us := [jI ((((D.getD kt md0).xs).getD i ix0).m), jI ((((D.getD kt md0).xs).getD i ix0).p), (((D.getD kt md0).xs).getD i ix0).pv]) C C C C C C C (aB C (aB C (aB hpo bC))) C C C (bQ (cA (aI C (bM 1 C C C) (aI C (aC C C C (aA 0 C C)) (aP 1 C ?_)))))
 refine fJ (α := Int) (fun q => [boxE b27 #[jI ((((D.getD kt md0).xs).getD i ix0).m), jI ((((D.getD kt md0).xs).getD i ix0).p), (((D.getD kt md0).xs).getD i ix0).pv] 63, boxE b24 #[(D.getD kt md0).sv, (D.getD kt md0).av, (D.getD kt md0).iv, (D.getD kt md0).mv] 35, bigE tp, bigE np, boxE b13 #[m2.sv, m2.av, m2.iv, m2.mv] 35, bigE pm2, boxE b9 #[m1.sv, m1.av, m1.iv, m1.mv] 35, bigE pm1, boxE b5 #[dv] 26, bigE dp]) (fun q => [(0, .slice a0 len0 cap0), (2, .bool false), (3, pI b5), (4, jI x), (5, pI b9), (6, .bool om1), (7, pI b13), (8, .bool om2), (9, v17), (10, v20), (11, pI b24), (12, jI (i : Int)), (13, pI b27), (14, jI q), (28, .bool false), (48, .bool false), (50, .bool false), (65, .bool false), (78, .bool true)]) (fun q => q = inP x (((D.getD kt md0).xs).getD i ix0)) ?_ ?_
 refine aF (cG 1 C ?_)
 refine bU C C C C C C (fun h28 => ?_) (fun h28 => ?_)
 refine bQ (aK C (aO (dA 2 C ?_)))
 exact cP x (by unfold inP; rw [if_pos (by omega)]) (cN C) (eT C)
 refine bQ (gM C ?_)
 exact cP (((D.getD kt md0).xs).getD i ix0).p (by unfold inP; rw [if_neg (by omega)]) (cN C) (eT C)
 intro q hm29
 have hq9 := hm29
 refine cA (aI C (aW (cs := [dv]) C C C C C (aT 8 C 0 C)) (aI C (bM 0 C C C) (aI C (aC C C C (aA 0 C C)) ?_)))
 refine fC C C C (aV C C (fun w hm => by have h9 := qA D (((((D.getD kt md0).xs).getD i ix0).m).toNat) dv w (hdp w (hm.holds _ (cF (i := 9) rfl))) (by omega) hdes; rw [← hkc] at h9; exact h9)) ?_
 intro v30 p31 R32
 obtain ⟨E, ev, ep, rfl, rfl, hel, heq, hep, hev1⟩ := R32
 refine aH 3 C (cL C (bG (z := .agg #[.slice none 0 0]) C C) ?_)
 intro b33
 refine bE (cs' := #[ev]) (i := 0) (off := 0) (us := [ev]) C C C C C C C (aB hev1 bC) C C C (aP 1 C (cA (aI C (aW (cs := [ev]) C C C C C (aT 0 C 0 C)) (aH 1 C ?_))))
 refine fC C C C (aV C C (fun w hm => kN E q ev w ⟨aJ 1 C w hm, (hep w (hm.holds _ (cF (i := 2) C)))⟩)) ?_
 intro v34 p35 R36
 obtain ⟨m3, om3, pm3, rfl, rfl, hpm3, hom3, hfm3, hym3, hnm3⟩ := R36
 refine aH 3 C (cL C (bG (z := .agg #[.slice none 0 0, .slice none 0 0, .slice none 0 0, .slice none 0 0]) C C) ?_)
 intro b37
 refine bE (cs' := #[m3.sv, m3.av, m3.iv, m3.mv]) (i := 0) (off := 0) (us := [m3.sv, m3.av, m3.iv, m3.mv]) C C C C C C C (aB hom3.1 (aB hom3.2.1 (aB hom3.2.2.1 (aB hom3.2.2.2 bC)))) C C C (aP 1 C (aF (aF (cG 1 C ?_))))
 refine bT (fun h38 => ?_) (fun h38 => ?_)
 refine aP 1 C (aS C (cE (cA (aI C (bM 0 C C C) (aI C (aC C C C (aA 13 C C)) (aI C (bM 0 C C C) (aI C (aC C C C (aA 5 C C)) ?_)))))))
 refine aI C (cR 4 C C C C (fun w hm => ((hdp w (hm.holds _ (cF (i := 14) C)))).row)) (aI C (bL (us := [(D.getD (((((D.getD kt md0).xs).getD i ix0).m).toNat) md0).sv, (D.getD (((((D.getD kt md0).xs).getD i ix0).m).toNat) md0).av, (D.getD (((((D.getD kt md0).xs).getD i ix0).m).toNat) md0).iv, (D.getD (((((D.getD kt md0).xs).getD i ix0).m).toNat) md0).mv]) C C C C (fun w hm => ((hdp w (hm.holds _ (cF (i := 14) C)))).row) (by omega) C (bY mdC 4 (fun _ => C) D md0 (show ((((D.getD kt md0).xs).getD i ix0).m).toNat < _ by omega) C)) ?_)
 refine fC C C C (aV C C (fun w hm => gF (D.getD (((((D.getD kt md0).xs).getD i ix0).m).toNat) md0) w (((hdp w (hm.holds _ (cF (i := 14) C)))).at (by omega)))) ?_
 intro v39 p40 R41
 subst R41
 refine aP 1 C (cA ?_)
 refine eA C (dF (s := 1) C Try.underlying44 C) ?_
 intro g42
 refine aP 1 C (cA ?_)
 refine eA C (dF (s := 1) C Try.underlying44 C) ?_
 intro g43
 refine aP 1 C (aF (bA 1 C (bD ?_)))
 refine fB [bigE [], rowE 48 1 (.slice (some ⟨g43, 0, none⟩) 0 0) (([] : List CRow).length) (([] : List CRow).flatMap crowC), rowE 48 1 (.slice (some ⟨g42, 0, none⟩) 0 0) (([] : List CRow).length) (([] : List CRow).flatMap crowC), rowE 3 1 v39 ((ptsK (D.getD (((((D.getD kt md0).xs).getD i ix0).m).toNat) md0)).length) ((ptsK (D.getD (((((D.getD kt md0).xs).getD i ix0).m).toNat) md0)).map (Value.int .i64)), boxE b37 #[m3.sv, m3.av, m3.iv, m3.mv] 35, bigE pm3, boxE b33 #[ev] 26, rS9 35 4 ev E mdC, bigE ep, boxE b27 #[jI ((((D.getD kt md0).xs).getD i ix0).m), jI ((((D.getD kt md0).xs).getD i ix0).p), (((D.getD kt md0).xs).getD i ix0).pv] 63, boxE b24 #[(D.getD kt md0).sv, (D.getD kt md0).av, (D.getD kt md0).iv, (D.getD kt md0).mv] 35, bigE tp, bigE np, boxE b13 #[m2.sv, m2.av, m2.iv, m2.mv] 35, bigE pm2, boxE b9 #[m1.sv, m1.av, m1.iv, m1.mv] 35, bigE pm1, boxE b5 #[dv] 26, bigE dp] dT ?_
 refine lZ (α := Nat) (β := List CRow × List CRow) (γ := Value × Value) (δ := List HP) [0, 2, 3, 4, 5, 6, 7, 8, 9, 10, 11, 12, 13, 14, 15, 17, 18, 19, 28, 48, 50, 65, 78, 105] C (fun t J W ps => [bigE ps, rS9 48 1 W.2 J.2 crowC, rS9 48 1 W.1 J.1 crowC, rowE 3 1 v39 ((ptsK (D.getD (((((D.getD kt md0).xs).getD i ix0).m).toNat) md0)).length) ((ptsK (D.getD (((((D.getD kt md0).xs).getD i ix0).m).toNat) md0)).map (Value.int .i64)), boxE b37 #[m3.sv, m3.av, m3.iv, m3.mv] 35, bigE pm3, boxE b33 #[ev] 26, rS9 35 4 ev E mdC, bigE ep, boxE b27 #[jI ((((D.getD kt md0).xs).getD i ix0).m), jI ((((D.getD kt md0).xs).getD i ix0).p), (((D.getD kt md0).xs).getD i ix0).pv] 63, boxE b24 #[(D.getD kt md0).sv, (D.getD kt md0).av, (D.getD kt md0).iv, (D.getD kt md0).mv] 35, bigE tp, bigE np, boxE b13 #[m2.sv, m2.av, m2.iv, m2.mv] 35, bigE pm2, boxE b9 #[m1.sv, m1.av, m1.iv, m1.mv] 35, bigE pm1, boxE b5 #[dv] 26, bigE dp]) (fun t J W ps => [(20, W.1), (21, W.2), (22, jI (t : Int))]) (fun t J W ps => (t ≤ rs.length) ∧ J.1.map CRow.xs = inLs (D.getD (((((D.getD kt md0).xs).getD i ix0).m).toNat) md0) (((D.getD kt md0).xs).getD i ix0).ps m2 (rs.map CRow.xs) t ∧ J.2.map CRow.xs = ouLs (D.getD (((((D.getD kt md0).xs).getD i ix0).m).toNat) md0) (((D.getD kt md0).xs).getD i ix0).ps m2 (rs.map CRow.xs) t ∧ ∀ w, (bigE ps).holds w → (∀ q ∈ J.1, RdsW w q.v 1 q.xs.length (mI q.xs)) ∧ ∀ q ∈ J.2, RdsW w q.v 1 q.xs.length (mI q.xs)) (fun t J W ps => rs.length - t) 0 ([], []) (.slice (some ⟨g42, 0, none⟩) 0 0, .slice (some ⟨g43, 0, none⟩) 0 0) [] ⟨Nat.zero_le _, C, C, fun w hw => ⟨fun q hq => (by cases hq), fun q hq => (by cases hq)⟩⟩ (cN C) (eT C) ?_
 intro t J W ps hi44
 obtain ⟨ht, hj1, hj2, hp⟩ := hi44
 have hjl1 := cr_len hj1
 have hjl2 := Bq hj2
 refine aF (aF (cG 2 C ?_))
 refine aI rfl (dL rfl rfl rfl (fun w hm => by have h9 := (hpot w (hm.holds _ (cF (i := 11) rfl))).row; rw [hlot] at h9; exact h9)) (bN rfl rfl rfl rfl rfl rfl (fun h45 => ?_) (fun h45 => ?_))
 refine bQ (aK C (cE (fD (cA ?_))))
 refine eA C (dF (s := 1) C Try.underlying48 C) ?_
 intro g46
 refine aP 1 C (cA ?_)
 refine eA C (dF (s := 1) C Try.underlying48 C) ?_
 intro g47
 refine aP 1 C (aF (bA 1 C (bD ?_)))
 refine jC (α := Nat) (β := List Int × List Int) (γ := Value × Value) [0, 2, 3, 4, 5, 6, 7, 8, 9, 10, 11, 12, 13, 14, 15, 17, 18, 19, 20, 21, 22, 28, 48, 50, 65, 78, 105, 118] C (fun j Z U => [rI9 3 U.2 Z.2, rI9 3 U.1 Z.1, bigE ps, rS9 48 1 W.2 J.2 crowC, rS9 48 1 W.1 J.1 crowC, rowE 3 1 v39 ((ptsK (D.getD (((((D.getD kt md0).xs).getD i ix0).m).toNat) md0)).length) ((ptsK (D.getD (((((D.getD kt md0).xs).getD i ix0).m).toNat) md0)).map (Value.int .i64)), boxE b37 #[m3.sv, m3.av, m3.iv, m3.mv] 35, bigE pm3, boxE b33 #[ev] 26, rS9 35 4 ev E mdC, bigE ep, boxE b27 #[jI ((((D.getD kt md0).xs).getD i ix0).m), jI ((((D.getD kt md0).xs).getD i ix0).p), (((D.getD kt md0).xs).getD i ix0).pv] 63, boxE b24 #[(D.getD kt md0).sv, (D.getD kt md0).av, (D.getD kt md0).iv, (D.getD kt md0).mv] 35, bigE tp, bigE np, boxE b13 #[m2.sv, m2.av, m2.iv, m2.mv] 35, bigE pm2, boxE b9 #[m1.sv, m1.av, m1.iv, m1.mv] 35, bigE pm1, boxE b5 #[dv] 26, bigE dp]) (fun j Z U => [(23, U.1), (24, U.2), (25, jI (j : Int))]) (fun j Z U => j ≤ (ptsK (D.getD (((((D.getD kt md0).xs).getD i ix0).m).toNat) md0)).length ∧ Z.1 = inL (D.getD (((((D.getD kt md0).xs).getD i ix0).m).toNat) md0) (((D.getD kt md0).xs).getD i ix0).ps (ot.getD t crow0).xs j ∧ Z.2 = ouL (D.getD (((((D.getD kt md0).xs).getD i ix0).m).toNat) md0) (((D.getD kt md0).xs).getD i ix0).ps (ot.getD t crow0).xs j) (fun j Z U => (ptsK (D.getD (((((D.getD kt md0).xs).getD i ix0).m).toNat) md0)).length - j) 0 ([], []) (.slice (some ⟨g46, 0, none⟩) 0 0, .slice (some ⟨g47, 0, none⟩) 0 0) ⟨Nat.zero_le _, C, C⟩ (cN C) (eT C) ?_
 intro j Z U hi48
 obtain ⟨hj, hz1, hz2⟩ := hi48
 have hnl := iD (D.getD (((((D.getD kt md0).xs).getD i ix0).m).toNat) md0)
 have hzl1 : Z.1.length ≤ j := by rw [hz1]; exact wM _ _ _ _
 have hzl2 : Z.2.length ≤ j := by rw [hz2]; exact vY _ _ _ _
 refine aF (aF (cG 2 C (aI C (dL C C C (aJ 5 C)) ?_)))
 refine bN C C C C C C (fun h49 => ?_) (fun h49 => ?_)
 refine bQ (aK C (cE (fD (aF ?_))))
 have hpj := Ay hdes hktl (show i < (D.getD kt md0).xs.length by omega) hkc (show j < (ptsK (D.getD (((((D.getD kt md0).xs).getD i ix0).m).toNat) md0)).length by omega)
 have htv := uT heot (show t < ot.length by omega)
 have hvl9 : (ot.getD t crow0).xs.length = m2.ss.length := by rw [htv]; exact (lS hfm2 (rs.map CRow.xs) t).len
 refine cI 10 [[], [], [0, 1], [2], [], [4], [], [5, 6], [7], [3, 8]] [129, 130, 131, 132, 133, 134, 135, 136, 137, 138] [v20, jI (t : Int), elP v20 ((t : Int).toNat * 1), (ot.getD t crow0).v, .pointer (some ⟨b27, 0 + 2, none⟩), (((D.getD kt md0).xs).getD i ix0).pv, jI (j : Int), elP ((((D.getD kt md0).xs).getD i ix0).pv) ((j : Int).toNat * 1), jI (((((D.getD kt md0).xs).getD i ix0).ps).getD j 0), jI ((ot.getD t crow0).xs.getD ((((D.getD kt md0).xs).getD i ix0).ps.getD j 0).toNat 0)] (by kernel_rfl) C ?_ ?_
 exact ⟨bF rfl (aY rfl) rfl, bF rfl (aY rfl) rfl, bF rfl (cR 1 rfl rfl rfl rfl (fun w hm => by have h9 := (hpot w (hm.holds _ (cF (i := 13) rfl))).row; rw [hlot] at h9; exact h9)) rfl, bF rfl (aQ (u := (ot.getD t crow0).v) rfl rfl rfl (fun w hm => by have h9 := (hpot w (hm.holds _ (cF (i := 13) rfl))).row; rw [hlot] at h9; exact h9) (gB crowC (fun r => r.v) (fun _ => rfl) ot crow0 (show t < _ by omega))) rfl, bF rfl (bM 2 rfl rfl rfl) rfl, bF rfl (aC rfl rfl rfl (aA 11 rfl rfl)) rfl, bF rfl (aY rfl) rfl, bF rfl (cR 1 rfl rfl rfl rfl (fun w hm => (((hdp w (hm.holds _ (cF (i := 20) rfl)))).at (k := kt) (by omega)).p.at (k := i) (by omega))) rfl, bF rfl (aQ (u := jI (((((D.getD kt md0).xs).getD i ix0).ps).getD j 0)) rfl rfl rfl (fun w hm => (((hdp w (hm.holds _ (cF (i := 20) rfl)))).at (k := kt) (by omega)).p.at (k := i) (by omega)) (cJ (show _ < ((((D.getD kt md0).xs).getD i ix0).ps).length by omega))) rfl, .inl ⟨rfl, aV rfl rfl (fun w hm => bJ (by have h9 := rY (ot.getD t crow0).xs ((((D.getD kt md0).xs).getD i ix0).ps.getD j 0) _ w ((fun w hm => (hpot w (hm.holds _ (cF (i := 13) rfl))).at (k := t) (by omega)) w hm); rw [show getI (ot.getD t crow0).xs ((((D.getD kt md0).xs).getD i ix0).ps.getD j 0) = (ot.getD t crow0).xs.getD ((((D.getD kt md0).xs).getD i ix0).ps.getD j 0).toNat 0 from if_pos ⟨by omega, by omega⟩] at h9; exact h9))⟩, trivial⟩
 simp only [List.drop_succ_cons, List.drop_zero]
 refine aP 1 C (aF ?_)
 have hkj := fU (show j < (ptsK (D.getD (((((D.getD kt md0).xs).getD i ix0).m).toNat) md0)).length by omega)
 refine cI 15 [[], [0], [], [2], [1, 3], [4], [5], [], [], [7, 8], [9], [6, 10], [11], [12], [13]] [139, 140, 141, 142, 143, 144, 145, 146, 147, 148, 149, 150, 151, 152, 153] [.pointer (some ⟨b5, 0 + 0, none⟩), dv, .pointer (some ⟨b27, 0 + 0, none⟩), jI ((((D.getD kt md0).xs).getD i ix0).m), elP dv (((((D.getD kt md0).xs).getD i ix0).m).toNat * 4), elP dv (((((D.getD kt md0).xs).getD i ix0).m).toNat * 4 + 0), (D.getD (((((D.getD kt md0).xs).getD i ix0).m).toNat) md0).sv, v39, jI (j : Int), elP v39 ((j : Int).toNat * 1), jI ((ptsK (D.getD (((((D.getD kt md0).xs).getD i ix0).m).toNat) md0)).getD j 0), elP ((D.getD (((((D.getD kt md0).xs).getD i ix0).m).toNat) md0).sv) (((ptsK (D.getD (((((D.getD kt md0).xs).getD i ix0).m).toNat) md0)).getD j 0).toNat * 3), elP ((D.getD (((((D.getD kt md0).xs).getD i ix0).m).toNat) md0).sv) (((ptsK (D.getD (((((D.getD kt md0).xs).getD i ix0).m).toNat) md0)).getD j 0).toNat * 3 + 0), jI ((((D.getD (((((D.getD kt md0).xs).getD i ix0).m).toNat) md0).ss).getD (((ptsK (D.getD (((((D.getD kt md0).xs).getD i ix0).m).toNat) md0)).getD j 0).toNat) sg0).k), .bool (((((D.getD (((((D.getD kt md0).xs).getD i ix0).m).toNat) md0).ss).getD (((ptsK (D.getD (((((D.getD kt md0).xs).getD i ix0).m).toNat) md0)).getD j 0).toNat) sg0).k) == 0)] (by kernel_rfl) C ?_ ?_
 exact ⟨bF C (bM 0 C C C) C, bF C (aC C C C (aA 19 C C)) C, bF C (bM 0 C C C) C, bF C (aC C C C (aA 11 C C)) C, bF C (cR 4 C C C C (fun w hm => ((hdp w (hm.holds _ (cF (i := 20) C)))).row)) C, bF C (aZ (k0 := 0) C C C (fun w hm => ((hdp w (hm.holds _ (cF (i := 20) C)))).row) (by omega)) C, bF C (aQ (u := (D.getD (((((D.getD kt md0).xs).getD i ix0).m).toNat) md0).sv) C C C (fun w hm => ((hdp w (hm.holds _ (cF (i := 20) C)))).row) ((bR mdC 4 (fun _ => C) D md0 (show ((((D.getD kt md0).xs).getD i ix0).m).toNat < _ by omega) (by decide)).trans C)) C, bF C (aY C) C, bF C (aY C) C, bF C (cR 1 C C C C (aJ 5 C)) C, bF C (aQ (u := jI ((ptsK (D.getD (((((D.getD kt md0).xs).getD i ix0).m).toNat) md0)).getD j 0)) C C C (aJ 5 C) (cJ (show _ < (ptsK (D.getD (((((D.getD kt md0).xs).getD i ix0).m).toNat) md0)).length by omega))) C, bF C (cR 3 C C C C (fun w hm => (((hdp w (hm.holds _ (cF (i := 20) C)))).at (k := ((((D.getD kt md0).xs).getD i ix0).m).toNat) (by omega)).s)) C, bF C (aZ (k0 := 0) C C C (fun w hm => (((hdp w (hm.holds _ (cF (i := 20) C)))).at (k := ((((D.getD kt md0).xs).getD i ix0).m).toNat) (by omega)).s) (by omega)) C, bF C (aQ (u := jI ((((D.getD (((((D.getD kt md0).xs).getD i ix0).m).toNat) md0).ss).getD (((ptsK (D.getD (((((D.getD kt md0).xs).getD i ix0).m).toNat) md0)).getD j 0).toNat) sg0).k)) C C C (fun w hm => (((hdp w (hm.holds _ (cF (i := 20) C)))).at (k := ((((D.getD kt md0).xs).getD i ix0).m).toNat) (by omega)).s) ((bR sgC 3 (fun _ => C) ((D.getD (((((D.getD kt md0).xs).getD i ix0).m).toNat) md0).ss) sg0 (show ((ptsK (D.getD (((((D.getD kt md0).xs).getD i ix0).m).toNat) md0)).getD j 0).toNat < _ by omega) (by decide)).trans C)) C, bF C (dR C C C C) C, trivial⟩
 simp only [List.drop_succ_cons, List.drop_zero]
 refine bQ ?_
 refine eW C (fun h50 => ?_) (fun h50 => ?_)
 have h50p : (((D.getD (((((D.getD kt md0).xs).getD i ix0).m).toNat) md0).ss).getD (((ptsK (D.getD (((((D.getD kt md0).xs).getD i ix0).m).toNat) md0)).getD j 0).toNat) sg0).k = 0 := beq_iff_eq.1 h50
 refine cG 2 C ?_
 refine eA C (bB (z := jI 0) (s := 1) (cs := (mI [(ot.getD t crow0).xs.getD ((((D.getD kt md0).xs).getD i ix0).ps.getD j 0).toNat 0])) C Try.underlying48 C (by decide) C (by kernel_rfl) C) ?_
 intro g51
 refine cW (i := 2) (z := jI 0) (bytes := 8) C C C C Try.underlying48 (by kernel_rfl) C C C C (aJ 0 C) (cQ _) (by first | omega | (simp; done) | (simp; omega)) (cM Z.1 ([(ot.getD t crow0).xs.getD ((((D.getD kt md0).xs).getD i ix0).ps.getD j 0).toNat 0])) (dP Z.1 ([(ot.getD t crow0).xs.getD ((((D.getD kt md0).xs).getD i ix0).ps.getD j 0).toNat 0])) (fun _ => C) ?_
 intro v52
 refine dA 1 C (cK (cG 1 C (aI C (dO C C C) (dA 1 C ?_))))
 exact cO (j + 1) (Z.1 ++ ([(ot.getD t crow0).xs.getD ((((D.getD kt md0).xs).getD i ix0).ps.getD j 0).toNat 0]), Z.2) (v52, U.2) ⟨by omega, zR hz1 (by omega), zA hz2 (by omega)⟩ (by omega) (cN C) (eO [1, 0, 0, 0, 0, 0, 0, 0, 0, 0, 0, 0, 0, 0, 0, 0, 0, 0, 0, 0, 0] C)
 have h50p : (((D.getD (((((D.getD kt md0).xs).getD i ix0).m).toNat) md0).ss).getD (((ptsK (D.getD (((((D.getD kt md0).xs).getD i ix0).m).toNat) md0)).getD j 0).toNat) sg0).k ≠ 0 := beq_eq_false_iff_ne.1 h50
 refine cG 2 C ?_
 refine eA C (bB (z := jI 0) (s := 1) (cs := (mI [(ot.getD t crow0).xs.getD ((((D.getD kt md0).xs).getD i ix0).ps.getD j 0).toNat 0])) C Try.underlying48 C (by decide) C (by kernel_rfl) C) ?_
 intro g53
 refine cW (i := 1) (z := jI 0) (bytes := 8) C C C C Try.underlying48 (by kernel_rfl) C C C C (aJ 0 C) (cQ _) (by first | omega | (simp; done) | (simp; omega)) (cM Z.2 ([(ot.getD t crow0).xs.getD ((((D.getD kt md0).xs).getD i ix0).ps.getD j 0).toNat 0])) (dP Z.2 ([(ot.getD t crow0).xs.getD ((((D.getD kt md0).xs).getD i ix0).ps.getD j 0).toNat 0])) (fun _ => C) ?_
 intro v54
 refine dA 1 C (cK (cG 1 C (aI C (dO C C C) (dA 1 C ?_))))
 exact cO (j + 1) (Z.1, Z.2 ++ ([(ot.getD t crow0).xs.getD ((((D.getD kt md0).xs).getD i ix0).ps.getD j 0).toNat 0])) (U.1, v54) ⟨by omega, zS hz1 (by omega), yZ hz2 (by omega)⟩ (by omega) (cN C) (eO [1, 0, 0, 0, 0, 0, 0, 0, 0, 0, 0, 0, 0, 0, 0, 0, 0, 0, 0, 0, 0] C)
 refine bQ (aS C ?_)
 refine bI (dC ?_)
 refine aM (aR (aF (cG 2 C ?_)))
 refine eA C (fI C Try.underlying44 (by kernel_rfl) C (fun w hm => (aJ 1 C w hm).one)) ?_
 intro g55
 refine cS (i := 2) C (fun ho56 => ?_)
 refine cW (i := 5) (z := .slice none 0 0) (bytes := 24) C C C C Try.underlying44 (by kernel_rfl) C C C C (aJ 0 C) (aB ho56 bC) (by first | omega | (simp only [List.length_append, List.length_cons, List.length_nil]; omega)) (cM J.1 [(CRow.mk U.1 Z.1)]) (dM crowC J.1 (CRow.mk U.1 Z.1) _ C) (fun _ => C) ?_
 intro v57
 refine aP 1 C (cG 2 C ?_)
 refine eA C (fI C Try.underlying44 (by kernel_rfl) C (fun w hm => (aJ 1 C w hm).one)) ?_
 intro g58
 refine cS (i := 2) C (fun ho59 => ?_)
 refine cW (i := 5) (z := .slice none 0 0) (bytes := 24) C C C C Try.underlying44 (by kernel_rfl) C C C C (aJ 0 C) (aB ho59 bC) (by first | omega | (simp only [List.length_append, List.length_cons, List.length_nil]; omega)) (cM J.2 [(CRow.mk U.2 Z.2)]) (dM crowC J.2 (CRow.mk U.2 Z.2) _ C) (fun _ => C) ?_
 intro v60
 refine dA 1 C (cK (cG 1 C (aI C (dO C C C) (dA 1 C ?_))))
 have hjn : j = (ptsK (D.getD (((((D.getD kt md0).xs).getD i ix0).m).toNat) md0)).length := by omega
 rw [hjn] at hz1 hz2
 have htv := uT heot (show t < ot.length by omega)
 rw [htv] at hz1 hz2
 refine cD 23 [22, 21, 20, 19, 18, 17, 16, 15, 14, 13, 12, 11, 10, 9, 8, 7, 6, 5, 2, 3, 4] C C (by decide) ?_
 refine dE 3 C ?_
 exact eR (t + 1) (J.1 ++ [(CRow.mk U.1 Z.1)], J.2 ++ [(CRow.mk U.2 Z.2)]) (v57, v60) [bigE ps, rI9 3 U.1 Z.1, rI9 3 U.2 Z.2] ⟨by omega, xL hj1 hz1, xI hj2 hz2, fun w hw => ⟨RdsCl.snoc (v := dv) (v' := dv) (hp w (bO hw dX)).1 (cZ (bO hw (eI dX))), RdsCl.snoc (v := dv) (v' := dv) (hp w (bO hw dX)).2 (cZ (bO hw (eI (eI dX))))⟩⟩ (by omega) (cN C) (eT C)
 refine bQ (aS C ?_)
 refine bI (dC ?_)
 refine aM (aR (cA ?_))
 obtain ⟨G3, q5, q6⟩ := hym3 (by assumption)
 rw [hq9] at q5
 have htn : t = rs.length := by omega
 rw [htn] at hj1 hj2
 obtain ⟨hI3, hrun3⟩ := zM q1 q4 hfm2 hkt (show i < (D.getD kt md0).xs.length by omega) hkc hel heq q5 q6 hfm3 (rs.map CRow.xs) (show rs.length ≤ 16 by omega)
 rw [← hj1] at hI3 hrun3
 refine aI C (aW (cs := [m3.sv, m3.av, m3.iv, m3.mv]) C C C C C (aT 4 C 0 C)) (aH 1 C ?_)
 refine fC C C C (aV C C (fun w hm => oB m3 J.1 W.1 w (hpm3 w (hm.holds _ (cF (i := 5) C))) hfm3 ⟨aJ 2 C w hm, ((hp w (hm.holds _ (cF (i := 0) C)))).1⟩ hI3)) ?_
 intro v61 p62 R63
 obtain ⟨o3, rp3, rfl, hpo3, h1o3, heo3⟩ := R63
 have hlo3 : o3.length = J.1.length := by have h9 := congrArg List.length heo3; simpa [trK] using h9
 refine aH 1 C (dW C (aV C C (fun w hm => bJ (by have h9 := lN _ _ _ _ w (hpo3 w (hm.holds _ (cF (i := 0) rfl))) ⟨aJ 2 rfl w hm, ((hp w (hm.holds _ (cF (i := 1) rfl)))).2⟩; rw [decide_eq_true (heo3.trans (hrun3.trans hj2.symm))] at h9; exact h9))) ?_)
 refine aP 1 C (gM C (cK (cG 1 C (aI C (dO C C C) (dA 1 C ?_)))))
 exact cB (i + 1) (by omega) (by omega) (cN C) (eO [11, 0, 0, 0, 0, 0, 0, 0, 0] C)
 refine aP 1 C (aK C ?_)
 refine bI (gT ?_)
 refine aM (aR (cG 1 C (aI C (dO C C C) (dA 1 C ?_))))
 exact cB (i + 1) (by omega) (by omega) (cN C) (eO [6, 0, 0, 0, 0, 0, 0, 0, 0] C)
 refine bQ (aS C ?_)
 refine bI (dC ?_)
 refine aM (aR (aF ?_))
 refine hS C 7 [0, 1, 2, 3, 4, 5, 6] (List.take 7 _) (List.drop 7 _) [[], [], [0, 1], [], [], [3, 4], [2, 5]] [176, 177, 178, 179, 180, 181, 182] (fun i_ vs_ v_ p_ => match i_ with | 0 => v_ = .agg #[m2.sv, m2.av, m2.iv, m2.mv] ∧ p_ = [] | 1 => v_ = v17 ∧ p_ = [] | 2 => (fun u_ p_ => ∃ (os9 : List CRow) (ps9 : List HP), p_ = [bigE ps9] ∧ (∀ w, (bigE ps9).holds w → RdsCl w u_ os9) ∧ u_.oneCell' = true ∧ os9.map CRow.xs = (trK m2 (rs.map CRow.xs)).map (ouK m2)) v_ p_ | 3 => v_ = .agg #[m1.sv, m1.av, m1.iv, m1.mv] ∧ p_ = [] | 4 => v_ = v17 ∧ p_ = [] | 5 => (fun u_ p_ => ∃ (os9 : List CRow) (ps9 : List HP), p_ = [bigE ps9] ∧ (∀ w, (bigE ps9).holds w → RdsCl w u_ os9) ∧ u_.oneCell' = true ∧ os9.map CRow.xs = (trK m1 (rs.map CRow.xs)).map (ouK m1)) v_ p_ | 6 => v_ = .bool true ∧ p_ = [] | _ => True) (List.take_append_drop 7 _).symm (by kernel_rfl) (by kernel_rfl) C C ?_ ?_
 refine ⟨?_, ?_, ?_, ?_, ?_, ?_, ?_, trivial⟩
 intro vf pf hR
 exact gR C (aU [7] C) (bH (aW (cs := [m2.sv, m2.av, m2.iv, m2.mv]) C C C C C (aT 3 C 0 C)))
 intro vf pf hR
 exact jJ C (aU [9] C) (bH (aY C))
 intro vf pf hR
 have e0 := hR 0 (by decide)
 have e1 := hR 1 (by decide)
 exact gR C (sk 176 (congrArg some e0.1) (sk 177 (congrArg some e1.1) (aL _))) (aV C C (fun w hm => oB m2 rs v17 w (hpm2 w (hm.holds _ (cF (i := 4) C))) hfm2 (hnp w (hm.holds _ (cF (i := 2) C))) hI2))
 intro vf pf hR
 exact gR C (aU [5] C) (bH (aW (cs := [m1.sv, m1.av, m1.iv, m1.mv]) C C C C C (aT 5 C 0 C)))
 intro vf pf hR
 exact jJ C (aU [9] C) (bH (aY C))
 intro vf pf hR
 have e3 := hR 3 (by decide)
 have e4 := hR 4 (by decide)
 exact gR C (sk 179 (congrArg some e3.1) (sk 180 (congrArg some e4.1) (aL _))) (aV C C (fun w hm => oC m1 rs v17 w (hpm1 w (hm.holds _ (cF (i := 6) C))) hfm1 (hnp w (hm.holds _ (cF (i := 2) C))) hI))
 intro vf pf hR
 have e2 : (fun u_ p_ => ∃ (os9 : List CRow) (ps9 : List HP), p_ = [bigE ps9] ∧ (∀ w, (bigE ps9).holds w → RdsCl w u_ os9) ∧ u_.oneCell' = true ∧ os9.map CRow.xs = (trK m2 (rs.map CRow.xs)).map (ouK m2)) (vf 2) (pf 2) := hR 2 (by decide)
 obtain ⟨v64, vE2⟩ : ∃ x, vf 2 = x := ⟨_, rfl⟩
 obtain ⟨p65, pE2⟩ : ∃ x, pf 2 = x := ⟨_, rfl⟩
 have R66 := e2
 rw [vE2, pE2] at R66
 obtain ⟨o2, rp2, rfl, hpo2, h1o2, heo2⟩ := R66
 have hlo2 : o2.length = rs.length := by have h9 := congrArg List.length heo2; simpa [trK] using h9
 have e5 : (fun u_ p_ => ∃ (os9 : List CRow) (ps9 : List HP), p_ = [bigE ps9] ∧ (∀ w, (bigE ps9).holds w → RdsCl w u_ os9) ∧ u_.oneCell' = true ∧ os9.map CRow.xs = (trK m1 (rs.map CRow.xs)).map (ouK m1)) (vf 5) (pf 5) := hR 5 (by decide)
 obtain ⟨v67, vE5⟩ : ∃ x, vf 5 = x := ⟨_, rfl⟩
 obtain ⟨p68, pE5⟩ : ∃ x, pf 5 = x := ⟨_, rfl⟩
 have R69 := e5
 rw [vE5, pE5] at R69
 obtain ⟨o1, rp1, rfl, hpo1, h1o1, heo1⟩ := R69
 have hlo1 : o1.length = rs.length := by have h9 := congrArg List.length heo1; simpa [trK] using h9
 refine Or.inl ⟨C, ?_⟩
 exact dJ (sk 178 (congrArg some vE2) (sk 181 (congrArg some vE5) (aL _))) (by simp only [pE2, vE2, pE5, vE5, fS] <;> rfl) (aV C C (fun w hm => bJ (by have h9 := lN _ _ _ _ w (hpo2 w (hm.holds _ (cF (i := 0) rfl))) (hpo1 w (hm.holds _ (cF (i := 1) rfl))); rw [decide_eq_true (heo2.trans (hrun2.trans heo1.symm))] at h9; exact h9)))
 intro vf pf hR
 have e2 : (fun u_ p_ => ∃ (os9 : List CRow) (ps9 : List HP), p_ = [bigE ps9] ∧ (∀ w, (bigE ps9).holds w → RdsCl w u_ os9) ∧ u_.oneCell' = true ∧ os9.map CRow.xs = (trK m2 (rs.map CRow.xs)).map (ouK m2)) (vf 2) (pf 2) := hR 2 (by decide)
 obtain ⟨v64, vE2⟩ : ∃ x, vf 2 = x := ⟨_, rfl⟩
 obtain ⟨p65, pE2⟩ : ∃ x, pf 2 = x := ⟨_, rfl⟩
 have R66 := e2
 rw [vE2, pE2] at R66
 obtain ⟨o2, rp2, rfl, hpo2, h1o2, heo2⟩ := R66
 have hlo2 : o2.length = rs.length := by have h9 := congrArg List.length heo2; simpa [trK] using h9
 have e5 : (fun u_ p_ => ∃ (os9 : List CRow) (ps9 : List HP), p_ = [bigE ps9] ∧ (∀ w, (bigE ps9).holds w → RdsCl w u_ os9) ∧ u_.oneCell' = true ∧ os9.map CRow.xs = (trK m1 (rs.map CRow.xs)).map (ouK m1)) (vf 5) (pf 5) := hR 5 (by decide)
 obtain ⟨v67, vE5⟩ : ∃ x, vf 5 = x := ⟨_, rfl⟩
 obtain ⟨p68, pE5⟩ : ∃ x, pf 5 = x := ⟨_, rfl⟩
 have R69 := e5
 rw [vE5, pE5] at R69
 obtain ⟨o1, rp1, rfl, hpo1, h1o1, heo1⟩ := R69
 have hlo1 : o1.length = rs.length := by have h9 := congrArg List.length heo1; simpa [trK] using h9
 have e6 := hR 6 (by decide)
 have q0 := hR 0 (by decide)
 have q1 := hR 1 (by decide)
 have q3 := hR 3 (by decide)
 have q4 := hR 4 (by decide)
 have q6 := hR 6 (by decide)
 refine dV (dB [78, 65, 50, 48, 28, 12, 11, 10, 9, 8, 7, 6, 5, 4, 3, 2, 0] _ (sk 182 (congrArg some e6.1) (aL _)) C) (by simp only [pE2, vE2, pE5, vE5, q0.2, q1.2, q3.2, q4.2, q6.2, fS] <;> rfl) ?_
 simp only [List.drop_succ_cons, List.drop_zero]
 refine aP 1 C ?_
 exact aN (aX C C C)
 refine aI C (oI (m := true) (n := false) C Try.underlying4 C C) (bQ (aK C (bA 1 C ?_)))
 refine aN (aG ?_)
 exfalso; first | omega | exact absurd ((show om2 = true by assumption).symm.trans (hsame.trans (show om1 = false by assumption))) (by decide) | exact absurd ((show om2 = false by assumption).symm.trans (hsame.trans (show om1 = true by assumption))) (by decide)
 refine aH 1 C (bT (fun h70 => ?_) (fun h70 => ?_))
 refine aI C (oI (m := false) (n := true) C Try.underlying4 C C) (bQ (aK C (bA 1 C ?_)))
 refine aN (aG ?_)
 exfalso; first | omega | exact absurd ((show om2 = true by assumption).symm.trans (hsame.trans (show om1 = false by assumption))) (by decide) | exact absurd ((show om2 = false by assumption).symm.trans (hsame.trans (show om1 = true by assumption))) (by decide)
 refine aI C (oI (m := false) (n := false) C Try.underlying4 C C) (bQ (aS C (cE (aF (aF (cG 1 C ?_))))))
 refine bT (fun h71 => absurd ((h70).symm.trans h71) (by decide)) (fun h71 => ?_)
 refine aP 1 C (aK C (cA ?_))
 obtain ⟨e9, -⟩ := hnm2 (hsame.trans (by assumption))
 have hms : m2.ss.length = 0 := by rw [e9]; rfl
 refine aI C (bM 0 C C C) (aI C (aC C C C (aA 0 C C)) ?_)
 refine aI C (dL C C C (fun w hm => ((hpm2 w (hm.holds _ (cF (i := 1) C)))).s)) (bU C C C C C C (fun h72 => ?_) (fun h72 => ?_))
 refine aP 1 C ?_
 refine aN (aG ?_)
 exact aX C C C
 refine aP 1 C ?_
 refine aN (aG ?_)
 exfalso; first | omega | exact absurd ((show om2 = true by assumption).symm.trans (hsame.trans (show om1 = false by assumption))) (by decide) | exact absurd ((show om2 = false by assumption).symm.trans (hsame.trans (show om1 = true by assumption))) (by decide)
end Go.Proofs.Ytodiifjigjnalaa
